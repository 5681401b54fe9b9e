/- A part of the proof (7). -/
import Derived.Test.YtoefabmlkbhmpaaDoorYKCVKC2
import Derived.Test.YtoefabmlkbhmpaaDoorYKCVKC3
import Derived.Test.YtoefabmlkbhmpaaDoorYKCVKC4
import Derived.Test.YtoefabmlkbhmpaaDoorYKCVKC6
namespace Go.Proofs.YtoefabmlkbhmpaaDoor.PA
open Go.RowKit Go.Proofs.YtoefabmlkbhmpaaDoorW.PrintWords Go.Proofs.YtoefabmlkbhmpaaDoorW.PrintLast Go.Proofs.YtoefabmlkbhmpaaDoorW.PrintMore
attribute [local go_sem] max2_int min2_int max_two min_two max_three min_three max_four min_four
set_option linter.unusedVariables false
set_option linter.unusedSimpArgs false
def quot_DivMod.f (k : Nat) (l0 : List Int) (l1 : List Int) : Option (List Int × List Int × Int) := (nat_Norm.f l0).bind fun t177 => ((nat_Norm.f l1).bind fun t180 => (if (t180.length : Int) = 0 then (some (([] : List Int), ([] : List Int), 30)) else ((nat_Cmp.f k t177 t180).bind fun t183 => (if t183 < 0 then (some (([] : List Int), t177, 0)) else (if (t180.length : Int) = 1 then (if 0 < (t180.length : Int) then ((quot_Small.f k t177 (rd t180 0)).bind fun bt185 => ((nat_From.f bt185.2.1).bind fun t190 => (some (bt185.1, t190, 0)))) else (none)) else ((quot_long.f k t177 t180).bind fun bt193 => (some (bt193.1, bt193.2, 0))))))))
theorem quot_DivMod.mono : ∀ a0 a1 k, LeO (quot_DivMod.f k a0 a1) (quot_DivMod.f (k + 1) a0 a1) := by
 intro a0 a1 k
 unfold quot_DivMod.f
 have m0_ := nat_Cmp.mono
 have m1_ := quot_Small.mono
 have m2_ := quot_long.mono
 exact mX
set_option maxHeartbeats 8000000 in
set_option maxRecDepth 100000 in
theorem quot_DivMod.calls (k : Nat) (A0 : Option Addr) (c0 : Nat) (l0 : List Int) (A1 : Option Addr) (c1 : Nat) (l1 : List Int) (r1 : List Int) (r2 : List Int) (r3 : Int) (w : World) (hr0 : Kd.C (Kd.int .u64) w A0 l0.length l0) (hc0 : l0.length ≤ c0) (hr1 : Kd.C (Kd.int .u64) w A1 l1.length l1) (hc1 : l1.length ≤ c1) (h : quot_DivMod.f k l0 l1 = some (r1, r2, r3)) :
  Calls Tryd.prog 53 #[.slice A0 l0.length c0, .slice A1 l1.length c1] w fun e w' => ∃ v0_ v1_ : Value, e = .returned (.tuple #[v0_, v1_, .int .i64 r3]) ∧ Kd.R (Kd.int .u64) 26 w' w.heap.size (fun k_ => some k_ ≠ (v1_ : Value).ownBlock) v0_ r1 ∧ Kd.R (Kd.int .u64) 26 w' w.heap.size (fun k_ => some k_ ≠ (v0_ : Value).ownBlock) v1_ r2 ∧ Below w.heap.size w w' := by
 have HR0 := aM hr0
 have HC0 := aM hc0
 clear hr0 hc0
 have HR1 := aM hr1
 have HC1 := aM hc1
 clear hr1 hc1
 have HB := aM (Below.refl w.heap.size w)
 have H := h
 clear h
 unfold quot_DivMod.f at H
 replace H := obe H
 obtain ⟨t177, A30, H⟩ := H
 (try dsimp only at H)
 have A3 := aM A30
 clear A30
 replace H := obe H
 obtain ⟨t180, A40, H⟩ := H
 (try dsimp only at H)
 have A4 := aM A40
 clear A40
 by_cases c5 : (t180.length : Int) = 0
 ·rw [if_pos c5] at H
  have c5b0 : ((t180.length : Int) == 0) = true := beq_iff_eq.mpr c5
  have c5b1 : ((t180.length : Int) != 0) = false := bne_eq_false_iff_eq.mpr c5
  clear c5
  simp only [Option.some.injEq, Prod.mk.injEq] at H
  obtain ⟨rfl, rfl, rfl⟩ := H
  go_enter Tryd.func53, Tryd.ntmps53
  go_wp2_with (first | ((with_reducible refine gate_callee (f := 51) rfl ?_); refine gL (some 13) Tryd.func51 #[.slice A0 l0.length c0] ?_; (with_reducible refine (nat_Norm.calls _ _ l0 t177 _ ?side1 HC0.out A3.out).mono ?_); (case side1 => exact dC HR0.out); rintro e w6 ⟨v178, rfl, ho0, hb⟩; refine ⟨_, rfl, ?_⟩; have HO179 := aM (Kd.R_lower ho0 (below_size dB)); replace HB := hS HB.out hb; (try clear hb); (try clear ho0)) | ((with_reducible refine gate_callee (f := 51) rfl ?_); refine gL (some 15) Tryd.func51 #[.slice A1 l1.length c1] ?_; (with_reducible refine (nat_Norm.calls _ _ l1 t180 _ ?side1 HC1.out A4.out).mono ?_); (case side1 => exact dC (Kd.C_below HR1.out HB.out)); rintro e w7 ⟨v181, rfl, ho0, hb⟩; refine ⟨_, rfl, ?_⟩; have HO182 := aM (Kd.R_lower (Kd.R_new' ho0 (Kd.R_lt (dR HO179.out))) (below_size dB)); replace HO179 := oE HO179.out ho0 hb; replace HB := hS HB.out hb; (try clear hb); (try clear ho0); obtain ⟨Ao8, co8, rfl⟩ := Kd.R_slice HO182.out))
  go_ret3
  exact ⟨_, _, dE, by first | exact Kd.R_nil _ _ _ _ _ | exact Kd.N_nil _ _ _ _ _ | exact Kd.V_nil _ _ _ _ _ | exact Kd.Q_nil _ _ _ _ _ | exact Kd.S_nil _ _ _ _ _, by first | exact Kd.R_nil _ _ _ _ _ | exact Kd.N_nil _ _ _ _ _ | exact Kd.V_nil _ _ _ _ _ | exact Kd.Q_nil _ _ _ _ _ | exact Kd.S_nil _ _ _ _ _, dB⟩
 ·rw [if_neg c5] at H
  have c5b0 : ((t180.length : Int) == 0) = false := beq_eq_false_iff_ne.mpr c5
  have c5b1 : ((t180.length : Int) != 0) = true := bne_iff_ne.mpr c5
  have c5b2 : ¬ (t180 = []) := fun h_ => c5 (by rw [h_]; rfl)
  replace H := obe H
  obtain ⟨t183, A90, H⟩ := H
  (try dsimp only at H)
  have A9 := aM A90
  clear A90
  by_cases c10 : t183 < 0
  ·rw [if_pos c10] at H
   have c10b0 : decide (t183 < 0) = true := decide_eq_true c10
   clear c10
   simp only [Option.some.injEq, Prod.mk.injEq] at H
   obtain ⟨rfl, rfl, rfl⟩ := H
   go_enter Tryd.func53, Tryd.ntmps53
   go_wp2_with (first | ((with_reducible refine gate_callee (f := 51) rfl ?_); refine gL (some 13) Tryd.func51 #[.slice A0 l0.length c0] ?_; (with_reducible refine (nat_Norm.calls _ _ l0 t177 _ ?side1 HC0.out A3.out).mono ?_); (case side1 => exact dC HR0.out); rintro e w11 ⟨v178, rfl, ho0, hb⟩; refine ⟨_, rfl, ?_⟩; have HO179 := aM (Kd.R_lower ho0 (below_size dB)); replace HB := hS HB.out hb; (try clear hb); (try clear ho0)) | ((with_reducible refine gate_callee (f := 51) rfl ?_); refine gL (some 15) Tryd.func51 #[.slice A1 l1.length c1] ?_; (with_reducible refine (nat_Norm.calls _ _ l1 t180 _ ?side1 HC1.out A4.out).mono ?_); (case side1 => exact dC (Kd.C_below HR1.out HB.out)); rintro e w12 ⟨v181, rfl, ho0, hb⟩; refine ⟨_, rfl, ?_⟩; have HO182 := aM (Kd.R_lower (Kd.R_new' ho0 (Kd.R_lt (dR HO179.out))) (below_size dB)); replace HO179 := oE HO179.out ho0 hb; replace HB := hS HB.out hb; (try clear hb); (try clear ho0); obtain ⟨Ao13, co13, rfl⟩ := Kd.R_slice HO182.out; obtain ⟨Ao14, co14, rfl⟩ := Kd.R_slice HO179.out) | ((with_reducible refine gate_callee (f := 58) rfl ?_); refine gL (some 23) Tryd.func58 #[.slice Ao14 t177.length co14, .slice Ao13 t180.length co13] ?_; (with_reducible refine (nat_Cmp.calls k _ _ t177 _ _ t180 t183 _ ?side1 (Kd.R_reads' HO179.out).2.1 ?side3 (Kd.R_reads' HO182.out).2.1 A9.out).mono ?_); (case side1 => exact dC (Kd.R_reads' HO179.out).2.2); (case side3 => exact dC (Kd.R_reads' HO182.out).2.2); rintro e w' ⟨rfl, ⟨nd, rfl⟩⟩; refine ⟨_, rfl, ?_⟩))
   go_ret3
   exact ⟨_, _, dE, by first | exact Kd.R_nil _ _ _ _ _ | exact Kd.N_nil _ _ _ _ _ | exact Kd.V_nil _ _ _ _ _ | exact Kd.Q_nil _ _ _ _ _ | exact Kd.S_nil _ _ _ _ _, by (with_reducible repeat (first | apply Kd.R_alloc | apply Kd.R_drewN | apply Kd.R_drew)); exact Kd.R_mono HO179.out (fun _ hk => (by simp [Value.ownBlock])), dB⟩
  ·rw [if_neg c10] at H
   have c10b0 : decide (t183 < 0) = false := decide_eq_false c10
   clear c10
   by_cases c15 : (t180.length : Int) = 1
   ·rw [if_pos c15] at H
    have c15b0 : ((t180.length : Int) == 1) = true := beq_iff_eq.mpr c15
    have c15b1 : ((t180.length : Int) != 1) = false := bne_eq_false_iff_eq.mpr c15
    clear c15
    by_cases c16 : (0 : Int) < (t180.length : Int)
    ·rw [if_pos c16] at H
     have c16b0 : decide (0 < (t180.length : Int)) = true := decide_eq_true c16
     have c16b1 : decide (0 < t180.length) = true := decide_eq_true (by omega)
     clear c16
     replace H := obe H
     obtain ⟨⟨t185, t186, t187⟩, A170, H⟩ := H
     (try dsimp only at H)
     have A17 := aM A170
     clear A170
     replace H := obe H
     obtain ⟨t190, A180, H⟩ := H
     (try dsimp only at H)
     have A18 := aM A180
     clear A180
     simp only [Option.some.injEq, Prod.mk.injEq] at H
     obtain ⟨rfl, rfl, rfl⟩ := H
     go_enter Tryd.func53, Tryd.ntmps53
     go_wp2_with (first | ((with_reducible refine gate_callee (f := 51) rfl ?_); refine gL (some 13) Tryd.func51 #[.slice A0 l0.length c0] ?_; (with_reducible refine (nat_Norm.calls _ _ l0 t177 _ ?side1 HC0.out A3.out).mono ?_); (case side1 => exact dC HR0.out); rintro e w19 ⟨v178, rfl, ho0, hb⟩; refine ⟨_, rfl, ?_⟩; have HO179 := aM (Kd.R_lower ho0 (below_size dB)); replace HB := hS HB.out hb; (try clear hb); (try clear ho0)) | ((with_reducible refine gate_callee (f := 51) rfl ?_); refine gL (some 15) Tryd.func51 #[.slice A1 l1.length c1] ?_; (with_reducible refine (nat_Norm.calls _ _ l1 t180 _ ?side1 HC1.out A4.out).mono ?_); (case side1 => exact dC (Kd.C_below HR1.out HB.out)); rintro e w20 ⟨v181, rfl, ho0, hb⟩; refine ⟨_, rfl, ?_⟩; have HO182 := aM (Kd.R_lower (Kd.R_new' ho0 (Kd.R_lt (dR HO179.out))) (below_size dB)); replace HO179 := oE HO179.out ho0 hb; replace HB := hS HB.out hb; (try clear hb); (try clear ho0); obtain ⟨Ao21, co21, rfl⟩ := Kd.R_slice HO182.out; obtain ⟨Ao22, co22, rfl⟩ := Kd.R_slice HO179.out) | ((with_reducible refine gate_callee (f := 58) rfl ?_); refine gL (some 23) Tryd.func58 #[.slice Ao22 t177.length co22, .slice Ao21 t180.length co21] ?_; (with_reducible refine (nat_Cmp.calls k _ _ t177 _ _ t180 t183 _ ?side1 (Kd.R_reads' HO179.out).2.1 ?side3 (Kd.R_reads' HO182.out).2.1 A9.out).mono ?_); (case side1 => exact dC (Kd.R_reads' HO179.out).2.2); (case side3 => exact dC (Kd.R_reads' HO182.out).2.2); rintro e w' ⟨rfl, ⟨nd, rfl⟩⟩; refine ⟨_, rfl, ?_⟩; have p184 : 0 ≤ (0 : Int) := (by omega); have q184 : 0 < (t180.length : Int) := of_decide_eq_true dS; obtain ⟨ad184, e184, hx184_0⟩ := Kd.at_int (Kd.R_reads' HO182.out).2.2 0 p184 q184; cases e184; have qi184 : (0 < t180.length) = True := eq_true (by omega); (try rw [show ((0 : Int)).toNat = 0 from rfl] at hx184_0); (try rw [Addr.add_zero'] at hx184_0); replace p184 := eq_true p184; replace q184 := eq_true q184) | ((with_reducible refine gate_callee (f := 91) rfl ?_); refine gL (some 35) Tryd.func91 #[.slice Ao22 t177.length co22, .int .u64 (rd t180 0)] ?_; (with_reducible refine (quot_Small.calls k _ _ t177 (rd t180 0) t185 t186 t187 _ ?side1 (Kd.R_reads' HO179.out).2.1 A17.out).mono ?_); (case side1 => exact dC (Kd.R_reads' HO179.out).2.2); rintro e w23 ⟨v188, rfl, ho0, hb⟩; refine ⟨_, rfl, ?_⟩; have HO189 := aM (Kd.R_lower (Kd.R_new' (Kd.R_new' ho0 (Kd.R_lt (dR HO179.out))) (Kd.R_lt (dR HO182.out))) (below_size dB)); replace HO179 := oE HO179.out ho0 hb; replace HO182 := oE HO182.out ho0 hb; replace HB := hS HB.out hb; (try clear hb); (try clear ho0)) | ((with_reducible refine gate_callee (f := 66) rfl ?_); refine gL (some 41) Tryd.func66 #[.int .u64 t186] ?_; (with_reducible refine (nat_From.calls t186 t190 _ A18.out).mono ?_); rintro e w24 ⟨v191, rfl, ho0, hb⟩; refine ⟨_, rfl, ?_⟩; have HO192 := aM (Kd.R_lower (Kd.R_new' (Kd.R_new' (Kd.R_new' ho0 (Kd.R_lt (dR HO179.out))) (Kd.R_lt (dR HO182.out))) (Kd.R_lt (dR HO189.out))) (below_size dB)); replace HO179 := oE HO179.out ho0 hb; replace HO182 := oE HO182.out ho0 hb; replace HO189 := oE HO189.out ho0 hb; replace HB := hS HB.out hb; (try clear hb); (try clear ho0)))
     go_ret3
     exact ⟨_, _, dE, by (with_reducible repeat (first | apply Kd.R_alloc | apply Kd.R_drewN | apply Kd.R_drew)); exact Kd.R_mono HO189.out (fun _ hk => hk.2), by (with_reducible repeat (first | apply Kd.R_alloc | apply Kd.R_drewN | apply Kd.R_drew)); exact Kd.R_mono HO192.out (fun _ hk => hk.2), dB⟩
    ·rw [if_neg c16] at H
     exact absurd H (by simp)
   ·rw [if_neg c15] at H
    have c15b0 : ((t180.length : Int) == 1) = false := beq_eq_false_iff_ne.mpr c15
    have c15b1 : ((t180.length : Int) != 1) = true := bne_iff_ne.mpr c15
    replace H := obe H
    obtain ⟨⟨t193, t194⟩, A250, H⟩ := H
    (try dsimp only at H)
    have A25 := aM A250
    clear A250
    simp only [Option.some.injEq, Prod.mk.injEq] at H
    obtain ⟨rfl, rfl, rfl⟩ := H
    go_enter Tryd.func53, Tryd.ntmps53
    go_wp2_with (first | ((with_reducible refine gate_callee (f := 51) rfl ?_); refine gL (some 13) Tryd.func51 #[.slice A0 l0.length c0] ?_; (with_reducible refine (nat_Norm.calls _ _ l0 t177 _ ?side1 HC0.out A3.out).mono ?_); (case side1 => exact dC HR0.out); rintro e w26 ⟨v178, rfl, ho0, hb⟩; refine ⟨_, rfl, ?_⟩; have HO179 := aM (Kd.R_lower ho0 (below_size dB)); replace HB := hS HB.out hb; (try clear hb); (try clear ho0)) | ((with_reducible refine gate_callee (f := 51) rfl ?_); refine gL (some 15) Tryd.func51 #[.slice A1 l1.length c1] ?_; (with_reducible refine (nat_Norm.calls _ _ l1 t180 _ ?side1 HC1.out A4.out).mono ?_); (case side1 => exact dC (Kd.C_below HR1.out HB.out)); rintro e w27 ⟨v181, rfl, ho0, hb⟩; refine ⟨_, rfl, ?_⟩; have HO182 := aM (Kd.R_lower (Kd.R_new' ho0 (Kd.R_lt (dR HO179.out))) (below_size dB)); replace HO179 := oE HO179.out ho0 hb; replace HB := hS HB.out hb; (try clear hb); (try clear ho0); obtain ⟨Ao28, co28, rfl⟩ := Kd.R_slice HO182.out; obtain ⟨Ao29, co29, rfl⟩ := Kd.R_slice HO179.out) | ((with_reducible refine gate_callee (f := 58) rfl ?_); refine gL (some 23) Tryd.func58 #[.slice Ao29 t177.length co29, .slice Ao28 t180.length co28] ?_; (with_reducible refine (nat_Cmp.calls k _ _ t177 _ _ t180 t183 _ ?side1 (Kd.R_reads' HO179.out).2.1 ?side3 (Kd.R_reads' HO182.out).2.1 A9.out).mono ?_); (case side1 => exact dC (Kd.R_reads' HO179.out).2.2); (case side3 => exact dC (Kd.R_reads' HO182.out).2.2); rintro e w' ⟨rfl, ⟨nd, rfl⟩⟩; refine ⟨_, rfl, ?_⟩) | ((with_reducible refine gate_callee (f := 92) rfl ?_); refine gL (some 45) Tryd.func92 #[.slice Ao29 t177.length co29, .slice Ao28 t180.length co28] ?_; (with_reducible refine (quot_long.calls k _ _ t177 _ _ t180 t193 t194 _ ?side1 (Kd.R_reads' HO179.out).2.1 ?side3 (Kd.R_reads' HO182.out).2.1 A25.out).mono ?_); (case side1 => exact dC (Kd.R_reads' HO179.out).2.2); (case side3 => exact dC (Kd.R_reads' HO182.out).2.2); rintro e w30 ⟨v195, v197, rfl, ho0, ho1, hb⟩; refine ⟨_, rfl, ?_⟩; have HO196 := aM (Kd.R_lower (Kd.R_new' (Kd.R_new' ho0 (Kd.R_lt (dR HO179.out))) (Kd.R_lt (dR HO182.out))) (below_size dB)); have HO198 := aM (Kd.R_lower (Kd.R_new' (Kd.R_new' ho1 (Kd.R_lt (dR HO179.out))) (Kd.R_lt (dR HO182.out))) (below_size dB)); replace HO179 := aM (Kd.R_mono (Kd.R_told (Kd.R_told (Kd.R_old (dR HO179.out) hb) (Kd.R_base ho0)) (Kd.R_base ho1)) (fun _ h_ => h_.1)); replace HO182 := aM (Kd.R_mono (Kd.R_told (Kd.R_told (Kd.R_old (dR HO182.out) hb) (Kd.R_base ho0)) (Kd.R_base ho1)) (fun _ h_ => h_.1)); replace HB := hS HB.out hb; (try clear hb); (try clear ho0); (try clear ho1)))
    go_ret3
    exact ⟨_, _, dE, by (with_reducible repeat (first | apply Kd.R_alloc | apply Kd.R_drewN | apply Kd.R_drew)); exact Kd.R_mono HO196.out (fun _ hk => hk.1.1), by (with_reducible repeat (first | apply Kd.R_alloc | apply Kd.R_drewN | apply Kd.R_drew)); exact Kd.R_mono HO198.out (fun _ hk => hk.1.1), dB⟩
def near_Quotient.f (k : Nat) (a0 : Bool) (l1 : List Int) (l2 : List Int) (a3 : Int) : Option (Int × Int) := (nat_Norm.f l1).bind fun t333 => ((nat_Norm.f l2).bind fun t336 => ((near_known.f a3).bind fun t339 => (if t339 = true then (if (t336.length : Int) = 0 then (some (0, 50)) else (if (t333.length : Int) = 0 then ((near_finish.f k a0 0 0 false a3).bind fun bt340 => (some (bt340.1, bt340.2))) else ((nat_Bits.f k t333).bind fun t342 => ((nat_Bits.f k t336).bind fun t343 => (if (wrap64 (t342 - t343)) > 1100 then ((near_finish.f k a0 1 (wrap64 (t342 - t343)) true a3).bind fun bt344 => (some (bt344.1, bt344.2))) else (if (wrap64 (t342 - t343)) < (-1200) then ((near_finish.f k a0 0 0 true a3).bind fun bt346 => (some (bt346.1, bt346.2))) else (if (wrap64 ((wrap64 (t342 - t343)) - 62)) > 0 then ((near_shl.f k t336 (wrap64 ((wrap64 (t342 - t343)) - 62))).bind fun t348 => ((quot_DivMod.f k t333 t348).bind fun bt351 => ((nat_Word.f k bt351.1).bind fun bt358 => ((near_finish.f k a0 bt358.1 (wrap64 ((wrap64 (t342 - t343)) - 62)) (decide ((bt351.2.1.length : Int) > 0)) a3).bind fun bt360 => (some (bt360.1, bt360.2)))))) else ((near_shl.f k t333 (wrap64 (-(wrap64 ((wrap64 (t342 - t343)) - 62))))).bind fun t362 => ((quot_DivMod.f k t362 t336).bind fun bt365 => ((nat_Word.f k bt365.1).bind fun bt372 => ((near_finish.f k a0 bt372.1 (wrap64 ((wrap64 (t342 - t343)) - 62)) (decide ((bt365.2.1.length : Int) > 0)) a3).bind fun bt374 => (some (bt374.1, bt374.2))))))))))))) else (some (0, 71)))))
theorem near_Quotient.mono : ∀ a0 a1 a2 a3 k, LeO (near_Quotient.f k a0 a1 a2 a3) (near_Quotient.f (k + 1) a0 a1 a2 a3) := by
 intro a0 a1 a2 a3 k
 unfold near_Quotient.f
 have m0_ := nat_Bits.mono
 have m1_ := nat_Word.mono
 have m2_ := near_finish.mono
 have m3_ := near_shl.mono
 have m4_ := quot_DivMod.mono
 exact mX
set_option maxHeartbeats 8000000 in
set_option maxRecDepth 100000 in
theorem near_Quotient.calls (k : Nat) (a0 : Bool) (A1 : Option Addr) (c1 : Nat) (l1 : List Int) (A2 : Option Addr) (c2 : Nat) (l2 : List Int) (a3 : Int) (r1 : Int) (r2 : Int) (w : World) (hr1 : Kd.C (Kd.int .u64) w A1 l1.length l1) (hc1 : l1.length ≤ c1) (hr2 : Kd.C (Kd.int .u64) w A2 l2.length l2) (hc2 : l2.length ≤ c2) (h : near_Quotient.f k a0 l1 l2 a3 = some (r1, r2)) (hS : StaysLaid w := by first | exact HS.out | exact hS | exact StaysLaid.below HS.out HB.out | exact StaysLaid.below HS.out dB) :
  Calls Tryd.prog 17 #[.bool a0, .slice A1 l1.length c1, .slice A2 l2.length c2, .int .i64 a3] w fun e w' => e = .returned (.tuple #[.int .u64 r1, .int .i64 r2]) ∧ Below w.heap.size w w' := by
 have HS := aM (show StaysLaid w from hS)
 clear hS
 have HR1 := aM hr1
 have HC1 := aM hc1
 clear hr1 hc1
 have HR2 := aM hr2
 have HC2 := aM hc2
 clear hr2 hc2
 have HB := aM (Below.refl w.heap.size w)
 have H := h
 clear h
 unfold near_Quotient.f at H
 replace H := obe H
 obtain ⟨t333, A50, H⟩ := H
 (try dsimp only at H)
 have A5 := aM A50
 clear A50
 replace H := obe H
 obtain ⟨t336, A60, H⟩ := H
 (try dsimp only at H)
 have A6 := aM A60
 clear A60
 replace H := obe H
 obtain ⟨t339, A70, H⟩ := H
 (try dsimp only at H)
 have A7 := aM A70
 clear A70
 by_cases c8 : t339 = true
 ·subst c8
  rw [if_pos rfl] at H
  (try dsimp only at H)
  by_cases c9 : (t336.length : Int) = 0
  ·rw [if_pos c9] at H
   have c9b0 : ((t336.length : Int) == 0) = true := beq_iff_eq.mpr c9
   have c9b1 : ((t336.length : Int) != 0) = false := bne_eq_false_iff_eq.mpr c9
   clear c9
   simp only [Option.some.injEq, Prod.mk.injEq] at H
   obtain ⟨rfl, rfl⟩ := H
   go_enter Tryd.func17, Tryd.ntmps17
   go_wp2_with (first | ((with_reducible refine gate_callee (f := 51) rfl ?_); refine gL (some 18) Tryd.func51 #[.slice A1 l1.length c1] ?_; (with_reducible refine (nat_Norm.calls _ _ l1 t333 _ ?side1 HC1.out A5.out).mono ?_); (case side1 => exact dC HR1.out); rintro e w10 ⟨v334, rfl, ho0, hb⟩; refine ⟨_, rfl, ?_⟩; have HO335 := aM (Kd.R_lower ho0 (below_size dB)); replace HB := hS HB.out hb; (try clear hb); (try clear ho0)) | ((with_reducible refine gate_callee (f := 51) rfl ?_); refine gL (some 20) Tryd.func51 #[.slice A2 l2.length c2] ?_; (with_reducible refine (nat_Norm.calls _ _ l2 t336 _ ?side1 HC2.out A6.out).mono ?_); (case side1 => exact dC (Kd.C_below HR2.out HB.out)); rintro e w11 ⟨v337, rfl, ho0, hb⟩; refine ⟨_, rfl, ?_⟩; have HO338 := aM (Kd.R_lower (Kd.R_new' ho0 (Kd.R_lt (dR HO335.out))) (below_size dB)); replace HO335 := oE HO335.out ho0 hb; replace HB := hS HB.out hb; (try clear hb); (try clear ho0)) | ((with_reducible refine gate_callee (f := 42) rfl ?_); refine gL (some 23) Tryd.func42 #[.int .i64 a3] ?_; (with_reducible refine (near_known.calls a3 true _ A7.out).mono ?_); rintro e w' ⟨rfl, ⟨nd, rfl⟩⟩; refine ⟨_, rfl, ?_⟩; obtain ⟨Ao12, co12, rfl⟩ := Kd.R_slice HO338.out))
   go_ret2
   exact ⟨dE, dB⟩
  ·rw [if_neg c9] at H
   have c9b0 : ((t336.length : Int) == 0) = false := beq_eq_false_iff_ne.mpr c9
   have c9b1 : ((t336.length : Int) != 0) = true := bne_iff_ne.mpr c9
   have c9b2 : ¬ (t336 = []) := fun h_ => c9 (by rw [h_]; rfl)
   by_cases c13 : (t333.length : Int) = 0
   ·rw [if_pos c13] at H
    have c13b0 : ((t333.length : Int) == 0) = true := beq_iff_eq.mpr c13
    have c13b1 : ((t333.length : Int) != 0) = false := bne_eq_false_iff_eq.mpr c13
    clear c13
    replace H := obe H
    obtain ⟨⟨t340, t341⟩, A140, H⟩ := H
    (try dsimp only at H)
    have A14 := aM A140
    clear A140
    simp only [Option.some.injEq, Prod.mk.injEq] at H
    obtain ⟨rfl, rfl⟩ := H
    go_enter Tryd.func17, Tryd.ntmps17
    go_wp2_with (first | ((with_reducible refine gate_callee (f := 51) rfl ?_); refine gL (some 18) Tryd.func51 #[.slice A1 l1.length c1] ?_; (with_reducible refine (nat_Norm.calls _ _ l1 t333 _ ?side1 HC1.out A5.out).mono ?_); (case side1 => exact dC HR1.out); rintro e w15 ⟨v334, rfl, ho0, hb⟩; refine ⟨_, rfl, ?_⟩; have HO335 := aM (Kd.R_lower ho0 (below_size dB)); replace HB := hS HB.out hb; (try clear hb); (try clear ho0)) | ((with_reducible refine gate_callee (f := 51) rfl ?_); refine gL (some 20) Tryd.func51 #[.slice A2 l2.length c2] ?_; (with_reducible refine (nat_Norm.calls _ _ l2 t336 _ ?side1 HC2.out A6.out).mono ?_); (case side1 => exact dC (Kd.C_below HR2.out HB.out)); rintro e w16 ⟨v337, rfl, ho0, hb⟩; refine ⟨_, rfl, ?_⟩; have HO338 := aM (Kd.R_lower (Kd.R_new' ho0 (Kd.R_lt (dR HO335.out))) (below_size dB)); replace HO335 := oE HO335.out ho0 hb; replace HB := hS HB.out hb; (try clear hb); (try clear ho0)) | ((with_reducible refine gate_callee (f := 42) rfl ?_); refine gL (some 23) Tryd.func42 #[.int .i64 a3] ?_; (with_reducible refine (near_known.calls a3 true _ A7.out).mono ?_); rintro e w' ⟨rfl, ⟨nd, rfl⟩⟩; refine ⟨_, rfl, ?_⟩; obtain ⟨Ao17, co17, rfl⟩ := Kd.R_slice HO338.out; obtain ⟨Ao18, co18, rfl⟩ := Kd.R_slice HO335.out) | ((with_reducible refine gate_callee (f := 46) rfl ?_); refine gL (some 35) Tryd.func46 #[.bool a0, .int .u64 0, .int .i64 0, .bool false, .int .i64 a3] ?_; (with_reducible refine (near_finish.calls k a0 0 0 false a3 t340 t341 _ A14.out).mono ?_); rintro e w19 ⟨rfl, hb⟩; refine ⟨_, rfl, ?_⟩; replace HO335 := oB HO335.out hb; replace HO338 := oB HO338.out hb; replace HB := hS HB.out hb; (try clear hb)))
    go_ret2
    exact ⟨dE, dB⟩
   ·rw [if_neg c13] at H
    have c13b0 : ((t333.length : Int) == 0) = false := beq_eq_false_iff_ne.mpr c13
    have c13b1 : ((t333.length : Int) != 0) = true := bne_iff_ne.mpr c13
    have c13b2 : ¬ (t333 = []) := fun h_ => c13 (by rw [h_]; rfl)
    replace H := obe H
    obtain ⟨t342, A200, H⟩ := H
    (try dsimp only at H)
    have A20 := aM A200
    clear A200
    replace H := obe H
    obtain ⟨t343, A210, H⟩ := H
    (try dsimp only at H)
    have A21 := aM A210
    clear A210
    by_cases c22 : (wrap64 (t342 - t343)) > 1100
    ·rw [if_pos c22] at H
     have c22b0 : decide (1100 < (wrap64 (t342 - t343))) = true := decide_eq_true c22
     clear c22
     replace H := obe H
     obtain ⟨⟨t344, t345⟩, A230, H⟩ := H
     (try dsimp only at H)
     have A23 := aM A230
     clear A230
     simp only [Option.some.injEq, Prod.mk.injEq] at H
     obtain ⟨rfl, rfl⟩ := H
     go_enter Tryd.func17, Tryd.ntmps17
     go_wp2_with (first | ((with_reducible refine gate_callee (f := 51) rfl ?_); refine gL (some 18) Tryd.func51 #[.slice A1 l1.length c1] ?_; (with_reducible refine (nat_Norm.calls _ _ l1 t333 _ ?side1 HC1.out A5.out).mono ?_); (case side1 => exact dC HR1.out); rintro e w24 ⟨v334, rfl, ho0, hb⟩; refine ⟨_, rfl, ?_⟩; have HO335 := aM (Kd.R_lower ho0 (below_size dB)); replace HB := hS HB.out hb; (try clear hb); (try clear ho0)) | ((with_reducible refine gate_callee (f := 51) rfl ?_); refine gL (some 20) Tryd.func51 #[.slice A2 l2.length c2] ?_; (with_reducible refine (nat_Norm.calls _ _ l2 t336 _ ?side1 HC2.out A6.out).mono ?_); (case side1 => exact dC (Kd.C_below HR2.out HB.out)); rintro e w25 ⟨v337, rfl, ho0, hb⟩; refine ⟨_, rfl, ?_⟩; have HO338 := aM (Kd.R_lower (Kd.R_new' ho0 (Kd.R_lt (dR HO335.out))) (below_size dB)); replace HO335 := oE HO335.out ho0 hb; replace HB := hS HB.out hb; (try clear hb); (try clear ho0)) | ((with_reducible refine gate_callee (f := 42) rfl ?_); refine gL (some 23) Tryd.func42 #[.int .i64 a3] ?_; (with_reducible refine (near_known.calls a3 true _ A7.out).mono ?_); rintro e w' ⟨rfl, ⟨nd, rfl⟩⟩; refine ⟨_, rfl, ?_⟩; obtain ⟨Ao26, co26, rfl⟩ := Kd.R_slice HO338.out; obtain ⟨Ao27, co27, rfl⟩ := Kd.R_slice HO335.out) | ((with_reducible refine gate_callee (f := 43) rfl ?_); refine gL (some 39) Tryd.func43 #[.slice Ao27 t333.length co27] ?_; (with_reducible refine (nat_Bits.calls k _ _ t333 t342 _ ?side1 (Kd.R_reads' HO335.out).2.1 A20.out).mono ?_); (case side1 => exact dC (Kd.R_reads' HO335.out).2.2); rintro e w' ⟨rfl, ⟨nd, rfl⟩⟩; refine ⟨_, rfl, ?_⟩) | ((with_reducible refine gate_callee (f := 43) rfl ?_); refine gL (some 41) Tryd.func43 #[.slice Ao26 t336.length co26] ?_; (with_reducible refine (nat_Bits.calls k _ _ t336 t343 _ ?side1 (Kd.R_reads' HO338.out).2.1 A21.out).mono ?_); (case side1 => exact dC (Kd.R_reads' HO338.out).2.2); rintro e w' ⟨rfl, ⟨nd, rfl⟩⟩; refine ⟨_, rfl, ?_⟩) | ((with_reducible refine gate_callee (f := 46) rfl ?_); refine gL (some 49) Tryd.func46 #[.bool a0, .int .u64 1, .int .i64 (wrap64 (t342 - t343)), .bool true, .int .i64 a3] ?_; (with_reducible refine (near_finish.calls k a0 1 (wrap64 (t342 - t343)) true a3 t344 t345 _ A23.out).mono ?_); rintro e w28 ⟨rfl, hb⟩; refine ⟨_, rfl, ?_⟩; replace HO335 := oB HO335.out hb; replace HO338 := oB HO338.out hb; replace HB := hS HB.out hb; (try clear hb)))
     go_ret2
     exact ⟨dE, dB⟩
    ·rw [if_neg c22] at H
     have c22b0 : decide (1100 < (wrap64 (t342 - t343))) = false := decide_eq_false c22
     clear c22
     by_cases c29 : (wrap64 (t342 - t343)) < (-1200)
     ·rw [if_pos c29] at H
      have c29b0 : decide ((wrap64 (t342 - t343)) < (-1200)) = true := decide_eq_true c29
      clear c29
      replace H := obe H
      obtain ⟨⟨t346, t347⟩, A300, H⟩ := H
      (try dsimp only at H)
      have A30 := aM A300
      clear A300
      simp only [Option.some.injEq, Prod.mk.injEq] at H
      obtain ⟨rfl, rfl⟩ := H
      go_enter Tryd.func17, Tryd.ntmps17
      go_wp2_with (first | ((with_reducible refine gate_callee (f := 51) rfl ?_); refine gL (some 18) Tryd.func51 #[.slice A1 l1.length c1] ?_; (with_reducible refine (nat_Norm.calls _ _ l1 t333 _ ?side1 HC1.out A5.out).mono ?_); (case side1 => exact dC HR1.out); rintro e w31 ⟨v334, rfl, ho0, hb⟩; refine ⟨_, rfl, ?_⟩; have HO335 := aM (Kd.R_lower ho0 (below_size dB)); replace HB := hS HB.out hb; (try clear hb); (try clear ho0)) | ((with_reducible refine gate_callee (f := 51) rfl ?_); refine gL (some 20) Tryd.func51 #[.slice A2 l2.length c2] ?_; (with_reducible refine (nat_Norm.calls _ _ l2 t336 _ ?side1 HC2.out A6.out).mono ?_); (case side1 => exact dC (Kd.C_below HR2.out HB.out)); rintro e w32 ⟨v337, rfl, ho0, hb⟩; refine ⟨_, rfl, ?_⟩; have HO338 := aM (Kd.R_lower (Kd.R_new' ho0 (Kd.R_lt (dR HO335.out))) (below_size dB)); replace HO335 := oE HO335.out ho0 hb; replace HB := hS HB.out hb; (try clear hb); (try clear ho0)) | ((with_reducible refine gate_callee (f := 42) rfl ?_); refine gL (some 23) Tryd.func42 #[.int .i64 a3] ?_; (with_reducible refine (near_known.calls a3 true _ A7.out).mono ?_); rintro e w' ⟨rfl, ⟨nd, rfl⟩⟩; refine ⟨_, rfl, ?_⟩; obtain ⟨Ao33, co33, rfl⟩ := Kd.R_slice HO338.out; obtain ⟨Ao34, co34, rfl⟩ := Kd.R_slice HO335.out) | ((with_reducible refine gate_callee (f := 43) rfl ?_); refine gL (some 39) Tryd.func43 #[.slice Ao34 t333.length co34] ?_; (with_reducible refine (nat_Bits.calls k _ _ t333 t342 _ ?side1 (Kd.R_reads' HO335.out).2.1 A20.out).mono ?_); (case side1 => exact dC (Kd.R_reads' HO335.out).2.2); rintro e w' ⟨rfl, ⟨nd, rfl⟩⟩; refine ⟨_, rfl, ?_⟩) | ((with_reducible refine gate_callee (f := 43) rfl ?_); refine gL (some 41) Tryd.func43 #[.slice Ao33 t336.length co33] ?_; (with_reducible refine (nat_Bits.calls k _ _ t336 t343 _ ?side1 (Kd.R_reads' HO338.out).2.1 A21.out).mono ?_); (case side1 => exact dC (Kd.R_reads' HO338.out).2.2); rintro e w' ⟨rfl, ⟨nd, rfl⟩⟩; refine ⟨_, rfl, ?_⟩) | ((with_reducible refine gate_callee (f := 46) rfl ?_); refine gL (some 57) Tryd.func46 #[.bool a0, .int .u64 0, .int .i64 0, .bool true, .int .i64 a3] ?_; (with_reducible refine (near_finish.calls k a0 0 0 true a3 t346 t347 _ A30.out).mono ?_); rintro e w35 ⟨rfl, hb⟩; refine ⟨_, rfl, ?_⟩; replace HO335 := oB HO335.out hb; replace HO338 := oB HO338.out hb; replace HB := hS HB.out hb; (try clear hb)))
      go_ret2
      exact ⟨dE, dB⟩
     ·rw [if_neg c29] at H
      have c29b0 : decide ((wrap64 (t342 - t343)) < (-1200)) = false := decide_eq_false c29
      clear c29
      by_cases c36 : (wrap64 ((wrap64 (t342 - t343)) - 62)) > 0
      ·rw [if_pos c36] at H
       have c36b0 : decide (0 < (wrap64 ((wrap64 (t342 - t343)) - 62))) = true := decide_eq_true c36
       clear c36
       replace H := obe H
       obtain ⟨t348, A370, H⟩ := H
       (try dsimp only at H)
       have A37 := aM A370
       clear A370
       replace H := obe H
       obtain ⟨⟨t351, t352, t353⟩, A380, H⟩ := H
       (try dsimp only at H)
       have A38 := aM A380
       clear A380
       replace H := obe H
       obtain ⟨⟨t358, t359⟩, A390, H⟩ := H
       (try dsimp only at H)
       have A39 := aM A390
       clear A390
       replace H := obe H
       obtain ⟨⟨t360, t361⟩, A400, H⟩ := H
       (try dsimp only at H)
       have A40 := aM A400
       clear A400
       simp only [Option.some.injEq, Prod.mk.injEq] at H
       obtain ⟨rfl, rfl⟩ := H
       have e_ : decide ((t352.length : Int) > 0) = decide (0 < t352.length) := by rw [decide_eq_decide]; omega
       (try (have z_ := A20.out; rw [e_] at z_; clear A20; have A20 := aM z_; clear z_))
       (try (have z_ := A21.out; rw [e_] at z_; clear A21; have A21 := aM z_; clear z_))
       (try (have z_ := A37.out; rw [e_] at z_; clear A37; have A37 := aM z_; clear z_))
       (try (have z_ := A38.out; rw [e_] at z_; clear A38; have A38 := aM z_; clear z_))
       (try (have z_ := A39.out; rw [e_] at z_; clear A39; have A39 := aM z_; clear z_))
       (try (have z_ := A40.out; rw [e_] at z_; clear A40; have A40 := aM z_; clear z_))
       (try (have z_ := A5.out; rw [e_] at z_; clear A5; have A5 := aM z_; clear z_))
       (try (have z_ := A6.out; rw [e_] at z_; clear A6; have A6 := aM z_; clear z_))
       (try (have z_ := A7.out; rw [e_] at z_; clear A7; have A7 := aM z_; clear z_))
       clear e_
       go_enter Tryd.func17, Tryd.ntmps17
       go_wp2_with (first | ((with_reducible refine gate_callee (f := 51) rfl ?_); refine gL (some 18) Tryd.func51 #[.slice A1 l1.length c1] ?_; (with_reducible refine (nat_Norm.calls _ _ l1 t333 _ ?side1 HC1.out A5.out).mono ?_); (case side1 => exact dC HR1.out); rintro e w41 ⟨v334, rfl, ho0, hb⟩; refine ⟨_, rfl, ?_⟩; have HO335 := aM (Kd.R_lower ho0 (below_size dB)); replace HB := hS HB.out hb; (try clear hb); (try clear ho0)) | ((with_reducible refine gate_callee (f := 51) rfl ?_); refine gL (some 20) Tryd.func51 #[.slice A2 l2.length c2] ?_; (with_reducible refine (nat_Norm.calls _ _ l2 t336 _ ?side1 HC2.out A6.out).mono ?_); (case side1 => exact dC (Kd.C_below HR2.out HB.out)); rintro e w42 ⟨v337, rfl, ho0, hb⟩; refine ⟨_, rfl, ?_⟩; have HO338 := aM (Kd.R_lower (Kd.R_new' ho0 (Kd.R_lt (dR HO335.out))) (below_size dB)); replace HO335 := oE HO335.out ho0 hb; replace HB := hS HB.out hb; (try clear hb); (try clear ho0)) | ((with_reducible refine gate_callee (f := 42) rfl ?_); refine gL (some 23) Tryd.func42 #[.int .i64 a3] ?_; (with_reducible refine (near_known.calls a3 true _ A7.out).mono ?_); rintro e w' ⟨rfl, ⟨nd, rfl⟩⟩; refine ⟨_, rfl, ?_⟩; obtain ⟨Ao43, co43, rfl⟩ := Kd.R_slice HO338.out; obtain ⟨Ao44, co44, rfl⟩ := Kd.R_slice HO335.out) | ((with_reducible refine gate_callee (f := 43) rfl ?_); refine gL (some 39) Tryd.func43 #[.slice Ao44 t333.length co44] ?_; (with_reducible refine (nat_Bits.calls k _ _ t333 t342 _ ?side1 (Kd.R_reads' HO335.out).2.1 A20.out).mono ?_); (case side1 => exact dC (Kd.R_reads' HO335.out).2.2); rintro e w' ⟨rfl, ⟨nd, rfl⟩⟩; refine ⟨_, rfl, ?_⟩) | ((with_reducible refine gate_callee (f := 43) rfl ?_); refine gL (some 41) Tryd.func43 #[.slice Ao43 t336.length co43] ?_; (with_reducible refine (nat_Bits.calls k _ _ t336 t343 _ ?side1 (Kd.R_reads' HO338.out).2.1 A21.out).mono ?_); (case side1 => exact dC (Kd.R_reads' HO338.out).2.2); rintro e w' ⟨rfl, ⟨nd, rfl⟩⟩; refine ⟨_, rfl, ?_⟩) | ((with_reducible refine gate_callee (f := 52) rfl ?_); refine gL (some 66) Tryd.func52 #[.slice Ao43 t336.length co43, .int .i64 (wrap64 ((wrap64 (t342 - t343)) - 62))] ?_; (with_reducible refine (near_shl.calls k _ _ t336 (wrap64 ((wrap64 (t342 - t343)) - 62)) t348 _ ?side1 (Kd.R_reads' HO338.out).2.1 A37.out).mono ?_); (case side1 => exact dC (Kd.R_reads' HO338.out).2.2); rintro e w45 ⟨v349, rfl, ho0, hb⟩; refine ⟨_, rfl, ?_⟩; have HO350 := aM (Kd.R_lower (Kd.R_new' (Kd.R_new' ho0 (Kd.R_lt (dR HO335.out))) (Kd.R_lt (dR HO338.out))) (below_size dB)); replace HO335 := oE HO335.out ho0 hb; replace HO338 := oE HO338.out ho0 hb; replace HB := hS HB.out hb; (try clear hb); (try clear ho0); obtain ⟨Ao46, co46, rfl⟩ := Kd.R_slice HO350.out) | ((with_reducible refine gate_callee (f := 53) rfl ?_); refine gL (some 74) Tryd.func53 #[.slice Ao44 t333.length co44, .slice Ao46 t348.length co46] ?_; (with_reducible refine (quot_DivMod.calls k _ _ t333 _ _ t348 t351 t352 t353 _ ?side1 (Kd.R_reads' HO335.out).2.1 ?side3 (Kd.R_reads' HO350.out).2.1 A38.out).mono ?_); (case side1 => exact dC (Kd.R_reads' HO335.out).2.2); (case side3 => exact dC (Kd.R_reads' HO350.out).2.2); rintro e w47 ⟨v354, v356, rfl, ho0, ho1, hb⟩; refine ⟨_, rfl, ?_⟩; have HO355 := aM (Kd.R_lower (Kd.R_new' (Kd.R_new' (Kd.R_new' ho0 (Kd.R_lt (dR HO335.out))) (Kd.R_lt (dR HO338.out))) (Kd.R_lt (dR HO350.out))) (below_size dB)); have HO357 := aM (Kd.R_lower (Kd.R_new' (Kd.R_new' (Kd.R_new' ho1 (Kd.R_lt (dR HO335.out))) (Kd.R_lt (dR HO338.out))) (Kd.R_lt (dR HO350.out))) (below_size dB)); replace HO335 := aM (Kd.R_mono (Kd.R_told (Kd.R_told (Kd.R_old (dR HO335.out) hb) (Kd.R_base ho0)) (Kd.R_base ho1)) (fun _ h_ => h_.1)); replace HO338 := aM (Kd.R_mono (Kd.R_told (Kd.R_told (Kd.R_old (dR HO338.out) hb) (Kd.R_base ho0)) (Kd.R_base ho1)) (fun _ h_ => h_.1)); replace HO350 := aM (Kd.R_mono (Kd.R_told (Kd.R_told (Kd.R_old (dR HO350.out) hb) (Kd.R_base ho0)) (Kd.R_base ho1)) (fun _ h_ => h_.1)); replace HB := hS HB.out hb; (try clear hb); (try clear ho0); (try clear ho1); obtain ⟨Ao48, co48, rfl⟩ := Kd.R_slice HO355.out) | ((with_reducible refine gate_callee (f := 45) rfl ?_); refine gL (some 80) Tryd.func45 #[.slice Ao48 t351.length co48] ?_; (with_reducible refine (nat_Word.calls k _ _ t351 t358 t359 _ ?side1 (Kd.R_reads' HO355.out).2.1 A39.out).mono ?_); (case side1 => exact dC (Kd.R_reads' HO355.out).2.2); rintro e w' ⟨rfl, ⟨nd, rfl⟩⟩; refine ⟨_, rfl, ?_⟩; obtain ⟨Ao49, co49, rfl⟩ := Kd.R_slice HO357.out) | ((with_reducible refine gate_callee (f := 46) rfl ?_); refine gL (some 90) Tryd.func46 #[.bool a0, .int .u64 t358, .int .i64 (wrap64 ((wrap64 (t342 - t343)) - 62)), .bool (decide (0 < t352.length)), .int .i64 a3] ?_; (with_reducible refine (near_finish.calls k a0 t358 (wrap64 ((wrap64 (t342 - t343)) - 62)) (decide (0 < t352.length)) a3 t360 t361 _ A40.out).mono ?_); rintro e w50 ⟨rfl, hb⟩; refine ⟨_, rfl, ?_⟩; replace HO335 := oB HO335.out hb; replace HO338 := oB HO338.out hb; replace HO350 := oB HO350.out hb; replace HO355 := oB HO355.out hb; replace HO357 := oB HO357.out hb; replace HB := hS HB.out hb; (try clear hb)))
       go_ret2
       exact ⟨dE, dB⟩
      ·rw [if_neg c36] at H
       have c36b0 : decide (0 < (wrap64 ((wrap64 (t342 - t343)) - 62))) = false := decide_eq_false c36
       clear c36
       replace H := obe H
       obtain ⟨t362, A510, H⟩ := H
       (try dsimp only at H)
       have A51 := aM A510
       clear A510
       replace H := obe H
       obtain ⟨⟨t365, t366, t367⟩, A520, H⟩ := H
       (try dsimp only at H)
       have A52 := aM A520
       clear A520
       replace H := obe H
       obtain ⟨⟨t372, t373⟩, A530, H⟩ := H
       (try dsimp only at H)
       have A53 := aM A530
       clear A530
       replace H := obe H
       obtain ⟨⟨t374, t375⟩, A540, H⟩ := H
       (try dsimp only at H)
       have A54 := aM A540
       clear A540
       simp only [Option.some.injEq, Prod.mk.injEq] at H
       obtain ⟨rfl, rfl⟩ := H
       have e_ : decide ((t366.length : Int) > 0) = decide (0 < t366.length) := by rw [decide_eq_decide]; omega
       (try (have z_ := A20.out; rw [e_] at z_; clear A20; have A20 := aM z_; clear z_))
       (try (have z_ := A21.out; rw [e_] at z_; clear A21; have A21 := aM z_; clear z_))
       (try (have z_ := A5.out; rw [e_] at z_; clear A5; have A5 := aM z_; clear z_))
       (try (have z_ := A51.out; rw [e_] at z_; clear A51; have A51 := aM z_; clear z_))
       (try (have z_ := A52.out; rw [e_] at z_; clear A52; have A52 := aM z_; clear z_))
       (try (have z_ := A53.out; rw [e_] at z_; clear A53; have A53 := aM z_; clear z_))
       (try (have z_ := A54.out; rw [e_] at z_; clear A54; have A54 := aM z_; clear z_))
       (try (have z_ := A6.out; rw [e_] at z_; clear A6; have A6 := aM z_; clear z_))
       (try (have z_ := A7.out; rw [e_] at z_; clear A7; have A7 := aM z_; clear z_))
       clear e_
       go_enter Tryd.func17, Tryd.ntmps17
       go_wp2_with (first | ((with_reducible refine gate_callee (f := 51) rfl ?_); refine gL (some 18) Tryd.func51 #[.slice A1 l1.length c1] ?_; (with_reducible refine (nat_Norm.calls _ _ l1 t333 _ ?side1 HC1.out A5.out).mono ?_); (case side1 => exact dC HR1.out); rintro e w55 ⟨v334, rfl, ho0, hb⟩; refine ⟨_, rfl, ?_⟩; have HO335 := aM (Kd.R_lower ho0 (below_size dB)); replace HB := hS HB.out hb; (try clear hb); (try clear ho0)) | ((with_reducible refine gate_callee (f := 51) rfl ?_); refine gL (some 20) Tryd.func51 #[.slice A2 l2.length c2] ?_; (with_reducible refine (nat_Norm.calls _ _ l2 t336 _ ?side1 HC2.out A6.out).mono ?_); (case side1 => exact dC (Kd.C_below HR2.out HB.out)); rintro e w56 ⟨v337, rfl, ho0, hb⟩; refine ⟨_, rfl, ?_⟩; have HO338 := aM (Kd.R_lower (Kd.R_new' ho0 (Kd.R_lt (dR HO335.out))) (below_size dB)); replace HO335 := oE HO335.out ho0 hb; replace HB := hS HB.out hb; (try clear hb); (try clear ho0)) | ((with_reducible refine gate_callee (f := 42) rfl ?_); refine gL (some 23) Tryd.func42 #[.int .i64 a3] ?_; (with_reducible refine (near_known.calls a3 true _ A7.out).mono ?_); rintro e w' ⟨rfl, ⟨nd, rfl⟩⟩; refine ⟨_, rfl, ?_⟩; obtain ⟨Ao57, co57, rfl⟩ := Kd.R_slice HO338.out; obtain ⟨Ao58, co58, rfl⟩ := Kd.R_slice HO335.out) | ((with_reducible refine gate_callee (f := 43) rfl ?_); refine gL (some 39) Tryd.func43 #[.slice Ao58 t333.length co58] ?_; (with_reducible refine (nat_Bits.calls k _ _ t333 t342 _ ?side1 (Kd.R_reads' HO335.out).2.1 A20.out).mono ?_); (case side1 => exact dC (Kd.R_reads' HO335.out).2.2); rintro e w' ⟨rfl, ⟨nd, rfl⟩⟩; refine ⟨_, rfl, ?_⟩) | ((with_reducible refine gate_callee (f := 43) rfl ?_); refine gL (some 41) Tryd.func43 #[.slice Ao57 t336.length co57] ?_; (with_reducible refine (nat_Bits.calls k _ _ t336 t343 _ ?side1 (Kd.R_reads' HO338.out).2.1 A21.out).mono ?_); (case side1 => exact dC (Kd.R_reads' HO338.out).2.2); rintro e w' ⟨rfl, ⟨nd, rfl⟩⟩; refine ⟨_, rfl, ?_⟩) | ((with_reducible refine gate_callee (f := 52) rfl ?_); refine gL (some 70) Tryd.func52 #[.slice Ao58 t333.length co58, .int .i64 (wrap64 (-(wrap64 ((wrap64 (t342 - t343)) - 62))))] ?_; (with_reducible refine (near_shl.calls k _ _ t333 (wrap64 (-(wrap64 ((wrap64 (t342 - t343)) - 62)))) t362 _ ?side1 (Kd.R_reads' HO335.out).2.1 A51.out).mono ?_); (case side1 => exact dC (Kd.R_reads' HO335.out).2.2); rintro e w59 ⟨v363, rfl, ho0, hb⟩; refine ⟨_, rfl, ?_⟩; have HO364 := aM (Kd.R_lower (Kd.R_new' (Kd.R_new' ho0 (Kd.R_lt (dR HO335.out))) (Kd.R_lt (dR HO338.out))) (below_size dB)); replace HO335 := oE HO335.out ho0 hb; replace HO338 := oE HO338.out ho0 hb; replace HB := hS HB.out hb; (try clear hb); (try clear ho0); obtain ⟨Ao60, co60, rfl⟩ := Kd.R_slice HO364.out) | ((with_reducible refine gate_callee (f := 53) rfl ?_); refine gL (some 74) Tryd.func53 #[.slice Ao60 t362.length co60, .slice Ao57 t336.length co57] ?_; (with_reducible refine (quot_DivMod.calls k _ _ t362 _ _ t336 t365 t366 t367 _ ?side1 (Kd.R_reads' HO364.out).2.1 ?side3 (Kd.R_reads' HO338.out).2.1 A52.out).mono ?_); (case side1 => exact dC (Kd.R_reads' HO364.out).2.2); (case side3 => exact dC (Kd.R_reads' HO338.out).2.2); rintro e w61 ⟨v368, v370, rfl, ho0, ho1, hb⟩; refine ⟨_, rfl, ?_⟩; have HO369 := aM (Kd.R_lower (Kd.R_new' (Kd.R_new' (Kd.R_new' ho0 (Kd.R_lt (dR HO335.out))) (Kd.R_lt (dR HO338.out))) (Kd.R_lt (dR HO364.out))) (below_size dB)); have HO371 := aM (Kd.R_lower (Kd.R_new' (Kd.R_new' (Kd.R_new' ho1 (Kd.R_lt (dR HO335.out))) (Kd.R_lt (dR HO338.out))) (Kd.R_lt (dR HO364.out))) (below_size dB)); replace HO335 := aM (Kd.R_mono (Kd.R_told (Kd.R_told (Kd.R_old (dR HO335.out) hb) (Kd.R_base ho0)) (Kd.R_base ho1)) (fun _ h_ => h_.1)); replace HO338 := aM (Kd.R_mono (Kd.R_told (Kd.R_told (Kd.R_old (dR HO338.out) hb) (Kd.R_base ho0)) (Kd.R_base ho1)) (fun _ h_ => h_.1)); replace HO364 := aM (Kd.R_mono (Kd.R_told (Kd.R_told (Kd.R_old (dR HO364.out) hb) (Kd.R_base ho0)) (Kd.R_base ho1)) (fun _ h_ => h_.1)); replace HB := hS HB.out hb; (try clear hb); (try clear ho0); (try clear ho1); obtain ⟨Ao62, co62, rfl⟩ := Kd.R_slice HO369.out) | ((with_reducible refine gate_callee (f := 45) rfl ?_); refine gL (some 80) Tryd.func45 #[.slice Ao62 t365.length co62] ?_; (with_reducible refine (nat_Word.calls k _ _ t365 t372 t373 _ ?side1 (Kd.R_reads' HO369.out).2.1 A53.out).mono ?_); (case side1 => exact dC (Kd.R_reads' HO369.out).2.2); rintro e w' ⟨rfl, ⟨nd, rfl⟩⟩; refine ⟨_, rfl, ?_⟩; obtain ⟨Ao63, co63, rfl⟩ := Kd.R_slice HO371.out) | ((with_reducible refine gate_callee (f := 46) rfl ?_); refine gL (some 90) Tryd.func46 #[.bool a0, .int .u64 t372, .int .i64 (wrap64 ((wrap64 (t342 - t343)) - 62)), .bool (decide (0 < t366.length)), .int .i64 a3] ?_; (with_reducible refine (near_finish.calls k a0 t372 (wrap64 ((wrap64 (t342 - t343)) - 62)) (decide (0 < t366.length)) a3 t374 t375 _ A54.out).mono ?_); rintro e w64 ⟨rfl, hb⟩; refine ⟨_, rfl, ?_⟩; replace HO335 := oB HO335.out hb; replace HO338 := oB HO338.out hb; replace HO364 := oB HO364.out hb; replace HO369 := oB HO369.out hb; replace HO371 := oB HO371.out hb; replace HB := hS HB.out hb; (try clear hb)))
       go_ret2
       exact ⟨dE, dB⟩
 ·replace c8 := Bool.eq_false_iff.mpr c8
  subst c8
  rw [if_neg (show ¬ (false = true) by decide)] at H
  (try dsimp only at H)
  simp only [Option.some.injEq, Prod.mk.injEq] at H
  obtain ⟨rfl, rfl⟩ := H
  go_enter Tryd.func17, Tryd.ntmps17
  go_wp2_with (first | ((with_reducible refine gate_callee (f := 51) rfl ?_); refine gL (some 18) Tryd.func51 #[.slice A1 l1.length c1] ?_; (with_reducible refine (nat_Norm.calls _ _ l1 t333 _ ?side1 HC1.out A5.out).mono ?_); (case side1 => exact dC HR1.out); rintro e w65 ⟨v334, rfl, ho0, hb⟩; refine ⟨_, rfl, ?_⟩; have HO335 := aM (Kd.R_lower ho0 (below_size dB)); replace HB := hS HB.out hb; (try clear hb); (try clear ho0)) | ((with_reducible refine gate_callee (f := 51) rfl ?_); refine gL (some 20) Tryd.func51 #[.slice A2 l2.length c2] ?_; (with_reducible refine (nat_Norm.calls _ _ l2 t336 _ ?side1 HC2.out A6.out).mono ?_); (case side1 => exact dC (Kd.C_below HR2.out HB.out)); rintro e w66 ⟨v337, rfl, ho0, hb⟩; refine ⟨_, rfl, ?_⟩; have HO338 := aM (Kd.R_lower (Kd.R_new' ho0 (Kd.R_lt (dR HO335.out))) (below_size dB)); replace HO335 := oE HO335.out ho0 hb; replace HB := hS HB.out hb; (try clear hb); (try clear ho0)) | ((with_reducible refine gate_callee (f := 42) rfl ?_); refine gL (some 23) Tryd.func42 #[.int .i64 a3] ?_; (with_reducible refine (near_known.calls a3 false _ A7.out).mono ?_); rintro e w' ⟨rfl, ⟨nd, rfl⟩⟩; refine ⟨_, rfl, ?_⟩))
  go_ret2
  exact ⟨dE, dB⟩
def plumblaw07_fixed.f (k : Nat)  : Option (Bool) := (near_Quotient.f k false (([1] : List Int)) (([2] : List Int)) 0).bind fun bt205 => ((near_Quotient.f k true (([1] : List Int)) (([3] : List Int)) 0).bind fun bt213 => ((near_Quotient.f k false (([1] : List Int)) ([] : List Int) 0).bind fun bt218 => ((plumblaw07_num.f bt205.2).bind fun t220 => (if t220 = 0 then ((plumblaw07_num.f bt213.2).bind fun t221 => (if t221 = 0 then (if bt205.1 = 4602678819172646912 then (if bt213.1 = 13823048456275842389 then ((plumblaw07_num.f bt218.2).bind fun t222 => (some (t222 == 50))) else (none)) else (none)) else (none))) else (none)))))
theorem plumblaw07_fixed.mono : ∀ k, LeO (plumblaw07_fixed.f k ) (plumblaw07_fixed.f (k + 1) ) := by
 intro  k
 unfold plumblaw07_fixed.f
 have m0_ := near_Quotient.mono
 exact mX
set_option maxHeartbeats 8000000 in
set_option maxRecDepth 100000 in
theorem plumblaw07_fixed.calls (k : Nat)  (r : Bool) (w : World) (h : plumblaw07_fixed.f k  = some r) (hS : StaysLaid w := by first | exact HS.out | exact hS | exact StaysLaid.below HS.out HB.out | exact StaysLaid.below HS.out dB) :
  Calls Tryd.prog 19 #[] w fun e w' => e = .returned (.bool r) ∧ Below w.heap.size w w' := by
 have HS := aM (show StaysLaid w from hS)
 clear hS
 have HB := aM (Below.refl w.heap.size w)
 have H := h
 clear h
 unfold plumblaw07_fixed.f at H
 obtain ⟨y199, hy199⟩ : ∃ y_ : List Int, y_ = (([1] : List Int)) := ⟨_, rfl⟩
 replace H : ((near_Quotient.f k false y199 (([2] : List Int)) 0).bind fun bt205 => ((near_Quotient.f k true (([1] : List Int)) (([3] : List Int)) 0).bind fun bt213 => ((near_Quotient.f k false (([1] : List Int)) ([] : List Int) 0).bind fun bt218 => ((plumblaw07_num.f bt205.2).bind fun t220 => (if t220 = 0 then ((plumblaw07_num.f bt213.2).bind fun t221 => (if t221 = 0 then (if bt205.1 = 4602678819172646912 then (if bt213.1 = 13823048456275842389 then ((plumblaw07_num.f bt218.2).bind fun t222 => (some (t222 == 50))) else (none)) else (none)) else (none))) else (none)))))) = some r := by first | (rw [hy199]; with_reducible exact H) | (have H2_ := (Option.bind_some _ _).symm.trans H; rw [hy199]; with_reducible exact H2_) | (have H2_ := (Option.bind_some _ _).symm.trans H; with_reducible exact H2_) | with_reducible exact H | (rw [hy199]; exact H) | exact H
 have Ny199 := aM hy199
 clear hy199
 obtain ⟨y202, hy202⟩ : ∃ y_ : List Int, y_ = (([2] : List Int)) := ⟨_, rfl⟩
 replace H : ((near_Quotient.f k false y199 y202 0).bind fun bt205 => ((near_Quotient.f k true (([1] : List Int)) (([3] : List Int)) 0).bind fun bt213 => ((near_Quotient.f k false (([1] : List Int)) ([] : List Int) 0).bind fun bt218 => ((plumblaw07_num.f bt205.2).bind fun t220 => (if t220 = 0 then ((plumblaw07_num.f bt213.2).bind fun t221 => (if t221 = 0 then (if bt205.1 = 4602678819172646912 then (if bt213.1 = 13823048456275842389 then ((plumblaw07_num.f bt218.2).bind fun t222 => (some (t222 == 50))) else (none)) else (none)) else (none))) else (none)))))) = some r := by first | (rw [hy202]; with_reducible exact H) | (have H2_ := (Option.bind_some _ _).symm.trans H; rw [hy202]; with_reducible exact H2_) | (have H2_ := (Option.bind_some _ _).symm.trans H; with_reducible exact H2_) | with_reducible exact H | (rw [hy202]; exact H) | exact H
 have Ny202 := aM hy202
 clear hy202
 replace H := obe H
 obtain ⟨⟨t205, t206⟩, A10, H⟩ := H
 (try dsimp only at H)
 have A1 := aM A10
 clear A10
 obtain ⟨y207, hy207⟩ : ∃ y_ : List Int, y_ = (([1] : List Int)) := ⟨_, rfl⟩
 replace H : ((near_Quotient.f k true y207 (([3] : List Int)) 0).bind fun bt213 => ((near_Quotient.f k false (([1] : List Int)) ([] : List Int) 0).bind fun bt218 => ((plumblaw07_num.f t206).bind fun t220 => (if t220 = 0 then ((plumblaw07_num.f bt213.2).bind fun t221 => (if t221 = 0 then (if t205 = 4602678819172646912 then (if bt213.1 = 13823048456275842389 then ((plumblaw07_num.f bt218.2).bind fun t222 => (some (t222 == 50))) else (none)) else (none)) else (none))) else (none))))) = some r := by first | (rw [hy207]; with_reducible exact H) | (have H2_ := (Option.bind_some _ _).symm.trans H; rw [hy207]; with_reducible exact H2_) | (have H2_ := (Option.bind_some _ _).symm.trans H; with_reducible exact H2_) | with_reducible exact H | (rw [hy207]; exact H) | exact H
 have Ny207 := aM hy207
 clear hy207
 obtain ⟨y210, hy210⟩ : ∃ y_ : List Int, y_ = (([3] : List Int)) := ⟨_, rfl⟩
 replace H : ((near_Quotient.f k true y207 y210 0).bind fun bt213 => ((near_Quotient.f k false (([1] : List Int)) ([] : List Int) 0).bind fun bt218 => ((plumblaw07_num.f t206).bind fun t220 => (if t220 = 0 then ((plumblaw07_num.f bt213.2).bind fun t221 => (if t221 = 0 then (if t205 = 4602678819172646912 then (if bt213.1 = 13823048456275842389 then ((plumblaw07_num.f bt218.2).bind fun t222 => (some (t222 == 50))) else (none)) else (none)) else (none))) else (none))))) = some r := by first | (rw [hy210]; with_reducible exact H) | (have H2_ := (Option.bind_some _ _).symm.trans H; rw [hy210]; with_reducible exact H2_) | (have H2_ := (Option.bind_some _ _).symm.trans H; with_reducible exact H2_) | with_reducible exact H | (rw [hy210]; exact H) | exact H
 have Ny210 := aM hy210
 clear hy210
 replace H := obe H
 obtain ⟨⟨t213, t214⟩, A20, H⟩ := H
 (try dsimp only at H)
 have A2 := aM A20
 clear A20
 obtain ⟨y215, hy215⟩ : ∃ y_ : List Int, y_ = (([1] : List Int)) := ⟨_, rfl⟩
 replace H : ((near_Quotient.f k false y215 ([] : List Int) 0).bind fun bt218 => ((plumblaw07_num.f t206).bind fun t220 => (if t220 = 0 then ((plumblaw07_num.f t214).bind fun t221 => (if t221 = 0 then (if t205 = 4602678819172646912 then (if t213 = 13823048456275842389 then ((plumblaw07_num.f bt218.2).bind fun t222 => (some (t222 == 50))) else (none)) else (none)) else (none))) else (none)))) = some r := by first | (rw [hy215]; with_reducible exact H) | (have H2_ := (Option.bind_some _ _).symm.trans H; rw [hy215]; with_reducible exact H2_) | (have H2_ := (Option.bind_some _ _).symm.trans H; with_reducible exact H2_) | with_reducible exact H | (rw [hy215]; exact H) | exact H
 have Ny215 := aM hy215
 clear hy215
 replace H := obe H
 obtain ⟨⟨t218, t219⟩, A30, H⟩ := H
 (try dsimp only at H)
 have A3 := aM A30
 clear A30
 replace H := obe H
 obtain ⟨t220, A40, H⟩ := H
 (try dsimp only at H)
 have A4 := aM A40
 clear A40
 by_cases c5 : t220 = 0
 ·rw [if_pos c5] at H
  have c5b0 : (t220 == 0) = true := beq_iff_eq.mpr c5
  have c5b1 : (t220 != 0) = false := bne_eq_false_iff_eq.mpr c5
  clear c5
  replace H := obe H
  obtain ⟨t221, A60, H⟩ := H
  (try dsimp only at H)
  have A6 := aM A60
  clear A60
  by_cases c7 : t221 = 0
  ·rw [if_pos c7] at H
   have c7b0 : (t221 == 0) = true := beq_iff_eq.mpr c7
   have c7b1 : (t221 != 0) = false := bne_eq_false_iff_eq.mpr c7
   clear c7
   by_cases c8 : t205 = 4602678819172646912
   ·rw [if_pos c8] at H
    have c8b0 : (t205 == 4602678819172646912) = true := beq_iff_eq.mpr c8
    have c8b1 : (t205 != 4602678819172646912) = false := bne_eq_false_iff_eq.mpr c8
    clear c8
    by_cases c9 : t213 = 13823048456275842389
    ·rw [if_pos c9] at H
     have c9b0 : (t213 == 13823048456275842389) = true := beq_iff_eq.mpr c9
     have c9b1 : (t213 != 13823048456275842389) = false := bne_eq_false_iff_eq.mpr c9
     clear c9
     replace H := obe H
     obtain ⟨t222, A100, H⟩ := H
     (try dsimp only at H)
     have A10 := aM A100
     clear A100
     obtain rfl := Option.some.inj H
     go_enter Tryd.func19, Tryd.ntmps19
     go_wp2_with (first | ((with_reducible refine gate_dst (N := 8) rfl ?_); refine Kd.R_lit (Kd.int .u64) _ 26 ?hg (N := 8) ?hd (xs := ([1] : List Int)) (inner := [.int .u64 1]) (ok := fun _ => True) (okp := fun _ => True) ?hr ?hp (fun _ hk => hk) trivial (Below.refl _ _) (Nat.le_refl _) (by simp) ?_; (case hd => rfl); (case hg => rfl); (case hr => first | (go_simp; done) | (go_simp; rfl)); (case hp => exact (Reps.one (show Kd.M (Kd.int .u64) _ _ _ 1 [.int .u64 1] from rfl) (Reps.none _ _))); intro v200 w11 ho12 hb hg_ hnew_; clear hg_ hnew_; (first | rw [← Ny199.out] at ho12 | (simp only [Int.reduceToNat] at ho12; rw [← Ny199.out] at ho12)); have HO201 := aM (Kd.R_lower ho12 (below_size dB)); replace HB := hS HB.out hb; clear hb ho12) | ((with_reducible refine gate_dst (N := 9) rfl ?_); refine Kd.R_lit (Kd.int .u64) _ 26 ?hg (N := 9) ?hd (xs := ([2] : List Int)) (inner := [.int .u64 2]) (ok := fun _ => True) (okp := fun _ => True) ?hr ?hp (fun _ hk => hk) trivial (Below.refl _ _) (Nat.le_refl _) (by simp) ?_; (case hd => rfl); (case hg => rfl); (case hr => first | (go_simp; done) | (go_simp; rfl)); (case hp => exact (Reps.one (show Kd.M (Kd.int .u64) _ _ _ 2 [.int .u64 2] from rfl) (Reps.none _ _))); intro v203 w13 ho14 hb hg_ hnew_; clear hg_ hnew_; (first | rw [← Ny202.out] at ho14 | (simp only [Int.reduceToNat] at ho14; rw [← Ny202.out] at ho14)); have HO204 := aM (Kd.R_lower (Kd.R_new' ho14 (Kd.R_lt (dR HO201.out))) (below_size dB)); replace HO201 := oE HO201.out ho14 hb; replace HB := hS HB.out hb; clear hb ho14; obtain ⟨Ao15, co15, rfl⟩ := Kd.R_slice HO201.out; obtain ⟨Ao16, co16, rfl⟩ := Kd.R_slice HO204.out) | ((with_reducible refine gate_callee (f := 17) rfl ?_); refine gL (some 10) Tryd.func17 #[.bool false, .slice Ao15 y199.length co15, .slice Ao16 y202.length co16, .int .i64 0] ?_; (with_reducible refine (near_Quotient.calls k false _ _ y199 _ _ y202 0 t205 t206 _ ?side1 (Kd.R_reads' HO201.out).2.1 ?side3 (Kd.R_reads' HO204.out).2.1 A1.out).mono ?_); (case side1 => exact dC (Kd.R_reads' HO201.out).2.2); (case side3 => exact dC (Kd.R_reads' HO204.out).2.2); rintro e w17 ⟨rfl, hb⟩; refine ⟨_, rfl, ?_⟩; replace HO201 := oB HO201.out hb; replace HO204 := oB HO204.out hb; replace HB := hS HB.out hb; (try clear hb)) | ((with_reducible refine gate_dst (N := 14) rfl ?_); refine Kd.R_lit (Kd.int .u64) _ 26 ?hg (N := 14) ?hd (xs := ([1] : List Int)) (inner := [.int .u64 1]) (ok := fun _ => True) (okp := fun _ => True) ?hr ?hp (fun _ hk => hk) trivial (Below.refl _ _) (Nat.le_refl _) (by simp) ?_; (case hd => rfl); (case hg => rfl); (case hr => first | (go_simp; done) | (go_simp; rfl)); (case hp => exact (Reps.one (show Kd.M (Kd.int .u64) _ _ _ 1 [.int .u64 1] from rfl) (Reps.none _ _))); intro v208 w18 ho19 hb hg_ hnew_; clear hg_ hnew_; (first | rw [← Ny207.out] at ho19 | (simp only [Int.reduceToNat] at ho19; rw [← Ny207.out] at ho19)); have HO209 := aM (Kd.R_lower (Kd.R_new' (Kd.R_new' ho19 (Kd.R_lt (dR HO201.out))) (Kd.R_lt (dR HO204.out))) (below_size dB)); replace HO201 := oE HO201.out ho19 hb; replace HO204 := oE HO204.out ho19 hb; replace HB := hS HB.out hb; clear hb ho19) | ((with_reducible refine gate_dst (N := 15) rfl ?_); refine Kd.R_lit (Kd.int .u64) _ 26 ?hg (N := 15) ?hd (xs := ([3] : List Int)) (inner := [.int .u64 3]) (ok := fun _ => True) (okp := fun _ => True) ?hr ?hp (fun _ hk => hk) trivial (Below.refl _ _) (Nat.le_refl _) (by simp) ?_; (case hd => rfl); (case hg => rfl); (case hr => first | (go_simp; done) | (go_simp; rfl)); (case hp => exact (Reps.one (show Kd.M (Kd.int .u64) _ _ _ 3 [.int .u64 3] from rfl) (Reps.none _ _))); intro v211 w20 ho21 hb hg_ hnew_; clear hg_ hnew_; (first | rw [← Ny210.out] at ho21 | (simp only [Int.reduceToNat] at ho21; rw [← Ny210.out] at ho21)); have HO212 := aM (Kd.R_lower (Kd.R_new' (Kd.R_new' (Kd.R_new' ho21 (Kd.R_lt (dR HO201.out))) (Kd.R_lt (dR HO204.out))) (Kd.R_lt (dR HO209.out))) (below_size dB)); replace HO201 := oE HO201.out ho21 hb; replace HO204 := oE HO204.out ho21 hb; replace HO209 := oE HO209.out ho21 hb; replace HB := hS HB.out hb; clear hb ho21; obtain ⟨Ao22, co22, rfl⟩ := Kd.R_slice HO209.out; obtain ⟨Ao23, co23, rfl⟩ := Kd.R_slice HO212.out) | ((with_reducible refine gate_callee (f := 17) rfl ?_); refine gL (some 16) Tryd.func17 #[.bool true, .slice Ao22 y207.length co22, .slice Ao23 y210.length co23, .int .i64 0] ?_; (with_reducible refine (near_Quotient.calls k true _ _ y207 _ _ y210 0 t213 t214 _ ?side1 (Kd.R_reads' HO209.out).2.1 ?side3 (Kd.R_reads' HO212.out).2.1 A2.out).mono ?_); (case side1 => exact dC (Kd.R_reads' HO209.out).2.2); (case side3 => exact dC (Kd.R_reads' HO212.out).2.2); rintro e w24 ⟨rfl, hb⟩; refine ⟨_, rfl, ?_⟩; replace HO201 := oB HO201.out hb; replace HO204 := oB HO204.out hb; replace HO209 := oB HO209.out hb; replace HO212 := oB HO212.out hb; replace HB := hS HB.out hb; (try clear hb)) | ((with_reducible refine gate_dst (N := 20) rfl ?_); refine Kd.R_lit (Kd.int .u64) _ 26 ?hg (N := 20) ?hd (xs := ([1] : List Int)) (inner := [.int .u64 1]) (ok := fun _ => True) (okp := fun _ => True) ?hr ?hp (fun _ hk => hk) trivial (Below.refl _ _) (Nat.le_refl _) (by simp) ?_; (case hd => rfl); (case hg => rfl); (case hr => first | (go_simp; done) | (go_simp; rfl)); (case hp => exact (Reps.one (show Kd.M (Kd.int .u64) _ _ _ 1 [.int .u64 1] from rfl) (Reps.none _ _))); intro v216 w25 ho26 hb hg_ hnew_; clear hg_ hnew_; (first | rw [← Ny215.out] at ho26 | (simp only [Int.reduceToNat] at ho26; rw [← Ny215.out] at ho26)); have HO217 := aM (Kd.R_lower (Kd.R_new' (Kd.R_new' (Kd.R_new' (Kd.R_new' ho26 (Kd.R_lt (dR HO201.out))) (Kd.R_lt (dR HO204.out))) (Kd.R_lt (dR HO209.out))) (Kd.R_lt (dR HO212.out))) (below_size dB)); replace HO201 := oE HO201.out ho26 hb; replace HO204 := oE HO204.out ho26 hb; replace HO209 := oE HO209.out ho26 hb; replace HO212 := oE HO212.out ho26 hb; replace HB := hS HB.out hb; clear hb ho26; obtain ⟨Ao27, co27, rfl⟩ := Kd.R_slice HO217.out) | ((with_reducible refine gate_callee (f := 17) rfl ?_); refine gL (some 21) Tryd.func17 #[.bool false, .slice Ao27 y215.length co27, .slice none 0 0, .int .i64 0] ?_; (refine (near_Quotient.calls k false _ _ y215 _ _ ([] : List Int) 0 t218 t219 _ ?side1 (Kd.R_reads' HO217.out).2.1 ?side3 ?side4 A3.out).mono ?_); (case side1 => exact dC (Kd.R_reads' HO217.out).2.2); (case side3 => exact Kd.C_nil _ _); (case side4 => exact Nat.le_refl _); rintro e w28 ⟨rfl, hb⟩; refine ⟨_, rfl, ?_⟩; replace HO201 := oB HO201.out hb; replace HO204 := oB HO204.out hb; replace HO209 := oB HO209.out hb; replace HO212 := oB HO212.out hb; replace HO217 := oB HO217.out hb; replace HB := hS HB.out hb; (try clear hb)) | ((with_reducible refine gate_callee (f := 15) rfl ?_); refine gL (some 25) Tryd.func15 #[.int .i64 t206] ?_; (with_reducible refine (plumblaw07_num.calls t206 t220 _ A4.out).mono ?_); rintro e w' ⟨rfl, ⟨nd, rfl⟩⟩; refine ⟨_, rfl, ?_⟩) | (go_at_call 15; (with_reducible refine (plumblaw07_num.calls t214 t221 _ A6.out).mono ?_); rintro e w' ⟨rfl, ⟨nd, rfl⟩⟩) | (go_at_call 15; (with_reducible refine (plumblaw07_num.calls t219 t222 _ A10.out).mono ?_); rintro e w' ⟨rfl, ⟨nd, rfl⟩⟩))
     first | go_ret | (refine bodyPost_ret ?ghr ?ghd ?_; (case ghr => exact results_tmp rfl _ _ _); (case ghd => rfl))
     exact ⟨dE, dB⟩
    ·rw [if_neg c9] at H
     exact absurd H (by simp)
   ·rw [if_neg c8] at H
    exact absurd H (by simp)
  ·rw [if_neg c7] at H
   exact absurd H (by simp)
 ·rw [if_neg c5] at H
  exact absurd H (by simp)
def plumblaw07_bounded.l0 : Nat → List Int → Int → List Int → Int → Option (List Int)
 | 0, _, _, _, _ => none
 | k + 1, x0, x1, x5, x6 => if x6 < (x0.length : Int) then (if x6 < x1 then (if 0 ≤ x6 then (if x5.length < 17592186044416 then (plumblaw07_bounded.l0 k x0 x1 (x5 ++ [rd x0 x6]) (wrap64 (x6 + 1))) else (none)) else (none)) else (some x5)) else (some x5)
def plumblaw07_bounded.f (k : Nat) (l0 : List Int) (a1 : Int) : Option (List Int) := plumblaw07_bounded.l0 k l0 a1 ([] : List Int) 0
set_option maxHeartbeats 8000000 in
set_option maxRecDepth 100000 in
theorem plumblaw07_bounded.calls (k : Nat) (A0 : Option Addr) (c0 : Nat) (l0 : List Int) (a1 : Int) (r : List Int) (w : World) (hr0 : Kd.C (Kd.int .u64) w A0 l0.length l0) (hc0 : l0.length ≤ c0) (h : plumblaw07_bounded.f k l0 a1 = some r) :
  Calls Tryd.prog 20 #[.slice A0 l0.length c0, .int .i64 a1] w fun e w' => ∃ v0_ : Value, e = .returned (v0_) ∧ Kd.R (Kd.int .u64) 26 w' w.heap.size (fun _ => True) v0_ r ∧ Below w.heap.size w w' := by
 have HR0 := aM hr0
 have HC0 := aM hc0
 clear hr0 hc0
 have HB := aM (Below.refl w.heap.size w)
 have H := h
 clear h
 unfold plumblaw07_bounded.f at H
 have H' := aM H
 clear H
 go_enter Tryd.func20, Tryd.ntmps20
 go_wp2
 go_loopg [5, 6] k (fun kq v5 v6 w' => ∃ (x5_1 : List Int) (x6_1 : Int), v6 = .int .i64 x6_1 ∧ Aside0 (plumblaw07_bounded.l0 kq l0 a1 x5_1 x6_1 = some r) ∧ Aside0 (kq ≤ k) ∧ Aside0 (Kd.R (Kd.int .u64) 26 w' w.heap.size (fun _ => True) v5 x5_1) ∧ Aside0 (Below w.heap.size w w'))
 case atStart => exact ⟨(([] : List Int)), (0), dF, H', ⟨Nat.le_refl _⟩, ⟨by first | exact Kd.R_nil _ _ _ _ _ | exact Kd.N_nil _ _ _ _ _ | exact Kd.V_nil _ _ _ _ _ | exact Kd.Q_nil _ _ _ _ _ | exact Kd.S_nil _ _ _ _ _⟩, ⟨dB⟩⟩
 case round =>
  clear H'
  obtain ⟨x5_1, x6_1, rfl, HA, HK1, HO_5, HB⟩ := hrel
  cases gk with
  | zero => exact absurd HA.out (by simp [plumblaw07_bounded.l0])
  | succ k1 =>
   have H := HA.out
   clear HA
   simp only [plumblaw07_bounded.l0] at H
   by_cases c3 : x6_1 < (l0.length : Int)
   ·rw [if_pos c3] at H
    have c3b0 : decide (x6_1 < (l0.length : Int)) = true := decide_eq_true c3
    clear c3
    by_cases c4 : x6_1 < a1
    ·rw [if_pos c4] at H
     have c4b0 : decide (x6_1 < a1) = true := decide_eq_true c4
     clear c4
     by_cases c5 : (0 : Int) ≤ x6_1
     ·rw [if_pos c5] at H
      have c5b0 : decide (0 ≤ x6_1) = true := decide_eq_true c5
      clear c5
      by_cases c6 : x5_1.length < 17592186044416
      ·rw [if_pos c6] at H
       have LMc6 := aM c6
       clear c6
       obtain ⟨y224, hy224⟩ : ∃ y_ : List Int, y_ = (x5_1 ++ [rd l0 x6_1]) := ⟨_, rfl⟩
       replace H : (plumblaw07_bounded.l0 k1 l0 a1 y224 (wrap64 (x6_1 + 1))) = some r := by first | (rw [hy224]; with_reducible exact H) | (have H2_ := (Option.bind_some _ _).symm.trans H; rw [hy224]; with_reducible exact H2_) | (have H2_ := (Option.bind_some _ _).symm.trans H; with_reducible exact H2_) | with_reducible exact H | (rw [hy224]; exact H) | exact H
       have Ny224 := aM hy224
       clear hy224
       have H' := aM H
       clear H
       have p223 : 0 ≤ (x6_1 : Int) := of_decide_eq_true dS
       have q223 : x6_1 < (l0.length : Int) := of_decide_eq_true dS
       obtain ⟨ad223, e223, hx223_0⟩ := Kd.at_int HR0.out x6_1 p223 q223
       cases e223
       replace hx223_0 := (HB.out.cell (World.block_lt_of_cell? w _ hx223_0)).trans hx223_0
       replace p223 := eq_true p223
       replace q223 := eq_true q223
       go_wp2_with (first | ((with_reducible refine gate_builtin (b := .append) (xs := #[.tmp 18, .tmp 23]) rfl ?_); at_builtin; refine Kd.R_append (Kd.int .u64) (w0 := w) w.heap.size rfl (.tmp 18) (.tmp 23) 22 26 (.int .u64 0) 8 rfl Tryd.underlying22 info26 rfl (by decide) (by omega) u5 x5_1 (rd l0 x6_1) [.int .u64 (rd l0 x6_1)] (fun _ => True) (fun _ => False) rfl rfl ?aP (fun _ hk => hk.elim) ?aF ?aO ?aB ?aS ?aL ?_; (case aP => exact rfl); (case aB => exact dB); (case aF => exact (fun _ _ => trivial)); (case aO => exact (dR HO_5.out)); (case aS => exact (below_size dB)); (case aL => have := LMc6.out; omega); intro v225 w7 ho hb hg hat; rw [← Ny224.out] at ho; replace HB := aM (hb); have HO226 := aM (ho); clear HO_5; clear ho hb hg hat))
       go_roundg k1
       case measure => have := HK1.out; omega
       case rel => exact ⟨(y224), (wrap64 (x6_1 + 1)), dF, H', ⟨by have := HK1.out; omega⟩, ⟨dR HO226.out⟩, ⟨dB⟩⟩
      ·rw [if_neg c6] at H
       exact absurd H (by simp)
     ·rw [if_neg c5] at H
      exact absurd H (by simp)
    ·rw [if_neg c4] at H
     have c4b0 : decide (x6_1 < a1) = false := decide_eq_false c4
     clear c4
     obtain rfl := Option.some.inj H
     go_wp2
     go_ret
     exact ⟨_, dE, dR HO_5.out, dB⟩
   ·rw [if_neg c3] at H
    have c3b0 : decide (x6_1 < (l0.length : Int)) = false := decide_eq_false c3
    clear c3
    obtain rfl := Option.some.inj H
    go_wp2
    go_ret
    exact ⟨_, dE, dR HO_5.out, dB⟩
def quot_Gcd.l0 : Nat → List Int → List Int → Option (List Int)
 | 0, _, _ => none
 | k + 1, x0, x1 => if (x1.length : Int) > 0 then ((quot_DivMod.f k x0 x1).bind fun bt233 => (quot_Gcd.l0 k x1 bt233.2.1)) else (some x0)
def quot_Gcd.f (k : Nat) (l0 : List Int) (l1 : List Int) : Option (List Int) := (nat_Norm.f l0).bind fun t227 => ((nat_Norm.f l1).bind fun t230 => (quot_Gcd.l0 k t227 t230))
set_option maxHeartbeats 8000000 in
set_option maxRecDepth 100000 in
theorem quot_Gcd.calls (k : Nat) (A0 : Option Addr) (c0 : Nat) (l0 : List Int) (A1 : Option Addr) (c1 : Nat) (l1 : List Int) (r : List Int) (w : World) (hr0 : Kd.C (Kd.int .u64) w A0 l0.length l0) (hc0 : l0.length ≤ c0) (hr1 : Kd.C (Kd.int .u64) w A1 l1.length l1) (hc1 : l1.length ≤ c1) (h : quot_Gcd.f k l0 l1 = some r) :
  Calls Tryd.prog 97 #[.slice A0 l0.length c0, .slice A1 l1.length c1] w fun e w' => ∃ v0_ : Value, e = .returned (v0_) ∧ Kd.R (Kd.int .u64) 26 w' w.heap.size (fun _ => True) v0_ r ∧ Below w.heap.size w w' := by
 have HR0 := aM hr0
 have HC0 := aM hc0
 clear hr0 hc0
 have HR1 := aM hr1
 have HC1 := aM hc1
 clear hr1 hc1
 have HB := aM (Below.refl w.heap.size w)
 have H := h
 clear h
 unfold quot_Gcd.f at H
 replace H := obe H
 obtain ⟨t227, A30, H⟩ := H
 (try dsimp only at H)
 have A3 := aM A30
 clear A30
 replace H := obe H
 obtain ⟨t230, A40, H⟩ := H
 (try dsimp only at H)
 have A4 := aM A40
 clear A40
 have H' := aM H
 clear H
 go_enter Tryd.func97, Tryd.ntmps97
 go_wp2_with (first | ((with_reducible refine gate_callee (f := 51) rfl ?_); refine gL (some 9) Tryd.func51 #[.slice A0 l0.length c0] ?_; (with_reducible refine (nat_Norm.calls _ _ l0 t227 _ ?side1 HC0.out A3.out).mono ?_); (case side1 => exact dC HR0.out); rintro e w5 ⟨v228, rfl, ho0, hb⟩; refine ⟨_, rfl, ?_⟩; have HO229 := aM (Kd.R_lower ho0 (below_size dB)); replace HB := hS HB.out hb; (try clear hb); (try clear ho0)) | ((with_reducible refine gate_callee (f := 51) rfl ?_); refine gL (some 11) Tryd.func51 #[.slice A1 l1.length c1] ?_; (with_reducible refine (nat_Norm.calls _ _ l1 t230 _ ?side1 HC1.out A4.out).mono ?_); (case side1 => exact dC (Kd.C_below HR1.out HB.out)); rintro e w6 ⟨v231, rfl, ho0, hb⟩; refine ⟨_, rfl, ?_⟩; have HO232 := aM (Kd.R_lower (Kd.R_new' ho0 (Kd.R_lt (dR HO229.out))) (below_size dB)); replace HO229 := oE HO229.out ho0 hb; replace HB := hS HB.out hb; (try clear hb); (try clear ho0)))
 go_loopg [0, 1] k (fun kq v0 v1 w' => ∃ (x0_1 : List Int) (x1_1 : List Int), Aside0 (quot_Gcd.l0 kq x0_1 x1_1 = some r) ∧ Aside0 (kq ≤ k) ∧ Aside0 (Kd.R (Kd.int .u64) 26 w' w.heap.size (fun k_ => some k_ ≠ (v1 : Value).ownBlock) v0 x0_1) ∧ Aside0 (Kd.R (Kd.int .u64) 26 w' w.heap.size (fun k_ => some k_ ≠ (v0 : Value).ownBlock) v1 x1_1) ∧ Aside0 (Below w.heap.size w w'))
 case atStart => exact ⟨(t227), (t230), H', ⟨Nat.le_refl _⟩, ⟨by (with_reducible repeat (first | apply Kd.R_alloc | apply Kd.R_drewN | apply Kd.R_drew)); exact Kd.R_mono HO229.out (fun _ hk => hk.2)⟩, ⟨by (with_reducible repeat (first | apply Kd.R_alloc | apply Kd.R_drewN | apply Kd.R_drew)); exact Kd.R_mono HO232.out (fun _ hk => hk.2)⟩, ⟨dB⟩⟩
 case round =>
  clear H'
  try clear c1
  obtain ⟨x0_1, x1_1, HA, HK1, HO_0, HO_1, HB⟩ := hrel
  cases gk with
  | zero => exact absurd HA.out (by simp [quot_Gcd.l0])
  | succ k1 =>
   have H := HA.out
   clear HA
   simp only [quot_Gcd.l0] at H
   by_cases c7 : (x1_1.length : Int) > 0
   ·rw [if_pos c7] at H
    have c7b0 : decide (0 < (x1_1.length : Int)) = true := decide_eq_true c7
    have c7b1 : decide (0 < x1_1.length) = true := decide_eq_true (by omega)
    clear c7
    replace H := obe H
    obtain ⟨⟨t233, t234, t235⟩, A80, H⟩ := H
    (try dsimp only at H)
    have A8 := aM A80
    clear A80
    have H' := aM H
    clear H
    obtain ⟨Ao9, co9, rfl⟩ := Kd.R_slice HO_1.out
    obtain ⟨Ao10, co10, rfl⟩ := Kd.R_slice HO_0.out
    go_wp2_with (first | ((with_reducible refine gate_callee (f := 53) rfl ?_); refine gL (some 18) Tryd.func53 #[.slice Ao10 x0_1.length co10, .slice Ao9 x1_1.length co9] ?_; (with_reducible refine (quot_DivMod.calls k1 _ _ x0_1 _ _ x1_1 t233 t234 t235 _ ?side1 (Kd.R_reads' HO_0.out).2.1 ?side3 (Kd.R_reads' HO_1.out).2.1 A8.out).mono ?_); (case side1 => exact dC (Kd.R_reads' HO_0.out).2.2); (case side3 => exact dC (Kd.R_reads' HO_1.out).2.2); rintro e w11 ⟨v236, v238, rfl, ho0, ho1, hb⟩; refine ⟨_, rfl, ?_⟩; have HO237 := aM (Kd.R_lower (Kd.R_new' (Kd.R_new' ho0 (Kd.R_lt (dR HO_0.out))) (Kd.R_lt (dR HO_1.out))) (below_size dB)); have HO239 := aM (Kd.R_lower (Kd.R_new' (Kd.R_new' ho1 (Kd.R_lt (dR HO_0.out))) (Kd.R_lt (dR HO_1.out))) (below_size dB)); replace HO_0 := aM (Kd.R_mono (Kd.R_told (Kd.R_told (Kd.R_old (dR HO_0.out) hb) (Kd.R_base ho0)) (Kd.R_base ho1)) (fun _ h_ => h_.1)); replace HO_1 := aM (Kd.R_mono (Kd.R_told (Kd.R_told (Kd.R_old (dR HO_1.out) hb) (Kd.R_base ho0)) (Kd.R_base ho1)) (fun _ h_ => h_.1)); replace HB := hS HB.out hb; (try clear hb); (try clear ho0); (try clear ho1)))
    go_roundg k1
    case measure => have := HK1.out; omega
    case rel => exact ⟨(x1_1), (t234), H', ⟨by have := HK1.out; omega⟩, ⟨by (with_reducible repeat (first | apply Kd.R_alloc | apply Kd.R_drewN | apply Kd.R_drew)); exact Kd.R_mono HO_1.out (fun _ hk => hk.2)⟩, ⟨by (with_reducible repeat (first | apply Kd.R_alloc | apply Kd.R_drewN | apply Kd.R_drew)); exact Kd.R_mono HO239.out (fun _ hk => hk.2)⟩, ⟨dB⟩⟩
   ·rw [if_neg c7] at H
    have c7b0 : decide (0 < (x1_1.length : Int)) = false := decide_eq_false c7
    have c7b1 : decide (0 < x1_1.length) = false := decide_eq_false (by omega)
    clear c7
    obtain rfl := Option.some.inj H
    obtain ⟨Ao12, co12, rfl⟩ := Kd.R_slice HO_1.out
    go_wp2
    go_ret
    exact ⟨_, dE, by (with_reducible repeat (first | apply Kd.R_alloc | apply Kd.R_drewN | apply Kd.R_drew)); exact Kd.R_mono HO_0.out (fun _ hk => trivial), dB⟩
def quot_Lowest.f (k : Nat) (l0 : List Int) (l1 : List Int) : Option (List Int × List Int) := (quot_Gcd.f k l0 l1).bind fun t240 => (if (t240.length : Int) = 0 then (some (([] : List Int), ([] : List Int))) else ((quot_DivMod.f k l0 t240).bind fun bt243 => ((quot_DivMod.f k l1 t240).bind fun bt250 => (some (bt243.1, bt250.1)))))
set_option maxHeartbeats 8000000 in
set_option maxRecDepth 100000 in
theorem quot_Lowest.calls (k : Nat) (A0 : Option Addr) (c0 : Nat) (l0 : List Int) (A1 : Option Addr) (c1 : Nat) (l1 : List Int) (r1 : List Int) (r2 : List Int) (w : World) (hr0 : Kd.C (Kd.int .u64) w A0 l0.length l0) (hc0 : l0.length ≤ c0) (hr1 : Kd.C (Kd.int .u64) w A1 l1.length l1) (hc1 : l1.length ≤ c1) (h : quot_Lowest.f k l0 l1 = some (r1, r2)) :
  Calls Tryd.prog 101 #[.slice A0 l0.length c0, .slice A1 l1.length c1] w fun e w' => ∃ v0_ v1_ : Value, e = .returned (.tuple #[v0_, v1_]) ∧ Kd.R (Kd.int .u64) 26 w' w.heap.size (fun k_ => some k_ ≠ (v1_ : Value).ownBlock) v0_ r1 ∧ Kd.R (Kd.int .u64) 26 w' w.heap.size (fun k_ => some k_ ≠ (v0_ : Value).ownBlock) v1_ r2 ∧ Below w.heap.size w w' := by
 have HR0 := aM hr0
 have HC0 := aM hc0
 clear hr0 hc0
 have HR1 := aM hr1
 have HC1 := aM hc1
 clear hr1 hc1
 have HB := aM (Below.refl w.heap.size w)
 have H := h
 clear h
 unfold quot_Lowest.f at H
 replace H := obe H
 obtain ⟨t240, A30, H⟩ := H
 (try dsimp only at H)
 have A3 := aM A30
 clear A30
 by_cases c4 : (t240.length : Int) = 0
 ·rw [if_pos c4] at H
  have c4b0 : ((t240.length : Int) == 0) = true := beq_iff_eq.mpr c4
  have c4b1 : ((t240.length : Int) != 0) = false := bne_eq_false_iff_eq.mpr c4
  clear c4
  simp only [Option.some.injEq, Prod.mk.injEq] at H
  obtain ⟨rfl, rfl⟩ := H
  go_enter Tryd.func101, Tryd.ntmps101
  go_wp2_with (first | ((with_reducible refine gate_callee (f := 97) rfl ?_); refine gL (some 15) Tryd.func97 #[.slice A0 l0.length c0, .slice A1 l1.length c1] ?_; (with_reducible refine (quot_Gcd.calls k _ _ l0 _ _ l1 t240 _ ?side1 HC0.out ?side3 HC1.out A3.out).mono ?_); (case side1 => exact dC HR0.out); (case side3 => exact dC HR1.out); rintro e w5 ⟨v241, rfl, ho0, hb⟩; refine ⟨_, rfl, ?_⟩; have HO242 := aM (Kd.R_lower ho0 (below_size dB)); replace HB := hS HB.out hb; (try clear hb); (try clear ho0); obtain ⟨Ao6, co6, rfl⟩ := Kd.R_slice HO242.out))
  go_ret2
  exact ⟨_, _, dE, by first | exact Kd.R_nil _ _ _ _ _ | exact Kd.N_nil _ _ _ _ _ | exact Kd.V_nil _ _ _ _ _ | exact Kd.Q_nil _ _ _ _ _ | exact Kd.S_nil _ _ _ _ _, by first | exact Kd.R_nil _ _ _ _ _ | exact Kd.N_nil _ _ _ _ _ | exact Kd.V_nil _ _ _ _ _ | exact Kd.Q_nil _ _ _ _ _ | exact Kd.S_nil _ _ _ _ _, dB⟩
 ·rw [if_neg c4] at H
  have c4b0 : ((t240.length : Int) == 0) = false := beq_eq_false_iff_ne.mpr c4
  have c4b1 : ((t240.length : Int) != 0) = true := bne_iff_ne.mpr c4
  have c4b2 : ¬ (t240 = []) := fun h_ => c4 (by rw [h_]; rfl)
  replace H := obe H
  obtain ⟨⟨t243, t244, t245⟩, A70, H⟩ := H
  (try dsimp only at H)
  have A7 := aM A70
  clear A70
  replace H := obe H
  obtain ⟨⟨t250, t251, t252⟩, A80, H⟩ := H
  (try dsimp only at H)
  have A8 := aM A80
  clear A80
  simp only [Option.some.injEq, Prod.mk.injEq] at H
  obtain ⟨rfl, rfl⟩ := H
  go_enter Tryd.func101, Tryd.ntmps101
  go_wp2_with (first | ((with_reducible refine gate_callee (f := 97) rfl ?_); refine gL (some 15) Tryd.func97 #[.slice A0 l0.length c0, .slice A1 l1.length c1] ?_; (with_reducible refine (quot_Gcd.calls k _ _ l0 _ _ l1 t240 _ ?side1 HC0.out ?side3 HC1.out A3.out).mono ?_); (case side1 => exact dC HR0.out); (case side3 => exact dC HR1.out); rintro e w9 ⟨v241, rfl, ho0, hb⟩; refine ⟨_, rfl, ?_⟩; have HO242 := aM (Kd.R_lower ho0 (below_size dB)); replace HB := hS HB.out hb; (try clear hb); (try clear ho0); obtain ⟨Ao10, co10, rfl⟩ := Kd.R_slice HO242.out) | ((with_reducible refine gate_callee (f := 53) rfl ?_); refine gL (some 22) Tryd.func53 #[.slice A0 l0.length c0, .slice Ao10 t240.length co10] ?_; (with_reducible refine (quot_DivMod.calls k _ _ l0 _ _ t240 t243 t244 t245 _ ?side1 HC0.out ?side3 (Kd.R_reads' HO242.out).2.1 A7.out).mono ?_); (case side1 => exact dC (Kd.C_below HR0.out HB.out)); (case side3 => exact dC (Kd.R_reads' HO242.out).2.2); rintro e w11 ⟨v246, v248, rfl, ho0, ho1, hb⟩; refine ⟨_, rfl, ?_⟩; have HO247 := aM (Kd.R_lower (Kd.R_new' ho0 (Kd.R_lt (dR HO242.out))) (below_size dB)); have HO249 := aM (Kd.R_lower (Kd.R_new' ho1 (Kd.R_lt (dR HO242.out))) (below_size dB)); replace HO242 := aM (Kd.R_mono (Kd.R_told (Kd.R_told (Kd.R_old (dR HO242.out) hb) (Kd.R_base ho0)) (Kd.R_base ho1)) (fun _ h_ => h_.1)); replace HB := hS HB.out hb; (try clear hb); (try clear ho0); (try clear ho1)) | ((with_reducible refine gate_callee (f := 53) rfl ?_); refine gL (some 29) Tryd.func53 #[.slice A1 l1.length c1, .slice Ao10 t240.length co10] ?_; (with_reducible refine (quot_DivMod.calls k _ _ l1 _ _ t240 t250 t251 t252 _ ?side1 HC1.out ?side3 (Kd.R_reads' HO242.out).2.1 A8.out).mono ?_); (case side1 => exact dC (Kd.C_below HR1.out HB.out)); (case side3 => exact dC (Kd.R_reads' HO242.out).2.2); rintro e w12 ⟨v253, v255, rfl, ho0, ho1, hb⟩; refine ⟨_, rfl, ?_⟩; have HO254 := aM (Kd.R_lower (Kd.R_new' (Kd.R_new' (Kd.R_new' ho0 (Kd.R_lt (dR HO242.out))) (Kd.R_lt (dR HO247.out))) (Kd.R_lt (dR HO249.out))) (below_size dB)); have HO256 := aM (Kd.R_lower (Kd.R_new' (Kd.R_new' (Kd.R_new' ho1 (Kd.R_lt (dR HO242.out))) (Kd.R_lt (dR HO247.out))) (Kd.R_lt (dR HO249.out))) (below_size dB)); replace HO242 := aM (Kd.R_mono (Kd.R_told (Kd.R_told (Kd.R_old (dR HO242.out) hb) (Kd.R_base ho0)) (Kd.R_base ho1)) (fun _ h_ => h_.1)); replace HO247 := aM (Kd.R_mono (Kd.R_told (Kd.R_told (Kd.R_old (dR HO247.out) hb) (Kd.R_base ho0)) (Kd.R_base ho1)) (fun _ h_ => h_.1)); replace HO249 := aM (Kd.R_mono (Kd.R_told (Kd.R_told (Kd.R_old (dR HO249.out) hb) (Kd.R_base ho0)) (Kd.R_base ho1)) (fun _ h_ => h_.1)); replace HB := hS HB.out hb; (try clear hb); (try clear ho0); (try clear ho1)))
  go_ret2
  exact ⟨_, _, dE, by (with_reducible repeat (first | apply Kd.R_alloc | apply Kd.R_drewN | apply Kd.R_drew)); exact Kd.R_mono HO247.out (fun _ hk => hk.1.2), by (with_reducible repeat (first | apply Kd.R_alloc | apply Kd.R_drewN | apply Kd.R_drew)); exact Kd.R_mono HO254.out (fun _ hk => hk.1.2), dB⟩
def rat_lowest.f (k : Nat) (a0 : Bool) (l1 : List Int) (l2 : List Int) : Option (Bool × List Int × List Int) := (quot_Lowest.f k l1 l2).bind fun bt420 => (if a0 = true then (some (decide ((bt420.1.length : Int) > 0), bt420.1, bt420.2)) else (some (false, bt420.1, bt420.2)))
set_option maxHeartbeats 8000000 in
set_option maxRecDepth 100000 in
theorem rat_lowest.calls (k : Nat) (a0 : Bool) (A1 : Option Addr) (c1 : Nat) (l1 : List Int) (A2 : Option Addr) (c2 : Nat) (l2 : List Int) (r1 : Bool) (r2 : List Int) (r3 : List Int) (w : World) (hr1 : Kd.C (Kd.int .u64) w A1 l1.length l1) (hc1 : l1.length ≤ c1) (hr2 : Kd.C (Kd.int .u64) w A2 l2.length l2) (hc2 : l2.length ≤ c2) (h : rat_lowest.f k a0 l1 l2 = some (r1, r2, r3)) :
  Calls Tryd.prog 74 #[.bool a0, .slice A1 l1.length c1, .slice A2 l2.length c2] w fun e w' => ∃ v1_ v2_ : Value, e = .returned (.agg #[.bool r1, v1_, v2_]) ∧ Kd.R (Kd.int .u64) 26 w' w.heap.size (fun k_ => some k_ ≠ (v2_ : Value).ownBlock) v1_ r2 ∧ Kd.R (Kd.int .u64) 26 w' w.heap.size (fun k_ => some k_ ≠ (v1_ : Value).ownBlock) v2_ r3 ∧ Below w.heap.size w w' := by
 have hu46 := Tryd.underlying46
 have HR1 := aM hr1
 have HC1 := aM hc1
 clear hr1 hc1
 have HR2 := aM hr2
 have HC2 := aM hc2
 clear hr2 hc2
 have HB := aM (Below.refl w.heap.size w)
 have H := h
 clear h
 unfold rat_lowest.f at H
 replace H := obe H
 obtain ⟨⟨t420, t421⟩, A40, H⟩ := H
 (try dsimp only at H)
 have A4 := aM A40
 clear A40
 by_cases c5 : a0 = true
 ·subst c5
  rw [if_pos rfl] at H
  (try dsimp only at H)
  simp only [Option.some.injEq, Prod.mk.injEq] at H
  obtain ⟨rfl, rfl, rfl⟩ := H
  go_enter Tryd.func74, Tryd.ntmps74
  go_wp2_with (first | ((with_reducible refine gate_dst (N := 6) rfl ?_); (try (refine gate_guard (by rfl) ?_; dsimp only)); refine bE 6 #[.bool false, .slice none 0 0, .slice none 0 0] 46 ?_; intro gb419 hg w6 hbox hb; have BK419 := aM (hbox); have GE419 : Aside0 (w.heap.size ≤ gb419) := gE hg; replace HB := hS HB.out hb; clear hb hbox hg) | ((with_reducible refine gate_callee (f := 101) rfl ?_); refine gL (some 12) Tryd.func101 #[.slice A1 l1.length c1, .slice A2 l2.length c2] ?_; (with_reducible refine (quot_Lowest.calls k _ _ l1 _ _ l2 t420 t421 _ ?side1 HC1.out ?side3 HC2.out A4.out).mono ?_); (case side1 => exact dC (Kd.C_below HR1.out HB.out)); (case side3 => exact dC (Kd.C_below HR2.out HB.out)); rintro e w7 ⟨v422, v424, rfl, ho0, ho1, hb⟩; refine ⟨_, rfl, ?_⟩; have HO423 := aM (Kd.R_lower ho0 (below_size eB)); have HO425 := aM (Kd.R_lower ho1 (below_size eB)); replace BK419 := bB BK419.out hb; replace HB := hS HB.out hb; (try clear hb); (try clear ho0); (try clear ho1); obtain ⟨Ao8, co8, rfl⟩ := Kd.R_slice HO423.out; obtain ⟨Ao9, co9, rfl⟩ := Kd.R_slice HO425.out; obtain ⟨hcz10_0, hcz10_1, hcz10_2⟩ := cz3 BK419.out; obtain ⟨hfz10_0, hfz10_1, hfz10_2⟩ := fz3 BK419.out))
  (try rw [show decide (0 < t420.length) = decide ((t420.length : Int) > 0) from by rw [decide_eq_decide]; omega])
  refine bodyPost_ret (results_cell_row rfl _ _ gb419 46 #[.bool (decide ((t420.length : Int) > 0)), .slice Ao8 t420.length co8, .slice Ao9 t421.length co9] (0, 0) _ rfl (dP BK419.out) Tryd.underlying46 rfl (by kernel_rfl)) rfl ?_
  exact ⟨_, _, dE, by (with_reducible repeat (first | apply Kd.R_alloc | apply Kd.R_drewN | apply Kd.R_drew)); exact rX HO423.out BK419.out, by (with_reducible repeat (first | apply Kd.R_alloc | apply Kd.R_drewN | apply Kd.R_drew)); exact rX HO425.out BK419.out, dG GE419.out⟩
 ·replace c5 := Bool.eq_false_iff.mpr c5
  subst c5
  rw [if_neg (show ¬ (false = true) by decide)] at H
  (try dsimp only at H)
  simp only [Option.some.injEq, Prod.mk.injEq] at H
  obtain ⟨rfl, rfl, rfl⟩ := H
  go_enter Tryd.func74, Tryd.ntmps74
  go_wp2_with (first | ((with_reducible refine gate_dst (N := 6) rfl ?_); (try (refine gate_guard (by rfl) ?_; dsimp only)); refine bE 6 #[.bool false, .slice none 0 0, .slice none 0 0] 46 ?_; intro gb419 hg w11 hbox hb; have BK419 := aM (hbox); have GE419 : Aside0 (w.heap.size ≤ gb419) := gE hg; replace HB := hS HB.out hb; clear hb hbox hg) | ((with_reducible refine gate_callee (f := 101) rfl ?_); refine gL (some 12) Tryd.func101 #[.slice A1 l1.length c1, .slice A2 l2.length c2] ?_; (with_reducible refine (quot_Lowest.calls k _ _ l1 _ _ l2 t420 t421 _ ?side1 HC1.out ?side3 HC2.out A4.out).mono ?_); (case side1 => exact dC (Kd.C_below HR1.out HB.out)); (case side3 => exact dC (Kd.C_below HR2.out HB.out)); rintro e w12 ⟨v422, v424, rfl, ho0, ho1, hb⟩; refine ⟨_, rfl, ?_⟩; have HO423 := aM (Kd.R_lower ho0 (below_size eB)); have HO425 := aM (Kd.R_lower ho1 (below_size eB)); replace BK419 := bB BK419.out hb; replace HB := hS HB.out hb; (try clear hb); (try clear ho0); (try clear ho1); obtain ⟨Ao13, co13, rfl⟩ := Kd.R_slice HO425.out; obtain ⟨Ao14, co14, rfl⟩ := Kd.R_slice HO423.out; obtain ⟨hcz15_0, hcz15_1, hcz15_2⟩ := cz3 BK419.out; obtain ⟨hfz15_0, hfz15_1, hfz15_2⟩ := fz3 BK419.out))
  refine bodyPost_ret (results_cell_row rfl _ _ gb419 46 #[.bool false, .slice Ao14 t420.length co14, .slice Ao13 t421.length co13] (0, 0) _ rfl (dP BK419.out) Tryd.underlying46 rfl (by kernel_rfl)) rfl ?_
  exact ⟨_, _, dE, by (with_reducible repeat (first | apply Kd.R_alloc | apply Kd.R_drewN | apply Kd.R_drew)); exact rX HO423.out BK419.out, by (with_reducible repeat (first | apply Kd.R_alloc | apply Kd.R_drewN | apply Kd.R_drew)); exact rX HO425.out BK419.out, dG GE419.out⟩
def rat_New.f (k : Nat) (a0 : Bool) (l1 : List Int) (l2 : List Int) : Option (Bool × List Int × List Int × Int) := (nat_Norm.f l1).bind fun t258 => ((nat_Norm.f l2).bind fun t261 => (if (t261.length : Int) = 0 then (none) else (if (t258.length : Int) > 4096 then (none) else (if (t261.length : Int) > 4096 then (none) else ((rat_lowest.f k a0 t258 t261).bind fun bt264 => (some (bt264.1, bt264.2.1, bt264.2.2, 0)))))))
set_option maxHeartbeats 8000000 in
set_option maxRecDepth 100000 in
theorem rat_New.calls (k : Nat) (a0 : Bool) (A1 : Option Addr) (c1 : Nat) (l1 : List Int) (A2 : Option Addr) (c2 : Nat) (l2 : List Int) (r1 : Bool) (r2 : List Int) (r3 : List Int) (r4 : Int) (w : World) (hr1 : Kd.C (Kd.int .u64) w A1 l1.length l1) (hc1 : l1.length ≤ c1) (hr2 : Kd.C (Kd.int .u64) w A2 l2.length l2) (hc2 : l2.length ≤ c2) (h : rat_New.f k a0 l1 l2 = some (r1, r2, r3, r4)) :
  Calls Tryd.prog 59 #[.bool a0, .slice A1 l1.length c1, .slice A2 l2.length c2] w fun e w' => ∃ v1_ v2_ : Value, e = .returned (.tuple #[.agg #[.bool r1, v1_, v2_], .int .i64 r4]) ∧ Kd.R (Kd.int .u64) 26 w' w.heap.size (fun k_ => some k_ ≠ (v2_ : Value).ownBlock) v1_ r2 ∧ Kd.R (Kd.int .u64) 26 w' w.heap.size (fun k_ => some k_ ≠ (v1_ : Value).ownBlock) v2_ r3 ∧ Below w.heap.size w w' := by
 have hu46 := Tryd.underlying46
 have HR1 := aM hr1
 have HC1 := aM hc1
 clear hr1 hc1
 have HR2 := aM hr2
 have HC2 := aM hc2
 clear hr2 hc2
 have HB := aM (Below.refl w.heap.size w)
 have H := h
 clear h
 unfold rat_New.f at H
 replace H := obe H
 obtain ⟨t258, A40, H⟩ := H
 (try dsimp only at H)
 have A4 := aM A40
 clear A40
 replace H := obe H
 obtain ⟨t261, A50, H⟩ := H
 (try dsimp only at H)
 have A5 := aM A50
 clear A50
 by_cases c6 : (t261.length : Int) = 0
 ·rw [if_pos c6] at H
  have c6b0 : ((t261.length : Int) == 0) = true := beq_iff_eq.mpr c6
  have c6b1 : ((t261.length : Int) != 0) = false := bne_eq_false_iff_eq.mpr c6
  clear c6
  exact absurd H (by simp)
 ·rw [if_neg c6] at H
  have c6b0 : ((t261.length : Int) == 0) = false := beq_eq_false_iff_ne.mpr c6
  have c6b1 : ((t261.length : Int) != 0) = true := bne_iff_ne.mpr c6
  have c6b2 : ¬ (t261 = []) := fun h_ => c6 (by rw [h_]; rfl)
  by_cases c7 : (t258.length : Int) > 4096
  ·rw [if_pos c7] at H
   have c7b0 : decide (4096 < (t258.length : Int)) = true := decide_eq_true c7
   have c7b1 : decide (4096 < t258.length) = true := decide_eq_true (by omega)
   clear c7
   exact absurd H (by simp)
  ·rw [if_neg c7] at H
   have c7b0 : decide (4096 < (t258.length : Int)) = false := decide_eq_false c7
   have c7b1 : decide (4096 < t258.length) = false := decide_eq_false (by omega)
   clear c7
   by_cases c8 : (t261.length : Int) > 4096
   ·rw [if_pos c8] at H
    have c8b0 : decide (4096 < (t261.length : Int)) = true := decide_eq_true c8
    have c8b1 : decide (4096 < t261.length) = true := decide_eq_true (by omega)
    clear c8
    exact absurd H (by simp)
   ·rw [if_neg c8] at H
    have c8b0 : decide (4096 < (t261.length : Int)) = false := decide_eq_false c8
    have c8b1 : decide (4096 < t261.length) = false := decide_eq_false (by omega)
    clear c8
    replace H := obe H
    obtain ⟨⟨t264, t265, t268⟩, A90, H⟩ := H
    (try dsimp only at H)
    have A9 := aM A90
    clear A90
    simp only [Option.some.injEq, Prod.mk.injEq] at H
    obtain ⟨rfl, rfl, rfl, rfl⟩ := H
    go_enter Tryd.func59, Tryd.ntmps59
    go_wp2_with (first | ((with_reducible refine gate_dst (N := 6) rfl ?_); (try (refine gate_guard (by rfl) ?_; dsimp only)); refine bE 6 #[.bool false, .slice none 0 0, .slice none 0 0] 46 ?_; intro gb257 hg w10 hbox hb; have BK257 := aM (hbox); have GE257 : Aside0 (w.heap.size ≤ gb257) := gE hg; replace HB := hS HB.out hb; clear hb hbox hg) | ((with_reducible refine gate_callee (f := 51) rfl ?_); refine gL (some 9) Tryd.func51 #[.slice A1 l1.length c1] ?_; (with_reducible refine (nat_Norm.calls _ _ l1 t258 _ ?side1 HC1.out A4.out).mono ?_); (case side1 => exact dC (Kd.C_below HR1.out HB.out)); rintro e w11 ⟨v259, rfl, ho0, hb⟩; refine ⟨_, rfl, ?_⟩; have HO260 := aM (Kd.R_lower ho0 (below_size eB)); replace BK257 := bB BK257.out hb; replace HB := hS HB.out hb; (try clear hb); (try clear ho0)) | ((with_reducible refine gate_callee (f := 51) rfl ?_); refine gL (some 11) Tryd.func51 #[.slice A2 l2.length c2] ?_; (with_reducible refine (nat_Norm.calls _ _ l2 t261 _ ?side1 HC2.out A5.out).mono ?_); (case side1 => exact dC (Kd.C_below HR2.out HB.out)); rintro e w12 ⟨v262, rfl, ho0, hb⟩; refine ⟨_, rfl, ?_⟩; have HO263 := aM (Kd.R_lower (Kd.R_new' ho0 (Kd.R_lt (dR HO260.out))) (below_size eB)); replace HO260 := oE HO260.out ho0 hb; replace BK257 := bB BK257.out hb; replace HB := hS HB.out hb; (try clear hb); (try clear ho0); obtain ⟨Ao13, co13, rfl⟩ := Kd.R_slice HO263.out; obtain ⟨Ao14, co14, rfl⟩ := Kd.R_slice HO260.out) | ((with_reducible refine gate_callee (f := 74) rfl ?_); refine gL (some 30) Tryd.func74 #[.bool a0, .slice Ao14 t258.length co14, .slice Ao13 t261.length co13] ?_; (with_reducible refine (rat_lowest.calls k a0 _ _ t258 _ _ t261 t264 t265 t268 _ ?side1 (Kd.R_reads' HO260.out).2.1 ?side3 (Kd.R_reads' HO263.out).2.1 A9.out).mono ?_); (case side1 => exact dC (Kd.R_reads' HO260.out).2.2); (case side3 => exact dC (Kd.R_reads' HO263.out).2.2); rintro e w15 ⟨v266, v269, rfl, ho0, ho1, hb⟩; refine ⟨_, rfl, ?_⟩; have HO267 := aM (Kd.R_lower (Kd.R_new' (Kd.R_new' ho0 (Kd.R_lt (dR HO260.out))) (Kd.R_lt (dR HO263.out))) (below_size eB)); have HO270 := aM (Kd.R_lower (Kd.R_new' (Kd.R_new' ho1 (Kd.R_lt (dR HO260.out))) (Kd.R_lt (dR HO263.out))) (below_size eB)); replace HO260 := aM (Kd.R_mono (Kd.R_told (Kd.R_told (Kd.R_old (dR HO260.out) hb) (Kd.R_base ho0)) (Kd.R_base ho1)) (fun _ h_ => h_.1)); replace HO263 := aM (Kd.R_mono (Kd.R_told (Kd.R_told (Kd.R_old (dR HO263.out) hb) (Kd.R_base ho0)) (Kd.R_base ho1)) (fun _ h_ => h_.1)); replace BK257 := bB BK257.out hb; replace HB := hS HB.out hb; (try clear hb); (try clear ho0); (try clear ho1); obtain ⟨hcz16_0, hcz16_1, hcz16_2⟩ := cz3 BK257.out; obtain ⟨hfz16_0, hfz16_1, hfz16_2⟩ := fz3 BK257.out; obtain ⟨Ao17, co17, rfl⟩ := Kd.R_slice HO267.out; obtain ⟨Ao18, co18, rfl⟩ := Kd.R_slice HO270.out))
    refine bodyPost_ret (results_ct rfl _ _ gb257 46 #[.bool t264, .slice Ao17 t265.length co17, .slice Ao18 t268.length co18] (0, 0) _ rfl (dP BK257.out) Tryd.underlying46 rfl (by kernel_rfl)) rfl ?_
    exact ⟨_, _, dE, by (with_reducible repeat (first | apply Kd.R_alloc | apply Kd.R_drewN | apply Kd.R_drew)); exact Kd.R_mono (Kd.R_far (p := ⟨gb257, 2, none⟩) (Kd.R_far (p := ⟨gb257, 1, none⟩) (Kd.R_far (p := ⟨gb257, 0, none⟩) (Kd.R_types HO267.out BK257.out (by decide)) (fun _ hk => hk.2) (.bool t264)) (fun _ hk => hk.2) (.slice Ao17 t265.length co17)) (fun _ hk => hk.2) (.slice Ao18 t268.length co18)) (fun _ hk => hk.1.1.1), by (with_reducible repeat (first | apply Kd.R_alloc | apply Kd.R_drewN | apply Kd.R_drew)); exact Kd.R_mono (Kd.R_far (p := ⟨gb257, 2, none⟩) (Kd.R_far (p := ⟨gb257, 1, none⟩) (Kd.R_far (p := ⟨gb257, 0, none⟩) (Kd.R_types HO270.out BK257.out (by decide)) (fun _ hk => hk.2) (.bool t264)) (fun _ hk => hk.2) (.slice Ao17 t265.length co17)) (fun _ hk => hk.2) (.slice Ao18 t268.length co18)) (fun _ hk => hk.1.1.1), dG GE257.out⟩
end Go.Proofs.YtoefabmlkbhmpaaDoor.PA
