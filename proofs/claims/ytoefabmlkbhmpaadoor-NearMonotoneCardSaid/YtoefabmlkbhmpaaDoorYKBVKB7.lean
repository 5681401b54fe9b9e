/- A part of the proof (7). -/
import Derived.Test.YtoefabmlkbhmpaaDoorYKBVKB2
import Derived.Test.YtoefabmlkbhmpaaDoorYKBVKB3
import Derived.Test.YtoefabmlkbhmpaaDoorYKBVKB4
import Derived.Test.YtoefabmlkbhmpaaDoorYKBVKB6
namespace Go.Proofs.YtoefabmlkbhmpaaDoor.PA
open Go.RowKit Go.Proofs.YtoefabmlkbhmpaaDoorW.PrintWords Go.Proofs.YtoefabmlkbhmpaaDoorW.PrintLast Go.Proofs.YtoefabmlkbhmpaaDoorW.PrintMore
attribute [local go_sem] max2_int min2_int max_two min_two max_three min_three max_four min_four
set_option linter.unusedVariables false
set_option linter.unusedSimpArgs false
def quot_DivMod.f (k : Nat) (l0 : List Int) (l1 : List Int) : Option (List Int × List Int × Int) := (nat_Norm.f l0).bind fun t222 => ((nat_Norm.f l1).bind fun t225 => (if (t225.length : Int) = 0 then (some (([] : List Int), ([] : List Int), 30)) else ((nat_Cmp.f k t222 t225).bind fun t228 => (if t228 < 0 then (some (([] : List Int), t222, 0)) else (if (t225.length : Int) = 1 then (if 0 < (t225.length : Int) then ((quot_Small.f k t222 (rd t225 0)).bind fun bt230 => ((nat_From.f bt230.2.1).bind fun t235 => (some (bt230.1, t235, 0)))) else (none)) else ((quot_long.f k t222 t225).bind fun bt238 => (some (bt238.1, bt238.2, 0))))))))
theorem quot_DivMod.mono : ∀ a0 a1 k, LeO (quot_DivMod.f k a0 a1) (quot_DivMod.f (k + 1) a0 a1) := by
 intro a0 a1 k
 unfold quot_DivMod.f
 have m0_ := nat_Cmp.mono
 have m1_ := quot_Small.mono
 have m2_ := quot_long.mono
 exact mX
set_option maxHeartbeats 8000000 in
set_option maxRecDepth 100000 in
theorem quot_DivMod.calls (k : Nat) (A0 : Option Addr) (c0 : Nat) (l0 : List Int) (A1 : Option Addr) (c1 : Nat) (l1 : List Int) (r1 : List Int) (r2 : List Int) (r3 : Int) (w : World) (hr0 : Kd.C (Kd.int .u64) w A0 l0.length l0) (hc0 : l0.length ≤ c0) (hr1 : Kd.C (Kd.int .u64) w A1 l1.length l1) (hc1 : l1.length ≤ c1) (h : quot_DivMod.f k l0 l1 = some (r1, r2, r3)) :
  Calls Tryd.prog 53 #[.slice A0 l0.length c0, .slice A1 l1.length c1] w fun e w' => ∃ v0_ v1_ : Value, e = .returned (.tuple #[v0_, v1_, .int .i64 r3]) ∧ Kd.R (Kd.int .u64) 26 w' w.heap.size (fun k_ => some k_ ≠ (v1_ : Value).ownBlock) v0_ r1 ∧ Kd.R (Kd.int .u64) 26 w' w.heap.size (fun k_ => some k_ ≠ (v0_ : Value).ownBlock) v1_ r2 ∧ Below w.heap.size w w' := by
 have HR0 := Aside0.mk hr0
 have HC0 := Aside0.mk hc0
 clear hr0 hc0
 have HR1 := Aside0.mk hr1
 have HC1 := Aside0.mk hc1
 clear hr1 hc1
 have HB := Aside0.mk (Below.refl w.heap.size w)
 have H := h
 clear h
 unfold quot_DivMod.f at H
 replace H := obe H
 obtain ⟨t222, A30, H⟩ := H
 (try dsimp only at H)
 have A3 := Aside0.mk A30
 clear A30
 replace H := obe H
 obtain ⟨t225, A40, H⟩ := H
 (try dsimp only at H)
 have A4 := Aside0.mk A40
 clear A40
 by_cases c5 : (t225.length : Int) = 0
 ·rw [if_pos c5] at H
  have c5b0 : ((t225.length : Int) == 0) = true := beq_iff_eq.mpr c5
  have c5b1 : ((t225.length : Int) != 0) = false := bne_eq_false_iff_eq.mpr c5
  clear c5
  simp only [Option.some.injEq, Prod.mk.injEq] at H
  obtain ⟨rfl, rfl, rfl⟩ := H
  go_enter Tryd.func53, Tryd.ntmps53
  go_wp2_with (first | ((with_reducible refine gate_callee (f := 51) rfl ?_); refine gL (some 13) Tryd.func51 #[.slice A0 l0.length c0] ?_; (with_reducible refine (nat_Norm.calls _ _ l0 t222 _ ?side1 HC0.out A3.out).mono ?_); (case side1 => exact dC HR0.out); rintro e w6 ⟨v223, rfl, ho0, hb⟩; refine ⟨_, rfl, ?_⟩; have HO224 := Aside0.mk (Kd.R_lower ho0 (below_size dB)); replace HB := hS HB.out hb; (try clear hb); (try clear ho0)) | ((with_reducible refine gate_callee (f := 51) rfl ?_); refine gL (some 15) Tryd.func51 #[.slice A1 l1.length c1] ?_; (with_reducible refine (nat_Norm.calls _ _ l1 t225 _ ?side1 HC1.out A4.out).mono ?_); (case side1 => exact dC (Kd.C_below HR1.out HB.out)); rintro e w7 ⟨v226, rfl, ho0, hb⟩; refine ⟨_, rfl, ?_⟩; have HO227 := Aside0.mk (Kd.R_lower (Kd.R_new' ho0 (Kd.R_lt (dR HO224.out))) (below_size dB)); replace HO224 := oE HO224.out ho0 hb; replace HB := hS HB.out hb; (try clear hb); (try clear ho0); obtain ⟨Ao8, co8, rfl⟩ := Kd.R_slice HO227.out))
  go_ret3
  exact ⟨_, _, dE, by first | exact Kd.R_nil _ _ _ _ _ | exact Kd.N_nil _ _ _ _ _ | exact Kd.V_nil _ _ _ _ _ | exact Kd.Q_nil _ _ _ _ _ | exact Kd.S_nil _ _ _ _ _, by first | exact Kd.R_nil _ _ _ _ _ | exact Kd.N_nil _ _ _ _ _ | exact Kd.V_nil _ _ _ _ _ | exact Kd.Q_nil _ _ _ _ _ | exact Kd.S_nil _ _ _ _ _, dB⟩
 ·rw [if_neg c5] at H
  have c5b0 : ((t225.length : Int) == 0) = false := beq_eq_false_iff_ne.mpr c5
  have c5b1 : ((t225.length : Int) != 0) = true := bne_iff_ne.mpr c5
  have c5b2 : ¬ (t225 = []) := fun h_ => c5 (by rw [h_]; rfl)
  replace H := obe H
  obtain ⟨t228, A90, H⟩ := H
  (try dsimp only at H)
  have A9 := Aside0.mk A90
  clear A90
  by_cases c10 : t228 < 0
  ·rw [if_pos c10] at H
   have c10b0 : decide (t228 < 0) = true := decide_eq_true c10
   clear c10
   simp only [Option.some.injEq, Prod.mk.injEq] at H
   obtain ⟨rfl, rfl, rfl⟩ := H
   go_enter Tryd.func53, Tryd.ntmps53
   go_wp2_with (first | ((with_reducible refine gate_callee (f := 51) rfl ?_); refine gL (some 13) Tryd.func51 #[.slice A0 l0.length c0] ?_; (with_reducible refine (nat_Norm.calls _ _ l0 t222 _ ?side1 HC0.out A3.out).mono ?_); (case side1 => exact dC HR0.out); rintro e w11 ⟨v223, rfl, ho0, hb⟩; refine ⟨_, rfl, ?_⟩; have HO224 := Aside0.mk (Kd.R_lower ho0 (below_size dB)); replace HB := hS HB.out hb; (try clear hb); (try clear ho0)) | ((with_reducible refine gate_callee (f := 51) rfl ?_); refine gL (some 15) Tryd.func51 #[.slice A1 l1.length c1] ?_; (with_reducible refine (nat_Norm.calls _ _ l1 t225 _ ?side1 HC1.out A4.out).mono ?_); (case side1 => exact dC (Kd.C_below HR1.out HB.out)); rintro e w12 ⟨v226, rfl, ho0, hb⟩; refine ⟨_, rfl, ?_⟩; have HO227 := Aside0.mk (Kd.R_lower (Kd.R_new' ho0 (Kd.R_lt (dR HO224.out))) (below_size dB)); replace HO224 := oE HO224.out ho0 hb; replace HB := hS HB.out hb; (try clear hb); (try clear ho0); obtain ⟨Ao13, co13, rfl⟩ := Kd.R_slice HO227.out; obtain ⟨Ao14, co14, rfl⟩ := Kd.R_slice HO224.out) | ((with_reducible refine gate_callee (f := 58) rfl ?_); refine gL (some 23) Tryd.func58 #[.slice Ao14 t222.length co14, .slice Ao13 t225.length co13] ?_; (with_reducible refine (nat_Cmp.calls k _ _ t222 _ _ t225 t228 _ ?side1 (Kd.R_reads' HO224.out).2.1 ?side3 (Kd.R_reads' HO227.out).2.1 A9.out).mono ?_); (case side1 => exact dC (Kd.R_reads' HO224.out).2.2); (case side3 => exact dC (Kd.R_reads' HO227.out).2.2); rintro e w' ⟨rfl, ⟨nd, rfl⟩⟩; refine ⟨_, rfl, ?_⟩))
   go_ret3
   exact ⟨_, _, dE, by first | exact Kd.R_nil _ _ _ _ _ | exact Kd.N_nil _ _ _ _ _ | exact Kd.V_nil _ _ _ _ _ | exact Kd.Q_nil _ _ _ _ _ | exact Kd.S_nil _ _ _ _ _, by (with_reducible repeat (first | apply Kd.R_alloc | apply Kd.R_drewN | apply Kd.R_drew)); exact Kd.R_mono HO224.out (fun _ hk => (by simp [Value.ownBlock])), dB⟩
  ·rw [if_neg c10] at H
   have c10b0 : decide (t228 < 0) = false := decide_eq_false c10
   clear c10
   by_cases c15 : (t225.length : Int) = 1
   ·rw [if_pos c15] at H
    have c15b0 : ((t225.length : Int) == 1) = true := beq_iff_eq.mpr c15
    have c15b1 : ((t225.length : Int) != 1) = false := bne_eq_false_iff_eq.mpr c15
    clear c15
    by_cases c16 : (0 : Int) < (t225.length : Int)
    ·rw [if_pos c16] at H
     have c16b0 : decide (0 < (t225.length : Int)) = true := decide_eq_true c16
     have c16b1 : decide (0 < t225.length) = true := decide_eq_true (by omega)
     clear c16
     replace H := obe H
     obtain ⟨⟨t230, t231, t232⟩, A170, H⟩ := H
     (try dsimp only at H)
     have A17 := Aside0.mk A170
     clear A170
     replace H := obe H
     obtain ⟨t235, A180, H⟩ := H
     (try dsimp only at H)
     have A18 := Aside0.mk A180
     clear A180
     simp only [Option.some.injEq, Prod.mk.injEq] at H
     obtain ⟨rfl, rfl, rfl⟩ := H
     go_enter Tryd.func53, Tryd.ntmps53
     go_wp2_with (first | ((with_reducible refine gate_callee (f := 51) rfl ?_); refine gL (some 13) Tryd.func51 #[.slice A0 l0.length c0] ?_; (with_reducible refine (nat_Norm.calls _ _ l0 t222 _ ?side1 HC0.out A3.out).mono ?_); (case side1 => exact dC HR0.out); rintro e w19 ⟨v223, rfl, ho0, hb⟩; refine ⟨_, rfl, ?_⟩; have HO224 := Aside0.mk (Kd.R_lower ho0 (below_size dB)); replace HB := hS HB.out hb; (try clear hb); (try clear ho0)) | ((with_reducible refine gate_callee (f := 51) rfl ?_); refine gL (some 15) Tryd.func51 #[.slice A1 l1.length c1] ?_; (with_reducible refine (nat_Norm.calls _ _ l1 t225 _ ?side1 HC1.out A4.out).mono ?_); (case side1 => exact dC (Kd.C_below HR1.out HB.out)); rintro e w20 ⟨v226, rfl, ho0, hb⟩; refine ⟨_, rfl, ?_⟩; have HO227 := Aside0.mk (Kd.R_lower (Kd.R_new' ho0 (Kd.R_lt (dR HO224.out))) (below_size dB)); replace HO224 := oE HO224.out ho0 hb; replace HB := hS HB.out hb; (try clear hb); (try clear ho0); obtain ⟨Ao21, co21, rfl⟩ := Kd.R_slice HO227.out; obtain ⟨Ao22, co22, rfl⟩ := Kd.R_slice HO224.out) | ((with_reducible refine gate_callee (f := 58) rfl ?_); refine gL (some 23) Tryd.func58 #[.slice Ao22 t222.length co22, .slice Ao21 t225.length co21] ?_; (with_reducible refine (nat_Cmp.calls k _ _ t222 _ _ t225 t228 _ ?side1 (Kd.R_reads' HO224.out).2.1 ?side3 (Kd.R_reads' HO227.out).2.1 A9.out).mono ?_); (case side1 => exact dC (Kd.R_reads' HO224.out).2.2); (case side3 => exact dC (Kd.R_reads' HO227.out).2.2); rintro e w' ⟨rfl, ⟨nd, rfl⟩⟩; refine ⟨_, rfl, ?_⟩; have p229 : 0 ≤ (0 : Int) := (by omega); have q229 : 0 < (t225.length : Int) := of_decide_eq_true dS; obtain ⟨ad229, e229, hx229_0⟩ := Kd.at_int (Kd.R_reads' HO227.out).2.2 0 p229 q229; cases e229; have qi229 : (0 < t225.length) = True := eq_true (by omega); (try rw [show ((0 : Int)).toNat = 0 from rfl] at hx229_0); (try rw [Addr.add_zero'] at hx229_0); replace p229 := eq_true p229; replace q229 := eq_true q229) | ((with_reducible refine gate_callee (f := 91) rfl ?_); refine gL (some 35) Tryd.func91 #[.slice Ao22 t222.length co22, .int .u64 (rd t225 0)] ?_; (with_reducible refine (quot_Small.calls k _ _ t222 (rd t225 0) t230 t231 t232 _ ?side1 (Kd.R_reads' HO224.out).2.1 A17.out).mono ?_); (case side1 => exact dC (Kd.R_reads' HO224.out).2.2); rintro e w23 ⟨v233, rfl, ho0, hb⟩; refine ⟨_, rfl, ?_⟩; have HO234 := Aside0.mk (Kd.R_lower (Kd.R_new' (Kd.R_new' ho0 (Kd.R_lt (dR HO224.out))) (Kd.R_lt (dR HO227.out))) (below_size dB)); replace HO224 := oE HO224.out ho0 hb; replace HO227 := oE HO227.out ho0 hb; replace HB := hS HB.out hb; (try clear hb); (try clear ho0)) | ((with_reducible refine gate_callee (f := 66) rfl ?_); refine gL (some 41) Tryd.func66 #[.int .u64 t231] ?_; (with_reducible refine (nat_From.calls t231 t235 _ A18.out).mono ?_); rintro e w24 ⟨v236, rfl, ho0, hb⟩; refine ⟨_, rfl, ?_⟩; have HO237 := Aside0.mk (Kd.R_lower (Kd.R_new' (Kd.R_new' (Kd.R_new' ho0 (Kd.R_lt (dR HO224.out))) (Kd.R_lt (dR HO227.out))) (Kd.R_lt (dR HO234.out))) (below_size dB)); replace HO224 := oE HO224.out ho0 hb; replace HO227 := oE HO227.out ho0 hb; replace HO234 := oE HO234.out ho0 hb; replace HB := hS HB.out hb; (try clear hb); (try clear ho0)))
     go_ret3
     exact ⟨_, _, dE, by (with_reducible repeat (first | apply Kd.R_alloc | apply Kd.R_drewN | apply Kd.R_drew)); exact Kd.R_mono HO234.out (fun _ hk => hk.2), by (with_reducible repeat (first | apply Kd.R_alloc | apply Kd.R_drewN | apply Kd.R_drew)); exact Kd.R_mono HO237.out (fun _ hk => hk.2), dB⟩
    ·rw [if_neg c16] at H
     exact absurd H (by simp)
   ·rw [if_neg c15] at H
    have c15b0 : ((t225.length : Int) == 1) = false := beq_eq_false_iff_ne.mpr c15
    have c15b1 : ((t225.length : Int) != 1) = true := bne_iff_ne.mpr c15
    replace H := obe H
    obtain ⟨⟨t238, t239⟩, A250, H⟩ := H
    (try dsimp only at H)
    have A25 := Aside0.mk A250
    clear A250
    simp only [Option.some.injEq, Prod.mk.injEq] at H
    obtain ⟨rfl, rfl, rfl⟩ := H
    go_enter Tryd.func53, Tryd.ntmps53
    go_wp2_with (first | ((with_reducible refine gate_callee (f := 51) rfl ?_); refine gL (some 13) Tryd.func51 #[.slice A0 l0.length c0] ?_; (with_reducible refine (nat_Norm.calls _ _ l0 t222 _ ?side1 HC0.out A3.out).mono ?_); (case side1 => exact dC HR0.out); rintro e w26 ⟨v223, rfl, ho0, hb⟩; refine ⟨_, rfl, ?_⟩; have HO224 := Aside0.mk (Kd.R_lower ho0 (below_size dB)); replace HB := hS HB.out hb; (try clear hb); (try clear ho0)) | ((with_reducible refine gate_callee (f := 51) rfl ?_); refine gL (some 15) Tryd.func51 #[.slice A1 l1.length c1] ?_; (with_reducible refine (nat_Norm.calls _ _ l1 t225 _ ?side1 HC1.out A4.out).mono ?_); (case side1 => exact dC (Kd.C_below HR1.out HB.out)); rintro e w27 ⟨v226, rfl, ho0, hb⟩; refine ⟨_, rfl, ?_⟩; have HO227 := Aside0.mk (Kd.R_lower (Kd.R_new' ho0 (Kd.R_lt (dR HO224.out))) (below_size dB)); replace HO224 := oE HO224.out ho0 hb; replace HB := hS HB.out hb; (try clear hb); (try clear ho0); obtain ⟨Ao28, co28, rfl⟩ := Kd.R_slice HO227.out; obtain ⟨Ao29, co29, rfl⟩ := Kd.R_slice HO224.out) | ((with_reducible refine gate_callee (f := 58) rfl ?_); refine gL (some 23) Tryd.func58 #[.slice Ao29 t222.length co29, .slice Ao28 t225.length co28] ?_; (with_reducible refine (nat_Cmp.calls k _ _ t222 _ _ t225 t228 _ ?side1 (Kd.R_reads' HO224.out).2.1 ?side3 (Kd.R_reads' HO227.out).2.1 A9.out).mono ?_); (case side1 => exact dC (Kd.R_reads' HO224.out).2.2); (case side3 => exact dC (Kd.R_reads' HO227.out).2.2); rintro e w' ⟨rfl, ⟨nd, rfl⟩⟩; refine ⟨_, rfl, ?_⟩) | ((with_reducible refine gate_callee (f := 92) rfl ?_); refine gL (some 45) Tryd.func92 #[.slice Ao29 t222.length co29, .slice Ao28 t225.length co28] ?_; (with_reducible refine (quot_long.calls k _ _ t222 _ _ t225 t238 t239 _ ?side1 (Kd.R_reads' HO224.out).2.1 ?side3 (Kd.R_reads' HO227.out).2.1 A25.out).mono ?_); (case side1 => exact dC (Kd.R_reads' HO224.out).2.2); (case side3 => exact dC (Kd.R_reads' HO227.out).2.2); rintro e w30 ⟨v240, v242, rfl, ho0, ho1, hb⟩; refine ⟨_, rfl, ?_⟩; have HO241 := Aside0.mk (Kd.R_lower (Kd.R_new' (Kd.R_new' ho0 (Kd.R_lt (dR HO224.out))) (Kd.R_lt (dR HO227.out))) (below_size dB)); have HO243 := Aside0.mk (Kd.R_lower (Kd.R_new' (Kd.R_new' ho1 (Kd.R_lt (dR HO224.out))) (Kd.R_lt (dR HO227.out))) (below_size dB)); replace HO224 := Aside0.mk (Kd.R_mono (Kd.R_told (Kd.R_told (Kd.R_old (dR HO224.out) hb) (Kd.R_base ho0)) (Kd.R_base ho1)) (fun _ h_ => h_.1)); replace HO227 := Aside0.mk (Kd.R_mono (Kd.R_told (Kd.R_told (Kd.R_old (dR HO227.out) hb) (Kd.R_base ho0)) (Kd.R_base ho1)) (fun _ h_ => h_.1)); replace HB := hS HB.out hb; (try clear hb); (try clear ho0); (try clear ho1)))
    go_ret3
    exact ⟨_, _, dE, by (with_reducible repeat (first | apply Kd.R_alloc | apply Kd.R_drewN | apply Kd.R_drew)); exact Kd.R_mono HO241.out (fun _ hk => hk.1.1), by (with_reducible repeat (first | apply Kd.R_alloc | apply Kd.R_drewN | apply Kd.R_drew)); exact Kd.R_mono HO243.out (fun _ hk => hk.1.1), dB⟩
def near_Quotient.f (k : Nat) (a0 : Bool) (l1 : List Int) (l2 : List Int) (a3 : Int) : Option (Int × Int) := (nat_Norm.f l1).bind fun t333 => ((nat_Norm.f l2).bind fun t336 => ((near_known.f a3).bind fun t339 => (if t339 = true then (if (t336.length : Int) = 0 then (some (0, 50)) else (if (t333.length : Int) = 0 then ((near_finish.f k a0 0 0 false a3).bind fun bt340 => (some (bt340.1, bt340.2))) else ((nat_Bits.f k t333).bind fun t342 => ((nat_Bits.f k t336).bind fun t343 => (if (wrap64 (t342 - t343)) > 1100 then ((near_finish.f k a0 1 (wrap64 (t342 - t343)) true a3).bind fun bt344 => (some (bt344.1, bt344.2))) else (if (wrap64 (t342 - t343)) < (-1200) then ((near_finish.f k a0 0 0 true a3).bind fun bt346 => (some (bt346.1, bt346.2))) else (if (wrap64 ((wrap64 (t342 - t343)) - 62)) > 0 then ((near_shl.f k t336 (wrap64 ((wrap64 (t342 - t343)) - 62))).bind fun t348 => ((quot_DivMod.f k t333 t348).bind fun bt351 => ((nat_Word.f k bt351.1).bind fun bt358 => ((near_finish.f k a0 bt358.1 (wrap64 ((wrap64 (t342 - t343)) - 62)) (decide ((bt351.2.1.length : Int) > 0)) a3).bind fun bt360 => (some (bt360.1, bt360.2)))))) else ((near_shl.f k t333 (wrap64 (-(wrap64 ((wrap64 (t342 - t343)) - 62))))).bind fun t362 => ((quot_DivMod.f k t362 t336).bind fun bt365 => ((nat_Word.f k bt365.1).bind fun bt372 => ((near_finish.f k a0 bt372.1 (wrap64 ((wrap64 (t342 - t343)) - 62)) (decide ((bt365.2.1.length : Int) > 0)) a3).bind fun bt374 => (some (bt374.1, bt374.2))))))))))))) else (some (0, 71)))))
theorem near_Quotient.mono : ∀ a0 a1 a2 a3 k, LeO (near_Quotient.f k a0 a1 a2 a3) (near_Quotient.f (k + 1) a0 a1 a2 a3) := by
 intro a0 a1 a2 a3 k
 unfold near_Quotient.f
 have m0_ := nat_Bits.mono
 have m1_ := nat_Word.mono
 have m2_ := near_finish.mono
 have m3_ := near_shl.mono
 have m4_ := quot_DivMod.mono
 exact mX
set_option maxHeartbeats 8000000 in
set_option maxRecDepth 100000 in
theorem near_Quotient.calls (k : Nat) (a0 : Bool) (A1 : Option Addr) (c1 : Nat) (l1 : List Int) (A2 : Option Addr) (c2 : Nat) (l2 : List Int) (a3 : Int) (r1 : Int) (r2 : Int) (w : World) (hr1 : Kd.C (Kd.int .u64) w A1 l1.length l1) (hc1 : l1.length ≤ c1) (hr2 : Kd.C (Kd.int .u64) w A2 l2.length l2) (hc2 : l2.length ≤ c2) (h : near_Quotient.f k a0 l1 l2 a3 = some (r1, r2)) (hS : StaysLaid w := by first | exact HS.out | exact hS | exact StaysLaid.below HS.out HB.out | exact StaysLaid.below HS.out dB) :
  Calls Tryd.prog 17 #[.bool a0, .slice A1 l1.length c1, .slice A2 l2.length c2, .int .i64 a3] w fun e w' => e = .returned (.tuple #[.int .u64 r1, .int .i64 r2]) ∧ Below w.heap.size w w' := by
 have HS := Aside0.mk (show StaysLaid w from hS)
 clear hS
 have HR1 := Aside0.mk hr1
 have HC1 := Aside0.mk hc1
 clear hr1 hc1
 have HR2 := Aside0.mk hr2
 have HC2 := Aside0.mk hc2
 clear hr2 hc2
 have HB := Aside0.mk (Below.refl w.heap.size w)
 have H := h
 clear h
 unfold near_Quotient.f at H
 replace H := obe H
 obtain ⟨t333, A50, H⟩ := H
 (try dsimp only at H)
 have A5 := Aside0.mk A50
 clear A50
 replace H := obe H
 obtain ⟨t336, A60, H⟩ := H
 (try dsimp only at H)
 have A6 := Aside0.mk A60
 clear A60
 replace H := obe H
 obtain ⟨t339, A70, H⟩ := H
 (try dsimp only at H)
 have A7 := Aside0.mk A70
 clear A70
 by_cases c8 : t339 = true
 ·subst c8
  rw [if_pos rfl] at H
  (try dsimp only at H)
  by_cases c9 : (t336.length : Int) = 0
  ·rw [if_pos c9] at H
   have c9b0 : ((t336.length : Int) == 0) = true := beq_iff_eq.mpr c9
   have c9b1 : ((t336.length : Int) != 0) = false := bne_eq_false_iff_eq.mpr c9
   clear c9
   simp only [Option.some.injEq, Prod.mk.injEq] at H
   obtain ⟨rfl, rfl⟩ := H
   go_enter Tryd.func17, Tryd.ntmps17
   go_wp2_with (first | ((with_reducible refine gate_callee (f := 51) rfl ?_); refine gL (some 18) Tryd.func51 #[.slice A1 l1.length c1] ?_; (with_reducible refine (nat_Norm.calls _ _ l1 t333 _ ?side1 HC1.out A5.out).mono ?_); (case side1 => exact dC HR1.out); rintro e w10 ⟨v334, rfl, ho0, hb⟩; refine ⟨_, rfl, ?_⟩; have HO335 := Aside0.mk (Kd.R_lower ho0 (below_size dB)); replace HB := hS HB.out hb; (try clear hb); (try clear ho0)) | ((with_reducible refine gate_callee (f := 51) rfl ?_); refine gL (some 20) Tryd.func51 #[.slice A2 l2.length c2] ?_; (with_reducible refine (nat_Norm.calls _ _ l2 t336 _ ?side1 HC2.out A6.out).mono ?_); (case side1 => exact dC (Kd.C_below HR2.out HB.out)); rintro e w11 ⟨v337, rfl, ho0, hb⟩; refine ⟨_, rfl, ?_⟩; have HO338 := Aside0.mk (Kd.R_lower (Kd.R_new' ho0 (Kd.R_lt (dR HO335.out))) (below_size dB)); replace HO335 := oE HO335.out ho0 hb; replace HB := hS HB.out hb; (try clear hb); (try clear ho0)) | ((with_reducible refine gate_callee (f := 42) rfl ?_); refine gL (some 23) Tryd.func42 #[.int .i64 a3] ?_; (with_reducible refine (near_known.calls a3 true _ A7.out).mono ?_); rintro e w' ⟨rfl, ⟨nd, rfl⟩⟩; refine ⟨_, rfl, ?_⟩; obtain ⟨Ao12, co12, rfl⟩ := Kd.R_slice HO338.out))
   go_ret2
   exact ⟨dE, dB⟩
  ·rw [if_neg c9] at H
   have c9b0 : ((t336.length : Int) == 0) = false := beq_eq_false_iff_ne.mpr c9
   have c9b1 : ((t336.length : Int) != 0) = true := bne_iff_ne.mpr c9
   have c9b2 : ¬ (t336 = []) := fun h_ => c9 (by rw [h_]; rfl)
   by_cases c13 : (t333.length : Int) = 0
   ·rw [if_pos c13] at H
    have c13b0 : ((t333.length : Int) == 0) = true := beq_iff_eq.mpr c13
    have c13b1 : ((t333.length : Int) != 0) = false := bne_eq_false_iff_eq.mpr c13
    clear c13
    replace H := obe H
    obtain ⟨⟨t340, t341⟩, A140, H⟩ := H
    (try dsimp only at H)
    have A14 := Aside0.mk A140
    clear A140
    simp only [Option.some.injEq, Prod.mk.injEq] at H
    obtain ⟨rfl, rfl⟩ := H
    go_enter Tryd.func17, Tryd.ntmps17
    go_wp2_with (first | ((with_reducible refine gate_callee (f := 51) rfl ?_); refine gL (some 18) Tryd.func51 #[.slice A1 l1.length c1] ?_; (with_reducible refine (nat_Norm.calls _ _ l1 t333 _ ?side1 HC1.out A5.out).mono ?_); (case side1 => exact dC HR1.out); rintro e w15 ⟨v334, rfl, ho0, hb⟩; refine ⟨_, rfl, ?_⟩; have HO335 := Aside0.mk (Kd.R_lower ho0 (below_size dB)); replace HB := hS HB.out hb; (try clear hb); (try clear ho0)) | ((with_reducible refine gate_callee (f := 51) rfl ?_); refine gL (some 20) Tryd.func51 #[.slice A2 l2.length c2] ?_; (with_reducible refine (nat_Norm.calls _ _ l2 t336 _ ?side1 HC2.out A6.out).mono ?_); (case side1 => exact dC (Kd.C_below HR2.out HB.out)); rintro e w16 ⟨v337, rfl, ho0, hb⟩; refine ⟨_, rfl, ?_⟩; have HO338 := Aside0.mk (Kd.R_lower (Kd.R_new' ho0 (Kd.R_lt (dR HO335.out))) (below_size dB)); replace HO335 := oE HO335.out ho0 hb; replace HB := hS HB.out hb; (try clear hb); (try clear ho0)) | ((with_reducible refine gate_callee (f := 42) rfl ?_); refine gL (some 23) Tryd.func42 #[.int .i64 a3] ?_; (with_reducible refine (near_known.calls a3 true _ A7.out).mono ?_); rintro e w' ⟨rfl, ⟨nd, rfl⟩⟩; refine ⟨_, rfl, ?_⟩; obtain ⟨Ao17, co17, rfl⟩ := Kd.R_slice HO338.out; obtain ⟨Ao18, co18, rfl⟩ := Kd.R_slice HO335.out) | ((with_reducible refine gate_callee (f := 46) rfl ?_); refine gL (some 35) Tryd.func46 #[.bool a0, .int .u64 0, .int .i64 0, .bool false, .int .i64 a3] ?_; (with_reducible refine (near_finish.calls k a0 0 0 false a3 t340 t341 _ A14.out).mono ?_); rintro e w19 ⟨rfl, hb⟩; refine ⟨_, rfl, ?_⟩; replace HO335 := oB HO335.out hb; replace HO338 := oB HO338.out hb; replace HB := hS HB.out hb; (try clear hb)))
    go_ret2
    exact ⟨dE, dB⟩
   ·rw [if_neg c13] at H
    have c13b0 : ((t333.length : Int) == 0) = false := beq_eq_false_iff_ne.mpr c13
    have c13b1 : ((t333.length : Int) != 0) = true := bne_iff_ne.mpr c13
    have c13b2 : ¬ (t333 = []) := fun h_ => c13 (by rw [h_]; rfl)
    replace H := obe H
    obtain ⟨t342, A200, H⟩ := H
    (try dsimp only at H)
    have A20 := Aside0.mk A200
    clear A200
    replace H := obe H
    obtain ⟨t343, A210, H⟩ := H
    (try dsimp only at H)
    have A21 := Aside0.mk A210
    clear A210
    by_cases c22 : (wrap64 (t342 - t343)) > 1100
    ·rw [if_pos c22] at H
     have c22b0 : decide (1100 < (wrap64 (t342 - t343))) = true := decide_eq_true c22
     clear c22
     replace H := obe H
     obtain ⟨⟨t344, t345⟩, A230, H⟩ := H
     (try dsimp only at H)
     have A23 := Aside0.mk A230
     clear A230
     simp only [Option.some.injEq, Prod.mk.injEq] at H
     obtain ⟨rfl, rfl⟩ := H
     go_enter Tryd.func17, Tryd.ntmps17
     go_wp2_with (first | ((with_reducible refine gate_callee (f := 51) rfl ?_); refine gL (some 18) Tryd.func51 #[.slice A1 l1.length c1] ?_; (with_reducible refine (nat_Norm.calls _ _ l1 t333 _ ?side1 HC1.out A5.out).mono ?_); (case side1 => exact dC HR1.out); rintro e w24 ⟨v334, rfl, ho0, hb⟩; refine ⟨_, rfl, ?_⟩; have HO335 := Aside0.mk (Kd.R_lower ho0 (below_size dB)); replace HB := hS HB.out hb; (try clear hb); (try clear ho0)) | ((with_reducible refine gate_callee (f := 51) rfl ?_); refine gL (some 20) Tryd.func51 #[.slice A2 l2.length c2] ?_; (with_reducible refine (nat_Norm.calls _ _ l2 t336 _ ?side1 HC2.out A6.out).mono ?_); (case side1 => exact dC (Kd.C_below HR2.out HB.out)); rintro e w25 ⟨v337, rfl, ho0, hb⟩; refine ⟨_, rfl, ?_⟩; have HO338 := Aside0.mk (Kd.R_lower (Kd.R_new' ho0 (Kd.R_lt (dR HO335.out))) (below_size dB)); replace HO335 := oE HO335.out ho0 hb; replace HB := hS HB.out hb; (try clear hb); (try clear ho0)) | ((with_reducible refine gate_callee (f := 42) rfl ?_); refine gL (some 23) Tryd.func42 #[.int .i64 a3] ?_; (with_reducible refine (near_known.calls a3 true _ A7.out).mono ?_); rintro e w' ⟨rfl, ⟨nd, rfl⟩⟩; refine ⟨_, rfl, ?_⟩; obtain ⟨Ao26, co26, rfl⟩ := Kd.R_slice HO338.out; obtain ⟨Ao27, co27, rfl⟩ := Kd.R_slice HO335.out) | ((with_reducible refine gate_callee (f := 43) rfl ?_); refine gL (some 39) Tryd.func43 #[.slice Ao27 t333.length co27] ?_; (with_reducible refine (nat_Bits.calls k _ _ t333 t342 _ ?side1 (Kd.R_reads' HO335.out).2.1 A20.out).mono ?_); (case side1 => exact dC (Kd.R_reads' HO335.out).2.2); rintro e w' ⟨rfl, ⟨nd, rfl⟩⟩; refine ⟨_, rfl, ?_⟩) | ((with_reducible refine gate_callee (f := 43) rfl ?_); refine gL (some 41) Tryd.func43 #[.slice Ao26 t336.length co26] ?_; (with_reducible refine (nat_Bits.calls k _ _ t336 t343 _ ?side1 (Kd.R_reads' HO338.out).2.1 A21.out).mono ?_); (case side1 => exact dC (Kd.R_reads' HO338.out).2.2); rintro e w' ⟨rfl, ⟨nd, rfl⟩⟩; refine ⟨_, rfl, ?_⟩) | ((with_reducible refine gate_callee (f := 46) rfl ?_); refine gL (some 49) Tryd.func46 #[.bool a0, .int .u64 1, .int .i64 (wrap64 (t342 - t343)), .bool true, .int .i64 a3] ?_; (with_reducible refine (near_finish.calls k a0 1 (wrap64 (t342 - t343)) true a3 t344 t345 _ A23.out).mono ?_); rintro e w28 ⟨rfl, hb⟩; refine ⟨_, rfl, ?_⟩; replace HO335 := oB HO335.out hb; replace HO338 := oB HO338.out hb; replace HB := hS HB.out hb; (try clear hb)))
     go_ret2
     exact ⟨dE, dB⟩
    ·rw [if_neg c22] at H
     have c22b0 : decide (1100 < (wrap64 (t342 - t343))) = false := decide_eq_false c22
     clear c22
     by_cases c29 : (wrap64 (t342 - t343)) < (-1200)
     ·rw [if_pos c29] at H
      have c29b0 : decide ((wrap64 (t342 - t343)) < (-1200)) = true := decide_eq_true c29
      clear c29
      replace H := obe H
      obtain ⟨⟨t346, t347⟩, A300, H⟩ := H
      (try dsimp only at H)
      have A30 := Aside0.mk A300
      clear A300
      simp only [Option.some.injEq, Prod.mk.injEq] at H
      obtain ⟨rfl, rfl⟩ := H
      go_enter Tryd.func17, Tryd.ntmps17
      go_wp2_with (first | ((with_reducible refine gate_callee (f := 51) rfl ?_); refine gL (some 18) Tryd.func51 #[.slice A1 l1.length c1] ?_; (with_reducible refine (nat_Norm.calls _ _ l1 t333 _ ?side1 HC1.out A5.out).mono ?_); (case side1 => exact dC HR1.out); rintro e w31 ⟨v334, rfl, ho0, hb⟩; refine ⟨_, rfl, ?_⟩; have HO335 := Aside0.mk (Kd.R_lower ho0 (below_size dB)); replace HB := hS HB.out hb; (try clear hb); (try clear ho0)) | ((with_reducible refine gate_callee (f := 51) rfl ?_); refine gL (some 20) Tryd.func51 #[.slice A2 l2.length c2] ?_; (with_reducible refine (nat_Norm.calls _ _ l2 t336 _ ?side1 HC2.out A6.out).mono ?_); (case side1 => exact dC (Kd.C_below HR2.out HB.out)); rintro e w32 ⟨v337, rfl, ho0, hb⟩; refine ⟨_, rfl, ?_⟩; have HO338 := Aside0.mk (Kd.R_lower (Kd.R_new' ho0 (Kd.R_lt (dR HO335.out))) (below_size dB)); replace HO335 := oE HO335.out ho0 hb; replace HB := hS HB.out hb; (try clear hb); (try clear ho0)) | ((with_reducible refine gate_callee (f := 42) rfl ?_); refine gL (some 23) Tryd.func42 #[.int .i64 a3] ?_; (with_reducible refine (near_known.calls a3 true _ A7.out).mono ?_); rintro e w' ⟨rfl, ⟨nd, rfl⟩⟩; refine ⟨_, rfl, ?_⟩; obtain ⟨Ao33, co33, rfl⟩ := Kd.R_slice HO338.out; obtain ⟨Ao34, co34, rfl⟩ := Kd.R_slice HO335.out) | ((with_reducible refine gate_callee (f := 43) rfl ?_); refine gL (some 39) Tryd.func43 #[.slice Ao34 t333.length co34] ?_; (with_reducible refine (nat_Bits.calls k _ _ t333 t342 _ ?side1 (Kd.R_reads' HO335.out).2.1 A20.out).mono ?_); (case side1 => exact dC (Kd.R_reads' HO335.out).2.2); rintro e w' ⟨rfl, ⟨nd, rfl⟩⟩; refine ⟨_, rfl, ?_⟩) | ((with_reducible refine gate_callee (f := 43) rfl ?_); refine gL (some 41) Tryd.func43 #[.slice Ao33 t336.length co33] ?_; (with_reducible refine (nat_Bits.calls k _ _ t336 t343 _ ?side1 (Kd.R_reads' HO338.out).2.1 A21.out).mono ?_); (case side1 => exact dC (Kd.R_reads' HO338.out).2.2); rintro e w' ⟨rfl, ⟨nd, rfl⟩⟩; refine ⟨_, rfl, ?_⟩) | ((with_reducible refine gate_callee (f := 46) rfl ?_); refine gL (some 57) Tryd.func46 #[.bool a0, .int .u64 0, .int .i64 0, .bool true, .int .i64 a3] ?_; (with_reducible refine (near_finish.calls k a0 0 0 true a3 t346 t347 _ A30.out).mono ?_); rintro e w35 ⟨rfl, hb⟩; refine ⟨_, rfl, ?_⟩; replace HO335 := oB HO335.out hb; replace HO338 := oB HO338.out hb; replace HB := hS HB.out hb; (try clear hb)))
      go_ret2
      exact ⟨dE, dB⟩
     ·rw [if_neg c29] at H
      have c29b0 : decide ((wrap64 (t342 - t343)) < (-1200)) = false := decide_eq_false c29
      clear c29
      by_cases c36 : (wrap64 ((wrap64 (t342 - t343)) - 62)) > 0
      ·rw [if_pos c36] at H
       have c36b0 : decide (0 < (wrap64 ((wrap64 (t342 - t343)) - 62))) = true := decide_eq_true c36
       clear c36
       replace H := obe H
       obtain ⟨t348, A370, H⟩ := H
       (try dsimp only at H)
       have A37 := Aside0.mk A370
       clear A370
       replace H := obe H
       obtain ⟨⟨t351, t352, t353⟩, A380, H⟩ := H
       (try dsimp only at H)
       have A38 := Aside0.mk A380
       clear A380
       replace H := obe H
       obtain ⟨⟨t358, t359⟩, A390, H⟩ := H
       (try dsimp only at H)
       have A39 := Aside0.mk A390
       clear A390
       replace H := obe H
       obtain ⟨⟨t360, t361⟩, A400, H⟩ := H
       (try dsimp only at H)
       have A40 := Aside0.mk A400
       clear A400
       simp only [Option.some.injEq, Prod.mk.injEq] at H
       obtain ⟨rfl, rfl⟩ := H
       have e_ : decide ((t352.length : Int) > 0) = decide (0 < t352.length) := by rw [decide_eq_decide]; omega
       (try (have z_ := A20.out; rw [e_] at z_; clear A20; have A20 := Aside0.mk z_; clear z_))
       (try (have z_ := A21.out; rw [e_] at z_; clear A21; have A21 := Aside0.mk z_; clear z_))
       (try (have z_ := A37.out; rw [e_] at z_; clear A37; have A37 := Aside0.mk z_; clear z_))
       (try (have z_ := A38.out; rw [e_] at z_; clear A38; have A38 := Aside0.mk z_; clear z_))
       (try (have z_ := A39.out; rw [e_] at z_; clear A39; have A39 := Aside0.mk z_; clear z_))
       (try (have z_ := A40.out; rw [e_] at z_; clear A40; have A40 := Aside0.mk z_; clear z_))
       (try (have z_ := A5.out; rw [e_] at z_; clear A5; have A5 := Aside0.mk z_; clear z_))
       (try (have z_ := A6.out; rw [e_] at z_; clear A6; have A6 := Aside0.mk z_; clear z_))
       (try (have z_ := A7.out; rw [e_] at z_; clear A7; have A7 := Aside0.mk z_; clear z_))
       clear e_
       go_enter Tryd.func17, Tryd.ntmps17
       go_wp2_with (first | ((with_reducible refine gate_callee (f := 51) rfl ?_); refine gL (some 18) Tryd.func51 #[.slice A1 l1.length c1] ?_; (with_reducible refine (nat_Norm.calls _ _ l1 t333 _ ?side1 HC1.out A5.out).mono ?_); (case side1 => exact dC HR1.out); rintro e w41 ⟨v334, rfl, ho0, hb⟩; refine ⟨_, rfl, ?_⟩; have HO335 := Aside0.mk (Kd.R_lower ho0 (below_size dB)); replace HB := hS HB.out hb; (try clear hb); (try clear ho0)) | ((with_reducible refine gate_callee (f := 51) rfl ?_); refine gL (some 20) Tryd.func51 #[.slice A2 l2.length c2] ?_; (with_reducible refine (nat_Norm.calls _ _ l2 t336 _ ?side1 HC2.out A6.out).mono ?_); (case side1 => exact dC (Kd.C_below HR2.out HB.out)); rintro e w42 ⟨v337, rfl, ho0, hb⟩; refine ⟨_, rfl, ?_⟩; have HO338 := Aside0.mk (Kd.R_lower (Kd.R_new' ho0 (Kd.R_lt (dR HO335.out))) (below_size dB)); replace HO335 := oE HO335.out ho0 hb; replace HB := hS HB.out hb; (try clear hb); (try clear ho0)) | ((with_reducible refine gate_callee (f := 42) rfl ?_); refine gL (some 23) Tryd.func42 #[.int .i64 a3] ?_; (with_reducible refine (near_known.calls a3 true _ A7.out).mono ?_); rintro e w' ⟨rfl, ⟨nd, rfl⟩⟩; refine ⟨_, rfl, ?_⟩; obtain ⟨Ao43, co43, rfl⟩ := Kd.R_slice HO338.out; obtain ⟨Ao44, co44, rfl⟩ := Kd.R_slice HO335.out) | ((with_reducible refine gate_callee (f := 43) rfl ?_); refine gL (some 39) Tryd.func43 #[.slice Ao44 t333.length co44] ?_; (with_reducible refine (nat_Bits.calls k _ _ t333 t342 _ ?side1 (Kd.R_reads' HO335.out).2.1 A20.out).mono ?_); (case side1 => exact dC (Kd.R_reads' HO335.out).2.2); rintro e w' ⟨rfl, ⟨nd, rfl⟩⟩; refine ⟨_, rfl, ?_⟩) | ((with_reducible refine gate_callee (f := 43) rfl ?_); refine gL (some 41) Tryd.func43 #[.slice Ao43 t336.length co43] ?_; (with_reducible refine (nat_Bits.calls k _ _ t336 t343 _ ?side1 (Kd.R_reads' HO338.out).2.1 A21.out).mono ?_); (case side1 => exact dC (Kd.R_reads' HO338.out).2.2); rintro e w' ⟨rfl, ⟨nd, rfl⟩⟩; refine ⟨_, rfl, ?_⟩) | ((with_reducible refine gate_callee (f := 52) rfl ?_); refine gL (some 66) Tryd.func52 #[.slice Ao43 t336.length co43, .int .i64 (wrap64 ((wrap64 (t342 - t343)) - 62))] ?_; (with_reducible refine (near_shl.calls k _ _ t336 (wrap64 ((wrap64 (t342 - t343)) - 62)) t348 _ ?side1 (Kd.R_reads' HO338.out).2.1 A37.out).mono ?_); (case side1 => exact dC (Kd.R_reads' HO338.out).2.2); rintro e w45 ⟨v349, rfl, ho0, hb⟩; refine ⟨_, rfl, ?_⟩; have HO350 := Aside0.mk (Kd.R_lower (Kd.R_new' (Kd.R_new' ho0 (Kd.R_lt (dR HO335.out))) (Kd.R_lt (dR HO338.out))) (below_size dB)); replace HO335 := oE HO335.out ho0 hb; replace HO338 := oE HO338.out ho0 hb; replace HB := hS HB.out hb; (try clear hb); (try clear ho0); obtain ⟨Ao46, co46, rfl⟩ := Kd.R_slice HO350.out) | ((with_reducible refine gate_callee (f := 53) rfl ?_); refine gL (some 74) Tryd.func53 #[.slice Ao44 t333.length co44, .slice Ao46 t348.length co46] ?_; (with_reducible refine (quot_DivMod.calls k _ _ t333 _ _ t348 t351 t352 t353 _ ?side1 (Kd.R_reads' HO335.out).2.1 ?side3 (Kd.R_reads' HO350.out).2.1 A38.out).mono ?_); (case side1 => exact dC (Kd.R_reads' HO335.out).2.2); (case side3 => exact dC (Kd.R_reads' HO350.out).2.2); rintro e w47 ⟨v354, v356, rfl, ho0, ho1, hb⟩; refine ⟨_, rfl, ?_⟩; have HO355 := Aside0.mk (Kd.R_lower (Kd.R_new' (Kd.R_new' (Kd.R_new' ho0 (Kd.R_lt (dR HO335.out))) (Kd.R_lt (dR HO338.out))) (Kd.R_lt (dR HO350.out))) (below_size dB)); have HO357 := Aside0.mk (Kd.R_lower (Kd.R_new' (Kd.R_new' (Kd.R_new' ho1 (Kd.R_lt (dR HO335.out))) (Kd.R_lt (dR HO338.out))) (Kd.R_lt (dR HO350.out))) (below_size dB)); replace HO335 := Aside0.mk (Kd.R_mono (Kd.R_told (Kd.R_told (Kd.R_old (dR HO335.out) hb) (Kd.R_base ho0)) (Kd.R_base ho1)) (fun _ h_ => h_.1)); replace HO338 := Aside0.mk (Kd.R_mono (Kd.R_told (Kd.R_told (Kd.R_old (dR HO338.out) hb) (Kd.R_base ho0)) (Kd.R_base ho1)) (fun _ h_ => h_.1)); replace HO350 := Aside0.mk (Kd.R_mono (Kd.R_told (Kd.R_told (Kd.R_old (dR HO350.out) hb) (Kd.R_base ho0)) (Kd.R_base ho1)) (fun _ h_ => h_.1)); replace HB := hS HB.out hb; (try clear hb); (try clear ho0); (try clear ho1); obtain ⟨Ao48, co48, rfl⟩ := Kd.R_slice HO355.out) | ((with_reducible refine gate_callee (f := 45) rfl ?_); refine gL (some 80) Tryd.func45 #[.slice Ao48 t351.length co48] ?_; (with_reducible refine (nat_Word.calls k _ _ t351 t358 t359 _ ?side1 (Kd.R_reads' HO355.out).2.1 A39.out).mono ?_); (case side1 => exact dC (Kd.R_reads' HO355.out).2.2); rintro e w' ⟨rfl, ⟨nd, rfl⟩⟩; refine ⟨_, rfl, ?_⟩; obtain ⟨Ao49, co49, rfl⟩ := Kd.R_slice HO357.out) | ((with_reducible refine gate_callee (f := 46) rfl ?_); refine gL (some 90) Tryd.func46 #[.bool a0, .int .u64 t358, .int .i64 (wrap64 ((wrap64 (t342 - t343)) - 62)), .bool (decide (0 < t352.length)), .int .i64 a3] ?_; (with_reducible refine (near_finish.calls k a0 t358 (wrap64 ((wrap64 (t342 - t343)) - 62)) (decide (0 < t352.length)) a3 t360 t361 _ A40.out).mono ?_); rintro e w50 ⟨rfl, hb⟩; refine ⟨_, rfl, ?_⟩; replace HO335 := oB HO335.out hb; replace HO338 := oB HO338.out hb; replace HO350 := oB HO350.out hb; replace HO355 := oB HO355.out hb; replace HO357 := oB HO357.out hb; replace HB := hS HB.out hb; (try clear hb)))
       go_ret2
       exact ⟨dE, dB⟩
      ·rw [if_neg c36] at H
       have c36b0 : decide (0 < (wrap64 ((wrap64 (t342 - t343)) - 62))) = false := decide_eq_false c36
       clear c36
       replace H := obe H
       obtain ⟨t362, A510, H⟩ := H
       (try dsimp only at H)
       have A51 := Aside0.mk A510
       clear A510
       replace H := obe H
       obtain ⟨⟨t365, t366, t367⟩, A520, H⟩ := H
       (try dsimp only at H)
       have A52 := Aside0.mk A520
       clear A520
       replace H := obe H
       obtain ⟨⟨t372, t373⟩, A530, H⟩ := H
       (try dsimp only at H)
       have A53 := Aside0.mk A530
       clear A530
       replace H := obe H
       obtain ⟨⟨t374, t375⟩, A540, H⟩ := H
       (try dsimp only at H)
       have A54 := Aside0.mk A540
       clear A540
       simp only [Option.some.injEq, Prod.mk.injEq] at H
       obtain ⟨rfl, rfl⟩ := H
       have e_ : decide ((t366.length : Int) > 0) = decide (0 < t366.length) := by rw [decide_eq_decide]; omega
       (try (have z_ := A20.out; rw [e_] at z_; clear A20; have A20 := Aside0.mk z_; clear z_))
       (try (have z_ := A21.out; rw [e_] at z_; clear A21; have A21 := Aside0.mk z_; clear z_))
       (try (have z_ := A5.out; rw [e_] at z_; clear A5; have A5 := Aside0.mk z_; clear z_))
       (try (have z_ := A51.out; rw [e_] at z_; clear A51; have A51 := Aside0.mk z_; clear z_))
       (try (have z_ := A52.out; rw [e_] at z_; clear A52; have A52 := Aside0.mk z_; clear z_))
       (try (have z_ := A53.out; rw [e_] at z_; clear A53; have A53 := Aside0.mk z_; clear z_))
       (try (have z_ := A54.out; rw [e_] at z_; clear A54; have A54 := Aside0.mk z_; clear z_))
       (try (have z_ := A6.out; rw [e_] at z_; clear A6; have A6 := Aside0.mk z_; clear z_))
       (try (have z_ := A7.out; rw [e_] at z_; clear A7; have A7 := Aside0.mk z_; clear z_))
       clear e_
       go_enter Tryd.func17, Tryd.ntmps17
       go_wp2_with (first | ((with_reducible refine gate_callee (f := 51) rfl ?_); refine gL (some 18) Tryd.func51 #[.slice A1 l1.length c1] ?_; (with_reducible refine (nat_Norm.calls _ _ l1 t333 _ ?side1 HC1.out A5.out).mono ?_); (case side1 => exact dC HR1.out); rintro e w55 ⟨v334, rfl, ho0, hb⟩; refine ⟨_, rfl, ?_⟩; have HO335 := Aside0.mk (Kd.R_lower ho0 (below_size dB)); replace HB := hS HB.out hb; (try clear hb); (try clear ho0)) | ((with_reducible refine gate_callee (f := 51) rfl ?_); refine gL (some 20) Tryd.func51 #[.slice A2 l2.length c2] ?_; (with_reducible refine (nat_Norm.calls _ _ l2 t336 _ ?side1 HC2.out A6.out).mono ?_); (case side1 => exact dC (Kd.C_below HR2.out HB.out)); rintro e w56 ⟨v337, rfl, ho0, hb⟩; refine ⟨_, rfl, ?_⟩; have HO338 := Aside0.mk (Kd.R_lower (Kd.R_new' ho0 (Kd.R_lt (dR HO335.out))) (below_size dB)); replace HO335 := oE HO335.out ho0 hb; replace HB := hS HB.out hb; (try clear hb); (try clear ho0)) | ((with_reducible refine gate_callee (f := 42) rfl ?_); refine gL (some 23) Tryd.func42 #[.int .i64 a3] ?_; (with_reducible refine (near_known.calls a3 true _ A7.out).mono ?_); rintro e w' ⟨rfl, ⟨nd, rfl⟩⟩; refine ⟨_, rfl, ?_⟩; obtain ⟨Ao57, co57, rfl⟩ := Kd.R_slice HO338.out; obtain ⟨Ao58, co58, rfl⟩ := Kd.R_slice HO335.out) | ((with_reducible refine gate_callee (f := 43) rfl ?_); refine gL (some 39) Tryd.func43 #[.slice Ao58 t333.length co58] ?_; (with_reducible refine (nat_Bits.calls k _ _ t333 t342 _ ?side1 (Kd.R_reads' HO335.out).2.1 A20.out).mono ?_); (case side1 => exact dC (Kd.R_reads' HO335.out).2.2); rintro e w' ⟨rfl, ⟨nd, rfl⟩⟩; refine ⟨_, rfl, ?_⟩) | ((with_reducible refine gate_callee (f := 43) rfl ?_); refine gL (some 41) Tryd.func43 #[.slice Ao57 t336.length co57] ?_; (with_reducible refine (nat_Bits.calls k _ _ t336 t343 _ ?side1 (Kd.R_reads' HO338.out).2.1 A21.out).mono ?_); (case side1 => exact dC (Kd.R_reads' HO338.out).2.2); rintro e w' ⟨rfl, ⟨nd, rfl⟩⟩; refine ⟨_, rfl, ?_⟩) | ((with_reducible refine gate_callee (f := 52) rfl ?_); refine gL (some 70) Tryd.func52 #[.slice Ao58 t333.length co58, .int .i64 (wrap64 (-(wrap64 ((wrap64 (t342 - t343)) - 62))))] ?_; (with_reducible refine (near_shl.calls k _ _ t333 (wrap64 (-(wrap64 ((wrap64 (t342 - t343)) - 62)))) t362 _ ?side1 (Kd.R_reads' HO335.out).2.1 A51.out).mono ?_); (case side1 => exact dC (Kd.R_reads' HO335.out).2.2); rintro e w59 ⟨v363, rfl, ho0, hb⟩; refine ⟨_, rfl, ?_⟩; have HO364 := Aside0.mk (Kd.R_lower (Kd.R_new' (Kd.R_new' ho0 (Kd.R_lt (dR HO335.out))) (Kd.R_lt (dR HO338.out))) (below_size dB)); replace HO335 := oE HO335.out ho0 hb; replace HO338 := oE HO338.out ho0 hb; replace HB := hS HB.out hb; (try clear hb); (try clear ho0); obtain ⟨Ao60, co60, rfl⟩ := Kd.R_slice HO364.out) | ((with_reducible refine gate_callee (f := 53) rfl ?_); refine gL (some 74) Tryd.func53 #[.slice Ao60 t362.length co60, .slice Ao57 t336.length co57] ?_; (with_reducible refine (quot_DivMod.calls k _ _ t362 _ _ t336 t365 t366 t367 _ ?side1 (Kd.R_reads' HO364.out).2.1 ?side3 (Kd.R_reads' HO338.out).2.1 A52.out).mono ?_); (case side1 => exact dC (Kd.R_reads' HO364.out).2.2); (case side3 => exact dC (Kd.R_reads' HO338.out).2.2); rintro e w61 ⟨v368, v370, rfl, ho0, ho1, hb⟩; refine ⟨_, rfl, ?_⟩; have HO369 := Aside0.mk (Kd.R_lower (Kd.R_new' (Kd.R_new' (Kd.R_new' ho0 (Kd.R_lt (dR HO335.out))) (Kd.R_lt (dR HO338.out))) (Kd.R_lt (dR HO364.out))) (below_size dB)); have HO371 := Aside0.mk (Kd.R_lower (Kd.R_new' (Kd.R_new' (Kd.R_new' ho1 (Kd.R_lt (dR HO335.out))) (Kd.R_lt (dR HO338.out))) (Kd.R_lt (dR HO364.out))) (below_size dB)); replace HO335 := Aside0.mk (Kd.R_mono (Kd.R_told (Kd.R_told (Kd.R_old (dR HO335.out) hb) (Kd.R_base ho0)) (Kd.R_base ho1)) (fun _ h_ => h_.1)); replace HO338 := Aside0.mk (Kd.R_mono (Kd.R_told (Kd.R_told (Kd.R_old (dR HO338.out) hb) (Kd.R_base ho0)) (Kd.R_base ho1)) (fun _ h_ => h_.1)); replace HO364 := Aside0.mk (Kd.R_mono (Kd.R_told (Kd.R_told (Kd.R_old (dR HO364.out) hb) (Kd.R_base ho0)) (Kd.R_base ho1)) (fun _ h_ => h_.1)); replace HB := hS HB.out hb; (try clear hb); (try clear ho0); (try clear ho1); obtain ⟨Ao62, co62, rfl⟩ := Kd.R_slice HO369.out) | ((with_reducible refine gate_callee (f := 45) rfl ?_); refine gL (some 80) Tryd.func45 #[.slice Ao62 t365.length co62] ?_; (with_reducible refine (nat_Word.calls k _ _ t365 t372 t373 _ ?side1 (Kd.R_reads' HO369.out).2.1 A53.out).mono ?_); (case side1 => exact dC (Kd.R_reads' HO369.out).2.2); rintro e w' ⟨rfl, ⟨nd, rfl⟩⟩; refine ⟨_, rfl, ?_⟩; obtain ⟨Ao63, co63, rfl⟩ := Kd.R_slice HO371.out) | ((with_reducible refine gate_callee (f := 46) rfl ?_); refine gL (some 90) Tryd.func46 #[.bool a0, .int .u64 t372, .int .i64 (wrap64 ((wrap64 (t342 - t343)) - 62)), .bool (decide (0 < t366.length)), .int .i64 a3] ?_; (with_reducible refine (near_finish.calls k a0 t372 (wrap64 ((wrap64 (t342 - t343)) - 62)) (decide (0 < t366.length)) a3 t374 t375 _ A54.out).mono ?_); rintro e w64 ⟨rfl, hb⟩; refine ⟨_, rfl, ?_⟩; replace HO335 := oB HO335.out hb; replace HO338 := oB HO338.out hb; replace HO364 := oB HO364.out hb; replace HO369 := oB HO369.out hb; replace HO371 := oB HO371.out hb; replace HB := hS HB.out hb; (try clear hb)))
       go_ret2
       exact ⟨dE, dB⟩
 ·replace c8 := Bool.eq_false_iff.mpr c8
  subst c8
  rw [if_neg (show ¬ (false = true) by decide)] at H
  (try dsimp only at H)
  simp only [Option.some.injEq, Prod.mk.injEq] at H
  obtain ⟨rfl, rfl⟩ := H
  go_enter Tryd.func17, Tryd.ntmps17
  go_wp2_with (first | ((with_reducible refine gate_callee (f := 51) rfl ?_); refine gL (some 18) Tryd.func51 #[.slice A1 l1.length c1] ?_; (with_reducible refine (nat_Norm.calls _ _ l1 t333 _ ?side1 HC1.out A5.out).mono ?_); (case side1 => exact dC HR1.out); rintro e w65 ⟨v334, rfl, ho0, hb⟩; refine ⟨_, rfl, ?_⟩; have HO335 := Aside0.mk (Kd.R_lower ho0 (below_size dB)); replace HB := hS HB.out hb; (try clear hb); (try clear ho0)) | ((with_reducible refine gate_callee (f := 51) rfl ?_); refine gL (some 20) Tryd.func51 #[.slice A2 l2.length c2] ?_; (with_reducible refine (nat_Norm.calls _ _ l2 t336 _ ?side1 HC2.out A6.out).mono ?_); (case side1 => exact dC (Kd.C_below HR2.out HB.out)); rintro e w66 ⟨v337, rfl, ho0, hb⟩; refine ⟨_, rfl, ?_⟩; have HO338 := Aside0.mk (Kd.R_lower (Kd.R_new' ho0 (Kd.R_lt (dR HO335.out))) (below_size dB)); replace HO335 := oE HO335.out ho0 hb; replace HB := hS HB.out hb; (try clear hb); (try clear ho0)) | ((with_reducible refine gate_callee (f := 42) rfl ?_); refine gL (some 23) Tryd.func42 #[.int .i64 a3] ?_; (with_reducible refine (near_known.calls a3 false _ A7.out).mono ?_); rintro e w' ⟨rfl, ⟨nd, rfl⟩⟩; refine ⟨_, rfl, ?_⟩))
  go_ret2
  exact ⟨dE, dB⟩
def plumblaw07_fixed.f (k : Nat)  : Option (Bool) := (near_Quotient.f k false (([1] : List Int)) (([2] : List Int)) 0).bind fun bt250 => ((near_Quotient.f k true (([1] : List Int)) (([3] : List Int)) 0).bind fun bt258 => ((near_Quotient.f k false (([1] : List Int)) ([] : List Int) 0).bind fun bt263 => ((plumblaw07_num.f bt250.2).bind fun t265 => (if t265 = 0 then ((plumblaw07_num.f bt258.2).bind fun t266 => (if t266 = 0 then (if bt250.1 = 4602678819172646912 then (if bt258.1 = 13823048456275842389 then ((plumblaw07_num.f bt263.2).bind fun t267 => (some (t267 == 50))) else (some false)) else (some false)) else (some false))) else (some false)))))
theorem plumblaw07_fixed.mono : ∀ k, LeO (plumblaw07_fixed.f k ) (plumblaw07_fixed.f (k + 1) ) := by
 intro  k
 unfold plumblaw07_fixed.f
 have m0_ := near_Quotient.mono
 exact mX
set_option maxHeartbeats 8000000 in
set_option maxRecDepth 100000 in
theorem plumblaw07_fixed.calls (k : Nat)  (r : Bool) (w : World) (h : plumblaw07_fixed.f k  = some r) (hS : StaysLaid w := by first | exact HS.out | exact hS | exact StaysLaid.below HS.out HB.out | exact StaysLaid.below HS.out dB) :
  Calls Tryd.prog 19 #[] w fun e w' => e = .returned (.bool r) ∧ Below w.heap.size w w' := by
 have HS := Aside0.mk (show StaysLaid w from hS)
 clear hS
 have HB := Aside0.mk (Below.refl w.heap.size w)
 have H := h
 clear h
 unfold plumblaw07_fixed.f at H
 obtain ⟨y244, hy244⟩ : ∃ y_ : List Int, y_ = (([1] : List Int)) := ⟨_, rfl⟩
 replace H : ((near_Quotient.f k false y244 (([2] : List Int)) 0).bind fun bt250 => ((near_Quotient.f k true (([1] : List Int)) (([3] : List Int)) 0).bind fun bt258 => ((near_Quotient.f k false (([1] : List Int)) ([] : List Int) 0).bind fun bt263 => ((plumblaw07_num.f bt250.2).bind fun t265 => (if t265 = 0 then ((plumblaw07_num.f bt258.2).bind fun t266 => (if t266 = 0 then (if bt250.1 = 4602678819172646912 then (if bt258.1 = 13823048456275842389 then ((plumblaw07_num.f bt263.2).bind fun t267 => (some (t267 == 50))) else (some false)) else (some false)) else (some false))) else (some false)))))) = some r := by first | (rw [hy244]; with_reducible exact H) | (have H2_ := (Option.bind_some _ _).symm.trans H; rw [hy244]; with_reducible exact H2_) | (have H2_ := (Option.bind_some _ _).symm.trans H; with_reducible exact H2_) | with_reducible exact H | (rw [hy244]; exact H) | exact H
 have Ny244 := Aside0.mk hy244
 clear hy244
 obtain ⟨y247, hy247⟩ : ∃ y_ : List Int, y_ = (([2] : List Int)) := ⟨_, rfl⟩
 replace H : ((near_Quotient.f k false y244 y247 0).bind fun bt250 => ((near_Quotient.f k true (([1] : List Int)) (([3] : List Int)) 0).bind fun bt258 => ((near_Quotient.f k false (([1] : List Int)) ([] : List Int) 0).bind fun bt263 => ((plumblaw07_num.f bt250.2).bind fun t265 => (if t265 = 0 then ((plumblaw07_num.f bt258.2).bind fun t266 => (if t266 = 0 then (if bt250.1 = 4602678819172646912 then (if bt258.1 = 13823048456275842389 then ((plumblaw07_num.f bt263.2).bind fun t267 => (some (t267 == 50))) else (some false)) else (some false)) else (some false))) else (some false)))))) = some r := by first | (rw [hy247]; with_reducible exact H) | (have H2_ := (Option.bind_some _ _).symm.trans H; rw [hy247]; with_reducible exact H2_) | (have H2_ := (Option.bind_some _ _).symm.trans H; with_reducible exact H2_) | with_reducible exact H | (rw [hy247]; exact H) | exact H
 have Ny247 := Aside0.mk hy247
 clear hy247
 replace H := obe H
 obtain ⟨⟨t250, t251⟩, A10, H⟩ := H
 (try dsimp only at H)
 have A1 := Aside0.mk A10
 clear A10
 obtain ⟨y252, hy252⟩ : ∃ y_ : List Int, y_ = (([1] : List Int)) := ⟨_, rfl⟩
 replace H : ((near_Quotient.f k true y252 (([3] : List Int)) 0).bind fun bt258 => ((near_Quotient.f k false (([1] : List Int)) ([] : List Int) 0).bind fun bt263 => ((plumblaw07_num.f t251).bind fun t265 => (if t265 = 0 then ((plumblaw07_num.f bt258.2).bind fun t266 => (if t266 = 0 then (if t250 = 4602678819172646912 then (if bt258.1 = 13823048456275842389 then ((plumblaw07_num.f bt263.2).bind fun t267 => (some (t267 == 50))) else (some false)) else (some false)) else (some false))) else (some false))))) = some r := by first | (rw [hy252]; with_reducible exact H) | (have H2_ := (Option.bind_some _ _).symm.trans H; rw [hy252]; with_reducible exact H2_) | (have H2_ := (Option.bind_some _ _).symm.trans H; with_reducible exact H2_) | with_reducible exact H | (rw [hy252]; exact H) | exact H
 have Ny252 := Aside0.mk hy252
 clear hy252
 obtain ⟨y255, hy255⟩ : ∃ y_ : List Int, y_ = (([3] : List Int)) := ⟨_, rfl⟩
 replace H : ((near_Quotient.f k true y252 y255 0).bind fun bt258 => ((near_Quotient.f k false (([1] : List Int)) ([] : List Int) 0).bind fun bt263 => ((plumblaw07_num.f t251).bind fun t265 => (if t265 = 0 then ((plumblaw07_num.f bt258.2).bind fun t266 => (if t266 = 0 then (if t250 = 4602678819172646912 then (if bt258.1 = 13823048456275842389 then ((plumblaw07_num.f bt263.2).bind fun t267 => (some (t267 == 50))) else (some false)) else (some false)) else (some false))) else (some false))))) = some r := by first | (rw [hy255]; with_reducible exact H) | (have H2_ := (Option.bind_some _ _).symm.trans H; rw [hy255]; with_reducible exact H2_) | (have H2_ := (Option.bind_some _ _).symm.trans H; with_reducible exact H2_) | with_reducible exact H | (rw [hy255]; exact H) | exact H
 have Ny255 := Aside0.mk hy255
 clear hy255
 replace H := obe H
 obtain ⟨⟨t258, t259⟩, A20, H⟩ := H
 (try dsimp only at H)
 have A2 := Aside0.mk A20
 clear A20
 obtain ⟨y260, hy260⟩ : ∃ y_ : List Int, y_ = (([1] : List Int)) := ⟨_, rfl⟩
 replace H : ((near_Quotient.f k false y260 ([] : List Int) 0).bind fun bt263 => ((plumblaw07_num.f t251).bind fun t265 => (if t265 = 0 then ((plumblaw07_num.f t259).bind fun t266 => (if t266 = 0 then (if t250 = 4602678819172646912 then (if t258 = 13823048456275842389 then ((plumblaw07_num.f bt263.2).bind fun t267 => (some (t267 == 50))) else (some false)) else (some false)) else (some false))) else (some false)))) = some r := by first | (rw [hy260]; with_reducible exact H) | (have H2_ := (Option.bind_some _ _).symm.trans H; rw [hy260]; with_reducible exact H2_) | (have H2_ := (Option.bind_some _ _).symm.trans H; with_reducible exact H2_) | with_reducible exact H | (rw [hy260]; exact H) | exact H
 have Ny260 := Aside0.mk hy260
 clear hy260
 replace H := obe H
 obtain ⟨⟨t263, t264⟩, A30, H⟩ := H
 (try dsimp only at H)
 have A3 := Aside0.mk A30
 clear A30
 replace H := obe H
 obtain ⟨t265, A40, H⟩ := H
 (try dsimp only at H)
 have A4 := Aside0.mk A40
 clear A40
 by_cases c5 : t265 = 0
 ·rw [if_pos c5] at H
  have c5b0 : (t265 == 0) = true := beq_iff_eq.mpr c5
  have c5b1 : (t265 != 0) = false := bne_eq_false_iff_eq.mpr c5
  clear c5
  replace H := obe H
  obtain ⟨t266, A60, H⟩ := H
  (try dsimp only at H)
  have A6 := Aside0.mk A60
  clear A60
  by_cases c7 : t266 = 0
  ·rw [if_pos c7] at H
   have c7b0 : (t266 == 0) = true := beq_iff_eq.mpr c7
   have c7b1 : (t266 != 0) = false := bne_eq_false_iff_eq.mpr c7
   clear c7
   by_cases c8 : t250 = 4602678819172646912
   ·rw [if_pos c8] at H
    have c8b0 : (t250 == 4602678819172646912) = true := beq_iff_eq.mpr c8
    have c8b1 : (t250 != 4602678819172646912) = false := bne_eq_false_iff_eq.mpr c8
    clear c8
    by_cases c9 : t258 = 13823048456275842389
    ·rw [if_pos c9] at H
     have c9b0 : (t258 == 13823048456275842389) = true := beq_iff_eq.mpr c9
     have c9b1 : (t258 != 13823048456275842389) = false := bne_eq_false_iff_eq.mpr c9
     clear c9
     replace H := obe H
     obtain ⟨t267, A100, H⟩ := H
     (try dsimp only at H)
     have A10 := Aside0.mk A100
     clear A100
     obtain rfl := Option.some.inj H
     go_enter Tryd.func19, Tryd.ntmps19
     go_wp2_with (first | ((with_reducible refine gate_dst (N := 8) rfl ?_); refine Kd.R_lit (Kd.int .u64) _ 26 ?hg (N := 8) ?hd (xs := ([1] : List Int)) (inner := [.int .u64 1]) (ok := fun _ => True) (okp := fun _ => True) ?hr ?hp (fun _ hk => hk) trivial (Below.refl _ _) (Nat.le_refl _) (by simp) ?_; (case hd => rfl); (case hg => rfl); (case hr => first | (go_simp; done) | (go_simp; rfl)); (case hp => exact (Reps.one (show Kd.M (Kd.int .u64) _ _ _ 1 [.int .u64 1] from rfl) (Reps.none _ _))); intro v245 w11 ho12 hb hg_ hnew_; clear hg_ hnew_; (first | rw [← Ny244.out] at ho12 | (simp only [Int.reduceToNat] at ho12; rw [← Ny244.out] at ho12)); have HO246 := Aside0.mk (Kd.R_lower ho12 (below_size dB)); replace HB := hS HB.out hb; clear hb ho12) | ((with_reducible refine gate_dst (N := 9) rfl ?_); refine Kd.R_lit (Kd.int .u64) _ 26 ?hg (N := 9) ?hd (xs := ([2] : List Int)) (inner := [.int .u64 2]) (ok := fun _ => True) (okp := fun _ => True) ?hr ?hp (fun _ hk => hk) trivial (Below.refl _ _) (Nat.le_refl _) (by simp) ?_; (case hd => rfl); (case hg => rfl); (case hr => first | (go_simp; done) | (go_simp; rfl)); (case hp => exact (Reps.one (show Kd.M (Kd.int .u64) _ _ _ 2 [.int .u64 2] from rfl) (Reps.none _ _))); intro v248 w13 ho14 hb hg_ hnew_; clear hg_ hnew_; (first | rw [← Ny247.out] at ho14 | (simp only [Int.reduceToNat] at ho14; rw [← Ny247.out] at ho14)); have HO249 := Aside0.mk (Kd.R_lower (Kd.R_new' ho14 (Kd.R_lt (dR HO246.out))) (below_size dB)); replace HO246 := oE HO246.out ho14 hb; replace HB := hS HB.out hb; clear hb ho14; obtain ⟨Ao15, co15, rfl⟩ := Kd.R_slice HO246.out; obtain ⟨Ao16, co16, rfl⟩ := Kd.R_slice HO249.out) | ((with_reducible refine gate_callee (f := 17) rfl ?_); refine gL (some 10) Tryd.func17 #[.bool false, .slice Ao15 y244.length co15, .slice Ao16 y247.length co16, .int .i64 0] ?_; (with_reducible refine (near_Quotient.calls k false _ _ y244 _ _ y247 0 t250 t251 _ ?side1 (Kd.R_reads' HO246.out).2.1 ?side3 (Kd.R_reads' HO249.out).2.1 A1.out).mono ?_); (case side1 => exact dC (Kd.R_reads' HO246.out).2.2); (case side3 => exact dC (Kd.R_reads' HO249.out).2.2); rintro e w17 ⟨rfl, hb⟩; refine ⟨_, rfl, ?_⟩; replace HO246 := oB HO246.out hb; replace HO249 := oB HO249.out hb; replace HB := hS HB.out hb; (try clear hb)) | ((with_reducible refine gate_dst (N := 14) rfl ?_); refine Kd.R_lit (Kd.int .u64) _ 26 ?hg (N := 14) ?hd (xs := ([1] : List Int)) (inner := [.int .u64 1]) (ok := fun _ => True) (okp := fun _ => True) ?hr ?hp (fun _ hk => hk) trivial (Below.refl _ _) (Nat.le_refl _) (by simp) ?_; (case hd => rfl); (case hg => rfl); (case hr => first | (go_simp; done) | (go_simp; rfl)); (case hp => exact (Reps.one (show Kd.M (Kd.int .u64) _ _ _ 1 [.int .u64 1] from rfl) (Reps.none _ _))); intro v253 w18 ho19 hb hg_ hnew_; clear hg_ hnew_; (first | rw [← Ny252.out] at ho19 | (simp only [Int.reduceToNat] at ho19; rw [← Ny252.out] at ho19)); have HO254 := Aside0.mk (Kd.R_lower (Kd.R_new' (Kd.R_new' ho19 (Kd.R_lt (dR HO246.out))) (Kd.R_lt (dR HO249.out))) (below_size dB)); replace HO246 := oE HO246.out ho19 hb; replace HO249 := oE HO249.out ho19 hb; replace HB := hS HB.out hb; clear hb ho19) | ((with_reducible refine gate_dst (N := 15) rfl ?_); refine Kd.R_lit (Kd.int .u64) _ 26 ?hg (N := 15) ?hd (xs := ([3] : List Int)) (inner := [.int .u64 3]) (ok := fun _ => True) (okp := fun _ => True) ?hr ?hp (fun _ hk => hk) trivial (Below.refl _ _) (Nat.le_refl _) (by simp) ?_; (case hd => rfl); (case hg => rfl); (case hr => first | (go_simp; done) | (go_simp; rfl)); (case hp => exact (Reps.one (show Kd.M (Kd.int .u64) _ _ _ 3 [.int .u64 3] from rfl) (Reps.none _ _))); intro v256 w20 ho21 hb hg_ hnew_; clear hg_ hnew_; (first | rw [← Ny255.out] at ho21 | (simp only [Int.reduceToNat] at ho21; rw [← Ny255.out] at ho21)); have HO257 := Aside0.mk (Kd.R_lower (Kd.R_new' (Kd.R_new' (Kd.R_new' ho21 (Kd.R_lt (dR HO246.out))) (Kd.R_lt (dR HO249.out))) (Kd.R_lt (dR HO254.out))) (below_size dB)); replace HO246 := oE HO246.out ho21 hb; replace HO249 := oE HO249.out ho21 hb; replace HO254 := oE HO254.out ho21 hb; replace HB := hS HB.out hb; clear hb ho21; obtain ⟨Ao22, co22, rfl⟩ := Kd.R_slice HO254.out; obtain ⟨Ao23, co23, rfl⟩ := Kd.R_slice HO257.out) | ((with_reducible refine gate_callee (f := 17) rfl ?_); refine gL (some 16) Tryd.func17 #[.bool true, .slice Ao22 y252.length co22, .slice Ao23 y255.length co23, .int .i64 0] ?_; (with_reducible refine (near_Quotient.calls k true _ _ y252 _ _ y255 0 t258 t259 _ ?side1 (Kd.R_reads' HO254.out).2.1 ?side3 (Kd.R_reads' HO257.out).2.1 A2.out).mono ?_); (case side1 => exact dC (Kd.R_reads' HO254.out).2.2); (case side3 => exact dC (Kd.R_reads' HO257.out).2.2); rintro e w24 ⟨rfl, hb⟩; refine ⟨_, rfl, ?_⟩; replace HO246 := oB HO246.out hb; replace HO249 := oB HO249.out hb; replace HO254 := oB HO254.out hb; replace HO257 := oB HO257.out hb; replace HB := hS HB.out hb; (try clear hb)) | ((with_reducible refine gate_dst (N := 20) rfl ?_); refine Kd.R_lit (Kd.int .u64) _ 26 ?hg (N := 20) ?hd (xs := ([1] : List Int)) (inner := [.int .u64 1]) (ok := fun _ => True) (okp := fun _ => True) ?hr ?hp (fun _ hk => hk) trivial (Below.refl _ _) (Nat.le_refl _) (by simp) ?_; (case hd => rfl); (case hg => rfl); (case hr => first | (go_simp; done) | (go_simp; rfl)); (case hp => exact (Reps.one (show Kd.M (Kd.int .u64) _ _ _ 1 [.int .u64 1] from rfl) (Reps.none _ _))); intro v261 w25 ho26 hb hg_ hnew_; clear hg_ hnew_; (first | rw [← Ny260.out] at ho26 | (simp only [Int.reduceToNat] at ho26; rw [← Ny260.out] at ho26)); have HO262 := Aside0.mk (Kd.R_lower (Kd.R_new' (Kd.R_new' (Kd.R_new' (Kd.R_new' ho26 (Kd.R_lt (dR HO246.out))) (Kd.R_lt (dR HO249.out))) (Kd.R_lt (dR HO254.out))) (Kd.R_lt (dR HO257.out))) (below_size dB)); replace HO246 := oE HO246.out ho26 hb; replace HO249 := oE HO249.out ho26 hb; replace HO254 := oE HO254.out ho26 hb; replace HO257 := oE HO257.out ho26 hb; replace HB := hS HB.out hb; clear hb ho26; obtain ⟨Ao27, co27, rfl⟩ := Kd.R_slice HO262.out) | ((with_reducible refine gate_callee (f := 17) rfl ?_); refine gL (some 21) Tryd.func17 #[.bool false, .slice Ao27 y260.length co27, .slice none 0 0, .int .i64 0] ?_; (refine (near_Quotient.calls k false _ _ y260 _ _ ([] : List Int) 0 t263 t264 _ ?side1 (Kd.R_reads' HO262.out).2.1 ?side3 ?side4 A3.out).mono ?_); (case side1 => exact dC (Kd.R_reads' HO262.out).2.2); (case side3 => exact Kd.C_nil _ _); (case side4 => exact Nat.le_refl _); rintro e w28 ⟨rfl, hb⟩; refine ⟨_, rfl, ?_⟩; replace HO246 := oB HO246.out hb; replace HO249 := oB HO249.out hb; replace HO254 := oB HO254.out hb; replace HO257 := oB HO257.out hb; replace HO262 := oB HO262.out hb; replace HB := hS HB.out hb; (try clear hb)) | ((with_reducible refine gate_callee (f := 15) rfl ?_); refine gL (some 25) Tryd.func15 #[.int .i64 t251] ?_; (with_reducible refine (plumblaw07_num.calls t251 t265 _ A4.out).mono ?_); rintro e w' ⟨rfl, ⟨nd, rfl⟩⟩; refine ⟨_, rfl, ?_⟩) | (go_at_call 15; (with_reducible refine (plumblaw07_num.calls t259 t266 _ A6.out).mono ?_); rintro e w' ⟨rfl, ⟨nd, rfl⟩⟩) | (go_at_call 15; (with_reducible refine (plumblaw07_num.calls t264 t267 _ A10.out).mono ?_); rintro e w' ⟨rfl, ⟨nd, rfl⟩⟩))
     first | go_ret | (refine bodyPost_ret ?ghr ?ghd ?_; (case ghr => exact results_tmp rfl _ _ _); (case ghd => rfl))
     exact ⟨dE, dB⟩
    ·rw [if_neg c9] at H
     have c9b0 : (t258 == 13823048456275842389) = false := beq_eq_false_iff_ne.mpr c9
     have c9b1 : (t258 != 13823048456275842389) = true := bne_iff_ne.mpr c9
     obtain rfl := Option.some.inj H
     go_enter Tryd.func19, Tryd.ntmps19
     go_wp2_with (first | ((with_reducible refine gate_dst (N := 8) rfl ?_); refine Kd.R_lit (Kd.int .u64) _ 26 ?hg (N := 8) ?hd (xs := ([1] : List Int)) (inner := [.int .u64 1]) (ok := fun _ => True) (okp := fun _ => True) ?hr ?hp (fun _ hk => hk) trivial (Below.refl _ _) (Nat.le_refl _) (by simp) ?_; (case hd => rfl); (case hg => rfl); (case hr => first | (go_simp; done) | (go_simp; rfl)); (case hp => exact (Reps.one (show Kd.M (Kd.int .u64) _ _ _ 1 [.int .u64 1] from rfl) (Reps.none _ _))); intro v245 w29 ho30 hb hg_ hnew_; clear hg_ hnew_; (first | rw [← Ny244.out] at ho30 | (simp only [Int.reduceToNat] at ho30; rw [← Ny244.out] at ho30)); have HO246 := Aside0.mk (Kd.R_lower ho30 (below_size dB)); replace HB := hS HB.out hb; clear hb ho30) | ((with_reducible refine gate_dst (N := 9) rfl ?_); refine Kd.R_lit (Kd.int .u64) _ 26 ?hg (N := 9) ?hd (xs := ([2] : List Int)) (inner := [.int .u64 2]) (ok := fun _ => True) (okp := fun _ => True) ?hr ?hp (fun _ hk => hk) trivial (Below.refl _ _) (Nat.le_refl _) (by simp) ?_; (case hd => rfl); (case hg => rfl); (case hr => first | (go_simp; done) | (go_simp; rfl)); (case hp => exact (Reps.one (show Kd.M (Kd.int .u64) _ _ _ 2 [.int .u64 2] from rfl) (Reps.none _ _))); intro v248 w31 ho32 hb hg_ hnew_; clear hg_ hnew_; (first | rw [← Ny247.out] at ho32 | (simp only [Int.reduceToNat] at ho32; rw [← Ny247.out] at ho32)); have HO249 := Aside0.mk (Kd.R_lower (Kd.R_new' ho32 (Kd.R_lt (dR HO246.out))) (below_size dB)); replace HO246 := oE HO246.out ho32 hb; replace HB := hS HB.out hb; clear hb ho32; obtain ⟨Ao33, co33, rfl⟩ := Kd.R_slice HO246.out; obtain ⟨Ao34, co34, rfl⟩ := Kd.R_slice HO249.out) | ((with_reducible refine gate_callee (f := 17) rfl ?_); refine gL (some 10) Tryd.func17 #[.bool false, .slice Ao33 y244.length co33, .slice Ao34 y247.length co34, .int .i64 0] ?_; (with_reducible refine (near_Quotient.calls k false _ _ y244 _ _ y247 0 t250 t251 _ ?side1 (Kd.R_reads' HO246.out).2.1 ?side3 (Kd.R_reads' HO249.out).2.1 A1.out).mono ?_); (case side1 => exact dC (Kd.R_reads' HO246.out).2.2); (case side3 => exact dC (Kd.R_reads' HO249.out).2.2); rintro e w35 ⟨rfl, hb⟩; refine ⟨_, rfl, ?_⟩; replace HO246 := oB HO246.out hb; replace HO249 := oB HO249.out hb; replace HB := hS HB.out hb; (try clear hb)) | ((with_reducible refine gate_dst (N := 14) rfl ?_); refine Kd.R_lit (Kd.int .u64) _ 26 ?hg (N := 14) ?hd (xs := ([1] : List Int)) (inner := [.int .u64 1]) (ok := fun _ => True) (okp := fun _ => True) ?hr ?hp (fun _ hk => hk) trivial (Below.refl _ _) (Nat.le_refl _) (by simp) ?_; (case hd => rfl); (case hg => rfl); (case hr => first | (go_simp; done) | (go_simp; rfl)); (case hp => exact (Reps.one (show Kd.M (Kd.int .u64) _ _ _ 1 [.int .u64 1] from rfl) (Reps.none _ _))); intro v253 w36 ho37 hb hg_ hnew_; clear hg_ hnew_; (first | rw [← Ny252.out] at ho37 | (simp only [Int.reduceToNat] at ho37; rw [← Ny252.out] at ho37)); have HO254 := Aside0.mk (Kd.R_lower (Kd.R_new' (Kd.R_new' ho37 (Kd.R_lt (dR HO246.out))) (Kd.R_lt (dR HO249.out))) (below_size dB)); replace HO246 := oE HO246.out ho37 hb; replace HO249 := oE HO249.out ho37 hb; replace HB := hS HB.out hb; clear hb ho37) | ((with_reducible refine gate_dst (N := 15) rfl ?_); refine Kd.R_lit (Kd.int .u64) _ 26 ?hg (N := 15) ?hd (xs := ([3] : List Int)) (inner := [.int .u64 3]) (ok := fun _ => True) (okp := fun _ => True) ?hr ?hp (fun _ hk => hk) trivial (Below.refl _ _) (Nat.le_refl _) (by simp) ?_; (case hd => rfl); (case hg => rfl); (case hr => first | (go_simp; done) | (go_simp; rfl)); (case hp => exact (Reps.one (show Kd.M (Kd.int .u64) _ _ _ 3 [.int .u64 3] from rfl) (Reps.none _ _))); intro v256 w38 ho39 hb hg_ hnew_; clear hg_ hnew_; (first | rw [← Ny255.out] at ho39 | (simp only [Int.reduceToNat] at ho39; rw [← Ny255.out] at ho39)); have HO257 := Aside0.mk (Kd.R_lower (Kd.R_new' (Kd.R_new' (Kd.R_new' ho39 (Kd.R_lt (dR HO246.out))) (Kd.R_lt (dR HO249.out))) (Kd.R_lt (dR HO254.out))) (below_size dB)); replace HO246 := oE HO246.out ho39 hb; replace HO249 := oE HO249.out ho39 hb; replace HO254 := oE HO254.out ho39 hb; replace HB := hS HB.out hb; clear hb ho39; obtain ⟨Ao40, co40, rfl⟩ := Kd.R_slice HO254.out; obtain ⟨Ao41, co41, rfl⟩ := Kd.R_slice HO257.out) | ((with_reducible refine gate_callee (f := 17) rfl ?_); refine gL (some 16) Tryd.func17 #[.bool true, .slice Ao40 y252.length co40, .slice Ao41 y255.length co41, .int .i64 0] ?_; (with_reducible refine (near_Quotient.calls k true _ _ y252 _ _ y255 0 t258 t259 _ ?side1 (Kd.R_reads' HO254.out).2.1 ?side3 (Kd.R_reads' HO257.out).2.1 A2.out).mono ?_); (case side1 => exact dC (Kd.R_reads' HO254.out).2.2); (case side3 => exact dC (Kd.R_reads' HO257.out).2.2); rintro e w42 ⟨rfl, hb⟩; refine ⟨_, rfl, ?_⟩; replace HO246 := oB HO246.out hb; replace HO249 := oB HO249.out hb; replace HO254 := oB HO254.out hb; replace HO257 := oB HO257.out hb; replace HB := hS HB.out hb; (try clear hb)) | ((with_reducible refine gate_dst (N := 20) rfl ?_); refine Kd.R_lit (Kd.int .u64) _ 26 ?hg (N := 20) ?hd (xs := ([1] : List Int)) (inner := [.int .u64 1]) (ok := fun _ => True) (okp := fun _ => True) ?hr ?hp (fun _ hk => hk) trivial (Below.refl _ _) (Nat.le_refl _) (by simp) ?_; (case hd => rfl); (case hg => rfl); (case hr => first | (go_simp; done) | (go_simp; rfl)); (case hp => exact (Reps.one (show Kd.M (Kd.int .u64) _ _ _ 1 [.int .u64 1] from rfl) (Reps.none _ _))); intro v261 w43 ho44 hb hg_ hnew_; clear hg_ hnew_; (first | rw [← Ny260.out] at ho44 | (simp only [Int.reduceToNat] at ho44; rw [← Ny260.out] at ho44)); have HO262 := Aside0.mk (Kd.R_lower (Kd.R_new' (Kd.R_new' (Kd.R_new' (Kd.R_new' ho44 (Kd.R_lt (dR HO246.out))) (Kd.R_lt (dR HO249.out))) (Kd.R_lt (dR HO254.out))) (Kd.R_lt (dR HO257.out))) (below_size dB)); replace HO246 := oE HO246.out ho44 hb; replace HO249 := oE HO249.out ho44 hb; replace HO254 := oE HO254.out ho44 hb; replace HO257 := oE HO257.out ho44 hb; replace HB := hS HB.out hb; clear hb ho44; obtain ⟨Ao45, co45, rfl⟩ := Kd.R_slice HO262.out) | ((with_reducible refine gate_callee (f := 17) rfl ?_); refine gL (some 21) Tryd.func17 #[.bool false, .slice Ao45 y260.length co45, .slice none 0 0, .int .i64 0] ?_; (refine (near_Quotient.calls k false _ _ y260 _ _ ([] : List Int) 0 t263 t264 _ ?side1 (Kd.R_reads' HO262.out).2.1 ?side3 ?side4 A3.out).mono ?_); (case side1 => exact dC (Kd.R_reads' HO262.out).2.2); (case side3 => exact Kd.C_nil _ _); (case side4 => exact Nat.le_refl _); rintro e w46 ⟨rfl, hb⟩; refine ⟨_, rfl, ?_⟩; replace HO246 := oB HO246.out hb; replace HO249 := oB HO249.out hb; replace HO254 := oB HO254.out hb; replace HO257 := oB HO257.out hb; replace HO262 := oB HO262.out hb; replace HB := hS HB.out hb; (try clear hb)) | ((with_reducible refine gate_callee (f := 15) rfl ?_); refine gL (some 25) Tryd.func15 #[.int .i64 t251] ?_; (with_reducible refine (plumblaw07_num.calls t251 t265 _ A4.out).mono ?_); rintro e w' ⟨rfl, ⟨nd, rfl⟩⟩; refine ⟨_, rfl, ?_⟩) | (go_at_call 15; (with_reducible refine (plumblaw07_num.calls t259 t266 _ A6.out).mono ?_); rintro e w' ⟨rfl, ⟨nd, rfl⟩⟩))
     first | go_ret | (refine bodyPost_ret ?ghr ?ghd ?_; (case ghr => exact results_tmp rfl _ _ _); (case ghd => rfl))
     exact ⟨dE, dB⟩
   ·rw [if_neg c8] at H
    have c8b0 : (t250 == 4602678819172646912) = false := beq_eq_false_iff_ne.mpr c8
    have c8b1 : (t250 != 4602678819172646912) = true := bne_iff_ne.mpr c8
    obtain rfl := Option.some.inj H
    go_enter Tryd.func19, Tryd.ntmps19
    go_wp2_with (first | ((with_reducible refine gate_dst (N := 8) rfl ?_); refine Kd.R_lit (Kd.int .u64) _ 26 ?hg (N := 8) ?hd (xs := ([1] : List Int)) (inner := [.int .u64 1]) (ok := fun _ => True) (okp := fun _ => True) ?hr ?hp (fun _ hk => hk) trivial (Below.refl _ _) (Nat.le_refl _) (by simp) ?_; (case hd => rfl); (case hg => rfl); (case hr => first | (go_simp; done) | (go_simp; rfl)); (case hp => exact (Reps.one (show Kd.M (Kd.int .u64) _ _ _ 1 [.int .u64 1] from rfl) (Reps.none _ _))); intro v245 w47 ho48 hb hg_ hnew_; clear hg_ hnew_; (first | rw [← Ny244.out] at ho48 | (simp only [Int.reduceToNat] at ho48; rw [← Ny244.out] at ho48)); have HO246 := Aside0.mk (Kd.R_lower ho48 (below_size dB)); replace HB := hS HB.out hb; clear hb ho48) | ((with_reducible refine gate_dst (N := 9) rfl ?_); refine Kd.R_lit (Kd.int .u64) _ 26 ?hg (N := 9) ?hd (xs := ([2] : List Int)) (inner := [.int .u64 2]) (ok := fun _ => True) (okp := fun _ => True) ?hr ?hp (fun _ hk => hk) trivial (Below.refl _ _) (Nat.le_refl _) (by simp) ?_; (case hd => rfl); (case hg => rfl); (case hr => first | (go_simp; done) | (go_simp; rfl)); (case hp => exact (Reps.one (show Kd.M (Kd.int .u64) _ _ _ 2 [.int .u64 2] from rfl) (Reps.none _ _))); intro v248 w49 ho50 hb hg_ hnew_; clear hg_ hnew_; (first | rw [← Ny247.out] at ho50 | (simp only [Int.reduceToNat] at ho50; rw [← Ny247.out] at ho50)); have HO249 := Aside0.mk (Kd.R_lower (Kd.R_new' ho50 (Kd.R_lt (dR HO246.out))) (below_size dB)); replace HO246 := oE HO246.out ho50 hb; replace HB := hS HB.out hb; clear hb ho50; obtain ⟨Ao51, co51, rfl⟩ := Kd.R_slice HO246.out; obtain ⟨Ao52, co52, rfl⟩ := Kd.R_slice HO249.out) | ((with_reducible refine gate_callee (f := 17) rfl ?_); refine gL (some 10) Tryd.func17 #[.bool false, .slice Ao51 y244.length co51, .slice Ao52 y247.length co52, .int .i64 0] ?_; (with_reducible refine (near_Quotient.calls k false _ _ y244 _ _ y247 0 t250 t251 _ ?side1 (Kd.R_reads' HO246.out).2.1 ?side3 (Kd.R_reads' HO249.out).2.1 A1.out).mono ?_); (case side1 => exact dC (Kd.R_reads' HO246.out).2.2); (case side3 => exact dC (Kd.R_reads' HO249.out).2.2); rintro e w53 ⟨rfl, hb⟩; refine ⟨_, rfl, ?_⟩; replace HO246 := oB HO246.out hb; replace HO249 := oB HO249.out hb; replace HB := hS HB.out hb; (try clear hb)) | ((with_reducible refine gate_dst (N := 14) rfl ?_); refine Kd.R_lit (Kd.int .u64) _ 26 ?hg (N := 14) ?hd (xs := ([1] : List Int)) (inner := [.int .u64 1]) (ok := fun _ => True) (okp := fun _ => True) ?hr ?hp (fun _ hk => hk) trivial (Below.refl _ _) (Nat.le_refl _) (by simp) ?_; (case hd => rfl); (case hg => rfl); (case hr => first | (go_simp; done) | (go_simp; rfl)); (case hp => exact (Reps.one (show Kd.M (Kd.int .u64) _ _ _ 1 [.int .u64 1] from rfl) (Reps.none _ _))); intro v253 w54 ho55 hb hg_ hnew_; clear hg_ hnew_; (first | rw [← Ny252.out] at ho55 | (simp only [Int.reduceToNat] at ho55; rw [← Ny252.out] at ho55)); have HO254 := Aside0.mk (Kd.R_lower (Kd.R_new' (Kd.R_new' ho55 (Kd.R_lt (dR HO246.out))) (Kd.R_lt (dR HO249.out))) (below_size dB)); replace HO246 := oE HO246.out ho55 hb; replace HO249 := oE HO249.out ho55 hb; replace HB := hS HB.out hb; clear hb ho55) | ((with_reducible refine gate_dst (N := 15) rfl ?_); refine Kd.R_lit (Kd.int .u64) _ 26 ?hg (N := 15) ?hd (xs := ([3] : List Int)) (inner := [.int .u64 3]) (ok := fun _ => True) (okp := fun _ => True) ?hr ?hp (fun _ hk => hk) trivial (Below.refl _ _) (Nat.le_refl _) (by simp) ?_; (case hd => rfl); (case hg => rfl); (case hr => first | (go_simp; done) | (go_simp; rfl)); (case hp => exact (Reps.one (show Kd.M (Kd.int .u64) _ _ _ 3 [.int .u64 3] from rfl) (Reps.none _ _))); intro v256 w56 ho57 hb hg_ hnew_; clear hg_ hnew_; (first | rw [← Ny255.out] at ho57 | (simp only [Int.reduceToNat] at ho57; rw [← Ny255.out] at ho57)); have HO257 := Aside0.mk (Kd.R_lower (Kd.R_new' (Kd.R_new' (Kd.R_new' ho57 (Kd.R_lt (dR HO246.out))) (Kd.R_lt (dR HO249.out))) (Kd.R_lt (dR HO254.out))) (below_size dB)); replace HO246 := oE HO246.out ho57 hb; replace HO249 := oE HO249.out ho57 hb; replace HO254 := oE HO254.out ho57 hb; replace HB := hS HB.out hb; clear hb ho57; obtain ⟨Ao58, co58, rfl⟩ := Kd.R_slice HO254.out; obtain ⟨Ao59, co59, rfl⟩ := Kd.R_slice HO257.out) | ((with_reducible refine gate_callee (f := 17) rfl ?_); refine gL (some 16) Tryd.func17 #[.bool true, .slice Ao58 y252.length co58, .slice Ao59 y255.length co59, .int .i64 0] ?_; (with_reducible refine (near_Quotient.calls k true _ _ y252 _ _ y255 0 t258 t259 _ ?side1 (Kd.R_reads' HO254.out).2.1 ?side3 (Kd.R_reads' HO257.out).2.1 A2.out).mono ?_); (case side1 => exact dC (Kd.R_reads' HO254.out).2.2); (case side3 => exact dC (Kd.R_reads' HO257.out).2.2); rintro e w60 ⟨rfl, hb⟩; refine ⟨_, rfl, ?_⟩; replace HO246 := oB HO246.out hb; replace HO249 := oB HO249.out hb; replace HO254 := oB HO254.out hb; replace HO257 := oB HO257.out hb; replace HB := hS HB.out hb; (try clear hb)) | ((with_reducible refine gate_dst (N := 20) rfl ?_); refine Kd.R_lit (Kd.int .u64) _ 26 ?hg (N := 20) ?hd (xs := ([1] : List Int)) (inner := [.int .u64 1]) (ok := fun _ => True) (okp := fun _ => True) ?hr ?hp (fun _ hk => hk) trivial (Below.refl _ _) (Nat.le_refl _) (by simp) ?_; (case hd => rfl); (case hg => rfl); (case hr => first | (go_simp; done) | (go_simp; rfl)); (case hp => exact (Reps.one (show Kd.M (Kd.int .u64) _ _ _ 1 [.int .u64 1] from rfl) (Reps.none _ _))); intro v261 w61 ho62 hb hg_ hnew_; clear hg_ hnew_; (first | rw [← Ny260.out] at ho62 | (simp only [Int.reduceToNat] at ho62; rw [← Ny260.out] at ho62)); have HO262 := Aside0.mk (Kd.R_lower (Kd.R_new' (Kd.R_new' (Kd.R_new' (Kd.R_new' ho62 (Kd.R_lt (dR HO246.out))) (Kd.R_lt (dR HO249.out))) (Kd.R_lt (dR HO254.out))) (Kd.R_lt (dR HO257.out))) (below_size dB)); replace HO246 := oE HO246.out ho62 hb; replace HO249 := oE HO249.out ho62 hb; replace HO254 := oE HO254.out ho62 hb; replace HO257 := oE HO257.out ho62 hb; replace HB := hS HB.out hb; clear hb ho62; obtain ⟨Ao63, co63, rfl⟩ := Kd.R_slice HO262.out) | ((with_reducible refine gate_callee (f := 17) rfl ?_); refine gL (some 21) Tryd.func17 #[.bool false, .slice Ao63 y260.length co63, .slice none 0 0, .int .i64 0] ?_; (refine (near_Quotient.calls k false _ _ y260 _ _ ([] : List Int) 0 t263 t264 _ ?side1 (Kd.R_reads' HO262.out).2.1 ?side3 ?side4 A3.out).mono ?_); (case side1 => exact dC (Kd.R_reads' HO262.out).2.2); (case side3 => exact Kd.C_nil _ _); (case side4 => exact Nat.le_refl _); rintro e w64 ⟨rfl, hb⟩; refine ⟨_, rfl, ?_⟩; replace HO246 := oB HO246.out hb; replace HO249 := oB HO249.out hb; replace HO254 := oB HO254.out hb; replace HO257 := oB HO257.out hb; replace HO262 := oB HO262.out hb; replace HB := hS HB.out hb; (try clear hb)) | ((with_reducible refine gate_callee (f := 15) rfl ?_); refine gL (some 25) Tryd.func15 #[.int .i64 t251] ?_; (with_reducible refine (plumblaw07_num.calls t251 t265 _ A4.out).mono ?_); rintro e w' ⟨rfl, ⟨nd, rfl⟩⟩; refine ⟨_, rfl, ?_⟩) | (go_at_call 15; (with_reducible refine (plumblaw07_num.calls t259 t266 _ A6.out).mono ?_); rintro e w' ⟨rfl, ⟨nd, rfl⟩⟩))
    first | go_ret | (refine bodyPost_ret ?ghr ?ghd ?_; (case ghr => exact results_tmp rfl _ _ _); (case ghd => rfl))
    exact ⟨dE, dB⟩
  ·rw [if_neg c7] at H
   have c7b0 : (t266 == 0) = false := beq_eq_false_iff_ne.mpr c7
   have c7b1 : (t266 != 0) = true := bne_iff_ne.mpr c7
   obtain rfl := Option.some.inj H
   go_enter Tryd.func19, Tryd.ntmps19
   go_wp2_with (first | ((with_reducible refine gate_dst (N := 8) rfl ?_); refine Kd.R_lit (Kd.int .u64) _ 26 ?hg (N := 8) ?hd (xs := ([1] : List Int)) (inner := [.int .u64 1]) (ok := fun _ => True) (okp := fun _ => True) ?hr ?hp (fun _ hk => hk) trivial (Below.refl _ _) (Nat.le_refl _) (by simp) ?_; (case hd => rfl); (case hg => rfl); (case hr => first | (go_simp; done) | (go_simp; rfl)); (case hp => exact (Reps.one (show Kd.M (Kd.int .u64) _ _ _ 1 [.int .u64 1] from rfl) (Reps.none _ _))); intro v245 w65 ho66 hb hg_ hnew_; clear hg_ hnew_; (first | rw [← Ny244.out] at ho66 | (simp only [Int.reduceToNat] at ho66; rw [← Ny244.out] at ho66)); have HO246 := Aside0.mk (Kd.R_lower ho66 (below_size dB)); replace HB := hS HB.out hb; clear hb ho66) | ((with_reducible refine gate_dst (N := 9) rfl ?_); refine Kd.R_lit (Kd.int .u64) _ 26 ?hg (N := 9) ?hd (xs := ([2] : List Int)) (inner := [.int .u64 2]) (ok := fun _ => True) (okp := fun _ => True) ?hr ?hp (fun _ hk => hk) trivial (Below.refl _ _) (Nat.le_refl _) (by simp) ?_; (case hd => rfl); (case hg => rfl); (case hr => first | (go_simp; done) | (go_simp; rfl)); (case hp => exact (Reps.one (show Kd.M (Kd.int .u64) _ _ _ 2 [.int .u64 2] from rfl) (Reps.none _ _))); intro v248 w67 ho68 hb hg_ hnew_; clear hg_ hnew_; (first | rw [← Ny247.out] at ho68 | (simp only [Int.reduceToNat] at ho68; rw [← Ny247.out] at ho68)); have HO249 := Aside0.mk (Kd.R_lower (Kd.R_new' ho68 (Kd.R_lt (dR HO246.out))) (below_size dB)); replace HO246 := oE HO246.out ho68 hb; replace HB := hS HB.out hb; clear hb ho68; obtain ⟨Ao69, co69, rfl⟩ := Kd.R_slice HO246.out; obtain ⟨Ao70, co70, rfl⟩ := Kd.R_slice HO249.out) | ((with_reducible refine gate_callee (f := 17) rfl ?_); refine gL (some 10) Tryd.func17 #[.bool false, .slice Ao69 y244.length co69, .slice Ao70 y247.length co70, .int .i64 0] ?_; (with_reducible refine (near_Quotient.calls k false _ _ y244 _ _ y247 0 t250 t251 _ ?side1 (Kd.R_reads' HO246.out).2.1 ?side3 (Kd.R_reads' HO249.out).2.1 A1.out).mono ?_); (case side1 => exact dC (Kd.R_reads' HO246.out).2.2); (case side3 => exact dC (Kd.R_reads' HO249.out).2.2); rintro e w71 ⟨rfl, hb⟩; refine ⟨_, rfl, ?_⟩; replace HO246 := oB HO246.out hb; replace HO249 := oB HO249.out hb; replace HB := hS HB.out hb; (try clear hb)) | ((with_reducible refine gate_dst (N := 14) rfl ?_); refine Kd.R_lit (Kd.int .u64) _ 26 ?hg (N := 14) ?hd (xs := ([1] : List Int)) (inner := [.int .u64 1]) (ok := fun _ => True) (okp := fun _ => True) ?hr ?hp (fun _ hk => hk) trivial (Below.refl _ _) (Nat.le_refl _) (by simp) ?_; (case hd => rfl); (case hg => rfl); (case hr => first | (go_simp; done) | (go_simp; rfl)); (case hp => exact (Reps.one (show Kd.M (Kd.int .u64) _ _ _ 1 [.int .u64 1] from rfl) (Reps.none _ _))); intro v253 w72 ho73 hb hg_ hnew_; clear hg_ hnew_; (first | rw [← Ny252.out] at ho73 | (simp only [Int.reduceToNat] at ho73; rw [← Ny252.out] at ho73)); have HO254 := Aside0.mk (Kd.R_lower (Kd.R_new' (Kd.R_new' ho73 (Kd.R_lt (dR HO246.out))) (Kd.R_lt (dR HO249.out))) (below_size dB)); replace HO246 := oE HO246.out ho73 hb; replace HO249 := oE HO249.out ho73 hb; replace HB := hS HB.out hb; clear hb ho73) | ((with_reducible refine gate_dst (N := 15) rfl ?_); refine Kd.R_lit (Kd.int .u64) _ 26 ?hg (N := 15) ?hd (xs := ([3] : List Int)) (inner := [.int .u64 3]) (ok := fun _ => True) (okp := fun _ => True) ?hr ?hp (fun _ hk => hk) trivial (Below.refl _ _) (Nat.le_refl _) (by simp) ?_; (case hd => rfl); (case hg => rfl); (case hr => first | (go_simp; done) | (go_simp; rfl)); (case hp => exact (Reps.one (show Kd.M (Kd.int .u64) _ _ _ 3 [.int .u64 3] from rfl) (Reps.none _ _))); intro v256 w74 ho75 hb hg_ hnew_; clear hg_ hnew_; (first | rw [← Ny255.out] at ho75 | (simp only [Int.reduceToNat] at ho75; rw [← Ny255.out] at ho75)); have HO257 := Aside0.mk (Kd.R_lower (Kd.R_new' (Kd.R_new' (Kd.R_new' ho75 (Kd.R_lt (dR HO246.out))) (Kd.R_lt (dR HO249.out))) (Kd.R_lt (dR HO254.out))) (below_size dB)); replace HO246 := oE HO246.out ho75 hb; replace HO249 := oE HO249.out ho75 hb; replace HO254 := oE HO254.out ho75 hb; replace HB := hS HB.out hb; clear hb ho75; obtain ⟨Ao76, co76, rfl⟩ := Kd.R_slice HO254.out; obtain ⟨Ao77, co77, rfl⟩ := Kd.R_slice HO257.out) | ((with_reducible refine gate_callee (f := 17) rfl ?_); refine gL (some 16) Tryd.func17 #[.bool true, .slice Ao76 y252.length co76, .slice Ao77 y255.length co77, .int .i64 0] ?_; (with_reducible refine (near_Quotient.calls k true _ _ y252 _ _ y255 0 t258 t259 _ ?side1 (Kd.R_reads' HO254.out).2.1 ?side3 (Kd.R_reads' HO257.out).2.1 A2.out).mono ?_); (case side1 => exact dC (Kd.R_reads' HO254.out).2.2); (case side3 => exact dC (Kd.R_reads' HO257.out).2.2); rintro e w78 ⟨rfl, hb⟩; refine ⟨_, rfl, ?_⟩; replace HO246 := oB HO246.out hb; replace HO249 := oB HO249.out hb; replace HO254 := oB HO254.out hb; replace HO257 := oB HO257.out hb; replace HB := hS HB.out hb; (try clear hb)) | ((with_reducible refine gate_dst (N := 20) rfl ?_); refine Kd.R_lit (Kd.int .u64) _ 26 ?hg (N := 20) ?hd (xs := ([1] : List Int)) (inner := [.int .u64 1]) (ok := fun _ => True) (okp := fun _ => True) ?hr ?hp (fun _ hk => hk) trivial (Below.refl _ _) (Nat.le_refl _) (by simp) ?_; (case hd => rfl); (case hg => rfl); (case hr => first | (go_simp; done) | (go_simp; rfl)); (case hp => exact (Reps.one (show Kd.M (Kd.int .u64) _ _ _ 1 [.int .u64 1] from rfl) (Reps.none _ _))); intro v261 w79 ho80 hb hg_ hnew_; clear hg_ hnew_; (first | rw [← Ny260.out] at ho80 | (simp only [Int.reduceToNat] at ho80; rw [← Ny260.out] at ho80)); have HO262 := Aside0.mk (Kd.R_lower (Kd.R_new' (Kd.R_new' (Kd.R_new' (Kd.R_new' ho80 (Kd.R_lt (dR HO246.out))) (Kd.R_lt (dR HO249.out))) (Kd.R_lt (dR HO254.out))) (Kd.R_lt (dR HO257.out))) (below_size dB)); replace HO246 := oE HO246.out ho80 hb; replace HO249 := oE HO249.out ho80 hb; replace HO254 := oE HO254.out ho80 hb; replace HO257 := oE HO257.out ho80 hb; replace HB := hS HB.out hb; clear hb ho80; obtain ⟨Ao81, co81, rfl⟩ := Kd.R_slice HO262.out) | ((with_reducible refine gate_callee (f := 17) rfl ?_); refine gL (some 21) Tryd.func17 #[.bool false, .slice Ao81 y260.length co81, .slice none 0 0, .int .i64 0] ?_; (refine (near_Quotient.calls k false _ _ y260 _ _ ([] : List Int) 0 t263 t264 _ ?side1 (Kd.R_reads' HO262.out).2.1 ?side3 ?side4 A3.out).mono ?_); (case side1 => exact dC (Kd.R_reads' HO262.out).2.2); (case side3 => exact Kd.C_nil _ _); (case side4 => exact Nat.le_refl _); rintro e w82 ⟨rfl, hb⟩; refine ⟨_, rfl, ?_⟩; replace HO246 := oB HO246.out hb; replace HO249 := oB HO249.out hb; replace HO254 := oB HO254.out hb; replace HO257 := oB HO257.out hb; replace HO262 := oB HO262.out hb; replace HB := hS HB.out hb; (try clear hb)) | ((with_reducible refine gate_callee (f := 15) rfl ?_); refine gL (some 25) Tryd.func15 #[.int .i64 t251] ?_; (with_reducible refine (plumblaw07_num.calls t251 t265 _ A4.out).mono ?_); rintro e w' ⟨rfl, ⟨nd, rfl⟩⟩; refine ⟨_, rfl, ?_⟩) | (go_at_call 15; (with_reducible refine (plumblaw07_num.calls t259 t266 _ A6.out).mono ?_); rintro e w' ⟨rfl, ⟨nd, rfl⟩⟩))
   first | go_ret | (refine bodyPost_ret ?ghr ?ghd ?_; (case ghr => exact results_tmp rfl _ _ _); (case ghd => rfl))
   exact ⟨dE, dB⟩
 ·rw [if_neg c5] at H
  have c5b0 : (t265 == 0) = false := beq_eq_false_iff_ne.mpr c5
  have c5b1 : (t265 != 0) = true := bne_iff_ne.mpr c5
  obtain rfl := Option.some.inj H
  go_enter Tryd.func19, Tryd.ntmps19
  go_wp2_with (first | ((with_reducible refine gate_dst (N := 8) rfl ?_); refine Kd.R_lit (Kd.int .u64) _ 26 ?hg (N := 8) ?hd (xs := ([1] : List Int)) (inner := [.int .u64 1]) (ok := fun _ => True) (okp := fun _ => True) ?hr ?hp (fun _ hk => hk) trivial (Below.refl _ _) (Nat.le_refl _) (by simp) ?_; (case hd => rfl); (case hg => rfl); (case hr => first | (go_simp; done) | (go_simp; rfl)); (case hp => exact (Reps.one (show Kd.M (Kd.int .u64) _ _ _ 1 [.int .u64 1] from rfl) (Reps.none _ _))); intro v245 w83 ho84 hb hg_ hnew_; clear hg_ hnew_; (first | rw [← Ny244.out] at ho84 | (simp only [Int.reduceToNat] at ho84; rw [← Ny244.out] at ho84)); have HO246 := Aside0.mk (Kd.R_lower ho84 (below_size dB)); replace HB := hS HB.out hb; clear hb ho84) | ((with_reducible refine gate_dst (N := 9) rfl ?_); refine Kd.R_lit (Kd.int .u64) _ 26 ?hg (N := 9) ?hd (xs := ([2] : List Int)) (inner := [.int .u64 2]) (ok := fun _ => True) (okp := fun _ => True) ?hr ?hp (fun _ hk => hk) trivial (Below.refl _ _) (Nat.le_refl _) (by simp) ?_; (case hd => rfl); (case hg => rfl); (case hr => first | (go_simp; done) | (go_simp; rfl)); (case hp => exact (Reps.one (show Kd.M (Kd.int .u64) _ _ _ 2 [.int .u64 2] from rfl) (Reps.none _ _))); intro v248 w85 ho86 hb hg_ hnew_; clear hg_ hnew_; (first | rw [← Ny247.out] at ho86 | (simp only [Int.reduceToNat] at ho86; rw [← Ny247.out] at ho86)); have HO249 := Aside0.mk (Kd.R_lower (Kd.R_new' ho86 (Kd.R_lt (dR HO246.out))) (below_size dB)); replace HO246 := oE HO246.out ho86 hb; replace HB := hS HB.out hb; clear hb ho86; obtain ⟨Ao87, co87, rfl⟩ := Kd.R_slice HO246.out; obtain ⟨Ao88, co88, rfl⟩ := Kd.R_slice HO249.out) | ((with_reducible refine gate_callee (f := 17) rfl ?_); refine gL (some 10) Tryd.func17 #[.bool false, .slice Ao87 y244.length co87, .slice Ao88 y247.length co88, .int .i64 0] ?_; (with_reducible refine (near_Quotient.calls k false _ _ y244 _ _ y247 0 t250 t251 _ ?side1 (Kd.R_reads' HO246.out).2.1 ?side3 (Kd.R_reads' HO249.out).2.1 A1.out).mono ?_); (case side1 => exact dC (Kd.R_reads' HO246.out).2.2); (case side3 => exact dC (Kd.R_reads' HO249.out).2.2); rintro e w89 ⟨rfl, hb⟩; refine ⟨_, rfl, ?_⟩; replace HO246 := oB HO246.out hb; replace HO249 := oB HO249.out hb; replace HB := hS HB.out hb; (try clear hb)) | ((with_reducible refine gate_dst (N := 14) rfl ?_); refine Kd.R_lit (Kd.int .u64) _ 26 ?hg (N := 14) ?hd (xs := ([1] : List Int)) (inner := [.int .u64 1]) (ok := fun _ => True) (okp := fun _ => True) ?hr ?hp (fun _ hk => hk) trivial (Below.refl _ _) (Nat.le_refl _) (by simp) ?_; (case hd => rfl); (case hg => rfl); (case hr => first | (go_simp; done) | (go_simp; rfl)); (case hp => exact (Reps.one (show Kd.M (Kd.int .u64) _ _ _ 1 [.int .u64 1] from rfl) (Reps.none _ _))); intro v253 w90 ho91 hb hg_ hnew_; clear hg_ hnew_; (first | rw [← Ny252.out] at ho91 | (simp only [Int.reduceToNat] at ho91; rw [← Ny252.out] at ho91)); have HO254 := Aside0.mk (Kd.R_lower (Kd.R_new' (Kd.R_new' ho91 (Kd.R_lt (dR HO246.out))) (Kd.R_lt (dR HO249.out))) (below_size dB)); replace HO246 := oE HO246.out ho91 hb; replace HO249 := oE HO249.out ho91 hb; replace HB := hS HB.out hb; clear hb ho91) | ((with_reducible refine gate_dst (N := 15) rfl ?_); refine Kd.R_lit (Kd.int .u64) _ 26 ?hg (N := 15) ?hd (xs := ([3] : List Int)) (inner := [.int .u64 3]) (ok := fun _ => True) (okp := fun _ => True) ?hr ?hp (fun _ hk => hk) trivial (Below.refl _ _) (Nat.le_refl _) (by simp) ?_; (case hd => rfl); (case hg => rfl); (case hr => first | (go_simp; done) | (go_simp; rfl)); (case hp => exact (Reps.one (show Kd.M (Kd.int .u64) _ _ _ 3 [.int .u64 3] from rfl) (Reps.none _ _))); intro v256 w92 ho93 hb hg_ hnew_; clear hg_ hnew_; (first | rw [← Ny255.out] at ho93 | (simp only [Int.reduceToNat] at ho93; rw [← Ny255.out] at ho93)); have HO257 := Aside0.mk (Kd.R_lower (Kd.R_new' (Kd.R_new' (Kd.R_new' ho93 (Kd.R_lt (dR HO246.out))) (Kd.R_lt (dR HO249.out))) (Kd.R_lt (dR HO254.out))) (below_size dB)); replace HO246 := oE HO246.out ho93 hb; replace HO249 := oE HO249.out ho93 hb; replace HO254 := oE HO254.out ho93 hb; replace HB := hS HB.out hb; clear hb ho93; obtain ⟨Ao94, co94, rfl⟩ := Kd.R_slice HO254.out; obtain ⟨Ao95, co95, rfl⟩ := Kd.R_slice HO257.out) | ((with_reducible refine gate_callee (f := 17) rfl ?_); refine gL (some 16) Tryd.func17 #[.bool true, .slice Ao94 y252.length co94, .slice Ao95 y255.length co95, .int .i64 0] ?_; (with_reducible refine (near_Quotient.calls k true _ _ y252 _ _ y255 0 t258 t259 _ ?side1 (Kd.R_reads' HO254.out).2.1 ?side3 (Kd.R_reads' HO257.out).2.1 A2.out).mono ?_); (case side1 => exact dC (Kd.R_reads' HO254.out).2.2); (case side3 => exact dC (Kd.R_reads' HO257.out).2.2); rintro e w96 ⟨rfl, hb⟩; refine ⟨_, rfl, ?_⟩; replace HO246 := oB HO246.out hb; replace HO249 := oB HO249.out hb; replace HO254 := oB HO254.out hb; replace HO257 := oB HO257.out hb; replace HB := hS HB.out hb; (try clear hb)) | ((with_reducible refine gate_dst (N := 20) rfl ?_); refine Kd.R_lit (Kd.int .u64) _ 26 ?hg (N := 20) ?hd (xs := ([1] : List Int)) (inner := [.int .u64 1]) (ok := fun _ => True) (okp := fun _ => True) ?hr ?hp (fun _ hk => hk) trivial (Below.refl _ _) (Nat.le_refl _) (by simp) ?_; (case hd => rfl); (case hg => rfl); (case hr => first | (go_simp; done) | (go_simp; rfl)); (case hp => exact (Reps.one (show Kd.M (Kd.int .u64) _ _ _ 1 [.int .u64 1] from rfl) (Reps.none _ _))); intro v261 w97 ho98 hb hg_ hnew_; clear hg_ hnew_; (first | rw [← Ny260.out] at ho98 | (simp only [Int.reduceToNat] at ho98; rw [← Ny260.out] at ho98)); have HO262 := Aside0.mk (Kd.R_lower (Kd.R_new' (Kd.R_new' (Kd.R_new' (Kd.R_new' ho98 (Kd.R_lt (dR HO246.out))) (Kd.R_lt (dR HO249.out))) (Kd.R_lt (dR HO254.out))) (Kd.R_lt (dR HO257.out))) (below_size dB)); replace HO246 := oE HO246.out ho98 hb; replace HO249 := oE HO249.out ho98 hb; replace HO254 := oE HO254.out ho98 hb; replace HO257 := oE HO257.out ho98 hb; replace HB := hS HB.out hb; clear hb ho98; obtain ⟨Ao99, co99, rfl⟩ := Kd.R_slice HO262.out) | ((with_reducible refine gate_callee (f := 17) rfl ?_); refine gL (some 21) Tryd.func17 #[.bool false, .slice Ao99 y260.length co99, .slice none 0 0, .int .i64 0] ?_; (refine (near_Quotient.calls k false _ _ y260 _ _ ([] : List Int) 0 t263 t264 _ ?side1 (Kd.R_reads' HO262.out).2.1 ?side3 ?side4 A3.out).mono ?_); (case side1 => exact dC (Kd.R_reads' HO262.out).2.2); (case side3 => exact Kd.C_nil _ _); (case side4 => exact Nat.le_refl _); rintro e w100 ⟨rfl, hb⟩; refine ⟨_, rfl, ?_⟩; replace HO246 := oB HO246.out hb; replace HO249 := oB HO249.out hb; replace HO254 := oB HO254.out hb; replace HO257 := oB HO257.out hb; replace HO262 := oB HO262.out hb; replace HB := hS HB.out hb; (try clear hb)) | ((with_reducible refine gate_callee (f := 15) rfl ?_); refine gL (some 25) Tryd.func15 #[.int .i64 t251] ?_; (with_reducible refine (plumblaw07_num.calls t251 t265 _ A4.out).mono ?_); rintro e w' ⟨rfl, ⟨nd, rfl⟩⟩; refine ⟨_, rfl, ?_⟩))
  first | go_ret | (refine bodyPost_ret ?ghr ?ghd ?_; (case ghr => exact results_tmp rfl _ _ _); (case ghd => rfl))
  exact ⟨dE, dB⟩
end Go.Proofs.YtoefabmlkbhmpaaDoor.PA
