/- A part of the proof (7). -/
import Derived.Test.YtoefabmlkbhmpaaDoorYKMVKM2
import Derived.Test.YtoefabmlkbhmpaaDoorYKMVKM3
import Derived.Test.YtoefabmlkbhmpaaDoorYKMVKM4
import Derived.Test.YtoefabmlkbhmpaaDoorYKMVKM6
namespace Go.Proofs.YtoefabmlkbhmpaaDoor.PA
open Go.RowKit Go.Proofs.YtoefabmlkbhmpaaDoorW.PrintWords Go.Proofs.YtoefabmlkbhmpaaDoorW.PrintLast Go.Proofs.YtoefabmlkbhmpaaDoorW.PrintMore
attribute [local go_sem] max2_int min2_int max_two min_two max_three min_three max_four min_four
set_option linter.unusedVariables false
set_option linter.unusedSimpArgs false
def quot_DivMod.f (k : Nat) (l0 : List Int) (l1 : List Int) : Option (List Int × List Int × Int) := (nat_Norm.f l0).bind fun t177 => ((nat_Norm.f l1).bind fun t180 => (if (t180.length : Int) = 0 then (some (([] : List Int), ([] : List Int), 30)) else ((nat_Cmp.f k t177 t180).bind fun t183 => (if t183 < 0 then (some (([] : List Int), t177, 0)) else (if (t180.length : Int) = 1 then (if 0 < (t180.length : Int) then ((quot_Small.f k t177 (rd t180 0)).bind fun bt185 => ((nat_From.f bt185.2.1).bind fun t190 => (some (bt185.1, t190, 0)))) else (none)) else ((quot_long.f k t177 t180).bind fun bt193 => (some (bt193.1, bt193.2, 0))))))))
theorem quot_DivMod.mono : ∀ a0 a1 k, LeO (quot_DivMod.f k a0 a1) (quot_DivMod.f (k + 1) a0 a1) := by
 intro a0 a1 k
 unfold quot_DivMod.f
 have m0_ := nat_Cmp.mono
 have m1_ := quot_Small.mono
 have m2_ := quot_long.mono
 exact mX
set_option maxHeartbeats 8000000 in
set_option maxRecDepth 100000 in
theorem quot_DivMod.calls (k : Nat) (A0 : Option Addr) (c0 : Nat) (l0 : List Int) (A1 : Option Addr) (c1 : Nat) (l1 : List Int) (r1 : List Int) (r2 : List Int) (r3 : Int) (w : World) (hr0 : Kd.C (Kd.int .u64) w A0 l0.length l0) (hc0 : l0.length ≤ c0) (hr1 : Kd.C (Kd.int .u64) w A1 l1.length l1) (hc1 : l1.length ≤ c1) (h : quot_DivMod.f k l0 l1 = some (r1, r2, r3)) :
  Calls Tryd.prog 53 #[.slice A0 l0.length c0, .slice A1 l1.length c1] w fun e w' => ∃ v0_ v1_ : Value, e = .returned (.tuple #[v0_, v1_, .int .i64 r3]) ∧ Kd.R (Kd.int .u64) 26 w' w.heap.size (fun k_ => some k_ ≠ (v1_ : Value).ownBlock) v0_ r1 ∧ Kd.R (Kd.int .u64) 26 w' w.heap.size (fun k_ => some k_ ≠ (v0_ : Value).ownBlock) v1_ r2 ∧ Below w.heap.size w w' := by
 have HR0 := aM hr0
 have HC0 := aM hc0
 clear hr0 hc0
 have HR1 := aM hr1
 have HC1 := aM hc1
 clear hr1 hc1
 have HB := aM (Below.refl w.heap.size w)
 have H := h
 clear h
 unfold quot_DivMod.f at H
 replace H := oA H
 obtain ⟨t177, A3, H⟩ := H
 (try dsimp only at H)
 replace H := oA H
 obtain ⟨t180, A4, H⟩ := H
 (try dsimp only at H)
 by_cases c5 : (t180.length : Int) = 0
 ·rw [if_pos c5] at H
  obtain ⟨c5b0, c5b1⟩ := bT c5
  clear c5
  simp only [Option.some.injEq, Prod.mk.injEq] at H
  obtain ⟨rfl, rfl, rfl⟩ := H
  go_enter Tryd.func53, Tryd.ntmps53
  go_wp2_with (first | ((with_reducible refine gate_callee (f := 51) rfl ?_); refine gL (some 13) Tryd.func51 #[.slice A0 l0.length c0] ?_; (with_reducible refine (nat_Norm.calls _ _ l0 t177 _ ?side1 HC0.out A3.out).mono ?_); (case side1 => exact dC HR0.out); rintro e w6 ⟨v178, rfl, ho0, hb⟩; refine ⟨_, rfl, ?_⟩; have HO179 := aM (Kd.R_lower ho0 (below_size dB)); replace HB := hS HB.out hb; (try clear hb); (try clear ho0)) | ((with_reducible refine gate_callee (f := 51) rfl ?_); refine gL (some 15) Tryd.func51 #[.slice A1 l1.length c1] ?_; (with_reducible refine (nat_Norm.calls _ _ l1 t180 _ ?side1 HC1.out A4.out).mono ?_); (case side1 => exact dC (Kd.C_below HR1.out HB.out)); rintro e w7 ⟨v181, rfl, ho0, hb⟩; refine ⟨_, rfl, ?_⟩; have HO182 := aM (Kd.R_lower (Kd.R_new' ho0 (Kd.R_lt (dR HO179.out))) (below_size dB)); replace HO179 := oE HO179.out ho0 hb; replace HB := hS HB.out hb; (try clear hb); (try clear ho0); obtain ⟨Ao8, co8, rfl⟩ := Kd.R_slice HO182.out))
  go_ret3
  exact ⟨_, _, dE, by first | exact Kd.R_nil _ _ _ _ _ | exact Kd.N_nil _ _ _ _ _ | exact Kd.V_nil _ _ _ _ _ | exact Kd.Q_nil _ _ _ _ _ | exact Kd.S_nil _ _ _ _ _, by first | exact Kd.R_nil _ _ _ _ _ | exact Kd.N_nil _ _ _ _ _ | exact Kd.V_nil _ _ _ _ _ | exact Kd.Q_nil _ _ _ _ _ | exact Kd.S_nil _ _ _ _ _, dB⟩
 ·rw [if_neg c5] at H
  obtain ⟨c5b0, c5b1⟩ := bF c5
  have c5b2 : ¬ (t180 = []) := fun h_ => c5 (by rw [h_]; rfl)
  replace H := oA H
  obtain ⟨t183, A9, H⟩ := H
  (try dsimp only at H)
  by_cases c10 : t183 < 0
  ·rw [if_pos c10] at H
   have c10b0 := decide_eq_true c10
   clear c10
   simp only [Option.some.injEq, Prod.mk.injEq] at H
   obtain ⟨rfl, rfl, rfl⟩ := H
   go_enter Tryd.func53, Tryd.ntmps53
   go_wp2_with (first | ((with_reducible refine gate_callee (f := 51) rfl ?_); refine gL (some 13) Tryd.func51 #[.slice A0 l0.length c0] ?_; (with_reducible refine (nat_Norm.calls _ _ l0 t177 _ ?side1 HC0.out A3.out).mono ?_); (case side1 => exact dC HR0.out); rintro e w11 ⟨v178, rfl, ho0, hb⟩; refine ⟨_, rfl, ?_⟩; have HO179 := aM (Kd.R_lower ho0 (below_size dB)); replace HB := hS HB.out hb; (try clear hb); (try clear ho0)) | ((with_reducible refine gate_callee (f := 51) rfl ?_); refine gL (some 15) Tryd.func51 #[.slice A1 l1.length c1] ?_; (with_reducible refine (nat_Norm.calls _ _ l1 t180 _ ?side1 HC1.out A4.out).mono ?_); (case side1 => exact dC (Kd.C_below HR1.out HB.out)); rintro e w12 ⟨v181, rfl, ho0, hb⟩; refine ⟨_, rfl, ?_⟩; have HO182 := aM (Kd.R_lower (Kd.R_new' ho0 (Kd.R_lt (dR HO179.out))) (below_size dB)); replace HO179 := oE HO179.out ho0 hb; replace HB := hS HB.out hb; (try clear hb); (try clear ho0); obtain ⟨Ao13, co13, rfl⟩ := Kd.R_slice HO182.out; obtain ⟨Ao14, co14, rfl⟩ := Kd.R_slice HO179.out) | ((with_reducible refine gate_callee (f := 58) rfl ?_); refine gL (some 23) Tryd.func58 #[.slice Ao14 t177.length co14, .slice Ao13 t180.length co13] ?_; (with_reducible refine (nat_Cmp.calls k _ _ t177 _ _ t180 t183 _ ?side1 (Kd.R_reads' HO179.out).2.1 ?side3 (Kd.R_reads' HO182.out).2.1 A9.out).mono ?_); (case side1 => exact dC (Kd.R_reads' HO179.out).2.2); (case side3 => exact dC (Kd.R_reads' HO182.out).2.2); rintro e w' ⟨rfl, ⟨nd, rfl⟩⟩; refine ⟨_, rfl, ?_⟩))
   go_ret3
   exact ⟨_, _, dE, by first | exact Kd.R_nil _ _ _ _ _ | exact Kd.N_nil _ _ _ _ _ | exact Kd.V_nil _ _ _ _ _ | exact Kd.Q_nil _ _ _ _ _ | exact Kd.S_nil _ _ _ _ _, oM HO179.out (fun _ hk => (by simp [Value.ownBlock])), dB⟩
  ·rw [if_neg c10] at H
   have c10b0 := decide_eq_false c10
   clear c10
   by_cases c15 : (t180.length : Int) = 1
   ·rw [if_pos c15] at H
    obtain ⟨c15b0, c15b1⟩ := bT c15
    clear c15
    replace H := nO H
    obtain ⟨c16, H⟩ := H
    have c16b0 : decide (0 < (t180.length : Int)) = true := decide_eq_true c16
    have c16b1 : decide (0 < t180.length) = true := decide_eq_true (by omega)
    clear c16
    replace H := oA H
    obtain ⟨⟨t185, t186, t187⟩, A17, H⟩ := H
    (try dsimp only at H)
    replace H := oA H
    obtain ⟨t190, A18, H⟩ := H
    (try dsimp only at H)
    simp only [Option.some.injEq, Prod.mk.injEq] at H
    obtain ⟨rfl, rfl, rfl⟩ := H
    go_enter Tryd.func53, Tryd.ntmps53
    go_wp2_with (first | ((with_reducible refine gate_callee (f := 51) rfl ?_); refine gL (some 13) Tryd.func51 #[.slice A0 l0.length c0] ?_; (with_reducible refine (nat_Norm.calls _ _ l0 t177 _ ?side1 HC0.out A3.out).mono ?_); (case side1 => exact dC HR0.out); rintro e w19 ⟨v178, rfl, ho0, hb⟩; refine ⟨_, rfl, ?_⟩; have HO179 := aM (Kd.R_lower ho0 (below_size dB)); replace HB := hS HB.out hb; (try clear hb); (try clear ho0)) | ((with_reducible refine gate_callee (f := 51) rfl ?_); refine gL (some 15) Tryd.func51 #[.slice A1 l1.length c1] ?_; (with_reducible refine (nat_Norm.calls _ _ l1 t180 _ ?side1 HC1.out A4.out).mono ?_); (case side1 => exact dC (Kd.C_below HR1.out HB.out)); rintro e w20 ⟨v181, rfl, ho0, hb⟩; refine ⟨_, rfl, ?_⟩; have HO182 := aM (Kd.R_lower (Kd.R_new' ho0 (Kd.R_lt (dR HO179.out))) (below_size dB)); replace HO179 := oE HO179.out ho0 hb; replace HB := hS HB.out hb; (try clear hb); (try clear ho0); obtain ⟨Ao21, co21, rfl⟩ := Kd.R_slice HO182.out; obtain ⟨Ao22, co22, rfl⟩ := Kd.R_slice HO179.out) | ((with_reducible refine gate_callee (f := 58) rfl ?_); refine gL (some 23) Tryd.func58 #[.slice Ao22 t177.length co22, .slice Ao21 t180.length co21] ?_; (with_reducible refine (nat_Cmp.calls k _ _ t177 _ _ t180 t183 _ ?side1 (Kd.R_reads' HO179.out).2.1 ?side3 (Kd.R_reads' HO182.out).2.1 A9.out).mono ?_); (case side1 => exact dC (Kd.R_reads' HO179.out).2.2); (case side3 => exact dC (Kd.R_reads' HO182.out).2.2); rintro e w' ⟨rfl, ⟨nd, rfl⟩⟩; refine ⟨_, rfl, ?_⟩; have p184 : 0 ≤ (0 : Int) := (by omega); have q184 : 0 < (t180.length : Int) := of_decide_eq_true dS; obtain ⟨ad184, e184, hx184_0⟩ := Kd.at_int (Kd.R_reads' HO182.out).2.2 0 p184 q184; cases e184; have qi184 : (0 < t180.length) = True := eq_true (by omega); (try rw [show ((0 : Int)).toNat = 0 from rfl] at hx184_0); (try rw [Addr.add_zero'] at hx184_0); replace p184 := eq_true p184; replace q184 := eq_true q184) | ((with_reducible refine gate_callee (f := 91) rfl ?_); refine gL (some 35) Tryd.func91 #[.slice Ao22 t177.length co22, .int .u64 (rd t180 0)] ?_; (with_reducible refine (quot_Small.calls k _ _ t177 (rd t180 0) t185 t186 t187 _ ?side1 (Kd.R_reads' HO179.out).2.1 A17.out).mono ?_); (case side1 => exact dC (Kd.R_reads' HO179.out).2.2); rintro e w23 ⟨v188, rfl, ho0, hb⟩; refine ⟨_, rfl, ?_⟩; have HO189 := aM (Kd.R_lower (Kd.R_new' (Kd.R_new' ho0 (Kd.R_lt (dR HO179.out))) (Kd.R_lt (dR HO182.out))) (below_size dB)); replace HO179 := oE HO179.out ho0 hb; replace HO182 := oE HO182.out ho0 hb; replace HB := hS HB.out hb; (try clear hb); (try clear ho0)) | ((with_reducible refine gate_callee (f := 66) rfl ?_); refine gL (some 41) Tryd.func66 #[.int .u64 t186] ?_; (with_reducible refine (nat_From.calls t186 t190 _ A18.out).mono ?_); rintro e w24 ⟨v191, rfl, ho0, hb⟩; refine ⟨_, rfl, ?_⟩; have HO192 := aM (Kd.R_lower (Kd.R_new' (Kd.R_new' (Kd.R_new' ho0 (Kd.R_lt (dR HO179.out))) (Kd.R_lt (dR HO182.out))) (Kd.R_lt (dR HO189.out))) (below_size dB)); replace HO179 := oE HO179.out ho0 hb; replace HO182 := oE HO182.out ho0 hb; replace HO189 := oE HO189.out ho0 hb; replace HB := hS HB.out hb; (try clear hb); (try clear ho0)))
    go_ret3
    exact ⟨_, _, dE, oM HO189.out (fun _ hk => hk.2), oM HO192.out (fun _ hk => hk.2), dB⟩
   ·rw [if_neg c15] at H
    obtain ⟨c15b0, c15b1⟩ := bF c15
    replace H := oA H
    obtain ⟨⟨t193, t194⟩, A25, H⟩ := H
    (try dsimp only at H)
    simp only [Option.some.injEq, Prod.mk.injEq] at H
    obtain ⟨rfl, rfl, rfl⟩ := H
    go_enter Tryd.func53, Tryd.ntmps53
    go_wp2_with (first | ((with_reducible refine gate_callee (f := 51) rfl ?_); refine gL (some 13) Tryd.func51 #[.slice A0 l0.length c0] ?_; (with_reducible refine (nat_Norm.calls _ _ l0 t177 _ ?side1 HC0.out A3.out).mono ?_); (case side1 => exact dC HR0.out); rintro e w26 ⟨v178, rfl, ho0, hb⟩; refine ⟨_, rfl, ?_⟩; have HO179 := aM (Kd.R_lower ho0 (below_size dB)); replace HB := hS HB.out hb; (try clear hb); (try clear ho0)) | ((with_reducible refine gate_callee (f := 51) rfl ?_); refine gL (some 15) Tryd.func51 #[.slice A1 l1.length c1] ?_; (with_reducible refine (nat_Norm.calls _ _ l1 t180 _ ?side1 HC1.out A4.out).mono ?_); (case side1 => exact dC (Kd.C_below HR1.out HB.out)); rintro e w27 ⟨v181, rfl, ho0, hb⟩; refine ⟨_, rfl, ?_⟩; have HO182 := aM (Kd.R_lower (Kd.R_new' ho0 (Kd.R_lt (dR HO179.out))) (below_size dB)); replace HO179 := oE HO179.out ho0 hb; replace HB := hS HB.out hb; (try clear hb); (try clear ho0); obtain ⟨Ao28, co28, rfl⟩ := Kd.R_slice HO182.out; obtain ⟨Ao29, co29, rfl⟩ := Kd.R_slice HO179.out) | ((with_reducible refine gate_callee (f := 58) rfl ?_); refine gL (some 23) Tryd.func58 #[.slice Ao29 t177.length co29, .slice Ao28 t180.length co28] ?_; (with_reducible refine (nat_Cmp.calls k _ _ t177 _ _ t180 t183 _ ?side1 (Kd.R_reads' HO179.out).2.1 ?side3 (Kd.R_reads' HO182.out).2.1 A9.out).mono ?_); (case side1 => exact dC (Kd.R_reads' HO179.out).2.2); (case side3 => exact dC (Kd.R_reads' HO182.out).2.2); rintro e w' ⟨rfl, ⟨nd, rfl⟩⟩; refine ⟨_, rfl, ?_⟩) | ((with_reducible refine gate_callee (f := 92) rfl ?_); refine gL (some 45) Tryd.func92 #[.slice Ao29 t177.length co29, .slice Ao28 t180.length co28] ?_; (with_reducible refine (quot_long.calls k _ _ t177 _ _ t180 t193 t194 _ ?side1 (Kd.R_reads' HO179.out).2.1 ?side3 (Kd.R_reads' HO182.out).2.1 A25.out).mono ?_); (case side1 => exact dC (Kd.R_reads' HO179.out).2.2); (case side3 => exact dC (Kd.R_reads' HO182.out).2.2); rintro e w30 ⟨v195, v197, rfl, ho0, ho1, hb⟩; refine ⟨_, rfl, ?_⟩; have HO196 := aM (Kd.R_lower (Kd.R_new' (Kd.R_new' ho0 (Kd.R_lt (dR HO179.out))) (Kd.R_lt (dR HO182.out))) (below_size dB)); have HO198 := aM (Kd.R_lower (Kd.R_new' (Kd.R_new' ho1 (Kd.R_lt (dR HO179.out))) (Kd.R_lt (dR HO182.out))) (below_size dB)); replace HO179 := aM (Kd.R_mono (Kd.R_told (Kd.R_told (Kd.R_old (dR HO179.out) hb) (Kd.R_base ho0)) (Kd.R_base ho1)) (fun _ h_ => h_.1)); replace HO182 := aM (Kd.R_mono (Kd.R_told (Kd.R_told (Kd.R_old (dR HO182.out) hb) (Kd.R_base ho0)) (Kd.R_base ho1)) (fun _ h_ => h_.1)); replace HB := hS HB.out hb; (try clear hb); (try clear ho0); (try clear ho1)))
    go_ret3
    exact ⟨_, _, dE, oM HO196.out (fun _ hk => hk.1.1), oM HO198.out (fun _ hk => hk.1.1), dB⟩
def near_Quotient.f (k : Nat) (a0 : Bool) (l1 : List Int) (l2 : List Int) (a3 : Int) : Option (Int × Int) := (nat_Norm.f l1).bind fun t333 => ((nat_Norm.f l2).bind fun t336 => ((near_known.f a3).bind fun t339 => (if t339 = true then (if (t336.length : Int) = 0 then (some (0, 50)) else (if (t333.length : Int) = 0 then ((near_finish.f k a0 0 0 false a3).bind fun bt340 => (some (bt340.1, bt340.2))) else ((nat_Bits.f k t333).bind fun t342 => ((nat_Bits.f k t336).bind fun t343 => (if (wrap64 (t342 - t343)) > 1100 then ((near_finish.f k a0 1 (wrap64 (t342 - t343)) true a3).bind fun bt344 => (some (bt344.1, bt344.2))) else (if (wrap64 (t342 - t343)) < (-1200) then ((near_finish.f k a0 0 0 true a3).bind fun bt346 => (some (bt346.1, bt346.2))) else (if (wrap64 ((wrap64 (t342 - t343)) - 62)) > 0 then ((near_shl.f k t336 (wrap64 ((wrap64 (t342 - t343)) - 62))).bind fun t348 => ((quot_DivMod.f k t333 t348).bind fun bt351 => ((nat_Word.f k bt351.1).bind fun bt358 => ((near_finish.f k a0 bt358.1 (wrap64 ((wrap64 (t342 - t343)) - 62)) (decide ((bt351.2.1.length : Int) > 0)) a3).bind fun bt360 => (some (bt360.1, bt360.2)))))) else ((near_shl.f k t333 (wrap64 (-(wrap64 ((wrap64 (t342 - t343)) - 62))))).bind fun t362 => ((quot_DivMod.f k t362 t336).bind fun bt365 => ((nat_Word.f k bt365.1).bind fun bt372 => ((near_finish.f k a0 bt372.1 (wrap64 ((wrap64 (t342 - t343)) - 62)) (decide ((bt365.2.1.length : Int) > 0)) a3).bind fun bt374 => (some (bt374.1, bt374.2))))))))))))) else (some (0, 71)))))
theorem near_Quotient.mono : ∀ a0 a1 a2 a3 k, LeO (near_Quotient.f k a0 a1 a2 a3) (near_Quotient.f (k + 1) a0 a1 a2 a3) := by
 intro a0 a1 a2 a3 k
 unfold near_Quotient.f
 have m0_ := nat_Bits.mono
 have m1_ := nat_Word.mono
 have m2_ := near_finish.mono
 have m3_ := near_shl.mono
 have m4_ := quot_DivMod.mono
 exact mX
set_option maxHeartbeats 8000000 in
set_option maxRecDepth 100000 in
theorem near_Quotient.calls (k : Nat) (a0 : Bool) (A1 : Option Addr) (c1 : Nat) (l1 : List Int) (A2 : Option Addr) (c2 : Nat) (l2 : List Int) (a3 : Int) (r1 : Int) (r2 : Int) (w : World) (hr1 : Kd.C (Kd.int .u64) w A1 l1.length l1) (hc1 : l1.length ≤ c1) (hr2 : Kd.C (Kd.int .u64) w A2 l2.length l2) (hc2 : l2.length ≤ c2) (h : near_Quotient.f k a0 l1 l2 a3 = some (r1, r2)) (hS : StaysLaid w := by first | exact HS.out | exact hS | exact StaysLaid.below HS.out HB.out | exact StaysLaid.below HS.out dB) :
  Calls Tryd.prog 17 #[.bool a0, .slice A1 l1.length c1, .slice A2 l2.length c2, .int .i64 a3] w fun e w' => e = .returned (.tuple #[.int .u64 r1, .int .i64 r2]) ∧ Below w.heap.size w w' := by
 have HS := aM (show StaysLaid w from hS)
 clear hS
 have HR1 := aM hr1
 have HC1 := aM hc1
 clear hr1 hc1
 have HR2 := aM hr2
 have HC2 := aM hc2
 clear hr2 hc2
 have HB := aM (Below.refl w.heap.size w)
 have H := h
 clear h
 unfold near_Quotient.f at H
 replace H := oA H
 obtain ⟨t333, A5, H⟩ := H
 (try dsimp only at H)
 replace H := oA H
 obtain ⟨t336, A6, H⟩ := H
 (try dsimp only at H)
 replace H := oA H
 obtain ⟨t339, A7, H⟩ := H
 (try dsimp only at H)
 by_cases c8 : t339 = true
 ·subst c8
  rw [if_pos rfl] at H
  (try dsimp only at H)
  by_cases c9 : (t336.length : Int) = 0
  ·rw [if_pos c9] at H
   obtain ⟨c9b0, c9b1⟩ := bT c9
   clear c9
   simp only [Option.some.injEq, Prod.mk.injEq] at H
   obtain ⟨rfl, rfl⟩ := H
   go_enter Tryd.func17, Tryd.ntmps17
   go_wp2_with (first | ((with_reducible refine gate_callee (f := 51) rfl ?_); refine gL (some 18) Tryd.func51 #[.slice A1 l1.length c1] ?_; (with_reducible refine (nat_Norm.calls _ _ l1 t333 _ ?side1 HC1.out A5.out).mono ?_); (case side1 => exact dC HR1.out); rintro e w10 ⟨v334, rfl, ho0, hb⟩; refine ⟨_, rfl, ?_⟩; have HO335 := aM (Kd.R_lower ho0 (below_size dB)); replace HB := hS HB.out hb; (try clear hb); (try clear ho0)) | ((with_reducible refine gate_callee (f := 51) rfl ?_); refine gL (some 20) Tryd.func51 #[.slice A2 l2.length c2] ?_; (with_reducible refine (nat_Norm.calls _ _ l2 t336 _ ?side1 HC2.out A6.out).mono ?_); (case side1 => exact dC (Kd.C_below HR2.out HB.out)); rintro e w11 ⟨v337, rfl, ho0, hb⟩; refine ⟨_, rfl, ?_⟩; have HO338 := aM (Kd.R_lower (Kd.R_new' ho0 (Kd.R_lt (dR HO335.out))) (below_size dB)); replace HO335 := oE HO335.out ho0 hb; replace HB := hS HB.out hb; (try clear hb); (try clear ho0)) | ((with_reducible refine gate_callee (f := 42) rfl ?_); refine gL (some 23) Tryd.func42 #[.int .i64 a3] ?_; (with_reducible refine (near_known.calls a3 true _ A7.out).mono ?_); rintro e w' ⟨rfl, ⟨nd, rfl⟩⟩; refine ⟨_, rfl, ?_⟩; obtain ⟨Ao12, co12, rfl⟩ := Kd.R_slice HO338.out))
   go_ret2
   exact ⟨dE, dB⟩
  ·rw [if_neg c9] at H
   obtain ⟨c9b0, c9b1⟩ := bF c9
   have c9b2 : ¬ (t336 = []) := fun h_ => c9 (by rw [h_]; rfl)
   by_cases c13 : (t333.length : Int) = 0
   ·rw [if_pos c13] at H
    obtain ⟨c13b0, c13b1⟩ := bT c13
    clear c13
    replace H := oA H
    obtain ⟨⟨t340, t341⟩, A14, H⟩ := H
    (try dsimp only at H)
    simp only [Option.some.injEq, Prod.mk.injEq] at H
    obtain ⟨rfl, rfl⟩ := H
    go_enter Tryd.func17, Tryd.ntmps17
    go_wp2_with (first | ((with_reducible refine gate_callee (f := 51) rfl ?_); refine gL (some 18) Tryd.func51 #[.slice A1 l1.length c1] ?_; (with_reducible refine (nat_Norm.calls _ _ l1 t333 _ ?side1 HC1.out A5.out).mono ?_); (case side1 => exact dC HR1.out); rintro e w15 ⟨v334, rfl, ho0, hb⟩; refine ⟨_, rfl, ?_⟩; have HO335 := aM (Kd.R_lower ho0 (below_size dB)); replace HB := hS HB.out hb; (try clear hb); (try clear ho0)) | ((with_reducible refine gate_callee (f := 51) rfl ?_); refine gL (some 20) Tryd.func51 #[.slice A2 l2.length c2] ?_; (with_reducible refine (nat_Norm.calls _ _ l2 t336 _ ?side1 HC2.out A6.out).mono ?_); (case side1 => exact dC (Kd.C_below HR2.out HB.out)); rintro e w16 ⟨v337, rfl, ho0, hb⟩; refine ⟨_, rfl, ?_⟩; have HO338 := aM (Kd.R_lower (Kd.R_new' ho0 (Kd.R_lt (dR HO335.out))) (below_size dB)); replace HO335 := oE HO335.out ho0 hb; replace HB := hS HB.out hb; (try clear hb); (try clear ho0)) | ((with_reducible refine gate_callee (f := 42) rfl ?_); refine gL (some 23) Tryd.func42 #[.int .i64 a3] ?_; (with_reducible refine (near_known.calls a3 true _ A7.out).mono ?_); rintro e w' ⟨rfl, ⟨nd, rfl⟩⟩; refine ⟨_, rfl, ?_⟩; obtain ⟨Ao17, co17, rfl⟩ := Kd.R_slice HO338.out; obtain ⟨Ao18, co18, rfl⟩ := Kd.R_slice HO335.out) | ((with_reducible refine gate_callee (f := 46) rfl ?_); refine gL (some 35) Tryd.func46 #[.bool a0, .int .u64 0, .int .i64 0, .bool false, .int .i64 a3] ?_; (with_reducible refine (near_finish.calls k a0 0 0 false a3 t340 t341 _ A14.out).mono ?_); rintro e w19 ⟨rfl, hb⟩; refine ⟨_, rfl, ?_⟩; replace HO335 := oB HO335.out hb; replace HO338 := oB HO338.out hb; replace HB := hS HB.out hb; (try clear hb)))
    go_ret2
    exact ⟨dE, dB⟩
   ·rw [if_neg c13] at H
    obtain ⟨c13b0, c13b1⟩ := bF c13
    have c13b2 : ¬ (t333 = []) := fun h_ => c13 (by rw [h_]; rfl)
    replace H := oA H
    obtain ⟨t342, A20, H⟩ := H
    (try dsimp only at H)
    replace H := oA H
    obtain ⟨t343, A21, H⟩ := H
    (try dsimp only at H)
    by_cases c22 : (wrap64 (t342 - t343)) > 1100
    ·rw [if_pos c22] at H
     have c22b0 : decide (1100 < (wrap64 (t342 - t343))) = true := decide_eq_true c22
     clear c22
     replace H := oA H
     obtain ⟨⟨t344, t345⟩, A23, H⟩ := H
     (try dsimp only at H)
     simp only [Option.some.injEq, Prod.mk.injEq] at H
     obtain ⟨rfl, rfl⟩ := H
     go_enter Tryd.func17, Tryd.ntmps17
     go_wp2_with (first | ((with_reducible refine gate_callee (f := 51) rfl ?_); refine gL (some 18) Tryd.func51 #[.slice A1 l1.length c1] ?_; (with_reducible refine (nat_Norm.calls _ _ l1 t333 _ ?side1 HC1.out A5.out).mono ?_); (case side1 => exact dC HR1.out); rintro e w24 ⟨v334, rfl, ho0, hb⟩; refine ⟨_, rfl, ?_⟩; have HO335 := aM (Kd.R_lower ho0 (below_size dB)); replace HB := hS HB.out hb; (try clear hb); (try clear ho0)) | ((with_reducible refine gate_callee (f := 51) rfl ?_); refine gL (some 20) Tryd.func51 #[.slice A2 l2.length c2] ?_; (with_reducible refine (nat_Norm.calls _ _ l2 t336 _ ?side1 HC2.out A6.out).mono ?_); (case side1 => exact dC (Kd.C_below HR2.out HB.out)); rintro e w25 ⟨v337, rfl, ho0, hb⟩; refine ⟨_, rfl, ?_⟩; have HO338 := aM (Kd.R_lower (Kd.R_new' ho0 (Kd.R_lt (dR HO335.out))) (below_size dB)); replace HO335 := oE HO335.out ho0 hb; replace HB := hS HB.out hb; (try clear hb); (try clear ho0)) | ((with_reducible refine gate_callee (f := 42) rfl ?_); refine gL (some 23) Tryd.func42 #[.int .i64 a3] ?_; (with_reducible refine (near_known.calls a3 true _ A7.out).mono ?_); rintro e w' ⟨rfl, ⟨nd, rfl⟩⟩; refine ⟨_, rfl, ?_⟩; obtain ⟨Ao26, co26, rfl⟩ := Kd.R_slice HO338.out; obtain ⟨Ao27, co27, rfl⟩ := Kd.R_slice HO335.out) | ((with_reducible refine gate_callee (f := 43) rfl ?_); refine gL (some 39) Tryd.func43 #[.slice Ao27 t333.length co27] ?_; (with_reducible refine (nat_Bits.calls k _ _ t333 t342 _ ?side1 (Kd.R_reads' HO335.out).2.1 A20.out).mono ?_); (case side1 => exact dC (Kd.R_reads' HO335.out).2.2); rintro e w' ⟨rfl, ⟨nd, rfl⟩⟩; refine ⟨_, rfl, ?_⟩) | ((with_reducible refine gate_callee (f := 43) rfl ?_); refine gL (some 41) Tryd.func43 #[.slice Ao26 t336.length co26] ?_; (with_reducible refine (nat_Bits.calls k _ _ t336 t343 _ ?side1 (Kd.R_reads' HO338.out).2.1 A21.out).mono ?_); (case side1 => exact dC (Kd.R_reads' HO338.out).2.2); rintro e w' ⟨rfl, ⟨nd, rfl⟩⟩; refine ⟨_, rfl, ?_⟩) | ((with_reducible refine gate_callee (f := 46) rfl ?_); refine gL (some 49) Tryd.func46 #[.bool a0, .int .u64 1, .int .i64 (wrap64 (t342 - t343)), .bool true, .int .i64 a3] ?_; (with_reducible refine (near_finish.calls k a0 1 (wrap64 (t342 - t343)) true a3 t344 t345 _ A23.out).mono ?_); rintro e w28 ⟨rfl, hb⟩; refine ⟨_, rfl, ?_⟩; replace HO335 := oB HO335.out hb; replace HO338 := oB HO338.out hb; replace HB := hS HB.out hb; (try clear hb)))
     go_ret2
     exact ⟨dE, dB⟩
    ·rw [if_neg c22] at H
     have c22b0 : decide (1100 < (wrap64 (t342 - t343))) = false := decide_eq_false c22
     clear c22
     by_cases c29 : (wrap64 (t342 - t343)) < (-1200)
     ·rw [if_pos c29] at H
      have c29b0 := decide_eq_true c29
      clear c29
      replace H := oA H
      obtain ⟨⟨t346, t347⟩, A30, H⟩ := H
      (try dsimp only at H)
      simp only [Option.some.injEq, Prod.mk.injEq] at H
      obtain ⟨rfl, rfl⟩ := H
      go_enter Tryd.func17, Tryd.ntmps17
      go_wp2_with (first | ((with_reducible refine gate_callee (f := 51) rfl ?_); refine gL (some 18) Tryd.func51 #[.slice A1 l1.length c1] ?_; (with_reducible refine (nat_Norm.calls _ _ l1 t333 _ ?side1 HC1.out A5.out).mono ?_); (case side1 => exact dC HR1.out); rintro e w31 ⟨v334, rfl, ho0, hb⟩; refine ⟨_, rfl, ?_⟩; have HO335 := aM (Kd.R_lower ho0 (below_size dB)); replace HB := hS HB.out hb; (try clear hb); (try clear ho0)) | ((with_reducible refine gate_callee (f := 51) rfl ?_); refine gL (some 20) Tryd.func51 #[.slice A2 l2.length c2] ?_; (with_reducible refine (nat_Norm.calls _ _ l2 t336 _ ?side1 HC2.out A6.out).mono ?_); (case side1 => exact dC (Kd.C_below HR2.out HB.out)); rintro e w32 ⟨v337, rfl, ho0, hb⟩; refine ⟨_, rfl, ?_⟩; have HO338 := aM (Kd.R_lower (Kd.R_new' ho0 (Kd.R_lt (dR HO335.out))) (below_size dB)); replace HO335 := oE HO335.out ho0 hb; replace HB := hS HB.out hb; (try clear hb); (try clear ho0)) | ((with_reducible refine gate_callee (f := 42) rfl ?_); refine gL (some 23) Tryd.func42 #[.int .i64 a3] ?_; (with_reducible refine (near_known.calls a3 true _ A7.out).mono ?_); rintro e w' ⟨rfl, ⟨nd, rfl⟩⟩; refine ⟨_, rfl, ?_⟩; obtain ⟨Ao33, co33, rfl⟩ := Kd.R_slice HO338.out; obtain ⟨Ao34, co34, rfl⟩ := Kd.R_slice HO335.out) | ((with_reducible refine gate_callee (f := 43) rfl ?_); refine gL (some 39) Tryd.func43 #[.slice Ao34 t333.length co34] ?_; (with_reducible refine (nat_Bits.calls k _ _ t333 t342 _ ?side1 (Kd.R_reads' HO335.out).2.1 A20.out).mono ?_); (case side1 => exact dC (Kd.R_reads' HO335.out).2.2); rintro e w' ⟨rfl, ⟨nd, rfl⟩⟩; refine ⟨_, rfl, ?_⟩) | ((with_reducible refine gate_callee (f := 43) rfl ?_); refine gL (some 41) Tryd.func43 #[.slice Ao33 t336.length co33] ?_; (with_reducible refine (nat_Bits.calls k _ _ t336 t343 _ ?side1 (Kd.R_reads' HO338.out).2.1 A21.out).mono ?_); (case side1 => exact dC (Kd.R_reads' HO338.out).2.2); rintro e w' ⟨rfl, ⟨nd, rfl⟩⟩; refine ⟨_, rfl, ?_⟩) | ((with_reducible refine gate_callee (f := 46) rfl ?_); refine gL (some 57) Tryd.func46 #[.bool a0, .int .u64 0, .int .i64 0, .bool true, .int .i64 a3] ?_; (with_reducible refine (near_finish.calls k a0 0 0 true a3 t346 t347 _ A30.out).mono ?_); rintro e w35 ⟨rfl, hb⟩; refine ⟨_, rfl, ?_⟩; replace HO335 := oB HO335.out hb; replace HO338 := oB HO338.out hb; replace HB := hS HB.out hb; (try clear hb)))
      go_ret2
      exact ⟨dE, dB⟩
     ·rw [if_neg c29] at H
      have c29b0 := decide_eq_false c29
      clear c29
      by_cases c36 : (wrap64 ((wrap64 (t342 - t343)) - 62)) > 0
      ·rw [if_pos c36] at H
       have c36b0 : decide (0 < (wrap64 ((wrap64 (t342 - t343)) - 62))) = true := decide_eq_true c36
       clear c36
       replace H := oA H
       obtain ⟨t348, A37, H⟩ := H
       (try dsimp only at H)
       replace H := oA H
       obtain ⟨⟨t351, t352, t353⟩, A38, H⟩ := H
       (try dsimp only at H)
       replace H := oA H
       obtain ⟨⟨t358, t359⟩, A39, H⟩ := H
       (try dsimp only at H)
       replace H := oA H
       obtain ⟨⟨t360, t361⟩, A40, H⟩ := H
       (try dsimp only at H)
       simp only [Option.some.injEq, Prod.mk.injEq] at H
       obtain ⟨rfl, rfl⟩ := H
       have e_ : decide ((t352.length : Int) > 0) = decide (0 < t352.length) := by rw [decide_eq_decide]; omega
       (try (have z_ := A20.out; rw [e_] at z_; clear A20; have A20 := aM z_; clear z_))
       (try (have z_ := A21.out; rw [e_] at z_; clear A21; have A21 := aM z_; clear z_))
       (try (have z_ := A37.out; rw [e_] at z_; clear A37; have A37 := aM z_; clear z_))
       (try (have z_ := A38.out; rw [e_] at z_; clear A38; have A38 := aM z_; clear z_))
       (try (have z_ := A39.out; rw [e_] at z_; clear A39; have A39 := aM z_; clear z_))
       (try (have z_ := A40.out; rw [e_] at z_; clear A40; have A40 := aM z_; clear z_))
       (try (have z_ := A5.out; rw [e_] at z_; clear A5; have A5 := aM z_; clear z_))
       (try (have z_ := A6.out; rw [e_] at z_; clear A6; have A6 := aM z_; clear z_))
       (try (have z_ := A7.out; rw [e_] at z_; clear A7; have A7 := aM z_; clear z_))
       clear e_
       go_enter Tryd.func17, Tryd.ntmps17
       go_wp2_with (first | ((with_reducible refine gate_callee (f := 51) rfl ?_); refine gL (some 18) Tryd.func51 #[.slice A1 l1.length c1] ?_; (with_reducible refine (nat_Norm.calls _ _ l1 t333 _ ?side1 HC1.out A5.out).mono ?_); (case side1 => exact dC HR1.out); rintro e w41 ⟨v334, rfl, ho0, hb⟩; refine ⟨_, rfl, ?_⟩; have HO335 := aM (Kd.R_lower ho0 (below_size dB)); replace HB := hS HB.out hb; (try clear hb); (try clear ho0)) | ((with_reducible refine gate_callee (f := 51) rfl ?_); refine gL (some 20) Tryd.func51 #[.slice A2 l2.length c2] ?_; (with_reducible refine (nat_Norm.calls _ _ l2 t336 _ ?side1 HC2.out A6.out).mono ?_); (case side1 => exact dC (Kd.C_below HR2.out HB.out)); rintro e w42 ⟨v337, rfl, ho0, hb⟩; refine ⟨_, rfl, ?_⟩; have HO338 := aM (Kd.R_lower (Kd.R_new' ho0 (Kd.R_lt (dR HO335.out))) (below_size dB)); replace HO335 := oE HO335.out ho0 hb; replace HB := hS HB.out hb; (try clear hb); (try clear ho0)) | ((with_reducible refine gate_callee (f := 42) rfl ?_); refine gL (some 23) Tryd.func42 #[.int .i64 a3] ?_; (with_reducible refine (near_known.calls a3 true _ A7.out).mono ?_); rintro e w' ⟨rfl, ⟨nd, rfl⟩⟩; refine ⟨_, rfl, ?_⟩; obtain ⟨Ao43, co43, rfl⟩ := Kd.R_slice HO338.out; obtain ⟨Ao44, co44, rfl⟩ := Kd.R_slice HO335.out) | ((with_reducible refine gate_callee (f := 43) rfl ?_); refine gL (some 39) Tryd.func43 #[.slice Ao44 t333.length co44] ?_; (with_reducible refine (nat_Bits.calls k _ _ t333 t342 _ ?side1 (Kd.R_reads' HO335.out).2.1 A20.out).mono ?_); (case side1 => exact dC (Kd.R_reads' HO335.out).2.2); rintro e w' ⟨rfl, ⟨nd, rfl⟩⟩; refine ⟨_, rfl, ?_⟩) | ((with_reducible refine gate_callee (f := 43) rfl ?_); refine gL (some 41) Tryd.func43 #[.slice Ao43 t336.length co43] ?_; (with_reducible refine (nat_Bits.calls k _ _ t336 t343 _ ?side1 (Kd.R_reads' HO338.out).2.1 A21.out).mono ?_); (case side1 => exact dC (Kd.R_reads' HO338.out).2.2); rintro e w' ⟨rfl, ⟨nd, rfl⟩⟩; refine ⟨_, rfl, ?_⟩) | ((with_reducible refine gate_callee (f := 52) rfl ?_); refine gL (some 66) Tryd.func52 #[.slice Ao43 t336.length co43, .int .i64 (wrap64 ((wrap64 (t342 - t343)) - 62))] ?_; (with_reducible refine (near_shl.calls k _ _ t336 (wrap64 ((wrap64 (t342 - t343)) - 62)) t348 _ ?side1 (Kd.R_reads' HO338.out).2.1 A37.out).mono ?_); (case side1 => exact dC (Kd.R_reads' HO338.out).2.2); rintro e w45 ⟨v349, rfl, ho0, hb⟩; refine ⟨_, rfl, ?_⟩; have HO350 := aM (Kd.R_lower (Kd.R_new' (Kd.R_new' ho0 (Kd.R_lt (dR HO335.out))) (Kd.R_lt (dR HO338.out))) (below_size dB)); replace HO335 := oE HO335.out ho0 hb; replace HO338 := oE HO338.out ho0 hb; replace HB := hS HB.out hb; (try clear hb); (try clear ho0); obtain ⟨Ao46, co46, rfl⟩ := Kd.R_slice HO350.out) | ((with_reducible refine gate_callee (f := 53) rfl ?_); refine gL (some 74) Tryd.func53 #[.slice Ao44 t333.length co44, .slice Ao46 t348.length co46] ?_; (with_reducible refine (quot_DivMod.calls k _ _ t333 _ _ t348 t351 t352 t353 _ ?side1 (Kd.R_reads' HO335.out).2.1 ?side3 (Kd.R_reads' HO350.out).2.1 A38.out).mono ?_); (case side1 => exact dC (Kd.R_reads' HO335.out).2.2); (case side3 => exact dC (Kd.R_reads' HO350.out).2.2); rintro e w47 ⟨v354, v356, rfl, ho0, ho1, hb⟩; refine ⟨_, rfl, ?_⟩; have HO355 := aM (Kd.R_lower (Kd.R_new' (Kd.R_new' (Kd.R_new' ho0 (Kd.R_lt (dR HO335.out))) (Kd.R_lt (dR HO338.out))) (Kd.R_lt (dR HO350.out))) (below_size dB)); have HO357 := aM (Kd.R_lower (Kd.R_new' (Kd.R_new' (Kd.R_new' ho1 (Kd.R_lt (dR HO335.out))) (Kd.R_lt (dR HO338.out))) (Kd.R_lt (dR HO350.out))) (below_size dB)); replace HO335 := aM (Kd.R_mono (Kd.R_told (Kd.R_told (Kd.R_old (dR HO335.out) hb) (Kd.R_base ho0)) (Kd.R_base ho1)) (fun _ h_ => h_.1)); replace HO338 := aM (Kd.R_mono (Kd.R_told (Kd.R_told (Kd.R_old (dR HO338.out) hb) (Kd.R_base ho0)) (Kd.R_base ho1)) (fun _ h_ => h_.1)); replace HO350 := aM (Kd.R_mono (Kd.R_told (Kd.R_told (Kd.R_old (dR HO350.out) hb) (Kd.R_base ho0)) (Kd.R_base ho1)) (fun _ h_ => h_.1)); replace HB := hS HB.out hb; (try clear hb); (try clear ho0); (try clear ho1); obtain ⟨Ao48, co48, rfl⟩ := Kd.R_slice HO355.out) | ((with_reducible refine gate_callee (f := 45) rfl ?_); refine gL (some 80) Tryd.func45 #[.slice Ao48 t351.length co48] ?_; (with_reducible refine (nat_Word.calls k _ _ t351 t358 t359 _ ?side1 (Kd.R_reads' HO355.out).2.1 A39.out).mono ?_); (case side1 => exact dC (Kd.R_reads' HO355.out).2.2); rintro e w' ⟨rfl, ⟨nd, rfl⟩⟩; refine ⟨_, rfl, ?_⟩; obtain ⟨Ao49, co49, rfl⟩ := Kd.R_slice HO357.out) | ((with_reducible refine gate_callee (f := 46) rfl ?_); refine gL (some 90) Tryd.func46 #[.bool a0, .int .u64 t358, .int .i64 (wrap64 ((wrap64 (t342 - t343)) - 62)), .bool (decide (0 < t352.length)), .int .i64 a3] ?_; (with_reducible refine (near_finish.calls k a0 t358 (wrap64 ((wrap64 (t342 - t343)) - 62)) (decide (0 < t352.length)) a3 t360 t361 _ A40.out).mono ?_); rintro e w50 ⟨rfl, hb⟩; refine ⟨_, rfl, ?_⟩; replace HO335 := oB HO335.out hb; replace HO338 := oB HO338.out hb; replace HO350 := oB HO350.out hb; replace HO355 := oB HO355.out hb; replace HO357 := oB HO357.out hb; replace HB := hS HB.out hb; (try clear hb)))
       go_ret2
       exact ⟨dE, dB⟩
      ·rw [if_neg c36] at H
       have c36b0 : decide (0 < (wrap64 ((wrap64 (t342 - t343)) - 62))) = false := decide_eq_false c36
       clear c36
       replace H := oA H
       obtain ⟨t362, A51, H⟩ := H
       (try dsimp only at H)
       replace H := oA H
       obtain ⟨⟨t365, t366, t367⟩, A52, H⟩ := H
       (try dsimp only at H)
       replace H := oA H
       obtain ⟨⟨t372, t373⟩, A53, H⟩ := H
       (try dsimp only at H)
       replace H := oA H
       obtain ⟨⟨t374, t375⟩, A54, H⟩ := H
       (try dsimp only at H)
       simp only [Option.some.injEq, Prod.mk.injEq] at H
       obtain ⟨rfl, rfl⟩ := H
       have e_ : decide ((t366.length : Int) > 0) = decide (0 < t366.length) := by rw [decide_eq_decide]; omega
       (try (have z_ := A20.out; rw [e_] at z_; clear A20; have A20 := aM z_; clear z_))
       (try (have z_ := A21.out; rw [e_] at z_; clear A21; have A21 := aM z_; clear z_))
       (try (have z_ := A5.out; rw [e_] at z_; clear A5; have A5 := aM z_; clear z_))
       (try (have z_ := A51.out; rw [e_] at z_; clear A51; have A51 := aM z_; clear z_))
       (try (have z_ := A52.out; rw [e_] at z_; clear A52; have A52 := aM z_; clear z_))
       (try (have z_ := A53.out; rw [e_] at z_; clear A53; have A53 := aM z_; clear z_))
       (try (have z_ := A54.out; rw [e_] at z_; clear A54; have A54 := aM z_; clear z_))
       (try (have z_ := A6.out; rw [e_] at z_; clear A6; have A6 := aM z_; clear z_))
       (try (have z_ := A7.out; rw [e_] at z_; clear A7; have A7 := aM z_; clear z_))
       clear e_
       go_enter Tryd.func17, Tryd.ntmps17
       go_wp2_with (first | ((with_reducible refine gate_callee (f := 51) rfl ?_); refine gL (some 18) Tryd.func51 #[.slice A1 l1.length c1] ?_; (with_reducible refine (nat_Norm.calls _ _ l1 t333 _ ?side1 HC1.out A5.out).mono ?_); (case side1 => exact dC HR1.out); rintro e w55 ⟨v334, rfl, ho0, hb⟩; refine ⟨_, rfl, ?_⟩; have HO335 := aM (Kd.R_lower ho0 (below_size dB)); replace HB := hS HB.out hb; (try clear hb); (try clear ho0)) | ((with_reducible refine gate_callee (f := 51) rfl ?_); refine gL (some 20) Tryd.func51 #[.slice A2 l2.length c2] ?_; (with_reducible refine (nat_Norm.calls _ _ l2 t336 _ ?side1 HC2.out A6.out).mono ?_); (case side1 => exact dC (Kd.C_below HR2.out HB.out)); rintro e w56 ⟨v337, rfl, ho0, hb⟩; refine ⟨_, rfl, ?_⟩; have HO338 := aM (Kd.R_lower (Kd.R_new' ho0 (Kd.R_lt (dR HO335.out))) (below_size dB)); replace HO335 := oE HO335.out ho0 hb; replace HB := hS HB.out hb; (try clear hb); (try clear ho0)) | ((with_reducible refine gate_callee (f := 42) rfl ?_); refine gL (some 23) Tryd.func42 #[.int .i64 a3] ?_; (with_reducible refine (near_known.calls a3 true _ A7.out).mono ?_); rintro e w' ⟨rfl, ⟨nd, rfl⟩⟩; refine ⟨_, rfl, ?_⟩; obtain ⟨Ao57, co57, rfl⟩ := Kd.R_slice HO338.out; obtain ⟨Ao58, co58, rfl⟩ := Kd.R_slice HO335.out) | ((with_reducible refine gate_callee (f := 43) rfl ?_); refine gL (some 39) Tryd.func43 #[.slice Ao58 t333.length co58] ?_; (with_reducible refine (nat_Bits.calls k _ _ t333 t342 _ ?side1 (Kd.R_reads' HO335.out).2.1 A20.out).mono ?_); (case side1 => exact dC (Kd.R_reads' HO335.out).2.2); rintro e w' ⟨rfl, ⟨nd, rfl⟩⟩; refine ⟨_, rfl, ?_⟩) | ((with_reducible refine gate_callee (f := 43) rfl ?_); refine gL (some 41) Tryd.func43 #[.slice Ao57 t336.length co57] ?_; (with_reducible refine (nat_Bits.calls k _ _ t336 t343 _ ?side1 (Kd.R_reads' HO338.out).2.1 A21.out).mono ?_); (case side1 => exact dC (Kd.R_reads' HO338.out).2.2); rintro e w' ⟨rfl, ⟨nd, rfl⟩⟩; refine ⟨_, rfl, ?_⟩) | ((with_reducible refine gate_callee (f := 52) rfl ?_); refine gL (some 70) Tryd.func52 #[.slice Ao58 t333.length co58, .int .i64 (wrap64 (-(wrap64 ((wrap64 (t342 - t343)) - 62))))] ?_; (with_reducible refine (near_shl.calls k _ _ t333 (wrap64 (-(wrap64 ((wrap64 (t342 - t343)) - 62)))) t362 _ ?side1 (Kd.R_reads' HO335.out).2.1 A51.out).mono ?_); (case side1 => exact dC (Kd.R_reads' HO335.out).2.2); rintro e w59 ⟨v363, rfl, ho0, hb⟩; refine ⟨_, rfl, ?_⟩; have HO364 := aM (Kd.R_lower (Kd.R_new' (Kd.R_new' ho0 (Kd.R_lt (dR HO335.out))) (Kd.R_lt (dR HO338.out))) (below_size dB)); replace HO335 := oE HO335.out ho0 hb; replace HO338 := oE HO338.out ho0 hb; replace HB := hS HB.out hb; (try clear hb); (try clear ho0); obtain ⟨Ao60, co60, rfl⟩ := Kd.R_slice HO364.out) | ((with_reducible refine gate_callee (f := 53) rfl ?_); refine gL (some 74) Tryd.func53 #[.slice Ao60 t362.length co60, .slice Ao57 t336.length co57] ?_; (with_reducible refine (quot_DivMod.calls k _ _ t362 _ _ t336 t365 t366 t367 _ ?side1 (Kd.R_reads' HO364.out).2.1 ?side3 (Kd.R_reads' HO338.out).2.1 A52.out).mono ?_); (case side1 => exact dC (Kd.R_reads' HO364.out).2.2); (case side3 => exact dC (Kd.R_reads' HO338.out).2.2); rintro e w61 ⟨v368, v370, rfl, ho0, ho1, hb⟩; refine ⟨_, rfl, ?_⟩; have HO369 := aM (Kd.R_lower (Kd.R_new' (Kd.R_new' (Kd.R_new' ho0 (Kd.R_lt (dR HO335.out))) (Kd.R_lt (dR HO338.out))) (Kd.R_lt (dR HO364.out))) (below_size dB)); have HO371 := aM (Kd.R_lower (Kd.R_new' (Kd.R_new' (Kd.R_new' ho1 (Kd.R_lt (dR HO335.out))) (Kd.R_lt (dR HO338.out))) (Kd.R_lt (dR HO364.out))) (below_size dB)); replace HO335 := aM (Kd.R_mono (Kd.R_told (Kd.R_told (Kd.R_old (dR HO335.out) hb) (Kd.R_base ho0)) (Kd.R_base ho1)) (fun _ h_ => h_.1)); replace HO338 := aM (Kd.R_mono (Kd.R_told (Kd.R_told (Kd.R_old (dR HO338.out) hb) (Kd.R_base ho0)) (Kd.R_base ho1)) (fun _ h_ => h_.1)); replace HO364 := aM (Kd.R_mono (Kd.R_told (Kd.R_told (Kd.R_old (dR HO364.out) hb) (Kd.R_base ho0)) (Kd.R_base ho1)) (fun _ h_ => h_.1)); replace HB := hS HB.out hb; (try clear hb); (try clear ho0); (try clear ho1); obtain ⟨Ao62, co62, rfl⟩ := Kd.R_slice HO369.out) | ((with_reducible refine gate_callee (f := 45) rfl ?_); refine gL (some 80) Tryd.func45 #[.slice Ao62 t365.length co62] ?_; (with_reducible refine (nat_Word.calls k _ _ t365 t372 t373 _ ?side1 (Kd.R_reads' HO369.out).2.1 A53.out).mono ?_); (case side1 => exact dC (Kd.R_reads' HO369.out).2.2); rintro e w' ⟨rfl, ⟨nd, rfl⟩⟩; refine ⟨_, rfl, ?_⟩; obtain ⟨Ao63, co63, rfl⟩ := Kd.R_slice HO371.out) | ((with_reducible refine gate_callee (f := 46) rfl ?_); refine gL (some 90) Tryd.func46 #[.bool a0, .int .u64 t372, .int .i64 (wrap64 ((wrap64 (t342 - t343)) - 62)), .bool (decide (0 < t366.length)), .int .i64 a3] ?_; (with_reducible refine (near_finish.calls k a0 t372 (wrap64 ((wrap64 (t342 - t343)) - 62)) (decide (0 < t366.length)) a3 t374 t375 _ A54.out).mono ?_); rintro e w64 ⟨rfl, hb⟩; refine ⟨_, rfl, ?_⟩; replace HO335 := oB HO335.out hb; replace HO338 := oB HO338.out hb; replace HO364 := oB HO364.out hb; replace HO369 := oB HO369.out hb; replace HO371 := oB HO371.out hb; replace HB := hS HB.out hb; (try clear hb)))
       go_ret2
       exact ⟨dE, dB⟩
 ·replace c8 := Bool.eq_false_iff.mpr c8
  subst c8
  rw [if_neg (show ¬ (false = true) by decide)] at H
  (try dsimp only at H)
  simp only [Option.some.injEq, Prod.mk.injEq] at H
  obtain ⟨rfl, rfl⟩ := H
  go_enter Tryd.func17, Tryd.ntmps17
  go_wp2_with (first | ((with_reducible refine gate_callee (f := 51) rfl ?_); refine gL (some 18) Tryd.func51 #[.slice A1 l1.length c1] ?_; (with_reducible refine (nat_Norm.calls _ _ l1 t333 _ ?side1 HC1.out A5.out).mono ?_); (case side1 => exact dC HR1.out); rintro e w65 ⟨v334, rfl, ho0, hb⟩; refine ⟨_, rfl, ?_⟩; have HO335 := aM (Kd.R_lower ho0 (below_size dB)); replace HB := hS HB.out hb; (try clear hb); (try clear ho0)) | ((with_reducible refine gate_callee (f := 51) rfl ?_); refine gL (some 20) Tryd.func51 #[.slice A2 l2.length c2] ?_; (with_reducible refine (nat_Norm.calls _ _ l2 t336 _ ?side1 HC2.out A6.out).mono ?_); (case side1 => exact dC (Kd.C_below HR2.out HB.out)); rintro e w66 ⟨v337, rfl, ho0, hb⟩; refine ⟨_, rfl, ?_⟩; have HO338 := aM (Kd.R_lower (Kd.R_new' ho0 (Kd.R_lt (dR HO335.out))) (below_size dB)); replace HO335 := oE HO335.out ho0 hb; replace HB := hS HB.out hb; (try clear hb); (try clear ho0)) | ((with_reducible refine gate_callee (f := 42) rfl ?_); refine gL (some 23) Tryd.func42 #[.int .i64 a3] ?_; (with_reducible refine (near_known.calls a3 false _ A7.out).mono ?_); rintro e w' ⟨rfl, ⟨nd, rfl⟩⟩; refine ⟨_, rfl, ?_⟩))
  go_ret2
  exact ⟨dE, dB⟩
def plumblaw07_fixed.f (k : Nat)  : Option (Bool) := (near_Quotient.f k false (([1] : List Int)) (([2] : List Int)) 0).bind fun bt205 => ((near_Quotient.f k true (([1] : List Int)) (([3] : List Int)) 0).bind fun bt213 => ((near_Quotient.f k false (([1] : List Int)) ([] : List Int) 0).bind fun bt218 => ((plumblaw07_num.f bt205.2).bind fun t220 => (if t220 = 0 then ((plumblaw07_num.f bt213.2).bind fun t221 => (if t221 = 0 then (if bt205.1 = 4602678819172646912 then (if bt213.1 = 13823048456275842389 then ((plumblaw07_num.f bt218.2).bind fun t222 => (some (t222 == 50))) else (none)) else (none)) else (none))) else (none)))))
theorem plumblaw07_fixed.mono : ∀ k, LeO (plumblaw07_fixed.f k ) (plumblaw07_fixed.f (k + 1) ) := by
 intro  k
 unfold plumblaw07_fixed.f
 have m0_ := near_Quotient.mono
 exact mX
set_option maxHeartbeats 8000000 in
set_option maxRecDepth 100000 in
theorem plumblaw07_fixed.calls (k : Nat)  (r : Bool) (w : World) (h : plumblaw07_fixed.f k  = some r) (hS : StaysLaid w := by first | exact HS.out | exact hS | exact StaysLaid.below HS.out HB.out | exact StaysLaid.below HS.out dB) :
  Calls Tryd.prog 19 #[] w fun e w' => e = .returned (.bool r) ∧ Below w.heap.size w w' := by
 have HS := aM (show StaysLaid w from hS)
 clear hS
 have HB := aM (Below.refl w.heap.size w)
 have H := h
 clear h
 unfold plumblaw07_fixed.f at H
 obtain ⟨y199, hy199⟩ : ∃ y_ : List Int, y_ = (([1] : List Int)) := ⟨_, rfl⟩
 replace H : ((near_Quotient.f k false y199 (([2] : List Int)) 0).bind fun bt205 => ((near_Quotient.f k true (([1] : List Int)) (([3] : List Int)) 0).bind fun bt213 => ((near_Quotient.f k false (([1] : List Int)) ([] : List Int) 0).bind fun bt218 => ((plumblaw07_num.f bt205.2).bind fun t220 => (if t220 = 0 then ((plumblaw07_num.f bt213.2).bind fun t221 => (if t221 = 0 then (if bt205.1 = 4602678819172646912 then (if bt213.1 = 13823048456275842389 then ((plumblaw07_num.f bt218.2).bind fun t222 => (some (t222 == 50))) else (none)) else (none)) else (none))) else (none)))))) = some r := by first | (rw [hy199]; with_reducible exact H) | (have H2_ := (Option.bind_some _ _).symm.trans H; rw [hy199]; with_reducible exact H2_) | (have H2_ := (Option.bind_some _ _).symm.trans H; with_reducible exact H2_) | with_reducible exact H | (rw [hy199]; exact H) | exact H
 have Ny199 := aM hy199
 clear hy199
 obtain ⟨y202, hy202⟩ : ∃ y_ : List Int, y_ = (([2] : List Int)) := ⟨_, rfl⟩
 replace H : ((near_Quotient.f k false y199 y202 0).bind fun bt205 => ((near_Quotient.f k true (([1] : List Int)) (([3] : List Int)) 0).bind fun bt213 => ((near_Quotient.f k false (([1] : List Int)) ([] : List Int) 0).bind fun bt218 => ((plumblaw07_num.f bt205.2).bind fun t220 => (if t220 = 0 then ((plumblaw07_num.f bt213.2).bind fun t221 => (if t221 = 0 then (if bt205.1 = 4602678819172646912 then (if bt213.1 = 13823048456275842389 then ((plumblaw07_num.f bt218.2).bind fun t222 => (some (t222 == 50))) else (none)) else (none)) else (none))) else (none)))))) = some r := by first | (rw [hy202]; with_reducible exact H) | (have H2_ := (Option.bind_some _ _).symm.trans H; rw [hy202]; with_reducible exact H2_) | (have H2_ := (Option.bind_some _ _).symm.trans H; with_reducible exact H2_) | with_reducible exact H | (rw [hy202]; exact H) | exact H
 have Ny202 := aM hy202
 clear hy202
 replace H := oA H
 obtain ⟨⟨t205, t206⟩, A1, H⟩ := H
 (try dsimp only at H)
 obtain ⟨y207, hy207⟩ : ∃ y_ : List Int, y_ = (([1] : List Int)) := ⟨_, rfl⟩
 replace H : ((near_Quotient.f k true y207 (([3] : List Int)) 0).bind fun bt213 => ((near_Quotient.f k false (([1] : List Int)) ([] : List Int) 0).bind fun bt218 => ((plumblaw07_num.f t206).bind fun t220 => (if t220 = 0 then ((plumblaw07_num.f bt213.2).bind fun t221 => (if t221 = 0 then (if t205 = 4602678819172646912 then (if bt213.1 = 13823048456275842389 then ((plumblaw07_num.f bt218.2).bind fun t222 => (some (t222 == 50))) else (none)) else (none)) else (none))) else (none))))) = some r := by first | (rw [hy207]; with_reducible exact H) | (have H2_ := (Option.bind_some _ _).symm.trans H; rw [hy207]; with_reducible exact H2_) | (have H2_ := (Option.bind_some _ _).symm.trans H; with_reducible exact H2_) | with_reducible exact H | (rw [hy207]; exact H) | exact H
 have Ny207 := aM hy207
 clear hy207
 obtain ⟨y210, hy210⟩ : ∃ y_ : List Int, y_ = (([3] : List Int)) := ⟨_, rfl⟩
 replace H : ((near_Quotient.f k true y207 y210 0).bind fun bt213 => ((near_Quotient.f k false (([1] : List Int)) ([] : List Int) 0).bind fun bt218 => ((plumblaw07_num.f t206).bind fun t220 => (if t220 = 0 then ((plumblaw07_num.f bt213.2).bind fun t221 => (if t221 = 0 then (if t205 = 4602678819172646912 then (if bt213.1 = 13823048456275842389 then ((plumblaw07_num.f bt218.2).bind fun t222 => (some (t222 == 50))) else (none)) else (none)) else (none))) else (none))))) = some r := by first | (rw [hy210]; with_reducible exact H) | (have H2_ := (Option.bind_some _ _).symm.trans H; rw [hy210]; with_reducible exact H2_) | (have H2_ := (Option.bind_some _ _).symm.trans H; with_reducible exact H2_) | with_reducible exact H | (rw [hy210]; exact H) | exact H
 have Ny210 := aM hy210
 clear hy210
 replace H := oA H
 obtain ⟨⟨t213, t214⟩, A2, H⟩ := H
 (try dsimp only at H)
 obtain ⟨y215, hy215⟩ : ∃ y_ : List Int, y_ = (([1] : List Int)) := ⟨_, rfl⟩
 replace H : ((near_Quotient.f k false y215 ([] : List Int) 0).bind fun bt218 => ((plumblaw07_num.f t206).bind fun t220 => (if t220 = 0 then ((plumblaw07_num.f t214).bind fun t221 => (if t221 = 0 then (if t205 = 4602678819172646912 then (if t213 = 13823048456275842389 then ((plumblaw07_num.f bt218.2).bind fun t222 => (some (t222 == 50))) else (none)) else (none)) else (none))) else (none)))) = some r := by first | (rw [hy215]; with_reducible exact H) | (have H2_ := (Option.bind_some _ _).symm.trans H; rw [hy215]; with_reducible exact H2_) | (have H2_ := (Option.bind_some _ _).symm.trans H; with_reducible exact H2_) | with_reducible exact H | (rw [hy215]; exact H) | exact H
 have Ny215 := aM hy215
 clear hy215
 replace H := oA H
 obtain ⟨⟨t218, t219⟩, A3, H⟩ := H
 (try dsimp only at H)
 replace H := oA H
 obtain ⟨t220, A4, H⟩ := H
 (try dsimp only at H)
 replace H := nO H
 obtain ⟨c5, H⟩ := H
 obtain ⟨c5b0, c5b1⟩ := bT c5
 clear c5
 replace H := oA H
 obtain ⟨t221, A6, H⟩ := H
 (try dsimp only at H)
 replace H := nO H
 obtain ⟨c7, H⟩ := H
 obtain ⟨c7b0, c7b1⟩ := bT c7
 clear c7
 replace H := nO H
 obtain ⟨c8, H⟩ := H
 obtain ⟨c8b0, c8b1⟩ := bT c8
 clear c8
 replace H := nO H
 obtain ⟨c9, H⟩ := H
 obtain ⟨c9b0, c9b1⟩ := bT c9
 clear c9
 replace H := oA H
 obtain ⟨t222, A10, H⟩ := H
 (try dsimp only at H)
 obtain rfl := Option.some.inj H
 go_enter Tryd.func19, Tryd.ntmps19
 go_wp2_with (first | ((with_reducible refine gate_dst (N := 8) rfl ?_); refine Kd.R_lit (Kd.int .u64) _ 26 ?hg (N := 8) ?hd (xs := ([1] : List Int)) (inner := [.int .u64 1]) (ok := fun _ => True) (okp := fun _ => True) ?hr ?hp (fun _ hk => hk) trivial (Below.refl _ _) (Nat.le_refl _) (by simp) ?_; (case hd => rfl); (case hg => rfl); (case hr => first | (go_simp; done) | (go_simp; rfl)); (case hp => exact (Reps.one (show Kd.M (Kd.int .u64) _ _ _ 1 [.int .u64 1] from rfl) (Reps.none _ _))); intro v200 w11 ho12 hb hg_ hnew_; clear hg_ hnew_; (first | rw [← Ny199.out] at ho12 | (simp only [Int.reduceToNat] at ho12; rw [← Ny199.out] at ho12)); have HO201 := aM (Kd.R_lower ho12 (below_size dB)); replace HB := hS HB.out hb; clear hb ho12) | ((with_reducible refine gate_dst (N := 9) rfl ?_); refine Kd.R_lit (Kd.int .u64) _ 26 ?hg (N := 9) ?hd (xs := ([2] : List Int)) (inner := [.int .u64 2]) (ok := fun _ => True) (okp := fun _ => True) ?hr ?hp (fun _ hk => hk) trivial (Below.refl _ _) (Nat.le_refl _) (by simp) ?_; (case hd => rfl); (case hg => rfl); (case hr => first | (go_simp; done) | (go_simp; rfl)); (case hp => exact (Reps.one (show Kd.M (Kd.int .u64) _ _ _ 2 [.int .u64 2] from rfl) (Reps.none _ _))); intro v203 w13 ho14 hb hg_ hnew_; clear hg_ hnew_; (first | rw [← Ny202.out] at ho14 | (simp only [Int.reduceToNat] at ho14; rw [← Ny202.out] at ho14)); have HO204 := aM (Kd.R_lower (Kd.R_new' ho14 (Kd.R_lt (dR HO201.out))) (below_size dB)); replace HO201 := oE HO201.out ho14 hb; replace HB := hS HB.out hb; clear hb ho14; obtain ⟨Ao15, co15, rfl⟩ := Kd.R_slice HO201.out; obtain ⟨Ao16, co16, rfl⟩ := Kd.R_slice HO204.out) | ((with_reducible refine gate_callee (f := 17) rfl ?_); refine gL (some 10) Tryd.func17 #[.bool false, .slice Ao15 y199.length co15, .slice Ao16 y202.length co16, .int .i64 0] ?_; (with_reducible refine (near_Quotient.calls k false _ _ y199 _ _ y202 0 t205 t206 _ ?side1 (Kd.R_reads' HO201.out).2.1 ?side3 (Kd.R_reads' HO204.out).2.1 A1.out).mono ?_); (case side1 => exact dC (Kd.R_reads' HO201.out).2.2); (case side3 => exact dC (Kd.R_reads' HO204.out).2.2); rintro e w17 ⟨rfl, hb⟩; refine ⟨_, rfl, ?_⟩; replace HO201 := oB HO201.out hb; replace HO204 := oB HO204.out hb; replace HB := hS HB.out hb; (try clear hb)) | ((with_reducible refine gate_dst (N := 14) rfl ?_); refine Kd.R_lit (Kd.int .u64) _ 26 ?hg (N := 14) ?hd (xs := ([1] : List Int)) (inner := [.int .u64 1]) (ok := fun _ => True) (okp := fun _ => True) ?hr ?hp (fun _ hk => hk) trivial (Below.refl _ _) (Nat.le_refl _) (by simp) ?_; (case hd => rfl); (case hg => rfl); (case hr => first | (go_simp; done) | (go_simp; rfl)); (case hp => exact (Reps.one (show Kd.M (Kd.int .u64) _ _ _ 1 [.int .u64 1] from rfl) (Reps.none _ _))); intro v208 w18 ho19 hb hg_ hnew_; clear hg_ hnew_; (first | rw [← Ny207.out] at ho19 | (simp only [Int.reduceToNat] at ho19; rw [← Ny207.out] at ho19)); have HO209 := aM (Kd.R_lower (Kd.R_new' (Kd.R_new' ho19 (Kd.R_lt (dR HO201.out))) (Kd.R_lt (dR HO204.out))) (below_size dB)); replace HO201 := oE HO201.out ho19 hb; replace HO204 := oE HO204.out ho19 hb; replace HB := hS HB.out hb; clear hb ho19) | ((with_reducible refine gate_dst (N := 15) rfl ?_); refine Kd.R_lit (Kd.int .u64) _ 26 ?hg (N := 15) ?hd (xs := ([3] : List Int)) (inner := [.int .u64 3]) (ok := fun _ => True) (okp := fun _ => True) ?hr ?hp (fun _ hk => hk) trivial (Below.refl _ _) (Nat.le_refl _) (by simp) ?_; (case hd => rfl); (case hg => rfl); (case hr => first | (go_simp; done) | (go_simp; rfl)); (case hp => exact (Reps.one (show Kd.M (Kd.int .u64) _ _ _ 3 [.int .u64 3] from rfl) (Reps.none _ _))); intro v211 w20 ho21 hb hg_ hnew_; clear hg_ hnew_; (first | rw [← Ny210.out] at ho21 | (simp only [Int.reduceToNat] at ho21; rw [← Ny210.out] at ho21)); have HO212 := aM (Kd.R_lower (Kd.R_new' (Kd.R_new' (Kd.R_new' ho21 (Kd.R_lt (dR HO201.out))) (Kd.R_lt (dR HO204.out))) (Kd.R_lt (dR HO209.out))) (below_size dB)); replace HO201 := oE HO201.out ho21 hb; replace HO204 := oE HO204.out ho21 hb; replace HO209 := oE HO209.out ho21 hb; replace HB := hS HB.out hb; clear hb ho21; obtain ⟨Ao22, co22, rfl⟩ := Kd.R_slice HO209.out; obtain ⟨Ao23, co23, rfl⟩ := Kd.R_slice HO212.out) | ((with_reducible refine gate_callee (f := 17) rfl ?_); refine gL (some 16) Tryd.func17 #[.bool true, .slice Ao22 y207.length co22, .slice Ao23 y210.length co23, .int .i64 0] ?_; (with_reducible refine (near_Quotient.calls k true _ _ y207 _ _ y210 0 t213 t214 _ ?side1 (Kd.R_reads' HO209.out).2.1 ?side3 (Kd.R_reads' HO212.out).2.1 A2.out).mono ?_); (case side1 => exact dC (Kd.R_reads' HO209.out).2.2); (case side3 => exact dC (Kd.R_reads' HO212.out).2.2); rintro e w24 ⟨rfl, hb⟩; refine ⟨_, rfl, ?_⟩; replace HO201 := oB HO201.out hb; replace HO204 := oB HO204.out hb; replace HO209 := oB HO209.out hb; replace HO212 := oB HO212.out hb; replace HB := hS HB.out hb; (try clear hb)) | ((with_reducible refine gate_dst (N := 20) rfl ?_); refine Kd.R_lit (Kd.int .u64) _ 26 ?hg (N := 20) ?hd (xs := ([1] : List Int)) (inner := [.int .u64 1]) (ok := fun _ => True) (okp := fun _ => True) ?hr ?hp (fun _ hk => hk) trivial (Below.refl _ _) (Nat.le_refl _) (by simp) ?_; (case hd => rfl); (case hg => rfl); (case hr => first | (go_simp; done) | (go_simp; rfl)); (case hp => exact (Reps.one (show Kd.M (Kd.int .u64) _ _ _ 1 [.int .u64 1] from rfl) (Reps.none _ _))); intro v216 w25 ho26 hb hg_ hnew_; clear hg_ hnew_; (first | rw [← Ny215.out] at ho26 | (simp only [Int.reduceToNat] at ho26; rw [← Ny215.out] at ho26)); have HO217 := aM (Kd.R_lower (Kd.R_new' (Kd.R_new' (Kd.R_new' (Kd.R_new' ho26 (Kd.R_lt (dR HO201.out))) (Kd.R_lt (dR HO204.out))) (Kd.R_lt (dR HO209.out))) (Kd.R_lt (dR HO212.out))) (below_size dB)); replace HO201 := oE HO201.out ho26 hb; replace HO204 := oE HO204.out ho26 hb; replace HO209 := oE HO209.out ho26 hb; replace HO212 := oE HO212.out ho26 hb; replace HB := hS HB.out hb; clear hb ho26; obtain ⟨Ao27, co27, rfl⟩ := Kd.R_slice HO217.out) | ((with_reducible refine gate_callee (f := 17) rfl ?_); refine gL (some 21) Tryd.func17 #[.bool false, .slice Ao27 y215.length co27, .slice none 0 0, .int .i64 0] ?_; (refine (near_Quotient.calls k false _ _ y215 _ _ ([] : List Int) 0 t218 t219 _ ?side1 (Kd.R_reads' HO217.out).2.1 ?side3 ?side4 A3.out).mono ?_); (case side1 => exact dC (Kd.R_reads' HO217.out).2.2); (case side3 => exact Kd.C_nil _ _); (case side4 => exact Nat.le_refl _); rintro e w28 ⟨rfl, hb⟩; refine ⟨_, rfl, ?_⟩; replace HO201 := oB HO201.out hb; replace HO204 := oB HO204.out hb; replace HO209 := oB HO209.out hb; replace HO212 := oB HO212.out hb; replace HO217 := oB HO217.out hb; replace HB := hS HB.out hb; (try clear hb)) | ((with_reducible refine gate_callee (f := 15) rfl ?_); refine gL (some 25) Tryd.func15 #[.int .i64 t206] ?_; (with_reducible refine (plumblaw07_num.calls t206 t220 _ A4.out).mono ?_); rintro e w' ⟨rfl, ⟨nd, rfl⟩⟩; refine ⟨_, rfl, ?_⟩) | (go_at_call 15; (with_reducible refine (plumblaw07_num.calls t214 t221 _ A6.out).mono ?_); rintro e w' ⟨rfl, ⟨nd, rfl⟩⟩) | (go_at_call 15; (with_reducible refine (plumblaw07_num.calls t219 t222 _ A10.out).mono ?_); rintro e w' ⟨rfl, ⟨nd, rfl⟩⟩))
 first | go_ret | (refine bodyPost_ret ?ghr ?ghd ?_; (case ghr => exact results_tmp rfl _ _ _); (case ghd => rfl))
 exact ⟨dE, dB⟩
def nat_bound.f (k : Nat) (l0 : List Int) : Option (List Int × Int) := (nat_size.f k l0).bind fun t223 => (if t223 ≤ 4096 then (if 0 ≤ t223 then (if t223 ≤ (l0.length : Int) then (some ((l0.take (t223 : Int).toNat), 0)) else (none)) else (none)) else (some (([] : List Int), 21)))
set_option maxHeartbeats 8000000 in
set_option maxRecDepth 100000 in
theorem nat_bound.calls (k : Nat) (P0_ : Nat → Prop) (u9000_ : Value) (l0 : List Int) (r1 : List Int) (r2 : Int) (w0 w : World) (hB : Below w0.heap.size w0 w) (ho0 : Kd.R (Kd.int .u64) 26 w w0.heap.size P0_ u9000_ l0) (h : nat_bound.f k l0 = some (r1, r2)) :
  Calls Tryd.prog 56 #[u9000_] w fun e w' => ∃ v0_ : Value, e = .returned (.tuple #[v0_, .int .i64 r2]) ∧ Kd.R (Kd.int .u64) 26 w' w0.heap.size (fun k_ => (P0_ k_ ∨ w.heap.size ≤ k_)) v0_ r1 ∧ Below w0.heap.size w0 w' ∧ Kept w w' (fun k_ => P0_ k_) := by
 have HO0 := aM (show Kd.R (Kd.int .u64) 26 w w0.heap.size (fun k_ => (P0_ k_ ∨ w.heap.size ≤ k_)) u9000_ l0 from Kd.R_mono ho0 (fun k_ hk => (.inl hk)))
 have HK := aM (Kept.refl w (fun k_ => P0_ k_))
 have HW0 := aM hB.size
 have HB := aM hB
 clear hB
 have H := h
 clear h
 unfold nat_bound.f at H
 replace H := oA H
 obtain ⟨t223, A2, H⟩ := H
 (try dsimp only at H)
 by_cases c3 : t223 ≤ 4096
 ·rw [if_pos c3] at H
  have c3b0 := decide_eq_true c3
  clear c3
  replace H := nO H
  obtain ⟨c4, H⟩ := H
  have c4b0 := eq_true c4
  have c4b1 : decide (0 ≤ t223) = true := decide_eq_true c4
  clear c4
  replace H := nO H
  obtain ⟨c5, H⟩ := H
  have c5b0 := eq_true c5
  have c5b1 := decide_eq_true c5
  clear c5
  obtain ⟨y224, hy224⟩ : ∃ y_ : List Int, y_ = (l0.take (t223 : Int).toNat) := ⟨_, rfl⟩
  replace H : (some (y224, 0)) = some (r1, r2) := by first | (rw [hy224]; with_reducible exact H) | (have H2_ := (Option.bind_some _ _).symm.trans H; rw [hy224]; with_reducible exact H2_) | (have H2_ := (Option.bind_some _ _).symm.trans H; with_reducible exact H2_) | with_reducible exact H | (rw [hy224]; exact H) | exact H
  have Ny224 := aM hy224
  clear hy224
  simp only [Option.some.injEq, Prod.mk.injEq] at H
  obtain ⟨rfl, rfl⟩ := H
  obtain ⟨Ao6, co6, rfl⟩ := Kd.R_slice HO0.out
  go_enter Tryd.func56, Tryd.ntmps56
  go_wp2_with (first | ((with_reducible refine gate_callee (f := 54) rfl ?_); refine gL (some 6) Tryd.func54 #[.slice Ao6 l0.length co6] ?_; (with_reducible refine (nat_size.calls k _ _ l0 t223 _ ?side1 (Kd.R_reads' HO0.out).2.1 A2.out).mono ?_); (case side1 => exact dC (Kd.R_reads' HO0.out).2.2); rintro e w' ⟨rfl, ⟨nd, rfl⟩⟩; refine ⟨_, rfl, ?_⟩; have q7 : (t223 : Int) ≤ ((l0.length : Int) : Int) := of_decide_eq_true dS; obtain ⟨i07, hi07, _, hsz7, _⟩ := info_parts info26; have hcut7 := cut_to3 (P := Tryd.prog) 22 26 .i64 .i64 Tryd.underlying22 hi07 Ao6 l0.length co6 t223 (of_decide_eq_true dS) q7 (Kd.R_reads' HO0.out).2.1; have hr7 := Kd.R_take3 (m := (t223 : Int).toNat) HO0.out (by omega); have hy7 : y224.length = (t223 : Int).toNat := (by rw [Ny224.out, List.length_take]; omega); rw [← Ny224.out] at hr7; rw [← hy7] at hr7 hcut7; clear hy7 hi07 hsz7 HO0; have HO226 := aM hr7; clear hr7; replace q7 := eq_true q7))
  go_ret2
  exact ⟨_, dE, dR HO226.out, dB, by repeat (first | (with_reducible first | exact HK.out | apply Kept.alloc | apply Kept.drewN | apply Kept.drew) | exact HK.out)⟩
 ·rw [if_neg c3] at H
  have c3b0 := decide_eq_false c3
  clear c3
  simp only [Option.some.injEq, Prod.mk.injEq] at H
  obtain ⟨rfl, rfl⟩ := H
  obtain ⟨Ao8, co8, rfl⟩ := Kd.R_slice HO0.out
  go_enter Tryd.func56, Tryd.ntmps56
  go_wp2_with (first | ((with_reducible refine gate_callee (f := 54) rfl ?_); refine gL (some 6) Tryd.func54 #[.slice Ao8 l0.length co8] ?_; (with_reducible refine (nat_size.calls k _ _ l0 t223 _ ?side1 (Kd.R_reads' HO0.out).2.1 A2.out).mono ?_); (case side1 => exact dC (Kd.R_reads' HO0.out).2.2); rintro e w' ⟨rfl, ⟨nd, rfl⟩⟩; refine ⟨_, rfl, ?_⟩))
  go_ret2
  exact ⟨_, dE, by first | exact Kd.R_nil _ _ _ _ _ | exact Kd.N_nil _ _ _ _ _ | exact Kd.V_nil _ _ _ _ _ | exact Kd.Q_nil _ _ _ _ _ | exact Kd.S_nil _ _ _ _ _, dB, by repeat (first | (with_reducible first | exact HK.out | apply Kept.alloc | apply Kept.drewN | apply Kept.drew) | exact HK.out)⟩
def cpyAt (xs ys : List Int) (q : Nat) : List Int := xs.take q ++ (ys.take (min ys.length (xs.length - q)) ++ xs.drop (q + min ys.length (xs.length - q)))
theorem cpyAt_length {xs ys : List Int} {q : Nat} (h : q ≤ xs.length) : (cpyAt xs ys q).length = xs.length := by
 unfold cpyAt
 rw [List.length_append, List.length_append, List.length_take, List.length_take, List.length_drop]
 omega
theorem shl_copied {yq y z : List Int} {q : Nat} (hl : yq.length = y.length) (h : y = cpyAt yq z q) :
  yq.take q ++ (z.take (min z.length (y.length - q)) ++ yq.drop (q + min z.length (y.length - q))) = y := by
 rw [← hl]
 conv => rhs; rw [h]
 rfl
def nat_Shl.l0 : Nat → Int → List Int → Int → Int → Option (List Int × Int)
 | 0, _, _, _, _ => none
 | k + 1, x1, x6, x7, x8 => if x8 > (wrap64 (Int.tdiv x1 64)) then (if 0 ≤ x8 then (if x8 < (x6.length : Int) then (if 0 ≤ (wrap64 (x8 - 1)) then (if (wrap64 (x8 - 1)) < (x6.length : Int) then ((wide_Shl.f (rd x6 x8) (rd x6 (wrap64 (x8 - 1))) x7).bind fun bt118 => (nat_Shl.l0 k x1 (x6.set (x8 : Int).toNat bt118.1) x7 (wrap64 (x8 - 1)))) else (none)) else (none)) else (none)) else (none)) else (if 0 ≤ (wrap64 (Int.tdiv x1 64)) then (if (wrap64 (Int.tdiv x1 64)) < (x6.length : Int) then (if 0 ≤ x7 then ((nat_bound.f k (x6.set ((wrap64 (Int.tdiv x1 64)) : Int).toNat (shl .u64 (rd x6 (wrap64 (Int.tdiv x1 64))) x7))).bind fun bt123 => (some (bt123.1, bt123.2))) else (none)) else (none)) else (none))
def nat_Shl.f (k : Nat) (l0 : List Int) (a1 : Int) : Option (List Int × Int) := (nat_size.f k l0).bind fun t110 => (if 0 ≤ t110 then (if t110 ≤ (l0.length : Int) then (if a1 < 0 then (some (([] : List Int), 22)) else (if ((l0.take (t110 : Int).toNat).length : Int) = 0 then (some (([] : List Int), 0)) else ((nat_Bits.f k (l0.take (t110 : Int).toNat)).bind fun t112 => (if a1 > (wrap64 (262144 - t112)) then (some (([] : List Int), 21)) else (if 0 ≤ (wrap64 ((wrap64 ((wrap64 (Int.tdiv a1 64)) + ((l0.take (t110 : Int).toNat).length : Int))) + 1)) then (if ((wrap64 ((wrap64 ((wrap64 (Int.tdiv a1 64)) + ((l0.take (t110 : Int).toNat).length : Int))) + 1) : Int).toNat ≤ 35184372088832 ∧ 0 ≤ (wrap64 (Int.tdiv a1 64)) ∧ (wrap64 (Int.tdiv a1 64)).toNat ≤ (wrap64 ((wrap64 ((wrap64 (Int.tdiv a1 64)) + ((l0.take (t110 : Int).toNat).length : Int))) + 1) : Int).toNat) then ((some (cpyAt (List.replicate (wrap64 ((wrap64 ((wrap64 (Int.tdiv a1 64)) + ((l0.take (t110 : Int).toNat).length : Int))) + 1) : Int).toNat 0) (l0.take (t110 : Int).toNat) (wrap64 (Int.tdiv a1 64)).toNat : List Int)).bind fun y113 => (if (Int.tmod a1 64) > 0 then (nat_Shl.l0 k a1 y113 (Int.tmod a1 64) (wrap64 ((y113.length : Int) - 1))) else ((nat_bound.f k y113).bind fun bt127 => (some (bt127.1, bt127.2))))) else (none)) else (none)))))) else (none)) else (none))
def nat_Shl.T15 : Bool × List (List Nat × List Nat) := (true, [([], []), ([], []), ([], []), ([], []), ([2, 3], [2, 3]), ([4], [4]), ([], []), ([], []), ([7], [7]), ([6, 8], [6, 8]), ([9], [9]), ([], []), ([5, 10, 11], [5, 10, 11]), ([12], [12]), ([13], [13]), ([13], [13]), ([0, 1, 0, 1, 2, 3, 4, 5, 6, 7, 8, 9, 10, 11, 12, 13, 14], [0, 1]), ([16, 14, 12, 0, 1, 2, 3, 4, 5, 6, 7, 8, 9, 10, 11, 12, 13, 14], [14, 16])])
def nat_Shl.B15 : List Nat := [0, 0, 0, 0, 12, 28, 0, 0, 128, 448, 960, 0, 4092, 8188, 16380, 16380, 32767, 98303]
theorem nat_Shl.tab15 : rtab .any (opsOf Tryd.f21 15) = nat_Shl.T15 := by kernel_rfl
theorem nat_Shl.bits15 : waitsOk nat_Shl.T15.2 nat_Shl.B15 = true := by kernel_rfl
set_option maxHeartbeats 8000000 in
set_option maxRecDepth 100000 in
theorem nat_Shl.calls (k : Nat) (A0 : Option Addr) (c0 : Nat) (l0 : List Int) (a1 : Int) (r1 : List Int) (r2 : Int) (w : World) (hr0 : Kd.C (Kd.int .u64) w A0 l0.length l0) (hc0 : l0.length ≤ c0) (h : nat_Shl.f k l0 a1 = some (r1, r2)) :
  Calls Tryd.prog 21 #[.slice A0 l0.length c0, .int .i64 a1] w fun e w' => ∃ v0_ : Value, e = .returned (.tuple #[v0_, .int .i64 r2]) ∧ Kd.R (Kd.int .u64) 26 w' w.heap.size (fun _ => True) v0_ r1 ∧ Below w.heap.size w w' := by
 have HR0 := aM hr0
 have HC0 := aM hc0
 clear hr0 hc0
 have HB := aM (Below.refl w.heap.size w)
 have H := h
 clear h
 unfold nat_Shl.f at H
 replace H := oA H
 obtain ⟨t110, A3, H⟩ := H
 (try dsimp only at H)
 replace H := nO H
 obtain ⟨c4, H⟩ := H
 have c4b0 := eq_true c4
 have c4b1 : decide (0 ≤ t110) = true := decide_eq_true c4
 clear c4
 replace H := nO H
 obtain ⟨c5, H⟩ := H
 have c5b0 := eq_true c5
 have c5b1 := decide_eq_true c5
 clear c5
 obtain ⟨z110, Nz1100⟩ : ∃ z_ : List Int, (l0.take (t110 : Int).toNat) = z_ := ⟨_, rfl⟩
 rw [Nz1100] at H
 have Nz110 := aM Nz1100
 clear Nz1100
 by_cases c6 : a1 < 0
 ·rw [if_pos c6] at H
  have c6b0 := decide_eq_true c6
  clear c6
  simp only [Option.some.injEq, Prod.mk.injEq] at H
  obtain ⟨rfl, rfl⟩ := H
  go_enter Tryd.func21, Tryd.ntmps21
  go_wp2_with (first | ((with_reducible refine gate_callee (f := 54) rfl ?_); refine gL (some 11) Tryd.func54 #[.slice A0 l0.length c0] ?_; (with_reducible refine (nat_size.calls k _ _ l0 t110 _ ?side1 HC0.out A3.out).mono ?_); (case side1 => exact dC HR0.out); rintro e w' ⟨rfl, ⟨nd, rfl⟩⟩; refine ⟨_, rfl, ?_⟩; obtain ⟨i07, hi07, _, hsz7, _⟩ := info_parts info26; obtain ⟨hcut7, hA7, hC7⟩ := print_take_of (P := Tryd.prog) (Value.int .u64) 0 22 26 .i64 Tryd.underlying22 hi07 hsz7 A0 c0 l0 t110 (of_decide_eq_true dS) (of_decide_eq_true dS) HC0.out; rw [Nz110.out] at hcut7 hA7 hC7; have HR111 := aM (Kd.C_of_reads (h1 := fun _ => rfl) (hA7 _ (Kd.reads_of_C HR0.out))); have HC111 := aM hC7; clear hA7 hC7 hi07 hsz7))
  go_ret2
  exact ⟨_, dE, by first | exact Kd.R_nil _ _ _ _ _ | exact Kd.N_nil _ _ _ _ _ | exact Kd.V_nil _ _ _ _ _ | exact Kd.Q_nil _ _ _ _ _ | exact Kd.S_nil _ _ _ _ _, dB⟩
 ·rw [if_neg c6] at H
  have c6b0 := decide_eq_false c6
  clear c6
  by_cases c8 : (z110.length : Int) = 0
  ·rw [if_pos c8] at H
   obtain ⟨c8b0, c8b1⟩ := bT c8
   clear c8
   simp only [Option.some.injEq, Prod.mk.injEq] at H
   obtain ⟨rfl, rfl⟩ := H
   go_enter Tryd.func21, Tryd.ntmps21
   go_wp2_with (first | ((with_reducible refine gate_callee (f := 54) rfl ?_); refine gL (some 11) Tryd.func54 #[.slice A0 l0.length c0] ?_; (with_reducible refine (nat_size.calls k _ _ l0 t110 _ ?side1 HC0.out A3.out).mono ?_); (case side1 => exact dC HR0.out); rintro e w' ⟨rfl, ⟨nd, rfl⟩⟩; refine ⟨_, rfl, ?_⟩; obtain ⟨i09, hi09, _, hsz9, _⟩ := info_parts info26; obtain ⟨hcut9, hA9, hC9⟩ := print_take_of (P := Tryd.prog) (Value.int .u64) 0 22 26 .i64 Tryd.underlying22 hi09 hsz9 A0 c0 l0 t110 (of_decide_eq_true dS) (of_decide_eq_true dS) HC0.out; rw [Nz110.out] at hcut9 hA9 hC9; have HR111 := aM (Kd.C_of_reads (h1 := fun _ => rfl) (hA9 _ (Kd.reads_of_C HR0.out))); have HC111 := aM hC9; clear hA9 hC9 hi09 hsz9))
   go_ret2
   exact ⟨_, dE, by first | exact Kd.R_nil _ _ _ _ _ | exact Kd.N_nil _ _ _ _ _ | exact Kd.V_nil _ _ _ _ _ | exact Kd.Q_nil _ _ _ _ _ | exact Kd.S_nil _ _ _ _ _, dB⟩
  ·rw [if_neg c8] at H
   obtain ⟨c8b0, c8b1⟩ := bF c8
   have c8b2 : ¬ (z110 = []) := fun h_ => c8 (by rw [h_]; rfl)
   replace H := oA H
   obtain ⟨t112, A10, H⟩ := H
   (try dsimp only at H)
   by_cases c11 : a1 > (wrap64 (262144 - t112))
   ·rw [if_pos c11] at H
    have c11b0 : decide ((wrap64 (262144 - t112)) < a1) = true := decide_eq_true c11
    clear c11
    simp only [Option.some.injEq, Prod.mk.injEq] at H
    obtain ⟨rfl, rfl⟩ := H
    go_enter Tryd.func21, Tryd.ntmps21
    go_wp2_with (first | ((with_reducible refine gate_callee (f := 54) rfl ?_); refine gL (some 11) Tryd.func54 #[.slice A0 l0.length c0] ?_; (with_reducible refine (nat_size.calls k _ _ l0 t110 _ ?side1 HC0.out A3.out).mono ?_); (case side1 => exact dC HR0.out); rintro e w' ⟨rfl, ⟨nd, rfl⟩⟩; refine ⟨_, rfl, ?_⟩; obtain ⟨i012, hi012, _, hsz12, _⟩ := info_parts info26; obtain ⟨hcut12, hA12, hC12⟩ := print_take_of (P := Tryd.prog) (Value.int .u64) 0 22 26 .i64 Tryd.underlying22 hi012 hsz12 A0 c0 l0 t110 (of_decide_eq_true dS) (of_decide_eq_true dS) HC0.out; rw [Nz110.out] at hcut12 hA12 hC12; have HR111 := aM (Kd.C_of_reads (h1 := fun _ => rfl) (hA12 _ (Kd.reads_of_C HR0.out))); have HC111 := aM hC12; clear hA12 hC12 hi012 hsz12) | ((with_reducible refine gate_callee (f := 43) rfl ?_); refine goesL_ (some 23) rfl rfl Tryd.func43 (by kernel_rfl) rfl #[.slice A0 z110.length c0] rfl (by (try simp only [List.map_toArray, List.map_cons, List.map_nil]); first | done | (rw [show z110.length = t110.toNat from (by rw [← Nz110.out, List.length_take]; have h_ : (t110 : Int) ≤ (l0.length : Int) := of_decide_eq_true dS; omega)] <;> rfl) | rfl | (simp only [List.length_drop, List.length_take]; rfl)) ?_; (with_reducible refine (nat_Bits.calls k _ _ z110 t112 _ ?side1 HC111.out A10.out).mono ?_); (case side1 => exact dC HR111.out); rintro e w' ⟨rfl, ⟨nd, rfl⟩⟩; refine ⟨_, rfl, ?_⟩))
    go_ret2
    exact ⟨_, dE, by first | exact Kd.R_nil _ _ _ _ _ | exact Kd.N_nil _ _ _ _ _ | exact Kd.V_nil _ _ _ _ _ | exact Kd.Q_nil _ _ _ _ _ | exact Kd.S_nil _ _ _ _ _, dB⟩
   ·rw [if_neg c11] at H
    have c11b0 : decide ((wrap64 (262144 - t112)) < a1) = false := decide_eq_false c11
    clear c11
    obtain ⟨ji13, hji13⟩ : ∃ j_ : Int, (wrap64 ((wrap64 ((wrap64 (Int.tdiv a1 64)) + (z110.length : Int))) + 1)) = j_ := ⟨_, rfl⟩
    first | rw [hji13] at H | simp only [hji13] at H
    (try rw [hji13] at A3)
    (try rw [hji13] at A10)
    have hji13w : (IntKind.i64.wrap ((wrap64 ((wrap64 (Int.tdiv a1 64)) + (z110.length : Int))) + 1)) = ji13 := (i64_w _).trans hji13
    replace H := nO H
    obtain ⟨c14, H⟩ := H
    have c14b0 := eq_true c14
    have c14b1 : decide (0 ≤ (ji13)) = true := decide_eq_true c14
    clear c14
    replace H := nO H
    obtain ⟨c15, H⟩ := H
    obtain ⟨c15, cq0, cq1⟩ := c15
    have c15b0 := eq_true c15
    have c15b1 : decide ((ji13 : Int).toNat ≤ 35184372088832) = true := decide_eq_true c15
    clear c15
    obtain ⟨yq, hyq⟩ : ∃ y_ : List Int, y_ = (List.replicate (ji13 : Int).toNat 0) := ⟨_, rfl⟩
    have ylq : yq.length = (ji13 : Int).toNat := by rw [hyq, List.length_replicate]
    rw [← hyq] at H
    have Nyq := aM hyq
    clear hyq
    obtain ⟨y113, hy113⟩ : ∃ y_ : List Int, y_ = (cpyAt yq z110 (wrap64 (Int.tdiv a1 64)).toNat) := ⟨_, rfl⟩
    have yl113 : yq.length = y113.length := by rw [hy113, cpyAt_length (by omega)]
    have cq2 : (wrap64 (Int.tdiv a1 64)) ≤ (y113.length : Int) := by omega
    have Cq := aM (And.intro cq0 (And.intro cq2 (And.intro yl113 hy113)))
    clear cq0 cq1 cq2 ylq yl113
    replace H : (if (Int.tmod a1 64) > 0 then (nat_Shl.l0 k a1 y113 (Int.tmod a1 64) (wrap64 ((y113.length : Int) - 1))) else ((nat_bound.f k y113).bind fun bt127 => (some (bt127.1, bt127.2)))) = some (r1, r2) := by first | (rw [hy113]; with_reducible exact H) | (have H2_ := (Option.bind_some _ _).symm.trans H; rw [hy113]; with_reducible exact H2_) | (have H2_ := (Option.bind_some _ _).symm.trans H; with_reducible exact H2_) | with_reducible exact H | (rw [hy113]; exact H) | exact H
    have Ny113 := aM hy113
    clear hy113
    by_cases c16 : (Int.tmod a1 64) > 0
    ·rw [if_pos c16] at H
     have c16b0 : decide (0 < (Int.tmod a1 64)) = true := decide_eq_true c16
     clear c16
     have H' := aM H
     clear H
     go_enter Tryd.func21, Tryd.ntmps21
     go_wp2_with (first | ((with_reducible refine gate_callee (f := 54) rfl ?_); refine gL (some 11) Tryd.func54 #[.slice A0 l0.length c0] ?_; (with_reducible refine (nat_size.calls k _ _ l0 t110 _ ?side1 HC0.out A3.out).mono ?_); (case side1 => exact dC HR0.out); rintro e w' ⟨rfl, ⟨nd, rfl⟩⟩; refine ⟨_, rfl, ?_⟩; obtain ⟨i017, hi017, _, hsz17, _⟩ := info_parts info26; obtain ⟨hcut17, hA17, hC17⟩ := print_take_of (P := Tryd.prog) (Value.int .u64) 0 22 26 .i64 Tryd.underlying22 hi017 hsz17 A0 c0 l0 t110 (of_decide_eq_true dS) (of_decide_eq_true dS) HC0.out; rw [Nz110.out] at hcut17 hA17 hC17; have HR111 := aM (Kd.C_of_reads (h1 := fun _ => rfl) (hA17 _ (Kd.reads_of_C HR0.out))); have HC111 := aM hC17; clear hA17 hC17 hi017 hsz17) | ((with_reducible refine gate_callee (f := 43) rfl ?_); refine goesL_ (some 23) rfl rfl Tryd.func43 (by kernel_rfl) rfl #[.slice A0 z110.length c0] rfl (by (try simp only [List.map_toArray, List.map_cons, List.map_nil]); first | done | (rw [show z110.length = t110.toNat from (by rw [← Nz110.out, List.length_take]; have h_ : (t110 : Int) ≤ (l0.length : Int) := of_decide_eq_true dS; omega)] <;> rfl) | rfl | (simp only [List.length_drop, List.length_take]; rfl)) ?_; (with_reducible refine (nat_Bits.calls k _ _ z110 t112 _ ?side1 HC111.out A10.out).mono ?_); (case side1 => exact dC HR111.out); rintro e w' ⟨rfl, ⟨nd, rfl⟩⟩; refine ⟨_, rfl, ?_⟩) | ((with_reducible refine gate_dst (N := 32) rfl ?_); refine Kd.R_make (Kd.int .u64) _ 26 rfl (N := 32) rfl 22 _ _ rfl ji13 rfl rfl Tryd.underlying22 (.int .u64 0) 8 info26 rfl (by decide) (by omega) 0 (ok := fun _ => True) (okp := fun _ => True) rfl (fun _ hk => hk) trivial (of_decide_eq_true dS) (Nat.le_trans (Nat.mul_le_mul_right _ (of_decide_eq_true dS : ji13.toNat ≤ 35184372088832)) (by omega)) (Below.refl _ _) (Nat.le_refl _) ?_; intro v114 w18 ho19 hb hg_ hnew_; clear hg_ hnew_; rw [← Nyq.out] at ho19; have HO115 := aM (Kd.R_lower ho19 (below_size dB)); replace HB := hS HB.out hb; clear hb ho19; obtain ⟨Ao20, co20, eo20⟩ := Kd.R_slice HO115.out; rw [Cq.out.2.2.1] at eo20; subst eo20; obtain ⟨i0q, hi0q, _, hszq, _⟩ := info_parts info26; have hcutq := cut_from (P := Tryd.prog) 22 26 .i64 Tryd.underlying22 hi0q 1 hszq Ao20 y113.length co20 (wrap64 (Int.tdiv a1 64)) Cq.out.1 Cq.out.2.1; clear hi0q hszq; obtain ⟨Aq, hAq⟩ : ∃ A_ : Option Addr, A_ = (if co20 = (wrap64 (Int.tdiv a1 64)).toNat then Ao20 else Ao20.map (·.add ((wrap64 (Int.tdiv a1 64)).toNat * 1))) := ⟨_, rfl⟩; rw [← hAq] at hcutq; have NAq := aM hAq; clear hAq) | ((with_reducible refine gate_dst (N := 38) rfl ?_); refine Kd.R_copy_at (enc := Value.int .u64) (h1 := fun _ => rfl) (0 : Int) w.heap.size rfl (.tmp 36) (.tmp 37) 22 22 26 rfl Tryd.underlying22 (by kernel_rfl) Ao20 co20 (wrap64 (Int.tdiv a1 64)).toNat y113.length yq z110 Cq.out.2.2.1 A0 z110.length c0 (fun _ => True) Aq NAq.out rfl rfl (by have := Cq.out.2.1; have := Cq.out.1; omega) HO115.out ?hcr HB.out HB.out.size ?_; (case hcr => exact Kd.C_below HR111.out HB.out); intro wq hoq hbq _; rw [shl_copied Cq.out.2.2.1 Cq.out.2.2.2] at hoq; clear HO115; have HO115 := aM hoq; clear HB; have HB := aM hbq; clear hoq hbq hcutq))
     go_loopg [8] k (fun kq v8 w' => ∃ (x6_1 : List Int) (x8_1 : Int), v8 = .int .i64 x8_1 ∧ Aside0 (nat_Shl.l0 kq a1 x6_1 (Int.tmod a1 64) x8_1 = some (r1, r2)) ∧ Aside0 (kq ≤ k) ∧ Aside0 (Kd.R (Kd.int .u64) 26 w' w.heap.size (fun _ => True) (.slice Ao20 y113.length co20) x6_1) ∧ Aside0 (Below w.heap.size w w'))
     case atStart => exact ⟨(y113), (wrap64 ((y113.length : Int) - 1)), dF, H', ⟨Nat.le_refl _⟩, ⟨dR HO115.out⟩, ⟨dB⟩⟩
     case round =>
      clear H'
      try clear c4
      try clear c4b0 c4b1
      try clear c5
      try clear c5b0 c5b1
      try clear c6
      try clear c6b0
      try clear c8
      try clear c8b0 c8b1
      try clear c8b2
      try clear c11
      try clear c11b0
      try clear c14
      try clear c14b0 c14b1
      try clear c15
      try clear Cq
      try clear Nyq
      try clear Ny113
      try clear c15b0 c15b1
      try clear c16
      try clear c16b0
      obtain ⟨x6_1, x8_1, rfl, HA, HK1, HO_6, HB⟩ := hrel
      have hl6_1 := (Kd.R_reads' HO_6.out).1
      rw [hl6_1] at HO_6
      (try simp only [hl6_1])
      cases gk with
      | zero => exact absurd HA.out (by simp [nat_Shl.l0])
      | succ k1 =>
       have H := HA.out
       clear HA
       simp only [nat_Shl.l0] at H
       by_cases c21 : x8_1 > (wrap64 (Int.tdiv a1 64))
       ·rw [if_pos c21] at H
        have c21b0 : decide ((wrap64 (Int.tdiv a1 64)) < x8_1) = true := decide_eq_true c21
        clear c21
        replace H := nO H
        obtain ⟨c22, H⟩ := H
        have c22b0 : decide (0 ≤ x8_1) = true := decide_eq_true c22
        clear c22
        replace H := nO H
        obtain ⟨c23, H⟩ := H
        have c23b0 := decide_eq_true c23
        clear c23
        obtain ⟨ji24, hji24⟩ : ∃ j_ : Int, (wrap64 (x8_1 - 1)) = j_ := ⟨_, rfl⟩
        first | rw [hji24] at H | simp only [hji24] at H
        have hji24w : (IntKind.i64.wrap (x8_1 - 1)) = ji24 := (i64_w _).trans hji24
        replace H := nO H
        obtain ⟨c25, H⟩ := H
        have c25b0 : decide (0 ≤ (ji24)) = true := decide_eq_true c25
        clear c25
        replace H := nO H
        obtain ⟨c26, H⟩ := H
        have c26b0 := decide_eq_true c26
        clear c26
        replace H := oA H
        obtain ⟨⟨t118, t119⟩, A27, H⟩ := H
        (try dsimp only at H)
        obtain ⟨y120, hy120⟩ : ∃ y_ : List Int, y_ = (x6_1.set (x8_1 : Int).toNat t118) := ⟨_, rfl⟩
        replace H : (nat_Shl.l0 k1 a1 y120 (Int.tmod a1 64) ji24) = some (r1, r2) := by first | (rw [hy120]; with_reducible exact H) | (have H2_ := (Option.bind_some _ _).symm.trans H; rw [hy120]; with_reducible exact H2_) | (have H2_ := (Option.bind_some _ _).symm.trans H; with_reducible exact H2_) | with_reducible exact H | (rw [hy120]; exact H) | exact H
        have Ny120 := aM hy120
        clear hy120
        have H' := aM H
        clear H
        try go_wp2
        replace HO_6 := aM (Kd.R_drew HO_6.out)
        replace HB := aM (below_drew1 HB.out)
        have p116 : 0 ≤ (x8_1 : Int) := of_decide_eq_true dS
        have q116 : x8_1 < (x6_1.length : Int) := of_decide_eq_true dS
        obtain ⟨ad116, e116, hx116_0⟩ := Kd.at_int (Kd.R_reads' HO_6.out).2.2 x8_1 p116 q116
        cases e116
        replace p116 := eq_true p116
        replace q116 := eq_true q116
        have p117 : 0 ≤ ((ji24) : Int) := of_decide_eq_true dS
        have q117 : (ji24) < (x6_1.length : Int) := of_decide_eq_true dS
        obtain ⟨ad117, e117, hx117_0⟩ := Kd.at_int (Kd.R_reads' HO_6.out).2.2 (ji24) p117 q117
        obtain rfl : ad116 = ad117 := (by injection e117)
        replace p117 := eq_true p117
        replace q117 := eq_true q117
        refine start_ (n := 18) (S := fun w' => w'.cell? (ad116.add (x8_1).toNat) = some (.int .u64 (rd x6_1 x8_1)) ∧ w'.cell? (ad116.add ((ji24)).toNat) = some (.int .u64 (rd x6_1 (ji24)))) (ds := [17]) #[false, false, false, false, false, false, false, false, false, false, false, false, false, false, false, false, false, false] (by kernel_rfl) rfl rfl ⟨hx116_0, hx117_0⟩ (fun hHeld => ?_); refine with_tabW nat_Shl.tab15 nat_Shl.bits15 (fun HT_ HW_ => ?_)
        generalize wr.drew = w29 at HO_6 HB hx116_0 hx117_0 hHeld ⊢
        refine pP 0 (some 53) ?_
        refine pP 1 (some 54) ?_
        refine pP 2 (some 55) ?_
        refine pP 3 (some 56) ?_
        refine pP 4 (some 57) ?_
        refine pP 6 (some 59) ?_
        refine pP 7 (some 60) ?_
        refine pP 8 (some 61) ?_
        refine pP 9 (some 62) ?_
        refine pP 11 (some 64) ?_
        refine pH2 5 (some 58) hHeld ?_
        refine pH2 10 (some 63) hHeld ?_
        refine one_ (i := 12) (N := some 65) #[true, true, true, true, true, true, true, true, true, true, true, true, true, false, false, false, false, false] rfl rfl (one_of HT_.out (by kernel_rfl)) (by decide) (fun K hK => ?_)
        refine goes_ Tryd.func55 (by kernel_rfl) rfl #[.int .u64 (rd x6_1 x8_1), .int .u64 (rd x6_1 (ji24)), .int .i64 (Int.tmod a1 64)] (by rfl) rfl rfl (by (try simp only [List.map_toArray, List.map_cons, List.map_nil]); first | done | (simp only [hji24]; rfl) | rfl | (simp only [List.length_drop, List.length_take]; rfl)) ?_
        with_reducible refine (wide_Shl.calls (rd x6_1 x8_1) (rd x6_1 (ji24)) (Int.tmod a1 64) t118 t119 _ A27.out).mono ?_
        rintro e w30 ⟨rfl, hb⟩
        have HS0_ := (hb.cell (World.block_lt_of_cell? _ _ (hHeld.1))).trans (hHeld.1)
        have HS1_ := (hb.cell (World.block_lt_of_cell? _ _ (hHeld.2))).trans (hHeld.2)
        refine ⟨_, rfl, ?_⟩
        replace HO_6 := oB HO_6.out hb
        replace HB := hS HB.out hb
        (try clear hb)
        (try clear hb2)
        (try clear hk)
        (try clear hi)
        have p28 : 0 ≤ (x8_1 : Int) := of_decide_eq_true dS
        have q28 : (x8_1 : Int) < ((x6_1.length : Int) : Int) := of_decide_eq_true dS
        obtain ⟨go28, co28, eo28, gb28, gl28, cl28, HG28⟩ := Kd.R_form HO_6.out (by omega)
        (first | cases eo28 | (injection eo28 with ea_ en_ ec_; (first | subst ea_ | (injection ea_ with ea_; subst ea_)); subst ec_; clear en_))
        have GB28 := aM gb28
        have GG28 := aM HG28
        clear gb28 gl28 HG28
        (first | simp only [add_plain] at hx116_0 | skip)
        (first | simp only [add_plain] at hx117_0 | skip)
        obtain ⟨hx28_0, hf28_0⟩ := Kd.R_celln 0 HO_6.out (x8_1 : Int) p28 q28
        replace p28 := eq_true p28
        replace q28 := eq_true q28
        have HP31 := Kd.R_putn HO_6.out (x8_1 : Int) t118
        rw [← Ny120.out] at HP31
        have HQ31 := aM HP31
        clear HP31
        refine hK.out _ _ ⟨HS0_, HS1_⟩ (fun hHeld => ?_)
        clear hK K
        refine norm_ (a' := ?_) ?_ ?_
        rotate_left
        ·show Act.put _ (some 65) _ = _
         simp only [Act.put, List.setIfInBounds_toArray, List.set_cons_zero, List.set_cons_succ, i64_w, i32_w]
         rfl
        refine pP 13 (some 52) ?_
        refine pP 14 (some 66) ?_
        refine pP 15 (some 67) ?_
        refine pP 16 (some 68) ?_
        refine last_ (i := 17) (N := none) #[true, true, true, true, true, true, true, true, true, true, true, true, true, true, true, true, true, true] rfl rfl (one_of HT_.out (by kernel_rfl)) (by decide) (fun K hK => ?_)
        refine skip_ (w1 := ?_) (by rfl) rfl ?_ ?_
        rotate_left
        ·go_simp
         rfl
        refine hK.out _ _ ?_
        clear hK K
        refine done_ (done_of HT_.out (by kernel_rfl)) ?_
        try go_wp2
        (try simp only [← hl6_1])
        go_roundg k1
        case measure => have := HK1.out; omega
        case rel => exact ⟨(y120), (ji24), (by first | rfl | (simp; done) | (simp only [← hji24] <;> (first | rfl | simp)) | (simp [*]; done)), H', ⟨by have := HK1.out; omega⟩, ⟨by (try simp only [hl6_1]); (with_reducible repeat (first | apply Kd.R_alloc | apply Kd.R_drewN | apply Kd.R_drew)); exact HQ31.out⟩, ⟨by repeat (first | (with_reducible first | exact HB.out | apply below_alloc | apply pw_below_drewN | apply below_drew1 | refine below_set ?_ GB28.out) | exact HB.out)⟩⟩
       ·rw [if_neg c21] at H
        have c21b0 : decide ((wrap64 (Int.tdiv a1 64)) < x8_1) = false := decide_eq_false c21
        clear c21
        obtain ⟨ji32, hji32⟩ : ∃ j_ : Int, (wrap64 (Int.tdiv a1 64)) = j_ := ⟨_, rfl⟩
        first | rw [hji32] at H | simp only [hji32] at H
        (try rw [hji32] at c21b0)
        have hji32w : (IntKind.i64.wrap (Int.tdiv a1 64)) = ji32 := (i64_w _).trans hji32
        replace H := nO H
        obtain ⟨c33, H⟩ := H
        have c33b0 : decide (0 ≤ (ji32)) = true := decide_eq_true c33
        clear c33
        replace H := nO H
        obtain ⟨c34, H⟩ := H
        have c34b0 := decide_eq_true c34
        clear c34
        obtain ⟨ji35, hji35⟩ : ∃ j_ : Int, (Int.tmod a1 64) = j_ := ⟨_, rfl⟩
        first | rw [hji35] at H | simp only [hji35] at H
        (try rw [hji35] at c16b0)
        replace H := nO H
        obtain ⟨c36, H⟩ := H
        have c36b0 := eq_true c36
        have c36b1 : decide (0 ≤ (ji35)) = true := decide_eq_true c36
        clear c36
        obtain ⟨ji37, hji37⟩ : ∃ j_ : Int, (shl .u64 (rd x6_1 (ji32)) (ji35)) = j_ := ⟨_, rfl⟩
        first | rw [hji37] at H | simp only [hji37] at H
        have hji37_ : (IntKind.u64.wrap ((rd x6_1 (ji32)) * 2 ^ min (ji35).toNat 64)) = ji37 := hji37
        have hji37z : (ji35) ≤ 64 → (IntKind.u64.wrap ((rd x6_1 (ji32)) * 2 ^ (ji35).toNat)) = ji37 := shl_small hji37
        obtain ⟨y122, hy122⟩ : ∃ y_ : List Int, y_ = (x6_1.set ((ji32) : Int).toNat (ji37)) := ⟨_, rfl⟩
        replace H : ((nat_bound.f k1 y122).bind fun bt123 => (some (bt123.1, bt123.2))) = some (r1, r2) := by first | (rw [hy122]; with_reducible exact H) | (have H2_ := (Option.bind_some _ _).symm.trans H; rw [hy122]; with_reducible exact H2_) | (have H2_ := (Option.bind_some _ _).symm.trans H; with_reducible exact H2_) | with_reducible exact H | (rw [hy122]; exact H) | exact H
        have Ny122 := aM hy122
        clear hy122
        replace H := oA H
        obtain ⟨⟨t123, t126⟩, A39, H⟩ := H
        (try dsimp only at H)
        simp only [Option.some.injEq, Prod.mk.injEq] at H
        obtain ⟨rfl, rfl⟩ := H
        have p121 : 0 ≤ ((ji32) : Int) := of_decide_eq_true dS
        have q121 : (ji32) < (x6_1.length : Int) := of_decide_eq_true dS
        obtain ⟨ad121, e121, hx121_0⟩ := Kd.at_int (Kd.R_reads' HO_6.out).2.2 (ji32) p121 q121
        cases e121
        replace p121 := eq_true p121
        replace q121 := eq_true q121
        have p38 : 0 ≤ ((ji32) : Int) := of_decide_eq_true dS
        have q38 : ((ji32) : Int) < ((x6_1.length : Int) : Int) := of_decide_eq_true dS
        obtain ⟨go38, co38, eo38, gb38, gl38, cl38, HG38⟩ := Kd.R_form HO_6.out (by omega)
        (first | cases eo38 | (injection eo38 with ea_ en_ ec_; (first | subst ea_ | (injection ea_ with ea_; subst ea_)); subst ec_; clear en_))
        have GB38 := aM gb38
        have GG38 := aM HG38
        clear gb38 gl38 HG38
        (first | simp only [add_plain] at hx121_0 | skip)
        obtain ⟨hx38_0, hf38_0⟩ := Kd.R_celln 0 HO_6.out ((ji32) : Int) p38 q38
        replace p38 := eq_true p38
        replace q38 := eq_true q38
        have HP40 := Kd.R_putg HO_6.out ((ji32) : Int) ji37
        go_wp2_with (first | ((with_reducible refine gate_store (t := 26) (p := 76) rfl ?_); refine store_event (t := 26) (p := 76) (v := ?vo_w41) (w1 := (wr.setCell ⟨go38, ((ji32) : Int).toNat, none⟩ (.int .u64 ji37))) ?hg ?ho ?hn ?hr ?_; (case ho => rfl); (case hg => rfl); (case hn => rfl); (case hr => first | (go_simp; done) | (go_simp; rfl)); intro w41 hw; have hg : wr.grownBy w41 (some go38) := (by rw [hw]; exact HP40.2); have hp_ : Kd.R (Kd.int .u64) 26 w41 w.heap.size (fun _ => True) (.slice (some ⟨go38, 0, none⟩) x6_1.length co20) y122 := (by rw [hw, Ny122.out]; exact HP40.1); clear HP40; replace HO_6 := aM (hp_); replace HB := aM ((by rw [hw]; exact below_set (HB.out) GB38.out : Below w.heap.size w w41)); clear hg hw hp_) | ((with_reducible refine gate_callee (f := 56) rfl ?_); refine gL (some 78) Tryd.func56 #[.slice (some ⟨go38, 0, none⟩) x6_1.length co20] ?_; (with_reducible refine (nat_bound.calls k1 (fun k_ => some k_ = (.slice (some ⟨go38, 0, none⟩) x6_1.length co20 : Value).ownBlock) (.slice (some ⟨go38, 0, none⟩) x6_1.length co20) y122 t123 t126 w _ ?side1 ?side2 A39.out).mono ?_); (case side1 => repeat (first | (with_reducible first | exact HB.out | apply below_alloc | apply pw_below_drewN | apply below_drew1) | exact HB.out)); (case side2 => exact Kd.R_tight rfl HO_6.out); rintro e w42 ⟨v124, rfl, ho0, hb, hkp⟩; refine ⟨_, rfl, ?_⟩; have HO125 := aM (Kd.R_mono (ok' := fun k_ => True) ho0 (fun k_ hk_ => trivial)); replace HB := aM (hb); clear HO_6; (try clear hb); (try clear hkp); (try clear ho0)))
        go_ret2
        exact ⟨_, by first | rfl | (simp [errW_none, errW_some] <;> rfl) | (simp only [← hji13, ← hji32, ← hji35, ← hji37]; first | rfl | (simp [errW_none, errW_some] <;> rfl)) | (simp [*, errW_none, errW_some] <;> rfl), dR HO125.out, dB⟩
    ·rw [if_neg c16] at H
     have c16b0 : decide (0 < (Int.tmod a1 64)) = false := decide_eq_false c16
     clear c16
     replace H := oA H
     obtain ⟨⟨t127, t130⟩, A43, H⟩ := H
     (try dsimp only at H)
     simp only [Option.some.injEq, Prod.mk.injEq] at H
     obtain ⟨rfl, rfl⟩ := H
     go_enter Tryd.func21, Tryd.ntmps21
     go_wp2_with (first | ((with_reducible refine gate_callee (f := 54) rfl ?_); refine gL (some 11) Tryd.func54 #[.slice A0 l0.length c0] ?_; (with_reducible refine (nat_size.calls k _ _ l0 t110 _ ?side1 HC0.out A3.out).mono ?_); (case side1 => exact dC HR0.out); rintro e w' ⟨rfl, ⟨nd, rfl⟩⟩; refine ⟨_, rfl, ?_⟩; obtain ⟨i044, hi044, _, hsz44, _⟩ := info_parts info26; obtain ⟨hcut44, hA44, hC44⟩ := print_take_of (P := Tryd.prog) (Value.int .u64) 0 22 26 .i64 Tryd.underlying22 hi044 hsz44 A0 c0 l0 t110 (of_decide_eq_true dS) (of_decide_eq_true dS) HC0.out; rw [Nz110.out] at hcut44 hA44 hC44; have HR111 := aM (Kd.C_of_reads (h1 := fun _ => rfl) (hA44 _ (Kd.reads_of_C HR0.out))); have HC111 := aM hC44; clear hA44 hC44 hi044 hsz44) | ((with_reducible refine gate_callee (f := 43) rfl ?_); refine goesL_ (some 23) rfl rfl Tryd.func43 (by kernel_rfl) rfl #[.slice A0 z110.length c0] rfl (by (try simp only [List.map_toArray, List.map_cons, List.map_nil]); first | done | (rw [show z110.length = t110.toNat from (by rw [← Nz110.out, List.length_take]; have h_ : (t110 : Int) ≤ (l0.length : Int) := of_decide_eq_true dS; omega)] <;> rfl) | rfl | (simp only [List.length_drop, List.length_take]; rfl)) ?_; (with_reducible refine (nat_Bits.calls k _ _ z110 t112 _ ?side1 HC111.out A10.out).mono ?_); (case side1 => exact dC HR111.out); rintro e w' ⟨rfl, ⟨nd, rfl⟩⟩; refine ⟨_, rfl, ?_⟩) | ((with_reducible refine gate_dst (N := 32) rfl ?_); refine Kd.R_make (Kd.int .u64) _ 26 rfl (N := 32) rfl 22 _ _ rfl ji13 rfl rfl Tryd.underlying22 (.int .u64 0) 8 info26 rfl (by decide) (by omega) 0 (ok := fun _ => True) (okp := fun _ => True) rfl (fun _ hk => hk) trivial (of_decide_eq_true dS) (Nat.le_trans (Nat.mul_le_mul_right _ (of_decide_eq_true dS : ji13.toNat ≤ 35184372088832)) (by omega)) (Below.refl _ _) (Nat.le_refl _) ?_; intro v114 w45 ho46 hb hg_ hnew_; clear hg_ hnew_; rw [← Nyq.out] at ho46; have HO115 := aM (Kd.R_lower ho46 (below_size dB)); replace HB := hS HB.out hb; clear hb ho46; obtain ⟨Ao47, co47, eo47⟩ := Kd.R_slice HO115.out; rw [Cq.out.2.2.1] at eo47; subst eo47; obtain ⟨i0q, hi0q, _, hszq, _⟩ := info_parts info26; have hcutq := cut_from (P := Tryd.prog) 22 26 .i64 Tryd.underlying22 hi0q 1 hszq Ao47 y113.length co47 (wrap64 (Int.tdiv a1 64)) Cq.out.1 Cq.out.2.1; clear hi0q hszq; obtain ⟨Aq, hAq⟩ : ∃ A_ : Option Addr, A_ = (if co47 = (wrap64 (Int.tdiv a1 64)).toNat then Ao47 else Ao47.map (·.add ((wrap64 (Int.tdiv a1 64)).toNat * 1))) := ⟨_, rfl⟩; rw [← hAq] at hcutq; have NAq := aM hAq; clear hAq) | ((with_reducible refine gate_dst (N := 38) rfl ?_); refine Kd.R_copy_at (enc := Value.int .u64) (h1 := fun _ => rfl) (0 : Int) w.heap.size rfl (.tmp 36) (.tmp 37) 22 22 26 rfl Tryd.underlying22 (by kernel_rfl) Ao47 co47 (wrap64 (Int.tdiv a1 64)).toNat y113.length yq z110 Cq.out.2.2.1 A0 z110.length c0 (fun _ => True) Aq NAq.out rfl rfl (by have := Cq.out.2.1; have := Cq.out.1; omega) HO115.out ?hcr HB.out HB.out.size ?_; (case hcr => exact Kd.C_below HR111.out HB.out); intro wq hoq hbq _; rw [shl_copied Cq.out.2.2.1 Cq.out.2.2.2] at hoq; clear HO115; have HO115 := aM hoq; clear HB; have HB := aM hbq; clear hoq hbq hcutq) | ((with_reducible refine gate_callee (f := 56) rfl ?_); refine gL (some 78) Tryd.func56 #[.slice Ao47 y113.length co47] ?_; (with_reducible refine (nat_bound.calls k (fun k_ => some k_ = (.slice Ao47 y113.length co47 : Value).ownBlock) (.slice Ao47 y113.length co47) y113 t127 t130 w _ ?side1 ?side2 A43.out).mono ?_); (case side1 => repeat (first | (with_reducible first | exact HB.out | apply below_alloc | apply pw_below_drewN | apply below_drew1) | exact HB.out)); (case side2 => exact Kd.R_tight rfl HO115.out); rintro e w48 ⟨v128, rfl, ho0, hb, hkp⟩; refine ⟨_, rfl, ?_⟩; have HO129 := aM (Kd.R_mono (ok' := fun k_ => True) ho0 (fun k_ hk_ => trivial)); replace HB := aM (hb); clear HO115; (try clear hb); (try clear hkp); (try clear ho0)))
     go_ret2
     exact ⟨_, by first | rfl | (simp [errW_none, errW_some] <;> rfl) | (simp only [← hji13]; first | rfl | (simp [errW_none, errW_some] <;> rfl)) | (simp [*, errW_none, errW_some] <;> rfl), dR HO129.out, dB⟩
end Go.Proofs.YtoefabmlkbhmpaaDoor.PA
