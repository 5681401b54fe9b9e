/- A part of the proof (9). -/
import Derived.Test.YtoannkopciehcaaDoorULB2
import Derived.Test.YtoannkopciehcaaDoorULB4
import Derived.Test.YtoannkopciehcaaDoorULB5
import Derived.Test.YtoannkopciehcaaDoorULB6
import Derived.Test.YtoannkopciehcaaDoorULB8
namespace Go.Proofs.YtoannkopciehcaaDoor.PA
open Go.RowKit Go.Proofs.YtoannkopciehcaaDoorW.PrintWords Go.Proofs.YtoannkopciehcaaDoorW.PrintLast Go.Proofs.YtoannkopciehcaaDoorW.PrintMore
attribute [local go_sem] max2_int min2_int max_two min_two max_three min_three max_four min_four   -- for this text's walks alone
set_option linter.unusedVariables false
set_option linter.unusedSimpArgs false

/-! ### quot_DivMod: function 79 -/
def quot_DivMod.f (k : Nat) (l0 : List Int) (l1 : List Int) : Option (List Int × List Int × Int) := (nat_Norm.f l0).bind fun t230 => ((nat_Norm.f l1).bind fun t233 => (if (t233.length : Int) = 0 then (some (([] : List Int), ([] : List Int), 30)) else ((nat_Cmp.f k t230 t233).bind fun t236 => (if t236 < 0 then (some (([] : List Int), t230, 0)) else (if (t233.length : Int) = 1 then (if 0 < (t233.length : Int) then ((quot_Small.f k t230 (rd t233 0)).bind fun bt238 => ((nat_From.f bt238.2.1).bind fun t243 => (some (bt238.1, t243, 0)))) else (none)) else ((quot_long.f k t230 t233).bind fun bt246 => (some (bt246.1, bt246.2, 0))))))))
theorem quot_DivMod.mono : ∀ a0 a1 k, LeO (quot_DivMod.f k a0 a1) (quot_DivMod.f (k + 1) a0 a1) := by
 intro a0 a1 k
 unfold quot_DivMod.f
 have m0_ := nat_Cmp.mono
 have m1_ := quot_Small.mono
 have m2_ := quot_long.mono
 exact mX
set_option maxHeartbeats 8000000 in
set_option maxRecDepth 100000 in
theorem quot_DivMod.calls (k : Nat) (A0 : Option Addr) (c0 : Nat) (l0 : List Int) (A1 : Option Addr) (c1 : Nat) (l1 : List Int) (r1 : List Int) (r2 : List Int) (r3 : Int) (w : World) (hr0 : Kd.C (Kd.int .u64) w A0 l0.length l0) (hc0 : l0.length ≤ c0) (hr1 : Kd.C (Kd.int .u64) w A1 l1.length l1) (hc1 : l1.length ≤ c1) (h : quot_DivMod.f k l0 l1 = some (r1, r2, r3)) :
  Calls Tryd.prog 79 #[.slice A0 l0.length c0, .slice A1 l1.length c1] w fun e w' => ∃ v0_ v1_ : Value, e = .returned (.tuple #[v0_, v1_, .int .i64 r3]) ∧ Kd.R (Kd.int .u64) 22 w' w.heap.size (fun k_ => some k_ ≠ (v1_ : Value).ownBlock) v0_ r1 ∧ Kd.R (Kd.int .u64) 22 w' w.heap.size (fun k_ => some k_ ≠ (v0_ : Value).ownBlock) v1_ r2 ∧ Below w.heap.size w w' := by
 have HR0 := Aside0.mk hr0
 have HC0 := Aside0.mk hc0
 clear hr0 hc0
 have HR1 := Aside0.mk hr1
 have HC1 := Aside0.mk hc1
 clear hr1 hc1
 have HB := Aside0.mk (Below.refl w.heap.size w)
 have H : ((nat_Norm.f l0).bind fun t230 => ((nat_Norm.f l1).bind fun t233 => (if (t233.length : Int) = 0 then (some (([] : List Int), ([] : List Int), 30)) else ((nat_Cmp.f k t230 t233).bind fun t236 => (if t236 < 0 then (some (([] : List Int), t230, 0)) else (if (t233.length : Int) = 1 then (if 0 < (t233.length : Int) then ((quot_Small.f k t230 (rd t233 0)).bind fun bt238 => ((nat_From.f bt238.2.1).bind fun t243 => (some (bt238.1, t243, 0)))) else (none)) else ((quot_long.f k t230 t233).bind fun bt246 => (some (bt246.1, bt246.2, 0))))))))) = some (r1, r2, r3) := h
 clear h
 replace H := obe H
 obtain ⟨t230, A30, H⟩ := H
 (try dsimp only at H)
 have A3 := Aside0.mk A30
 clear A30
 replace H := obe H
 obtain ⟨t233, A40, H⟩ := H
 (try dsimp only at H)
 have A4 := Aside0.mk A40
 clear A40
 by_cases c5 : (t233.length : Int) = 0
 ·rw [if_pos c5] at H
  have c5b0 : ((t233.length : Int) == 0) = true := beq_iff_eq.mpr c5
  have c5b1 : ((t233.length : Int) != 0) = false := bne_eq_false_iff_eq.mpr c5
  clear c5
  simp only [Option.some.injEq, Prod.mk.injEq] at H
  obtain ⟨rfl, rfl, rfl⟩ := H
  go_enter Tryd.func79, Tryd.ntmps79
  go_wp2_with (first | ((with_reducible refine gate_callee (f := 73) rfl ?_); refine gL (some 13) Tryd.func73 #[.slice A0 l0.length c0] ?_; (with_reducible refine (nat_Norm.calls _ _ l0 t230 _ ?side1 ?side2 A3.out).mono ?_); (case side1 => exact dC HR0.out); (case side2 => exact HC0.out); rintro e w6 ⟨v231, rfl, ho0, hb⟩; refine ⟨_, rfl, ?_⟩; have HO232 := Aside0.mk (Kd.R_lower ho0 (below_size dB)); replace HB := Aside0.mk (below_step dB hb); (try clear hb); (try clear ho0)) | ((with_reducible refine gate_callee (f := 73) rfl ?_); refine gL (some 15) Tryd.func73 #[.slice A1 l1.length c1] ?_; (with_reducible refine (nat_Norm.calls _ _ l1 t233 _ ?side1 ?side2 A4.out).mono ?_); (case side1 => exact dC (Kd.C_below HR1.out HB.out)); (case side2 => exact HC1.out); rintro e w7 ⟨v234, rfl, ho0, hb⟩; refine ⟨_, rfl, ?_⟩; have HO235 := Aside0.mk (Kd.R_lower (Kd.R_new' ho0 (Kd.R_lt (dR HO232.out))) (below_size dB)); replace HO232 := Aside0.mk (Kd.R_elder' (dR HO232.out) (Kd.R_base ho0) hb); replace HB := Aside0.mk (below_step dB hb); (try clear hb); (try clear ho0); obtain ⟨Ao8, co8, eo8⟩ := Kd.R_slice HO235.out; subst eo8))
  go_ret3
  exact ⟨_, _, dE, by first | exact Kd.R_nil _ _ _ _ _ | exact Kd.N_nil _ _ _ _ _ | exact Kd.V_nil _ _ _ _ _ | exact Kd.Q_nil _ _ _ _ _ | exact Kd.S_nil _ _ _ _ _, by first | exact Kd.R_nil _ _ _ _ _ | exact Kd.N_nil _ _ _ _ _ | exact Kd.V_nil _ _ _ _ _ | exact Kd.Q_nil _ _ _ _ _ | exact Kd.S_nil _ _ _ _ _, dB⟩
 ·rw [if_neg c5] at H
  have c5b0 : ((t233.length : Int) == 0) = false := beq_eq_false_iff_ne.mpr c5
  have c5b1 : ((t233.length : Int) != 0) = true := bne_iff_ne.mpr c5
  have c5b2 : ¬ (t233 = []) := fun h_ => c5 (by rw [h_]; rfl)
  replace H := obe H
  obtain ⟨t236, A90, H⟩ := H
  (try dsimp only at H)
  have A9 := Aside0.mk A90
  clear A90
  by_cases c10 : t236 < 0
  ·rw [if_pos c10] at H
   have c10b0 : decide (t236 < 0) = true := decide_eq_true c10
   clear c10
   simp only [Option.some.injEq, Prod.mk.injEq] at H
   obtain ⟨rfl, rfl, rfl⟩ := H
   go_enter Tryd.func79, Tryd.ntmps79
   go_wp2_with (first | ((with_reducible refine gate_callee (f := 73) rfl ?_); refine gL (some 13) Tryd.func73 #[.slice A0 l0.length c0] ?_; (with_reducible refine (nat_Norm.calls _ _ l0 t230 _ ?side1 ?side2 A3.out).mono ?_); (case side1 => exact dC HR0.out); (case side2 => exact HC0.out); rintro e w11 ⟨v231, rfl, ho0, hb⟩; refine ⟨_, rfl, ?_⟩; have HO232 := Aside0.mk (Kd.R_lower ho0 (below_size dB)); replace HB := Aside0.mk (below_step dB hb); (try clear hb); (try clear ho0)) | ((with_reducible refine gate_callee (f := 73) rfl ?_); refine gL (some 15) Tryd.func73 #[.slice A1 l1.length c1] ?_; (with_reducible refine (nat_Norm.calls _ _ l1 t233 _ ?side1 ?side2 A4.out).mono ?_); (case side1 => exact dC (Kd.C_below HR1.out HB.out)); (case side2 => exact HC1.out); rintro e w12 ⟨v234, rfl, ho0, hb⟩; refine ⟨_, rfl, ?_⟩; have HO235 := Aside0.mk (Kd.R_lower (Kd.R_new' ho0 (Kd.R_lt (dR HO232.out))) (below_size dB)); replace HO232 := Aside0.mk (Kd.R_elder' (dR HO232.out) (Kd.R_base ho0) hb); replace HB := Aside0.mk (below_step dB hb); (try clear hb); (try clear ho0); obtain ⟨Ao13, co13, eo13⟩ := Kd.R_slice HO235.out; subst eo13; obtain ⟨Ao14, co14, eo14⟩ := Kd.R_slice HO232.out; subst eo14) | ((with_reducible refine gate_callee (f := 27) rfl ?_); refine gL (some 23) Tryd.func27 #[.slice Ao14 t230.length co14, .slice Ao13 t233.length co13] ?_; (with_reducible refine (nat_Cmp.calls k _ _ t230 _ _ t233 t236 _ ?side1 ?side2 ?side3 ?side4 A9.out).mono ?_); (case side1 => exact dC (Kd.R_reads' HO232.out).2.2); (case side2 => exact (Kd.R_reads' HO232.out).2.1); (case side3 => exact dC (Kd.R_reads' HO235.out).2.2); (case side4 => exact (Kd.R_reads' HO235.out).2.1); rintro e w' ⟨rfl, ⟨nd, rfl⟩⟩; refine ⟨_, rfl, ?_⟩))
   go_ret3
   exact ⟨_, _, dE, by first | exact Kd.R_nil _ _ _ _ _ | exact Kd.N_nil _ _ _ _ _ | exact Kd.V_nil _ _ _ _ _ | exact Kd.Q_nil _ _ _ _ _ | exact Kd.S_nil _ _ _ _ _, by (with_reducible repeat (first | apply Kd.R_alloc | apply Kd.R_drewN | apply Kd.R_drew)); exact Kd.R_mono HO232.out (fun _ hk => (by simp [Value.ownBlock])), dB⟩
  ·rw [if_neg c10] at H
   have c10b0 : decide (t236 < 0) = false := decide_eq_false c10
   clear c10
   by_cases c15 : (t233.length : Int) = 1
   ·rw [if_pos c15] at H
    have c15b0 : ((t233.length : Int) == 1) = true := beq_iff_eq.mpr c15
    have c15b1 : ((t233.length : Int) != 1) = false := bne_eq_false_iff_eq.mpr c15
    clear c15
    by_cases c16 : (0 : Int) < (t233.length : Int)
    ·rw [if_pos c16] at H
     have c16b0 : decide (0 < (t233.length : Int)) = true := decide_eq_true c16
     have c16b1 : decide (0 < t233.length) = true := decide_eq_true (by omega)
     clear c16
     replace H := obe H
     obtain ⟨⟨t238, t239, t240⟩, A170, H⟩ := H
     (try dsimp only at H)
     have A17 := Aside0.mk A170
     clear A170
     replace H := obe H
     obtain ⟨t243, A180, H⟩ := H
     (try dsimp only at H)
     have A18 := Aside0.mk A180
     clear A180
     simp only [Option.some.injEq, Prod.mk.injEq] at H
     obtain ⟨rfl, rfl, rfl⟩ := H
     go_enter Tryd.func79, Tryd.ntmps79
     go_wp2_with (first | ((with_reducible refine gate_callee (f := 73) rfl ?_); refine gL (some 13) Tryd.func73 #[.slice A0 l0.length c0] ?_; (with_reducible refine (nat_Norm.calls _ _ l0 t230 _ ?side1 ?side2 A3.out).mono ?_); (case side1 => exact dC HR0.out); (case side2 => exact HC0.out); rintro e w19 ⟨v231, rfl, ho0, hb⟩; refine ⟨_, rfl, ?_⟩; have HO232 := Aside0.mk (Kd.R_lower ho0 (below_size dB)); replace HB := Aside0.mk (below_step dB hb); (try clear hb); (try clear ho0)) | ((with_reducible refine gate_callee (f := 73) rfl ?_); refine gL (some 15) Tryd.func73 #[.slice A1 l1.length c1] ?_; (with_reducible refine (nat_Norm.calls _ _ l1 t233 _ ?side1 ?side2 A4.out).mono ?_); (case side1 => exact dC (Kd.C_below HR1.out HB.out)); (case side2 => exact HC1.out); rintro e w20 ⟨v234, rfl, ho0, hb⟩; refine ⟨_, rfl, ?_⟩; have HO235 := Aside0.mk (Kd.R_lower (Kd.R_new' ho0 (Kd.R_lt (dR HO232.out))) (below_size dB)); replace HO232 := Aside0.mk (Kd.R_elder' (dR HO232.out) (Kd.R_base ho0) hb); replace HB := Aside0.mk (below_step dB hb); (try clear hb); (try clear ho0); obtain ⟨Ao21, co21, eo21⟩ := Kd.R_slice HO235.out; subst eo21; obtain ⟨Ao22, co22, eo22⟩ := Kd.R_slice HO232.out; subst eo22) | ((with_reducible refine gate_callee (f := 27) rfl ?_); refine gL (some 23) Tryd.func27 #[.slice Ao22 t230.length co22, .slice Ao21 t233.length co21] ?_; (with_reducible refine (nat_Cmp.calls k _ _ t230 _ _ t233 t236 _ ?side1 ?side2 ?side3 ?side4 A9.out).mono ?_); (case side1 => exact dC (Kd.R_reads' HO232.out).2.2); (case side2 => exact (Kd.R_reads' HO232.out).2.1); (case side3 => exact dC (Kd.R_reads' HO235.out).2.2); (case side4 => exact (Kd.R_reads' HO235.out).2.1); rintro e w' ⟨rfl, ⟨nd, rfl⟩⟩; refine ⟨_, rfl, ?_⟩; have p237 : 0 ≤ (0 : Int) := (by omega); have q237 : 0 < (t233.length : Int) := of_decide_eq_true dS; obtain ⟨ad237, e237, hx237_0⟩ := Kd.at_int (Kd.R_reads' HO235.out).2.2 0 p237 q237; cases e237; have qi237 : (0 < t233.length) = True := eq_true (by omega); (try rw [show ((0 : Int)).toNat = 0 from rfl] at hx237_0); (try rw [Addr.add_zero'] at hx237_0); replace p237 := eq_true p237; replace q237 := eq_true q237) | ((with_reducible refine gate_callee (f := 106) rfl ?_); refine gL (some 35) Tryd.func106 #[.slice Ao22 t230.length co22, .int .u64 (rd t233 0)] ?_; (with_reducible refine (quot_Small.calls k _ _ t230 (rd t233 0) t238 t239 t240 _ ?side1 ?side2 A17.out).mono ?_); (case side1 => exact dC (Kd.R_reads' HO232.out).2.2); (case side2 => exact (Kd.R_reads' HO232.out).2.1); rintro e w23 ⟨v241, rfl, ho0, hb⟩; refine ⟨_, rfl, ?_⟩; have HO242 := Aside0.mk (Kd.R_lower (Kd.R_new' (Kd.R_new' ho0 (Kd.R_lt (dR HO232.out))) (Kd.R_lt (dR HO235.out))) (below_size dB)); replace HO232 := Aside0.mk (Kd.R_elder' (dR HO232.out) (Kd.R_base ho0) hb); replace HO235 := Aside0.mk (Kd.R_elder' (dR HO235.out) (Kd.R_base ho0) hb); replace HB := Aside0.mk (below_step dB hb); (try clear hb); (try clear ho0)) | ((with_reducible refine gate_callee (f := 54) rfl ?_); refine gL (some 41) Tryd.func54 #[.int .u64 t239] ?_; (with_reducible refine (nat_From.calls t239 t243 _ A18.out).mono ?_); rintro e w24 ⟨v244, rfl, ho0, hb⟩; refine ⟨_, rfl, ?_⟩; have HO245 := Aside0.mk (Kd.R_lower (Kd.R_new' (Kd.R_new' (Kd.R_new' ho0 (Kd.R_lt (dR HO232.out))) (Kd.R_lt (dR HO235.out))) (Kd.R_lt (dR HO242.out))) (below_size dB)); replace HO232 := Aside0.mk (Kd.R_elder' (dR HO232.out) (Kd.R_base ho0) hb); replace HO235 := Aside0.mk (Kd.R_elder' (dR HO235.out) (Kd.R_base ho0) hb); replace HO242 := Aside0.mk (Kd.R_elder' (dR HO242.out) (Kd.R_base ho0) hb); replace HB := Aside0.mk (below_step dB hb); (try clear hb); (try clear ho0)))
     go_ret3
     exact ⟨_, _, dE, by (with_reducible repeat (first | apply Kd.R_alloc | apply Kd.R_drewN | apply Kd.R_drew)); exact Kd.R_mono HO242.out (fun _ hk => hk.2), by (with_reducible repeat (first | apply Kd.R_alloc | apply Kd.R_drewN | apply Kd.R_drew)); exact Kd.R_mono HO245.out (fun _ hk => hk.2), dB⟩
    ·rw [if_neg c16] at H
     exact absurd H (by simp)
   ·rw [if_neg c15] at H
    have c15b0 : ((t233.length : Int) == 1) = false := beq_eq_false_iff_ne.mpr c15
    have c15b1 : ((t233.length : Int) != 1) = true := bne_iff_ne.mpr c15
    replace H := obe H
    obtain ⟨⟨t246, t247⟩, A250, H⟩ := H
    (try dsimp only at H)
    have A25 := Aside0.mk A250
    clear A250
    simp only [Option.some.injEq, Prod.mk.injEq] at H
    obtain ⟨rfl, rfl, rfl⟩ := H
    go_enter Tryd.func79, Tryd.ntmps79
    go_wp2_with (first | ((with_reducible refine gate_callee (f := 73) rfl ?_); refine gL (some 13) Tryd.func73 #[.slice A0 l0.length c0] ?_; (with_reducible refine (nat_Norm.calls _ _ l0 t230 _ ?side1 ?side2 A3.out).mono ?_); (case side1 => exact dC HR0.out); (case side2 => exact HC0.out); rintro e w26 ⟨v231, rfl, ho0, hb⟩; refine ⟨_, rfl, ?_⟩; have HO232 := Aside0.mk (Kd.R_lower ho0 (below_size dB)); replace HB := Aside0.mk (below_step dB hb); (try clear hb); (try clear ho0)) | ((with_reducible refine gate_callee (f := 73) rfl ?_); refine gL (some 15) Tryd.func73 #[.slice A1 l1.length c1] ?_; (with_reducible refine (nat_Norm.calls _ _ l1 t233 _ ?side1 ?side2 A4.out).mono ?_); (case side1 => exact dC (Kd.C_below HR1.out HB.out)); (case side2 => exact HC1.out); rintro e w27 ⟨v234, rfl, ho0, hb⟩; refine ⟨_, rfl, ?_⟩; have HO235 := Aside0.mk (Kd.R_lower (Kd.R_new' ho0 (Kd.R_lt (dR HO232.out))) (below_size dB)); replace HO232 := Aside0.mk (Kd.R_elder' (dR HO232.out) (Kd.R_base ho0) hb); replace HB := Aside0.mk (below_step dB hb); (try clear hb); (try clear ho0); obtain ⟨Ao28, co28, eo28⟩ := Kd.R_slice HO235.out; subst eo28; obtain ⟨Ao29, co29, eo29⟩ := Kd.R_slice HO232.out; subst eo29) | ((with_reducible refine gate_callee (f := 27) rfl ?_); refine gL (some 23) Tryd.func27 #[.slice Ao29 t230.length co29, .slice Ao28 t233.length co28] ?_; (with_reducible refine (nat_Cmp.calls k _ _ t230 _ _ t233 t236 _ ?side1 ?side2 ?side3 ?side4 A9.out).mono ?_); (case side1 => exact dC (Kd.R_reads' HO232.out).2.2); (case side2 => exact (Kd.R_reads' HO232.out).2.1); (case side3 => exact dC (Kd.R_reads' HO235.out).2.2); (case side4 => exact (Kd.R_reads' HO235.out).2.1); rintro e w' ⟨rfl, ⟨nd, rfl⟩⟩; refine ⟨_, rfl, ?_⟩) | ((with_reducible refine gate_callee (f := 107) rfl ?_); refine gL (some 45) Tryd.func107 #[.slice Ao29 t230.length co29, .slice Ao28 t233.length co28] ?_; (with_reducible refine (quot_long.calls k _ _ t230 _ _ t233 t246 t247 _ ?side1 ?side2 ?side3 ?side4 A25.out).mono ?_); (case side1 => exact dC (Kd.R_reads' HO232.out).2.2); (case side2 => exact (Kd.R_reads' HO232.out).2.1); (case side3 => exact dC (Kd.R_reads' HO235.out).2.2); (case side4 => exact (Kd.R_reads' HO235.out).2.1); rintro e w30 ⟨v248, v250, rfl, ho0, ho1, hb⟩; refine ⟨_, rfl, ?_⟩; have HO249 := Aside0.mk (Kd.R_lower (Kd.R_new' (Kd.R_new' ho0 (Kd.R_lt (dR HO232.out))) (Kd.R_lt (dR HO235.out))) (below_size dB)); have HO251 := Aside0.mk (Kd.R_lower (Kd.R_new' (Kd.R_new' ho1 (Kd.R_lt (dR HO232.out))) (Kd.R_lt (dR HO235.out))) (below_size dB)); replace HO232 := Aside0.mk (Kd.R_mono (Kd.R_told (Kd.R_told (Kd.R_old (dR HO232.out) hb) (Kd.R_base ho0)) (Kd.R_base ho1)) (fun _ h_ => h_.1)); replace HO235 := Aside0.mk (Kd.R_mono (Kd.R_told (Kd.R_told (Kd.R_old (dR HO235.out) hb) (Kd.R_base ho0)) (Kd.R_base ho1)) (fun _ h_ => h_.1)); replace HB := Aside0.mk (below_step dB hb); (try clear hb); (try clear ho0); (try clear ho1)))
    go_ret3
    exact ⟨_, _, dE, by (with_reducible repeat (first | apply Kd.R_alloc | apply Kd.R_drewN | apply Kd.R_drew)); exact Kd.R_mono HO249.out (fun _ hk => hk.1.1), by (with_reducible repeat (first | apply Kd.R_alloc | apply Kd.R_drewN | apply Kd.R_drew)); exact Kd.R_mono HO251.out (fun _ hk => hk.1.1), dB⟩

-- NOT PRINTED: function 99 (power_down)

-- NOT PRINTED: function 72 (power_sides)

-- NOT PRINTED: function 40 (power_at)

end Go.Proofs.YtoannkopciehcaaDoor.PA

namespace Go.Proofs.YtoannkopciehcaaDoor.PA
open Go.RowKit Go.Proofs.YtoannkopciehcaaDoorW.PrintWords Go.Proofs.YtoannkopciehcaaDoorW.PrintLast Go.Proofs.YtoannkopciehcaaDoorW.PrintMore
attribute [local go_sem] max2_int min2_int max_two min_two max_three min_three max_four min_four   -- for this text's walks alone
set_option linter.unusedVariables false
set_option linter.unusedSimpArgs false

/-! ### power_Five: function 18 (by hand) -/
def power_told.f (l0 : List Int) (a1 : Int) (a2 : Bool) : Option (Int × Int × Int × Bool) := if (l0.length : Int) = 2 then (if 1 < (l0.length : Int) then (if 0 < (l0.length : Int) then (some (rd l0 1, rd l0 0, a1, a2)) else (none)) else (none)) else (some (0, 0, 0, false))
def power_told.T3 : Bool × List (List Nat × List Nat) := (true, [([], []), ([0], [0]), ([1], [1]), ([], []), ([3], [3]), ([4], [4]), ([2, 5], [2, 5]), ([], []), ([], []), ([6, 7, 8], [6, 7, 8]), ([9, 0, 1, 2, 3, 4, 5, 6, 7, 8, 9], [9])])
def power_told.B3 : List Nat := [0, 1, 3, 0, 8, 24, 63, 0, 0, 511, 1023]
theorem power_told.tab3 : rtab .any (opsOf Tryd.f114 3) = power_told.T3 := by kernel_rfl
theorem power_told.bits3 : waitsOk power_told.T3.2 power_told.B3 = true := by kernel_rfl
set_option maxHeartbeats 8000000 in
set_option maxRecDepth 100000 in
theorem power_told.calls (A0 : Option Addr) (c0 : Nat) (l0 : List Int) (a1 : Int) (a2 : Bool) (r1 : Int) (r2 : Int) (r3 : Int) (r4 : Bool) (w : World) (hr0 : Kd.C (Kd.int .u64) w A0 l0.length l0) (hc0 : l0.length ≤ c0) (h : power_told.f l0 a1 a2 = some (r1, r2, r3, r4)) :
  Calls Tryd.prog 114 #[.slice A0 l0.length c0, .int .i64 a1, .bool a2] w fun e w' => e = .returned (.agg #[.int .u64 r1, .int .u64 r2, .int .i64 r3, .bool r4]) ∧ Below w.heap.size w w' := by
 have hu75 := Tryd.underlying75
 have hu73 := Tryd.underlying73
 have HR0 := Aside0.mk hr0
 have HC0 := Aside0.mk hc0
 clear hr0 hc0
 have HB := Aside0.mk (Below.refl w.heap.size w)
 have H : (if (l0.length : Int) = 2 then (if 1 < (l0.length : Int) then (if 0 < (l0.length : Int) then (some (rd l0 1, rd l0 0, a1, a2)) else (none)) else (none)) else (some (0, 0, 0, false))) = some (r1, r2, r3, r4) := h
 clear h
 by_cases c4 : (l0.length : Int) = 2
 ·rw [if_pos c4] at H
  have c4b0 : ((l0.length : Int) == 2) = true := beq_iff_eq.mpr c4
  have c4b1 : ((l0.length : Int) != 2) = false := bne_eq_false_iff_eq.mpr c4
  clear c4
  by_cases c5 : (1 : Int) < (l0.length : Int)
  ·rw [if_pos c5] at H
   have c5b0 : decide (1 < (l0.length : Int)) = true := decide_eq_true c5
   have c5b1 : decide (1 < l0.length) = true := decide_eq_true (by omega)
   clear c5
   by_cases c6 : (0 : Int) < (l0.length : Int)
   ·rw [if_pos c6] at H
    have c6b0 : decide (0 < (l0.length : Int)) = true := decide_eq_true c6
    have c6b1 : decide (0 < l0.length) = true := decide_eq_true (by omega)
    clear c6
    simp only [Option.some.injEq, Prod.mk.injEq] at H
    obtain ⟨rfl, rfl, rfl, rfl⟩ := H
    go_enter Tryd.func114, Tryd.ntmps114
    try go_wp2_with (first | ((with_reducible refine gate_dst (N := 6) rfl ?_); refine box_event ?hg (N := 6) ?hd (cs := #[.int .u64 0, .int .u64 0, .int .i64 0, .bool false]) (t := 75) ?hr ?_; (case hd => rfl); (case hg => rfl); (case hr => first | (go_simp; done) | (go_simp; rfl)); intro gb174 hg w7 hbox hb; have BK174 := Aside0.mk (hbox); have GW174 := Aside0.mk ((by rw [hg]; exact (below_size dB) : w.heap.size ≤ gb174)); have GE174 := Aside0.mk ((by rw [hg]; exact (below_size dB) : w.heap.size ≤ gb174)); replace HB := Aside0.mk (below_step dB hb); clear hb hbox hg))
    replace BK174 := Aside0.mk (blk_drew BK174.out)
    replace HB := Aside0.mk (below_drew1 HB.out)
    have p175 : 0 ≤ (1 : Int) := (by omega)
    have q175 : 1 < (l0.length : Int) := of_decide_eq_true dS
    obtain ⟨ad175, e175, hx175_0⟩ := Kd.at_int HR0.out 1 p175 q175
    have hw175_0 := hx175_0
    (try rw [show ((1 : Int)).toNat = 1 from rfl] at hw175_0)
    (try rw [show 1 * 1 = 1 from rfl] at hw175_0)
    (try simp only [Nat.reduceMul, Nat.reduceEqDiff, Go.Addr.add, ↓reduceIte] at hw175_0)
    cases e175
    (try simp only [show (1 : Int).toNat = 1 from rfl, Nat.reduceMul, Nat.reduceEqDiff, Go.Addr.add, ↓reduceIte] at hx175_0)
    have qi175 : (1 < l0.length) = True := eq_true (by omega)
    (try rw [show ((1 : Int)).toNat = 1 from rfl] at hx175_0)
    replace hx175_0 := (HB.out.cell (World.block_lt_of_cell? w _ hx175_0)).trans hx175_0
    replace p175 := eq_true p175
    replace q175 := eq_true q175
    have p176 : 0 ≤ (0 : Int) := (by omega)
    have q176 : 0 < (l0.length : Int) := of_decide_eq_true dS
    obtain ⟨ad176, e176, hx176_0⟩ := Kd.at_int HR0.out 0 p176 q176
    have hw176_0 := hx176_0
    (try rw [show ((0 : Int)).toNat = 0 from rfl] at hw176_0)
    (try rw [show 0 * 1 = 0 from rfl] at hw176_0)
    (try rw [Addr.add_zero'] at hw176_0)
    obtain rfl : ad175 = ad176 := (by injection e176)
    have qi176 : (0 < l0.length) = True := eq_true (by omega)
    (try rw [show ((0 : Int)).toNat = 0 from rfl] at hx176_0)
    (try rw [Addr.add_zero'] at hx176_0)
    replace hx176_0 := (HB.out.cell (World.block_lt_of_cell? w _ hx176_0)).trans hx176_0
    replace p176 := eq_true p176
    replace q176 := eq_true q176
    refine start_ (n := 11) (S := fun w' => w'.cell? ⟨ad175.block, ad175.off + 1, none⟩ = some (.int .u64 (rd l0 1)) ∧ w'.cell? ad175 = some (.int .u64 (rd l0 0))) (ds := []) #[false, false, false, false, false, false, false, false, false, false, false] (by kernel_rfl) rfl rfl ⟨((HB.out.cell (World.block_lt_of_cell? w _ hw175_0)).trans hw175_0), ((HB.out.cell (World.block_lt_of_cell? w _ hw176_0)).trans hw176_0)⟩ (fun hHeld => ?_); refine with_tabW power_told.tab3 power_told.bits3 (fun HT_ HW_ => ?_)
    generalize w7.drew = w8 at BK174 HB hx175_0 hx176_0 hHeld ⊢
    refine pP 0 (some 11) ?_
    refine pP 1 (some 12) ?_
    refine pP 3 (some 14) ?_
    refine pP 4 (some 15) ?_
    refine pP 7 (some 18) ?_
    refine pP 8 (some 19) ?_
    refine pH2 2 (some 13) hHeld ?_
    refine pH2 5 (some 16) hHeld ?_
    refine pP 6 (some 17) ?_
    refine pP 9 (some 20) ?_
    refine one_ (i := 10) (N := none) #[true, true, true, true, true, true, true, true, true, true, true] rfl rfl (one_of HT_.out (by kernel_rfl)) (by decide) (fun K hK => ?_)
    have hs9 : w8.cell? ⟨gb174, 0, none⟩ = some (.int .u64 0) := (blk_cell BK174.out 0).trans rfl
    have hfs9 := blk_frozen BK174.out 0
    have hs10 : w8.cell? ⟨gb174, 1, none⟩ = some (.int .u64 0) := (blk_cell BK174.out 1).trans rfl
    have hfs10 := blk_frozen BK174.out 1
    have hs11 : w8.cell? ⟨gb174, 2, none⟩ = some (.int .i64 0) := (blk_cell BK174.out 2).trans rfl
    have hfs11 := blk_frozen BK174.out 2
    have hs12 : w8.cell? ⟨gb174, 3, none⟩ = some (.bool false) := (blk_cell BK174.out 3).trans rfl
    have hfs12 := blk_frozen BK174.out 3
    refine skip_ (w1 := ?_) (by rfl) rfl ?_ ?_
    rotate_left
    ·go_simp
     rfl
    refine hK.out _ _ ⟨((cell_far (p := ⟨gb174, _, none⟩) (by first | exact Nat.ne_of_lt (Nat.lt_of_lt_of_le (by have := World.block_lt_of_cell? _ _ hw175_0; first | rwa [add_block] at this | exact this) GW174.out) | (rw [add_block]; exact Nat.ne_of_lt (Nat.lt_of_lt_of_le (by have := World.block_lt_of_cell? _ _ hw175_0; first | rwa [add_block] at this | exact this) GW174.out)) | (show (Addr.add _ _).block ≠ _; rw [add_block]; exact Nat.ne_of_lt (Nat.lt_of_lt_of_le (by have := World.block_lt_of_cell? _ _ hw175_0; first | rwa [add_block] at this | exact this) GW174.out)) | (dsimp only; exact Nat.ne_of_lt (Nat.lt_of_lt_of_le (by have := World.block_lt_of_cell? _ _ hw175_0; first | rwa [add_block] at this | exact this) GW174.out))) _).trans (((cell_far (p := ⟨gb174, _, none⟩) (by first | exact Nat.ne_of_lt (Nat.lt_of_lt_of_le (by have := World.block_lt_of_cell? _ _ hw175_0; first | rwa [add_block] at this | exact this) GW174.out) | (rw [add_block]; exact Nat.ne_of_lt (Nat.lt_of_lt_of_le (by have := World.block_lt_of_cell? _ _ hw175_0; first | rwa [add_block] at this | exact this) GW174.out)) | (show (Addr.add _ _).block ≠ _; rw [add_block]; exact Nat.ne_of_lt (Nat.lt_of_lt_of_le (by have := World.block_lt_of_cell? _ _ hw175_0; first | rwa [add_block] at this | exact this) GW174.out)) | (dsimp only; exact Nat.ne_of_lt (Nat.lt_of_lt_of_le (by have := World.block_lt_of_cell? _ _ hw175_0; first | rwa [add_block] at this | exact this) GW174.out))) _).trans (((cell_far (p := ⟨gb174, _, none⟩) (by first | exact Nat.ne_of_lt (Nat.lt_of_lt_of_le (by have := World.block_lt_of_cell? _ _ hw175_0; first | rwa [add_block] at this | exact this) GW174.out) | (rw [add_block]; exact Nat.ne_of_lt (Nat.lt_of_lt_of_le (by have := World.block_lt_of_cell? _ _ hw175_0; first | rwa [add_block] at this | exact this) GW174.out)) | (show (Addr.add _ _).block ≠ _; rw [add_block]; exact Nat.ne_of_lt (Nat.lt_of_lt_of_le (by have := World.block_lt_of_cell? _ _ hw175_0; first | rwa [add_block] at this | exact this) GW174.out)) | (dsimp only; exact Nat.ne_of_lt (Nat.lt_of_lt_of_le (by have := World.block_lt_of_cell? _ _ hw175_0; first | rwa [add_block] at this | exact this) GW174.out))) _).trans (((cell_far (p := ⟨gb174, _, none⟩) (by first | exact Nat.ne_of_lt (Nat.lt_of_lt_of_le (by have := World.block_lt_of_cell? _ _ hw175_0; first | rwa [add_block] at this | exact this) GW174.out) | (rw [add_block]; exact Nat.ne_of_lt (Nat.lt_of_lt_of_le (by have := World.block_lt_of_cell? _ _ hw175_0; first | rwa [add_block] at this | exact this) GW174.out)) | (show (Addr.add _ _).block ≠ _; rw [add_block]; exact Nat.ne_of_lt (Nat.lt_of_lt_of_le (by have := World.block_lt_of_cell? _ _ hw175_0; first | rwa [add_block] at this | exact this) GW174.out)) | (dsimp only; exact Nat.ne_of_lt (Nat.lt_of_lt_of_le (by have := World.block_lt_of_cell? _ _ hw175_0; first | rwa [add_block] at this | exact this) GW174.out))) _).trans (hHeld.1)))))))), ((cell_far (p := ⟨gb174, _, none⟩) (by first | exact Nat.ne_of_lt (Nat.lt_of_lt_of_le (by have := World.block_lt_of_cell? _ _ hw176_0; first | rwa [add_block] at this | exact this) GW174.out) | (rw [add_block]; exact Nat.ne_of_lt (Nat.lt_of_lt_of_le (by have := World.block_lt_of_cell? _ _ hw176_0; first | rwa [add_block] at this | exact this) GW174.out)) | (show (Addr.add _ _).block ≠ _; rw [add_block]; exact Nat.ne_of_lt (Nat.lt_of_lt_of_le (by have := World.block_lt_of_cell? _ _ hw176_0; first | rwa [add_block] at this | exact this) GW174.out)) | (dsimp only; exact Nat.ne_of_lt (Nat.lt_of_lt_of_le (by have := World.block_lt_of_cell? _ _ hw176_0; first | rwa [add_block] at this | exact this) GW174.out))) _).trans (((cell_far (p := ⟨gb174, _, none⟩) (by first | exact Nat.ne_of_lt (Nat.lt_of_lt_of_le (by have := World.block_lt_of_cell? _ _ hw176_0; first | rwa [add_block] at this | exact this) GW174.out) | (rw [add_block]; exact Nat.ne_of_lt (Nat.lt_of_lt_of_le (by have := World.block_lt_of_cell? _ _ hw176_0; first | rwa [add_block] at this | exact this) GW174.out)) | (show (Addr.add _ _).block ≠ _; rw [add_block]; exact Nat.ne_of_lt (Nat.lt_of_lt_of_le (by have := World.block_lt_of_cell? _ _ hw176_0; first | rwa [add_block] at this | exact this) GW174.out)) | (dsimp only; exact Nat.ne_of_lt (Nat.lt_of_lt_of_le (by have := World.block_lt_of_cell? _ _ hw176_0; first | rwa [add_block] at this | exact this) GW174.out))) _).trans (((cell_far (p := ⟨gb174, _, none⟩) (by first | exact Nat.ne_of_lt (Nat.lt_of_lt_of_le (by have := World.block_lt_of_cell? _ _ hw176_0; first | rwa [add_block] at this | exact this) GW174.out) | (rw [add_block]; exact Nat.ne_of_lt (Nat.lt_of_lt_of_le (by have := World.block_lt_of_cell? _ _ hw176_0; first | rwa [add_block] at this | exact this) GW174.out)) | (show (Addr.add _ _).block ≠ _; rw [add_block]; exact Nat.ne_of_lt (Nat.lt_of_lt_of_le (by have := World.block_lt_of_cell? _ _ hw176_0; first | rwa [add_block] at this | exact this) GW174.out)) | (dsimp only; exact Nat.ne_of_lt (Nat.lt_of_lt_of_le (by have := World.block_lt_of_cell? _ _ hw176_0; first | rwa [add_block] at this | exact this) GW174.out))) _).trans (((cell_far (p := ⟨gb174, _, none⟩) (by first | exact Nat.ne_of_lt (Nat.lt_of_lt_of_le (by have := World.block_lt_of_cell? _ _ hw176_0; first | rwa [add_block] at this | exact this) GW174.out) | (rw [add_block]; exact Nat.ne_of_lt (Nat.lt_of_lt_of_le (by have := World.block_lt_of_cell? _ _ hw176_0; first | rwa [add_block] at this | exact this) GW174.out)) | (show (Addr.add _ _).block ≠ _; rw [add_block]; exact Nat.ne_of_lt (Nat.lt_of_lt_of_le (by have := World.block_lt_of_cell? _ _ hw176_0; first | rwa [add_block] at this | exact this) GW174.out)) | (dsimp only; exact Nat.ne_of_lt (Nat.lt_of_lt_of_le (by have := World.block_lt_of_cell? _ _ hw176_0; first | rwa [add_block] at this | exact this) GW174.out))) _).trans (hHeld.2))))))))⟩ (fun hHeld => ?_)
    clear hK K
    refine done_ (done_of HT_.out (by kernel_rfl)) ?_
    try go_wp2
    refine bodyPost_ret (results_cell_row rfl _ _ gb174 75 #[.int .u64 (rd l0 1), .int .u64 (rd l0 0), .int .i64 a1, .bool a2] (0, 0) _ rfl (dP BK174.out) Tryd.underlying75 rfl (by kernel_rfl)) rfl ?_
    exact ⟨dE, dG GE174.out⟩
   ·rw [if_neg c6] at H
    exact absurd H (by simp)
  ·rw [if_neg c5] at H
   exact absurd H (by simp)
 ·rw [if_neg c4] at H
  have c4b0 : ((l0.length : Int) == 2) = false := beq_eq_false_iff_ne.mpr c4
  have c4b1 : ((l0.length : Int) != 2) = true := bne_iff_ne.mpr c4
  simp only [Option.some.injEq, Prod.mk.injEq] at H
  obtain ⟨rfl, rfl, rfl, rfl⟩ := H
  go_enter Tryd.func114, Tryd.ntmps114
  go_wp2_with (first | ((with_reducible refine gate_dst (N := 6) rfl ?_); refine box_event ?hg (N := 6) ?hd (cs := #[.int .u64 0, .int .u64 0, .int .i64 0, .bool false]) (t := 75) ?hr ?_; (case hd => rfl); (case hg => rfl); (case hr => first | (go_simp; done) | (go_simp; rfl)); intro gb174 hg w13 hbox hb; have BK174 := Aside0.mk (hbox); have GW174 := Aside0.mk ((by rw [hg]; exact (below_size dB) : w.heap.size ≤ gb174)); have GE174 := Aside0.mk ((by rw [hg]; exact (below_size dB) : w.heap.size ≤ gb174)); replace HB := Aside0.mk (below_step dB hb); clear hb hbox hg; obtain ⟨hcz14_0, hcz14_1, hcz14_2, hcz14_3⟩ := cz4 BK174.out; obtain ⟨hfz14_0, hfz14_1, hfz14_2, hfz14_3⟩ := fz4 BK174.out))
  refine bodyPost_ret (results_cell_row rfl _ _ gb174 75 #[.int .u64 0, .int .u64 0, .int .i64 0, .bool false] (0, 0) _ rfl (dP BK174.out) Tryd.underlying75 rfl (by kernel_rfl)) rfl ?_
  exact ⟨dE, dG GE174.out⟩

def power_up.f (k : Nat) (a0 : Int) : Option (Int × Int × Int × Bool) := (radix_Five.f k a0).bind fun bt178 => ((nat_Bits.f k bt178.1).bind fun t182 => (if (wrap64 (t182 - 128)) ≤ 0 then ((nat_Shl.f k bt178.1 (wrap64 (-(wrap64 (t182 - 128))))).bind fun bt183 => ((power_told.f bt183.1 (wrap64 (t182 - 128)) true).bind fun bt187 => (some (bt187.1, bt187.2.1, bt187.2.2.1, bt187.2.2.2)))) else ((nat_Shr.f k bt178.1 (wrap64 (t182 - 128))).bind fun bt191 => ((power_told.f bt191.1 (wrap64 (t182 - 128)) (!bt191.2.1)).bind fun bt196 => (some (bt196.1, bt196.2.1, bt196.2.2.1, bt196.2.2.2))))))
theorem power_up.mono : ∀ a0 k, LeO (power_up.f k a0) (power_up.f (k + 1) a0) := by
 intro a0 k
 unfold power_up.f
 have m0_ := nat_Bits.mono
 have m1_ := nat_Shl.mono
 have m2_ := nat_Shr.mono
 have m3_ := radix_Five.mono
 exact mX
set_option maxHeartbeats 8000000 in
set_option maxRecDepth 100000 in
theorem power_up.calls (k : Nat) (a0 : Int) (r1 : Int) (r2 : Int) (r3 : Int) (r4 : Bool) (w : World) (h : power_up.f k a0 = some (r1, r2, r3, r4)) :
  Calls Tryd.prog 98 #[.int .i64 a0] w fun e w' => e = .returned (.agg #[.int .u64 r1, .int .u64 r2, .int .i64 r3, .bool r4]) ∧ Below w.heap.size w w' := by
 have hu75 := Tryd.underlying75
 have HB := Aside0.mk (Below.refl w.heap.size w)
 have H : ((radix_Five.f k a0).bind fun bt178 => ((nat_Bits.f k bt178.1).bind fun t182 => (if (wrap64 (t182 - 128)) ≤ 0 then ((nat_Shl.f k bt178.1 (wrap64 (-(wrap64 (t182 - 128))))).bind fun bt183 => ((power_told.f bt183.1 (wrap64 (t182 - 128)) true).bind fun bt187 => (some (bt187.1, bt187.2.1, bt187.2.2.1, bt187.2.2.2)))) else ((nat_Shr.f k bt178.1 (wrap64 (t182 - 128))).bind fun bt191 => ((power_told.f bt191.1 (wrap64 (t182 - 128)) (!bt191.2.1)).bind fun bt196 => (some (bt196.1, bt196.2.1, bt196.2.2.1, bt196.2.2.2))))))) = some (r1, r2, r3, r4) := h
 clear h
 replace H := obe H
 obtain ⟨⟨t178, t179⟩, A20, H⟩ := H
 (try dsimp only at H)
 have A2 := Aside0.mk A20
 clear A20
 replace H := obe H
 obtain ⟨t182, A30, H⟩ := H
 (try dsimp only at H)
 have A3 := Aside0.mk A30
 clear A30
 by_cases c4 : (wrap64 (t182 - 128)) ≤ 0
 ·rw [if_pos c4] at H
  have c4b0 : decide ((wrap64 (t182 - 128)) ≤ 0) = true := decide_eq_true c4
  clear c4
  replace H := obe H
  obtain ⟨⟨t183, t184⟩, A50, H⟩ := H
  (try dsimp only at H)
  have A5 := Aside0.mk A50
  clear A50
  replace H := obe H
  obtain ⟨⟨t187, t188, t189, t190⟩, A60, H⟩ := H
  (try dsimp only at H)
  have A6 := Aside0.mk A60
  clear A60
  simp only [Option.some.injEq, Prod.mk.injEq] at H
  obtain ⟨rfl, rfl, rfl, rfl⟩ := H
  go_enter Tryd.func98, Tryd.ntmps98
  go_wp2_with (first | ((with_reducible refine gate_dst (N := 2) rfl ?_); refine box_event ?hg (N := 2) ?hd (cs := #[.int .u64 0, .int .u64 0, .int .i64 0, .bool false]) (t := 75) ?hr ?_; (case hd => rfl); (case hg => rfl); (case hr => first | (go_simp; done) | (go_simp; rfl)); intro gb177 hg w7 hbox hb; have BK177 := Aside0.mk (hbox); have GW177 := Aside0.mk ((by rw [hg]; exact (below_size dB) : w.heap.size ≤ gb177)); have GE177 := Aside0.mk ((by rw [hg]; exact (below_size dB) : w.heap.size ≤ gb177)); replace HB := Aside0.mk (below_step dB hb); clear hb hbox hg) | ((with_reducible refine gate_callee (f := 57) rfl ?_); refine gL (some 13) Tryd.func57 #[.int .i64 a0] ?_; (with_reducible refine (radix_Five.calls k a0 t178 t179 _ A2.out).mono ?_); rintro e w8 ⟨v180, rfl, ho0, hb⟩; refine ⟨_, rfl, ?_⟩; have HO181 := Aside0.mk (Kd.R_lower ho0 (below_size (dG GE177.out))); replace BK177 := Aside0.mk (blk_below (g := gb177) (o := .cells #[.int .u64 0, .int .u64 0, .int .i64 0, .bool false] 75 (0, 0)) (dK BK177.out) hb); replace HB := Aside0.mk (below_step (dG GE177.out) hb); (try clear hb); (try clear ho0); obtain ⟨Ao9, co9, eo9⟩ := Kd.R_slice HO181.out; subst eo9) | ((with_reducible refine gate_callee (f := 43) rfl ?_); refine gL (some 17) Tryd.func43 #[.slice Ao9 t178.length co9] ?_; (with_reducible refine (nat_Bits.calls k _ _ t178 t182 _ ?side1 ?side2 A3.out).mono ?_); (case side1 => exact dC (Kd.R_reads' HO181.out).2.2); (case side2 => exact (Kd.R_reads' HO181.out).2.1); rintro e w' ⟨rfl, ⟨nd, rfl⟩⟩; refine ⟨_, rfl, ?_⟩; (try (rw [drewN_self w8]; generalize hq_ : World.drewN w8 _ = w8; have n0_ : Aside0 (Kd.R (Kd.int .u64) 22 w8 w.heap.size (fun _ => True) (.slice Ao9 t178.length co9) t178) := ⟨by rw [← hq_]; exact (dR HO181.out)⟩; have n1_ : Aside0 (w8.heap[gb177]? = some (.cells #[.int .u64 0, .int .u64 0, .int .i64 0, .bool false] 75 (0, 0))) := ⟨by rw [← hq_]; exact (dK BK177.out)⟩; have n2_ : Aside0 (Below w.heap.size w w8) := ⟨by rw [← hq_]; exact (dG GE177.out)⟩; clear HO181 BK177 HB hq_; have HO181 := n0_; have BK177 := n1_; have HB := n2_; clear n0_ n1_ n2_))) | ((with_reducible refine gate_callee (f := 58) rfl ?_); refine gL (some 25) Tryd.func58 #[.slice Ao9 t178.length co9, .int .i64 (wrap64 (-(wrap64 (t182 - 128))))] ?_; (with_reducible refine (nat_Shl.calls k _ _ t178 (wrap64 (-(wrap64 (t182 - 128)))) t183 t184 _ ?side1 ?side2 A5.out).mono ?_); (case side1 => exact dC (Kd.R_reads' HO181.out).2.2); (case side2 => exact (Kd.R_reads' HO181.out).2.1); rintro e w10 ⟨v185, rfl, ho0, hb⟩; refine ⟨_, rfl, ?_⟩; have HO186 := Aside0.mk (Kd.R_lower (Kd.R_new' ho0 (Kd.R_lt (dR HO181.out))) (below_size (dG GE177.out))); replace HO181 := Aside0.mk (Kd.R_elder' (dR HO181.out) (Kd.R_base ho0) hb); replace BK177 := Aside0.mk (blk_below (g := gb177) (o := .cells #[.int .u64 0, .int .u64 0, .int .i64 0, .bool false] 75 (0, 0)) (dK BK177.out) hb); replace HB := Aside0.mk (below_step (dG GE177.out) hb); (try clear hb); (try clear ho0); obtain ⟨Ao11, co11, eo11⟩ := Kd.R_slice HO186.out; subst eo11) | ((with_reducible refine gate_callee (f := 114) rfl ?_); refine gL (some 30) Tryd.func114 #[.slice Ao11 t183.length co11, .int .i64 (wrap64 (t182 - 128)), .bool true] ?_; (with_reducible refine (power_told.calls _ _ t183 (wrap64 (t182 - 128)) true t187 t188 t189 t190 _ ?side1 ?side2 A6.out).mono ?_); (case side1 => exact dC (Kd.R_reads' HO186.out).2.2); (case side2 => exact (Kd.R_reads' HO186.out).2.1); rintro e w12 ⟨rfl, hb⟩; refine ⟨_, rfl, ?_⟩; replace HO181 := Aside0.mk (Kd.R_below (dR HO181.out) hb); replace HO186 := Aside0.mk (Kd.R_below (dR HO186.out) hb); replace BK177 := Aside0.mk (blk_below (g := gb177) (o := .cells #[.int .u64 0, .int .u64 0, .int .i64 0, .bool false] 75 (0, 0)) (dK BK177.out) hb); replace HB := Aside0.mk (below_step (dG GE177.out) hb); (try clear hb); obtain ⟨hcz13_0, hcz13_1, hcz13_2, hcz13_3⟩ := cz4 BK177.out; obtain ⟨hfz13_0, hfz13_1, hfz13_2, hfz13_3⟩ := fz4 BK177.out))
  refine bodyPost_ret (results_cell_row rfl _ _ gb177 75 #[.int .u64 t187, .int .u64 t188, .int .i64 t189, .bool t190] (0, 0) _ rfl (dP BK177.out) Tryd.underlying75 rfl (by kernel_rfl)) rfl ?_
  exact ⟨dE, dG GE177.out⟩
 ·rw [if_neg c4] at H
  have c4b0 : decide ((wrap64 (t182 - 128)) ≤ 0) = false := decide_eq_false c4
  clear c4
  replace H := obe H
  obtain ⟨⟨t191, t192, t193⟩, A140, H⟩ := H
  (try dsimp only at H)
  have A14 := Aside0.mk A140
  clear A140
  replace H := obe H
  obtain ⟨⟨t196, t197, t198, t199⟩, A150, H⟩ := H
  (try dsimp only at H)
  have A15 := Aside0.mk A150
  clear A150
  simp only [Option.some.injEq, Prod.mk.injEq] at H
  obtain ⟨rfl, rfl, rfl, rfl⟩ := H
  go_enter Tryd.func98, Tryd.ntmps98
  go_wp2_with (first | ((with_reducible refine gate_dst (N := 2) rfl ?_); refine box_event ?hg (N := 2) ?hd (cs := #[.int .u64 0, .int .u64 0, .int .i64 0, .bool false]) (t := 75) ?hr ?_; (case hd => rfl); (case hg => rfl); (case hr => first | (go_simp; done) | (go_simp; rfl)); intro gb177 hg w16 hbox hb; have BK177 := Aside0.mk (hbox); have GW177 := Aside0.mk ((by rw [hg]; exact (below_size dB) : w.heap.size ≤ gb177)); have GE177 := Aside0.mk ((by rw [hg]; exact (below_size dB) : w.heap.size ≤ gb177)); replace HB := Aside0.mk (below_step dB hb); clear hb hbox hg) | ((with_reducible refine gate_callee (f := 57) rfl ?_); refine gL (some 13) Tryd.func57 #[.int .i64 a0] ?_; (with_reducible refine (radix_Five.calls k a0 t178 t179 _ A2.out).mono ?_); rintro e w17 ⟨v180, rfl, ho0, hb⟩; refine ⟨_, rfl, ?_⟩; have HO181 := Aside0.mk (Kd.R_lower ho0 (below_size (dG GE177.out))); replace BK177 := Aside0.mk (blk_below (g := gb177) (o := .cells #[.int .u64 0, .int .u64 0, .int .i64 0, .bool false] 75 (0, 0)) (dK BK177.out) hb); replace HB := Aside0.mk (below_step (dG GE177.out) hb); (try clear hb); (try clear ho0); obtain ⟨Ao18, co18, eo18⟩ := Kd.R_slice HO181.out; subst eo18) | ((with_reducible refine gate_callee (f := 43) rfl ?_); refine gL (some 17) Tryd.func43 #[.slice Ao18 t178.length co18] ?_; (with_reducible refine (nat_Bits.calls k _ _ t178 t182 _ ?side1 ?side2 A3.out).mono ?_); (case side1 => exact dC (Kd.R_reads' HO181.out).2.2); (case side2 => exact (Kd.R_reads' HO181.out).2.1); rintro e w' ⟨rfl, ⟨nd, rfl⟩⟩; refine ⟨_, rfl, ?_⟩; (try (rw [drewN_self w17]; generalize hq_ : World.drewN w17 _ = w17; have n0_ : Aside0 (Kd.R (Kd.int .u64) 22 w17 w.heap.size (fun _ => True) (.slice Ao18 t178.length co18) t178) := ⟨by rw [← hq_]; exact (dR HO181.out)⟩; have n1_ : Aside0 (w17.heap[gb177]? = some (.cells #[.int .u64 0, .int .u64 0, .int .i64 0, .bool false] 75 (0, 0))) := ⟨by rw [← hq_]; exact (dK BK177.out)⟩; have n2_ : Aside0 (Below w.heap.size w w17) := ⟨by rw [← hq_]; exact (dG GE177.out)⟩; clear HO181 BK177 HB hq_; have HO181 := n0_; have BK177 := n1_; have HB := n2_; clear n0_ n1_ n2_))) | ((with_reducible refine gate_callee (f := 46) rfl ?_); refine gL (some 34) Tryd.func46 #[.slice Ao18 t178.length co18, .int .i64 (wrap64 (t182 - 128))] ?_; (with_reducible refine (nat_Shr.calls k _ _ t178 (wrap64 (t182 - 128)) t191 t192 t193 _ ?side1 ?side2 A14.out).mono ?_); (case side1 => exact dC (Kd.R_reads' HO181.out).2.2); (case side2 => exact (Kd.R_reads' HO181.out).2.1); rintro e w19 ⟨v194, rfl, ho0, hb⟩; refine ⟨_, rfl, ?_⟩; have HO195 := Aside0.mk (Kd.R_lower (Kd.R_new' ho0 (Kd.R_lt (dR HO181.out))) (below_size (dG GE177.out))); replace HO181 := Aside0.mk (Kd.R_elder' (dR HO181.out) (Kd.R_base ho0) hb); replace BK177 := Aside0.mk (blk_below (g := gb177) (o := .cells #[.int .u64 0, .int .u64 0, .int .i64 0, .bool false] 75 (0, 0)) (dK BK177.out) hb); replace HB := Aside0.mk (below_step (dG GE177.out) hb); (try clear hb); (try clear ho0); obtain ⟨Ao20, co20, eo20⟩ := Kd.R_slice HO195.out; subst eo20) | ((with_reducible refine gate_callee (f := 114) rfl ?_); refine gL (some 42) Tryd.func114 #[.slice Ao20 t191.length co20, .int .i64 (wrap64 (t182 - 128)), .bool (!t192)] ?_; (with_reducible refine (power_told.calls _ _ t191 (wrap64 (t182 - 128)) (!t192) t196 t197 t198 t199 _ ?side1 ?side2 A15.out).mono ?_); (case side1 => exact dC (Kd.R_reads' HO195.out).2.2); (case side2 => exact (Kd.R_reads' HO195.out).2.1); rintro e w21 ⟨rfl, hb⟩; refine ⟨_, rfl, ?_⟩; replace HO181 := Aside0.mk (Kd.R_below (dR HO181.out) hb); replace HO195 := Aside0.mk (Kd.R_below (dR HO195.out) hb); replace BK177 := Aside0.mk (blk_below (g := gb177) (o := .cells #[.int .u64 0, .int .u64 0, .int .i64 0, .bool false] 75 (0, 0)) (dK BK177.out) hb); replace HB := Aside0.mk (below_step (dG GE177.out) hb); (try clear hb); obtain ⟨hcz22_0, hcz22_1, hcz22_2, hcz22_3⟩ := cz4 BK177.out; obtain ⟨hfz22_0, hfz22_1, hfz22_2, hfz22_3⟩ := fz4 BK177.out))
  refine bodyPost_ret (results_cell_row rfl _ _ gb177 75 #[.int .u64 t196, .int .u64 t197, .int .i64 t198, .bool t199] (0, 0) _ rfl (dP BK177.out) Tryd.underlying75 rfl (by kernel_rfl)) rfl ?_
  exact ⟨dE, dG GE177.out⟩

def power_down.f (k : Nat) (a0 : Int) : Option (Int × Int × Int × Bool) := (radix_Five.f k (wrap64 (-a0))).bind fun bt279 => ((nat_Bits.f k bt279.1).bind fun t283 => ((nat_Shl.f k (([1] : List Int)) (wrap64 (-(wrap64 (-(wrap64 (t283 + 127))))))).bind fun bt287 => ((quot_DivMod.f k bt287.1 bt279.1).bind fun bt291 => ((power_told.f bt291.1 (wrap64 (-(wrap64 (t283 + 127)))) false).bind fun bt298 => (some (bt298.1, bt298.2.1, bt298.2.2.1, bt298.2.2.2))))))
theorem power_down.mono : ∀ a0 k, LeO (power_down.f k a0) (power_down.f (k + 1) a0) := by
 intro a0 k
 unfold power_down.f
 have m0_ := nat_Bits.mono
 have m1_ := nat_Shl.mono
 have m2_ := quot_DivMod.mono
 have m3_ := radix_Five.mono
 exact mX
set_option maxHeartbeats 8000000 in
set_option maxRecDepth 100000 in
theorem power_down.calls (k : Nat) (a0 : Int) (r1 : Int) (r2 : Int) (r3 : Int) (r4 : Bool) (w : World) (h : power_down.f k a0 = some (r1, r2, r3, r4)) :
  Calls Tryd.prog 99 #[.int .i64 a0] w fun e w' => e = .returned (.agg #[.int .u64 r1, .int .u64 r2, .int .i64 r3, .bool r4]) ∧ Below w.heap.size w w' := by
 have hu75 := Tryd.underlying75
 have HB := Aside0.mk (Below.refl w.heap.size w)
 have H : ((radix_Five.f k (wrap64 (-a0))).bind fun bt279 => ((nat_Bits.f k bt279.1).bind fun t283 => ((nat_Shl.f k (([1] : List Int)) (wrap64 (-(wrap64 (-(wrap64 (t283 + 127))))))).bind fun bt287 => ((quot_DivMod.f k bt287.1 bt279.1).bind fun bt291 => ((power_told.f bt291.1 (wrap64 (-(wrap64 (t283 + 127)))) false).bind fun bt298 => (some (bt298.1, bt298.2.1, bt298.2.2.1, bt298.2.2.2))))))) = some (r1, r2, r3, r4) := h
 clear h
 replace H := obe H
 obtain ⟨⟨t279, t280⟩, A20, H⟩ := H
 (try dsimp only at H)
 have A2 := Aside0.mk A20
 clear A20
 replace H := obe H
 obtain ⟨t283, A30, H⟩ := H
 (try dsimp only at H)
 have A3 := Aside0.mk A30
 clear A30
 obtain ⟨y284, hy284⟩ : ∃ y_ : List Int, y_ = (([1] : List Int)) := ⟨_, rfl⟩
 replace H : ((nat_Shl.f k y284 (wrap64 (-(wrap64 (-(wrap64 (t283 + 127))))))).bind fun bt287 => ((quot_DivMod.f k bt287.1 t279).bind fun bt291 => ((power_told.f bt291.1 (wrap64 (-(wrap64 (t283 + 127)))) false).bind fun bt298 => (some (bt298.1, bt298.2.1, bt298.2.2.1, bt298.2.2.2))))) = some (r1, r2, r3, r4) := by first | (rw [hy284]; with_reducible exact H) | (have H2_ := (Option.bind_some _ _).symm.trans H; rw [hy284]; with_reducible exact H2_) | (have H2_ := (Option.bind_some _ _).symm.trans H; with_reducible exact H2_) | with_reducible exact H | (rw [hy284]; exact H) | exact H
 have Ny284 := Aside0.mk hy284
 clear hy284
 replace H := obe H
 obtain ⟨⟨t287, t288⟩, A40, H⟩ := H
 (try dsimp only at H)
 have A4 := Aside0.mk A40
 clear A40
 replace H := obe H
 obtain ⟨⟨t291, t292, t293⟩, A50, H⟩ := H
 (try dsimp only at H)
 have A5 := Aside0.mk A50
 clear A50
 replace H := obe H
 obtain ⟨⟨t298, t299, t300, t301⟩, A60, H⟩ := H
 (try dsimp only at H)
 have A6 := Aside0.mk A60
 clear A60
 simp only [Option.some.injEq, Prod.mk.injEq] at H
 obtain ⟨rfl, rfl, rfl, rfl⟩ := H
 go_enter Tryd.func99, Tryd.ntmps99
 go_wp2_with (first | ((with_reducible refine gate_dst (N := 2) rfl ?_); refine box_event ?hg (N := 2) ?hd (cs := #[.int .u64 0, .int .u64 0, .int .i64 0, .bool false]) (t := 75) ?hr ?_; (case hd => rfl); (case hg => rfl); (case hr => first | (go_simp; done) | (go_simp; rfl)); intro gb278 hg w7 hbox hb; have BK278 := Aside0.mk (hbox); have GW278 := Aside0.mk ((by rw [hg]; exact (below_size dB) : w.heap.size ≤ gb278)); have GE278 := Aside0.mk ((by rw [hg]; exact (below_size dB) : w.heap.size ≤ gb278)); replace HB := Aside0.mk (below_step dB hb); clear hb hbox hg) | ((with_reducible refine gate_callee (f := 57) rfl ?_); refine gL (some 14) Tryd.func57 #[.int .i64 (wrap64 (-a0))] ?_; (with_reducible refine (radix_Five.calls k (wrap64 (-a0)) t279 t280 _ A2.out).mono ?_); rintro e w8 ⟨v281, rfl, ho0, hb⟩; refine ⟨_, rfl, ?_⟩; have HO282 := Aside0.mk (Kd.R_lower ho0 (below_size (dG GE278.out))); replace BK278 := Aside0.mk (blk_below (g := gb278) (o := .cells #[.int .u64 0, .int .u64 0, .int .i64 0, .bool false] 75 (0, 0)) (dK BK278.out) hb); replace HB := Aside0.mk (below_step (dG GE278.out) hb); (try clear hb); (try clear ho0); obtain ⟨Ao9, co9, eo9⟩ := Kd.R_slice HO282.out; subst eo9) | ((with_reducible refine gate_callee (f := 43) rfl ?_); refine gL (some 18) Tryd.func43 #[.slice Ao9 t279.length co9] ?_; (with_reducible refine (nat_Bits.calls k _ _ t279 t283 _ ?side1 ?side2 A3.out).mono ?_); (case side1 => exact dC (Kd.R_reads' HO282.out).2.2); (case side2 => exact (Kd.R_reads' HO282.out).2.1); rintro e w' ⟨rfl, ⟨nd, rfl⟩⟩; refine ⟨_, rfl, ?_⟩; (try (rw [drewN_self w8]; generalize hq_ : World.drewN w8 _ = w8; have n0_ : Aside0 (Kd.R (Kd.int .u64) 22 w8 w.heap.size (fun _ => True) (.slice Ao9 t279.length co9) t279) := ⟨by rw [← hq_]; exact (dR HO282.out)⟩; have n1_ : Aside0 (w8.heap[gb278]? = some (.cells #[.int .u64 0, .int .u64 0, .int .i64 0, .bool false] 75 (0, 0))) := ⟨by rw [← hq_]; exact (dK BK278.out)⟩; have n2_ : Aside0 (Below w.heap.size w w8) := ⟨by rw [← hq_]; exact (dG GE278.out)⟩; clear HO282 BK278 HB hq_; have HO282 := n0_; have BK278 := n1_; have HB := n2_; clear n0_ n1_ n2_))) | ((with_reducible refine gate_dst (N := 22) rfl ?_); refine Kd.R_lit (Kd.int .u64) _ 22 ?hg (N := 22) ?hd (xs := ([1] : List Int)) (inner := [.int .u64 1]) (ok := fun _ => True) (okp := fun _ => True) ?hr ?hp (fun _ hk => hk) trivial (Below.refl _ _) (Nat.le_refl _) (by simp) ?_; (case hd => rfl); (case hg => rfl); (case hr => first | (go_simp; done) | (go_simp; rfl)); (case hp => exact (Reps.one (show Kd.M (Kd.int .u64) _ _ _ 1 [.int .u64 1] from rfl) (Reps.none _ _))); intro v285 w10 ho11 hb hg_ hnew_; clear hg_ hnew_; (first | rw [← Ny284.out] at ho11 | (simp only [Int.reduceToNat] at ho11; rw [← Ny284.out] at ho11)); have HO286 := Aside0.mk (Kd.R_lower (Kd.R_new' ho11 (Kd.R_lt (dR HO282.out))) (below_size (dG GE278.out))); replace HO282 := Aside0.mk (Kd.R_elder' (dR HO282.out) (Kd.R_base ho11) hb); replace BK278 := Aside0.mk (blk_below (g := gb278) (o := .cells #[.int .u64 0, .int .u64 0, .int .i64 0, .bool false] 75 (0, 0)) (dK BK278.out) hb); replace HB := Aside0.mk (below_step (dG GE278.out) hb); clear hb ho11; obtain ⟨Ao12, co12, eo12⟩ := Kd.R_slice HO286.out; subst eo12) | ((with_reducible refine gate_callee (f := 58) rfl ?_); refine gL (some 25) Tryd.func58 #[.slice Ao12 y284.length co12, .int .i64 (wrap64 (-(wrap64 (-(wrap64 (t283 + 127))))))] ?_; (with_reducible refine (nat_Shl.calls k _ _ y284 (wrap64 (-(wrap64 (-(wrap64 (t283 + 127)))))) t287 t288 _ ?side1 ?side2 A4.out).mono ?_); (case side1 => exact dC (Kd.R_reads' HO286.out).2.2); (case side2 => exact (Kd.R_reads' HO286.out).2.1); rintro e w13 ⟨v289, rfl, ho0, hb⟩; refine ⟨_, rfl, ?_⟩; have HO290 := Aside0.mk (Kd.R_lower (Kd.R_new' (Kd.R_new' ho0 (Kd.R_lt (dR HO282.out))) (Kd.R_lt (dR HO286.out))) (below_size (dG GE278.out))); replace HO282 := Aside0.mk (Kd.R_elder' (dR HO282.out) (Kd.R_base ho0) hb); replace HO286 := Aside0.mk (Kd.R_elder' (dR HO286.out) (Kd.R_base ho0) hb); replace BK278 := Aside0.mk (blk_below (g := gb278) (o := .cells #[.int .u64 0, .int .u64 0, .int .i64 0, .bool false] 75 (0, 0)) (dK BK278.out) hb); replace HB := Aside0.mk (below_step (dG GE278.out) hb); (try clear hb); (try clear ho0); obtain ⟨Ao14, co14, eo14⟩ := Kd.R_slice HO290.out; subst eo14) | ((with_reducible refine gate_callee (f := 79) rfl ?_); refine gL (some 31) Tryd.func79 #[.slice Ao14 t287.length co14, .slice Ao9 t279.length co9] ?_; (with_reducible refine (quot_DivMod.calls k _ _ t287 _ _ t279 t291 t292 t293 _ ?side1 ?side2 ?side3 ?side4 A5.out).mono ?_); (case side1 => exact dC (Kd.R_reads' HO290.out).2.2); (case side2 => exact (Kd.R_reads' HO290.out).2.1); (case side3 => exact dC (Kd.R_reads' HO282.out).2.2); (case side4 => exact (Kd.R_reads' HO282.out).2.1); rintro e w15 ⟨v294, v296, rfl, ho0, ho1, hb⟩; refine ⟨_, rfl, ?_⟩; have HO295 := Aside0.mk (Kd.R_lower (Kd.R_new' (Kd.R_new' (Kd.R_new' ho0 (Kd.R_lt (dR HO282.out))) (Kd.R_lt (dR HO286.out))) (Kd.R_lt (dR HO290.out))) (below_size (dG GE278.out))); have HO297 := Aside0.mk (Kd.R_lower (Kd.R_new' (Kd.R_new' (Kd.R_new' ho1 (Kd.R_lt (dR HO282.out))) (Kd.R_lt (dR HO286.out))) (Kd.R_lt (dR HO290.out))) (below_size (dG GE278.out))); replace HO282 := Aside0.mk (Kd.R_mono (Kd.R_told (Kd.R_told (Kd.R_old (dR HO282.out) hb) (Kd.R_base ho0)) (Kd.R_base ho1)) (fun _ h_ => h_.1)); replace HO286 := Aside0.mk (Kd.R_mono (Kd.R_told (Kd.R_told (Kd.R_old (dR HO286.out) hb) (Kd.R_base ho0)) (Kd.R_base ho1)) (fun _ h_ => h_.1)); replace HO290 := Aside0.mk (Kd.R_mono (Kd.R_told (Kd.R_told (Kd.R_old (dR HO290.out) hb) (Kd.R_base ho0)) (Kd.R_base ho1)) (fun _ h_ => h_.1)); replace BK278 := Aside0.mk (blk_below (g := gb278) (o := .cells #[.int .u64 0, .int .u64 0, .int .i64 0, .bool false] 75 (0, 0)) (dK BK278.out) hb); replace HB := Aside0.mk (below_step (dG GE278.out) hb); (try clear hb); (try clear ho0); (try clear ho1); obtain ⟨Ao16, co16, eo16⟩ := Kd.R_slice HO295.out; subst eo16) | ((with_reducible refine gate_callee (f := 114) rfl ?_); refine gL (some 37) Tryd.func114 #[.slice Ao16 t291.length co16, .int .i64 (wrap64 (-(wrap64 (t283 + 127)))), .bool false] ?_; (with_reducible refine (power_told.calls _ _ t291 (wrap64 (-(wrap64 (t283 + 127)))) false t298 t299 t300 t301 _ ?side1 ?side2 A6.out).mono ?_); (case side1 => exact dC (Kd.R_reads' HO295.out).2.2); (case side2 => exact (Kd.R_reads' HO295.out).2.1); rintro e w17 ⟨rfl, hb⟩; refine ⟨_, rfl, ?_⟩; replace HO282 := Aside0.mk (Kd.R_below (dR HO282.out) hb); replace HO286 := Aside0.mk (Kd.R_below (dR HO286.out) hb); replace HO290 := Aside0.mk (Kd.R_below (dR HO290.out) hb); replace HO295 := Aside0.mk (Kd.R_below (dR HO295.out) hb); replace HO297 := Aside0.mk (Kd.R_below (dR HO297.out) hb); replace BK278 := Aside0.mk (blk_below (g := gb278) (o := .cells #[.int .u64 0, .int .u64 0, .int .i64 0, .bool false] 75 (0, 0)) (dK BK278.out) hb); replace HB := Aside0.mk (below_step (dG GE278.out) hb); (try clear hb); obtain ⟨hcz18_0, hcz18_1, hcz18_2, hcz18_3⟩ := cz4 BK278.out; obtain ⟨hfz18_0, hfz18_1, hfz18_2, hfz18_3⟩ := fz4 BK278.out))
 refine bodyPost_ret (results_cell_row rfl _ _ gb278 75 #[.int .u64 t298, .int .u64 t299, .int .i64 t300, .bool t301] (0, 0) _ rfl (dP BK278.out) Tryd.underlying75 rfl (by kernel_rfl)) rfl ?_
 exact ⟨dE, dG GE278.out⟩

-- NOT PRINTED: function 72 (power_sides)

theorem power_sides.calls (w : World) : Calls Tryd.prog 72 #[] w fun e w' => e = .returned (.agg #[.func (.func 98) #[] #[], .func (.func 99) #[] #[]]) ∧ Below w.heap.size w w' := by
 go_enter Tryd.func72, Tryd.ntmps72
 go_wp2
 refine bodyPost_ret (results_cell_row rfl _ _ w.heap.size 113 #[.func (.func 98) #[] #[], .func (.func 99) #[] #[]] (0, 0) _ rfl (by first | exact blk_new w _ | (simp; done)) (by exact Tryd.underlying113) rfl (by kernel_rfl)) rfl ?_
 exact ⟨rfl, by repeat (first | exact Below.refl _ _ | apply below_alloc)⟩
def power_at.j0 : Nat → Int → Bool → Option (Int × Int × Int × Bool × Bool)
 | 0, _, _ => none
 | k + 1, x0, x10 => if x10 = true then (some (0, 0, 0, false, false)) else (if x0 < 0 then ((power_down.f k x0).bind fun bt303 => (some (bt303.1, bt303.2.1, bt303.2.2.1, bt303.2.2.2, true))) else ((power_up.f k x0).bind fun bt307 => (some (bt307.1, bt307.2.1, bt307.2.2.1, bt307.2.2.2, true))))
def power_at.f (k : Nat) (a0 : Int) : Option (Int × Int × Int × Bool × Bool) := if a0 < (-348) then (power_at.j0 k a0 true) else (power_at.j0 k a0 (decide (a0 > 347)))
theorem power_at.mono_l : ∀ k, (∀ y0 y1, LeO (power_at.j0 k y0 y1) (power_at.j0 (k + 1) y0 y1))
 | 0 => fun _ _ r h => by simp [power_at.j0] at h
 | k + 1 => by
  have ih0 := power_at.mono_l k
  ·intro y0 y1
   unfold power_at.j0
   have m0_ := power_down.mono
   have m1_ := power_up.mono
   exact mX
theorem power_at.mono : ∀ a0 k, LeO (power_at.f k a0) (power_at.f (k + 1) a0) := by
 intro a0 k
 have ih0 := power_at.mono_l k
 unfold power_at.f
 have m0_ := power_down.mono
 have m1_ := power_up.mono
 exact mX
set_option maxHeartbeats 8000000 in
set_option maxRecDepth 100000 in
theorem power_at.calls (k : Nat) (a0 : Int) (r1 : Int) (r2 : Int) (r3 : Int) (r4 : Bool) (r5 : Bool) (w : World) (h : power_at.f k a0 = some (r1, r2, r3, r4, r5)) :
  Calls Tryd.prog 40 #[.int .i64 a0] w fun e w' => e = .returned (.tuple #[.agg #[.int .u64 r1, .int .u64 r2, .int .i64 r3, .bool r4], .bool r5]) ∧ Below w.heap.size w w' := by
 have hu75 := Tryd.underlying75
 have HB := Aside0.mk (Below.refl w.heap.size w)
 have H : (if a0 < (-348) then (power_at.j0 k a0 true) else (power_at.j0 k a0 (decide (a0 > 347)))) = some (r1, r2, r3, r4, r5) := h
 clear h
 have HC2 := Aside0.mk H
 clear H
 go_enter Tryd.func40, Tryd.ntmps40
 go_upto_region 1 with (first | ((with_reducible refine gate_dst (N := 2) rfl ?_); refine box_event ?hg (N := 2) ?hd (cs := #[.int .u64 0, .int .u64 0, .int .i64 0, .bool false]) (t := 75) ?hr ?_; (case hd => rfl); (case hg => rfl); (case hr => first | (go_simp; done) | (go_simp; rfl)); intro gb302 hg w3 hbox hb; have BK302 := Aside0.mk (hbox); have GW302 := Aside0.mk ((by rw [hg]; exact (below_size dB) : w.heap.size ≤ gb302)); have GE302 := Aside0.mk ((by rw [hg]; exact (below_size dB) : w.heap.size ≤ gb302)); replace HB := Aside0.mk (below_step dB hb); clear hb hbox hg))
 (try simp only [Act.put, List.setIfInBounds_toArray, List.set_cons_zero, List.set_cons_succ])
 go_cut [10] (fun v10 wc => ∃ (kq : Nat) (x10_1 : Bool), v10 = .bool x10_1 ∧ Aside0 (power_at.j0 kq a0 x10_1 = some (r1, r2, r3, r4, r5)) ∧ Aside0 (kq ≤ k) ∧ Aside0 (wc.heap[gb302]? = some (.cells #[.int .u64 0, .int .u64 0, .int .i64 0, .bool false] 75 (0, 0))) ∧ Aside0 (Below w.heap.size w wc))
 case first =>
  have H := HC2.out
  clear HC2
  by_cases c4 : a0 < (-348)
  ·rw [if_pos c4] at H
   have c4b0 : decide (a0 < (-348)) = true := decide_eq_true c4
   clear c4
   (first | rw [c4b0] | (simp only [i64_w, i32_w]; rw [c4b0]) | skip)
   have H' := Aside0.mk H
   clear H
   go_wp2
   go_meet
   case rel => exact ⟨_, (true), dF, H', ⟨dN⟩, ⟨dK BK302.out⟩, ⟨dG GE302.out⟩⟩
  ·rw [if_neg c4] at H
   have c4b0 : decide (a0 < (-348)) = false := decide_eq_false c4
   clear c4
   (first | rw [c4b0] | (simp only [i64_w, i32_w]; rw [c4b0]) | skip)
   have H' := Aside0.mk H
   clear H
   go_wp2
   go_meet
   case rel => exact ⟨_, (decide (a0 > 347)), dF, H', ⟨dN⟩, ⟨dK BK302.out⟩, ⟨dG GE302.out⟩⟩
 case rest =>
  clear HC2
  obtain ⟨kq, x10_1, rfl, HA, HJ1, BK302, HB⟩ := hcut
  cases kq with
  | zero => exact absurd HA.out (by simp [power_at.j0])
  | succ kj1 =>
   have H := HA.out
   clear HA
   simp only [power_at.j0] at H
   by_cases c5 : x10_1 = true
   ·subst c5
    have H1 : (some (0, 0, 0, false, false)) = some (r1, r2, r3, r4, r5) := by rw [if_pos rfl] at H; exact H
    clear H
    have H := H1
    clear H1
    simp only [Option.some.injEq, Prod.mk.injEq] at H
    obtain ⟨rfl, rfl, rfl, rfl, rfl⟩ := H
    obtain ⟨hcz6_0, hcz6_1, hcz6_2, hcz6_3⟩ := cz4 BK302.out
    obtain ⟨hfz6_0, hfz6_1, hfz6_2, hfz6_3⟩ := fz4 BK302.out
    go_wp2
    refine bodyPost_ret (results_ct rfl _ _ gb302 75 #[.int .u64 0, .int .u64 0, .int .i64 0, .bool false] (0, 0) _ rfl (dP BK302.out) Tryd.underlying75 rfl (by kernel_rfl)) rfl ?_
    exact ⟨dE, dG GE302.out⟩
   ·replace c5 := Bool.eq_false_iff.mpr c5
    subst c5
    have H1 : (if a0 < 0 then ((power_down.f kj1 a0).bind fun bt303 => (some (bt303.1, bt303.2.1, bt303.2.2.1, bt303.2.2.2, true))) else ((power_up.f kj1 a0).bind fun bt307 => (some (bt307.1, bt307.2.1, bt307.2.2.1, bt307.2.2.2, true)))) = some (r1, r2, r3, r4, r5) := by rw [if_neg (show ¬ (false = true) by decide)] at H; exact H
    clear H
    have H := H1
    clear H1
    by_cases c7 : a0 < 0
    ·rw [if_pos c7] at H
     have c7b0 : decide (a0 < 0) = true := decide_eq_true c7
     clear c7
     replace H := obe H
     obtain ⟨⟨t303, t304, t305, t306⟩, A80, H⟩ := H
     (try dsimp only at H)
     have A8 := Aside0.mk A80
     clear A80
     simp only [Option.some.injEq, Prod.mk.injEq] at H
     obtain ⟨rfl, rfl, rfl, rfl, rfl⟩ := H
     go_wp2_with (first | ((with_reducible refine gate_callee (f := 72) rfl ?_); refine goesL_ (some 12) rfl rfl Tryd.func72 (by kernel_rfl) rfl #[] rfl (by simp) ?_; (with_reducible refine (power_sides.calls _).mono ?_); rintro e w99 ⟨rfl, hb⟩; refine ⟨_, rfl, ?_⟩; replace BK302 := Aside0.mk (blk_below (g := gb302) (o := .cells #[.int .u64 0, .int .u64 0, .int .i64 0, .bool false] 75 (0, 0)) (dK BK302.out) hb); replace HB := Aside0.mk (below_step (dG GE302.out) hb); (try clear hb); obtain ⟨hcs10_0, hcs10_1, hcs10_2, hcs10_3⟩ := cz4 BK302.out; obtain ⟨hfs10_0, hfs10_1, hfs10_2, hfs10_3⟩ := fz4 BK302.out) | ((with_reducible refine gate_dst (N := 19) rfl ?_); refine goesF_ (some 19) rfl rfl Tryd.func99 (by kernel_rfl) rfl #[.int .i64 a0] rfl (by first | rfl | (go_simp; done)) (by (try simp only [List.map_toArray, List.map_cons, List.map_nil]); first | done | rfl) ?_; (with_reducible refine (power_down.calls kj1 a0 t303 t304 t305 t306 _ A8.out).mono ?_); rintro e w9 ⟨rfl, hb⟩; refine ⟨_, rfl, ?_⟩; replace BK302 := Aside0.mk (blk_below (g := gb302) (o := .cells #[.int .u64 0, .int .u64 0, .int .i64 0, .bool false] 75 (0, 0)) (dK BK302.out) hb); replace HB := Aside0.mk (below_step (dG GE302.out) hb); (try clear hb); obtain ⟨hcz10_0, hcz10_1, hcz10_2, hcz10_3⟩ := cz4 BK302.out; obtain ⟨hfz10_0, hfz10_1, hfz10_2, hfz10_3⟩ := fz4 BK302.out))
     refine bodyPost_ret (results_ct rfl _ _ gb302 75 #[.int .u64 t303, .int .u64 t304, .int .i64 t305, .bool t306] (0, 0) _ rfl (dP BK302.out) Tryd.underlying75 rfl (by kernel_rfl)) rfl ?_
     exact ⟨dE, dG GE302.out⟩
    ·rw [if_neg c7] at H
     have c7b0 : decide (a0 < 0) = false := decide_eq_false c7
     clear c7
     replace H := obe H
     obtain ⟨⟨t307, t308, t309, t310⟩, A110, H⟩ := H
     (try dsimp only at H)
     have A11 := Aside0.mk A110
     clear A110
     simp only [Option.some.injEq, Prod.mk.injEq] at H
     obtain ⟨rfl, rfl, rfl, rfl, rfl⟩ := H
     go_wp2_with (first | ((with_reducible refine gate_callee (f := 72) rfl ?_); refine goesL_ (some 12) rfl rfl Tryd.func72 (by kernel_rfl) rfl #[] rfl (by simp) ?_; (with_reducible refine (power_sides.calls _).mono ?_); rintro e w912 ⟨rfl, hb⟩; refine ⟨_, rfl, ?_⟩; replace BK302 := Aside0.mk (blk_below (g := gb302) (o := .cells #[.int .u64 0, .int .u64 0, .int .i64 0, .bool false] 75 (0, 0)) (dK BK302.out) hb); replace HB := Aside0.mk (below_step (dG GE302.out) hb); (try clear hb); obtain ⟨hcs13_0, hcs13_1, hcs13_2, hcs13_3⟩ := cz4 BK302.out; obtain ⟨hfs13_0, hfs13_1, hfs13_2, hfs13_3⟩ := fz4 BK302.out) | ((with_reducible refine gate_dst (N := 24) rfl ?_); refine goesF_ (some 24) rfl rfl Tryd.func98 (by kernel_rfl) rfl #[.int .i64 a0] rfl (by first | rfl | (go_simp; done)) (by (try simp only [List.map_toArray, List.map_cons, List.map_nil]); first | done | rfl) ?_; (with_reducible refine (power_up.calls kj1 a0 t307 t308 t309 t310 _ A11.out).mono ?_); rintro e w12 ⟨rfl, hb⟩; refine ⟨_, rfl, ?_⟩; replace BK302 := Aside0.mk (blk_below (g := gb302) (o := .cells #[.int .u64 0, .int .u64 0, .int .i64 0, .bool false] 75 (0, 0)) (dK BK302.out) hb); replace HB := Aside0.mk (below_step (dG GE302.out) hb); (try clear hb); obtain ⟨hcz13_0, hcz13_1, hcz13_2, hcz13_3⟩ := cz4 BK302.out; obtain ⟨hfz13_0, hfz13_1, hfz13_2, hfz13_3⟩ := fz4 BK302.out))
     refine bodyPost_ret (results_ct rfl _ _ gb302 75 #[.int .u64 t307, .int .u64 t308, .int .i64 t309, .bool t310] (0, 0) _ rfl (dP BK302.out) Tryd.underlying75 rfl (by kernel_rfl)) rfl ?_
     exact ⟨dE, dG GE302.out⟩

def power_Five.f (k : Nat) (a0 : Int) : Option (Int × Int × Int × Int) := (power_at.f k a0).bind fun bt311 => (if bt311.2.2.2.2 = true then (some (bt311.1, bt311.2.1, bt311.2.2.1, 0)) else (some (0, 0, 0, 80)))
theorem power_Five.mono : ∀ a0 k, LeO (power_Five.f k a0) (power_Five.f (k + 1) a0) := by
 intro a0 k
 unfold power_Five.f
 have m0_ := power_at.mono
 exact mX
set_option maxHeartbeats 8000000 in
set_option maxRecDepth 100000 in
theorem power_Five.calls (k : Nat) (a0 : Int) (r1 : Int) (r2 : Int) (r3 : Int) (r4 : Int) (w : World) (h : power_Five.f k a0 = some (r1, r2, r3, r4)) :
  Calls Tryd.prog 18 #[.int .i64 a0] w fun e w' => e = .returned (.tuple #[.int .u64 r1, .int .u64 r2, .int .i64 r3, .int .i64 r4]) ∧ Below w.heap.size w w' := by
 have hu75 := Tryd.underlying75
 have hu73 := Tryd.underlying73
 have HB := Aside0.mk (Below.refl w.heap.size w)
 have H : ((power_at.f k a0).bind fun bt311 => (if bt311.2.2.2.2 = true then (some (bt311.1, bt311.2.1, bt311.2.2.1, 0)) else (some (0, 0, 0, 80)))) = some (r1, r2, r3, r4) := h
 clear h
 replace H := obe H
 obtain ⟨⟨t311, t312, t313, t314, t315⟩, A20, H⟩ := H
 (try dsimp only at H)
 have A2 := Aside0.mk A20
 clear A20
 by_cases c3 : t315 = true
 ·subst c3
  have H1 : (some (t311, t312, t313, 0)) = some (r1, r2, r3, r4) := by rw [if_pos rfl] at H; exact H
  clear H
  have H := H1
  clear H1
  simp only [Option.some.injEq, Prod.mk.injEq] at H
  obtain ⟨rfl, rfl, rfl, rfl⟩ := H
  go_enter Tryd.func18, Tryd.ntmps18
  iterate 6 (go_wp2_with (first | (go_at_call 40; (with_reducible refine (power_at.calls k a0 t311 t312 t313 t314 true _ A2.out).mono ?_); rintro e w4 ⟨rfl, hb⟩; replace HB := Aside0.mk (below_step dB hb); (try clear hb)) | ((with_reducible refine gate_dst (N := 6) rfl ?_); refine box_event ?hg (N := 6) ?hd (cs := #[.int .u64 0, .int .u64 0, .int .i64 0, .bool false]) (t := 75) ?hr ?_; (case hd => rfl); (case hg => rfl); (case hr => first | (go_simp; done) | (go_simp; rfl)); intro gb316 hg w5 hbox hb; have BK316 := Aside0.mk (hbox); have GW316 := Aside0.mk ((by rw [hg]; exact (below_size dB) : w.heap.size ≤ gb316)); have GE316 := Aside0.mk ((by rw [hg]; exact (below_size dB) : w.heap.size ≤ gb316)); replace HB := Aside0.mk (below_step dB hb); clear hb hbox hg; obtain ⟨hcz6_0, hcz6_1, hcz6_2, hcz6_3⟩ := cz4 BK316.out; obtain ⟨hfz6_0, hfz6_1, hfz6_2, hfz6_3⟩ := fz4 BK316.out) | ((with_reducible refine gate_dst (N := 8) rfl ?_); refine box_event ?hg (N := 8) ?hd (cs := #[.int .u64 0, .int .u64 0]) (t := 73) ?hr ?_; (case hd => rfl); (case hg => rfl); (case hr => first | (go_simp; done) | (go_simp; rfl)); intro gb317 hg w7 hbox hb; have BK317 := Aside0.mk (hbox); have GW317 := Aside0.mk ((by rw [hg]; exact (below_size (dG GE316.out)) : w.heap.size ≤ gb317)); have GE317 := Aside0.mk ((by rw [hg]; exact (below_size (dG GE316.out)) : w.heap.size ≤ gb317)); replace HB := Aside0.mk (below_step (dG GE316.out) hb); have NB316_317 := Aside0.mk ((by rw [hg]; exact Nat.ne_of_lt (blk_lt (g := gb316) (o := .cells #[.int .u64 t311, .int .u64 t312, .int .i64 t313, .bool t314] 75 (0, 0)) (dP BK316.out)) : gb316 ≠ gb317)); have NB317_316 := Aside0.mk ((by rw [hg]; exact Nat.ne_of_gt (blk_lt (g := gb316) (o := .cells #[.int .u64 t311, .int .u64 t312, .int .i64 t313, .bool t314] 75 (0, 0)) (dP BK316.out)) : gb317 ≠ gb316)); replace BK316 := Aside0.mk (blk_below (g := gb316) (o := .cells #[.int .u64 t311, .int .u64 t312, .int .i64 t313, .bool t314] 75 (0, 0)) (dP BK316.out) hb); clear hb hbox hg; have hnb8 := NB317_316.out; have hnc8 := NB316_317.out; obtain ⟨hcz9_0, hcz9_1⟩ := cz2 BK317.out; obtain ⟨hfz9_0, hfz9_1⟩ := fz2 BK317.out; obtain ⟨hcz10_0, hcz10_1, hcz10_2, hcz10_3⟩ := cz4 BK316.out; obtain ⟨hfz10_0, hfz10_1, hfz10_2, hfz10_3⟩ := fz4 BK316.out)); try go_quiet (fail))
  refine bodyPost_ret (results_list (rs := [.tmp 2, .tmp 3, .tmp 4, .tmp 5]) rfl (by simp) (.tmp (.tmp (.tmp (.tmp .nil))))) rfl ?_
  exact ⟨dE, by repeat (first | (with_reducible first | exact HB.out | apply below_alloc | apply pw_below_drewN | apply below_drew1 | refine below_set ?_ GE316.out | refine below_set ?_ GE317.out) | exact HB.out)⟩
 ·replace c3 := Bool.eq_false_iff.mpr c3
  subst c3
  have H1 : (some (0, 0, 0, 80)) = some (r1, r2, r3, r4) := by rw [if_neg (show ¬ (false = true) by decide)] at H; exact H
  clear H
  have H := H1
  clear H1
  simp only [Option.some.injEq, Prod.mk.injEq] at H
  obtain ⟨rfl, rfl, rfl, rfl⟩ := H
  go_enter Tryd.func18, Tryd.ntmps18
  iterate 6 (go_wp2_with (first | (go_at_call 40; (with_reducible refine (power_at.calls k a0 t311 t312 t313 t314 false _ A2.out).mono ?_); rintro e w11 ⟨rfl, hb⟩; replace HB := Aside0.mk (below_step dB hb); (try clear hb)) | ((with_reducible refine gate_dst (N := 6) rfl ?_); refine box_event ?hg (N := 6) ?hd (cs := #[.int .u64 0, .int .u64 0, .int .i64 0, .bool false]) (t := 75) ?hr ?_; (case hd => rfl); (case hg => rfl); (case hr => first | (go_simp; done) | (go_simp; rfl)); intro gb316 hg w12 hbox hb; have BK316 := Aside0.mk (hbox); have GW316 := Aside0.mk ((by rw [hg]; exact (below_size dB) : w.heap.size ≤ gb316)); have GE316 := Aside0.mk ((by rw [hg]; exact (below_size dB) : w.heap.size ≤ gb316)); replace HB := Aside0.mk (below_step dB hb); clear hb hbox hg; obtain ⟨hcz13_0, hcz13_1, hcz13_2, hcz13_3⟩ := cz4 BK316.out; obtain ⟨hfz13_0, hfz13_1, hfz13_2, hfz13_3⟩ := fz4 BK316.out)); try go_quiet (fail))
  refine bodyPost_ret (results_list (rs := [.tmp 2, .tmp 3, .tmp 4, .tmp 5]) rfl (by simp) (.tmp (.tmp (.tmp (.tmp .nil))))) rfl ?_
  exact ⟨dE, dG GE316.out⟩


end Go.Proofs.YtoannkopciehcaaDoor.PA
