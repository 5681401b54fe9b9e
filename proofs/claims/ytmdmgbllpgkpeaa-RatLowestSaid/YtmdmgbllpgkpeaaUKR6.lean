/- A part of the proof (6). -/
import Derived.Test.YtmdmgbllpgkpeaaUKR2
import Derived.Test.YtmdmgbllpgkpeaaUKR3
import Derived.Test.YtmdmgbllpgkpeaaUKR5
namespace Go.Proofs.Ytmdmgbllpgkpeaa.PA
open Go.RowKit Go.Proofs.YtmdmgbllpgkpeaaW.PrintWords Go.Proofs.YtmdmgbllpgkpeaaW.PrintLast Go.Proofs.YtmdmgbllpgkpeaaW.PrintMore
attribute [local go_sem] max2_int min2_int max_two min_two max_three min_three max_four min_four   -- for this text's walks alone
set_option linter.unusedVariables false
set_option linter.unusedSimpArgs false

/-! ### quot_DivMod: function 52 -/
def quot_DivMod.f (k : Nat) (l0 : List Int) (l1 : List Int) : Option (List Int × List Int × Int) := (nat_Norm.f l0).bind fun t181 => ((nat_Norm.f l1).bind fun t184 => (if (t184.length : Int) = 0 then (some (([] : List Int), ([] : List Int), 30)) else ((nat_Cmp.f k t181 t184).bind fun t187 => (if t187 < 0 then (some (([] : List Int), t181, 0)) else (if (t184.length : Int) = 1 then (if 0 < (t184.length : Int) then ((quot_Small.f k t181 (rd t184 0)).bind fun bt189 => ((nat_From.f bt189.2.1).bind fun t194 => (some (bt189.1, t194, 0)))) else (none)) else ((quot_long.f k t181 t184).bind fun bt197 => (some (bt197.1, bt197.2, 0))))))))
theorem quot_DivMod.mono : ∀ a0 a1 k, LeO (quot_DivMod.f k a0 a1) (quot_DivMod.f (k + 1) a0 a1) := by
 intro a0 a1 k
 unfold quot_DivMod.f
 have m0_ := nat_Cmp.mono
 have m1_ := quot_Small.mono
 have m2_ := quot_long.mono
 exact mX
set_option maxHeartbeats 8000000 in
set_option maxRecDepth 100000 in
theorem quot_DivMod.calls (k : Nat) (A0 : Option Addr) (c0 : Nat) (l0 : List Int) (A1 : Option Addr) (c1 : Nat) (l1 : List Int) (r1 : List Int) (r2 : List Int) (r3 : Int) (w : World) (hr0 : Kd.C (Kd.int .u64) w A0 l0.length l0) (hc0 : l0.length ≤ c0) (hr1 : Kd.C (Kd.int .u64) w A1 l1.length l1) (hc1 : l1.length ≤ c1) (h : quot_DivMod.f k l0 l1 = some (r1, r2, r3)) :
  Calls Try.prog 52 #[.slice A0 l0.length c0, .slice A1 l1.length c1] w fun e w' => ∃ v0_ v1_ : Value, e = .returned (.tuple #[v0_, v1_, .int .i64 r3]) ∧ Kd.R (Kd.int .u64) 25 w' w.heap.size (fun k_ => some k_ ≠ (v1_ : Value).ownBlock) v0_ r1 ∧ Kd.R (Kd.int .u64) 25 w' w.heap.size (fun k_ => some k_ ≠ (v0_ : Value).ownBlock) v1_ r2 ∧ Below w.heap.size w w' := by
 have HR0 := Aside0.mk hr0
 have HC0 := Aside0.mk hc0
 clear hr0 hc0
 have HR1 := Aside0.mk hr1
 have HC1 := Aside0.mk hc1
 clear hr1 hc1
 have HB := Aside0.mk (Below.refl w.heap.size w)
 have H : ((nat_Norm.f l0).bind fun t181 => ((nat_Norm.f l1).bind fun t184 => (if (t184.length : Int) = 0 then (some (([] : List Int), ([] : List Int), 30)) else ((nat_Cmp.f k t181 t184).bind fun t187 => (if t187 < 0 then (some (([] : List Int), t181, 0)) else (if (t184.length : Int) = 1 then (if 0 < (t184.length : Int) then ((quot_Small.f k t181 (rd t184 0)).bind fun bt189 => ((nat_From.f bt189.2.1).bind fun t194 => (some (bt189.1, t194, 0)))) else (none)) else ((quot_long.f k t181 t184).bind fun bt197 => (some (bt197.1, bt197.2, 0))))))))) = some (r1, r2, r3) := h
 clear h
 replace H := obe H
 obtain ⟨t181, A30, H⟩ := H
 (try dsimp only at H)
 have A3 := Aside0.mk A30
 clear A30
 replace H := obe H
 obtain ⟨t184, A40, H⟩ := H
 (try dsimp only at H)
 have A4 := Aside0.mk A40
 clear A40
 by_cases c5 : (t184.length : Int) = 0
 ·rw [if_pos c5] at H
  have c5b0 : ((t184.length : Int) == 0) = true := beq_iff_eq.mpr c5
  have c5b1 : ((t184.length : Int) != 0) = false := bne_eq_false_iff_eq.mpr c5
  clear c5
  simp only [Option.some.injEq, Prod.mk.injEq] at H
  obtain ⟨rfl, rfl, rfl⟩ := H
  go_enter Try.func52, Try.ntmps52
  go_wp2_with (first | ((with_reducible refine gate_callee (f := 51) rfl ?_); refine gL (some 13) Try.func51 #[.slice A0 l0.length c0] ?_; (with_reducible refine (nat_Norm.calls _ _ l0 t181 _ ?side1 ?side2 A3.out).mono ?_); (case side1 => exact dC HR0.out); (case side2 => exact HC0.out); rintro e w6 ⟨v182, rfl, ho0, hb⟩; refine ⟨_, rfl, ?_⟩; have HO183 := Aside0.mk (Kd.R_lower ho0 (below_size dB)); replace HB := Aside0.mk (below_step dB hb); (try clear hb); (try clear ho0)) | ((with_reducible refine gate_callee (f := 51) rfl ?_); refine gL (some 15) Try.func51 #[.slice A1 l1.length c1] ?_; (with_reducible refine (nat_Norm.calls _ _ l1 t184 _ ?side1 ?side2 A4.out).mono ?_); (case side1 => exact dC (Kd.C_below HR1.out HB.out)); (case side2 => exact HC1.out); rintro e w7 ⟨v185, rfl, ho0, hb⟩; refine ⟨_, rfl, ?_⟩; have HO186 := Aside0.mk (Kd.R_lower (Kd.R_new' ho0 (Kd.R_lt (dR HO183.out))) (below_size dB)); replace HO183 := Aside0.mk (Kd.R_elder' (dR HO183.out) (Kd.R_base ho0) hb); replace HB := Aside0.mk (below_step dB hb); (try clear hb); (try clear ho0); obtain ⟨Ao8, co8, eo8⟩ := Kd.R_slice HO186.out; subst eo8))
  go_ret3
  exact ⟨_, _, dE, by first | exact Kd.R_nil _ _ _ _ _ | exact Kd.N_nil _ _ _ _ _ | exact Kd.V_nil _ _ _ _ _ | exact Kd.Q_nil _ _ _ _ _ | exact Kd.S_nil _ _ _ _ _, by first | exact Kd.R_nil _ _ _ _ _ | exact Kd.N_nil _ _ _ _ _ | exact Kd.V_nil _ _ _ _ _ | exact Kd.Q_nil _ _ _ _ _ | exact Kd.S_nil _ _ _ _ _, dB⟩
 ·rw [if_neg c5] at H
  have c5b0 : ((t184.length : Int) == 0) = false := beq_eq_false_iff_ne.mpr c5
  have c5b1 : ((t184.length : Int) != 0) = true := bne_iff_ne.mpr c5
  have c5b2 : ¬ (t184 = []) := fun h_ => c5 (by rw [h_]; rfl)
  replace H := obe H
  obtain ⟨t187, A90, H⟩ := H
  (try dsimp only at H)
  have A9 := Aside0.mk A90
  clear A90
  by_cases c10 : t187 < 0
  ·rw [if_pos c10] at H
   have c10b0 : decide (t187 < 0) = true := decide_eq_true c10
   clear c10
   simp only [Option.some.injEq, Prod.mk.injEq] at H
   obtain ⟨rfl, rfl, rfl⟩ := H
   go_enter Try.func52, Try.ntmps52
   go_wp2_with (first | ((with_reducible refine gate_callee (f := 51) rfl ?_); refine gL (some 13) Try.func51 #[.slice A0 l0.length c0] ?_; (with_reducible refine (nat_Norm.calls _ _ l0 t181 _ ?side1 ?side2 A3.out).mono ?_); (case side1 => exact dC HR0.out); (case side2 => exact HC0.out); rintro e w11 ⟨v182, rfl, ho0, hb⟩; refine ⟨_, rfl, ?_⟩; have HO183 := Aside0.mk (Kd.R_lower ho0 (below_size dB)); replace HB := Aside0.mk (below_step dB hb); (try clear hb); (try clear ho0)) | ((with_reducible refine gate_callee (f := 51) rfl ?_); refine gL (some 15) Try.func51 #[.slice A1 l1.length c1] ?_; (with_reducible refine (nat_Norm.calls _ _ l1 t184 _ ?side1 ?side2 A4.out).mono ?_); (case side1 => exact dC (Kd.C_below HR1.out HB.out)); (case side2 => exact HC1.out); rintro e w12 ⟨v185, rfl, ho0, hb⟩; refine ⟨_, rfl, ?_⟩; have HO186 := Aside0.mk (Kd.R_lower (Kd.R_new' ho0 (Kd.R_lt (dR HO183.out))) (below_size dB)); replace HO183 := Aside0.mk (Kd.R_elder' (dR HO183.out) (Kd.R_base ho0) hb); replace HB := Aside0.mk (below_step dB hb); (try clear hb); (try clear ho0); obtain ⟨Ao13, co13, eo13⟩ := Kd.R_slice HO186.out; subst eo13; obtain ⟨Ao14, co14, eo14⟩ := Kd.R_slice HO183.out; subst eo14) | ((with_reducible refine gate_callee (f := 61) rfl ?_); refine gL (some 23) Try.func61 #[.slice Ao14 t181.length co14, .slice Ao13 t184.length co13] ?_; (with_reducible refine (nat_Cmp.calls k _ _ t181 _ _ t184 t187 _ ?side1 ?side2 ?side3 ?side4 A9.out).mono ?_); (case side1 => exact dC (Kd.R_reads' HO183.out).2.2); (case side2 => exact (Kd.R_reads' HO183.out).2.1); (case side3 => exact dC (Kd.R_reads' HO186.out).2.2); (case side4 => exact (Kd.R_reads' HO186.out).2.1); rintro e w' ⟨rfl, ⟨nd, rfl⟩⟩; refine ⟨_, rfl, ?_⟩))
   go_ret3
   exact ⟨_, _, dE, by first | exact Kd.R_nil _ _ _ _ _ | exact Kd.N_nil _ _ _ _ _ | exact Kd.V_nil _ _ _ _ _ | exact Kd.Q_nil _ _ _ _ _ | exact Kd.S_nil _ _ _ _ _, by (with_reducible repeat (first | apply Kd.R_alloc | apply Kd.R_drewN | apply Kd.R_drew)); exact Kd.R_mono HO183.out (fun _ hk => (by simp [Value.ownBlock])), dB⟩
  ·rw [if_neg c10] at H
   have c10b0 : decide (t187 < 0) = false := decide_eq_false c10
   clear c10
   by_cases c15 : (t184.length : Int) = 1
   ·rw [if_pos c15] at H
    have c15b0 : ((t184.length : Int) == 1) = true := beq_iff_eq.mpr c15
    have c15b1 : ((t184.length : Int) != 1) = false := bne_eq_false_iff_eq.mpr c15
    clear c15
    by_cases c16 : (0 : Int) < (t184.length : Int)
    ·rw [if_pos c16] at H
     have c16b0 : decide (0 < (t184.length : Int)) = true := decide_eq_true c16
     have c16b1 : decide (0 < t184.length) = true := decide_eq_true (by omega)
     clear c16
     replace H := obe H
     obtain ⟨⟨t189, t190, t191⟩, A170, H⟩ := H
     (try dsimp only at H)
     have A17 := Aside0.mk A170
     clear A170
     replace H := obe H
     obtain ⟨t194, A180, H⟩ := H
     (try dsimp only at H)
     have A18 := Aside0.mk A180
     clear A180
     simp only [Option.some.injEq, Prod.mk.injEq] at H
     obtain ⟨rfl, rfl, rfl⟩ := H
     go_enter Try.func52, Try.ntmps52
     go_wp2_with (first | ((with_reducible refine gate_callee (f := 51) rfl ?_); refine gL (some 13) Try.func51 #[.slice A0 l0.length c0] ?_; (with_reducible refine (nat_Norm.calls _ _ l0 t181 _ ?side1 ?side2 A3.out).mono ?_); (case side1 => exact dC HR0.out); (case side2 => exact HC0.out); rintro e w19 ⟨v182, rfl, ho0, hb⟩; refine ⟨_, rfl, ?_⟩; have HO183 := Aside0.mk (Kd.R_lower ho0 (below_size dB)); replace HB := Aside0.mk (below_step dB hb); (try clear hb); (try clear ho0)) | ((with_reducible refine gate_callee (f := 51) rfl ?_); refine gL (some 15) Try.func51 #[.slice A1 l1.length c1] ?_; (with_reducible refine (nat_Norm.calls _ _ l1 t184 _ ?side1 ?side2 A4.out).mono ?_); (case side1 => exact dC (Kd.C_below HR1.out HB.out)); (case side2 => exact HC1.out); rintro e w20 ⟨v185, rfl, ho0, hb⟩; refine ⟨_, rfl, ?_⟩; have HO186 := Aside0.mk (Kd.R_lower (Kd.R_new' ho0 (Kd.R_lt (dR HO183.out))) (below_size dB)); replace HO183 := Aside0.mk (Kd.R_elder' (dR HO183.out) (Kd.R_base ho0) hb); replace HB := Aside0.mk (below_step dB hb); (try clear hb); (try clear ho0); obtain ⟨Ao21, co21, eo21⟩ := Kd.R_slice HO186.out; subst eo21; obtain ⟨Ao22, co22, eo22⟩ := Kd.R_slice HO183.out; subst eo22) | ((with_reducible refine gate_callee (f := 61) rfl ?_); refine gL (some 23) Try.func61 #[.slice Ao22 t181.length co22, .slice Ao21 t184.length co21] ?_; (with_reducible refine (nat_Cmp.calls k _ _ t181 _ _ t184 t187 _ ?side1 ?side2 ?side3 ?side4 A9.out).mono ?_); (case side1 => exact dC (Kd.R_reads' HO183.out).2.2); (case side2 => exact (Kd.R_reads' HO183.out).2.1); (case side3 => exact dC (Kd.R_reads' HO186.out).2.2); (case side4 => exact (Kd.R_reads' HO186.out).2.1); rintro e w' ⟨rfl, ⟨nd, rfl⟩⟩; refine ⟨_, rfl, ?_⟩; have p188 : 0 ≤ (0 : Int) := (by omega); have q188 : 0 < (t184.length : Int) := of_decide_eq_true dS; obtain ⟨ad188, e188, hx188_0⟩ := Kd.at_int (Kd.R_reads' HO186.out).2.2 0 p188 q188; cases e188; have qi188 : (0 < t184.length) = True := eq_true (by omega); (try rw [show ((0 : Int)).toNat = 0 from rfl] at hx188_0); (try rw [Addr.add_zero'] at hx188_0); replace p188 := eq_true p188; replace q188 := eq_true q188) | ((with_reducible refine gate_callee (f := 86) rfl ?_); refine gL (some 35) Try.func86 #[.slice Ao22 t181.length co22, .int .u64 (rd t184 0)] ?_; (with_reducible refine (quot_Small.calls k _ _ t181 (rd t184 0) t189 t190 t191 _ ?side1 ?side2 A17.out).mono ?_); (case side1 => exact dC (Kd.R_reads' HO183.out).2.2); (case side2 => exact (Kd.R_reads' HO183.out).2.1); rintro e w23 ⟨v192, rfl, ho0, hb⟩; refine ⟨_, rfl, ?_⟩; have HO193 := Aside0.mk (Kd.R_lower (Kd.R_new' (Kd.R_new' ho0 (Kd.R_lt (dR HO183.out))) (Kd.R_lt (dR HO186.out))) (below_size dB)); replace HO183 := Aside0.mk (Kd.R_elder' (dR HO183.out) (Kd.R_base ho0) hb); replace HO186 := Aside0.mk (Kd.R_elder' (dR HO186.out) (Kd.R_base ho0) hb); replace HB := Aside0.mk (below_step dB hb); (try clear hb); (try clear ho0)) | ((with_reducible refine gate_callee (f := 54) rfl ?_); refine gL (some 41) Try.func54 #[.int .u64 t190] ?_; (with_reducible refine (nat_From.calls t190 t194 _ A18.out).mono ?_); rintro e w24 ⟨v195, rfl, ho0, hb⟩; refine ⟨_, rfl, ?_⟩; have HO196 := Aside0.mk (Kd.R_lower (Kd.R_new' (Kd.R_new' (Kd.R_new' ho0 (Kd.R_lt (dR HO183.out))) (Kd.R_lt (dR HO186.out))) (Kd.R_lt (dR HO193.out))) (below_size dB)); replace HO183 := Aside0.mk (Kd.R_elder' (dR HO183.out) (Kd.R_base ho0) hb); replace HO186 := Aside0.mk (Kd.R_elder' (dR HO186.out) (Kd.R_base ho0) hb); replace HO193 := Aside0.mk (Kd.R_elder' (dR HO193.out) (Kd.R_base ho0) hb); replace HB := Aside0.mk (below_step dB hb); (try clear hb); (try clear ho0)))
     go_ret3
     exact ⟨_, _, dE, by (with_reducible repeat (first | apply Kd.R_alloc | apply Kd.R_drewN | apply Kd.R_drew)); exact Kd.R_mono HO193.out (fun _ hk => hk.2), by (with_reducible repeat (first | apply Kd.R_alloc | apply Kd.R_drewN | apply Kd.R_drew)); exact Kd.R_mono HO196.out (fun _ hk => hk.2), dB⟩
    ·rw [if_neg c16] at H
     exact absurd H (by simp)
   ·rw [if_neg c15] at H
    have c15b0 : ((t184.length : Int) == 1) = false := beq_eq_false_iff_ne.mpr c15
    have c15b1 : ((t184.length : Int) != 1) = true := bne_iff_ne.mpr c15
    replace H := obe H
    obtain ⟨⟨t197, t198⟩, A250, H⟩ := H
    (try dsimp only at H)
    have A25 := Aside0.mk A250
    clear A250
    simp only [Option.some.injEq, Prod.mk.injEq] at H
    obtain ⟨rfl, rfl, rfl⟩ := H
    go_enter Try.func52, Try.ntmps52
    go_wp2_with (first | ((with_reducible refine gate_callee (f := 51) rfl ?_); refine gL (some 13) Try.func51 #[.slice A0 l0.length c0] ?_; (with_reducible refine (nat_Norm.calls _ _ l0 t181 _ ?side1 ?side2 A3.out).mono ?_); (case side1 => exact dC HR0.out); (case side2 => exact HC0.out); rintro e w26 ⟨v182, rfl, ho0, hb⟩; refine ⟨_, rfl, ?_⟩; have HO183 := Aside0.mk (Kd.R_lower ho0 (below_size dB)); replace HB := Aside0.mk (below_step dB hb); (try clear hb); (try clear ho0)) | ((with_reducible refine gate_callee (f := 51) rfl ?_); refine gL (some 15) Try.func51 #[.slice A1 l1.length c1] ?_; (with_reducible refine (nat_Norm.calls _ _ l1 t184 _ ?side1 ?side2 A4.out).mono ?_); (case side1 => exact dC (Kd.C_below HR1.out HB.out)); (case side2 => exact HC1.out); rintro e w27 ⟨v185, rfl, ho0, hb⟩; refine ⟨_, rfl, ?_⟩; have HO186 := Aside0.mk (Kd.R_lower (Kd.R_new' ho0 (Kd.R_lt (dR HO183.out))) (below_size dB)); replace HO183 := Aside0.mk (Kd.R_elder' (dR HO183.out) (Kd.R_base ho0) hb); replace HB := Aside0.mk (below_step dB hb); (try clear hb); (try clear ho0); obtain ⟨Ao28, co28, eo28⟩ := Kd.R_slice HO186.out; subst eo28; obtain ⟨Ao29, co29, eo29⟩ := Kd.R_slice HO183.out; subst eo29) | ((with_reducible refine gate_callee (f := 61) rfl ?_); refine gL (some 23) Try.func61 #[.slice Ao29 t181.length co29, .slice Ao28 t184.length co28] ?_; (with_reducible refine (nat_Cmp.calls k _ _ t181 _ _ t184 t187 _ ?side1 ?side2 ?side3 ?side4 A9.out).mono ?_); (case side1 => exact dC (Kd.R_reads' HO183.out).2.2); (case side2 => exact (Kd.R_reads' HO183.out).2.1); (case side3 => exact dC (Kd.R_reads' HO186.out).2.2); (case side4 => exact (Kd.R_reads' HO186.out).2.1); rintro e w' ⟨rfl, ⟨nd, rfl⟩⟩; refine ⟨_, rfl, ?_⟩) | ((with_reducible refine gate_callee (f := 87) rfl ?_); refine gL (some 45) Try.func87 #[.slice Ao29 t181.length co29, .slice Ao28 t184.length co28] ?_; (with_reducible refine (quot_long.calls k _ _ t181 _ _ t184 t197 t198 _ ?side1 ?side2 ?side3 ?side4 A25.out).mono ?_); (case side1 => exact dC (Kd.R_reads' HO183.out).2.2); (case side2 => exact (Kd.R_reads' HO183.out).2.1); (case side3 => exact dC (Kd.R_reads' HO186.out).2.2); (case side4 => exact (Kd.R_reads' HO186.out).2.1); rintro e w30 ⟨v199, v201, rfl, ho0, ho1, hb⟩; refine ⟨_, rfl, ?_⟩; have HO200 := Aside0.mk (Kd.R_lower (Kd.R_new' (Kd.R_new' ho0 (Kd.R_lt (dR HO183.out))) (Kd.R_lt (dR HO186.out))) (below_size dB)); have HO202 := Aside0.mk (Kd.R_lower (Kd.R_new' (Kd.R_new' ho1 (Kd.R_lt (dR HO183.out))) (Kd.R_lt (dR HO186.out))) (below_size dB)); replace HO183 := Aside0.mk (Kd.R_mono (Kd.R_told (Kd.R_told (Kd.R_old (dR HO183.out) hb) (Kd.R_base ho0)) (Kd.R_base ho1)) (fun _ h_ => h_.1)); replace HO186 := Aside0.mk (Kd.R_mono (Kd.R_told (Kd.R_told (Kd.R_old (dR HO186.out) hb) (Kd.R_base ho0)) (Kd.R_base ho1)) (fun _ h_ => h_.1)); replace HB := Aside0.mk (below_step dB hb); (try clear hb); (try clear ho0); (try clear ho1)))
    go_ret3
    exact ⟨_, _, dE, by (with_reducible repeat (first | apply Kd.R_alloc | apply Kd.R_drewN | apply Kd.R_drew)); exact Kd.R_mono HO200.out (fun _ hk => hk.1.1), by (with_reducible repeat (first | apply Kd.R_alloc | apply Kd.R_drewN | apply Kd.R_drew)); exact Kd.R_mono HO202.out (fun _ hk => hk.1.1), dB⟩

/-! ### quot_Gcd: function 14 -/
def quot_Gcd.l0 : Nat → List Int → List Int → Option (List Int)
 | 0, _, _ => none
 | k + 1, x0, x1 => if (x1.length : Int) > 0 then ((quot_DivMod.f k x0 x1).bind fun bt209 => (quot_Gcd.l0 k x1 bt209.2.1)) else (some x0)
def quot_Gcd.f (k : Nat) (l0 : List Int) (l1 : List Int) : Option (List Int) := (nat_Norm.f l0).bind fun t203 => ((nat_Norm.f l1).bind fun t206 => (quot_Gcd.l0 k t203 t206))
theorem quot_Gcd.mono_l : ∀ k, (∀ y0 y1, LeO (quot_Gcd.l0 k y0 y1) (quot_Gcd.l0 (k + 1) y0 y1))
 | 0 => fun _ _ r h => by simp [quot_Gcd.l0] at h
 | k + 1 => by
  have ih0 := quot_Gcd.mono_l k
  ·intro y0 y1
   unfold quot_Gcd.l0
   have m0_ := quot_DivMod.mono
   exact mX
theorem quot_Gcd.mono : ∀ a0 a1 k, LeO (quot_Gcd.f k a0 a1) (quot_Gcd.f (k + 1) a0 a1) := by
 intro a0 a1 k
 have ih0 := quot_Gcd.mono_l k
 unfold quot_Gcd.f
 have m0_ := quot_DivMod.mono
 exact mX
set_option maxHeartbeats 8000000 in
set_option maxRecDepth 100000 in
theorem quot_Gcd.calls (k : Nat) (A0 : Option Addr) (c0 : Nat) (l0 : List Int) (A1 : Option Addr) (c1 : Nat) (l1 : List Int) (r : List Int) (w : World) (hr0 : Kd.C (Kd.int .u64) w A0 l0.length l0) (hc0 : l0.length ≤ c0) (hr1 : Kd.C (Kd.int .u64) w A1 l1.length l1) (hc1 : l1.length ≤ c1) (h : quot_Gcd.f k l0 l1 = some r) :
  Calls Try.prog 14 #[.slice A0 l0.length c0, .slice A1 l1.length c1] w fun e w' => ∃ v0_ : Value, e = .returned (v0_) ∧ Kd.R (Kd.int .u64) 25 w' w.heap.size (fun _ => True) v0_ r ∧ Below w.heap.size w w' := by
 have HR0 := Aside0.mk hr0
 have HC0 := Aside0.mk hc0
 clear hr0 hc0
 have HR1 := Aside0.mk hr1
 have HC1 := Aside0.mk hc1
 clear hr1 hc1
 have HB := Aside0.mk (Below.refl w.heap.size w)
 have H : ((nat_Norm.f l0).bind fun t203 => ((nat_Norm.f l1).bind fun t206 => (quot_Gcd.l0 k t203 t206))) = some r := h
 clear h
 replace H := obe H
 obtain ⟨t203, A30, H⟩ := H
 (try dsimp only at H)
 have A3 := Aside0.mk A30
 clear A30
 replace H := obe H
 obtain ⟨t206, A40, H⟩ := H
 (try dsimp only at H)
 have A4 := Aside0.mk A40
 clear A40
 have H' := Aside0.mk H
 clear H
 go_enter Try.func14, Try.ntmps14
 go_wp2_with (first | ((with_reducible refine gate_callee (f := 51) rfl ?_); refine gL (some 9) Try.func51 #[.slice A0 l0.length c0] ?_; (with_reducible refine (nat_Norm.calls _ _ l0 t203 _ ?side1 ?side2 A3.out).mono ?_); (case side1 => exact dC HR0.out); (case side2 => exact HC0.out); rintro e w5 ⟨v204, rfl, ho0, hb⟩; refine ⟨_, rfl, ?_⟩; have HO205 := Aside0.mk (Kd.R_lower ho0 (below_size dB)); replace HB := Aside0.mk (below_step dB hb); (try clear hb); (try clear ho0)) | ((with_reducible refine gate_callee (f := 51) rfl ?_); refine gL (some 11) Try.func51 #[.slice A1 l1.length c1] ?_; (with_reducible refine (nat_Norm.calls _ _ l1 t206 _ ?side1 ?side2 A4.out).mono ?_); (case side1 => exact dC (Kd.C_below HR1.out HB.out)); (case side2 => exact HC1.out); rintro e w6 ⟨v207, rfl, ho0, hb⟩; refine ⟨_, rfl, ?_⟩; have HO208 := Aside0.mk (Kd.R_lower (Kd.R_new' ho0 (Kd.R_lt (dR HO205.out))) (below_size dB)); replace HO205 := Aside0.mk (Kd.R_elder' (dR HO205.out) (Kd.R_base ho0) hb); replace HB := Aside0.mk (below_step dB hb); (try clear hb); (try clear ho0)))
 go_loopg [0, 1] k (fun kq v0 v1 w' => ∃ (x0_1 : List Int) (x1_1 : List Int), Aside0 (quot_Gcd.l0 kq x0_1 x1_1 = some r) ∧ Aside0 (kq ≤ k) ∧ Aside0 (Kd.R (Kd.int .u64) 25 w' w.heap.size (fun k_ => some k_ ≠ (v1 : Value).ownBlock) v0 x0_1) ∧ Aside0 (Kd.R (Kd.int .u64) 25 w' w.heap.size (fun k_ => some k_ ≠ (v0 : Value).ownBlock) v1 x1_1) ∧ Aside0 (Below w.heap.size w w'))
 case atStart => exact ⟨(t203), (t206), H', ⟨Nat.le_refl _⟩, ⟨by (with_reducible repeat (first | apply Kd.R_alloc | apply Kd.R_drewN | apply Kd.R_drew)); exact Kd.R_mono HO205.out (fun _ hk => hk.2)⟩, ⟨by (with_reducible repeat (first | apply Kd.R_alloc | apply Kd.R_drewN | apply Kd.R_drew)); exact Kd.R_mono HO208.out (fun _ hk => hk.2)⟩, ⟨dB⟩⟩
 case round =>
  clear H'
  try clear c1
  obtain ⟨x0_1, x1_1, HA, HK1, HO_0, HO_1, HB⟩ := hrel
  cases gk with
  | zero => exact absurd HA.out (by simp [quot_Gcd.l0])
  | succ k1 =>
   have H := HA.out
   clear HA
   simp only [quot_Gcd.l0] at H
   by_cases c7 : (x1_1.length : Int) > 0
   ·rw [if_pos c7] at H
    have c7b0 : decide (0 < (x1_1.length : Int)) = true := decide_eq_true c7
    have c7b1 : decide (0 < x1_1.length) = true := decide_eq_true (by omega)
    clear c7
    replace H := obe H
    obtain ⟨⟨t209, t210, t211⟩, A80, H⟩ := H
    (try dsimp only at H)
    have A8 := Aside0.mk A80
    clear A80
    have H' := Aside0.mk H
    clear H
    obtain ⟨Ao9, co9, eo9⟩ := Kd.R_slice HO_1.out
    subst eo9
    obtain ⟨Ao10, co10, eo10⟩ := Kd.R_slice HO_0.out
    subst eo10
    go_wp2_with (first | ((with_reducible refine gate_callee (f := 52) rfl ?_); refine gL (some 18) Try.func52 #[.slice Ao10 x0_1.length co10, .slice Ao9 x1_1.length co9] ?_; (with_reducible refine (quot_DivMod.calls k1 _ _ x0_1 _ _ x1_1 t209 t210 t211 _ ?side1 ?side2 ?side3 ?side4 A8.out).mono ?_); (case side1 => exact dC (Kd.R_reads' HO_0.out).2.2); (case side2 => exact (Kd.R_reads' HO_0.out).2.1); (case side3 => exact dC (Kd.R_reads' HO_1.out).2.2); (case side4 => exact (Kd.R_reads' HO_1.out).2.1); rintro e w11 ⟨v212, v214, rfl, ho0, ho1, hb⟩; refine ⟨_, rfl, ?_⟩; have HO213 := Aside0.mk (Kd.R_lower (Kd.R_new' (Kd.R_new' ho0 (Kd.R_lt (dR HO_0.out))) (Kd.R_lt (dR HO_1.out))) (below_size dB)); have HO215 := Aside0.mk (Kd.R_lower (Kd.R_new' (Kd.R_new' ho1 (Kd.R_lt (dR HO_0.out))) (Kd.R_lt (dR HO_1.out))) (below_size dB)); replace HO_0 := Aside0.mk (Kd.R_mono (Kd.R_told (Kd.R_told (Kd.R_old (dR HO_0.out) hb) (Kd.R_base ho0)) (Kd.R_base ho1)) (fun _ h_ => h_.1)); replace HO_1 := Aside0.mk (Kd.R_mono (Kd.R_told (Kd.R_told (Kd.R_old (dR HO_1.out) hb) (Kd.R_base ho0)) (Kd.R_base ho1)) (fun _ h_ => h_.1)); replace HB := Aside0.mk (below_step dB hb); (try clear hb); (try clear ho0); (try clear ho1)))
    go_roundg k1
    case measure => have := HK1.out; omega
    case rel => exact ⟨(x1_1), (t210), H', ⟨by have := HK1.out; omega⟩, ⟨by (with_reducible repeat (first | apply Kd.R_alloc | apply Kd.R_drewN | apply Kd.R_drew)); exact Kd.R_mono HO_1.out (fun _ hk => hk.2)⟩, ⟨by (with_reducible repeat (first | apply Kd.R_alloc | apply Kd.R_drewN | apply Kd.R_drew)); exact Kd.R_mono HO215.out (fun _ hk => hk.2)⟩, ⟨dB⟩⟩
   ·rw [if_neg c7] at H
    have c7b0 : decide (0 < (x1_1.length : Int)) = false := decide_eq_false c7
    have c7b1 : decide (0 < x1_1.length) = false := decide_eq_false (by omega)
    clear c7
    obtain rfl := Option.some.inj H
    obtain ⟨Ao12, co12, eo12⟩ := Kd.R_slice HO_1.out
    subst eo12
    go_wp2
    go_ret
    exact ⟨_, dE, by (with_reducible repeat (first | apply Kd.R_alloc | apply Kd.R_drewN | apply Kd.R_drew)); exact Kd.R_mono HO_0.out (fun _ hk => trivial), dB⟩

/-! ### quot_Lowest: function 88 -/
def quot_Lowest.f (k : Nat) (l0 : List Int) (l1 : List Int) : Option (List Int × List Int) := (quot_Gcd.f k l0 l1).bind fun t216 => (if (t216.length : Int) = 0 then (some (([] : List Int), ([] : List Int))) else ((quot_DivMod.f k l0 t216).bind fun bt219 => ((quot_DivMod.f k l1 t216).bind fun bt226 => (some (bt219.1, bt226.1)))))
theorem quot_Lowest.mono : ∀ a0 a1 k, LeO (quot_Lowest.f k a0 a1) (quot_Lowest.f (k + 1) a0 a1) := by
 intro a0 a1 k
 unfold quot_Lowest.f
 have m0_ := quot_DivMod.mono
 have m1_ := quot_Gcd.mono
 exact mX
set_option maxHeartbeats 8000000 in
set_option maxRecDepth 100000 in
theorem quot_Lowest.calls (k : Nat) (A0 : Option Addr) (c0 : Nat) (l0 : List Int) (A1 : Option Addr) (c1 : Nat) (l1 : List Int) (r1 : List Int) (r2 : List Int) (w : World) (hr0 : Kd.C (Kd.int .u64) w A0 l0.length l0) (hc0 : l0.length ≤ c0) (hr1 : Kd.C (Kd.int .u64) w A1 l1.length l1) (hc1 : l1.length ≤ c1) (h : quot_Lowest.f k l0 l1 = some (r1, r2)) :
  Calls Try.prog 88 #[.slice A0 l0.length c0, .slice A1 l1.length c1] w fun e w' => ∃ v0_ v1_ : Value, e = .returned (.tuple #[v0_, v1_]) ∧ Kd.R (Kd.int .u64) 25 w' w.heap.size (fun k_ => some k_ ≠ (v1_ : Value).ownBlock) v0_ r1 ∧ Kd.R (Kd.int .u64) 25 w' w.heap.size (fun k_ => some k_ ≠ (v0_ : Value).ownBlock) v1_ r2 ∧ Below w.heap.size w w' := by
 have HR0 := Aside0.mk hr0
 have HC0 := Aside0.mk hc0
 clear hr0 hc0
 have HR1 := Aside0.mk hr1
 have HC1 := Aside0.mk hc1
 clear hr1 hc1
 have HB := Aside0.mk (Below.refl w.heap.size w)
 have H : ((quot_Gcd.f k l0 l1).bind fun t216 => (if (t216.length : Int) = 0 then (some (([] : List Int), ([] : List Int))) else ((quot_DivMod.f k l0 t216).bind fun bt219 => ((quot_DivMod.f k l1 t216).bind fun bt226 => (some (bt219.1, bt226.1)))))) = some (r1, r2) := h
 clear h
 replace H := obe H
 obtain ⟨t216, A30, H⟩ := H
 (try dsimp only at H)
 have A3 := Aside0.mk A30
 clear A30
 by_cases c4 : (t216.length : Int) = 0
 ·rw [if_pos c4] at H
  have c4b0 : ((t216.length : Int) == 0) = true := beq_iff_eq.mpr c4
  have c4b1 : ((t216.length : Int) != 0) = false := bne_eq_false_iff_eq.mpr c4
  clear c4
  simp only [Option.some.injEq, Prod.mk.injEq] at H
  obtain ⟨rfl, rfl⟩ := H
  go_enter Try.func88, Try.ntmps88
  go_wp2_with (first | ((with_reducible refine gate_callee (f := 14) rfl ?_); refine gL (some 15) Try.func14 #[.slice A0 l0.length c0, .slice A1 l1.length c1] ?_; (with_reducible refine (quot_Gcd.calls k _ _ l0 _ _ l1 t216 _ ?side1 ?side2 ?side3 ?side4 A3.out).mono ?_); (case side1 => exact dC HR0.out); (case side2 => exact HC0.out); (case side3 => exact dC HR1.out); (case side4 => exact HC1.out); rintro e w5 ⟨v217, rfl, ho0, hb⟩; refine ⟨_, rfl, ?_⟩; have HO218 := Aside0.mk (Kd.R_lower ho0 (below_size dB)); replace HB := Aside0.mk (below_step dB hb); (try clear hb); (try clear ho0); obtain ⟨Ao6, co6, eo6⟩ := Kd.R_slice HO218.out; subst eo6))
  go_ret2
  exact ⟨_, _, dE, by first | exact Kd.R_nil _ _ _ _ _ | exact Kd.N_nil _ _ _ _ _ | exact Kd.V_nil _ _ _ _ _ | exact Kd.Q_nil _ _ _ _ _ | exact Kd.S_nil _ _ _ _ _, by first | exact Kd.R_nil _ _ _ _ _ | exact Kd.N_nil _ _ _ _ _ | exact Kd.V_nil _ _ _ _ _ | exact Kd.Q_nil _ _ _ _ _ | exact Kd.S_nil _ _ _ _ _, dB⟩
 ·rw [if_neg c4] at H
  have c4b0 : ((t216.length : Int) == 0) = false := beq_eq_false_iff_ne.mpr c4
  have c4b1 : ((t216.length : Int) != 0) = true := bne_iff_ne.mpr c4
  have c4b2 : ¬ (t216 = []) := fun h_ => c4 (by rw [h_]; rfl)
  replace H := obe H
  obtain ⟨⟨t219, t220, t221⟩, A70, H⟩ := H
  (try dsimp only at H)
  have A7 := Aside0.mk A70
  clear A70
  replace H := obe H
  obtain ⟨⟨t226, t227, t228⟩, A80, H⟩ := H
  (try dsimp only at H)
  have A8 := Aside0.mk A80
  clear A80
  simp only [Option.some.injEq, Prod.mk.injEq] at H
  obtain ⟨rfl, rfl⟩ := H
  go_enter Try.func88, Try.ntmps88
  go_wp2_with (first | ((with_reducible refine gate_callee (f := 14) rfl ?_); refine gL (some 15) Try.func14 #[.slice A0 l0.length c0, .slice A1 l1.length c1] ?_; (with_reducible refine (quot_Gcd.calls k _ _ l0 _ _ l1 t216 _ ?side1 ?side2 ?side3 ?side4 A3.out).mono ?_); (case side1 => exact dC HR0.out); (case side2 => exact HC0.out); (case side3 => exact dC HR1.out); (case side4 => exact HC1.out); rintro e w9 ⟨v217, rfl, ho0, hb⟩; refine ⟨_, rfl, ?_⟩; have HO218 := Aside0.mk (Kd.R_lower ho0 (below_size dB)); replace HB := Aside0.mk (below_step dB hb); (try clear hb); (try clear ho0); obtain ⟨Ao10, co10, eo10⟩ := Kd.R_slice HO218.out; subst eo10) | ((with_reducible refine gate_callee (f := 52) rfl ?_); refine gL (some 22) Try.func52 #[.slice A0 l0.length c0, .slice Ao10 t216.length co10] ?_; (with_reducible refine (quot_DivMod.calls k _ _ l0 _ _ t216 t219 t220 t221 _ ?side1 ?side2 ?side3 ?side4 A7.out).mono ?_); (case side1 => exact dC (Kd.C_below HR0.out HB.out)); (case side2 => exact HC0.out); (case side3 => exact dC (Kd.R_reads' HO218.out).2.2); (case side4 => exact (Kd.R_reads' HO218.out).2.1); rintro e w11 ⟨v222, v224, rfl, ho0, ho1, hb⟩; refine ⟨_, rfl, ?_⟩; have HO223 := Aside0.mk (Kd.R_lower (Kd.R_new' ho0 (Kd.R_lt (dR HO218.out))) (below_size dB)); have HO225 := Aside0.mk (Kd.R_lower (Kd.R_new' ho1 (Kd.R_lt (dR HO218.out))) (below_size dB)); replace HO218 := Aside0.mk (Kd.R_mono (Kd.R_told (Kd.R_told (Kd.R_old (dR HO218.out) hb) (Kd.R_base ho0)) (Kd.R_base ho1)) (fun _ h_ => h_.1)); replace HB := Aside0.mk (below_step dB hb); (try clear hb); (try clear ho0); (try clear ho1)) | ((with_reducible refine gate_callee (f := 52) rfl ?_); refine gL (some 29) Try.func52 #[.slice A1 l1.length c1, .slice Ao10 t216.length co10] ?_; (with_reducible refine (quot_DivMod.calls k _ _ l1 _ _ t216 t226 t227 t228 _ ?side1 ?side2 ?side3 ?side4 A8.out).mono ?_); (case side1 => exact dC (Kd.C_below HR1.out HB.out)); (case side2 => exact HC1.out); (case side3 => exact dC (Kd.R_reads' HO218.out).2.2); (case side4 => exact (Kd.R_reads' HO218.out).2.1); rintro e w12 ⟨v229, v231, rfl, ho0, ho1, hb⟩; refine ⟨_, rfl, ?_⟩; have HO230 := Aside0.mk (Kd.R_lower (Kd.R_new' (Kd.R_new' (Kd.R_new' ho0 (Kd.R_lt (dR HO218.out))) (Kd.R_lt (dR HO223.out))) (Kd.R_lt (dR HO225.out))) (below_size dB)); have HO232 := Aside0.mk (Kd.R_lower (Kd.R_new' (Kd.R_new' (Kd.R_new' ho1 (Kd.R_lt (dR HO218.out))) (Kd.R_lt (dR HO223.out))) (Kd.R_lt (dR HO225.out))) (below_size dB)); replace HO218 := Aside0.mk (Kd.R_mono (Kd.R_told (Kd.R_told (Kd.R_old (dR HO218.out) hb) (Kd.R_base ho0)) (Kd.R_base ho1)) (fun _ h_ => h_.1)); replace HO223 := Aside0.mk (Kd.R_mono (Kd.R_told (Kd.R_told (Kd.R_old (dR HO223.out) hb) (Kd.R_base ho0)) (Kd.R_base ho1)) (fun _ h_ => h_.1)); replace HO225 := Aside0.mk (Kd.R_mono (Kd.R_told (Kd.R_told (Kd.R_old (dR HO225.out) hb) (Kd.R_base ho0)) (Kd.R_base ho1)) (fun _ h_ => h_.1)); replace HB := Aside0.mk (below_step dB hb); (try clear hb); (try clear ho0); (try clear ho1)))
  go_ret2
  exact ⟨_, _, dE, by (with_reducible repeat (first | apply Kd.R_alloc | apply Kd.R_drewN | apply Kd.R_drew)); exact Kd.R_mono HO223.out (fun _ hk => hk.1.2), by (with_reducible repeat (first | apply Kd.R_alloc | apply Kd.R_drewN | apply Kd.R_drew)); exact Kd.R_mono HO230.out (fun _ hk => hk.1.2), dB⟩

/-! ### rat_lowest: function 53 (by hand) -/
def rat_lowest.f (k : Nat) (a0 : Bool) (l1 : List Int) (l2 : List Int) : Option (Bool × List Int × List Int) := (quot_Lowest.f k l1 l2).bind fun bt420 => (if a0 = true then (some (decide ((bt420.1.length : Int) > 0), bt420.1, bt420.2)) else (some (false, bt420.1, bt420.2)))
theorem rat_lowest.mono : ∀ a0 a1 a2 k, LeO (rat_lowest.f k a0 a1 a2) (rat_lowest.f (k + 1) a0 a1 a2) := by
 intro a0 a1 a2 k
 unfold rat_lowest.f
 have m0_ := quot_Lowest.mono
 exact mX
set_option maxHeartbeats 8000000 in
set_option maxRecDepth 100000 in
theorem rat_lowest.calls (k : Nat) (a0 : Bool) (A1 : Option Addr) (c1 : Nat) (l1 : List Int) (A2 : Option Addr) (c2 : Nat) (l2 : List Int) (r1 : Bool) (r2 : List Int) (r3 : List Int) (w : World) (hr1 : Kd.C (Kd.int .u64) w A1 l1.length l1) (hc1 : l1.length ≤ c1) (hr2 : Kd.C (Kd.int .u64) w A2 l2.length l2) (hc2 : l2.length ≤ c2) (h : rat_lowest.f k a0 l1 l2 = some (r1, r2, r3)) :
  Calls Try.prog 53 #[.bool a0, .slice A1 l1.length c1, .slice A2 l2.length c2] w fun e w' => ∃ v1_ v2_ : Value, e = .returned (.agg #[.bool r1, v1_, v2_]) ∧ Kd.R (Kd.int .u64) 25 w' w.heap.size (fun k_ => some k_ ≠ (v2_ : Value).ownBlock) v1_ r2 ∧ Kd.R (Kd.int .u64) 25 w' w.heap.size (fun k_ => some k_ ≠ (v1_ : Value).ownBlock) v2_ r3 ∧ Below w.heap.size w w' := by
 have hu46 := Try.underlying28
 have HR1 := Aside0.mk hr1
 have HC1 := Aside0.mk hc1
 clear hr1 hc1
 have HR2 := Aside0.mk hr2
 have HC2 := Aside0.mk hc2
 clear hr2 hc2
 have HB := Aside0.mk (Below.refl w.heap.size w)
 have H : ((quot_Lowest.f k l1 l2).bind fun bt420 => (if a0 = true then (some (decide ((bt420.1.length : Int) > 0), bt420.1, bt420.2)) else (some (false, bt420.1, bt420.2)))) = some (r1, r2, r3) := h
 clear h
 replace H := obe H
 obtain ⟨⟨t420, t421⟩, A40, H⟩ := H
 (try dsimp only at H)
 have A4 := Aside0.mk A40
 clear A40
 by_cases c5 : a0 = true
 ·subst c5
  have H1 : (some (decide ((t420.length : Int) > 0), t420, t421)) = some (r1, r2, r3) := by rw [if_pos rfl] at H; exact H
  clear H
  have H := H1
  clear H1
  simp only [Option.some.injEq, Prod.mk.injEq] at H
  obtain ⟨rfl, rfl, rfl⟩ := H
  go_enter Try.func53, Try.ntmps53
  go_wp2_with (first | ((with_reducible refine gate_dst (N := 6) rfl ?_); (try (refine gate_guard (by rfl) ?_; dsimp only)); refine box_event ?hg (N := 6) ?hd (cs := #[.bool false, .slice none 0 0, .slice none 0 0]) (t := 28) ?hr ?_; (case hd => rfl); (case hg => rfl); (case hr => first | (go_simp; done) | (go_simp; rfl)); intro gb419 hg w6 hbox hb; have BK419 := Aside0.mk (hbox); have GW419 := Aside0.mk ((by rw [hg]; exact (below_size dB) : w.heap.size ≤ gb419)); have GE419 := Aside0.mk ((by rw [hg]; exact (below_size dB) : w.heap.size ≤ gb419)); replace HB := Aside0.mk (below_step dB hb); clear hb hbox hg) | ((with_reducible refine gate_callee (f := 88) rfl ?_); refine gL (some 12) Try.func88 #[.slice A1 l1.length c1, .slice A2 l2.length c2] ?_; (with_reducible refine (quot_Lowest.calls k _ _ l1 _ _ l2 t420 t421 _ ?side1 ?side2 ?side3 ?side4 A4.out).mono ?_); (case side1 => exact dC (Kd.C_below HR1.out HB.out)); (case side2 => exact HC1.out); (case side3 => exact dC (Kd.C_below HR2.out HB.out)); (case side4 => exact HC2.out); rintro e w7 ⟨v422, v424, rfl, ho0, ho1, hb⟩; refine ⟨_, rfl, ?_⟩; have HO423 := Aside0.mk (Kd.R_lower ho0 (below_size (dG GE419.out))); have HO425 := Aside0.mk (Kd.R_lower ho1 (below_size (dG GE419.out))); replace BK419 := Aside0.mk (blk_below (g := gb419) (o := .cells #[.bool false, .slice none 0 0, .slice none 0 0] 28 (0, 0)) (dK BK419.out) hb); replace HB := Aside0.mk (below_step (dG GE419.out) hb); (try clear hb); (try clear ho0); (try clear ho1); obtain ⟨Ao8, co8, eo8⟩ := Kd.R_slice HO423.out; subst eo8; obtain ⟨Ao9, co9, eo9⟩ := Kd.R_slice HO425.out; subst eo9; obtain ⟨hcz10_0, hcz10_1, hcz10_2⟩ := cz3 BK419.out; obtain ⟨hfz10_0, hfz10_1, hfz10_2⟩ := fz3 BK419.out))
  (try rw [show decide (0 < t420.length) = decide ((t420.length : Int) > 0) from by rw [decide_eq_decide]; omega])
  refine bodyPost_ret (results_cell_row rfl _ _ gb419 28 #[.bool (decide ((t420.length : Int) > 0)), .slice Ao8 t420.length co8, .slice Ao9 t421.length co9] (0, 0) _ rfl (dP BK419.out) Try.underlying28 rfl (by kernel_rfl)) rfl ?_
  exact ⟨_, _, dE, by (with_reducible repeat (first | apply Kd.R_alloc | apply Kd.R_drewN | apply Kd.R_drew)); exact Kd.R_mono (Kd.R_far (p := ⟨gb419, 2, none⟩) (Kd.R_far (p := ⟨gb419, 1, none⟩) (Kd.R_far (p := ⟨gb419, 0, none⟩) (Kd.R_types HO423.out BK419.out (by decide)) (fun _ hk => hk.2) (.bool (decide ((t420.length : Int) > 0)))) (fun _ hk => hk.2) (.slice Ao8 t420.length co8)) (fun _ hk => hk.2) (.slice Ao9 t421.length co9)) (fun _ hk => hk.1), by (with_reducible repeat (first | apply Kd.R_alloc | apply Kd.R_drewN | apply Kd.R_drew)); exact Kd.R_mono (Kd.R_far (p := ⟨gb419, 2, none⟩) (Kd.R_far (p := ⟨gb419, 1, none⟩) (Kd.R_far (p := ⟨gb419, 0, none⟩) (Kd.R_types HO425.out BK419.out (by decide)) (fun _ hk => hk.2) (.bool (decide ((t420.length : Int) > 0)))) (fun _ hk => hk.2) (.slice Ao8 t420.length co8)) (fun _ hk => hk.2) (.slice Ao9 t421.length co9)) (fun _ hk => hk.1), dG GE419.out⟩
 ·replace c5 := Bool.eq_false_iff.mpr c5
  subst c5
  have H1 : (some (false, t420, t421)) = some (r1, r2, r3) := by rw [if_neg (show ¬ (false = true) by decide)] at H; exact H
  clear H
  have H := H1
  clear H1
  simp only [Option.some.injEq, Prod.mk.injEq] at H
  obtain ⟨rfl, rfl, rfl⟩ := H
  go_enter Try.func53, Try.ntmps53
  go_wp2_with (first | ((with_reducible refine gate_dst (N := 6) rfl ?_); (try (refine gate_guard (by rfl) ?_; dsimp only)); refine box_event ?hg (N := 6) ?hd (cs := #[.bool false, .slice none 0 0, .slice none 0 0]) (t := 28) ?hr ?_; (case hd => rfl); (case hg => rfl); (case hr => first | (go_simp; done) | (go_simp; rfl)); intro gb419 hg w11 hbox hb; have BK419 := Aside0.mk (hbox); have GW419 := Aside0.mk ((by rw [hg]; exact (below_size dB) : w.heap.size ≤ gb419)); have GE419 := Aside0.mk ((by rw [hg]; exact (below_size dB) : w.heap.size ≤ gb419)); replace HB := Aside0.mk (below_step dB hb); clear hb hbox hg) | ((with_reducible refine gate_callee (f := 88) rfl ?_); refine gL (some 12) Try.func88 #[.slice A1 l1.length c1, .slice A2 l2.length c2] ?_; (with_reducible refine (quot_Lowest.calls k _ _ l1 _ _ l2 t420 t421 _ ?side1 ?side2 ?side3 ?side4 A4.out).mono ?_); (case side1 => exact dC (Kd.C_below HR1.out HB.out)); (case side2 => exact HC1.out); (case side3 => exact dC (Kd.C_below HR2.out HB.out)); (case side4 => exact HC2.out); rintro e w12 ⟨v422, v424, rfl, ho0, ho1, hb⟩; refine ⟨_, rfl, ?_⟩; have HO423 := Aside0.mk (Kd.R_lower ho0 (below_size (dG GE419.out))); have HO425 := Aside0.mk (Kd.R_lower ho1 (below_size (dG GE419.out))); replace BK419 := Aside0.mk (blk_below (g := gb419) (o := .cells #[.bool false, .slice none 0 0, .slice none 0 0] 28 (0, 0)) (dK BK419.out) hb); replace HB := Aside0.mk (below_step (dG GE419.out) hb); (try clear hb); (try clear ho0); (try clear ho1); obtain ⟨Ao13, co13, eo13⟩ := Kd.R_slice HO425.out; subst eo13; obtain ⟨Ao14, co14, eo14⟩ := Kd.R_slice HO423.out; subst eo14; obtain ⟨hcz15_0, hcz15_1, hcz15_2⟩ := cz3 BK419.out; obtain ⟨hfz15_0, hfz15_1, hfz15_2⟩ := fz3 BK419.out))
  refine bodyPost_ret (results_cell_row rfl _ _ gb419 28 #[.bool false, .slice Ao14 t420.length co14, .slice Ao13 t421.length co13] (0, 0) _ rfl (dP BK419.out) Try.underlying28 rfl (by kernel_rfl)) rfl ?_
  exact ⟨_, _, dE, by (with_reducible repeat (first | apply Kd.R_alloc | apply Kd.R_drewN | apply Kd.R_drew)); exact Kd.R_mono (Kd.R_far (p := ⟨gb419, 2, none⟩) (Kd.R_far (p := ⟨gb419, 1, none⟩) (Kd.R_far (p := ⟨gb419, 0, none⟩) (Kd.R_types HO423.out BK419.out (by decide)) (fun _ hk => hk.2) (.bool false)) (fun _ hk => hk.2) (.slice Ao14 t420.length co14)) (fun _ hk => hk.2) (.slice Ao13 t421.length co13)) (fun _ hk => hk.1), by (with_reducible repeat (first | apply Kd.R_alloc | apply Kd.R_drewN | apply Kd.R_drew)); exact Kd.R_mono (Kd.R_far (p := ⟨gb419, 2, none⟩) (Kd.R_far (p := ⟨gb419, 1, none⟩) (Kd.R_far (p := ⟨gb419, 0, none⟩) (Kd.R_types HO425.out BK419.out (by decide)) (fun _ hk => hk.2) (.bool false)) (fun _ hk => hk.2) (.slice Ao14 t420.length co14)) (fun _ hk => hk.2) (.slice Ao13 t421.length co13)) (fun _ hk => hk.1), dG GE419.out⟩


end Go.Proofs.Ytmdmgbllpgkpeaa.PA

namespace Go.Proofs.Ytmdmgbllpgkpeaa.PA
open Go.RowKit Go.Proofs.YtmdmgbllpgkpeaaW.PrintWords Go.Proofs.YtmdmgbllpgkpeaaW.PrintLast Go.Proofs.YtmdmgbllpgkpeaaW.PrintMore
attribute [local go_sem] max2_int min2_int max_two min_two max_three min_three max_four min_four   -- for this text's walks alone
set_option linter.unusedVariables false
set_option linter.unusedSimpArgs false

/-! ### rat_New: function 16 -/
def rat_New.f (k : Nat) (a0 : Bool) (l1 : List Int) (l2 : List Int) : Option (Bool × List Int × List Int × Int) := (nat_Norm.f l1).bind fun t234 => ((nat_Norm.f l2).bind fun t237 => (if (t237.length : Int) = 0 then (some (false, ([] : List Int), ([] : List Int), 50)) else (if (t234.length : Int) > 4096 then (some (false, ([] : List Int), ([] : List Int), 21)) else (if (t237.length : Int) > 4096 then (some (false, ([] : List Int), ([] : List Int), 21)) else ((rat_lowest.f k a0 t234 t237).bind fun bt240 => (some (bt240.1, bt240.2.1, bt240.2.2, 0)))))))
theorem rat_New.mono : ∀ a0 a1 a2 k, LeO (rat_New.f k a0 a1 a2) (rat_New.f (k + 1) a0 a1 a2) := by
 intro a0 a1 a2 k
 unfold rat_New.f
 have m0_ := rat_lowest.mono
 exact mX
set_option maxHeartbeats 8000000 in
set_option maxRecDepth 100000 in
theorem rat_New.calls (k : Nat) (a0 : Bool) (A1 : Option Addr) (c1 : Nat) (l1 : List Int) (A2 : Option Addr) (c2 : Nat) (l2 : List Int) (r1 : Bool) (r2 : List Int) (r3 : List Int) (r4 : Int) (w : World) (hr1 : Kd.C (Kd.int .u64) w A1 l1.length l1) (hc1 : l1.length ≤ c1) (hr2 : Kd.C (Kd.int .u64) w A2 l2.length l2) (hc2 : l2.length ≤ c2) (h : rat_New.f k a0 l1 l2 = some (r1, r2, r3, r4)) :
  Calls Try.prog 16 #[.bool a0, .slice A1 l1.length c1, .slice A2 l2.length c2] w fun e w' => ∃ v1_ v2_ : Value, e = .returned (.tuple #[.agg #[.bool r1, v1_, v2_], .int .i64 r4]) ∧ Kd.R (Kd.int .u64) 25 w' w.heap.size (fun k_ => some k_ ≠ (v2_ : Value).ownBlock) v1_ r2 ∧ Kd.R (Kd.int .u64) 25 w' w.heap.size (fun k_ => some k_ ≠ (v1_ : Value).ownBlock) v2_ r3 ∧ Below w.heap.size w w' := by
 have hu28 := Try.underlying28
 have HR1 := Aside0.mk hr1
 have HC1 := Aside0.mk hc1
 clear hr1 hc1
 have HR2 := Aside0.mk hr2
 have HC2 := Aside0.mk hc2
 clear hr2 hc2
 have HB := Aside0.mk (Below.refl w.heap.size w)
 have H : ((nat_Norm.f l1).bind fun t234 => ((nat_Norm.f l2).bind fun t237 => (if (t237.length : Int) = 0 then (some (false, ([] : List Int), ([] : List Int), 50)) else (if (t234.length : Int) > 4096 then (some (false, ([] : List Int), ([] : List Int), 21)) else (if (t237.length : Int) > 4096 then (some (false, ([] : List Int), ([] : List Int), 21)) else ((rat_lowest.f k a0 t234 t237).bind fun bt240 => (some (bt240.1, bt240.2.1, bt240.2.2, 0)))))))) = some (r1, r2, r3, r4) := h
 clear h
 replace H := obe H
 obtain ⟨t234, A40, H⟩ := H
 (try dsimp only at H)
 have A4 := Aside0.mk A40
 clear A40
 replace H := obe H
 obtain ⟨t237, A50, H⟩ := H
 (try dsimp only at H)
 have A5 := Aside0.mk A50
 clear A50
 by_cases c6 : (t237.length : Int) = 0
 ·rw [if_pos c6] at H
  have c6b0 : ((t237.length : Int) == 0) = true := beq_iff_eq.mpr c6
  have c6b1 : ((t237.length : Int) != 0) = false := bne_eq_false_iff_eq.mpr c6
  clear c6
  simp only [Option.some.injEq, Prod.mk.injEq] at H
  obtain ⟨rfl, rfl, rfl, rfl⟩ := H
  go_enter Try.func16, Try.ntmps16
  go_wp2_with (first | ((with_reducible refine gate_dst (N := 6) rfl ?_); (try (refine gate_guard (by rfl) ?_; dsimp only)); refine box_event ?hg (N := 6) ?hd (cs := #[.bool false, .slice none 0 0, .slice none 0 0]) (t := 28) ?hr ?_; (case hd => rfl); (case hg => rfl); (case hr => first | (go_simp; done) | (go_simp; rfl)); intro gb233 hg w7 hbox hb; have BK233 := Aside0.mk (hbox); have GW233 := Aside0.mk ((by rw [hg]; exact (below_size dB) : w.heap.size ≤ gb233)); have GE233 := Aside0.mk ((by rw [hg]; exact (below_size dB) : w.heap.size ≤ gb233)); replace HB := Aside0.mk (below_step dB hb); clear hb hbox hg) | ((with_reducible refine gate_callee (f := 51) rfl ?_); refine gL (some 9) Try.func51 #[.slice A1 l1.length c1] ?_; (with_reducible refine (nat_Norm.calls _ _ l1 t234 _ ?side1 ?side2 A4.out).mono ?_); (case side1 => exact dC (Kd.C_below HR1.out HB.out)); (case side2 => exact HC1.out); rintro e w8 ⟨v235, rfl, ho0, hb⟩; refine ⟨_, rfl, ?_⟩; have HO236 := Aside0.mk (Kd.R_lower ho0 (below_size (dG GE233.out))); replace BK233 := Aside0.mk (blk_below (g := gb233) (o := .cells #[.bool false, .slice none 0 0, .slice none 0 0] 28 (0, 0)) (dK BK233.out) hb); replace HB := Aside0.mk (below_step (dG GE233.out) hb); (try clear hb); (try clear ho0)) | ((with_reducible refine gate_callee (f := 51) rfl ?_); refine gL (some 11) Try.func51 #[.slice A2 l2.length c2] ?_; (with_reducible refine (nat_Norm.calls _ _ l2 t237 _ ?side1 ?side2 A5.out).mono ?_); (case side1 => exact dC (Kd.C_below HR2.out HB.out)); (case side2 => exact HC2.out); rintro e w9 ⟨v238, rfl, ho0, hb⟩; refine ⟨_, rfl, ?_⟩; have HO239 := Aside0.mk (Kd.R_lower (Kd.R_new' ho0 (Kd.R_lt (dR HO236.out))) (below_size (dG GE233.out))); replace HO236 := Aside0.mk (Kd.R_elder' (dR HO236.out) (Kd.R_base ho0) hb); replace BK233 := Aside0.mk (blk_below (g := gb233) (o := .cells #[.bool false, .slice none 0 0, .slice none 0 0] 28 (0, 0)) (dK BK233.out) hb); replace HB := Aside0.mk (below_step (dG GE233.out) hb); (try clear hb); (try clear ho0); obtain ⟨Ao10, co10, eo10⟩ := Kd.R_slice HO239.out; subst eo10; obtain ⟨hcz11_0, hcz11_1, hcz11_2⟩ := cz3 BK233.out; obtain ⟨hfz11_0, hfz11_1, hfz11_2⟩ := fz3 BK233.out))
  refine bodyPost_ret (results_ct rfl _ _ gb233 28 #[.bool false, .slice none 0 0, .slice none 0 0] (0, 0) _ rfl (dP BK233.out) Try.underlying28 rfl (by kernel_rfl)) rfl ?_
  exact ⟨_, _, dE, by first | exact Kd.R_nil _ _ _ _ _ | exact Kd.N_nil _ _ _ _ _ | exact Kd.V_nil _ _ _ _ _ | exact Kd.Q_nil _ _ _ _ _ | exact Kd.S_nil _ _ _ _ _, by first | exact Kd.R_nil _ _ _ _ _ | exact Kd.N_nil _ _ _ _ _ | exact Kd.V_nil _ _ _ _ _ | exact Kd.Q_nil _ _ _ _ _ | exact Kd.S_nil _ _ _ _ _, dG GE233.out⟩
 ·rw [if_neg c6] at H
  have c6b0 : ((t237.length : Int) == 0) = false := beq_eq_false_iff_ne.mpr c6
  have c6b1 : ((t237.length : Int) != 0) = true := bne_iff_ne.mpr c6
  have c6b2 : ¬ (t237 = []) := fun h_ => c6 (by rw [h_]; rfl)
  by_cases c12 : (t234.length : Int) > 4096
  ·rw [if_pos c12] at H
   have c12b0 : decide (4096 < (t234.length : Int)) = true := decide_eq_true c12
   have c12b1 : decide (4096 < t234.length) = true := decide_eq_true (by omega)
   clear c12
   simp only [Option.some.injEq, Prod.mk.injEq] at H
   obtain ⟨rfl, rfl, rfl, rfl⟩ := H
   go_enter Try.func16, Try.ntmps16
   go_wp2_with (first | ((with_reducible refine gate_dst (N := 6) rfl ?_); (try (refine gate_guard (by rfl) ?_; dsimp only)); refine box_event ?hg (N := 6) ?hd (cs := #[.bool false, .slice none 0 0, .slice none 0 0]) (t := 28) ?hr ?_; (case hd => rfl); (case hg => rfl); (case hr => first | (go_simp; done) | (go_simp; rfl)); intro gb233 hg w13 hbox hb; have BK233 := Aside0.mk (hbox); have GW233 := Aside0.mk ((by rw [hg]; exact (below_size dB) : w.heap.size ≤ gb233)); have GE233 := Aside0.mk ((by rw [hg]; exact (below_size dB) : w.heap.size ≤ gb233)); replace HB := Aside0.mk (below_step dB hb); clear hb hbox hg) | ((with_reducible refine gate_callee (f := 51) rfl ?_); refine gL (some 9) Try.func51 #[.slice A1 l1.length c1] ?_; (with_reducible refine (nat_Norm.calls _ _ l1 t234 _ ?side1 ?side2 A4.out).mono ?_); (case side1 => exact dC (Kd.C_below HR1.out HB.out)); (case side2 => exact HC1.out); rintro e w14 ⟨v235, rfl, ho0, hb⟩; refine ⟨_, rfl, ?_⟩; have HO236 := Aside0.mk (Kd.R_lower ho0 (below_size (dG GE233.out))); replace BK233 := Aside0.mk (blk_below (g := gb233) (o := .cells #[.bool false, .slice none 0 0, .slice none 0 0] 28 (0, 0)) (dK BK233.out) hb); replace HB := Aside0.mk (below_step (dG GE233.out) hb); (try clear hb); (try clear ho0)) | ((with_reducible refine gate_callee (f := 51) rfl ?_); refine gL (some 11) Try.func51 #[.slice A2 l2.length c2] ?_; (with_reducible refine (nat_Norm.calls _ _ l2 t237 _ ?side1 ?side2 A5.out).mono ?_); (case side1 => exact dC (Kd.C_below HR2.out HB.out)); (case side2 => exact HC2.out); rintro e w15 ⟨v238, rfl, ho0, hb⟩; refine ⟨_, rfl, ?_⟩; have HO239 := Aside0.mk (Kd.R_lower (Kd.R_new' ho0 (Kd.R_lt (dR HO236.out))) (below_size (dG GE233.out))); replace HO236 := Aside0.mk (Kd.R_elder' (dR HO236.out) (Kd.R_base ho0) hb); replace BK233 := Aside0.mk (blk_below (g := gb233) (o := .cells #[.bool false, .slice none 0 0, .slice none 0 0] 28 (0, 0)) (dK BK233.out) hb); replace HB := Aside0.mk (below_step (dG GE233.out) hb); (try clear hb); (try clear ho0); obtain ⟨Ao16, co16, eo16⟩ := Kd.R_slice HO239.out; subst eo16; obtain ⟨Ao17, co17, eo17⟩ := Kd.R_slice HO236.out; subst eo17; obtain ⟨hcz18_0, hcz18_1, hcz18_2⟩ := cz3 BK233.out; obtain ⟨hfz18_0, hfz18_1, hfz18_2⟩ := fz3 BK233.out))
   refine bodyPost_ret (results_ct rfl _ _ gb233 28 #[.bool false, .slice none 0 0, .slice none 0 0] (0, 0) _ rfl (dP BK233.out) Try.underlying28 rfl (by kernel_rfl)) rfl ?_
   exact ⟨_, _, dE, by first | exact Kd.R_nil _ _ _ _ _ | exact Kd.N_nil _ _ _ _ _ | exact Kd.V_nil _ _ _ _ _ | exact Kd.Q_nil _ _ _ _ _ | exact Kd.S_nil _ _ _ _ _, by first | exact Kd.R_nil _ _ _ _ _ | exact Kd.N_nil _ _ _ _ _ | exact Kd.V_nil _ _ _ _ _ | exact Kd.Q_nil _ _ _ _ _ | exact Kd.S_nil _ _ _ _ _, dG GE233.out⟩
  ·rw [if_neg c12] at H
   have c12b0 : decide (4096 < (t234.length : Int)) = false := decide_eq_false c12
   have c12b1 : decide (4096 < t234.length) = false := decide_eq_false (by omega)
   clear c12
   by_cases c19 : (t237.length : Int) > 4096
   ·rw [if_pos c19] at H
    have c19b0 : decide (4096 < (t237.length : Int)) = true := decide_eq_true c19
    have c19b1 : decide (4096 < t237.length) = true := decide_eq_true (by omega)
    clear c19
    simp only [Option.some.injEq, Prod.mk.injEq] at H
    obtain ⟨rfl, rfl, rfl, rfl⟩ := H
    go_enter Try.func16, Try.ntmps16
    go_wp2_with (first | ((with_reducible refine gate_dst (N := 6) rfl ?_); (try (refine gate_guard (by rfl) ?_; dsimp only)); refine box_event ?hg (N := 6) ?hd (cs := #[.bool false, .slice none 0 0, .slice none 0 0]) (t := 28) ?hr ?_; (case hd => rfl); (case hg => rfl); (case hr => first | (go_simp; done) | (go_simp; rfl)); intro gb233 hg w20 hbox hb; have BK233 := Aside0.mk (hbox); have GW233 := Aside0.mk ((by rw [hg]; exact (below_size dB) : w.heap.size ≤ gb233)); have GE233 := Aside0.mk ((by rw [hg]; exact (below_size dB) : w.heap.size ≤ gb233)); replace HB := Aside0.mk (below_step dB hb); clear hb hbox hg) | ((with_reducible refine gate_callee (f := 51) rfl ?_); refine gL (some 9) Try.func51 #[.slice A1 l1.length c1] ?_; (with_reducible refine (nat_Norm.calls _ _ l1 t234 _ ?side1 ?side2 A4.out).mono ?_); (case side1 => exact dC (Kd.C_below HR1.out HB.out)); (case side2 => exact HC1.out); rintro e w21 ⟨v235, rfl, ho0, hb⟩; refine ⟨_, rfl, ?_⟩; have HO236 := Aside0.mk (Kd.R_lower ho0 (below_size (dG GE233.out))); replace BK233 := Aside0.mk (blk_below (g := gb233) (o := .cells #[.bool false, .slice none 0 0, .slice none 0 0] 28 (0, 0)) (dK BK233.out) hb); replace HB := Aside0.mk (below_step (dG GE233.out) hb); (try clear hb); (try clear ho0)) | ((with_reducible refine gate_callee (f := 51) rfl ?_); refine gL (some 11) Try.func51 #[.slice A2 l2.length c2] ?_; (with_reducible refine (nat_Norm.calls _ _ l2 t237 _ ?side1 ?side2 A5.out).mono ?_); (case side1 => exact dC (Kd.C_below HR2.out HB.out)); (case side2 => exact HC2.out); rintro e w22 ⟨v238, rfl, ho0, hb⟩; refine ⟨_, rfl, ?_⟩; have HO239 := Aside0.mk (Kd.R_lower (Kd.R_new' ho0 (Kd.R_lt (dR HO236.out))) (below_size (dG GE233.out))); replace HO236 := Aside0.mk (Kd.R_elder' (dR HO236.out) (Kd.R_base ho0) hb); replace BK233 := Aside0.mk (blk_below (g := gb233) (o := .cells #[.bool false, .slice none 0 0, .slice none 0 0] 28 (0, 0)) (dK BK233.out) hb); replace HB := Aside0.mk (below_step (dG GE233.out) hb); (try clear hb); (try clear ho0); obtain ⟨Ao23, co23, eo23⟩ := Kd.R_slice HO239.out; subst eo23; obtain ⟨Ao24, co24, eo24⟩ := Kd.R_slice HO236.out; subst eo24; obtain ⟨hcz25_0, hcz25_1, hcz25_2⟩ := cz3 BK233.out; obtain ⟨hfz25_0, hfz25_1, hfz25_2⟩ := fz3 BK233.out))
    refine bodyPost_ret (results_ct rfl _ _ gb233 28 #[.bool false, .slice none 0 0, .slice none 0 0] (0, 0) _ rfl (dP BK233.out) Try.underlying28 rfl (by kernel_rfl)) rfl ?_
    exact ⟨_, _, dE, by first | exact Kd.R_nil _ _ _ _ _ | exact Kd.N_nil _ _ _ _ _ | exact Kd.V_nil _ _ _ _ _ | exact Kd.Q_nil _ _ _ _ _ | exact Kd.S_nil _ _ _ _ _, by first | exact Kd.R_nil _ _ _ _ _ | exact Kd.N_nil _ _ _ _ _ | exact Kd.V_nil _ _ _ _ _ | exact Kd.Q_nil _ _ _ _ _ | exact Kd.S_nil _ _ _ _ _, dG GE233.out⟩
   ·rw [if_neg c19] at H
    have c19b0 : decide (4096 < (t237.length : Int)) = false := decide_eq_false c19
    have c19b1 : decide (4096 < t237.length) = false := decide_eq_false (by omega)
    clear c19
    replace H := obe H
    obtain ⟨⟨t240, t241, t244⟩, A260, H⟩ := H
    (try dsimp only at H)
    have A26 := Aside0.mk A260
    clear A260
    simp only [Option.some.injEq, Prod.mk.injEq] at H
    obtain ⟨rfl, rfl, rfl, rfl⟩ := H
    go_enter Try.func16, Try.ntmps16
    go_wp2_with (first | ((with_reducible refine gate_dst (N := 6) rfl ?_); (try (refine gate_guard (by rfl) ?_; dsimp only)); refine box_event ?hg (N := 6) ?hd (cs := #[.bool false, .slice none 0 0, .slice none 0 0]) (t := 28) ?hr ?_; (case hd => rfl); (case hg => rfl); (case hr => first | (go_simp; done) | (go_simp; rfl)); intro gb233 hg w27 hbox hb; have BK233 := Aside0.mk (hbox); have GW233 := Aside0.mk ((by rw [hg]; exact (below_size dB) : w.heap.size ≤ gb233)); have GE233 := Aside0.mk ((by rw [hg]; exact (below_size dB) : w.heap.size ≤ gb233)); replace HB := Aside0.mk (below_step dB hb); clear hb hbox hg) | ((with_reducible refine gate_callee (f := 51) rfl ?_); refine gL (some 9) Try.func51 #[.slice A1 l1.length c1] ?_; (with_reducible refine (nat_Norm.calls _ _ l1 t234 _ ?side1 ?side2 A4.out).mono ?_); (case side1 => exact dC (Kd.C_below HR1.out HB.out)); (case side2 => exact HC1.out); rintro e w28 ⟨v235, rfl, ho0, hb⟩; refine ⟨_, rfl, ?_⟩; have HO236 := Aside0.mk (Kd.R_lower ho0 (below_size (dG GE233.out))); replace BK233 := Aside0.mk (blk_below (g := gb233) (o := .cells #[.bool false, .slice none 0 0, .slice none 0 0] 28 (0, 0)) (dK BK233.out) hb); replace HB := Aside0.mk (below_step (dG GE233.out) hb); (try clear hb); (try clear ho0)) | ((with_reducible refine gate_callee (f := 51) rfl ?_); refine gL (some 11) Try.func51 #[.slice A2 l2.length c2] ?_; (with_reducible refine (nat_Norm.calls _ _ l2 t237 _ ?side1 ?side2 A5.out).mono ?_); (case side1 => exact dC (Kd.C_below HR2.out HB.out)); (case side2 => exact HC2.out); rintro e w29 ⟨v238, rfl, ho0, hb⟩; refine ⟨_, rfl, ?_⟩; have HO239 := Aside0.mk (Kd.R_lower (Kd.R_new' ho0 (Kd.R_lt (dR HO236.out))) (below_size (dG GE233.out))); replace HO236 := Aside0.mk (Kd.R_elder' (dR HO236.out) (Kd.R_base ho0) hb); replace BK233 := Aside0.mk (blk_below (g := gb233) (o := .cells #[.bool false, .slice none 0 0, .slice none 0 0] 28 (0, 0)) (dK BK233.out) hb); replace HB := Aside0.mk (below_step (dG GE233.out) hb); (try clear hb); (try clear ho0); obtain ⟨Ao30, co30, eo30⟩ := Kd.R_slice HO239.out; subst eo30; obtain ⟨Ao31, co31, eo31⟩ := Kd.R_slice HO236.out; subst eo31) | ((with_reducible refine gate_callee (f := 53) rfl ?_); refine gL (some 30) Try.func53 #[.bool a0, .slice Ao31 t234.length co31, .slice Ao30 t237.length co30] ?_; (with_reducible refine (rat_lowest.calls k a0 _ _ t234 _ _ t237 t240 t241 t244 _ ?side1 ?side2 ?side3 ?side4 A26.out).mono ?_); (case side1 => exact dC (Kd.R_reads' HO236.out).2.2); (case side2 => exact (Kd.R_reads' HO236.out).2.1); (case side3 => exact dC (Kd.R_reads' HO239.out).2.2); (case side4 => exact (Kd.R_reads' HO239.out).2.1); rintro e w32 ⟨v242, v245, rfl, ho0, ho1, hb⟩; refine ⟨_, rfl, ?_⟩; have HO243 := Aside0.mk (Kd.R_lower (Kd.R_new' (Kd.R_new' ho0 (Kd.R_lt (dR HO236.out))) (Kd.R_lt (dR HO239.out))) (below_size (dG GE233.out))); have HO246 := Aside0.mk (Kd.R_lower (Kd.R_new' (Kd.R_new' ho1 (Kd.R_lt (dR HO236.out))) (Kd.R_lt (dR HO239.out))) (below_size (dG GE233.out))); replace HO236 := Aside0.mk (Kd.R_mono (Kd.R_told (Kd.R_told (Kd.R_old (dR HO236.out) hb) (Kd.R_base ho0)) (Kd.R_base ho1)) (fun _ h_ => h_.1)); replace HO239 := Aside0.mk (Kd.R_mono (Kd.R_told (Kd.R_told (Kd.R_old (dR HO239.out) hb) (Kd.R_base ho0)) (Kd.R_base ho1)) (fun _ h_ => h_.1)); replace BK233 := Aside0.mk (blk_below (g := gb233) (o := .cells #[.bool false, .slice none 0 0, .slice none 0 0] 28 (0, 0)) (dK BK233.out) hb); replace HB := Aside0.mk (below_step (dG GE233.out) hb); (try clear hb); (try clear ho0); (try clear ho1); obtain ⟨hcz33_0, hcz33_1, hcz33_2⟩ := cz3 BK233.out; obtain ⟨hfz33_0, hfz33_1, hfz33_2⟩ := fz3 BK233.out; obtain ⟨Ao34, co34, eo34⟩ := Kd.R_slice HO243.out; subst eo34; obtain ⟨Ao35, co35, eo35⟩ := Kd.R_slice HO246.out; subst eo35))
    refine bodyPost_ret (results_ct rfl _ _ gb233 28 #[.bool t240, .slice Ao34 t241.length co34, .slice Ao35 t244.length co35] (0, 0) _ rfl (dP BK233.out) Try.underlying28 rfl (by kernel_rfl)) rfl ?_
    exact ⟨_, _, dE, by (with_reducible repeat (first | apply Kd.R_alloc | apply Kd.R_drewN | apply Kd.R_drew)); exact Kd.R_mono (Kd.R_far (p := ⟨gb233, 2, none⟩) (Kd.R_far (p := ⟨gb233, 1, none⟩) (Kd.R_far (p := ⟨gb233, 0, none⟩) (Kd.R_types HO243.out BK233.out (by decide)) (fun _ hk => hk.2) (.bool t240)) (fun _ hk => hk.2) (.slice Ao34 t241.length co34)) (fun _ hk => hk.2) (.slice Ao35 t244.length co35)) (fun _ hk => hk.1.1.1), by (with_reducible repeat (first | apply Kd.R_alloc | apply Kd.R_drewN | apply Kd.R_drew)); exact Kd.R_mono (Kd.R_far (p := ⟨gb233, 2, none⟩) (Kd.R_far (p := ⟨gb233, 1, none⟩) (Kd.R_far (p := ⟨gb233, 0, none⟩) (Kd.R_types HO246.out BK233.out (by decide)) (fun _ hk => hk.2) (.bool t240)) (fun _ hk => hk.2) (.slice Ao34 t241.length co34)) (fun _ hk => hk.2) (.slice Ao35 t244.length co35)) (fun _ hk => hk.1.1.1), dG GE233.out⟩

/-! ### rat_normal: function 65 -/
def rat_normal.f (l0 : List Int) : Option (Bool) := if (l0.length : Int) ≤ 4096 then (if (l0.length : Int) = 0 then (some true) else (if 0 ≤ (wrap64 ((l0.length : Int) - 1)) then (if (wrap64 ((l0.length : Int) - 1)) < (l0.length : Int) then (some ((rd l0 (wrap64 ((l0.length : Int) - 1))) != 0)) else (none)) else (none))) else (some false)
set_option maxHeartbeats 8000000 in
set_option maxRecDepth 100000 in
theorem rat_normal.calls (A0 : Option Addr) (c0 : Nat) (l0 : List Int) (r : Bool) (w : World) (hr0 : Kd.C (Kd.int .u64) w A0 l0.length l0) (hc0 : l0.length ≤ c0) (h : rat_normal.f l0 = some r) :
  Calls Try.prog 65 #[.slice A0 l0.length c0] w fun e w' => e = .returned (.bool r) ∧ Drawn0 w w' := by
 have HR0 := Aside0.mk hr0
 have HC0 := Aside0.mk hc0
 clear hr0 hc0
 have H : (if (l0.length : Int) ≤ 4096 then (if (l0.length : Int) = 0 then (some true) else (if 0 ≤ (wrap64 ((l0.length : Int) - 1)) then (if (wrap64 ((l0.length : Int) - 1)) < (l0.length : Int) then (some ((rd l0 (wrap64 ((l0.length : Int) - 1))) != 0)) else (none)) else (none))) else (some false)) = some r := h
 clear h
 by_cases c2 : (l0.length : Int) ≤ 4096
 ·rw [if_pos c2] at H
  have c2b0 : decide ((l0.length : Int) ≤ 4096) = true := decide_eq_true c2
  have c2b1 : decide (l0.length ≤ 4096) = true := decide_eq_true (by omega)
  clear c2
  by_cases c3 : (l0.length : Int) = 0
  ·rw [if_pos c3] at H
   have c3b0 : ((l0.length : Int) == 0) = true := beq_iff_eq.mpr c3
   have c3b1 : ((l0.length : Int) != 0) = false := bne_eq_false_iff_eq.mpr c3
   clear c3
   obtain rfl := Option.some.inj H
   go_enter Try.func65, Try.ntmps65
   go_wp2
   go_ret
   exact ⟨by first | rfl | (simp; done) | (simp [*]; done), by repeat (first | exact Drawn0.refl _ | apply Drawn0.step)⟩
  ·rw [if_neg c3] at H
   have c3b0 : ((l0.length : Int) == 0) = false := beq_eq_false_iff_ne.mpr c3
   have c3b1 : ((l0.length : Int) != 0) = true := bne_iff_ne.mpr c3
   have c3b2 : ¬ (l0 = []) := fun h_ => c3 (by rw [h_]; rfl)
   obtain ⟨ji4, hji4⟩ : ∃ j_ : Int, (wrap64 ((l0.length : Int) - 1)) = j_ := ⟨_, rfl⟩
   first | rw [hji4] at H | simp only [hji4] at H
   have hji4w : (IntKind.i64.wrap ((l0.length : Int) - 1)) = ji4 := (i64_w _).trans hji4
   by_cases c5 : (0 : Int) ≤ (ji4)
   ·rw [if_pos c5] at H
    have c5b0 : decide (0 ≤ (ji4)) = true := decide_eq_true c5
    clear c5
    by_cases c6 : (ji4) < (l0.length : Int)
    ·rw [if_pos c6] at H
     have c6b0 : decide ((ji4) < (l0.length : Int)) = true := decide_eq_true c6
     clear c6
     obtain rfl := Option.some.inj H
     have p247 : 0 ≤ ((ji4) : Int) := of_decide_eq_true dS
     have q247 : (ji4) < (l0.length : Int) := of_decide_eq_true dS
     obtain ⟨ad247, e247, hx247_0⟩ := Kd.at_int HR0.out (ji4) p247 q247
     cases e247
     replace p247 := eq_true p247
     replace q247 := eq_true q247
     go_enter Try.func65, Try.ntmps65
     go_wp2
     go_ret
     exact ⟨by first | rfl | (simp; done) | (simp only [← hji4] <;> (first | rfl | simp)) | (simp [*]; done), by repeat (first | exact Drawn0.refl _ | apply Drawn0.step)⟩
    ·rw [if_neg c6] at H
     exact absurd H (by simp)
   ·rw [if_neg c5] at H
    exact absurd H (by simp)
 ·rw [if_neg c2] at H
  have c2b0 : decide ((l0.length : Int) ≤ 4096) = false := decide_eq_false c2
  have c2b1 : decide (l0.length ≤ 4096) = false := decide_eq_false (by omega)
  clear c2
  obtain rfl := Option.some.inj H
  go_enter Try.func65, Try.ntmps65
  go_wp2
  go_ret
  exact ⟨by first | rfl | (simp; done) | (simp [*]; done), by repeat (first | exact Drawn0.refl _ | apply Drawn0.step)⟩

/-! ### nat_Word: function 66 -/
def nat_Word.f (k : Nat) (l0 : List Int) : Option (Int × Bool) := (nat_size.f k l0).bind fun t248 => (if t248 = 0 then (some (0, true)) else (if t248 = 1 then (if 0 < (l0.length : Int) then (some (rd l0 0, true)) else (none)) else (some (0, false))))
theorem nat_Word.mono : ∀ a0 k, LeO (nat_Word.f k a0) (nat_Word.f (k + 1) a0) := by
 intro a0 k
 unfold nat_Word.f
 have m0_ := nat_size.mono
 exact mX
set_option maxHeartbeats 8000000 in
set_option maxRecDepth 100000 in
theorem nat_Word.calls (k : Nat) (A0 : Option Addr) (c0 : Nat) (l0 : List Int) (r1 : Int) (r2 : Bool) (w : World) (hr0 : Kd.C (Kd.int .u64) w A0 l0.length l0) (hc0 : l0.length ≤ c0) (h : nat_Word.f k l0 = some (r1, r2)) :
  Calls Try.prog 66 #[.slice A0 l0.length c0] w fun e w' => e = .returned (.tuple #[.int .u64 r1, .bool r2]) ∧ Drawn0 w w' := by
 have HR0 := Aside0.mk hr0
 have HC0 := Aside0.mk hc0
 clear hr0 hc0
 have H : ((nat_size.f k l0).bind fun t248 => (if t248 = 0 then (some (0, true)) else (if t248 = 1 then (if 0 < (l0.length : Int) then (some (rd l0 0, true)) else (none)) else (some (0, false))))) = some (r1, r2) := h
 clear h
 replace H := obe H
 obtain ⟨t248, A20, H⟩ := H
 (try dsimp only at H)
 have A2 := Aside0.mk A20
 clear A20
 by_cases c3 : t248 = 0
 ·rw [if_pos c3] at H
  have c3b0 : (t248 == 0) = true := beq_iff_eq.mpr c3
  have c3b1 : (t248 != 0) = false := bne_eq_false_iff_eq.mpr c3
  clear c3
  simp only [Option.some.injEq, Prod.mk.injEq] at H
  obtain ⟨rfl, rfl⟩ := H
  go_enter Try.func66, Try.ntmps66
  go_wp2_with (first | ((with_reducible refine gate_callee (f := 47) rfl ?_); refine gL (some 5) Try.func47 #[.slice A0 l0.length c0] ?_; (with_reducible refine (nat_size.calls k _ _ l0 t248 _ ?side1 ?side2 A2.out).mono ?_); (case side1 => exact dC HR0.out); (case side2 => exact HC0.out); rintro e w' ⟨rfl, ⟨nd, rfl⟩⟩; refine ⟨_, rfl, ?_⟩))
  go_ret2
  exact ⟨by first | rfl | (simp; done) | (simp [*]; done), by repeat (first | exact Drawn0.refl _ | apply Drawn0.step)⟩
 ·rw [if_neg c3] at H
  have c3b0 : (t248 == 0) = false := beq_eq_false_iff_ne.mpr c3
  have c3b1 : (t248 != 0) = true := bne_iff_ne.mpr c3
  by_cases c4 : t248 = 1
  ·rw [if_pos c4] at H
   have c4b0 : (t248 == 1) = true := beq_iff_eq.mpr c4
   have c4b1 : (t248 != 1) = false := bne_eq_false_iff_eq.mpr c4
   clear c4
   by_cases c5 : (0 : Int) < (l0.length : Int)
   ·rw [if_pos c5] at H
    have c5b0 : decide (0 < (l0.length : Int)) = true := decide_eq_true c5
    have c5b1 : decide (0 < l0.length) = true := decide_eq_true (by omega)
    clear c5
    simp only [Option.some.injEq, Prod.mk.injEq] at H
    obtain ⟨rfl, rfl⟩ := H
    go_enter Try.func66, Try.ntmps66
    go_wp2_with (first | ((with_reducible refine gate_callee (f := 47) rfl ?_); refine gL (some 5) Try.func47 #[.slice A0 l0.length c0] ?_; (with_reducible refine (nat_size.calls k _ _ l0 t248 _ ?side1 ?side2 A2.out).mono ?_); (case side1 => exact dC HR0.out); (case side2 => exact HC0.out); rintro e w' ⟨rfl, ⟨nd, rfl⟩⟩; refine ⟨_, rfl, ?_⟩; have p249 : 0 ≤ (0 : Int) := (by omega); have q249 : 0 < (l0.length : Int) := of_decide_eq_true dS; obtain ⟨ad249, e249, hx249_0⟩ := Kd.at_int HR0.out 0 p249 q249; cases e249; have qi249 : (0 < l0.length) = True := eq_true (by omega); (try rw [show ((0 : Int)).toNat = 0 from rfl] at hx249_0); (try rw [Addr.add_zero'] at hx249_0); replace p249 := eq_true p249; replace q249 := eq_true q249))
    go_ret2
    exact ⟨by first | rfl | (simp; done) | (simp [*]; done), by repeat (first | exact Drawn0.refl _ | apply Drawn0.step)⟩
   ·rw [if_neg c5] at H
    exact absurd H (by simp)
  ·rw [if_neg c4] at H
   have c4b0 : (t248 == 1) = false := beq_eq_false_iff_ne.mpr c4
   have c4b1 : (t248 != 1) = true := bne_iff_ne.mpr c4
   simp only [Option.some.injEq, Prod.mk.injEq] at H
   obtain ⟨rfl, rfl⟩ := H
   go_enter Try.func66, Try.ntmps66
   go_wp2_with (first | ((with_reducible refine gate_callee (f := 47) rfl ?_); refine gL (some 5) Try.func47 #[.slice A0 l0.length c0] ?_; (with_reducible refine (nat_size.calls k _ _ l0 t248 _ ?side1 ?side2 A2.out).mono ?_); (case side1 => exact dC HR0.out); (case side2 => exact HC0.out); rintro e w' ⟨rfl, ⟨nd, rfl⟩⟩; refine ⟨_, rfl, ?_⟩))
   go_ret2
   exact ⟨by first | rfl | (simp; done) | (simp [*]; done), by repeat (first | exact Drawn0.refl _ | apply Drawn0.step)⟩

end Go.Proofs.Ytmdmgbllpgkpeaa.PA

namespace Go.Proofs.Ytmdmgbllpgkpeaa.PA
open Go.RowKit Go.Proofs.YtmdmgbllpgkpeaaW.PrintWords Go.Proofs.YtmdmgbllpgkpeaaW.PrintLast Go.Proofs.YtmdmgbllpgkpeaaW.PrintMore
attribute [local go_sem] max2_int min2_int max_two min_two max_three min_three max_four min_four   -- for this text's walks alone
set_option linter.unusedVariables false
set_option linter.unusedSimpArgs false

/-! ### rat_Check: function 28 -/
def rat_Check.j0 : Nat → Bool → Bool → List Int → List Int → Option (Int)
 | 0, _, _, _, _ => none
 | k + 1, x30, x251000, x251001, x251002 => if x30 = true then (some 51) else ((quot_Gcd.f k x251001 x251002).bind fun t253 => ((nat_Word.f k t253).bind fun bt256 => (if bt256.2 = true then (if bt256.1 = 1 then (some 0) else (some 51)) else (some 51))))
def rat_Check.f (k : Nat) (a0_0 : Bool) (l0_1 : List Int) (l0_2 : List Int) : Option (Int) := (rat_normal.f l0_1).bind fun t251 => (if t251 = true then ((rat_normal.f l0_2).bind fun t252 => (if t252 = true then (if (l0_2.length : Int) = 0 then (rat_Check.j0 k true a0_0 l0_1 l0_2) else (if a0_0 = true then (rat_Check.j0 k ((l0_1.length : Int) == 0) a0_0 l0_1 l0_2) else (rat_Check.j0 k false a0_0 l0_1 l0_2))) else (rat_Check.j0 k true a0_0 l0_1 l0_2))) else (rat_Check.j0 k true a0_0 l0_1 l0_2))
theorem rat_Check.mono_l : ∀ k, (∀ y0 y1 y2 y3, LeO (rat_Check.j0 k y0 y1 y2 y3) (rat_Check.j0 (k + 1) y0 y1 y2 y3))
 | 0 => fun _ _ _ _ r h => by simp [rat_Check.j0] at h
 | k + 1 => by
  have ih0 := rat_Check.mono_l k
  ·intro y0 y1 y2 y3
   unfold rat_Check.j0
   have m0_ := nat_Word.mono
   have m1_ := quot_Gcd.mono
   exact mX
theorem rat_Check.mono : ∀ a0 a1 a2 k, LeO (rat_Check.f k a0 a1 a2) (rat_Check.f (k + 1) a0 a1 a2) := by
 intro a0 a1 a2 k
 have ih0 := rat_Check.mono_l k
 unfold rat_Check.f
 have m0_ := nat_Word.mono
 have m1_ := quot_Gcd.mono
 exact mX
set_option maxHeartbeats 8000000 in
set_option maxRecDepth 100000 in
theorem rat_Check.calls (k : Nat) (a0_0 : Bool) (A0_1 : Option Addr) (c0_1 : Nat) (l0_1 : List Int) (A0_2 : Option Addr) (c0_2 : Nat) (l0_2 : List Int) (r : Int) (w : World) (hr0_1 : Kd.C (Kd.int .u64) w A0_1 l0_1.length l0_1) (hc0_1 : l0_1.length ≤ c0_1) (hr0_2 : Kd.C (Kd.int .u64) w A0_2 l0_2.length l0_2) (hc0_2 : l0_2.length ≤ c0_2) (h : rat_Check.f k a0_0 l0_1 l0_2 = some r) :
  Calls Try.prog 28 #[.agg #[.bool a0_0, .slice A0_1 l0_1.length c0_1, .slice A0_2 l0_2.length c0_2]] w fun e w' => e = .returned (.int .i64 r) ∧ Below w.heap.size w w' := by
 have hu28 := Try.underlying28
 have HR0_1 := Aside0.mk hr0_1
 have HC0_1 := Aside0.mk hc0_1
 clear hr0_1 hc0_1
 have HR0_2 := Aside0.mk hr0_2
 have HC0_2 := Aside0.mk hc0_2
 clear hr0_2 hc0_2
 have HB := Aside0.mk (Below.refl w.heap.size w)
 have H : ((rat_normal.f l0_1).bind fun t251 => (if t251 = true then ((rat_normal.f l0_2).bind fun t252 => (if t252 = true then (if (l0_2.length : Int) = 0 then (rat_Check.j0 k true a0_0 l0_1 l0_2) else (if a0_0 = true then (rat_Check.j0 k ((l0_1.length : Int) == 0) a0_0 l0_1 l0_2) else (rat_Check.j0 k false a0_0 l0_1 l0_2))) else (rat_Check.j0 k true a0_0 l0_1 l0_2))) else (rat_Check.j0 k true a0_0 l0_1 l0_2))) = some r := h
 clear h
 have HC2 := Aside0.mk H
 clear H
 go_enter Try.func28, Try.ntmps28
 go_upto_region 1 with (first | ((with_reducible refine gate_dst (N := 1) rfl ?_); (try (refine gate_guard (by rfl) ?_; dsimp only)); refine box_event ?hg (N := 1) ?hd (cs := #[.bool a0_0, .slice A0_1 l0_1.length c0_1, .slice A0_2 l0_2.length c0_2]) (t := 28) ?hr ?_; (case hd => rfl); (case hg => rfl); (case hr => first | (go_simp; done) | (go_simp; rfl)); intro gb250 hg w3 hbox hb; have BK250 := Aside0.mk (hbox); have GW250 := Aside0.mk ((by rw [hg]; exact (below_size dB) : w.heap.size ≤ gb250)); have GE250 := Aside0.mk ((by rw [hg]; exact (below_size dB) : w.heap.size ≤ gb250)); replace HB := Aside0.mk (below_step dB hb); clear hb hbox hg))
 (try simp only [Act.put, List.setIfInBounds_toArray, List.set_cons_zero, List.set_cons_succ])
 go_cut [30] (fun v30 wc => ∃ (kq : Nat) (x30_1 : Bool), v30 = .bool x30_1 ∧ Aside0 (rat_Check.j0 kq x30_1 a0_0 l0_1 l0_2 = some r) ∧ Aside0 (kq ≤ k) ∧ Aside0 (wc.heap[gb250]? = some (.cells #[.bool a0_0, (.slice A0_1 l0_1.length c0_1), (.slice A0_2 l0_2.length c0_2)] 28 (0, 0))) ∧ Aside0 (Below w.heap.size w wc))
 case first =>
  have H := HC2.out
  clear HC2
  replace H := obe H
  obtain ⟨t251, A40, H⟩ := H
  (try dsimp only at H)
  have A4 := Aside0.mk A40
  clear A40
  by_cases c5 : t251 = true
  ·subst c5
   have H1 : ((rat_normal.f l0_2).bind fun t252 => (if t252 = true then (if (l0_2.length : Int) = 0 then (rat_Check.j0 k true a0_0 l0_1 l0_2) else (if a0_0 = true then (rat_Check.j0 k ((l0_1.length : Int) == 0) a0_0 l0_1 l0_2) else (rat_Check.j0 k false a0_0 l0_1 l0_2))) else (rat_Check.j0 k true a0_0 l0_1 l0_2))) = some r := by rw [if_pos rfl] at H; exact H
   clear H
   have H := H1
   clear H1
   replace H := obe H
   obtain ⟨t252, A60, H⟩ := H
   (try dsimp only at H)
   have A6 := Aside0.mk A60
   clear A60
   by_cases c7 : t252 = true
   ·subst c7
    have H1 : (if (l0_2.length : Int) = 0 then (rat_Check.j0 k true a0_0 l0_1 l0_2) else (if a0_0 = true then (rat_Check.j0 k ((l0_1.length : Int) == 0) a0_0 l0_1 l0_2) else (rat_Check.j0 k false a0_0 l0_1 l0_2))) = some r := by rw [if_pos rfl] at H; exact H
    clear H
    have H := H1
    clear H1
    by_cases c8 : (l0_2.length : Int) = 0
    ·rw [if_pos c8] at H
     have c8b0 : ((l0_2.length : Int) == 0) = true := beq_iff_eq.mpr c8
     have c8b1 : ((l0_2.length : Int) != 0) = false := bne_eq_false_iff_eq.mpr c8
     clear c8
     (first | rw [c8b0] | (simp only [i64_w, i32_w]; rw [c8b0]) | skip)
     have H' := Aside0.mk H
     clear H
     obtain ⟨hcz9_0, hcz9_1, hcz9_2⟩ := cz3 BK250.out
     obtain ⟨hfz9_0, hfz9_1, hfz9_2⟩ := fz3 BK250.out
     go_wp2_with (first | ((with_reducible refine gate_callee (f := 65) rfl ?_); refine gL (some 7) Try.func65 #[.slice A0_1 l0_1.length c0_1] ?_; (with_reducible refine (rat_normal.calls _ _ l0_1 true _ ?side1 ?side2 A4.out).mono ?_); (case side1 => exact dC (Kd.C_below HR0_1.out HB.out)); (case side2 => exact HC0_1.out); rintro e w' ⟨rfl, ⟨nd, rfl⟩⟩; refine ⟨_, rfl, ?_⟩) | (go_at_call 65; (with_reducible refine (rat_normal.calls _ _ l0_2 true _ ?side1 ?side2 A6.out).mono ?_); (case side1 => exact dC (Kd.C_below HR0_2.out (dG GE250.out))); (case side2 => exact HC0_2.out); rintro e w' ⟨rfl, ⟨nd, rfl⟩⟩))
     go_meet
     case rel => exact ⟨_, (true), dF, H', ⟨dN⟩, ⟨dK BK250.out⟩, ⟨dG GE250.out⟩⟩
    ·rw [if_neg c8] at H
     have c8b0 : ((l0_2.length : Int) == 0) = false := beq_eq_false_iff_ne.mpr c8
     have c8b1 : ((l0_2.length : Int) != 0) = true := bne_iff_ne.mpr c8
     have c8b2 : ¬ (l0_2 = []) := fun h_ => c8 (by rw [h_]; rfl)
     (first | rw [c8b0] | (simp only [i64_w, i32_w]; rw [c8b0]) | skip)
     by_cases c10 : a0_0 = true
     ·subst c10
      have H1 : (rat_Check.j0 k ((l0_1.length : Int) == 0) true l0_1 l0_2) = some r := by rw [if_pos rfl] at H; exact H
      clear H
      have H := H1
      clear H1
      have H' := Aside0.mk H
      clear H
      obtain ⟨hcz11_0, hcz11_1, hcz11_2⟩ := cz3 BK250.out
      obtain ⟨hfz11_0, hfz11_1, hfz11_2⟩ := fz3 BK250.out
      go_wp2_with (first | ((with_reducible refine gate_callee (f := 65) rfl ?_); refine gL (some 7) Try.func65 #[.slice A0_1 l0_1.length c0_1] ?_; (with_reducible refine (rat_normal.calls _ _ l0_1 true _ ?side1 ?side2 A4.out).mono ?_); (case side1 => exact dC (Kd.C_below HR0_1.out HB.out)); (case side2 => exact HC0_1.out); rintro e w' ⟨rfl, ⟨nd, rfl⟩⟩; refine ⟨_, rfl, ?_⟩) | (go_at_call 65; (with_reducible refine (rat_normal.calls _ _ l0_2 true _ ?side1 ?side2 A6.out).mono ?_); (case side1 => exact dC (Kd.C_below HR0_2.out (dG GE250.out))); (case side2 => exact HC0_2.out); rintro e w' ⟨rfl, ⟨nd, rfl⟩⟩))
      go_meet
      case rel => exact ⟨_, (((l0_1.length : Int) == 0)), dF, H', ⟨dN⟩, ⟨dK BK250.out⟩, ⟨dG GE250.out⟩⟩
     ·replace c10 := Bool.eq_false_iff.mpr c10
      subst c10
      have H1 : (rat_Check.j0 k false false l0_1 l0_2) = some r := by rw [if_neg (show ¬ (false = true) by decide)] at H; exact H
      clear H
      have H := H1
      clear H1
      have H' := Aside0.mk H
      clear H
      obtain ⟨hcz12_0, hcz12_1, hcz12_2⟩ := cz3 BK250.out
      obtain ⟨hfz12_0, hfz12_1, hfz12_2⟩ := fz3 BK250.out
      go_wp2_with (first | ((with_reducible refine gate_callee (f := 65) rfl ?_); refine gL (some 7) Try.func65 #[.slice A0_1 l0_1.length c0_1] ?_; (with_reducible refine (rat_normal.calls _ _ l0_1 true _ ?side1 ?side2 A4.out).mono ?_); (case side1 => exact dC (Kd.C_below HR0_1.out HB.out)); (case side2 => exact HC0_1.out); rintro e w' ⟨rfl, ⟨nd, rfl⟩⟩; refine ⟨_, rfl, ?_⟩) | (go_at_call 65; (with_reducible refine (rat_normal.calls _ _ l0_2 true _ ?side1 ?side2 A6.out).mono ?_); (case side1 => exact dC (Kd.C_below HR0_2.out (dG GE250.out))); (case side2 => exact HC0_2.out); rintro e w' ⟨rfl, ⟨nd, rfl⟩⟩))
      go_meet
      case rel => exact ⟨_, (false), dF, H', ⟨dN⟩, ⟨dK BK250.out⟩, ⟨dG GE250.out⟩⟩
   ·replace c7 := Bool.eq_false_iff.mpr c7
    subst c7
    have H1 : (rat_Check.j0 k true a0_0 l0_1 l0_2) = some r := by rw [if_neg (show ¬ (false = true) by decide)] at H; exact H
    clear H
    have H := H1
    clear H1
    have H' := Aside0.mk H
    clear H
    obtain ⟨hcz13_0, hcz13_1, hcz13_2⟩ := cz3 BK250.out
    obtain ⟨hfz13_0, hfz13_1, hfz13_2⟩ := fz3 BK250.out
    go_wp2_with (first | ((with_reducible refine gate_callee (f := 65) rfl ?_); refine gL (some 7) Try.func65 #[.slice A0_1 l0_1.length c0_1] ?_; (with_reducible refine (rat_normal.calls _ _ l0_1 true _ ?side1 ?side2 A4.out).mono ?_); (case side1 => exact dC (Kd.C_below HR0_1.out HB.out)); (case side2 => exact HC0_1.out); rintro e w' ⟨rfl, ⟨nd, rfl⟩⟩; refine ⟨_, rfl, ?_⟩) | (go_at_call 65; (with_reducible refine (rat_normal.calls _ _ l0_2 false _ ?side1 ?side2 A6.out).mono ?_); (case side1 => exact dC (Kd.C_below HR0_2.out (dG GE250.out))); (case side2 => exact HC0_2.out); rintro e w' ⟨rfl, ⟨nd, rfl⟩⟩))
    go_meet
    case rel => exact ⟨_, (true), dF, H', ⟨dN⟩, ⟨dK BK250.out⟩, ⟨dG GE250.out⟩⟩
  ·replace c5 := Bool.eq_false_iff.mpr c5
   subst c5
   have H1 : (rat_Check.j0 k true a0_0 l0_1 l0_2) = some r := by rw [if_neg (show ¬ (false = true) by decide)] at H; exact H
   clear H
   have H := H1
   clear H1
   have H' := Aside0.mk H
   clear H
   obtain ⟨hcz14_0, hcz14_1, hcz14_2⟩ := cz3 BK250.out
   obtain ⟨hfz14_0, hfz14_1, hfz14_2⟩ := fz3 BK250.out
   go_wp2_with (first | ((with_reducible refine gate_callee (f := 65) rfl ?_); refine gL (some 7) Try.func65 #[.slice A0_1 l0_1.length c0_1] ?_; (with_reducible refine (rat_normal.calls _ _ l0_1 false _ ?side1 ?side2 A4.out).mono ?_); (case side1 => exact dC (Kd.C_below HR0_1.out HB.out)); (case side2 => exact HC0_1.out); rintro e w' ⟨rfl, ⟨nd, rfl⟩⟩; refine ⟨_, rfl, ?_⟩))
   go_meet
   case rel => exact ⟨_, (true), dF, H', ⟨dN⟩, ⟨dK BK250.out⟩, ⟨dG GE250.out⟩⟩
 case rest =>
  clear HC2
  obtain ⟨kq, x30_1, rfl, HA, HJ1, BK250, HB⟩ := hcut
  cases kq with
  | zero => exact absurd HA.out (by simp [rat_Check.j0])
  | succ kj1 =>
   have H := HA.out
   clear HA
   simp only [rat_Check.j0] at H
   by_cases c15 : x30_1 = true
   ·subst c15
    have H1 : (some 51) = some r := by rw [if_pos rfl] at H; exact H
    clear H
    have H := H1
    clear H1
    obtain rfl := Option.some.inj H
    go_wp2
    go_ret
    exact ⟨dE, dG GE250.out⟩
   ·replace c15 := Bool.eq_false_iff.mpr c15
    subst c15
    have H1 : ((quot_Gcd.f kj1 l0_1 l0_2).bind fun t253 => ((nat_Word.f kj1 t253).bind fun bt256 => (if bt256.2 = true then (if bt256.1 = 1 then (some 0) else (some 51)) else (some 51)))) = some r := by rw [if_neg (show ¬ (false = true) by decide)] at H; exact H
    clear H
    have H := H1
    clear H1
    replace H := obe H
    obtain ⟨t253, A160, H⟩ := H
    (try dsimp only at H)
    have A16 := Aside0.mk A160
    clear A160
    replace H := obe H
    obtain ⟨⟨t256, t257⟩, A170, H⟩ := H
    (try dsimp only at H)
    have A17 := Aside0.mk A170
    clear A170
    by_cases c18 : t257 = true
    ·subst c18
     have H1 : (if t256 = 1 then (some 0) else (some 51)) = some r := by rw [if_pos rfl] at H; exact H
     clear H
     have H := H1
     clear H1
     by_cases c19 : t256 = 1
     ·rw [if_pos c19] at H
      have c19b0 : (t256 == 1) = true := beq_iff_eq.mpr c19
      have c19b1 : (t256 != 1) = false := bne_eq_false_iff_eq.mpr c19
      clear c19
      obtain rfl := Option.some.inj H
      obtain ⟨hcz20_0, hcz20_1, hcz20_2⟩ := cz3 BK250.out
      obtain ⟨hfz20_0, hfz20_1, hfz20_2⟩ := fz3 BK250.out
      go_wp2_with (first | ((with_reducible refine gate_callee (f := 14) rfl ?_); refine gL (some 36) Try.func14 #[.slice A0_1 l0_1.length c0_1, .slice A0_2 l0_2.length c0_2] ?_; (with_reducible refine (quot_Gcd.calls kj1 _ _ l0_1 _ _ l0_2 t253 _ ?side1 ?side2 ?side3 ?side4 A16.out).mono ?_); (case side1 => exact dC (Kd.C_below HR0_1.out HB.out)); (case side2 => exact HC0_1.out); (case side3 => exact dC (Kd.C_below HR0_2.out HB.out)); (case side4 => exact HC0_2.out); rintro e w21 ⟨v254, rfl, ho0, hb⟩; refine ⟨_, rfl, ?_⟩; have HO255 := Aside0.mk (Kd.R_lower ho0 (below_size (dG GE250.out))); replace BK250 := Aside0.mk (blk_below (g := gb250) (o := .cells #[.bool a0_0, .slice A0_1 l0_1.length c0_1, .slice A0_2 l0_2.length c0_2] 28 (0, 0)) (dK BK250.out) hb); replace HB := Aside0.mk (below_step (dG GE250.out) hb); (try clear hb); (try clear ho0); obtain ⟨Ao22, co22, eo22⟩ := Kd.R_slice HO255.out; subst eo22) | ((with_reducible refine gate_callee (f := 66) rfl ?_); refine gL (some 37) Try.func66 #[.slice Ao22 t253.length co22] ?_; (with_reducible refine (nat_Word.calls kj1 _ _ t253 t256 true _ ?side1 ?side2 A17.out).mono ?_); (case side1 => exact dC (Kd.R_reads' HO255.out).2.2); (case side2 => exact (Kd.R_reads' HO255.out).2.1); rintro e w' ⟨rfl, ⟨nd, rfl⟩⟩; refine ⟨_, rfl, ?_⟩))
      go_ret
      exact ⟨dE, dG GE250.out⟩
     ·rw [if_neg c19] at H
      have c19b0 : (t256 == 1) = false := beq_eq_false_iff_ne.mpr c19
      have c19b1 : (t256 != 1) = true := bne_iff_ne.mpr c19
      obtain rfl := Option.some.inj H
      obtain ⟨hcz23_0, hcz23_1, hcz23_2⟩ := cz3 BK250.out
      obtain ⟨hfz23_0, hfz23_1, hfz23_2⟩ := fz3 BK250.out
      go_wp2_with (first | ((with_reducible refine gate_callee (f := 14) rfl ?_); refine gL (some 36) Try.func14 #[.slice A0_1 l0_1.length c0_1, .slice A0_2 l0_2.length c0_2] ?_; (with_reducible refine (quot_Gcd.calls kj1 _ _ l0_1 _ _ l0_2 t253 _ ?side1 ?side2 ?side3 ?side4 A16.out).mono ?_); (case side1 => exact dC (Kd.C_below HR0_1.out HB.out)); (case side2 => exact HC0_1.out); (case side3 => exact dC (Kd.C_below HR0_2.out HB.out)); (case side4 => exact HC0_2.out); rintro e w24 ⟨v254, rfl, ho0, hb⟩; refine ⟨_, rfl, ?_⟩; have HO255 := Aside0.mk (Kd.R_lower ho0 (below_size (dG GE250.out))); replace BK250 := Aside0.mk (blk_below (g := gb250) (o := .cells #[.bool a0_0, .slice A0_1 l0_1.length c0_1, .slice A0_2 l0_2.length c0_2] 28 (0, 0)) (dK BK250.out) hb); replace HB := Aside0.mk (below_step (dG GE250.out) hb); (try clear hb); (try clear ho0); obtain ⟨Ao25, co25, eo25⟩ := Kd.R_slice HO255.out; subst eo25) | ((with_reducible refine gate_callee (f := 66) rfl ?_); refine gL (some 37) Try.func66 #[.slice Ao25 t253.length co25] ?_; (with_reducible refine (nat_Word.calls kj1 _ _ t253 t256 true _ ?side1 ?side2 A17.out).mono ?_); (case side1 => exact dC (Kd.R_reads' HO255.out).2.2); (case side2 => exact (Kd.R_reads' HO255.out).2.1); rintro e w' ⟨rfl, ⟨nd, rfl⟩⟩; refine ⟨_, rfl, ?_⟩))
      go_ret
      exact ⟨dE, dG GE250.out⟩
    ·replace c18 := Bool.eq_false_iff.mpr c18
     subst c18
     have H1 : (some 51) = some r := by rw [if_neg (show ¬ (false = true) by decide)] at H; exact H
     clear H
     have H := H1
     clear H1
     obtain rfl := Option.some.inj H
     obtain ⟨hcz26_0, hcz26_1, hcz26_2⟩ := cz3 BK250.out
     obtain ⟨hfz26_0, hfz26_1, hfz26_2⟩ := fz3 BK250.out
     go_wp2_with (first | ((with_reducible refine gate_callee (f := 14) rfl ?_); refine gL (some 36) Try.func14 #[.slice A0_1 l0_1.length c0_1, .slice A0_2 l0_2.length c0_2] ?_; (with_reducible refine (quot_Gcd.calls kj1 _ _ l0_1 _ _ l0_2 t253 _ ?side1 ?side2 ?side3 ?side4 A16.out).mono ?_); (case side1 => exact dC (Kd.C_below HR0_1.out HB.out)); (case side2 => exact HC0_1.out); (case side3 => exact dC (Kd.C_below HR0_2.out HB.out)); (case side4 => exact HC0_2.out); rintro e w27 ⟨v254, rfl, ho0, hb⟩; refine ⟨_, rfl, ?_⟩; have HO255 := Aside0.mk (Kd.R_lower ho0 (below_size (dG GE250.out))); replace BK250 := Aside0.mk (blk_below (g := gb250) (o := .cells #[.bool a0_0, .slice A0_1 l0_1.length c0_1, .slice A0_2 l0_2.length c0_2] 28 (0, 0)) (dK BK250.out) hb); replace HB := Aside0.mk (below_step (dG GE250.out) hb); (try clear hb); (try clear ho0); obtain ⟨Ao28, co28, eo28⟩ := Kd.R_slice HO255.out; subst eo28) | ((with_reducible refine gate_callee (f := 66) rfl ?_); refine gL (some 37) Try.func66 #[.slice Ao28 t253.length co28] ?_; (with_reducible refine (nat_Word.calls kj1 _ _ t253 t256 false _ ?side1 ?side2 A17.out).mono ?_); (case side1 => exact dC (Kd.R_reads' HO255.out).2.2); (case side2 => exact (Kd.R_reads' HO255.out).2.1); rintro e w' ⟨rfl, ⟨nd, rfl⟩⟩; refine ⟨_, rfl, ?_⟩))
     go_ret
     exact ⟨dE, dG GE250.out⟩

end Go.Proofs.Ytmdmgbllpgkpeaa.PA
