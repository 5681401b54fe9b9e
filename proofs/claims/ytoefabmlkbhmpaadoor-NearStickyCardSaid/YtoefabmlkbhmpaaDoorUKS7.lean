/- A part of the proof (7). -/
import Derived.Test.YtoefabmlkbhmpaaDoorUKS2
import Derived.Test.YtoefabmlkbhmpaaDoorUKS4
import Derived.Test.YtoefabmlkbhmpaaDoorUKS3
import Derived.Test.YtoefabmlkbhmpaaDoorUKS5
import Derived.Test.YtoefabmlkbhmpaaDoorUKS6
namespace Go.Proofs.YtoefabmlkbhmpaaDoor.PA
open Go.RowKit Go.Proofs.YtoefabmlkbhmpaaDoorW.PrintWords Go.Proofs.YtoefabmlkbhmpaaDoorW.PrintLast Go.Proofs.YtoefabmlkbhmpaaDoorW.PrintMore
attribute [local go_sem] max2_int min2_int max_two min_two max_three min_three max_four min_four   -- for this text's walks alone
set_option linter.unusedVariables false
set_option linter.unusedSimpArgs false

/-! ### quot_DivMod: function 53 -/
def quot_DivMod.f (k : Nat) (l0 : List Int) (l1 : List Int) : Option (List Int × List Int × Int) := (nat_Norm.f l0).bind fun t311 => ((nat_Norm.f l1).bind fun t314 => (if (t314.length : Int) = 0 then (some (([] : List Int), ([] : List Int), 30)) else ((nat_Cmp.f k t311 t314).bind fun t317 => (if t317 < 0 then (some (([] : List Int), t311, 0)) else (if (t314.length : Int) = 1 then (if 0 < (t314.length : Int) then ((quot_Small.f k t311 (rd t314 0)).bind fun bt319 => ((nat_From.f bt319.2.1).bind fun t324 => (some (bt319.1, t324, 0)))) else (none)) else ((quot_long.f k t311 t314).bind fun bt327 => (some (bt327.1, bt327.2, 0))))))))
theorem quot_DivMod.mono : ∀ a0 a1 k, LeO (quot_DivMod.f k a0 a1) (quot_DivMod.f (k + 1) a0 a1) := by
 intro a0 a1 k
 unfold quot_DivMod.f
 have m0_ := nat_Cmp.mono
 have m1_ := quot_Small.mono
 have m2_ := quot_long.mono
 exact mX
set_option maxHeartbeats 8000000 in
set_option maxRecDepth 100000 in
theorem quot_DivMod.calls (k : Nat) (A0 : Option Addr) (c0 : Nat) (l0 : List Int) (A1 : Option Addr) (c1 : Nat) (l1 : List Int) (r1 : List Int) (r2 : List Int) (r3 : Int) (w : World) (hr0 : Kd.C (Kd.int .u64) w A0 l0.length l0) (hc0 : l0.length ≤ c0) (hr1 : Kd.C (Kd.int .u64) w A1 l1.length l1) (hc1 : l1.length ≤ c1) (h : quot_DivMod.f k l0 l1 = some (r1, r2, r3)) :
  Calls Tryd.prog 53 #[.slice A0 l0.length c0, .slice A1 l1.length c1] w fun e w' => ∃ v0_ v1_ : Value, e = .returned (.tuple #[v0_, v1_, .int .i64 r3]) ∧ Kd.R (Kd.int .u64) 26 w' w.heap.size (fun k_ => some k_ ≠ (v1_ : Value).ownBlock) v0_ r1 ∧ Kd.R (Kd.int .u64) 26 w' w.heap.size (fun k_ => some k_ ≠ (v0_ : Value).ownBlock) v1_ r2 ∧ Below w.heap.size w w' := by
 have HR0 := Aside0.mk hr0
 have HC0 := Aside0.mk hc0
 clear hr0 hc0
 have HR1 := Aside0.mk hr1
 have HC1 := Aside0.mk hc1
 clear hr1 hc1
 have HB := Aside0.mk (Below.refl w.heap.size w)
 have H : ((nat_Norm.f l0).bind fun t311 => ((nat_Norm.f l1).bind fun t314 => (if (t314.length : Int) = 0 then (some (([] : List Int), ([] : List Int), 30)) else ((nat_Cmp.f k t311 t314).bind fun t317 => (if t317 < 0 then (some (([] : List Int), t311, 0)) else (if (t314.length : Int) = 1 then (if 0 < (t314.length : Int) then ((quot_Small.f k t311 (rd t314 0)).bind fun bt319 => ((nat_From.f bt319.2.1).bind fun t324 => (some (bt319.1, t324, 0)))) else (none)) else ((quot_long.f k t311 t314).bind fun bt327 => (some (bt327.1, bt327.2, 0))))))))) = some (r1, r2, r3) := h
 clear h
 replace H := obe H
 obtain ⟨t311, A30, H⟩ := H
 (try dsimp only at H)
 have A3 := Aside0.mk A30
 clear A30
 replace H := obe H
 obtain ⟨t314, A40, H⟩ := H
 (try dsimp only at H)
 have A4 := Aside0.mk A40
 clear A40
 by_cases c5 : (t314.length : Int) = 0
 ·rw [if_pos c5] at H
  have c5b0 : ((t314.length : Int) == 0) = true := beq_iff_eq.mpr c5
  have c5b1 : ((t314.length : Int) != 0) = false := bne_eq_false_iff_eq.mpr c5
  clear c5
  simp only [Option.some.injEq, Prod.mk.injEq] at H
  obtain ⟨rfl, rfl, rfl⟩ := H
  go_enter Tryd.func53, Tryd.ntmps53
  go_wp2_with (first | ((with_reducible refine gate_callee (f := 51) rfl ?_); refine gL (some 13) Tryd.func51 #[.slice A0 l0.length c0] ?_; (with_reducible refine (nat_Norm.calls _ _ l0 t311 _ ?side1 ?side2 A3.out).mono ?_); (case side1 => exact dC HR0.out); (case side2 => exact HC0.out); rintro e w6 ⟨v312, rfl, ho0, hb⟩; refine ⟨_, rfl, ?_⟩; have HO313 := Aside0.mk (Kd.R_lower ho0 (below_size dB)); replace HB := Aside0.mk (below_step dB hb); (try clear hb); (try clear ho0)) | ((with_reducible refine gate_callee (f := 51) rfl ?_); refine gL (some 15) Tryd.func51 #[.slice A1 l1.length c1] ?_; (with_reducible refine (nat_Norm.calls _ _ l1 t314 _ ?side1 ?side2 A4.out).mono ?_); (case side1 => exact dC (Kd.C_below HR1.out HB.out)); (case side2 => exact HC1.out); rintro e w7 ⟨v315, rfl, ho0, hb⟩; refine ⟨_, rfl, ?_⟩; have HO316 := Aside0.mk (Kd.R_lower (Kd.R_new' ho0 (Kd.R_lt (dR HO313.out))) (below_size dB)); replace HO313 := Aside0.mk (Kd.R_elder' (dR HO313.out) (Kd.R_base ho0) hb); replace HB := Aside0.mk (below_step dB hb); (try clear hb); (try clear ho0); obtain ⟨Ao8, co8, eo8⟩ := Kd.R_slice HO316.out; subst eo8))
  go_ret3
  exact ⟨_, _, dE, by first | exact Kd.R_nil _ _ _ _ _ | exact Kd.N_nil _ _ _ _ _ | exact Kd.V_nil _ _ _ _ _ | exact Kd.Q_nil _ _ _ _ _ | exact Kd.S_nil _ _ _ _ _, by first | exact Kd.R_nil _ _ _ _ _ | exact Kd.N_nil _ _ _ _ _ | exact Kd.V_nil _ _ _ _ _ | exact Kd.Q_nil _ _ _ _ _ | exact Kd.S_nil _ _ _ _ _, dB⟩
 ·rw [if_neg c5] at H
  have c5b0 : ((t314.length : Int) == 0) = false := beq_eq_false_iff_ne.mpr c5
  have c5b1 : ((t314.length : Int) != 0) = true := bne_iff_ne.mpr c5
  have c5b2 : ¬ (t314 = []) := fun h_ => c5 (by rw [h_]; rfl)
  replace H := obe H
  obtain ⟨t317, A90, H⟩ := H
  (try dsimp only at H)
  have A9 := Aside0.mk A90
  clear A90
  by_cases c10 : t317 < 0
  ·rw [if_pos c10] at H
   have c10b0 : decide (t317 < 0) = true := decide_eq_true c10
   clear c10
   simp only [Option.some.injEq, Prod.mk.injEq] at H
   obtain ⟨rfl, rfl, rfl⟩ := H
   go_enter Tryd.func53, Tryd.ntmps53
   go_wp2_with (first | ((with_reducible refine gate_callee (f := 51) rfl ?_); refine gL (some 13) Tryd.func51 #[.slice A0 l0.length c0] ?_; (with_reducible refine (nat_Norm.calls _ _ l0 t311 _ ?side1 ?side2 A3.out).mono ?_); (case side1 => exact dC HR0.out); (case side2 => exact HC0.out); rintro e w11 ⟨v312, rfl, ho0, hb⟩; refine ⟨_, rfl, ?_⟩; have HO313 := Aside0.mk (Kd.R_lower ho0 (below_size dB)); replace HB := Aside0.mk (below_step dB hb); (try clear hb); (try clear ho0)) | ((with_reducible refine gate_callee (f := 51) rfl ?_); refine gL (some 15) Tryd.func51 #[.slice A1 l1.length c1] ?_; (with_reducible refine (nat_Norm.calls _ _ l1 t314 _ ?side1 ?side2 A4.out).mono ?_); (case side1 => exact dC (Kd.C_below HR1.out HB.out)); (case side2 => exact HC1.out); rintro e w12 ⟨v315, rfl, ho0, hb⟩; refine ⟨_, rfl, ?_⟩; have HO316 := Aside0.mk (Kd.R_lower (Kd.R_new' ho0 (Kd.R_lt (dR HO313.out))) (below_size dB)); replace HO313 := Aside0.mk (Kd.R_elder' (dR HO313.out) (Kd.R_base ho0) hb); replace HB := Aside0.mk (below_step dB hb); (try clear hb); (try clear ho0); obtain ⟨Ao13, co13, eo13⟩ := Kd.R_slice HO316.out; subst eo13; obtain ⟨Ao14, co14, eo14⟩ := Kd.R_slice HO313.out; subst eo14) | ((with_reducible refine gate_callee (f := 58) rfl ?_); refine gL (some 23) Tryd.func58 #[.slice Ao14 t311.length co14, .slice Ao13 t314.length co13] ?_; (with_reducible refine (nat_Cmp.calls k _ _ t311 _ _ t314 t317 _ ?side1 ?side2 ?side3 ?side4 A9.out).mono ?_); (case side1 => exact dC (Kd.R_reads' HO313.out).2.2); (case side2 => exact (Kd.R_reads' HO313.out).2.1); (case side3 => exact dC (Kd.R_reads' HO316.out).2.2); (case side4 => exact (Kd.R_reads' HO316.out).2.1); rintro e w' ⟨rfl, ⟨nd, rfl⟩⟩; refine ⟨_, rfl, ?_⟩))
   go_ret3
   exact ⟨_, _, dE, by first | exact Kd.R_nil _ _ _ _ _ | exact Kd.N_nil _ _ _ _ _ | exact Kd.V_nil _ _ _ _ _ | exact Kd.Q_nil _ _ _ _ _ | exact Kd.S_nil _ _ _ _ _, by (with_reducible repeat (first | apply Kd.R_alloc | apply Kd.R_drewN | apply Kd.R_drew)); exact Kd.R_mono HO313.out (fun _ hk => (by simp [Value.ownBlock])), dB⟩
  ·rw [if_neg c10] at H
   have c10b0 : decide (t317 < 0) = false := decide_eq_false c10
   clear c10
   by_cases c15 : (t314.length : Int) = 1
   ·rw [if_pos c15] at H
    have c15b0 : ((t314.length : Int) == 1) = true := beq_iff_eq.mpr c15
    have c15b1 : ((t314.length : Int) != 1) = false := bne_eq_false_iff_eq.mpr c15
    clear c15
    by_cases c16 : (0 : Int) < (t314.length : Int)
    ·rw [if_pos c16] at H
     have c16b0 : decide (0 < (t314.length : Int)) = true := decide_eq_true c16
     have c16b1 : decide (0 < t314.length) = true := decide_eq_true (by omega)
     clear c16
     replace H := obe H
     obtain ⟨⟨t319, t320, t321⟩, A170, H⟩ := H
     (try dsimp only at H)
     have A17 := Aside0.mk A170
     clear A170
     replace H := obe H
     obtain ⟨t324, A180, H⟩ := H
     (try dsimp only at H)
     have A18 := Aside0.mk A180
     clear A180
     simp only [Option.some.injEq, Prod.mk.injEq] at H
     obtain ⟨rfl, rfl, rfl⟩ := H
     go_enter Tryd.func53, Tryd.ntmps53
     go_wp2_with (first | ((with_reducible refine gate_callee (f := 51) rfl ?_); refine gL (some 13) Tryd.func51 #[.slice A0 l0.length c0] ?_; (with_reducible refine (nat_Norm.calls _ _ l0 t311 _ ?side1 ?side2 A3.out).mono ?_); (case side1 => exact dC HR0.out); (case side2 => exact HC0.out); rintro e w19 ⟨v312, rfl, ho0, hb⟩; refine ⟨_, rfl, ?_⟩; have HO313 := Aside0.mk (Kd.R_lower ho0 (below_size dB)); replace HB := Aside0.mk (below_step dB hb); (try clear hb); (try clear ho0)) | ((with_reducible refine gate_callee (f := 51) rfl ?_); refine gL (some 15) Tryd.func51 #[.slice A1 l1.length c1] ?_; (with_reducible refine (nat_Norm.calls _ _ l1 t314 _ ?side1 ?side2 A4.out).mono ?_); (case side1 => exact dC (Kd.C_below HR1.out HB.out)); (case side2 => exact HC1.out); rintro e w20 ⟨v315, rfl, ho0, hb⟩; refine ⟨_, rfl, ?_⟩; have HO316 := Aside0.mk (Kd.R_lower (Kd.R_new' ho0 (Kd.R_lt (dR HO313.out))) (below_size dB)); replace HO313 := Aside0.mk (Kd.R_elder' (dR HO313.out) (Kd.R_base ho0) hb); replace HB := Aside0.mk (below_step dB hb); (try clear hb); (try clear ho0); obtain ⟨Ao21, co21, eo21⟩ := Kd.R_slice HO316.out; subst eo21; obtain ⟨Ao22, co22, eo22⟩ := Kd.R_slice HO313.out; subst eo22) | ((with_reducible refine gate_callee (f := 58) rfl ?_); refine gL (some 23) Tryd.func58 #[.slice Ao22 t311.length co22, .slice Ao21 t314.length co21] ?_; (with_reducible refine (nat_Cmp.calls k _ _ t311 _ _ t314 t317 _ ?side1 ?side2 ?side3 ?side4 A9.out).mono ?_); (case side1 => exact dC (Kd.R_reads' HO313.out).2.2); (case side2 => exact (Kd.R_reads' HO313.out).2.1); (case side3 => exact dC (Kd.R_reads' HO316.out).2.2); (case side4 => exact (Kd.R_reads' HO316.out).2.1); rintro e w' ⟨rfl, ⟨nd, rfl⟩⟩; refine ⟨_, rfl, ?_⟩; have p318 : 0 ≤ (0 : Int) := (by omega); have q318 : 0 < (t314.length : Int) := of_decide_eq_true dS; obtain ⟨ad318, e318, hx318_0⟩ := Kd.at_int (Kd.R_reads' HO316.out).2.2 0 p318 q318; cases e318; have qi318 : (0 < t314.length) = True := eq_true (by omega); (try rw [show ((0 : Int)).toNat = 0 from rfl] at hx318_0); (try rw [Addr.add_zero'] at hx318_0); replace p318 := eq_true p318; replace q318 := eq_true q318) | ((with_reducible refine gate_callee (f := 91) rfl ?_); refine gL (some 35) Tryd.func91 #[.slice Ao22 t311.length co22, .int .u64 (rd t314 0)] ?_; (with_reducible refine (quot_Small.calls k _ _ t311 (rd t314 0) t319 t320 t321 _ ?side1 ?side2 A17.out).mono ?_); (case side1 => exact dC (Kd.R_reads' HO313.out).2.2); (case side2 => exact (Kd.R_reads' HO313.out).2.1); rintro e w23 ⟨v322, rfl, ho0, hb⟩; refine ⟨_, rfl, ?_⟩; have HO323 := Aside0.mk (Kd.R_lower (Kd.R_new' (Kd.R_new' ho0 (Kd.R_lt (dR HO313.out))) (Kd.R_lt (dR HO316.out))) (below_size dB)); replace HO313 := Aside0.mk (Kd.R_elder' (dR HO313.out) (Kd.R_base ho0) hb); replace HO316 := Aside0.mk (Kd.R_elder' (dR HO316.out) (Kd.R_base ho0) hb); replace HB := Aside0.mk (below_step dB hb); (try clear hb); (try clear ho0)) | ((with_reducible refine gate_callee (f := 66) rfl ?_); refine gL (some 41) Tryd.func66 #[.int .u64 t320] ?_; (with_reducible refine (nat_From.calls t320 t324 _ A18.out).mono ?_); rintro e w24 ⟨v325, rfl, ho0, hb⟩; refine ⟨_, rfl, ?_⟩; have HO326 := Aside0.mk (Kd.R_lower (Kd.R_new' (Kd.R_new' (Kd.R_new' ho0 (Kd.R_lt (dR HO313.out))) (Kd.R_lt (dR HO316.out))) (Kd.R_lt (dR HO323.out))) (below_size dB)); replace HO313 := Aside0.mk (Kd.R_elder' (dR HO313.out) (Kd.R_base ho0) hb); replace HO316 := Aside0.mk (Kd.R_elder' (dR HO316.out) (Kd.R_base ho0) hb); replace HO323 := Aside0.mk (Kd.R_elder' (dR HO323.out) (Kd.R_base ho0) hb); replace HB := Aside0.mk (below_step dB hb); (try clear hb); (try clear ho0)))
     go_ret3
     exact ⟨_, _, dE, by (with_reducible repeat (first | apply Kd.R_alloc | apply Kd.R_drewN | apply Kd.R_drew)); exact Kd.R_mono HO323.out (fun _ hk => hk.2), by (with_reducible repeat (first | apply Kd.R_alloc | apply Kd.R_drewN | apply Kd.R_drew)); exact Kd.R_mono HO326.out (fun _ hk => hk.2), dB⟩
    ·rw [if_neg c16] at H
     exact absurd H (by simp)
   ·rw [if_neg c15] at H
    have c15b0 : ((t314.length : Int) == 1) = false := beq_eq_false_iff_ne.mpr c15
    have c15b1 : ((t314.length : Int) != 1) = true := bne_iff_ne.mpr c15
    replace H := obe H
    obtain ⟨⟨t327, t328⟩, A250, H⟩ := H
    (try dsimp only at H)
    have A25 := Aside0.mk A250
    clear A250
    simp only [Option.some.injEq, Prod.mk.injEq] at H
    obtain ⟨rfl, rfl, rfl⟩ := H
    go_enter Tryd.func53, Tryd.ntmps53
    go_wp2_with (first | ((with_reducible refine gate_callee (f := 51) rfl ?_); refine gL (some 13) Tryd.func51 #[.slice A0 l0.length c0] ?_; (with_reducible refine (nat_Norm.calls _ _ l0 t311 _ ?side1 ?side2 A3.out).mono ?_); (case side1 => exact dC HR0.out); (case side2 => exact HC0.out); rintro e w26 ⟨v312, rfl, ho0, hb⟩; refine ⟨_, rfl, ?_⟩; have HO313 := Aside0.mk (Kd.R_lower ho0 (below_size dB)); replace HB := Aside0.mk (below_step dB hb); (try clear hb); (try clear ho0)) | ((with_reducible refine gate_callee (f := 51) rfl ?_); refine gL (some 15) Tryd.func51 #[.slice A1 l1.length c1] ?_; (with_reducible refine (nat_Norm.calls _ _ l1 t314 _ ?side1 ?side2 A4.out).mono ?_); (case side1 => exact dC (Kd.C_below HR1.out HB.out)); (case side2 => exact HC1.out); rintro e w27 ⟨v315, rfl, ho0, hb⟩; refine ⟨_, rfl, ?_⟩; have HO316 := Aside0.mk (Kd.R_lower (Kd.R_new' ho0 (Kd.R_lt (dR HO313.out))) (below_size dB)); replace HO313 := Aside0.mk (Kd.R_elder' (dR HO313.out) (Kd.R_base ho0) hb); replace HB := Aside0.mk (below_step dB hb); (try clear hb); (try clear ho0); obtain ⟨Ao28, co28, eo28⟩ := Kd.R_slice HO316.out; subst eo28; obtain ⟨Ao29, co29, eo29⟩ := Kd.R_slice HO313.out; subst eo29) | ((with_reducible refine gate_callee (f := 58) rfl ?_); refine gL (some 23) Tryd.func58 #[.slice Ao29 t311.length co29, .slice Ao28 t314.length co28] ?_; (with_reducible refine (nat_Cmp.calls k _ _ t311 _ _ t314 t317 _ ?side1 ?side2 ?side3 ?side4 A9.out).mono ?_); (case side1 => exact dC (Kd.R_reads' HO313.out).2.2); (case side2 => exact (Kd.R_reads' HO313.out).2.1); (case side3 => exact dC (Kd.R_reads' HO316.out).2.2); (case side4 => exact (Kd.R_reads' HO316.out).2.1); rintro e w' ⟨rfl, ⟨nd, rfl⟩⟩; refine ⟨_, rfl, ?_⟩) | ((with_reducible refine gate_callee (f := 92) rfl ?_); refine gL (some 45) Tryd.func92 #[.slice Ao29 t311.length co29, .slice Ao28 t314.length co28] ?_; (with_reducible refine (quot_long.calls k _ _ t311 _ _ t314 t327 t328 _ ?side1 ?side2 ?side3 ?side4 A25.out).mono ?_); (case side1 => exact dC (Kd.R_reads' HO313.out).2.2); (case side2 => exact (Kd.R_reads' HO313.out).2.1); (case side3 => exact dC (Kd.R_reads' HO316.out).2.2); (case side4 => exact (Kd.R_reads' HO316.out).2.1); rintro e w30 ⟨v329, v331, rfl, ho0, ho1, hb⟩; refine ⟨_, rfl, ?_⟩; have HO330 := Aside0.mk (Kd.R_lower (Kd.R_new' (Kd.R_new' ho0 (Kd.R_lt (dR HO313.out))) (Kd.R_lt (dR HO316.out))) (below_size dB)); have HO332 := Aside0.mk (Kd.R_lower (Kd.R_new' (Kd.R_new' ho1 (Kd.R_lt (dR HO313.out))) (Kd.R_lt (dR HO316.out))) (below_size dB)); replace HO313 := Aside0.mk (Kd.R_mono (Kd.R_told (Kd.R_told (Kd.R_old (dR HO313.out) hb) (Kd.R_base ho0)) (Kd.R_base ho1)) (fun _ h_ => h_.1)); replace HO316 := Aside0.mk (Kd.R_mono (Kd.R_told (Kd.R_told (Kd.R_old (dR HO316.out) hb) (Kd.R_base ho0)) (Kd.R_base ho1)) (fun _ h_ => h_.1)); replace HB := Aside0.mk (below_step dB hb); (try clear hb); (try clear ho0); (try clear ho1)))
    go_ret3
    exact ⟨_, _, dE, by (with_reducible repeat (first | apply Kd.R_alloc | apply Kd.R_drewN | apply Kd.R_drew)); exact Kd.R_mono HO330.out (fun _ hk => hk.1.1), by (with_reducible repeat (first | apply Kd.R_alloc | apply Kd.R_drewN | apply Kd.R_drew)); exact Kd.R_mono HO332.out (fun _ hk => hk.1.1), dB⟩

/-! ### near_Quotient: function 17 (by hand) -/
def near_Quotient.f (k : Nat) (a0 : Bool) (l1 : List Int) (l2 : List Int) (a3 : Int) : Option (Int × Int) := (nat_Norm.f l1).bind fun t333 => ((nat_Norm.f l2).bind fun t336 => ((near_known.f a3).bind fun t339 => (if t339 = true then (if (t336.length : Int) = 0 then (some (0, 50)) else (if (t333.length : Int) = 0 then ((near_finish.f k a0 0 0 false a3).bind fun bt340 => (some (bt340.1, bt340.2))) else ((nat_Bits.f k t333).bind fun t342 => ((nat_Bits.f k t336).bind fun t343 => (if (wrap64 (t342 - t343)) > 1100 then ((near_finish.f k a0 1 (wrap64 (t342 - t343)) true a3).bind fun bt344 => (some (bt344.1, bt344.2))) else (if (wrap64 (t342 - t343)) < (-1200) then ((near_finish.f k a0 0 0 true a3).bind fun bt346 => (some (bt346.1, bt346.2))) else (if (wrap64 ((wrap64 (t342 - t343)) - 62)) > 0 then ((near_shl.f k t336 (wrap64 ((wrap64 (t342 - t343)) - 62))).bind fun t348 => ((quot_DivMod.f k t333 t348).bind fun bt351 => ((nat_Word.f k bt351.1).bind fun bt358 => ((near_finish.f k a0 bt358.1 (wrap64 ((wrap64 (t342 - t343)) - 62)) (decide ((bt351.2.1.length : Int) > 0)) a3).bind fun bt360 => (some (bt360.1, bt360.2)))))) else ((near_shl.f k t333 (wrap64 (-(wrap64 ((wrap64 (t342 - t343)) - 62))))).bind fun t362 => ((quot_DivMod.f k t362 t336).bind fun bt365 => ((nat_Word.f k bt365.1).bind fun bt372 => ((near_finish.f k a0 bt372.1 (wrap64 ((wrap64 (t342 - t343)) - 62)) (decide ((bt365.2.1.length : Int) > 0)) a3).bind fun bt374 => (some (bt374.1, bt374.2))))))))))))) else (some (0, 71)))))
theorem near_Quotient.mono : ∀ a0 a1 a2 a3 k, LeO (near_Quotient.f k a0 a1 a2 a3) (near_Quotient.f (k + 1) a0 a1 a2 a3) := by
 intro a0 a1 a2 a3 k
 unfold near_Quotient.f
 have m0_ := nat_Bits.mono
 have m1_ := nat_Word.mono
 have m2_ := near_finish.mono
 have m3_ := near_shl.mono
 have m4_ := quot_DivMod.mono
 exact mX
set_option maxHeartbeats 8000000 in
set_option maxRecDepth 100000 in
theorem near_Quotient.calls (k : Nat) (a0 : Bool) (A1 : Option Addr) (c1 : Nat) (l1 : List Int) (A2 : Option Addr) (c2 : Nat) (l2 : List Int) (a3 : Int) (r1 : Int) (r2 : Int) (w : World) (hr1 : Kd.C (Kd.int .u64) w A1 l1.length l1) (hc1 : l1.length ≤ c1) (hr2 : Kd.C (Kd.int .u64) w A2 l2.length l2) (hc2 : l2.length ≤ c2) (h : near_Quotient.f k a0 l1 l2 a3 = some (r1, r2)) (hS : StaysLaid w := by first | exact HS.out | exact hS | exact StaysLaid.below HS.out HB.out | exact StaysLaid.below HS.out dB) :
  Calls Tryd.prog 17 #[.bool a0, .slice A1 l1.length c1, .slice A2 l2.length c2, .int .i64 a3] w fun e w' => e = .returned (.tuple #[.int .u64 r1, .int .i64 r2]) ∧ Below w.heap.size w w' := by
 have HS := Aside0.mk (show StaysLaid w from hS)
 clear hS
 have HR1 := Aside0.mk hr1
 have HC1 := Aside0.mk hc1
 clear hr1 hc1
 have HR2 := Aside0.mk hr2
 have HC2 := Aside0.mk hc2
 clear hr2 hc2
 have HB := Aside0.mk (Below.refl w.heap.size w)
 have H : ((nat_Norm.f l1).bind fun t333 => ((nat_Norm.f l2).bind fun t336 => ((near_known.f a3).bind fun t339 => (if t339 = true then (if (t336.length : Int) = 0 then (some (0, 50)) else (if (t333.length : Int) = 0 then ((near_finish.f k a0 0 0 false a3).bind fun bt340 => (some (bt340.1, bt340.2))) else ((nat_Bits.f k t333).bind fun t342 => ((nat_Bits.f k t336).bind fun t343 => (if (wrap64 (t342 - t343)) > 1100 then ((near_finish.f k a0 1 (wrap64 (t342 - t343)) true a3).bind fun bt344 => (some (bt344.1, bt344.2))) else (if (wrap64 (t342 - t343)) < (-1200) then ((near_finish.f k a0 0 0 true a3).bind fun bt346 => (some (bt346.1, bt346.2))) else (if (wrap64 ((wrap64 (t342 - t343)) - 62)) > 0 then ((near_shl.f k t336 (wrap64 ((wrap64 (t342 - t343)) - 62))).bind fun t348 => ((quot_DivMod.f k t333 t348).bind fun bt351 => ((nat_Word.f k bt351.1).bind fun bt358 => ((near_finish.f k a0 bt358.1 (wrap64 ((wrap64 (t342 - t343)) - 62)) (decide ((bt351.2.1.length : Int) > 0)) a3).bind fun bt360 => (some (bt360.1, bt360.2)))))) else ((near_shl.f k t333 (wrap64 (-(wrap64 ((wrap64 (t342 - t343)) - 62))))).bind fun t362 => ((quot_DivMod.f k t362 t336).bind fun bt365 => ((nat_Word.f k bt365.1).bind fun bt372 => ((near_finish.f k a0 bt372.1 (wrap64 ((wrap64 (t342 - t343)) - 62)) (decide ((bt365.2.1.length : Int) > 0)) a3).bind fun bt374 => (some (bt374.1, bt374.2))))))))))))) else (some (0, 71)))))) = some (r1, r2) := h
 clear h
 replace H := obe H
 obtain ⟨t333, A50, H⟩ := H
 (try dsimp only at H)
 have A5 := Aside0.mk A50
 clear A50
 replace H := obe H
 obtain ⟨t336, A60, H⟩ := H
 (try dsimp only at H)
 have A6 := Aside0.mk A60
 clear A60
 replace H := obe H
 obtain ⟨t339, A70, H⟩ := H
 (try dsimp only at H)
 have A7 := Aside0.mk A70
 clear A70
 by_cases c8 : t339 = true
 ·subst c8
  have H1 : (if (t336.length : Int) = 0 then (some (0, 50)) else (if (t333.length : Int) = 0 then ((near_finish.f k a0 0 0 false a3).bind fun bt340 => (some (bt340.1, bt340.2))) else ((nat_Bits.f k t333).bind fun t342 => ((nat_Bits.f k t336).bind fun t343 => (if (wrap64 (t342 - t343)) > 1100 then ((near_finish.f k a0 1 (wrap64 (t342 - t343)) true a3).bind fun bt344 => (some (bt344.1, bt344.2))) else (if (wrap64 (t342 - t343)) < (-1200) then ((near_finish.f k a0 0 0 true a3).bind fun bt346 => (some (bt346.1, bt346.2))) else (if (wrap64 ((wrap64 (t342 - t343)) - 62)) > 0 then ((near_shl.f k t336 (wrap64 ((wrap64 (t342 - t343)) - 62))).bind fun t348 => ((quot_DivMod.f k t333 t348).bind fun bt351 => ((nat_Word.f k bt351.1).bind fun bt358 => ((near_finish.f k a0 bt358.1 (wrap64 ((wrap64 (t342 - t343)) - 62)) (decide ((bt351.2.1.length : Int) > 0)) a3).bind fun bt360 => (some (bt360.1, bt360.2)))))) else ((near_shl.f k t333 (wrap64 (-(wrap64 ((wrap64 (t342 - t343)) - 62))))).bind fun t362 => ((quot_DivMod.f k t362 t336).bind fun bt365 => ((nat_Word.f k bt365.1).bind fun bt372 => ((near_finish.f k a0 bt372.1 (wrap64 ((wrap64 (t342 - t343)) - 62)) (decide ((bt365.2.1.length : Int) > 0)) a3).bind fun bt374 => (some (bt374.1, bt374.2))))))))))))) = some (r1, r2) := by rw [if_pos rfl] at H; exact H
  clear H
  have H := H1
  clear H1
  by_cases c9 : (t336.length : Int) = 0
  ·rw [if_pos c9] at H
   have c9b0 : ((t336.length : Int) == 0) = true := beq_iff_eq.mpr c9
   have c9b1 : ((t336.length : Int) != 0) = false := bne_eq_false_iff_eq.mpr c9
   clear c9
   simp only [Option.some.injEq, Prod.mk.injEq] at H
   obtain ⟨rfl, rfl⟩ := H
   go_enter Tryd.func17, Tryd.ntmps17
   go_wp2_with (first | ((with_reducible refine gate_callee (f := 51) rfl ?_); refine gL (some 18) Tryd.func51 #[.slice A1 l1.length c1] ?_; (with_reducible refine (nat_Norm.calls _ _ l1 t333 _ ?side1 ?side2 A5.out).mono ?_); (case side1 => exact dC HR1.out); (case side2 => exact HC1.out); rintro e w10 ⟨v334, rfl, ho0, hb⟩; refine ⟨_, rfl, ?_⟩; have HO335 := Aside0.mk (Kd.R_lower ho0 (below_size dB)); replace HB := Aside0.mk (below_step dB hb); (try clear hb); (try clear ho0)) | ((with_reducible refine gate_callee (f := 51) rfl ?_); refine gL (some 20) Tryd.func51 #[.slice A2 l2.length c2] ?_; (with_reducible refine (nat_Norm.calls _ _ l2 t336 _ ?side1 ?side2 A6.out).mono ?_); (case side1 => exact dC (Kd.C_below HR2.out HB.out)); (case side2 => exact HC2.out); rintro e w11 ⟨v337, rfl, ho0, hb⟩; refine ⟨_, rfl, ?_⟩; have HO338 := Aside0.mk (Kd.R_lower (Kd.R_new' ho0 (Kd.R_lt (dR HO335.out))) (below_size dB)); replace HO335 := Aside0.mk (Kd.R_elder' (dR HO335.out) (Kd.R_base ho0) hb); replace HB := Aside0.mk (below_step dB hb); (try clear hb); (try clear ho0)) | ((with_reducible refine gate_callee (f := 42) rfl ?_); refine gL (some 23) Tryd.func42 #[.int .i64 a3] ?_; (with_reducible refine (near_known.calls a3 true _ A7.out).mono ?_); rintro e w' ⟨rfl, ⟨nd, rfl⟩⟩; refine ⟨_, rfl, ?_⟩; obtain ⟨Ao12, co12, eo12⟩ := Kd.R_slice HO338.out; subst eo12))
   go_ret2
   exact ⟨dE, dB⟩
  ·rw [if_neg c9] at H
   have c9b0 : ((t336.length : Int) == 0) = false := beq_eq_false_iff_ne.mpr c9
   have c9b1 : ((t336.length : Int) != 0) = true := bne_iff_ne.mpr c9
   have c9b2 : ¬ (t336 = []) := fun h_ => c9 (by rw [h_]; rfl)
   by_cases c13 : (t333.length : Int) = 0
   ·rw [if_pos c13] at H
    have c13b0 : ((t333.length : Int) == 0) = true := beq_iff_eq.mpr c13
    have c13b1 : ((t333.length : Int) != 0) = false := bne_eq_false_iff_eq.mpr c13
    clear c13
    replace H := obe H
    obtain ⟨⟨t340, t341⟩, A140, H⟩ := H
    (try dsimp only at H)
    have A14 := Aside0.mk A140
    clear A140
    simp only [Option.some.injEq, Prod.mk.injEq] at H
    obtain ⟨rfl, rfl⟩ := H
    go_enter Tryd.func17, Tryd.ntmps17
    go_wp2_with (first | ((with_reducible refine gate_callee (f := 51) rfl ?_); refine gL (some 18) Tryd.func51 #[.slice A1 l1.length c1] ?_; (with_reducible refine (nat_Norm.calls _ _ l1 t333 _ ?side1 ?side2 A5.out).mono ?_); (case side1 => exact dC HR1.out); (case side2 => exact HC1.out); rintro e w15 ⟨v334, rfl, ho0, hb⟩; refine ⟨_, rfl, ?_⟩; have HO335 := Aside0.mk (Kd.R_lower ho0 (below_size dB)); replace HB := Aside0.mk (below_step dB hb); (try clear hb); (try clear ho0)) | ((with_reducible refine gate_callee (f := 51) rfl ?_); refine gL (some 20) Tryd.func51 #[.slice A2 l2.length c2] ?_; (with_reducible refine (nat_Norm.calls _ _ l2 t336 _ ?side1 ?side2 A6.out).mono ?_); (case side1 => exact dC (Kd.C_below HR2.out HB.out)); (case side2 => exact HC2.out); rintro e w16 ⟨v337, rfl, ho0, hb⟩; refine ⟨_, rfl, ?_⟩; have HO338 := Aside0.mk (Kd.R_lower (Kd.R_new' ho0 (Kd.R_lt (dR HO335.out))) (below_size dB)); replace HO335 := Aside0.mk (Kd.R_elder' (dR HO335.out) (Kd.R_base ho0) hb); replace HB := Aside0.mk (below_step dB hb); (try clear hb); (try clear ho0)) | ((with_reducible refine gate_callee (f := 42) rfl ?_); refine gL (some 23) Tryd.func42 #[.int .i64 a3] ?_; (with_reducible refine (near_known.calls a3 true _ A7.out).mono ?_); rintro e w' ⟨rfl, ⟨nd, rfl⟩⟩; refine ⟨_, rfl, ?_⟩; obtain ⟨Ao17, co17, eo17⟩ := Kd.R_slice HO338.out; subst eo17; obtain ⟨Ao18, co18, eo18⟩ := Kd.R_slice HO335.out; subst eo18) | ((with_reducible refine gate_callee (f := 46) rfl ?_); refine gL (some 35) Tryd.func46 #[.bool a0, .int .u64 0, .int .i64 0, .bool false, .int .i64 a3] ?_; (with_reducible refine (near_finish.calls k a0 0 0 false a3 t340 t341 _ A14.out).mono ?_); rintro e w19 ⟨rfl, hb⟩; refine ⟨_, rfl, ?_⟩; replace HO335 := Aside0.mk (Kd.R_below (dR HO335.out) hb); replace HO338 := Aside0.mk (Kd.R_below (dR HO338.out) hb); replace HB := Aside0.mk (below_step dB hb); (try clear hb)))
    go_ret2
    exact ⟨dE, dB⟩
   ·rw [if_neg c13] at H
    have c13b0 : ((t333.length : Int) == 0) = false := beq_eq_false_iff_ne.mpr c13
    have c13b1 : ((t333.length : Int) != 0) = true := bne_iff_ne.mpr c13
    have c13b2 : ¬ (t333 = []) := fun h_ => c13 (by rw [h_]; rfl)
    replace H := obe H
    obtain ⟨t342, A200, H⟩ := H
    (try dsimp only at H)
    have A20 := Aside0.mk A200
    clear A200
    replace H := obe H
    obtain ⟨t343, A210, H⟩ := H
    (try dsimp only at H)
    have A21 := Aside0.mk A210
    clear A210
    by_cases c22 : (wrap64 (t342 - t343)) > 1100
    ·rw [if_pos c22] at H
     have c22b0 : decide (1100 < (wrap64 (t342 - t343))) = true := decide_eq_true c22
     clear c22
     replace H := obe H
     obtain ⟨⟨t344, t345⟩, A230, H⟩ := H
     (try dsimp only at H)
     have A23 := Aside0.mk A230
     clear A230
     simp only [Option.some.injEq, Prod.mk.injEq] at H
     obtain ⟨rfl, rfl⟩ := H
     go_enter Tryd.func17, Tryd.ntmps17
     go_wp2_with (first | ((with_reducible refine gate_callee (f := 51) rfl ?_); refine gL (some 18) Tryd.func51 #[.slice A1 l1.length c1] ?_; (with_reducible refine (nat_Norm.calls _ _ l1 t333 _ ?side1 ?side2 A5.out).mono ?_); (case side1 => exact dC HR1.out); (case side2 => exact HC1.out); rintro e w24 ⟨v334, rfl, ho0, hb⟩; refine ⟨_, rfl, ?_⟩; have HO335 := Aside0.mk (Kd.R_lower ho0 (below_size dB)); replace HB := Aside0.mk (below_step dB hb); (try clear hb); (try clear ho0)) | ((with_reducible refine gate_callee (f := 51) rfl ?_); refine gL (some 20) Tryd.func51 #[.slice A2 l2.length c2] ?_; (with_reducible refine (nat_Norm.calls _ _ l2 t336 _ ?side1 ?side2 A6.out).mono ?_); (case side1 => exact dC (Kd.C_below HR2.out HB.out)); (case side2 => exact HC2.out); rintro e w25 ⟨v337, rfl, ho0, hb⟩; refine ⟨_, rfl, ?_⟩; have HO338 := Aside0.mk (Kd.R_lower (Kd.R_new' ho0 (Kd.R_lt (dR HO335.out))) (below_size dB)); replace HO335 := Aside0.mk (Kd.R_elder' (dR HO335.out) (Kd.R_base ho0) hb); replace HB := Aside0.mk (below_step dB hb); (try clear hb); (try clear ho0)) | ((with_reducible refine gate_callee (f := 42) rfl ?_); refine gL (some 23) Tryd.func42 #[.int .i64 a3] ?_; (with_reducible refine (near_known.calls a3 true _ A7.out).mono ?_); rintro e w' ⟨rfl, ⟨nd, rfl⟩⟩; refine ⟨_, rfl, ?_⟩; obtain ⟨Ao26, co26, eo26⟩ := Kd.R_slice HO338.out; subst eo26; obtain ⟨Ao27, co27, eo27⟩ := Kd.R_slice HO335.out; subst eo27) | ((with_reducible refine gate_callee (f := 43) rfl ?_); refine gL (some 39) Tryd.func43 #[.slice Ao27 t333.length co27] ?_; (with_reducible refine (nat_Bits.calls k _ _ t333 t342 _ ?side1 ?side2 A20.out).mono ?_); (case side1 => exact dC (Kd.R_reads' HO335.out).2.2); (case side2 => exact (Kd.R_reads' HO335.out).2.1); rintro e w' ⟨rfl, ⟨nd, rfl⟩⟩; refine ⟨_, rfl, ?_⟩) | ((with_reducible refine gate_callee (f := 43) rfl ?_); refine gL (some 41) Tryd.func43 #[.slice Ao26 t336.length co26] ?_; (with_reducible refine (nat_Bits.calls k _ _ t336 t343 _ ?side1 ?side2 A21.out).mono ?_); (case side1 => exact dC (Kd.R_reads' HO338.out).2.2); (case side2 => exact (Kd.R_reads' HO338.out).2.1); rintro e w' ⟨rfl, ⟨nd, rfl⟩⟩; refine ⟨_, rfl, ?_⟩) | ((with_reducible refine gate_callee (f := 46) rfl ?_); refine gL (some 49) Tryd.func46 #[.bool a0, .int .u64 1, .int .i64 (wrap64 (t342 - t343)), .bool true, .int .i64 a3] ?_; (with_reducible refine (near_finish.calls k a0 1 (wrap64 (t342 - t343)) true a3 t344 t345 _ A23.out).mono ?_); rintro e w28 ⟨rfl, hb⟩; refine ⟨_, rfl, ?_⟩; replace HO335 := Aside0.mk (Kd.R_below (dR HO335.out) hb); replace HO338 := Aside0.mk (Kd.R_below (dR HO338.out) hb); replace HB := Aside0.mk (below_step dB hb); (try clear hb)))
     go_ret2
     exact ⟨dE, dB⟩
    ·rw [if_neg c22] at H
     have c22b0 : decide (1100 < (wrap64 (t342 - t343))) = false := decide_eq_false c22
     clear c22
     by_cases c29 : (wrap64 (t342 - t343)) < (-1200)
     ·rw [if_pos c29] at H
      have c29b0 : decide ((wrap64 (t342 - t343)) < (-1200)) = true := decide_eq_true c29
      clear c29
      replace H := obe H
      obtain ⟨⟨t346, t347⟩, A300, H⟩ := H
      (try dsimp only at H)
      have A30 := Aside0.mk A300
      clear A300
      simp only [Option.some.injEq, Prod.mk.injEq] at H
      obtain ⟨rfl, rfl⟩ := H
      go_enter Tryd.func17, Tryd.ntmps17
      go_wp2_with (first | ((with_reducible refine gate_callee (f := 51) rfl ?_); refine gL (some 18) Tryd.func51 #[.slice A1 l1.length c1] ?_; (with_reducible refine (nat_Norm.calls _ _ l1 t333 _ ?side1 ?side2 A5.out).mono ?_); (case side1 => exact dC HR1.out); (case side2 => exact HC1.out); rintro e w31 ⟨v334, rfl, ho0, hb⟩; refine ⟨_, rfl, ?_⟩; have HO335 := Aside0.mk (Kd.R_lower ho0 (below_size dB)); replace HB := Aside0.mk (below_step dB hb); (try clear hb); (try clear ho0)) | ((with_reducible refine gate_callee (f := 51) rfl ?_); refine gL (some 20) Tryd.func51 #[.slice A2 l2.length c2] ?_; (with_reducible refine (nat_Norm.calls _ _ l2 t336 _ ?side1 ?side2 A6.out).mono ?_); (case side1 => exact dC (Kd.C_below HR2.out HB.out)); (case side2 => exact HC2.out); rintro e w32 ⟨v337, rfl, ho0, hb⟩; refine ⟨_, rfl, ?_⟩; have HO338 := Aside0.mk (Kd.R_lower (Kd.R_new' ho0 (Kd.R_lt (dR HO335.out))) (below_size dB)); replace HO335 := Aside0.mk (Kd.R_elder' (dR HO335.out) (Kd.R_base ho0) hb); replace HB := Aside0.mk (below_step dB hb); (try clear hb); (try clear ho0)) | ((with_reducible refine gate_callee (f := 42) rfl ?_); refine gL (some 23) Tryd.func42 #[.int .i64 a3] ?_; (with_reducible refine (near_known.calls a3 true _ A7.out).mono ?_); rintro e w' ⟨rfl, ⟨nd, rfl⟩⟩; refine ⟨_, rfl, ?_⟩; obtain ⟨Ao33, co33, eo33⟩ := Kd.R_slice HO338.out; subst eo33; obtain ⟨Ao34, co34, eo34⟩ := Kd.R_slice HO335.out; subst eo34) | ((with_reducible refine gate_callee (f := 43) rfl ?_); refine gL (some 39) Tryd.func43 #[.slice Ao34 t333.length co34] ?_; (with_reducible refine (nat_Bits.calls k _ _ t333 t342 _ ?side1 ?side2 A20.out).mono ?_); (case side1 => exact dC (Kd.R_reads' HO335.out).2.2); (case side2 => exact (Kd.R_reads' HO335.out).2.1); rintro e w' ⟨rfl, ⟨nd, rfl⟩⟩; refine ⟨_, rfl, ?_⟩) | ((with_reducible refine gate_callee (f := 43) rfl ?_); refine gL (some 41) Tryd.func43 #[.slice Ao33 t336.length co33] ?_; (with_reducible refine (nat_Bits.calls k _ _ t336 t343 _ ?side1 ?side2 A21.out).mono ?_); (case side1 => exact dC (Kd.R_reads' HO338.out).2.2); (case side2 => exact (Kd.R_reads' HO338.out).2.1); rintro e w' ⟨rfl, ⟨nd, rfl⟩⟩; refine ⟨_, rfl, ?_⟩) | ((with_reducible refine gate_callee (f := 46) rfl ?_); refine gL (some 57) Tryd.func46 #[.bool a0, .int .u64 0, .int .i64 0, .bool true, .int .i64 a3] ?_; (with_reducible refine (near_finish.calls k a0 0 0 true a3 t346 t347 _ A30.out).mono ?_); rintro e w35 ⟨rfl, hb⟩; refine ⟨_, rfl, ?_⟩; replace HO335 := Aside0.mk (Kd.R_below (dR HO335.out) hb); replace HO338 := Aside0.mk (Kd.R_below (dR HO338.out) hb); replace HB := Aside0.mk (below_step dB hb); (try clear hb)))
      go_ret2
      exact ⟨dE, dB⟩
     ·rw [if_neg c29] at H
      have c29b0 : decide ((wrap64 (t342 - t343)) < (-1200)) = false := decide_eq_false c29
      clear c29
      by_cases c36 : (wrap64 ((wrap64 (t342 - t343)) - 62)) > 0
      ·rw [if_pos c36] at H
       have c36b0 : decide (0 < (wrap64 ((wrap64 (t342 - t343)) - 62))) = true := decide_eq_true c36
       clear c36
       replace H := obe H
       obtain ⟨t348, A370, H⟩ := H
       (try dsimp only at H)
       have A37 := Aside0.mk A370
       clear A370
       replace H := obe H
       obtain ⟨⟨t351, t352, t353⟩, A380, H⟩ := H
       (try dsimp only at H)
       have A38 := Aside0.mk A380
       clear A380
       replace H := obe H
       obtain ⟨⟨t358, t359⟩, A390, H⟩ := H
       (try dsimp only at H)
       have A39 := Aside0.mk A390
       clear A390
       replace H := obe H
       obtain ⟨⟨t360, t361⟩, A400, H⟩ := H
       (try dsimp only at H)
       have A40 := Aside0.mk A400
       clear A400
       simp only [Option.some.injEq, Prod.mk.injEq] at H
       obtain ⟨rfl, rfl⟩ := H
       have e_ : decide ((t352.length : Int) > 0) = decide (0 < t352.length) := by rw [decide_eq_decide]; omega
       (try (have z_ := A20.out; rw [e_] at z_; clear A20; have A20 := Aside0.mk z_; clear z_))
       (try (have z_ := A21.out; rw [e_] at z_; clear A21; have A21 := Aside0.mk z_; clear z_))
       (try (have z_ := A37.out; rw [e_] at z_; clear A37; have A37 := Aside0.mk z_; clear z_))
       (try (have z_ := A38.out; rw [e_] at z_; clear A38; have A38 := Aside0.mk z_; clear z_))
       (try (have z_ := A39.out; rw [e_] at z_; clear A39; have A39 := Aside0.mk z_; clear z_))
       (try (have z_ := A40.out; rw [e_] at z_; clear A40; have A40 := Aside0.mk z_; clear z_))
       (try (have z_ := A5.out; rw [e_] at z_; clear A5; have A5 := Aside0.mk z_; clear z_))
       (try (have z_ := A6.out; rw [e_] at z_; clear A6; have A6 := Aside0.mk z_; clear z_))
       (try (have z_ := A7.out; rw [e_] at z_; clear A7; have A7 := Aside0.mk z_; clear z_))
       clear e_
       go_enter Tryd.func17, Tryd.ntmps17
       go_wp2_with (first | ((with_reducible refine gate_callee (f := 51) rfl ?_); refine gL (some 18) Tryd.func51 #[.slice A1 l1.length c1] ?_; (with_reducible refine (nat_Norm.calls _ _ l1 t333 _ ?side1 ?side2 A5.out).mono ?_); (case side1 => exact dC HR1.out); (case side2 => exact HC1.out); rintro e w41 ⟨v334, rfl, ho0, hb⟩; refine ⟨_, rfl, ?_⟩; have HO335 := Aside0.mk (Kd.R_lower ho0 (below_size dB)); replace HB := Aside0.mk (below_step dB hb); (try clear hb); (try clear ho0)) | ((with_reducible refine gate_callee (f := 51) rfl ?_); refine gL (some 20) Tryd.func51 #[.slice A2 l2.length c2] ?_; (with_reducible refine (nat_Norm.calls _ _ l2 t336 _ ?side1 ?side2 A6.out).mono ?_); (case side1 => exact dC (Kd.C_below HR2.out HB.out)); (case side2 => exact HC2.out); rintro e w42 ⟨v337, rfl, ho0, hb⟩; refine ⟨_, rfl, ?_⟩; have HO338 := Aside0.mk (Kd.R_lower (Kd.R_new' ho0 (Kd.R_lt (dR HO335.out))) (below_size dB)); replace HO335 := Aside0.mk (Kd.R_elder' (dR HO335.out) (Kd.R_base ho0) hb); replace HB := Aside0.mk (below_step dB hb); (try clear hb); (try clear ho0)) | ((with_reducible refine gate_callee (f := 42) rfl ?_); refine gL (some 23) Tryd.func42 #[.int .i64 a3] ?_; (with_reducible refine (near_known.calls a3 true _ A7.out).mono ?_); rintro e w' ⟨rfl, ⟨nd, rfl⟩⟩; refine ⟨_, rfl, ?_⟩; obtain ⟨Ao43, co43, eo43⟩ := Kd.R_slice HO338.out; subst eo43; obtain ⟨Ao44, co44, eo44⟩ := Kd.R_slice HO335.out; subst eo44) | ((with_reducible refine gate_callee (f := 43) rfl ?_); refine gL (some 39) Tryd.func43 #[.slice Ao44 t333.length co44] ?_; (with_reducible refine (nat_Bits.calls k _ _ t333 t342 _ ?side1 ?side2 A20.out).mono ?_); (case side1 => exact dC (Kd.R_reads' HO335.out).2.2); (case side2 => exact (Kd.R_reads' HO335.out).2.1); rintro e w' ⟨rfl, ⟨nd, rfl⟩⟩; refine ⟨_, rfl, ?_⟩) | ((with_reducible refine gate_callee (f := 43) rfl ?_); refine gL (some 41) Tryd.func43 #[.slice Ao43 t336.length co43] ?_; (with_reducible refine (nat_Bits.calls k _ _ t336 t343 _ ?side1 ?side2 A21.out).mono ?_); (case side1 => exact dC (Kd.R_reads' HO338.out).2.2); (case side2 => exact (Kd.R_reads' HO338.out).2.1); rintro e w' ⟨rfl, ⟨nd, rfl⟩⟩; refine ⟨_, rfl, ?_⟩) | ((with_reducible refine gate_callee (f := 52) rfl ?_); refine gL (some 66) Tryd.func52 #[.slice Ao43 t336.length co43, .int .i64 (wrap64 ((wrap64 (t342 - t343)) - 62))] ?_; (with_reducible refine (near_shl.calls k _ _ t336 (wrap64 ((wrap64 (t342 - t343)) - 62)) t348 _ ?side1 ?side2 A37.out).mono ?_); (case side1 => exact dC (Kd.R_reads' HO338.out).2.2); (case side2 => exact (Kd.R_reads' HO338.out).2.1); rintro e w45 ⟨v349, rfl, ho0, hb⟩; refine ⟨_, rfl, ?_⟩; have HO350 := Aside0.mk (Kd.R_lower (Kd.R_new' (Kd.R_new' ho0 (Kd.R_lt (dR HO335.out))) (Kd.R_lt (dR HO338.out))) (below_size dB)); replace HO335 := Aside0.mk (Kd.R_elder' (dR HO335.out) (Kd.R_base ho0) hb); replace HO338 := Aside0.mk (Kd.R_elder' (dR HO338.out) (Kd.R_base ho0) hb); replace HB := Aside0.mk (below_step dB hb); (try clear hb); (try clear ho0); obtain ⟨Ao46, co46, eo46⟩ := Kd.R_slice HO350.out; subst eo46) | ((with_reducible refine gate_callee (f := 53) rfl ?_); refine gL (some 74) Tryd.func53 #[.slice Ao44 t333.length co44, .slice Ao46 t348.length co46] ?_; (with_reducible refine (quot_DivMod.calls k _ _ t333 _ _ t348 t351 t352 t353 _ ?side1 ?side2 ?side3 ?side4 A38.out).mono ?_); (case side1 => exact dC (Kd.R_reads' HO335.out).2.2); (case side2 => exact (Kd.R_reads' HO335.out).2.1); (case side3 => exact dC (Kd.R_reads' HO350.out).2.2); (case side4 => exact (Kd.R_reads' HO350.out).2.1); rintro e w47 ⟨v354, v356, rfl, ho0, ho1, hb⟩; refine ⟨_, rfl, ?_⟩; have HO355 := Aside0.mk (Kd.R_lower (Kd.R_new' (Kd.R_new' (Kd.R_new' ho0 (Kd.R_lt (dR HO335.out))) (Kd.R_lt (dR HO338.out))) (Kd.R_lt (dR HO350.out))) (below_size dB)); have HO357 := Aside0.mk (Kd.R_lower (Kd.R_new' (Kd.R_new' (Kd.R_new' ho1 (Kd.R_lt (dR HO335.out))) (Kd.R_lt (dR HO338.out))) (Kd.R_lt (dR HO350.out))) (below_size dB)); replace HO335 := Aside0.mk (Kd.R_mono (Kd.R_told (Kd.R_told (Kd.R_old (dR HO335.out) hb) (Kd.R_base ho0)) (Kd.R_base ho1)) (fun _ h_ => h_.1)); replace HO338 := Aside0.mk (Kd.R_mono (Kd.R_told (Kd.R_told (Kd.R_old (dR HO338.out) hb) (Kd.R_base ho0)) (Kd.R_base ho1)) (fun _ h_ => h_.1)); replace HO350 := Aside0.mk (Kd.R_mono (Kd.R_told (Kd.R_told (Kd.R_old (dR HO350.out) hb) (Kd.R_base ho0)) (Kd.R_base ho1)) (fun _ h_ => h_.1)); replace HB := Aside0.mk (below_step dB hb); (try clear hb); (try clear ho0); (try clear ho1); obtain ⟨Ao48, co48, eo48⟩ := Kd.R_slice HO355.out; subst eo48) | ((with_reducible refine gate_callee (f := 45) rfl ?_); refine gL (some 80) Tryd.func45 #[.slice Ao48 t351.length co48] ?_; (with_reducible refine (nat_Word.calls k _ _ t351 t358 t359 _ ?side1 ?side2 A39.out).mono ?_); (case side1 => exact dC (Kd.R_reads' HO355.out).2.2); (case side2 => exact (Kd.R_reads' HO355.out).2.1); rintro e w' ⟨rfl, ⟨nd, rfl⟩⟩; refine ⟨_, rfl, ?_⟩; obtain ⟨Ao49, co49, eo49⟩ := Kd.R_slice HO357.out; subst eo49) | ((with_reducible refine gate_callee (f := 46) rfl ?_); refine gL (some 90) Tryd.func46 #[.bool a0, .int .u64 t358, .int .i64 (wrap64 ((wrap64 (t342 - t343)) - 62)), .bool (decide (0 < t352.length)), .int .i64 a3] ?_; (with_reducible refine (near_finish.calls k a0 t358 (wrap64 ((wrap64 (t342 - t343)) - 62)) (decide (0 < t352.length)) a3 t360 t361 _ A40.out).mono ?_); rintro e w50 ⟨rfl, hb⟩; refine ⟨_, rfl, ?_⟩; replace HO335 := Aside0.mk (Kd.R_below (dR HO335.out) hb); replace HO338 := Aside0.mk (Kd.R_below (dR HO338.out) hb); replace HO350 := Aside0.mk (Kd.R_below (dR HO350.out) hb); replace HO355 := Aside0.mk (Kd.R_below (dR HO355.out) hb); replace HO357 := Aside0.mk (Kd.R_below (dR HO357.out) hb); replace HB := Aside0.mk (below_step dB hb); (try clear hb)))
       go_ret2
       exact ⟨dE, dB⟩
      ·rw [if_neg c36] at H
       have c36b0 : decide (0 < (wrap64 ((wrap64 (t342 - t343)) - 62))) = false := decide_eq_false c36
       clear c36
       replace H := obe H
       obtain ⟨t362, A510, H⟩ := H
       (try dsimp only at H)
       have A51 := Aside0.mk A510
       clear A510
       replace H := obe H
       obtain ⟨⟨t365, t366, t367⟩, A520, H⟩ := H
       (try dsimp only at H)
       have A52 := Aside0.mk A520
       clear A520
       replace H := obe H
       obtain ⟨⟨t372, t373⟩, A530, H⟩ := H
       (try dsimp only at H)
       have A53 := Aside0.mk A530
       clear A530
       replace H := obe H
       obtain ⟨⟨t374, t375⟩, A540, H⟩ := H
       (try dsimp only at H)
       have A54 := Aside0.mk A540
       clear A540
       simp only [Option.some.injEq, Prod.mk.injEq] at H
       obtain ⟨rfl, rfl⟩ := H
       have e_ : decide ((t366.length : Int) > 0) = decide (0 < t366.length) := by rw [decide_eq_decide]; omega
       (try (have z_ := A20.out; rw [e_] at z_; clear A20; have A20 := Aside0.mk z_; clear z_))
       (try (have z_ := A21.out; rw [e_] at z_; clear A21; have A21 := Aside0.mk z_; clear z_))
       (try (have z_ := A5.out; rw [e_] at z_; clear A5; have A5 := Aside0.mk z_; clear z_))
       (try (have z_ := A51.out; rw [e_] at z_; clear A51; have A51 := Aside0.mk z_; clear z_))
       (try (have z_ := A52.out; rw [e_] at z_; clear A52; have A52 := Aside0.mk z_; clear z_))
       (try (have z_ := A53.out; rw [e_] at z_; clear A53; have A53 := Aside0.mk z_; clear z_))
       (try (have z_ := A54.out; rw [e_] at z_; clear A54; have A54 := Aside0.mk z_; clear z_))
       (try (have z_ := A6.out; rw [e_] at z_; clear A6; have A6 := Aside0.mk z_; clear z_))
       (try (have z_ := A7.out; rw [e_] at z_; clear A7; have A7 := Aside0.mk z_; clear z_))
       clear e_
       go_enter Tryd.func17, Tryd.ntmps17
       go_wp2_with (first | ((with_reducible refine gate_callee (f := 51) rfl ?_); refine gL (some 18) Tryd.func51 #[.slice A1 l1.length c1] ?_; (with_reducible refine (nat_Norm.calls _ _ l1 t333 _ ?side1 ?side2 A5.out).mono ?_); (case side1 => exact dC HR1.out); (case side2 => exact HC1.out); rintro e w55 ⟨v334, rfl, ho0, hb⟩; refine ⟨_, rfl, ?_⟩; have HO335 := Aside0.mk (Kd.R_lower ho0 (below_size dB)); replace HB := Aside0.mk (below_step dB hb); (try clear hb); (try clear ho0)) | ((with_reducible refine gate_callee (f := 51) rfl ?_); refine gL (some 20) Tryd.func51 #[.slice A2 l2.length c2] ?_; (with_reducible refine (nat_Norm.calls _ _ l2 t336 _ ?side1 ?side2 A6.out).mono ?_); (case side1 => exact dC (Kd.C_below HR2.out HB.out)); (case side2 => exact HC2.out); rintro e w56 ⟨v337, rfl, ho0, hb⟩; refine ⟨_, rfl, ?_⟩; have HO338 := Aside0.mk (Kd.R_lower (Kd.R_new' ho0 (Kd.R_lt (dR HO335.out))) (below_size dB)); replace HO335 := Aside0.mk (Kd.R_elder' (dR HO335.out) (Kd.R_base ho0) hb); replace HB := Aside0.mk (below_step dB hb); (try clear hb); (try clear ho0)) | ((with_reducible refine gate_callee (f := 42) rfl ?_); refine gL (some 23) Tryd.func42 #[.int .i64 a3] ?_; (with_reducible refine (near_known.calls a3 true _ A7.out).mono ?_); rintro e w' ⟨rfl, ⟨nd, rfl⟩⟩; refine ⟨_, rfl, ?_⟩; obtain ⟨Ao57, co57, eo57⟩ := Kd.R_slice HO338.out; subst eo57; obtain ⟨Ao58, co58, eo58⟩ := Kd.R_slice HO335.out; subst eo58) | ((with_reducible refine gate_callee (f := 43) rfl ?_); refine gL (some 39) Tryd.func43 #[.slice Ao58 t333.length co58] ?_; (with_reducible refine (nat_Bits.calls k _ _ t333 t342 _ ?side1 ?side2 A20.out).mono ?_); (case side1 => exact dC (Kd.R_reads' HO335.out).2.2); (case side2 => exact (Kd.R_reads' HO335.out).2.1); rintro e w' ⟨rfl, ⟨nd, rfl⟩⟩; refine ⟨_, rfl, ?_⟩) | ((with_reducible refine gate_callee (f := 43) rfl ?_); refine gL (some 41) Tryd.func43 #[.slice Ao57 t336.length co57] ?_; (with_reducible refine (nat_Bits.calls k _ _ t336 t343 _ ?side1 ?side2 A21.out).mono ?_); (case side1 => exact dC (Kd.R_reads' HO338.out).2.2); (case side2 => exact (Kd.R_reads' HO338.out).2.1); rintro e w' ⟨rfl, ⟨nd, rfl⟩⟩; refine ⟨_, rfl, ?_⟩) | ((with_reducible refine gate_callee (f := 52) rfl ?_); refine gL (some 70) Tryd.func52 #[.slice Ao58 t333.length co58, .int .i64 (wrap64 (-(wrap64 ((wrap64 (t342 - t343)) - 62))))] ?_; (with_reducible refine (near_shl.calls k _ _ t333 (wrap64 (-(wrap64 ((wrap64 (t342 - t343)) - 62)))) t362 _ ?side1 ?side2 A51.out).mono ?_); (case side1 => exact dC (Kd.R_reads' HO335.out).2.2); (case side2 => exact (Kd.R_reads' HO335.out).2.1); rintro e w59 ⟨v363, rfl, ho0, hb⟩; refine ⟨_, rfl, ?_⟩; have HO364 := Aside0.mk (Kd.R_lower (Kd.R_new' (Kd.R_new' ho0 (Kd.R_lt (dR HO335.out))) (Kd.R_lt (dR HO338.out))) (below_size dB)); replace HO335 := Aside0.mk (Kd.R_elder' (dR HO335.out) (Kd.R_base ho0) hb); replace HO338 := Aside0.mk (Kd.R_elder' (dR HO338.out) (Kd.R_base ho0) hb); replace HB := Aside0.mk (below_step dB hb); (try clear hb); (try clear ho0); obtain ⟨Ao60, co60, eo60⟩ := Kd.R_slice HO364.out; subst eo60) | ((with_reducible refine gate_callee (f := 53) rfl ?_); refine gL (some 74) Tryd.func53 #[.slice Ao60 t362.length co60, .slice Ao57 t336.length co57] ?_; (with_reducible refine (quot_DivMod.calls k _ _ t362 _ _ t336 t365 t366 t367 _ ?side1 ?side2 ?side3 ?side4 A52.out).mono ?_); (case side1 => exact dC (Kd.R_reads' HO364.out).2.2); (case side2 => exact (Kd.R_reads' HO364.out).2.1); (case side3 => exact dC (Kd.R_reads' HO338.out).2.2); (case side4 => exact (Kd.R_reads' HO338.out).2.1); rintro e w61 ⟨v368, v370, rfl, ho0, ho1, hb⟩; refine ⟨_, rfl, ?_⟩; have HO369 := Aside0.mk (Kd.R_lower (Kd.R_new' (Kd.R_new' (Kd.R_new' ho0 (Kd.R_lt (dR HO335.out))) (Kd.R_lt (dR HO338.out))) (Kd.R_lt (dR HO364.out))) (below_size dB)); have HO371 := Aside0.mk (Kd.R_lower (Kd.R_new' (Kd.R_new' (Kd.R_new' ho1 (Kd.R_lt (dR HO335.out))) (Kd.R_lt (dR HO338.out))) (Kd.R_lt (dR HO364.out))) (below_size dB)); replace HO335 := Aside0.mk (Kd.R_mono (Kd.R_told (Kd.R_told (Kd.R_old (dR HO335.out) hb) (Kd.R_base ho0)) (Kd.R_base ho1)) (fun _ h_ => h_.1)); replace HO338 := Aside0.mk (Kd.R_mono (Kd.R_told (Kd.R_told (Kd.R_old (dR HO338.out) hb) (Kd.R_base ho0)) (Kd.R_base ho1)) (fun _ h_ => h_.1)); replace HO364 := Aside0.mk (Kd.R_mono (Kd.R_told (Kd.R_told (Kd.R_old (dR HO364.out) hb) (Kd.R_base ho0)) (Kd.R_base ho1)) (fun _ h_ => h_.1)); replace HB := Aside0.mk (below_step dB hb); (try clear hb); (try clear ho0); (try clear ho1); obtain ⟨Ao62, co62, eo62⟩ := Kd.R_slice HO369.out; subst eo62) | ((with_reducible refine gate_callee (f := 45) rfl ?_); refine gL (some 80) Tryd.func45 #[.slice Ao62 t365.length co62] ?_; (with_reducible refine (nat_Word.calls k _ _ t365 t372 t373 _ ?side1 ?side2 A53.out).mono ?_); (case side1 => exact dC (Kd.R_reads' HO369.out).2.2); (case side2 => exact (Kd.R_reads' HO369.out).2.1); rintro e w' ⟨rfl, ⟨nd, rfl⟩⟩; refine ⟨_, rfl, ?_⟩; obtain ⟨Ao63, co63, eo63⟩ := Kd.R_slice HO371.out; subst eo63) | ((with_reducible refine gate_callee (f := 46) rfl ?_); refine gL (some 90) Tryd.func46 #[.bool a0, .int .u64 t372, .int .i64 (wrap64 ((wrap64 (t342 - t343)) - 62)), .bool (decide (0 < t366.length)), .int .i64 a3] ?_; (with_reducible refine (near_finish.calls k a0 t372 (wrap64 ((wrap64 (t342 - t343)) - 62)) (decide (0 < t366.length)) a3 t374 t375 _ A54.out).mono ?_); rintro e w64 ⟨rfl, hb⟩; refine ⟨_, rfl, ?_⟩; replace HO335 := Aside0.mk (Kd.R_below (dR HO335.out) hb); replace HO338 := Aside0.mk (Kd.R_below (dR HO338.out) hb); replace HO364 := Aside0.mk (Kd.R_below (dR HO364.out) hb); replace HO369 := Aside0.mk (Kd.R_below (dR HO369.out) hb); replace HO371 := Aside0.mk (Kd.R_below (dR HO371.out) hb); replace HB := Aside0.mk (below_step dB hb); (try clear hb)))
       go_ret2
       exact ⟨dE, dB⟩
 ·replace c8 := Bool.eq_false_iff.mpr c8
  subst c8
  have H1 : (some (0, 71)) = some (r1, r2) := by rw [if_neg (show ¬ (false = true) by decide)] at H; exact H
  clear H
  have H := H1
  clear H1
  simp only [Option.some.injEq, Prod.mk.injEq] at H
  obtain ⟨rfl, rfl⟩ := H
  go_enter Tryd.func17, Tryd.ntmps17
  go_wp2_with (first | ((with_reducible refine gate_callee (f := 51) rfl ?_); refine gL (some 18) Tryd.func51 #[.slice A1 l1.length c1] ?_; (with_reducible refine (nat_Norm.calls _ _ l1 t333 _ ?side1 ?side2 A5.out).mono ?_); (case side1 => exact dC HR1.out); (case side2 => exact HC1.out); rintro e w65 ⟨v334, rfl, ho0, hb⟩; refine ⟨_, rfl, ?_⟩; have HO335 := Aside0.mk (Kd.R_lower ho0 (below_size dB)); replace HB := Aside0.mk (below_step dB hb); (try clear hb); (try clear ho0)) | ((with_reducible refine gate_callee (f := 51) rfl ?_); refine gL (some 20) Tryd.func51 #[.slice A2 l2.length c2] ?_; (with_reducible refine (nat_Norm.calls _ _ l2 t336 _ ?side1 ?side2 A6.out).mono ?_); (case side1 => exact dC (Kd.C_below HR2.out HB.out)); (case side2 => exact HC2.out); rintro e w66 ⟨v337, rfl, ho0, hb⟩; refine ⟨_, rfl, ?_⟩; have HO338 := Aside0.mk (Kd.R_lower (Kd.R_new' ho0 (Kd.R_lt (dR HO335.out))) (below_size dB)); replace HO335 := Aside0.mk (Kd.R_elder' (dR HO335.out) (Kd.R_base ho0) hb); replace HB := Aside0.mk (below_step dB hb); (try clear hb); (try clear ho0)) | ((with_reducible refine gate_callee (f := 42) rfl ?_); refine gL (some 23) Tryd.func42 #[.int .i64 a3] ?_; (with_reducible refine (near_known.calls a3 false _ A7.out).mono ?_); rintro e w' ⟨rfl, ⟨nd, rfl⟩⟩; refine ⟨_, rfl, ?_⟩))
  go_ret2
  exact ⟨dE, dB⟩


end Go.Proofs.YtoefabmlkbhmpaaDoor.PA

namespace Go.Proofs.YtoefabmlkbhmpaaDoor.PA
open Go.RowKit Go.Proofs.YtoefabmlkbhmpaaDoorW.PrintWords Go.Proofs.YtoefabmlkbhmpaaDoorW.PrintLast Go.Proofs.YtoefabmlkbhmpaaDoorW.PrintMore
attribute [local go_sem] max2_int min2_int max_two min_two max_three min_three max_four min_four   -- for this text's walks alone
set_option linter.unusedVariables false
set_option linter.unusedSimpArgs false

/-! ### plumblaw07_fixed: function 19 -/
def plumblaw07_fixed.f (k : Nat)  : Option (Bool) := (near_Quotient.f k false (([1] : List Int)) (([2] : List Int)) 0).bind fun bt394 => ((near_Quotient.f k true (([1] : List Int)) (([3] : List Int)) 0).bind fun bt402 => ((near_Quotient.f k false (([1] : List Int)) ([] : List Int) 0).bind fun bt407 => ((plumblaw07_num.f bt394.2).bind fun t409 => (if t409 = 0 then ((plumblaw07_num.f bt402.2).bind fun t410 => (if t410 = 0 then (if bt394.1 = 4602678819172646912 then (if bt402.1 = 13823048456275842389 then ((plumblaw07_num.f bt407.2).bind fun t411 => (some (t411 == 50))) else (some false)) else (some false)) else (some false))) else (some false)))))
theorem plumblaw07_fixed.mono : ∀ k, LeO (plumblaw07_fixed.f k ) (plumblaw07_fixed.f (k + 1) ) := by
 intro  k
 unfold plumblaw07_fixed.f
 have m0_ := near_Quotient.mono
 exact mX
set_option maxHeartbeats 8000000 in
set_option maxRecDepth 100000 in
theorem plumblaw07_fixed.calls (k : Nat)  (r : Bool) (w : World) (h : plumblaw07_fixed.f k  = some r) (hS : StaysLaid w := by first | exact HS.out | exact hS | exact StaysLaid.below HS.out HB.out | exact StaysLaid.below HS.out dB) :
  Calls Tryd.prog 19 #[] w fun e w' => e = .returned (.bool r) ∧ Below w.heap.size w w' := by
 have HS := Aside0.mk (show StaysLaid w from hS)
 clear hS
 have HB := Aside0.mk (Below.refl w.heap.size w)
 have H : ((near_Quotient.f k false (([1] : List Int)) (([2] : List Int)) 0).bind fun bt394 => ((near_Quotient.f k true (([1] : List Int)) (([3] : List Int)) 0).bind fun bt402 => ((near_Quotient.f k false (([1] : List Int)) ([] : List Int) 0).bind fun bt407 => ((plumblaw07_num.f bt394.2).bind fun t409 => (if t409 = 0 then ((plumblaw07_num.f bt402.2).bind fun t410 => (if t410 = 0 then (if bt394.1 = 4602678819172646912 then (if bt402.1 = 13823048456275842389 then ((plumblaw07_num.f bt407.2).bind fun t411 => (some (t411 == 50))) else (some false)) else (some false)) else (some false))) else (some false)))))) = some r := h
 clear h
 obtain ⟨y388, hy388⟩ : ∃ y_ : List Int, y_ = (([1] : List Int)) := ⟨_, rfl⟩
 replace H : ((near_Quotient.f k false y388 (([2] : List Int)) 0).bind fun bt394 => ((near_Quotient.f k true (([1] : List Int)) (([3] : List Int)) 0).bind fun bt402 => ((near_Quotient.f k false (([1] : List Int)) ([] : List Int) 0).bind fun bt407 => ((plumblaw07_num.f bt394.2).bind fun t409 => (if t409 = 0 then ((plumblaw07_num.f bt402.2).bind fun t410 => (if t410 = 0 then (if bt394.1 = 4602678819172646912 then (if bt402.1 = 13823048456275842389 then ((plumblaw07_num.f bt407.2).bind fun t411 => (some (t411 == 50))) else (some false)) else (some false)) else (some false))) else (some false)))))) = some r := by first | (rw [hy388]; with_reducible exact H) | (have H2_ := (Option.bind_some _ _).symm.trans H; rw [hy388]; with_reducible exact H2_) | (have H2_ := (Option.bind_some _ _).symm.trans H; with_reducible exact H2_) | with_reducible exact H | (rw [hy388]; exact H) | exact H
 have Ny388 := Aside0.mk hy388
 clear hy388
 obtain ⟨y391, hy391⟩ : ∃ y_ : List Int, y_ = (([2] : List Int)) := ⟨_, rfl⟩
 replace H : ((near_Quotient.f k false y388 y391 0).bind fun bt394 => ((near_Quotient.f k true (([1] : List Int)) (([3] : List Int)) 0).bind fun bt402 => ((near_Quotient.f k false (([1] : List Int)) ([] : List Int) 0).bind fun bt407 => ((plumblaw07_num.f bt394.2).bind fun t409 => (if t409 = 0 then ((plumblaw07_num.f bt402.2).bind fun t410 => (if t410 = 0 then (if bt394.1 = 4602678819172646912 then (if bt402.1 = 13823048456275842389 then ((plumblaw07_num.f bt407.2).bind fun t411 => (some (t411 == 50))) else (some false)) else (some false)) else (some false))) else (some false)))))) = some r := by first | (rw [hy391]; with_reducible exact H) | (have H2_ := (Option.bind_some _ _).symm.trans H; rw [hy391]; with_reducible exact H2_) | (have H2_ := (Option.bind_some _ _).symm.trans H; with_reducible exact H2_) | with_reducible exact H | (rw [hy391]; exact H) | exact H
 have Ny391 := Aside0.mk hy391
 clear hy391
 replace H := obe H
 obtain ⟨⟨t394, t395⟩, A10, H⟩ := H
 (try dsimp only at H)
 have A1 := Aside0.mk A10
 clear A10
 obtain ⟨y396, hy396⟩ : ∃ y_ : List Int, y_ = (([1] : List Int)) := ⟨_, rfl⟩
 replace H : ((near_Quotient.f k true y396 (([3] : List Int)) 0).bind fun bt402 => ((near_Quotient.f k false (([1] : List Int)) ([] : List Int) 0).bind fun bt407 => ((plumblaw07_num.f t395).bind fun t409 => (if t409 = 0 then ((plumblaw07_num.f bt402.2).bind fun t410 => (if t410 = 0 then (if t394 = 4602678819172646912 then (if bt402.1 = 13823048456275842389 then ((plumblaw07_num.f bt407.2).bind fun t411 => (some (t411 == 50))) else (some false)) else (some false)) else (some false))) else (some false))))) = some r := by first | (rw [hy396]; with_reducible exact H) | (have H2_ := (Option.bind_some _ _).symm.trans H; rw [hy396]; with_reducible exact H2_) | (have H2_ := (Option.bind_some _ _).symm.trans H; with_reducible exact H2_) | with_reducible exact H | (rw [hy396]; exact H) | exact H
 have Ny396 := Aside0.mk hy396
 clear hy396
 obtain ⟨y399, hy399⟩ : ∃ y_ : List Int, y_ = (([3] : List Int)) := ⟨_, rfl⟩
 replace H : ((near_Quotient.f k true y396 y399 0).bind fun bt402 => ((near_Quotient.f k false (([1] : List Int)) ([] : List Int) 0).bind fun bt407 => ((plumblaw07_num.f t395).bind fun t409 => (if t409 = 0 then ((plumblaw07_num.f bt402.2).bind fun t410 => (if t410 = 0 then (if t394 = 4602678819172646912 then (if bt402.1 = 13823048456275842389 then ((plumblaw07_num.f bt407.2).bind fun t411 => (some (t411 == 50))) else (some false)) else (some false)) else (some false))) else (some false))))) = some r := by first | (rw [hy399]; with_reducible exact H) | (have H2_ := (Option.bind_some _ _).symm.trans H; rw [hy399]; with_reducible exact H2_) | (have H2_ := (Option.bind_some _ _).symm.trans H; with_reducible exact H2_) | with_reducible exact H | (rw [hy399]; exact H) | exact H
 have Ny399 := Aside0.mk hy399
 clear hy399
 replace H := obe H
 obtain ⟨⟨t402, t403⟩, A20, H⟩ := H
 (try dsimp only at H)
 have A2 := Aside0.mk A20
 clear A20
 obtain ⟨y404, hy404⟩ : ∃ y_ : List Int, y_ = (([1] : List Int)) := ⟨_, rfl⟩
 replace H : ((near_Quotient.f k false y404 ([] : List Int) 0).bind fun bt407 => ((plumblaw07_num.f t395).bind fun t409 => (if t409 = 0 then ((plumblaw07_num.f t403).bind fun t410 => (if t410 = 0 then (if t394 = 4602678819172646912 then (if t402 = 13823048456275842389 then ((plumblaw07_num.f bt407.2).bind fun t411 => (some (t411 == 50))) else (some false)) else (some false)) else (some false))) else (some false)))) = some r := by first | (rw [hy404]; with_reducible exact H) | (have H2_ := (Option.bind_some _ _).symm.trans H; rw [hy404]; with_reducible exact H2_) | (have H2_ := (Option.bind_some _ _).symm.trans H; with_reducible exact H2_) | with_reducible exact H | (rw [hy404]; exact H) | exact H
 have Ny404 := Aside0.mk hy404
 clear hy404
 replace H := obe H
 obtain ⟨⟨t407, t408⟩, A30, H⟩ := H
 (try dsimp only at H)
 have A3 := Aside0.mk A30
 clear A30
 replace H := obe H
 obtain ⟨t409, A40, H⟩ := H
 (try dsimp only at H)
 have A4 := Aside0.mk A40
 clear A40
 by_cases c5 : t409 = 0
 ·rw [if_pos c5] at H
  have c5b0 : (t409 == 0) = true := beq_iff_eq.mpr c5
  have c5b1 : (t409 != 0) = false := bne_eq_false_iff_eq.mpr c5
  clear c5
  replace H := obe H
  obtain ⟨t410, A60, H⟩ := H
  (try dsimp only at H)
  have A6 := Aside0.mk A60
  clear A60
  by_cases c7 : t410 = 0
  ·rw [if_pos c7] at H
   have c7b0 : (t410 == 0) = true := beq_iff_eq.mpr c7
   have c7b1 : (t410 != 0) = false := bne_eq_false_iff_eq.mpr c7
   clear c7
   by_cases c8 : t394 = 4602678819172646912
   ·rw [if_pos c8] at H
    have c8b0 : (t394 == 4602678819172646912) = true := beq_iff_eq.mpr c8
    have c8b1 : (t394 != 4602678819172646912) = false := bne_eq_false_iff_eq.mpr c8
    clear c8
    by_cases c9 : t402 = 13823048456275842389
    ·rw [if_pos c9] at H
     have c9b0 : (t402 == 13823048456275842389) = true := beq_iff_eq.mpr c9
     have c9b1 : (t402 != 13823048456275842389) = false := bne_eq_false_iff_eq.mpr c9
     clear c9
     replace H := obe H
     obtain ⟨t411, A100, H⟩ := H
     (try dsimp only at H)
     have A10 := Aside0.mk A100
     clear A100
     obtain rfl := Option.some.inj H
     go_enter Tryd.func19, Tryd.ntmps19
     go_wp2_with (first | ((with_reducible refine gate_dst (N := 8) rfl ?_); refine Kd.R_lit (Kd.int .u64) _ 26 ?hg (N := 8) ?hd (xs := ([1] : List Int)) (inner := [.int .u64 1]) (ok := fun _ => True) (okp := fun _ => True) ?hr ?hp (fun _ hk => hk) trivial (Below.refl _ _) (Nat.le_refl _) (by simp) ?_; (case hd => rfl); (case hg => rfl); (case hr => first | (go_simp; done) | (go_simp; rfl)); (case hp => exact (Reps.one (show Kd.M (Kd.int .u64) _ _ _ 1 [.int .u64 1] from rfl) (Reps.none _ _))); intro v389 w11 ho12 hb hg_ hnew_; clear hg_ hnew_; (first | rw [← Ny388.out] at ho12 | (simp only [Int.reduceToNat] at ho12; rw [← Ny388.out] at ho12)); have HO390 := Aside0.mk (Kd.R_lower ho12 (below_size dB)); replace HB := Aside0.mk (below_step dB hb); clear hb ho12) | ((with_reducible refine gate_dst (N := 9) rfl ?_); refine Kd.R_lit (Kd.int .u64) _ 26 ?hg (N := 9) ?hd (xs := ([2] : List Int)) (inner := [.int .u64 2]) (ok := fun _ => True) (okp := fun _ => True) ?hr ?hp (fun _ hk => hk) trivial (Below.refl _ _) (Nat.le_refl _) (by simp) ?_; (case hd => rfl); (case hg => rfl); (case hr => first | (go_simp; done) | (go_simp; rfl)); (case hp => exact (Reps.one (show Kd.M (Kd.int .u64) _ _ _ 2 [.int .u64 2] from rfl) (Reps.none _ _))); intro v392 w13 ho14 hb hg_ hnew_; clear hg_ hnew_; (first | rw [← Ny391.out] at ho14 | (simp only [Int.reduceToNat] at ho14; rw [← Ny391.out] at ho14)); have HO393 := Aside0.mk (Kd.R_lower (Kd.R_new' ho14 (Kd.R_lt (dR HO390.out))) (below_size dB)); replace HO390 := Aside0.mk (Kd.R_elder' (dR HO390.out) (Kd.R_base ho14) hb); replace HB := Aside0.mk (below_step dB hb); clear hb ho14; obtain ⟨Ao15, co15, eo15⟩ := Kd.R_slice HO390.out; subst eo15; obtain ⟨Ao16, co16, eo16⟩ := Kd.R_slice HO393.out; subst eo16) | ((with_reducible refine gate_callee (f := 17) rfl ?_); refine gL (some 10) Tryd.func17 #[.bool false, .slice Ao15 y388.length co15, .slice Ao16 y391.length co16, .int .i64 0] ?_; (with_reducible refine (near_Quotient.calls k false _ _ y388 _ _ y391 0 t394 t395 _ ?side1 ?side2 ?side3 ?side4 A1.out).mono ?_); (case side1 => exact dC (Kd.R_reads' HO390.out).2.2); (case side2 => exact (Kd.R_reads' HO390.out).2.1); (case side3 => exact dC (Kd.R_reads' HO393.out).2.2); (case side4 => exact (Kd.R_reads' HO393.out).2.1); rintro e w17 ⟨rfl, hb⟩; refine ⟨_, rfl, ?_⟩; replace HO390 := Aside0.mk (Kd.R_below (dR HO390.out) hb); replace HO393 := Aside0.mk (Kd.R_below (dR HO393.out) hb); replace HB := Aside0.mk (below_step dB hb); (try clear hb)) | ((with_reducible refine gate_dst (N := 14) rfl ?_); refine Kd.R_lit (Kd.int .u64) _ 26 ?hg (N := 14) ?hd (xs := ([1] : List Int)) (inner := [.int .u64 1]) (ok := fun _ => True) (okp := fun _ => True) ?hr ?hp (fun _ hk => hk) trivial (Below.refl _ _) (Nat.le_refl _) (by simp) ?_; (case hd => rfl); (case hg => rfl); (case hr => first | (go_simp; done) | (go_simp; rfl)); (case hp => exact (Reps.one (show Kd.M (Kd.int .u64) _ _ _ 1 [.int .u64 1] from rfl) (Reps.none _ _))); intro v397 w18 ho19 hb hg_ hnew_; clear hg_ hnew_; (first | rw [← Ny396.out] at ho19 | (simp only [Int.reduceToNat] at ho19; rw [← Ny396.out] at ho19)); have HO398 := Aside0.mk (Kd.R_lower (Kd.R_new' (Kd.R_new' ho19 (Kd.R_lt (dR HO390.out))) (Kd.R_lt (dR HO393.out))) (below_size dB)); replace HO390 := Aside0.mk (Kd.R_elder' (dR HO390.out) (Kd.R_base ho19) hb); replace HO393 := Aside0.mk (Kd.R_elder' (dR HO393.out) (Kd.R_base ho19) hb); replace HB := Aside0.mk (below_step dB hb); clear hb ho19) | ((with_reducible refine gate_dst (N := 15) rfl ?_); refine Kd.R_lit (Kd.int .u64) _ 26 ?hg (N := 15) ?hd (xs := ([3] : List Int)) (inner := [.int .u64 3]) (ok := fun _ => True) (okp := fun _ => True) ?hr ?hp (fun _ hk => hk) trivial (Below.refl _ _) (Nat.le_refl _) (by simp) ?_; (case hd => rfl); (case hg => rfl); (case hr => first | (go_simp; done) | (go_simp; rfl)); (case hp => exact (Reps.one (show Kd.M (Kd.int .u64) _ _ _ 3 [.int .u64 3] from rfl) (Reps.none _ _))); intro v400 w20 ho21 hb hg_ hnew_; clear hg_ hnew_; (first | rw [← Ny399.out] at ho21 | (simp only [Int.reduceToNat] at ho21; rw [← Ny399.out] at ho21)); have HO401 := Aside0.mk (Kd.R_lower (Kd.R_new' (Kd.R_new' (Kd.R_new' ho21 (Kd.R_lt (dR HO390.out))) (Kd.R_lt (dR HO393.out))) (Kd.R_lt (dR HO398.out))) (below_size dB)); replace HO390 := Aside0.mk (Kd.R_elder' (dR HO390.out) (Kd.R_base ho21) hb); replace HO393 := Aside0.mk (Kd.R_elder' (dR HO393.out) (Kd.R_base ho21) hb); replace HO398 := Aside0.mk (Kd.R_elder' (dR HO398.out) (Kd.R_base ho21) hb); replace HB := Aside0.mk (below_step dB hb); clear hb ho21; obtain ⟨Ao22, co22, eo22⟩ := Kd.R_slice HO398.out; subst eo22; obtain ⟨Ao23, co23, eo23⟩ := Kd.R_slice HO401.out; subst eo23) | ((with_reducible refine gate_callee (f := 17) rfl ?_); refine gL (some 16) Tryd.func17 #[.bool true, .slice Ao22 y396.length co22, .slice Ao23 y399.length co23, .int .i64 0] ?_; (with_reducible refine (near_Quotient.calls k true _ _ y396 _ _ y399 0 t402 t403 _ ?side1 ?side2 ?side3 ?side4 A2.out).mono ?_); (case side1 => exact dC (Kd.R_reads' HO398.out).2.2); (case side2 => exact (Kd.R_reads' HO398.out).2.1); (case side3 => exact dC (Kd.R_reads' HO401.out).2.2); (case side4 => exact (Kd.R_reads' HO401.out).2.1); rintro e w24 ⟨rfl, hb⟩; refine ⟨_, rfl, ?_⟩; replace HO390 := Aside0.mk (Kd.R_below (dR HO390.out) hb); replace HO393 := Aside0.mk (Kd.R_below (dR HO393.out) hb); replace HO398 := Aside0.mk (Kd.R_below (dR HO398.out) hb); replace HO401 := Aside0.mk (Kd.R_below (dR HO401.out) hb); replace HB := Aside0.mk (below_step dB hb); (try clear hb)) | ((with_reducible refine gate_dst (N := 20) rfl ?_); refine Kd.R_lit (Kd.int .u64) _ 26 ?hg (N := 20) ?hd (xs := ([1] : List Int)) (inner := [.int .u64 1]) (ok := fun _ => True) (okp := fun _ => True) ?hr ?hp (fun _ hk => hk) trivial (Below.refl _ _) (Nat.le_refl _) (by simp) ?_; (case hd => rfl); (case hg => rfl); (case hr => first | (go_simp; done) | (go_simp; rfl)); (case hp => exact (Reps.one (show Kd.M (Kd.int .u64) _ _ _ 1 [.int .u64 1] from rfl) (Reps.none _ _))); intro v405 w25 ho26 hb hg_ hnew_; clear hg_ hnew_; (first | rw [← Ny404.out] at ho26 | (simp only [Int.reduceToNat] at ho26; rw [← Ny404.out] at ho26)); have HO406 := Aside0.mk (Kd.R_lower (Kd.R_new' (Kd.R_new' (Kd.R_new' (Kd.R_new' ho26 (Kd.R_lt (dR HO390.out))) (Kd.R_lt (dR HO393.out))) (Kd.R_lt (dR HO398.out))) (Kd.R_lt (dR HO401.out))) (below_size dB)); replace HO390 := Aside0.mk (Kd.R_elder' (dR HO390.out) (Kd.R_base ho26) hb); replace HO393 := Aside0.mk (Kd.R_elder' (dR HO393.out) (Kd.R_base ho26) hb); replace HO398 := Aside0.mk (Kd.R_elder' (dR HO398.out) (Kd.R_base ho26) hb); replace HO401 := Aside0.mk (Kd.R_elder' (dR HO401.out) (Kd.R_base ho26) hb); replace HB := Aside0.mk (below_step dB hb); clear hb ho26; obtain ⟨Ao27, co27, eo27⟩ := Kd.R_slice HO406.out; subst eo27) | ((with_reducible refine gate_callee (f := 17) rfl ?_); refine gL (some 21) Tryd.func17 #[.bool false, .slice Ao27 y404.length co27, .slice none 0 0, .int .i64 0] ?_; (refine (near_Quotient.calls k false _ _ y404 _ _ ([] : List Int) 0 t407 t408 _ ?side1 ?side2 ?side3 ?side4 A3.out).mono ?_); (case side1 => exact dC (Kd.R_reads' HO406.out).2.2); (case side2 => exact (Kd.R_reads' HO406.out).2.1); (case side3 => exact Kd.C_nil _ _); (case side4 => exact Nat.le_refl _); rintro e w28 ⟨rfl, hb⟩; refine ⟨_, rfl, ?_⟩; replace HO390 := Aside0.mk (Kd.R_below (dR HO390.out) hb); replace HO393 := Aside0.mk (Kd.R_below (dR HO393.out) hb); replace HO398 := Aside0.mk (Kd.R_below (dR HO398.out) hb); replace HO401 := Aside0.mk (Kd.R_below (dR HO401.out) hb); replace HO406 := Aside0.mk (Kd.R_below (dR HO406.out) hb); replace HB := Aside0.mk (below_step dB hb); (try clear hb)) | ((with_reducible refine gate_callee (f := 15) rfl ?_); refine gL (some 25) Tryd.func15 #[.int .i64 t395] ?_; (with_reducible refine (plumblaw07_num.calls t395 t409 _ A4.out).mono ?_); rintro e w' ⟨rfl, ⟨nd, rfl⟩⟩; refine ⟨_, rfl, ?_⟩) | (go_at_call 15; (with_reducible refine (plumblaw07_num.calls t403 t410 _ A6.out).mono ?_); rintro e w' ⟨rfl, ⟨nd, rfl⟩⟩) | (go_at_call 15; (with_reducible refine (plumblaw07_num.calls t408 t411 _ A10.out).mono ?_); rintro e w' ⟨rfl, ⟨nd, rfl⟩⟩))
     first | go_ret | (refine bodyPost_ret ?ghr ?ghd ?_; (case ghr => exact results_tmp rfl _ _ _); (case ghd => rfl))
     exact ⟨dE, dB⟩
    ·rw [if_neg c9] at H
     have c9b0 : (t402 == 13823048456275842389) = false := beq_eq_false_iff_ne.mpr c9
     have c9b1 : (t402 != 13823048456275842389) = true := bne_iff_ne.mpr c9
     obtain rfl := Option.some.inj H
     go_enter Tryd.func19, Tryd.ntmps19
     go_wp2_with (first | ((with_reducible refine gate_dst (N := 8) rfl ?_); refine Kd.R_lit (Kd.int .u64) _ 26 ?hg (N := 8) ?hd (xs := ([1] : List Int)) (inner := [.int .u64 1]) (ok := fun _ => True) (okp := fun _ => True) ?hr ?hp (fun _ hk => hk) trivial (Below.refl _ _) (Nat.le_refl _) (by simp) ?_; (case hd => rfl); (case hg => rfl); (case hr => first | (go_simp; done) | (go_simp; rfl)); (case hp => exact (Reps.one (show Kd.M (Kd.int .u64) _ _ _ 1 [.int .u64 1] from rfl) (Reps.none _ _))); intro v389 w29 ho30 hb hg_ hnew_; clear hg_ hnew_; (first | rw [← Ny388.out] at ho30 | (simp only [Int.reduceToNat] at ho30; rw [← Ny388.out] at ho30)); have HO390 := Aside0.mk (Kd.R_lower ho30 (below_size dB)); replace HB := Aside0.mk (below_step dB hb); clear hb ho30) | ((with_reducible refine gate_dst (N := 9) rfl ?_); refine Kd.R_lit (Kd.int .u64) _ 26 ?hg (N := 9) ?hd (xs := ([2] : List Int)) (inner := [.int .u64 2]) (ok := fun _ => True) (okp := fun _ => True) ?hr ?hp (fun _ hk => hk) trivial (Below.refl _ _) (Nat.le_refl _) (by simp) ?_; (case hd => rfl); (case hg => rfl); (case hr => first | (go_simp; done) | (go_simp; rfl)); (case hp => exact (Reps.one (show Kd.M (Kd.int .u64) _ _ _ 2 [.int .u64 2] from rfl) (Reps.none _ _))); intro v392 w31 ho32 hb hg_ hnew_; clear hg_ hnew_; (first | rw [← Ny391.out] at ho32 | (simp only [Int.reduceToNat] at ho32; rw [← Ny391.out] at ho32)); have HO393 := Aside0.mk (Kd.R_lower (Kd.R_new' ho32 (Kd.R_lt (dR HO390.out))) (below_size dB)); replace HO390 := Aside0.mk (Kd.R_elder' (dR HO390.out) (Kd.R_base ho32) hb); replace HB := Aside0.mk (below_step dB hb); clear hb ho32; obtain ⟨Ao33, co33, eo33⟩ := Kd.R_slice HO390.out; subst eo33; obtain ⟨Ao34, co34, eo34⟩ := Kd.R_slice HO393.out; subst eo34) | ((with_reducible refine gate_callee (f := 17) rfl ?_); refine gL (some 10) Tryd.func17 #[.bool false, .slice Ao33 y388.length co33, .slice Ao34 y391.length co34, .int .i64 0] ?_; (with_reducible refine (near_Quotient.calls k false _ _ y388 _ _ y391 0 t394 t395 _ ?side1 ?side2 ?side3 ?side4 A1.out).mono ?_); (case side1 => exact dC (Kd.R_reads' HO390.out).2.2); (case side2 => exact (Kd.R_reads' HO390.out).2.1); (case side3 => exact dC (Kd.R_reads' HO393.out).2.2); (case side4 => exact (Kd.R_reads' HO393.out).2.1); rintro e w35 ⟨rfl, hb⟩; refine ⟨_, rfl, ?_⟩; replace HO390 := Aside0.mk (Kd.R_below (dR HO390.out) hb); replace HO393 := Aside0.mk (Kd.R_below (dR HO393.out) hb); replace HB := Aside0.mk (below_step dB hb); (try clear hb)) | ((with_reducible refine gate_dst (N := 14) rfl ?_); refine Kd.R_lit (Kd.int .u64) _ 26 ?hg (N := 14) ?hd (xs := ([1] : List Int)) (inner := [.int .u64 1]) (ok := fun _ => True) (okp := fun _ => True) ?hr ?hp (fun _ hk => hk) trivial (Below.refl _ _) (Nat.le_refl _) (by simp) ?_; (case hd => rfl); (case hg => rfl); (case hr => first | (go_simp; done) | (go_simp; rfl)); (case hp => exact (Reps.one (show Kd.M (Kd.int .u64) _ _ _ 1 [.int .u64 1] from rfl) (Reps.none _ _))); intro v397 w36 ho37 hb hg_ hnew_; clear hg_ hnew_; (first | rw [← Ny396.out] at ho37 | (simp only [Int.reduceToNat] at ho37; rw [← Ny396.out] at ho37)); have HO398 := Aside0.mk (Kd.R_lower (Kd.R_new' (Kd.R_new' ho37 (Kd.R_lt (dR HO390.out))) (Kd.R_lt (dR HO393.out))) (below_size dB)); replace HO390 := Aside0.mk (Kd.R_elder' (dR HO390.out) (Kd.R_base ho37) hb); replace HO393 := Aside0.mk (Kd.R_elder' (dR HO393.out) (Kd.R_base ho37) hb); replace HB := Aside0.mk (below_step dB hb); clear hb ho37) | ((with_reducible refine gate_dst (N := 15) rfl ?_); refine Kd.R_lit (Kd.int .u64) _ 26 ?hg (N := 15) ?hd (xs := ([3] : List Int)) (inner := [.int .u64 3]) (ok := fun _ => True) (okp := fun _ => True) ?hr ?hp (fun _ hk => hk) trivial (Below.refl _ _) (Nat.le_refl _) (by simp) ?_; (case hd => rfl); (case hg => rfl); (case hr => first | (go_simp; done) | (go_simp; rfl)); (case hp => exact (Reps.one (show Kd.M (Kd.int .u64) _ _ _ 3 [.int .u64 3] from rfl) (Reps.none _ _))); intro v400 w38 ho39 hb hg_ hnew_; clear hg_ hnew_; (first | rw [← Ny399.out] at ho39 | (simp only [Int.reduceToNat] at ho39; rw [← Ny399.out] at ho39)); have HO401 := Aside0.mk (Kd.R_lower (Kd.R_new' (Kd.R_new' (Kd.R_new' ho39 (Kd.R_lt (dR HO390.out))) (Kd.R_lt (dR HO393.out))) (Kd.R_lt (dR HO398.out))) (below_size dB)); replace HO390 := Aside0.mk (Kd.R_elder' (dR HO390.out) (Kd.R_base ho39) hb); replace HO393 := Aside0.mk (Kd.R_elder' (dR HO393.out) (Kd.R_base ho39) hb); replace HO398 := Aside0.mk (Kd.R_elder' (dR HO398.out) (Kd.R_base ho39) hb); replace HB := Aside0.mk (below_step dB hb); clear hb ho39; obtain ⟨Ao40, co40, eo40⟩ := Kd.R_slice HO398.out; subst eo40; obtain ⟨Ao41, co41, eo41⟩ := Kd.R_slice HO401.out; subst eo41) | ((with_reducible refine gate_callee (f := 17) rfl ?_); refine gL (some 16) Tryd.func17 #[.bool true, .slice Ao40 y396.length co40, .slice Ao41 y399.length co41, .int .i64 0] ?_; (with_reducible refine (near_Quotient.calls k true _ _ y396 _ _ y399 0 t402 t403 _ ?side1 ?side2 ?side3 ?side4 A2.out).mono ?_); (case side1 => exact dC (Kd.R_reads' HO398.out).2.2); (case side2 => exact (Kd.R_reads' HO398.out).2.1); (case side3 => exact dC (Kd.R_reads' HO401.out).2.2); (case side4 => exact (Kd.R_reads' HO401.out).2.1); rintro e w42 ⟨rfl, hb⟩; refine ⟨_, rfl, ?_⟩; replace HO390 := Aside0.mk (Kd.R_below (dR HO390.out) hb); replace HO393 := Aside0.mk (Kd.R_below (dR HO393.out) hb); replace HO398 := Aside0.mk (Kd.R_below (dR HO398.out) hb); replace HO401 := Aside0.mk (Kd.R_below (dR HO401.out) hb); replace HB := Aside0.mk (below_step dB hb); (try clear hb)) | ((with_reducible refine gate_dst (N := 20) rfl ?_); refine Kd.R_lit (Kd.int .u64) _ 26 ?hg (N := 20) ?hd (xs := ([1] : List Int)) (inner := [.int .u64 1]) (ok := fun _ => True) (okp := fun _ => True) ?hr ?hp (fun _ hk => hk) trivial (Below.refl _ _) (Nat.le_refl _) (by simp) ?_; (case hd => rfl); (case hg => rfl); (case hr => first | (go_simp; done) | (go_simp; rfl)); (case hp => exact (Reps.one (show Kd.M (Kd.int .u64) _ _ _ 1 [.int .u64 1] from rfl) (Reps.none _ _))); intro v405 w43 ho44 hb hg_ hnew_; clear hg_ hnew_; (first | rw [← Ny404.out] at ho44 | (simp only [Int.reduceToNat] at ho44; rw [← Ny404.out] at ho44)); have HO406 := Aside0.mk (Kd.R_lower (Kd.R_new' (Kd.R_new' (Kd.R_new' (Kd.R_new' ho44 (Kd.R_lt (dR HO390.out))) (Kd.R_lt (dR HO393.out))) (Kd.R_lt (dR HO398.out))) (Kd.R_lt (dR HO401.out))) (below_size dB)); replace HO390 := Aside0.mk (Kd.R_elder' (dR HO390.out) (Kd.R_base ho44) hb); replace HO393 := Aside0.mk (Kd.R_elder' (dR HO393.out) (Kd.R_base ho44) hb); replace HO398 := Aside0.mk (Kd.R_elder' (dR HO398.out) (Kd.R_base ho44) hb); replace HO401 := Aside0.mk (Kd.R_elder' (dR HO401.out) (Kd.R_base ho44) hb); replace HB := Aside0.mk (below_step dB hb); clear hb ho44; obtain ⟨Ao45, co45, eo45⟩ := Kd.R_slice HO406.out; subst eo45) | ((with_reducible refine gate_callee (f := 17) rfl ?_); refine gL (some 21) Tryd.func17 #[.bool false, .slice Ao45 y404.length co45, .slice none 0 0, .int .i64 0] ?_; (refine (near_Quotient.calls k false _ _ y404 _ _ ([] : List Int) 0 t407 t408 _ ?side1 ?side2 ?side3 ?side4 A3.out).mono ?_); (case side1 => exact dC (Kd.R_reads' HO406.out).2.2); (case side2 => exact (Kd.R_reads' HO406.out).2.1); (case side3 => exact Kd.C_nil _ _); (case side4 => exact Nat.le_refl _); rintro e w46 ⟨rfl, hb⟩; refine ⟨_, rfl, ?_⟩; replace HO390 := Aside0.mk (Kd.R_below (dR HO390.out) hb); replace HO393 := Aside0.mk (Kd.R_below (dR HO393.out) hb); replace HO398 := Aside0.mk (Kd.R_below (dR HO398.out) hb); replace HO401 := Aside0.mk (Kd.R_below (dR HO401.out) hb); replace HO406 := Aside0.mk (Kd.R_below (dR HO406.out) hb); replace HB := Aside0.mk (below_step dB hb); (try clear hb)) | ((with_reducible refine gate_callee (f := 15) rfl ?_); refine gL (some 25) Tryd.func15 #[.int .i64 t395] ?_; (with_reducible refine (plumblaw07_num.calls t395 t409 _ A4.out).mono ?_); rintro e w' ⟨rfl, ⟨nd, rfl⟩⟩; refine ⟨_, rfl, ?_⟩) | (go_at_call 15; (with_reducible refine (plumblaw07_num.calls t403 t410 _ A6.out).mono ?_); rintro e w' ⟨rfl, ⟨nd, rfl⟩⟩))
     first | go_ret | (refine bodyPost_ret ?ghr ?ghd ?_; (case ghr => exact results_tmp rfl _ _ _); (case ghd => rfl))
     exact ⟨dE, dB⟩
   ·rw [if_neg c8] at H
    have c8b0 : (t394 == 4602678819172646912) = false := beq_eq_false_iff_ne.mpr c8
    have c8b1 : (t394 != 4602678819172646912) = true := bne_iff_ne.mpr c8
    obtain rfl := Option.some.inj H
    go_enter Tryd.func19, Tryd.ntmps19
    go_wp2_with (first | ((with_reducible refine gate_dst (N := 8) rfl ?_); refine Kd.R_lit (Kd.int .u64) _ 26 ?hg (N := 8) ?hd (xs := ([1] : List Int)) (inner := [.int .u64 1]) (ok := fun _ => True) (okp := fun _ => True) ?hr ?hp (fun _ hk => hk) trivial (Below.refl _ _) (Nat.le_refl _) (by simp) ?_; (case hd => rfl); (case hg => rfl); (case hr => first | (go_simp; done) | (go_simp; rfl)); (case hp => exact (Reps.one (show Kd.M (Kd.int .u64) _ _ _ 1 [.int .u64 1] from rfl) (Reps.none _ _))); intro v389 w47 ho48 hb hg_ hnew_; clear hg_ hnew_; (first | rw [← Ny388.out] at ho48 | (simp only [Int.reduceToNat] at ho48; rw [← Ny388.out] at ho48)); have HO390 := Aside0.mk (Kd.R_lower ho48 (below_size dB)); replace HB := Aside0.mk (below_step dB hb); clear hb ho48) | ((with_reducible refine gate_dst (N := 9) rfl ?_); refine Kd.R_lit (Kd.int .u64) _ 26 ?hg (N := 9) ?hd (xs := ([2] : List Int)) (inner := [.int .u64 2]) (ok := fun _ => True) (okp := fun _ => True) ?hr ?hp (fun _ hk => hk) trivial (Below.refl _ _) (Nat.le_refl _) (by simp) ?_; (case hd => rfl); (case hg => rfl); (case hr => first | (go_simp; done) | (go_simp; rfl)); (case hp => exact (Reps.one (show Kd.M (Kd.int .u64) _ _ _ 2 [.int .u64 2] from rfl) (Reps.none _ _))); intro v392 w49 ho50 hb hg_ hnew_; clear hg_ hnew_; (first | rw [← Ny391.out] at ho50 | (simp only [Int.reduceToNat] at ho50; rw [← Ny391.out] at ho50)); have HO393 := Aside0.mk (Kd.R_lower (Kd.R_new' ho50 (Kd.R_lt (dR HO390.out))) (below_size dB)); replace HO390 := Aside0.mk (Kd.R_elder' (dR HO390.out) (Kd.R_base ho50) hb); replace HB := Aside0.mk (below_step dB hb); clear hb ho50; obtain ⟨Ao51, co51, eo51⟩ := Kd.R_slice HO390.out; subst eo51; obtain ⟨Ao52, co52, eo52⟩ := Kd.R_slice HO393.out; subst eo52) | ((with_reducible refine gate_callee (f := 17) rfl ?_); refine gL (some 10) Tryd.func17 #[.bool false, .slice Ao51 y388.length co51, .slice Ao52 y391.length co52, .int .i64 0] ?_; (with_reducible refine (near_Quotient.calls k false _ _ y388 _ _ y391 0 t394 t395 _ ?side1 ?side2 ?side3 ?side4 A1.out).mono ?_); (case side1 => exact dC (Kd.R_reads' HO390.out).2.2); (case side2 => exact (Kd.R_reads' HO390.out).2.1); (case side3 => exact dC (Kd.R_reads' HO393.out).2.2); (case side4 => exact (Kd.R_reads' HO393.out).2.1); rintro e w53 ⟨rfl, hb⟩; refine ⟨_, rfl, ?_⟩; replace HO390 := Aside0.mk (Kd.R_below (dR HO390.out) hb); replace HO393 := Aside0.mk (Kd.R_below (dR HO393.out) hb); replace HB := Aside0.mk (below_step dB hb); (try clear hb)) | ((with_reducible refine gate_dst (N := 14) rfl ?_); refine Kd.R_lit (Kd.int .u64) _ 26 ?hg (N := 14) ?hd (xs := ([1] : List Int)) (inner := [.int .u64 1]) (ok := fun _ => True) (okp := fun _ => True) ?hr ?hp (fun _ hk => hk) trivial (Below.refl _ _) (Nat.le_refl _) (by simp) ?_; (case hd => rfl); (case hg => rfl); (case hr => first | (go_simp; done) | (go_simp; rfl)); (case hp => exact (Reps.one (show Kd.M (Kd.int .u64) _ _ _ 1 [.int .u64 1] from rfl) (Reps.none _ _))); intro v397 w54 ho55 hb hg_ hnew_; clear hg_ hnew_; (first | rw [← Ny396.out] at ho55 | (simp only [Int.reduceToNat] at ho55; rw [← Ny396.out] at ho55)); have HO398 := Aside0.mk (Kd.R_lower (Kd.R_new' (Kd.R_new' ho55 (Kd.R_lt (dR HO390.out))) (Kd.R_lt (dR HO393.out))) (below_size dB)); replace HO390 := Aside0.mk (Kd.R_elder' (dR HO390.out) (Kd.R_base ho55) hb); replace HO393 := Aside0.mk (Kd.R_elder' (dR HO393.out) (Kd.R_base ho55) hb); replace HB := Aside0.mk (below_step dB hb); clear hb ho55) | ((with_reducible refine gate_dst (N := 15) rfl ?_); refine Kd.R_lit (Kd.int .u64) _ 26 ?hg (N := 15) ?hd (xs := ([3] : List Int)) (inner := [.int .u64 3]) (ok := fun _ => True) (okp := fun _ => True) ?hr ?hp (fun _ hk => hk) trivial (Below.refl _ _) (Nat.le_refl _) (by simp) ?_; (case hd => rfl); (case hg => rfl); (case hr => first | (go_simp; done) | (go_simp; rfl)); (case hp => exact (Reps.one (show Kd.M (Kd.int .u64) _ _ _ 3 [.int .u64 3] from rfl) (Reps.none _ _))); intro v400 w56 ho57 hb hg_ hnew_; clear hg_ hnew_; (first | rw [← Ny399.out] at ho57 | (simp only [Int.reduceToNat] at ho57; rw [← Ny399.out] at ho57)); have HO401 := Aside0.mk (Kd.R_lower (Kd.R_new' (Kd.R_new' (Kd.R_new' ho57 (Kd.R_lt (dR HO390.out))) (Kd.R_lt (dR HO393.out))) (Kd.R_lt (dR HO398.out))) (below_size dB)); replace HO390 := Aside0.mk (Kd.R_elder' (dR HO390.out) (Kd.R_base ho57) hb); replace HO393 := Aside0.mk (Kd.R_elder' (dR HO393.out) (Kd.R_base ho57) hb); replace HO398 := Aside0.mk (Kd.R_elder' (dR HO398.out) (Kd.R_base ho57) hb); replace HB := Aside0.mk (below_step dB hb); clear hb ho57; obtain ⟨Ao58, co58, eo58⟩ := Kd.R_slice HO398.out; subst eo58; obtain ⟨Ao59, co59, eo59⟩ := Kd.R_slice HO401.out; subst eo59) | ((with_reducible refine gate_callee (f := 17) rfl ?_); refine gL (some 16) Tryd.func17 #[.bool true, .slice Ao58 y396.length co58, .slice Ao59 y399.length co59, .int .i64 0] ?_; (with_reducible refine (near_Quotient.calls k true _ _ y396 _ _ y399 0 t402 t403 _ ?side1 ?side2 ?side3 ?side4 A2.out).mono ?_); (case side1 => exact dC (Kd.R_reads' HO398.out).2.2); (case side2 => exact (Kd.R_reads' HO398.out).2.1); (case side3 => exact dC (Kd.R_reads' HO401.out).2.2); (case side4 => exact (Kd.R_reads' HO401.out).2.1); rintro e w60 ⟨rfl, hb⟩; refine ⟨_, rfl, ?_⟩; replace HO390 := Aside0.mk (Kd.R_below (dR HO390.out) hb); replace HO393 := Aside0.mk (Kd.R_below (dR HO393.out) hb); replace HO398 := Aside0.mk (Kd.R_below (dR HO398.out) hb); replace HO401 := Aside0.mk (Kd.R_below (dR HO401.out) hb); replace HB := Aside0.mk (below_step dB hb); (try clear hb)) | ((with_reducible refine gate_dst (N := 20) rfl ?_); refine Kd.R_lit (Kd.int .u64) _ 26 ?hg (N := 20) ?hd (xs := ([1] : List Int)) (inner := [.int .u64 1]) (ok := fun _ => True) (okp := fun _ => True) ?hr ?hp (fun _ hk => hk) trivial (Below.refl _ _) (Nat.le_refl _) (by simp) ?_; (case hd => rfl); (case hg => rfl); (case hr => first | (go_simp; done) | (go_simp; rfl)); (case hp => exact (Reps.one (show Kd.M (Kd.int .u64) _ _ _ 1 [.int .u64 1] from rfl) (Reps.none _ _))); intro v405 w61 ho62 hb hg_ hnew_; clear hg_ hnew_; (first | rw [← Ny404.out] at ho62 | (simp only [Int.reduceToNat] at ho62; rw [← Ny404.out] at ho62)); have HO406 := Aside0.mk (Kd.R_lower (Kd.R_new' (Kd.R_new' (Kd.R_new' (Kd.R_new' ho62 (Kd.R_lt (dR HO390.out))) (Kd.R_lt (dR HO393.out))) (Kd.R_lt (dR HO398.out))) (Kd.R_lt (dR HO401.out))) (below_size dB)); replace HO390 := Aside0.mk (Kd.R_elder' (dR HO390.out) (Kd.R_base ho62) hb); replace HO393 := Aside0.mk (Kd.R_elder' (dR HO393.out) (Kd.R_base ho62) hb); replace HO398 := Aside0.mk (Kd.R_elder' (dR HO398.out) (Kd.R_base ho62) hb); replace HO401 := Aside0.mk (Kd.R_elder' (dR HO401.out) (Kd.R_base ho62) hb); replace HB := Aside0.mk (below_step dB hb); clear hb ho62; obtain ⟨Ao63, co63, eo63⟩ := Kd.R_slice HO406.out; subst eo63) | ((with_reducible refine gate_callee (f := 17) rfl ?_); refine gL (some 21) Tryd.func17 #[.bool false, .slice Ao63 y404.length co63, .slice none 0 0, .int .i64 0] ?_; (refine (near_Quotient.calls k false _ _ y404 _ _ ([] : List Int) 0 t407 t408 _ ?side1 ?side2 ?side3 ?side4 A3.out).mono ?_); (case side1 => exact dC (Kd.R_reads' HO406.out).2.2); (case side2 => exact (Kd.R_reads' HO406.out).2.1); (case side3 => exact Kd.C_nil _ _); (case side4 => exact Nat.le_refl _); rintro e w64 ⟨rfl, hb⟩; refine ⟨_, rfl, ?_⟩; replace HO390 := Aside0.mk (Kd.R_below (dR HO390.out) hb); replace HO393 := Aside0.mk (Kd.R_below (dR HO393.out) hb); replace HO398 := Aside0.mk (Kd.R_below (dR HO398.out) hb); replace HO401 := Aside0.mk (Kd.R_below (dR HO401.out) hb); replace HO406 := Aside0.mk (Kd.R_below (dR HO406.out) hb); replace HB := Aside0.mk (below_step dB hb); (try clear hb)) | ((with_reducible refine gate_callee (f := 15) rfl ?_); refine gL (some 25) Tryd.func15 #[.int .i64 t395] ?_; (with_reducible refine (plumblaw07_num.calls t395 t409 _ A4.out).mono ?_); rintro e w' ⟨rfl, ⟨nd, rfl⟩⟩; refine ⟨_, rfl, ?_⟩) | (go_at_call 15; (with_reducible refine (plumblaw07_num.calls t403 t410 _ A6.out).mono ?_); rintro e w' ⟨rfl, ⟨nd, rfl⟩⟩))
    first | go_ret | (refine bodyPost_ret ?ghr ?ghd ?_; (case ghr => exact results_tmp rfl _ _ _); (case ghd => rfl))
    exact ⟨dE, dB⟩
  ·rw [if_neg c7] at H
   have c7b0 : (t410 == 0) = false := beq_eq_false_iff_ne.mpr c7
   have c7b1 : (t410 != 0) = true := bne_iff_ne.mpr c7
   obtain rfl := Option.some.inj H
   go_enter Tryd.func19, Tryd.ntmps19
   go_wp2_with (first | ((with_reducible refine gate_dst (N := 8) rfl ?_); refine Kd.R_lit (Kd.int .u64) _ 26 ?hg (N := 8) ?hd (xs := ([1] : List Int)) (inner := [.int .u64 1]) (ok := fun _ => True) (okp := fun _ => True) ?hr ?hp (fun _ hk => hk) trivial (Below.refl _ _) (Nat.le_refl _) (by simp) ?_; (case hd => rfl); (case hg => rfl); (case hr => first | (go_simp; done) | (go_simp; rfl)); (case hp => exact (Reps.one (show Kd.M (Kd.int .u64) _ _ _ 1 [.int .u64 1] from rfl) (Reps.none _ _))); intro v389 w65 ho66 hb hg_ hnew_; clear hg_ hnew_; (first | rw [← Ny388.out] at ho66 | (simp only [Int.reduceToNat] at ho66; rw [← Ny388.out] at ho66)); have HO390 := Aside0.mk (Kd.R_lower ho66 (below_size dB)); replace HB := Aside0.mk (below_step dB hb); clear hb ho66) | ((with_reducible refine gate_dst (N := 9) rfl ?_); refine Kd.R_lit (Kd.int .u64) _ 26 ?hg (N := 9) ?hd (xs := ([2] : List Int)) (inner := [.int .u64 2]) (ok := fun _ => True) (okp := fun _ => True) ?hr ?hp (fun _ hk => hk) trivial (Below.refl _ _) (Nat.le_refl _) (by simp) ?_; (case hd => rfl); (case hg => rfl); (case hr => first | (go_simp; done) | (go_simp; rfl)); (case hp => exact (Reps.one (show Kd.M (Kd.int .u64) _ _ _ 2 [.int .u64 2] from rfl) (Reps.none _ _))); intro v392 w67 ho68 hb hg_ hnew_; clear hg_ hnew_; (first | rw [← Ny391.out] at ho68 | (simp only [Int.reduceToNat] at ho68; rw [← Ny391.out] at ho68)); have HO393 := Aside0.mk (Kd.R_lower (Kd.R_new' ho68 (Kd.R_lt (dR HO390.out))) (below_size dB)); replace HO390 := Aside0.mk (Kd.R_elder' (dR HO390.out) (Kd.R_base ho68) hb); replace HB := Aside0.mk (below_step dB hb); clear hb ho68; obtain ⟨Ao69, co69, eo69⟩ := Kd.R_slice HO390.out; subst eo69; obtain ⟨Ao70, co70, eo70⟩ := Kd.R_slice HO393.out; subst eo70) | ((with_reducible refine gate_callee (f := 17) rfl ?_); refine gL (some 10) Tryd.func17 #[.bool false, .slice Ao69 y388.length co69, .slice Ao70 y391.length co70, .int .i64 0] ?_; (with_reducible refine (near_Quotient.calls k false _ _ y388 _ _ y391 0 t394 t395 _ ?side1 ?side2 ?side3 ?side4 A1.out).mono ?_); (case side1 => exact dC (Kd.R_reads' HO390.out).2.2); (case side2 => exact (Kd.R_reads' HO390.out).2.1); (case side3 => exact dC (Kd.R_reads' HO393.out).2.2); (case side4 => exact (Kd.R_reads' HO393.out).2.1); rintro e w71 ⟨rfl, hb⟩; refine ⟨_, rfl, ?_⟩; replace HO390 := Aside0.mk (Kd.R_below (dR HO390.out) hb); replace HO393 := Aside0.mk (Kd.R_below (dR HO393.out) hb); replace HB := Aside0.mk (below_step dB hb); (try clear hb)) | ((with_reducible refine gate_dst (N := 14) rfl ?_); refine Kd.R_lit (Kd.int .u64) _ 26 ?hg (N := 14) ?hd (xs := ([1] : List Int)) (inner := [.int .u64 1]) (ok := fun _ => True) (okp := fun _ => True) ?hr ?hp (fun _ hk => hk) trivial (Below.refl _ _) (Nat.le_refl _) (by simp) ?_; (case hd => rfl); (case hg => rfl); (case hr => first | (go_simp; done) | (go_simp; rfl)); (case hp => exact (Reps.one (show Kd.M (Kd.int .u64) _ _ _ 1 [.int .u64 1] from rfl) (Reps.none _ _))); intro v397 w72 ho73 hb hg_ hnew_; clear hg_ hnew_; (first | rw [← Ny396.out] at ho73 | (simp only [Int.reduceToNat] at ho73; rw [← Ny396.out] at ho73)); have HO398 := Aside0.mk (Kd.R_lower (Kd.R_new' (Kd.R_new' ho73 (Kd.R_lt (dR HO390.out))) (Kd.R_lt (dR HO393.out))) (below_size dB)); replace HO390 := Aside0.mk (Kd.R_elder' (dR HO390.out) (Kd.R_base ho73) hb); replace HO393 := Aside0.mk (Kd.R_elder' (dR HO393.out) (Kd.R_base ho73) hb); replace HB := Aside0.mk (below_step dB hb); clear hb ho73) | ((with_reducible refine gate_dst (N := 15) rfl ?_); refine Kd.R_lit (Kd.int .u64) _ 26 ?hg (N := 15) ?hd (xs := ([3] : List Int)) (inner := [.int .u64 3]) (ok := fun _ => True) (okp := fun _ => True) ?hr ?hp (fun _ hk => hk) trivial (Below.refl _ _) (Nat.le_refl _) (by simp) ?_; (case hd => rfl); (case hg => rfl); (case hr => first | (go_simp; done) | (go_simp; rfl)); (case hp => exact (Reps.one (show Kd.M (Kd.int .u64) _ _ _ 3 [.int .u64 3] from rfl) (Reps.none _ _))); intro v400 w74 ho75 hb hg_ hnew_; clear hg_ hnew_; (first | rw [← Ny399.out] at ho75 | (simp only [Int.reduceToNat] at ho75; rw [← Ny399.out] at ho75)); have HO401 := Aside0.mk (Kd.R_lower (Kd.R_new' (Kd.R_new' (Kd.R_new' ho75 (Kd.R_lt (dR HO390.out))) (Kd.R_lt (dR HO393.out))) (Kd.R_lt (dR HO398.out))) (below_size dB)); replace HO390 := Aside0.mk (Kd.R_elder' (dR HO390.out) (Kd.R_base ho75) hb); replace HO393 := Aside0.mk (Kd.R_elder' (dR HO393.out) (Kd.R_base ho75) hb); replace HO398 := Aside0.mk (Kd.R_elder' (dR HO398.out) (Kd.R_base ho75) hb); replace HB := Aside0.mk (below_step dB hb); clear hb ho75; obtain ⟨Ao76, co76, eo76⟩ := Kd.R_slice HO398.out; subst eo76; obtain ⟨Ao77, co77, eo77⟩ := Kd.R_slice HO401.out; subst eo77) | ((with_reducible refine gate_callee (f := 17) rfl ?_); refine gL (some 16) Tryd.func17 #[.bool true, .slice Ao76 y396.length co76, .slice Ao77 y399.length co77, .int .i64 0] ?_; (with_reducible refine (near_Quotient.calls k true _ _ y396 _ _ y399 0 t402 t403 _ ?side1 ?side2 ?side3 ?side4 A2.out).mono ?_); (case side1 => exact dC (Kd.R_reads' HO398.out).2.2); (case side2 => exact (Kd.R_reads' HO398.out).2.1); (case side3 => exact dC (Kd.R_reads' HO401.out).2.2); (case side4 => exact (Kd.R_reads' HO401.out).2.1); rintro e w78 ⟨rfl, hb⟩; refine ⟨_, rfl, ?_⟩; replace HO390 := Aside0.mk (Kd.R_below (dR HO390.out) hb); replace HO393 := Aside0.mk (Kd.R_below (dR HO393.out) hb); replace HO398 := Aside0.mk (Kd.R_below (dR HO398.out) hb); replace HO401 := Aside0.mk (Kd.R_below (dR HO401.out) hb); replace HB := Aside0.mk (below_step dB hb); (try clear hb)) | ((with_reducible refine gate_dst (N := 20) rfl ?_); refine Kd.R_lit (Kd.int .u64) _ 26 ?hg (N := 20) ?hd (xs := ([1] : List Int)) (inner := [.int .u64 1]) (ok := fun _ => True) (okp := fun _ => True) ?hr ?hp (fun _ hk => hk) trivial (Below.refl _ _) (Nat.le_refl _) (by simp) ?_; (case hd => rfl); (case hg => rfl); (case hr => first | (go_simp; done) | (go_simp; rfl)); (case hp => exact (Reps.one (show Kd.M (Kd.int .u64) _ _ _ 1 [.int .u64 1] from rfl) (Reps.none _ _))); intro v405 w79 ho80 hb hg_ hnew_; clear hg_ hnew_; (first | rw [← Ny404.out] at ho80 | (simp only [Int.reduceToNat] at ho80; rw [← Ny404.out] at ho80)); have HO406 := Aside0.mk (Kd.R_lower (Kd.R_new' (Kd.R_new' (Kd.R_new' (Kd.R_new' ho80 (Kd.R_lt (dR HO390.out))) (Kd.R_lt (dR HO393.out))) (Kd.R_lt (dR HO398.out))) (Kd.R_lt (dR HO401.out))) (below_size dB)); replace HO390 := Aside0.mk (Kd.R_elder' (dR HO390.out) (Kd.R_base ho80) hb); replace HO393 := Aside0.mk (Kd.R_elder' (dR HO393.out) (Kd.R_base ho80) hb); replace HO398 := Aside0.mk (Kd.R_elder' (dR HO398.out) (Kd.R_base ho80) hb); replace HO401 := Aside0.mk (Kd.R_elder' (dR HO401.out) (Kd.R_base ho80) hb); replace HB := Aside0.mk (below_step dB hb); clear hb ho80; obtain ⟨Ao81, co81, eo81⟩ := Kd.R_slice HO406.out; subst eo81) | ((with_reducible refine gate_callee (f := 17) rfl ?_); refine gL (some 21) Tryd.func17 #[.bool false, .slice Ao81 y404.length co81, .slice none 0 0, .int .i64 0] ?_; (refine (near_Quotient.calls k false _ _ y404 _ _ ([] : List Int) 0 t407 t408 _ ?side1 ?side2 ?side3 ?side4 A3.out).mono ?_); (case side1 => exact dC (Kd.R_reads' HO406.out).2.2); (case side2 => exact (Kd.R_reads' HO406.out).2.1); (case side3 => exact Kd.C_nil _ _); (case side4 => exact Nat.le_refl _); rintro e w82 ⟨rfl, hb⟩; refine ⟨_, rfl, ?_⟩; replace HO390 := Aside0.mk (Kd.R_below (dR HO390.out) hb); replace HO393 := Aside0.mk (Kd.R_below (dR HO393.out) hb); replace HO398 := Aside0.mk (Kd.R_below (dR HO398.out) hb); replace HO401 := Aside0.mk (Kd.R_below (dR HO401.out) hb); replace HO406 := Aside0.mk (Kd.R_below (dR HO406.out) hb); replace HB := Aside0.mk (below_step dB hb); (try clear hb)) | ((with_reducible refine gate_callee (f := 15) rfl ?_); refine gL (some 25) Tryd.func15 #[.int .i64 t395] ?_; (with_reducible refine (plumblaw07_num.calls t395 t409 _ A4.out).mono ?_); rintro e w' ⟨rfl, ⟨nd, rfl⟩⟩; refine ⟨_, rfl, ?_⟩) | (go_at_call 15; (with_reducible refine (plumblaw07_num.calls t403 t410 _ A6.out).mono ?_); rintro e w' ⟨rfl, ⟨nd, rfl⟩⟩))
   first | go_ret | (refine bodyPost_ret ?ghr ?ghd ?_; (case ghr => exact results_tmp rfl _ _ _); (case ghd => rfl))
   exact ⟨dE, dB⟩
 ·rw [if_neg c5] at H
  have c5b0 : (t409 == 0) = false := beq_eq_false_iff_ne.mpr c5
  have c5b1 : (t409 != 0) = true := bne_iff_ne.mpr c5
  obtain rfl := Option.some.inj H
  go_enter Tryd.func19, Tryd.ntmps19
  go_wp2_with (first | ((with_reducible refine gate_dst (N := 8) rfl ?_); refine Kd.R_lit (Kd.int .u64) _ 26 ?hg (N := 8) ?hd (xs := ([1] : List Int)) (inner := [.int .u64 1]) (ok := fun _ => True) (okp := fun _ => True) ?hr ?hp (fun _ hk => hk) trivial (Below.refl _ _) (Nat.le_refl _) (by simp) ?_; (case hd => rfl); (case hg => rfl); (case hr => first | (go_simp; done) | (go_simp; rfl)); (case hp => exact (Reps.one (show Kd.M (Kd.int .u64) _ _ _ 1 [.int .u64 1] from rfl) (Reps.none _ _))); intro v389 w83 ho84 hb hg_ hnew_; clear hg_ hnew_; (first | rw [← Ny388.out] at ho84 | (simp only [Int.reduceToNat] at ho84; rw [← Ny388.out] at ho84)); have HO390 := Aside0.mk (Kd.R_lower ho84 (below_size dB)); replace HB := Aside0.mk (below_step dB hb); clear hb ho84) | ((with_reducible refine gate_dst (N := 9) rfl ?_); refine Kd.R_lit (Kd.int .u64) _ 26 ?hg (N := 9) ?hd (xs := ([2] : List Int)) (inner := [.int .u64 2]) (ok := fun _ => True) (okp := fun _ => True) ?hr ?hp (fun _ hk => hk) trivial (Below.refl _ _) (Nat.le_refl _) (by simp) ?_; (case hd => rfl); (case hg => rfl); (case hr => first | (go_simp; done) | (go_simp; rfl)); (case hp => exact (Reps.one (show Kd.M (Kd.int .u64) _ _ _ 2 [.int .u64 2] from rfl) (Reps.none _ _))); intro v392 w85 ho86 hb hg_ hnew_; clear hg_ hnew_; (first | rw [← Ny391.out] at ho86 | (simp only [Int.reduceToNat] at ho86; rw [← Ny391.out] at ho86)); have HO393 := Aside0.mk (Kd.R_lower (Kd.R_new' ho86 (Kd.R_lt (dR HO390.out))) (below_size dB)); replace HO390 := Aside0.mk (Kd.R_elder' (dR HO390.out) (Kd.R_base ho86) hb); replace HB := Aside0.mk (below_step dB hb); clear hb ho86; obtain ⟨Ao87, co87, eo87⟩ := Kd.R_slice HO390.out; subst eo87; obtain ⟨Ao88, co88, eo88⟩ := Kd.R_slice HO393.out; subst eo88) | ((with_reducible refine gate_callee (f := 17) rfl ?_); refine gL (some 10) Tryd.func17 #[.bool false, .slice Ao87 y388.length co87, .slice Ao88 y391.length co88, .int .i64 0] ?_; (with_reducible refine (near_Quotient.calls k false _ _ y388 _ _ y391 0 t394 t395 _ ?side1 ?side2 ?side3 ?side4 A1.out).mono ?_); (case side1 => exact dC (Kd.R_reads' HO390.out).2.2); (case side2 => exact (Kd.R_reads' HO390.out).2.1); (case side3 => exact dC (Kd.R_reads' HO393.out).2.2); (case side4 => exact (Kd.R_reads' HO393.out).2.1); rintro e w89 ⟨rfl, hb⟩; refine ⟨_, rfl, ?_⟩; replace HO390 := Aside0.mk (Kd.R_below (dR HO390.out) hb); replace HO393 := Aside0.mk (Kd.R_below (dR HO393.out) hb); replace HB := Aside0.mk (below_step dB hb); (try clear hb)) | ((with_reducible refine gate_dst (N := 14) rfl ?_); refine Kd.R_lit (Kd.int .u64) _ 26 ?hg (N := 14) ?hd (xs := ([1] : List Int)) (inner := [.int .u64 1]) (ok := fun _ => True) (okp := fun _ => True) ?hr ?hp (fun _ hk => hk) trivial (Below.refl _ _) (Nat.le_refl _) (by simp) ?_; (case hd => rfl); (case hg => rfl); (case hr => first | (go_simp; done) | (go_simp; rfl)); (case hp => exact (Reps.one (show Kd.M (Kd.int .u64) _ _ _ 1 [.int .u64 1] from rfl) (Reps.none _ _))); intro v397 w90 ho91 hb hg_ hnew_; clear hg_ hnew_; (first | rw [← Ny396.out] at ho91 | (simp only [Int.reduceToNat] at ho91; rw [← Ny396.out] at ho91)); have HO398 := Aside0.mk (Kd.R_lower (Kd.R_new' (Kd.R_new' ho91 (Kd.R_lt (dR HO390.out))) (Kd.R_lt (dR HO393.out))) (below_size dB)); replace HO390 := Aside0.mk (Kd.R_elder' (dR HO390.out) (Kd.R_base ho91) hb); replace HO393 := Aside0.mk (Kd.R_elder' (dR HO393.out) (Kd.R_base ho91) hb); replace HB := Aside0.mk (below_step dB hb); clear hb ho91) | ((with_reducible refine gate_dst (N := 15) rfl ?_); refine Kd.R_lit (Kd.int .u64) _ 26 ?hg (N := 15) ?hd (xs := ([3] : List Int)) (inner := [.int .u64 3]) (ok := fun _ => True) (okp := fun _ => True) ?hr ?hp (fun _ hk => hk) trivial (Below.refl _ _) (Nat.le_refl _) (by simp) ?_; (case hd => rfl); (case hg => rfl); (case hr => first | (go_simp; done) | (go_simp; rfl)); (case hp => exact (Reps.one (show Kd.M (Kd.int .u64) _ _ _ 3 [.int .u64 3] from rfl) (Reps.none _ _))); intro v400 w92 ho93 hb hg_ hnew_; clear hg_ hnew_; (first | rw [← Ny399.out] at ho93 | (simp only [Int.reduceToNat] at ho93; rw [← Ny399.out] at ho93)); have HO401 := Aside0.mk (Kd.R_lower (Kd.R_new' (Kd.R_new' (Kd.R_new' ho93 (Kd.R_lt (dR HO390.out))) (Kd.R_lt (dR HO393.out))) (Kd.R_lt (dR HO398.out))) (below_size dB)); replace HO390 := Aside0.mk (Kd.R_elder' (dR HO390.out) (Kd.R_base ho93) hb); replace HO393 := Aside0.mk (Kd.R_elder' (dR HO393.out) (Kd.R_base ho93) hb); replace HO398 := Aside0.mk (Kd.R_elder' (dR HO398.out) (Kd.R_base ho93) hb); replace HB := Aside0.mk (below_step dB hb); clear hb ho93; obtain ⟨Ao94, co94, eo94⟩ := Kd.R_slice HO398.out; subst eo94; obtain ⟨Ao95, co95, eo95⟩ := Kd.R_slice HO401.out; subst eo95) | ((with_reducible refine gate_callee (f := 17) rfl ?_); refine gL (some 16) Tryd.func17 #[.bool true, .slice Ao94 y396.length co94, .slice Ao95 y399.length co95, .int .i64 0] ?_; (with_reducible refine (near_Quotient.calls k true _ _ y396 _ _ y399 0 t402 t403 _ ?side1 ?side2 ?side3 ?side4 A2.out).mono ?_); (case side1 => exact dC (Kd.R_reads' HO398.out).2.2); (case side2 => exact (Kd.R_reads' HO398.out).2.1); (case side3 => exact dC (Kd.R_reads' HO401.out).2.2); (case side4 => exact (Kd.R_reads' HO401.out).2.1); rintro e w96 ⟨rfl, hb⟩; refine ⟨_, rfl, ?_⟩; replace HO390 := Aside0.mk (Kd.R_below (dR HO390.out) hb); replace HO393 := Aside0.mk (Kd.R_below (dR HO393.out) hb); replace HO398 := Aside0.mk (Kd.R_below (dR HO398.out) hb); replace HO401 := Aside0.mk (Kd.R_below (dR HO401.out) hb); replace HB := Aside0.mk (below_step dB hb); (try clear hb)) | ((with_reducible refine gate_dst (N := 20) rfl ?_); refine Kd.R_lit (Kd.int .u64) _ 26 ?hg (N := 20) ?hd (xs := ([1] : List Int)) (inner := [.int .u64 1]) (ok := fun _ => True) (okp := fun _ => True) ?hr ?hp (fun _ hk => hk) trivial (Below.refl _ _) (Nat.le_refl _) (by simp) ?_; (case hd => rfl); (case hg => rfl); (case hr => first | (go_simp; done) | (go_simp; rfl)); (case hp => exact (Reps.one (show Kd.M (Kd.int .u64) _ _ _ 1 [.int .u64 1] from rfl) (Reps.none _ _))); intro v405 w97 ho98 hb hg_ hnew_; clear hg_ hnew_; (first | rw [← Ny404.out] at ho98 | (simp only [Int.reduceToNat] at ho98; rw [← Ny404.out] at ho98)); have HO406 := Aside0.mk (Kd.R_lower (Kd.R_new' (Kd.R_new' (Kd.R_new' (Kd.R_new' ho98 (Kd.R_lt (dR HO390.out))) (Kd.R_lt (dR HO393.out))) (Kd.R_lt (dR HO398.out))) (Kd.R_lt (dR HO401.out))) (below_size dB)); replace HO390 := Aside0.mk (Kd.R_elder' (dR HO390.out) (Kd.R_base ho98) hb); replace HO393 := Aside0.mk (Kd.R_elder' (dR HO393.out) (Kd.R_base ho98) hb); replace HO398 := Aside0.mk (Kd.R_elder' (dR HO398.out) (Kd.R_base ho98) hb); replace HO401 := Aside0.mk (Kd.R_elder' (dR HO401.out) (Kd.R_base ho98) hb); replace HB := Aside0.mk (below_step dB hb); clear hb ho98; obtain ⟨Ao99, co99, eo99⟩ := Kd.R_slice HO406.out; subst eo99) | ((with_reducible refine gate_callee (f := 17) rfl ?_); refine gL (some 21) Tryd.func17 #[.bool false, .slice Ao99 y404.length co99, .slice none 0 0, .int .i64 0] ?_; (refine (near_Quotient.calls k false _ _ y404 _ _ ([] : List Int) 0 t407 t408 _ ?side1 ?side2 ?side3 ?side4 A3.out).mono ?_); (case side1 => exact dC (Kd.R_reads' HO406.out).2.2); (case side2 => exact (Kd.R_reads' HO406.out).2.1); (case side3 => exact Kd.C_nil _ _); (case side4 => exact Nat.le_refl _); rintro e w100 ⟨rfl, hb⟩; refine ⟨_, rfl, ?_⟩; replace HO390 := Aside0.mk (Kd.R_below (dR HO390.out) hb); replace HO393 := Aside0.mk (Kd.R_below (dR HO393.out) hb); replace HO398 := Aside0.mk (Kd.R_below (dR HO398.out) hb); replace HO401 := Aside0.mk (Kd.R_below (dR HO401.out) hb); replace HO406 := Aside0.mk (Kd.R_below (dR HO406.out) hb); replace HB := Aside0.mk (below_step dB hb); (try clear hb)) | ((with_reducible refine gate_callee (f := 15) rfl ?_); refine gL (some 25) Tryd.func15 #[.int .i64 t395] ?_; (with_reducible refine (plumblaw07_num.calls t395 t409 _ A4.out).mono ?_); rintro e w' ⟨rfl, ⟨nd, rfl⟩⟩; refine ⟨_, rfl, ?_⟩))
  first | go_ret | (refine bodyPost_ret ?ghr ?ghd ?_; (case ghr => exact results_tmp rfl _ _ _); (case ghd => rfl))
  exact ⟨dE, dB⟩

/-! ### plumblaw07_bounded: function 20 -/
def plumblaw07_bounded.l0 : Nat → List Int → Int → List Int → Int → Option (List Int)
 | 0, _, _, _, _ => none
 | k + 1, x0, x1, x5, x6 => if x6 < (x0.length : Int) then (if x6 < x1 then (if 0 ≤ x6 then (if x5.length < 17592186044416 then (plumblaw07_bounded.l0 k x0 x1 (x5 ++ [rd x0 x6]) (wrap64 (x6 + 1))) else (none)) else (none)) else (some x5)) else (some x5)
def plumblaw07_bounded.f (k : Nat) (l0 : List Int) (a1 : Int) : Option (List Int) := plumblaw07_bounded.l0 k l0 a1 ([] : List Int) 0
set_option maxHeartbeats 8000000 in
set_option maxRecDepth 100000 in
theorem plumblaw07_bounded.calls (k : Nat) (A0 : Option Addr) (c0 : Nat) (l0 : List Int) (a1 : Int) (r : List Int) (w : World) (hr0 : Kd.C (Kd.int .u64) w A0 l0.length l0) (hc0 : l0.length ≤ c0) (h : plumblaw07_bounded.f k l0 a1 = some r) :
  Calls Tryd.prog 20 #[.slice A0 l0.length c0, .int .i64 a1] w fun e w' => ∃ v0_ : Value, e = .returned (v0_) ∧ Kd.R (Kd.int .u64) 26 w' w.heap.size (fun _ => True) v0_ r ∧ Below w.heap.size w w' := by
 have HR0 := Aside0.mk hr0
 have HC0 := Aside0.mk hc0
 clear hr0 hc0
 have HB := Aside0.mk (Below.refl w.heap.size w)
 have H : (plumblaw07_bounded.l0 k l0 a1 ([] : List Int) 0) = some r := h
 clear h
 have H' := Aside0.mk H
 clear H
 go_enter Tryd.func20, Tryd.ntmps20
 go_wp2
 go_loopg [5, 6] k (fun kq v5 v6 w' => ∃ (x5_1 : List Int) (x6_1 : Int), v6 = .int .i64 x6_1 ∧ Aside0 (plumblaw07_bounded.l0 kq l0 a1 x5_1 x6_1 = some r) ∧ Aside0 (kq ≤ k) ∧ Aside0 (Kd.R (Kd.int .u64) 26 w' w.heap.size (fun _ => True) v5 x5_1) ∧ Aside0 (Below w.heap.size w w'))
 case atStart => exact ⟨(([] : List Int)), (0), dF, H', ⟨Nat.le_refl _⟩, ⟨by first | exact Kd.R_nil _ _ _ _ _ | exact Kd.N_nil _ _ _ _ _ | exact Kd.V_nil _ _ _ _ _ | exact Kd.Q_nil _ _ _ _ _ | exact Kd.S_nil _ _ _ _ _⟩, ⟨dB⟩⟩
 case round =>
  clear H'
  obtain ⟨x5_1, x6_1, rfl, HA, HK1, HO_5, HB⟩ := hrel
  cases gk with
  | zero => exact absurd HA.out (by simp [plumblaw07_bounded.l0])
  | succ k1 =>
   have H := HA.out
   clear HA
   simp only [plumblaw07_bounded.l0] at H
   by_cases c3 : x6_1 < (l0.length : Int)
   ·rw [if_pos c3] at H
    have c3b0 : decide (x6_1 < (l0.length : Int)) = true := decide_eq_true c3
    clear c3
    by_cases c4 : x6_1 < a1
    ·rw [if_pos c4] at H
     have c4b0 : decide (x6_1 < a1) = true := decide_eq_true c4
     clear c4
     by_cases c5 : (0 : Int) ≤ x6_1
     ·rw [if_pos c5] at H
      have c5b0 : decide (0 ≤ x6_1) = true := decide_eq_true c5
      clear c5
      by_cases c6 : x5_1.length < 17592186044416
      ·rw [if_pos c6] at H
       have LMc6 := Aside0.mk c6
       clear c6
       obtain ⟨y413, hy413⟩ : ∃ y_ : List Int, y_ = (x5_1 ++ [rd l0 x6_1]) := ⟨_, rfl⟩
       replace H : (plumblaw07_bounded.l0 k1 l0 a1 y413 (wrap64 (x6_1 + 1))) = some r := by first | (rw [hy413]; with_reducible exact H) | (have H2_ := (Option.bind_some _ _).symm.trans H; rw [hy413]; with_reducible exact H2_) | (have H2_ := (Option.bind_some _ _).symm.trans H; with_reducible exact H2_) | with_reducible exact H | (rw [hy413]; exact H) | exact H
       have Ny413 := Aside0.mk hy413
       clear hy413
       have H' := Aside0.mk H
       clear H
       have p412 : 0 ≤ (x6_1 : Int) := of_decide_eq_true dS
       have q412 : x6_1 < (l0.length : Int) := of_decide_eq_true dS
       obtain ⟨ad412, e412, hx412_0⟩ := Kd.at_int HR0.out x6_1 p412 q412
       cases e412
       replace hx412_0 := (HB.out.cell (World.block_lt_of_cell? w _ hx412_0)).trans hx412_0
       replace p412 := eq_true p412
       replace q412 := eq_true q412
       go_wp2_with (first | ((with_reducible refine gate_builtin (b := .append) (xs := #[.tmp 18, .tmp 23]) rfl ?_); at_builtin; refine Kd.R_append (Kd.int .u64) (w0 := w) w.heap.size rfl (.tmp 18) (.tmp 23) 22 26 (.int .u64 0) 8 rfl Tryd.underlying22 info26 rfl (by decide) (by omega) u5 x5_1 (rd l0 x6_1) [.int .u64 (rd l0 x6_1)] (fun _ => True) (fun _ => False) rfl rfl ?aP (fun _ hk => hk.elim) ?aF ?aO ?aB ?aS ?aL ?_; (case aP => exact rfl); (case aB => exact dB); (case aF => exact (fun _ _ => trivial)); (case aO => exact (dR HO_5.out)); (case aS => exact (below_size dB)); (case aL => have := LMc6.out; omega); intro v414 w7 ho hb hg hat; rw [← Ny413.out] at ho; replace HB := Aside0.mk (hb); have HO415 := Aside0.mk (ho); clear HO_5; clear ho hb hg hat))
       go_roundg k1
       case measure => have := HK1.out; omega
       case rel => exact ⟨(y413), (wrap64 (x6_1 + 1)), dF, H', ⟨by have := HK1.out; omega⟩, ⟨dR HO415.out⟩, ⟨dB⟩⟩
      ·rw [if_neg c6] at H
       exact absurd H (by simp)
     ·rw [if_neg c5] at H
      exact absurd H (by simp)
    ·rw [if_neg c4] at H
     have c4b0 : decide (x6_1 < a1) = false := decide_eq_false c4
     clear c4
     obtain rfl := Option.some.inj H
     go_wp2
     go_ret
     exact ⟨_, dE, dR HO_5.out, dB⟩
   ·rw [if_neg c3] at H
    have c3b0 : decide (x6_1 < (l0.length : Int)) = false := decide_eq_false c3
    clear c3
    obtain rfl := Option.some.inj H
    go_wp2
    go_ret
    exact ⟨_, dE, dR HO_5.out, dB⟩

end Go.Proofs.YtoefabmlkbhmpaaDoor.PA
