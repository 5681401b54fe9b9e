/- A part of the proof (8). -/
import Derived.Test.YtoefabmlkbhmpaaDoorSQ2
import Derived.Test.YtoefabmlkbhmpaaDoorSQ5
import Derived.Test.YtoefabmlkbhmpaaDoorSQ3
import Derived.Test.YtoefabmlkbhmpaaDoorSQ7
import Derived.Test.YtoefabmlkbhmpaaDoorSQ4
namespace Go.Proofs.YtoefabmlkbhmpaaDoor.PA
open Go.RowKit Go.Proofs.YtoefabmlkbhmpaaDoorW.PrintWords Go.Proofs.YtoefabmlkbhmpaaDoorW.PrintLast Go.Proofs.YtoefabmlkbhmpaaDoorW.PrintMore
attribute [local go_sem] max2_int min2_int max_two min_two max_three min_three max_four min_four   -- for this text's walks alone
set_option linter.unusedVariables false
set_option linter.unusedSimpArgs false

/-! ### quot_DivMod: function 53 -/
def quot_DivMod.f (k : Nat) (l0 : List Int) (l1 : List Int) : Option (List Int × List Int × Int) := (nat_Norm.f l0).bind fun t311 => ((nat_Norm.f l1).bind fun t314 => (if (t314.length : Int) = 0 then (some (([] : List Int), ([] : List Int), 30)) else ((nat_Cmp.f k t311 t314).bind fun t317 => (if t317 < 0 then (some (([] : List Int), t311, 0)) else (if (t314.length : Int) = 1 then (if 0 < (t314.length : Int) then ((quot_Small.f k t311 (rd t314 0)).bind fun bt319 => ((nat_From.f bt319.2.1).bind fun t324 => (some (bt319.1, t324, 0)))) else (none)) else ((quot_long.f k t311 t314).bind fun bt327 => (some (bt327.1, bt327.2, 0))))))))
set_option maxHeartbeats 8000000 in
set_option maxRecDepth 100000 in
theorem quot_DivMod.calls (k : Nat) (A0 : Option Addr) (c0 : Nat) (l0 : List Int) (A1 : Option Addr) (c1 : Nat) (l1 : List Int) (r1 : List Int) (r2 : List Int) (r3 : Int) (w : World) (hr0 : Kd.C (Kd.int .u64) w A0 l0.length l0) (hc0 : l0.length ≤ c0) (hr1 : Kd.C (Kd.int .u64) w A1 l1.length l1) (hc1 : l1.length ≤ c1) (h : quot_DivMod.f k l0 l1 = some (r1, r2, r3)) :
  Calls Tryd.prog 53 #[.slice A0 l0.length c0, .slice A1 l1.length c1] w fun e w' => ∃ v0_ v1_ : Value, e = .returned (.tuple #[v0_, v1_, .int .i64 r3]) ∧ Kd.R (Kd.int .u64) 26 w' w.heap.size (fun k_ => some k_ ≠ (v1_ : Value).ownBlock) v0_ r1 ∧ Kd.R (Kd.int .u64) 26 w' w.heap.size (fun k_ => some k_ ≠ (v0_ : Value).ownBlock) v1_ r2 ∧ Below w.heap.size w w' := by
 have HR0 := Aside0.mk hr0
 have HC0 := Aside0.mk hc0
 clear hr0 hc0
 have HR1 := Aside0.mk hr1
 have HC1 := Aside0.mk hc1
 clear hr1 hc1
 have HB := Aside0.mk (Below.refl w.heap.size w)
 have H : ((nat_Norm.f l0).bind fun t311 => ((nat_Norm.f l1).bind fun t314 => (if (t314.length : Int) = 0 then (some (([] : List Int), ([] : List Int), 30)) else ((nat_Cmp.f k t311 t314).bind fun t317 => (if t317 < 0 then (some (([] : List Int), t311, 0)) else (if (t314.length : Int) = 1 then (if 0 < (t314.length : Int) then ((quot_Small.f k t311 (rd t314 0)).bind fun bt319 => ((nat_From.f bt319.2.1).bind fun t324 => (some (bt319.1, t324, 0)))) else (none)) else ((quot_long.f k t311 t314).bind fun bt327 => (some (bt327.1, bt327.2, 0))))))))) = some (r1, r2, r3) := h
 clear h
 replace H := obe H
 obtain ⟨t311, A30, H⟩ := H
 replace H : ((nat_Norm.f l1).bind fun t314 => (if (t314.length : Int) = 0 then (some (([] : List Int), ([] : List Int), 30)) else ((nat_Cmp.f k t311 t314).bind fun t317 => (if t317 < 0 then (some (([] : List Int), t311, 0)) else (if (t314.length : Int) = 1 then (if 0 < (t314.length : Int) then ((quot_Small.f k t311 (rd t314 0)).bind fun bt319 => ((nat_From.f bt319.2.1).bind fun t324 => (some (bt319.1, t324, 0)))) else (none)) else ((quot_long.f k t311 t314).bind fun bt327 => (some (bt327.1, bt327.2, 0)))))))) = some (r1, r2, r3) := H
 have A3 := Aside0.mk A30
 clear A30
 replace H := obe H
 obtain ⟨t314, A40, H⟩ := H
 replace H : (if (t314.length : Int) = 0 then (some (([] : List Int), ([] : List Int), 30)) else ((nat_Cmp.f k t311 t314).bind fun t317 => (if t317 < 0 then (some (([] : List Int), t311, 0)) else (if (t314.length : Int) = 1 then (if 0 < (t314.length : Int) then ((quot_Small.f k t311 (rd t314 0)).bind fun bt319 => ((nat_From.f bt319.2.1).bind fun t324 => (some (bt319.1, t324, 0)))) else (none)) else ((quot_long.f k t311 t314).bind fun bt327 => (some (bt327.1, bt327.2, 0))))))) = some (r1, r2, r3) := H
 have A4 := Aside0.mk A40
 clear A40
 by_cases c5 : (t314.length : Int) = 0
 ·rw [if_pos c5] at H
  have c5b0 : ((t314.length : Int) == 0) = true := beq_iff_eq.mpr c5
  have c5b1 : ((t314.length : Int) != 0) = false := bne_eq_false_iff_eq.mpr c5
  clear c5
  simp only [Option.some.injEq, Prod.mk.injEq] at H
  obtain ⟨rfl, rfl, rfl⟩ := H
  go_enter Tryd.func53, Tryd.ntmps53
  go_wp2_with (first | ((with_reducible refine gate_callee (f := 51) rfl ?_); refine gL (some 13) Tryd.func51 #[.slice A0 l0.length c0] ?_; (with_reducible refine (nat_Norm.calls _ _ l0 t311 _ ?side1 ?side2 A3.out).mono ?_); (case side1 => exact dC HR0.out); (case side2 => exact HC0.out); rintro e w6 ⟨v312, rfl, ho0, hb⟩; refine ⟨_, rfl, ?_⟩; have HO313 := Aside0.mk (Kd.R_lower ho0 (below_size dB)); replace HB := Aside0.mk (below_step dB hb); (try clear hb); (try clear ho0)) | ((with_reducible refine gate_callee (f := 51) rfl ?_); refine gL (some 15) Tryd.func51 #[.slice A1 l1.length c1] ?_; (with_reducible refine (nat_Norm.calls _ _ l1 t314 _ ?side1 ?side2 A4.out).mono ?_); (case side1 => exact dC (Kd.C_below HR1.out HB.out)); (case side2 => exact HC1.out); rintro e w7 ⟨v315, rfl, ho0, hb⟩; refine ⟨_, rfl, ?_⟩; have HO316 := Aside0.mk (Kd.R_lower (Kd.R_new' ho0 (Kd.R_lt (dR HO313.out))) (below_size dB)); replace HO313 := Aside0.mk (Kd.R_elder' (dR HO313.out) (Kd.R_base ho0) hb); replace HB := Aside0.mk (below_step dB hb); (try clear hb); (try clear ho0); obtain ⟨Ao8, co8, eo8⟩ := Kd.R_slice HO316.out; subst eo8))
  go_ret3
  exact ⟨_, _, dE, by first | exact Kd.R_nil _ _ _ _ _ | exact Kd.N_nil _ _ _ _ _ | exact Kd.V_nil _ _ _ _ _ | exact Kd.Q_nil _ _ _ _ _ | exact Kd.S_nil _ _ _ _ _, by first | exact Kd.R_nil _ _ _ _ _ | exact Kd.N_nil _ _ _ _ _ | exact Kd.V_nil _ _ _ _ _ | exact Kd.Q_nil _ _ _ _ _ | exact Kd.S_nil _ _ _ _ _, dB⟩
 ·rw [if_neg c5] at H
  have c5b0 : ((t314.length : Int) == 0) = false := beq_eq_false_iff_ne.mpr c5
  have c5b1 : ((t314.length : Int) != 0) = true := bne_iff_ne.mpr c5
  have c5b2 : ¬ (t314 = []) := fun h_ => c5 (by rw [h_]; rfl)
  replace H := obe H
  obtain ⟨t317, A90, H⟩ := H
  replace H : (if t317 < 0 then (some (([] : List Int), t311, 0)) else (if (t314.length : Int) = 1 then (if 0 < (t314.length : Int) then ((quot_Small.f k t311 (rd t314 0)).bind fun bt319 => ((nat_From.f bt319.2.1).bind fun t324 => (some (bt319.1, t324, 0)))) else (none)) else ((quot_long.f k t311 t314).bind fun bt327 => (some (bt327.1, bt327.2, 0))))) = some (r1, r2, r3) := H
  have A9 := Aside0.mk A90
  clear A90
  by_cases c10 : t317 < 0
  ·rw [if_pos c10] at H
   have c10b0 : decide (t317 < 0) = true := decide_eq_true c10
   clear c10
   simp only [Option.some.injEq, Prod.mk.injEq] at H
   obtain ⟨rfl, rfl, rfl⟩ := H
   go_enter Tryd.func53, Tryd.ntmps53
   go_wp2_with (first | ((with_reducible refine gate_callee (f := 51) rfl ?_); refine gL (some 13) Tryd.func51 #[.slice A0 l0.length c0] ?_; (with_reducible refine (nat_Norm.calls _ _ l0 t311 _ ?side1 ?side2 A3.out).mono ?_); (case side1 => exact dC HR0.out); (case side2 => exact HC0.out); rintro e w11 ⟨v312, rfl, ho0, hb⟩; refine ⟨_, rfl, ?_⟩; have HO313 := Aside0.mk (Kd.R_lower ho0 (below_size dB)); replace HB := Aside0.mk (below_step dB hb); (try clear hb); (try clear ho0)) | ((with_reducible refine gate_callee (f := 51) rfl ?_); refine gL (some 15) Tryd.func51 #[.slice A1 l1.length c1] ?_; (with_reducible refine (nat_Norm.calls _ _ l1 t314 _ ?side1 ?side2 A4.out).mono ?_); (case side1 => exact dC (Kd.C_below HR1.out HB.out)); (case side2 => exact HC1.out); rintro e w12 ⟨v315, rfl, ho0, hb⟩; refine ⟨_, rfl, ?_⟩; have HO316 := Aside0.mk (Kd.R_lower (Kd.R_new' ho0 (Kd.R_lt (dR HO313.out))) (below_size dB)); replace HO313 := Aside0.mk (Kd.R_elder' (dR HO313.out) (Kd.R_base ho0) hb); replace HB := Aside0.mk (below_step dB hb); (try clear hb); (try clear ho0); obtain ⟨Ao13, co13, eo13⟩ := Kd.R_slice HO316.out; subst eo13; obtain ⟨Ao14, co14, eo14⟩ := Kd.R_slice HO313.out; subst eo14) | ((with_reducible refine gate_callee (f := 58) rfl ?_); refine gL (some 23) Tryd.func58 #[.slice Ao14 t311.length co14, .slice Ao13 t314.length co13] ?_; (with_reducible refine (nat_Cmp.calls k _ _ t311 _ _ t314 t317 _ ?side1 ?side2 ?side3 ?side4 A9.out).mono ?_); (case side1 => exact dC (Kd.R_reads' HO313.out).2.2); (case side2 => exact (Kd.R_reads' HO313.out).2.1); (case side3 => exact dC (Kd.R_reads' HO316.out).2.2); (case side4 => exact (Kd.R_reads' HO316.out).2.1); rintro e w' ⟨rfl, ⟨nd, rfl⟩⟩; refine ⟨_, rfl, ?_⟩))
   go_ret3
   exact ⟨_, _, dE, by first | exact Kd.R_nil _ _ _ _ _ | exact Kd.N_nil _ _ _ _ _ | exact Kd.V_nil _ _ _ _ _ | exact Kd.Q_nil _ _ _ _ _ | exact Kd.S_nil _ _ _ _ _, by (with_reducible repeat (first | apply Kd.R_alloc | apply Kd.R_drewN | apply Kd.R_drew)); exact Kd.R_mono HO313.out (fun _ hk => (by simp [Value.ownBlock])), dB⟩
  ·rw [if_neg c10] at H
   have c10b0 : decide (t317 < 0) = false := decide_eq_false c10
   clear c10
   by_cases c15 : (t314.length : Int) = 1
   ·rw [if_pos c15] at H
    have c15b0 : ((t314.length : Int) == 1) = true := beq_iff_eq.mpr c15
    have c15b1 : ((t314.length : Int) != 1) = false := bne_eq_false_iff_eq.mpr c15
    clear c15
    by_cases c16 : (0 : Int) < (t314.length : Int)
    ·rw [if_pos c16] at H
     have c16b0 : decide (0 < (t314.length : Int)) = true := decide_eq_true c16
     have c16b1 : decide (0 < t314.length) = true := decide_eq_true (by omega)
     clear c16
     replace H := obe H
     obtain ⟨⟨t319, t320, t321⟩, A170, H⟩ := H
     replace H : ((nat_From.f t320).bind fun t324 => (some (t319, t324, 0))) = some (r1, r2, r3) := H
     have A17 := Aside0.mk A170
     clear A170
     replace H := obe H
     obtain ⟨t324, A180, H⟩ := H
     replace H : (some (t319, t324, 0)) = some (r1, r2, r3) := H
     have A18 := Aside0.mk A180
     clear A180
     simp only [Option.some.injEq, Prod.mk.injEq] at H
     obtain ⟨rfl, rfl, rfl⟩ := H
     go_enter Tryd.func53, Tryd.ntmps53
     go_wp2_with (first | ((with_reducible refine gate_callee (f := 51) rfl ?_); refine gL (some 13) Tryd.func51 #[.slice A0 l0.length c0] ?_; (with_reducible refine (nat_Norm.calls _ _ l0 t311 _ ?side1 ?side2 A3.out).mono ?_); (case side1 => exact dC HR0.out); (case side2 => exact HC0.out); rintro e w19 ⟨v312, rfl, ho0, hb⟩; refine ⟨_, rfl, ?_⟩; have HO313 := Aside0.mk (Kd.R_lower ho0 (below_size dB)); replace HB := Aside0.mk (below_step dB hb); (try clear hb); (try clear ho0)) | ((with_reducible refine gate_callee (f := 51) rfl ?_); refine gL (some 15) Tryd.func51 #[.slice A1 l1.length c1] ?_; (with_reducible refine (nat_Norm.calls _ _ l1 t314 _ ?side1 ?side2 A4.out).mono ?_); (case side1 => exact dC (Kd.C_below HR1.out HB.out)); (case side2 => exact HC1.out); rintro e w20 ⟨v315, rfl, ho0, hb⟩; refine ⟨_, rfl, ?_⟩; have HO316 := Aside0.mk (Kd.R_lower (Kd.R_new' ho0 (Kd.R_lt (dR HO313.out))) (below_size dB)); replace HO313 := Aside0.mk (Kd.R_elder' (dR HO313.out) (Kd.R_base ho0) hb); replace HB := Aside0.mk (below_step dB hb); (try clear hb); (try clear ho0); obtain ⟨Ao21, co21, eo21⟩ := Kd.R_slice HO316.out; subst eo21; obtain ⟨Ao22, co22, eo22⟩ := Kd.R_slice HO313.out; subst eo22) | ((with_reducible refine gate_callee (f := 58) rfl ?_); refine gL (some 23) Tryd.func58 #[.slice Ao22 t311.length co22, .slice Ao21 t314.length co21] ?_; (with_reducible refine (nat_Cmp.calls k _ _ t311 _ _ t314 t317 _ ?side1 ?side2 ?side3 ?side4 A9.out).mono ?_); (case side1 => exact dC (Kd.R_reads' HO313.out).2.2); (case side2 => exact (Kd.R_reads' HO313.out).2.1); (case side3 => exact dC (Kd.R_reads' HO316.out).2.2); (case side4 => exact (Kd.R_reads' HO316.out).2.1); rintro e w' ⟨rfl, ⟨nd, rfl⟩⟩; refine ⟨_, rfl, ?_⟩; have p318 : 0 ≤ (0 : Int) := (by omega); have q318 : 0 < (t314.length : Int) := of_decide_eq_true dS; obtain ⟨ad318, e318, hx318_0⟩ := Kd.at_int (Kd.R_reads' HO316.out).2.2 0 p318 q318; cases e318; have qi318 : (0 < t314.length) = True := eq_true (by omega); (try rw [show ((0 : Int)).toNat = 0 from rfl] at hx318_0); (try rw [Addr.add_zero'] at hx318_0); replace p318 := eq_true p318; replace q318 := eq_true q318) | ((with_reducible refine gate_callee (f := 91) rfl ?_); refine gL (some 35) Tryd.func91 #[.slice Ao22 t311.length co22, .int .u64 (rd t314 0)] ?_; (with_reducible refine (quot_Small.calls k _ _ t311 (rd t314 0) t319 t320 t321 _ ?side1 ?side2 A17.out).mono ?_); (case side1 => exact dC (Kd.R_reads' HO313.out).2.2); (case side2 => exact (Kd.R_reads' HO313.out).2.1); rintro e w23 ⟨v322, rfl, ho0, hb⟩; refine ⟨_, rfl, ?_⟩; have HO323 := Aside0.mk (Kd.R_lower (Kd.R_new' (Kd.R_new' ho0 (Kd.R_lt (dR HO313.out))) (Kd.R_lt (dR HO316.out))) (below_size dB)); replace HO313 := Aside0.mk (Kd.R_elder' (dR HO313.out) (Kd.R_base ho0) hb); replace HO316 := Aside0.mk (Kd.R_elder' (dR HO316.out) (Kd.R_base ho0) hb); replace HB := Aside0.mk (below_step dB hb); (try clear hb); (try clear ho0)) | ((with_reducible refine gate_callee (f := 66) rfl ?_); refine gL (some 41) Tryd.func66 #[.int .u64 t320] ?_; (with_reducible refine (nat_From.calls t320 t324 _ A18.out).mono ?_); rintro e w24 ⟨v325, rfl, ho0, hb⟩; refine ⟨_, rfl, ?_⟩; have HO326 := Aside0.mk (Kd.R_lower (Kd.R_new' (Kd.R_new' (Kd.R_new' ho0 (Kd.R_lt (dR HO313.out))) (Kd.R_lt (dR HO316.out))) (Kd.R_lt (dR HO323.out))) (below_size dB)); replace HO313 := Aside0.mk (Kd.R_elder' (dR HO313.out) (Kd.R_base ho0) hb); replace HO316 := Aside0.mk (Kd.R_elder' (dR HO316.out) (Kd.R_base ho0) hb); replace HO323 := Aside0.mk (Kd.R_elder' (dR HO323.out) (Kd.R_base ho0) hb); replace HB := Aside0.mk (below_step dB hb); (try clear hb); (try clear ho0)))
     go_ret3
     exact ⟨_, _, dE, by (with_reducible repeat (first | apply Kd.R_alloc | apply Kd.R_drewN | apply Kd.R_drew)); exact Kd.R_mono HO323.out (fun _ hk => hk.2), by (with_reducible repeat (first | apply Kd.R_alloc | apply Kd.R_drewN | apply Kd.R_drew)); exact Kd.R_mono HO326.out (fun _ hk => hk.2), dB⟩
    ·rw [if_neg c16] at H
     exact absurd H (by simp)
   ·rw [if_neg c15] at H
    have c15b0 : ((t314.length : Int) == 1) = false := beq_eq_false_iff_ne.mpr c15
    have c15b1 : ((t314.length : Int) != 1) = true := bne_iff_ne.mpr c15
    replace H := obe H
    obtain ⟨⟨t327, t328⟩, A250, H⟩ := H
    replace H : (some (t327, t328, 0)) = some (r1, r2, r3) := H
    have A25 := Aside0.mk A250
    clear A250
    simp only [Option.some.injEq, Prod.mk.injEq] at H
    obtain ⟨rfl, rfl, rfl⟩ := H
    go_enter Tryd.func53, Tryd.ntmps53
    go_wp2_with (first | ((with_reducible refine gate_callee (f := 51) rfl ?_); refine gL (some 13) Tryd.func51 #[.slice A0 l0.length c0] ?_; (with_reducible refine (nat_Norm.calls _ _ l0 t311 _ ?side1 ?side2 A3.out).mono ?_); (case side1 => exact dC HR0.out); (case side2 => exact HC0.out); rintro e w26 ⟨v312, rfl, ho0, hb⟩; refine ⟨_, rfl, ?_⟩; have HO313 := Aside0.mk (Kd.R_lower ho0 (below_size dB)); replace HB := Aside0.mk (below_step dB hb); (try clear hb); (try clear ho0)) | ((with_reducible refine gate_callee (f := 51) rfl ?_); refine gL (some 15) Tryd.func51 #[.slice A1 l1.length c1] ?_; (with_reducible refine (nat_Norm.calls _ _ l1 t314 _ ?side1 ?side2 A4.out).mono ?_); (case side1 => exact dC (Kd.C_below HR1.out HB.out)); (case side2 => exact HC1.out); rintro e w27 ⟨v315, rfl, ho0, hb⟩; refine ⟨_, rfl, ?_⟩; have HO316 := Aside0.mk (Kd.R_lower (Kd.R_new' ho0 (Kd.R_lt (dR HO313.out))) (below_size dB)); replace HO313 := Aside0.mk (Kd.R_elder' (dR HO313.out) (Kd.R_base ho0) hb); replace HB := Aside0.mk (below_step dB hb); (try clear hb); (try clear ho0); obtain ⟨Ao28, co28, eo28⟩ := Kd.R_slice HO316.out; subst eo28; obtain ⟨Ao29, co29, eo29⟩ := Kd.R_slice HO313.out; subst eo29) | ((with_reducible refine gate_callee (f := 58) rfl ?_); refine gL (some 23) Tryd.func58 #[.slice Ao29 t311.length co29, .slice Ao28 t314.length co28] ?_; (with_reducible refine (nat_Cmp.calls k _ _ t311 _ _ t314 t317 _ ?side1 ?side2 ?side3 ?side4 A9.out).mono ?_); (case side1 => exact dC (Kd.R_reads' HO313.out).2.2); (case side2 => exact (Kd.R_reads' HO313.out).2.1); (case side3 => exact dC (Kd.R_reads' HO316.out).2.2); (case side4 => exact (Kd.R_reads' HO316.out).2.1); rintro e w' ⟨rfl, ⟨nd, rfl⟩⟩; refine ⟨_, rfl, ?_⟩) | ((with_reducible refine gate_callee (f := 92) rfl ?_); refine gL (some 45) Tryd.func92 #[.slice Ao29 t311.length co29, .slice Ao28 t314.length co28] ?_; (with_reducible refine (quot_long.calls k _ _ t311 _ _ t314 t327 t328 _ ?side1 ?side2 ?side3 ?side4 A25.out).mono ?_); (case side1 => exact dC (Kd.R_reads' HO313.out).2.2); (case side2 => exact (Kd.R_reads' HO313.out).2.1); (case side3 => exact dC (Kd.R_reads' HO316.out).2.2); (case side4 => exact (Kd.R_reads' HO316.out).2.1); rintro e w30 ⟨v329, v331, rfl, ho0, ho1, hb⟩; refine ⟨_, rfl, ?_⟩; have HO330 := Aside0.mk (Kd.R_lower (Kd.R_new' (Kd.R_new' ho0 (Kd.R_lt (dR HO313.out))) (Kd.R_lt (dR HO316.out))) (below_size dB)); have HO332 := Aside0.mk (Kd.R_lower (Kd.R_new' (Kd.R_new' ho1 (Kd.R_lt (dR HO313.out))) (Kd.R_lt (dR HO316.out))) (below_size dB)); replace HO313 := Aside0.mk (Kd.R_mono (Kd.R_told (Kd.R_told (Kd.R_old (dR HO313.out) hb) (Kd.R_base ho0)) (Kd.R_base ho1)) (fun _ h_ => h_.1)); replace HO316 := Aside0.mk (Kd.R_mono (Kd.R_told (Kd.R_told (Kd.R_old (dR HO316.out) hb) (Kd.R_base ho0)) (Kd.R_base ho1)) (fun _ h_ => h_.1)); replace HB := Aside0.mk (below_step dB hb); (try clear hb); (try clear ho0); (try clear ho1)))
    go_ret3
    exact ⟨_, _, dE, by (with_reducible repeat (first | apply Kd.R_alloc | apply Kd.R_drewN | apply Kd.R_drew)); exact Kd.R_mono HO330.out (fun _ hk => hk.1.1), by (with_reducible repeat (first | apply Kd.R_alloc | apply Kd.R_drewN | apply Kd.R_drew)); exact Kd.R_mono HO332.out (fun _ hk => hk.1.1), dB⟩

/-! ### near_Quotient: function 17 (by hand) -/
def near_Quotient.f (k : Nat) (a0 : Bool) (l1 : List Int) (l2 : List Int) (a3 : Int) : Option (Int × Int) := (nat_Norm.f l1).bind fun t333 => ((nat_Norm.f l2).bind fun t336 => ((near_known.f a3).bind fun t339 => (if t339 = true then (if (t336.length : Int) = 0 then (some (0, 50)) else (if (t333.length : Int) = 0 then ((near_finish.f k a0 0 0 false a3).bind fun bt340 => (some (bt340.1, bt340.2))) else ((nat_Bits.f k t333).bind fun t342 => ((nat_Bits.f k t336).bind fun t343 => (if (wrap64 (t342 - t343)) > 1100 then ((near_finish.f k a0 1 (wrap64 (t342 - t343)) true a3).bind fun bt344 => (some (bt344.1, bt344.2))) else (if (wrap64 (t342 - t343)) < (-1200) then ((near_finish.f k a0 0 0 true a3).bind fun bt346 => (some (bt346.1, bt346.2))) else (if (wrap64 ((wrap64 (t342 - t343)) - 62)) > 0 then ((near_shl.f k t336 (wrap64 ((wrap64 (t342 - t343)) - 62))).bind fun t348 => ((quot_DivMod.f k t333 t348).bind fun bt351 => ((nat_Word.f k bt351.1).bind fun bt358 => ((near_finish.f k a0 bt358.1 (wrap64 ((wrap64 (t342 - t343)) - 62)) (decide ((bt351.2.1.length : Int) > 0)) a3).bind fun bt360 => (some (bt360.1, bt360.2)))))) else ((near_shl.f k t333 (wrap64 (-(wrap64 ((wrap64 (t342 - t343)) - 62))))).bind fun t362 => ((quot_DivMod.f k t362 t336).bind fun bt365 => ((nat_Word.f k bt365.1).bind fun bt372 => ((near_finish.f k a0 bt372.1 (wrap64 ((wrap64 (t342 - t343)) - 62)) (decide ((bt365.2.1.length : Int) > 0)) a3).bind fun bt374 => (some (bt374.1, bt374.2))))))))))))) else (some (0, 71)))))
set_option maxHeartbeats 8000000 in
set_option maxRecDepth 100000 in
theorem near_Quotient.calls (k : Nat) (a0 : Bool) (A1 : Option Addr) (c1 : Nat) (l1 : List Int) (A2 : Option Addr) (c2 : Nat) (l2 : List Int) (a3 : Int) (r1 : Int) (r2 : Int) (w : World) (hr1 : Kd.C (Kd.int .u64) w A1 l1.length l1) (hc1 : l1.length ≤ c1) (hr2 : Kd.C (Kd.int .u64) w A2 l2.length l2) (hc2 : l2.length ≤ c2) (h : near_Quotient.f k a0 l1 l2 a3 = some (r1, r2)) (hS : StaysLaid w := by first | exact HS.out | exact hS | exact StaysLaid.below HS.out HB.out | exact StaysLaid.below HS.out dB) :
  Calls Tryd.prog 17 #[.bool a0, .slice A1 l1.length c1, .slice A2 l2.length c2, .int .i64 a3] w fun e w' => e = .returned (.tuple #[.int .u64 r1, .int .i64 r2]) ∧ Below w.heap.size w w' := by
 have HS := Aside0.mk (show StaysLaid w from hS)
 clear hS
 have HR1 := Aside0.mk hr1
 have HC1 := Aside0.mk hc1
 clear hr1 hc1
 have HR2 := Aside0.mk hr2
 have HC2 := Aside0.mk hc2
 clear hr2 hc2
 have HB := Aside0.mk (Below.refl w.heap.size w)
 have H : ((nat_Norm.f l1).bind fun t333 => ((nat_Norm.f l2).bind fun t336 => ((near_known.f a3).bind fun t339 => (if t339 = true then (if (t336.length : Int) = 0 then (some (0, 50)) else (if (t333.length : Int) = 0 then ((near_finish.f k a0 0 0 false a3).bind fun bt340 => (some (bt340.1, bt340.2))) else ((nat_Bits.f k t333).bind fun t342 => ((nat_Bits.f k t336).bind fun t343 => (if (wrap64 (t342 - t343)) > 1100 then ((near_finish.f k a0 1 (wrap64 (t342 - t343)) true a3).bind fun bt344 => (some (bt344.1, bt344.2))) else (if (wrap64 (t342 - t343)) < (-1200) then ((near_finish.f k a0 0 0 true a3).bind fun bt346 => (some (bt346.1, bt346.2))) else (if (wrap64 ((wrap64 (t342 - t343)) - 62)) > 0 then ((near_shl.f k t336 (wrap64 ((wrap64 (t342 - t343)) - 62))).bind fun t348 => ((quot_DivMod.f k t333 t348).bind fun bt351 => ((nat_Word.f k bt351.1).bind fun bt358 => ((near_finish.f k a0 bt358.1 (wrap64 ((wrap64 (t342 - t343)) - 62)) (decide ((bt351.2.1.length : Int) > 0)) a3).bind fun bt360 => (some (bt360.1, bt360.2)))))) else ((near_shl.f k t333 (wrap64 (-(wrap64 ((wrap64 (t342 - t343)) - 62))))).bind fun t362 => ((quot_DivMod.f k t362 t336).bind fun bt365 => ((nat_Word.f k bt365.1).bind fun bt372 => ((near_finish.f k a0 bt372.1 (wrap64 ((wrap64 (t342 - t343)) - 62)) (decide ((bt365.2.1.length : Int) > 0)) a3).bind fun bt374 => (some (bt374.1, bt374.2))))))))))))) else (some (0, 71)))))) = some (r1, r2) := h
 clear h
 replace H := obe H
 obtain ⟨t333, A50, H⟩ := H
 replace H : ((nat_Norm.f l2).bind fun t336 => ((near_known.f a3).bind fun t339 => (if t339 = true then (if (t336.length : Int) = 0 then (some (0, 50)) else (if (t333.length : Int) = 0 then ((near_finish.f k a0 0 0 false a3).bind fun bt340 => (some (bt340.1, bt340.2))) else ((nat_Bits.f k t333).bind fun t342 => ((nat_Bits.f k t336).bind fun t343 => (if (wrap64 (t342 - t343)) > 1100 then ((near_finish.f k a0 1 (wrap64 (t342 - t343)) true a3).bind fun bt344 => (some (bt344.1, bt344.2))) else (if (wrap64 (t342 - t343)) < (-1200) then ((near_finish.f k a0 0 0 true a3).bind fun bt346 => (some (bt346.1, bt346.2))) else (if (wrap64 ((wrap64 (t342 - t343)) - 62)) > 0 then ((near_shl.f k t336 (wrap64 ((wrap64 (t342 - t343)) - 62))).bind fun t348 => ((quot_DivMod.f k t333 t348).bind fun bt351 => ((nat_Word.f k bt351.1).bind fun bt358 => ((near_finish.f k a0 bt358.1 (wrap64 ((wrap64 (t342 - t343)) - 62)) (decide ((bt351.2.1.length : Int) > 0)) a3).bind fun bt360 => (some (bt360.1, bt360.2)))))) else ((near_shl.f k t333 (wrap64 (-(wrap64 ((wrap64 (t342 - t343)) - 62))))).bind fun t362 => ((quot_DivMod.f k t362 t336).bind fun bt365 => ((nat_Word.f k bt365.1).bind fun bt372 => ((near_finish.f k a0 bt372.1 (wrap64 ((wrap64 (t342 - t343)) - 62)) (decide ((bt365.2.1.length : Int) > 0)) a3).bind fun bt374 => (some (bt374.1, bt374.2))))))))))))) else (some (0, 71))))) = some (r1, r2) := H
 have A5 := Aside0.mk A50
 clear A50
 replace H := obe H
 obtain ⟨t336, A60, H⟩ := H
 replace H : ((near_known.f a3).bind fun t339 => (if t339 = true then (if (t336.length : Int) = 0 then (some (0, 50)) else (if (t333.length : Int) = 0 then ((near_finish.f k a0 0 0 false a3).bind fun bt340 => (some (bt340.1, bt340.2))) else ((nat_Bits.f k t333).bind fun t342 => ((nat_Bits.f k t336).bind fun t343 => (if (wrap64 (t342 - t343)) > 1100 then ((near_finish.f k a0 1 (wrap64 (t342 - t343)) true a3).bind fun bt344 => (some (bt344.1, bt344.2))) else (if (wrap64 (t342 - t343)) < (-1200) then ((near_finish.f k a0 0 0 true a3).bind fun bt346 => (some (bt346.1, bt346.2))) else (if (wrap64 ((wrap64 (t342 - t343)) - 62)) > 0 then ((near_shl.f k t336 (wrap64 ((wrap64 (t342 - t343)) - 62))).bind fun t348 => ((quot_DivMod.f k t333 t348).bind fun bt351 => ((nat_Word.f k bt351.1).bind fun bt358 => ((near_finish.f k a0 bt358.1 (wrap64 ((wrap64 (t342 - t343)) - 62)) (decide ((bt351.2.1.length : Int) > 0)) a3).bind fun bt360 => (some (bt360.1, bt360.2)))))) else ((near_shl.f k t333 (wrap64 (-(wrap64 ((wrap64 (t342 - t343)) - 62))))).bind fun t362 => ((quot_DivMod.f k t362 t336).bind fun bt365 => ((nat_Word.f k bt365.1).bind fun bt372 => ((near_finish.f k a0 bt372.1 (wrap64 ((wrap64 (t342 - t343)) - 62)) (decide ((bt365.2.1.length : Int) > 0)) a3).bind fun bt374 => (some (bt374.1, bt374.2))))))))))))) else (some (0, 71)))) = some (r1, r2) := H
 have A6 := Aside0.mk A60
 clear A60
 replace H := obe H
 obtain ⟨t339, A70, H⟩ := H
 replace H : (if t339 = true then (if (t336.length : Int) = 0 then (some (0, 50)) else (if (t333.length : Int) = 0 then ((near_finish.f k a0 0 0 false a3).bind fun bt340 => (some (bt340.1, bt340.2))) else ((nat_Bits.f k t333).bind fun t342 => ((nat_Bits.f k t336).bind fun t343 => (if (wrap64 (t342 - t343)) > 1100 then ((near_finish.f k a0 1 (wrap64 (t342 - t343)) true a3).bind fun bt344 => (some (bt344.1, bt344.2))) else (if (wrap64 (t342 - t343)) < (-1200) then ((near_finish.f k a0 0 0 true a3).bind fun bt346 => (some (bt346.1, bt346.2))) else (if (wrap64 ((wrap64 (t342 - t343)) - 62)) > 0 then ((near_shl.f k t336 (wrap64 ((wrap64 (t342 - t343)) - 62))).bind fun t348 => ((quot_DivMod.f k t333 t348).bind fun bt351 => ((nat_Word.f k bt351.1).bind fun bt358 => ((near_finish.f k a0 bt358.1 (wrap64 ((wrap64 (t342 - t343)) - 62)) (decide ((bt351.2.1.length : Int) > 0)) a3).bind fun bt360 => (some (bt360.1, bt360.2)))))) else ((near_shl.f k t333 (wrap64 (-(wrap64 ((wrap64 (t342 - t343)) - 62))))).bind fun t362 => ((quot_DivMod.f k t362 t336).bind fun bt365 => ((nat_Word.f k bt365.1).bind fun bt372 => ((near_finish.f k a0 bt372.1 (wrap64 ((wrap64 (t342 - t343)) - 62)) (decide ((bt365.2.1.length : Int) > 0)) a3).bind fun bt374 => (some (bt374.1, bt374.2))))))))))))) else (some (0, 71))) = some (r1, r2) := H
 have A7 := Aside0.mk A70
 clear A70
 by_cases c8 : t339 = true
 ·subst c8
  have H1 : (if (t336.length : Int) = 0 then (some (0, 50)) else (if (t333.length : Int) = 0 then ((near_finish.f k a0 0 0 false a3).bind fun bt340 => (some (bt340.1, bt340.2))) else ((nat_Bits.f k t333).bind fun t342 => ((nat_Bits.f k t336).bind fun t343 => (if (wrap64 (t342 - t343)) > 1100 then ((near_finish.f k a0 1 (wrap64 (t342 - t343)) true a3).bind fun bt344 => (some (bt344.1, bt344.2))) else (if (wrap64 (t342 - t343)) < (-1200) then ((near_finish.f k a0 0 0 true a3).bind fun bt346 => (some (bt346.1, bt346.2))) else (if (wrap64 ((wrap64 (t342 - t343)) - 62)) > 0 then ((near_shl.f k t336 (wrap64 ((wrap64 (t342 - t343)) - 62))).bind fun t348 => ((quot_DivMod.f k t333 t348).bind fun bt351 => ((nat_Word.f k bt351.1).bind fun bt358 => ((near_finish.f k a0 bt358.1 (wrap64 ((wrap64 (t342 - t343)) - 62)) (decide ((bt351.2.1.length : Int) > 0)) a3).bind fun bt360 => (some (bt360.1, bt360.2)))))) else ((near_shl.f k t333 (wrap64 (-(wrap64 ((wrap64 (t342 - t343)) - 62))))).bind fun t362 => ((quot_DivMod.f k t362 t336).bind fun bt365 => ((nat_Word.f k bt365.1).bind fun bt372 => ((near_finish.f k a0 bt372.1 (wrap64 ((wrap64 (t342 - t343)) - 62)) (decide ((bt365.2.1.length : Int) > 0)) a3).bind fun bt374 => (some (bt374.1, bt374.2))))))))))))) = some (r1, r2) := by rw [if_pos rfl] at H; exact H
  clear H
  have H := H1
  clear H1
  by_cases c9 : (t336.length : Int) = 0
  ·rw [if_pos c9] at H
   have c9b0 : ((t336.length : Int) == 0) = true := beq_iff_eq.mpr c9
   have c9b1 : ((t336.length : Int) != 0) = false := bne_eq_false_iff_eq.mpr c9
   clear c9
   simp only [Option.some.injEq, Prod.mk.injEq] at H
   obtain ⟨rfl, rfl⟩ := H
   go_enter Tryd.func17, Tryd.ntmps17
   go_wp2_with (first | ((with_reducible refine gate_callee (f := 51) rfl ?_); refine gL (some 18) Tryd.func51 #[.slice A1 l1.length c1] ?_; (with_reducible refine (nat_Norm.calls _ _ l1 t333 _ ?side1 ?side2 A5.out).mono ?_); (case side1 => exact dC HR1.out); (case side2 => exact HC1.out); rintro e w10 ⟨v334, rfl, ho0, hb⟩; refine ⟨_, rfl, ?_⟩; have HO335 := Aside0.mk (Kd.R_lower ho0 (below_size dB)); replace HB := Aside0.mk (below_step dB hb); (try clear hb); (try clear ho0)) | ((with_reducible refine gate_callee (f := 51) rfl ?_); refine gL (some 20) Tryd.func51 #[.slice A2 l2.length c2] ?_; (with_reducible refine (nat_Norm.calls _ _ l2 t336 _ ?side1 ?side2 A6.out).mono ?_); (case side1 => exact dC (Kd.C_below HR2.out HB.out)); (case side2 => exact HC2.out); rintro e w11 ⟨v337, rfl, ho0, hb⟩; refine ⟨_, rfl, ?_⟩; have HO338 := Aside0.mk (Kd.R_lower (Kd.R_new' ho0 (Kd.R_lt (dR HO335.out))) (below_size dB)); replace HO335 := Aside0.mk (Kd.R_elder' (dR HO335.out) (Kd.R_base ho0) hb); replace HB := Aside0.mk (below_step dB hb); (try clear hb); (try clear ho0)) | ((with_reducible refine gate_callee (f := 42) rfl ?_); refine gL (some 23) Tryd.func42 #[.int .i64 a3] ?_; (with_reducible refine (near_known.calls a3 true _ A7.out).mono ?_); rintro e w' ⟨rfl, ⟨nd, rfl⟩⟩; refine ⟨_, rfl, ?_⟩; obtain ⟨Ao12, co12, eo12⟩ := Kd.R_slice HO338.out; subst eo12))
   go_ret2
   exact ⟨dE, dB⟩
  ·rw [if_neg c9] at H
   have c9b0 : ((t336.length : Int) == 0) = false := beq_eq_false_iff_ne.mpr c9
   have c9b1 : ((t336.length : Int) != 0) = true := bne_iff_ne.mpr c9
   have c9b2 : ¬ (t336 = []) := fun h_ => c9 (by rw [h_]; rfl)
   by_cases c13 : (t333.length : Int) = 0
   ·rw [if_pos c13] at H
    have c13b0 : ((t333.length : Int) == 0) = true := beq_iff_eq.mpr c13
    have c13b1 : ((t333.length : Int) != 0) = false := bne_eq_false_iff_eq.mpr c13
    clear c13
    replace H := obe H
    obtain ⟨⟨t340, t341⟩, A140, H⟩ := H
    replace H : (some (t340, t341)) = some (r1, r2) := H
    have A14 := Aside0.mk A140
    clear A140
    simp only [Option.some.injEq, Prod.mk.injEq] at H
    obtain ⟨rfl, rfl⟩ := H
    go_enter Tryd.func17, Tryd.ntmps17
    go_wp2_with (first | ((with_reducible refine gate_callee (f := 51) rfl ?_); refine gL (some 18) Tryd.func51 #[.slice A1 l1.length c1] ?_; (with_reducible refine (nat_Norm.calls _ _ l1 t333 _ ?side1 ?side2 A5.out).mono ?_); (case side1 => exact dC HR1.out); (case side2 => exact HC1.out); rintro e w15 ⟨v334, rfl, ho0, hb⟩; refine ⟨_, rfl, ?_⟩; have HO335 := Aside0.mk (Kd.R_lower ho0 (below_size dB)); replace HB := Aside0.mk (below_step dB hb); (try clear hb); (try clear ho0)) | ((with_reducible refine gate_callee (f := 51) rfl ?_); refine gL (some 20) Tryd.func51 #[.slice A2 l2.length c2] ?_; (with_reducible refine (nat_Norm.calls _ _ l2 t336 _ ?side1 ?side2 A6.out).mono ?_); (case side1 => exact dC (Kd.C_below HR2.out HB.out)); (case side2 => exact HC2.out); rintro e w16 ⟨v337, rfl, ho0, hb⟩; refine ⟨_, rfl, ?_⟩; have HO338 := Aside0.mk (Kd.R_lower (Kd.R_new' ho0 (Kd.R_lt (dR HO335.out))) (below_size dB)); replace HO335 := Aside0.mk (Kd.R_elder' (dR HO335.out) (Kd.R_base ho0) hb); replace HB := Aside0.mk (below_step dB hb); (try clear hb); (try clear ho0)) | ((with_reducible refine gate_callee (f := 42) rfl ?_); refine gL (some 23) Tryd.func42 #[.int .i64 a3] ?_; (with_reducible refine (near_known.calls a3 true _ A7.out).mono ?_); rintro e w' ⟨rfl, ⟨nd, rfl⟩⟩; refine ⟨_, rfl, ?_⟩; obtain ⟨Ao17, co17, eo17⟩ := Kd.R_slice HO338.out; subst eo17; obtain ⟨Ao18, co18, eo18⟩ := Kd.R_slice HO335.out; subst eo18) | ((with_reducible refine gate_callee (f := 46) rfl ?_); refine gL (some 35) Tryd.func46 #[.bool a0, .int .u64 0, .int .i64 0, .bool false, .int .i64 a3] ?_; (with_reducible refine (near_finish.calls k a0 0 0 false a3 t340 t341 _ A14.out).mono ?_); rintro e w19 ⟨rfl, hb⟩; refine ⟨_, rfl, ?_⟩; replace HO335 := Aside0.mk (Kd.R_below (dR HO335.out) hb); replace HO338 := Aside0.mk (Kd.R_below (dR HO338.out) hb); replace HB := Aside0.mk (below_step dB hb); (try clear hb)))
    go_ret2
    exact ⟨dE, dB⟩
   ·rw [if_neg c13] at H
    have c13b0 : ((t333.length : Int) == 0) = false := beq_eq_false_iff_ne.mpr c13
    have c13b1 : ((t333.length : Int) != 0) = true := bne_iff_ne.mpr c13
    have c13b2 : ¬ (t333 = []) := fun h_ => c13 (by rw [h_]; rfl)
    replace H := obe H
    obtain ⟨t342, A200, H⟩ := H
    replace H : ((nat_Bits.f k t336).bind fun t343 => (if (wrap64 (t342 - t343)) > 1100 then ((near_finish.f k a0 1 (wrap64 (t342 - t343)) true a3).bind fun bt344 => (some (bt344.1, bt344.2))) else (if (wrap64 (t342 - t343)) < (-1200) then ((near_finish.f k a0 0 0 true a3).bind fun bt346 => (some (bt346.1, bt346.2))) else (if (wrap64 ((wrap64 (t342 - t343)) - 62)) > 0 then ((near_shl.f k t336 (wrap64 ((wrap64 (t342 - t343)) - 62))).bind fun t348 => ((quot_DivMod.f k t333 t348).bind fun bt351 => ((nat_Word.f k bt351.1).bind fun bt358 => ((near_finish.f k a0 bt358.1 (wrap64 ((wrap64 (t342 - t343)) - 62)) (decide ((bt351.2.1.length : Int) > 0)) a3).bind fun bt360 => (some (bt360.1, bt360.2)))))) else ((near_shl.f k t333 (wrap64 (-(wrap64 ((wrap64 (t342 - t343)) - 62))))).bind fun t362 => ((quot_DivMod.f k t362 t336).bind fun bt365 => ((nat_Word.f k bt365.1).bind fun bt372 => ((near_finish.f k a0 bt372.1 (wrap64 ((wrap64 (t342 - t343)) - 62)) (decide ((bt365.2.1.length : Int) > 0)) a3).bind fun bt374 => (some (bt374.1, bt374.2)))))))))) = some (r1, r2) := H
    have A20 := Aside0.mk A200
    clear A200
    replace H := obe H
    obtain ⟨t343, A210, H⟩ := H
    replace H : (if (wrap64 (t342 - t343)) > 1100 then ((near_finish.f k a0 1 (wrap64 (t342 - t343)) true a3).bind fun bt344 => (some (bt344.1, bt344.2))) else (if (wrap64 (t342 - t343)) < (-1200) then ((near_finish.f k a0 0 0 true a3).bind fun bt346 => (some (bt346.1, bt346.2))) else (if (wrap64 ((wrap64 (t342 - t343)) - 62)) > 0 then ((near_shl.f k t336 (wrap64 ((wrap64 (t342 - t343)) - 62))).bind fun t348 => ((quot_DivMod.f k t333 t348).bind fun bt351 => ((nat_Word.f k bt351.1).bind fun bt358 => ((near_finish.f k a0 bt358.1 (wrap64 ((wrap64 (t342 - t343)) - 62)) (decide ((bt351.2.1.length : Int) > 0)) a3).bind fun bt360 => (some (bt360.1, bt360.2)))))) else ((near_shl.f k t333 (wrap64 (-(wrap64 ((wrap64 (t342 - t343)) - 62))))).bind fun t362 => ((quot_DivMod.f k t362 t336).bind fun bt365 => ((nat_Word.f k bt365.1).bind fun bt372 => ((near_finish.f k a0 bt372.1 (wrap64 ((wrap64 (t342 - t343)) - 62)) (decide ((bt365.2.1.length : Int) > 0)) a3).bind fun bt374 => (some (bt374.1, bt374.2))))))))) = some (r1, r2) := H
    have A21 := Aside0.mk A210
    clear A210
    by_cases c22 : (wrap64 (t342 - t343)) > 1100
    ·rw [if_pos c22] at H
     have c22b0 : decide (1100 < (wrap64 (t342 - t343))) = true := decide_eq_true c22
     clear c22
     replace H := obe H
     obtain ⟨⟨t344, t345⟩, A230, H⟩ := H
     replace H : (some (t344, t345)) = some (r1, r2) := H
     have A23 := Aside0.mk A230
     clear A230
     simp only [Option.some.injEq, Prod.mk.injEq] at H
     obtain ⟨rfl, rfl⟩ := H
     go_enter Tryd.func17, Tryd.ntmps17
     go_wp2_with (first | ((with_reducible refine gate_callee (f := 51) rfl ?_); refine gL (some 18) Tryd.func51 #[.slice A1 l1.length c1] ?_; (with_reducible refine (nat_Norm.calls _ _ l1 t333 _ ?side1 ?side2 A5.out).mono ?_); (case side1 => exact dC HR1.out); (case side2 => exact HC1.out); rintro e w24 ⟨v334, rfl, ho0, hb⟩; refine ⟨_, rfl, ?_⟩; have HO335 := Aside0.mk (Kd.R_lower ho0 (below_size dB)); replace HB := Aside0.mk (below_step dB hb); (try clear hb); (try clear ho0)) | ((with_reducible refine gate_callee (f := 51) rfl ?_); refine gL (some 20) Tryd.func51 #[.slice A2 l2.length c2] ?_; (with_reducible refine (nat_Norm.calls _ _ l2 t336 _ ?side1 ?side2 A6.out).mono ?_); (case side1 => exact dC (Kd.C_below HR2.out HB.out)); (case side2 => exact HC2.out); rintro e w25 ⟨v337, rfl, ho0, hb⟩; refine ⟨_, rfl, ?_⟩; have HO338 := Aside0.mk (Kd.R_lower (Kd.R_new' ho0 (Kd.R_lt (dR HO335.out))) (below_size dB)); replace HO335 := Aside0.mk (Kd.R_elder' (dR HO335.out) (Kd.R_base ho0) hb); replace HB := Aside0.mk (below_step dB hb); (try clear hb); (try clear ho0)) | ((with_reducible refine gate_callee (f := 42) rfl ?_); refine gL (some 23) Tryd.func42 #[.int .i64 a3] ?_; (with_reducible refine (near_known.calls a3 true _ A7.out).mono ?_); rintro e w' ⟨rfl, ⟨nd, rfl⟩⟩; refine ⟨_, rfl, ?_⟩; obtain ⟨Ao26, co26, eo26⟩ := Kd.R_slice HO338.out; subst eo26; obtain ⟨Ao27, co27, eo27⟩ := Kd.R_slice HO335.out; subst eo27) | ((with_reducible refine gate_callee (f := 43) rfl ?_); refine gL (some 39) Tryd.func43 #[.slice Ao27 t333.length co27] ?_; (with_reducible refine (nat_Bits.calls k _ _ t333 t342 _ ?side1 ?side2 A20.out).mono ?_); (case side1 => exact dC (Kd.R_reads' HO335.out).2.2); (case side2 => exact (Kd.R_reads' HO335.out).2.1); rintro e w' ⟨rfl, ⟨nd, rfl⟩⟩; refine ⟨_, rfl, ?_⟩) | ((with_reducible refine gate_callee (f := 43) rfl ?_); refine gL (some 41) Tryd.func43 #[.slice Ao26 t336.length co26] ?_; (with_reducible refine (nat_Bits.calls k _ _ t336 t343 _ ?side1 ?side2 A21.out).mono ?_); (case side1 => exact dC (Kd.R_reads' HO338.out).2.2); (case side2 => exact (Kd.R_reads' HO338.out).2.1); rintro e w' ⟨rfl, ⟨nd, rfl⟩⟩; refine ⟨_, rfl, ?_⟩) | ((with_reducible refine gate_callee (f := 46) rfl ?_); refine gL (some 49) Tryd.func46 #[.bool a0, .int .u64 1, .int .i64 (wrap64 (t342 - t343)), .bool true, .int .i64 a3] ?_; (with_reducible refine (near_finish.calls k a0 1 (wrap64 (t342 - t343)) true a3 t344 t345 _ A23.out).mono ?_); rintro e w28 ⟨rfl, hb⟩; refine ⟨_, rfl, ?_⟩; replace HO335 := Aside0.mk (Kd.R_below (dR HO335.out) hb); replace HO338 := Aside0.mk (Kd.R_below (dR HO338.out) hb); replace HB := Aside0.mk (below_step dB hb); (try clear hb)))
     go_ret2
     exact ⟨dE, dB⟩
    ·rw [if_neg c22] at H
     have c22b0 : decide (1100 < (wrap64 (t342 - t343))) = false := decide_eq_false c22
     clear c22
     by_cases c29 : (wrap64 (t342 - t343)) < (-1200)
     ·rw [if_pos c29] at H
      have c29b0 : decide ((wrap64 (t342 - t343)) < (-1200)) = true := decide_eq_true c29
      clear c29
      replace H := obe H
      obtain ⟨⟨t346, t347⟩, A300, H⟩ := H
      replace H : (some (t346, t347)) = some (r1, r2) := H
      have A30 := Aside0.mk A300
      clear A300
      simp only [Option.some.injEq, Prod.mk.injEq] at H
      obtain ⟨rfl, rfl⟩ := H
      go_enter Tryd.func17, Tryd.ntmps17
      go_wp2_with (first | ((with_reducible refine gate_callee (f := 51) rfl ?_); refine gL (some 18) Tryd.func51 #[.slice A1 l1.length c1] ?_; (with_reducible refine (nat_Norm.calls _ _ l1 t333 _ ?side1 ?side2 A5.out).mono ?_); (case side1 => exact dC HR1.out); (case side2 => exact HC1.out); rintro e w31 ⟨v334, rfl, ho0, hb⟩; refine ⟨_, rfl, ?_⟩; have HO335 := Aside0.mk (Kd.R_lower ho0 (below_size dB)); replace HB := Aside0.mk (below_step dB hb); (try clear hb); (try clear ho0)) | ((with_reducible refine gate_callee (f := 51) rfl ?_); refine gL (some 20) Tryd.func51 #[.slice A2 l2.length c2] ?_; (with_reducible refine (nat_Norm.calls _ _ l2 t336 _ ?side1 ?side2 A6.out).mono ?_); (case side1 => exact dC (Kd.C_below HR2.out HB.out)); (case side2 => exact HC2.out); rintro e w32 ⟨v337, rfl, ho0, hb⟩; refine ⟨_, rfl, ?_⟩; have HO338 := Aside0.mk (Kd.R_lower (Kd.R_new' ho0 (Kd.R_lt (dR HO335.out))) (below_size dB)); replace HO335 := Aside0.mk (Kd.R_elder' (dR HO335.out) (Kd.R_base ho0) hb); replace HB := Aside0.mk (below_step dB hb); (try clear hb); (try clear ho0)) | ((with_reducible refine gate_callee (f := 42) rfl ?_); refine gL (some 23) Tryd.func42 #[.int .i64 a3] ?_; (with_reducible refine (near_known.calls a3 true _ A7.out).mono ?_); rintro e w' ⟨rfl, ⟨nd, rfl⟩⟩; refine ⟨_, rfl, ?_⟩; obtain ⟨Ao33, co33, eo33⟩ := Kd.R_slice HO338.out; subst eo33; obtain ⟨Ao34, co34, eo34⟩ := Kd.R_slice HO335.out; subst eo34) | ((with_reducible refine gate_callee (f := 43) rfl ?_); refine gL (some 39) Tryd.func43 #[.slice Ao34 t333.length co34] ?_; (with_reducible refine (nat_Bits.calls k _ _ t333 t342 _ ?side1 ?side2 A20.out).mono ?_); (case side1 => exact dC (Kd.R_reads' HO335.out).2.2); (case side2 => exact (Kd.R_reads' HO335.out).2.1); rintro e w' ⟨rfl, ⟨nd, rfl⟩⟩; refine ⟨_, rfl, ?_⟩) | ((with_reducible refine gate_callee (f := 43) rfl ?_); refine gL (some 41) Tryd.func43 #[.slice Ao33 t336.length co33] ?_; (with_reducible refine (nat_Bits.calls k _ _ t336 t343 _ ?side1 ?side2 A21.out).mono ?_); (case side1 => exact dC (Kd.R_reads' HO338.out).2.2); (case side2 => exact (Kd.R_reads' HO338.out).2.1); rintro e w' ⟨rfl, ⟨nd, rfl⟩⟩; refine ⟨_, rfl, ?_⟩) | ((with_reducible refine gate_callee (f := 46) rfl ?_); refine gL (some 57) Tryd.func46 #[.bool a0, .int .u64 0, .int .i64 0, .bool true, .int .i64 a3] ?_; (with_reducible refine (near_finish.calls k a0 0 0 true a3 t346 t347 _ A30.out).mono ?_); rintro e w35 ⟨rfl, hb⟩; refine ⟨_, rfl, ?_⟩; replace HO335 := Aside0.mk (Kd.R_below (dR HO335.out) hb); replace HO338 := Aside0.mk (Kd.R_below (dR HO338.out) hb); replace HB := Aside0.mk (below_step dB hb); (try clear hb)))
      go_ret2
      exact ⟨dE, dB⟩
     ·rw [if_neg c29] at H
      have c29b0 : decide ((wrap64 (t342 - t343)) < (-1200)) = false := decide_eq_false c29
      clear c29
      by_cases c36 : (wrap64 ((wrap64 (t342 - t343)) - 62)) > 0
      ·rw [if_pos c36] at H
       have c36b0 : decide (0 < (wrap64 ((wrap64 (t342 - t343)) - 62))) = true := decide_eq_true c36
       clear c36
       replace H := obe H
       obtain ⟨t348, A370, H⟩ := H
       replace H : ((quot_DivMod.f k t333 t348).bind fun bt351 => ((nat_Word.f k bt351.1).bind fun bt358 => ((near_finish.f k a0 bt358.1 (wrap64 ((wrap64 (t342 - t343)) - 62)) (decide ((bt351.2.1.length : Int) > 0)) a3).bind fun bt360 => (some (bt360.1, bt360.2))))) = some (r1, r2) := H
       have A37 := Aside0.mk A370
       clear A370
       replace H := obe H
       obtain ⟨⟨t351, t352, t353⟩, A380, H⟩ := H
       replace H : ((nat_Word.f k t351).bind fun bt358 => ((near_finish.f k a0 bt358.1 (wrap64 ((wrap64 (t342 - t343)) - 62)) (decide ((t352.length : Int) > 0)) a3).bind fun bt360 => (some (bt360.1, bt360.2)))) = some (r1, r2) := H
       have A38 := Aside0.mk A380
       clear A380
       replace H := obe H
       obtain ⟨⟨t358, t359⟩, A390, H⟩ := H
       replace H : ((near_finish.f k a0 t358 (wrap64 ((wrap64 (t342 - t343)) - 62)) (decide ((t352.length : Int) > 0)) a3).bind fun bt360 => (some (bt360.1, bt360.2))) = some (r1, r2) := H
       have A39 := Aside0.mk A390
       clear A390
       replace H := obe H
       obtain ⟨⟨t360, t361⟩, A400, H⟩ := H
       replace H : (some (t360, t361)) = some (r1, r2) := H
       have A40 := Aside0.mk A400
       clear A400
       simp only [Option.some.injEq, Prod.mk.injEq] at H
       obtain ⟨rfl, rfl⟩ := H
       have e_ : decide ((t352.length : Int) > 0) = decide (0 < t352.length) := by rw [decide_eq_decide]; omega
       (try (have z_ := A20.out; rw [e_] at z_; clear A20; have A20 := Aside0.mk z_; clear z_))
       (try (have z_ := A21.out; rw [e_] at z_; clear A21; have A21 := Aside0.mk z_; clear z_))
       (try (have z_ := A37.out; rw [e_] at z_; clear A37; have A37 := Aside0.mk z_; clear z_))
       (try (have z_ := A38.out; rw [e_] at z_; clear A38; have A38 := Aside0.mk z_; clear z_))
       (try (have z_ := A39.out; rw [e_] at z_; clear A39; have A39 := Aside0.mk z_; clear z_))
       (try (have z_ := A40.out; rw [e_] at z_; clear A40; have A40 := Aside0.mk z_; clear z_))
       (try (have z_ := A5.out; rw [e_] at z_; clear A5; have A5 := Aside0.mk z_; clear z_))
       (try (have z_ := A6.out; rw [e_] at z_; clear A6; have A6 := Aside0.mk z_; clear z_))
       (try (have z_ := A7.out; rw [e_] at z_; clear A7; have A7 := Aside0.mk z_; clear z_))
       clear e_
       go_enter Tryd.func17, Tryd.ntmps17
       go_wp2_with (first | ((with_reducible refine gate_callee (f := 51) rfl ?_); refine gL (some 18) Tryd.func51 #[.slice A1 l1.length c1] ?_; (with_reducible refine (nat_Norm.calls _ _ l1 t333 _ ?side1 ?side2 A5.out).mono ?_); (case side1 => exact dC HR1.out); (case side2 => exact HC1.out); rintro e w41 ⟨v334, rfl, ho0, hb⟩; refine ⟨_, rfl, ?_⟩; have HO335 := Aside0.mk (Kd.R_lower ho0 (below_size dB)); replace HB := Aside0.mk (below_step dB hb); (try clear hb); (try clear ho0)) | ((with_reducible refine gate_callee (f := 51) rfl ?_); refine gL (some 20) Tryd.func51 #[.slice A2 l2.length c2] ?_; (with_reducible refine (nat_Norm.calls _ _ l2 t336 _ ?side1 ?side2 A6.out).mono ?_); (case side1 => exact dC (Kd.C_below HR2.out HB.out)); (case side2 => exact HC2.out); rintro e w42 ⟨v337, rfl, ho0, hb⟩; refine ⟨_, rfl, ?_⟩; have HO338 := Aside0.mk (Kd.R_lower (Kd.R_new' ho0 (Kd.R_lt (dR HO335.out))) (below_size dB)); replace HO335 := Aside0.mk (Kd.R_elder' (dR HO335.out) (Kd.R_base ho0) hb); replace HB := Aside0.mk (below_step dB hb); (try clear hb); (try clear ho0)) | ((with_reducible refine gate_callee (f := 42) rfl ?_); refine gL (some 23) Tryd.func42 #[.int .i64 a3] ?_; (with_reducible refine (near_known.calls a3 true _ A7.out).mono ?_); rintro e w' ⟨rfl, ⟨nd, rfl⟩⟩; refine ⟨_, rfl, ?_⟩; obtain ⟨Ao43, co43, eo43⟩ := Kd.R_slice HO338.out; subst eo43; obtain ⟨Ao44, co44, eo44⟩ := Kd.R_slice HO335.out; subst eo44) | ((with_reducible refine gate_callee (f := 43) rfl ?_); refine gL (some 39) Tryd.func43 #[.slice Ao44 t333.length co44] ?_; (with_reducible refine (nat_Bits.calls k _ _ t333 t342 _ ?side1 ?side2 A20.out).mono ?_); (case side1 => exact dC (Kd.R_reads' HO335.out).2.2); (case side2 => exact (Kd.R_reads' HO335.out).2.1); rintro e w' ⟨rfl, ⟨nd, rfl⟩⟩; refine ⟨_, rfl, ?_⟩) | ((with_reducible refine gate_callee (f := 43) rfl ?_); refine gL (some 41) Tryd.func43 #[.slice Ao43 t336.length co43] ?_; (with_reducible refine (nat_Bits.calls k _ _ t336 t343 _ ?side1 ?side2 A21.out).mono ?_); (case side1 => exact dC (Kd.R_reads' HO338.out).2.2); (case side2 => exact (Kd.R_reads' HO338.out).2.1); rintro e w' ⟨rfl, ⟨nd, rfl⟩⟩; refine ⟨_, rfl, ?_⟩) | ((with_reducible refine gate_callee (f := 52) rfl ?_); refine gL (some 66) Tryd.func52 #[.slice Ao43 t336.length co43, .int .i64 (wrap64 ((wrap64 (t342 - t343)) - 62))] ?_; (with_reducible refine (near_shl.calls k _ _ t336 (wrap64 ((wrap64 (t342 - t343)) - 62)) t348 _ ?side1 ?side2 A37.out).mono ?_); (case side1 => exact dC (Kd.R_reads' HO338.out).2.2); (case side2 => exact (Kd.R_reads' HO338.out).2.1); rintro e w45 ⟨v349, rfl, ho0, hb⟩; refine ⟨_, rfl, ?_⟩; have HO350 := Aside0.mk (Kd.R_lower (Kd.R_new' (Kd.R_new' ho0 (Kd.R_lt (dR HO335.out))) (Kd.R_lt (dR HO338.out))) (below_size dB)); replace HO335 := Aside0.mk (Kd.R_elder' (dR HO335.out) (Kd.R_base ho0) hb); replace HO338 := Aside0.mk (Kd.R_elder' (dR HO338.out) (Kd.R_base ho0) hb); replace HB := Aside0.mk (below_step dB hb); (try clear hb); (try clear ho0); obtain ⟨Ao46, co46, eo46⟩ := Kd.R_slice HO350.out; subst eo46) | ((with_reducible refine gate_callee (f := 53) rfl ?_); refine gL (some 74) Tryd.func53 #[.slice Ao44 t333.length co44, .slice Ao46 t348.length co46] ?_; (with_reducible refine (quot_DivMod.calls k _ _ t333 _ _ t348 t351 t352 t353 _ ?side1 ?side2 ?side3 ?side4 A38.out).mono ?_); (case side1 => exact dC (Kd.R_reads' HO335.out).2.2); (case side2 => exact (Kd.R_reads' HO335.out).2.1); (case side3 => exact dC (Kd.R_reads' HO350.out).2.2); (case side4 => exact (Kd.R_reads' HO350.out).2.1); rintro e w47 ⟨v354, v356, rfl, ho0, ho1, hb⟩; refine ⟨_, rfl, ?_⟩; have HO355 := Aside0.mk (Kd.R_lower (Kd.R_new' (Kd.R_new' (Kd.R_new' ho0 (Kd.R_lt (dR HO335.out))) (Kd.R_lt (dR HO338.out))) (Kd.R_lt (dR HO350.out))) (below_size dB)); have HO357 := Aside0.mk (Kd.R_lower (Kd.R_new' (Kd.R_new' (Kd.R_new' ho1 (Kd.R_lt (dR HO335.out))) (Kd.R_lt (dR HO338.out))) (Kd.R_lt (dR HO350.out))) (below_size dB)); replace HO335 := Aside0.mk (Kd.R_mono (Kd.R_told (Kd.R_told (Kd.R_old (dR HO335.out) hb) (Kd.R_base ho0)) (Kd.R_base ho1)) (fun _ h_ => h_.1)); replace HO338 := Aside0.mk (Kd.R_mono (Kd.R_told (Kd.R_told (Kd.R_old (dR HO338.out) hb) (Kd.R_base ho0)) (Kd.R_base ho1)) (fun _ h_ => h_.1)); replace HO350 := Aside0.mk (Kd.R_mono (Kd.R_told (Kd.R_told (Kd.R_old (dR HO350.out) hb) (Kd.R_base ho0)) (Kd.R_base ho1)) (fun _ h_ => h_.1)); replace HB := Aside0.mk (below_step dB hb); (try clear hb); (try clear ho0); (try clear ho1); obtain ⟨Ao48, co48, eo48⟩ := Kd.R_slice HO355.out; subst eo48) | ((with_reducible refine gate_callee (f := 45) rfl ?_); refine gL (some 80) Tryd.func45 #[.slice Ao48 t351.length co48] ?_; (with_reducible refine (nat_Word.calls k _ _ t351 t358 t359 _ ?side1 ?side2 A39.out).mono ?_); (case side1 => exact dC (Kd.R_reads' HO355.out).2.2); (case side2 => exact (Kd.R_reads' HO355.out).2.1); rintro e w' ⟨rfl, ⟨nd, rfl⟩⟩; refine ⟨_, rfl, ?_⟩; obtain ⟨Ao49, co49, eo49⟩ := Kd.R_slice HO357.out; subst eo49) | ((with_reducible refine gate_callee (f := 46) rfl ?_); refine gL (some 90) Tryd.func46 #[.bool a0, .int .u64 t358, .int .i64 (wrap64 ((wrap64 (t342 - t343)) - 62)), .bool (decide (0 < t352.length)), .int .i64 a3] ?_; (with_reducible refine (near_finish.calls k a0 t358 (wrap64 ((wrap64 (t342 - t343)) - 62)) (decide (0 < t352.length)) a3 t360 t361 _ A40.out).mono ?_); rintro e w50 ⟨rfl, hb⟩; refine ⟨_, rfl, ?_⟩; replace HO335 := Aside0.mk (Kd.R_below (dR HO335.out) hb); replace HO338 := Aside0.mk (Kd.R_below (dR HO338.out) hb); replace HO350 := Aside0.mk (Kd.R_below (dR HO350.out) hb); replace HO355 := Aside0.mk (Kd.R_below (dR HO355.out) hb); replace HO357 := Aside0.mk (Kd.R_below (dR HO357.out) hb); replace HB := Aside0.mk (below_step dB hb); (try clear hb)))
       go_ret2
       exact ⟨dE, dB⟩
      ·rw [if_neg c36] at H
       have c36b0 : decide (0 < (wrap64 ((wrap64 (t342 - t343)) - 62))) = false := decide_eq_false c36
       clear c36
       replace H := obe H
       obtain ⟨t362, A510, H⟩ := H
       replace H : ((quot_DivMod.f k t362 t336).bind fun bt365 => ((nat_Word.f k bt365.1).bind fun bt372 => ((near_finish.f k a0 bt372.1 (wrap64 ((wrap64 (t342 - t343)) - 62)) (decide ((bt365.2.1.length : Int) > 0)) a3).bind fun bt374 => (some (bt374.1, bt374.2))))) = some (r1, r2) := H
       have A51 := Aside0.mk A510
       clear A510
       replace H := obe H
       obtain ⟨⟨t365, t366, t367⟩, A520, H⟩ := H
       replace H : ((nat_Word.f k t365).bind fun bt372 => ((near_finish.f k a0 bt372.1 (wrap64 ((wrap64 (t342 - t343)) - 62)) (decide ((t366.length : Int) > 0)) a3).bind fun bt374 => (some (bt374.1, bt374.2)))) = some (r1, r2) := H
       have A52 := Aside0.mk A520
       clear A520
       replace H := obe H
       obtain ⟨⟨t372, t373⟩, A530, H⟩ := H
       replace H : ((near_finish.f k a0 t372 (wrap64 ((wrap64 (t342 - t343)) - 62)) (decide ((t366.length : Int) > 0)) a3).bind fun bt374 => (some (bt374.1, bt374.2))) = some (r1, r2) := H
       have A53 := Aside0.mk A530
       clear A530
       replace H := obe H
       obtain ⟨⟨t374, t375⟩, A540, H⟩ := H
       replace H : (some (t374, t375)) = some (r1, r2) := H
       have A54 := Aside0.mk A540
       clear A540
       simp only [Option.some.injEq, Prod.mk.injEq] at H
       obtain ⟨rfl, rfl⟩ := H
       have e_ : decide ((t366.length : Int) > 0) = decide (0 < t366.length) := by rw [decide_eq_decide]; omega
       (try (have z_ := A20.out; rw [e_] at z_; clear A20; have A20 := Aside0.mk z_; clear z_))
       (try (have z_ := A21.out; rw [e_] at z_; clear A21; have A21 := Aside0.mk z_; clear z_))
       (try (have z_ := A5.out; rw [e_] at z_; clear A5; have A5 := Aside0.mk z_; clear z_))
       (try (have z_ := A51.out; rw [e_] at z_; clear A51; have A51 := Aside0.mk z_; clear z_))
       (try (have z_ := A52.out; rw [e_] at z_; clear A52; have A52 := Aside0.mk z_; clear z_))
       (try (have z_ := A53.out; rw [e_] at z_; clear A53; have A53 := Aside0.mk z_; clear z_))
       (try (have z_ := A54.out; rw [e_] at z_; clear A54; have A54 := Aside0.mk z_; clear z_))
       (try (have z_ := A6.out; rw [e_] at z_; clear A6; have A6 := Aside0.mk z_; clear z_))
       (try (have z_ := A7.out; rw [e_] at z_; clear A7; have A7 := Aside0.mk z_; clear z_))
       clear e_
       go_enter Tryd.func17, Tryd.ntmps17
       go_wp2_with (first | ((with_reducible refine gate_callee (f := 51) rfl ?_); refine gL (some 18) Tryd.func51 #[.slice A1 l1.length c1] ?_; (with_reducible refine (nat_Norm.calls _ _ l1 t333 _ ?side1 ?side2 A5.out).mono ?_); (case side1 => exact dC HR1.out); (case side2 => exact HC1.out); rintro e w55 ⟨v334, rfl, ho0, hb⟩; refine ⟨_, rfl, ?_⟩; have HO335 := Aside0.mk (Kd.R_lower ho0 (below_size dB)); replace HB := Aside0.mk (below_step dB hb); (try clear hb); (try clear ho0)) | ((with_reducible refine gate_callee (f := 51) rfl ?_); refine gL (some 20) Tryd.func51 #[.slice A2 l2.length c2] ?_; (with_reducible refine (nat_Norm.calls _ _ l2 t336 _ ?side1 ?side2 A6.out).mono ?_); (case side1 => exact dC (Kd.C_below HR2.out HB.out)); (case side2 => exact HC2.out); rintro e w56 ⟨v337, rfl, ho0, hb⟩; refine ⟨_, rfl, ?_⟩; have HO338 := Aside0.mk (Kd.R_lower (Kd.R_new' ho0 (Kd.R_lt (dR HO335.out))) (below_size dB)); replace HO335 := Aside0.mk (Kd.R_elder' (dR HO335.out) (Kd.R_base ho0) hb); replace HB := Aside0.mk (below_step dB hb); (try clear hb); (try clear ho0)) | ((with_reducible refine gate_callee (f := 42) rfl ?_); refine gL (some 23) Tryd.func42 #[.int .i64 a3] ?_; (with_reducible refine (near_known.calls a3 true _ A7.out).mono ?_); rintro e w' ⟨rfl, ⟨nd, rfl⟩⟩; refine ⟨_, rfl, ?_⟩; obtain ⟨Ao57, co57, eo57⟩ := Kd.R_slice HO338.out; subst eo57; obtain ⟨Ao58, co58, eo58⟩ := Kd.R_slice HO335.out; subst eo58) | ((with_reducible refine gate_callee (f := 43) rfl ?_); refine gL (some 39) Tryd.func43 #[.slice Ao58 t333.length co58] ?_; (with_reducible refine (nat_Bits.calls k _ _ t333 t342 _ ?side1 ?side2 A20.out).mono ?_); (case side1 => exact dC (Kd.R_reads' HO335.out).2.2); (case side2 => exact (Kd.R_reads' HO335.out).2.1); rintro e w' ⟨rfl, ⟨nd, rfl⟩⟩; refine ⟨_, rfl, ?_⟩) | ((with_reducible refine gate_callee (f := 43) rfl ?_); refine gL (some 41) Tryd.func43 #[.slice Ao57 t336.length co57] ?_; (with_reducible refine (nat_Bits.calls k _ _ t336 t343 _ ?side1 ?side2 A21.out).mono ?_); (case side1 => exact dC (Kd.R_reads' HO338.out).2.2); (case side2 => exact (Kd.R_reads' HO338.out).2.1); rintro e w' ⟨rfl, ⟨nd, rfl⟩⟩; refine ⟨_, rfl, ?_⟩) | ((with_reducible refine gate_callee (f := 52) rfl ?_); refine gL (some 70) Tryd.func52 #[.slice Ao58 t333.length co58, .int .i64 (wrap64 (-(wrap64 ((wrap64 (t342 - t343)) - 62))))] ?_; (with_reducible refine (near_shl.calls k _ _ t333 (wrap64 (-(wrap64 ((wrap64 (t342 - t343)) - 62)))) t362 _ ?side1 ?side2 A51.out).mono ?_); (case side1 => exact dC (Kd.R_reads' HO335.out).2.2); (case side2 => exact (Kd.R_reads' HO335.out).2.1); rintro e w59 ⟨v363, rfl, ho0, hb⟩; refine ⟨_, rfl, ?_⟩; have HO364 := Aside0.mk (Kd.R_lower (Kd.R_new' (Kd.R_new' ho0 (Kd.R_lt (dR HO335.out))) (Kd.R_lt (dR HO338.out))) (below_size dB)); replace HO335 := Aside0.mk (Kd.R_elder' (dR HO335.out) (Kd.R_base ho0) hb); replace HO338 := Aside0.mk (Kd.R_elder' (dR HO338.out) (Kd.R_base ho0) hb); replace HB := Aside0.mk (below_step dB hb); (try clear hb); (try clear ho0); obtain ⟨Ao60, co60, eo60⟩ := Kd.R_slice HO364.out; subst eo60) | ((with_reducible refine gate_callee (f := 53) rfl ?_); refine gL (some 74) Tryd.func53 #[.slice Ao60 t362.length co60, .slice Ao57 t336.length co57] ?_; (with_reducible refine (quot_DivMod.calls k _ _ t362 _ _ t336 t365 t366 t367 _ ?side1 ?side2 ?side3 ?side4 A52.out).mono ?_); (case side1 => exact dC (Kd.R_reads' HO364.out).2.2); (case side2 => exact (Kd.R_reads' HO364.out).2.1); (case side3 => exact dC (Kd.R_reads' HO338.out).2.2); (case side4 => exact (Kd.R_reads' HO338.out).2.1); rintro e w61 ⟨v368, v370, rfl, ho0, ho1, hb⟩; refine ⟨_, rfl, ?_⟩; have HO369 := Aside0.mk (Kd.R_lower (Kd.R_new' (Kd.R_new' (Kd.R_new' ho0 (Kd.R_lt (dR HO335.out))) (Kd.R_lt (dR HO338.out))) (Kd.R_lt (dR HO364.out))) (below_size dB)); have HO371 := Aside0.mk (Kd.R_lower (Kd.R_new' (Kd.R_new' (Kd.R_new' ho1 (Kd.R_lt (dR HO335.out))) (Kd.R_lt (dR HO338.out))) (Kd.R_lt (dR HO364.out))) (below_size dB)); replace HO335 := Aside0.mk (Kd.R_mono (Kd.R_told (Kd.R_told (Kd.R_old (dR HO335.out) hb) (Kd.R_base ho0)) (Kd.R_base ho1)) (fun _ h_ => h_.1)); replace HO338 := Aside0.mk (Kd.R_mono (Kd.R_told (Kd.R_told (Kd.R_old (dR HO338.out) hb) (Kd.R_base ho0)) (Kd.R_base ho1)) (fun _ h_ => h_.1)); replace HO364 := Aside0.mk (Kd.R_mono (Kd.R_told (Kd.R_told (Kd.R_old (dR HO364.out) hb) (Kd.R_base ho0)) (Kd.R_base ho1)) (fun _ h_ => h_.1)); replace HB := Aside0.mk (below_step dB hb); (try clear hb); (try clear ho0); (try clear ho1); obtain ⟨Ao62, co62, eo62⟩ := Kd.R_slice HO369.out; subst eo62) | ((with_reducible refine gate_callee (f := 45) rfl ?_); refine gL (some 80) Tryd.func45 #[.slice Ao62 t365.length co62] ?_; (with_reducible refine (nat_Word.calls k _ _ t365 t372 t373 _ ?side1 ?side2 A53.out).mono ?_); (case side1 => exact dC (Kd.R_reads' HO369.out).2.2); (case side2 => exact (Kd.R_reads' HO369.out).2.1); rintro e w' ⟨rfl, ⟨nd, rfl⟩⟩; refine ⟨_, rfl, ?_⟩; obtain ⟨Ao63, co63, eo63⟩ := Kd.R_slice HO371.out; subst eo63) | ((with_reducible refine gate_callee (f := 46) rfl ?_); refine gL (some 90) Tryd.func46 #[.bool a0, .int .u64 t372, .int .i64 (wrap64 ((wrap64 (t342 - t343)) - 62)), .bool (decide (0 < t366.length)), .int .i64 a3] ?_; (with_reducible refine (near_finish.calls k a0 t372 (wrap64 ((wrap64 (t342 - t343)) - 62)) (decide (0 < t366.length)) a3 t374 t375 _ A54.out).mono ?_); rintro e w64 ⟨rfl, hb⟩; refine ⟨_, rfl, ?_⟩; replace HO335 := Aside0.mk (Kd.R_below (dR HO335.out) hb); replace HO338 := Aside0.mk (Kd.R_below (dR HO338.out) hb); replace HO364 := Aside0.mk (Kd.R_below (dR HO364.out) hb); replace HO369 := Aside0.mk (Kd.R_below (dR HO369.out) hb); replace HO371 := Aside0.mk (Kd.R_below (dR HO371.out) hb); replace HB := Aside0.mk (below_step dB hb); (try clear hb)))
       go_ret2
       exact ⟨dE, dB⟩
 ·replace c8 := Bool.eq_false_iff.mpr c8
  subst c8
  have H1 : (some (0, 71)) = some (r1, r2) := by rw [if_neg (show ¬ (false = true) by decide)] at H; exact H
  clear H
  have H := H1
  clear H1
  simp only [Option.some.injEq, Prod.mk.injEq] at H
  obtain ⟨rfl, rfl⟩ := H
  go_enter Tryd.func17, Tryd.ntmps17
  go_wp2_with (first | ((with_reducible refine gate_callee (f := 51) rfl ?_); refine gL (some 18) Tryd.func51 #[.slice A1 l1.length c1] ?_; (with_reducible refine (nat_Norm.calls _ _ l1 t333 _ ?side1 ?side2 A5.out).mono ?_); (case side1 => exact dC HR1.out); (case side2 => exact HC1.out); rintro e w65 ⟨v334, rfl, ho0, hb⟩; refine ⟨_, rfl, ?_⟩; have HO335 := Aside0.mk (Kd.R_lower ho0 (below_size dB)); replace HB := Aside0.mk (below_step dB hb); (try clear hb); (try clear ho0)) | ((with_reducible refine gate_callee (f := 51) rfl ?_); refine gL (some 20) Tryd.func51 #[.slice A2 l2.length c2] ?_; (with_reducible refine (nat_Norm.calls _ _ l2 t336 _ ?side1 ?side2 A6.out).mono ?_); (case side1 => exact dC (Kd.C_below HR2.out HB.out)); (case side2 => exact HC2.out); rintro e w66 ⟨v337, rfl, ho0, hb⟩; refine ⟨_, rfl, ?_⟩; have HO338 := Aside0.mk (Kd.R_lower (Kd.R_new' ho0 (Kd.R_lt (dR HO335.out))) (below_size dB)); replace HO335 := Aside0.mk (Kd.R_elder' (dR HO335.out) (Kd.R_base ho0) hb); replace HB := Aside0.mk (below_step dB hb); (try clear hb); (try clear ho0)) | ((with_reducible refine gate_callee (f := 42) rfl ?_); refine gL (some 23) Tryd.func42 #[.int .i64 a3] ?_; (with_reducible refine (near_known.calls a3 false _ A7.out).mono ?_); rintro e w' ⟨rfl, ⟨nd, rfl⟩⟩; refine ⟨_, rfl, ?_⟩))
  go_ret2
  exact ⟨dE, dB⟩


end Go.Proofs.YtoefabmlkbhmpaaDoor.PA

namespace Go.Proofs.YtoefabmlkbhmpaaDoor.PA
open Go.RowKit Go.Proofs.YtoefabmlkbhmpaaDoorW.PrintWords Go.Proofs.YtoefabmlkbhmpaaDoorW.PrintLast Go.Proofs.YtoefabmlkbhmpaaDoorW.PrintMore
attribute [local go_sem] max2_int min2_int max_two min_two max_three min_three max_four min_four   -- for this text's walks alone
set_option linter.unusedVariables false
set_option linter.unusedSimpArgs false

/-! ### plumbref07_Quotient: function 18 -/
def plumbref07_Quotient.j0 : Nat → Bool → List Int → List Int → Int → Bool → Option (Int × Int)
 | 0, _, _, _, _, _ => none
 | k + 1, x0, x1, x2, x3, x16 => if x16 = true then (some (0, 71)) else ((plumbref03_Norm.f k x2).bind fun t333 => (if (t333.length : Int) = 0 then (some (0, 50)) else ((plumbref03_Norm.f k x1).bind fun t336 => ((plumbref07_Q_round.f k t336 t333 0 false x0 x3).bind fun bt339 => (some (bt339.1, bt339.2))))))
def plumbref07_Quotient.f (k : Nat) (a0 : Bool) (l1 : List Int) (l2 : List Int) (a3 : Int) : Option (Int × Int) := if a3 < 0 then (plumbref07_Quotient.j0 k a0 l1 l2 a3 true) else (plumbref07_Quotient.j0 k a0 l1 l2 a3 (decide (a3 > 4)))
set_option maxHeartbeats 8000000 in
set_option maxRecDepth 100000 in
theorem plumbref07_Quotient.calls (k : Nat) (a0 : Bool) (A1 : Option Addr) (c1 : Nat) (l1 : List Int) (A2 : Option Addr) (c2 : Nat) (l2 : List Int) (a3 : Int) (r1 : Int) (r2 : Int) (w : World) (hr1 : Kd.C (Kd.int .u64) w A1 l1.length l1) (hc1 : l1.length ≤ c1) (hr2 : Kd.C (Kd.int .u64) w A2 l2.length l2) (hc2 : l2.length ≤ c2) (h : plumbref07_Quotient.f k a0 l1 l2 a3 = some (r1, r2)) :
  Calls Tryd.prog 18 #[.bool a0, .slice A1 l1.length c1, .slice A2 l2.length c2, .int .i64 a3] w fun e w' => e = .returned (.tuple #[.int .u64 r1, .int .i64 r2]) ∧ Below w.heap.size w w' := by
 have hu77 := Tryd.underlying77
 have HR1 := Aside0.mk hr1
 have HC1 := Aside0.mk hc1
 clear hr1 hc1
 have HR2 := Aside0.mk hr2
 have HC2 := Aside0.mk hc2
 clear hr2 hc2
 have HB := Aside0.mk (Below.refl w.heap.size w)
 have H : (if a3 < 0 then (plumbref07_Quotient.j0 k a0 l1 l2 a3 true) else (plumbref07_Quotient.j0 k a0 l1 l2 a3 (decide (a3 > 4)))) = some (r1, r2) := h
 clear h
 have HC5 := Aside0.mk H
 clear H
 go_enter Tryd.func18, Tryd.ntmps18
 go_upto_region 1 with (fail)
 go_cut [16] (fun v16 wc => ∃ (kq : Nat) (x16_4 : Bool), v16 = .bool x16_4 ∧ Aside0 (plumbref07_Quotient.j0 kq a0 l1 l2 a3 x16_4 = some (r1, r2)) ∧ Aside0 (kq ≤ k) ∧ Aside0 (Below w.heap.size w wc))
 case first =>
  have H := HC5.out
  clear HC5
  by_cases c6 : a3 < 0
  ·rw [if_pos c6] at H
   have c6b0 : decide (a3 < 0) = true := decide_eq_true c6
   clear c6
   (first | rw [c6b0] | (simp only [i64_w, i32_w]; rw [c6b0]) | skip)
   have H' := Aside0.mk H
   clear H
   go_wp2
   go_meet
   case rel => exact ⟨_, (true), dF, H', ⟨dN⟩, ⟨dB⟩⟩
  ·rw [if_neg c6] at H
   have c6b0 : decide (a3 < 0) = false := decide_eq_false c6
   clear c6
   (first | rw [c6b0] | (simp only [i64_w, i32_w]; rw [c6b0]) | skip)
   have H' := Aside0.mk H
   clear H
   go_wp2
   go_meet
   case rel => exact ⟨_, (decide (a3 > 4)), dF, H', ⟨dN⟩, ⟨dB⟩⟩
 case rest =>
  clear HC5
  try clear c1
  try clear c2
  try clear p2
  try clear c6
  try clear c6b0
  obtain ⟨kq, x16_4, rfl, HA, HJ4, HB⟩ := hcut
  cases kq with
  | zero => exact absurd HA.out (by simp [plumbref07_Quotient.j0])
  | succ kj4 =>
   have H := HA.out
   clear HA
   simp only [plumbref07_Quotient.j0] at H
   by_cases c7 : x16_4 = true
   ·subst c7
    have H1 : (some (0, 71)) = some (r1, r2) := by rw [if_pos rfl] at H; exact H
    clear H
    have H := H1
    clear H1
    simp only [Option.some.injEq, Prod.mk.injEq] at H
    obtain ⟨rfl, rfl⟩ := H
    go_wp2
    go_ret2
    exact ⟨dE, dB⟩
   ·replace c7 := Bool.eq_false_iff.mpr c7
    subst c7
    have H1 : ((plumbref03_Norm.f kj4 l2).bind fun t333 => (if (t333.length : Int) = 0 then (some (0, 50)) else ((plumbref03_Norm.f kj4 l1).bind fun t336 => ((plumbref07_Q_round.f kj4 t336 t333 0 false a0 a3).bind fun bt339 => (some (bt339.1, bt339.2)))))) = some (r1, r2) := by rw [if_neg (show ¬ (false = true) by decide)] at H; exact H
    clear H
    have H := H1
    clear H1
    replace H := obe H
    obtain ⟨t333, A80, H⟩ := H
    replace H : (if (t333.length : Int) = 0 then (some (0, 50)) else ((plumbref03_Norm.f kj4 l1).bind fun t336 => ((plumbref07_Q_round.f kj4 t336 t333 0 false a0 a3).bind fun bt339 => (some (bt339.1, bt339.2))))) = some (r1, r2) := H
    have A8 := Aside0.mk A80
    clear A80
    by_cases c9 : (t333.length : Int) = 0
    ·rw [if_pos c9] at H
     have c9b0 : ((t333.length : Int) == 0) = true := beq_iff_eq.mpr c9
     have c9b1 : ((t333.length : Int) != 0) = false := bne_eq_false_iff_eq.mpr c9
     clear c9
     simp only [Option.some.injEq, Prod.mk.injEq] at H
     obtain ⟨rfl, rfl⟩ := H
     go_wp2_with (first | ((with_reducible refine gate_callee (f := 47) rfl ?_); refine gL (some 18) Tryd.func47 #[.slice A2 l2.length c2] ?_; (with_reducible refine (plumbref03_Norm.calls kj4 _ _ l2 t333 _ ?side1 ?side2 A8.out).mono ?_); (case side1 => exact dC (Kd.C_below HR2.out HB.out)); (case side2 => exact HC2.out); rintro e w10 ⟨v334, rfl, ho0, hb⟩; refine ⟨_, rfl, ?_⟩; have HO335 := Aside0.mk (Kd.R_lower ho0 (below_size dB)); replace HB := Aside0.mk (below_step dB hb); (try clear hb); (try clear ho0); obtain ⟨Ao11, co11, eo11⟩ := Kd.R_slice HO335.out; subst eo11))
     go_ret2
     exact ⟨dE, dB⟩
    ·rw [if_neg c9] at H
     have c9b0 : ((t333.length : Int) == 0) = false := beq_eq_false_iff_ne.mpr c9
     have c9b1 : ((t333.length : Int) != 0) = true := bne_iff_ne.mpr c9
     have c9b2 : ¬ (t333 = []) := fun h_ => c9 (by rw [h_]; rfl)
     replace H := obe H
     obtain ⟨t336, A120, H⟩ := H
     replace H : ((plumbref07_Q_round.f kj4 t336 t333 0 false a0 a3).bind fun bt339 => (some (bt339.1, bt339.2))) = some (r1, r2) := H
     have A12 := Aside0.mk A120
     clear A120
     replace H := obe H
     obtain ⟨⟨t339, t340⟩, A130, H⟩ := H
     replace H : (some (t339, t340)) = some (r1, r2) := H
     have A13 := Aside0.mk A130
     clear A130
     simp only [Option.some.injEq, Prod.mk.injEq] at H
     obtain ⟨rfl, rfl⟩ := H
     go_wp2_with (first | ((with_reducible refine gate_callee (f := 47) rfl ?_); refine gL (some 18) Tryd.func47 #[.slice A2 l2.length c2] ?_; (with_reducible refine (plumbref03_Norm.calls kj4 _ _ l2 t333 _ ?side1 ?side2 A8.out).mono ?_); (case side1 => exact dC (Kd.C_below HR2.out HB.out)); (case side2 => exact HC2.out); rintro e w14 ⟨v334, rfl, ho0, hb⟩; refine ⟨_, rfl, ?_⟩; have HO335 := Aside0.mk (Kd.R_lower ho0 (below_size dB)); replace HB := Aside0.mk (below_step dB hb); (try clear hb); (try clear ho0); obtain ⟨Ao15, co15, eo15⟩ := Kd.R_slice HO335.out; subst eo15) | ((with_reducible refine gate_callee (f := 47) rfl ?_); refine gL (some 23) Tryd.func47 #[.slice A1 l1.length c1] ?_; (with_reducible refine (plumbref03_Norm.calls kj4 _ _ l1 t336 _ ?side1 ?side2 A12.out).mono ?_); (case side1 => exact dC (Kd.C_below HR1.out HB.out)); (case side2 => exact HC1.out); rintro e w16 ⟨v337, rfl, ho0, hb⟩; refine ⟨_, rfl, ?_⟩; have HO338 := Aside0.mk (Kd.R_lower (Kd.R_new' ho0 (Kd.R_lt (dR HO335.out))) (below_size dB)); replace HO335 := Aside0.mk (Kd.R_elder' (dR HO335.out) (Kd.R_base ho0) hb); replace HB := Aside0.mk (below_step dB hb); (try clear hb); (try clear ho0); obtain ⟨Ao17, co17, eo17⟩ := Kd.R_slice HO338.out; subst eo17) | ((with_reducible refine gate_callee (f := 49) rfl ?_); refine gL (some 28) Tryd.func49 #[.agg #[.slice Ao17 t336.length co17, .slice Ao15 t333.length co15, .int .i64 0, .bool false], .bool a0, .int .i64 a3] ?_; (with_reducible refine (plumbref07_Q_round.calls kj4 _ _ t336 _ _ t333 0 false a0 a3 t339 t340 _ ?side1 ?side2 ?side3 ?side4 A13.out).mono ?_); (case side1 => exact dC (Kd.R_reads' HO338.out).2.2); (case side2 => exact (Kd.R_reads' HO338.out).2.1); (case side3 => exact dC (Kd.R_reads' HO335.out).2.2); (case side4 => exact (Kd.R_reads' HO335.out).2.1); rintro e w18 ⟨rfl, hb⟩; refine ⟨_, rfl, ?_⟩; replace HO335 := Aside0.mk (Kd.R_below (dR HO335.out) hb); replace HO338 := Aside0.mk (Kd.R_below (dR HO338.out) hb); replace HB := Aside0.mk (below_step dB hb); (try clear hb)))
     go_ret2
     exact ⟨dE, dB⟩

end Go.Proofs.YtoefabmlkbhmpaaDoor.PA
