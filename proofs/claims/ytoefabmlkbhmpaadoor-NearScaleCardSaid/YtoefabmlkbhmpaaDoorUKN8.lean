/- A part of the proof (8). -/
import Derived.Test.YtoefabmlkbhmpaaDoorUKN2
import Derived.Test.YtoefabmlkbhmpaaDoorUKN4
import Derived.Test.YtoefabmlkbhmpaaDoorUKN7
namespace Go.Proofs.YtoefabmlkbhmpaaDoor.PA
open Go.RowKit Go.Proofs.YtoefabmlkbhmpaaDoorW.PrintWords Go.Proofs.YtoefabmlkbhmpaaDoorW.PrintLast Go.Proofs.YtoefabmlkbhmpaaDoorW.PrintMore
attribute [local go_sem] max2_int min2_int max_two min_two max_three min_three max_four min_four   -- for this text's walks alone
set_option linter.unusedVariables false
set_option linter.unusedSimpArgs false

/-! ### nat_Shl: function 21 (by hand) -/
/-- xs, with ys copied over it from q on -/
def cpyAt (xs ys : List Int) (q : Nat) : List Int := xs.take q ++ (ys.take (min ys.length (xs.length - q)) ++ xs.drop (q + min ys.length (xs.length - q)))
theorem cpyAt_length {xs ys : List Int} {q : Nat} (h : q ≤ xs.length) : (cpyAt xs ys q).length = xs.length := by
 unfold cpyAt
 rw [List.length_append, List.length_append, List.length_take, List.length_take, List.length_drop]
 omega
theorem shl_copied {yq y z : List Int} {q : Nat} (hl : yq.length = y.length) (h : y = cpyAt yq z q) :
  yq.take q ++ (z.take (min z.length (y.length - q)) ++ yq.drop (q + min z.length (y.length - q))) = y := by
 rw [← hl]
 conv => rhs; rw [h]
 rfl
def nat_Shl.l0 : Nat → Int → List Int → Int → Int → Option (List Int × Int)
 | 0, _, _, _, _ => none
 | k + 1, x1, x6, x7, x8 => if x8 > (wrap64 (Int.tdiv x1 64)) then (if 0 ≤ x8 then (if x8 < (x6.length : Int) then (if 0 ≤ (wrap64 (x8 - 1)) then (if (wrap64 (x8 - 1)) < (x6.length : Int) then ((wide_Shl.f (rd x6 x8) (rd x6 (wrap64 (x8 - 1))) x7).bind fun bt118 => (nat_Shl.l0 k x1 (x6.set (x8 : Int).toNat bt118.1) x7 (wrap64 (x8 - 1)))) else (none)) else (none)) else (none)) else (none)) else (if 0 ≤ (wrap64 (Int.tdiv x1 64)) then (if (wrap64 (Int.tdiv x1 64)) < (x6.length : Int) then (if 0 ≤ x7 then ((nat_bound.f k (x6.set ((wrap64 (Int.tdiv x1 64)) : Int).toNat (shl .u64 (rd x6 (wrap64 (Int.tdiv x1 64))) x7))).bind fun bt123 => (some (bt123.1, bt123.2))) else (none)) else (none)) else (none))
def nat_Shl.f (k : Nat) (l0 : List Int) (a1 : Int) : Option (List Int × Int) := (nat_size.f k l0).bind fun t110 => (if 0 ≤ t110 then (if t110 ≤ (l0.length : Int) then (if a1 < 0 then (some (([] : List Int), 22)) else (if ((l0.take (t110 : Int).toNat).length : Int) = 0 then (some (([] : List Int), 0)) else ((nat_Bits.f k (l0.take (t110 : Int).toNat)).bind fun t112 => (if a1 > (wrap64 (262144 - t112)) then (some (([] : List Int), 21)) else (if 0 ≤ (wrap64 ((wrap64 ((wrap64 (Int.tdiv a1 64)) + ((l0.take (t110 : Int).toNat).length : Int))) + 1)) then (if ((wrap64 ((wrap64 ((wrap64 (Int.tdiv a1 64)) + ((l0.take (t110 : Int).toNat).length : Int))) + 1) : Int).toNat ≤ 35184372088832 ∧ 0 ≤ (wrap64 (Int.tdiv a1 64)) ∧ (wrap64 (Int.tdiv a1 64)).toNat ≤ (wrap64 ((wrap64 ((wrap64 (Int.tdiv a1 64)) + ((l0.take (t110 : Int).toNat).length : Int))) + 1) : Int).toNat) then ((some (cpyAt (List.replicate (wrap64 ((wrap64 ((wrap64 (Int.tdiv a1 64)) + ((l0.take (t110 : Int).toNat).length : Int))) + 1) : Int).toNat 0) (l0.take (t110 : Int).toNat) (wrap64 (Int.tdiv a1 64)).toNat : List Int)).bind fun y113 => (if (Int.tmod a1 64) > 0 then (nat_Shl.l0 k a1 y113 (Int.tmod a1 64) (wrap64 ((y113.length : Int) - 1))) else ((nat_bound.f k y113).bind fun bt127 => (some (bt127.1, bt127.2))))) else (none)) else (none)))))) else (none)) else (none))
def nat_Shl.T15 : Bool × List (List Nat × List Nat) := (true, [([], []), ([], []), ([], []), ([], []), ([2, 3], [2, 3]), ([4], [4]), ([], []), ([], []), ([7], [7]), ([6, 8], [6, 8]), ([9], [9]), ([], []), ([5, 10, 11], [5, 10, 11]), ([12], [12]), ([13], [13]), ([13], [13]), ([0, 1, 0, 1, 2, 3, 4, 5, 6, 7, 8, 9, 10, 11, 12, 13, 14], [0, 1]), ([16, 14, 12, 0, 1, 2, 3, 4, 5, 6, 7, 8, 9, 10, 11, 12, 13, 14], [14, 16])])
def nat_Shl.B15 : List Nat := [0, 0, 0, 0, 12, 28, 0, 0, 128, 448, 960, 0, 4092, 8188, 16380, 16380, 32767, 98303]
theorem nat_Shl.tab15 : rtab .any (opsOf Tryd.f21 15) = nat_Shl.T15 := by kernel_rfl
theorem nat_Shl.bits15 : waitsOk nat_Shl.T15.2 nat_Shl.B15 = true := by kernel_rfl
set_option maxHeartbeats 8000000 in
set_option maxRecDepth 100000 in
theorem nat_Shl.calls (k : Nat) (A0 : Option Addr) (c0 : Nat) (l0 : List Int) (a1 : Int) (r1 : List Int) (r2 : Int) (w : World) (hr0 : Kd.C (Kd.int .u64) w A0 l0.length l0) (hc0 : l0.length ≤ c0) (h : nat_Shl.f k l0 a1 = some (r1, r2)) :
  Calls Tryd.prog 21 #[.slice A0 l0.length c0, .int .i64 a1] w fun e w' => ∃ v0_ : Value, e = .returned (.tuple #[v0_, .int .i64 r2]) ∧ Kd.R (Kd.int .u64) 26 w' w.heap.size (fun _ => True) v0_ r1 ∧ Below w.heap.size w w' := by
 have HR0 := Aside0.mk hr0
 have HC0 := Aside0.mk hc0
 clear hr0 hc0
 have HB := Aside0.mk (Below.refl w.heap.size w)
 have H : ((nat_size.f k l0).bind fun t110 => (if 0 ≤ t110 then (if t110 ≤ (l0.length : Int) then (if a1 < 0 then (some (([] : List Int), 22)) else (if ((l0.take (t110 : Int).toNat).length : Int) = 0 then (some (([] : List Int), 0)) else ((nat_Bits.f k (l0.take (t110 : Int).toNat)).bind fun t112 => (if a1 > (wrap64 (262144 - t112)) then (some (([] : List Int), 21)) else (if 0 ≤ (wrap64 ((wrap64 ((wrap64 (Int.tdiv a1 64)) + ((l0.take (t110 : Int).toNat).length : Int))) + 1)) then (if ((wrap64 ((wrap64 ((wrap64 (Int.tdiv a1 64)) + ((l0.take (t110 : Int).toNat).length : Int))) + 1) : Int).toNat ≤ 35184372088832 ∧ 0 ≤ (wrap64 (Int.tdiv a1 64)) ∧ (wrap64 (Int.tdiv a1 64)).toNat ≤ (wrap64 ((wrap64 ((wrap64 (Int.tdiv a1 64)) + ((l0.take (t110 : Int).toNat).length : Int))) + 1) : Int).toNat) then ((some (cpyAt (List.replicate (wrap64 ((wrap64 ((wrap64 (Int.tdiv a1 64)) + ((l0.take (t110 : Int).toNat).length : Int))) + 1) : Int).toNat 0) (l0.take (t110 : Int).toNat) (wrap64 (Int.tdiv a1 64)).toNat : List Int)).bind fun y113 => (if (Int.tmod a1 64) > 0 then (nat_Shl.l0 k a1 y113 (Int.tmod a1 64) (wrap64 ((y113.length : Int) - 1))) else ((nat_bound.f k y113).bind fun bt127 => (some (bt127.1, bt127.2))))) else (none)) else (none)))))) else (none)) else (none))) = some (r1, r2) := h
 clear h
 replace H := obe H
 obtain ⟨t110, A30, H⟩ := H
 (try dsimp only at H)
 have A3 := Aside0.mk A30
 clear A30
 by_cases c4 : (0 : Int) ≤ t110
 ·rw [if_pos c4] at H
  have c4b0 := eq_true c4
  have c4b1 : decide (0 ≤ t110) = true := decide_eq_true c4
  clear c4
  by_cases c5 : t110 ≤ (l0.length : Int)
  ·rw [if_pos c5] at H
   have c5b0 := eq_true c5
   have c5b1 : decide (t110 ≤ (l0.length : Int)) = true := decide_eq_true c5
   clear c5
   obtain ⟨z110, Nz1100⟩ : ∃ z_ : List Int, (l0.take (t110 : Int).toNat) = z_ := ⟨_, rfl⟩
   rw [Nz1100] at H
   have Nz110 := Aside0.mk Nz1100
   clear Nz1100
   by_cases c6 : a1 < 0
   ·rw [if_pos c6] at H
    have c6b0 : decide (a1 < 0) = true := decide_eq_true c6
    clear c6
    simp only [Option.some.injEq, Prod.mk.injEq] at H
    obtain ⟨rfl, rfl⟩ := H
    go_enter Tryd.func21, Tryd.ntmps21
    go_wp2_with (first | ((with_reducible refine gate_callee (f := 54) rfl ?_); refine gL (some 11) Tryd.func54 #[.slice A0 l0.length c0] ?_; (with_reducible refine (nat_size.calls k _ _ l0 t110 _ ?side1 ?side2 A3.out).mono ?_); (case side1 => exact dC HR0.out); (case side2 => exact HC0.out); rintro e w' ⟨rfl, ⟨nd, rfl⟩⟩; refine ⟨_, rfl, ?_⟩; obtain ⟨i07, hi07, _, hsz7, _⟩ := info_parts info26; obtain ⟨hcut7, hA7, hC7⟩ := print_take_of (P := Tryd.prog) (Value.int .u64) 0 22 26 .i64 Tryd.underlying22 hi07 hsz7 A0 c0 l0 t110 (of_decide_eq_true dS) (of_decide_eq_true dS) HC0.out; rw [Nz110.out] at hcut7 hA7 hC7; have HR111 := Aside0.mk (Kd.C_of_reads (h1 := fun _ => rfl) (hA7 _ (Kd.reads_of_C HR0.out))); have HC111 := Aside0.mk hC7; clear hA7 hC7 hi07 hsz7))
    go_ret2
    exact ⟨_, dE, by first | exact Kd.R_nil _ _ _ _ _ | exact Kd.N_nil _ _ _ _ _ | exact Kd.V_nil _ _ _ _ _ | exact Kd.Q_nil _ _ _ _ _ | exact Kd.S_nil _ _ _ _ _, dB⟩
   ·rw [if_neg c6] at H
    have c6b0 : decide (a1 < 0) = false := decide_eq_false c6
    clear c6
    by_cases c8 : (z110.length : Int) = 0
    ·rw [if_pos c8] at H
     have c8b0 : ((z110.length : Int) == 0) = true := beq_iff_eq.mpr c8
     have c8b1 : ((z110.length : Int) != 0) = false := bne_eq_false_iff_eq.mpr c8
     clear c8
     simp only [Option.some.injEq, Prod.mk.injEq] at H
     obtain ⟨rfl, rfl⟩ := H
     go_enter Tryd.func21, Tryd.ntmps21
     go_wp2_with (first | ((with_reducible refine gate_callee (f := 54) rfl ?_); refine gL (some 11) Tryd.func54 #[.slice A0 l0.length c0] ?_; (with_reducible refine (nat_size.calls k _ _ l0 t110 _ ?side1 ?side2 A3.out).mono ?_); (case side1 => exact dC HR0.out); (case side2 => exact HC0.out); rintro e w' ⟨rfl, ⟨nd, rfl⟩⟩; refine ⟨_, rfl, ?_⟩; obtain ⟨i09, hi09, _, hsz9, _⟩ := info_parts info26; obtain ⟨hcut9, hA9, hC9⟩ := print_take_of (P := Tryd.prog) (Value.int .u64) 0 22 26 .i64 Tryd.underlying22 hi09 hsz9 A0 c0 l0 t110 (of_decide_eq_true dS) (of_decide_eq_true dS) HC0.out; rw [Nz110.out] at hcut9 hA9 hC9; have HR111 := Aside0.mk (Kd.C_of_reads (h1 := fun _ => rfl) (hA9 _ (Kd.reads_of_C HR0.out))); have HC111 := Aside0.mk hC9; clear hA9 hC9 hi09 hsz9))
     go_ret2
     exact ⟨_, dE, by first | exact Kd.R_nil _ _ _ _ _ | exact Kd.N_nil _ _ _ _ _ | exact Kd.V_nil _ _ _ _ _ | exact Kd.Q_nil _ _ _ _ _ | exact Kd.S_nil _ _ _ _ _, dB⟩
    ·rw [if_neg c8] at H
     have c8b0 : ((z110.length : Int) == 0) = false := beq_eq_false_iff_ne.mpr c8
     have c8b1 : ((z110.length : Int) != 0) = true := bne_iff_ne.mpr c8
     have c8b2 : ¬ (z110 = []) := fun h_ => c8 (by rw [h_]; rfl)
     replace H := obe H
     obtain ⟨t112, A100, H⟩ := H
     (try dsimp only at H)
     have A10 := Aside0.mk A100
     clear A100
     by_cases c11 : a1 > (wrap64 (262144 - t112))
     ·rw [if_pos c11] at H
      have c11b0 : decide ((wrap64 (262144 - t112)) < a1) = true := decide_eq_true c11
      clear c11
      simp only [Option.some.injEq, Prod.mk.injEq] at H
      obtain ⟨rfl, rfl⟩ := H
      go_enter Tryd.func21, Tryd.ntmps21
      go_wp2_with (first | ((with_reducible refine gate_callee (f := 54) rfl ?_); refine gL (some 11) Tryd.func54 #[.slice A0 l0.length c0] ?_; (with_reducible refine (nat_size.calls k _ _ l0 t110 _ ?side1 ?side2 A3.out).mono ?_); (case side1 => exact dC HR0.out); (case side2 => exact HC0.out); rintro e w' ⟨rfl, ⟨nd, rfl⟩⟩; refine ⟨_, rfl, ?_⟩; obtain ⟨i012, hi012, _, hsz12, _⟩ := info_parts info26; obtain ⟨hcut12, hA12, hC12⟩ := print_take_of (P := Tryd.prog) (Value.int .u64) 0 22 26 .i64 Tryd.underlying22 hi012 hsz12 A0 c0 l0 t110 (of_decide_eq_true dS) (of_decide_eq_true dS) HC0.out; rw [Nz110.out] at hcut12 hA12 hC12; have HR111 := Aside0.mk (Kd.C_of_reads (h1 := fun _ => rfl) (hA12 _ (Kd.reads_of_C HR0.out))); have HC111 := Aside0.mk hC12; clear hA12 hC12 hi012 hsz12) | ((with_reducible refine gate_callee (f := 43) rfl ?_); refine goesL_ (some 23) rfl rfl Tryd.func43 (by kernel_rfl) rfl #[.slice A0 z110.length c0] rfl (by (try simp only [List.map_toArray, List.map_cons, List.map_nil]); first | done | (rw [show z110.length = t110.toNat from (by rw [← Nz110.out, List.length_take]; have h_ : (t110 : Int) ≤ (l0.length : Int) := of_decide_eq_true dS; omega)] <;> rfl) | rfl | (simp only [List.length_drop, List.length_take]; rfl)) ?_; (with_reducible refine (nat_Bits.calls k _ _ z110 t112 _ ?side1 ?side2 A10.out).mono ?_); (case side1 => exact dC HR111.out); (case side2 => exact HC111.out); rintro e w' ⟨rfl, ⟨nd, rfl⟩⟩; refine ⟨_, rfl, ?_⟩))
      go_ret2
      exact ⟨_, dE, by first | exact Kd.R_nil _ _ _ _ _ | exact Kd.N_nil _ _ _ _ _ | exact Kd.V_nil _ _ _ _ _ | exact Kd.Q_nil _ _ _ _ _ | exact Kd.S_nil _ _ _ _ _, dB⟩
     ·rw [if_neg c11] at H
      have c11b0 : decide ((wrap64 (262144 - t112)) < a1) = false := decide_eq_false c11
      clear c11
      obtain ⟨ji13, hji13⟩ : ∃ j_ : Int, (wrap64 ((wrap64 ((wrap64 (Int.tdiv a1 64)) + (z110.length : Int))) + 1)) = j_ := ⟨_, rfl⟩
      first | rw [hji13] at H | simp only [hji13] at H
      (try rw [hji13] at A3)
      (try rw [hji13] at A10)
      have hji13w : (IntKind.i64.wrap ((wrap64 ((wrap64 (Int.tdiv a1 64)) + (z110.length : Int))) + 1)) = ji13 := (i64_w _).trans hji13
      by_cases c14 : (0 : Int) ≤ (ji13)
      ·rw [if_pos c14] at H
       have c14b0 := eq_true c14
       have c14b1 : decide (0 ≤ (ji13)) = true := decide_eq_true c14
       clear c14
       by_cases c15 : ((ji13 : Int).toNat ≤ 35184372088832 ∧ 0 ≤ (wrap64 (Int.tdiv a1 64)) ∧ (wrap64 (Int.tdiv a1 64)).toNat ≤ (ji13 : Int).toNat)
       ·rw [if_pos c15] at H
        obtain ⟨c15, cq0, cq1⟩ := c15
        have c15b0 := eq_true c15
        have c15b1 : decide ((ji13 : Int).toNat ≤ 35184372088832) = true := decide_eq_true c15
        clear c15
        obtain ⟨yq, hyq⟩ : ∃ y_ : List Int, y_ = (List.replicate (ji13 : Int).toNat 0) := ⟨_, rfl⟩
        have ylq : yq.length = (ji13 : Int).toNat := by rw [hyq, List.length_replicate]
        rw [← hyq] at H
        have Nyq := Aside0.mk hyq
        clear hyq
        obtain ⟨y113, hy113⟩ : ∃ y_ : List Int, y_ = (cpyAt yq z110 (wrap64 (Int.tdiv a1 64)).toNat) := ⟨_, rfl⟩
        have yl113 : yq.length = y113.length := by rw [hy113, cpyAt_length (by omega)]
        have cq2 : (wrap64 (Int.tdiv a1 64)) ≤ (y113.length : Int) := by omega
        have Cq := Aside0.mk (And.intro cq0 (And.intro cq2 (And.intro yl113 hy113)))
        clear cq0 cq1 cq2 ylq yl113
        replace H : (if (Int.tmod a1 64) > 0 then (nat_Shl.l0 k a1 y113 (Int.tmod a1 64) (wrap64 ((y113.length : Int) - 1))) else ((nat_bound.f k y113).bind fun bt127 => (some (bt127.1, bt127.2)))) = some (r1, r2) := by first | (rw [hy113]; with_reducible exact H) | (have H2_ := (Option.bind_some _ _).symm.trans H; rw [hy113]; with_reducible exact H2_) | (have H2_ := (Option.bind_some _ _).symm.trans H; with_reducible exact H2_) | with_reducible exact H | (rw [hy113]; exact H) | exact H
        have Ny113 := Aside0.mk hy113
        clear hy113
        by_cases c16 : (Int.tmod a1 64) > 0
        ·rw [if_pos c16] at H
         have c16b0 : decide (0 < (Int.tmod a1 64)) = true := decide_eq_true c16
         clear c16
         have H' := Aside0.mk H
         clear H
         go_enter Tryd.func21, Tryd.ntmps21
         go_wp2_with (first | ((with_reducible refine gate_callee (f := 54) rfl ?_); refine gL (some 11) Tryd.func54 #[.slice A0 l0.length c0] ?_; (with_reducible refine (nat_size.calls k _ _ l0 t110 _ ?side1 ?side2 A3.out).mono ?_); (case side1 => exact dC HR0.out); (case side2 => exact HC0.out); rintro e w' ⟨rfl, ⟨nd, rfl⟩⟩; refine ⟨_, rfl, ?_⟩; obtain ⟨i017, hi017, _, hsz17, _⟩ := info_parts info26; obtain ⟨hcut17, hA17, hC17⟩ := print_take_of (P := Tryd.prog) (Value.int .u64) 0 22 26 .i64 Tryd.underlying22 hi017 hsz17 A0 c0 l0 t110 (of_decide_eq_true dS) (of_decide_eq_true dS) HC0.out; rw [Nz110.out] at hcut17 hA17 hC17; have HR111 := Aside0.mk (Kd.C_of_reads (h1 := fun _ => rfl) (hA17 _ (Kd.reads_of_C HR0.out))); have HC111 := Aside0.mk hC17; clear hA17 hC17 hi017 hsz17) | ((with_reducible refine gate_callee (f := 43) rfl ?_); refine goesL_ (some 23) rfl rfl Tryd.func43 (by kernel_rfl) rfl #[.slice A0 z110.length c0] rfl (by (try simp only [List.map_toArray, List.map_cons, List.map_nil]); first | done | (rw [show z110.length = t110.toNat from (by rw [← Nz110.out, List.length_take]; have h_ : (t110 : Int) ≤ (l0.length : Int) := of_decide_eq_true dS; omega)] <;> rfl) | rfl | (simp only [List.length_drop, List.length_take]; rfl)) ?_; (with_reducible refine (nat_Bits.calls k _ _ z110 t112 _ ?side1 ?side2 A10.out).mono ?_); (case side1 => exact dC HR111.out); (case side2 => exact HC111.out); rintro e w' ⟨rfl, ⟨nd, rfl⟩⟩; refine ⟨_, rfl, ?_⟩) | ((with_reducible refine gate_dst (N := 32) rfl ?_); refine Kd.R_make (Kd.int .u64) _ 26 rfl (N := 32) rfl 22 _ _ rfl ji13 rfl rfl Tryd.underlying22 (.int .u64 0) 8 info26 rfl (by decide) (by omega) 0 (ok := fun _ => True) (okp := fun _ => True) rfl (fun _ hk => hk) trivial (of_decide_eq_true dS) (Nat.le_trans (Nat.mul_le_mul_right _ (of_decide_eq_true dS : ji13.toNat ≤ 35184372088832)) (by omega)) (Below.refl _ _) (Nat.le_refl _) ?_; intro v114 w18 ho19 hb hg_ hnew_; clear hg_ hnew_; rw [← Nyq.out] at ho19; have HO115 := Aside0.mk (Kd.R_lower ho19 (below_size dB)); replace HB := Aside0.mk (below_step dB hb); clear hb ho19; obtain ⟨Ao20, co20, eo20⟩ := Kd.R_slice HO115.out; rw [Cq.out.2.2.1] at eo20; subst eo20; obtain ⟨i0q, hi0q, _, hszq, _⟩ := info_parts info26; have hcutq := cut_from (P := Tryd.prog) 22 26 .i64 Tryd.underlying22 hi0q 1 hszq Ao20 y113.length co20 (wrap64 (Int.tdiv a1 64)) Cq.out.1 Cq.out.2.1; clear hi0q hszq; obtain ⟨Aq, hAq⟩ : ∃ A_ : Option Addr, A_ = (if co20 = (wrap64 (Int.tdiv a1 64)).toNat then Ao20 else Ao20.map (·.add ((wrap64 (Int.tdiv a1 64)).toNat * 1))) := ⟨_, rfl⟩; rw [← hAq] at hcutq; have NAq := Aside0.mk hAq; clear hAq) | ((with_reducible refine gate_dst (N := 38) rfl ?_); refine Kd.R_copy_at (enc := Value.int .u64) (h1 := fun _ => rfl) (0 : Int) w.heap.size rfl (.tmp 36) (.tmp 37) 22 22 26 rfl Tryd.underlying22 (by kernel_rfl) Ao20 co20 (wrap64 (Int.tdiv a1 64)).toNat y113.length yq z110 Cq.out.2.2.1 A0 z110.length c0 (fun _ => True) Aq NAq.out rfl rfl (by have := Cq.out.2.1; have := Cq.out.1; omega) HO115.out ?hcr HB.out HB.out.size ?_; (case hcr => exact Kd.C_below HR111.out HB.out); intro wq hoq hbq _; rw [shl_copied Cq.out.2.2.1 Cq.out.2.2.2] at hoq; clear HO115; have HO115 := Aside0.mk hoq; clear HB; have HB := Aside0.mk hbq; clear hoq hbq hcutq))
         go_loopg [8] k (fun kq v8 w' => ∃ (x6_1 : List Int) (x8_1 : Int), v8 = .int .i64 x8_1 ∧ Aside0 (nat_Shl.l0 kq a1 x6_1 (Int.tmod a1 64) x8_1 = some (r1, r2)) ∧ Aside0 (kq ≤ k) ∧ Aside0 (Kd.R (Kd.int .u64) 26 w' w.heap.size (fun _ => True) (.slice Ao20 y113.length co20) x6_1) ∧ Aside0 (Below w.heap.size w w'))
         case atStart => exact ⟨(y113), (wrap64 ((y113.length : Int) - 1)), dF, H', ⟨Nat.le_refl _⟩, ⟨dR HO115.out⟩, ⟨dB⟩⟩
         case round =>
          clear H'
          try clear c4
          try clear c4b0
          try clear c4b1
          try clear c5
          try clear c5b0
          try clear c5b1
          try clear c6
          try clear c6b0
          try clear c8
          try clear c8b0
          try clear c8b1
          try clear c8b2
          try clear c11
          try clear c11b0
          try clear c14
          try clear c14b0
          try clear c14b1
          try clear c15
          try clear Cq
          try clear Nyq
          try clear Ny113
          try clear c15b0
          try clear c15b1
          try clear c16
          try clear c16b0
          obtain ⟨x6_1, x8_1, rfl, HA, HK1, HO_6, HB⟩ := hrel
          have hl6_1 := (Kd.R_reads' HO_6.out).1
          rw [hl6_1] at HO_6
          (try simp only [hl6_1])
          cases gk with
          | zero => exact absurd HA.out (by simp [nat_Shl.l0])
          | succ k1 =>
           have H := HA.out
           clear HA
           simp only [nat_Shl.l0] at H
           by_cases c21 : x8_1 > (wrap64 (Int.tdiv a1 64))
           ·rw [if_pos c21] at H
            have c21b0 : decide ((wrap64 (Int.tdiv a1 64)) < x8_1) = true := decide_eq_true c21
            clear c21
            by_cases c22 : (0 : Int) ≤ x8_1
            ·rw [if_pos c22] at H
             have c22b0 : decide (0 ≤ x8_1) = true := decide_eq_true c22
             clear c22
             by_cases c23 : x8_1 < (x6_1.length : Int)
             ·rw [if_pos c23] at H
              have c23b0 : decide (x8_1 < (x6_1.length : Int)) = true := decide_eq_true c23
              clear c23
              obtain ⟨ji24, hji24⟩ : ∃ j_ : Int, (wrap64 (x8_1 - 1)) = j_ := ⟨_, rfl⟩
              first | rw [hji24] at H | simp only [hji24] at H
              have hji24w : (IntKind.i64.wrap (x8_1 - 1)) = ji24 := (i64_w _).trans hji24
              by_cases c25 : (0 : Int) ≤ (ji24)
              ·rw [if_pos c25] at H
               have c25b0 : decide (0 ≤ (ji24)) = true := decide_eq_true c25
               clear c25
               by_cases c26 : (ji24) < (x6_1.length : Int)
               ·rw [if_pos c26] at H
                have c26b0 : decide ((ji24) < (x6_1.length : Int)) = true := decide_eq_true c26
                clear c26
                replace H := obe H
                obtain ⟨⟨t118, t119⟩, A270, H⟩ := H
                (try dsimp only at H)
                have A27 := Aside0.mk A270
                clear A270
                obtain ⟨y120, hy120⟩ : ∃ y_ : List Int, y_ = (x6_1.set (x8_1 : Int).toNat t118) := ⟨_, rfl⟩
                replace H : (nat_Shl.l0 k1 a1 y120 (Int.tmod a1 64) ji24) = some (r1, r2) := by first | (rw [hy120]; with_reducible exact H) | (have H2_ := (Option.bind_some _ _).symm.trans H; rw [hy120]; with_reducible exact H2_) | (have H2_ := (Option.bind_some _ _).symm.trans H; with_reducible exact H2_) | with_reducible exact H | (rw [hy120]; exact H) | exact H
                have Ny120 := Aside0.mk hy120
                clear hy120
                have H' := Aside0.mk H
                clear H
                try go_wp2
                replace HO_6 := Aside0.mk (Kd.R_drew HO_6.out)
                replace HB := Aside0.mk (below_drew1 HB.out)
                have p116 : 0 ≤ (x8_1 : Int) := of_decide_eq_true dS
                have q116 : x8_1 < (x6_1.length : Int) := of_decide_eq_true dS
                obtain ⟨ad116, e116, hx116_0⟩ := Kd.at_int (Kd.R_reads' HO_6.out).2.2 x8_1 p116 q116
                cases e116
                replace p116 := eq_true p116
                replace q116 := eq_true q116
                have p117 : 0 ≤ ((ji24) : Int) := of_decide_eq_true dS
                have q117 : (ji24) < (x6_1.length : Int) := of_decide_eq_true dS
                obtain ⟨ad117, e117, hx117_0⟩ := Kd.at_int (Kd.R_reads' HO_6.out).2.2 (ji24) p117 q117
                obtain rfl : ad116 = ad117 := (by injection e117)
                replace p117 := eq_true p117
                replace q117 := eq_true q117
                refine start_ (n := 18) (S := fun w' => w'.cell? (ad116.add (x8_1).toNat) = some (.int .u64 (rd x6_1 x8_1)) ∧ w'.cell? (ad116.add ((ji24)).toNat) = some (.int .u64 (rd x6_1 (ji24)))) (ds := [17]) #[false, false, false, false, false, false, false, false, false, false, false, false, false, false, false, false, false, false] (by kernel_rfl) rfl rfl ⟨hx116_0, hx117_0⟩ (fun hHeld => ?_); refine with_tabW nat_Shl.tab15 nat_Shl.bits15 (fun HT_ HW_ => ?_)
                generalize wr.drew = w29 at HO_6 HB hx116_0 hx117_0 hHeld ⊢
                refine pP 0 (some 53) ?_
                refine pP 1 (some 54) ?_
                refine pP 2 (some 55) ?_
                refine pP 3 (some 56) ?_
                refine pP 4 (some 57) ?_
                refine pP 6 (some 59) ?_
                refine pP 7 (some 60) ?_
                refine pP 8 (some 61) ?_
                refine pP 9 (some 62) ?_
                refine pP 11 (some 64) ?_
                refine pH2 5 (some 58) hHeld ?_
                refine pH2 10 (some 63) hHeld ?_
                refine one_ (i := 12) (N := some 65) #[true, true, true, true, true, true, true, true, true, true, true, true, true, false, false, false, false, false] rfl rfl (one_of HT_.out (by kernel_rfl)) (by decide) (fun K hK => ?_)
                refine goes_ Tryd.func55 (by kernel_rfl) rfl #[.int .u64 (rd x6_1 x8_1), .int .u64 (rd x6_1 (ji24)), .int .i64 (Int.tmod a1 64)] (by rfl) rfl rfl (by (try simp only [List.map_toArray, List.map_cons, List.map_nil]); first | done | (simp only [hji24]; rfl) | rfl | (simp only [List.length_drop, List.length_take]; rfl)) ?_
                with_reducible refine (wide_Shl.calls (rd x6_1 x8_1) (rd x6_1 (ji24)) (Int.tmod a1 64) t118 t119 _ A27.out).mono ?_
                rintro e w30 ⟨rfl, hb⟩
                have HS0_ := (hb.cell (World.block_lt_of_cell? _ _ (hHeld.1))).trans (hHeld.1)
                have HS1_ := (hb.cell (World.block_lt_of_cell? _ _ (hHeld.2))).trans (hHeld.2)
                refine ⟨_, rfl, ?_⟩
                replace HO_6 := Aside0.mk (Kd.R_below (dR HO_6.out) hb)
                replace HB := Aside0.mk (below_step dB hb)
                (try clear hb)
                (try clear hb2)
                (try clear hk)
                (try clear hi)
                have p28 : 0 ≤ (x8_1 : Int) := of_decide_eq_true dS
                have q28 : (x8_1 : Int) < ((x6_1.length : Int) : Int) := of_decide_eq_true dS
                obtain ⟨go28, co28, eo28, gb28, gl28, cl28, HG28⟩ := Kd.R_form HO_6.out (by omega)
                (first | cases eo28 | (injection eo28 with ea_ en_ ec_; (first | subst ea_ | (injection ea_ with ea_; subst ea_)); subst ec_; clear en_))
                have GB28 := Aside0.mk gb28
                have GG28 := Aside0.mk HG28
                clear gb28 gl28 HG28
                (first | simp only [add_plain] at hx116_0 | skip)
                (first | simp only [add_plain] at hx117_0 | skip)
                obtain ⟨hx28_0, hf28_0⟩ := Kd.R_celln 0 HO_6.out (x8_1 : Int) p28 q28
                replace p28 := eq_true p28
                replace q28 := eq_true q28
                have HP31 := Kd.R_putn HO_6.out (x8_1 : Int) t118
                rw [← Ny120.out] at HP31
                have HQ31 := Aside0.mk HP31
                clear HP31
                refine hK.out _ _ ⟨HS0_, HS1_⟩ (fun hHeld => ?_)
                clear hK K
                refine norm_ (a' := ?_) ?_ ?_
                rotate_left
                ·show Act.put _ (some 65) _ = _
                 simp only [Act.put, List.setIfInBounds_toArray, List.set_cons_zero, List.set_cons_succ, i64_w, i32_w]
                 rfl
                refine pP 13 (some 52) ?_
                refine pP 14 (some 66) ?_
                refine pP 15 (some 67) ?_
                refine pP 16 (some 68) ?_
                refine last_ (i := 17) (N := none) #[true, true, true, true, true, true, true, true, true, true, true, true, true, true, true, true, true, true] rfl rfl (one_of HT_.out (by kernel_rfl)) (by decide) (fun K hK => ?_)
                refine skip_ (w1 := ?_) (by rfl) rfl ?_ ?_
                rotate_left
                ·go_simp
                 rfl
                refine hK.out _ _ ?_
                clear hK K
                refine done_ (done_of HT_.out (by kernel_rfl)) ?_
                try go_wp2
                (try simp only [← hl6_1])
                go_roundg k1
                case measure => have := HK1.out; omega
                case rel => exact ⟨(y120), (ji24), (by first | rfl | (simp; done) | (simp only [← hji24] <;> (first | rfl | simp)) | (simp [*]; done)), H', ⟨by have := HK1.out; omega⟩, ⟨by (try simp only [hl6_1]); (with_reducible repeat (first | apply Kd.R_alloc | apply Kd.R_drewN | apply Kd.R_drew)); exact HQ31.out⟩, ⟨by repeat (first | (with_reducible first | exact HB.out | apply below_alloc | apply pw_below_drewN | apply below_drew1 | refine below_set ?_ GB28.out) | exact HB.out)⟩⟩
               ·rw [if_neg c26] at H
                exact absurd H (by simp)
              ·rw [if_neg c25] at H
               exact absurd H (by simp)
             ·rw [if_neg c23] at H
              exact absurd H (by simp)
            ·rw [if_neg c22] at H
             exact absurd H (by simp)
           ·rw [if_neg c21] at H
            have c21b0 : decide ((wrap64 (Int.tdiv a1 64)) < x8_1) = false := decide_eq_false c21
            clear c21
            obtain ⟨ji32, hji32⟩ : ∃ j_ : Int, (wrap64 (Int.tdiv a1 64)) = j_ := ⟨_, rfl⟩
            first | rw [hji32] at H | simp only [hji32] at H
            (try rw [hji32] at c21b0)
            have hji32w : (IntKind.i64.wrap (Int.tdiv a1 64)) = ji32 := (i64_w _).trans hji32
            by_cases c33 : (0 : Int) ≤ (ji32)
            ·rw [if_pos c33] at H
             have c33b0 : decide (0 ≤ (ji32)) = true := decide_eq_true c33
             clear c33
             by_cases c34 : (ji32) < (x6_1.length : Int)
             ·rw [if_pos c34] at H
              have c34b0 : decide ((ji32) < (x6_1.length : Int)) = true := decide_eq_true c34
              clear c34
              obtain ⟨ji35, hji35⟩ : ∃ j_ : Int, (Int.tmod a1 64) = j_ := ⟨_, rfl⟩
              first | rw [hji35] at H | simp only [hji35] at H
              (try rw [hji35] at c16b0)
              by_cases c36 : (0 : Int) ≤ (ji35)
              ·rw [if_pos c36] at H
               have c36b0 := eq_true c36
               have c36b1 : decide (0 ≤ (ji35)) = true := decide_eq_true c36
               clear c36
               obtain ⟨ji37, hji37⟩ : ∃ j_ : Int, (shl .u64 (rd x6_1 (ji32)) (ji35)) = j_ := ⟨_, rfl⟩
               first | rw [hji37] at H | simp only [hji37] at H
               have hji37_ : (IntKind.u64.wrap ((rd x6_1 (ji32)) * 2 ^ min (ji35).toNat 64)) = ji37 := hji37
               have hji37z : (ji35) ≤ 64 → (IntKind.u64.wrap ((rd x6_1 (ji32)) * 2 ^ (ji35).toNat)) = ji37 := shl_small hji37
               obtain ⟨y122, hy122⟩ : ∃ y_ : List Int, y_ = (x6_1.set ((ji32) : Int).toNat (ji37)) := ⟨_, rfl⟩
               replace H : ((nat_bound.f k1 y122).bind fun bt123 => (some (bt123.1, bt123.2))) = some (r1, r2) := by first | (rw [hy122]; with_reducible exact H) | (have H2_ := (Option.bind_some _ _).symm.trans H; rw [hy122]; with_reducible exact H2_) | (have H2_ := (Option.bind_some _ _).symm.trans H; with_reducible exact H2_) | with_reducible exact H | (rw [hy122]; exact H) | exact H
               have Ny122 := Aside0.mk hy122
               clear hy122
               replace H := obe H
               obtain ⟨⟨t123, t126⟩, A390, H⟩ := H
               (try dsimp only at H)
               have A39 := Aside0.mk A390
               clear A390
               simp only [Option.some.injEq, Prod.mk.injEq] at H
               obtain ⟨rfl, rfl⟩ := H
               have p121 : 0 ≤ ((ji32) : Int) := of_decide_eq_true dS
               have q121 : (ji32) < (x6_1.length : Int) := of_decide_eq_true dS
               obtain ⟨ad121, e121, hx121_0⟩ := Kd.at_int (Kd.R_reads' HO_6.out).2.2 (ji32) p121 q121
               cases e121
               replace p121 := eq_true p121
               replace q121 := eq_true q121
               have p38 : 0 ≤ ((ji32) : Int) := of_decide_eq_true dS
               have q38 : ((ji32) : Int) < ((x6_1.length : Int) : Int) := of_decide_eq_true dS
               obtain ⟨go38, co38, eo38, gb38, gl38, cl38, HG38⟩ := Kd.R_form HO_6.out (by omega)
               (first | cases eo38 | (injection eo38 with ea_ en_ ec_; (first | subst ea_ | (injection ea_ with ea_; subst ea_)); subst ec_; clear en_))
               have GB38 := Aside0.mk gb38
               have GG38 := Aside0.mk HG38
               clear gb38 gl38 HG38
               (first | simp only [add_plain] at hx121_0 | skip)
               obtain ⟨hx38_0, hf38_0⟩ := Kd.R_celln 0 HO_6.out ((ji32) : Int) p38 q38
               replace p38 := eq_true p38
               replace q38 := eq_true q38
               have HP40 := Kd.R_putg HO_6.out ((ji32) : Int) ji37
               go_wp2_with (first | ((with_reducible refine gate_store (t := 26) (p := 76) rfl ?_); refine store_event (t := 26) (p := 76) (v := ?vo_w41) (w1 := (wr.setCell ⟨go38, ((ji32) : Int).toNat, none⟩ (.int .u64 ji37))) ?hg ?ho ?hn ?hr ?_; (case ho => rfl); (case hg => rfl); (case hn => rfl); (case hr => first | (go_simp; done) | (go_simp; rfl)); intro w41 hw; have hg : wr.grownBy w41 (some go38) := (by rw [hw]; exact HP40.2); have hp_ : Kd.R (Kd.int .u64) 26 w41 w.heap.size (fun _ => True) (.slice (some ⟨go38, 0, none⟩) x6_1.length co20) y122 := (by rw [hw, Ny122.out]; exact HP40.1); clear HP40; replace HO_6 := Aside0.mk (hp_); replace HB := Aside0.mk ((by rw [hw]; exact below_set (HB.out) GB38.out : Below w.heap.size w w41)); clear hg hw hp_) | ((with_reducible refine gate_callee (f := 56) rfl ?_); refine gL (some 78) Tryd.func56 #[.slice (some ⟨go38, 0, none⟩) x6_1.length co20] ?_; (with_reducible refine (nat_bound.calls k1 (fun k_ => some k_ = (.slice (some ⟨go38, 0, none⟩) x6_1.length co20 : Value).ownBlock) (.slice (some ⟨go38, 0, none⟩) x6_1.length co20) y122 t123 t126 w _ ?side1 ?side2 A39.out).mono ?_); (case side1 => repeat (first | (with_reducible first | exact HB.out | apply below_alloc | apply pw_below_drewN | apply below_drew1) | exact HB.out)); (case side2 => exact Kd.R_tight rfl HO_6.out); rintro e w42 ⟨v124, rfl, ho0, hb, hkp⟩; refine ⟨_, rfl, ?_⟩; have HO125 := Aside0.mk (Kd.R_mono (ok' := fun k_ => True) ho0 (fun k_ hk_ => trivial)); replace HB := Aside0.mk (hb); clear HO_6; (try clear hb); (try clear hkp); (try clear ho0)))
               go_ret2
               exact ⟨_, by first | rfl | (simp [errW_none, errW_some] <;> rfl) | (simp only [← hji13, ← hji32, ← hji35, ← hji37]; first | rfl | (simp [errW_none, errW_some] <;> rfl)) | (simp [*, errW_none, errW_some] <;> rfl), dR HO125.out, dB⟩
              ·rw [if_neg c36] at H
               exact absurd H (by simp)
             ·rw [if_neg c34] at H
              exact absurd H (by simp)
            ·rw [if_neg c33] at H
             exact absurd H (by simp)
        ·rw [if_neg c16] at H
         have c16b0 : decide (0 < (Int.tmod a1 64)) = false := decide_eq_false c16
         clear c16
         replace H := obe H
         obtain ⟨⟨t127, t130⟩, A430, H⟩ := H
         (try dsimp only at H)
         have A43 := Aside0.mk A430
         clear A430
         simp only [Option.some.injEq, Prod.mk.injEq] at H
         obtain ⟨rfl, rfl⟩ := H
         go_enter Tryd.func21, Tryd.ntmps21
         go_wp2_with (first | ((with_reducible refine gate_callee (f := 54) rfl ?_); refine gL (some 11) Tryd.func54 #[.slice A0 l0.length c0] ?_; (with_reducible refine (nat_size.calls k _ _ l0 t110 _ ?side1 ?side2 A3.out).mono ?_); (case side1 => exact dC HR0.out); (case side2 => exact HC0.out); rintro e w' ⟨rfl, ⟨nd, rfl⟩⟩; refine ⟨_, rfl, ?_⟩; obtain ⟨i044, hi044, _, hsz44, _⟩ := info_parts info26; obtain ⟨hcut44, hA44, hC44⟩ := print_take_of (P := Tryd.prog) (Value.int .u64) 0 22 26 .i64 Tryd.underlying22 hi044 hsz44 A0 c0 l0 t110 (of_decide_eq_true dS) (of_decide_eq_true dS) HC0.out; rw [Nz110.out] at hcut44 hA44 hC44; have HR111 := Aside0.mk (Kd.C_of_reads (h1 := fun _ => rfl) (hA44 _ (Kd.reads_of_C HR0.out))); have HC111 := Aside0.mk hC44; clear hA44 hC44 hi044 hsz44) | ((with_reducible refine gate_callee (f := 43) rfl ?_); refine goesL_ (some 23) rfl rfl Tryd.func43 (by kernel_rfl) rfl #[.slice A0 z110.length c0] rfl (by (try simp only [List.map_toArray, List.map_cons, List.map_nil]); first | done | (rw [show z110.length = t110.toNat from (by rw [← Nz110.out, List.length_take]; have h_ : (t110 : Int) ≤ (l0.length : Int) := of_decide_eq_true dS; omega)] <;> rfl) | rfl | (simp only [List.length_drop, List.length_take]; rfl)) ?_; (with_reducible refine (nat_Bits.calls k _ _ z110 t112 _ ?side1 ?side2 A10.out).mono ?_); (case side1 => exact dC HR111.out); (case side2 => exact HC111.out); rintro e w' ⟨rfl, ⟨nd, rfl⟩⟩; refine ⟨_, rfl, ?_⟩) | ((with_reducible refine gate_dst (N := 32) rfl ?_); refine Kd.R_make (Kd.int .u64) _ 26 rfl (N := 32) rfl 22 _ _ rfl ji13 rfl rfl Tryd.underlying22 (.int .u64 0) 8 info26 rfl (by decide) (by omega) 0 (ok := fun _ => True) (okp := fun _ => True) rfl (fun _ hk => hk) trivial (of_decide_eq_true dS) (Nat.le_trans (Nat.mul_le_mul_right _ (of_decide_eq_true dS : ji13.toNat ≤ 35184372088832)) (by omega)) (Below.refl _ _) (Nat.le_refl _) ?_; intro v114 w45 ho46 hb hg_ hnew_; clear hg_ hnew_; rw [← Nyq.out] at ho46; have HO115 := Aside0.mk (Kd.R_lower ho46 (below_size dB)); replace HB := Aside0.mk (below_step dB hb); clear hb ho46; obtain ⟨Ao47, co47, eo47⟩ := Kd.R_slice HO115.out; rw [Cq.out.2.2.1] at eo47; subst eo47; obtain ⟨i0q, hi0q, _, hszq, _⟩ := info_parts info26; have hcutq := cut_from (P := Tryd.prog) 22 26 .i64 Tryd.underlying22 hi0q 1 hszq Ao47 y113.length co47 (wrap64 (Int.tdiv a1 64)) Cq.out.1 Cq.out.2.1; clear hi0q hszq; obtain ⟨Aq, hAq⟩ : ∃ A_ : Option Addr, A_ = (if co47 = (wrap64 (Int.tdiv a1 64)).toNat then Ao47 else Ao47.map (·.add ((wrap64 (Int.tdiv a1 64)).toNat * 1))) := ⟨_, rfl⟩; rw [← hAq] at hcutq; have NAq := Aside0.mk hAq; clear hAq) | ((with_reducible refine gate_dst (N := 38) rfl ?_); refine Kd.R_copy_at (enc := Value.int .u64) (h1 := fun _ => rfl) (0 : Int) w.heap.size rfl (.tmp 36) (.tmp 37) 22 22 26 rfl Tryd.underlying22 (by kernel_rfl) Ao47 co47 (wrap64 (Int.tdiv a1 64)).toNat y113.length yq z110 Cq.out.2.2.1 A0 z110.length c0 (fun _ => True) Aq NAq.out rfl rfl (by have := Cq.out.2.1; have := Cq.out.1; omega) HO115.out ?hcr HB.out HB.out.size ?_; (case hcr => exact Kd.C_below HR111.out HB.out); intro wq hoq hbq _; rw [shl_copied Cq.out.2.2.1 Cq.out.2.2.2] at hoq; clear HO115; have HO115 := Aside0.mk hoq; clear HB; have HB := Aside0.mk hbq; clear hoq hbq hcutq) | ((with_reducible refine gate_callee (f := 56) rfl ?_); refine gL (some 78) Tryd.func56 #[.slice Ao47 y113.length co47] ?_; (with_reducible refine (nat_bound.calls k (fun k_ => some k_ = (.slice Ao47 y113.length co47 : Value).ownBlock) (.slice Ao47 y113.length co47) y113 t127 t130 w _ ?side1 ?side2 A43.out).mono ?_); (case side1 => repeat (first | (with_reducible first | exact HB.out | apply below_alloc | apply pw_below_drewN | apply below_drew1) | exact HB.out)); (case side2 => exact Kd.R_tight rfl HO115.out); rintro e w48 ⟨v128, rfl, ho0, hb, hkp⟩; refine ⟨_, rfl, ?_⟩; have HO129 := Aside0.mk (Kd.R_mono (ok' := fun k_ => True) ho0 (fun k_ hk_ => trivial)); replace HB := Aside0.mk (hb); clear HO115; (try clear hb); (try clear hkp); (try clear ho0)))
         go_ret2
         exact ⟨_, by first | rfl | (simp [errW_none, errW_some] <;> rfl) | (simp only [← hji13]; first | rfl | (simp [errW_none, errW_some] <;> rfl)) | (simp [*, errW_none, errW_some] <;> rfl), dR HO129.out, dB⟩
       ·rw [if_neg c15] at H
        exact absurd H (by simp)
      ·rw [if_neg c14] at H
       exact absurd H (by simp)
  ·rw [if_neg c5] at H
   exact absurd H (by simp)
 ·rw [if_neg c4] at H
  exact absurd H (by simp)

end Go.Proofs.YtoefabmlkbhmpaaDoor.PA

namespace Go.Proofs.YtoefabmlkbhmpaaDoor.PA
open Go.RowKit Go.Proofs.YtoefabmlkbhmpaaDoorW.PrintWords Go.Proofs.YtoefabmlkbhmpaaDoorW.PrintLast Go.Proofs.YtoefabmlkbhmpaaDoorW.PrintMore
attribute [local go_sem] max2_int min2_int max_two min_two max_three min_three max_four min_four   -- for this text's walks alone
set_option linter.unusedVariables false
set_option linter.unusedSimpArgs false

/-! ### plumblaw07_bounded: function 20 -/
def plumblaw07_bounded.l0 : Nat → List Int → Int → List Int → Int → Option (List Int)
 | 0, _, _, _, _ => none
 | k + 1, x0, x1, x5, x6 => if x6 < (x0.length : Int) then (if x6 < x1 then (if 0 ≤ x6 then (if x5.length < 17592186044416 then (plumblaw07_bounded.l0 k x0 x1 (x5 ++ [rd x0 x6]) (wrap64 (x6 + 1))) else (none)) else (none)) else (some x5)) else (some x5)
def plumblaw07_bounded.f (k : Nat) (l0 : List Int) (a1 : Int) : Option (List Int) := plumblaw07_bounded.l0 k l0 a1 ([] : List Int) 0
set_option maxHeartbeats 8000000 in
set_option maxRecDepth 100000 in
theorem plumblaw07_bounded.calls (k : Nat) (A0 : Option Addr) (c0 : Nat) (l0 : List Int) (a1 : Int) (r : List Int) (w : World) (hr0 : Kd.C (Kd.int .u64) w A0 l0.length l0) (hc0 : l0.length ≤ c0) (h : plumblaw07_bounded.f k l0 a1 = some r) :
  Calls Tryd.prog 20 #[.slice A0 l0.length c0, .int .i64 a1] w fun e w' => ∃ v0_ : Value, e = .returned (v0_) ∧ Kd.R (Kd.int .u64) 26 w' w.heap.size (fun _ => True) v0_ r ∧ Below w.heap.size w w' := by
 have HR0 := Aside0.mk hr0
 have HC0 := Aside0.mk hc0
 clear hr0 hc0
 have HB := Aside0.mk (Below.refl w.heap.size w)
 have H : (plumblaw07_bounded.l0 k l0 a1 ([] : List Int) 0) = some r := h
 clear h
 have H' := Aside0.mk H
 clear H
 go_enter Tryd.func20, Tryd.ntmps20
 go_wp2
 go_loopg [5, 6] k (fun kq v5 v6 w' => ∃ (x5_1 : List Int) (x6_1 : Int), v6 = .int .i64 x6_1 ∧ Aside0 (plumblaw07_bounded.l0 kq l0 a1 x5_1 x6_1 = some r) ∧ Aside0 (kq ≤ k) ∧ Aside0 (Kd.R (Kd.int .u64) 26 w' w.heap.size (fun _ => True) v5 x5_1) ∧ Aside0 (Below w.heap.size w w'))
 case atStart => exact ⟨(([] : List Int)), (0), dF, H', ⟨Nat.le_refl _⟩, ⟨by first | exact Kd.R_nil _ _ _ _ _ | exact Kd.N_nil _ _ _ _ _ | exact Kd.V_nil _ _ _ _ _ | exact Kd.Q_nil _ _ _ _ _ | exact Kd.S_nil _ _ _ _ _⟩, ⟨dB⟩⟩
 case round =>
  clear H'
  obtain ⟨x5_1, x6_1, rfl, HA, HK1, HO_5, HB⟩ := hrel
  cases gk with
  | zero => exact absurd HA.out (by simp [plumblaw07_bounded.l0])
  | succ k1 =>
   have H := HA.out
   clear HA
   simp only [plumblaw07_bounded.l0] at H
   by_cases c3 : x6_1 < (l0.length : Int)
   ·rw [if_pos c3] at H
    have c3b0 : decide (x6_1 < (l0.length : Int)) = true := decide_eq_true c3
    clear c3
    by_cases c4 : x6_1 < a1
    ·rw [if_pos c4] at H
     have c4b0 : decide (x6_1 < a1) = true := decide_eq_true c4
     clear c4
     by_cases c5 : (0 : Int) ≤ x6_1
     ·rw [if_pos c5] at H
      have c5b0 : decide (0 ≤ x6_1) = true := decide_eq_true c5
      clear c5
      by_cases c6 : x5_1.length < 17592186044416
      ·rw [if_pos c6] at H
       have LMc6 := Aside0.mk c6
       clear c6
       obtain ⟨y269, hy269⟩ : ∃ y_ : List Int, y_ = (x5_1 ++ [rd l0 x6_1]) := ⟨_, rfl⟩
       replace H : (plumblaw07_bounded.l0 k1 l0 a1 y269 (wrap64 (x6_1 + 1))) = some r := by first | (rw [hy269]; with_reducible exact H) | (have H2_ := (Option.bind_some _ _).symm.trans H; rw [hy269]; with_reducible exact H2_) | (have H2_ := (Option.bind_some _ _).symm.trans H; with_reducible exact H2_) | with_reducible exact H | (rw [hy269]; exact H) | exact H
       have Ny269 := Aside0.mk hy269
       clear hy269
       have H' := Aside0.mk H
       clear H
       have p268 : 0 ≤ (x6_1 : Int) := of_decide_eq_true dS
       have q268 : x6_1 < (l0.length : Int) := of_decide_eq_true dS
       obtain ⟨ad268, e268, hx268_0⟩ := Kd.at_int HR0.out x6_1 p268 q268
       cases e268
       replace hx268_0 := (HB.out.cell (World.block_lt_of_cell? w _ hx268_0)).trans hx268_0
       replace p268 := eq_true p268
       replace q268 := eq_true q268
       go_wp2_with (first | ((with_reducible refine gate_builtin (b := .append) (xs := #[.tmp 18, .tmp 23]) rfl ?_); at_builtin; refine Kd.R_append (Kd.int .u64) (w0 := w) w.heap.size rfl (.tmp 18) (.tmp 23) 22 26 (.int .u64 0) 8 rfl Tryd.underlying22 info26 rfl (by decide) (by omega) u5 x5_1 (rd l0 x6_1) [.int .u64 (rd l0 x6_1)] (fun _ => True) (fun _ => False) rfl rfl ?aP (fun _ hk => hk.elim) ?aF ?aO ?aB ?aS ?aL ?_; (case aP => exact rfl); (case aB => exact dB); (case aF => exact (fun _ _ => trivial)); (case aO => exact (dR HO_5.out)); (case aS => exact (below_size dB)); (case aL => have := LMc6.out; omega); intro v270 w7 ho hb hg hat; rw [← Ny269.out] at ho; replace HB := Aside0.mk (hb); have HO271 := Aside0.mk (ho); clear HO_5; clear ho hb hg hat))
       go_roundg k1
       case measure => have := HK1.out; omega
       case rel => exact ⟨(y269), (wrap64 (x6_1 + 1)), dF, H', ⟨by have := HK1.out; omega⟩, ⟨dR HO271.out⟩, ⟨dB⟩⟩
      ·rw [if_neg c6] at H
       exact absurd H (by simp)
     ·rw [if_neg c5] at H
      exact absurd H (by simp)
    ·rw [if_neg c4] at H
     have c4b0 : decide (x6_1 < a1) = false := decide_eq_false c4
     clear c4
     obtain rfl := Option.some.inj H
     go_wp2
     go_ret
     exact ⟨_, dE, dR HO_5.out, dB⟩
   ·rw [if_neg c3] at H
    have c3b0 : decide (x6_1 < (l0.length : Int)) = false := decide_eq_false c3
    clear c3
    obtain rfl := Option.some.inj H
    go_wp2
    go_ret
    exact ⟨_, dE, dR HO_5.out, dB⟩

/-! ### quot_Gcd: function 97 -/
def quot_Gcd.l0 : Nat → List Int → List Int → Option (List Int)
 | 0, _, _ => none
 | k + 1, x0, x1 => if (x1.length : Int) > 0 then ((quot_DivMod.f k x0 x1).bind fun bt278 => (quot_Gcd.l0 k x1 bt278.2.1)) else (some x0)
def quot_Gcd.f (k : Nat) (l0 : List Int) (l1 : List Int) : Option (List Int) := (nat_Norm.f l0).bind fun t272 => ((nat_Norm.f l1).bind fun t275 => (quot_Gcd.l0 k t272 t275))
set_option maxHeartbeats 8000000 in
set_option maxRecDepth 100000 in
theorem quot_Gcd.calls (k : Nat) (A0 : Option Addr) (c0 : Nat) (l0 : List Int) (A1 : Option Addr) (c1 : Nat) (l1 : List Int) (r : List Int) (w : World) (hr0 : Kd.C (Kd.int .u64) w A0 l0.length l0) (hc0 : l0.length ≤ c0) (hr1 : Kd.C (Kd.int .u64) w A1 l1.length l1) (hc1 : l1.length ≤ c1) (h : quot_Gcd.f k l0 l1 = some r) :
  Calls Tryd.prog 97 #[.slice A0 l0.length c0, .slice A1 l1.length c1] w fun e w' => ∃ v0_ : Value, e = .returned (v0_) ∧ Kd.R (Kd.int .u64) 26 w' w.heap.size (fun _ => True) v0_ r ∧ Below w.heap.size w w' := by
 have HR0 := Aside0.mk hr0
 have HC0 := Aside0.mk hc0
 clear hr0 hc0
 have HR1 := Aside0.mk hr1
 have HC1 := Aside0.mk hc1
 clear hr1 hc1
 have HB := Aside0.mk (Below.refl w.heap.size w)
 have H : ((nat_Norm.f l0).bind fun t272 => ((nat_Norm.f l1).bind fun t275 => (quot_Gcd.l0 k t272 t275))) = some r := h
 clear h
 replace H := obe H
 obtain ⟨t272, A30, H⟩ := H
 (try dsimp only at H)
 have A3 := Aside0.mk A30
 clear A30
 replace H := obe H
 obtain ⟨t275, A40, H⟩ := H
 (try dsimp only at H)
 have A4 := Aside0.mk A40
 clear A40
 have H' := Aside0.mk H
 clear H
 go_enter Tryd.func97, Tryd.ntmps97
 go_wp2_with (first | ((with_reducible refine gate_callee (f := 51) rfl ?_); refine gL (some 9) Tryd.func51 #[.slice A0 l0.length c0] ?_; (with_reducible refine (nat_Norm.calls _ _ l0 t272 _ ?side1 ?side2 A3.out).mono ?_); (case side1 => exact dC HR0.out); (case side2 => exact HC0.out); rintro e w5 ⟨v273, rfl, ho0, hb⟩; refine ⟨_, rfl, ?_⟩; have HO274 := Aside0.mk (Kd.R_lower ho0 (below_size dB)); replace HB := Aside0.mk (below_step dB hb); (try clear hb); (try clear ho0)) | ((with_reducible refine gate_callee (f := 51) rfl ?_); refine gL (some 11) Tryd.func51 #[.slice A1 l1.length c1] ?_; (with_reducible refine (nat_Norm.calls _ _ l1 t275 _ ?side1 ?side2 A4.out).mono ?_); (case side1 => exact dC (Kd.C_below HR1.out HB.out)); (case side2 => exact HC1.out); rintro e w6 ⟨v276, rfl, ho0, hb⟩; refine ⟨_, rfl, ?_⟩; have HO277 := Aside0.mk (Kd.R_lower (Kd.R_new' ho0 (Kd.R_lt (dR HO274.out))) (below_size dB)); replace HO274 := Aside0.mk (Kd.R_elder' (dR HO274.out) (Kd.R_base ho0) hb); replace HB := Aside0.mk (below_step dB hb); (try clear hb); (try clear ho0)))
 go_loopg [0, 1] k (fun kq v0 v1 w' => ∃ (x0_1 : List Int) (x1_1 : List Int), Aside0 (quot_Gcd.l0 kq x0_1 x1_1 = some r) ∧ Aside0 (kq ≤ k) ∧ Aside0 (Kd.R (Kd.int .u64) 26 w' w.heap.size (fun k_ => some k_ ≠ (v1 : Value).ownBlock) v0 x0_1) ∧ Aside0 (Kd.R (Kd.int .u64) 26 w' w.heap.size (fun k_ => some k_ ≠ (v0 : Value).ownBlock) v1 x1_1) ∧ Aside0 (Below w.heap.size w w'))
 case atStart => exact ⟨(t272), (t275), H', ⟨Nat.le_refl _⟩, ⟨by (with_reducible repeat (first | apply Kd.R_alloc | apply Kd.R_drewN | apply Kd.R_drew)); exact Kd.R_mono HO274.out (fun _ hk => hk.2)⟩, ⟨by (with_reducible repeat (first | apply Kd.R_alloc | apply Kd.R_drewN | apply Kd.R_drew)); exact Kd.R_mono HO277.out (fun _ hk => hk.2)⟩, ⟨dB⟩⟩
 case round =>
  clear H'
  try clear c1
  obtain ⟨x0_1, x1_1, HA, HK1, HO_0, HO_1, HB⟩ := hrel
  cases gk with
  | zero => exact absurd HA.out (by simp [quot_Gcd.l0])
  | succ k1 =>
   have H := HA.out
   clear HA
   simp only [quot_Gcd.l0] at H
   by_cases c7 : (x1_1.length : Int) > 0
   ·rw [if_pos c7] at H
    have c7b0 : decide (0 < (x1_1.length : Int)) = true := decide_eq_true c7
    have c7b1 : decide (0 < x1_1.length) = true := decide_eq_true (by omega)
    clear c7
    replace H := obe H
    obtain ⟨⟨t278, t279, t280⟩, A80, H⟩ := H
    (try dsimp only at H)
    have A8 := Aside0.mk A80
    clear A80
    have H' := Aside0.mk H
    clear H
    obtain ⟨Ao9, co9, eo9⟩ := Kd.R_slice HO_1.out
    subst eo9
    obtain ⟨Ao10, co10, eo10⟩ := Kd.R_slice HO_0.out
    subst eo10
    go_wp2_with (first | ((with_reducible refine gate_callee (f := 53) rfl ?_); refine gL (some 18) Tryd.func53 #[.slice Ao10 x0_1.length co10, .slice Ao9 x1_1.length co9] ?_; (with_reducible refine (quot_DivMod.calls k1 _ _ x0_1 _ _ x1_1 t278 t279 t280 _ ?side1 ?side2 ?side3 ?side4 A8.out).mono ?_); (case side1 => exact dC (Kd.R_reads' HO_0.out).2.2); (case side2 => exact (Kd.R_reads' HO_0.out).2.1); (case side3 => exact dC (Kd.R_reads' HO_1.out).2.2); (case side4 => exact (Kd.R_reads' HO_1.out).2.1); rintro e w11 ⟨v281, v283, rfl, ho0, ho1, hb⟩; refine ⟨_, rfl, ?_⟩; have HO282 := Aside0.mk (Kd.R_lower (Kd.R_new' (Kd.R_new' ho0 (Kd.R_lt (dR HO_0.out))) (Kd.R_lt (dR HO_1.out))) (below_size dB)); have HO284 := Aside0.mk (Kd.R_lower (Kd.R_new' (Kd.R_new' ho1 (Kd.R_lt (dR HO_0.out))) (Kd.R_lt (dR HO_1.out))) (below_size dB)); replace HO_0 := Aside0.mk (Kd.R_mono (Kd.R_told (Kd.R_told (Kd.R_old (dR HO_0.out) hb) (Kd.R_base ho0)) (Kd.R_base ho1)) (fun _ h_ => h_.1)); replace HO_1 := Aside0.mk (Kd.R_mono (Kd.R_told (Kd.R_told (Kd.R_old (dR HO_1.out) hb) (Kd.R_base ho0)) (Kd.R_base ho1)) (fun _ h_ => h_.1)); replace HB := Aside0.mk (below_step dB hb); (try clear hb); (try clear ho0); (try clear ho1)))
    go_roundg k1
    case measure => have := HK1.out; omega
    case rel => exact ⟨(x1_1), (t279), H', ⟨by have := HK1.out; omega⟩, ⟨by (with_reducible repeat (first | apply Kd.R_alloc | apply Kd.R_drewN | apply Kd.R_drew)); exact Kd.R_mono HO_1.out (fun _ hk => hk.2)⟩, ⟨by (with_reducible repeat (first | apply Kd.R_alloc | apply Kd.R_drewN | apply Kd.R_drew)); exact Kd.R_mono HO284.out (fun _ hk => hk.2)⟩, ⟨dB⟩⟩
   ·rw [if_neg c7] at H
    have c7b0 : decide (0 < (x1_1.length : Int)) = false := decide_eq_false c7
    have c7b1 : decide (0 < x1_1.length) = false := decide_eq_false (by omega)
    clear c7
    obtain rfl := Option.some.inj H
    obtain ⟨Ao12, co12, eo12⟩ := Kd.R_slice HO_1.out
    subst eo12
    go_wp2
    go_ret
    exact ⟨_, dE, by (with_reducible repeat (first | apply Kd.R_alloc | apply Kd.R_drewN | apply Kd.R_drew)); exact Kd.R_mono HO_0.out (fun _ hk => trivial), dB⟩

/-! ### quot_Lowest: function 101 -/
def quot_Lowest.f (k : Nat) (l0 : List Int) (l1 : List Int) : Option (List Int × List Int) := (quot_Gcd.f k l0 l1).bind fun t285 => (if (t285.length : Int) = 0 then (some (([] : List Int), ([] : List Int))) else ((quot_DivMod.f k l0 t285).bind fun bt288 => ((quot_DivMod.f k l1 t285).bind fun bt295 => (some (bt288.1, bt295.1)))))
set_option maxHeartbeats 8000000 in
set_option maxRecDepth 100000 in
theorem quot_Lowest.calls (k : Nat) (A0 : Option Addr) (c0 : Nat) (l0 : List Int) (A1 : Option Addr) (c1 : Nat) (l1 : List Int) (r1 : List Int) (r2 : List Int) (w : World) (hr0 : Kd.C (Kd.int .u64) w A0 l0.length l0) (hc0 : l0.length ≤ c0) (hr1 : Kd.C (Kd.int .u64) w A1 l1.length l1) (hc1 : l1.length ≤ c1) (h : quot_Lowest.f k l0 l1 = some (r1, r2)) :
  Calls Tryd.prog 101 #[.slice A0 l0.length c0, .slice A1 l1.length c1] w fun e w' => ∃ v0_ v1_ : Value, e = .returned (.tuple #[v0_, v1_]) ∧ Kd.R (Kd.int .u64) 26 w' w.heap.size (fun k_ => some k_ ≠ (v1_ : Value).ownBlock) v0_ r1 ∧ Kd.R (Kd.int .u64) 26 w' w.heap.size (fun k_ => some k_ ≠ (v0_ : Value).ownBlock) v1_ r2 ∧ Below w.heap.size w w' := by
 have HR0 := Aside0.mk hr0
 have HC0 := Aside0.mk hc0
 clear hr0 hc0
 have HR1 := Aside0.mk hr1
 have HC1 := Aside0.mk hc1
 clear hr1 hc1
 have HB := Aside0.mk (Below.refl w.heap.size w)
 have H : ((quot_Gcd.f k l0 l1).bind fun t285 => (if (t285.length : Int) = 0 then (some (([] : List Int), ([] : List Int))) else ((quot_DivMod.f k l0 t285).bind fun bt288 => ((quot_DivMod.f k l1 t285).bind fun bt295 => (some (bt288.1, bt295.1)))))) = some (r1, r2) := h
 clear h
 replace H := obe H
 obtain ⟨t285, A30, H⟩ := H
 (try dsimp only at H)
 have A3 := Aside0.mk A30
 clear A30
 by_cases c4 : (t285.length : Int) = 0
 ·rw [if_pos c4] at H
  have c4b0 : ((t285.length : Int) == 0) = true := beq_iff_eq.mpr c4
  have c4b1 : ((t285.length : Int) != 0) = false := bne_eq_false_iff_eq.mpr c4
  clear c4
  simp only [Option.some.injEq, Prod.mk.injEq] at H
  obtain ⟨rfl, rfl⟩ := H
  go_enter Tryd.func101, Tryd.ntmps101
  go_wp2_with (first | ((with_reducible refine gate_callee (f := 97) rfl ?_); refine gL (some 15) Tryd.func97 #[.slice A0 l0.length c0, .slice A1 l1.length c1] ?_; (with_reducible refine (quot_Gcd.calls k _ _ l0 _ _ l1 t285 _ ?side1 ?side2 ?side3 ?side4 A3.out).mono ?_); (case side1 => exact dC HR0.out); (case side2 => exact HC0.out); (case side3 => exact dC HR1.out); (case side4 => exact HC1.out); rintro e w5 ⟨v286, rfl, ho0, hb⟩; refine ⟨_, rfl, ?_⟩; have HO287 := Aside0.mk (Kd.R_lower ho0 (below_size dB)); replace HB := Aside0.mk (below_step dB hb); (try clear hb); (try clear ho0); obtain ⟨Ao6, co6, eo6⟩ := Kd.R_slice HO287.out; subst eo6))
  go_ret2
  exact ⟨_, _, dE, by first | exact Kd.R_nil _ _ _ _ _ | exact Kd.N_nil _ _ _ _ _ | exact Kd.V_nil _ _ _ _ _ | exact Kd.Q_nil _ _ _ _ _ | exact Kd.S_nil _ _ _ _ _, by first | exact Kd.R_nil _ _ _ _ _ | exact Kd.N_nil _ _ _ _ _ | exact Kd.V_nil _ _ _ _ _ | exact Kd.Q_nil _ _ _ _ _ | exact Kd.S_nil _ _ _ _ _, dB⟩
 ·rw [if_neg c4] at H
  have c4b0 : ((t285.length : Int) == 0) = false := beq_eq_false_iff_ne.mpr c4
  have c4b1 : ((t285.length : Int) != 0) = true := bne_iff_ne.mpr c4
  have c4b2 : ¬ (t285 = []) := fun h_ => c4 (by rw [h_]; rfl)
  replace H := obe H
  obtain ⟨⟨t288, t289, t290⟩, A70, H⟩ := H
  (try dsimp only at H)
  have A7 := Aside0.mk A70
  clear A70
  replace H := obe H
  obtain ⟨⟨t295, t296, t297⟩, A80, H⟩ := H
  (try dsimp only at H)
  have A8 := Aside0.mk A80
  clear A80
  simp only [Option.some.injEq, Prod.mk.injEq] at H
  obtain ⟨rfl, rfl⟩ := H
  go_enter Tryd.func101, Tryd.ntmps101
  go_wp2_with (first | ((with_reducible refine gate_callee (f := 97) rfl ?_); refine gL (some 15) Tryd.func97 #[.slice A0 l0.length c0, .slice A1 l1.length c1] ?_; (with_reducible refine (quot_Gcd.calls k _ _ l0 _ _ l1 t285 _ ?side1 ?side2 ?side3 ?side4 A3.out).mono ?_); (case side1 => exact dC HR0.out); (case side2 => exact HC0.out); (case side3 => exact dC HR1.out); (case side4 => exact HC1.out); rintro e w9 ⟨v286, rfl, ho0, hb⟩; refine ⟨_, rfl, ?_⟩; have HO287 := Aside0.mk (Kd.R_lower ho0 (below_size dB)); replace HB := Aside0.mk (below_step dB hb); (try clear hb); (try clear ho0); obtain ⟨Ao10, co10, eo10⟩ := Kd.R_slice HO287.out; subst eo10) | ((with_reducible refine gate_callee (f := 53) rfl ?_); refine gL (some 22) Tryd.func53 #[.slice A0 l0.length c0, .slice Ao10 t285.length co10] ?_; (with_reducible refine (quot_DivMod.calls k _ _ l0 _ _ t285 t288 t289 t290 _ ?side1 ?side2 ?side3 ?side4 A7.out).mono ?_); (case side1 => exact dC (Kd.C_below HR0.out HB.out)); (case side2 => exact HC0.out); (case side3 => exact dC (Kd.R_reads' HO287.out).2.2); (case side4 => exact (Kd.R_reads' HO287.out).2.1); rintro e w11 ⟨v291, v293, rfl, ho0, ho1, hb⟩; refine ⟨_, rfl, ?_⟩; have HO292 := Aside0.mk (Kd.R_lower (Kd.R_new' ho0 (Kd.R_lt (dR HO287.out))) (below_size dB)); have HO294 := Aside0.mk (Kd.R_lower (Kd.R_new' ho1 (Kd.R_lt (dR HO287.out))) (below_size dB)); replace HO287 := Aside0.mk (Kd.R_mono (Kd.R_told (Kd.R_told (Kd.R_old (dR HO287.out) hb) (Kd.R_base ho0)) (Kd.R_base ho1)) (fun _ h_ => h_.1)); replace HB := Aside0.mk (below_step dB hb); (try clear hb); (try clear ho0); (try clear ho1)) | ((with_reducible refine gate_callee (f := 53) rfl ?_); refine gL (some 29) Tryd.func53 #[.slice A1 l1.length c1, .slice Ao10 t285.length co10] ?_; (with_reducible refine (quot_DivMod.calls k _ _ l1 _ _ t285 t295 t296 t297 _ ?side1 ?side2 ?side3 ?side4 A8.out).mono ?_); (case side1 => exact dC (Kd.C_below HR1.out HB.out)); (case side2 => exact HC1.out); (case side3 => exact dC (Kd.R_reads' HO287.out).2.2); (case side4 => exact (Kd.R_reads' HO287.out).2.1); rintro e w12 ⟨v298, v300, rfl, ho0, ho1, hb⟩; refine ⟨_, rfl, ?_⟩; have HO299 := Aside0.mk (Kd.R_lower (Kd.R_new' (Kd.R_new' (Kd.R_new' ho0 (Kd.R_lt (dR HO287.out))) (Kd.R_lt (dR HO292.out))) (Kd.R_lt (dR HO294.out))) (below_size dB)); have HO301 := Aside0.mk (Kd.R_lower (Kd.R_new' (Kd.R_new' (Kd.R_new' ho1 (Kd.R_lt (dR HO287.out))) (Kd.R_lt (dR HO292.out))) (Kd.R_lt (dR HO294.out))) (below_size dB)); replace HO287 := Aside0.mk (Kd.R_mono (Kd.R_told (Kd.R_told (Kd.R_old (dR HO287.out) hb) (Kd.R_base ho0)) (Kd.R_base ho1)) (fun _ h_ => h_.1)); replace HO292 := Aside0.mk (Kd.R_mono (Kd.R_told (Kd.R_told (Kd.R_old (dR HO292.out) hb) (Kd.R_base ho0)) (Kd.R_base ho1)) (fun _ h_ => h_.1)); replace HO294 := Aside0.mk (Kd.R_mono (Kd.R_told (Kd.R_told (Kd.R_old (dR HO294.out) hb) (Kd.R_base ho0)) (Kd.R_base ho1)) (fun _ h_ => h_.1)); replace HB := Aside0.mk (below_step dB hb); (try clear hb); (try clear ho0); (try clear ho1)))
  go_ret2
  exact ⟨_, _, dE, by (with_reducible repeat (first | apply Kd.R_alloc | apply Kd.R_drewN | apply Kd.R_drew)); exact Kd.R_mono HO292.out (fun _ hk => hk.1.2), by (with_reducible repeat (first | apply Kd.R_alloc | apply Kd.R_drewN | apply Kd.R_drew)); exact Kd.R_mono HO299.out (fun _ hk => hk.1.2), dB⟩

/-! ### rat_lowest: function 74 (by hand) -/
def rat_lowest.f (k : Nat) (a0 : Bool) (l1 : List Int) (l2 : List Int) : Option (Bool × List Int × List Int) := (quot_Lowest.f k l1 l2).bind fun bt420 => (if a0 = true then (some (decide ((bt420.1.length : Int) > 0), bt420.1, bt420.2)) else (some (false, bt420.1, bt420.2)))
set_option maxHeartbeats 8000000 in
set_option maxRecDepth 100000 in
theorem rat_lowest.calls (k : Nat) (a0 : Bool) (A1 : Option Addr) (c1 : Nat) (l1 : List Int) (A2 : Option Addr) (c2 : Nat) (l2 : List Int) (r1 : Bool) (r2 : List Int) (r3 : List Int) (w : World) (hr1 : Kd.C (Kd.int .u64) w A1 l1.length l1) (hc1 : l1.length ≤ c1) (hr2 : Kd.C (Kd.int .u64) w A2 l2.length l2) (hc2 : l2.length ≤ c2) (h : rat_lowest.f k a0 l1 l2 = some (r1, r2, r3)) :
  Calls Tryd.prog 74 #[.bool a0, .slice A1 l1.length c1, .slice A2 l2.length c2] w fun e w' => ∃ v1_ v2_ : Value, e = .returned (.agg #[.bool r1, v1_, v2_]) ∧ Kd.R (Kd.int .u64) 26 w' w.heap.size (fun k_ => some k_ ≠ (v2_ : Value).ownBlock) v1_ r2 ∧ Kd.R (Kd.int .u64) 26 w' w.heap.size (fun k_ => some k_ ≠ (v1_ : Value).ownBlock) v2_ r3 ∧ Below w.heap.size w w' := by
 have hu46 := Tryd.underlying46
 have HR1 := Aside0.mk hr1
 have HC1 := Aside0.mk hc1
 clear hr1 hc1
 have HR2 := Aside0.mk hr2
 have HC2 := Aside0.mk hc2
 clear hr2 hc2
 have HB := Aside0.mk (Below.refl w.heap.size w)
 have H : ((quot_Lowest.f k l1 l2).bind fun bt420 => (if a0 = true then (some (decide ((bt420.1.length : Int) > 0), bt420.1, bt420.2)) else (some (false, bt420.1, bt420.2)))) = some (r1, r2, r3) := h
 clear h
 replace H := obe H
 obtain ⟨⟨t420, t421⟩, A40, H⟩ := H
 (try dsimp only at H)
 have A4 := Aside0.mk A40
 clear A40
 by_cases c5 : a0 = true
 ·subst c5
  have H1 : (some (decide ((t420.length : Int) > 0), t420, t421)) = some (r1, r2, r3) := by rw [if_pos rfl] at H; exact H
  clear H
  have H := H1
  clear H1
  simp only [Option.some.injEq, Prod.mk.injEq] at H
  obtain ⟨rfl, rfl, rfl⟩ := H
  go_enter Tryd.func74, Tryd.ntmps74
  go_wp2_with (first | ((with_reducible refine gate_dst (N := 6) rfl ?_); (try (refine gate_guard (by rfl) ?_; dsimp only)); refine box_event ?hg (N := 6) ?hd (cs := #[.bool false, .slice none 0 0, .slice none 0 0]) (t := 46) ?hr ?_; (case hd => rfl); (case hg => rfl); (case hr => first | (go_simp; done) | (go_simp; rfl)); intro gb419 hg w6 hbox hb; have BK419 := Aside0.mk (hbox); have GW419 := Aside0.mk ((by rw [hg]; exact (below_size dB) : w.heap.size ≤ gb419)); have GE419 := Aside0.mk ((by rw [hg]; exact (below_size dB) : w.heap.size ≤ gb419)); replace HB := Aside0.mk (below_step dB hb); clear hb hbox hg) | ((with_reducible refine gate_callee (f := 101) rfl ?_); refine gL (some 12) Tryd.func101 #[.slice A1 l1.length c1, .slice A2 l2.length c2] ?_; (with_reducible refine (quot_Lowest.calls k _ _ l1 _ _ l2 t420 t421 _ ?side1 ?side2 ?side3 ?side4 A4.out).mono ?_); (case side1 => exact dC (Kd.C_below HR1.out HB.out)); (case side2 => exact HC1.out); (case side3 => exact dC (Kd.C_below HR2.out HB.out)); (case side4 => exact HC2.out); rintro e w7 ⟨v422, v424, rfl, ho0, ho1, hb⟩; refine ⟨_, rfl, ?_⟩; have HO423 := Aside0.mk (Kd.R_lower ho0 (below_size (dG GE419.out))); have HO425 := Aside0.mk (Kd.R_lower ho1 (below_size (dG GE419.out))); replace BK419 := Aside0.mk (blk_below (g := gb419) (o := .cells #[.bool false, .slice none 0 0, .slice none 0 0] 46 (0, 0)) (dK BK419.out) hb); replace HB := Aside0.mk (below_step (dG GE419.out) hb); (try clear hb); (try clear ho0); (try clear ho1); obtain ⟨Ao8, co8, eo8⟩ := Kd.R_slice HO423.out; subst eo8; obtain ⟨Ao9, co9, eo9⟩ := Kd.R_slice HO425.out; subst eo9; obtain ⟨hcz10_0, hcz10_1, hcz10_2⟩ := cz3 BK419.out; obtain ⟨hfz10_0, hfz10_1, hfz10_2⟩ := fz3 BK419.out))
  (try rw [show decide (0 < t420.length) = decide ((t420.length : Int) > 0) from by rw [decide_eq_decide]; omega])
  refine bodyPost_ret (results_cell_row rfl _ _ gb419 46 #[.bool (decide ((t420.length : Int) > 0)), .slice Ao8 t420.length co8, .slice Ao9 t421.length co9] (0, 0) _ rfl (dP BK419.out) Tryd.underlying46 rfl (by kernel_rfl)) rfl ?_
  exact ⟨_, _, dE, by (with_reducible repeat (first | apply Kd.R_alloc | apply Kd.R_drewN | apply Kd.R_drew)); exact Kd.R_mono (Kd.R_far (p := ⟨gb419, 2, none⟩) (Kd.R_far (p := ⟨gb419, 1, none⟩) (Kd.R_far (p := ⟨gb419, 0, none⟩) (Kd.R_types HO423.out BK419.out (by decide)) (fun _ hk => hk.2) (.bool (decide ((t420.length : Int) > 0)))) (fun _ hk => hk.2) (.slice Ao8 t420.length co8)) (fun _ hk => hk.2) (.slice Ao9 t421.length co9)) (fun _ hk => hk.1), by (with_reducible repeat (first | apply Kd.R_alloc | apply Kd.R_drewN | apply Kd.R_drew)); exact Kd.R_mono (Kd.R_far (p := ⟨gb419, 2, none⟩) (Kd.R_far (p := ⟨gb419, 1, none⟩) (Kd.R_far (p := ⟨gb419, 0, none⟩) (Kd.R_types HO425.out BK419.out (by decide)) (fun _ hk => hk.2) (.bool (decide ((t420.length : Int) > 0)))) (fun _ hk => hk.2) (.slice Ao8 t420.length co8)) (fun _ hk => hk.2) (.slice Ao9 t421.length co9)) (fun _ hk => hk.1), dG GE419.out⟩
 ·replace c5 := Bool.eq_false_iff.mpr c5
  subst c5
  have H1 : (some (false, t420, t421)) = some (r1, r2, r3) := by rw [if_neg (show ¬ (false = true) by decide)] at H; exact H
  clear H
  have H := H1
  clear H1
  simp only [Option.some.injEq, Prod.mk.injEq] at H
  obtain ⟨rfl, rfl, rfl⟩ := H
  go_enter Tryd.func74, Tryd.ntmps74
  go_wp2_with (first | ((with_reducible refine gate_dst (N := 6) rfl ?_); (try (refine gate_guard (by rfl) ?_; dsimp only)); refine box_event ?hg (N := 6) ?hd (cs := #[.bool false, .slice none 0 0, .slice none 0 0]) (t := 46) ?hr ?_; (case hd => rfl); (case hg => rfl); (case hr => first | (go_simp; done) | (go_simp; rfl)); intro gb419 hg w11 hbox hb; have BK419 := Aside0.mk (hbox); have GW419 := Aside0.mk ((by rw [hg]; exact (below_size dB) : w.heap.size ≤ gb419)); have GE419 := Aside0.mk ((by rw [hg]; exact (below_size dB) : w.heap.size ≤ gb419)); replace HB := Aside0.mk (below_step dB hb); clear hb hbox hg) | ((with_reducible refine gate_callee (f := 101) rfl ?_); refine gL (some 12) Tryd.func101 #[.slice A1 l1.length c1, .slice A2 l2.length c2] ?_; (with_reducible refine (quot_Lowest.calls k _ _ l1 _ _ l2 t420 t421 _ ?side1 ?side2 ?side3 ?side4 A4.out).mono ?_); (case side1 => exact dC (Kd.C_below HR1.out HB.out)); (case side2 => exact HC1.out); (case side3 => exact dC (Kd.C_below HR2.out HB.out)); (case side4 => exact HC2.out); rintro e w12 ⟨v422, v424, rfl, ho0, ho1, hb⟩; refine ⟨_, rfl, ?_⟩; have HO423 := Aside0.mk (Kd.R_lower ho0 (below_size (dG GE419.out))); have HO425 := Aside0.mk (Kd.R_lower ho1 (below_size (dG GE419.out))); replace BK419 := Aside0.mk (blk_below (g := gb419) (o := .cells #[.bool false, .slice none 0 0, .slice none 0 0] 46 (0, 0)) (dK BK419.out) hb); replace HB := Aside0.mk (below_step (dG GE419.out) hb); (try clear hb); (try clear ho0); (try clear ho1); obtain ⟨Ao13, co13, eo13⟩ := Kd.R_slice HO425.out; subst eo13; obtain ⟨Ao14, co14, eo14⟩ := Kd.R_slice HO423.out; subst eo14; obtain ⟨hcz15_0, hcz15_1, hcz15_2⟩ := cz3 BK419.out; obtain ⟨hfz15_0, hfz15_1, hfz15_2⟩ := fz3 BK419.out))
  refine bodyPost_ret (results_cell_row rfl _ _ gb419 46 #[.bool false, .slice Ao14 t420.length co14, .slice Ao13 t421.length co13] (0, 0) _ rfl (dP BK419.out) Tryd.underlying46 rfl (by kernel_rfl)) rfl ?_
  exact ⟨_, _, dE, by (with_reducible repeat (first | apply Kd.R_alloc | apply Kd.R_drewN | apply Kd.R_drew)); exact Kd.R_mono (Kd.R_far (p := ⟨gb419, 2, none⟩) (Kd.R_far (p := ⟨gb419, 1, none⟩) (Kd.R_far (p := ⟨gb419, 0, none⟩) (Kd.R_types HO423.out BK419.out (by decide)) (fun _ hk => hk.2) (.bool false)) (fun _ hk => hk.2) (.slice Ao14 t420.length co14)) (fun _ hk => hk.2) (.slice Ao13 t421.length co13)) (fun _ hk => hk.1), by (with_reducible repeat (first | apply Kd.R_alloc | apply Kd.R_drewN | apply Kd.R_drew)); exact Kd.R_mono (Kd.R_far (p := ⟨gb419, 2, none⟩) (Kd.R_far (p := ⟨gb419, 1, none⟩) (Kd.R_far (p := ⟨gb419, 0, none⟩) (Kd.R_types HO425.out BK419.out (by decide)) (fun _ hk => hk.2) (.bool false)) (fun _ hk => hk.2) (.slice Ao14 t420.length co14)) (fun _ hk => hk.2) (.slice Ao13 t421.length co13)) (fun _ hk => hk.1), dG GE419.out⟩


end Go.Proofs.YtoefabmlkbhmpaaDoor.PA

namespace Go.Proofs.YtoefabmlkbhmpaaDoor.PA
open Go.RowKit Go.Proofs.YtoefabmlkbhmpaaDoorW.PrintWords Go.Proofs.YtoefabmlkbhmpaaDoorW.PrintLast Go.Proofs.YtoefabmlkbhmpaaDoorW.PrintMore
attribute [local go_sem] max2_int min2_int max_two min_two max_three min_three max_four min_four   -- for this text's walks alone
set_option linter.unusedVariables false
set_option linter.unusedSimpArgs false

/-! ### rat_New: function 59 -/
def rat_New.f (k : Nat) (a0 : Bool) (l1 : List Int) (l2 : List Int) : Option (Bool × List Int × List Int × Int) := (nat_Norm.f l1).bind fun t303 => ((nat_Norm.f l2).bind fun t306 => (if (t306.length : Int) = 0 then (some (false, ([] : List Int), ([] : List Int), 50)) else (if (t303.length : Int) > 4096 then (some (false, ([] : List Int), ([] : List Int), 21)) else (if (t306.length : Int) > 4096 then (some (false, ([] : List Int), ([] : List Int), 21)) else ((rat_lowest.f k a0 t303 t306).bind fun bt309 => (some (bt309.1, bt309.2.1, bt309.2.2, 0)))))))
set_option maxHeartbeats 8000000 in
set_option maxRecDepth 100000 in
theorem rat_New.calls (k : Nat) (a0 : Bool) (A1 : Option Addr) (c1 : Nat) (l1 : List Int) (A2 : Option Addr) (c2 : Nat) (l2 : List Int) (r1 : Bool) (r2 : List Int) (r3 : List Int) (r4 : Int) (w : World) (hr1 : Kd.C (Kd.int .u64) w A1 l1.length l1) (hc1 : l1.length ≤ c1) (hr2 : Kd.C (Kd.int .u64) w A2 l2.length l2) (hc2 : l2.length ≤ c2) (h : rat_New.f k a0 l1 l2 = some (r1, r2, r3, r4)) :
  Calls Tryd.prog 59 #[.bool a0, .slice A1 l1.length c1, .slice A2 l2.length c2] w fun e w' => ∃ v1_ v2_ : Value, e = .returned (.tuple #[.agg #[.bool r1, v1_, v2_], .int .i64 r4]) ∧ Kd.R (Kd.int .u64) 26 w' w.heap.size (fun k_ => some k_ ≠ (v2_ : Value).ownBlock) v1_ r2 ∧ Kd.R (Kd.int .u64) 26 w' w.heap.size (fun k_ => some k_ ≠ (v1_ : Value).ownBlock) v2_ r3 ∧ Below w.heap.size w w' := by
 have hu46 := Tryd.underlying46
 have HR1 := Aside0.mk hr1
 have HC1 := Aside0.mk hc1
 clear hr1 hc1
 have HR2 := Aside0.mk hr2
 have HC2 := Aside0.mk hc2
 clear hr2 hc2
 have HB := Aside0.mk (Below.refl w.heap.size w)
 have H : ((nat_Norm.f l1).bind fun t303 => ((nat_Norm.f l2).bind fun t306 => (if (t306.length : Int) = 0 then (some (false, ([] : List Int), ([] : List Int), 50)) else (if (t303.length : Int) > 4096 then (some (false, ([] : List Int), ([] : List Int), 21)) else (if (t306.length : Int) > 4096 then (some (false, ([] : List Int), ([] : List Int), 21)) else ((rat_lowest.f k a0 t303 t306).bind fun bt309 => (some (bt309.1, bt309.2.1, bt309.2.2, 0)))))))) = some (r1, r2, r3, r4) := h
 clear h
 replace H := obe H
 obtain ⟨t303, A40, H⟩ := H
 (try dsimp only at H)
 have A4 := Aside0.mk A40
 clear A40
 replace H := obe H
 obtain ⟨t306, A50, H⟩ := H
 (try dsimp only at H)
 have A5 := Aside0.mk A50
 clear A50
 by_cases c6 : (t306.length : Int) = 0
 ·rw [if_pos c6] at H
  have c6b0 : ((t306.length : Int) == 0) = true := beq_iff_eq.mpr c6
  have c6b1 : ((t306.length : Int) != 0) = false := bne_eq_false_iff_eq.mpr c6
  clear c6
  simp only [Option.some.injEq, Prod.mk.injEq] at H
  obtain ⟨rfl, rfl, rfl, rfl⟩ := H
  go_enter Tryd.func59, Tryd.ntmps59
  go_wp2_with (first | ((with_reducible refine gate_dst (N := 6) rfl ?_); (try (refine gate_guard (by rfl) ?_; dsimp only)); refine box_event ?hg (N := 6) ?hd (cs := #[.bool false, .slice none 0 0, .slice none 0 0]) (t := 46) ?hr ?_; (case hd => rfl); (case hg => rfl); (case hr => first | (go_simp; done) | (go_simp; rfl)); intro gb302 hg w7 hbox hb; have BK302 := Aside0.mk (hbox); have GW302 := Aside0.mk ((by rw [hg]; exact (below_size dB) : w.heap.size ≤ gb302)); have GE302 := Aside0.mk ((by rw [hg]; exact (below_size dB) : w.heap.size ≤ gb302)); replace HB := Aside0.mk (below_step dB hb); clear hb hbox hg) | ((with_reducible refine gate_callee (f := 51) rfl ?_); refine gL (some 9) Tryd.func51 #[.slice A1 l1.length c1] ?_; (with_reducible refine (nat_Norm.calls _ _ l1 t303 _ ?side1 ?side2 A4.out).mono ?_); (case side1 => exact dC (Kd.C_below HR1.out HB.out)); (case side2 => exact HC1.out); rintro e w8 ⟨v304, rfl, ho0, hb⟩; refine ⟨_, rfl, ?_⟩; have HO305 := Aside0.mk (Kd.R_lower ho0 (below_size (dG GE302.out))); replace BK302 := Aside0.mk (blk_below (g := gb302) (o := .cells #[.bool false, .slice none 0 0, .slice none 0 0] 46 (0, 0)) (dK BK302.out) hb); replace HB := Aside0.mk (below_step (dG GE302.out) hb); (try clear hb); (try clear ho0)) | ((with_reducible refine gate_callee (f := 51) rfl ?_); refine gL (some 11) Tryd.func51 #[.slice A2 l2.length c2] ?_; (with_reducible refine (nat_Norm.calls _ _ l2 t306 _ ?side1 ?side2 A5.out).mono ?_); (case side1 => exact dC (Kd.C_below HR2.out HB.out)); (case side2 => exact HC2.out); rintro e w9 ⟨v307, rfl, ho0, hb⟩; refine ⟨_, rfl, ?_⟩; have HO308 := Aside0.mk (Kd.R_lower (Kd.R_new' ho0 (Kd.R_lt (dR HO305.out))) (below_size (dG GE302.out))); replace HO305 := Aside0.mk (Kd.R_elder' (dR HO305.out) (Kd.R_base ho0) hb); replace BK302 := Aside0.mk (blk_below (g := gb302) (o := .cells #[.bool false, .slice none 0 0, .slice none 0 0] 46 (0, 0)) (dK BK302.out) hb); replace HB := Aside0.mk (below_step (dG GE302.out) hb); (try clear hb); (try clear ho0); obtain ⟨Ao10, co10, eo10⟩ := Kd.R_slice HO308.out; subst eo10; obtain ⟨hcz11_0, hcz11_1, hcz11_2⟩ := cz3 BK302.out; obtain ⟨hfz11_0, hfz11_1, hfz11_2⟩ := fz3 BK302.out))
  refine bodyPost_ret (results_ct rfl _ _ gb302 46 #[.bool false, .slice none 0 0, .slice none 0 0] (0, 0) _ rfl (dP BK302.out) Tryd.underlying46 rfl (by kernel_rfl)) rfl ?_
  exact ⟨_, _, dE, by first | exact Kd.R_nil _ _ _ _ _ | exact Kd.N_nil _ _ _ _ _ | exact Kd.V_nil _ _ _ _ _ | exact Kd.Q_nil _ _ _ _ _ | exact Kd.S_nil _ _ _ _ _, by first | exact Kd.R_nil _ _ _ _ _ | exact Kd.N_nil _ _ _ _ _ | exact Kd.V_nil _ _ _ _ _ | exact Kd.Q_nil _ _ _ _ _ | exact Kd.S_nil _ _ _ _ _, dG GE302.out⟩
 ·rw [if_neg c6] at H
  have c6b0 : ((t306.length : Int) == 0) = false := beq_eq_false_iff_ne.mpr c6
  have c6b1 : ((t306.length : Int) != 0) = true := bne_iff_ne.mpr c6
  have c6b2 : ¬ (t306 = []) := fun h_ => c6 (by rw [h_]; rfl)
  by_cases c12 : (t303.length : Int) > 4096
  ·rw [if_pos c12] at H
   have c12b0 : decide (4096 < (t303.length : Int)) = true := decide_eq_true c12
   have c12b1 : decide (4096 < t303.length) = true := decide_eq_true (by omega)
   clear c12
   simp only [Option.some.injEq, Prod.mk.injEq] at H
   obtain ⟨rfl, rfl, rfl, rfl⟩ := H
   go_enter Tryd.func59, Tryd.ntmps59
   go_wp2_with (first | ((with_reducible refine gate_dst (N := 6) rfl ?_); (try (refine gate_guard (by rfl) ?_; dsimp only)); refine box_event ?hg (N := 6) ?hd (cs := #[.bool false, .slice none 0 0, .slice none 0 0]) (t := 46) ?hr ?_; (case hd => rfl); (case hg => rfl); (case hr => first | (go_simp; done) | (go_simp; rfl)); intro gb302 hg w13 hbox hb; have BK302 := Aside0.mk (hbox); have GW302 := Aside0.mk ((by rw [hg]; exact (below_size dB) : w.heap.size ≤ gb302)); have GE302 := Aside0.mk ((by rw [hg]; exact (below_size dB) : w.heap.size ≤ gb302)); replace HB := Aside0.mk (below_step dB hb); clear hb hbox hg) | ((with_reducible refine gate_callee (f := 51) rfl ?_); refine gL (some 9) Tryd.func51 #[.slice A1 l1.length c1] ?_; (with_reducible refine (nat_Norm.calls _ _ l1 t303 _ ?side1 ?side2 A4.out).mono ?_); (case side1 => exact dC (Kd.C_below HR1.out HB.out)); (case side2 => exact HC1.out); rintro e w14 ⟨v304, rfl, ho0, hb⟩; refine ⟨_, rfl, ?_⟩; have HO305 := Aside0.mk (Kd.R_lower ho0 (below_size (dG GE302.out))); replace BK302 := Aside0.mk (blk_below (g := gb302) (o := .cells #[.bool false, .slice none 0 0, .slice none 0 0] 46 (0, 0)) (dK BK302.out) hb); replace HB := Aside0.mk (below_step (dG GE302.out) hb); (try clear hb); (try clear ho0)) | ((with_reducible refine gate_callee (f := 51) rfl ?_); refine gL (some 11) Tryd.func51 #[.slice A2 l2.length c2] ?_; (with_reducible refine (nat_Norm.calls _ _ l2 t306 _ ?side1 ?side2 A5.out).mono ?_); (case side1 => exact dC (Kd.C_below HR2.out HB.out)); (case side2 => exact HC2.out); rintro e w15 ⟨v307, rfl, ho0, hb⟩; refine ⟨_, rfl, ?_⟩; have HO308 := Aside0.mk (Kd.R_lower (Kd.R_new' ho0 (Kd.R_lt (dR HO305.out))) (below_size (dG GE302.out))); replace HO305 := Aside0.mk (Kd.R_elder' (dR HO305.out) (Kd.R_base ho0) hb); replace BK302 := Aside0.mk (blk_below (g := gb302) (o := .cells #[.bool false, .slice none 0 0, .slice none 0 0] 46 (0, 0)) (dK BK302.out) hb); replace HB := Aside0.mk (below_step (dG GE302.out) hb); (try clear hb); (try clear ho0); obtain ⟨Ao16, co16, eo16⟩ := Kd.R_slice HO308.out; subst eo16; obtain ⟨Ao17, co17, eo17⟩ := Kd.R_slice HO305.out; subst eo17; obtain ⟨hcz18_0, hcz18_1, hcz18_2⟩ := cz3 BK302.out; obtain ⟨hfz18_0, hfz18_1, hfz18_2⟩ := fz3 BK302.out))
   refine bodyPost_ret (results_ct rfl _ _ gb302 46 #[.bool false, .slice none 0 0, .slice none 0 0] (0, 0) _ rfl (dP BK302.out) Tryd.underlying46 rfl (by kernel_rfl)) rfl ?_
   exact ⟨_, _, dE, by first | exact Kd.R_nil _ _ _ _ _ | exact Kd.N_nil _ _ _ _ _ | exact Kd.V_nil _ _ _ _ _ | exact Kd.Q_nil _ _ _ _ _ | exact Kd.S_nil _ _ _ _ _, by first | exact Kd.R_nil _ _ _ _ _ | exact Kd.N_nil _ _ _ _ _ | exact Kd.V_nil _ _ _ _ _ | exact Kd.Q_nil _ _ _ _ _ | exact Kd.S_nil _ _ _ _ _, dG GE302.out⟩
  ·rw [if_neg c12] at H
   have c12b0 : decide (4096 < (t303.length : Int)) = false := decide_eq_false c12
   have c12b1 : decide (4096 < t303.length) = false := decide_eq_false (by omega)
   clear c12
   by_cases c19 : (t306.length : Int) > 4096
   ·rw [if_pos c19] at H
    have c19b0 : decide (4096 < (t306.length : Int)) = true := decide_eq_true c19
    have c19b1 : decide (4096 < t306.length) = true := decide_eq_true (by omega)
    clear c19
    simp only [Option.some.injEq, Prod.mk.injEq] at H
    obtain ⟨rfl, rfl, rfl, rfl⟩ := H
    go_enter Tryd.func59, Tryd.ntmps59
    go_wp2_with (first | ((with_reducible refine gate_dst (N := 6) rfl ?_); (try (refine gate_guard (by rfl) ?_; dsimp only)); refine box_event ?hg (N := 6) ?hd (cs := #[.bool false, .slice none 0 0, .slice none 0 0]) (t := 46) ?hr ?_; (case hd => rfl); (case hg => rfl); (case hr => first | (go_simp; done) | (go_simp; rfl)); intro gb302 hg w20 hbox hb; have BK302 := Aside0.mk (hbox); have GW302 := Aside0.mk ((by rw [hg]; exact (below_size dB) : w.heap.size ≤ gb302)); have GE302 := Aside0.mk ((by rw [hg]; exact (below_size dB) : w.heap.size ≤ gb302)); replace HB := Aside0.mk (below_step dB hb); clear hb hbox hg) | ((with_reducible refine gate_callee (f := 51) rfl ?_); refine gL (some 9) Tryd.func51 #[.slice A1 l1.length c1] ?_; (with_reducible refine (nat_Norm.calls _ _ l1 t303 _ ?side1 ?side2 A4.out).mono ?_); (case side1 => exact dC (Kd.C_below HR1.out HB.out)); (case side2 => exact HC1.out); rintro e w21 ⟨v304, rfl, ho0, hb⟩; refine ⟨_, rfl, ?_⟩; have HO305 := Aside0.mk (Kd.R_lower ho0 (below_size (dG GE302.out))); replace BK302 := Aside0.mk (blk_below (g := gb302) (o := .cells #[.bool false, .slice none 0 0, .slice none 0 0] 46 (0, 0)) (dK BK302.out) hb); replace HB := Aside0.mk (below_step (dG GE302.out) hb); (try clear hb); (try clear ho0)) | ((with_reducible refine gate_callee (f := 51) rfl ?_); refine gL (some 11) Tryd.func51 #[.slice A2 l2.length c2] ?_; (with_reducible refine (nat_Norm.calls _ _ l2 t306 _ ?side1 ?side2 A5.out).mono ?_); (case side1 => exact dC (Kd.C_below HR2.out HB.out)); (case side2 => exact HC2.out); rintro e w22 ⟨v307, rfl, ho0, hb⟩; refine ⟨_, rfl, ?_⟩; have HO308 := Aside0.mk (Kd.R_lower (Kd.R_new' ho0 (Kd.R_lt (dR HO305.out))) (below_size (dG GE302.out))); replace HO305 := Aside0.mk (Kd.R_elder' (dR HO305.out) (Kd.R_base ho0) hb); replace BK302 := Aside0.mk (blk_below (g := gb302) (o := .cells #[.bool false, .slice none 0 0, .slice none 0 0] 46 (0, 0)) (dK BK302.out) hb); replace HB := Aside0.mk (below_step (dG GE302.out) hb); (try clear hb); (try clear ho0); obtain ⟨Ao23, co23, eo23⟩ := Kd.R_slice HO308.out; subst eo23; obtain ⟨Ao24, co24, eo24⟩ := Kd.R_slice HO305.out; subst eo24; obtain ⟨hcz25_0, hcz25_1, hcz25_2⟩ := cz3 BK302.out; obtain ⟨hfz25_0, hfz25_1, hfz25_2⟩ := fz3 BK302.out))
    refine bodyPost_ret (results_ct rfl _ _ gb302 46 #[.bool false, .slice none 0 0, .slice none 0 0] (0, 0) _ rfl (dP BK302.out) Tryd.underlying46 rfl (by kernel_rfl)) rfl ?_
    exact ⟨_, _, dE, by first | exact Kd.R_nil _ _ _ _ _ | exact Kd.N_nil _ _ _ _ _ | exact Kd.V_nil _ _ _ _ _ | exact Kd.Q_nil _ _ _ _ _ | exact Kd.S_nil _ _ _ _ _, by first | exact Kd.R_nil _ _ _ _ _ | exact Kd.N_nil _ _ _ _ _ | exact Kd.V_nil _ _ _ _ _ | exact Kd.Q_nil _ _ _ _ _ | exact Kd.S_nil _ _ _ _ _, dG GE302.out⟩
   ·rw [if_neg c19] at H
    have c19b0 : decide (4096 < (t306.length : Int)) = false := decide_eq_false c19
    have c19b1 : decide (4096 < t306.length) = false := decide_eq_false (by omega)
    clear c19
    replace H := obe H
    obtain ⟨⟨t309, t310, t313⟩, A260, H⟩ := H
    (try dsimp only at H)
    have A26 := Aside0.mk A260
    clear A260
    simp only [Option.some.injEq, Prod.mk.injEq] at H
    obtain ⟨rfl, rfl, rfl, rfl⟩ := H
    go_enter Tryd.func59, Tryd.ntmps59
    go_wp2_with (first | ((with_reducible refine gate_dst (N := 6) rfl ?_); (try (refine gate_guard (by rfl) ?_; dsimp only)); refine box_event ?hg (N := 6) ?hd (cs := #[.bool false, .slice none 0 0, .slice none 0 0]) (t := 46) ?hr ?_; (case hd => rfl); (case hg => rfl); (case hr => first | (go_simp; done) | (go_simp; rfl)); intro gb302 hg w27 hbox hb; have BK302 := Aside0.mk (hbox); have GW302 := Aside0.mk ((by rw [hg]; exact (below_size dB) : w.heap.size ≤ gb302)); have GE302 := Aside0.mk ((by rw [hg]; exact (below_size dB) : w.heap.size ≤ gb302)); replace HB := Aside0.mk (below_step dB hb); clear hb hbox hg) | ((with_reducible refine gate_callee (f := 51) rfl ?_); refine gL (some 9) Tryd.func51 #[.slice A1 l1.length c1] ?_; (with_reducible refine (nat_Norm.calls _ _ l1 t303 _ ?side1 ?side2 A4.out).mono ?_); (case side1 => exact dC (Kd.C_below HR1.out HB.out)); (case side2 => exact HC1.out); rintro e w28 ⟨v304, rfl, ho0, hb⟩; refine ⟨_, rfl, ?_⟩; have HO305 := Aside0.mk (Kd.R_lower ho0 (below_size (dG GE302.out))); replace BK302 := Aside0.mk (blk_below (g := gb302) (o := .cells #[.bool false, .slice none 0 0, .slice none 0 0] 46 (0, 0)) (dK BK302.out) hb); replace HB := Aside0.mk (below_step (dG GE302.out) hb); (try clear hb); (try clear ho0)) | ((with_reducible refine gate_callee (f := 51) rfl ?_); refine gL (some 11) Tryd.func51 #[.slice A2 l2.length c2] ?_; (with_reducible refine (nat_Norm.calls _ _ l2 t306 _ ?side1 ?side2 A5.out).mono ?_); (case side1 => exact dC (Kd.C_below HR2.out HB.out)); (case side2 => exact HC2.out); rintro e w29 ⟨v307, rfl, ho0, hb⟩; refine ⟨_, rfl, ?_⟩; have HO308 := Aside0.mk (Kd.R_lower (Kd.R_new' ho0 (Kd.R_lt (dR HO305.out))) (below_size (dG GE302.out))); replace HO305 := Aside0.mk (Kd.R_elder' (dR HO305.out) (Kd.R_base ho0) hb); replace BK302 := Aside0.mk (blk_below (g := gb302) (o := .cells #[.bool false, .slice none 0 0, .slice none 0 0] 46 (0, 0)) (dK BK302.out) hb); replace HB := Aside0.mk (below_step (dG GE302.out) hb); (try clear hb); (try clear ho0); obtain ⟨Ao30, co30, eo30⟩ := Kd.R_slice HO308.out; subst eo30; obtain ⟨Ao31, co31, eo31⟩ := Kd.R_slice HO305.out; subst eo31) | ((with_reducible refine gate_callee (f := 74) rfl ?_); refine gL (some 30) Tryd.func74 #[.bool a0, .slice Ao31 t303.length co31, .slice Ao30 t306.length co30] ?_; (with_reducible refine (rat_lowest.calls k a0 _ _ t303 _ _ t306 t309 t310 t313 _ ?side1 ?side2 ?side3 ?side4 A26.out).mono ?_); (case side1 => exact dC (Kd.R_reads' HO305.out).2.2); (case side2 => exact (Kd.R_reads' HO305.out).2.1); (case side3 => exact dC (Kd.R_reads' HO308.out).2.2); (case side4 => exact (Kd.R_reads' HO308.out).2.1); rintro e w32 ⟨v311, v314, rfl, ho0, ho1, hb⟩; refine ⟨_, rfl, ?_⟩; have HO312 := Aside0.mk (Kd.R_lower (Kd.R_new' (Kd.R_new' ho0 (Kd.R_lt (dR HO305.out))) (Kd.R_lt (dR HO308.out))) (below_size (dG GE302.out))); have HO315 := Aside0.mk (Kd.R_lower (Kd.R_new' (Kd.R_new' ho1 (Kd.R_lt (dR HO305.out))) (Kd.R_lt (dR HO308.out))) (below_size (dG GE302.out))); replace HO305 := Aside0.mk (Kd.R_mono (Kd.R_told (Kd.R_told (Kd.R_old (dR HO305.out) hb) (Kd.R_base ho0)) (Kd.R_base ho1)) (fun _ h_ => h_.1)); replace HO308 := Aside0.mk (Kd.R_mono (Kd.R_told (Kd.R_told (Kd.R_old (dR HO308.out) hb) (Kd.R_base ho0)) (Kd.R_base ho1)) (fun _ h_ => h_.1)); replace BK302 := Aside0.mk (blk_below (g := gb302) (o := .cells #[.bool false, .slice none 0 0, .slice none 0 0] 46 (0, 0)) (dK BK302.out) hb); replace HB := Aside0.mk (below_step (dG GE302.out) hb); (try clear hb); (try clear ho0); (try clear ho1); obtain ⟨hcz33_0, hcz33_1, hcz33_2⟩ := cz3 BK302.out; obtain ⟨hfz33_0, hfz33_1, hfz33_2⟩ := fz3 BK302.out; obtain ⟨Ao34, co34, eo34⟩ := Kd.R_slice HO312.out; subst eo34; obtain ⟨Ao35, co35, eo35⟩ := Kd.R_slice HO315.out; subst eo35))
    refine bodyPost_ret (results_ct rfl _ _ gb302 46 #[.bool t309, .slice Ao34 t310.length co34, .slice Ao35 t313.length co35] (0, 0) _ rfl (dP BK302.out) Tryd.underlying46 rfl (by kernel_rfl)) rfl ?_
    exact ⟨_, _, dE, by (with_reducible repeat (first | apply Kd.R_alloc | apply Kd.R_drewN | apply Kd.R_drew)); exact Kd.R_mono (Kd.R_far (p := ⟨gb302, 2, none⟩) (Kd.R_far (p := ⟨gb302, 1, none⟩) (Kd.R_far (p := ⟨gb302, 0, none⟩) (Kd.R_types HO312.out BK302.out (by decide)) (fun _ hk => hk.2) (.bool t309)) (fun _ hk => hk.2) (.slice Ao34 t310.length co34)) (fun _ hk => hk.2) (.slice Ao35 t313.length co35)) (fun _ hk => hk.1.1.1), by (with_reducible repeat (first | apply Kd.R_alloc | apply Kd.R_drewN | apply Kd.R_drew)); exact Kd.R_mono (Kd.R_far (p := ⟨gb302, 2, none⟩) (Kd.R_far (p := ⟨gb302, 1, none⟩) (Kd.R_far (p := ⟨gb302, 0, none⟩) (Kd.R_types HO315.out BK302.out (by decide)) (fun _ hk => hk.2) (.bool t309)) (fun _ hk => hk.2) (.slice Ao34 t310.length co34)) (fun _ hk => hk.2) (.slice Ao35 t313.length co35)) (fun _ hk => hk.1.1.1), dG GE302.out⟩

end Go.Proofs.YtoefabmlkbhmpaaDoor.PA
