/- A part of the proof (8). -/
import Derived.Test.YtoefabmlkbhmpaaDoorUKS2
import Derived.Test.YtoefabmlkbhmpaaDoorUKS4
import Derived.Test.YtoefabmlkbhmpaaDoorUKS5
import Derived.Test.YtoefabmlkbhmpaaDoorUKS3
import Derived.Test.YtoefabmlkbhmpaaDoorUKS7
namespace Go.Proofs.YtoefabmlkbhmpaaDoor.PA
open Go.RowKit Go.Proofs.YtoefabmlkbhmpaaDoorW.PrintWords Go.Proofs.YtoefabmlkbhmpaaDoorW.PrintLast Go.Proofs.YtoefabmlkbhmpaaDoorW.PrintMore
attribute [local go_sem] max2_int min2_int max_two min_two max_three min_three max_four min_four   -- for this text's walks alone
set_option linter.unusedVariables false
set_option linter.unusedSimpArgs false

/-! ### nat_Shl: function 21 (by hand) -/
/-- xs, with ys copied over it from q on -/
def cpyAt (xs ys : List Int) (q : Nat) : List Int := xs.take q ++ (ys.take (min ys.length (xs.length - q)) ++ xs.drop (q + min ys.length (xs.length - q)))
theorem cpyAt_length {xs ys : List Int} {q : Nat} (h : q ≤ xs.length) : (cpyAt xs ys q).length = xs.length := by
 unfold cpyAt
 rw [List.length_append, List.length_append, List.length_take, List.length_take, List.length_drop]
 omega
theorem shl_copied {yq y z : List Int} {q : Nat} (hl : yq.length = y.length) (h : y = cpyAt yq z q) :
  yq.take q ++ (z.take (min z.length (y.length - q)) ++ yq.drop (q + min z.length (y.length - q))) = y := by
 rw [← hl]
 conv => rhs; rw [h]
 rfl
def nat_Shl.l0 : Nat → Int → List Int → Int → Int → Option (List Int × Int)
 | 0, _, _, _, _ => none
 | k + 1, x1, x6, x7, x8 => if x8 > (wrap64 (Int.tdiv x1 64)) then (if 0 ≤ x8 then (if x8 < (x6.length : Int) then (if 0 ≤ (wrap64 (x8 - 1)) then (if (wrap64 (x8 - 1)) < (x6.length : Int) then ((wide_Shl.f (rd x6 x8) (rd x6 (wrap64 (x8 - 1))) x7).bind fun bt118 => (nat_Shl.l0 k x1 (x6.set (x8 : Int).toNat bt118.1) x7 (wrap64 (x8 - 1)))) else (none)) else (none)) else (none)) else (none)) else (if 0 ≤ (wrap64 (Int.tdiv x1 64)) then (if (wrap64 (Int.tdiv x1 64)) < (x6.length : Int) then (if 0 ≤ x7 then ((nat_bound.f k (x6.set ((wrap64 (Int.tdiv x1 64)) : Int).toNat (shl .u64 (rd x6 (wrap64 (Int.tdiv x1 64))) x7))).bind fun bt123 => (some (bt123.1, bt123.2))) else (none)) else (none)) else (none))
def nat_Shl.f (k : Nat) (l0 : List Int) (a1 : Int) : Option (List Int × Int) := (nat_size.f k l0).bind fun t110 => (if 0 ≤ t110 then (if t110 ≤ (l0.length : Int) then (if a1 < 0 then (some (([] : List Int), 22)) else (if ((l0.take (t110 : Int).toNat).length : Int) = 0 then (some (([] : List Int), 0)) else ((nat_Bits.f k (l0.take (t110 : Int).toNat)).bind fun t112 => (if a1 > (wrap64 (262144 - t112)) then (some (([] : List Int), 21)) else (if 0 ≤ (wrap64 ((wrap64 ((wrap64 (Int.tdiv a1 64)) + ((l0.take (t110 : Int).toNat).length : Int))) + 1)) then (if ((wrap64 ((wrap64 ((wrap64 (Int.tdiv a1 64)) + ((l0.take (t110 : Int).toNat).length : Int))) + 1) : Int).toNat ≤ 35184372088832 ∧ 0 ≤ (wrap64 (Int.tdiv a1 64)) ∧ (wrap64 (Int.tdiv a1 64)).toNat ≤ (wrap64 ((wrap64 ((wrap64 (Int.tdiv a1 64)) + ((l0.take (t110 : Int).toNat).length : Int))) + 1) : Int).toNat) then ((some (cpyAt (List.replicate (wrap64 ((wrap64 ((wrap64 (Int.tdiv a1 64)) + ((l0.take (t110 : Int).toNat).length : Int))) + 1) : Int).toNat 0) (l0.take (t110 : Int).toNat) (wrap64 (Int.tdiv a1 64)).toNat : List Int)).bind fun y113 => (if (Int.tmod a1 64) > 0 then (nat_Shl.l0 k a1 y113 (Int.tmod a1 64) (wrap64 ((y113.length : Int) - 1))) else ((nat_bound.f k y113).bind fun bt127 => (some (bt127.1, bt127.2))))) else (none)) else (none)))))) else (none)) else (none))
def nat_Shl.T15 : Bool × List (List Nat × List Nat) := (true, [([], []), ([], []), ([], []), ([], []), ([2, 3], [2, 3]), ([4], [4]), ([], []), ([], []), ([7], [7]), ([6, 8], [6, 8]), ([9], [9]), ([], []), ([5, 10, 11], [5, 10, 11]), ([12], [12]), ([13], [13]), ([13], [13]), ([0, 1, 0, 1, 2, 3, 4, 5, 6, 7, 8, 9, 10, 11, 12, 13, 14], [0, 1]), ([16, 14, 12, 0, 1, 2, 3, 4, 5, 6, 7, 8, 9, 10, 11, 12, 13, 14], [14, 16])])
def nat_Shl.B15 : List Nat := [0, 0, 0, 0, 12, 28, 0, 0, 128, 448, 960, 0, 4092, 8188, 16380, 16380, 32767, 98303]
theorem nat_Shl.tab15 : rtab .any (opsOf Tryd.f21 15) = nat_Shl.T15 := by kernel_rfl
theorem nat_Shl.bits15 : waitsOk nat_Shl.T15.2 nat_Shl.B15 = true := by kernel_rfl
set_option maxHeartbeats 8000000 in
set_option maxRecDepth 100000 in
theorem nat_Shl.calls (k : Nat) (A0 : Option Addr) (c0 : Nat) (l0 : List Int) (a1 : Int) (r1 : List Int) (r2 : Int) (w : World) (hr0 : Kd.C (Kd.int .u64) w A0 l0.length l0) (hc0 : l0.length ≤ c0) (h : nat_Shl.f k l0 a1 = some (r1, r2)) :
  Calls Tryd.prog 21 #[.slice A0 l0.length c0, .int .i64 a1] w fun e w' => ∃ v0_ : Value, e = .returned (.tuple #[v0_, .int .i64 r2]) ∧ Kd.R (Kd.int .u64) 26 w' w.heap.size (fun _ => True) v0_ r1 ∧ Below w.heap.size w w' := by
 have HR0 := Aside0.mk hr0
 have HC0 := Aside0.mk hc0
 clear hr0 hc0
 have HB := Aside0.mk (Below.refl w.heap.size w)
 have H : ((nat_size.f k l0).bind fun t110 => (if 0 ≤ t110 then (if t110 ≤ (l0.length : Int) then (if a1 < 0 then (some (([] : List Int), 22)) else (if ((l0.take (t110 : Int).toNat).length : Int) = 0 then (some (([] : List Int), 0)) else ((nat_Bits.f k (l0.take (t110 : Int).toNat)).bind fun t112 => (if a1 > (wrap64 (262144 - t112)) then (some (([] : List Int), 21)) else (if 0 ≤ (wrap64 ((wrap64 ((wrap64 (Int.tdiv a1 64)) + ((l0.take (t110 : Int).toNat).length : Int))) + 1)) then (if ((wrap64 ((wrap64 ((wrap64 (Int.tdiv a1 64)) + ((l0.take (t110 : Int).toNat).length : Int))) + 1) : Int).toNat ≤ 35184372088832 ∧ 0 ≤ (wrap64 (Int.tdiv a1 64)) ∧ (wrap64 (Int.tdiv a1 64)).toNat ≤ (wrap64 ((wrap64 ((wrap64 (Int.tdiv a1 64)) + ((l0.take (t110 : Int).toNat).length : Int))) + 1) : Int).toNat) then ((some (cpyAt (List.replicate (wrap64 ((wrap64 ((wrap64 (Int.tdiv a1 64)) + ((l0.take (t110 : Int).toNat).length : Int))) + 1) : Int).toNat 0) (l0.take (t110 : Int).toNat) (wrap64 (Int.tdiv a1 64)).toNat : List Int)).bind fun y113 => (if (Int.tmod a1 64) > 0 then (nat_Shl.l0 k a1 y113 (Int.tmod a1 64) (wrap64 ((y113.length : Int) - 1))) else ((nat_bound.f k y113).bind fun bt127 => (some (bt127.1, bt127.2))))) else (none)) else (none)))))) else (none)) else (none))) = some (r1, r2) := h
 clear h
 replace H := obe H
 obtain ⟨t110, A30, H⟩ := H
 (try dsimp only at H)
 have A3 := Aside0.mk A30
 clear A30
 by_cases c4 : (0 : Int) ≤ t110
 ·rw [if_pos c4] at H
  have c4b0 := eq_true c4
  have c4b1 : decide (0 ≤ t110) = true := decide_eq_true c4
  clear c4
  by_cases c5 : t110 ≤ (l0.length : Int)
  ·rw [if_pos c5] at H
   have c5b0 := eq_true c5
   have c5b1 : decide (t110 ≤ (l0.length : Int)) = true := decide_eq_true c5
   clear c5
   obtain ⟨z110, Nz1100⟩ : ∃ z_ : List Int, (l0.take (t110 : Int).toNat) = z_ := ⟨_, rfl⟩
   rw [Nz1100] at H
   have Nz110 := Aside0.mk Nz1100
   clear Nz1100
   by_cases c6 : a1 < 0
   ·rw [if_pos c6] at H
    have c6b0 : decide (a1 < 0) = true := decide_eq_true c6
    clear c6
    simp only [Option.some.injEq, Prod.mk.injEq] at H
    obtain ⟨rfl, rfl⟩ := H
    go_enter Tryd.func21, Tryd.ntmps21
    go_wp2_with (first | ((with_reducible refine gate_callee (f := 54) rfl ?_); refine gL (some 11) Tryd.func54 #[.slice A0 l0.length c0] ?_; (with_reducible refine (nat_size.calls k _ _ l0 t110 _ ?side1 ?side2 A3.out).mono ?_); (case side1 => exact dC HR0.out); (case side2 => exact HC0.out); rintro e w' ⟨rfl, ⟨nd, rfl⟩⟩; refine ⟨_, rfl, ?_⟩; obtain ⟨i07, hi07, _, hsz7, _⟩ := info_parts info26; obtain ⟨hcut7, hA7, hC7⟩ := print_take_of (P := Tryd.prog) (Value.int .u64) 0 22 26 .i64 Tryd.underlying22 hi07 hsz7 A0 c0 l0 t110 (of_decide_eq_true dS) (of_decide_eq_true dS) HC0.out; rw [Nz110.out] at hcut7 hA7 hC7; have HR111 := Aside0.mk (Kd.C_of_reads (h1 := fun _ => rfl) (hA7 _ (Kd.reads_of_C HR0.out))); have HC111 := Aside0.mk hC7; clear hA7 hC7 hi07 hsz7))
    go_ret2
    exact ⟨_, dE, by first | exact Kd.R_nil _ _ _ _ _ | exact Kd.N_nil _ _ _ _ _ | exact Kd.V_nil _ _ _ _ _ | exact Kd.Q_nil _ _ _ _ _ | exact Kd.S_nil _ _ _ _ _, dB⟩
   ·rw [if_neg c6] at H
    have c6b0 : decide (a1 < 0) = false := decide_eq_false c6
    clear c6
    by_cases c8 : (z110.length : Int) = 0
    ·rw [if_pos c8] at H
     have c8b0 : ((z110.length : Int) == 0) = true := beq_iff_eq.mpr c8
     have c8b1 : ((z110.length : Int) != 0) = false := bne_eq_false_iff_eq.mpr c8
     clear c8
     simp only [Option.some.injEq, Prod.mk.injEq] at H
     obtain ⟨rfl, rfl⟩ := H
     go_enter Tryd.func21, Tryd.ntmps21
     go_wp2_with (first | ((with_reducible refine gate_callee (f := 54) rfl ?_); refine gL (some 11) Tryd.func54 #[.slice A0 l0.length c0] ?_; (with_reducible refine (nat_size.calls k _ _ l0 t110 _ ?side1 ?side2 A3.out).mono ?_); (case side1 => exact dC HR0.out); (case side2 => exact HC0.out); rintro e w' ⟨rfl, ⟨nd, rfl⟩⟩; refine ⟨_, rfl, ?_⟩; obtain ⟨i09, hi09, _, hsz9, _⟩ := info_parts info26; obtain ⟨hcut9, hA9, hC9⟩ := print_take_of (P := Tryd.prog) (Value.int .u64) 0 22 26 .i64 Tryd.underlying22 hi09 hsz9 A0 c0 l0 t110 (of_decide_eq_true dS) (of_decide_eq_true dS) HC0.out; rw [Nz110.out] at hcut9 hA9 hC9; have HR111 := Aside0.mk (Kd.C_of_reads (h1 := fun _ => rfl) (hA9 _ (Kd.reads_of_C HR0.out))); have HC111 := Aside0.mk hC9; clear hA9 hC9 hi09 hsz9))
     go_ret2
     exact ⟨_, dE, by first | exact Kd.R_nil _ _ _ _ _ | exact Kd.N_nil _ _ _ _ _ | exact Kd.V_nil _ _ _ _ _ | exact Kd.Q_nil _ _ _ _ _ | exact Kd.S_nil _ _ _ _ _, dB⟩
    ·rw [if_neg c8] at H
     have c8b0 : ((z110.length : Int) == 0) = false := beq_eq_false_iff_ne.mpr c8
     have c8b1 : ((z110.length : Int) != 0) = true := bne_iff_ne.mpr c8
     have c8b2 : ¬ (z110 = []) := fun h_ => c8 (by rw [h_]; rfl)
     replace H := obe H
     obtain ⟨t112, A100, H⟩ := H
     (try dsimp only at H)
     have A10 := Aside0.mk A100
     clear A100
     by_cases c11 : a1 > (wrap64 (262144 - t112))
     ·rw [if_pos c11] at H
      have c11b0 : decide ((wrap64 (262144 - t112)) < a1) = true := decide_eq_true c11
      clear c11
      simp only [Option.some.injEq, Prod.mk.injEq] at H
      obtain ⟨rfl, rfl⟩ := H
      go_enter Tryd.func21, Tryd.ntmps21
      go_wp2_with (first | ((with_reducible refine gate_callee (f := 54) rfl ?_); refine gL (some 11) Tryd.func54 #[.slice A0 l0.length c0] ?_; (with_reducible refine (nat_size.calls k _ _ l0 t110 _ ?side1 ?side2 A3.out).mono ?_); (case side1 => exact dC HR0.out); (case side2 => exact HC0.out); rintro e w' ⟨rfl, ⟨nd, rfl⟩⟩; refine ⟨_, rfl, ?_⟩; obtain ⟨i012, hi012, _, hsz12, _⟩ := info_parts info26; obtain ⟨hcut12, hA12, hC12⟩ := print_take_of (P := Tryd.prog) (Value.int .u64) 0 22 26 .i64 Tryd.underlying22 hi012 hsz12 A0 c0 l0 t110 (of_decide_eq_true dS) (of_decide_eq_true dS) HC0.out; rw [Nz110.out] at hcut12 hA12 hC12; have HR111 := Aside0.mk (Kd.C_of_reads (h1 := fun _ => rfl) (hA12 _ (Kd.reads_of_C HR0.out))); have HC111 := Aside0.mk hC12; clear hA12 hC12 hi012 hsz12) | ((with_reducible refine gate_callee (f := 43) rfl ?_); refine goesL_ (some 23) rfl rfl Tryd.func43 (by kernel_rfl) rfl #[.slice A0 z110.length c0] rfl (by (try simp only [List.map_toArray, List.map_cons, List.map_nil]); first | done | (rw [show z110.length = t110.toNat from (by rw [← Nz110.out, List.length_take]; have h_ : (t110 : Int) ≤ (l0.length : Int) := of_decide_eq_true dS; omega)] <;> rfl) | rfl | (simp only [List.length_drop, List.length_take]; rfl)) ?_; (with_reducible refine (nat_Bits.calls k _ _ z110 t112 _ ?side1 ?side2 A10.out).mono ?_); (case side1 => exact dC HR111.out); (case side2 => exact HC111.out); rintro e w' ⟨rfl, ⟨nd, rfl⟩⟩; refine ⟨_, rfl, ?_⟩))
      go_ret2
      exact ⟨_, dE, by first | exact Kd.R_nil _ _ _ _ _ | exact Kd.N_nil _ _ _ _ _ | exact Kd.V_nil _ _ _ _ _ | exact Kd.Q_nil _ _ _ _ _ | exact Kd.S_nil _ _ _ _ _, dB⟩
     ·rw [if_neg c11] at H
      have c11b0 : decide ((wrap64 (262144 - t112)) < a1) = false := decide_eq_false c11
      clear c11
      obtain ⟨ji13, hji13⟩ : ∃ j_ : Int, (wrap64 ((wrap64 ((wrap64 (Int.tdiv a1 64)) + (z110.length : Int))) + 1)) = j_ := ⟨_, rfl⟩
      first | rw [hji13] at H | simp only [hji13] at H
      (try rw [hji13] at A3)
      (try rw [hji13] at A10)
      have hji13w : (IntKind.i64.wrap ((wrap64 ((wrap64 (Int.tdiv a1 64)) + (z110.length : Int))) + 1)) = ji13 := (i64_w _).trans hji13
      by_cases c14 : (0 : Int) ≤ (ji13)
      ·rw [if_pos c14] at H
       have c14b0 := eq_true c14
       have c14b1 : decide (0 ≤ (ji13)) = true := decide_eq_true c14
       clear c14
       by_cases c15 : ((ji13 : Int).toNat ≤ 35184372088832 ∧ 0 ≤ (wrap64 (Int.tdiv a1 64)) ∧ (wrap64 (Int.tdiv a1 64)).toNat ≤ (ji13 : Int).toNat)
       ·rw [if_pos c15] at H
        obtain ⟨c15, cq0, cq1⟩ := c15
        have c15b0 := eq_true c15
        have c15b1 : decide ((ji13 : Int).toNat ≤ 35184372088832) = true := decide_eq_true c15
        clear c15
        obtain ⟨yq, hyq⟩ : ∃ y_ : List Int, y_ = (List.replicate (ji13 : Int).toNat 0) := ⟨_, rfl⟩
        have ylq : yq.length = (ji13 : Int).toNat := by rw [hyq, List.length_replicate]
        rw [← hyq] at H
        have Nyq := Aside0.mk hyq
        clear hyq
        obtain ⟨y113, hy113⟩ : ∃ y_ : List Int, y_ = (cpyAt yq z110 (wrap64 (Int.tdiv a1 64)).toNat) := ⟨_, rfl⟩
        have yl113 : yq.length = y113.length := by rw [hy113, cpyAt_length (by omega)]
        have cq2 : (wrap64 (Int.tdiv a1 64)) ≤ (y113.length : Int) := by omega
        have Cq := Aside0.mk (And.intro cq0 (And.intro cq2 (And.intro yl113 hy113)))
        clear cq0 cq1 cq2 ylq yl113
        replace H : (if (Int.tmod a1 64) > 0 then (nat_Shl.l0 k a1 y113 (Int.tmod a1 64) (wrap64 ((y113.length : Int) - 1))) else ((nat_bound.f k y113).bind fun bt127 => (some (bt127.1, bt127.2)))) = some (r1, r2) := by first | (rw [hy113]; with_reducible exact H) | (have H2_ := (Option.bind_some _ _).symm.trans H; rw [hy113]; with_reducible exact H2_) | (have H2_ := (Option.bind_some _ _).symm.trans H; with_reducible exact H2_) | with_reducible exact H | (rw [hy113]; exact H) | exact H
        have Ny113 := Aside0.mk hy113
        clear hy113
        by_cases c16 : (Int.tmod a1 64) > 0
        ·rw [if_pos c16] at H
         have c16b0 : decide (0 < (Int.tmod a1 64)) = true := decide_eq_true c16
         clear c16
         have H' := Aside0.mk H
         clear H
         go_enter Tryd.func21, Tryd.ntmps21
         go_wp2_with (first | ((with_reducible refine gate_callee (f := 54) rfl ?_); refine gL (some 11) Tryd.func54 #[.slice A0 l0.length c0] ?_; (with_reducible refine (nat_size.calls k _ _ l0 t110 _ ?side1 ?side2 A3.out).mono ?_); (case side1 => exact dC HR0.out); (case side2 => exact HC0.out); rintro e w' ⟨rfl, ⟨nd, rfl⟩⟩; refine ⟨_, rfl, ?_⟩; obtain ⟨i017, hi017, _, hsz17, _⟩ := info_parts info26; obtain ⟨hcut17, hA17, hC17⟩ := print_take_of (P := Tryd.prog) (Value.int .u64) 0 22 26 .i64 Tryd.underlying22 hi017 hsz17 A0 c0 l0 t110 (of_decide_eq_true dS) (of_decide_eq_true dS) HC0.out; rw [Nz110.out] at hcut17 hA17 hC17; have HR111 := Aside0.mk (Kd.C_of_reads (h1 := fun _ => rfl) (hA17 _ (Kd.reads_of_C HR0.out))); have HC111 := Aside0.mk hC17; clear hA17 hC17 hi017 hsz17) | ((with_reducible refine gate_callee (f := 43) rfl ?_); refine goesL_ (some 23) rfl rfl Tryd.func43 (by kernel_rfl) rfl #[.slice A0 z110.length c0] rfl (by (try simp only [List.map_toArray, List.map_cons, List.map_nil]); first | done | (rw [show z110.length = t110.toNat from (by rw [← Nz110.out, List.length_take]; have h_ : (t110 : Int) ≤ (l0.length : Int) := of_decide_eq_true dS; omega)] <;> rfl) | rfl | (simp only [List.length_drop, List.length_take]; rfl)) ?_; (with_reducible refine (nat_Bits.calls k _ _ z110 t112 _ ?side1 ?side2 A10.out).mono ?_); (case side1 => exact dC HR111.out); (case side2 => exact HC111.out); rintro e w' ⟨rfl, ⟨nd, rfl⟩⟩; refine ⟨_, rfl, ?_⟩) | ((with_reducible refine gate_dst (N := 32) rfl ?_); refine Kd.R_make (Kd.int .u64) _ 26 rfl (N := 32) rfl 22 _ _ rfl ji13 rfl rfl Tryd.underlying22 (.int .u64 0) 8 info26 rfl (by decide) (by omega) 0 (ok := fun _ => True) (okp := fun _ => True) rfl (fun _ hk => hk) trivial (of_decide_eq_true dS) (Nat.le_trans (Nat.mul_le_mul_right _ (of_decide_eq_true dS : ji13.toNat ≤ 35184372088832)) (by omega)) (Below.refl _ _) (Nat.le_refl _) ?_; intro v114 w18 ho19 hb hg_ hnew_; clear hg_ hnew_; rw [← Nyq.out] at ho19; have HO115 := Aside0.mk (Kd.R_lower ho19 (below_size dB)); replace HB := Aside0.mk (below_step dB hb); clear hb ho19; obtain ⟨Ao20, co20, eo20⟩ := Kd.R_slice HO115.out; rw [Cq.out.2.2.1] at eo20; subst eo20; obtain ⟨i0q, hi0q, _, hszq, _⟩ := info_parts info26; have hcutq := cut_from (P := Tryd.prog) 22 26 .i64 Tryd.underlying22 hi0q 1 hszq Ao20 y113.length co20 (wrap64 (Int.tdiv a1 64)) Cq.out.1 Cq.out.2.1; clear hi0q hszq; obtain ⟨Aq, hAq⟩ : ∃ A_ : Option Addr, A_ = (if co20 = (wrap64 (Int.tdiv a1 64)).toNat then Ao20 else Ao20.map (·.add ((wrap64 (Int.tdiv a1 64)).toNat * 1))) := ⟨_, rfl⟩; rw [← hAq] at hcutq; have NAq := Aside0.mk hAq; clear hAq) | ((with_reducible refine gate_dst (N := 38) rfl ?_); refine Kd.R_copy_at (enc := Value.int .u64) (h1 := fun _ => rfl) (0 : Int) w.heap.size rfl (.tmp 36) (.tmp 37) 22 22 26 rfl Tryd.underlying22 (by kernel_rfl) Ao20 co20 (wrap64 (Int.tdiv a1 64)).toNat y113.length yq z110 Cq.out.2.2.1 A0 z110.length c0 (fun _ => True) Aq NAq.out rfl rfl (by have := Cq.out.2.1; have := Cq.out.1; omega) HO115.out ?hcr HB.out HB.out.size ?_; (case hcr => exact Kd.C_below HR111.out HB.out); intro wq hoq hbq _; rw [shl_copied Cq.out.2.2.1 Cq.out.2.2.2] at hoq; clear HO115; have HO115 := Aside0.mk hoq; clear HB; have HB := Aside0.mk hbq; clear hoq hbq hcutq))
         go_loopg [8] k (fun kq v8 w' => ∃ (x6_1 : List Int) (x8_1 : Int), v8 = .int .i64 x8_1 ∧ Aside0 (nat_Shl.l0 kq a1 x6_1 (Int.tmod a1 64) x8_1 = some (r1, r2)) ∧ Aside0 (kq ≤ k) ∧ Aside0 (Kd.R (Kd.int .u64) 26 w' w.heap.size (fun _ => True) (.slice Ao20 y113.length co20) x6_1) ∧ Aside0 (Below w.heap.size w w'))
         case atStart => exact ⟨(y113), (wrap64 ((y113.length : Int) - 1)), dF, H', ⟨Nat.le_refl _⟩, ⟨dR HO115.out⟩, ⟨dB⟩⟩
         case round =>
          clear H'
          try clear c4
          try clear c4b0
          try clear c4b1
          try clear c5
          try clear c5b0
          try clear c5b1
          try clear c6
          try clear c6b0
          try clear c8
          try clear c8b0
          try clear c8b1
          try clear c8b2
          try clear c11
          try clear c11b0
          try clear c14
          try clear c14b0
          try clear c14b1
          try clear c15
          try clear Cq
          try clear Nyq
          try clear Ny113
          try clear c15b0
          try clear c15b1
          try clear c16
          try clear c16b0
          obtain ⟨x6_1, x8_1, rfl, HA, HK1, HO_6, HB⟩ := hrel
          have hl6_1 := (Kd.R_reads' HO_6.out).1
          rw [hl6_1] at HO_6
          (try simp only [hl6_1])
          cases gk with
          | zero => exact absurd HA.out (by simp [nat_Shl.l0])
          | succ k1 =>
           have H := HA.out
           clear HA
           simp only [nat_Shl.l0] at H
           by_cases c21 : x8_1 > (wrap64 (Int.tdiv a1 64))
           ·rw [if_pos c21] at H
            have c21b0 : decide ((wrap64 (Int.tdiv a1 64)) < x8_1) = true := decide_eq_true c21
            clear c21
            by_cases c22 : (0 : Int) ≤ x8_1
            ·rw [if_pos c22] at H
             have c22b0 : decide (0 ≤ x8_1) = true := decide_eq_true c22
             clear c22
             by_cases c23 : x8_1 < (x6_1.length : Int)
             ·rw [if_pos c23] at H
              have c23b0 : decide (x8_1 < (x6_1.length : Int)) = true := decide_eq_true c23
              clear c23
              obtain ⟨ji24, hji24⟩ : ∃ j_ : Int, (wrap64 (x8_1 - 1)) = j_ := ⟨_, rfl⟩
              first | rw [hji24] at H | simp only [hji24] at H
              have hji24w : (IntKind.i64.wrap (x8_1 - 1)) = ji24 := (i64_w _).trans hji24
              by_cases c25 : (0 : Int) ≤ (ji24)
              ·rw [if_pos c25] at H
               have c25b0 : decide (0 ≤ (ji24)) = true := decide_eq_true c25
               clear c25
               by_cases c26 : (ji24) < (x6_1.length : Int)
               ·rw [if_pos c26] at H
                have c26b0 : decide ((ji24) < (x6_1.length : Int)) = true := decide_eq_true c26
                clear c26
                replace H := obe H
                obtain ⟨⟨t118, t119⟩, A270, H⟩ := H
                (try dsimp only at H)
                have A27 := Aside0.mk A270
                clear A270
                obtain ⟨y120, hy120⟩ : ∃ y_ : List Int, y_ = (x6_1.set (x8_1 : Int).toNat t118) := ⟨_, rfl⟩
                replace H : (nat_Shl.l0 k1 a1 y120 (Int.tmod a1 64) ji24) = some (r1, r2) := by first | (rw [hy120]; with_reducible exact H) | (have H2_ := (Option.bind_some _ _).symm.trans H; rw [hy120]; with_reducible exact H2_) | (have H2_ := (Option.bind_some _ _).symm.trans H; with_reducible exact H2_) | with_reducible exact H | (rw [hy120]; exact H) | exact H
                have Ny120 := Aside0.mk hy120
                clear hy120
                have H' := Aside0.mk H
                clear H
                try go_wp2
                replace HO_6 := Aside0.mk (Kd.R_drew HO_6.out)
                replace HB := Aside0.mk (below_drew1 HB.out)
                have p116 : 0 ≤ (x8_1 : Int) := of_decide_eq_true dS
                have q116 : x8_1 < (x6_1.length : Int) := of_decide_eq_true dS
                obtain ⟨ad116, e116, hx116_0⟩ := Kd.at_int (Kd.R_reads' HO_6.out).2.2 x8_1 p116 q116
                cases e116
                replace p116 := eq_true p116
                replace q116 := eq_true q116
                have p117 : 0 ≤ ((ji24) : Int) := of_decide_eq_true dS
                have q117 : (ji24) < (x6_1.length : Int) := of_decide_eq_true dS
                obtain ⟨ad117, e117, hx117_0⟩ := Kd.at_int (Kd.R_reads' HO_6.out).2.2 (ji24) p117 q117
                obtain rfl : ad116 = ad117 := (by injection e117)
                replace p117 := eq_true p117
                replace q117 := eq_true q117
                refine start_ (n := 18) (S := fun w' => w'.cell? (ad116.add (x8_1).toNat) = some (.int .u64 (rd x6_1 x8_1)) ∧ w'.cell? (ad116.add ((ji24)).toNat) = some (.int .u64 (rd x6_1 (ji24)))) (ds := [17]) #[false, false, false, false, false, false, false, false, false, false, false, false, false, false, false, false, false, false] (by kernel_rfl) rfl rfl ⟨hx116_0, hx117_0⟩ (fun hHeld => ?_); refine with_tabW nat_Shl.tab15 nat_Shl.bits15 (fun HT_ HW_ => ?_)
                generalize wr.drew = w29 at HO_6 HB hx116_0 hx117_0 hHeld ⊢
                refine pP 0 (some 53) ?_
                refine pP 1 (some 54) ?_
                refine pP 2 (some 55) ?_
                refine pP 3 (some 56) ?_
                refine pP 4 (some 57) ?_
                refine pP 6 (some 59) ?_
                refine pP 7 (some 60) ?_
                refine pP 8 (some 61) ?_
                refine pP 9 (some 62) ?_
                refine pP 11 (some 64) ?_
                refine pH2 5 (some 58) hHeld ?_
                refine pH2 10 (some 63) hHeld ?_
                refine one_ (i := 12) (N := some 65) #[true, true, true, true, true, true, true, true, true, true, true, true, true, false, false, false, false, false] rfl rfl (one_of HT_.out (by kernel_rfl)) (by decide) (fun K hK => ?_)
                refine goes_ Tryd.func55 (by kernel_rfl) rfl #[.int .u64 (rd x6_1 x8_1), .int .u64 (rd x6_1 (ji24)), .int .i64 (Int.tmod a1 64)] (by rfl) rfl rfl (by (try simp only [List.map_toArray, List.map_cons, List.map_nil]); first | done | (simp only [hji24]; rfl) | rfl | (simp only [List.length_drop, List.length_take]; rfl)) ?_
                with_reducible refine (wide_Shl.calls (rd x6_1 x8_1) (rd x6_1 (ji24)) (Int.tmod a1 64) t118 t119 _ A27.out).mono ?_
                rintro e w30 ⟨rfl, hb⟩
                have HS0_ := (hb.cell (World.block_lt_of_cell? _ _ (hHeld.1))).trans (hHeld.1)
                have HS1_ := (hb.cell (World.block_lt_of_cell? _ _ (hHeld.2))).trans (hHeld.2)
                refine ⟨_, rfl, ?_⟩
                replace HO_6 := Aside0.mk (Kd.R_below (dR HO_6.out) hb)
                replace HB := Aside0.mk (below_step dB hb)
                (try clear hb)
                (try clear hb2)
                (try clear hk)
                (try clear hi)
                have p28 : 0 ≤ (x8_1 : Int) := of_decide_eq_true dS
                have q28 : (x8_1 : Int) < ((x6_1.length : Int) : Int) := of_decide_eq_true dS
                obtain ⟨go28, co28, eo28, gb28, gl28, cl28, HG28⟩ := Kd.R_form HO_6.out (by omega)
                (first | cases eo28 | (injection eo28 with ea_ en_ ec_; (first | subst ea_ | (injection ea_ with ea_; subst ea_)); subst ec_; clear en_))
                have GB28 := Aside0.mk gb28
                have GG28 := Aside0.mk HG28
                clear gb28 gl28 HG28
                (first | simp only [add_plain] at hx116_0 | skip)
                (first | simp only [add_plain] at hx117_0 | skip)
                obtain ⟨hx28_0, hf28_0⟩ := Kd.R_celln 0 HO_6.out (x8_1 : Int) p28 q28
                replace p28 := eq_true p28
                replace q28 := eq_true q28
                have HP31 := Kd.R_putn HO_6.out (x8_1 : Int) t118
                rw [← Ny120.out] at HP31
                have HQ31 := Aside0.mk HP31
                clear HP31
                refine hK.out _ _ ⟨HS0_, HS1_⟩ (fun hHeld => ?_)
                clear hK K
                refine norm_ (a' := ?_) ?_ ?_
                rotate_left
                ·show Act.put _ (some 65) _ = _
                 simp only [Act.put, List.setIfInBounds_toArray, List.set_cons_zero, List.set_cons_succ, i64_w, i32_w]
                 rfl
                refine pP 13 (some 52) ?_
                refine pP 14 (some 66) ?_
                refine pP 15 (some 67) ?_
                refine pP 16 (some 68) ?_
                refine last_ (i := 17) (N := none) #[true, true, true, true, true, true, true, true, true, true, true, true, true, true, true, true, true, true] rfl rfl (one_of HT_.out (by kernel_rfl)) (by decide) (fun K hK => ?_)
                refine skip_ (w1 := ?_) (by rfl) rfl ?_ ?_
                rotate_left
                ·go_simp
                 rfl
                refine hK.out _ _ ?_
                clear hK K
                refine done_ (done_of HT_.out (by kernel_rfl)) ?_
                try go_wp2
                (try simp only [← hl6_1])
                go_roundg k1
                case measure => have := HK1.out; omega
                case rel => exact ⟨(y120), (ji24), (by first | rfl | (simp; done) | (simp only [← hji24] <;> (first | rfl | simp)) | (simp [*]; done)), H', ⟨by have := HK1.out; omega⟩, ⟨by (try simp only [hl6_1]); (with_reducible repeat (first | apply Kd.R_alloc | apply Kd.R_drewN | apply Kd.R_drew)); exact HQ31.out⟩, ⟨by repeat (first | (with_reducible first | exact HB.out | apply below_alloc | apply pw_below_drewN | apply below_drew1 | refine below_set ?_ GB28.out) | exact HB.out)⟩⟩
               ·rw [if_neg c26] at H
                exact absurd H (by simp)
              ·rw [if_neg c25] at H
               exact absurd H (by simp)
             ·rw [if_neg c23] at H
              exact absurd H (by simp)
            ·rw [if_neg c22] at H
             exact absurd H (by simp)
           ·rw [if_neg c21] at H
            have c21b0 : decide ((wrap64 (Int.tdiv a1 64)) < x8_1) = false := decide_eq_false c21
            clear c21
            obtain ⟨ji32, hji32⟩ : ∃ j_ : Int, (wrap64 (Int.tdiv a1 64)) = j_ := ⟨_, rfl⟩
            first | rw [hji32] at H | simp only [hji32] at H
            (try rw [hji32] at c21b0)
            have hji32w : (IntKind.i64.wrap (Int.tdiv a1 64)) = ji32 := (i64_w _).trans hji32
            by_cases c33 : (0 : Int) ≤ (ji32)
            ·rw [if_pos c33] at H
             have c33b0 : decide (0 ≤ (ji32)) = true := decide_eq_true c33
             clear c33
             by_cases c34 : (ji32) < (x6_1.length : Int)
             ·rw [if_pos c34] at H
              have c34b0 : decide ((ji32) < (x6_1.length : Int)) = true := decide_eq_true c34
              clear c34
              obtain ⟨ji35, hji35⟩ : ∃ j_ : Int, (Int.tmod a1 64) = j_ := ⟨_, rfl⟩
              first | rw [hji35] at H | simp only [hji35] at H
              (try rw [hji35] at c16b0)
              by_cases c36 : (0 : Int) ≤ (ji35)
              ·rw [if_pos c36] at H
               have c36b0 := eq_true c36
               have c36b1 : decide (0 ≤ (ji35)) = true := decide_eq_true c36
               clear c36
               obtain ⟨ji37, hji37⟩ : ∃ j_ : Int, (shl .u64 (rd x6_1 (ji32)) (ji35)) = j_ := ⟨_, rfl⟩
               first | rw [hji37] at H | simp only [hji37] at H
               have hji37_ : (IntKind.u64.wrap ((rd x6_1 (ji32)) * 2 ^ min (ji35).toNat 64)) = ji37 := hji37
               have hji37z : (ji35) ≤ 64 → (IntKind.u64.wrap ((rd x6_1 (ji32)) * 2 ^ (ji35).toNat)) = ji37 := shl_small hji37
               obtain ⟨y122, hy122⟩ : ∃ y_ : List Int, y_ = (x6_1.set ((ji32) : Int).toNat (ji37)) := ⟨_, rfl⟩
               replace H : ((nat_bound.f k1 y122).bind fun bt123 => (some (bt123.1, bt123.2))) = some (r1, r2) := by first | (rw [hy122]; with_reducible exact H) | (have H2_ := (Option.bind_some _ _).symm.trans H; rw [hy122]; with_reducible exact H2_) | (have H2_ := (Option.bind_some _ _).symm.trans H; with_reducible exact H2_) | with_reducible exact H | (rw [hy122]; exact H) | exact H
               have Ny122 := Aside0.mk hy122
               clear hy122
               replace H := obe H
               obtain ⟨⟨t123, t126⟩, A390, H⟩ := H
               (try dsimp only at H)
               have A39 := Aside0.mk A390
               clear A390
               simp only [Option.some.injEq, Prod.mk.injEq] at H
               obtain ⟨rfl, rfl⟩ := H
               have p121 : 0 ≤ ((ji32) : Int) := of_decide_eq_true dS
               have q121 : (ji32) < (x6_1.length : Int) := of_decide_eq_true dS
               obtain ⟨ad121, e121, hx121_0⟩ := Kd.at_int (Kd.R_reads' HO_6.out).2.2 (ji32) p121 q121
               cases e121
               replace p121 := eq_true p121
               replace q121 := eq_true q121
               have p38 : 0 ≤ ((ji32) : Int) := of_decide_eq_true dS
               have q38 : ((ji32) : Int) < ((x6_1.length : Int) : Int) := of_decide_eq_true dS
               obtain ⟨go38, co38, eo38, gb38, gl38, cl38, HG38⟩ := Kd.R_form HO_6.out (by omega)
               (first | cases eo38 | (injection eo38 with ea_ en_ ec_; (first | subst ea_ | (injection ea_ with ea_; subst ea_)); subst ec_; clear en_))
               have GB38 := Aside0.mk gb38
               have GG38 := Aside0.mk HG38
               clear gb38 gl38 HG38
               (first | simp only [add_plain] at hx121_0 | skip)
               obtain ⟨hx38_0, hf38_0⟩ := Kd.R_celln 0 HO_6.out ((ji32) : Int) p38 q38
               replace p38 := eq_true p38
               replace q38 := eq_true q38
               have HP40 := Kd.R_putg HO_6.out ((ji32) : Int) ji37
               go_wp2_with (first | ((with_reducible refine gate_store (t := 26) (p := 76) rfl ?_); refine store_event (t := 26) (p := 76) (v := ?vo_w41) (w1 := (wr.setCell ⟨go38, ((ji32) : Int).toNat, none⟩ (.int .u64 ji37))) ?hg ?ho ?hn ?hr ?_; (case ho => rfl); (case hg => rfl); (case hn => rfl); (case hr => first | (go_simp; done) | (go_simp; rfl)); intro w41 hw; have hg : wr.grownBy w41 (some go38) := (by rw [hw]; exact HP40.2); have hp_ : Kd.R (Kd.int .u64) 26 w41 w.heap.size (fun _ => True) (.slice (some ⟨go38, 0, none⟩) x6_1.length co20) y122 := (by rw [hw, Ny122.out]; exact HP40.1); clear HP40; replace HO_6 := Aside0.mk (hp_); replace HB := Aside0.mk ((by rw [hw]; exact below_set (HB.out) GB38.out : Below w.heap.size w w41)); clear hg hw hp_) | ((with_reducible refine gate_callee (f := 56) rfl ?_); refine gL (some 78) Tryd.func56 #[.slice (some ⟨go38, 0, none⟩) x6_1.length co20] ?_; (with_reducible refine (nat_bound.calls k1 (fun k_ => some k_ = (.slice (some ⟨go38, 0, none⟩) x6_1.length co20 : Value).ownBlock) (.slice (some ⟨go38, 0, none⟩) x6_1.length co20) y122 t123 t126 w _ ?side1 ?side2 A39.out).mono ?_); (case side1 => repeat (first | (with_reducible first | exact HB.out | apply below_alloc | apply pw_below_drewN | apply below_drew1) | exact HB.out)); (case side2 => exact Kd.R_tight rfl HO_6.out); rintro e w42 ⟨v124, rfl, ho0, hb, hkp⟩; refine ⟨_, rfl, ?_⟩; have HO125 := Aside0.mk (Kd.R_mono (ok' := fun k_ => True) ho0 (fun k_ hk_ => trivial)); replace HB := Aside0.mk (hb); clear HO_6; (try clear hb); (try clear hkp); (try clear ho0)))
               go_ret2
               exact ⟨_, by first | rfl | (simp [errW_none, errW_some] <;> rfl) | (simp only [← hji13, ← hji32, ← hji35, ← hji37]; first | rfl | (simp [errW_none, errW_some] <;> rfl)) | (simp [*, errW_none, errW_some] <;> rfl), dR HO125.out, dB⟩
              ·rw [if_neg c36] at H
               exact absurd H (by simp)
             ·rw [if_neg c34] at H
              exact absurd H (by simp)
            ·rw [if_neg c33] at H
             exact absurd H (by simp)
        ·rw [if_neg c16] at H
         have c16b0 : decide (0 < (Int.tmod a1 64)) = false := decide_eq_false c16
         clear c16
         replace H := obe H
         obtain ⟨⟨t127, t130⟩, A430, H⟩ := H
         (try dsimp only at H)
         have A43 := Aside0.mk A430
         clear A430
         simp only [Option.some.injEq, Prod.mk.injEq] at H
         obtain ⟨rfl, rfl⟩ := H
         go_enter Tryd.func21, Tryd.ntmps21
         go_wp2_with (first | ((with_reducible refine gate_callee (f := 54) rfl ?_); refine gL (some 11) Tryd.func54 #[.slice A0 l0.length c0] ?_; (with_reducible refine (nat_size.calls k _ _ l0 t110 _ ?side1 ?side2 A3.out).mono ?_); (case side1 => exact dC HR0.out); (case side2 => exact HC0.out); rintro e w' ⟨rfl, ⟨nd, rfl⟩⟩; refine ⟨_, rfl, ?_⟩; obtain ⟨i044, hi044, _, hsz44, _⟩ := info_parts info26; obtain ⟨hcut44, hA44, hC44⟩ := print_take_of (P := Tryd.prog) (Value.int .u64) 0 22 26 .i64 Tryd.underlying22 hi044 hsz44 A0 c0 l0 t110 (of_decide_eq_true dS) (of_decide_eq_true dS) HC0.out; rw [Nz110.out] at hcut44 hA44 hC44; have HR111 := Aside0.mk (Kd.C_of_reads (h1 := fun _ => rfl) (hA44 _ (Kd.reads_of_C HR0.out))); have HC111 := Aside0.mk hC44; clear hA44 hC44 hi044 hsz44) | ((with_reducible refine gate_callee (f := 43) rfl ?_); refine goesL_ (some 23) rfl rfl Tryd.func43 (by kernel_rfl) rfl #[.slice A0 z110.length c0] rfl (by (try simp only [List.map_toArray, List.map_cons, List.map_nil]); first | done | (rw [show z110.length = t110.toNat from (by rw [← Nz110.out, List.length_take]; have h_ : (t110 : Int) ≤ (l0.length : Int) := of_decide_eq_true dS; omega)] <;> rfl) | rfl | (simp only [List.length_drop, List.length_take]; rfl)) ?_; (with_reducible refine (nat_Bits.calls k _ _ z110 t112 _ ?side1 ?side2 A10.out).mono ?_); (case side1 => exact dC HR111.out); (case side2 => exact HC111.out); rintro e w' ⟨rfl, ⟨nd, rfl⟩⟩; refine ⟨_, rfl, ?_⟩) | ((with_reducible refine gate_dst (N := 32) rfl ?_); refine Kd.R_make (Kd.int .u64) _ 26 rfl (N := 32) rfl 22 _ _ rfl ji13 rfl rfl Tryd.underlying22 (.int .u64 0) 8 info26 rfl (by decide) (by omega) 0 (ok := fun _ => True) (okp := fun _ => True) rfl (fun _ hk => hk) trivial (of_decide_eq_true dS) (Nat.le_trans (Nat.mul_le_mul_right _ (of_decide_eq_true dS : ji13.toNat ≤ 35184372088832)) (by omega)) (Below.refl _ _) (Nat.le_refl _) ?_; intro v114 w45 ho46 hb hg_ hnew_; clear hg_ hnew_; rw [← Nyq.out] at ho46; have HO115 := Aside0.mk (Kd.R_lower ho46 (below_size dB)); replace HB := Aside0.mk (below_step dB hb); clear hb ho46; obtain ⟨Ao47, co47, eo47⟩ := Kd.R_slice HO115.out; rw [Cq.out.2.2.1] at eo47; subst eo47; obtain ⟨i0q, hi0q, _, hszq, _⟩ := info_parts info26; have hcutq := cut_from (P := Tryd.prog) 22 26 .i64 Tryd.underlying22 hi0q 1 hszq Ao47 y113.length co47 (wrap64 (Int.tdiv a1 64)) Cq.out.1 Cq.out.2.1; clear hi0q hszq; obtain ⟨Aq, hAq⟩ : ∃ A_ : Option Addr, A_ = (if co47 = (wrap64 (Int.tdiv a1 64)).toNat then Ao47 else Ao47.map (·.add ((wrap64 (Int.tdiv a1 64)).toNat * 1))) := ⟨_, rfl⟩; rw [← hAq] at hcutq; have NAq := Aside0.mk hAq; clear hAq) | ((with_reducible refine gate_dst (N := 38) rfl ?_); refine Kd.R_copy_at (enc := Value.int .u64) (h1 := fun _ => rfl) (0 : Int) w.heap.size rfl (.tmp 36) (.tmp 37) 22 22 26 rfl Tryd.underlying22 (by kernel_rfl) Ao47 co47 (wrap64 (Int.tdiv a1 64)).toNat y113.length yq z110 Cq.out.2.2.1 A0 z110.length c0 (fun _ => True) Aq NAq.out rfl rfl (by have := Cq.out.2.1; have := Cq.out.1; omega) HO115.out ?hcr HB.out HB.out.size ?_; (case hcr => exact Kd.C_below HR111.out HB.out); intro wq hoq hbq _; rw [shl_copied Cq.out.2.2.1 Cq.out.2.2.2] at hoq; clear HO115; have HO115 := Aside0.mk hoq; clear HB; have HB := Aside0.mk hbq; clear hoq hbq hcutq) | ((with_reducible refine gate_callee (f := 56) rfl ?_); refine gL (some 78) Tryd.func56 #[.slice Ao47 y113.length co47] ?_; (with_reducible refine (nat_bound.calls k (fun k_ => some k_ = (.slice Ao47 y113.length co47 : Value).ownBlock) (.slice Ao47 y113.length co47) y113 t127 t130 w _ ?side1 ?side2 A43.out).mono ?_); (case side1 => repeat (first | (with_reducible first | exact HB.out | apply below_alloc | apply pw_below_drewN | apply below_drew1) | exact HB.out)); (case side2 => exact Kd.R_tight rfl HO115.out); rintro e w48 ⟨v128, rfl, ho0, hb, hkp⟩; refine ⟨_, rfl, ?_⟩; have HO129 := Aside0.mk (Kd.R_mono (ok' := fun k_ => True) ho0 (fun k_ hk_ => trivial)); replace HB := Aside0.mk (hb); clear HO115; (try clear hb); (try clear hkp); (try clear ho0)))
         go_ret2
         exact ⟨_, by first | rfl | (simp [errW_none, errW_some] <;> rfl) | (simp only [← hji13]; first | rfl | (simp [errW_none, errW_some] <;> rfl)) | (simp [*, errW_none, errW_some] <;> rfl), dR HO129.out, dB⟩
       ·rw [if_neg c15] at H
        exact absurd H (by simp)
      ·rw [if_neg c14] at H
       exact absurd H (by simp)
  ·rw [if_neg c5] at H
   exact absurd H (by simp)
 ·rw [if_neg c4] at H
  exact absurd H (by simp)

end Go.Proofs.YtoefabmlkbhmpaaDoor.PA

namespace Go.Proofs.YtoefabmlkbhmpaaDoor.PA
open Go.RowKit Go.Proofs.YtoefabmlkbhmpaaDoorW.PrintWords Go.Proofs.YtoefabmlkbhmpaaDoorW.PrintLast Go.Proofs.YtoefabmlkbhmpaaDoorW.PrintMore
attribute [local go_sem] max2_int min2_int max_two min_two max_three min_three max_four min_four   -- for this text's walks alone
set_option linter.unusedVariables false
set_option linter.unusedSimpArgs false

/-! ### nat_sum: function 57 (by hand) -/
def nat_sum.f (l0 : List Int) (l1 : List Int) : Option (List Int) := if wsB l0 = true ∧ wsB l1 = true ∧ l0.length < 35184372088832 ∧ l1.length < 35184372088832 then some (wn (max l0.length l1.length + 1) (nv l0 + nv l1)) else none
mutual
def nat_sum.l0 : Nat → List Int → List Int → Int → List Int → Int → Int → Option (List Int)
 | 0, _, _, _, _, _, _ => none
 | k + 1, x1, x5, x6, x24, x25, x26 => if x26 < x25 then (if 0 ≤ x26 then (if x26 < (x24.length : Int) then (if x26 < (x5.length : Int) then ((wide_Add.f (rd x5 x26) (rd x24 x26) x6).bind fun bt111 => (nat_sum.l0 k x1 (x5.set (x26 : Int).toNat bt111.1) bt111.2 x24 x25 (wrap64 (x26 + 1)))) else (none)) else (none)) else (none)) else (nat_sum.l1 k x5 x6 (x1.length : Int))
def nat_sum.l1 : Nat → List Int → Int → Int → Option (List Int)
 | 0, _, _, _ => none
 | k + 1, x5, x6, x9 => if x6 > 0 then (if 0 ≤ x9 then (if x9 < (x5.length : Int) then ((wide_Add.f (rd x5 x9) 0 x6).bind fun bt115 => (nat_sum.l1 k (x5.set (x9 : Int).toNat bt115.1) bt115.2 (wrap64 (x9 + 1)))) else (none)) else (none)) else (some x5)
end
theorem sum_copied {l0 : List Int} : l0.take (min l0.length (List.replicate (l0.length + 1) (0 : Int)).length) ++ (List.replicate (l0.length + 1) (0 : Int)).drop (min l0.length (List.replicate (l0.length + 1) (0 : Int)).length) = l0 ++ [0] := by
 rw [List.length_replicate, Nat.min_eq_left (by omega), List.take_length, List.drop_replicate]
 simp
set_option maxHeartbeats 8000000 in
set_option maxRecDepth 100000 in
theorem nat_sum.coreA (k : Nat) (A0 : Option Addr) (c0 : Nat) (l0 : List Int) (A1 : Option Addr) (c1 : Nat) (l1 : List Int) (r : List Int) (w : World) (hr0 : Kd.C (Kd.int .u64) w A0 l0.length l0) (hr1 : Kd.C (Kd.int .u64) w A1 l1.length l1) (hlen : l0.length < 35184372088832) (g : decide (l0.length < l1.length) = false) (h : nat_sum.l0 k l1 (l0 ++ [0]) 0 l1 (l1.length : Int) 0 = some r) :
  Calls Tryd.prog 57 #[.slice A0 l0.length c0, .slice A1 l1.length c1] w fun e w' => ∃ v0_ : Value, e = .returned (v0_) ∧ Kd.R (Kd.int .u64) 26 w' w.heap.size (fun _ => True) v0_ r ∧ Below w.heap.size w w' := by
 have HR0 := Aside0.mk hr0
 have HR1 := Aside0.mk hr1
 clear hr0 hr1
 have H' := Aside0.mk h
 clear h
 go_enter Tryd.func57, Tryd.ntmps57
 go_wp2_with (first
  | ((with_reducible refine gate_dst (N := 20) rfl ?_); refine Kd.R_make (Kd.int .u64) _ 26 rfl (N := 20) rfl 22 _ _ rfl ((l0.length : Int) + 1) rfl rfl Tryd.underlying22 (.int .u64 0) 8 info26 rfl (by decide) (by omega) 0 (ok := fun _ => True) (okp := fun _ => True) rfl (fun _ hk => hk) trivial (by omega) (by omega) (Below.refl _ _) (Nat.le_refl _) ?_; intro v107 w6 ho7 hb hg_ hnew_; clear hg_ hnew_; have HO107 := Aside0.mk (show Kd.R (Kd.int .u64) 26 w6 w.heap.size (fun _ => True) v107 (List.replicate (l0.length + 1) 0) from ho7); have HB := Aside0.mk hb; clear hb ho7)
  | ((with_reducible refine gate_dst (N := 23) rfl ?_); refine Kd.R_copy (enc := Value.int .u64) (h1 := fun _ => rfl) (0 : Int) w.heap.size rfl (.tmp 21) (.tmp 22) 22 22 26 rfl Tryd.underlying22 (by kernel_rfl) v107 (List.replicate (l0.length + 1) 0) l0 A0 l0.length c0 (fun _ => True) rfl rfl HO107.out (Kd.C_below HR0.out HB.out) HB.out HB.out.size ?_; intro w7 ho8 hb _; rw [sum_copied] at ho8; have HO108 := Aside0.mk ho8; clear HO107 HB; have HB := Aside0.mk hb; clear hb ho8))
 go_loopg [6, 26] k (fun kq v6 v26 w' => ∃ (x5_1 : List Int) (x6_1 : Int) (x26_1 : Int), v6 = .int .u64 x6_1 ∧ v26 = .int .i64 x26_1 ∧ Aside0 (nat_sum.l0 kq l1 x5_1 x6_1 l1 (l1.length : Int) x26_1 = some r) ∧ Aside0 (kq ≤ k) ∧ Aside0 (Kd.R (Kd.int .u64) 26 w' w.heap.size (fun _ => True) v107 x5_1) ∧ Aside0 (Below w.heap.size w w'))
 case atStart => exact ⟨(l0 ++ [0]), (0), (0), dF, dF, H', ⟨Nat.le_refl _⟩, ⟨dR HO108.out⟩, ⟨dB⟩⟩
 case round =>
  clear H'
  try clear c1
  try clear p2
  try clear c4
  try clear c4b0
  try clear c4b1
  try clear c5
  try clear c5b0
  try clear c5b1
  try clear p6
  obtain ⟨x5_1, x6_1, x26_1, rfl, rfl, HA, HK1, HO_5, HB⟩ := hrel
  cases gk with
  | zero => exact absurd HA.out (by simp [nat_sum.l0])
  | succ k1 =>
   have H := HA.out
   clear HA
   simp only [nat_sum.l0] at H
   by_cases c8 : x26_1 < (l1.length : Int)
   ·rw [if_pos c8] at H
    have c8b0 : decide (x26_1 < (l1.length : Int)) = true := decide_eq_true c8
    clear c8
    by_cases c9 : (0 : Int) ≤ x26_1
    ·rw [if_pos c9] at H
     have c9b0 : decide (0 ≤ x26_1) = true := decide_eq_true c9
     clear c9
     by_cases c10 : x26_1 < (l1.length : Int)
     ·rw [if_pos c10] at H
      have c10b0 : decide (x26_1 < (l1.length : Int)) = true := decide_eq_true c10
      clear c10
      by_cases c11 : x26_1 < (x5_1.length : Int)
      ·rw [if_pos c11] at H
       have c11b0 : decide (x26_1 < (x5_1.length : Int)) = true := decide_eq_true c11
       clear c11
       replace H := obe H
       obtain ⟨⟨t111, t112⟩, A120, H⟩ := H
       replace H : (nat_sum.l0 k1 l1 (x5_1.set (x26_1 : Int).toNat t111) t112 l1 (l1.length : Int) (wrap64 (x26_1 + 1))) = some r := H
       have A12 := Aside0.mk A120
       clear A120
       obtain ⟨y113, hy113⟩ : ∃ y_ : List Int, y_ = (x5_1.set (x26_1 : Int).toNat t111) := ⟨_, rfl⟩
       replace H : (nat_sum.l0 k1 l1 y113 t112 l1 (l1.length : Int) (wrap64 (x26_1 + 1))) = some r := by first | (rw [hy113]; with_reducible exact H) | (have H2_ := (Option.bind_some _ _).symm.trans H; rw [hy113]; with_reducible exact H2_) | (have H2_ := (Option.bind_some _ _).symm.trans H; with_reducible exact H2_) | with_reducible exact H | (rw [hy113]; exact H) | exact H
       have Ny113 := Aside0.mk hy113
       clear hy113
       have H' := Aside0.mk H
       clear H
       have p109 : 0 ≤ (x26_1 : Int) := of_decide_eq_true dS
       have q109 : x26_1 < (l1.length : Int) := of_decide_eq_true dS
       obtain ⟨ad109, e109, hx109_0⟩ := Kd.at_int HR1.out x26_1 p109 q109
       cases e109
       replace hx109_0 := (HB.out.cell (World.block_lt_of_cell? w _ hx109_0)).trans hx109_0
       replace p109 := eq_true p109
       replace q109 := eq_true q109
       obtain ⟨Ao14, co14, eo14⟩ := Kd.R_slice HO_5.out
       subst eo14
       have p110 : 0 ≤ (x26_1 : Int) := of_decide_eq_true dS
       have q110 : x26_1 < (x5_1.length : Int) := of_decide_eq_true dS
       obtain ⟨ad110, e110, hx110_0⟩ := Kd.at_int (Kd.R_reads' HO_5.out).2.2 x26_1 p110 q110
       cases e110
       replace p110 := eq_true p110
       replace q110 := eq_true q110
       go_wp2_with (first | ((with_reducible refine gate_callee (f := 61) rfl ?_); refine gL (some 40) Tryd.func61 #[.int .u64 (rd x5_1 x26_1), .int .u64 (rd l1 x26_1), .int .u64 x6_1] ?_; (with_reducible refine (wide_Add.calls (rd x5_1 x26_1) (rd l1 x26_1) x6_1 t111 t112 _ A12.out).mono ?_); rintro e w' ⟨rfl, ⟨nd, rfl⟩⟩; refine ⟨_, rfl, ?_⟩; (try (rw [drewN_self wr]; generalize hq_ : World.drewN wr _ = wr; have n0_ : Aside0 (Kd.R (Kd.int .u64) 26 wr w.heap.size (fun _ => True) (.slice (some ad110) x5_1.length co14) x5_1) := ⟨by rw [← hq_]; exact (dR HO_5.out)⟩; have n1_ : Aside0 (Below w.heap.size w wr) := ⟨by rw [← hq_]; exact dB⟩; clear HO_5 HB hq_; have HO_5 := n0_; have HB := n1_; clear n0_ n1_)); have p13 : 0 ≤ (x26_1 : Int) := of_decide_eq_true dS; have q13 : (x26_1 : Int) < ((x5_1.length : Int) : Int) := of_decide_eq_true dS; obtain ⟨go13, co13, eo13, gb13, gl13, cl13, HG13⟩ := Kd.R_form HO_5.out (by omega); (first | cases eo13 | (injection eo13 with ea_ en_ ec_; (first | subst ea_ | (injection ea_ with ea_; subst ea_)); subst ec_; clear en_)); have GB13 := Aside0.mk gb13; have GG13 := Aside0.mk HG13; clear gb13 gl13 HG13; (first | simp only [add_plain] at hx110_0 | skip); obtain ⟨hx13_0, hf13_0⟩ := Kd.R_celln 0 HO_5.out (x26_1 : Int) p13 q13; replace p13 := eq_true p13; replace q13 := eq_true q13; obtain ⟨hy15_, hz15_⟩ := Kd.R_celln 0 HO_5.out (x26_1 : Int) (of_decide_eq_true dS) (of_decide_eq_true dS); have HP15 := Kd.R_putg HO_5.out (x26_1 : Int) t111) | ((with_reducible refine gate_store (t := 26) (p := 43) rfl ?_); refine store_event (t := 26) (p := 43) (v := ?vo_w16) (w1 := (wr.setCell ⟨go13, (x26_1 : Int).toNat, none⟩ (.int .u64 t111))) ?hg ?ho ?hn ?hr ?_; (case ho => rfl); (case hg => rfl); (case hn => rfl); (case hr => first | (go_simp; done) | (go_simp; rfl)); intro w16 hw; have hg : wr.grownBy w16 (some go13) := (by rw [hw]; exact HP15.2); have hp_ : Kd.R (Kd.int .u64) 26 w16 w.heap.size (fun _ => True) (.slice (some ⟨go13, 0, none⟩) x5_1.length co14) y113 := (by rw [hw, Ny113.out]; exact HP15.1); clear HP15; replace HO_5 := Aside0.mk (hp_); replace HB := Aside0.mk ((by rw [hw]; exact below_set (HB.out) GB13.out : Below w.heap.size w w16)); clear hg hw hp_))
       go_roundg k1
       case measure => have := HK1.out; omega
       case rel => exact ⟨(y113), (t112), (wrap64 (x26_1 + 1)), dF, dF, H', ⟨by have := HK1.out; omega⟩, ⟨dR HO_5.out⟩, ⟨dB⟩⟩
      ·rw [if_neg c11] at H
       exact absurd H (by simp)
     ·rw [if_neg c10] at H
      exact absurd H (by simp)
    ·rw [if_neg c9] at H
     exact absurd H (by simp)
   ·rw [if_neg c8] at H
    have c8b0 : decide (x26_1 < (l1.length : Int)) = false := decide_eq_false c8
    clear c8
    have H' := Aside0.mk H
    clear H
    go_wp2
    go_loopg [6, 9] k1 (fun kq v6 v9 w' => ∃ (x5_2 : List Int) (x6_2 : Int) (x9_2 : Int), v6 = .int .u64 x6_2 ∧ v9 = .int .i64 x9_2 ∧ Aside0 (nat_sum.l1 kq x5_2 x6_2 x9_2 = some r) ∧ Aside0 (kq ≤ k1) ∧ Aside0 (Kd.R (Kd.int .u64) 26 w' w.heap.size (fun _ => True) v107 x5_2) ∧ Aside0 (Below w.heap.size w w'))
    case atStart => exact ⟨(x5_1), (x6_1), ((l1.length : Int)), dF, dF, H', ⟨Nat.le_refl _⟩, ⟨dR HO_5.out⟩, ⟨dB⟩⟩
    case round =>
     clear H'
     try clear c1
     try clear p1
     try clear q1
     try clear hx1
     try clear p2
     try clear c4
     try clear c4b0
     try clear c4b1
     try clear c5
     try clear c5b0
     try clear c5b1
     try clear p6
     try clear c8
     try clear c8b0
     try clear c9
     try clear c9b0
     try clear c10
     try clear c10b0
     try clear p10
     try clear q10
     try clear hx10
     try clear c11
     try clear c11b0
     try clear p11
     try clear q11
     try clear hx11
     try clear p13
     try clear q13
     try clear hx13
     try clear hf13
     try clear hx109_0
     try clear hx110_0
     try clear hx13_0
     try clear p109
     try clear p110
     try clear p13
     try clear p2
     try clear p6
     try clear q109
     try clear q110
     try clear q13
     obtain ⟨x5_2, x6_2, x9_2, rfl, rfl, HA, HK2, HO_5, HB⟩ := hrel
     cases gk with
     | zero => exact absurd HA.out (by simp [nat_sum.l1])
     | succ k2 =>
      have H := HA.out
      clear HA
      simp only [nat_sum.l1] at H
      by_cases c17 : x6_2 > 0
      ·rw [if_pos c17] at H
       have c17b0 : decide (0 < x6_2) = true := decide_eq_true c17
       clear c17
       by_cases c18 : (0 : Int) ≤ x9_2
       ·rw [if_pos c18] at H
        have c18b0 : decide (0 ≤ x9_2) = true := decide_eq_true c18
        clear c18
        by_cases c19 : x9_2 < (x5_2.length : Int)
        ·rw [if_pos c19] at H
         have c19b0 : decide (x9_2 < (x5_2.length : Int)) = true := decide_eq_true c19
         clear c19
         replace H := obe H
         obtain ⟨⟨t115, t116⟩, A200, H⟩ := H
         replace H : (nat_sum.l1 k2 (x5_2.set (x9_2 : Int).toNat t115) t116 (wrap64 (x9_2 + 1))) = some r := H
         have A20 := Aside0.mk A200
         clear A200
         obtain ⟨y117, hy117⟩ : ∃ y_ : List Int, y_ = (x5_2.set (x9_2 : Int).toNat t115) := ⟨_, rfl⟩
         replace H : (nat_sum.l1 k2 y117 t116 (wrap64 (x9_2 + 1))) = some r := by first | (rw [hy117]; with_reducible exact H) | (have H2_ := (Option.bind_some _ _).symm.trans H; rw [hy117]; with_reducible exact H2_) | (have H2_ := (Option.bind_some _ _).symm.trans H; with_reducible exact H2_) | with_reducible exact H | (rw [hy117]; exact H) | exact H
         have Ny117 := Aside0.mk hy117
         clear hy117
         have H' := Aside0.mk H
         clear H
         obtain ⟨Ao22, co22, eo22⟩ := Kd.R_slice HO_5.out
         subst eo22
         have p114 : 0 ≤ (x9_2 : Int) := of_decide_eq_true dS
         have q114 : x9_2 < (x5_2.length : Int) := of_decide_eq_true dS
         obtain ⟨ad114, e114, hx114_0⟩ := Kd.at_int (Kd.R_reads' HO_5.out).2.2 x9_2 p114 q114
         cases e114
         replace p114 := eq_true p114
         replace q114 := eq_true q114
         go_wp2_with (first | ((with_reducible refine gate_callee (f := 61) rfl ?_); refine gL (some 59) Tryd.func61 #[.int .u64 (rd x5_2 x9_2), .int .u64 0, .int .u64 x6_2] ?_; (with_reducible refine (wide_Add.calls (rd x5_2 x9_2) 0 x6_2 t115 t116 _ A20.out).mono ?_); rintro e w' ⟨rfl, ⟨nd, rfl⟩⟩; refine ⟨_, rfl, ?_⟩; (try (rw [drewN_self wr]; generalize hq_ : World.drewN wr _ = wr; have n0_ : Aside0 (Kd.R (Kd.int .u64) 26 wr w.heap.size (fun _ => True) (.slice (some ad114) x5_2.length co22) x5_2) := ⟨by rw [← hq_]; exact (dR HO_5.out)⟩; have n1_ : Aside0 (Below w.heap.size w wr) := ⟨by rw [← hq_]; exact dB⟩; clear HO_5 HB hq_; have HO_5 := n0_; have HB := n1_; clear n0_ n1_)); have p21 : 0 ≤ (x9_2 : Int) := of_decide_eq_true dS; have q21 : (x9_2 : Int) < ((x5_2.length : Int) : Int) := of_decide_eq_true dS; obtain ⟨go21, co21, eo21, gb21, gl21, cl21, HG21⟩ := Kd.R_form HO_5.out (by omega); (first | cases eo21 | (injection eo21 with ea_ en_ ec_; (first | subst ea_ | (injection ea_ with ea_; subst ea_)); subst ec_; clear en_)); have GB21 := Aside0.mk gb21; have GG21 := Aside0.mk HG21; clear gb21 gl21 HG21; (first | simp only [add_plain] at hx114_0 | skip); obtain ⟨hx21_0, hf21_0⟩ := Kd.R_celln 0 HO_5.out (x9_2 : Int) p21 q21; replace p21 := eq_true p21; replace q21 := eq_true q21; obtain ⟨hy23_, hz23_⟩ := Kd.R_celln 0 HO_5.out (x9_2 : Int) (of_decide_eq_true dS) (of_decide_eq_true dS); have HP23 := Kd.R_putg HO_5.out (x9_2 : Int) t115) | ((with_reducible refine gate_store (t := 26) (p := 62) rfl ?_); refine store_event (t := 26) (p := 62) (v := ?vo_w24) (w1 := (wr.setCell ⟨go21, (x9_2 : Int).toNat, none⟩ (.int .u64 t115))) ?hg ?ho ?hn ?hr ?_; (case ho => rfl); (case hg => rfl); (case hn => rfl); (case hr => first | (go_simp; done) | (go_simp; rfl)); intro w24 hw; have hg : wr.grownBy w24 (some go21) := (by rw [hw]; exact HP23.2); have hp_ : Kd.R (Kd.int .u64) 26 w24 w.heap.size (fun _ => True) (.slice (some ⟨go21, 0, none⟩) x5_2.length co22) y117 := (by rw [hw, Ny117.out]; exact HP23.1); clear HP23; replace HO_5 := Aside0.mk (hp_); replace HB := Aside0.mk ((by rw [hw]; exact below_set (HB.out) GB21.out : Below w.heap.size w w24)); clear hg hw hp_))
         go_roundg k2
         case measure => have := HK1.out; have := HK2.out; omega
         case rel => exact ⟨(y117), (t116), (wrap64 (x9_2 + 1)), dF, dF, H', ⟨by have := HK1.out; have := HK2.out; omega⟩, ⟨dR HO_5.out⟩, ⟨dB⟩⟩
        ·rw [if_neg c19] at H
         exact absurd H (by simp)
       ·rw [if_neg c18] at H
        exact absurd H (by simp)
      ·rw [if_neg c17] at H
       have c17b0 : decide (0 < x6_2) = false := decide_eq_false c17
       clear c17
       obtain rfl := Option.some.inj H
       go_wp2
       go_ret
       exact ⟨_, by first | rfl | (simp [errW_none, errW_some] <;> rfl) | (simp only [← hji3]; first | rfl | (simp [errW_none, errW_some] <;> rfl)) | (simp [*, errW_none, errW_some] <;> rfl), dR HO_5.out, dB⟩
set_option maxHeartbeats 8000000 in
set_option maxRecDepth 100000 in
theorem nat_sum.coreB (k : Nat) (A0 : Option Addr) (c0 : Nat) (l0 : List Int) (A1 : Option Addr) (c1 : Nat) (l1 : List Int) (r : List Int) (w : World) (hr0 : Kd.C (Kd.int .u64) w A0 l0.length l0) (hr1 : Kd.C (Kd.int .u64) w A1 l1.length l1) (hlen : l0.length < 35184372088832) (g : decide (l1.length < l0.length) = true) (h : nat_sum.l0 k l1 (l0 ++ [0]) 0 l1 (l1.length : Int) 0 = some r) :
  Calls Tryd.prog 57 #[.slice A1 l1.length c1, .slice A0 l0.length c0] w fun e w' => ∃ v0_ : Value, e = .returned (v0_) ∧ Kd.R (Kd.int .u64) 26 w' w.heap.size (fun _ => True) v0_ r ∧ Below w.heap.size w w' := by
 have HR0 := Aside0.mk hr0
 have HR1 := Aside0.mk hr1
 clear hr0 hr1
 have H' := Aside0.mk h
 clear h
 go_enter Tryd.func57, Tryd.ntmps57
 go_wp2_with (first
  | ((with_reducible refine gate_dst (N := 20) rfl ?_); refine Kd.R_make (Kd.int .u64) _ 26 rfl (N := 20) rfl 22 _ _ rfl ((l0.length : Int) + 1) rfl rfl Tryd.underlying22 (.int .u64 0) 8 info26 rfl (by decide) (by omega) 0 (ok := fun _ => True) (okp := fun _ => True) rfl (fun _ hk => hk) trivial (by omega) (by omega) (Below.refl _ _) (Nat.le_refl _) ?_; intro v107 w6 ho7 hb hg_ hnew_; clear hg_ hnew_; have HO107 := Aside0.mk (show Kd.R (Kd.int .u64) 26 w6 w.heap.size (fun _ => True) v107 (List.replicate (l0.length + 1) 0) from ho7); have HB := Aside0.mk hb; clear hb ho7)
  | ((with_reducible refine gate_dst (N := 23) rfl ?_); refine Kd.R_copy (enc := Value.int .u64) (h1 := fun _ => rfl) (0 : Int) w.heap.size rfl (.tmp 21) (.tmp 22) 22 22 26 rfl Tryd.underlying22 (by kernel_rfl) v107 (List.replicate (l0.length + 1) 0) l0 A0 l0.length c0 (fun _ => True) rfl rfl HO107.out (Kd.C_below HR0.out HB.out) HB.out HB.out.size ?_; intro w7 ho8 hb _; rw [sum_copied] at ho8; have HO108 := Aside0.mk ho8; clear HO107 HB; have HB := Aside0.mk hb; clear hb ho8))
 go_loopg [6, 26] k (fun kq v6 v26 w' => ∃ (x5_1 : List Int) (x6_1 : Int) (x26_1 : Int), v6 = .int .u64 x6_1 ∧ v26 = .int .i64 x26_1 ∧ Aside0 (nat_sum.l0 kq l1 x5_1 x6_1 l1 (l1.length : Int) x26_1 = some r) ∧ Aside0 (kq ≤ k) ∧ Aside0 (Kd.R (Kd.int .u64) 26 w' w.heap.size (fun _ => True) v107 x5_1) ∧ Aside0 (Below w.heap.size w w'))
 case atStart => exact ⟨(l0 ++ [0]), (0), (0), dF, dF, H', ⟨Nat.le_refl _⟩, ⟨dR HO108.out⟩, ⟨dB⟩⟩
 case round =>
  clear H'
  try clear c1
  try clear p2
  try clear c4
  try clear c4b0
  try clear c4b1
  try clear c5
  try clear c5b0
  try clear c5b1
  try clear p6
  obtain ⟨x5_1, x6_1, x26_1, rfl, rfl, HA, HK1, HO_5, HB⟩ := hrel
  cases gk with
  | zero => exact absurd HA.out (by simp [nat_sum.l0])
  | succ k1 =>
   have H := HA.out
   clear HA
   simp only [nat_sum.l0] at H
   by_cases c8 : x26_1 < (l1.length : Int)
   ·rw [if_pos c8] at H
    have c8b0 : decide (x26_1 < (l1.length : Int)) = true := decide_eq_true c8
    clear c8
    by_cases c9 : (0 : Int) ≤ x26_1
    ·rw [if_pos c9] at H
     have c9b0 : decide (0 ≤ x26_1) = true := decide_eq_true c9
     clear c9
     by_cases c10 : x26_1 < (l1.length : Int)
     ·rw [if_pos c10] at H
      have c10b0 : decide (x26_1 < (l1.length : Int)) = true := decide_eq_true c10
      clear c10
      by_cases c11 : x26_1 < (x5_1.length : Int)
      ·rw [if_pos c11] at H
       have c11b0 : decide (x26_1 < (x5_1.length : Int)) = true := decide_eq_true c11
       clear c11
       replace H := obe H
       obtain ⟨⟨t111, t112⟩, A120, H⟩ := H
       replace H : (nat_sum.l0 k1 l1 (x5_1.set (x26_1 : Int).toNat t111) t112 l1 (l1.length : Int) (wrap64 (x26_1 + 1))) = some r := H
       have A12 := Aside0.mk A120
       clear A120
       obtain ⟨y113, hy113⟩ : ∃ y_ : List Int, y_ = (x5_1.set (x26_1 : Int).toNat t111) := ⟨_, rfl⟩
       replace H : (nat_sum.l0 k1 l1 y113 t112 l1 (l1.length : Int) (wrap64 (x26_1 + 1))) = some r := by first | (rw [hy113]; with_reducible exact H) | (have H2_ := (Option.bind_some _ _).symm.trans H; rw [hy113]; with_reducible exact H2_) | (have H2_ := (Option.bind_some _ _).symm.trans H; with_reducible exact H2_) | with_reducible exact H | (rw [hy113]; exact H) | exact H
       have Ny113 := Aside0.mk hy113
       clear hy113
       have H' := Aside0.mk H
       clear H
       have p109 : 0 ≤ (x26_1 : Int) := of_decide_eq_true dS
       have q109 : x26_1 < (l1.length : Int) := of_decide_eq_true dS
       obtain ⟨ad109, e109, hx109_0⟩ := Kd.at_int HR1.out x26_1 p109 q109
       cases e109
       replace hx109_0 := (HB.out.cell (World.block_lt_of_cell? w _ hx109_0)).trans hx109_0
       replace p109 := eq_true p109
       replace q109 := eq_true q109
       obtain ⟨Ao14, co14, eo14⟩ := Kd.R_slice HO_5.out
       subst eo14
       have p110 : 0 ≤ (x26_1 : Int) := of_decide_eq_true dS
       have q110 : x26_1 < (x5_1.length : Int) := of_decide_eq_true dS
       obtain ⟨ad110, e110, hx110_0⟩ := Kd.at_int (Kd.R_reads' HO_5.out).2.2 x26_1 p110 q110
       cases e110
       replace p110 := eq_true p110
       replace q110 := eq_true q110
       go_wp2_with (first | ((with_reducible refine gate_callee (f := 61) rfl ?_); refine gL (some 40) Tryd.func61 #[.int .u64 (rd x5_1 x26_1), .int .u64 (rd l1 x26_1), .int .u64 x6_1] ?_; (with_reducible refine (wide_Add.calls (rd x5_1 x26_1) (rd l1 x26_1) x6_1 t111 t112 _ A12.out).mono ?_); rintro e w' ⟨rfl, ⟨nd, rfl⟩⟩; refine ⟨_, rfl, ?_⟩; (try (rw [drewN_self wr]; generalize hq_ : World.drewN wr _ = wr; have n0_ : Aside0 (Kd.R (Kd.int .u64) 26 wr w.heap.size (fun _ => True) (.slice (some ad110) x5_1.length co14) x5_1) := ⟨by rw [← hq_]; exact (dR HO_5.out)⟩; have n1_ : Aside0 (Below w.heap.size w wr) := ⟨by rw [← hq_]; exact dB⟩; clear HO_5 HB hq_; have HO_5 := n0_; have HB := n1_; clear n0_ n1_)); have p13 : 0 ≤ (x26_1 : Int) := of_decide_eq_true dS; have q13 : (x26_1 : Int) < ((x5_1.length : Int) : Int) := of_decide_eq_true dS; obtain ⟨go13, co13, eo13, gb13, gl13, cl13, HG13⟩ := Kd.R_form HO_5.out (by omega); (first | cases eo13 | (injection eo13 with ea_ en_ ec_; (first | subst ea_ | (injection ea_ with ea_; subst ea_)); subst ec_; clear en_)); have GB13 := Aside0.mk gb13; have GG13 := Aside0.mk HG13; clear gb13 gl13 HG13; (first | simp only [add_plain] at hx110_0 | skip); obtain ⟨hx13_0, hf13_0⟩ := Kd.R_celln 0 HO_5.out (x26_1 : Int) p13 q13; replace p13 := eq_true p13; replace q13 := eq_true q13; obtain ⟨hy15_, hz15_⟩ := Kd.R_celln 0 HO_5.out (x26_1 : Int) (of_decide_eq_true dS) (of_decide_eq_true dS); have HP15 := Kd.R_putg HO_5.out (x26_1 : Int) t111) | ((with_reducible refine gate_store (t := 26) (p := 43) rfl ?_); refine store_event (t := 26) (p := 43) (v := ?vo_w16) (w1 := (wr.setCell ⟨go13, (x26_1 : Int).toNat, none⟩ (.int .u64 t111))) ?hg ?ho ?hn ?hr ?_; (case ho => rfl); (case hg => rfl); (case hn => rfl); (case hr => first | (go_simp; done) | (go_simp; rfl)); intro w16 hw; have hg : wr.grownBy w16 (some go13) := (by rw [hw]; exact HP15.2); have hp_ : Kd.R (Kd.int .u64) 26 w16 w.heap.size (fun _ => True) (.slice (some ⟨go13, 0, none⟩) x5_1.length co14) y113 := (by rw [hw, Ny113.out]; exact HP15.1); clear HP15; replace HO_5 := Aside0.mk (hp_); replace HB := Aside0.mk ((by rw [hw]; exact below_set (HB.out) GB13.out : Below w.heap.size w w16)); clear hg hw hp_))
       go_roundg k1
       case measure => have := HK1.out; omega
       case rel => exact ⟨(y113), (t112), (wrap64 (x26_1 + 1)), dF, dF, H', ⟨by have := HK1.out; omega⟩, ⟨dR HO_5.out⟩, ⟨dB⟩⟩
      ·rw [if_neg c11] at H
       exact absurd H (by simp)
     ·rw [if_neg c10] at H
      exact absurd H (by simp)
    ·rw [if_neg c9] at H
     exact absurd H (by simp)
   ·rw [if_neg c8] at H
    have c8b0 : decide (x26_1 < (l1.length : Int)) = false := decide_eq_false c8
    clear c8
    have H' := Aside0.mk H
    clear H
    go_wp2
    go_loopg [6, 9] k1 (fun kq v6 v9 w' => ∃ (x5_2 : List Int) (x6_2 : Int) (x9_2 : Int), v6 = .int .u64 x6_2 ∧ v9 = .int .i64 x9_2 ∧ Aside0 (nat_sum.l1 kq x5_2 x6_2 x9_2 = some r) ∧ Aside0 (kq ≤ k1) ∧ Aside0 (Kd.R (Kd.int .u64) 26 w' w.heap.size (fun _ => True) v107 x5_2) ∧ Aside0 (Below w.heap.size w w'))
    case atStart => exact ⟨(x5_1), (x6_1), ((l1.length : Int)), dF, dF, H', ⟨Nat.le_refl _⟩, ⟨dR HO_5.out⟩, ⟨dB⟩⟩
    case round =>
     clear H'
     try clear c1
     try clear p1
     try clear q1
     try clear hx1
     try clear p2
     try clear c4
     try clear c4b0
     try clear c4b1
     try clear c5
     try clear c5b0
     try clear c5b1
     try clear p6
     try clear c8
     try clear c8b0
     try clear c9
     try clear c9b0
     try clear c10
     try clear c10b0
     try clear p10
     try clear q10
     try clear hx10
     try clear c11
     try clear c11b0
     try clear p11
     try clear q11
     try clear hx11
     try clear p13
     try clear q13
     try clear hx13
     try clear hf13
     try clear hx109_0
     try clear hx110_0
     try clear hx13_0
     try clear p109
     try clear p110
     try clear p13
     try clear p2
     try clear p6
     try clear q109
     try clear q110
     try clear q13
     obtain ⟨x5_2, x6_2, x9_2, rfl, rfl, HA, HK2, HO_5, HB⟩ := hrel
     cases gk with
     | zero => exact absurd HA.out (by simp [nat_sum.l1])
     | succ k2 =>
      have H := HA.out
      clear HA
      simp only [nat_sum.l1] at H
      by_cases c17 : x6_2 > 0
      ·rw [if_pos c17] at H
       have c17b0 : decide (0 < x6_2) = true := decide_eq_true c17
       clear c17
       by_cases c18 : (0 : Int) ≤ x9_2
       ·rw [if_pos c18] at H
        have c18b0 : decide (0 ≤ x9_2) = true := decide_eq_true c18
        clear c18
        by_cases c19 : x9_2 < (x5_2.length : Int)
        ·rw [if_pos c19] at H
         have c19b0 : decide (x9_2 < (x5_2.length : Int)) = true := decide_eq_true c19
         clear c19
         replace H := obe H
         obtain ⟨⟨t115, t116⟩, A200, H⟩ := H
         replace H : (nat_sum.l1 k2 (x5_2.set (x9_2 : Int).toNat t115) t116 (wrap64 (x9_2 + 1))) = some r := H
         have A20 := Aside0.mk A200
         clear A200
         obtain ⟨y117, hy117⟩ : ∃ y_ : List Int, y_ = (x5_2.set (x9_2 : Int).toNat t115) := ⟨_, rfl⟩
         replace H : (nat_sum.l1 k2 y117 t116 (wrap64 (x9_2 + 1))) = some r := by first | (rw [hy117]; with_reducible exact H) | (have H2_ := (Option.bind_some _ _).symm.trans H; rw [hy117]; with_reducible exact H2_) | (have H2_ := (Option.bind_some _ _).symm.trans H; with_reducible exact H2_) | with_reducible exact H | (rw [hy117]; exact H) | exact H
         have Ny117 := Aside0.mk hy117
         clear hy117
         have H' := Aside0.mk H
         clear H
         obtain ⟨Ao22, co22, eo22⟩ := Kd.R_slice HO_5.out
         subst eo22
         have p114 : 0 ≤ (x9_2 : Int) := of_decide_eq_true dS
         have q114 : x9_2 < (x5_2.length : Int) := of_decide_eq_true dS
         obtain ⟨ad114, e114, hx114_0⟩ := Kd.at_int (Kd.R_reads' HO_5.out).2.2 x9_2 p114 q114
         cases e114
         replace p114 := eq_true p114
         replace q114 := eq_true q114
         go_wp2_with (first | ((with_reducible refine gate_callee (f := 61) rfl ?_); refine gL (some 59) Tryd.func61 #[.int .u64 (rd x5_2 x9_2), .int .u64 0, .int .u64 x6_2] ?_; (with_reducible refine (wide_Add.calls (rd x5_2 x9_2) 0 x6_2 t115 t116 _ A20.out).mono ?_); rintro e w' ⟨rfl, ⟨nd, rfl⟩⟩; refine ⟨_, rfl, ?_⟩; (try (rw [drewN_self wr]; generalize hq_ : World.drewN wr _ = wr; have n0_ : Aside0 (Kd.R (Kd.int .u64) 26 wr w.heap.size (fun _ => True) (.slice (some ad114) x5_2.length co22) x5_2) := ⟨by rw [← hq_]; exact (dR HO_5.out)⟩; have n1_ : Aside0 (Below w.heap.size w wr) := ⟨by rw [← hq_]; exact dB⟩; clear HO_5 HB hq_; have HO_5 := n0_; have HB := n1_; clear n0_ n1_)); have p21 : 0 ≤ (x9_2 : Int) := of_decide_eq_true dS; have q21 : (x9_2 : Int) < ((x5_2.length : Int) : Int) := of_decide_eq_true dS; obtain ⟨go21, co21, eo21, gb21, gl21, cl21, HG21⟩ := Kd.R_form HO_5.out (by omega); (first | cases eo21 | (injection eo21 with ea_ en_ ec_; (first | subst ea_ | (injection ea_ with ea_; subst ea_)); subst ec_; clear en_)); have GB21 := Aside0.mk gb21; have GG21 := Aside0.mk HG21; clear gb21 gl21 HG21; (first | simp only [add_plain] at hx114_0 | skip); obtain ⟨hx21_0, hf21_0⟩ := Kd.R_celln 0 HO_5.out (x9_2 : Int) p21 q21; replace p21 := eq_true p21; replace q21 := eq_true q21; obtain ⟨hy23_, hz23_⟩ := Kd.R_celln 0 HO_5.out (x9_2 : Int) (of_decide_eq_true dS) (of_decide_eq_true dS); have HP23 := Kd.R_putg HO_5.out (x9_2 : Int) t115) | ((with_reducible refine gate_store (t := 26) (p := 62) rfl ?_); refine store_event (t := 26) (p := 62) (v := ?vo_w24) (w1 := (wr.setCell ⟨go21, (x9_2 : Int).toNat, none⟩ (.int .u64 t115))) ?hg ?ho ?hn ?hr ?_; (case ho => rfl); (case hg => rfl); (case hn => rfl); (case hr => first | (go_simp; done) | (go_simp; rfl)); intro w24 hw; have hg : wr.grownBy w24 (some go21) := (by rw [hw]; exact HP23.2); have hp_ : Kd.R (Kd.int .u64) 26 w24 w.heap.size (fun _ => True) (.slice (some ⟨go21, 0, none⟩) x5_2.length co22) y117 := (by rw [hw, Ny117.out]; exact HP23.1); clear HP23; replace HO_5 := Aside0.mk (hp_); replace HB := Aside0.mk ((by rw [hw]; exact below_set (HB.out) GB21.out : Below w.heap.size w w24)); clear hg hw hp_))
         go_roundg k2
         case measure => have := HK1.out; have := HK2.out; omega
         case rel => exact ⟨(y117), (t116), (wrap64 (x9_2 + 1)), dF, dF, H', ⟨by have := HK1.out; have := HK2.out; omega⟩, ⟨dR HO_5.out⟩, ⟨dB⟩⟩
        ·rw [if_neg c19] at H
         exact absurd H (by simp)
       ·rw [if_neg c18] at H
        exact absurd H (by simp)
      ·rw [if_neg c17] at H
       have c17b0 : decide (0 < x6_2) = false := decide_eq_false c17
       clear c17
       obtain rfl := Option.some.inj H
       go_wp2
       go_ret
       exact ⟨_, by first | rfl | (simp [errW_none, errW_some] <;> rfl) | (simp only [← hji3]; first | rfl | (simp [errW_none, errW_some] <;> rfl)) | (simp [*, errW_none, errW_some] <;> rfl), dR HO_5.out, dB⟩
theorem rd_eq (xs : List Int) (n : Nat) : rd xs (n : Int) = xs.getD n 0 := rfl
theorem nat_sum.l1_eq (N : Int) (m : Nat) (hN : N < 2 ^ (64 * m)) : ∀ (d k : Nat) (os : List Int) (c : Int) (i : Nat), d = m - i → d < k → m < 35184372088833 → i ≤ m → os.length = m → Ws os → 0 ≤ c → c ≤ 1 → nv os + c * 2 ^ (64 * i) = N →
  nat_sum.l1 k os c i = some (wn m N) := by
 intro d
 induction d with
 | zero =>
  intro k os c i hd hk hm hi hl hw hc0 hc1 hv
  obtain ⟨k, rfl⟩ : ∃ j, k = j + 1 := ⟨k - 1, by omega⟩
  obtain rfl : i = m := by omega
  have hn := nv_nonneg hw
  have hc : c = 0 := by
   apply Classical.byContradiction
   intro h
   have : c = 1 := by omega
   subst this
   omega
  subst hc
  simp only [nat_sum.l1]
  rw [if_neg (by omega)]
  congr 1
  rw [Int.zero_mul, Int.add_zero] at hv
  rw [← hv]
  exact eq_wn hw hl
 | succ d ih =>
  intro k os c i hd hk hm hi hl hw hc0 hc1 hv
  obtain ⟨k, rfl⟩ : ∃ j, k = j + 1 := ⟨k - 1, by omega⟩
  simp only [nat_sum.l1]
  by_cases hc : c = 0
  ·subst hc
   rw [if_neg (by omega)]
   congr 1
   rw [Int.zero_mul, Int.add_zero] at hv
   rw [← hv]
   exact eq_wn hw hl
  ·have h1 : c = 1 := by omega
   subst h1
   have ho := hw.getD i
   rw [if_pos (by omega), if_pos (by omega), if_pos (by omega), rd_eq, wide_Add.f_eq ho.1 ho.2 (by omega) (by omega) (by omega) (by omega)]
   simp only [Option.bind_some]
   have ew : wrap64 ((i : Int) + 1) = ((i + 1 : Nat) : Int) := by unfold wrap64; omega
   rw [ew, Int.toNat_natCast]
   clear ew
   refine ih k _ _ _ (by omega) (by omega) hm (by omega) (by rw [List.length_set, hl]) (hw.set _ (by omega) (by omega)) (by omega) (by omega) ?_
   rw [nv_set (by omega), pow64, ← hv]
   generalize (2 : Int) ^ (64 * i) = p
   generalize os.getD i 0 = o at *
   have e : (o + 0 + 1) % 18446744073709551616 + 18446744073709551616 * ((o + 0 + 1) / 18446744073709551616) = o + 1 := by omega
   generalize (o + 0 + 1) % 18446744073709551616 = u at *
   generalize (o + 0 + 1) / 18446744073709551616 = v at *
   obtain rfl : u = o + 1 - 18446744073709551616 * v := by omega
   grind
theorem nat_sum.l0_eq (l1 : List Int) (N : Int) (m : Nat) (hN : N < 2 ^ (64 * m)) (hm : m < 35184372088833) (h1 : Ws l1) (hlm : l1.length < m) : ∀ (d k : Nat) (os : List Int) (c : Int) (i : Nat), d = l1.length - i → d + m + 1 < k → i ≤ l1.length → os.length = m → Ws os → 0 ≤ c → c ≤ 1 → nv os + c * 2 ^ (64 * i) + nv l1 = N + nv (l1.take i) →
  nat_sum.l0 k l1 os c l1 (l1.length : Int) i = some (wn m N) := by
 intro d
 induction d with
 | zero =>
  intro k os c i hd hk hi hl hw hc0 hc1 hv
  obtain ⟨k, rfl⟩ : ∃ j, k = j + 1 := ⟨k - 1, by omega⟩
  obtain rfl : i = l1.length := by omega
  rw [List.take_length] at hv
  simp only [nat_sum.l0]
  rw [if_neg (by omega)]
  exact nat_sum.l1_eq N m hN (m - l1.length) k os c l1.length rfl (by omega) hm (by omega) hl hw hc0 hc1 (by omega)
 | succ d ih =>
  intro k os c i hd hk hi hl hw hc0 hc1 hv
  obtain ⟨k, rfl⟩ : ∃ j, k = j + 1 := ⟨k - 1, by omega⟩
  simp only [nat_sum.l0]
  have ho := hw.getD i
  have hy := h1.getD i
  rw [if_pos (by omega), if_pos (by omega), if_pos (by omega), if_pos (by omega), rd_eq, rd_eq, wide_Add.f_eq ho.1 ho.2 hy.1 hy.2 hc0 hc1]
  simp only [Option.bind_some]
  have ew : wrap64 ((i : Int) + 1) = ((i + 1 : Nat) : Int) := by unfold wrap64; omega
  rw [ew, Int.toNat_natCast]
  clear ew
  refine ih k _ _ _ (by omega) (by omega) (by omega) (by rw [List.length_set, hl]) (hw.set _ (by omega) (by omega)) (by omega) (by omega) ?_
  rw [nv_set (by omega), pow64, nv_take_succ (by omega)]
  generalize (2 : Int) ^ (64 * i) = p at *
  generalize os.getD i 0 = o at *
  generalize l1.getD i 0 = y at *
  have e : (o + y + c) % 18446744073709551616 + 18446744073709551616 * ((o + y + c) / 18446744073709551616) = o + y + c := by omega
  generalize (o + y + c) % 18446744073709551616 = u at *
  generalize (o + y + c) / 18446744073709551616 = v at *
  obtain rfl : u = o + y + c - 18446744073709551616 * v := by omega
  grind
theorem nat_sum.go {l0 l1 : List Int} (h0 : Ws l0) (h1 : Ws l1) (hl : l1.length ≤ l0.length) (hb : l0.length < 35184372088832) :
  ∃ k, nat_sum.l0 k l1 (l0 ++ [0]) 0 l1 (l1.length : Int) 0 = some (wn (l0.length + 1) (nv l0 + nv l1)) := by
 have e0 := nv_lt h0
 have e1 := nv_lt h1
 have ep : (2 : Int) ^ (64 * l1.length) ≤ 2 ^ (64 * l0.length) := by
  rw [p2cast, p2cast]; exact Int.ofNat_le.2 (Nat.pow_le_pow_right (by omega) (by omega))
 have hp := pow64 l0.length
 have hp0 := two_pow_pos (64 * l0.length)
 refine ⟨l1.length + (l0.length + 1) + 2, ?_⟩
 refine nat_sum.l0_eq l1 _ (l0.length + 1) (by omega) (by omega) h1 (by omega) l1.length _ (l0 ++ [0]) 0 0 (by omega) (by omega) (by omega) (by simp) (h0.append (Ws.cons (by omega) (by omega) Ws.nil)) (by omega) (by omega) ?_
 rw [nv_append]
 simp [nv]
theorem nat_sum.calls (A0 : Option Addr) (c0 : Nat) (l0 : List Int) (A1 : Option Addr) (c1 : Nat) (l1 : List Int) (r : List Int) (w : World) (hr0 : Kd.C (Kd.int .u64) w A0 l0.length l0) (hc0 : l0.length ≤ c0) (hr1 : Kd.C (Kd.int .u64) w A1 l1.length l1) (hc1 : l1.length ≤ c1) (h : nat_sum.f l0 l1 = some r) :
  Calls Tryd.prog 57 #[.slice A0 l0.length c0, .slice A1 l1.length c1] w fun e w' => ∃ v0_ : Value, e = .returned (v0_) ∧ Kd.R (Kd.int .u64) 26 w' w.heap.size (fun _ => True) v0_ r ∧ Below w.heap.size w w' := by
 unfold nat_sum.f at h
 split at h
 case isFalse => cases h
 rename_i hh
 rw [wsB_iff, wsB_iff] at hh
 obtain ⟨h0, h1, hb0, hb1⟩ := hh
 injection h with h
 subst h
 by_cases hl : l1.length ≤ l0.length
 ·obtain ⟨k, hk⟩ := nat_sum.go h0 h1 hl hb0
  rw [Nat.max_eq_left hl]
  exact nat_sum.coreA k A0 c0 l0 A1 c1 l1 _ w hr0 hr1 hb0 (decide_eq_false (by omega)) hk
 ·obtain ⟨k, hk⟩ := nat_sum.go h1 h0 (by omega) hb1
  rw [Nat.max_eq_right (by omega), Int.add_comm]
  exact nat_sum.coreB k A1 c1 l1 A0 c0 l0 _ w hr1 hr0 hb1 (decide_eq_true (by omega)) hk

end Go.Proofs.YtoefabmlkbhmpaaDoor.PA

namespace Go.Proofs.YtoefabmlkbhmpaaDoor.PA
open Go.RowKit Go.Proofs.YtoefabmlkbhmpaaDoorW.PrintWords Go.Proofs.YtoefabmlkbhmpaaDoorW.PrintLast Go.Proofs.YtoefabmlkbhmpaaDoorW.PrintMore
attribute [local go_sem] max2_int min2_int max_two min_two max_three min_three max_four min_four   -- for this text's walks alone
set_option linter.unusedVariables false
set_option linter.unusedSimpArgs false

/-! ### nat_Add: function 22 -/
def nat_Add.f (k : Nat) (l0 : List Int) (l1 : List Int) : Option (List Int × Int) := (nat_sum.f l0 l1).bind fun t416 => ((nat_bound.f k t416).bind fun bt419 => (some (bt419.1, bt419.2)))
set_option maxHeartbeats 8000000 in
set_option maxRecDepth 100000 in
theorem nat_Add.calls (k : Nat) (A0 : Option Addr) (c0 : Nat) (l0 : List Int) (A1 : Option Addr) (c1 : Nat) (l1 : List Int) (r1 : List Int) (r2 : Int) (w : World) (hr0 : Kd.C (Kd.int .u64) w A0 l0.length l0) (hc0 : l0.length ≤ c0) (hr1 : Kd.C (Kd.int .u64) w A1 l1.length l1) (hc1 : l1.length ≤ c1) (h : nat_Add.f k l0 l1 = some (r1, r2)) :
  Calls Tryd.prog 22 #[.slice A0 l0.length c0, .slice A1 l1.length c1] w fun e w' => ∃ v0_ : Value, e = .returned (.tuple #[v0_, .int .i64 r2]) ∧ Kd.R (Kd.int .u64) 26 w' w.heap.size (fun _ => True) v0_ r1 ∧ Below w.heap.size w w' := by
 have HR0 := Aside0.mk hr0
 have HC0 := Aside0.mk hc0
 clear hr0 hc0
 have HR1 := Aside0.mk hr1
 have HC1 := Aside0.mk hc1
 clear hr1 hc1
 have HB := Aside0.mk (Below.refl w.heap.size w)
 have H : ((nat_sum.f l0 l1).bind fun t416 => ((nat_bound.f k t416).bind fun bt419 => (some (bt419.1, bt419.2)))) = some (r1, r2) := h
 clear h
 replace H := obe H
 obtain ⟨t416, A30, H⟩ := H
 (try dsimp only at H)
 have A3 := Aside0.mk A30
 clear A30
 replace H := obe H
 obtain ⟨⟨t419, t422⟩, A40, H⟩ := H
 (try dsimp only at H)
 have A4 := Aside0.mk A40
 clear A40
 simp only [Option.some.injEq, Prod.mk.injEq] at H
 obtain ⟨rfl, rfl⟩ := H
 go_enter Tryd.func22, Tryd.ntmps22
 go_wp2_with (first | ((with_reducible refine gate_callee (f := 57) rfl ?_); refine gL (some 8) Tryd.func57 #[.slice A0 l0.length c0, .slice A1 l1.length c1] ?_; (with_reducible refine (nat_sum.calls _ _ l0 _ _ l1 t416 _ ?side1 ?side2 ?side3 ?side4 A3.out).mono ?_); (case side1 => exact dC HR0.out); (case side2 => exact HC0.out); (case side3 => exact dC HR1.out); (case side4 => exact HC1.out); rintro e w5 ⟨v417, rfl, ho0, hb⟩; refine ⟨_, rfl, ?_⟩; have HO418 := Aside0.mk (Kd.R_lower ho0 (below_size dB)); replace HB := Aside0.mk (below_step dB hb); (try clear hb); (try clear ho0); obtain ⟨Ao6, co6, eo6⟩ := Kd.R_slice HO418.out; subst eo6) | ((with_reducible refine gate_callee (f := 56) rfl ?_); refine gL (some 9) Tryd.func56 #[.slice Ao6 t416.length co6] ?_; (with_reducible refine (nat_bound.calls k (fun k_ => some k_ = (.slice Ao6 t416.length co6 : Value).ownBlock) (.slice Ao6 t416.length co6) t416 t419 t422 w _ ?side1 ?side2 A4.out).mono ?_); (case side1 => repeat (first | (with_reducible first | exact HB.out | apply below_alloc | apply pw_below_drewN | apply below_drew1) | exact HB.out)); (case side2 => exact Kd.R_tight rfl HO418.out); rintro e w7 ⟨v420, rfl, ho0, hb, hkp⟩; refine ⟨_, rfl, ?_⟩; have HO421 := Aside0.mk (Kd.R_mono (ok' := fun k_ => True) ho0 (fun k_ hk_ => trivial)); replace HB := Aside0.mk (hb); clear HO418; (try clear hb); (try clear hkp); (try clear ho0)))
 go_ret2
 exact ⟨_, dE, dR HO421.out, dB⟩

end Go.Proofs.YtoefabmlkbhmpaaDoor.PA

namespace Go.Proofs.YtoefabmlkbhmpaaDoor.PA
open Go.RowKit Go.Proofs.YtoefabmlkbhmpaaDoorW.PrintWords Go.Proofs.YtoefabmlkbhmpaaDoorW.PrintLast Go.Proofs.YtoefabmlkbhmpaaDoorW.PrintMore
attribute [local go_sem] max2_int min2_int max_two min_two max_three min_three max_four min_four   -- for this text's walks alone
set_option linter.unusedVariables false
set_option linter.unusedSimpArgs false

/-! ### plumblaw07_NearSticky: function 5 -/
mutual
def plumblaw07_NearSticky.j0 : Nat → List Int → Int → List Int → List Int → Bool → Bool → List Int → Int → Bool → Option (Bool)
 | 0, _, _, _, _, _, _, _, _, _ => none
 | k + 1, x3, x4, x5, x8, x53, x424000, x424001, x424002, x424003 => if x53 = true then (some false) else (plumblaw07_NearSticky.l0 k x3 x4 x5 x8 0 x424000 x424001 x424002 x424003)
def plumblaw07_NearSticky.l0 : Nat → List Int → Int → List Int → List Int → Int → Bool → List Int → Int → Bool → Option (Bool)
 | 0, _, _, _, _, _, _, _, _, _ => none
 | k + 1, x3, x4, x5, x8, x10, x424000, x424001, x424002, x424003 => if x10 ≤ 4 then ((near_Scaled.f k x424000 x3 x4 true x10).bind fun bt449 => ((near_Quotient.f k x424000 x5 x8 x10).bind fun bt451 => (if bt449.1 = bt451.1 then ((plumblaw07_num.f bt449.2).bind fun t453 => ((plumblaw07_num.f bt451.2).bind fun t454 => (if t453 = t454 then (plumblaw07_NearSticky.l0 k x3 x4 x5 x8 (wrap64 (x10 + 1)) x424000 x424001 x424002 x424003) else (some false)))) else (some false)))) else (some true)
end
def plumblaw07_NearSticky.f (k : Nat) (a0_0 : Bool) (l0_1 : List Int) (a0_2 : Int) (a0_3 : Bool) : Option (Bool) := (plumblaw07_fixed.f k).bind fun t424 => (if t424 = true then ((plumblaw07_bounded.f k l0_1 10).bind fun t425 => ((nat_Shl.f k t425 2400).bind fun bt428 => ((nat_Add.f k bt428.1 (([1] : List Int))).bind fun bt435 => ((nat_Shl.f k (([1] : List Int)) (wrap64 (2400 - (Int.tmod a0_2 1201)))).bind fun bt442 => ((plumblaw07_num.f bt428.2).bind fun t446 => (if t446 = 0 then ((plumblaw07_num.f bt435.2).bind fun t447 => (if t447 = 0 then ((plumblaw07_num.f bt442.2).bind fun t448 => (plumblaw07_NearSticky.j0 k t425 (Int.tmod a0_2 1201) bt435.1 bt442.1 (t448 != 0) a0_0 l0_1 a0_2 a0_3)) else (plumblaw07_NearSticky.j0 k t425 (Int.tmod a0_2 1201) bt435.1 bt442.1 true a0_0 l0_1 a0_2 a0_3))) else (plumblaw07_NearSticky.j0 k t425 (Int.tmod a0_2 1201) bt435.1 bt442.1 true a0_0 l0_1 a0_2 a0_3))))))) else (some false))
set_option maxHeartbeats 8000000 in
set_option maxRecDepth 100000 in
theorem plumblaw07_NearSticky.calls (k : Nat) (a0_0 : Bool) (A0_1 : Option Addr) (c0_1 : Nat) (l0_1 : List Int) (a0_2 : Int) (a0_3 : Bool) (r : Bool) (w : World) (hr0_1 : Kd.C (Kd.int .u64) w A0_1 l0_1.length l0_1) (hc0_1 : l0_1.length ≤ c0_1) (h : plumblaw07_NearSticky.f k a0_0 l0_1 a0_2 a0_3 = some r) (hS : StaysLaid w := by first | exact HS.out | exact hS | exact StaysLaid.below HS.out HB.out | exact StaysLaid.below HS.out dB) :
  Calls Tryd.prog 5 #[.agg #[.bool a0_0, .slice A0_1 l0_1.length c0_1, .int .i64 a0_2, .bool a0_3]] w fun e w' => e = .returned (.bool r) ∧ Below w.heap.size w w' := by
 have HS := Aside0.mk (show StaysLaid w from hS)
 clear hS
 have hu24 := Tryd.underlying24
 have HR0_1 := Aside0.mk hr0_1
 have HC0_1 := Aside0.mk hc0_1
 clear hr0_1 hc0_1
 have HB := Aside0.mk (Below.refl w.heap.size w)
 have H : ((plumblaw07_fixed.f k).bind fun t424 => (if t424 = true then ((plumblaw07_bounded.f k l0_1 10).bind fun t425 => ((nat_Shl.f k t425 2400).bind fun bt428 => ((nat_Add.f k bt428.1 (([1] : List Int))).bind fun bt435 => ((nat_Shl.f k (([1] : List Int)) (wrap64 (2400 - (Int.tmod a0_2 1201)))).bind fun bt442 => ((plumblaw07_num.f bt428.2).bind fun t446 => (if t446 = 0 then ((plumblaw07_num.f bt435.2).bind fun t447 => (if t447 = 0 then ((plumblaw07_num.f bt442.2).bind fun t448 => (plumblaw07_NearSticky.j0 k t425 (Int.tmod a0_2 1201) bt435.1 bt442.1 (t448 != 0) a0_0 l0_1 a0_2 a0_3)) else (plumblaw07_NearSticky.j0 k t425 (Int.tmod a0_2 1201) bt435.1 bt442.1 true a0_0 l0_1 a0_2 a0_3))) else (plumblaw07_NearSticky.j0 k t425 (Int.tmod a0_2 1201) bt435.1 bt442.1 true a0_0 l0_1 a0_2 a0_3))))))) else (some false))) = some r := h
 clear h
 replace H := obe H
 obtain ⟨t424, A20, H⟩ := H
 (try dsimp only at H)
 have A2 := Aside0.mk A20
 clear A20
 by_cases c3 : t424 = true
 ·subst c3
  have H1 : ((plumblaw07_bounded.f k l0_1 10).bind fun t425 => ((nat_Shl.f k t425 2400).bind fun bt428 => ((nat_Add.f k bt428.1 (([1] : List Int))).bind fun bt435 => ((nat_Shl.f k (([1] : List Int)) (wrap64 (2400 - (Int.tmod a0_2 1201)))).bind fun bt442 => ((plumblaw07_num.f bt428.2).bind fun t446 => (if t446 = 0 then ((plumblaw07_num.f bt435.2).bind fun t447 => (if t447 = 0 then ((plumblaw07_num.f bt442.2).bind fun t448 => (plumblaw07_NearSticky.j0 k t425 (Int.tmod a0_2 1201) bt435.1 bt442.1 (t448 != 0) a0_0 l0_1 a0_2 a0_3)) else (plumblaw07_NearSticky.j0 k t425 (Int.tmod a0_2 1201) bt435.1 bt442.1 true a0_0 l0_1 a0_2 a0_3))) else (plumblaw07_NearSticky.j0 k t425 (Int.tmod a0_2 1201) bt435.1 bt442.1 true a0_0 l0_1 a0_2 a0_3))))))) = some r := by rw [if_pos rfl] at H; exact H
  clear H
  have H := H1
  clear H1
  replace H := obe H
  obtain ⟨t425, A40, H⟩ := H
  (try dsimp only at H)
  have A4 := Aside0.mk A40
  clear A40
  replace H := obe H
  obtain ⟨⟨t428, t429⟩, A50, H⟩ := H
  (try dsimp only at H)
  have A5 := Aside0.mk A50
  clear A50
  obtain ⟨y432, hy432⟩ : ∃ y_ : List Int, y_ = (([1] : List Int)) := ⟨_, rfl⟩
  replace H : ((nat_Add.f k t428 y432).bind fun bt435 => ((nat_Shl.f k (([1] : List Int)) (wrap64 (2400 - (Int.tmod a0_2 1201)))).bind fun bt442 => ((plumblaw07_num.f t429).bind fun t446 => (if t446 = 0 then ((plumblaw07_num.f bt435.2).bind fun t447 => (if t447 = 0 then ((plumblaw07_num.f bt442.2).bind fun t448 => (plumblaw07_NearSticky.j0 k t425 (Int.tmod a0_2 1201) bt435.1 bt442.1 (t448 != 0) a0_0 l0_1 a0_2 a0_3)) else (plumblaw07_NearSticky.j0 k t425 (Int.tmod a0_2 1201) bt435.1 bt442.1 true a0_0 l0_1 a0_2 a0_3))) else (plumblaw07_NearSticky.j0 k t425 (Int.tmod a0_2 1201) bt435.1 bt442.1 true a0_0 l0_1 a0_2 a0_3))))) = some r := by first | (rw [hy432]; with_reducible exact H) | (have H2_ := (Option.bind_some _ _).symm.trans H; rw [hy432]; with_reducible exact H2_) | (have H2_ := (Option.bind_some _ _).symm.trans H; with_reducible exact H2_) | with_reducible exact H | (rw [hy432]; exact H) | exact H
  have Ny432 := Aside0.mk hy432
  clear hy432
  replace H := obe H
  obtain ⟨⟨t435, t436⟩, A60, H⟩ := H
  (try dsimp only at H)
  have A6 := Aside0.mk A60
  clear A60
  obtain ⟨y439, hy439⟩ : ∃ y_ : List Int, y_ = (([1] : List Int)) := ⟨_, rfl⟩
  replace H : ((nat_Shl.f k y439 (wrap64 (2400 - (Int.tmod a0_2 1201)))).bind fun bt442 => ((plumblaw07_num.f t429).bind fun t446 => (if t446 = 0 then ((plumblaw07_num.f t436).bind fun t447 => (if t447 = 0 then ((plumblaw07_num.f bt442.2).bind fun t448 => (plumblaw07_NearSticky.j0 k t425 (Int.tmod a0_2 1201) t435 bt442.1 (t448 != 0) a0_0 l0_1 a0_2 a0_3)) else (plumblaw07_NearSticky.j0 k t425 (Int.tmod a0_2 1201) t435 bt442.1 true a0_0 l0_1 a0_2 a0_3))) else (plumblaw07_NearSticky.j0 k t425 (Int.tmod a0_2 1201) t435 bt442.1 true a0_0 l0_1 a0_2 a0_3)))) = some r := by first | (rw [hy439]; with_reducible exact H) | (have H2_ := (Option.bind_some _ _).symm.trans H; rw [hy439]; with_reducible exact H2_) | (have H2_ := (Option.bind_some _ _).symm.trans H; with_reducible exact H2_) | with_reducible exact H | (rw [hy439]; exact H) | exact H
  have Ny439 := Aside0.mk hy439
  clear hy439
  replace H := obe H
  obtain ⟨⟨t442, t443⟩, A70, H⟩ := H
  (try dsimp only at H)
  have A7 := Aside0.mk A70
  clear A70
  have HC8 := Aside0.mk H
  clear H
  go_enter Tryd.func5, Tryd.ntmps5
  go_upto_region 8 with (first | ((with_reducible refine gate_dst (N := 1) rfl ?_); refine box_event ?hg (N := 1) ?hd (cs := #[.bool a0_0, .slice A0_1 l0_1.length c0_1, .int .i64 a0_2, .bool a0_3]) (t := 24) ?hr ?_; (case hd => rfl); (case hg => rfl); (case hr => first | (go_simp; done) | (go_simp; rfl)); intro gb423 hg w9 hbox hb; have BK423 := Aside0.mk (hbox); have GW423 := Aside0.mk ((by rw [hg]; exact (below_size dB) : w.heap.size ≤ gb423)); have GE423 := Aside0.mk ((by rw [hg]; exact (below_size dB) : w.heap.size ≤ gb423)); replace HB := Aside0.mk (below_step dB hb); clear hb hbox hg) | ((with_reducible refine gate_callee (f := 19) rfl ?_); refine gL (some 15) Tryd.func19 #[] ?_; (with_reducible refine (plumblaw07_fixed.calls k  true _ A2.out).mono ?_); rintro e w10 ⟨rfl, hb⟩; refine ⟨_, rfl, ?_⟩; replace BK423 := Aside0.mk (blk_below (g := gb423) (o := .cells #[.bool a0_0, .slice A0_1 l0_1.length c0_1, .int .i64 a0_2, .bool a0_3] 24 (0, 0)) (dK BK423.out) hb); replace HB := Aside0.mk (below_step (dG GE423.out) hb); (try clear hb); obtain ⟨hcz11_0, hcz11_1, hcz11_2, hcz11_3⟩ := cz4 BK423.out; obtain ⟨hfz11_0, hfz11_1, hfz11_2, hfz11_3⟩ := fz4 BK423.out) | ((with_reducible refine gate_callee (f := 20) rfl ?_); refine gL (some 19) Tryd.func20 #[.slice A0_1 l0_1.length c0_1, .int .i64 10] ?_; (with_reducible refine (plumblaw07_bounded.calls k _ _ l0_1 10 t425 _ ?side1 ?side2 A4.out).mono ?_); (case side1 => exact dC (Kd.C_below HR0_1.out HB.out)); (case side2 => exact HC0_1.out); rintro e w12 ⟨v426, rfl, ho0, hb⟩; refine ⟨_, rfl, ?_⟩; have HO427 := Aside0.mk (Kd.R_lower ho0 (below_size (dG GE423.out))); replace BK423 := Aside0.mk (blk_below (g := gb423) (o := .cells #[.bool a0_0, .slice A0_1 l0_1.length c0_1, .int .i64 a0_2, .bool a0_3] 24 (0, 0)) (dK BK423.out) hb); replace HB := Aside0.mk (below_step (dG GE423.out) hb); (try clear hb); (try clear ho0); obtain ⟨hcz13_0, hcz13_1, hcz13_2, hcz13_3⟩ := cz4 BK423.out; obtain ⟨hfz13_0, hfz13_1, hfz13_2, hfz13_3⟩ := fz4 BK423.out; obtain ⟨Ao14, co14, eo14⟩ := Kd.R_slice HO427.out; subst eo14) | ((with_reducible refine gate_callee (f := 21) rfl ?_); refine gL (some 25) Tryd.func21 #[.slice Ao14 t425.length co14, .int .i64 2400] ?_; (with_reducible refine (nat_Shl.calls k _ _ t425 2400 t428 t429 _ ?side1 ?side2 A5.out).mono ?_); (case side1 => exact dC (Kd.R_reads' HO427.out).2.2); (case side2 => exact (Kd.R_reads' HO427.out).2.1); rintro e w15 ⟨v430, rfl, ho0, hb⟩; refine ⟨_, rfl, ?_⟩; have HO431 := Aside0.mk (Kd.R_lower (Kd.R_new' ho0 (Kd.R_lt (dR HO427.out))) (below_size (dG GE423.out))); replace HO427 := Aside0.mk (Kd.R_elder' (dR HO427.out) (Kd.R_base ho0) hb); replace BK423 := Aside0.mk (blk_below (g := gb423) (o := .cells #[.bool a0_0, .slice A0_1 l0_1.length c0_1, .int .i64 a0_2, .bool a0_3] 24 (0, 0)) (dK BK423.out) hb); replace HB := Aside0.mk (below_step (dG GE423.out) hb); (try clear hb); (try clear ho0)) | ((with_reducible refine gate_dst (N := 30) rfl ?_); refine Kd.R_lit (Kd.int .u64) _ 26 ?hg (N := 30) ?hd (xs := ([1] : List Int)) (inner := [.int .u64 1]) (ok := fun _ => True) (okp := fun _ => True) ?hr ?hp (fun _ hk => hk) trivial (Below.refl _ _) (Nat.le_refl _) (by simp) ?_; (case hd => rfl); (case hg => rfl); (case hr => first | (go_simp; done) | (go_simp; rfl)); (case hp => exact (Reps.one (show Kd.M (Kd.int .u64) _ _ _ 1 [.int .u64 1] from rfl) (Reps.none _ _))); intro v433 w16 ho17 hb hg_ hnew_; clear hg_ hnew_; (first | rw [← Ny432.out] at ho17 | (simp only [Int.reduceToNat] at ho17; rw [← Ny432.out] at ho17)); have HO434 := Aside0.mk (Kd.R_lower (Kd.R_new' (Kd.R_new' ho17 (Kd.R_lt (dR HO427.out))) (Kd.R_lt (dR HO431.out))) (below_size (dG GE423.out))); replace HO427 := Aside0.mk (Kd.R_elder' (dR HO427.out) (Kd.R_base ho17) hb); replace HO431 := Aside0.mk (Kd.R_elder' (dR HO431.out) (Kd.R_base ho17) hb); replace BK423 := Aside0.mk (blk_below (g := gb423) (o := .cells #[.bool a0_0, .slice A0_1 l0_1.length c0_1, .int .i64 a0_2, .bool a0_3] 24 (0, 0)) (dK BK423.out) hb); replace HB := Aside0.mk (below_step (dG GE423.out) hb); clear hb ho17; obtain ⟨Ao18, co18, eo18⟩ := Kd.R_slice HO431.out; subst eo18; obtain ⟨Ao19, co19, eo19⟩ := Kd.R_slice HO434.out; subst eo19) | ((with_reducible refine gate_callee (f := 22) rfl ?_); refine gL (some 31) Tryd.func22 #[.slice Ao18 t428.length co18, .slice Ao19 y432.length co19] ?_; (with_reducible refine (nat_Add.calls k _ _ t428 _ _ y432 t435 t436 _ ?side1 ?side2 ?side3 ?side4 A6.out).mono ?_); (case side1 => exact dC (Kd.R_reads' HO431.out).2.2); (case side2 => exact (Kd.R_reads' HO431.out).2.1); (case side3 => exact dC (Kd.R_reads' HO434.out).2.2); (case side4 => exact (Kd.R_reads' HO434.out).2.1); rintro e w20 ⟨v437, rfl, ho0, hb⟩; refine ⟨_, rfl, ?_⟩; have HO438 := Aside0.mk (Kd.R_lower (Kd.R_new' (Kd.R_new' (Kd.R_new' ho0 (Kd.R_lt (dR HO427.out))) (Kd.R_lt (dR HO431.out))) (Kd.R_lt (dR HO434.out))) (below_size (dG GE423.out))); replace HO427 := Aside0.mk (Kd.R_elder' (dR HO427.out) (Kd.R_base ho0) hb); replace HO431 := Aside0.mk (Kd.R_elder' (dR HO431.out) (Kd.R_base ho0) hb); replace HO434 := Aside0.mk (Kd.R_elder' (dR HO434.out) (Kd.R_base ho0) hb); replace BK423 := Aside0.mk (blk_below (g := gb423) (o := .cells #[.bool a0_0, .slice A0_1 l0_1.length c0_1, .int .i64 a0_2, .bool a0_3] 24 (0, 0)) (dK BK423.out) hb); replace HB := Aside0.mk (below_step (dG GE423.out) hb); (try clear hb); (try clear ho0)) | ((with_reducible refine gate_dst (N := 35) rfl ?_); refine Kd.R_lit (Kd.int .u64) _ 26 ?hg (N := 35) ?hd (xs := ([1] : List Int)) (inner := [.int .u64 1]) (ok := fun _ => True) (okp := fun _ => True) ?hr ?hp (fun _ hk => hk) trivial (Below.refl _ _) (Nat.le_refl _) (by simp) ?_; (case hd => rfl); (case hg => rfl); (case hr => first | (go_simp; done) | (go_simp; rfl)); (case hp => exact (Reps.one (show Kd.M (Kd.int .u64) _ _ _ 1 [.int .u64 1] from rfl) (Reps.none _ _))); intro v440 w21 ho22 hb hg_ hnew_; clear hg_ hnew_; (first | rw [← Ny439.out] at ho22 | (simp only [Int.reduceToNat] at ho22; rw [← Ny439.out] at ho22)); have HO441 := Aside0.mk (Kd.R_lower (Kd.R_new' (Kd.R_new' (Kd.R_new' (Kd.R_new' ho22 (Kd.R_lt (dR HO427.out))) (Kd.R_lt (dR HO431.out))) (Kd.R_lt (dR HO434.out))) (Kd.R_lt (dR HO438.out))) (below_size (dG GE423.out))); replace HO427 := Aside0.mk (Kd.R_elder' (dR HO427.out) (Kd.R_base ho22) hb); replace HO431 := Aside0.mk (Kd.R_elder' (dR HO431.out) (Kd.R_base ho22) hb); replace HO434 := Aside0.mk (Kd.R_elder' (dR HO434.out) (Kd.R_base ho22) hb); replace HO438 := Aside0.mk (Kd.R_elder' (dR HO438.out) (Kd.R_base ho22) hb); replace BK423 := Aside0.mk (blk_below (g := gb423) (o := .cells #[.bool a0_0, .slice A0_1 l0_1.length c0_1, .int .i64 a0_2, .bool a0_3] 24 (0, 0)) (dK BK423.out) hb); replace HB := Aside0.mk (below_step (dG GE423.out) hb); clear hb ho22; obtain ⟨Ao23, co23, eo23⟩ := Kd.R_slice HO441.out; subst eo23) | ((with_reducible refine gate_callee (f := 21) rfl ?_); refine gL (some 38) Tryd.func21 #[.slice Ao23 y439.length co23, .int .i64 (wrap64 (2400 - (Int.tmod a0_2 1201)))] ?_; (with_reducible refine (nat_Shl.calls k _ _ y439 (wrap64 (2400 - (Int.tmod a0_2 1201))) t442 t443 _ ?side1 ?side2 A7.out).mono ?_); (case side1 => exact dC (Kd.R_reads' HO441.out).2.2); (case side2 => exact (Kd.R_reads' HO441.out).2.1); rintro e w24 ⟨v444, rfl, ho0, hb⟩; refine ⟨_, rfl, ?_⟩; have HO445 := Aside0.mk (Kd.R_lower (Kd.R_new' (Kd.R_new' (Kd.R_new' (Kd.R_new' (Kd.R_new' ho0 (Kd.R_lt (dR HO427.out))) (Kd.R_lt (dR HO431.out))) (Kd.R_lt (dR HO434.out))) (Kd.R_lt (dR HO438.out))) (Kd.R_lt (dR HO441.out))) (below_size (dG GE423.out))); replace HO427 := Aside0.mk (Kd.R_elder' (dR HO427.out) (Kd.R_base ho0) hb); replace HO431 := Aside0.mk (Kd.R_elder' (dR HO431.out) (Kd.R_base ho0) hb); replace HO434 := Aside0.mk (Kd.R_elder' (dR HO434.out) (Kd.R_base ho0) hb); replace HO438 := Aside0.mk (Kd.R_elder' (dR HO438.out) (Kd.R_base ho0) hb); replace HO441 := Aside0.mk (Kd.R_elder' (dR HO441.out) (Kd.R_base ho0) hb); replace BK423 := Aside0.mk (blk_below (g := gb423) (o := .cells #[.bool a0_0, .slice A0_1 l0_1.length c0_1, .int .i64 a0_2, .bool a0_3] 24 (0, 0)) (dK BK423.out) hb); replace HB := Aside0.mk (below_step (dG GE423.out) hb); (try clear hb); (try clear ho0)))
  (try simp only [Act.put, List.setIfInBounds_toArray, List.set_cons_zero, List.set_cons_succ])
  go_cut [53] (fun v53 wc => ∃ (kq : Nat) (x53_7 : Bool), v53 = .bool x53_7 ∧ Aside0 (plumblaw07_NearSticky.j0 kq t425 (Int.tmod a0_2 1201) t435 t442 x53_7 a0_0 l0_1 a0_2 a0_3 = some r) ∧ Aside0 (kq ≤ k) ∧ Aside0 (Kd.R (Kd.int .u64) 26 wc w.heap.size (fun k_ => some k_ ≠ (v437 : Value).ownBlock ∧ some k_ ≠ (v444 : Value).ownBlock) (.slice Ao14 t425.length co14) t425) ∧ Aside0 (Kd.R (Kd.int .u64) 26 wc w.heap.size (fun k_ => some k_ ≠ ((.slice Ao14 t425.length co14) : Value).ownBlock ∧ some k_ ≠ (v444 : Value).ownBlock) v437 t435) ∧ Aside0 (Kd.R (Kd.int .u64) 26 wc w.heap.size (fun k_ => some k_ ≠ ((.slice Ao14 t425.length co14) : Value).ownBlock ∧ some k_ ≠ (v437 : Value).ownBlock) v444 t442) ∧ Aside0 (wc.heap[gb423]? = some (.cells #[.bool a0_0, (.slice A0_1 l0_1.length c0_1), .int .i64 a0_2, .bool a0_3] 24 (0, 0))) ∧ Aside0 (Below w.heap.size w wc))
  case first =>
   have H := HC8.out
   clear HC8
   replace H := obe H
   obtain ⟨t446, A250, H⟩ := H
   (try dsimp only at H)
   have A25 := Aside0.mk A250
   clear A250
   by_cases c26 : t446 = 0
   ·rw [if_pos c26] at H
    have c26b0 : (t446 == 0) = true := beq_iff_eq.mpr c26
    have c26b1 : (t446 != 0) = false := bne_eq_false_iff_eq.mpr c26
    clear c26
    (first | rw [c26b0] | (simp only [i64_w, i32_w]; rw [c26b0]) | skip)
    replace H := obe H
    obtain ⟨t447, A270, H⟩ := H
    (try dsimp only at H)
    have A27 := Aside0.mk A270
    clear A270
    by_cases c28 : t447 = 0
    ·rw [if_pos c28] at H
     have c28b0 : (t447 == 0) = true := beq_iff_eq.mpr c28
     have c28b1 : (t447 != 0) = false := bne_eq_false_iff_eq.mpr c28
     clear c28
     replace H := obe H
     obtain ⟨t448, A290, H⟩ := H
     (try dsimp only at H)
     have A29 := Aside0.mk A290
     clear A290
     have H' := Aside0.mk H
     clear H
     go_wp2_with (first | ((with_reducible refine gate_callee (f := 15) rfl ?_); refine gL (some 42) Tryd.func15 #[.int .i64 t429] ?_; (with_reducible refine (plumblaw07_num.calls t429 t446 _ A25.out).mono ?_); rintro e w' ⟨rfl, ⟨nd, rfl⟩⟩; refine ⟨_, rfl, ?_⟩) | (go_at_call 15; (with_reducible refine (plumblaw07_num.calls t436 t447 _ A27.out).mono ?_); rintro e w' ⟨rfl, ⟨nd, rfl⟩⟩) | (go_at_call 15; (with_reducible refine (plumblaw07_num.calls t443 t448 _ A29.out).mono ?_); rintro e w' ⟨rfl, ⟨nd, rfl⟩⟩))
     go_meet
     case rel => exact ⟨_, ((t448 != 0)), dF, H', ⟨dN⟩, ⟨by (with_reducible repeat (first | apply Kd.R_alloc | apply Kd.R_drewN | apply Kd.R_drew)); exact Kd.R_mono HO427.out (fun _ hk => ⟨hk.1.1.2, hk.2⟩)⟩, ⟨by (with_reducible repeat (first | apply Kd.R_alloc | apply Kd.R_drewN | apply Kd.R_drew)); exact Kd.R_mono HO438.out (fun _ hk => ⟨hk.1.1.1.1.2, hk.2⟩)⟩, ⟨by (with_reducible repeat (first | apply Kd.R_alloc | apply Kd.R_drewN | apply Kd.R_drew)); exact Kd.R_mono HO445.out (fun _ hk => ⟨hk.1.1.1.1.2, hk.1.2⟩)⟩, ⟨dK BK423.out⟩, ⟨dG GE423.out⟩⟩
    ·rw [if_neg c28] at H
     have c28b0 : (t447 == 0) = false := beq_eq_false_iff_ne.mpr c28
     have c28b1 : (t447 != 0) = true := bne_iff_ne.mpr c28
     have H' := Aside0.mk H
     clear H
     go_wp2_with (first | ((with_reducible refine gate_callee (f := 15) rfl ?_); refine gL (some 42) Tryd.func15 #[.int .i64 t429] ?_; (with_reducible refine (plumblaw07_num.calls t429 t446 _ A25.out).mono ?_); rintro e w' ⟨rfl, ⟨nd, rfl⟩⟩; refine ⟨_, rfl, ?_⟩) | (go_at_call 15; (with_reducible refine (plumblaw07_num.calls t436 t447 _ A27.out).mono ?_); rintro e w' ⟨rfl, ⟨nd, rfl⟩⟩))
     go_meet
     case rel => exact ⟨_, (true), dF, H', ⟨dN⟩, ⟨by (with_reducible repeat (first | apply Kd.R_alloc | apply Kd.R_drewN | apply Kd.R_drew)); exact Kd.R_mono HO427.out (fun _ hk => ⟨hk.1.1.2, hk.2⟩)⟩, ⟨by (with_reducible repeat (first | apply Kd.R_alloc | apply Kd.R_drewN | apply Kd.R_drew)); exact Kd.R_mono HO438.out (fun _ hk => ⟨hk.1.1.1.1.2, hk.2⟩)⟩, ⟨by (with_reducible repeat (first | apply Kd.R_alloc | apply Kd.R_drewN | apply Kd.R_drew)); exact Kd.R_mono HO445.out (fun _ hk => ⟨hk.1.1.1.1.2, hk.1.2⟩)⟩, ⟨dK BK423.out⟩, ⟨dG GE423.out⟩⟩
   ·rw [if_neg c26] at H
    have c26b0 : (t446 == 0) = false := beq_eq_false_iff_ne.mpr c26
    have c26b1 : (t446 != 0) = true := bne_iff_ne.mpr c26
    (first | rw [c26b0] | (simp only [i64_w, i32_w]; rw [c26b0]) | skip)
    have H' := Aside0.mk H
    clear H
    go_wp2_with (first | ((with_reducible refine gate_callee (f := 15) rfl ?_); refine gL (some 42) Tryd.func15 #[.int .i64 t429] ?_; (with_reducible refine (plumblaw07_num.calls t429 t446 _ A25.out).mono ?_); rintro e w' ⟨rfl, ⟨nd, rfl⟩⟩; refine ⟨_, rfl, ?_⟩))
    go_meet
    case rel => exact ⟨_, (true), dF, H', ⟨dN⟩, ⟨by (with_reducible repeat (first | apply Kd.R_alloc | apply Kd.R_drewN | apply Kd.R_drew)); exact Kd.R_mono HO427.out (fun _ hk => ⟨hk.1.1.2, hk.2⟩)⟩, ⟨by (with_reducible repeat (first | apply Kd.R_alloc | apply Kd.R_drewN | apply Kd.R_drew)); exact Kd.R_mono HO438.out (fun _ hk => ⟨hk.1.1.1.1.2, hk.2⟩)⟩, ⟨by (with_reducible repeat (first | apply Kd.R_alloc | apply Kd.R_drewN | apply Kd.R_drew)); exact Kd.R_mono HO445.out (fun _ hk => ⟨hk.1.1.1.1.2, hk.1.2⟩)⟩, ⟨dK BK423.out⟩, ⟨dG GE423.out⟩⟩
  case rest =>
   clear HC8
   try clear c3
   try clear hcz11_0
   try clear hcz11_1
   try clear hcz11_2
   try clear hcz11_3
   try clear hcz13_0
   try clear hcz13_1
   try clear hcz13_2
   try clear hcz13_3
   try clear hfz11_0
   try clear hfz11_1
   try clear hfz11_2
   try clear hfz11_3
   try clear hfz13_0
   try clear hfz13_1
   try clear hfz13_2
   try clear hfz13_3
   obtain ⟨kq, x53_7, rfl, HA, HJ7, HO_3, HO_5, HO_8, BK423, HB⟩ := hcut
   cases kq with
   | zero => exact absurd HA.out (by simp [plumblaw07_NearSticky.j0])
   | succ kj7 =>
    have H := HA.out
    clear HA
    simp only [plumblaw07_NearSticky.j0] at H
    by_cases c30 : x53_7 = true
    ·subst c30
     have H1 : (some false) = some r := by rw [if_pos rfl] at H; exact H
     clear H
     have H := H1
     clear H1
     obtain rfl := Option.some.inj H
     go_wp2
     go_ret
     exact ⟨dE, dG GE423.out⟩
    ·replace c30 := Bool.eq_false_iff.mpr c30
     subst c30
     have H1 : (plumblaw07_NearSticky.l0 kj7 t425 (Int.tmod a0_2 1201) t435 t442 0 a0_0 l0_1 a0_2 a0_3) = some r := by rw [if_neg (show ¬ (false = true) by decide)] at H; exact H
     clear H
     have H := H1
     clear H1
     have H' := Aside0.mk H
     clear H
     go_wp2
     go_loopg [10] kj7 (fun kq v10 w' => ∃ (x10_2 : Int), v10 = .int .i64 x10_2 ∧ Aside0 (plumblaw07_NearSticky.l0 kq t425 (Int.tmod a0_2 1201) t435 t442 x10_2 a0_0 l0_1 a0_2 a0_3 = some r) ∧ Aside0 (kq ≤ kj7) ∧ Aside0 (Kd.R (Kd.int .u64) 26 w' w.heap.size (fun k_ => some k_ ≠ (v437 : Value).ownBlock ∧ some k_ ≠ (v444 : Value).ownBlock) (.slice Ao14 t425.length co14) t425) ∧ Aside0 (Kd.R (Kd.int .u64) 26 w' w.heap.size (fun k_ => some k_ ≠ ((.slice Ao14 t425.length co14) : Value).ownBlock ∧ some k_ ≠ (v444 : Value).ownBlock) v437 t435) ∧ Aside0 (Kd.R (Kd.int .u64) 26 w' w.heap.size (fun k_ => some k_ ≠ ((.slice Ao14 t425.length co14) : Value).ownBlock ∧ some k_ ≠ (v437 : Value).ownBlock) v444 t442) ∧ Aside0 (w'.heap[gb423]? = some (.cells #[.bool a0_0, (.slice A0_1 l0_1.length c0_1), .int .i64 a0_2, .bool a0_3] 24 (0, 0))) ∧ Aside0 (Below w.heap.size w w'))
     case atStart => exact ⟨(0), dF, H', ⟨Nat.le_refl _⟩, ⟨dR HO_3.out⟩, ⟨dR HO_5.out⟩, ⟨dR HO_8.out⟩, ⟨dK BK423.out⟩, ⟨dG GE423.out⟩⟩
     case round =>
      clear H'
      try clear c3
      try clear c30
      try clear hcz11_0
      try clear hcz11_1
      try clear hcz11_2
      try clear hcz11_3
      try clear hcz13_0
      try clear hcz13_1
      try clear hcz13_2
      try clear hcz13_3
      try clear hfz11_0
      try clear hfz11_1
      try clear hfz11_2
      try clear hfz11_3
      try clear hfz13_0
      try clear hfz13_1
      try clear hfz13_2
      try clear hfz13_3
      obtain ⟨x10_2, rfl, HA, HK2, HO_3, HO_5, HO_8, BK423, HB⟩ := hrel
      cases gk with
      | zero => exact absurd HA.out (by simp [plumblaw07_NearSticky.l0])
      | succ k2 =>
       have H := HA.out
       clear HA
       simp only [plumblaw07_NearSticky.l0] at H
       by_cases c31 : x10_2 ≤ 4
       ·rw [if_pos c31] at H
        have c31b0 : decide (x10_2 ≤ 4) = true := decide_eq_true c31
        clear c31
        replace H := obe H
        obtain ⟨⟨t449, t450⟩, A320, H⟩ := H
        (try dsimp only at H)
        have A32 := Aside0.mk A320
        clear A320
        replace H := obe H
        obtain ⟨⟨t451, t452⟩, A330, H⟩ := H
        (try dsimp only at H)
        have A33 := Aside0.mk A330
        clear A330
        by_cases c34 : t449 = t451
        ·rw [if_pos c34] at H
         have c34b0 : (t449 == t451) = true := beq_iff_eq.mpr c34
         have c34b1 : (t449 != t451) = false := bne_eq_false_iff_eq.mpr c34
         clear c34
         replace H := obe H
         obtain ⟨t453, A350, H⟩ := H
         (try dsimp only at H)
         have A35 := Aside0.mk A350
         clear A350
         replace H := obe H
         obtain ⟨t454, A360, H⟩ := H
         (try dsimp only at H)
         have A36 := Aside0.mk A360
         clear A360
         by_cases c37 : t453 = t454
         ·rw [if_pos c37] at H
          have c37b0 : (t453 == t454) = true := beq_iff_eq.mpr c37
          have c37b1 : (t453 != t454) = false := bne_eq_false_iff_eq.mpr c37
          clear c37
          have H' := Aside0.mk H
          clear H
          obtain ⟨hcz38_0, hcz38_1, hcz38_2, hcz38_3⟩ := cz4 BK423.out
          obtain ⟨hfz38_0, hfz38_1, hfz38_2, hfz38_3⟩ := fz4 BK423.out
          go_wp2_with (first | ((with_reducible refine gate_callee (f := 13) rfl ?_); refine gL (some 64) Tryd.func13 #[.bool a0_0, .slice Ao14 t425.length co14, .int .i64 (Int.tmod a0_2 1201), .bool true, .int .i64 x10_2] ?_; (with_reducible refine (near_Scaled.calls k2 a0_0 _ _ t425 (Int.tmod a0_2 1201) true x10_2 t449 t450 _ ?side1 ?side2 A32.out).mono ?_); (case side1 => exact dC (Kd.R_reads' HO_3.out).2.2); (case side2 => exact (Kd.R_reads' HO_3.out).2.1); rintro e w39 ⟨rfl, hb⟩; refine ⟨_, rfl, ?_⟩; replace HO_3 := Aside0.mk (Kd.R_below (dR HO_3.out) hb); replace HO_5 := Aside0.mk (Kd.R_below (dR HO_5.out) hb); replace HO_8 := Aside0.mk (Kd.R_below (dR HO_8.out) hb); replace BK423 := Aside0.mk (blk_below (g := gb423) (o := .cells #[.bool a0_0, .slice A0_1 l0_1.length c0_1, .int .i64 a0_2, .bool a0_3] 24 (0, 0)) (dK BK423.out) hb); replace HB := Aside0.mk (below_step (dG GE423.out) hb); (try clear hb); obtain ⟨hcz40_0, hcz40_1, hcz40_2, hcz40_3⟩ := cz4 BK423.out; obtain ⟨hfz40_0, hfz40_1, hfz40_2, hfz40_3⟩ := fz4 BK423.out; obtain ⟨Ao41, co41, eo41⟩ := Kd.R_slice HO_5.out; subst eo41; obtain ⟨Ao42, co42, eo42⟩ := Kd.R_slice HO_8.out; subst eo42) | ((with_reducible refine gate_callee (f := 17) rfl ?_); refine gL (some 73) Tryd.func17 #[.bool a0_0, .slice Ao41 t435.length co41, .slice Ao42 t442.length co42, .int .i64 x10_2] ?_; (with_reducible refine (near_Quotient.calls k2 a0_0 _ _ t435 _ _ t442 x10_2 t451 t452 _ ?side1 ?side2 ?side3 ?side4 A33.out).mono ?_); (case side1 => exact dC (Kd.R_reads' HO_5.out).2.2); (case side2 => exact (Kd.R_reads' HO_5.out).2.1); (case side3 => exact dC (Kd.R_reads' HO_8.out).2.2); (case side4 => exact (Kd.R_reads' HO_8.out).2.1); rintro e w43 ⟨rfl, hb⟩; refine ⟨_, rfl, ?_⟩; replace HO_3 := Aside0.mk (Kd.R_below (dR HO_3.out) hb); replace HO_5 := Aside0.mk (Kd.R_below (dR HO_5.out) hb); replace HO_8 := Aside0.mk (Kd.R_below (dR HO_8.out) hb); replace BK423 := Aside0.mk (blk_below (g := gb423) (o := .cells #[.bool a0_0, .slice A0_1 l0_1.length c0_1, .int .i64 a0_2, .bool a0_3] 24 (0, 0)) (dK BK423.out) hb); replace HB := Aside0.mk (below_step (dG GE423.out) hb); (try clear hb)) | (go_at_call 15; (with_reducible refine (plumblaw07_num.calls t450 t453 _ A35.out).mono ?_); rintro e w' ⟨rfl, ⟨nd, rfl⟩⟩) | (go_at_call 15; (with_reducible refine (plumblaw07_num.calls t452 t454 _ A36.out).mono ?_); rintro e w' ⟨rfl, ⟨nd, rfl⟩⟩))
          go_roundg k2
          case measure => have := HJ7.out; have := HK2.out; omega
          case rel => exact ⟨(wrap64 (x10_2 + 1)), dF, H', ⟨by have := HJ7.out; have := HK2.out; omega⟩, ⟨dR HO_3.out⟩, ⟨dR HO_5.out⟩, ⟨dR HO_8.out⟩, ⟨dK BK423.out⟩, ⟨dG GE423.out⟩⟩
         ·rw [if_neg c37] at H
          have c37b0 : (t453 == t454) = false := beq_eq_false_iff_ne.mpr c37
          have c37b1 : (t453 != t454) = true := bne_iff_ne.mpr c37
          obtain rfl := Option.some.inj H
          obtain ⟨hcz44_0, hcz44_1, hcz44_2, hcz44_3⟩ := cz4 BK423.out
          obtain ⟨hfz44_0, hfz44_1, hfz44_2, hfz44_3⟩ := fz4 BK423.out
          go_wp2_with (first | ((with_reducible refine gate_callee (f := 13) rfl ?_); refine gL (some 64) Tryd.func13 #[.bool a0_0, .slice Ao14 t425.length co14, .int .i64 (Int.tmod a0_2 1201), .bool true, .int .i64 x10_2] ?_; (with_reducible refine (near_Scaled.calls k2 a0_0 _ _ t425 (Int.tmod a0_2 1201) true x10_2 t449 t450 _ ?side1 ?side2 A32.out).mono ?_); (case side1 => exact dC (Kd.R_reads' HO_3.out).2.2); (case side2 => exact (Kd.R_reads' HO_3.out).2.1); rintro e w45 ⟨rfl, hb⟩; refine ⟨_, rfl, ?_⟩; replace HO_3 := Aside0.mk (Kd.R_below (dR HO_3.out) hb); replace HO_5 := Aside0.mk (Kd.R_below (dR HO_5.out) hb); replace HO_8 := Aside0.mk (Kd.R_below (dR HO_8.out) hb); replace BK423 := Aside0.mk (blk_below (g := gb423) (o := .cells #[.bool a0_0, .slice A0_1 l0_1.length c0_1, .int .i64 a0_2, .bool a0_3] 24 (0, 0)) (dK BK423.out) hb); replace HB := Aside0.mk (below_step (dG GE423.out) hb); (try clear hb); obtain ⟨hcz46_0, hcz46_1, hcz46_2, hcz46_3⟩ := cz4 BK423.out; obtain ⟨hfz46_0, hfz46_1, hfz46_2, hfz46_3⟩ := fz4 BK423.out; obtain ⟨Ao47, co47, eo47⟩ := Kd.R_slice HO_5.out; subst eo47; obtain ⟨Ao48, co48, eo48⟩ := Kd.R_slice HO_8.out; subst eo48) | ((with_reducible refine gate_callee (f := 17) rfl ?_); refine gL (some 73) Tryd.func17 #[.bool a0_0, .slice Ao47 t435.length co47, .slice Ao48 t442.length co48, .int .i64 x10_2] ?_; (with_reducible refine (near_Quotient.calls k2 a0_0 _ _ t435 _ _ t442 x10_2 t451 t452 _ ?side1 ?side2 ?side3 ?side4 A33.out).mono ?_); (case side1 => exact dC (Kd.R_reads' HO_5.out).2.2); (case side2 => exact (Kd.R_reads' HO_5.out).2.1); (case side3 => exact dC (Kd.R_reads' HO_8.out).2.2); (case side4 => exact (Kd.R_reads' HO_8.out).2.1); rintro e w49 ⟨rfl, hb⟩; refine ⟨_, rfl, ?_⟩; replace HO_3 := Aside0.mk (Kd.R_below (dR HO_3.out) hb); replace HO_5 := Aside0.mk (Kd.R_below (dR HO_5.out) hb); replace HO_8 := Aside0.mk (Kd.R_below (dR HO_8.out) hb); replace BK423 := Aside0.mk (blk_below (g := gb423) (o := .cells #[.bool a0_0, .slice A0_1 l0_1.length c0_1, .int .i64 a0_2, .bool a0_3] 24 (0, 0)) (dK BK423.out) hb); replace HB := Aside0.mk (below_step (dG GE423.out) hb); (try clear hb)) | (go_at_call 15; (with_reducible refine (plumblaw07_num.calls t450 t453 _ A35.out).mono ?_); rintro e w' ⟨rfl, ⟨nd, rfl⟩⟩) | (go_at_call 15; (with_reducible refine (plumblaw07_num.calls t452 t454 _ A36.out).mono ?_); rintro e w' ⟨rfl, ⟨nd, rfl⟩⟩))
          go_ret
          exact ⟨dE, dG GE423.out⟩
        ·rw [if_neg c34] at H
         have c34b0 : (t449 == t451) = false := beq_eq_false_iff_ne.mpr c34
         have c34b1 : (t449 != t451) = true := bne_iff_ne.mpr c34
         obtain rfl := Option.some.inj H
         obtain ⟨hcz50_0, hcz50_1, hcz50_2, hcz50_3⟩ := cz4 BK423.out
         obtain ⟨hfz50_0, hfz50_1, hfz50_2, hfz50_3⟩ := fz4 BK423.out
         go_wp2_with (first | ((with_reducible refine gate_callee (f := 13) rfl ?_); refine gL (some 64) Tryd.func13 #[.bool a0_0, .slice Ao14 t425.length co14, .int .i64 (Int.tmod a0_2 1201), .bool true, .int .i64 x10_2] ?_; (with_reducible refine (near_Scaled.calls k2 a0_0 _ _ t425 (Int.tmod a0_2 1201) true x10_2 t449 t450 _ ?side1 ?side2 A32.out).mono ?_); (case side1 => exact dC (Kd.R_reads' HO_3.out).2.2); (case side2 => exact (Kd.R_reads' HO_3.out).2.1); rintro e w51 ⟨rfl, hb⟩; refine ⟨_, rfl, ?_⟩; replace HO_3 := Aside0.mk (Kd.R_below (dR HO_3.out) hb); replace HO_5 := Aside0.mk (Kd.R_below (dR HO_5.out) hb); replace HO_8 := Aside0.mk (Kd.R_below (dR HO_8.out) hb); replace BK423 := Aside0.mk (blk_below (g := gb423) (o := .cells #[.bool a0_0, .slice A0_1 l0_1.length c0_1, .int .i64 a0_2, .bool a0_3] 24 (0, 0)) (dK BK423.out) hb); replace HB := Aside0.mk (below_step (dG GE423.out) hb); (try clear hb); obtain ⟨hcz52_0, hcz52_1, hcz52_2, hcz52_3⟩ := cz4 BK423.out; obtain ⟨hfz52_0, hfz52_1, hfz52_2, hfz52_3⟩ := fz4 BK423.out; obtain ⟨Ao53, co53, eo53⟩ := Kd.R_slice HO_5.out; subst eo53; obtain ⟨Ao54, co54, eo54⟩ := Kd.R_slice HO_8.out; subst eo54) | ((with_reducible refine gate_callee (f := 17) rfl ?_); refine gL (some 73) Tryd.func17 #[.bool a0_0, .slice Ao53 t435.length co53, .slice Ao54 t442.length co54, .int .i64 x10_2] ?_; (with_reducible refine (near_Quotient.calls k2 a0_0 _ _ t435 _ _ t442 x10_2 t451 t452 _ ?side1 ?side2 ?side3 ?side4 A33.out).mono ?_); (case side1 => exact dC (Kd.R_reads' HO_5.out).2.2); (case side2 => exact (Kd.R_reads' HO_5.out).2.1); (case side3 => exact dC (Kd.R_reads' HO_8.out).2.2); (case side4 => exact (Kd.R_reads' HO_8.out).2.1); rintro e w55 ⟨rfl, hb⟩; refine ⟨_, rfl, ?_⟩; replace HO_3 := Aside0.mk (Kd.R_below (dR HO_3.out) hb); replace HO_5 := Aside0.mk (Kd.R_below (dR HO_5.out) hb); replace HO_8 := Aside0.mk (Kd.R_below (dR HO_8.out) hb); replace BK423 := Aside0.mk (blk_below (g := gb423) (o := .cells #[.bool a0_0, .slice A0_1 l0_1.length c0_1, .int .i64 a0_2, .bool a0_3] 24 (0, 0)) (dK BK423.out) hb); replace HB := Aside0.mk (below_step (dG GE423.out) hb); (try clear hb)))
         go_ret
         exact ⟨dE, dG GE423.out⟩
       ·rw [if_neg c31] at H
        have c31b0 : decide (x10_2 ≤ 4) = false := decide_eq_false c31
        clear c31
        obtain rfl := Option.some.inj H
        go_wp2
        go_ret
        exact ⟨dE, dG GE423.out⟩
 ·replace c3 := Bool.eq_false_iff.mpr c3
  subst c3
  have H1 : (some false) = some r := by rw [if_neg (show ¬ (false = true) by decide)] at H; exact H
  clear H
  have H := H1
  clear H1
  obtain rfl := Option.some.inj H
  go_enter Tryd.func5, Tryd.ntmps5
  go_wp2_with (first | ((with_reducible refine gate_dst (N := 1) rfl ?_); refine box_event ?hg (N := 1) ?hd (cs := #[.bool a0_0, .slice A0_1 l0_1.length c0_1, .int .i64 a0_2, .bool a0_3]) (t := 24) ?hr ?_; (case hd => rfl); (case hg => rfl); (case hr => first | (go_simp; done) | (go_simp; rfl)); intro gb423 hg w56 hbox hb; have BK423 := Aside0.mk (hbox); have GW423 := Aside0.mk ((by rw [hg]; exact (below_size dB) : w.heap.size ≤ gb423)); have GE423 := Aside0.mk ((by rw [hg]; exact (below_size dB) : w.heap.size ≤ gb423)); replace HB := Aside0.mk (below_step dB hb); clear hb hbox hg) | ((with_reducible refine gate_callee (f := 19) rfl ?_); refine gL (some 15) Tryd.func19 #[] ?_; (with_reducible refine (plumblaw07_fixed.calls k  false _ A2.out).mono ?_); rintro e w57 ⟨rfl, hb⟩; refine ⟨_, rfl, ?_⟩; replace BK423 := Aside0.mk (blk_below (g := gb423) (o := .cells #[.bool a0_0, .slice A0_1 l0_1.length c0_1, .int .i64 a0_2, .bool a0_3] 24 (0, 0)) (dK BK423.out) hb); replace HB := Aside0.mk (below_step (dG GE423.out) hb); (try clear hb)))
  go_ret
  exact ⟨dE, dG GE423.out⟩

end Go.Proofs.YtoefabmlkbhmpaaDoor.PA

namespace Go.Proofs.YtoefabmlkbhmpaaDoor.PA
open Go.RowKit Go.Proofs.YtoefabmlkbhmpaaDoorW.PrintWords Go.Proofs.YtoefabmlkbhmpaaDoorW.PrintLast Go.Proofs.YtoefabmlkbhmpaaDoorW.PrintMore
attribute [local go_sem] max2_int min2_int max_two min_two max_three min_three max_four min_four   -- for this text's walks alone
set_option linter.unusedVariables false
set_option linter.unusedSimpArgs false

-- NOT PRINTED: function 3 (plumblaw07_NearScaleds)


end Go.Proofs.YtoefabmlkbhmpaaDoor.PA

namespace Go.Proofs.YtoefabmlkbhmpaaDoor.PA
open Go.RowKit Go.Proofs.YtoefabmlkbhmpaaDoorW.PrintWords Go.Proofs.YtoefabmlkbhmpaaDoorW.PrintLast Go.Proofs.YtoefabmlkbhmpaaDoorW.PrintMore
attribute [local go_sem] max2_int min2_int max_two min_two max_three min_three max_four min_four   -- for this text's walks alone
set_option linter.unusedVariables false
set_option linter.unusedSimpArgs false

/-! ### plumblaw07_NearScaleds: function 3 -/
end Go.Proofs.YtoefabmlkbhmpaaDoor.PA

namespace Go.Proofs.YtoefabmlkbhmpaaDoor.PA
open Go.RowKit Go.Proofs.YtoefabmlkbhmpaaDoorW.PrintWords Go.Proofs.YtoefabmlkbhmpaaDoorW.PrintLast Go.Proofs.YtoefabmlkbhmpaaDoorW.PrintMore
attribute [local go_sem] max2_int min2_int max_two min_two max_three min_three max_four min_four   -- for this text's walks alone
set_option linter.unusedVariables false
set_option linter.unusedSimpArgs false

end Go.Proofs.YtoefabmlkbhmpaaDoor.PA

namespace Go.Proofs.YtoefabmlkbhmpaaDoor.PA
open Go.RowKit Go.Proofs.YtoefabmlkbhmpaaDoorW.PrintWords Go.Proofs.YtoefabmlkbhmpaaDoorW.PrintLast Go.Proofs.YtoefabmlkbhmpaaDoorW.PrintMore
attribute [local go_sem] max2_int min2_int max_two min_two max_three min_three max_four min_four   -- for this text's walks alone
set_option linter.unusedVariables false
set_option linter.unusedSimpArgs false

/-! ### plumblaw07_NearQuotients: function 4 -/
end Go.Proofs.YtoefabmlkbhmpaaDoor.PA
