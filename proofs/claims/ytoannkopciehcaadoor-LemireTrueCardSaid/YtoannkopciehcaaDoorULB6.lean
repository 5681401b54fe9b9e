/- A part of the proof (6). -/
import Derived.Test.YtoannkopciehcaaDoorULB2
import Derived.Test.YtoannkopciehcaaDoorULB4
import Derived.Test.YtoannkopciehcaaDoorULB5
import Derived.Test.YtoannkopciehcaaDoorULB3
namespace Go.Proofs.YtoannkopciehcaaDoor.PA
open Go.RowKit Go.Proofs.YtoannkopciehcaaDoorW.PrintWords Go.Proofs.YtoannkopciehcaaDoorW.PrintLast Go.Proofs.YtoannkopciehcaaDoorW.PrintMore
attribute [local go_sem] max2_int min2_int max_two min_two max_three min_three max_four min_four   -- for this text's walks alone
set_option linter.unusedVariables false
set_option linter.unusedSimpArgs false

/-! ### nat_Shl: function 58 (by hand) -/
/-- xs, with ys copied over it from q on -/
def cpyAt (xs ys : List Int) (q : Nat) : List Int := xs.take q ++ (ys.take (min ys.length (xs.length - q)) ++ xs.drop (q + min ys.length (xs.length - q)))
theorem cpyAt_length {xs ys : List Int} {q : Nat} (h : q ≤ xs.length) : (cpyAt xs ys q).length = xs.length := by
 unfold cpyAt
 rw [List.length_append, List.length_append, List.length_take, List.length_take, List.length_drop]
 omega
theorem shl_copied {yq y z : List Int} {q : Nat} (hl : yq.length = y.length) (h : y = cpyAt yq z q) :
  yq.take q ++ (z.take (min z.length (y.length - q)) ++ yq.drop (q + min z.length (y.length - q))) = y := by
 rw [← hl]
 conv => rhs; rw [h]
 rfl
def nat_Shl.l0 : Nat → Int → List Int → Int → Int → Option (List Int × Int)
 | 0, _, _, _, _ => none
 | k + 1, x1, x6, x7, x8 => if x8 > (wrap64 (Int.tdiv x1 64)) then (if 0 ≤ x8 then (if x8 < (x6.length : Int) then (if 0 ≤ (wrap64 (x8 - 1)) then (if (wrap64 (x8 - 1)) < (x6.length : Int) then ((wide_Shl.f (rd x6 x8) (rd x6 (wrap64 (x8 - 1))) x7).bind fun bt118 => (nat_Shl.l0 k x1 (x6.set (x8 : Int).toNat bt118.1) x7 (wrap64 (x8 - 1)))) else (none)) else (none)) else (none)) else (none)) else (if 0 ≤ (wrap64 (Int.tdiv x1 64)) then (if (wrap64 (Int.tdiv x1 64)) < (x6.length : Int) then (if 0 ≤ x7 then ((nat_bound.f k (x6.set ((wrap64 (Int.tdiv x1 64)) : Int).toNat (shl .u64 (rd x6 (wrap64 (Int.tdiv x1 64))) x7))).bind fun bt123 => (some (bt123.1, bt123.2))) else (none)) else (none)) else (none))
def nat_Shl.f (k : Nat) (l0 : List Int) (a1 : Int) : Option (List Int × Int) := (nat_size.f k l0).bind fun t110 => (if 0 ≤ t110 then (if t110 ≤ (l0.length : Int) then (if a1 < 0 then (some (([] : List Int), 22)) else (if ((l0.take (t110 : Int).toNat).length : Int) = 0 then (some (([] : List Int), 0)) else ((nat_Bits.f k (l0.take (t110 : Int).toNat)).bind fun t112 => (if a1 > (wrap64 (262144 - t112)) then (some (([] : List Int), 21)) else (if 0 ≤ (wrap64 ((wrap64 ((wrap64 (Int.tdiv a1 64)) + ((l0.take (t110 : Int).toNat).length : Int))) + 1)) then (if ((wrap64 ((wrap64 ((wrap64 (Int.tdiv a1 64)) + ((l0.take (t110 : Int).toNat).length : Int))) + 1) : Int).toNat ≤ 35184372088832 ∧ 0 ≤ (wrap64 (Int.tdiv a1 64)) ∧ (wrap64 (Int.tdiv a1 64)).toNat ≤ (wrap64 ((wrap64 ((wrap64 (Int.tdiv a1 64)) + ((l0.take (t110 : Int).toNat).length : Int))) + 1) : Int).toNat) then ((some (cpyAt (List.replicate (wrap64 ((wrap64 ((wrap64 (Int.tdiv a1 64)) + ((l0.take (t110 : Int).toNat).length : Int))) + 1) : Int).toNat 0) (l0.take (t110 : Int).toNat) (wrap64 (Int.tdiv a1 64)).toNat : List Int)).bind fun y113 => (if (Int.tmod a1 64) > 0 then (nat_Shl.l0 k a1 y113 (Int.tmod a1 64) (wrap64 ((y113.length : Int) - 1))) else ((nat_bound.f k y113).bind fun bt127 => (some (bt127.1, bt127.2))))) else (none)) else (none)))))) else (none)) else (none))
theorem nat_Shl.mono_l : ∀ k, (∀ y0 y1 y2 y3, LeO (nat_Shl.l0 k y0 y1 y2 y3) (nat_Shl.l0 (k + 1) y0 y1 y2 y3))
 | 0 => fun _ _ _ _ r h => by simp [nat_Shl.l0] at h
 | k + 1 => by
  have ih0 := nat_Shl.mono_l k
  ·intro y0 y1 y2 y3
   unfold nat_Shl.l0
   have m0_ := nat_Bits.mono
   have m1_ := nat_bound.mono
   have m2_ := nat_size.mono
   exact mX
theorem nat_Shl.mono : ∀ a0 a1 k, LeO (nat_Shl.f k a0 a1) (nat_Shl.f (k + 1) a0 a1) := by
 intro a0 a1 k
 have ih0 := nat_Shl.mono_l k
 unfold nat_Shl.f
 have m0_ := nat_Bits.mono
 have m1_ := nat_bound.mono
 have m2_ := nat_size.mono
 exact mX
def nat_Shl.T15 : Bool × List (List Nat × List Nat) := (true, [([], []), ([], []), ([], []), ([], []), ([2, 3], [2, 3]), ([4], [4]), ([], []), ([], []), ([7], [7]), ([6, 8], [6, 8]), ([9], [9]), ([], []), ([5, 10, 11], [5, 10, 11]), ([12], [12]), ([13], [13]), ([13], [13]), ([0, 1, 0, 1, 2, 3, 4, 5, 6, 7, 8, 9, 10, 11, 12, 13, 14], [0, 1]), ([16, 14, 12, 0, 1, 2, 3, 4, 5, 6, 7, 8, 9, 10, 11, 12, 13, 14], [14, 16])])
def nat_Shl.B15 : List Nat := [0, 0, 0, 0, 12, 28, 0, 0, 128, 448, 960, 0, 4092, 8188, 16380, 16380, 32767, 98303]
theorem nat_Shl.tab15 : rtab .any (opsOf Tryd.f58 15) = nat_Shl.T15 := by kernel_rfl
theorem nat_Shl.bits15 : waitsOk nat_Shl.T15.2 nat_Shl.B15 = true := by kernel_rfl
set_option maxHeartbeats 8000000 in
set_option maxRecDepth 100000 in
theorem nat_Shl.calls (k : Nat) (A0 : Option Addr) (c0 : Nat) (l0 : List Int) (a1 : Int) (r1 : List Int) (r2 : Int) (w : World) (hr0 : Kd.C (Kd.int .u64) w A0 l0.length l0) (hc0 : l0.length ≤ c0) (h : nat_Shl.f k l0 a1 = some (r1, r2)) :
  Calls Tryd.prog 58 #[.slice A0 l0.length c0, .int .i64 a1] w fun e w' => ∃ v0_ : Value, e = .returned (.tuple #[v0_, .int .i64 r2]) ∧ Kd.R (Kd.int .u64) 22 w' w.heap.size (fun _ => True) v0_ r1 ∧ Below w.heap.size w w' := by
 have HR0 := Aside0.mk hr0
 have HC0 := Aside0.mk hc0
 clear hr0 hc0
 have HB := Aside0.mk (Below.refl w.heap.size w)
 have H : ((nat_size.f k l0).bind fun t110 => (if 0 ≤ t110 then (if t110 ≤ (l0.length : Int) then (if a1 < 0 then (some (([] : List Int), 22)) else (if ((l0.take (t110 : Int).toNat).length : Int) = 0 then (some (([] : List Int), 0)) else ((nat_Bits.f k (l0.take (t110 : Int).toNat)).bind fun t112 => (if a1 > (wrap64 (262144 - t112)) then (some (([] : List Int), 21)) else (if 0 ≤ (wrap64 ((wrap64 ((wrap64 (Int.tdiv a1 64)) + ((l0.take (t110 : Int).toNat).length : Int))) + 1)) then (if ((wrap64 ((wrap64 ((wrap64 (Int.tdiv a1 64)) + ((l0.take (t110 : Int).toNat).length : Int))) + 1) : Int).toNat ≤ 35184372088832 ∧ 0 ≤ (wrap64 (Int.tdiv a1 64)) ∧ (wrap64 (Int.tdiv a1 64)).toNat ≤ (wrap64 ((wrap64 ((wrap64 (Int.tdiv a1 64)) + ((l0.take (t110 : Int).toNat).length : Int))) + 1) : Int).toNat) then ((some (cpyAt (List.replicate (wrap64 ((wrap64 ((wrap64 (Int.tdiv a1 64)) + ((l0.take (t110 : Int).toNat).length : Int))) + 1) : Int).toNat 0) (l0.take (t110 : Int).toNat) (wrap64 (Int.tdiv a1 64)).toNat : List Int)).bind fun y113 => (if (Int.tmod a1 64) > 0 then (nat_Shl.l0 k a1 y113 (Int.tmod a1 64) (wrap64 ((y113.length : Int) - 1))) else ((nat_bound.f k y113).bind fun bt127 => (some (bt127.1, bt127.2))))) else (none)) else (none)))))) else (none)) else (none))) = some (r1, r2) := h
 clear h
 replace H := obe H
 obtain ⟨t110, A30, H⟩ := H
 (try dsimp only at H)
 have A3 := Aside0.mk A30
 clear A30
 by_cases c4 : (0 : Int) ≤ t110
 ·rw [if_pos c4] at H
  have c4b0 := eq_true c4
  have c4b1 : decide (0 ≤ t110) = true := decide_eq_true c4
  clear c4
  by_cases c5 : t110 ≤ (l0.length : Int)
  ·rw [if_pos c5] at H
   have c5b0 := eq_true c5
   have c5b1 : decide (t110 ≤ (l0.length : Int)) = true := decide_eq_true c5
   clear c5
   obtain ⟨z110, Nz1100⟩ : ∃ z_ : List Int, (l0.take (t110 : Int).toNat) = z_ := ⟨_, rfl⟩
   rw [Nz1100] at H
   have Nz110 := Aside0.mk Nz1100
   clear Nz1100
   by_cases c6 : a1 < 0
   ·rw [if_pos c6] at H
    have c6b0 : decide (a1 < 0) = true := decide_eq_true c6
    clear c6
    simp only [Option.some.injEq, Prod.mk.injEq] at H
    obtain ⟨rfl, rfl⟩ := H
    go_enter Tryd.func58, Tryd.ntmps58
    go_wp2_with (first | ((with_reducible refine gate_callee (f := 42) rfl ?_); refine gL (some 11) Tryd.func42 #[.slice A0 l0.length c0] ?_; (with_reducible refine (nat_size.calls k _ _ l0 t110 _ ?side1 ?side2 A3.out).mono ?_); (case side1 => exact dC HR0.out); (case side2 => exact HC0.out); rintro e w' ⟨rfl, ⟨nd, rfl⟩⟩; refine ⟨_, rfl, ?_⟩; obtain ⟨i07, hi07, _, hsz7, _⟩ := info_parts info22; obtain ⟨hcut7, hA7, hC7⟩ := print_take_of (P := Tryd.prog) (Value.int .u64) 0 41 22 .i64 Tryd.underlying41 hi07 hsz7 A0 c0 l0 t110 (of_decide_eq_true dS) (of_decide_eq_true dS) HC0.out; rw [Nz110.out] at hcut7 hA7 hC7; have HR111 := Aside0.mk (Kd.C_of_reads (h1 := fun _ => rfl) (hA7 _ (Kd.reads_of_C HR0.out))); have HC111 := Aside0.mk hC7; clear hA7 hC7 hi07 hsz7))
    go_ret2
    exact ⟨_, dE, by first | exact Kd.R_nil _ _ _ _ _ | exact Kd.N_nil _ _ _ _ _ | exact Kd.V_nil _ _ _ _ _ | exact Kd.Q_nil _ _ _ _ _ | exact Kd.S_nil _ _ _ _ _, dB⟩
   ·rw [if_neg c6] at H
    have c6b0 : decide (a1 < 0) = false := decide_eq_false c6
    clear c6
    by_cases c8 : (z110.length : Int) = 0
    ·rw [if_pos c8] at H
     have c8b0 : ((z110.length : Int) == 0) = true := beq_iff_eq.mpr c8
     have c8b1 : ((z110.length : Int) != 0) = false := bne_eq_false_iff_eq.mpr c8
     clear c8
     simp only [Option.some.injEq, Prod.mk.injEq] at H
     obtain ⟨rfl, rfl⟩ := H
     go_enter Tryd.func58, Tryd.ntmps58
     go_wp2_with (first | ((with_reducible refine gate_callee (f := 42) rfl ?_); refine gL (some 11) Tryd.func42 #[.slice A0 l0.length c0] ?_; (with_reducible refine (nat_size.calls k _ _ l0 t110 _ ?side1 ?side2 A3.out).mono ?_); (case side1 => exact dC HR0.out); (case side2 => exact HC0.out); rintro e w' ⟨rfl, ⟨nd, rfl⟩⟩; refine ⟨_, rfl, ?_⟩; obtain ⟨i09, hi09, _, hsz9, _⟩ := info_parts info22; obtain ⟨hcut9, hA9, hC9⟩ := print_take_of (P := Tryd.prog) (Value.int .u64) 0 41 22 .i64 Tryd.underlying41 hi09 hsz9 A0 c0 l0 t110 (of_decide_eq_true dS) (of_decide_eq_true dS) HC0.out; rw [Nz110.out] at hcut9 hA9 hC9; have HR111 := Aside0.mk (Kd.C_of_reads (h1 := fun _ => rfl) (hA9 _ (Kd.reads_of_C HR0.out))); have HC111 := Aside0.mk hC9; clear hA9 hC9 hi09 hsz9))
     go_ret2
     exact ⟨_, dE, by first | exact Kd.R_nil _ _ _ _ _ | exact Kd.N_nil _ _ _ _ _ | exact Kd.V_nil _ _ _ _ _ | exact Kd.Q_nil _ _ _ _ _ | exact Kd.S_nil _ _ _ _ _, dB⟩
    ·rw [if_neg c8] at H
     have c8b0 : ((z110.length : Int) == 0) = false := beq_eq_false_iff_ne.mpr c8
     have c8b1 : ((z110.length : Int) != 0) = true := bne_iff_ne.mpr c8
     have c8b2 : ¬ (z110 = []) := fun h_ => c8 (by rw [h_]; rfl)
     replace H := obe H
     obtain ⟨t112, A100, H⟩ := H
     (try dsimp only at H)
     have A10 := Aside0.mk A100
     clear A100
     by_cases c11 : a1 > (wrap64 (262144 - t112))
     ·rw [if_pos c11] at H
      have c11b0 : decide ((wrap64 (262144 - t112)) < a1) = true := decide_eq_true c11
      clear c11
      simp only [Option.some.injEq, Prod.mk.injEq] at H
      obtain ⟨rfl, rfl⟩ := H
      go_enter Tryd.func58, Tryd.ntmps58
      go_wp2_with (first | ((with_reducible refine gate_callee (f := 42) rfl ?_); refine gL (some 11) Tryd.func42 #[.slice A0 l0.length c0] ?_; (with_reducible refine (nat_size.calls k _ _ l0 t110 _ ?side1 ?side2 A3.out).mono ?_); (case side1 => exact dC HR0.out); (case side2 => exact HC0.out); rintro e w' ⟨rfl, ⟨nd, rfl⟩⟩; refine ⟨_, rfl, ?_⟩; obtain ⟨i012, hi012, _, hsz12, _⟩ := info_parts info22; obtain ⟨hcut12, hA12, hC12⟩ := print_take_of (P := Tryd.prog) (Value.int .u64) 0 41 22 .i64 Tryd.underlying41 hi012 hsz12 A0 c0 l0 t110 (of_decide_eq_true dS) (of_decide_eq_true dS) HC0.out; rw [Nz110.out] at hcut12 hA12 hC12; have HR111 := Aside0.mk (Kd.C_of_reads (h1 := fun _ => rfl) (hA12 _ (Kd.reads_of_C HR0.out))); have HC111 := Aside0.mk hC12; clear hA12 hC12 hi012 hsz12) | ((with_reducible refine gate_callee (f := 43) rfl ?_); refine goesL_ (some 23) rfl rfl Tryd.func43 (by kernel_rfl) rfl #[.slice A0 z110.length c0] rfl (by (try simp only [List.map_toArray, List.map_cons, List.map_nil]); first | done | (rw [show z110.length = t110.toNat from (by rw [← Nz110.out, List.length_take]; have h_ : (t110 : Int) ≤ (l0.length : Int) := of_decide_eq_true dS; omega)] <;> rfl) | rfl | (simp only [List.length_drop, List.length_take]; rfl)) ?_; (with_reducible refine (nat_Bits.calls k _ _ z110 t112 _ ?side1 ?side2 A10.out).mono ?_); (case side1 => exact dC HR111.out); (case side2 => exact HC111.out); rintro e w' ⟨rfl, ⟨nd, rfl⟩⟩; refine ⟨_, rfl, ?_⟩))
      go_ret2
      exact ⟨_, dE, by first | exact Kd.R_nil _ _ _ _ _ | exact Kd.N_nil _ _ _ _ _ | exact Kd.V_nil _ _ _ _ _ | exact Kd.Q_nil _ _ _ _ _ | exact Kd.S_nil _ _ _ _ _, dB⟩
     ·rw [if_neg c11] at H
      have c11b0 : decide ((wrap64 (262144 - t112)) < a1) = false := decide_eq_false c11
      clear c11
      obtain ⟨ji13, hji13⟩ : ∃ j_ : Int, (wrap64 ((wrap64 ((wrap64 (Int.tdiv a1 64)) + (z110.length : Int))) + 1)) = j_ := ⟨_, rfl⟩
      first | rw [hji13] at H | simp only [hji13] at H
      (try rw [hji13] at A3)
      (try rw [hji13] at A10)
      have hji13w : (IntKind.i64.wrap ((wrap64 ((wrap64 (Int.tdiv a1 64)) + (z110.length : Int))) + 1)) = ji13 := (i64_w _).trans hji13
      by_cases c14 : (0 : Int) ≤ (ji13)
      ·rw [if_pos c14] at H
       have c14b0 := eq_true c14
       have c14b1 : decide (0 ≤ (ji13)) = true := decide_eq_true c14
       clear c14
       by_cases c15 : ((ji13 : Int).toNat ≤ 35184372088832 ∧ 0 ≤ (wrap64 (Int.tdiv a1 64)) ∧ (wrap64 (Int.tdiv a1 64)).toNat ≤ (ji13 : Int).toNat)
       ·rw [if_pos c15] at H
        obtain ⟨c15, cq0, cq1⟩ := c15
        have c15b0 := eq_true c15
        have c15b1 : decide ((ji13 : Int).toNat ≤ 35184372088832) = true := decide_eq_true c15
        clear c15
        obtain ⟨yq, hyq⟩ : ∃ y_ : List Int, y_ = (List.replicate (ji13 : Int).toNat 0) := ⟨_, rfl⟩
        have ylq : yq.length = (ji13 : Int).toNat := by rw [hyq, List.length_replicate]
        rw [← hyq] at H
        have Nyq := Aside0.mk hyq
        clear hyq
        obtain ⟨y113, hy113⟩ : ∃ y_ : List Int, y_ = (cpyAt yq z110 (wrap64 (Int.tdiv a1 64)).toNat) := ⟨_, rfl⟩
        have yl113 : yq.length = y113.length := by rw [hy113, cpyAt_length (by omega)]
        have cq2 : (wrap64 (Int.tdiv a1 64)) ≤ (y113.length : Int) := by omega
        have Cq := Aside0.mk (And.intro cq0 (And.intro cq2 (And.intro yl113 hy113)))
        clear cq0 cq1 cq2 ylq yl113
        replace H : (if (Int.tmod a1 64) > 0 then (nat_Shl.l0 k a1 y113 (Int.tmod a1 64) (wrap64 ((y113.length : Int) - 1))) else ((nat_bound.f k y113).bind fun bt127 => (some (bt127.1, bt127.2)))) = some (r1, r2) := by first | (rw [hy113]; with_reducible exact H) | (have H2_ := (Option.bind_some _ _).symm.trans H; rw [hy113]; with_reducible exact H2_) | (have H2_ := (Option.bind_some _ _).symm.trans H; with_reducible exact H2_) | with_reducible exact H | (rw [hy113]; exact H) | exact H
        have Ny113 := Aside0.mk hy113
        clear hy113
        by_cases c16 : (Int.tmod a1 64) > 0
        ·rw [if_pos c16] at H
         have c16b0 : decide (0 < (Int.tmod a1 64)) = true := decide_eq_true c16
         clear c16
         have H' := Aside0.mk H
         clear H
         go_enter Tryd.func58, Tryd.ntmps58
         go_wp2_with (first | ((with_reducible refine gate_callee (f := 42) rfl ?_); refine gL (some 11) Tryd.func42 #[.slice A0 l0.length c0] ?_; (with_reducible refine (nat_size.calls k _ _ l0 t110 _ ?side1 ?side2 A3.out).mono ?_); (case side1 => exact dC HR0.out); (case side2 => exact HC0.out); rintro e w' ⟨rfl, ⟨nd, rfl⟩⟩; refine ⟨_, rfl, ?_⟩; obtain ⟨i017, hi017, _, hsz17, _⟩ := info_parts info22; obtain ⟨hcut17, hA17, hC17⟩ := print_take_of (P := Tryd.prog) (Value.int .u64) 0 41 22 .i64 Tryd.underlying41 hi017 hsz17 A0 c0 l0 t110 (of_decide_eq_true dS) (of_decide_eq_true dS) HC0.out; rw [Nz110.out] at hcut17 hA17 hC17; have HR111 := Aside0.mk (Kd.C_of_reads (h1 := fun _ => rfl) (hA17 _ (Kd.reads_of_C HR0.out))); have HC111 := Aside0.mk hC17; clear hA17 hC17 hi017 hsz17) | ((with_reducible refine gate_callee (f := 43) rfl ?_); refine goesL_ (some 23) rfl rfl Tryd.func43 (by kernel_rfl) rfl #[.slice A0 z110.length c0] rfl (by (try simp only [List.map_toArray, List.map_cons, List.map_nil]); first | done | (rw [show z110.length = t110.toNat from (by rw [← Nz110.out, List.length_take]; have h_ : (t110 : Int) ≤ (l0.length : Int) := of_decide_eq_true dS; omega)] <;> rfl) | rfl | (simp only [List.length_drop, List.length_take]; rfl)) ?_; (with_reducible refine (nat_Bits.calls k _ _ z110 t112 _ ?side1 ?side2 A10.out).mono ?_); (case side1 => exact dC HR111.out); (case side2 => exact HC111.out); rintro e w' ⟨rfl, ⟨nd, rfl⟩⟩; refine ⟨_, rfl, ?_⟩) | ((with_reducible refine gate_dst (N := 32) rfl ?_); refine Kd.R_make (Kd.int .u64) _ 22 rfl (N := 32) rfl 41 _ _ rfl ji13 rfl rfl Tryd.underlying41 (.int .u64 0) 8 info22 rfl (by decide) (by omega) 0 (ok := fun _ => True) (okp := fun _ => True) rfl (fun _ hk => hk) trivial (of_decide_eq_true dS) (Nat.le_trans (Nat.mul_le_mul_right _ (of_decide_eq_true dS : ji13.toNat ≤ 35184372088832)) (by omega)) (Below.refl _ _) (Nat.le_refl _) ?_; intro v114 w18 ho19 hb hg_ hnew_; clear hg_ hnew_; rw [← Nyq.out] at ho19; have HO115 := Aside0.mk (Kd.R_lower ho19 (below_size dB)); replace HB := Aside0.mk (below_step dB hb); clear hb ho19; obtain ⟨Ao20, co20, eo20⟩ := Kd.R_slice HO115.out; rw [Cq.out.2.2.1] at eo20; subst eo20; obtain ⟨i0q, hi0q, _, hszq, _⟩ := info_parts info22; have hcutq := cut_from (P := Tryd.prog) 41 22 .i64 Tryd.underlying41 hi0q 1 hszq Ao20 y113.length co20 (wrap64 (Int.tdiv a1 64)) Cq.out.1 Cq.out.2.1; clear hi0q hszq; obtain ⟨Aq, hAq⟩ : ∃ A_ : Option Addr, A_ = (if co20 = (wrap64 (Int.tdiv a1 64)).toNat then Ao20 else Ao20.map (·.add ((wrap64 (Int.tdiv a1 64)).toNat * 1))) := ⟨_, rfl⟩; rw [← hAq] at hcutq; have NAq := Aside0.mk hAq; clear hAq) | ((with_reducible refine gate_dst (N := 38) rfl ?_); refine Kd.R_copy_at (enc := Value.int .u64) (h1 := fun _ => rfl) (0 : Int) w.heap.size rfl (.tmp 36) (.tmp 37) 41 41 22 rfl Tryd.underlying41 (by kernel_rfl) Ao20 co20 (wrap64 (Int.tdiv a1 64)).toNat y113.length yq z110 Cq.out.2.2.1 A0 z110.length c0 (fun _ => True) Aq NAq.out rfl rfl (by have := Cq.out.2.1; have := Cq.out.1; omega) HO115.out ?hcr HB.out HB.out.size ?_; (case hcr => exact Kd.C_below HR111.out HB.out); intro wq hoq hbq _; rw [shl_copied Cq.out.2.2.1 Cq.out.2.2.2] at hoq; clear HO115; have HO115 := Aside0.mk hoq; clear HB; have HB := Aside0.mk hbq; clear hoq hbq hcutq))
         go_loopg [8] k (fun kq v8 w' => ∃ (x6_1 : List Int) (x8_1 : Int), v8 = .int .i64 x8_1 ∧ Aside0 (nat_Shl.l0 kq a1 x6_1 (Int.tmod a1 64) x8_1 = some (r1, r2)) ∧ Aside0 (kq ≤ k) ∧ Aside0 (Kd.R (Kd.int .u64) 22 w' w.heap.size (fun _ => True) (.slice Ao20 y113.length co20) x6_1) ∧ Aside0 (Below w.heap.size w w'))
         case atStart => exact ⟨(y113), (wrap64 ((y113.length : Int) - 1)), dF, H', ⟨Nat.le_refl _⟩, ⟨dR HO115.out⟩, ⟨dB⟩⟩
         case round =>
          clear H'
          try clear c4
          try clear c4b0
          try clear c4b1
          try clear c5
          try clear c5b0
          try clear c5b1
          try clear c6
          try clear c6b0
          try clear c8
          try clear c8b0
          try clear c8b1
          try clear c8b2
          try clear c11
          try clear c11b0
          try clear c14
          try clear c14b0
          try clear c14b1
          try clear c15
          try clear Cq
          try clear Nyq
          try clear Ny113
          try clear c15b0
          try clear c15b1
          try clear c16
          try clear c16b0
          obtain ⟨x6_1, x8_1, rfl, HA, HK1, HO_6, HB⟩ := hrel
          have hl6_1 := (Kd.R_reads' HO_6.out).1
          rw [hl6_1] at HO_6
          (try simp only [hl6_1])
          cases gk with
          | zero => exact absurd HA.out (by simp [nat_Shl.l0])
          | succ k1 =>
           have H := HA.out
           clear HA
           simp only [nat_Shl.l0] at H
           by_cases c21 : x8_1 > (wrap64 (Int.tdiv a1 64))
           ·rw [if_pos c21] at H
            have c21b0 : decide ((wrap64 (Int.tdiv a1 64)) < x8_1) = true := decide_eq_true c21
            clear c21
            by_cases c22 : (0 : Int) ≤ x8_1
            ·rw [if_pos c22] at H
             have c22b0 : decide (0 ≤ x8_1) = true := decide_eq_true c22
             clear c22
             by_cases c23 : x8_1 < (x6_1.length : Int)
             ·rw [if_pos c23] at H
              have c23b0 : decide (x8_1 < (x6_1.length : Int)) = true := decide_eq_true c23
              clear c23
              obtain ⟨ji24, hji24⟩ : ∃ j_ : Int, (wrap64 (x8_1 - 1)) = j_ := ⟨_, rfl⟩
              first | rw [hji24] at H | simp only [hji24] at H
              have hji24w : (IntKind.i64.wrap (x8_1 - 1)) = ji24 := (i64_w _).trans hji24
              by_cases c25 : (0 : Int) ≤ (ji24)
              ·rw [if_pos c25] at H
               have c25b0 : decide (0 ≤ (ji24)) = true := decide_eq_true c25
               clear c25
               by_cases c26 : (ji24) < (x6_1.length : Int)
               ·rw [if_pos c26] at H
                have c26b0 : decide ((ji24) < (x6_1.length : Int)) = true := decide_eq_true c26
                clear c26
                replace H := obe H
                obtain ⟨⟨t118, t119⟩, A270, H⟩ := H
                (try dsimp only at H)
                have A27 := Aside0.mk A270
                clear A270
                obtain ⟨y120, hy120⟩ : ∃ y_ : List Int, y_ = (x6_1.set (x8_1 : Int).toNat t118) := ⟨_, rfl⟩
                replace H : (nat_Shl.l0 k1 a1 y120 (Int.tmod a1 64) ji24) = some (r1, r2) := by first | (rw [hy120]; with_reducible exact H) | (have H2_ := (Option.bind_some _ _).symm.trans H; rw [hy120]; with_reducible exact H2_) | (have H2_ := (Option.bind_some _ _).symm.trans H; with_reducible exact H2_) | with_reducible exact H | (rw [hy120]; exact H) | exact H
                have Ny120 := Aside0.mk hy120
                clear hy120
                have H' := Aside0.mk H
                clear H
                try go_wp2
                replace HO_6 := Aside0.mk (Kd.R_drew HO_6.out)
                replace HB := Aside0.mk (below_drew1 HB.out)
                have p116 : 0 ≤ (x8_1 : Int) := of_decide_eq_true dS
                have q116 : x8_1 < (x6_1.length : Int) := of_decide_eq_true dS
                obtain ⟨ad116, e116, hx116_0⟩ := Kd.at_int (Kd.R_reads' HO_6.out).2.2 x8_1 p116 q116
                cases e116
                replace p116 := eq_true p116
                replace q116 := eq_true q116
                have p117 : 0 ≤ ((ji24) : Int) := of_decide_eq_true dS
                have q117 : (ji24) < (x6_1.length : Int) := of_decide_eq_true dS
                obtain ⟨ad117, e117, hx117_0⟩ := Kd.at_int (Kd.R_reads' HO_6.out).2.2 (ji24) p117 q117
                obtain rfl : ad116 = ad117 := (by injection e117)
                replace p117 := eq_true p117
                replace q117 := eq_true q117
                refine start_ (n := 18) (S := fun w' => w'.cell? (ad116.add (x8_1).toNat) = some (.int .u64 (rd x6_1 x8_1)) ∧ w'.cell? (ad116.add ((ji24)).toNat) = some (.int .u64 (rd x6_1 (ji24)))) (ds := [17]) #[false, false, false, false, false, false, false, false, false, false, false, false, false, false, false, false, false, false] (by kernel_rfl) rfl rfl ⟨hx116_0, hx117_0⟩ (fun hHeld => ?_); refine with_tabW nat_Shl.tab15 nat_Shl.bits15 (fun HT_ HW_ => ?_)
                generalize wr.drew = w29 at HO_6 HB hx116_0 hx117_0 hHeld ⊢
                refine pP 0 (some 53) ?_
                refine pP 1 (some 54) ?_
                refine pP 2 (some 55) ?_
                refine pP 3 (some 56) ?_
                refine pP 4 (some 57) ?_
                refine pP 6 (some 59) ?_
                refine pP 7 (some 60) ?_
                refine pP 8 (some 61) ?_
                refine pP 9 (some 62) ?_
                refine pP 11 (some 64) ?_
                refine pH2 5 (some 58) hHeld ?_
                refine pH2 10 (some 63) hHeld ?_
                refine one_ (i := 12) (N := some 65) #[true, true, true, true, true, true, true, true, true, true, true, true, true, false, false, false, false, false] rfl rfl (one_of HT_.out (by kernel_rfl)) (by decide) (fun K hK => ?_)
                refine goes_ Tryd.func85 (by kernel_rfl) rfl #[.int .u64 (rd x6_1 x8_1), .int .u64 (rd x6_1 (ji24)), .int .i64 (Int.tmod a1 64)] (by rfl) rfl rfl (by (try simp only [List.map_toArray, List.map_cons, List.map_nil]); first | done | (simp only [hji24]; rfl) | rfl | (simp only [List.length_drop, List.length_take]; rfl)) ?_
                with_reducible refine (wide_Shl.calls (rd x6_1 x8_1) (rd x6_1 (ji24)) (Int.tmod a1 64) t118 t119 _ A27.out).mono ?_
                rintro e w30 ⟨rfl, hb⟩
                have HS0_ := (hb.cell (World.block_lt_of_cell? _ _ (hHeld.1))).trans (hHeld.1)
                have HS1_ := (hb.cell (World.block_lt_of_cell? _ _ (hHeld.2))).trans (hHeld.2)
                refine ⟨_, rfl, ?_⟩
                replace HO_6 := Aside0.mk (Kd.R_below (dR HO_6.out) hb)
                replace HB := Aside0.mk (below_step dB hb)
                (try clear hb)
                (try clear hb2)
                (try clear hk)
                (try clear hi)
                have p28 : 0 ≤ (x8_1 : Int) := of_decide_eq_true dS
                have q28 : (x8_1 : Int) < ((x6_1.length : Int) : Int) := of_decide_eq_true dS
                obtain ⟨go28, co28, eo28, gb28, gl28, cl28, HG28⟩ := Kd.R_form HO_6.out (by omega)
                (first | cases eo28 | (injection eo28 with ea_ en_ ec_; (first | subst ea_ | (injection ea_ with ea_; subst ea_)); subst ec_; clear en_))
                have GB28 := Aside0.mk gb28
                have GG28 := Aside0.mk HG28
                clear gb28 gl28 HG28
                (first | simp only [add_plain] at hx116_0 | skip)
                (first | simp only [add_plain] at hx117_0 | skip)
                obtain ⟨hx28_0, hf28_0⟩ := Kd.R_celln 0 HO_6.out (x8_1 : Int) p28 q28
                replace p28 := eq_true p28
                replace q28 := eq_true q28
                have HP31 := Kd.R_putn HO_6.out (x8_1 : Int) t118
                rw [← Ny120.out] at HP31
                have HQ31 := Aside0.mk HP31
                clear HP31
                refine hK.out _ _ ⟨HS0_, HS1_⟩ (fun hHeld => ?_)
                clear hK K
                refine norm_ (a' := ?_) ?_ ?_
                rotate_left
                ·show Act.put _ (some 65) _ = _
                 simp only [Act.put, List.setIfInBounds_toArray, List.set_cons_zero, List.set_cons_succ, i64_w, i32_w]
                 rfl
                refine pP 13 (some 52) ?_
                refine pP 14 (some 66) ?_
                refine pP 15 (some 67) ?_
                refine pP 16 (some 68) ?_
                refine last_ (i := 17) (N := none) #[true, true, true, true, true, true, true, true, true, true, true, true, true, true, true, true, true, true] rfl rfl (one_of HT_.out (by kernel_rfl)) (by decide) (fun K hK => ?_)
                refine skip_ (w1 := ?_) (by rfl) rfl ?_ ?_
                rotate_left
                ·go_simp
                 rfl
                refine hK.out _ _ ?_
                clear hK K
                refine done_ (done_of HT_.out (by kernel_rfl)) ?_
                try go_wp2
                (try simp only [← hl6_1])
                go_roundg k1
                case measure => have := HK1.out; omega
                case rel => exact ⟨(y120), (ji24), (by first | rfl | (simp; done) | (simp only [← hji24] <;> (first | rfl | simp)) | (simp [*]; done)), H', ⟨by have := HK1.out; omega⟩, ⟨by (try simp only [hl6_1]); (with_reducible repeat (first | apply Kd.R_alloc | apply Kd.R_drewN | apply Kd.R_drew)); exact HQ31.out⟩, ⟨by repeat (first | (with_reducible first | exact HB.out | apply below_alloc | apply pw_below_drewN | apply below_drew1 | refine below_set ?_ GB28.out) | exact HB.out)⟩⟩
               ·rw [if_neg c26] at H
                exact absurd H (by simp)
              ·rw [if_neg c25] at H
               exact absurd H (by simp)
             ·rw [if_neg c23] at H
              exact absurd H (by simp)
            ·rw [if_neg c22] at H
             exact absurd H (by simp)
           ·rw [if_neg c21] at H
            have c21b0 : decide ((wrap64 (Int.tdiv a1 64)) < x8_1) = false := decide_eq_false c21
            clear c21
            obtain ⟨ji32, hji32⟩ : ∃ j_ : Int, (wrap64 (Int.tdiv a1 64)) = j_ := ⟨_, rfl⟩
            first | rw [hji32] at H | simp only [hji32] at H
            (try rw [hji32] at c21b0)
            have hji32w : (IntKind.i64.wrap (Int.tdiv a1 64)) = ji32 := (i64_w _).trans hji32
            by_cases c33 : (0 : Int) ≤ (ji32)
            ·rw [if_pos c33] at H
             have c33b0 : decide (0 ≤ (ji32)) = true := decide_eq_true c33
             clear c33
             by_cases c34 : (ji32) < (x6_1.length : Int)
             ·rw [if_pos c34] at H
              have c34b0 : decide ((ji32) < (x6_1.length : Int)) = true := decide_eq_true c34
              clear c34
              obtain ⟨ji35, hji35⟩ : ∃ j_ : Int, (Int.tmod a1 64) = j_ := ⟨_, rfl⟩
              first | rw [hji35] at H | simp only [hji35] at H
              (try rw [hji35] at c16b0)
              by_cases c36 : (0 : Int) ≤ (ji35)
              ·rw [if_pos c36] at H
               have c36b0 := eq_true c36
               have c36b1 : decide (0 ≤ (ji35)) = true := decide_eq_true c36
               clear c36
               obtain ⟨ji37, hji37⟩ : ∃ j_ : Int, (shl .u64 (rd x6_1 (ji32)) (ji35)) = j_ := ⟨_, rfl⟩
               first | rw [hji37] at H | simp only [hji37] at H
               have hji37_ : (IntKind.u64.wrap ((rd x6_1 (ji32)) * 2 ^ min (ji35).toNat 64)) = ji37 := hji37
               have hji37z : (ji35) ≤ 64 → (IntKind.u64.wrap ((rd x6_1 (ji32)) * 2 ^ (ji35).toNat)) = ji37 := shl_small hji37
               obtain ⟨y122, hy122⟩ : ∃ y_ : List Int, y_ = (x6_1.set ((ji32) : Int).toNat (ji37)) := ⟨_, rfl⟩
               replace H : ((nat_bound.f k1 y122).bind fun bt123 => (some (bt123.1, bt123.2))) = some (r1, r2) := by first | (rw [hy122]; with_reducible exact H) | (have H2_ := (Option.bind_some _ _).symm.trans H; rw [hy122]; with_reducible exact H2_) | (have H2_ := (Option.bind_some _ _).symm.trans H; with_reducible exact H2_) | with_reducible exact H | (rw [hy122]; exact H) | exact H
               have Ny122 := Aside0.mk hy122
               clear hy122
               replace H := obe H
               obtain ⟨⟨t123, t126⟩, A390, H⟩ := H
               (try dsimp only at H)
               have A39 := Aside0.mk A390
               clear A390
               simp only [Option.some.injEq, Prod.mk.injEq] at H
               obtain ⟨rfl, rfl⟩ := H
               have p121 : 0 ≤ ((ji32) : Int) := of_decide_eq_true dS
               have q121 : (ji32) < (x6_1.length : Int) := of_decide_eq_true dS
               obtain ⟨ad121, e121, hx121_0⟩ := Kd.at_int (Kd.R_reads' HO_6.out).2.2 (ji32) p121 q121
               cases e121
               replace p121 := eq_true p121
               replace q121 := eq_true q121
               have p38 : 0 ≤ ((ji32) : Int) := of_decide_eq_true dS
               have q38 : ((ji32) : Int) < ((x6_1.length : Int) : Int) := of_decide_eq_true dS
               obtain ⟨go38, co38, eo38, gb38, gl38, cl38, HG38⟩ := Kd.R_form HO_6.out (by omega)
               (first | cases eo38 | (injection eo38 with ea_ en_ ec_; (first | subst ea_ | (injection ea_ with ea_; subst ea_)); subst ec_; clear en_))
               have GB38 := Aside0.mk gb38
               have GG38 := Aside0.mk HG38
               clear gb38 gl38 HG38
               (first | simp only [add_plain] at hx121_0 | skip)
               obtain ⟨hx38_0, hf38_0⟩ := Kd.R_celln 0 HO_6.out ((ji32) : Int) p38 q38
               replace p38 := eq_true p38
               replace q38 := eq_true q38
               have HP40 := Kd.R_putg HO_6.out ((ji32) : Int) ji37
               go_wp2_with (first | ((with_reducible refine gate_store (t := 22) (p := 76) rfl ?_); refine store_event (t := 22) (p := 76) (v := ?vo_w41) (w1 := (wr.setCell ⟨go38, ((ji32) : Int).toNat, none⟩ (.int .u64 ji37))) ?hg ?ho ?hn ?hr ?_; (case ho => rfl); (case hg => rfl); (case hn => rfl); (case hr => first | (go_simp; done) | (go_simp; rfl)); intro w41 hw; have hg : wr.grownBy w41 (some go38) := (by rw [hw]; exact HP40.2); have hp_ : Kd.R (Kd.int .u64) 22 w41 w.heap.size (fun _ => True) (.slice (some ⟨go38, 0, none⟩) x6_1.length co20) y122 := (by rw [hw, Ny122.out]; exact HP40.1); clear HP40; replace HO_6 := Aside0.mk (hp_); replace HB := Aside0.mk ((by rw [hw]; exact below_set (HB.out) GB38.out : Below w.heap.size w w41)); clear hg hw hp_) | ((with_reducible refine gate_callee (f := 44) rfl ?_); refine gL (some 78) Tryd.func44 #[.slice (some ⟨go38, 0, none⟩) x6_1.length co20] ?_; (with_reducible refine (nat_bound.calls k1 (fun k_ => some k_ = (.slice (some ⟨go38, 0, none⟩) x6_1.length co20 : Value).ownBlock) (.slice (some ⟨go38, 0, none⟩) x6_1.length co20) y122 t123 t126 w _ ?side1 ?side2 A39.out).mono ?_); (case side1 => repeat (first | (with_reducible first | exact HB.out | apply below_alloc | apply pw_below_drewN | apply below_drew1) | exact HB.out)); (case side2 => exact Kd.R_tight rfl HO_6.out); rintro e w42 ⟨v124, rfl, ho0, hb, hkp⟩; refine ⟨_, rfl, ?_⟩; have HO125 := Aside0.mk (Kd.R_mono (ok' := fun k_ => True) ho0 (fun k_ hk_ => trivial)); replace HB := Aside0.mk (hb); clear HO_6; (try clear hb); (try clear hkp); (try clear ho0)))
               go_ret2
               exact ⟨_, by first | rfl | (simp [errW_none, errW_some] <;> rfl) | (simp only [← hji13, ← hji32, ← hji35, ← hji37]; first | rfl | (simp [errW_none, errW_some] <;> rfl)) | (simp [*, errW_none, errW_some] <;> rfl), dR HO125.out, dB⟩
              ·rw [if_neg c36] at H
               exact absurd H (by simp)
             ·rw [if_neg c34] at H
              exact absurd H (by simp)
            ·rw [if_neg c33] at H
             exact absurd H (by simp)
        ·rw [if_neg c16] at H
         have c16b0 : decide (0 < (Int.tmod a1 64)) = false := decide_eq_false c16
         clear c16
         replace H := obe H
         obtain ⟨⟨t127, t130⟩, A430, H⟩ := H
         (try dsimp only at H)
         have A43 := Aside0.mk A430
         clear A430
         simp only [Option.some.injEq, Prod.mk.injEq] at H
         obtain ⟨rfl, rfl⟩ := H
         go_enter Tryd.func58, Tryd.ntmps58
         go_wp2_with (first | ((with_reducible refine gate_callee (f := 42) rfl ?_); refine gL (some 11) Tryd.func42 #[.slice A0 l0.length c0] ?_; (with_reducible refine (nat_size.calls k _ _ l0 t110 _ ?side1 ?side2 A3.out).mono ?_); (case side1 => exact dC HR0.out); (case side2 => exact HC0.out); rintro e w' ⟨rfl, ⟨nd, rfl⟩⟩; refine ⟨_, rfl, ?_⟩; obtain ⟨i044, hi044, _, hsz44, _⟩ := info_parts info22; obtain ⟨hcut44, hA44, hC44⟩ := print_take_of (P := Tryd.prog) (Value.int .u64) 0 41 22 .i64 Tryd.underlying41 hi044 hsz44 A0 c0 l0 t110 (of_decide_eq_true dS) (of_decide_eq_true dS) HC0.out; rw [Nz110.out] at hcut44 hA44 hC44; have HR111 := Aside0.mk (Kd.C_of_reads (h1 := fun _ => rfl) (hA44 _ (Kd.reads_of_C HR0.out))); have HC111 := Aside0.mk hC44; clear hA44 hC44 hi044 hsz44) | ((with_reducible refine gate_callee (f := 43) rfl ?_); refine goesL_ (some 23) rfl rfl Tryd.func43 (by kernel_rfl) rfl #[.slice A0 z110.length c0] rfl (by (try simp only [List.map_toArray, List.map_cons, List.map_nil]); first | done | (rw [show z110.length = t110.toNat from (by rw [← Nz110.out, List.length_take]; have h_ : (t110 : Int) ≤ (l0.length : Int) := of_decide_eq_true dS; omega)] <;> rfl) | rfl | (simp only [List.length_drop, List.length_take]; rfl)) ?_; (with_reducible refine (nat_Bits.calls k _ _ z110 t112 _ ?side1 ?side2 A10.out).mono ?_); (case side1 => exact dC HR111.out); (case side2 => exact HC111.out); rintro e w' ⟨rfl, ⟨nd, rfl⟩⟩; refine ⟨_, rfl, ?_⟩) | ((with_reducible refine gate_dst (N := 32) rfl ?_); refine Kd.R_make (Kd.int .u64) _ 22 rfl (N := 32) rfl 41 _ _ rfl ji13 rfl rfl Tryd.underlying41 (.int .u64 0) 8 info22 rfl (by decide) (by omega) 0 (ok := fun _ => True) (okp := fun _ => True) rfl (fun _ hk => hk) trivial (of_decide_eq_true dS) (Nat.le_trans (Nat.mul_le_mul_right _ (of_decide_eq_true dS : ji13.toNat ≤ 35184372088832)) (by omega)) (Below.refl _ _) (Nat.le_refl _) ?_; intro v114 w45 ho46 hb hg_ hnew_; clear hg_ hnew_; rw [← Nyq.out] at ho46; have HO115 := Aside0.mk (Kd.R_lower ho46 (below_size dB)); replace HB := Aside0.mk (below_step dB hb); clear hb ho46; obtain ⟨Ao47, co47, eo47⟩ := Kd.R_slice HO115.out; rw [Cq.out.2.2.1] at eo47; subst eo47; obtain ⟨i0q, hi0q, _, hszq, _⟩ := info_parts info22; have hcutq := cut_from (P := Tryd.prog) 41 22 .i64 Tryd.underlying41 hi0q 1 hszq Ao47 y113.length co47 (wrap64 (Int.tdiv a1 64)) Cq.out.1 Cq.out.2.1; clear hi0q hszq; obtain ⟨Aq, hAq⟩ : ∃ A_ : Option Addr, A_ = (if co47 = (wrap64 (Int.tdiv a1 64)).toNat then Ao47 else Ao47.map (·.add ((wrap64 (Int.tdiv a1 64)).toNat * 1))) := ⟨_, rfl⟩; rw [← hAq] at hcutq; have NAq := Aside0.mk hAq; clear hAq) | ((with_reducible refine gate_dst (N := 38) rfl ?_); refine Kd.R_copy_at (enc := Value.int .u64) (h1 := fun _ => rfl) (0 : Int) w.heap.size rfl (.tmp 36) (.tmp 37) 41 41 22 rfl Tryd.underlying41 (by kernel_rfl) Ao47 co47 (wrap64 (Int.tdiv a1 64)).toNat y113.length yq z110 Cq.out.2.2.1 A0 z110.length c0 (fun _ => True) Aq NAq.out rfl rfl (by have := Cq.out.2.1; have := Cq.out.1; omega) HO115.out ?hcr HB.out HB.out.size ?_; (case hcr => exact Kd.C_below HR111.out HB.out); intro wq hoq hbq _; rw [shl_copied Cq.out.2.2.1 Cq.out.2.2.2] at hoq; clear HO115; have HO115 := Aside0.mk hoq; clear HB; have HB := Aside0.mk hbq; clear hoq hbq hcutq) | ((with_reducible refine gate_callee (f := 44) rfl ?_); refine gL (some 78) Tryd.func44 #[.slice Ao47 y113.length co47] ?_; (with_reducible refine (nat_bound.calls k (fun k_ => some k_ = (.slice Ao47 y113.length co47 : Value).ownBlock) (.slice Ao47 y113.length co47) y113 t127 t130 w _ ?side1 ?side2 A43.out).mono ?_); (case side1 => repeat (first | (with_reducible first | exact HB.out | apply below_alloc | apply pw_below_drewN | apply below_drew1) | exact HB.out)); (case side2 => exact Kd.R_tight rfl HO115.out); rintro e w48 ⟨v128, rfl, ho0, hb, hkp⟩; refine ⟨_, rfl, ?_⟩; have HO129 := Aside0.mk (Kd.R_mono (ok' := fun k_ => True) ho0 (fun k_ hk_ => trivial)); replace HB := Aside0.mk (hb); clear HO115; (try clear hb); (try clear hkp); (try clear ho0)))
         go_ret2
         exact ⟨_, by first | rfl | (simp [errW_none, errW_some] <;> rfl) | (simp only [← hji13]; first | rfl | (simp [errW_none, errW_some] <;> rfl)) | (simp [*, errW_none, errW_some] <;> rfl), dR HO129.out, dB⟩
       ·rw [if_neg c15] at H
        exact absurd H (by simp)
      ·rw [if_neg c14] at H
       exact absurd H (by simp)
  ·rw [if_neg c5] at H
   exact absurd H (by simp)
 ·rw [if_neg c4] at H
  exact absurd H (by simp)

end Go.Proofs.YtoannkopciehcaaDoor.PA

namespace Go.Proofs.YtoannkopciehcaaDoor.PA
open Go.RowKit Go.Proofs.YtoannkopciehcaaDoorW.PrintWords Go.Proofs.YtoannkopciehcaaDoorW.PrintLast Go.Proofs.YtoannkopciehcaaDoorW.PrintMore
attribute [local go_sem] max2_int min2_int max_two min_two max_three min_three max_four min_four   -- for this text's walks alone
set_option linter.unusedVariables false
set_option linter.unusedSimpArgs false

-- NOT PRINTED: function 114 (power_told)

-- NOT PRINTED: function 98 (power_up)

/-! ### wide_Cmp: function 60 -/
def wide_Cmp.j0 : Nat → Int → Int → Int → Int → Bool → Option (Int)
 | 0, _, _, _, _, _ => none
 | k + 1, x0, x1, x2, x3, x9 => if x9 = true then (some (-1)) else (if x0 = x2 then (if x1 = x3 then (some 0) else (some 1)) else (some 1))
def wide_Cmp.f (k : Nat) (a0 : Int) (a1 : Int) (a2 : Int) (a3 : Int) : Option (Int) := if a0 < a2 then (wide_Cmp.j0 k a0 a1 a2 a3 true) else (if a0 = a2 then (wide_Cmp.j0 k a0 a1 a2 a3 (decide (a1 < a3))) else (wide_Cmp.j0 k a0 a1 a2 a3 false))
theorem wide_Cmp.mono_l : ∀ k, (∀ y0 y1 y2 y3 y4, LeO (wide_Cmp.j0 k y0 y1 y2 y3 y4) (wide_Cmp.j0 (k + 1) y0 y1 y2 y3 y4))
 | 0 => fun _ _ _ _ _ r h => by simp [wide_Cmp.j0] at h
 | k + 1 => by
  have ih0 := wide_Cmp.mono_l k
  ·intro y0 y1 y2 y3 y4
   unfold wide_Cmp.j0
   exact mX
theorem wide_Cmp.mono : ∀ a0 a1 a2 a3 k, LeO (wide_Cmp.f k a0 a1 a2 a3) (wide_Cmp.f (k + 1) a0 a1 a2 a3) := by
 intro a0 a1 a2 a3 k
 have ih0 := wide_Cmp.mono_l k
 unfold wide_Cmp.f
 exact mX
set_option maxHeartbeats 8000000 in
set_option maxRecDepth 100000 in
theorem wide_Cmp.calls (k : Nat) (a0 : Int) (a1 : Int) (a2 : Int) (a3 : Int) (r : Int) (w : World) (h : wide_Cmp.f k a0 a1 a2 a3 = some r) :
  Calls Tryd.prog 60 #[.int .u64 a0, .int .u64 a1, .int .u64 a2, .int .u64 a3] w fun e w' => e = .returned (.int .i64 r) ∧ Drawn0 w w' := by
 have H : (if a0 < a2 then (wide_Cmp.j0 k a0 a1 a2 a3 true) else (if a0 = a2 then (wide_Cmp.j0 k a0 a1 a2 a3 (decide (a1 < a3))) else (wide_Cmp.j0 k a0 a1 a2 a3 false))) = some r := h
 clear h
 have HC5 := Aside0.mk H
 clear H
 go_enter Tryd.func60, Tryd.ntmps60
 go_upto_region 1 with (fail)
 go_cut [9] (fun v9 wc => ∃ (kq : Nat) (x9_4 : Bool), v9 = .bool x9_4 ∧ Aside0 (wide_Cmp.j0 kq a0 a1 a2 a3 x9_4 = some r) ∧ Aside0 (kq ≤ k) ∧ Drawn0 w wc)
 case first =>
  have H := HC5.out
  clear HC5
  by_cases c6 : a0 < a2
  ·rw [if_pos c6] at H
   have c6b0 : decide (a0 < a2) = true := decide_eq_true c6
   clear c6
   (first | rw [c6b0] | (simp only [i64_w, i32_w]; rw [c6b0]) | skip)
   have H' := Aside0.mk H
   clear H
   go_wp2
   go_meet
   case rel => exact ⟨_, (true), dF, H', ⟨dN⟩, by repeat (first | exact Drawn0.refl _ | apply Drawn0.step)⟩
  ·rw [if_neg c6] at H
   have c6b0 : decide (a0 < a2) = false := decide_eq_false c6
   clear c6
   (first | rw [c6b0] | (simp only [i64_w, i32_w]; rw [c6b0]) | skip)
   by_cases c7 : a0 = a2
   ·rw [if_pos c7] at H
    have c7b0 : (a0 == a2) = true := beq_iff_eq.mpr c7
    have c7b1 : (a0 != a2) = false := bne_eq_false_iff_eq.mpr c7
    clear c7
    have H' := Aside0.mk H
    clear H
    go_wp2
    go_meet
    case rel => exact ⟨_, (decide (a1 < a3)), dF, H', ⟨dN⟩, by repeat (first | exact Drawn0.refl _ | apply Drawn0.step)⟩
   ·rw [if_neg c7] at H
    have c7b0 : (a0 == a2) = false := beq_eq_false_iff_ne.mpr c7
    have c7b1 : (a0 != a2) = true := bne_iff_ne.mpr c7
    have H' := Aside0.mk H
    clear H
    go_wp2
    go_meet
    case rel => exact ⟨_, (false), dF, H', ⟨dN⟩, by repeat (first | exact Drawn0.refl _ | apply Drawn0.step)⟩
 case rest =>
  clear HC5
  obtain ⟨kq, x9_4, rfl, HA, HJ4, ⟨mc4, rfl⟩⟩ := hcut
  cases kq with
  | zero => exact absurd HA.out (by simp [wide_Cmp.j0])
  | succ kj4 =>
   have H := HA.out
   clear HA
   simp only [wide_Cmp.j0] at H
   by_cases c8 : x9_4 = true
   ·subst c8
    have H1 : (some (-1)) = some r := by rw [if_pos rfl] at H; exact H
    clear H
    have H := H1
    clear H1
    obtain rfl := Option.some.inj H
    go_wp2
    go_ret
    exact ⟨by first | rfl | (simp; done) | (simp [*]; done), by repeat (first | exact Drawn0.refl _ | apply Drawn0.step)⟩
   ·replace c8 := Bool.eq_false_iff.mpr c8
    subst c8
    have H1 : (if a0 = a2 then (if a1 = a3 then (some 0) else (some 1)) else (some 1)) = some r := by rw [if_neg (show ¬ (false = true) by decide)] at H; exact H
    clear H
    have H := H1
    clear H1
    by_cases c9 : a0 = a2
    ·rw [if_pos c9] at H
     have c9b0 : (a0 == a2) = true := beq_iff_eq.mpr c9
     have c9b1 : (a0 != a2) = false := bne_eq_false_iff_eq.mpr c9
     clear c9
     by_cases c10 : a1 = a3
     ·rw [if_pos c10] at H
      have c10b0 : (a1 == a3) = true := beq_iff_eq.mpr c10
      have c10b1 : (a1 != a3) = false := bne_eq_false_iff_eq.mpr c10
      clear c10
      obtain rfl := Option.some.inj H
      go_wp2
      go_ret
      exact ⟨by first | rfl | (simp; done) | (simp [*]; done), by repeat (first | exact Drawn0.refl _ | apply Drawn0.step)⟩
     ·rw [if_neg c10] at H
      have c10b0 : (a1 == a3) = false := beq_eq_false_iff_ne.mpr c10
      have c10b1 : (a1 != a3) = true := bne_iff_ne.mpr c10
      obtain rfl := Option.some.inj H
      go_wp2
      go_ret
      exact ⟨by first | rfl | (simp; done) | (simp [*]; done), by repeat (first | exact Drawn0.refl _ | apply Drawn0.step)⟩
    ·rw [if_neg c9] at H
     have c9b0 : (a0 == a2) = false := beq_eq_false_iff_ne.mpr c9
     have c9b1 : (a0 != a2) = true := bne_iff_ne.mpr c9
     obtain rfl := Option.some.inj H
     go_wp2
     go_ret
     exact ⟨by first | rfl | (simp; done) | (simp [*]; done), by repeat (first | exact Drawn0.refl _ | apply Drawn0.step)⟩

/-! ### nat_Cmp: function 27 -/
def nat_Cmp.l0 : Nat → List Int → List Int → Int → Option (Int)
 | 0, _, _, _ => none
 | k + 1, x0, x1, x7 => if x7 ≥ 0 then (if 0 ≤ x7 then (if x7 < (x0.length : Int) then (if x7 < (x1.length : Int) then ((wide_Cmp.f k 0 (rd x0 x7) 0 (rd x1 x7)).bind fun t178 => (if t178 = 0 then (nat_Cmp.l0 k x0 x1 (wrap64 (x7 - 1))) else (some t178))) else (none)) else (none)) else (none)) else (some 0)
def nat_Cmp.f (k : Nat) (l0 : List Int) (l1 : List Int) : Option (Int) := (nat_size.f k l0).bind fun t174 => ((nat_size.f k l1).bind fun t175 => (if t174 = t175 then (nat_Cmp.l0 k l0 l1 (wrap64 (t174 - 1))) else (if t174 < t175 then (some (-1)) else (some 1))))
theorem nat_Cmp.mono_l : ∀ k, (∀ y0 y1 y2, LeO (nat_Cmp.l0 k y0 y1 y2) (nat_Cmp.l0 (k + 1) y0 y1 y2))
 | 0 => fun _ _ _ r h => by simp [nat_Cmp.l0] at h
 | k + 1 => by
  have ih0 := nat_Cmp.mono_l k
  ·intro y0 y1 y2
   unfold nat_Cmp.l0
   have m0_ := nat_size.mono
   have m1_ := wide_Cmp.mono
   exact mX
theorem nat_Cmp.mono : ∀ a0 a1 k, LeO (nat_Cmp.f k a0 a1) (nat_Cmp.f (k + 1) a0 a1) := by
 intro a0 a1 k
 have ih0 := nat_Cmp.mono_l k
 unfold nat_Cmp.f
 have m0_ := nat_size.mono
 have m1_ := wide_Cmp.mono
 exact mX
set_option maxHeartbeats 8000000 in
set_option maxRecDepth 100000 in
theorem nat_Cmp.calls (k : Nat) (A0 : Option Addr) (c0 : Nat) (l0 : List Int) (A1 : Option Addr) (c1 : Nat) (l1 : List Int) (r : Int) (w : World) (hr0 : Kd.C (Kd.int .u64) w A0 l0.length l0) (hc0 : l0.length ≤ c0) (hr1 : Kd.C (Kd.int .u64) w A1 l1.length l1) (hc1 : l1.length ≤ c1) (h : nat_Cmp.f k l0 l1 = some r) :
  Calls Tryd.prog 27 #[.slice A0 l0.length c0, .slice A1 l1.length c1] w fun e w' => e = .returned (.int .i64 r) ∧ Drawn0 w w' := by
 have HR0 := Aside0.mk hr0
 have HC0 := Aside0.mk hc0
 clear hr0 hc0
 have HR1 := Aside0.mk hr1
 have HC1 := Aside0.mk hc1
 clear hr1 hc1
 have H : ((nat_size.f k l0).bind fun t174 => ((nat_size.f k l1).bind fun t175 => (if t174 = t175 then (nat_Cmp.l0 k l0 l1 (wrap64 (t174 - 1))) else (if t174 < t175 then (some (-1)) else (some 1))))) = some r := h
 clear h
 replace H := obe H
 obtain ⟨t174, A30, H⟩ := H
 (try dsimp only at H)
 have A3 := Aside0.mk A30
 clear A30
 replace H := obe H
 obtain ⟨t175, A40, H⟩ := H
 (try dsimp only at H)
 have A4 := Aside0.mk A40
 clear A40
 by_cases c5 : t174 = t175
 ·rw [if_pos c5] at H
  have c5b0 : (t174 == t175) = true := beq_iff_eq.mpr c5
  have c5b1 : (t174 != t175) = false := bne_eq_false_iff_eq.mpr c5
  clear c5
  have H' := Aside0.mk H
  clear H
  go_enter Tryd.func27, Tryd.ntmps27
  iterate 6 (go_wp2_with (first | (go_at_call 42; (with_reducible refine (nat_size.calls k _ _ l0 t174 _ ?side1 ?side2 A3.out).mono ?_); (case side1 => exact dC HR0.out); (case side2 => exact HC0.out); rintro e w' ⟨rfl, ⟨nd, rfl⟩⟩; (try exact dW)) | (go_at_call 42; (with_reducible refine (nat_size.calls k _ _ l1 t175 _ ?side1 ?side2 A4.out).mono ?_); (case side1 => exact dC HR1.out); (case side2 => exact HC1.out); rintro e w' ⟨rfl, ⟨nd, rfl⟩⟩; (try exact dW))); try go_quiet (first | (go_at_call 42; (with_reducible refine (nat_size.calls k _ _ l0 t174 _ ?side1 ?side2 A3.out).mono ?_); (case side1 => exact dC HR0.out); (case side2 => exact HC0.out); rintro e w' ⟨rfl, ⟨nd, rfl⟩⟩; (try exact dW)) | (go_at_call 42; (with_reducible refine (nat_size.calls k _ _ l1 t175 _ ?side1 ?side2 A4.out).mono ?_); (case side1 => exact dC HR1.out); (case side2 => exact HC1.out); rintro e w' ⟨rfl, ⟨nd, rfl⟩⟩; (try exact dW))))
  go_loopg [7] k (fun kq v7 w' => ∃ (x7_1 : Int), v7 = .int .i64 x7_1 ∧ Aside0 (nat_Cmp.l0 kq l0 l1 x7_1 = some r) ∧ Aside0 (kq ≤ k) ∧ Drawn0 w w')
  case atStart => exact ⟨(wrap64 (t174 - 1)), dF, H', ⟨Nat.le_refl _⟩, by repeat (first | exact Drawn0.refl _ | apply Drawn0.step)⟩
  case round =>
   clear H'
   try clear c1
   try clear c5
   try clear c5b0
   try clear c5b1
   obtain ⟨x7_1, rfl, HA, HK1, ⟨m1, rfl⟩⟩ := hrel
   cases gk with
   | zero => exact absurd HA.out (by simp [nat_Cmp.l0])
   | succ k1 =>
    have H := HA.out
    clear HA
    simp only [nat_Cmp.l0] at H
    by_cases c6 : x7_1 ≥ 0
    ·rw [if_pos c6] at H
     have c6b0 : decide (0 ≤ x7_1) = true := decide_eq_true c6
     clear c6
     by_cases c7 : (0 : Int) ≤ x7_1
     ·rw [if_pos c7] at H
      have c7b0 : decide (0 ≤ x7_1) = true := decide_eq_true c7
      clear c7
      by_cases c8 : x7_1 < (l0.length : Int)
      ·rw [if_pos c8] at H
       have c8b0 : decide (x7_1 < (l0.length : Int)) = true := decide_eq_true c8
       clear c8
       by_cases c9 : x7_1 < (l1.length : Int)
       ·rw [if_pos c9] at H
        have c9b0 : decide (x7_1 < (l1.length : Int)) = true := decide_eq_true c9
        clear c9
        replace H := obe H
        obtain ⟨t178, A100, H⟩ := H
        (try dsimp only at H)
        have A10 := Aside0.mk A100
        clear A100
        by_cases c11 : t178 = 0
        ·rw [if_pos c11] at H
         have c11b0 : (t178 == 0) = true := beq_iff_eq.mpr c11
         have c11b1 : (t178 != 0) = false := bne_eq_false_iff_eq.mpr c11
         clear c11
         have H' := Aside0.mk H
         clear H
         have p176 : 0 ≤ (x7_1 : Int) := of_decide_eq_true dS
         have q176 : x7_1 < (l0.length : Int) := of_decide_eq_true dS
         obtain ⟨ad176, e176, hx176_0⟩ := Kd.at_int HR0.out x7_1 p176 q176
         cases e176
         replace p176 := eq_true p176
         replace q176 := eq_true q176
         have p177 : 0 ≤ (x7_1 : Int) := of_decide_eq_true dS
         have q177 : x7_1 < (l1.length : Int) := of_decide_eq_true dS
         obtain ⟨ad177, e177, hx177_0⟩ := Kd.at_int HR1.out x7_1 p177 q177
         cases e177
         replace p177 := eq_true p177
         replace q177 := eq_true q177
         iterate 6 (go_wp2_with (first | (go_at_call 60; (with_reducible refine (wide_Cmp.calls k1 0 (rd l0 x7_1) 0 (rd l1 x7_1) t178 _ A10.out).mono ?_); rintro e w' ⟨rfl, ⟨nd, rfl⟩⟩; (try exact dW))); try go_quiet (first | (go_at_call 60; (with_reducible refine (wide_Cmp.calls k1 0 (rd l0 x7_1) 0 (rd l1 x7_1) t178 _ A10.out).mono ?_); rintro e w' ⟨rfl, ⟨nd, rfl⟩⟩; (try exact dW))))
         go_roundg k1
         case measure => have := HK1.out; omega
         case rel => exact ⟨(wrap64 (x7_1 - 1)), dF, H', ⟨by have := HK1.out; omega⟩, by repeat (first | exact Drawn0.refl _ | apply Drawn0.step)⟩
        ·rw [if_neg c11] at H
         have c11b0 : (t178 == 0) = false := beq_eq_false_iff_ne.mpr c11
         have c11b1 : (t178 != 0) = true := bne_iff_ne.mpr c11
         obtain rfl := Option.some.inj H
         have p176 : 0 ≤ (x7_1 : Int) := of_decide_eq_true dS
         have q176 : x7_1 < (l0.length : Int) := of_decide_eq_true dS
         obtain ⟨ad176, e176, hx176_0⟩ := Kd.at_int HR0.out x7_1 p176 q176
         cases e176
         replace p176 := eq_true p176
         replace q176 := eq_true q176
         have p177 : 0 ≤ (x7_1 : Int) := of_decide_eq_true dS
         have q177 : x7_1 < (l1.length : Int) := of_decide_eq_true dS
         obtain ⟨ad177, e177, hx177_0⟩ := Kd.at_int HR1.out x7_1 p177 q177
         cases e177
         replace p177 := eq_true p177
         replace q177 := eq_true q177
         iterate 6 (go_wp2_with (first | (go_at_call 60; (with_reducible refine (wide_Cmp.calls k1 0 (rd l0 x7_1) 0 (rd l1 x7_1) t178 _ A10.out).mono ?_); rintro e w' ⟨rfl, ⟨nd, rfl⟩⟩; (try exact dW))); try go_quiet (first | (go_at_call 60; (with_reducible refine (wide_Cmp.calls k1 0 (rd l0 x7_1) 0 (rd l1 x7_1) t178 _ A10.out).mono ?_); rintro e w' ⟨rfl, ⟨nd, rfl⟩⟩; (try exact dW))))
         go_ret
         exact ⟨by first | rfl | (simp; done) | (simp [*]; done), by repeat (first | exact Drawn0.refl _ | apply Drawn0.step)⟩
       ·rw [if_neg c9] at H
        exact absurd H (by simp)
      ·rw [if_neg c8] at H
       exact absurd H (by simp)
     ·rw [if_neg c7] at H
      exact absurd H (by simp)
    ·rw [if_neg c6] at H
     have c6b0 : decide (0 ≤ x7_1) = false := decide_eq_false c6
     clear c6
     obtain rfl := Option.some.inj H
     go_wp2
     repeat (go_quiet (fail); try go_wp2)
     go_ret
     exact ⟨by first | rfl | (simp; done) | (simp [*]; done), by repeat (first | exact Drawn0.refl _ | apply Drawn0.step)⟩
 ·rw [if_neg c5] at H
  have c5b0 : (t174 == t175) = false := beq_eq_false_iff_ne.mpr c5
  have c5b1 : (t174 != t175) = true := bne_iff_ne.mpr c5
  by_cases c12 : t174 < t175
  ·rw [if_pos c12] at H
   have c12b0 : decide (t174 < t175) = true := decide_eq_true c12
   clear c12
   obtain rfl := Option.some.inj H
   go_enter Tryd.func27, Tryd.ntmps27
   iterate 6 (go_wp2_with (first | (go_at_call 42; (with_reducible refine (nat_size.calls k _ _ l0 t174 _ ?side1 ?side2 A3.out).mono ?_); (case side1 => exact dC HR0.out); (case side2 => exact HC0.out); rintro e w' ⟨rfl, ⟨nd, rfl⟩⟩; (try exact dW)) | (go_at_call 42; (with_reducible refine (nat_size.calls k _ _ l1 t175 _ ?side1 ?side2 A4.out).mono ?_); (case side1 => exact dC HR1.out); (case side2 => exact HC1.out); rintro e w' ⟨rfl, ⟨nd, rfl⟩⟩; (try exact dW))); try go_quiet (first | (go_at_call 42; (with_reducible refine (nat_size.calls k _ _ l0 t174 _ ?side1 ?side2 A3.out).mono ?_); (case side1 => exact dC HR0.out); (case side2 => exact HC0.out); rintro e w' ⟨rfl, ⟨nd, rfl⟩⟩; (try exact dW)) | (go_at_call 42; (with_reducible refine (nat_size.calls k _ _ l1 t175 _ ?side1 ?side2 A4.out).mono ?_); (case side1 => exact dC HR1.out); (case side2 => exact HC1.out); rintro e w' ⟨rfl, ⟨nd, rfl⟩⟩; (try exact dW))))
   go_ret
   exact ⟨by first | rfl | (simp; done) | (simp [*]; done), by repeat (first | exact Drawn0.refl _ | apply Drawn0.step)⟩
  ·rw [if_neg c12] at H
   have c12b0 : decide (t174 < t175) = false := decide_eq_false c12
   clear c12
   obtain rfl := Option.some.inj H
   go_enter Tryd.func27, Tryd.ntmps27
   iterate 6 (go_wp2_with (first | (go_at_call 42; (with_reducible refine (nat_size.calls k _ _ l0 t174 _ ?side1 ?side2 A3.out).mono ?_); (case side1 => exact dC HR0.out); (case side2 => exact HC0.out); rintro e w' ⟨rfl, ⟨nd, rfl⟩⟩; (try exact dW)) | (go_at_call 42; (with_reducible refine (nat_size.calls k _ _ l1 t175 _ ?side1 ?side2 A4.out).mono ?_); (case side1 => exact dC HR1.out); (case side2 => exact HC1.out); rintro e w' ⟨rfl, ⟨nd, rfl⟩⟩; (try exact dW))); try go_quiet (first | (go_at_call 42; (with_reducible refine (nat_size.calls k _ _ l0 t174 _ ?side1 ?side2 A3.out).mono ?_); (case side1 => exact dC HR0.out); (case side2 => exact HC0.out); rintro e w' ⟨rfl, ⟨nd, rfl⟩⟩; (try exact dW)) | (go_at_call 42; (with_reducible refine (nat_size.calls k _ _ l1 t175 _ ?side1 ?side2 A4.out).mono ?_); (case side1 => exact dC HR1.out); (case side2 => exact HC1.out); rintro e w' ⟨rfl, ⟨nd, rfl⟩⟩; (try exact dW))))
   go_ret
   exact ⟨by first | rfl | (simp; done) | (simp [*]; done), by repeat (first | exact Drawn0.refl _ | apply Drawn0.step)⟩

end Go.Proofs.YtoannkopciehcaaDoor.PA

namespace Go.Proofs.YtoannkopciehcaaDoor.PA
open Go.RowKit Go.Proofs.YtoannkopciehcaaDoorW.PrintWords Go.Proofs.YtoannkopciehcaaDoorW.PrintLast Go.Proofs.YtoannkopciehcaaDoorW.PrintMore
attribute [local go_sem] max2_int min2_int max_two min_two max_three min_three max_four min_four   -- for this text's walks alone
set_option linter.unusedVariables false
set_option linter.unusedSimpArgs false

/-! ### quot_Small: function 106 -/
def quot_Small.l0 : Nat → List Int → Int → List Int → Int → Int → Option (List Int × Int × Int)
 | 0, _, _, _, _, _ => none
 | k + 1, x0, x1, x7, x8, x9 => if x9 ≥ 0 then (if 0 ≤ x9 then (if x9 < (x0.length : Int) then ((wide_Div.f x8 (rd x0 x9) x1).bind fun bt183 => (if x9 < (x7.length : Int) then (quot_Small.l0 k x0 x1 (x7.set (x9 : Int).toNat bt183.1) bt183.2.1 (wrap64 (x9 - 1))) else (none))) else (none)) else (none)) else ((nat_Norm.f x7).bind fun t187 => (some (t187, x8, 0)))
def quot_Small.f (k : Nat) (l0 : List Int) (a1 : Int) : Option (List Int × Int × Int) := if a1 = 0 then (some (([] : List Int), 0, 30)) else (if 0 ≤ (l0.length : Int) then (if ((l0.length : Int) : Int).toNat ≤ 35184372088832 then (quot_Small.l0 k l0 a1 (List.replicate ((l0.length : Int) : Int).toNat 0) 0 (wrap64 ((l0.length : Int) - 1))) else (none)) else (none))
theorem quot_Small.mono_l : ∀ k, (∀ y0 y1 y2 y3 y4, LeO (quot_Small.l0 k y0 y1 y2 y3 y4) (quot_Small.l0 (k + 1) y0 y1 y2 y3 y4))
 | 0 => fun _ _ _ _ _ r h => by simp [quot_Small.l0] at h
 | k + 1 => by
  have ih0 := quot_Small.mono_l k
  ·intro y0 y1 y2 y3 y4
   unfold quot_Small.l0
   exact mX
theorem quot_Small.mono : ∀ a0 a1 k, LeO (quot_Small.f k a0 a1) (quot_Small.f (k + 1) a0 a1) := by
 intro a0 a1 k
 have ih0 := quot_Small.mono_l k
 unfold quot_Small.f
 exact mX
set_option maxHeartbeats 8000000 in
set_option maxRecDepth 100000 in
theorem quot_Small.calls (k : Nat) (A0 : Option Addr) (c0 : Nat) (l0 : List Int) (a1 : Int) (r1 : List Int) (r2 : Int) (r3 : Int) (w : World) (hr0 : Kd.C (Kd.int .u64) w A0 l0.length l0) (hc0 : l0.length ≤ c0) (h : quot_Small.f k l0 a1 = some (r1, r2, r3)) :
  Calls Tryd.prog 106 #[.slice A0 l0.length c0, .int .u64 a1] w fun e w' => ∃ v0_ : Value, e = .returned (.tuple #[v0_, .int .u64 r2, .int .i64 r3]) ∧ Kd.R (Kd.int .u64) 22 w' w.heap.size (fun _ => True) v0_ r1 ∧ Below w.heap.size w w' := by
 have HR0 := Aside0.mk hr0
 have HC0 := Aside0.mk hc0
 clear hr0 hc0
 have HB := Aside0.mk (Below.refl w.heap.size w)
 have H : (if a1 = 0 then (some (([] : List Int), 0, 30)) else (if 0 ≤ (l0.length : Int) then (if ((l0.length : Int) : Int).toNat ≤ 35184372088832 then (quot_Small.l0 k l0 a1 (List.replicate ((l0.length : Int) : Int).toNat 0) 0 (wrap64 ((l0.length : Int) - 1))) else (none)) else (none))) = some (r1, r2, r3) := h
 clear h
 by_cases c3 : a1 = 0
 ·rw [if_pos c3] at H
  have c3b0 : (a1 == 0) = true := beq_iff_eq.mpr c3
  have c3b1 : (a1 != 0) = false := bne_eq_false_iff_eq.mpr c3
  clear c3
  simp only [Option.some.injEq, Prod.mk.injEq] at H
  obtain ⟨rfl, rfl, rfl⟩ := H
  go_enter Tryd.func106, Tryd.ntmps106
  go_wp2
  go_ret3
  exact ⟨_, dE, by first | exact Kd.R_nil _ _ _ _ _ | exact Kd.N_nil _ _ _ _ _ | exact Kd.V_nil _ _ _ _ _ | exact Kd.Q_nil _ _ _ _ _ | exact Kd.S_nil _ _ _ _ _, dB⟩
 ·rw [if_neg c3] at H
  have c3b0 : (a1 == 0) = false := beq_eq_false_iff_ne.mpr c3
  have c3b1 : (a1 != 0) = true := bne_iff_ne.mpr c3
  by_cases c4 : (0 : Int) ≤ (l0.length : Int)
  ·rw [if_pos c4] at H
   have c4b0 := eq_true c4
   have c4b1 : decide (0 ≤ (l0.length : Int)) = true := decide_eq_true c4
   clear c4
   by_cases c5 : ((l0.length : Int) : Int).toNat ≤ 35184372088832
   ·rw [if_pos c5] at H
    have c5b0 := eq_true c5
    have c5b1 : decide (((l0.length : Int) : Int).toNat ≤ 35184372088832) = true := decide_eq_true c5
    clear c5
    obtain ⟨y179, hy179⟩ : ∃ y_ : List Int, y_ = (List.replicate ((l0.length : Int) : Int).toNat 0) := ⟨_, rfl⟩
    replace H : (quot_Small.l0 k l0 a1 y179 0 (wrap64 ((l0.length : Int) - 1))) = some (r1, r2, r3) := by first | (rw [hy179]; with_reducible exact H) | (have H2_ := (Option.bind_some _ _).symm.trans H; rw [hy179]; with_reducible exact H2_) | (have H2_ := (Option.bind_some _ _).symm.trans H; with_reducible exact H2_) | with_reducible exact H | (rw [hy179]; exact H) | exact H
    have Ny179 := Aside0.mk hy179
    clear hy179
    have H' := Aside0.mk H
    clear H
    go_enter Tryd.func106, Tryd.ntmps106
    go_wp2_with (first | ((with_reducible refine gate_dst (N := 14) rfl ?_); refine Kd.R_make (Kd.int .u64) _ 22 rfl (N := 14) rfl 41 _ _ rfl (l0.length : Int) rfl rfl Tryd.underlying41 (.int .u64 0) 8 info22 rfl (by decide) (by omega) 0 (ok := fun _ => True) (okp := fun _ => True) rfl (fun _ hk => hk) trivial (of_decide_eq_true dS) (Nat.le_trans (Nat.mul_le_mul_right _ (of_decide_eq_true dS : (l0.length : Int).toNat ≤ 35184372088832)) (by omega)) (Below.refl _ _) (Nat.le_refl _) ?_; intro v180 w6 ho7 hb hg_ hnew_; clear hg_ hnew_; (first | rw [← Ny179.out] at ho7 | (simp only [Int.reduceToNat] at ho7; rw [← Ny179.out] at ho7)); have HO181 := Aside0.mk (Kd.R_lower ho7 (below_size dB)); replace HB := Aside0.mk (below_step dB hb); clear hb ho7))
    go_loopg [8, 9] k (fun kq v8 v9 w' => ∃ (x7_1 : List Int) (x8_1 : Int) (x9_1 : Int), v8 = .int .u64 x8_1 ∧ v9 = .int .i64 x9_1 ∧ Aside0 (quot_Small.l0 kq l0 a1 x7_1 x8_1 x9_1 = some (r1, r2, r3)) ∧ Aside0 (kq ≤ k) ∧ Aside0 (Kd.R (Kd.int .u64) 22 w' w.heap.size (fun _ => True) v180 x7_1) ∧ Aside0 (Below w.heap.size w w'))
    case atStart => exact ⟨(y179), (0), (wrap64 ((l0.length : Int) - 1)), dF, dF, H', ⟨Nat.le_refl _⟩, ⟨dR HO181.out⟩, ⟨dB⟩⟩
    case round =>
     clear H'
     try clear c3
     try clear c3b0
     try clear c3b1
     try clear c4
     try clear c4b0
     try clear c4b1
     try clear c5
     try clear c5b0
     try clear c5b1
     obtain ⟨x7_1, x8_1, x9_1, rfl, rfl, HA, HK1, HO_7, HB⟩ := hrel
     cases gk with
     | zero => exact absurd HA.out (by simp [quot_Small.l0])
     | succ k1 =>
      have H := HA.out
      clear HA
      simp only [quot_Small.l0] at H
      by_cases c8 : x9_1 ≥ 0
      ·rw [if_pos c8] at H
       have c8b0 : decide (0 ≤ x9_1) = true := decide_eq_true c8
       clear c8
       by_cases c9 : (0 : Int) ≤ x9_1
       ·rw [if_pos c9] at H
        have c9b0 : decide (0 ≤ x9_1) = true := decide_eq_true c9
        clear c9
        by_cases c10 : x9_1 < (l0.length : Int)
        ·rw [if_pos c10] at H
         have c10b0 : decide (x9_1 < (l0.length : Int)) = true := decide_eq_true c10
         clear c10
         replace H := obe H
         obtain ⟨⟨t183, t184, t185⟩, A110, H⟩ := H
         (try dsimp only at H)
         have A11 := Aside0.mk A110
         clear A110
         by_cases c12 : x9_1 < (x7_1.length : Int)
         ·rw [if_pos c12] at H
          have c12b0 : decide (x9_1 < (x7_1.length : Int)) = true := decide_eq_true c12
          clear c12
          obtain ⟨y186, hy186⟩ : ∃ y_ : List Int, y_ = (x7_1.set (x9_1 : Int).toNat t183) := ⟨_, rfl⟩
          replace H : (quot_Small.l0 k1 l0 a1 y186 t184 (wrap64 (x9_1 - 1))) = some (r1, r2, r3) := by first | (rw [hy186]; with_reducible exact H) | (have H2_ := (Option.bind_some _ _).symm.trans H; rw [hy186]; with_reducible exact H2_) | (have H2_ := (Option.bind_some _ _).symm.trans H; with_reducible exact H2_) | with_reducible exact H | (rw [hy186]; exact H) | exact H
          have Ny186 := Aside0.mk hy186
          clear hy186
          have H' := Aside0.mk H
          clear H
          have p182 : 0 ≤ (x9_1 : Int) := of_decide_eq_true dS
          have q182 : x9_1 < (l0.length : Int) := of_decide_eq_true dS
          obtain ⟨ad182, e182, hx182_0⟩ := Kd.at_int HR0.out x9_1 p182 q182
          cases e182
          replace hx182_0 := (HB.out.cell (World.block_lt_of_cell? w _ hx182_0)).trans hx182_0
          replace p182 := eq_true p182
          replace q182 := eq_true q182
          go_wp2_with (first | ((with_reducible refine gate_callee (f := 31) rfl ?_); refine gL (some 31) Tryd.func31 #[.int .u64 x8_1, .int .u64 (rd l0 x9_1), .int .u64 a1] ?_; (with_reducible refine (wide_Div.calls x8_1 (rd l0 x9_1) a1 t183 t184 t185 _ A11.out).mono ?_); rintro e w14 ⟨rfl, hb⟩; refine ⟨_, rfl, ?_⟩; replace HO_7 := Aside0.mk (Kd.R_below (dR HO_7.out) hb); replace HB := Aside0.mk (below_step dB hb); (try clear hb); have p13 : 0 ≤ (x9_1 : Int) := of_decide_eq_true dS; have q13 : (x9_1 : Int) < ((x7_1.length : Int) : Int) := of_decide_eq_true dS; obtain ⟨go13, co13, eo13, gb13, gl13, cl13, HG13⟩ := Kd.R_form HO_7.out (by omega); (first | cases eo13 | (injection eo13 with ea_ en_ ec_; (first | subst ea_ | (injection ea_ with ea_; subst ea_)); subst ec_; clear en_)); have GB13 := Aside0.mk gb13; have GG13 := Aside0.mk HG13; clear gb13 gl13 HG13; obtain ⟨hx13_0, hf13_0⟩ := Kd.R_celln 0 HO_7.out (x9_1 : Int) p13 q13; replace p13 := eq_true p13; replace q13 := eq_true q13; obtain ⟨hy15_, hz15_⟩ := Kd.R_celln 0 HO_7.out (x9_1 : Int) (of_decide_eq_true dS) (of_decide_eq_true dS); have HP15 := Kd.R_putg HO_7.out (x9_1 : Int) t183) | ((with_reducible refine gate_store (t := 22) (p := 35) rfl ?_); refine store_event (t := 22) (p := 35) (v := ?vo_w16) (w1 := (w14.setCell ⟨go13, (x9_1 : Int).toNat, none⟩ (.int .u64 t183))) ?hg ?ho ?hn ?hr ?_; (case ho => rfl); (case hg => rfl); (case hn => rfl); (case hr => first | (go_simp; done) | (go_simp; rfl)); intro w16 hw; have hg : w14.grownBy w16 (some go13) := (by rw [hw]; exact HP15.2); have hp_ : Kd.R (Kd.int .u64) 22 w16 w.heap.size (fun _ => True) (.slice (some ⟨go13, 0, none⟩) x7_1.length co13) y186 := (by rw [hw, Ny186.out]; exact HP15.1); clear HP15; replace HO_7 := Aside0.mk (hp_); replace HB := Aside0.mk ((by rw [hw]; exact below_set (HB.out) GB13.out : Below w.heap.size w w16)); clear hg hw hp_))
          go_roundg k1
          case measure => have := HK1.out; omega
          case rel => exact ⟨(y186), (t184), (wrap64 (x9_1 - 1)), dF, dF, H', ⟨by have := HK1.out; omega⟩, ⟨dR HO_7.out⟩, ⟨dB⟩⟩
         ·rw [if_neg c12] at H
          exact absurd H (by simp)
        ·rw [if_neg c10] at H
         exact absurd H (by simp)
       ·rw [if_neg c9] at H
        exact absurd H (by simp)
      ·rw [if_neg c8] at H
       have c8b0 : decide (0 ≤ x9_1) = false := decide_eq_false c8
       clear c8
       replace H := obe H
       obtain ⟨t187, A170, H⟩ := H
       (try dsimp only at H)
       have A17 := Aside0.mk A170
       clear A170
       simp only [Option.some.injEq, Prod.mk.injEq] at H
       obtain ⟨rfl, rfl, rfl⟩ := H
       obtain ⟨Ao18, co18, eo18⟩ := Kd.R_slice HO_7.out
       subst eo18
       go_wp2_with (first | ((with_reducible refine gate_callee (f := 73) rfl ?_); refine gL (some 37) Tryd.func73 #[.slice Ao18 x7_1.length co18] ?_; (with_reducible refine (nat_Norm.calls _ _ x7_1 t187 _ ?side1 ?side2 A17.out).mono ?_); (case side1 => exact dC (Kd.R_reads' HO_7.out).2.2); (case side2 => exact (Kd.R_reads' HO_7.out).2.1); rintro e w19 ⟨v188, rfl, ho0, hb⟩; refine ⟨_, rfl, ?_⟩; have HO189 := Aside0.mk (Kd.R_lower (Kd.R_new' ho0 (Kd.R_lt (dR HO_7.out))) (below_size dB)); replace HO_7 := Aside0.mk (Kd.R_elder' (dR HO_7.out) (Kd.R_base ho0) hb); replace HB := Aside0.mk (below_step dB hb); (try clear hb); (try clear ho0)))
       go_ret3
       exact ⟨_, dE, by (with_reducible repeat (first | apply Kd.R_alloc | apply Kd.R_drewN | apply Kd.R_drew)); exact Kd.R_mono HO189.out (fun _ hk => trivial), dB⟩
   ·rw [if_neg c5] at H
    exact absurd H (by simp)
  ·rw [if_neg c4] at H
   exact absurd H (by simp)

/-! ### quot_shl: function 115 -/
def quot_shl.l0 : Nat → List Int → Int → Int → List Int → Int → List Int → Int → Int → Option (List Int)
 | 0, _, _, _, _, _, _, _, _ => none
 | k + 1, x0, x1, x2, x7, x8, x15, x16, x17 => if x17 < x16 then (if 0 ≤ x17 then (if x17 < (x15.length : Int) then ((wide_Shl.f 0 (rd x15 x17) x1).bind fun bt194 => (if x17 < (x7.length : Int) then (quot_shl.l0 k x0 x1 x2 (x7.set (x17 : Int).toNat (Go.bits .or .u64 bt194.2 x8)) bt194.1 x15 x16 (wrap64 (x17 + 1))) else (none))) else (none)) else (none)) else (if (x0.length : Int) < x2 then (if 0 ≤ (x0.length : Int) then (if (x0.length : Int) < (x7.length : Int) then (some (x7.set ((x0.length : Int) : Int).toNat x8)) else (none)) else (none)) else (some x7))
def quot_shl.f (k : Nat) (l0 : List Int) (a1 : Int) (a2 : Int) : Option (List Int) := if 0 ≤ a2 then (if (a2 : Int).toNat ≤ 35184372088832 then (quot_shl.l0 k l0 a1 a2 (List.replicate (a2 : Int).toNat 0) 0 l0 (l0.length : Int) 0) else (none)) else (none)
theorem quot_shl.mono_l : ∀ k, (∀ y0 y1 y2 y3 y4 y5 y6 y7, LeO (quot_shl.l0 k y0 y1 y2 y3 y4 y5 y6 y7) (quot_shl.l0 (k + 1) y0 y1 y2 y3 y4 y5 y6 y7))
 | 0 => fun _ _ _ _ _ _ _ _ r h => by simp [quot_shl.l0] at h
 | k + 1 => by
  have ih0 := quot_shl.mono_l k
  ·intro y0 y1 y2 y3 y4 y5 y6 y7
   unfold quot_shl.l0
   exact mX
theorem quot_shl.mono : ∀ a0 a1 a2 k, LeO (quot_shl.f k a0 a1 a2) (quot_shl.f (k + 1) a0 a1 a2) := by
 intro a0 a1 a2 k
 have ih0 := quot_shl.mono_l k
 unfold quot_shl.f
 exact mX
set_option maxHeartbeats 8000000 in
set_option maxRecDepth 100000 in
theorem quot_shl.calls (k : Nat) (A0 : Option Addr) (c0 : Nat) (l0 : List Int) (a1 : Int) (a2 : Int) (r : List Int) (w : World) (hr0 : Kd.C (Kd.int .u64) w A0 l0.length l0) (hc0 : l0.length ≤ c0) (h : quot_shl.f k l0 a1 a2 = some r) :
  Calls Tryd.prog 115 #[.slice A0 l0.length c0, .int .i64 a1, .int .i64 a2] w fun e w' => ∃ v0_ : Value, e = .returned (v0_) ∧ Kd.R (Kd.int .u64) 22 w' w.heap.size (fun _ => True) v0_ r ∧ Below w.heap.size w w' := by
 have HR0 := Aside0.mk hr0
 have HC0 := Aside0.mk hc0
 clear hr0 hc0
 have HB := Aside0.mk (Below.refl w.heap.size w)
 have H : (if 0 ≤ a2 then (if (a2 : Int).toNat ≤ 35184372088832 then (quot_shl.l0 k l0 a1 a2 (List.replicate (a2 : Int).toNat 0) 0 l0 (l0.length : Int) 0) else (none)) else (none)) = some r := h
 clear h
 by_cases c4 : (0 : Int) ≤ a2
 ·rw [if_pos c4] at H
  have c4b0 := eq_true c4
  have c4b1 : decide (0 ≤ a2) = true := decide_eq_true c4
  clear c4
  by_cases c5 : (a2 : Int).toNat ≤ 35184372088832
  ·rw [if_pos c5] at H
   have c5b0 := eq_true c5
   have c5b1 : decide ((a2 : Int).toNat ≤ 35184372088832) = true := decide_eq_true c5
   clear c5
   obtain ⟨y190, hy190⟩ : ∃ y_ : List Int, y_ = (List.replicate (a2 : Int).toNat 0) := ⟨_, rfl⟩
   replace H : (quot_shl.l0 k l0 a1 a2 y190 0 l0 (l0.length : Int) 0) = some r := by first | (rw [hy190]; with_reducible exact H) | (have H2_ := (Option.bind_some _ _).symm.trans H; rw [hy190]; with_reducible exact H2_) | (have H2_ := (Option.bind_some _ _).symm.trans H; with_reducible exact H2_) | with_reducible exact H | (rw [hy190]; exact H) | exact H
   have Ny190 := Aside0.mk hy190
   clear hy190
   have H' := Aside0.mk H
   clear H
   go_enter Tryd.func115, Tryd.ntmps115
   go_wp2_with (first | ((with_reducible refine gate_dst (N := 14) rfl ?_); refine Kd.R_make (Kd.int .u64) _ 22 rfl (N := 14) rfl 41 _ _ rfl a2 rfl rfl Tryd.underlying41 (.int .u64 0) 8 info22 rfl (by decide) (by omega) 0 (ok := fun _ => True) (okp := fun _ => True) rfl (fun _ hk => hk) trivial (of_decide_eq_true dS) (Nat.le_trans (Nat.mul_le_mul_right _ (of_decide_eq_true dS : a2.toNat ≤ 35184372088832)) (by omega)) (Below.refl _ _) (Nat.le_refl _) ?_; intro v191 w6 ho7 hb hg_ hnew_; clear hg_ hnew_; (first | rw [← Ny190.out] at ho7 | (simp only [Int.reduceToNat] at ho7; rw [← Ny190.out] at ho7)); have HO192 := Aside0.mk (Kd.R_lower ho7 (below_size dB)); replace HB := Aside0.mk (below_step dB hb); clear hb ho7))
   go_loopg [8, 17] k (fun kq v8 v17 w' => ∃ (x7_1 : List Int) (x8_1 : Int) (x17_1 : Int), v8 = .int .u64 x8_1 ∧ v17 = .int .i64 x17_1 ∧ Aside0 (quot_shl.l0 kq l0 a1 a2 x7_1 x8_1 l0 (l0.length : Int) x17_1 = some r) ∧ Aside0 (kq ≤ k) ∧ Aside0 (Kd.R (Kd.int .u64) 22 w' w.heap.size (fun _ => True) v191 x7_1) ∧ Aside0 (Below w.heap.size w w'))
   case atStart => exact ⟨(y190), (0), (0), dF, dF, H', ⟨Nat.le_refl _⟩, ⟨dR HO192.out⟩, ⟨dB⟩⟩
   case round =>
    clear H'
    try clear c4
    try clear c4b0
    try clear c4b1
    try clear c5
    try clear c5b0
    try clear c5b1
    obtain ⟨x7_1, x8_1, x17_1, rfl, rfl, HA, HK1, HO_7, HB⟩ := hrel
    cases gk with
    | zero => exact absurd HA.out (by simp [quot_shl.l0])
    | succ k1 =>
     have H := HA.out
     clear HA
     simp only [quot_shl.l0] at H
     by_cases c8 : x17_1 < (l0.length : Int)
     ·rw [if_pos c8] at H
      have c8b0 : decide (x17_1 < (l0.length : Int)) = true := decide_eq_true c8
      clear c8
      by_cases c9 : (0 : Int) ≤ x17_1
      ·rw [if_pos c9] at H
       have c9b0 : decide (0 ≤ x17_1) = true := decide_eq_true c9
       clear c9
       by_cases c10 : x17_1 < (l0.length : Int)
       ·rw [if_pos c10] at H
        have c10b0 : decide (x17_1 < (l0.length : Int)) = true := decide_eq_true c10
        clear c10
        replace H := obe H
        obtain ⟨⟨t194, t195⟩, A110, H⟩ := H
        (try dsimp only at H)
        have A11 := Aside0.mk A110
        clear A110
        by_cases c12 : x17_1 < (x7_1.length : Int)
        ·rw [if_pos c12] at H
         have c12b0 : decide (x17_1 < (x7_1.length : Int)) = true := decide_eq_true c12
         clear c12
         obtain ⟨y196, hy196⟩ : ∃ y_ : List Int, y_ = (x7_1.set (x17_1 : Int).toNat (Go.bits .or .u64 t195 x8_1)) := ⟨_, rfl⟩
         replace H : (quot_shl.l0 k1 l0 a1 a2 y196 t194 l0 (l0.length : Int) (wrap64 (x17_1 + 1))) = some r := by first | (rw [hy196]; with_reducible exact H) | (have H2_ := (Option.bind_some _ _).symm.trans H; rw [hy196]; with_reducible exact H2_) | (have H2_ := (Option.bind_some _ _).symm.trans H; with_reducible exact H2_) | with_reducible exact H | (rw [hy196]; exact H) | exact H
         have Ny196 := Aside0.mk hy196
         clear hy196
         have H' := Aside0.mk H
         clear H
         have p193 : 0 ≤ (x17_1 : Int) := of_decide_eq_true dS
         have q193 : x17_1 < (l0.length : Int) := of_decide_eq_true dS
         obtain ⟨ad193, e193, hx193_0⟩ := Kd.at_int HR0.out x17_1 p193 q193
         cases e193
         replace hx193_0 := (HB.out.cell (World.block_lt_of_cell? w _ hx193_0)).trans hx193_0
         replace p193 := eq_true p193
         replace q193 := eq_true q193
         go_wp2_with (first | ((with_reducible refine gate_callee (f := 85) rfl ?_); refine gL (some 25) Tryd.func85 #[.int .u64 0, .int .u64 (rd l0 x17_1), .int .i64 a1] ?_; (with_reducible refine (wide_Shl.calls 0 (rd l0 x17_1) a1 t194 t195 _ A11.out).mono ?_); rintro e w14 ⟨rfl, hb⟩; refine ⟨_, rfl, ?_⟩; replace HO_7 := Aside0.mk (Kd.R_below (dR HO_7.out) hb); replace HB := Aside0.mk (below_step dB hb); (try clear hb); have p13 : 0 ≤ (x17_1 : Int) := of_decide_eq_true dS; have q13 : (x17_1 : Int) < ((x7_1.length : Int) : Int) := of_decide_eq_true dS; obtain ⟨go13, co13, eo13, gb13, gl13, cl13, HG13⟩ := Kd.R_form HO_7.out (by omega); (first | cases eo13 | (injection eo13 with ea_ en_ ec_; (first | subst ea_ | (injection ea_ with ea_; subst ea_)); subst ec_; clear en_)); have GB13 := Aside0.mk gb13; have GG13 := Aside0.mk HG13; clear gb13 gl13 HG13; obtain ⟨hx13_0, hf13_0⟩ := Kd.R_celln 0 HO_7.out (x17_1 : Int) p13 q13; replace p13 := eq_true p13; replace q13 := eq_true q13; obtain ⟨hy15_, hz15_⟩ := Kd.R_celln 0 HO_7.out (x17_1 : Int) (of_decide_eq_true dS) (of_decide_eq_true dS); have HP15 := Kd.R_putg HO_7.out (x17_1 : Int) (Go.bits .or .u64 t195 x8_1)) | ((with_reducible refine gate_store (t := 22) (p := 33) rfl ?_); refine store_event (t := 22) (p := 33) (v := ?vo_w16) (w1 := (w14.setCell ⟨go13, (x17_1 : Int).toNat, none⟩ (.int .u64 (Go.bits .or .u64 t195 x8_1)))) ?hg ?ho ?hn ?hr ?_; (case ho => rfl); (case hg => rfl); (case hn => rfl); (case hr => first | (go_simp; done) | (go_simp; rfl)); intro w16 hw; have hg : w14.grownBy w16 (some go13) := (by rw [hw]; exact HP15.2); have hp_ : Kd.R (Kd.int .u64) 22 w16 w.heap.size (fun _ => True) (.slice (some ⟨go13, 0, none⟩) x7_1.length co13) y196 := (by rw [hw, Ny196.out]; exact HP15.1); clear HP15; replace HO_7 := Aside0.mk (hp_); replace HB := Aside0.mk ((by rw [hw]; exact below_set (HB.out) GB13.out : Below w.heap.size w w16)); clear hg hw hp_))
         go_roundg k1
         case measure => have := HK1.out; omega
         case rel => exact ⟨(y196), (t194), (wrap64 (x17_1 + 1)), dF, dF, H', ⟨by have := HK1.out; omega⟩, ⟨dR HO_7.out⟩, ⟨dB⟩⟩
        ·rw [if_neg c12] at H
         exact absurd H (by simp)
       ·rw [if_neg c10] at H
        exact absurd H (by simp)
      ·rw [if_neg c9] at H
       exact absurd H (by simp)
     ·rw [if_neg c8] at H
      have c8b0 : decide (x17_1 < (l0.length : Int)) = false := decide_eq_false c8
      clear c8
      by_cases c17 : (l0.length : Int) < a2
      ·rw [if_pos c17] at H
       have c17b0 : decide ((l0.length : Int) < a2) = true := decide_eq_true c17
       clear c17
       by_cases c18 : (0 : Int) ≤ (l0.length : Int)
       ·rw [if_pos c18] at H
        have c18b0 : decide (0 ≤ (l0.length : Int)) = true := decide_eq_true c18
        have c18b1 : decide (0 ≤ l0.length) = true := decide_eq_true (by omega)
        clear c18
        by_cases c19 : (l0.length : Int) < (x7_1.length : Int)
        ·rw [if_pos c19] at H
         have c19b0 : decide ((l0.length : Int) < (x7_1.length : Int)) = true := decide_eq_true c19
         have c19b1 : decide (l0.length < x7_1.length) = true := decide_eq_true (Int.ofNat_lt.mp c19)
         clear c19
         obtain ⟨y197, hy197⟩ : ∃ y_ : List Int, y_ = (x7_1.set ((l0.length : Int) : Int).toNat x8_1) := ⟨_, rfl⟩
         replace H : (some y197) = some r := by first | (rw [hy197]; with_reducible exact H) | (have H2_ := (Option.bind_some _ _).symm.trans H; rw [hy197]; with_reducible exact H2_) | (have H2_ := (Option.bind_some _ _).symm.trans H; with_reducible exact H2_) | with_reducible exact H | (rw [hy197]; exact H) | exact H
         have Ny197 := Aside0.mk hy197
         clear hy197
         obtain rfl := Option.some.inj H
         have p20 : 0 ≤ ((l0.length : Int) : Int) := of_decide_eq_true dS
         have q20 : ((l0.length : Int) : Int) < ((x7_1.length : Int) : Int) := of_decide_eq_true dS
         obtain ⟨go20, co20, eo20, gb20, gl20, cl20, HG20⟩ := Kd.R_form HO_7.out (by omega)
         (first | cases eo20 | (injection eo20 with ea_ en_ ec_; (first | subst ea_ | (injection ea_ with ea_; subst ea_)); subst ec_; clear en_))
         have GB20 := Aside0.mk gb20
         have GG20 := Aside0.mk HG20
         clear gb20 gl20 HG20
         obtain ⟨hx20_0, hf20_0⟩ := Kd.R_celln 0 HO_7.out ((l0.length : Int) : Int) p20 q20; (try simp only [Int.toNat_natCast] at hx20_0 hf20_0)
         replace p20 := eq_true p20
         replace q20 := eq_true q20
         have HP21 := Kd.R_putg HO_7.out ((l0.length : Int) : Int) x8_1; (try simp only [Int.toNat_natCast] at HP21)
         go_wp2_with (first | ((with_reducible refine gate_store (t := 22) (p := 44) rfl ?_); refine store_event (t := 22) (p := 44) (v := ?vo_w22) (w1 := (wr.setCell ⟨go20, l0.length, none⟩ (.int .u64 x8_1))) ?hg ?ho ?hn ?hr ?_; (case ho => rfl); (case hg => rfl); (case hn => rfl); (case hr => first | (go_simp; done) | (go_simp; rfl)); intro w22 hw; have hg : wr.grownBy w22 (some go20) := (by rw [hw]; exact HP21.2); have hp_ : Kd.R (Kd.int .u64) 22 w22 w.heap.size (fun _ => True) (.slice (some ⟨go20, 0, none⟩) x7_1.length co20) y197 := (by rw [hw, Ny197.out]; exact HP21.1); clear HP21; replace HO_7 := Aside0.mk (hp_); replace HB := Aside0.mk ((by rw [hw]; exact below_set (HB.out) GB20.out : Below w.heap.size w w22)); clear hg hw hp_))
         go_ret
         exact ⟨_, dE, dR HO_7.out, dB⟩
        ·rw [if_neg c19] at H
         exact absurd H (by simp)
       ·rw [if_neg c18] at H
        exact absurd H (by simp)
      ·rw [if_neg c17] at H
       have c17b0 : decide ((l0.length : Int) < a2) = false := decide_eq_false c17
       clear c17
       obtain rfl := Option.some.inj H
       go_wp2
       go_ret
       exact ⟨_, dE, dR HO_7.out, dB⟩
  ·rw [if_neg c5] at H
   exact absurd H (by simp)
 ·rw [if_neg c4] at H
  exact absurd H (by simp)

/-! ### wide_Sub: function 120 -/
def wide_Sub.f (a0 : Int) (a1 : Int) (a2 : Int) : Option (Int × Int) := if a0 < a1 then (some (IntKind.u64.wrap ((IntKind.u64.wrap (a0 - a1)) - (Go.bits .and .u64 a2 1)), 1)) else (if a0 = a1 then (if (Go.bits .and .u64 a2 1) = 1 then (some (IntKind.u64.wrap ((IntKind.u64.wrap (a0 - a1)) - (Go.bits .and .u64 a2 1)), 1)) else (some (IntKind.u64.wrap ((IntKind.u64.wrap (a0 - a1)) - (Go.bits .and .u64 a2 1)), 0))) else (some (IntKind.u64.wrap ((IntKind.u64.wrap (a0 - a1)) - (Go.bits .and .u64 a2 1)), 0)))
set_option maxHeartbeats 8000000 in
set_option maxRecDepth 100000 in
theorem wide_Sub.calls (a0 : Int) (a1 : Int) (a2 : Int) (r1 : Int) (r2 : Int) (w : World) (h : wide_Sub.f a0 a1 a2 = some (r1, r2)) :
  Calls Tryd.prog 120 #[.int .u64 a0, .int .u64 a1, .int .u64 a2] w fun e w' => e = .returned (.tuple #[.int .u64 r1, .int .u64 r2]) ∧ Drawn0 w w' := by
 have H : (if a0 < a1 then (some (IntKind.u64.wrap ((IntKind.u64.wrap (a0 - a1)) - (Go.bits .and .u64 a2 1)), 1)) else (if a0 = a1 then (if (Go.bits .and .u64 a2 1) = 1 then (some (IntKind.u64.wrap ((IntKind.u64.wrap (a0 - a1)) - (Go.bits .and .u64 a2 1)), 1)) else (some (IntKind.u64.wrap ((IntKind.u64.wrap (a0 - a1)) - (Go.bits .and .u64 a2 1)), 0))) else (some (IntKind.u64.wrap ((IntKind.u64.wrap (a0 - a1)) - (Go.bits .and .u64 a2 1)), 0)))) = some (r1, r2) := h
 clear h
 by_cases c4 : a0 < a1
 ·rw [if_pos c4] at H
  have c4b0 : decide (a0 < a1) = true := decide_eq_true c4
  clear c4
  simp only [Option.some.injEq, Prod.mk.injEq] at H
  obtain ⟨rfl, rfl⟩ := H
  go_enter Tryd.func120, Tryd.ntmps120
  go_wp2
  go_ret2
  exact ⟨by first | rfl | (simp; done) | (simp [*]; done), by repeat (first | exact Drawn0.refl _ | apply Drawn0.step)⟩
 ·rw [if_neg c4] at H
  have c4b0 : decide (a0 < a1) = false := decide_eq_false c4
  clear c4
  by_cases c5 : a0 = a1
  ·rw [if_pos c5] at H
   have c5b0 : (a0 == a1) = true := beq_iff_eq.mpr c5
   have c5b1 : (a0 != a1) = false := bne_eq_false_iff_eq.mpr c5
   clear c5
   by_cases c6 : (Go.bits .and .u64 a2 1) = 1
   ·rw [if_pos c6] at H
    have c6b0 : ((Go.bits .and .u64 a2 1) == 1) = true := beq_iff_eq.mpr c6
    have c6b1 : ((Go.bits .and .u64 a2 1) != 1) = false := bne_eq_false_iff_eq.mpr c6
    clear c6
    simp only [Option.some.injEq, Prod.mk.injEq] at H
    obtain ⟨rfl, rfl⟩ := H
    go_enter Tryd.func120, Tryd.ntmps120
    go_wp2
    go_ret2
    exact ⟨by first | rfl | (simp; done) | (simp [*]; done), by repeat (first | exact Drawn0.refl _ | apply Drawn0.step)⟩
   ·rw [if_neg c6] at H
    have c6b0 : ((Go.bits .and .u64 a2 1) == 1) = false := beq_eq_false_iff_ne.mpr c6
    have c6b1 : ((Go.bits .and .u64 a2 1) != 1) = true := bne_iff_ne.mpr c6
    simp only [Option.some.injEq, Prod.mk.injEq] at H
    obtain ⟨rfl, rfl⟩ := H
    go_enter Tryd.func120, Tryd.ntmps120
    go_wp2
    go_ret2
    exact ⟨by first | rfl | (simp; done) | (simp [*]; done), by repeat (first | exact Drawn0.refl _ | apply Drawn0.step)⟩
  ·rw [if_neg c5] at H
   have c5b0 : (a0 == a1) = false := beq_eq_false_iff_ne.mpr c5
   have c5b1 : (a0 != a1) = true := bne_iff_ne.mpr c5
   simp only [Option.some.injEq, Prod.mk.injEq] at H
   obtain ⟨rfl, rfl⟩ := H
   go_enter Tryd.func120, Tryd.ntmps120
   go_wp2
   go_ret2
   exact ⟨by first | rfl | (simp; done) | (simp [*]; done), by repeat (first | exact Drawn0.refl _ | apply Drawn0.step)⟩

end Go.Proofs.YtoannkopciehcaaDoor.PA

namespace Go.Proofs.YtoannkopciehcaaDoor.PA
open Go.RowKit Go.Proofs.YtoannkopciehcaaDoorW.PrintWords Go.Proofs.YtoannkopciehcaaDoorW.PrintLast Go.Proofs.YtoannkopciehcaaDoorW.PrintMore
attribute [local go_sem] max2_int min2_int max_two min_two max_three min_three max_four min_four   -- for this text's walks alone
set_option linter.unusedVariables false
set_option linter.unusedSimpArgs false

/-! ### quot_take: function 116 -/
def quot_take.l0 : Nat → List Int → List Int → Int → Int → Int → List Int → Int → Int → Option (Bool × List Int)
 | 0, _, _, _, _, _, _, _, _ => none
 | k + 1, x0, x1, x2, x7, x8, x14, x15, x16 => if x16 < x15 then (if 0 ≤ x16 then (if x16 < (x14.length : Int) then ((wide_Mul.f (rd x14 x16) x2).bind fun bt199 => ((wide_Add.f bt199.2 x7 0).bind fun bt201 => (if x16 < (x0.length : Int) then ((wide_Sub.f (rd x0 x16) bt201.1 x8).bind fun bt204 => (quot_take.l0 k (x0.set (x16 : Int).toNat bt204.1) x1 x2 (IntKind.u64.wrap (bt199.1 + bt201.2)) bt204.2 x14 x15 (wrap64 (x16 + 1)))) else (none)))) else (none)) else (none)) else (if 0 ≤ (x1.length : Int) then (if (x1.length : Int) < (x0.length : Int) then ((wide_Sub.f (rd x0 (x1.length : Int)) x7 x8).bind fun bt208 => (some ((bt208.2 == 1), (x0.set ((x1.length : Int) : Int).toNat bt208.1)))) else (none)) else (none))
def quot_take.f (k : Nat) (l0 : List Int) (l1 : List Int) (a2 : Int) : Option (Bool × List Int) := quot_take.l0 k l0 l1 a2 0 0 l1 (l1.length : Int) 0
theorem quot_take.mono_l : ∀ k, (∀ y0 y1 y2 y3 y4 y5 y6 y7, LeO (quot_take.l0 k y0 y1 y2 y3 y4 y5 y6 y7) (quot_take.l0 (k + 1) y0 y1 y2 y3 y4 y5 y6 y7))
 | 0 => fun _ _ _ _ _ _ _ _ r h => by simp [quot_take.l0] at h
 | k + 1 => by
  have ih0 := quot_take.mono_l k
  ·intro y0 y1 y2 y3 y4 y5 y6 y7
   unfold quot_take.l0
   exact mX
theorem quot_take.mono : ∀ a0 a1 a2 k, LeO (quot_take.f k a0 a1 a2) (quot_take.f (k + 1) a0 a1 a2) := by
 intro a0 a1 a2 k
 have ih0 := quot_take.mono_l k
 unfold quot_take.f
 exact mX
-- what is known of it
set_option maxHeartbeats 8000000 in
set_option maxRecDepth 100000 in
theorem quot_take.callsP (U_ : Value) (Us_ : List Int) (j_ : Nat) (k : Nat) (P0_ : Nat → Prop) (u9000_ : Value) (l0 : List Int) (A1 : Option Addr) (c1 : Nat) (l1 : List Int) (a2 : Int) (r1 : Bool) (r2 : List Int) (w0 w : World) (hB : Below w0.heap.size w0 w) (ho0 : Pc .u64 U_ Us_ j_ 22 w w0.heap.size P0_ u9000_ l0) (hr1 : ∀ W_, Kept w W_ (fun k_ => P0_ k_) → Kd.C (Kd.int .u64) W_ A1 l1.length l1) (hc1 : l1.length ≤ c1) (h : quot_take.f k l0 l1 a2 = some (r1, r2)) :
  Calls Tryd.prog 116 #[u9000_, .slice A1 l1.length c1, .int .u64 a2] w fun e w' => e = .returned (.bool r1) ∧ Pc .u64 U_ Us_ j_ 22 w' w0.heap.size (fun k_ => (P0_ k_ ∨ w.heap.size ≤ k_)) u9000_ r2 ∧ Below w0.heap.size w0 w' ∧ Kept w w' (fun k_ => P0_ k_) := by
 have HO0 := Aside0.mk (show Pc .u64 U_ Us_ j_ 22 w w0.heap.size (fun k_ => (P0_ k_ ∨ w.heap.size ≤ k_)) u9000_ l0 from Pc_mono ho0 (fun k_ hk => (.inl hk)))
 have HR1 := Aside0.mk hr1
 have HC1 := Aside0.mk hc1
 clear hr1 hc1
 have HK := Aside0.mk (Kept.refl w (fun k_ => P0_ k_))
 have HW0 := Aside0.mk hB.size
 have HB := Aside0.mk hB
 clear hB
 have H : (quot_take.l0 k l0 l1 a2 0 0 l1 (l1.length : Int) 0) = some (r1, r2) := h
 clear h
 have H' := Aside0.mk H
 clear H
 go_enter Tryd.func116, Tryd.ntmps116
 go_wp2
 go_loopg [7, 8, 16] k (fun kq v7 v8 v16 w' => ∃ (x0_1 : List Int) (x7_1 : Int) (x8_1 : Int) (x16_1 : Int), v7 = .int .u64 x7_1 ∧ v8 = .int .u64 x8_1 ∧ v16 = .int .i64 x16_1 ∧ Aside0 (quot_take.l0 kq x0_1 l1 a2 x7_1 x8_1 l1 (l1.length : Int) x16_1 = some (r1, r2)) ∧ Aside0 (kq ≤ k) ∧ Aside0 (Pc .u64 U_ Us_ j_ 22 w' w0.heap.size (fun k_ => (P0_ k_ ∨ w.heap.size ≤ k_)) u9000_ x0_1) ∧ Aside0 (Kept w w' (fun k_ => P0_ k_)) ∧ Aside0 (Below w0.heap.size w0 w'))
 case atStart => exact ⟨(l0), (0), (0), (0), dF, dF, dF, H', ⟨Nat.le_refl _⟩, ⟨by (with_reducible repeat (first | apply Pc_alloc | apply Pc_drewN | apply Pc_drew)); exact HO0.out⟩, ⟨by repeat (first | (with_reducible first | exact HK.out | apply Kept.alloc | apply Kept.drewN | apply Kept.drew) | exact HK.out)⟩, ⟨dB⟩⟩
 case round =>
  clear H'
  try clear c1
  obtain ⟨x0_1, x7_1, x8_1, x16_1, rfl, rfl, rfl, HA, HK1, HO_0, HK, HB⟩ := hrel
  cases gk with
  | zero => exact absurd HA.out (by simp [quot_take.l0])
  | succ k1 =>
   have H := HA.out
   clear HA
   simp only [quot_take.l0] at H
   by_cases c4 : x16_1 < (l1.length : Int)
   ·rw [if_pos c4] at H
    have c4b0 : decide (x16_1 < (l1.length : Int)) = true := decide_eq_true c4
    clear c4
    by_cases c5 : (0 : Int) ≤ x16_1
    ·rw [if_pos c5] at H
     have c5b0 : decide (0 ≤ x16_1) = true := decide_eq_true c5
     clear c5
     by_cases c6 : x16_1 < (l1.length : Int)
     ·rw [if_pos c6] at H
      have c6b0 : decide (x16_1 < (l1.length : Int)) = true := decide_eq_true c6
      clear c6
      replace H := obe H
      obtain ⟨⟨t209, t210⟩, A70, H⟩ := H
      (try dsimp only at H)
      have A7 := Aside0.mk A70
      clear A70
      replace H := obe H
      obtain ⟨⟨t211, t212⟩, A80, H⟩ := H
      (try dsimp only at H)
      have A8 := Aside0.mk A80
      clear A80
      by_cases c9 : x16_1 < (x0_1.length : Int)
      ·rw [if_pos c9] at H
       have c9b0 : decide (x16_1 < (x0_1.length : Int)) = true := decide_eq_true c9
       clear c9
       replace H := obe H
       obtain ⟨⟨t214, t215⟩, A100, H⟩ := H
       (try dsimp only at H)
       have A10 := Aside0.mk A100
       clear A100
       obtain ⟨y216, hy216⟩ : ∃ y_ : List Int, y_ = (x0_1.set (x16_1 : Int).toNat t214) := ⟨_, rfl⟩
       replace H : (quot_take.l0 k1 y216 l1 a2 (IntKind.u64.wrap (t209 + t212)) t215 l1 (l1.length : Int) (wrap64 (x16_1 + 1))) = some (r1, r2) := by first | (rw [hy216]; with_reducible exact H) | (have H2_ := (Option.bind_some _ _).symm.trans H; rw [hy216]; with_reducible exact H2_) | (have H2_ := (Option.bind_some _ _).symm.trans H; with_reducible exact H2_) | with_reducible exact H | (rw [hy216]; exact H) | exact H
       have Ny216 := Aside0.mk hy216
       clear hy216
       have H' := Aside0.mk H
       clear H
       have p208 : 0 ≤ (x16_1 : Int) := of_decide_eq_true dS
       have q208 : x16_1 < (l1.length : Int) := of_decide_eq_true dS
       obtain ⟨ad208, e208, hx208_0⟩ := Kd.at_int (Kd.C_kept_now HR1.out HK.out) x16_1 p208 q208
       cases e208
       replace p208 := eq_true p208
       replace q208 := eq_true q208
       go_wp2_with (first | ((with_reducible refine gate_callee (f := 28) rfl ?_); refine gL (some 24) Tryd.func28 #[.int .u64 (rd l1 x16_1), .int .u64 a2] ?_; (with_reducible refine (wide_Mul.calls (rd l1 x16_1) a2 t209 t210 _ A7.out).mono ?_); rintro e w12 ⟨rfl, hb⟩; refine ⟨_, rfl, ?_⟩; replace HO_0 := Aside0.mk (Pc_below (by (with_reducible repeat (first | apply Pc_alloc | apply Pc_drewN | apply Pc_drew)); exact HO_0.out) hb); replace HK := Aside0.mk (Kept.below (S := (fun k_ => P0_ k_)) (by repeat (first | (with_reducible first | exact HK.out | apply Kept.alloc | apply Kept.drewN | apply Kept.drew) | exact HK.out)) hb); replace HB := Aside0.mk (below_step dB hb); (try clear hb)) | ((with_reducible refine gate_callee (f := 41) rfl ?_); refine gL (some 30) Tryd.func41 #[.int .u64 t210, .int .u64 x7_1, .int .u64 0] ?_; (with_reducible refine (wide_Add.calls t210 x7_1 0 t211 t212 _ A8.out).mono ?_); rintro e w' ⟨rfl, ⟨nd, rfl⟩⟩; refine ⟨_, rfl, ?_⟩; (try (rw [drewN_self w12]; generalize hq_ : World.drewN w12 _ = w12; have n0_ : Aside0 (Pc .u64 U_ Us_ j_ 22 w12 w0.heap.size (fun k_ => (P0_ k_ ∨ w.heap.size ≤ k_)) u9000_ x0_1) := ⟨by rw [← hq_]; exact (by (with_reducible repeat (first | apply Pc_alloc | apply Pc_drewN | apply Pc_drew)); exact HO_0.out)⟩; have n1_ : Aside0 (Kept w w12 (fun k_ => P0_ k_)) := ⟨by rw [← hq_]; exact (by repeat (first | (with_reducible first | exact HK.out | apply Kept.alloc | apply Kept.drewN | apply Kept.drew) | exact HK.out))⟩; have n2_ : Aside0 (Below w0.heap.size w0 w12) := ⟨by rw [← hq_]; exact dB⟩; clear HO_0 HK HB hq_; have HO_0 := n0_; have HK := n1_; have HB := n2_; clear n0_ n1_ n2_)); obtain ⟨Ao13, co13, eo13⟩ := Pc_slice HO_0.out; subst eo13; have p213 : 0 ≤ (x16_1 : Int) := of_decide_eq_true dS; have q213 : x16_1 < (x0_1.length : Int) := of_decide_eq_true dS; obtain ⟨ad213, e213, hx213_0⟩ := Kd.at_int (Pc_reads' HO_0.out).2.2 x16_1 p213 q213; cases e213; replace p213 := eq_true p213; replace q213 := eq_true q213) | ((with_reducible refine gate_callee (f := 120) rfl ?_); refine gL (some 45) Tryd.func120 #[.int .u64 (rd x0_1 x16_1), .int .u64 t211, .int .u64 x8_1] ?_; (with_reducible refine (wide_Sub.calls (rd x0_1 x16_1) t211 x8_1 t214 t215 _ A10.out).mono ?_); rintro e w' ⟨rfl, ⟨nd, rfl⟩⟩; refine ⟨_, rfl, ?_⟩; (try (rw [drewN_self w12]; generalize hq_ : World.drewN w12 _ = w12; have n0_ : Aside0 (Pc .u64 U_ Us_ j_ 22 w12 w0.heap.size (fun k_ => (P0_ k_ ∨ w.heap.size ≤ k_)) (.slice (some ad213) x0_1.length co13) x0_1) := ⟨by rw [← hq_]; exact (by (with_reducible repeat (first | apply Pc_alloc | apply Pc_drewN | apply Pc_drew)); exact HO_0.out)⟩; have n1_ : Aside0 (Kept w w12 (fun k_ => P0_ k_)) := ⟨by rw [← hq_]; exact (by repeat (first | (with_reducible first | exact HK.out | apply Kept.alloc | apply Kept.drewN | apply Kept.drew) | exact HK.out))⟩; have n2_ : Aside0 (Below w0.heap.size w0 w12) := ⟨by rw [← hq_]; exact dB⟩; clear HO_0 HK HB hq_; have HO_0 := n0_; have HK := n1_; have HB := n2_; clear n0_ n1_ n2_)); have p11 : 0 ≤ (x16_1 : Int) := of_decide_eq_true dS; have q11 : (x16_1 : Int) < ((x0_1.length : Int) : Int) := of_decide_eq_true dS; obtain ⟨go11, co11, eo11, gb11, gl11, cl11, HG11⟩ := Pc_form HO_0.out (by omega); (first | cases eo11 | (injection eo11 with ea_ en_ ec_; (first | subst ea_ | (injection ea_ with ea_; subst ea_)); subst ec_; clear en_)); have GB11 := Aside0.mk gb11; have GG11 := Aside0.mk HG11; clear gb11 gl11 HG11; have HMgo11 := Aside0.mk (show (P0_ go11 ∨ w.heap.size ≤ go11) from (HO_0.out.1 _ rfl)); (first | simp only [add_at] at hx213_0 | skip); obtain ⟨hx11_0, hf11_0⟩ := Pc_celln 0 HO_0.out (x16_1 : Int) p11 q11; (try simp only [Int.toNat_natCast] at hx11_0 hf11_0); replace p11 := eq_true p11; replace q11 := eq_true q11; obtain ⟨hy14_, hz14_⟩ := Pc_celln 0 HO_0.out (x16_1 : Int) (of_decide_eq_true dS) (of_decide_eq_true dS); (try simp only [Int.toNat_natCast] at hy14_ hz14_); have HP14 := Pc_putg HO_0.out (x16_1 : Int) (of_decide_eq_true dS) (of_decide_eq_true dS) t214; (try simp only [Int.toNat_natCast] at HP14)) | ((with_reducible refine gate_store (t := 22) (p := 48) rfl ?_); refine store_event (t := 22) (p := 48) (v := ?vo_w15) (w1 := (w12.setCell ⟨go11, j_ + (x16_1 : Int).toNat, none⟩ (.int .u64 t214))) ?hg ?ho ?hn ?hr ?_; (case ho => rfl); (case hg => rfl); (case hn => rfl); (case hr => first | (go_simp; done) | (go_simp; rfl)); intro w15 hw; have hg : w12.grownBy w15 (some go11) := (by rw [hw]; exact HP14.2); have hp_ : Pc .u64 U_ Us_ j_ 22 w15 w0.heap.size (fun k_ => (P0_ k_ ∨ w.heap.size ≤ k_)) (.slice (some ⟨go11, j_, none⟩) x0_1.length co13) y216 := (by rw [hw, Ny216.out]; exact HP14.1); clear HP14; replace HB := Aside0.mk ((by rw [hw]; exact below_set (HB.out) GB11.out : Below w0.heap.size w0 w15)); replace HK := Aside0.mk (Kept.of_grown (S := (fun k_ => P0_ k_)) hg (by repeat (first | (with_reducible first | exact HK.out | apply Kept.alloc | apply Kept.drewN | apply Kept.drew) | exact HK.out)) (fun k_ e_ => (HO_0.out.1 k_ e_))); replace HO_0 := Aside0.mk (hp_); clear hg hw hp_))
       go_roundg k1
       case measure => have := HK1.out; omega
       case rel => exact ⟨(y216), (IntKind.u64.wrap (t209 + t212)), (t215), (wrap64 (x16_1 + 1)), dF, dF, dF, H', ⟨by have := HK1.out; omega⟩, ⟨by (with_reducible repeat (first | apply Pc_alloc | apply Pc_drewN | apply Pc_drew)); exact HO_0.out⟩, ⟨by repeat (first | (with_reducible first | exact HK.out | apply Kept.alloc | apply Kept.drewN | apply Kept.drew) | exact HK.out)⟩, ⟨dB⟩⟩
      ·rw [if_neg c9] at H
       exact absurd H (by simp)
     ·rw [if_neg c6] at H
      exact absurd H (by simp)
    ·rw [if_neg c5] at H
     exact absurd H (by simp)
   ·rw [if_neg c4] at H
    have c4b0 : decide (x16_1 < (l1.length : Int)) = false := decide_eq_false c4
    clear c4
    by_cases c16 : (0 : Int) ≤ (l1.length : Int)
    ·rw [if_pos c16] at H
     have c16b0 : decide (0 ≤ (l1.length : Int)) = true := decide_eq_true c16
     have c16b1 : decide (0 ≤ l1.length) = true := decide_eq_true (by omega)
     clear c16
     by_cases c17 : (l1.length : Int) < (x0_1.length : Int)
     ·rw [if_pos c17] at H
      have c17b0 : decide ((l1.length : Int) < (x0_1.length : Int)) = true := decide_eq_true c17
      have c17b1 : decide (l1.length < x0_1.length) = true := decide_eq_true (Int.ofNat_lt.mp c17)
      clear c17
      replace H := obe H
      obtain ⟨⟨t218, t219⟩, A180, H⟩ := H
      (try dsimp only at H)
      have A18 := Aside0.mk A180
      clear A180
      obtain ⟨y220, hy220⟩ : ∃ y_ : List Int, y_ = (x0_1.set ((l1.length : Int) : Int).toNat t218) := ⟨_, rfl⟩
      replace H : (some ((t219 == 1), y220)) = some (r1, r2) := by first | (rw [hy220]; with_reducible exact H) | (have H2_ := (Option.bind_some _ _).symm.trans H; rw [hy220]; with_reducible exact H2_) | (have H2_ := (Option.bind_some _ _).symm.trans H; with_reducible exact H2_) | with_reducible exact H | (rw [hy220]; exact H) | exact H
      have Ny220 := Aside0.mk hy220
      clear hy220
      simp only [Option.some.injEq, Prod.mk.injEq] at H
      obtain ⟨rfl, rfl⟩ := H
      obtain ⟨Ao20, co20, eo20⟩ := Pc_slice HO_0.out
      subst eo20
      have p217 : 0 ≤ ((l1.length : Int) : Int) := of_decide_eq_true dS
      have q217 : (l1.length : Int) < (x0_1.length : Int) := of_decide_eq_true dS
      obtain ⟨ad217, e217, hx217_0⟩ := Kd.at_int (Pc_reads' HO_0.out).2.2 (l1.length : Int) p217 q217
      cases e217
      (try simp only [Go.IntWalk.toNatUp] at hx217_0)
      replace p217 := eq_true p217
      replace q217 := eq_true q217
      go_wp2_with (first | ((with_reducible refine gate_callee (f := 120) rfl ?_); refine gL (some 61) Tryd.func120 #[.int .u64 (rd x0_1 (l1.length : Int)), .int .u64 x7_1, .int .u64 x8_1] ?_; (with_reducible refine (wide_Sub.calls (rd x0_1 (l1.length : Int)) x7_1 x8_1 t218 t219 _ A18.out).mono ?_); rintro e w' ⟨rfl, ⟨nd, rfl⟩⟩; refine ⟨_, rfl, ?_⟩; (try (rw [drewN_self wr]; generalize hq_ : World.drewN wr _ = wr; have n0_ : Aside0 (Pc .u64 U_ Us_ j_ 22 wr w0.heap.size (fun k_ => (P0_ k_ ∨ w.heap.size ≤ k_)) (.slice (some ad217) x0_1.length co20) x0_1) := ⟨by rw [← hq_]; exact (by (with_reducible repeat (first | apply Pc_alloc | apply Pc_drewN | apply Pc_drew)); exact HO_0.out)⟩; have n1_ : Aside0 (Kept w wr (fun k_ => P0_ k_)) := ⟨by rw [← hq_]; exact (by repeat (first | (with_reducible first | exact HK.out | apply Kept.alloc | apply Kept.drewN | apply Kept.drew) | exact HK.out))⟩; have n2_ : Aside0 (Below w0.heap.size w0 wr) := ⟨by rw [← hq_]; exact dB⟩; clear HO_0 HK HB hq_; have HO_0 := n0_; have HK := n1_; have HB := n2_; clear n0_ n1_ n2_)); have p19 : 0 ≤ ((l1.length : Int) : Int) := of_decide_eq_true dS; have q19 : ((l1.length : Int) : Int) < ((x0_1.length : Int) : Int) := of_decide_eq_true dS; obtain ⟨go19, co19, eo19, gb19, gl19, cl19, HG19⟩ := Pc_form HO_0.out (by omega); (first | cases eo19 | (injection eo19 with ea_ en_ ec_; (first | subst ea_ | (injection ea_ with ea_; subst ea_)); subst ec_; clear en_)); have GB19 := Aside0.mk gb19; have GG19 := Aside0.mk HG19; clear gb19 gl19 HG19; have HMgo19 := Aside0.mk (show (P0_ go19 ∨ w.heap.size ≤ go19) from (HO_0.out.1 _ rfl)); (first | simp only [add_at] at hx217_0 | skip); obtain ⟨hx19_0, hf19_0⟩ := Pc_celln 0 HO_0.out ((l1.length : Int) : Int) p19 q19; (try simp only [Int.toNat_natCast] at hx19_0 hf19_0); replace p19 := eq_true p19; replace q19 := eq_true q19; obtain ⟨hy21_, hz21_⟩ := Pc_celln 0 HO_0.out ((l1.length : Int) : Int) (of_decide_eq_true dS) (of_decide_eq_true dS); (try simp only [Int.toNat_natCast] at hy21_ hz21_); (try simp only [Go.IntWalk.toNatUp] at hy21_ hz21_); have HP21 := Pc_putg HO_0.out ((l1.length : Int) : Int) (of_decide_eq_true dS) (of_decide_eq_true dS) t218; (try simp only [Int.toNat_natCast] at HP21)) | ((with_reducible refine gate_store (t := 22) (p := 64) rfl ?_); refine store_event (t := 22) (p := 64) (v := ?vo_w22) (w1 := (wr.setCell ⟨go19, j_ + l1.length, none⟩ (.int .u64 t218))) ?hg ?ho ?hn ?hr ?_; (case ho => rfl); (case hg => rfl); (case hn => rfl); (case hr => first | (go_simp; done) | (go_simp; rfl)); intro w22 hw; have hg : wr.grownBy w22 (some go19) := (by rw [hw]; exact HP21.2); have hp_ : Pc .u64 U_ Us_ j_ 22 w22 w0.heap.size (fun k_ => (P0_ k_ ∨ w.heap.size ≤ k_)) (.slice (some ⟨go19, j_, none⟩) x0_1.length co20) y220 := (by rw [hw, Ny220.out]; exact HP21.1); clear HP21; replace HB := Aside0.mk ((by rw [hw]; exact below_set (HB.out) GB19.out : Below w0.heap.size w0 w22)); replace HK := Aside0.mk (Kept.of_grown (S := (fun k_ => P0_ k_)) hg (by repeat (first | (with_reducible first | exact HK.out | apply Kept.alloc | apply Kept.drewN | apply Kept.drew) | exact HK.out)) (fun k_ e_ => (HO_0.out.1 k_ e_))); replace HO_0 := Aside0.mk (hp_); clear hg hw hp_))
      go_ret
      exact ⟨dE, by (with_reducible repeat (first | apply Pc_alloc | apply Pc_drewN | apply Pc_drew)); exact HO_0.out, dB, by repeat (first | (with_reducible first | exact HK.out | apply Kept.alloc | apply Kept.drewN | apply Kept.drew) | exact HK.out)⟩
     ·rw [if_neg c17] at H
      exact absurd H (by simp)
    ·rw [if_neg c16] at H
     exact absurd H (by simp)
theorem piece_whole {q : IntKind} {U : Value} {Us xs : List Int} {j e base g n c : Nat} {w : World} {ok : Nat → Prop} (h : Pc q U Us j e w base ok (.slice (some ⟨g, j, none⟩) n c) xs) : xs.length = n := by
 obtain ⟨_, _, _, ⟨g', N, c', _, hv⟩, _⟩ := h
 injection hv with _ h2 _
 exact h2.symm
/-- take on the piece of n + 1 words at j of a row -/
def quot_takeAt.f (k : Nat) (u : List Int) (j n : Int) (v : List Int) (b : Int) : Option (Bool × List Int) :=
 if 0 ≤ j ∧ 0 ≤ n ∧ j + n + 1 ≤ (u.length : Int) ∧ wrap64 (wrap64 (j + n) + 1) = j + n + 1 then (quot_take.f k ((u.drop j.toNat).take (n.toNat + 1)) v b).bind fun y => some (y.1, u.take j.toNat ++ y.2 ++ u.drop (j.toNat + (n.toNat + 1))) else none
theorem quot_takeAt.mono : ∀ a0 a1 a2 a3 a4 k, LeO (quot_takeAt.f k a0 a1 a2 a3 a4) (quot_takeAt.f (k + 1) a0 a1 a2 a3 a4) := by
 intro a0 a1 a2 a3 a4 k
 unfold quot_takeAt.f
 exact LeO.ite (LeO.bind (quot_take.mono _ _ _ _) (fun _ => LeO.refl _)) (LeO.none _)
theorem quot_takeAt.calls (k : Nat) (P0_ : Nat → Prop) (g N c : Nat) (Us : List Int) (j n : Int) (A1 : Option Addr) (c1 : Nat) (l1 : List Int) (a2 : Int) (r1 : Bool) (r2 : List Int) (w0 w : World) (hB : Below w0.heap.size w0 w) (ho0 : Kd.R (Kd.int .u64) 22 w w0.heap.size P0_ (.slice (some ⟨g, 0, none⟩) N c) Us) (hr1 : ∀ W_, Kept w W_ (fun k_ => P0_ k_) → Kd.C (Kd.int .u64) W_ A1 l1.length l1) (hc1 : l1.length ≤ c1) (h : quot_takeAt.f k Us j n l1 a2 = some (r1, r2)) :
  Calls Tryd.prog 116 #[.slice (some ⟨g, j.toNat, none⟩) (n.toNat + 1) (c - j.toNat), .slice A1 l1.length c1, .int .u64 a2] w fun e w' => e = .returned (.bool r1) ∧ Kd.R (Kd.int .u64) 22 w' w0.heap.size (fun k_ => (P0_ k_ ∨ w.heap.size ≤ k_)) (.slice (some ⟨g, 0, none⟩) N c) r2 ∧ Below w0.heap.size w0 w' ∧ Kept w w' (fun k_ => P0_ k_) ∧ r2.length = Us.length := by
 unfold quot_takeAt.f at h
 split at h
 case isFalse => cases h
 rename_i hh
 replace hh := And.intro hh.1 (And.intro hh.2.1 hh.2.2.1)
 replace h := Option.bind_eq_some_iff.mp h
 obtain ⟨⟨y1, y2⟩, h1, h⟩ := h
 simp only [Option.some.injEq, Prod.mk.injEq] at h
 obtain ⟨rfl, rfl⟩ := h
 have hj : j.toNat + (n.toNat + 1) ≤ Us.length := by omega
 have hp := Pc_of (j := j.toNat) (n := n.toNat + 1) ho0 (by omega) hj
 refine (quot_take.callsP _ Us j.toNat k P0_ _ _ A1 c1 l1 a2 _ _ w0 w hB hp hr1 hc1 h1).mono ?_
 rintro e w' ⟨rfl, hP, hb, hk⟩
 have hl := piece_whole hP
 have hR := Pc_back hP
 rw [hl] at hR
 refine ⟨rfl, hR, hb, hk, ?_⟩
 rw [List.length_append, List.length_append, List.length_take, List.length_drop, hl]
 omega

end Go.Proofs.YtoannkopciehcaaDoor.PA
