/- PA15: a part of the proof. -/
-- made by program (wip/tools of this work) out of the translation; Lean checks it
import Derived.Test.YtpnffhacmamilaaZLFPA0
import Derived.Test.YtpnffhacmamilaaZLFPA1
import Derived.Test.YtpnffhacmamilaaZLFPA7
import Derived.Test.YtpnffhacmamilaaZLFPA14
namespace Go.Proofs.Ytpnffhacmamilaa.PA
open Go.RowKit Go.Proofs.YtpnffhacmamilaaW.PrintWords Go.Proofs.YtpnffhacmamilaaW.PrintLast Go.Proofs.YtpnffhacmamilaaW.PrintMore
attribute [local go_sem] max2_int min2_int max_two min_two max_three min_three max_four min_four   -- for this text's walks alone
set_option linter.unusedVariables false
set_option linter.unusedSimpArgs false

/-! ### nat_Shl: function 23 (by hand) -/
/-- xs, with ys copied over it from q on -/
def cpyAt (xs ys : List Int) (q : Nat) : List Int := xs.take q ++ (ys.take (min ys.length (xs.length - q)) ++ xs.drop (q + min ys.length (xs.length - q)))
theorem cpyAt_length {xs ys : List Int} {q : Nat} (h : q ≤ xs.length) : (cpyAt xs ys q).length = xs.length := by
  unfold cpyAt
  rw [List.length_append, List.length_append, List.length_take, List.length_take, List.length_drop]
  omega
theorem shl_copied {yq y z : List Int} {q : Nat} (hl : yq.length = y.length) (h : y = cpyAt yq z q) :
    yq.take q ++ (z.take (min z.length (y.length - q)) ++ yq.drop (q + min z.length (y.length - q))) = y := by
  rw [← hl]
  conv => rhs; rw [h]
  rfl
def nat_Shl.l0 : Nat → Int → List Int → Int → Int → Option (List Int × Int)
  | 0, _, _, _, _ => none
  | k + 1, x1, x6, x7, x8 => if x8 > (wrap64 (Int.tdiv x1 64)) then (if 0 ≤ x8 then (if x8 < (x6.length : Int) then (if 0 ≤ (wrap64 (x8 - 1)) then (if (wrap64 (x8 - 1)) < (x6.length : Int) then ((wide_Shl.f (rd x6 x8) (rd x6 (wrap64 (x8 - 1))) x7).bind fun bt118 => (nat_Shl.l0 k x1 (x6.set (x8 : Int).toNat bt118.1) x7 (wrap64 (x8 - 1)))) else (none)) else (none)) else (none)) else (none)) else (if 0 ≤ (wrap64 (Int.tdiv x1 64)) then (if (wrap64 (Int.tdiv x1 64)) < (x6.length : Int) then (if 0 ≤ x7 then ((nat_bound.f k (x6.set ((wrap64 (Int.tdiv x1 64)) : Int).toNat (shl .u64 (rd x6 (wrap64 (Int.tdiv x1 64))) x7))).bind fun bt123 => (some (bt123.1, bt123.2))) else (none)) else (none)) else (none))
def nat_Shl.f (k : Nat) (l0 : List Int) (a1 : Int) : Option (List Int × Int) := (nat_size.f k l0).bind fun t110 => (if 0 ≤ t110 then (if t110 ≤ (l0.length : Int) then (if a1 < 0 then (some (([] : List Int), 22)) else (if ((l0.take (t110 : Int).toNat).length : Int) = 0 then (some (([] : List Int), 0)) else ((nat_Bits.f k (l0.take (t110 : Int).toNat)).bind fun t112 => (if a1 > (wrap64 (262144 - t112)) then (some (([] : List Int), 21)) else (if 0 ≤ (wrap64 ((wrap64 ((wrap64 (Int.tdiv a1 64)) + ((l0.take (t110 : Int).toNat).length : Int))) + 1)) then (if ((wrap64 ((wrap64 ((wrap64 (Int.tdiv a1 64)) + ((l0.take (t110 : Int).toNat).length : Int))) + 1) : Int).toNat ≤ 35184372088832 ∧ 0 ≤ (wrap64 (Int.tdiv a1 64)) ∧ (wrap64 (Int.tdiv a1 64)).toNat ≤ (wrap64 ((wrap64 ((wrap64 (Int.tdiv a1 64)) + ((l0.take (t110 : Int).toNat).length : Int))) + 1) : Int).toNat) then ((some (cpyAt (List.replicate (wrap64 ((wrap64 ((wrap64 (Int.tdiv a1 64)) + ((l0.take (t110 : Int).toNat).length : Int))) + 1) : Int).toNat 0) (l0.take (t110 : Int).toNat) (wrap64 (Int.tdiv a1 64)).toNat : List Int)).bind fun y113 => (if (Int.tmod a1 64) > 0 then (nat_Shl.l0 k a1 y113 (Int.tmod a1 64) (wrap64 ((y113.length : Int) - 1))) else ((nat_bound.f k y113).bind fun bt127 => (some (bt127.1, bt127.2))))) else (none)) else (none)))))) else (none)) else (none))
theorem nat_Shl.mono_l : ∀ k, (∀ y0 y1 y2 y3, LeO (nat_Shl.l0 k y0 y1 y2 y3) (nat_Shl.l0 (k + 1) y0 y1 y2 y3))
  | 0 => fun _ _ _ _ r h => by simp [nat_Shl.l0] at h
  | k + 1 => by
    have ih0 := nat_Shl.mono_l k
    · intro y0 y1 y2 y3
      unfold nat_Shl.l0
      repeat' first
      | (with_reducible exact ih0 _ _ _ _)
      | (with_reducible exact nat_Bits.mono _ _)
      | (with_reducible exact nat_bound.mono _ _)
      | (with_reducible exact nat_size.mono _ _)
      | (with_reducible exact LeO.refl _)
      | (with_reducible exact LeO.none _)
      | (with_reducible refine LeO.ite ?_ ?_)
      | (with_reducible refine LeO.bind ?_ (fun _ => ?_))
      | exact ih0 _ _ _ _
      | exact nat_Bits.mono _ _
      | exact nat_bound.mono _ _
      | exact nat_size.mono _ _
      | exact LeO.none _
      | refine LeO.ite ?_ ?_
      | refine LeO.bind ?_ (fun _ => ?_)
theorem nat_Shl.mono : ∀ a0 a1 k, LeO (nat_Shl.f k a0 a1) (nat_Shl.f (k + 1) a0 a1) := by
  intro a0 a1 k
  have ih0 := nat_Shl.mono_l k
  unfold nat_Shl.f
  repeat' first
      | (with_reducible exact ih0 _ _ _ _)
      | (with_reducible exact nat_Bits.mono _ _)
      | (with_reducible exact nat_bound.mono _ _)
      | (with_reducible exact nat_size.mono _ _)
      | (with_reducible exact LeO.refl _)
      | (with_reducible exact LeO.none _)
      | (with_reducible refine LeO.ite ?_ ?_)
      | (with_reducible refine LeO.bind ?_ (fun _ => ?_))
      | exact ih0 _ _ _ _
      | exact nat_Bits.mono _ _
      | exact nat_bound.mono _ _
      | exact nat_size.mono _ _
      | exact LeO.none _
      | refine LeO.ite ?_ ?_
      | refine LeO.bind ?_ (fun _ => ?_)
def nat_Shl.T15 : Bool × List (List Nat × List Nat) := (true, [([], []), ([], []), ([], []), ([], []), ([2, 3], [2, 3]), ([4], [4]), ([], []), ([], []), ([7], [7]), ([6, 8], [6, 8]), ([9], [9]), ([], []), ([5, 10, 11], [5, 10, 11]), ([12], [12]), ([13], [13]), ([13], [13]), ([0, 1, 0, 1, 2, 3, 4, 5, 6, 7, 8, 9, 10, 11, 12, 13, 14], [0, 1]), ([16, 14, 12, 0, 1, 2, 3, 4, 5, 6, 7, 8, 9, 10, 11, 12, 13, 14], [14, 16])])
def nat_Shl.B15 : List Nat := [0, 0, 0, 0, 12, 28, 0, 0, 128, 448, 960, 0, 4092, 8188, 16380, 16380, 32767, 98303]
theorem nat_Shl.tab15 : rtab .any (opsOf Try.f23 15) = nat_Shl.T15 := by kernel_rfl
theorem nat_Shl.bits15 : waitsOk nat_Shl.T15.2 nat_Shl.B15 = true := by kernel_rfl
set_option maxHeartbeats 8000000 in
set_option maxRecDepth 100000 in
theorem nat_Shl.calls (k : Nat) (A0 : Option Addr) (c0 : Nat) (l0 : List Int) (a1 : Int) (r1 : List Int) (r2 : Int) (w : World) (hr0 : Kd.C (Kd.int .u64) w A0 l0.length l0) (hc0 : l0.length ≤ c0) (h : nat_Shl.f k l0 a1 = some (r1, r2)) :
    Calls Try.prog 23 #[.slice A0 l0.length c0, .int .i64 a1] w fun e w' => ∃ v0_ : Value, e = .returned (.tuple #[v0_, .int .i64 r2]) ∧ Kd.R (Kd.int .u64) 39 w' w.heap.size (fun _ => True) v0_ r1 ∧ Below w.heap.size w w' := by
  have HR0 := Aside0.mk hr0
  have HC0 := Aside0.mk hc0
  clear hr0 hc0
  have HB := Aside0.mk (Below.refl w.heap.size w)
  have H : ((nat_size.f k l0).bind fun t110 => (if 0 ≤ t110 then (if t110 ≤ (l0.length : Int) then (if a1 < 0 then (some (([] : List Int), 22)) else (if ((l0.take (t110 : Int).toNat).length : Int) = 0 then (some (([] : List Int), 0)) else ((nat_Bits.f k (l0.take (t110 : Int).toNat)).bind fun t112 => (if a1 > (wrap64 (262144 - t112)) then (some (([] : List Int), 21)) else (if 0 ≤ (wrap64 ((wrap64 ((wrap64 (Int.tdiv a1 64)) + ((l0.take (t110 : Int).toNat).length : Int))) + 1)) then (if ((wrap64 ((wrap64 ((wrap64 (Int.tdiv a1 64)) + ((l0.take (t110 : Int).toNat).length : Int))) + 1) : Int).toNat ≤ 35184372088832 ∧ 0 ≤ (wrap64 (Int.tdiv a1 64)) ∧ (wrap64 (Int.tdiv a1 64)).toNat ≤ (wrap64 ((wrap64 ((wrap64 (Int.tdiv a1 64)) + ((l0.take (t110 : Int).toNat).length : Int))) + 1) : Int).toNat) then ((some (cpyAt (List.replicate (wrap64 ((wrap64 ((wrap64 (Int.tdiv a1 64)) + ((l0.take (t110 : Int).toNat).length : Int))) + 1) : Int).toNat 0) (l0.take (t110 : Int).toNat) (wrap64 (Int.tdiv a1 64)).toNat : List Int)).bind fun y113 => (if (Int.tmod a1 64) > 0 then (nat_Shl.l0 k a1 y113 (Int.tmod a1 64) (wrap64 ((y113.length : Int) - 1))) else ((nat_bound.f k y113).bind fun bt127 => (some (bt127.1, bt127.2))))) else (none)) else (none)))))) else (none)) else (none))) = some (r1, r2) := h
  clear h
  replace H := Option.bind_eq_some_iff.mp H
  obtain ⟨t110, A30, H⟩ := H
  replace H : (if 0 ≤ t110 then (if t110 ≤ (l0.length : Int) then (if a1 < 0 then (some (([] : List Int), 22)) else (if ((l0.take (t110 : Int).toNat).length : Int) = 0 then (some (([] : List Int), 0)) else ((nat_Bits.f k (l0.take (t110 : Int).toNat)).bind fun t112 => (if a1 > (wrap64 (262144 - t112)) then (some (([] : List Int), 21)) else (if 0 ≤ (wrap64 ((wrap64 ((wrap64 (Int.tdiv a1 64)) + ((l0.take (t110 : Int).toNat).length : Int))) + 1)) then (if ((wrap64 ((wrap64 ((wrap64 (Int.tdiv a1 64)) + ((l0.take (t110 : Int).toNat).length : Int))) + 1) : Int).toNat ≤ 35184372088832 ∧ 0 ≤ (wrap64 (Int.tdiv a1 64)) ∧ (wrap64 (Int.tdiv a1 64)).toNat ≤ (wrap64 ((wrap64 ((wrap64 (Int.tdiv a1 64)) + ((l0.take (t110 : Int).toNat).length : Int))) + 1) : Int).toNat) then ((some (cpyAt (List.replicate (wrap64 ((wrap64 ((wrap64 (Int.tdiv a1 64)) + ((l0.take (t110 : Int).toNat).length : Int))) + 1) : Int).toNat 0) (l0.take (t110 : Int).toNat) (wrap64 (Int.tdiv a1 64)).toNat : List Int)).bind fun y113 => (if (Int.tmod a1 64) > 0 then (nat_Shl.l0 k a1 y113 (Int.tmod a1 64) (wrap64 ((y113.length : Int) - 1))) else ((nat_bound.f k y113).bind fun bt127 => (some (bt127.1, bt127.2))))) else (none)) else (none)))))) else (none)) else (none)) = some (r1, r2) := H
  have A3 := Aside0.mk A30
  clear A30
  by_cases c4 : (0 : Int) ≤ t110
  · rw [if_pos c4] at H
    have c4b0 := eq_true c4
    have c4b1 : decide (0 ≤ t110) = true := decide_eq_true c4
    clear c4
    by_cases c5 : t110 ≤ (l0.length : Int)
    · rw [if_pos c5] at H
      have c5b0 := eq_true c5
      have c5b1 : decide (t110 ≤ (l0.length : Int)) = true := decide_eq_true c5
      clear c5
      obtain ⟨z110, Nz1100⟩ : ∃ z_ : List Int, (l0.take (t110 : Int).toNat) = z_ := ⟨_, rfl⟩
      rw [Nz1100] at H
      have Nz110 := Aside0.mk Nz1100
      clear Nz1100
      by_cases c6 : a1 < 0
      · rw [if_pos c6] at H
        have c6b0 : decide (a1 < 0) = true := decide_eq_true c6
        clear c6
        simp only [Option.some.injEq, Prod.mk.injEq] at H
        obtain ⟨rfl, rfl⟩ := H
        go_enter Try.func23, Try.ntmps23
        go_wp2_with (first | ((with_reducible refine gate_callee (f := 37) rfl ?_); refine goesL_ (some 11) rfl rfl Try.func37 (by kernel_rfl) rfl #[.slice A0 l0.length c0] rfl (by (try simp only [List.map_toArray, List.map_cons, List.map_nil]); first | done | rfl | (simp only [List.length_drop, List.length_take]; rfl)) ?_; (with_reducible refine (nat_size.calls k _ _ l0 t110 _ ?side1 ?side2 A3.out).mono ?_); (case side1 => repeat (first | exact HR0.out | (with_reducible refine Kd.C_alloc ?_ _) | (with_reducible refine Kd.C_drewN ?_ _) | (with_reducible refine Kd.C_drew ?_))); (case side2 => exact HC0.out); rintro e w' ⟨rfl, ⟨nd, rfl⟩⟩; refine ⟨_, rfl, ?_⟩; obtain ⟨i07, hi07, _, hsz7, _⟩ := info_parts info39; obtain ⟨hcut7, hA7, hC7⟩ := print_take_of (P := Try.prog) (Value.int .u64) 0 22 39 .i64 Try.underlying22 hi07 hsz7 A0 c0 l0 t110 (of_decide_eq_true (by first | (with_reducible assumption) | assumption)) (of_decide_eq_true (by first | (with_reducible assumption) | assumption)) HC0.out; rw [Nz110.out] at hcut7 hA7 hC7; have HR111 := Aside0.mk (Kd.C_of_reads (h1 := fun _ => rfl) (hA7 _ (Kd.reads_of_C HR0.out))); have HC111 := Aside0.mk hC7; clear hA7 hC7 hi07 hsz7))
        go_ret2
        exact ⟨_, by first | rfl | (simp [errW_none, errW_some] <;> rfl) | (simp [*, errW_none, errW_some] <;> rfl), by first | exact Kd.R_nil _ _ _ _ _ | exact Kd.N_nil _ _ _ _ _ | exact Kd.V_nil _ _ _ _ _ | exact Kd.Q_nil _ _ _ _ _ | exact Kd.S_nil _ _ _ _ _, by repeat (first | (with_reducible first | exact HB.out | apply below_alloc | apply pw_below_drewN | apply below_drew1) | exact HB.out)⟩
      · rw [if_neg c6] at H
        have c6b0 : decide (a1 < 0) = false := decide_eq_false c6
        clear c6
        by_cases c8 : (z110.length : Int) = 0
        · rw [if_pos c8] at H
          have c8b0 : ((z110.length : Int) == 0) = true := beq_iff_eq.mpr c8
          have c8b1 : ((z110.length : Int) != 0) = false := bne_eq_false_iff_eq.mpr c8
          clear c8
          simp only [Option.some.injEq, Prod.mk.injEq] at H
          obtain ⟨rfl, rfl⟩ := H
          go_enter Try.func23, Try.ntmps23
          go_wp2_with (first | ((with_reducible refine gate_callee (f := 37) rfl ?_); refine goesL_ (some 11) rfl rfl Try.func37 (by kernel_rfl) rfl #[.slice A0 l0.length c0] rfl (by (try simp only [List.map_toArray, List.map_cons, List.map_nil]); first | done | rfl | (simp only [List.length_drop, List.length_take]; rfl)) ?_; (with_reducible refine (nat_size.calls k _ _ l0 t110 _ ?side1 ?side2 A3.out).mono ?_); (case side1 => repeat (first | exact HR0.out | (with_reducible refine Kd.C_alloc ?_ _) | (with_reducible refine Kd.C_drewN ?_ _) | (with_reducible refine Kd.C_drew ?_))); (case side2 => exact HC0.out); rintro e w' ⟨rfl, ⟨nd, rfl⟩⟩; refine ⟨_, rfl, ?_⟩; obtain ⟨i09, hi09, _, hsz9, _⟩ := info_parts info39; obtain ⟨hcut9, hA9, hC9⟩ := print_take_of (P := Try.prog) (Value.int .u64) 0 22 39 .i64 Try.underlying22 hi09 hsz9 A0 c0 l0 t110 (of_decide_eq_true (by first | (with_reducible assumption) | assumption)) (of_decide_eq_true (by first | (with_reducible assumption) | assumption)) HC0.out; rw [Nz110.out] at hcut9 hA9 hC9; have HR111 := Aside0.mk (Kd.C_of_reads (h1 := fun _ => rfl) (hA9 _ (Kd.reads_of_C HR0.out))); have HC111 := Aside0.mk hC9; clear hA9 hC9 hi09 hsz9))
          go_ret2
          exact ⟨_, by first | rfl | (simp [errW_none, errW_some] <;> rfl) | (simp [*, errW_none, errW_some] <;> rfl), by first | exact Kd.R_nil _ _ _ _ _ | exact Kd.N_nil _ _ _ _ _ | exact Kd.V_nil _ _ _ _ _ | exact Kd.Q_nil _ _ _ _ _ | exact Kd.S_nil _ _ _ _ _, by repeat (first | (with_reducible first | exact HB.out | apply below_alloc | apply pw_below_drewN | apply below_drew1) | exact HB.out)⟩
        · rw [if_neg c8] at H
          have c8b0 : ((z110.length : Int) == 0) = false := beq_eq_false_iff_ne.mpr c8
          have c8b1 : ((z110.length : Int) != 0) = true := bne_iff_ne.mpr c8
          have c8b2 : ¬ (z110 = []) := fun h_ => c8 (by rw [h_]; rfl)
          replace H := Option.bind_eq_some_iff.mp H
          obtain ⟨t112, A100, H⟩ := H
          replace H : (if a1 > (wrap64 (262144 - t112)) then (some (([] : List Int), 21)) else (if 0 ≤ (wrap64 ((wrap64 ((wrap64 (Int.tdiv a1 64)) + (z110.length : Int))) + 1)) then (if ((wrap64 ((wrap64 ((wrap64 (Int.tdiv a1 64)) + (z110.length : Int))) + 1) : Int).toNat ≤ 35184372088832 ∧ 0 ≤ (wrap64 (Int.tdiv a1 64)) ∧ (wrap64 (Int.tdiv a1 64)).toNat ≤ (wrap64 ((wrap64 ((wrap64 (Int.tdiv a1 64)) + (z110.length : Int))) + 1) : Int).toNat) then ((some (cpyAt (List.replicate (wrap64 ((wrap64 ((wrap64 (Int.tdiv a1 64)) + (z110.length : Int))) + 1) : Int).toNat 0) z110 (wrap64 (Int.tdiv a1 64)).toNat : List Int)).bind fun y113 => (if (Int.tmod a1 64) > 0 then (nat_Shl.l0 k a1 y113 (Int.tmod a1 64) (wrap64 ((y113.length : Int) - 1))) else ((nat_bound.f k y113).bind fun bt127 => (some (bt127.1, bt127.2))))) else (none)) else (none))) = some (r1, r2) := H
          have A10 := Aside0.mk A100
          clear A100
          by_cases c11 : a1 > (wrap64 (262144 - t112))
          · rw [if_pos c11] at H
            have c11b0 : decide ((wrap64 (262144 - t112)) < a1) = true := decide_eq_true c11
            clear c11
            simp only [Option.some.injEq, Prod.mk.injEq] at H
            obtain ⟨rfl, rfl⟩ := H
            go_enter Try.func23, Try.ntmps23
            go_wp2_with (first | ((with_reducible refine gate_callee (f := 37) rfl ?_); refine goesL_ (some 11) rfl rfl Try.func37 (by kernel_rfl) rfl #[.slice A0 l0.length c0] rfl (by (try simp only [List.map_toArray, List.map_cons, List.map_nil]); first | done | rfl | (simp only [List.length_drop, List.length_take]; rfl)) ?_; (with_reducible refine (nat_size.calls k _ _ l0 t110 _ ?side1 ?side2 A3.out).mono ?_); (case side1 => repeat (first | exact HR0.out | (with_reducible refine Kd.C_alloc ?_ _) | (with_reducible refine Kd.C_drewN ?_ _) | (with_reducible refine Kd.C_drew ?_))); (case side2 => exact HC0.out); rintro e w' ⟨rfl, ⟨nd, rfl⟩⟩; refine ⟨_, rfl, ?_⟩; obtain ⟨i012, hi012, _, hsz12, _⟩ := info_parts info39; obtain ⟨hcut12, hA12, hC12⟩ := print_take_of (P := Try.prog) (Value.int .u64) 0 22 39 .i64 Try.underlying22 hi012 hsz12 A0 c0 l0 t110 (of_decide_eq_true (by first | (with_reducible assumption) | assumption)) (of_decide_eq_true (by first | (with_reducible assumption) | assumption)) HC0.out; rw [Nz110.out] at hcut12 hA12 hC12; have HR111 := Aside0.mk (Kd.C_of_reads (h1 := fun _ => rfl) (hA12 _ (Kd.reads_of_C HR0.out))); have HC111 := Aside0.mk hC12; clear hA12 hC12 hi012 hsz12) | ((with_reducible refine gate_callee (f := 11) rfl ?_); refine goesL_ (some 23) rfl rfl Try.func11 (by kernel_rfl) rfl #[.slice A0 z110.length c0] rfl (by (try simp only [List.map_toArray, List.map_cons, List.map_nil]); first | done | (rw [show z110.length = t110.toNat from (by rw [← Nz110.out, List.length_take]; have h_ : (t110 : Int) ≤ (l0.length : Int) := of_decide_eq_true (by first | (with_reducible assumption) | assumption); omega)] <;> rfl) | rfl | (simp only [List.length_drop, List.length_take]; rfl)) ?_; (with_reducible refine (nat_Bits.calls k _ _ z110 t112 _ ?side1 ?side2 A10.out).mono ?_); (case side1 => repeat (first | exact HR111.out | (with_reducible refine Kd.C_alloc ?_ _) | (with_reducible refine Kd.C_drewN ?_ _) | (with_reducible refine Kd.C_drew ?_))); (case side2 => exact HC111.out); rintro e w' ⟨rfl, ⟨nd, rfl⟩⟩; refine ⟨_, rfl, ?_⟩))
            go_ret2
            exact ⟨_, by first | rfl | (simp [errW_none, errW_some] <;> rfl) | (simp [*, errW_none, errW_some] <;> rfl), by first | exact Kd.R_nil _ _ _ _ _ | exact Kd.N_nil _ _ _ _ _ | exact Kd.V_nil _ _ _ _ _ | exact Kd.Q_nil _ _ _ _ _ | exact Kd.S_nil _ _ _ _ _, by repeat (first | (with_reducible first | exact HB.out | apply below_alloc | apply pw_below_drewN | apply below_drew1) | exact HB.out)⟩
          · rw [if_neg c11] at H
            have c11b0 : decide ((wrap64 (262144 - t112)) < a1) = false := decide_eq_false c11
            clear c11
            obtain ⟨ji13, hji13⟩ : ∃ j_ : Int, (wrap64 ((wrap64 ((wrap64 (Int.tdiv a1 64)) + (z110.length : Int))) + 1)) = j_ := ⟨_, rfl⟩
            replace H : (if 0 ≤ (ji13) then (if ((ji13 : Int).toNat ≤ 35184372088832 ∧ 0 ≤ (wrap64 (Int.tdiv a1 64)) ∧ (wrap64 (Int.tdiv a1 64)).toNat ≤ (ji13 : Int).toNat) then ((some (cpyAt (List.replicate (ji13 : Int).toNat 0) z110 (wrap64 (Int.tdiv a1 64)).toNat : List Int)).bind fun y113 => (if (Int.tmod a1 64) > 0 then (nat_Shl.l0 k a1 y113 (Int.tmod a1 64) (wrap64 ((y113.length : Int) - 1))) else ((nat_bound.f k y113).bind fun bt127 => (some (bt127.1, bt127.2))))) else (none)) else (none)) = some (r1, r2) := by first | (rw [hji13] at H; exact H) | (simp only [hji13] at H ⊢; exact H)
            (try rw [hji13] at A3)
            (try rw [hji13] at A10)
            have hji13w : (IntKind.i64.wrap ((wrap64 ((wrap64 (Int.tdiv a1 64)) + (z110.length : Int))) + 1)) = ji13 := (i64_w _).trans hji13
            by_cases c14 : (0 : Int) ≤ (ji13)
            · rw [if_pos c14] at H
              have c14b0 := eq_true c14
              have c14b1 : decide (0 ≤ (ji13)) = true := decide_eq_true c14
              clear c14
              by_cases c15 : ((ji13 : Int).toNat ≤ 35184372088832 ∧ 0 ≤ (wrap64 (Int.tdiv a1 64)) ∧ (wrap64 (Int.tdiv a1 64)).toNat ≤ (ji13 : Int).toNat)
              · rw [if_pos c15] at H
                obtain ⟨c15, cq0, cq1⟩ := c15
                have c15b0 := eq_true c15
                have c15b1 : decide ((ji13 : Int).toNat ≤ 35184372088832) = true := decide_eq_true c15
                clear c15
                obtain ⟨yq, hyq⟩ : ∃ y_ : List Int, y_ = (List.replicate (ji13 : Int).toNat 0) := ⟨_, rfl⟩
                have ylq : yq.length = (ji13 : Int).toNat := by rw [hyq, List.length_replicate]
                rw [← hyq] at H
                have Nyq := Aside0.mk hyq
                clear hyq
                obtain ⟨y113, hy113⟩ : ∃ y_ : List Int, y_ = (cpyAt yq z110 (wrap64 (Int.tdiv a1 64)).toNat) := ⟨_, rfl⟩
                have yl113 : yq.length = y113.length := by rw [hy113, cpyAt_length (by omega)]
                have cq2 : (wrap64 (Int.tdiv a1 64)) ≤ (y113.length : Int) := by omega
                have Cq := Aside0.mk (And.intro cq0 (And.intro cq2 (And.intro yl113 hy113)))
                clear cq0 cq1 cq2 ylq yl113
                replace H : (if (Int.tmod a1 64) > 0 then (nat_Shl.l0 k a1 y113 (Int.tmod a1 64) (wrap64 ((y113.length : Int) - 1))) else ((nat_bound.f k y113).bind fun bt127 => (some (bt127.1, bt127.2)))) = some (r1, r2) := by first | (rw [hy113]; with_reducible exact H) | (have H2_ := (Option.bind_some _ _).symm.trans H; rw [hy113]; with_reducible exact H2_) | (have H2_ := (Option.bind_some _ _).symm.trans H; with_reducible exact H2_) | with_reducible exact H | (rw [hy113]; exact H) | exact H
                have Ny113 := Aside0.mk hy113
                clear hy113
                by_cases c16 : (Int.tmod a1 64) > 0
                · rw [if_pos c16] at H
                  have c16b0 : decide (0 < (Int.tmod a1 64)) = true := decide_eq_true c16
                  clear c16
                  have H' := Aside0.mk H
                  clear H
                  go_enter Try.func23, Try.ntmps23
                  go_wp2_with (first | ((with_reducible refine gate_callee (f := 37) rfl ?_); refine goesL_ (some 11) rfl rfl Try.func37 (by kernel_rfl) rfl #[.slice A0 l0.length c0] rfl (by (try simp only [List.map_toArray, List.map_cons, List.map_nil]); first | done | rfl | (simp only [List.length_drop, List.length_take]; rfl)) ?_; (with_reducible refine (nat_size.calls k _ _ l0 t110 _ ?side1 ?side2 A3.out).mono ?_); (case side1 => repeat (first | exact HR0.out | (with_reducible refine Kd.C_alloc ?_ _) | (with_reducible refine Kd.C_drewN ?_ _) | (with_reducible refine Kd.C_drew ?_))); (case side2 => exact HC0.out); rintro e w' ⟨rfl, ⟨nd, rfl⟩⟩; refine ⟨_, rfl, ?_⟩; obtain ⟨i017, hi017, _, hsz17, _⟩ := info_parts info39; obtain ⟨hcut17, hA17, hC17⟩ := print_take_of (P := Try.prog) (Value.int .u64) 0 22 39 .i64 Try.underlying22 hi017 hsz17 A0 c0 l0 t110 (of_decide_eq_true (by first | (with_reducible assumption) | assumption)) (of_decide_eq_true (by first | (with_reducible assumption) | assumption)) HC0.out; rw [Nz110.out] at hcut17 hA17 hC17; have HR111 := Aside0.mk (Kd.C_of_reads (h1 := fun _ => rfl) (hA17 _ (Kd.reads_of_C HR0.out))); have HC111 := Aside0.mk hC17; clear hA17 hC17 hi017 hsz17) | ((with_reducible refine gate_callee (f := 11) rfl ?_); refine goesL_ (some 23) rfl rfl Try.func11 (by kernel_rfl) rfl #[.slice A0 z110.length c0] rfl (by (try simp only [List.map_toArray, List.map_cons, List.map_nil]); first | done | (rw [show z110.length = t110.toNat from (by rw [← Nz110.out, List.length_take]; have h_ : (t110 : Int) ≤ (l0.length : Int) := of_decide_eq_true (by first | (with_reducible assumption) | assumption); omega)] <;> rfl) | rfl | (simp only [List.length_drop, List.length_take]; rfl)) ?_; (with_reducible refine (nat_Bits.calls k _ _ z110 t112 _ ?side1 ?side2 A10.out).mono ?_); (case side1 => repeat (first | exact HR111.out | (with_reducible refine Kd.C_alloc ?_ _) | (with_reducible refine Kd.C_drewN ?_ _) | (with_reducible refine Kd.C_drew ?_))); (case side2 => exact HC111.out); rintro e w' ⟨rfl, ⟨nd, rfl⟩⟩; refine ⟨_, rfl, ?_⟩) | ((with_reducible refine gate_dst (N := 32) rfl ?_); refine Kd.R_make (Kd.int .u64) _ 39 rfl (N := 32) rfl 22 _ _ rfl ji13 rfl rfl Try.underlying22 (.int .u64 0) 8 info39 rfl (by decide) (by omega) 0 (ok := fun _ => True) (okp := fun _ => True) rfl (fun _ hk => hk) trivial (of_decide_eq_true (by first | (with_reducible assumption) | assumption)) (Nat.le_trans (Nat.mul_le_mul_right _ (of_decide_eq_true (by first | (with_reducible assumption) | assumption) : ji13.toNat ≤ 35184372088832)) (by omega)) (Below.refl _ _) (Nat.le_refl _) ?_; intro v114 w18 ho19 hb hg_ hnew_; clear hg_ hnew_; rw [← Nyq.out] at ho19; have n0_ := Aside0.mk (Kd.R_lower ho19 (below_size (by repeat (first | (with_reducible first | exact HB.out | apply below_alloc | apply pw_below_drewN | apply below_drew1) | exact HB.out)))); have n1_ := Aside0.mk (below_step (by repeat (first | (with_reducible first | exact HB.out | apply below_alloc | apply pw_below_drewN | apply below_drew1) | exact HB.out)) hb); clear HB; have HO115 := n0_; have HB := n1_; clear n0_ n1_; clear hb ho19; obtain ⟨Ao20, co20, eo20⟩ := Kd.R_slice HO115.out; rw [Cq.out.2.2.1] at eo20; subst eo20; obtain ⟨i0q, hi0q, _, hszq, _⟩ := info_parts info39; have hcutq := cut_from (P := Try.prog) 22 39 .i64 Try.underlying22 hi0q 1 hszq Ao20 y113.length co20 (wrap64 (Int.tdiv a1 64)) Cq.out.1 Cq.out.2.1; clear hi0q hszq; obtain ⟨Aq, hAq⟩ : ∃ A_ : Option Addr, A_ = (if co20 = (wrap64 (Int.tdiv a1 64)).toNat then Ao20 else Ao20.map (·.add ((wrap64 (Int.tdiv a1 64)).toNat * 1))) := ⟨_, rfl⟩; rw [← hAq] at hcutq; have NAq := Aside0.mk hAq; clear hAq) | ((with_reducible refine gate_dst (N := 38) rfl ?_); refine Kd.R_copy_at (enc := Value.int .u64) (h1 := fun _ => rfl) (0 : Int) w.heap.size rfl (.tmp 36) (.tmp 37) 22 22 39 rfl Try.underlying22 (by kernel_rfl) Ao20 co20 (wrap64 (Int.tdiv a1 64)).toNat y113.length yq z110 Cq.out.2.2.1 A0 z110.length c0 (fun _ => True) Aq NAq.out rfl rfl (by have := Cq.out.2.1; have := Cq.out.1; omega) HO115.out ?hcr HB.out HB.out.size ?_; (case hcr => exact Kd.C_below HR111.out HB.out); intro wq hoq hbq _; rw [shl_copied Cq.out.2.2.1 Cq.out.2.2.2] at hoq; clear HO115; have HO115 := Aside0.mk hoq; clear HB; have HB := Aside0.mk hbq; clear hoq hbq hcutq))
                  go_loopg [8] k (fun kq v8 w' => ∃ (x6_1 : List Int) (x8_1 : Int), v8 = .int .i64 x8_1 ∧ Aside0 (nat_Shl.l0 kq a1 x6_1 (Int.tmod a1 64) x8_1 = some (r1, r2)) ∧ Aside0 (kq ≤ k) ∧ Aside0 (Kd.R (Kd.int .u64) 39 w' w.heap.size (fun _ => True) (.slice Ao20 y113.length co20) x6_1) ∧ Aside0 (Below w.heap.size w w'))
                  case atStart => exact ⟨(y113), (wrap64 ((y113.length : Int) - 1)), (by first | rfl | (simp; done) | (simp [*]; done)), H', ⟨Nat.le_refl _⟩, ⟨by (with_reducible repeat (first | apply Kd.R_alloc | apply Kd.R_drewN | apply Kd.R_drew)); exact HO115.out⟩, ⟨by repeat (first | (with_reducible first | exact HB.out | apply below_alloc | apply pw_below_drewN | apply below_drew1) | exact HB.out)⟩⟩
                  case round =>
                    clear H'
                    try clear c1
                    try clear c2
                    try clear p2
                    try clear c3
                    try clear c4
                    try clear c4b0
                    try clear c4b1
                    try clear c5
                    try clear c5b0
                    try clear c5b1
                    try clear c6
                    try clear c6b0
                    try clear p6
                    try clear c8
                    try clear c8b0
                    try clear c8b1
                    try clear c8b2
                    try clear c11
                    try clear c11b0
                    try clear c14
                    try clear c14b0
                    try clear c14b1
                    try clear c15
                    try clear Cq
                    try clear Nyq
                    try clear Ny113
                    try clear c15b0
                    try clear c15b1
                    try clear c16
                    try clear c16b0
                    obtain ⟨x6_1, x8_1, rfl, HA, HK1, HO_6, HB⟩ := hrel
                    have hl6_1 := (Kd.R_reads' HO_6.out).1
                    rw [hl6_1] at HO_6
                    (try simp only [hl6_1])
                    cases gk with
                    | zero => exact absurd HA.out (by simp [nat_Shl.l0])
                    | succ k1 =>
                      have H := HA.out
                      clear HA
                      simp only [nat_Shl.l0] at H
                      by_cases c21 : x8_1 > (wrap64 (Int.tdiv a1 64))
                      · rw [if_pos c21] at H
                        have c21b0 : decide ((wrap64 (Int.tdiv a1 64)) < x8_1) = true := decide_eq_true c21
                        clear c21
                        by_cases c22 : (0 : Int) ≤ x8_1
                        · rw [if_pos c22] at H
                          have c22b0 : decide (0 ≤ x8_1) = true := decide_eq_true c22
                          clear c22
                          by_cases c23 : x8_1 < (x6_1.length : Int)
                          · rw [if_pos c23] at H
                            have c23b0 : decide (x8_1 < (x6_1.length : Int)) = true := decide_eq_true c23
                            clear c23
                            obtain ⟨ji24, hji24⟩ : ∃ j_ : Int, (wrap64 (x8_1 - 1)) = j_ := ⟨_, rfl⟩
                            replace H : (if 0 ≤ (ji24) then (if (ji24) < (x6_1.length : Int) then ((wide_Shl.f (rd x6_1 x8_1) (rd x6_1 (ji24)) (Int.tmod a1 64)).bind fun bt118 => (nat_Shl.l0 k1 a1 (x6_1.set (x8_1 : Int).toNat bt118.1) (Int.tmod a1 64) ji24)) else (none)) else (none)) = some (r1, r2) := by first | (rw [hji24] at H; exact H) | (simp only [hji24] at H ⊢; exact H)
                            have hji24w : (IntKind.i64.wrap (x8_1 - 1)) = ji24 := (i64_w _).trans hji24
                            by_cases c25 : (0 : Int) ≤ (ji24)
                            · rw [if_pos c25] at H
                              have c25b0 : decide (0 ≤ (ji24)) = true := decide_eq_true c25
                              clear c25
                              by_cases c26 : (ji24) < (x6_1.length : Int)
                              · rw [if_pos c26] at H
                                have c26b0 : decide ((ji24) < (x6_1.length : Int)) = true := decide_eq_true c26
                                clear c26
                                replace H := Option.bind_eq_some_iff.mp H
                                obtain ⟨⟨t118, t119⟩, A270, H⟩ := H
                                replace H : (nat_Shl.l0 k1 a1 (x6_1.set (x8_1 : Int).toNat t118) (Int.tmod a1 64) ji24) = some (r1, r2) := H
                                have A27 := Aside0.mk A270
                                clear A270
                                obtain ⟨y120, hy120⟩ : ∃ y_ : List Int, y_ = (x6_1.set (x8_1 : Int).toNat t118) := ⟨_, rfl⟩
                                replace H : (nat_Shl.l0 k1 a1 y120 (Int.tmod a1 64) ji24) = some (r1, r2) := by first | (rw [hy120]; with_reducible exact H) | (have H2_ := (Option.bind_some _ _).symm.trans H; rw [hy120]; with_reducible exact H2_) | (have H2_ := (Option.bind_some _ _).symm.trans H; with_reducible exact H2_) | with_reducible exact H | (rw [hy120]; exact H) | exact H
                                have Ny120 := Aside0.mk hy120
                                clear hy120
                                have H' := Aside0.mk H
                                clear H
                                try go_wp2
                                have n0_ := Aside0.mk (Kd.R_drew HO_6.out)
                                have n1_ := Aside0.mk (below_drew1 HB.out)
                                clear HO_6
                                clear HB
                                have HO_6 := n0_
                                have HB := n1_
                                clear n0_ n1_
                                have p116 : 0 ≤ (x8_1 : Int) := of_decide_eq_true (by first | (with_reducible assumption) | assumption)
                                have q116 : x8_1 < (x6_1.length : Int) := of_decide_eq_true (by first | (with_reducible assumption) | assumption)
                                obtain ⟨ad116, e116, hx116_0⟩ := Kd.at_int (Kd.R_reads' HO_6.out).2.2 x8_1 p116 q116
                                cases e116
                                replace p116 := eq_true p116
                                replace q116 := eq_true q116
                                have p117 : 0 ≤ ((ji24) : Int) := of_decide_eq_true (by first | (with_reducible assumption) | assumption)
                                have q117 : (ji24) < (x6_1.length : Int) := of_decide_eq_true (by first | (with_reducible assumption) | assumption)
                                obtain ⟨ad117, e117, hx117_0⟩ := Kd.at_int (Kd.R_reads' HO_6.out).2.2 (ji24) p117 q117
                                obtain rfl : ad116 = ad117 := (by injection e117)
                                replace p117 := eq_true p117
                                replace q117 := eq_true q117
                                refine start_ (n := 18) (S := fun w' => w'.cell? (ad116.add (x8_1).toNat) = some (.int .u64 (rd x6_1 x8_1)) ∧ w'.cell? (ad116.add ((ji24)).toNat) = some (.int .u64 (rd x6_1 (ji24)))) (ds := [17]) #[false, false, false, false, false, false, false, false, false, false, false, false, false, false, false, false, false, false] (by kernel_rfl) rfl rfl ⟨hx116_0, hx117_0⟩ (fun hHeld => ?_); refine with_tabW nat_Shl.tab15 nat_Shl.bits15 (fun HT_ HW_ => ?_)
                                generalize wr.drew = w29 at HO_6 HB hx116_0 hx117_0 hHeld ⊢
                                refine pure_ (i := 0) (N := some 53) (v := ?_) (a' := ?_) #[true, false, false, false, false, false, false, false, false, false, false, false, false, false, false, false, false, false] rfl rfl (any_of HT_.out (by kernel_rfl)) (fun _ _ _ h => h) (Or.inl ⟨by rfl, ?_⟩) ?_ ?_
                                rotate_left
                                · intro w'
                                  go_simp
                                  with_reducible rfl
                                rotate_left
                                · simp only [Act.put, List.setIfInBounds_toArray, List.set_cons_zero, List.set_cons_succ, i64_w, i32_w]
                                  rfl
                                refine pure_ (i := 1) (N := some 54) (v := ?_) (a' := ?_) #[true, true, false, false, false, false, false, false, false, false, false, false, false, false, false, false, false, false] rfl rfl (any_of HT_.out (by kernel_rfl)) (fun _ _ _ h => h) (Or.inl ⟨by rfl, ?_⟩) ?_ ?_
                                rotate_left
                                · intro w'
                                  go_simp
                                  with_reducible rfl
                                rotate_left
                                · simp only [Act.put, List.setIfInBounds_toArray, List.set_cons_zero, List.set_cons_succ, i64_w, i32_w]
                                  rfl
                                refine pure_ (i := 2) (N := some 55) (v := ?_) (a' := ?_) #[true, true, true, false, false, false, false, false, false, false, false, false, false, false, false, false, false, false] rfl rfl (any_of HT_.out (by kernel_rfl)) (fun _ _ _ h => h) (Or.inl ⟨by rfl, ?_⟩) ?_ ?_
                                rotate_left
                                · intro w'
                                  go_simp
                                  with_reducible rfl
                                rotate_left
                                · simp only [Act.put, List.setIfInBounds_toArray, List.set_cons_zero, List.set_cons_succ, i64_w, i32_w]
                                  rfl
                                refine pure_ (i := 3) (N := some 56) (v := ?_) (a' := ?_) #[true, true, true, true, false, false, false, false, false, false, false, false, false, false, false, false, false, false] rfl rfl (any_of HT_.out (by kernel_rfl)) (fun _ _ _ h => h) (Or.inl ⟨by rfl, ?_⟩) ?_ ?_
                                rotate_left
                                · intro w'
                                  go_simp
                                  with_reducible rfl
                                rotate_left
                                · simp only [Act.put, List.setIfInBounds_toArray, List.set_cons_zero, List.set_cons_succ, i64_w, i32_w]
                                  rfl
                                refine pure_ (i := 4) (N := some 57) (v := ?_) (a' := ?_) #[true, true, true, true, true, false, false, false, false, false, false, false, false, false, false, false, false, false] rfl rfl (any_of HT_.out (by kernel_rfl)) (fun _ _ _ h => h) (Or.inl ⟨by rfl, ?_⟩) ?_ ?_
                                rotate_left
                                · intro w'
                                  go_simp
                                  with_reducible rfl
                                rotate_left
                                · simp only [Act.put, List.setIfInBounds_toArray, List.set_cons_zero, List.set_cons_succ, i64_w, i32_w]
                                  rfl
                                refine pure_ (i := 6) (N := some 59) (v := ?_) (a' := ?_) #[true, true, true, true, true, false, true, false, false, false, false, false, false, false, false, false, false, false] rfl rfl (any_of HT_.out (by kernel_rfl)) (fun _ _ _ h => h) (Or.inl ⟨by rfl, ?_⟩) ?_ ?_
                                rotate_left
                                · intro w'
                                  go_simp
                                  with_reducible rfl
                                rotate_left
                                · simp only [Act.put, List.setIfInBounds_toArray, List.set_cons_zero, List.set_cons_succ, i64_w, i32_w]
                                  rfl
                                refine pure_ (i := 7) (N := some 60) (v := ?_) (a' := ?_) #[true, true, true, true, true, false, true, true, false, false, false, false, false, false, false, false, false, false] rfl rfl (any_of HT_.out (by kernel_rfl)) (fun _ _ _ h => h) (Or.inl ⟨by rfl, ?_⟩) ?_ ?_
                                rotate_left
                                · intro w'
                                  go_simp
                                  with_reducible rfl
                                rotate_left
                                · simp only [Act.put, List.setIfInBounds_toArray, List.set_cons_zero, List.set_cons_succ, i64_w, i32_w]
                                  rfl
                                refine pure_ (i := 8) (N := some 61) (v := ?_) (a' := ?_) #[true, true, true, true, true, false, true, true, true, false, false, false, false, false, false, false, false, false] rfl rfl (any_of HT_.out (by kernel_rfl)) (fun _ _ _ h => h) (Or.inl ⟨by rfl, ?_⟩) ?_ ?_
                                rotate_left
                                · intro w'
                                  go_simp
                                  with_reducible rfl
                                rotate_left
                                · simp only [Act.put, List.setIfInBounds_toArray, List.set_cons_zero, List.set_cons_succ, i64_w, i32_w]
                                  rfl
                                refine pure_ (i := 9) (N := some 62) (v := ?_) (a' := ?_) #[true, true, true, true, true, false, true, true, true, true, false, false, false, false, false, false, false, false] rfl rfl (any_of HT_.out (by kernel_rfl)) (fun _ _ _ h => h) (Or.inl ⟨by rfl, ?_⟩) ?_ ?_
                                rotate_left
                                · intro w'
                                  go_simp
                                  with_reducible rfl
                                rotate_left
                                · simp only [Act.put, List.setIfInBounds_toArray, List.set_cons_zero, List.set_cons_succ, i64_w, i32_w]
                                  rfl
                                refine pure_ (i := 11) (N := some 64) (v := ?_) (a' := ?_) #[true, true, true, true, true, false, true, true, true, true, false, true, false, false, false, false, false, false] rfl rfl (any_of HT_.out (by kernel_rfl)) (fun _ _ _ h => h) (Or.inl ⟨by rfl, ?_⟩) ?_ ?_
                                rotate_left
                                · intro w'
                                  go_simp
                                  with_reducible rfl
                                rotate_left
                                · simp only [Act.put, List.setIfInBounds_toArray, List.set_cons_zero, List.set_cons_succ, i64_w, i32_w]
                                  rfl
                                refine take_ (i := 5) (N := some 58) (v := ?_) (a' := ?_) #[true, true, true, true, true, true, true, true, true, true, false, true, false, false, false, false, false, false] rfl rfl (take_ofW HT_.out HW_.out (by kernel_rfl)) (fun _ _ _ h => h) (Or.inl ⟨by rfl, ?_⟩) hHeld ?_ ?_
                                rotate_left
                                · rintro w' ⟨s0, s1⟩
                                  go_simp
                                  with_reducible rfl
                                rotate_left
                                · simp only [Act.put, List.setIfInBounds_toArray, List.set_cons_zero, List.set_cons_succ, i64_w, i32_w]
                                  rfl
                                refine take_ (i := 10) (N := some 63) (v := ?_) (a' := ?_) #[true, true, true, true, true, true, true, true, true, true, true, true, false, false, false, false, false, false] rfl rfl (take_ofW HT_.out HW_.out (by kernel_rfl)) (fun _ _ _ h => h) (Or.inl ⟨by rfl, ?_⟩) hHeld ?_ ?_
                                rotate_left
                                · rintro w' ⟨s0, s1⟩
                                  go_simp
                                  with_reducible rfl
                                rotate_left
                                · simp only [Act.put, List.setIfInBounds_toArray, List.set_cons_zero, List.set_cons_succ, i64_w, i32_w]
                                  rfl
                                refine one_ (i := 12) (N := some 65) #[true, true, true, true, true, true, true, true, true, true, true, true, true, false, false, false, false, false] rfl rfl (one_of HT_.out (by kernel_rfl)) (by decide) (fun K hK => ?_)
                                refine goes_ Try.func50 (by kernel_rfl) rfl #[.int .u64 (rd x6_1 x8_1), .int .u64 (rd x6_1 (ji24)), .int .i64 (Int.tmod a1 64)] (by rfl) rfl rfl (by (try simp only [List.map_toArray, List.map_cons, List.map_nil]); first | done | (simp only [hji24]; rfl) | rfl | (simp only [List.length_drop, List.length_take]; rfl)) ?_
                                with_reducible refine (wide_Shl.calls (rd x6_1 x8_1) (rd x6_1 (ji24)) (Int.tmod a1 64) t118 t119 _ A27.out).mono ?_
                                rintro e w30 ⟨rfl, hb⟩
                                have HS0_ := (hb.cell (World.block_lt_of_cell? _ _ (hHeld.1))).trans (hHeld.1)
                                have HS1_ := (hb.cell (World.block_lt_of_cell? _ _ (hHeld.2))).trans (hHeld.2)
                                refine ⟨_, rfl, ?_⟩
                                have n0_ := Aside0.mk (Kd.R_below (by (with_reducible repeat (first | apply Kd.R_alloc | apply Kd.R_drewN | apply Kd.R_drew)); exact HO_6.out) hb)
                                have n1_ := Aside0.mk (below_step (by repeat (first | (with_reducible first | exact HB.out | apply below_alloc | apply pw_below_drewN | apply below_drew1) | exact HB.out)) hb)
                                clear HO_6
                                clear HB
                                have HO_6 := n0_
                                have HB := n1_
                                clear n0_ n1_
                                (try clear hb)
                                (try clear hb2)
                                (try clear hk)
                                (try clear hi)
                                have p28 : 0 ≤ (x8_1 : Int) := of_decide_eq_true (by first | (with_reducible assumption) | assumption)
                                have q28 : (x8_1 : Int) < ((x6_1.length : Int) : Int) := of_decide_eq_true (by first | (with_reducible assumption) | assumption)
                                obtain ⟨go28, co28, eo28, gb28, gl28, cl28, HG28⟩ := Kd.R_form HO_6.out (by omega)
                                (first | cases eo28 | (injection eo28 with ea_ en_ ec_; (first | subst ea_ | (injection ea_ with ea_; subst ea_)); subst ec_; clear en_))
                                have GB28 := Aside0.mk gb28
                                have GG28 := Aside0.mk HG28
                                clear gb28 gl28 HG28
                                (first | simp only [add_plain] at hx116_0 | skip)
                                (first | simp only [add_plain] at hx117_0 | skip)
                                obtain ⟨hx28_0, hf28_0⟩ := Kd.R_celln 0 HO_6.out (x8_1 : Int) p28 q28
                                replace p28 := eq_true p28
                                replace q28 := eq_true q28
                                have HP31 := Kd.R_putn HO_6.out (x8_1 : Int) t118
                                rw [← Ny120.out] at HP31
                                have HQ31 := Aside0.mk HP31
                                clear HP31
                                refine hK.out _ _ ⟨HS0_, HS1_⟩ (fun hHeld => ?_)
                                clear hK K
                                refine norm_ (a' := ?_) ?_ ?_
                                rotate_left
                                · show Act.put _ (some 65) _ = _
                                  simp only [Act.put, List.setIfInBounds_toArray, List.set_cons_zero, List.set_cons_succ, i64_w, i32_w]
                                  rfl
                                refine pure_ (i := 13) (N := some 52) (v := ?_) (a' := ?_) #[true, true, true, true, true, true, true, true, true, true, true, true, true, true, false, false, false, false] rfl rfl (any_of HT_.out (by kernel_rfl)) (fun _ _ _ h => h) (Or.inl ⟨by rfl, ?_⟩) ?_ ?_
                                rotate_left
                                · intro w'
                                  go_simp
                                  with_reducible rfl
                                rotate_left
                                · simp only [Act.put, List.setIfInBounds_toArray, List.set_cons_zero, List.set_cons_succ, i64_w, i32_w]
                                  rfl
                                refine pure_ (i := 14) (N := some 66) (v := ?_) (a' := ?_) #[true, true, true, true, true, true, true, true, true, true, true, true, true, true, true, false, false, false] rfl rfl (any_of HT_.out (by kernel_rfl)) (fun _ _ _ h => h) (Or.inl ⟨by rfl, ?_⟩) ?_ ?_
                                rotate_left
                                · intro w'
                                  go_simp
                                  with_reducible rfl
                                rotate_left
                                · simp only [Act.put, List.setIfInBounds_toArray, List.set_cons_zero, List.set_cons_succ, i64_w, i32_w]
                                  rfl
                                refine pure_ (i := 15) (N := some 67) (v := ?_) (a' := ?_) #[true, true, true, true, true, true, true, true, true, true, true, true, true, true, true, true, false, false] rfl rfl (any_of HT_.out (by kernel_rfl)) (fun _ _ _ h => h) (Or.inl ⟨by rfl, ?_⟩) ?_ ?_
                                rotate_left
                                · intro w'
                                  go_simp
                                  with_reducible rfl
                                rotate_left
                                · simp only [Act.put, List.setIfInBounds_toArray, List.set_cons_zero, List.set_cons_succ, i64_w, i32_w]
                                  rfl
                                refine pure_ (i := 16) (N := some 68) (v := ?_) (a' := ?_) #[true, true, true, true, true, true, true, true, true, true, true, true, true, true, true, true, true, false] rfl rfl (any_of HT_.out (by kernel_rfl)) (fun _ _ _ h => h) (Or.inl ⟨by rfl, ?_⟩) ?_ ?_
                                rotate_left
                                · intro w'
                                  go_simp
                                  with_reducible rfl
                                rotate_left
                                · simp only [Act.put, List.setIfInBounds_toArray, List.set_cons_zero, List.set_cons_succ, i64_w, i32_w]
                                  rfl
                                refine last_ (i := 17) (N := none) #[true, true, true, true, true, true, true, true, true, true, true, true, true, true, true, true, true, true] rfl rfl (one_of HT_.out (by kernel_rfl)) (by decide) (fun K hK => ?_)
                                refine skip_ (w1 := ?_) (by rfl) rfl ?_ ?_
                                rotate_left
                                · go_simp
                                  rfl
                                refine hK.out _ _ ?_
                                clear hK K
                                refine done_ (done_of HT_.out (by kernel_rfl)) ?_
                                try go_wp2
                                (try simp only [← hl6_1])
                                go_roundg k1
                                case measure => have := HK1.out; omega
                                case rel => exact ⟨(y120), (ji24), (by first | rfl | (simp; done) | (simp only [← hji24] <;> (first | rfl | simp)) | (simp [*]; done)), H', ⟨by have := HK1.out; omega⟩, ⟨by (try simp only [hl6_1]); (with_reducible repeat (first | apply Kd.R_alloc | apply Kd.R_drewN | apply Kd.R_drew)); exact HQ31.out⟩, ⟨by repeat (first | (with_reducible first | exact HB.out | apply below_alloc | apply pw_below_drewN | apply below_drew1 | refine below_set ?_ GB28.out) | exact HB.out)⟩⟩
                              · rw [if_neg c26] at H
                                exact absurd H (by simp)
                            · rw [if_neg c25] at H
                              exact absurd H (by simp)
                          · rw [if_neg c23] at H
                            exact absurd H (by simp)
                        · rw [if_neg c22] at H
                          exact absurd H (by simp)
                      · rw [if_neg c21] at H
                        have c21b0 : decide ((wrap64 (Int.tdiv a1 64)) < x8_1) = false := decide_eq_false c21
                        clear c21
                        obtain ⟨ji32, hji32⟩ : ∃ j_ : Int, (wrap64 (Int.tdiv a1 64)) = j_ := ⟨_, rfl⟩
                        replace H : (if 0 ≤ (ji32) then (if (ji32) < (x6_1.length : Int) then (if 0 ≤ (Int.tmod a1 64) then ((nat_bound.f k1 (x6_1.set ((ji32) : Int).toNat (shl .u64 (rd x6_1 (ji32)) (Int.tmod a1 64)))).bind fun bt123 => (some (bt123.1, bt123.2))) else (none)) else (none)) else (none)) = some (r1, r2) := by first | (rw [hji32] at H; exact H) | (simp only [hji32] at H ⊢; exact H)
                        (try rw [hji32] at c21b0)
                        have hji32w : (IntKind.i64.wrap (Int.tdiv a1 64)) = ji32 := (i64_w _).trans hji32
                        by_cases c33 : (0 : Int) ≤ (ji32)
                        · rw [if_pos c33] at H
                          have c33b0 : decide (0 ≤ (ji32)) = true := decide_eq_true c33
                          clear c33
                          by_cases c34 : (ji32) < (x6_1.length : Int)
                          · rw [if_pos c34] at H
                            have c34b0 : decide ((ji32) < (x6_1.length : Int)) = true := decide_eq_true c34
                            clear c34
                            obtain ⟨ji35, hji35⟩ : ∃ j_ : Int, (Int.tmod a1 64) = j_ := ⟨_, rfl⟩
                            replace H : (if 0 ≤ (ji35) then ((nat_bound.f k1 (x6_1.set ((ji32) : Int).toNat (shl .u64 (rd x6_1 (ji32)) (ji35)))).bind fun bt123 => (some (bt123.1, bt123.2))) else (none)) = some (r1, r2) := by first | (rw [hji35] at H; exact H) | (simp only [hji35] at H ⊢; exact H)
                            (try rw [hji35] at c16b0)
                            by_cases c36 : (0 : Int) ≤ (ji35)
                            · rw [if_pos c36] at H
                              have c36b0 := eq_true c36
                              have c36b1 : decide (0 ≤ (ji35)) = true := decide_eq_true c36
                              clear c36
                              obtain ⟨ji37, hji37⟩ : ∃ j_ : Int, (shl .u64 (rd x6_1 (ji32)) (ji35)) = j_ := ⟨_, rfl⟩
                              replace H : ((nat_bound.f k1 (x6_1.set ((ji32) : Int).toNat (ji37))).bind fun bt123 => (some (bt123.1, bt123.2))) = some (r1, r2) := by first | (rw [hji37] at H; exact H) | (simp only [hji37] at H ⊢; exact H)
                              have hji37_ : (IntKind.u64.wrap ((rd x6_1 (ji32)) * 2 ^ min (ji35).toNat 64)) = ji37 := hji37
                              have hji37z : (ji35) ≤ 64 → (IntKind.u64.wrap ((rd x6_1 (ji32)) * 2 ^ (ji35).toNat)) = ji37 := shl_small hji37
                              obtain ⟨y122, hy122⟩ : ∃ y_ : List Int, y_ = (x6_1.set ((ji32) : Int).toNat (ji37)) := ⟨_, rfl⟩
                              replace H : ((nat_bound.f k1 y122).bind fun bt123 => (some (bt123.1, bt123.2))) = some (r1, r2) := by first | (rw [hy122]; with_reducible exact H) | (have H2_ := (Option.bind_some _ _).symm.trans H; rw [hy122]; with_reducible exact H2_) | (have H2_ := (Option.bind_some _ _).symm.trans H; with_reducible exact H2_) | with_reducible exact H | (rw [hy122]; exact H) | exact H
                              have Ny122 := Aside0.mk hy122
                              clear hy122
                              replace H := Option.bind_eq_some_iff.mp H
                              obtain ⟨⟨t123, t126⟩, A390, H⟩ := H
                              replace H : (some (t123, t126)) = some (r1, r2) := H
                              have A39 := Aside0.mk A390
                              clear A390
                              simp only [Option.some.injEq, Prod.mk.injEq] at H
                              obtain ⟨rfl, rfl⟩ := H
                              have p121 : 0 ≤ ((ji32) : Int) := of_decide_eq_true (by first | (with_reducible assumption) | assumption)
                              have q121 : (ji32) < (x6_1.length : Int) := of_decide_eq_true (by first | (with_reducible assumption) | assumption)
                              obtain ⟨ad121, e121, hx121_0⟩ := Kd.at_int (Kd.R_reads' HO_6.out).2.2 (ji32) p121 q121
                              cases e121
                              replace p121 := eq_true p121
                              replace q121 := eq_true q121
                              have p38 : 0 ≤ ((ji32) : Int) := of_decide_eq_true (by first | (with_reducible assumption) | assumption)
                              have q38 : ((ji32) : Int) < ((x6_1.length : Int) : Int) := of_decide_eq_true (by first | (with_reducible assumption) | assumption)
                              obtain ⟨go38, co38, eo38, gb38, gl38, cl38, HG38⟩ := Kd.R_form HO_6.out (by omega)
                              (first | cases eo38 | (injection eo38 with ea_ en_ ec_; (first | subst ea_ | (injection ea_ with ea_; subst ea_)); subst ec_; clear en_))
                              have GB38 := Aside0.mk gb38
                              have GG38 := Aside0.mk HG38
                              clear gb38 gl38 HG38
                              (first | simp only [add_plain] at hx121_0 | skip)
                              obtain ⟨hx38_0, hf38_0⟩ := Kd.R_celln 0 HO_6.out ((ji32) : Int) p38 q38
                              replace p38 := eq_true p38
                              replace q38 := eq_true q38
                              have HP40 := Kd.R_putg HO_6.out ((ji32) : Int) ji37
                              go_wp2_with (first | ((with_reducible refine gate_store (t := 39) (p := 76) rfl ?_); refine store_event (t := 39) (p := 76) (v := ?vo_w41) (w1 := (wr.setCell ⟨go38, ((ji32) : Int).toNat, none⟩ (.int .u64 ji37))) ?hg ?ho ?hn ?hr ?_; (case ho => rfl); (case hg => rfl); (case hn => rfl); (case hr => first | (go_simp; done) | (go_simp; rfl)); intro w41 hw; have hg : wr.grownBy w41 (some go38) := (by rw [hw]; exact HP40.2); have hp_ : Kd.R (Kd.int .u64) 39 w41 w.heap.size (fun _ => True) (.slice (some ⟨go38, 0, none⟩) x6_1.length co20) y122 := (by rw [hw, Ny122.out]; exact HP40.1); clear HP40; have n0_ := Aside0.mk (hp_); have n1_ := Aside0.mk ((by rw [hw]; exact below_set (HB.out) GB38.out : Below w.heap.size w w41)); clear HO_6; clear HB; have HO_6 := n0_; have HB := n1_; clear n0_ n1_; clear hg hw hp_) | ((with_reducible refine gate_callee (f := 46) rfl ?_); refine goesL_ (some 78) rfl rfl Try.func46 (by kernel_rfl) rfl #[.slice (some ⟨go38, 0, none⟩) x6_1.length co20] rfl (by (try simp only [List.map_toArray, List.map_cons, List.map_nil]); first | done | rfl | (simp only [List.length_drop, List.length_take]; rfl)) ?_; (with_reducible refine (nat_bound.calls k1 (fun k_ => some k_ = (.slice (some ⟨go38, 0, none⟩) x6_1.length co20 : Value).ownBlock) (.slice (some ⟨go38, 0, none⟩) x6_1.length co20) y122 t123 t126 w _ ?side1 ?side2 A39.out).mono ?_); (case side1 => repeat (first | (with_reducible first | exact HB.out | apply below_alloc | apply pw_below_drewN | apply below_drew1) | exact HB.out)); (case side2 => exact Kd.R_tight rfl HO_6.out); rintro e w42 ⟨v124, rfl, ho0, hb, hkp⟩; refine ⟨_, rfl, ?_⟩; have n0_ := Aside0.mk (Kd.R_mono (ok' := fun k_ => True) ho0 (fun k_ hk_ => trivial)); have n1_ := Aside0.mk (hb); clear HB; clear HO_6; have HO125 := n0_; have HB := n1_; clear n0_ n1_; (try clear hb); (try clear hkp); (try clear ho0)))
                              go_ret2
                              exact ⟨_, by first | rfl | (simp [errW_none, errW_some] <;> rfl) | (simp only [← hji13, ← hji32, ← hji35, ← hji37]; first | rfl | (simp [errW_none, errW_some] <;> rfl)) | (simp [*, errW_none, errW_some] <;> rfl), by (with_reducible repeat (first | apply Kd.R_alloc | apply Kd.R_drewN | apply Kd.R_drew)); exact HO125.out, by repeat (first | (with_reducible first | exact HB.out | apply below_alloc | apply pw_below_drewN | apply below_drew1) | exact HB.out)⟩
                            · rw [if_neg c36] at H
                              exact absurd H (by simp)
                          · rw [if_neg c34] at H
                            exact absurd H (by simp)
                        · rw [if_neg c33] at H
                          exact absurd H (by simp)
                · rw [if_neg c16] at H
                  have c16b0 : decide (0 < (Int.tmod a1 64)) = false := decide_eq_false c16
                  clear c16
                  replace H := Option.bind_eq_some_iff.mp H
                  obtain ⟨⟨t127, t130⟩, A430, H⟩ := H
                  replace H : (some (t127, t130)) = some (r1, r2) := H
                  have A43 := Aside0.mk A430
                  clear A430
                  simp only [Option.some.injEq, Prod.mk.injEq] at H
                  obtain ⟨rfl, rfl⟩ := H
                  go_enter Try.func23, Try.ntmps23
                  go_wp2_with (first | ((with_reducible refine gate_callee (f := 37) rfl ?_); refine goesL_ (some 11) rfl rfl Try.func37 (by kernel_rfl) rfl #[.slice A0 l0.length c0] rfl (by (try simp only [List.map_toArray, List.map_cons, List.map_nil]); first | done | rfl | (simp only [List.length_drop, List.length_take]; rfl)) ?_; (with_reducible refine (nat_size.calls k _ _ l0 t110 _ ?side1 ?side2 A3.out).mono ?_); (case side1 => repeat (first | exact HR0.out | (with_reducible refine Kd.C_alloc ?_ _) | (with_reducible refine Kd.C_drewN ?_ _) | (with_reducible refine Kd.C_drew ?_))); (case side2 => exact HC0.out); rintro e w' ⟨rfl, ⟨nd, rfl⟩⟩; refine ⟨_, rfl, ?_⟩; obtain ⟨i044, hi044, _, hsz44, _⟩ := info_parts info39; obtain ⟨hcut44, hA44, hC44⟩ := print_take_of (P := Try.prog) (Value.int .u64) 0 22 39 .i64 Try.underlying22 hi044 hsz44 A0 c0 l0 t110 (of_decide_eq_true (by first | (with_reducible assumption) | assumption)) (of_decide_eq_true (by first | (with_reducible assumption) | assumption)) HC0.out; rw [Nz110.out] at hcut44 hA44 hC44; have HR111 := Aside0.mk (Kd.C_of_reads (h1 := fun _ => rfl) (hA44 _ (Kd.reads_of_C HR0.out))); have HC111 := Aside0.mk hC44; clear hA44 hC44 hi044 hsz44) | ((with_reducible refine gate_callee (f := 11) rfl ?_); refine goesL_ (some 23) rfl rfl Try.func11 (by kernel_rfl) rfl #[.slice A0 z110.length c0] rfl (by (try simp only [List.map_toArray, List.map_cons, List.map_nil]); first | done | (rw [show z110.length = t110.toNat from (by rw [← Nz110.out, List.length_take]; have h_ : (t110 : Int) ≤ (l0.length : Int) := of_decide_eq_true (by first | (with_reducible assumption) | assumption); omega)] <;> rfl) | rfl | (simp only [List.length_drop, List.length_take]; rfl)) ?_; (with_reducible refine (nat_Bits.calls k _ _ z110 t112 _ ?side1 ?side2 A10.out).mono ?_); (case side1 => repeat (first | exact HR111.out | (with_reducible refine Kd.C_alloc ?_ _) | (with_reducible refine Kd.C_drewN ?_ _) | (with_reducible refine Kd.C_drew ?_))); (case side2 => exact HC111.out); rintro e w' ⟨rfl, ⟨nd, rfl⟩⟩; refine ⟨_, rfl, ?_⟩) | ((with_reducible refine gate_dst (N := 32) rfl ?_); refine Kd.R_make (Kd.int .u64) _ 39 rfl (N := 32) rfl 22 _ _ rfl ji13 rfl rfl Try.underlying22 (.int .u64 0) 8 info39 rfl (by decide) (by omega) 0 (ok := fun _ => True) (okp := fun _ => True) rfl (fun _ hk => hk) trivial (of_decide_eq_true (by first | (with_reducible assumption) | assumption)) (Nat.le_trans (Nat.mul_le_mul_right _ (of_decide_eq_true (by first | (with_reducible assumption) | assumption) : ji13.toNat ≤ 35184372088832)) (by omega)) (Below.refl _ _) (Nat.le_refl _) ?_; intro v114 w45 ho46 hb hg_ hnew_; clear hg_ hnew_; rw [← Nyq.out] at ho46; have n0_ := Aside0.mk (Kd.R_lower ho46 (below_size (by repeat (first | (with_reducible first | exact HB.out | apply below_alloc | apply pw_below_drewN | apply below_drew1) | exact HB.out)))); have n1_ := Aside0.mk (below_step (by repeat (first | (with_reducible first | exact HB.out | apply below_alloc | apply pw_below_drewN | apply below_drew1) | exact HB.out)) hb); clear HB; have HO115 := n0_; have HB := n1_; clear n0_ n1_; clear hb ho46; obtain ⟨Ao47, co47, eo47⟩ := Kd.R_slice HO115.out; rw [Cq.out.2.2.1] at eo47; subst eo47; obtain ⟨i0q, hi0q, _, hszq, _⟩ := info_parts info39; have hcutq := cut_from (P := Try.prog) 22 39 .i64 Try.underlying22 hi0q 1 hszq Ao47 y113.length co47 (wrap64 (Int.tdiv a1 64)) Cq.out.1 Cq.out.2.1; clear hi0q hszq; obtain ⟨Aq, hAq⟩ : ∃ A_ : Option Addr, A_ = (if co47 = (wrap64 (Int.tdiv a1 64)).toNat then Ao47 else Ao47.map (·.add ((wrap64 (Int.tdiv a1 64)).toNat * 1))) := ⟨_, rfl⟩; rw [← hAq] at hcutq; have NAq := Aside0.mk hAq; clear hAq) | ((with_reducible refine gate_dst (N := 38) rfl ?_); refine Kd.R_copy_at (enc := Value.int .u64) (h1 := fun _ => rfl) (0 : Int) w.heap.size rfl (.tmp 36) (.tmp 37) 22 22 39 rfl Try.underlying22 (by kernel_rfl) Ao47 co47 (wrap64 (Int.tdiv a1 64)).toNat y113.length yq z110 Cq.out.2.2.1 A0 z110.length c0 (fun _ => True) Aq NAq.out rfl rfl (by have := Cq.out.2.1; have := Cq.out.1; omega) HO115.out ?hcr HB.out HB.out.size ?_; (case hcr => exact Kd.C_below HR111.out HB.out); intro wq hoq hbq _; rw [shl_copied Cq.out.2.2.1 Cq.out.2.2.2] at hoq; clear HO115; have HO115 := Aside0.mk hoq; clear HB; have HB := Aside0.mk hbq; clear hoq hbq hcutq) | ((with_reducible refine gate_callee (f := 46) rfl ?_); refine goesL_ (some 78) rfl rfl Try.func46 (by kernel_rfl) rfl #[.slice Ao47 y113.length co47] rfl (by (try simp only [List.map_toArray, List.map_cons, List.map_nil]); first | done | rfl | (simp only [List.length_drop, List.length_take]; rfl)) ?_; (with_reducible refine (nat_bound.calls k (fun k_ => some k_ = (.slice Ao47 y113.length co47 : Value).ownBlock) (.slice Ao47 y113.length co47) y113 t127 t130 w _ ?side1 ?side2 A43.out).mono ?_); (case side1 => repeat (first | (with_reducible first | exact HB.out | apply below_alloc | apply pw_below_drewN | apply below_drew1) | exact HB.out)); (case side2 => exact Kd.R_tight rfl HO115.out); rintro e w48 ⟨v128, rfl, ho0, hb, hkp⟩; refine ⟨_, rfl, ?_⟩; have n0_ := Aside0.mk (Kd.R_mono (ok' := fun k_ => True) ho0 (fun k_ hk_ => trivial)); have n1_ := Aside0.mk (hb); clear HB; clear HO115; have HO129 := n0_; have HB := n1_; clear n0_ n1_; (try clear hb); (try clear hkp); (try clear ho0)))
                  go_ret2
                  exact ⟨_, by first | rfl | (simp [errW_none, errW_some] <;> rfl) | (simp only [← hji13]; first | rfl | (simp [errW_none, errW_some] <;> rfl)) | (simp [*, errW_none, errW_some] <;> rfl), by (with_reducible repeat (first | apply Kd.R_alloc | apply Kd.R_drewN | apply Kd.R_drew)); exact HO129.out, by repeat (first | (with_reducible first | exact HB.out | apply below_alloc | apply pw_below_drewN | apply below_drew1) | exact HB.out)⟩
              · rw [if_neg c15] at H
                exact absurd H (by simp)
            · rw [if_neg c14] at H
              exact absurd H (by simp)
    · rw [if_neg c5] at H
      exact absurd H (by simp)
  · rw [if_neg c4] at H
    exact absurd H (by simp)

end Go.Proofs.Ytpnffhacmamilaa.PA
