/- A part of the proof (9). -/
import Derived.Test.YtoefabmlkbhmpaaDoorYKCVKC2
import Derived.Test.YtoefabmlkbhmpaaDoorYKCVKC3
import Derived.Test.YtoefabmlkbhmpaaDoorYKCVKC8
import Derived.Test.YtoefabmlkbhmpaaDoorYKCVKC7
namespace Go.Proofs.YtoefabmlkbhmpaaDoor.PA
open Go.RowKit Go.Proofs.YtoefabmlkbhmpaaDoorW.PrintWords Go.Proofs.YtoefabmlkbhmpaaDoorW.PrintLast Go.Proofs.YtoefabmlkbhmpaaDoorW.PrintMore
attribute [local go_sem] max2_int min2_int max_two min_two max_three min_three max_four min_four
set_option linter.unusedVariables false
set_option linter.unusedSimpArgs false
def cpyAt (xs ys : List Int) (q : Nat) : List Int := xs.take q ++ (ys.take (min ys.length (xs.length - q)) ++ xs.drop (q + min ys.length (xs.length - q)))
theorem cpyAt_length {xs ys : List Int} {q : Nat} (h : q ≤ xs.length) : (cpyAt xs ys q).length = xs.length := by
 unfold cpyAt
 rw [List.length_append, List.length_append, List.length_take, List.length_take, List.length_drop]
 omega
theorem shl_copied {yq y z : List Int} {q : Nat} (hl : yq.length = y.length) (h : y = cpyAt yq z q) :
  yq.take q ++ (z.take (min z.length (y.length - q)) ++ yq.drop (q + min z.length (y.length - q))) = y := by
 rw [← hl]
 conv => rhs; rw [h]
 rfl
def nat_Shl.l0 : Nat → Int → List Int → Int → Int → Option (List Int × Int)
 | 0, _, _, _, _ => none
 | k + 1, x1, x6, x7, x8 => if x8 > (wrap64 (Int.tdiv x1 64)) then (if 0 ≤ x8 then (if x8 < (x6.length : Int) then (if 0 ≤ (wrap64 (x8 - 1)) then (if (wrap64 (x8 - 1)) < (x6.length : Int) then ((wide_Shl.f (rd x6 x8) (rd x6 (wrap64 (x8 - 1))) x7).bind fun bt118 => (nat_Shl.l0 k x1 (x6.set (x8 : Int).toNat bt118.1) x7 (wrap64 (x8 - 1)))) else (none)) else (none)) else (none)) else (none)) else (if 0 ≤ (wrap64 (Int.tdiv x1 64)) then (if (wrap64 (Int.tdiv x1 64)) < (x6.length : Int) then (if 0 ≤ x7 then ((nat_bound.f k (x6.set ((wrap64 (Int.tdiv x1 64)) : Int).toNat (shl .u64 (rd x6 (wrap64 (Int.tdiv x1 64))) x7))).bind fun bt123 => (some (bt123.1, bt123.2))) else (none)) else (none)) else (none))
def nat_Shl.f (k : Nat) (l0 : List Int) (a1 : Int) : Option (List Int × Int) := (nat_size.f k l0).bind fun t110 => (if 0 ≤ t110 then (if t110 ≤ (l0.length : Int) then (if a1 < 0 then (some (([] : List Int), 22)) else (if ((l0.take (t110 : Int).toNat).length : Int) = 0 then (some (([] : List Int), 0)) else ((nat_Bits.f k (l0.take (t110 : Int).toNat)).bind fun t112 => (if a1 > (wrap64 (262144 - t112)) then (some (([] : List Int), 21)) else (if 0 ≤ (wrap64 ((wrap64 ((wrap64 (Int.tdiv a1 64)) + ((l0.take (t110 : Int).toNat).length : Int))) + 1)) then (if ((wrap64 ((wrap64 ((wrap64 (Int.tdiv a1 64)) + ((l0.take (t110 : Int).toNat).length : Int))) + 1) : Int).toNat ≤ 35184372088832 ∧ 0 ≤ (wrap64 (Int.tdiv a1 64)) ∧ (wrap64 (Int.tdiv a1 64)).toNat ≤ (wrap64 ((wrap64 ((wrap64 (Int.tdiv a1 64)) + ((l0.take (t110 : Int).toNat).length : Int))) + 1) : Int).toNat) then ((some (cpyAt (List.replicate (wrap64 ((wrap64 ((wrap64 (Int.tdiv a1 64)) + ((l0.take (t110 : Int).toNat).length : Int))) + 1) : Int).toNat 0) (l0.take (t110 : Int).toNat) (wrap64 (Int.tdiv a1 64)).toNat : List Int)).bind fun y113 => (if (Int.tmod a1 64) > 0 then (nat_Shl.l0 k a1 y113 (Int.tmod a1 64) (wrap64 ((y113.length : Int) - 1))) else ((nat_bound.f k y113).bind fun bt127 => (some (bt127.1, bt127.2))))) else (none)) else (none)))))) else (none)) else (none))
def nat_Shl.T15 : Bool × List (List Nat × List Nat) := (true, [([], []), ([], []), ([], []), ([], []), ([2, 3], [2, 3]), ([4], [4]), ([], []), ([], []), ([7], [7]), ([6, 8], [6, 8]), ([9], [9]), ([], []), ([5, 10, 11], [5, 10, 11]), ([12], [12]), ([13], [13]), ([13], [13]), ([0, 1, 0, 1, 2, 3, 4, 5, 6, 7, 8, 9, 10, 11, 12, 13, 14], [0, 1]), ([16, 14, 12, 0, 1, 2, 3, 4, 5, 6, 7, 8, 9, 10, 11, 12, 13, 14], [14, 16])])
def nat_Shl.B15 : List Nat := [0, 0, 0, 0, 12, 28, 0, 0, 128, 448, 960, 0, 4092, 8188, 16380, 16380, 32767, 98303]
theorem nat_Shl.tab15 : rtab .any (opsOf Tryd.f21 15) = nat_Shl.T15 := by kernel_rfl
theorem nat_Shl.bits15 : waitsOk nat_Shl.T15.2 nat_Shl.B15 = true := by kernel_rfl
set_option maxHeartbeats 8000000 in
set_option maxRecDepth 100000 in
theorem nat_Shl.calls (k : Nat) (A0 : Option Addr) (c0 : Nat) (l0 : List Int) (a1 : Int) (r1 : List Int) (r2 : Int) (w : World) (hr0 : Kd.C (Kd.int .u64) w A0 l0.length l0) (hc0 : l0.length ≤ c0) (h : nat_Shl.f k l0 a1 = some (r1, r2)) :
  Calls Tryd.prog 21 #[.slice A0 l0.length c0, .int .i64 a1] w fun e w' => ∃ v0_ : Value, e = .returned (.tuple #[v0_, .int .i64 r2]) ∧ Kd.R (Kd.int .u64) 26 w' w.heap.size (fun _ => True) v0_ r1 ∧ Below w.heap.size w w' := by
 have HR0 := aM hr0
 have HC0 := aM hc0
 clear hr0 hc0
 have HB := aM (Below.refl w.heap.size w)
 have H := h
 clear h
 unfold nat_Shl.f at H
 replace H := obe H
 obtain ⟨t110, A30, H⟩ := H
 (try dsimp only at H)
 have A3 := aM A30
 clear A30
 by_cases c4 : (0 : Int) ≤ t110
 ·rw [if_pos c4] at H
  have c4b0 := eq_true c4
  have c4b1 : decide (0 ≤ t110) = true := decide_eq_true c4
  clear c4
  by_cases c5 : t110 ≤ (l0.length : Int)
  ·rw [if_pos c5] at H
   have c5b0 := eq_true c5
   have c5b1 : decide (t110 ≤ (l0.length : Int)) = true := decide_eq_true c5
   clear c5
   obtain ⟨z110, Nz1100⟩ : ∃ z_ : List Int, (l0.take (t110 : Int).toNat) = z_ := ⟨_, rfl⟩
   rw [Nz1100] at H
   have Nz110 := aM Nz1100
   clear Nz1100
   by_cases c6 : a1 < 0
   ·rw [if_pos c6] at H
    have c6b0 : decide (a1 < 0) = true := decide_eq_true c6
    clear c6
    simp only [Option.some.injEq, Prod.mk.injEq] at H
    obtain ⟨rfl, rfl⟩ := H
    go_enter Tryd.func21, Tryd.ntmps21
    go_wp2_with (first | ((with_reducible refine gate_callee (f := 54) rfl ?_); refine gL (some 11) Tryd.func54 #[.slice A0 l0.length c0] ?_; (with_reducible refine (nat_size.calls k _ _ l0 t110 _ ?side1 HC0.out A3.out).mono ?_); (case side1 => exact dC HR0.out); rintro e w' ⟨rfl, ⟨nd, rfl⟩⟩; refine ⟨_, rfl, ?_⟩; obtain ⟨i07, hi07, _, hsz7, _⟩ := info_parts info26; obtain ⟨hcut7, hA7, hC7⟩ := print_take_of (P := Tryd.prog) (Value.int .u64) 0 22 26 .i64 Tryd.underlying22 hi07 hsz7 A0 c0 l0 t110 (of_decide_eq_true dS) (of_decide_eq_true dS) HC0.out; rw [Nz110.out] at hcut7 hA7 hC7; have HR111 := aM (Kd.C_of_reads (h1 := fun _ => rfl) (hA7 _ (Kd.reads_of_C HR0.out))); have HC111 := aM hC7; clear hA7 hC7 hi07 hsz7))
    go_ret2
    exact ⟨_, dE, by first | exact Kd.R_nil _ _ _ _ _ | exact Kd.N_nil _ _ _ _ _ | exact Kd.V_nil _ _ _ _ _ | exact Kd.Q_nil _ _ _ _ _ | exact Kd.S_nil _ _ _ _ _, dB⟩
   ·rw [if_neg c6] at H
    have c6b0 : decide (a1 < 0) = false := decide_eq_false c6
    clear c6
    by_cases c8 : (z110.length : Int) = 0
    ·rw [if_pos c8] at H
     have c8b0 : ((z110.length : Int) == 0) = true := beq_iff_eq.mpr c8
     have c8b1 : ((z110.length : Int) != 0) = false := bne_eq_false_iff_eq.mpr c8
     clear c8
     simp only [Option.some.injEq, Prod.mk.injEq] at H
     obtain ⟨rfl, rfl⟩ := H
     go_enter Tryd.func21, Tryd.ntmps21
     go_wp2_with (first | ((with_reducible refine gate_callee (f := 54) rfl ?_); refine gL (some 11) Tryd.func54 #[.slice A0 l0.length c0] ?_; (with_reducible refine (nat_size.calls k _ _ l0 t110 _ ?side1 HC0.out A3.out).mono ?_); (case side1 => exact dC HR0.out); rintro e w' ⟨rfl, ⟨nd, rfl⟩⟩; refine ⟨_, rfl, ?_⟩; obtain ⟨i09, hi09, _, hsz9, _⟩ := info_parts info26; obtain ⟨hcut9, hA9, hC9⟩ := print_take_of (P := Tryd.prog) (Value.int .u64) 0 22 26 .i64 Tryd.underlying22 hi09 hsz9 A0 c0 l0 t110 (of_decide_eq_true dS) (of_decide_eq_true dS) HC0.out; rw [Nz110.out] at hcut9 hA9 hC9; have HR111 := aM (Kd.C_of_reads (h1 := fun _ => rfl) (hA9 _ (Kd.reads_of_C HR0.out))); have HC111 := aM hC9; clear hA9 hC9 hi09 hsz9))
     go_ret2
     exact ⟨_, dE, by first | exact Kd.R_nil _ _ _ _ _ | exact Kd.N_nil _ _ _ _ _ | exact Kd.V_nil _ _ _ _ _ | exact Kd.Q_nil _ _ _ _ _ | exact Kd.S_nil _ _ _ _ _, dB⟩
    ·rw [if_neg c8] at H
     have c8b0 : ((z110.length : Int) == 0) = false := beq_eq_false_iff_ne.mpr c8
     have c8b1 : ((z110.length : Int) != 0) = true := bne_iff_ne.mpr c8
     have c8b2 : ¬ (z110 = []) := fun h_ => c8 (by rw [h_]; rfl)
     replace H := obe H
     obtain ⟨t112, A100, H⟩ := H
     (try dsimp only at H)
     have A10 := aM A100
     clear A100
     by_cases c11 : a1 > (wrap64 (262144 - t112))
     ·rw [if_pos c11] at H
      have c11b0 : decide ((wrap64 (262144 - t112)) < a1) = true := decide_eq_true c11
      clear c11
      simp only [Option.some.injEq, Prod.mk.injEq] at H
      obtain ⟨rfl, rfl⟩ := H
      go_enter Tryd.func21, Tryd.ntmps21
      go_wp2_with (first | ((with_reducible refine gate_callee (f := 54) rfl ?_); refine gL (some 11) Tryd.func54 #[.slice A0 l0.length c0] ?_; (with_reducible refine (nat_size.calls k _ _ l0 t110 _ ?side1 HC0.out A3.out).mono ?_); (case side1 => exact dC HR0.out); rintro e w' ⟨rfl, ⟨nd, rfl⟩⟩; refine ⟨_, rfl, ?_⟩; obtain ⟨i012, hi012, _, hsz12, _⟩ := info_parts info26; obtain ⟨hcut12, hA12, hC12⟩ := print_take_of (P := Tryd.prog) (Value.int .u64) 0 22 26 .i64 Tryd.underlying22 hi012 hsz12 A0 c0 l0 t110 (of_decide_eq_true dS) (of_decide_eq_true dS) HC0.out; rw [Nz110.out] at hcut12 hA12 hC12; have HR111 := aM (Kd.C_of_reads (h1 := fun _ => rfl) (hA12 _ (Kd.reads_of_C HR0.out))); have HC111 := aM hC12; clear hA12 hC12 hi012 hsz12) | ((with_reducible refine gate_callee (f := 43) rfl ?_); refine goesL_ (some 23) rfl rfl Tryd.func43 (by kernel_rfl) rfl #[.slice A0 z110.length c0] rfl (by (try simp only [List.map_toArray, List.map_cons, List.map_nil]); first | done | (rw [show z110.length = t110.toNat from (by rw [← Nz110.out, List.length_take]; have h_ : (t110 : Int) ≤ (l0.length : Int) := of_decide_eq_true dS; omega)] <;> rfl) | rfl | (simp only [List.length_drop, List.length_take]; rfl)) ?_; (with_reducible refine (nat_Bits.calls k _ _ z110 t112 _ ?side1 HC111.out A10.out).mono ?_); (case side1 => exact dC HR111.out); rintro e w' ⟨rfl, ⟨nd, rfl⟩⟩; refine ⟨_, rfl, ?_⟩))
      go_ret2
      exact ⟨_, dE, by first | exact Kd.R_nil _ _ _ _ _ | exact Kd.N_nil _ _ _ _ _ | exact Kd.V_nil _ _ _ _ _ | exact Kd.Q_nil _ _ _ _ _ | exact Kd.S_nil _ _ _ _ _, dB⟩
     ·rw [if_neg c11] at H
      have c11b0 : decide ((wrap64 (262144 - t112)) < a1) = false := decide_eq_false c11
      clear c11
      obtain ⟨ji13, hji13⟩ : ∃ j_ : Int, (wrap64 ((wrap64 ((wrap64 (Int.tdiv a1 64)) + (z110.length : Int))) + 1)) = j_ := ⟨_, rfl⟩
      first | rw [hji13] at H | simp only [hji13] at H
      (try rw [hji13] at A3)
      (try rw [hji13] at A10)
      have hji13w : (IntKind.i64.wrap ((wrap64 ((wrap64 (Int.tdiv a1 64)) + (z110.length : Int))) + 1)) = ji13 := (i64_w _).trans hji13
      by_cases c14 : (0 : Int) ≤ (ji13)
      ·rw [if_pos c14] at H
       have c14b0 := eq_true c14
       have c14b1 : decide (0 ≤ (ji13)) = true := decide_eq_true c14
       clear c14
       by_cases c15 : ((ji13 : Int).toNat ≤ 35184372088832 ∧ 0 ≤ (wrap64 (Int.tdiv a1 64)) ∧ (wrap64 (Int.tdiv a1 64)).toNat ≤ (ji13 : Int).toNat)
       ·rw [if_pos c15] at H
        obtain ⟨c15, cq0, cq1⟩ := c15
        have c15b0 := eq_true c15
        have c15b1 : decide ((ji13 : Int).toNat ≤ 35184372088832) = true := decide_eq_true c15
        clear c15
        obtain ⟨yq, hyq⟩ : ∃ y_ : List Int, y_ = (List.replicate (ji13 : Int).toNat 0) := ⟨_, rfl⟩
        have ylq : yq.length = (ji13 : Int).toNat := by rw [hyq, List.length_replicate]
        rw [← hyq] at H
        have Nyq := aM hyq
        clear hyq
        obtain ⟨y113, hy113⟩ : ∃ y_ : List Int, y_ = (cpyAt yq z110 (wrap64 (Int.tdiv a1 64)).toNat) := ⟨_, rfl⟩
        have yl113 : yq.length = y113.length := by rw [hy113, cpyAt_length (by omega)]
        have cq2 : (wrap64 (Int.tdiv a1 64)) ≤ (y113.length : Int) := by omega
        have Cq := aM (And.intro cq0 (And.intro cq2 (And.intro yl113 hy113)))
        clear cq0 cq1 cq2 ylq yl113
        replace H : (if (Int.tmod a1 64) > 0 then (nat_Shl.l0 k a1 y113 (Int.tmod a1 64) (wrap64 ((y113.length : Int) - 1))) else ((nat_bound.f k y113).bind fun bt127 => (some (bt127.1, bt127.2)))) = some (r1, r2) := by first | (rw [hy113]; with_reducible exact H) | (have H2_ := (Option.bind_some _ _).symm.trans H; rw [hy113]; with_reducible exact H2_) | (have H2_ := (Option.bind_some _ _).symm.trans H; with_reducible exact H2_) | with_reducible exact H | (rw [hy113]; exact H) | exact H
        have Ny113 := aM hy113
        clear hy113
        by_cases c16 : (Int.tmod a1 64) > 0
        ·rw [if_pos c16] at H
         have c16b0 : decide (0 < (Int.tmod a1 64)) = true := decide_eq_true c16
         clear c16
         have H' := aM H
         clear H
         go_enter Tryd.func21, Tryd.ntmps21
         go_wp2_with (first | ((with_reducible refine gate_callee (f := 54) rfl ?_); refine gL (some 11) Tryd.func54 #[.slice A0 l0.length c0] ?_; (with_reducible refine (nat_size.calls k _ _ l0 t110 _ ?side1 HC0.out A3.out).mono ?_); (case side1 => exact dC HR0.out); rintro e w' ⟨rfl, ⟨nd, rfl⟩⟩; refine ⟨_, rfl, ?_⟩; obtain ⟨i017, hi017, _, hsz17, _⟩ := info_parts info26; obtain ⟨hcut17, hA17, hC17⟩ := print_take_of (P := Tryd.prog) (Value.int .u64) 0 22 26 .i64 Tryd.underlying22 hi017 hsz17 A0 c0 l0 t110 (of_decide_eq_true dS) (of_decide_eq_true dS) HC0.out; rw [Nz110.out] at hcut17 hA17 hC17; have HR111 := aM (Kd.C_of_reads (h1 := fun _ => rfl) (hA17 _ (Kd.reads_of_C HR0.out))); have HC111 := aM hC17; clear hA17 hC17 hi017 hsz17) | ((with_reducible refine gate_callee (f := 43) rfl ?_); refine goesL_ (some 23) rfl rfl Tryd.func43 (by kernel_rfl) rfl #[.slice A0 z110.length c0] rfl (by (try simp only [List.map_toArray, List.map_cons, List.map_nil]); first | done | (rw [show z110.length = t110.toNat from (by rw [← Nz110.out, List.length_take]; have h_ : (t110 : Int) ≤ (l0.length : Int) := of_decide_eq_true dS; omega)] <;> rfl) | rfl | (simp only [List.length_drop, List.length_take]; rfl)) ?_; (with_reducible refine (nat_Bits.calls k _ _ z110 t112 _ ?side1 HC111.out A10.out).mono ?_); (case side1 => exact dC HR111.out); rintro e w' ⟨rfl, ⟨nd, rfl⟩⟩; refine ⟨_, rfl, ?_⟩) | ((with_reducible refine gate_dst (N := 32) rfl ?_); refine Kd.R_make (Kd.int .u64) _ 26 rfl (N := 32) rfl 22 _ _ rfl ji13 rfl rfl Tryd.underlying22 (.int .u64 0) 8 info26 rfl (by decide) (by omega) 0 (ok := fun _ => True) (okp := fun _ => True) rfl (fun _ hk => hk) trivial (of_decide_eq_true dS) (Nat.le_trans (Nat.mul_le_mul_right _ (of_decide_eq_true dS : ji13.toNat ≤ 35184372088832)) (by omega)) (Below.refl _ _) (Nat.le_refl _) ?_; intro v114 w18 ho19 hb hg_ hnew_; clear hg_ hnew_; rw [← Nyq.out] at ho19; have HO115 := aM (Kd.R_lower ho19 (below_size dB)); replace HB := hS HB.out hb; clear hb ho19; obtain ⟨Ao20, co20, eo20⟩ := Kd.R_slice HO115.out; rw [Cq.out.2.2.1] at eo20; subst eo20; obtain ⟨i0q, hi0q, _, hszq, _⟩ := info_parts info26; have hcutq := cut_from (P := Tryd.prog) 22 26 .i64 Tryd.underlying22 hi0q 1 hszq Ao20 y113.length co20 (wrap64 (Int.tdiv a1 64)) Cq.out.1 Cq.out.2.1; clear hi0q hszq; obtain ⟨Aq, hAq⟩ : ∃ A_ : Option Addr, A_ = (if co20 = (wrap64 (Int.tdiv a1 64)).toNat then Ao20 else Ao20.map (·.add ((wrap64 (Int.tdiv a1 64)).toNat * 1))) := ⟨_, rfl⟩; rw [← hAq] at hcutq; have NAq := aM hAq; clear hAq) | ((with_reducible refine gate_dst (N := 38) rfl ?_); refine Kd.R_copy_at (enc := Value.int .u64) (h1 := fun _ => rfl) (0 : Int) w.heap.size rfl (.tmp 36) (.tmp 37) 22 22 26 rfl Tryd.underlying22 (by kernel_rfl) Ao20 co20 (wrap64 (Int.tdiv a1 64)).toNat y113.length yq z110 Cq.out.2.2.1 A0 z110.length c0 (fun _ => True) Aq NAq.out rfl rfl (by have := Cq.out.2.1; have := Cq.out.1; omega) HO115.out ?hcr HB.out HB.out.size ?_; (case hcr => exact Kd.C_below HR111.out HB.out); intro wq hoq hbq _; rw [shl_copied Cq.out.2.2.1 Cq.out.2.2.2] at hoq; clear HO115; have HO115 := aM hoq; clear HB; have HB := aM hbq; clear hoq hbq hcutq))
         go_loopg [8] k (fun kq v8 w' => ∃ (x6_1 : List Int) (x8_1 : Int), v8 = .int .i64 x8_1 ∧ Aside0 (nat_Shl.l0 kq a1 x6_1 (Int.tmod a1 64) x8_1 = some (r1, r2)) ∧ Aside0 (kq ≤ k) ∧ Aside0 (Kd.R (Kd.int .u64) 26 w' w.heap.size (fun _ => True) (.slice Ao20 y113.length co20) x6_1) ∧ Aside0 (Below w.heap.size w w'))
         case atStart => exact ⟨(y113), (wrap64 ((y113.length : Int) - 1)), dF, H', ⟨Nat.le_refl _⟩, ⟨dR HO115.out⟩, ⟨dB⟩⟩
         case round =>
          clear H'
          try clear c4
          try clear c4b0
          try clear c4b1
          try clear c5
          try clear c5b0
          try clear c5b1
          try clear c6
          try clear c6b0
          try clear c8
          try clear c8b0
          try clear c8b1
          try clear c8b2
          try clear c11
          try clear c11b0
          try clear c14
          try clear c14b0
          try clear c14b1
          try clear c15
          try clear Cq
          try clear Nyq
          try clear Ny113
          try clear c15b0
          try clear c15b1
          try clear c16
          try clear c16b0
          obtain ⟨x6_1, x8_1, rfl, HA, HK1, HO_6, HB⟩ := hrel
          have hl6_1 := (Kd.R_reads' HO_6.out).1
          rw [hl6_1] at HO_6
          (try simp only [hl6_1])
          cases gk with
          | zero => exact absurd HA.out (by simp [nat_Shl.l0])
          | succ k1 =>
           have H := HA.out
           clear HA
           simp only [nat_Shl.l0] at H
           by_cases c21 : x8_1 > (wrap64 (Int.tdiv a1 64))
           ·rw [if_pos c21] at H
            have c21b0 : decide ((wrap64 (Int.tdiv a1 64)) < x8_1) = true := decide_eq_true c21
            clear c21
            by_cases c22 : (0 : Int) ≤ x8_1
            ·rw [if_pos c22] at H
             have c22b0 : decide (0 ≤ x8_1) = true := decide_eq_true c22
             clear c22
             by_cases c23 : x8_1 < (x6_1.length : Int)
             ·rw [if_pos c23] at H
              have c23b0 : decide (x8_1 < (x6_1.length : Int)) = true := decide_eq_true c23
              clear c23
              obtain ⟨ji24, hji24⟩ : ∃ j_ : Int, (wrap64 (x8_1 - 1)) = j_ := ⟨_, rfl⟩
              first | rw [hji24] at H | simp only [hji24] at H
              have hji24w : (IntKind.i64.wrap (x8_1 - 1)) = ji24 := (i64_w _).trans hji24
              by_cases c25 : (0 : Int) ≤ (ji24)
              ·rw [if_pos c25] at H
               have c25b0 : decide (0 ≤ (ji24)) = true := decide_eq_true c25
               clear c25
               by_cases c26 : (ji24) < (x6_1.length : Int)
               ·rw [if_pos c26] at H
                have c26b0 : decide ((ji24) < (x6_1.length : Int)) = true := decide_eq_true c26
                clear c26
                replace H := obe H
                obtain ⟨⟨t118, t119⟩, A270, H⟩ := H
                (try dsimp only at H)
                have A27 := aM A270
                clear A270
                obtain ⟨y120, hy120⟩ : ∃ y_ : List Int, y_ = (x6_1.set (x8_1 : Int).toNat t118) := ⟨_, rfl⟩
                replace H : (nat_Shl.l0 k1 a1 y120 (Int.tmod a1 64) ji24) = some (r1, r2) := by first | (rw [hy120]; with_reducible exact H) | (have H2_ := (Option.bind_some _ _).symm.trans H; rw [hy120]; with_reducible exact H2_) | (have H2_ := (Option.bind_some _ _).symm.trans H; with_reducible exact H2_) | with_reducible exact H | (rw [hy120]; exact H) | exact H
                have Ny120 := aM hy120
                clear hy120
                have H' := aM H
                clear H
                try go_wp2
                replace HO_6 := aM (Kd.R_drew HO_6.out)
                replace HB := aM (below_drew1 HB.out)
                have p116 : 0 ≤ (x8_1 : Int) := of_decide_eq_true dS
                have q116 : x8_1 < (x6_1.length : Int) := of_decide_eq_true dS
                obtain ⟨ad116, e116, hx116_0⟩ := Kd.at_int (Kd.R_reads' HO_6.out).2.2 x8_1 p116 q116
                cases e116
                replace p116 := eq_true p116
                replace q116 := eq_true q116
                have p117 : 0 ≤ ((ji24) : Int) := of_decide_eq_true dS
                have q117 : (ji24) < (x6_1.length : Int) := of_decide_eq_true dS
                obtain ⟨ad117, e117, hx117_0⟩ := Kd.at_int (Kd.R_reads' HO_6.out).2.2 (ji24) p117 q117
                obtain rfl : ad116 = ad117 := (by injection e117)
                replace p117 := eq_true p117
                replace q117 := eq_true q117
                refine start_ (n := 18) (S := fun w' => w'.cell? (ad116.add (x8_1).toNat) = some (.int .u64 (rd x6_1 x8_1)) ∧ w'.cell? (ad116.add ((ji24)).toNat) = some (.int .u64 (rd x6_1 (ji24)))) (ds := [17]) #[false, false, false, false, false, false, false, false, false, false, false, false, false, false, false, false, false, false] (by kernel_rfl) rfl rfl ⟨hx116_0, hx117_0⟩ (fun hHeld => ?_); refine with_tabW nat_Shl.tab15 nat_Shl.bits15 (fun HT_ HW_ => ?_)
                generalize wr.drew = w29 at HO_6 HB hx116_0 hx117_0 hHeld ⊢
                refine pP 0 (some 53) ?_
                refine pP 1 (some 54) ?_
                refine pP 2 (some 55) ?_
                refine pP 3 (some 56) ?_
                refine pP 4 (some 57) ?_
                refine pP 6 (some 59) ?_
                refine pP 7 (some 60) ?_
                refine pP 8 (some 61) ?_
                refine pP 9 (some 62) ?_
                refine pP 11 (some 64) ?_
                refine pH2 5 (some 58) hHeld ?_
                refine pH2 10 (some 63) hHeld ?_
                refine one_ (i := 12) (N := some 65) #[true, true, true, true, true, true, true, true, true, true, true, true, true, false, false, false, false, false] rfl rfl (one_of HT_.out (by kernel_rfl)) (by decide) (fun K hK => ?_)
                refine goes_ Tryd.func55 (by kernel_rfl) rfl #[.int .u64 (rd x6_1 x8_1), .int .u64 (rd x6_1 (ji24)), .int .i64 (Int.tmod a1 64)] (by rfl) rfl rfl (by (try simp only [List.map_toArray, List.map_cons, List.map_nil]); first | done | (simp only [hji24]; rfl) | rfl | (simp only [List.length_drop, List.length_take]; rfl)) ?_
                with_reducible refine (wide_Shl.calls (rd x6_1 x8_1) (rd x6_1 (ji24)) (Int.tmod a1 64) t118 t119 _ A27.out).mono ?_
                rintro e w30 ⟨rfl, hb⟩
                have HS0_ := (hb.cell (World.block_lt_of_cell? _ _ (hHeld.1))).trans (hHeld.1)
                have HS1_ := (hb.cell (World.block_lt_of_cell? _ _ (hHeld.2))).trans (hHeld.2)
                refine ⟨_, rfl, ?_⟩
                replace HO_6 := oB HO_6.out hb
                replace HB := hS HB.out hb
                (try clear hb)
                (try clear hb2)
                (try clear hk)
                (try clear hi)
                have p28 : 0 ≤ (x8_1 : Int) := of_decide_eq_true dS
                have q28 : (x8_1 : Int) < ((x6_1.length : Int) : Int) := of_decide_eq_true dS
                obtain ⟨go28, co28, eo28, gb28, gl28, cl28, HG28⟩ := Kd.R_form HO_6.out (by omega)
                (first | cases eo28 | (injection eo28 with ea_ en_ ec_; (first | subst ea_ | (injection ea_ with ea_; subst ea_)); subst ec_; clear en_))
                have GB28 := aM gb28
                have GG28 := aM HG28
                clear gb28 gl28 HG28
                (first | simp only [add_plain] at hx116_0 | skip)
                (first | simp only [add_plain] at hx117_0 | skip)
                obtain ⟨hx28_0, hf28_0⟩ := Kd.R_celln 0 HO_6.out (x8_1 : Int) p28 q28
                replace p28 := eq_true p28
                replace q28 := eq_true q28
                have HP31 := Kd.R_putn HO_6.out (x8_1 : Int) t118
                rw [← Ny120.out] at HP31
                have HQ31 := aM HP31
                clear HP31
                refine hK.out _ _ ⟨HS0_, HS1_⟩ (fun hHeld => ?_)
                clear hK K
                refine norm_ (a' := ?_) ?_ ?_
                rotate_left
                ·show Act.put _ (some 65) _ = _
                 simp only [Act.put, List.setIfInBounds_toArray, List.set_cons_zero, List.set_cons_succ, i64_w, i32_w]
                 rfl
                refine pP 13 (some 52) ?_
                refine pP 14 (some 66) ?_
                refine pP 15 (some 67) ?_
                refine pP 16 (some 68) ?_
                refine last_ (i := 17) (N := none) #[true, true, true, true, true, true, true, true, true, true, true, true, true, true, true, true, true, true] rfl rfl (one_of HT_.out (by kernel_rfl)) (by decide) (fun K hK => ?_)
                refine skip_ (w1 := ?_) (by rfl) rfl ?_ ?_
                rotate_left
                ·go_simp
                 rfl
                refine hK.out _ _ ?_
                clear hK K
                refine done_ (done_of HT_.out (by kernel_rfl)) ?_
                try go_wp2
                (try simp only [← hl6_1])
                go_roundg k1
                case measure => have := HK1.out; omega
                case rel => exact ⟨(y120), (ji24), (by first | rfl | (simp; done) | (simp only [← hji24] <;> (first | rfl | simp)) | (simp [*]; done)), H', ⟨by have := HK1.out; omega⟩, ⟨by (try simp only [hl6_1]); (with_reducible repeat (first | apply Kd.R_alloc | apply Kd.R_drewN | apply Kd.R_drew)); exact HQ31.out⟩, ⟨by repeat (first | (with_reducible first | exact HB.out | apply below_alloc | apply pw_below_drewN | apply below_drew1 | refine below_set ?_ GB28.out) | exact HB.out)⟩⟩
               ·rw [if_neg c26] at H
                exact absurd H (by simp)
              ·rw [if_neg c25] at H
               exact absurd H (by simp)
             ·rw [if_neg c23] at H
              exact absurd H (by simp)
            ·rw [if_neg c22] at H
             exact absurd H (by simp)
           ·rw [if_neg c21] at H
            have c21b0 : decide ((wrap64 (Int.tdiv a1 64)) < x8_1) = false := decide_eq_false c21
            clear c21
            obtain ⟨ji32, hji32⟩ : ∃ j_ : Int, (wrap64 (Int.tdiv a1 64)) = j_ := ⟨_, rfl⟩
            first | rw [hji32] at H | simp only [hji32] at H
            (try rw [hji32] at c21b0)
            have hji32w : (IntKind.i64.wrap (Int.tdiv a1 64)) = ji32 := (i64_w _).trans hji32
            by_cases c33 : (0 : Int) ≤ (ji32)
            ·rw [if_pos c33] at H
             have c33b0 : decide (0 ≤ (ji32)) = true := decide_eq_true c33
             clear c33
             by_cases c34 : (ji32) < (x6_1.length : Int)
             ·rw [if_pos c34] at H
              have c34b0 : decide ((ji32) < (x6_1.length : Int)) = true := decide_eq_true c34
              clear c34
              obtain ⟨ji35, hji35⟩ : ∃ j_ : Int, (Int.tmod a1 64) = j_ := ⟨_, rfl⟩
              first | rw [hji35] at H | simp only [hji35] at H
              (try rw [hji35] at c16b0)
              by_cases c36 : (0 : Int) ≤ (ji35)
              ·rw [if_pos c36] at H
               have c36b0 := eq_true c36
               have c36b1 : decide (0 ≤ (ji35)) = true := decide_eq_true c36
               clear c36
               obtain ⟨ji37, hji37⟩ : ∃ j_ : Int, (shl .u64 (rd x6_1 (ji32)) (ji35)) = j_ := ⟨_, rfl⟩
               first | rw [hji37] at H | simp only [hji37] at H
               have hji37_ : (IntKind.u64.wrap ((rd x6_1 (ji32)) * 2 ^ min (ji35).toNat 64)) = ji37 := hji37
               have hji37z : (ji35) ≤ 64 → (IntKind.u64.wrap ((rd x6_1 (ji32)) * 2 ^ (ji35).toNat)) = ji37 := shl_small hji37
               obtain ⟨y122, hy122⟩ : ∃ y_ : List Int, y_ = (x6_1.set ((ji32) : Int).toNat (ji37)) := ⟨_, rfl⟩
               replace H : ((nat_bound.f k1 y122).bind fun bt123 => (some (bt123.1, bt123.2))) = some (r1, r2) := by first | (rw [hy122]; with_reducible exact H) | (have H2_ := (Option.bind_some _ _).symm.trans H; rw [hy122]; with_reducible exact H2_) | (have H2_ := (Option.bind_some _ _).symm.trans H; with_reducible exact H2_) | with_reducible exact H | (rw [hy122]; exact H) | exact H
               have Ny122 := aM hy122
               clear hy122
               replace H := obe H
               obtain ⟨⟨t123, t126⟩, A390, H⟩ := H
               (try dsimp only at H)
               have A39 := aM A390
               clear A390
               simp only [Option.some.injEq, Prod.mk.injEq] at H
               obtain ⟨rfl, rfl⟩ := H
               have p121 : 0 ≤ ((ji32) : Int) := of_decide_eq_true dS
               have q121 : (ji32) < (x6_1.length : Int) := of_decide_eq_true dS
               obtain ⟨ad121, e121, hx121_0⟩ := Kd.at_int (Kd.R_reads' HO_6.out).2.2 (ji32) p121 q121
               cases e121
               replace p121 := eq_true p121
               replace q121 := eq_true q121
               have p38 : 0 ≤ ((ji32) : Int) := of_decide_eq_true dS
               have q38 : ((ji32) : Int) < ((x6_1.length : Int) : Int) := of_decide_eq_true dS
               obtain ⟨go38, co38, eo38, gb38, gl38, cl38, HG38⟩ := Kd.R_form HO_6.out (by omega)
               (first | cases eo38 | (injection eo38 with ea_ en_ ec_; (first | subst ea_ | (injection ea_ with ea_; subst ea_)); subst ec_; clear en_))
               have GB38 := aM gb38
               have GG38 := aM HG38
               clear gb38 gl38 HG38
               (first | simp only [add_plain] at hx121_0 | skip)
               obtain ⟨hx38_0, hf38_0⟩ := Kd.R_celln 0 HO_6.out ((ji32) : Int) p38 q38
               replace p38 := eq_true p38
               replace q38 := eq_true q38
               have HP40 := Kd.R_putg HO_6.out ((ji32) : Int) ji37
               go_wp2_with (first | ((with_reducible refine gate_store (t := 26) (p := 76) rfl ?_); refine store_event (t := 26) (p := 76) (v := ?vo_w41) (w1 := (wr.setCell ⟨go38, ((ji32) : Int).toNat, none⟩ (.int .u64 ji37))) ?hg ?ho ?hn ?hr ?_; (case ho => rfl); (case hg => rfl); (case hn => rfl); (case hr => first | (go_simp; done) | (go_simp; rfl)); intro w41 hw; have hg : wr.grownBy w41 (some go38) := (by rw [hw]; exact HP40.2); have hp_ : Kd.R (Kd.int .u64) 26 w41 w.heap.size (fun _ => True) (.slice (some ⟨go38, 0, none⟩) x6_1.length co20) y122 := (by rw [hw, Ny122.out]; exact HP40.1); clear HP40; replace HO_6 := aM (hp_); replace HB := aM ((by rw [hw]; exact below_set (HB.out) GB38.out : Below w.heap.size w w41)); clear hg hw hp_) | ((with_reducible refine gate_callee (f := 56) rfl ?_); refine gL (some 78) Tryd.func56 #[.slice (some ⟨go38, 0, none⟩) x6_1.length co20] ?_; (with_reducible refine (nat_bound.calls k1 (fun k_ => some k_ = (.slice (some ⟨go38, 0, none⟩) x6_1.length co20 : Value).ownBlock) (.slice (some ⟨go38, 0, none⟩) x6_1.length co20) y122 t123 t126 w _ ?side1 ?side2 A39.out).mono ?_); (case side1 => repeat (first | (with_reducible first | exact HB.out | apply below_alloc | apply pw_below_drewN | apply below_drew1) | exact HB.out)); (case side2 => exact Kd.R_tight rfl HO_6.out); rintro e w42 ⟨v124, rfl, ho0, hb, hkp⟩; refine ⟨_, rfl, ?_⟩; have HO125 := aM (Kd.R_mono (ok' := fun k_ => True) ho0 (fun k_ hk_ => trivial)); replace HB := aM (hb); clear HO_6; (try clear hb); (try clear hkp); (try clear ho0)))
               go_ret2
               exact ⟨_, by first | rfl | (simp [errW_none, errW_some] <;> rfl) | (simp only [← hji13, ← hji32, ← hji35, ← hji37]; first | rfl | (simp [errW_none, errW_some] <;> rfl)) | (simp [*, errW_none, errW_some] <;> rfl), dR HO125.out, dB⟩
              ·rw [if_neg c36] at H
               exact absurd H (by simp)
             ·rw [if_neg c34] at H
              exact absurd H (by simp)
            ·rw [if_neg c33] at H
             exact absurd H (by simp)
        ·rw [if_neg c16] at H
         have c16b0 : decide (0 < (Int.tmod a1 64)) = false := decide_eq_false c16
         clear c16
         replace H := obe H
         obtain ⟨⟨t127, t130⟩, A430, H⟩ := H
         (try dsimp only at H)
         have A43 := aM A430
         clear A430
         simp only [Option.some.injEq, Prod.mk.injEq] at H
         obtain ⟨rfl, rfl⟩ := H
         go_enter Tryd.func21, Tryd.ntmps21
         go_wp2_with (first | ((with_reducible refine gate_callee (f := 54) rfl ?_); refine gL (some 11) Tryd.func54 #[.slice A0 l0.length c0] ?_; (with_reducible refine (nat_size.calls k _ _ l0 t110 _ ?side1 HC0.out A3.out).mono ?_); (case side1 => exact dC HR0.out); rintro e w' ⟨rfl, ⟨nd, rfl⟩⟩; refine ⟨_, rfl, ?_⟩; obtain ⟨i044, hi044, _, hsz44, _⟩ := info_parts info26; obtain ⟨hcut44, hA44, hC44⟩ := print_take_of (P := Tryd.prog) (Value.int .u64) 0 22 26 .i64 Tryd.underlying22 hi044 hsz44 A0 c0 l0 t110 (of_decide_eq_true dS) (of_decide_eq_true dS) HC0.out; rw [Nz110.out] at hcut44 hA44 hC44; have HR111 := aM (Kd.C_of_reads (h1 := fun _ => rfl) (hA44 _ (Kd.reads_of_C HR0.out))); have HC111 := aM hC44; clear hA44 hC44 hi044 hsz44) | ((with_reducible refine gate_callee (f := 43) rfl ?_); refine goesL_ (some 23) rfl rfl Tryd.func43 (by kernel_rfl) rfl #[.slice A0 z110.length c0] rfl (by (try simp only [List.map_toArray, List.map_cons, List.map_nil]); first | done | (rw [show z110.length = t110.toNat from (by rw [← Nz110.out, List.length_take]; have h_ : (t110 : Int) ≤ (l0.length : Int) := of_decide_eq_true dS; omega)] <;> rfl) | rfl | (simp only [List.length_drop, List.length_take]; rfl)) ?_; (with_reducible refine (nat_Bits.calls k _ _ z110 t112 _ ?side1 HC111.out A10.out).mono ?_); (case side1 => exact dC HR111.out); rintro e w' ⟨rfl, ⟨nd, rfl⟩⟩; refine ⟨_, rfl, ?_⟩) | ((with_reducible refine gate_dst (N := 32) rfl ?_); refine Kd.R_make (Kd.int .u64) _ 26 rfl (N := 32) rfl 22 _ _ rfl ji13 rfl rfl Tryd.underlying22 (.int .u64 0) 8 info26 rfl (by decide) (by omega) 0 (ok := fun _ => True) (okp := fun _ => True) rfl (fun _ hk => hk) trivial (of_decide_eq_true dS) (Nat.le_trans (Nat.mul_le_mul_right _ (of_decide_eq_true dS : ji13.toNat ≤ 35184372088832)) (by omega)) (Below.refl _ _) (Nat.le_refl _) ?_; intro v114 w45 ho46 hb hg_ hnew_; clear hg_ hnew_; rw [← Nyq.out] at ho46; have HO115 := aM (Kd.R_lower ho46 (below_size dB)); replace HB := hS HB.out hb; clear hb ho46; obtain ⟨Ao47, co47, eo47⟩ := Kd.R_slice HO115.out; rw [Cq.out.2.2.1] at eo47; subst eo47; obtain ⟨i0q, hi0q, _, hszq, _⟩ := info_parts info26; have hcutq := cut_from (P := Tryd.prog) 22 26 .i64 Tryd.underlying22 hi0q 1 hszq Ao47 y113.length co47 (wrap64 (Int.tdiv a1 64)) Cq.out.1 Cq.out.2.1; clear hi0q hszq; obtain ⟨Aq, hAq⟩ : ∃ A_ : Option Addr, A_ = (if co47 = (wrap64 (Int.tdiv a1 64)).toNat then Ao47 else Ao47.map (·.add ((wrap64 (Int.tdiv a1 64)).toNat * 1))) := ⟨_, rfl⟩; rw [← hAq] at hcutq; have NAq := aM hAq; clear hAq) | ((with_reducible refine gate_dst (N := 38) rfl ?_); refine Kd.R_copy_at (enc := Value.int .u64) (h1 := fun _ => rfl) (0 : Int) w.heap.size rfl (.tmp 36) (.tmp 37) 22 22 26 rfl Tryd.underlying22 (by kernel_rfl) Ao47 co47 (wrap64 (Int.tdiv a1 64)).toNat y113.length yq z110 Cq.out.2.2.1 A0 z110.length c0 (fun _ => True) Aq NAq.out rfl rfl (by have := Cq.out.2.1; have := Cq.out.1; omega) HO115.out ?hcr HB.out HB.out.size ?_; (case hcr => exact Kd.C_below HR111.out HB.out); intro wq hoq hbq _; rw [shl_copied Cq.out.2.2.1 Cq.out.2.2.2] at hoq; clear HO115; have HO115 := aM hoq; clear HB; have HB := aM hbq; clear hoq hbq hcutq) | ((with_reducible refine gate_callee (f := 56) rfl ?_); refine gL (some 78) Tryd.func56 #[.slice Ao47 y113.length co47] ?_; (with_reducible refine (nat_bound.calls k (fun k_ => some k_ = (.slice Ao47 y113.length co47 : Value).ownBlock) (.slice Ao47 y113.length co47) y113 t127 t130 w _ ?side1 ?side2 A43.out).mono ?_); (case side1 => repeat (first | (with_reducible first | exact HB.out | apply below_alloc | apply pw_below_drewN | apply below_drew1) | exact HB.out)); (case side2 => exact Kd.R_tight rfl HO115.out); rintro e w48 ⟨v128, rfl, ho0, hb, hkp⟩; refine ⟨_, rfl, ?_⟩; have HO129 := aM (Kd.R_mono (ok' := fun k_ => True) ho0 (fun k_ hk_ => trivial)); replace HB := aM (hb); clear HO115; (try clear hb); (try clear hkp); (try clear ho0)))
         go_ret2
         exact ⟨_, by first | rfl | (simp [errW_none, errW_some] <;> rfl) | (simp only [← hji13]; first | rfl | (simp [errW_none, errW_some] <;> rfl)) | (simp [*, errW_none, errW_some] <;> rfl), dR HO129.out, dB⟩
       ·rw [if_neg c15] at H
        exact absurd H (by simp)
      ·rw [if_neg c14] at H
       exact absurd H (by simp)
  ·rw [if_neg c5] at H
   exact absurd H (by simp)
 ·rw [if_neg c4] at H
  exact absurd H (by simp)
def plumblaw07_whole.f (k : Nat) (a0 : Bool) (a1 : Int) (a2 : Int) : Option (Bool × List Int × List Int) := (nat_Shl.f k (([a1] : List Int)) a2).bind fun bt312 => ((rat_New.f k a0 bt312.1 (([1] : List Int))).bind fun bt319 => (some (bt319.1, bt319.2.1, bt319.2.2.1)))
set_option maxHeartbeats 8000000 in
set_option maxRecDepth 100000 in
theorem plumblaw07_whole.calls (k : Nat) (a0 : Bool) (a1 : Int) (a2 : Int) (r1 : Bool) (r2 : List Int) (r3 : List Int) (w : World) (h : plumblaw07_whole.f k a0 a1 a2 = some (r1, r2, r3)) :
  Calls Tryd.prog 31 #[.bool a0, .int .u64 a1, .int .i64 a2] w fun e w' => ∃ v1_ v2_ : Value, e = .returned (.agg #[.bool r1, v1_, v2_]) ∧ Kd.R (Kd.int .u64) 26 w' w.heap.size (fun k_ => some k_ ≠ (v2_ : Value).ownBlock) v1_ r2 ∧ Kd.R (Kd.int .u64) 26 w' w.heap.size (fun k_ => some k_ ≠ (v1_ : Value).ownBlock) v2_ r3 ∧ Below w.heap.size w w' := by
 have hu46 := Tryd.underlying46
 have HB := aM (Below.refl w.heap.size w)
 have H := h
 clear h
 unfold plumblaw07_whole.f at H
 obtain ⟨y309, hy309⟩ : ∃ y_ : List Int, y_ = (([a1] : List Int)) := ⟨_, rfl⟩
 replace H : ((nat_Shl.f k y309 a2).bind fun bt312 => ((rat_New.f k a0 bt312.1 (([1] : List Int))).bind fun bt319 => (some (bt319.1, bt319.2.1, bt319.2.2.1)))) = some (r1, r2, r3) := by first | (rw [hy309]; with_reducible exact H) | (have H2_ := (Option.bind_some _ _).symm.trans H; rw [hy309]; with_reducible exact H2_) | (have H2_ := (Option.bind_some _ _).symm.trans H; with_reducible exact H2_) | with_reducible exact H | (rw [hy309]; exact H) | exact H
 have Ny309 := aM hy309
 clear hy309
 replace H := obe H
 obtain ⟨⟨t312, t313⟩, A40, H⟩ := H
 (try dsimp only at H)
 have A4 := aM A40
 clear A40
 obtain ⟨y316, hy316⟩ : ∃ y_ : List Int, y_ = (([1] : List Int)) := ⟨_, rfl⟩
 replace H : ((rat_New.f k a0 t312 y316).bind fun bt319 => (some (bt319.1, bt319.2.1, bt319.2.2.1))) = some (r1, r2, r3) := by first | (rw [hy316]; with_reducible exact H) | (have H2_ := (Option.bind_some _ _).symm.trans H; rw [hy316]; with_reducible exact H2_) | (have H2_ := (Option.bind_some _ _).symm.trans H; with_reducible exact H2_) | with_reducible exact H | (rw [hy316]; exact H) | exact H
 have Ny316 := aM hy316
 clear hy316
 replace H := obe H
 obtain ⟨⟨t319, t320, t323, t326⟩, A50, H⟩ := H
 (try dsimp only at H)
 have A5 := aM A50
 clear A50
 simp only [Option.some.injEq, Prod.mk.injEq] at H
 obtain ⟨rfl, rfl, rfl⟩ := H
 go_enter Tryd.func31, Tryd.ntmps31
 go_wp2_with (first | ((with_reducible refine gate_dst (N := 6) rfl ?_); refine bE 6 #[.bool false, .slice none 0 0, .slice none 0 0] 46 ?_; intro gb308 hg w6 hbox hb; have BK308 := aM (hbox); have GE308 : Aside0 (w.heap.size ≤ gb308) := gE hg; replace HB := hS HB.out hb; clear hb hbox hg) | ((with_reducible refine gate_dst (N := 13) rfl ?_); refine Kd.R_lit (Kd.int .u64) _ 26 ?hg (N := 13) ?hd (xs := ([a1] : List Int)) (inner := [.int .u64 a1]) (ok := fun _ => True) (okp := fun _ => True) ?hr ?hp (fun _ hk => hk) trivial (Below.refl _ _) (Nat.le_refl _) (by simp) ?_; (case hd => rfl); (case hg => rfl); (case hr => first | (go_simp; done) | (go_simp; rfl)); (case hp => exact (Reps.one (show Kd.M (Kd.int .u64) _ _ _ a1 [.int .u64 a1] from rfl) (Reps.none _ _))); intro v310 w7 ho8 hb hg_ hnew_; clear hg_ hnew_; (first | rw [← Ny309.out] at ho8 | (simp only [Int.reduceToNat] at ho8; rw [← Ny309.out] at ho8)); have HO311 := aM (Kd.R_lower ho8 (below_size eB)); replace BK308 := bB BK308.out hb; replace HB := hS HB.out hb; clear hb ho8; obtain ⟨Ao9, co9, rfl⟩ := Kd.R_slice HO311.out) | ((with_reducible refine gate_callee (f := 21) rfl ?_); refine gL (some 15) Tryd.func21 #[.slice Ao9 y309.length co9, .int .i64 a2] ?_; (with_reducible refine (nat_Shl.calls k _ _ y309 a2 t312 t313 _ ?side1 (Kd.R_reads' HO311.out).2.1 A4.out).mono ?_); (case side1 => exact dC (Kd.R_reads' HO311.out).2.2); rintro e w10 ⟨v314, rfl, ho0, hb⟩; refine ⟨_, rfl, ?_⟩; have HO315 := aM (Kd.R_lower (Kd.R_new' ho0 (Kd.R_lt (dR HO311.out))) (below_size eB)); replace HO311 := oE HO311.out ho0 hb; replace BK308 := bB BK308.out hb; replace HB := hS HB.out hb; (try clear hb); (try clear ho0)) | ((with_reducible refine gate_dst (N := 21) rfl ?_); refine Kd.R_lit (Kd.int .u64) _ 26 ?hg (N := 21) ?hd (xs := ([1] : List Int)) (inner := [.int .u64 1]) (ok := fun _ => True) (okp := fun _ => True) ?hr ?hp (fun _ hk => hk) trivial (Below.refl _ _) (Nat.le_refl _) (by simp) ?_; (case hd => rfl); (case hg => rfl); (case hr => first | (go_simp; done) | (go_simp; rfl)); (case hp => exact (Reps.one (show Kd.M (Kd.int .u64) _ _ _ 1 [.int .u64 1] from rfl) (Reps.none _ _))); intro v317 w11 ho12 hb hg_ hnew_; clear hg_ hnew_; (first | rw [← Ny316.out] at ho12 | (simp only [Int.reduceToNat] at ho12; rw [← Ny316.out] at ho12)); have HO318 := aM (Kd.R_lower (Kd.R_new' (Kd.R_new' ho12 (Kd.R_lt (dR HO311.out))) (Kd.R_lt (dR HO315.out))) (below_size eB)); replace HO311 := oE HO311.out ho12 hb; replace HO315 := oE HO315.out ho12 hb; replace BK308 := bB BK308.out hb; replace HB := hS HB.out hb; clear hb ho12; obtain ⟨Ao13, co13, rfl⟩ := Kd.R_slice HO315.out; obtain ⟨Ao14, co14, rfl⟩ := Kd.R_slice HO318.out) | ((with_reducible refine gate_callee (f := 59) rfl ?_); refine gL (some 22) Tryd.func59 #[.bool a0, .slice Ao13 t312.length co13, .slice Ao14 y316.length co14] ?_; (with_reducible refine (rat_New.calls k a0 _ _ t312 _ _ y316 t319 t320 t323 t326 _ ?side1 (Kd.R_reads' HO315.out).2.1 ?side3 (Kd.R_reads' HO318.out).2.1 A5.out).mono ?_); (case side1 => exact dC (Kd.R_reads' HO315.out).2.2); (case side3 => exact dC (Kd.R_reads' HO318.out).2.2); rintro e w15 ⟨v321, v324, rfl, ho0, ho1, hb⟩; refine ⟨_, rfl, ?_⟩; have HO322 := aM (Kd.R_lower (Kd.R_new' (Kd.R_new' (Kd.R_new' ho0 (Kd.R_lt (dR HO311.out))) (Kd.R_lt (dR HO315.out))) (Kd.R_lt (dR HO318.out))) (below_size eB)); have HO325 := aM (Kd.R_lower (Kd.R_new' (Kd.R_new' (Kd.R_new' ho1 (Kd.R_lt (dR HO311.out))) (Kd.R_lt (dR HO315.out))) (Kd.R_lt (dR HO318.out))) (below_size eB)); replace HO311 := aM (Kd.R_mono (Kd.R_told (Kd.R_told (Kd.R_old (dR HO311.out) hb) (Kd.R_base ho0)) (Kd.R_base ho1)) (fun _ h_ => h_.1)); replace HO315 := aM (Kd.R_mono (Kd.R_told (Kd.R_told (Kd.R_old (dR HO315.out) hb) (Kd.R_base ho0)) (Kd.R_base ho1)) (fun _ h_ => h_.1)); replace HO318 := aM (Kd.R_mono (Kd.R_told (Kd.R_told (Kd.R_old (dR HO318.out) hb) (Kd.R_base ho0)) (Kd.R_base ho1)) (fun _ h_ => h_.1)); replace BK308 := bB BK308.out hb; replace HB := hS HB.out hb; (try clear hb); (try clear ho0); (try clear ho1)) | ((with_reducible refine gate_dst (N := 9) rfl ?_); refine bE 9 #[.bool false, .slice none 0 0, .slice none 0 0] 46 ?_; intro gb327 hg w16 hbox hb; replace HO311 := oB HO311.out hb; replace HO315 := oB HO315.out hb; replace HO318 := oB HO318.out hb; replace HO322 := oB HO322.out hb; replace HO325 := oB HO325.out hb; have BK327 := aM (hbox); have GE327 : Aside0 (w.heap.size ≤ gb327) := gE hg; replace HB := hS HB.out hb; have NB308_327 := nL hg BK308.out; have NB327_308 := nG hg BK308.out; replace BK308 := bB BK308.out hb; clear hb hbox hg; have hnb17 := NB327_308.out; have hnc17 := NB308_327.out; obtain ⟨hcz18_0, hcz18_1, hcz18_2⟩ := cz3 BK327.out; obtain ⟨hfz18_0, hfz18_1, hfz18_2⟩ := fz3 BK327.out; obtain ⟨Ao19, co19, rfl⟩ := Kd.R_slice HO322.out; obtain ⟨Ao20, co20, rfl⟩ := Kd.R_slice HO325.out; obtain ⟨hcz21_0, hcz21_1, hcz21_2⟩ := cz3 BK308.out; obtain ⟨hfz21_0, hfz21_1, hfz21_2⟩ := fz3 BK308.out))
 refine bodyPost_ret (results_cell_row rfl _ _ gb308 46 #[.bool t319, .slice Ao19 t320.length co19, .slice Ao20 t323.length co20] (0, 0) _ rfl (dQ1 BK308.out NB308_327.out) Tryd.underlying46 rfl (by kernel_rfl)) rfl ?_
 exact ⟨_, _, dE, by (with_reducible repeat (first | apply Kd.R_alloc | apply Kd.R_drewN | apply Kd.R_drew)); exact Kd.R_mono (Kd.R_far (p := ⟨gb308, 2, none⟩) (Kd.R_far (p := ⟨gb308, 1, none⟩) (Kd.R_far (p := ⟨gb308, 0, none⟩) (Kd.R_far (p := ⟨gb327, 2, none⟩) (Kd.R_far (p := ⟨gb327, 1, none⟩) (Kd.R_far (p := ⟨gb327, 0, none⟩) (Kd.R_types (Kd.R_types HO322.out BK327.out (by decide)) BK308.out (by decide)) (fun _ hk => hk.1.2) (.bool t319)) (fun _ hk => hk.1.2) (.slice Ao19 t320.length co19)) (fun _ hk => hk.1.2) (.slice Ao20 t323.length co20)) (fun _ hk => hk.2) (.bool t319)) (fun _ hk => hk.2) (.slice Ao19 t320.length co19)) (fun _ hk => hk.2) (.slice Ao20 t323.length co20)) (fun _ hk => hk.1.1.1.1.1), by (with_reducible repeat (first | apply Kd.R_alloc | apply Kd.R_drewN | apply Kd.R_drew)); exact Kd.R_mono (Kd.R_far (p := ⟨gb308, 2, none⟩) (Kd.R_far (p := ⟨gb308, 1, none⟩) (Kd.R_far (p := ⟨gb308, 0, none⟩) (Kd.R_far (p := ⟨gb327, 2, none⟩) (Kd.R_far (p := ⟨gb327, 1, none⟩) (Kd.R_far (p := ⟨gb327, 0, none⟩) (Kd.R_types (Kd.R_types HO325.out BK327.out (by decide)) BK308.out (by decide)) (fun _ hk => hk.1.2) (.bool t319)) (fun _ hk => hk.1.2) (.slice Ao19 t320.length co19)) (fun _ hk => hk.1.2) (.slice Ao20 t323.length co20)) (fun _ hk => hk.2) (.bool t319)) (fun _ hk => hk.2) (.slice Ao19 t320.length co19)) (fun _ hk => hk.2) (.slice Ao20 t323.length co20)) (fun _ hk => hk.1.1.1.1.1), eB⟩
def f64_fields.f (a0 : Int) : Option (Int × Int) := some (wrap64 (Go.bits .and .u64 (a0 / 4503599627370496) 2047), Go.bits .and .u64 a0 4503599627370495)
set_option maxHeartbeats 8000000 in
set_option maxRecDepth 100000 in
theorem f64_fields.calls (a0 : Int) (r1 : Int) (r2 : Int) (w : World) (h : f64_fields.f a0 = some (r1, r2)) :
  Calls Tryd.prog 67 #[.int .u64 a0] w fun e w' => e = .returned (.tuple #[.int .i64 r1, .int .u64 r2]) ∧ Drawn0 w w' := by
 have H := h
 clear h
 unfold f64_fields.f at H
 simp only [Option.some.injEq, Prod.mk.injEq] at H
 obtain ⟨rfl, rfl⟩ := H
 go_enter Tryd.func67, Tryd.ntmps67
 go_wp2
 go_ret2
 exact ⟨by first | rfl | (simp; done) | (simp [*]; done), by repeat (first | exact Drawn0.refl _ | apply Drawn0.step)⟩
def f64_Class.j0 : Nat → Int → Int → Bool → Option (Int)
 | 0, _, _, _ => none
 | k + 1, x3, x4, x10 => if x10 = true then (some 0) else (if x3 = 0 then (some 1) else (if x3 < 2047 then (some 2) else (if x4 = 0 then (some 3) else (some 4))))
def f64_Class.f (k : Nat) (a0 : Int) : Option (Int) := (f64_fields.f a0).bind fun bt328 => (if bt328.1 = 0 then (f64_Class.j0 k bt328.1 bt328.2 (bt328.2 == 0)) else (f64_Class.j0 k bt328.1 bt328.2 false))
set_option maxHeartbeats 8000000 in
set_option maxRecDepth 100000 in
theorem f64_Class.calls (k : Nat) (a0 : Int) (r : Int) (w : World) (h : f64_Class.f k a0 = some r) :
  Calls Tryd.prog 34 #[.int .u64 a0] w fun e w' => e = .returned (.int .i64 r) ∧ Drawn0 w w' := by
 have H := h
 clear h
 unfold f64_Class.f at H
 replace H := obe H
 obtain ⟨⟨t328, t329⟩, A20, H⟩ := H
 (try dsimp only at H)
 have A2 := aM A20
 clear A20
 have HC3 := aM H
 clear H
 go_enter Tryd.func34, Tryd.ntmps34
 go_upto_region 2 with (first | ((with_reducible refine gate_callee (f := 67) rfl ?_); refine gL (some 7) Tryd.func67 #[.int .u64 a0] ?_; (with_reducible refine (f64_fields.calls a0 t328 t329 _ A2.out).mono ?_); rintro e w' ⟨rfl, ⟨nd, rfl⟩⟩; refine ⟨_, rfl, ?_⟩))
 (try simp only [Act.put, List.setIfInBounds_toArray, List.set_cons_zero, List.set_cons_succ])
 go_cut [10] (fun v10 wc => ∃ (kq : Nat) (x10_2 : Bool), v10 = .bool x10_2 ∧ Aside0 (f64_Class.j0 kq t328 t329 x10_2 = some r) ∧ Aside0 (kq ≤ k) ∧ Drawn0 w wc)
 case first =>
  have H := HC3.out
  clear HC3
  by_cases c4 : t328 = 0
  ·rw [if_pos c4] at H
   have c4b0 : (t328 == 0) = true := beq_iff_eq.mpr c4
   have c4b1 : (t328 != 0) = false := bne_eq_false_iff_eq.mpr c4
   clear c4
   (first | rw [c4b0] | (simp only [i64_w, i32_w]; rw [c4b0]) | skip)
   have H' := aM H
   clear H
   go_wp2
   go_meet
   case rel => exact ⟨_, ((t329 == 0)), dF, H', ⟨dN⟩, by repeat (first | exact Drawn0.refl _ | apply Drawn0.step)⟩
  ·rw [if_neg c4] at H
   have c4b0 : (t328 == 0) = false := beq_eq_false_iff_ne.mpr c4
   have c4b1 : (t328 != 0) = true := bne_iff_ne.mpr c4
   (first | rw [c4b0] | (simp only [i64_w, i32_w]; rw [c4b0]) | skip)
   have H' := aM H
   clear H
   go_wp2
   go_meet
   case rel => exact ⟨_, (false), dF, H', ⟨dN⟩, by repeat (first | exact Drawn0.refl _ | apply Drawn0.step)⟩
 case rest =>
  clear HC3
  obtain ⟨kq, x10_2, rfl, HA, HJ2, ⟨mc2, rfl⟩⟩ := hcut
  cases kq with
  | zero => exact absurd HA.out (by simp [f64_Class.j0])
  | succ kj2 =>
   have H := HA.out
   clear HA
   simp only [f64_Class.j0] at H
   by_cases c5 : x10_2 = true
   ·subst c5
    rw [if_pos rfl] at H
    (try dsimp only at H)
    obtain rfl := Option.some.inj H
    go_wp2
    go_ret
    exact ⟨by first | rfl | (simp; done) | (simp [*]; done), by repeat (first | exact Drawn0.refl _ | apply Drawn0.step)⟩
   ·replace c5 := Bool.eq_false_iff.mpr c5
    subst c5
    rw [if_neg (show ¬ (false = true) by decide)] at H
    (try dsimp only at H)
    by_cases c6 : t328 = 0
    ·rw [if_pos c6] at H
     have c6b0 : (t328 == 0) = true := beq_iff_eq.mpr c6
     have c6b1 : (t328 != 0) = false := bne_eq_false_iff_eq.mpr c6
     clear c6
     obtain rfl := Option.some.inj H
     go_wp2
     go_ret
     exact ⟨by first | rfl | (simp; done) | (simp [*]; done), by repeat (first | exact Drawn0.refl _ | apply Drawn0.step)⟩
    ·rw [if_neg c6] at H
     have c6b0 : (t328 == 0) = false := beq_eq_false_iff_ne.mpr c6
     have c6b1 : (t328 != 0) = true := bne_iff_ne.mpr c6
     by_cases c7 : t328 < 2047
     ·rw [if_pos c7] at H
      have c7b0 : decide (t328 < 2047) = true := decide_eq_true c7
      clear c7
      obtain rfl := Option.some.inj H
      go_wp2
      go_ret
      exact ⟨by first | rfl | (simp; done) | (simp [*]; done), by repeat (first | exact Drawn0.refl _ | apply Drawn0.step)⟩
     ·rw [if_neg c7] at H
      have c7b0 : decide (t328 < 2047) = false := decide_eq_false c7
      clear c7
      by_cases c8 : t329 = 0
      ·rw [if_pos c8] at H
       have c8b0 : (t329 == 0) = true := beq_iff_eq.mpr c8
       have c8b1 : (t329 != 0) = false := bne_eq_false_iff_eq.mpr c8
       clear c8
       obtain rfl := Option.some.inj H
       go_wp2
       go_ret
       exact ⟨by first | rfl | (simp; done) | (simp [*]; done), by repeat (first | exact Drawn0.refl _ | apply Drawn0.step)⟩
      ·rw [if_neg c8] at H
       have c8b0 : (t329 == 0) = false := beq_eq_false_iff_ne.mpr c8
       have c8b1 : (t329 != 0) = true := bne_iff_ne.mpr c8
       obtain rfl := Option.some.inj H
       go_wp2
       go_ret
       exact ⟨by first | rfl | (simp; done) | (simp [*]; done), by repeat (first | exact Drawn0.refl _ | apply Drawn0.step)⟩
def f64_Split.f (k : Nat) (a0 : Int) : Option (Bool × Int × Int × Int) := (f64_fields.f a0).bind fun bt330 => ((f64_Class.f k a0).bind fun t332 => (if t332 = 0 then (some (((Go.bits .and .u64 a0 9223372036854775808) != 0), bt330.2, (-1074), 0)) else (if t332 = 1 then (some (((Go.bits .and .u64 a0 9223372036854775808) != 0), bt330.2, (-1074), 0)) else (if t332 = 2 then (some (((Go.bits .and .u64 a0 9223372036854775808) != 0), Go.bits .or .u64 4503599627370496 bt330.2, wrap64 (bt330.1 - 1075), 0)) else (none)))))
set_option maxHeartbeats 8000000 in
set_option maxRecDepth 100000 in
theorem f64_Split.calls (k : Nat) (a0 : Int) (r1 : Bool) (r2 : Int) (r3 : Int) (r4 : Int) (w : World) (h : f64_Split.f k a0 = some (r1, r2, r3, r4)) :
  Calls Tryd.prog 62 #[.int .u64 a0] w fun e w' => e = .returned (.tuple #[.bool r1, .int .u64 r2, .int .i64 r3, .int .i64 r4]) ∧ Drawn0 w w' := by
 have H := h
 clear h
 unfold f64_Split.f at H
 replace H := obe H
 obtain ⟨⟨t330, t331⟩, A20, H⟩ := H
 (try dsimp only at H)
 have A2 := aM A20
 clear A20
 replace H := obe H
 obtain ⟨t332, A30, H⟩ := H
 (try dsimp only at H)
 have A3 := aM A30
 clear A30
 by_cases c4 : t332 = 0
 ·rw [if_pos c4] at H
  have c4b0 : (t332 == 0) = true := beq_iff_eq.mpr c4
  have c4b1 : (t332 != 0) = false := bne_eq_false_iff_eq.mpr c4
  clear c4
  simp only [Option.some.injEq, Prod.mk.injEq] at H
  obtain ⟨rfl, rfl, rfl, rfl⟩ := H
  go_enter Tryd.func62, Tryd.ntmps62
  go_wp2_with (first | ((with_reducible refine gate_callee (f := 67) rfl ?_); refine gL (some 11) Tryd.func67 #[.int .u64 a0] ?_; (with_reducible refine (f64_fields.calls a0 t330 t331 _ A2.out).mono ?_); rintro e w' ⟨rfl, ⟨nd, rfl⟩⟩; refine ⟨_, rfl, ?_⟩) | ((with_reducible refine gate_callee (f := 34) rfl ?_); refine gL (some 18) Tryd.func34 #[.int .u64 a0] ?_; (with_reducible refine (f64_Class.calls k a0 t332 _ A3.out).mono ?_); rintro e w' ⟨rfl, ⟨nd, rfl⟩⟩; refine ⟨_, rfl, ?_⟩))
  refine bodyPost_ret (results_list (rs := [.tmp 2, .tmp 3, .tmp 4, .tmp 5]) rfl (by simp) (.tmp (.tmp (.tmp (.tmp .nil))))) rfl ?_
  exact ⟨by first | rfl | (simp; done) | (simp [*]; done), by repeat (first | exact Drawn0.refl _ | apply Drawn0.step)⟩
 ·rw [if_neg c4] at H
  have c4b0 : (t332 == 0) = false := beq_eq_false_iff_ne.mpr c4
  have c4b1 : (t332 != 0) = true := bne_iff_ne.mpr c4
  by_cases c5 : t332 = 1
  ·rw [if_pos c5] at H
   have c5b0 : (t332 == 1) = true := beq_iff_eq.mpr c5
   have c5b1 : (t332 != 1) = false := bne_eq_false_iff_eq.mpr c5
   clear c5
   simp only [Option.some.injEq, Prod.mk.injEq] at H
   obtain ⟨rfl, rfl, rfl, rfl⟩ := H
   go_enter Tryd.func62, Tryd.ntmps62
   go_wp2_with (first | ((with_reducible refine gate_callee (f := 67) rfl ?_); refine gL (some 11) Tryd.func67 #[.int .u64 a0] ?_; (with_reducible refine (f64_fields.calls a0 t330 t331 _ A2.out).mono ?_); rintro e w' ⟨rfl, ⟨nd, rfl⟩⟩; refine ⟨_, rfl, ?_⟩) | ((with_reducible refine gate_callee (f := 34) rfl ?_); refine gL (some 18) Tryd.func34 #[.int .u64 a0] ?_; (with_reducible refine (f64_Class.calls k a0 t332 _ A3.out).mono ?_); rintro e w' ⟨rfl, ⟨nd, rfl⟩⟩; refine ⟨_, rfl, ?_⟩))
   refine bodyPost_ret (results_list (rs := [.tmp 2, .tmp 3, .tmp 4, .tmp 5]) rfl (by simp) (.tmp (.tmp (.tmp (.tmp .nil))))) rfl ?_
   exact ⟨by first | rfl | (simp; done) | (simp [*]; done), by repeat (first | exact Drawn0.refl _ | apply Drawn0.step)⟩
  ·rw [if_neg c5] at H
   have c5b0 : (t332 == 1) = false := beq_eq_false_iff_ne.mpr c5
   have c5b1 : (t332 != 1) = true := bne_iff_ne.mpr c5
   by_cases c6 : t332 = 2
   ·rw [if_pos c6] at H
    have c6b0 : (t332 == 2) = true := beq_iff_eq.mpr c6
    have c6b1 : (t332 != 2) = false := bne_eq_false_iff_eq.mpr c6
    clear c6
    simp only [Option.some.injEq, Prod.mk.injEq] at H
    obtain ⟨rfl, rfl, rfl, rfl⟩ := H
    go_enter Tryd.func62, Tryd.ntmps62
    go_wp2_with (first | ((with_reducible refine gate_callee (f := 67) rfl ?_); refine gL (some 11) Tryd.func67 #[.int .u64 a0] ?_; (with_reducible refine (f64_fields.calls a0 t330 t331 _ A2.out).mono ?_); rintro e w' ⟨rfl, ⟨nd, rfl⟩⟩; refine ⟨_, rfl, ?_⟩) | ((with_reducible refine gate_callee (f := 34) rfl ?_); refine gL (some 18) Tryd.func34 #[.int .u64 a0] ?_; (with_reducible refine (f64_Class.calls k a0 t332 _ A3.out).mono ?_); rintro e w' ⟨rfl, ⟨nd, rfl⟩⟩; refine ⟨_, rfl, ?_⟩))
    refine bodyPost_ret (results_list (rs := [.tmp 2, .tmp 3, .tmp 4, .tmp 5]) rfl (by simp) (.tmp (.tmp (.tmp (.tmp .nil))))) rfl ?_
    exact ⟨by first | rfl | (simp; done) | (simp [*]; done), by repeat (first | exact Drawn0.refl _ | apply Drawn0.step)⟩
   ·rw [if_neg c6] at H
    exact absurd H (by simp)
def plumblaw07_value.f (k : Nat) (a0 : Int) : Option (Bool × List Int × List Int × Bool) := (f64_Split.f k a0).bind fun bt334 => ((plumblaw07_num.f bt334.2.2.2).bind fun t338 => (if t338 = 0 then (if bt334.2.2.1 ≥ 0 then ((plumblaw07_whole.f k bt334.1 bt334.2.1 bt334.2.2.1).bind fun bt339 => (some (bt339.1, bt339.2.1, bt339.2.2, true))) else ((nat_Shl.f k (([1] : List Int)) (wrap64 (-bt334.2.2.1))).bind fun bt349 => ((rat_New.f k bt334.1 (([bt334.2.1] : List Int)) bt349.1).bind fun bt356 => ((plumblaw07_num.f bt349.2).bind fun t365 => (if t365 = 0 then ((plumblaw07_num.f bt356.2.2.2).bind fun t366 => (some (bt356.1, bt356.2.1, bt356.2.2.1, (t366 == 0)))) else (none)))))) else (none)))
def plumblaw07_value.T8 : Bool × List (List Nat × List Nat) := (true, [([], []), ([], []), ([1], [1]), ([2], [2]), ([3, 2], [3]), ([4], [4]), ([5, 4, 4], [4, 5]), ([6, 4], [4, 6]), ([4, 7], [4, 7]), ([0, 6, 0], [0]), ([8, 9, 0, 1, 2, 3, 4, 5, 6, 7, 8, 9], [8])])
def plumblaw07_value.B8 : List Nat := [0, 0, 2, 6, 14, 30, 62, 126, 254, 127, 1023]
theorem plumblaw07_value.tab8 : rtab .any (opsOf Tryd.f25 8) = plumblaw07_value.T8 := by kernel_rfl
theorem plumblaw07_value.bits8 : waitsOk plumblaw07_value.T8.2 plumblaw07_value.B8 = true := by kernel_rfl
set_option maxHeartbeats 8000000 in
set_option maxRecDepth 100000 in
theorem plumblaw07_value.calls (k : Nat) (a0 : Int) (r1 : Bool) (r2 : List Int) (r3 : List Int) (r4 : Bool) (w : World) (h : plumblaw07_value.f k a0 = some (r1, r2, r3, r4)) :
  Calls Tryd.prog 25 #[.int .u64 a0] w fun e w' => ∃ v1_ v2_ : Value, e = .returned (.tuple #[.agg #[.bool r1, v1_, v2_], .bool r4]) ∧ Kd.R (Kd.int .u64) 26 w' w.heap.size (fun k_ => some k_ ≠ (v2_ : Value).ownBlock) v1_ r2 ∧ Kd.R (Kd.int .u64) 26 w' w.heap.size (fun k_ => some k_ ≠ (v1_ : Value).ownBlock) v2_ r3 ∧ Below w.heap.size w w' := by
 have hu46 := Tryd.underlying46
 have HB := aM (Below.refl w.heap.size w)
 have H := h
 clear h
 unfold plumblaw07_value.f at H
 replace H := obe H
 obtain ⟨⟨t334, t335, t336, t337⟩, A20, H⟩ := H
 (try dsimp only at H)
 have A2 := aM A20
 clear A20
 replace H := obe H
 obtain ⟨t338, A30, H⟩ := H
 (try dsimp only at H)
 have A3 := aM A30
 clear A30
 by_cases c4 : t338 = 0
 ·rw [if_pos c4] at H
  have c4b0 : (t338 == 0) = true := beq_iff_eq.mpr c4
  have c4b1 : (t338 != 0) = false := bne_eq_false_iff_eq.mpr c4
  clear c4
  by_cases c5 : t336 ≥ 0
  ·rw [if_pos c5] at H
   have c5b0 : decide (0 ≤ t336) = true := decide_eq_true c5
   clear c5
   replace H := obe H
   obtain ⟨⟨t339, t340, t343⟩, A60, H⟩ := H
   (try dsimp only at H)
   have A6 := aM A60
   clear A60
   simp only [Option.some.injEq, Prod.mk.injEq] at H
   obtain ⟨rfl, rfl, rfl, rfl⟩ := H
   go_enter Tryd.func25, Tryd.ntmps25
   go_wp2_with (first | ((with_reducible refine gate_dst (N := 2) rfl ?_); refine bE 2 #[.bool false, .slice none 0 0, .slice none 0 0] 46 ?_; intro gb333 hg w7 hbox hb; have BK333 := aM (hbox); have GE333 : Aside0 (w.heap.size ≤ gb333) := gE hg; replace HB := hS HB.out hb; clear hb hbox hg) | ((with_reducible refine gate_callee (f := 62) rfl ?_); refine gL (some 14) Tryd.func62 #[.int .u64 a0] ?_; (with_reducible refine (f64_Split.calls k a0 t334 t335 t336 t337 _ A2.out).mono ?_); rintro e w' ⟨rfl, ⟨nd, rfl⟩⟩; refine ⟨_, rfl, ?_⟩; (try (rw [drewN_self w7]; generalize hq_ : World.drewN w7 _ = w7; have n0_ : Aside0 (w7.heap[gb333]? = some (.cells #[.bool false, .slice none 0 0, .slice none 0 0] 46 (0, 0))) := ⟨by rw [← hq_]; exact (dK BK333.out)⟩; have n1_ : Aside0 (Below w.heap.size w w7) := ⟨by rw [← hq_]; exact eB⟩; clear BK333 HB hq_; have BK333 := n0_; have HB := n1_; clear n0_ n1_))) | ((with_reducible refine gate_callee (f := 15) rfl ?_); refine gL (some 20) Tryd.func15 #[.int .i64 t337] ?_; (with_reducible refine (plumblaw07_num.calls t337 t338 _ A3.out).mono ?_); rintro e w' ⟨rfl, ⟨nd, rfl⟩⟩; refine ⟨_, rfl, ?_⟩; (try (rw [drewN_self w7]; generalize hq_ : World.drewN w7 _ = w7; have n0_ : Aside0 (w7.heap[gb333]? = some (.cells #[.bool false, .slice none 0 0, .slice none 0 0] 46 (0, 0))) := ⟨by rw [← hq_]; exact (dK BK333.out)⟩; have n1_ : Aside0 (Below w.heap.size w w7) := ⟨by rw [← hq_]; exact eB⟩; clear BK333 HB hq_; have BK333 := n0_; have HB := n1_; clear n0_ n1_))) | ((with_reducible refine gate_callee (f := 31) rfl ?_); refine gL (some 28) Tryd.func31 #[.bool t334, .int .u64 t335, .int .i64 t336] ?_; (with_reducible refine (plumblaw07_whole.calls k t334 t335 t336 t339 t340 t343 _ A6.out).mono ?_); rintro e w8 ⟨v341, v344, rfl, ho0, ho1, hb⟩; refine ⟨_, rfl, ?_⟩; have HO342 := aM (Kd.R_lower ho0 (below_size eB)); have HO345 := aM (Kd.R_lower ho1 (below_size eB)); replace BK333 := bB BK333.out hb; replace HB := hS HB.out hb; (try clear hb); (try clear ho0); (try clear ho1); obtain ⟨hcz9_0, hcz9_1, hcz9_2⟩ := cz3 BK333.out; obtain ⟨hfz9_0, hfz9_1, hfz9_2⟩ := fz3 BK333.out; obtain ⟨Ao10, co10, rfl⟩ := Kd.R_slice HO342.out; obtain ⟨Ao11, co11, rfl⟩ := Kd.R_slice HO345.out))
   refine bodyPost_ret (results_ct rfl _ _ gb333 46 #[.bool t339, .slice Ao10 t340.length co10, .slice Ao11 t343.length co11] (0, 0) _ rfl (dP BK333.out) Tryd.underlying46 rfl (by kernel_rfl)) rfl ?_
   exact ⟨_, _, dE, by (with_reducible repeat (first | apply Kd.R_alloc | apply Kd.R_drewN | apply Kd.R_drew)); exact rX HO342.out BK333.out, by (with_reducible repeat (first | apply Kd.R_alloc | apply Kd.R_drewN | apply Kd.R_drew)); exact rX HO345.out BK333.out, dG GE333.out⟩
  ·rw [if_neg c5] at H
   have c5b0 : decide (0 ≤ t336) = false := decide_eq_false c5
   clear c5
   obtain ⟨y346, hy346⟩ : ∃ y_ : List Int, y_ = (([1] : List Int)) := ⟨_, rfl⟩
   replace H : ((nat_Shl.f k y346 (wrap64 (-t336))).bind fun bt349 => ((rat_New.f k t334 (([t335] : List Int)) bt349.1).bind fun bt356 => ((plumblaw07_num.f bt349.2).bind fun t365 => (if t365 = 0 then ((plumblaw07_num.f bt356.2.2.2).bind fun t366 => (some (bt356.1, bt356.2.1, bt356.2.2.1, (t366 == 0)))) else (none))))) = some (r1, r2, r3, r4) := by first | (rw [hy346]; with_reducible exact H) | (have H2_ := (Option.bind_some _ _).symm.trans H; rw [hy346]; with_reducible exact H2_) | (have H2_ := (Option.bind_some _ _).symm.trans H; with_reducible exact H2_) | with_reducible exact H | (rw [hy346]; exact H) | exact H
   have Ny346 := aM hy346
   clear hy346
   replace H := obe H
   obtain ⟨⟨t349, t350⟩, A120, H⟩ := H
   (try dsimp only at H)
   have A12 := aM A120
   clear A120
   obtain ⟨y353, hy353⟩ : ∃ y_ : List Int, y_ = (([t335] : List Int)) := ⟨_, rfl⟩
   replace H : ((rat_New.f k t334 y353 t349).bind fun bt356 => ((plumblaw07_num.f t350).bind fun t365 => (if t365 = 0 then ((plumblaw07_num.f bt356.2.2.2).bind fun t366 => (some (bt356.1, bt356.2.1, bt356.2.2.1, (t366 == 0)))) else (none)))) = some (r1, r2, r3, r4) := by first | (rw [hy353]; with_reducible exact H) | (have H2_ := (Option.bind_some _ _).symm.trans H; rw [hy353]; with_reducible exact H2_) | (have H2_ := (Option.bind_some _ _).symm.trans H; with_reducible exact H2_) | with_reducible exact H | (rw [hy353]; exact H) | exact H
   have Ny353 := aM hy353
   clear hy353
   replace H := obe H
   obtain ⟨⟨t356, t357, t360, t363⟩, A130, H⟩ := H
   (try dsimp only at H)
   have A13 := aM A130
   clear A130
   replace H := obe H
   obtain ⟨t365, A140, H⟩ := H
   (try dsimp only at H)
   have A14 := aM A140
   clear A140
   by_cases c15 : t365 = 0
   ·rw [if_pos c15] at H
    have c15b0 : (t365 == 0) = true := beq_iff_eq.mpr c15
    have c15b1 : (t365 != 0) = false := bne_eq_false_iff_eq.mpr c15
    clear c15
    replace H := obe H
    obtain ⟨t366, A160, H⟩ := H
    (try dsimp only at H)
    have A16 := aM A160
    clear A160
    simp only [Option.some.injEq, Prod.mk.injEq] at H
    obtain ⟨rfl, rfl, rfl, rfl⟩ := H
    go_enter Tryd.func25, Tryd.ntmps25
    try go_wp2_with (first | ((with_reducible refine gate_dst (N := 2) rfl ?_); refine bE 2 #[.bool false, .slice none 0 0, .slice none 0 0] 46 ?_; intro gb333 hg w17 hbox hb; have BK333 := aM (hbox); have GE333 : Aside0 (w.heap.size ≤ gb333) := gE hg; replace HB := hS HB.out hb; clear hb hbox hg) | ((with_reducible refine gate_callee (f := 62) rfl ?_); refine gL (some 14) Tryd.func62 #[.int .u64 a0] ?_; (with_reducible refine (f64_Split.calls k a0 t334 t335 t336 t337 _ A2.out).mono ?_); rintro e w' ⟨rfl, ⟨nd, rfl⟩⟩; refine ⟨_, rfl, ?_⟩; (try (rw [drewN_self w17]; generalize hq_ : World.drewN w17 _ = w17; have n0_ : Aside0 (w17.heap[gb333]? = some (.cells #[.bool false, .slice none 0 0, .slice none 0 0] 46 (0, 0))) := ⟨by rw [← hq_]; exact (dK BK333.out)⟩; have n1_ : Aside0 (Below w.heap.size w w17) := ⟨by rw [← hq_]; exact eB⟩; clear BK333 HB hq_; have BK333 := n0_; have HB := n1_; clear n0_ n1_))) | ((with_reducible refine gate_callee (f := 15) rfl ?_); refine gL (some 20) Tryd.func15 #[.int .i64 t337] ?_; (with_reducible refine (plumblaw07_num.calls t337 t338 _ A3.out).mono ?_); rintro e w' ⟨rfl, ⟨nd, rfl⟩⟩; refine ⟨_, rfl, ?_⟩; (try (rw [drewN_self w17]; generalize hq_ : World.drewN w17 _ = w17; have n0_ : Aside0 (w17.heap[gb333]? = some (.cells #[.bool false, .slice none 0 0, .slice none 0 0] 46 (0, 0))) := ⟨by rw [← hq_]; exact (dK BK333.out)⟩; have n1_ : Aside0 (Below w.heap.size w w17) := ⟨by rw [← hq_]; exact eB⟩; clear BK333 HB hq_; have BK333 := n0_; have HB := n1_; clear n0_ n1_))) | ((with_reducible refine gate_dst (N := 30) rfl ?_); refine Kd.R_lit (Kd.int .u64) _ 26 ?hg (N := 30) ?hd (xs := ([1] : List Int)) (inner := [.int .u64 1]) (ok := fun _ => True) (okp := fun _ => True) ?hr ?hp (fun _ hk => hk) trivial (Below.refl _ _) (Nat.le_refl _) (by simp) ?_; (case hd => rfl); (case hg => rfl); (case hr => first | (go_simp; done) | (go_simp; rfl)); (case hp => exact (Reps.one (show Kd.M (Kd.int .u64) _ _ _ 1 [.int .u64 1] from rfl) (Reps.none _ _))); intro v347 w18 ho19 hb hg_ hnew_; clear hg_ hnew_; (first | rw [← Ny346.out] at ho19 | (simp only [Int.reduceToNat] at ho19; rw [← Ny346.out] at ho19)); have HO348 := aM (Kd.R_lower ho19 (below_size eB)); replace BK333 := bB BK333.out hb; replace HB := hS HB.out hb; clear hb ho19; obtain ⟨Ao20, co20, rfl⟩ := Kd.R_slice HO348.out) | ((with_reducible refine gate_callee (f := 21) rfl ?_); refine gL (some 33) Tryd.func21 #[.slice Ao20 y346.length co20, .int .i64 (wrap64 (-t336))] ?_; (with_reducible refine (nat_Shl.calls k _ _ y346 (wrap64 (-t336)) t349 t350 _ ?side1 (Kd.R_reads' HO348.out).2.1 A12.out).mono ?_); (case side1 => exact dC (Kd.R_reads' HO348.out).2.2); rintro e w21 ⟨v351, rfl, ho0, hb⟩; refine ⟨_, rfl, ?_⟩; have HO352 := aM (Kd.R_lower (Kd.R_new' ho0 (Kd.R_lt (dR HO348.out))) (below_size eB)); replace HO348 := oE HO348.out ho0 hb; replace BK333 := bB BK333.out hb; replace HB := hS HB.out hb; (try clear hb); (try clear ho0)) | ((with_reducible refine gate_dst (N := 39) rfl ?_); refine Kd.R_lit (Kd.int .u64) _ 26 ?hg (N := 39) ?hd (xs := ([t335] : List Int)) (inner := [.int .u64 t335]) (ok := fun _ => True) (okp := fun _ => True) ?hr ?hp (fun _ hk => hk) trivial (Below.refl _ _) (Nat.le_refl _) (by simp) ?_; (case hd => rfl); (case hg => rfl); (case hr => first | (go_simp; done) | (go_simp; rfl)); (case hp => exact (Reps.one (show Kd.M (Kd.int .u64) _ _ _ t335 [.int .u64 t335] from rfl) (Reps.none _ _))); intro v354 w22 ho23 hb hg_ hnew_; clear hg_ hnew_; (first | rw [← Ny353.out] at ho23 | (simp only [Int.reduceToNat] at ho23; rw [← Ny353.out] at ho23)); have HO355 := aM (Kd.R_lower (Kd.R_new' (Kd.R_new' ho23 (Kd.R_lt (dR HO348.out))) (Kd.R_lt (dR HO352.out))) (below_size eB)); replace HO348 := oE HO348.out ho23 hb; replace HO352 := oE HO352.out ho23 hb; replace BK333 := bB BK333.out hb; replace HB := hS HB.out hb; clear hb ho23; obtain ⟨Ao24, co24, rfl⟩ := Kd.R_slice HO355.out; obtain ⟨Ao25, co25, rfl⟩ := Kd.R_slice HO352.out) | ((with_reducible refine gate_callee (f := 59) rfl ?_); refine gL (some 41) Tryd.func59 #[.bool t334, .slice Ao24 y353.length co24, .slice Ao25 t349.length co25] ?_; (with_reducible refine (rat_New.calls k t334 _ _ y353 _ _ t349 t356 t357 t360 t363 _ ?side1 (Kd.R_reads' HO355.out).2.1 ?side3 (Kd.R_reads' HO352.out).2.1 A13.out).mono ?_); (case side1 => exact dC (Kd.R_reads' HO355.out).2.2); (case side3 => exact dC (Kd.R_reads' HO352.out).2.2); rintro e w26 ⟨v358, v361, rfl, ho0, ho1, hb⟩; refine ⟨_, rfl, ?_⟩; have HO359 := aM (Kd.R_lower (Kd.R_new' (Kd.R_new' (Kd.R_new' ho0 (Kd.R_lt (dR HO348.out))) (Kd.R_lt (dR HO352.out))) (Kd.R_lt (dR HO355.out))) (below_size eB)); have HO362 := aM (Kd.R_lower (Kd.R_new' (Kd.R_new' (Kd.R_new' ho1 (Kd.R_lt (dR HO348.out))) (Kd.R_lt (dR HO352.out))) (Kd.R_lt (dR HO355.out))) (below_size eB)); replace HO348 := aM (Kd.R_mono (Kd.R_told (Kd.R_told (Kd.R_old (dR HO348.out) hb) (Kd.R_base ho0)) (Kd.R_base ho1)) (fun _ h_ => h_.1)); replace HO352 := aM (Kd.R_mono (Kd.R_told (Kd.R_told (Kd.R_old (dR HO352.out) hb) (Kd.R_base ho0)) (Kd.R_base ho1)) (fun _ h_ => h_.1)); replace HO355 := aM (Kd.R_mono (Kd.R_told (Kd.R_told (Kd.R_old (dR HO355.out) hb) (Kd.R_base ho0)) (Kd.R_base ho1)) (fun _ h_ => h_.1)); replace BK333 := bB BK333.out hb; replace HB := hS HB.out hb; (try clear hb); (try clear ho0); (try clear ho1)) | ((with_reducible refine gate_dst (N := 10) rfl ?_); refine bE 10 #[.bool false, .slice none 0 0, .slice none 0 0] 46 ?_; intro gb364 hg w27 hbox hb; replace HO348 := oB HO348.out hb; replace HO352 := oB HO352.out hb; replace HO355 := oB HO355.out hb; replace HO359 := oB HO359.out hb; replace HO362 := oB HO362.out hb; have BK364 := aM (hbox); have GE364 : Aside0 (w.heap.size ≤ gb364) := gE hg; replace HB := hS HB.out hb; have NB333_364 := nL hg BK333.out; have NB364_333 := nG hg BK333.out; replace BK333 := bB BK333.out hb; clear hb hbox hg; have hnb28 := NB364_333.out; have hnc28 := NB333_364.out; obtain ⟨hcz29_0, hcz29_1, hcz29_2⟩ := cz3 BK364.out; obtain ⟨hfz29_0, hfz29_1, hfz29_2⟩ := fz3 BK364.out; obtain ⟨Ao30, co30, rfl⟩ := Kd.R_slice HO359.out; obtain ⟨Ao31, co31, rfl⟩ := Kd.R_slice HO362.out))
    have n0_ : Aside0 (Kd.R (Kd.int .u64) 26 (((w27.setCell ⟨gb364, 0, none⟩ (.bool t356)).setCell ⟨gb364, 1, none⟩ (.slice Ao30 t357.length co30)).setCell ⟨gb364, 2, none⟩ (.slice Ao31 t360.length co31)) w.heap.size (fun k_ => some k_ ≠ (.slice Ao25 t349.length co25 : Value).ownBlock ∧ some k_ ≠ (.slice Ao24 y353.length co24 : Value).ownBlock ∧ some k_ ≠ (.slice Ao30 t357.length co30 : Value).ownBlock ∧ some k_ ≠ (.slice Ao31 t360.length co31 : Value).ownBlock) (.slice Ao20 y346.length co20) y346) := ⟨by (with_reducible repeat (first | apply Kd.R_alloc | apply Kd.R_drewN | apply Kd.R_drew)); exact Kd.R_mono (Kd.R_far (p := ⟨gb364, 2, none⟩) (Kd.R_far (p := ⟨gb364, 1, none⟩) (Kd.R_far (p := ⟨gb364, 0, none⟩) (Kd.R_types HO348.out BK364.out (by decide)) (fun _ hk => hk.2) (.bool t356)) (fun _ hk => hk.2) (.slice Ao30 t357.length co30)) (fun _ hk => hk.2) (.slice Ao31 t360.length co31)) (fun _ hk => ⟨hk.1.1.1.1.2, ⟨hk.1.1.1.2, ⟨hk.1.1.2, hk.1.2⟩⟩⟩)⟩
    have n1_ : Aside0 (Kd.R (Kd.int .u64) 26 (((w27.setCell ⟨gb364, 0, none⟩ (.bool t356)).setCell ⟨gb364, 1, none⟩ (.slice Ao30 t357.length co30)).setCell ⟨gb364, 2, none⟩ (.slice Ao31 t360.length co31)) w.heap.size (fun k_ => some k_ ≠ (.slice Ao20 y346.length co20 : Value).ownBlock ∧ some k_ ≠ (.slice Ao24 y353.length co24 : Value).ownBlock ∧ some k_ ≠ (.slice Ao30 t357.length co30 : Value).ownBlock ∧ some k_ ≠ (.slice Ao31 t360.length co31 : Value).ownBlock) (.slice Ao25 t349.length co25) t349) := ⟨by (with_reducible repeat (first | apply Kd.R_alloc | apply Kd.R_drewN | apply Kd.R_drew)); exact Kd.R_mono (Kd.R_far (p := ⟨gb364, 2, none⟩) (Kd.R_far (p := ⟨gb364, 1, none⟩) (Kd.R_far (p := ⟨gb364, 0, none⟩) (Kd.R_types HO352.out BK364.out (by decide)) (fun _ hk => hk.2) (.bool t356)) (fun _ hk => hk.2) (.slice Ao30 t357.length co30)) (fun _ hk => hk.2) (.slice Ao31 t360.length co31)) (fun _ hk => ⟨hk.1.1.1.1.2, ⟨hk.1.1.1.2, ⟨hk.1.1.2, hk.1.2⟩⟩⟩)⟩
    have n2_ : Aside0 (Kd.R (Kd.int .u64) 26 (((w27.setCell ⟨gb364, 0, none⟩ (.bool t356)).setCell ⟨gb364, 1, none⟩ (.slice Ao30 t357.length co30)).setCell ⟨gb364, 2, none⟩ (.slice Ao31 t360.length co31)) w.heap.size (fun k_ => some k_ ≠ (.slice Ao20 y346.length co20 : Value).ownBlock ∧ some k_ ≠ (.slice Ao25 t349.length co25 : Value).ownBlock ∧ some k_ ≠ (.slice Ao30 t357.length co30 : Value).ownBlock ∧ some k_ ≠ (.slice Ao31 t360.length co31 : Value).ownBlock) (.slice Ao24 y353.length co24) y353) := ⟨by (with_reducible repeat (first | apply Kd.R_alloc | apply Kd.R_drewN | apply Kd.R_drew)); exact Kd.R_mono (Kd.R_far (p := ⟨gb364, 2, none⟩) (Kd.R_far (p := ⟨gb364, 1, none⟩) (Kd.R_far (p := ⟨gb364, 0, none⟩) (Kd.R_types HO355.out BK364.out (by decide)) (fun _ hk => hk.2) (.bool t356)) (fun _ hk => hk.2) (.slice Ao30 t357.length co30)) (fun _ hk => hk.2) (.slice Ao31 t360.length co31)) (fun _ hk => ⟨hk.1.1.1.1.2, ⟨hk.1.1.1.2, ⟨hk.1.1.2, hk.1.2⟩⟩⟩)⟩
    have n3_ : Aside0 (Kd.R (Kd.int .u64) 26 (((w27.setCell ⟨gb364, 0, none⟩ (.bool t356)).setCell ⟨gb364, 1, none⟩ (.slice Ao30 t357.length co30)).setCell ⟨gb364, 2, none⟩ (.slice Ao31 t360.length co31)) w.heap.size (fun k_ => some k_ ≠ (.slice Ao20 y346.length co20 : Value).ownBlock ∧ some k_ ≠ (.slice Ao25 t349.length co25 : Value).ownBlock ∧ some k_ ≠ (.slice Ao24 y353.length co24 : Value).ownBlock ∧ some k_ ≠ (.slice Ao31 t360.length co31 : Value).ownBlock) (.slice Ao30 t357.length co30) t357) := ⟨by (with_reducible repeat (first | apply Kd.R_alloc | apply Kd.R_drewN | apply Kd.R_drew)); exact Kd.R_mono (Kd.R_far (p := ⟨gb364, 2, none⟩) (Kd.R_far (p := ⟨gb364, 1, none⟩) (Kd.R_far (p := ⟨gb364, 0, none⟩) (Kd.R_types HO359.out BK364.out (by decide)) (fun _ hk => hk.2) (.bool t356)) (fun _ hk => hk.2) (.slice Ao30 t357.length co30)) (fun _ hk => hk.2) (.slice Ao31 t360.length co31)) (fun _ hk => ⟨hk.1.1.1.2, ⟨hk.1.1.2, ⟨hk.1.2, hk.1.1.1.1⟩⟩⟩)⟩
    have n4_ : Aside0 (Kd.R (Kd.int .u64) 26 (((w27.setCell ⟨gb364, 0, none⟩ (.bool t356)).setCell ⟨gb364, 1, none⟩ (.slice Ao30 t357.length co30)).setCell ⟨gb364, 2, none⟩ (.slice Ao31 t360.length co31)) w.heap.size (fun k_ => some k_ ≠ (.slice Ao20 y346.length co20 : Value).ownBlock ∧ some k_ ≠ (.slice Ao25 t349.length co25 : Value).ownBlock ∧ some k_ ≠ (.slice Ao24 y353.length co24 : Value).ownBlock ∧ some k_ ≠ (.slice Ao30 t357.length co30 : Value).ownBlock) (.slice Ao31 t360.length co31) t360) := ⟨by (with_reducible repeat (first | apply Kd.R_alloc | apply Kd.R_drewN | apply Kd.R_drew)); exact Kd.R_mono (Kd.R_far (p := ⟨gb364, 2, none⟩) (Kd.R_far (p := ⟨gb364, 1, none⟩) (Kd.R_far (p := ⟨gb364, 0, none⟩) (Kd.R_types HO362.out BK364.out (by decide)) (fun _ hk => hk.2) (.bool t356)) (fun _ hk => hk.2) (.slice Ao30 t357.length co30)) (fun _ hk => hk.2) (.slice Ao31 t360.length co31)) (fun _ hk => ⟨hk.1.1.1.2, ⟨hk.1.1.2, ⟨hk.1.2, hk.1.1.1.1⟩⟩⟩)⟩
    have n5_ : Aside0 ((((w27.setCell ⟨gb364, 0, none⟩ (.bool t356)).setCell ⟨gb364, 1, none⟩ (.slice Ao30 t357.length co30)).setCell ⟨gb364, 2, none⟩ (.slice Ao31 t360.length co31)).heap[gb333]? = some (.cells #[.bool false, .slice none 0 0, .slice none 0 0] 46 (0, 0))) := ⟨dQ1 BK333.out NB333_364.out⟩
    have n6_ : Aside0 ((((w27.setCell ⟨gb364, 0, none⟩ (.bool t356)).setCell ⟨gb364, 1, none⟩ (.slice Ao30 t357.length co30)).setCell ⟨gb364, 2, none⟩ (.slice Ao31 t360.length co31)).heap[gb364]? = some (.cells #[.bool t356, .slice Ao30 t357.length co30, .slice Ao31 t360.length co31] 46 (0, 0))) := ⟨dP BK364.out⟩
    have n7_ : Aside0 (Below w.heap.size w (((w27.setCell ⟨gb364, 0, none⟩ (.bool t356)).setCell ⟨gb364, 1, none⟩ (.slice Ao30 t357.length co30)).setCell ⟨gb364, 2, none⟩ (.slice Ao31 t360.length co31))) := ⟨eB⟩
    (try clear HO348)
    (try clear HO352)
    (try clear HO355)
    (try clear HO359)
    (try clear HO362)
    (try clear BK333)
    (try clear BK364)
    (try clear HB)
    generalize (((w27.setCell ⟨gb364, 0, none⟩ (.bool t356)).setCell ⟨gb364, 1, none⟩ (.slice Ao30 t357.length co30)).setCell ⟨gb364, 2, none⟩ (.slice Ao31 t360.length co31)) = w32 at n0_ n1_ n2_ n3_ n4_ n5_ n6_ n7_ ⊢
    have HO348 := n0_
    have HO352 := n1_
    have HO355 := n2_
    have HO359 := n3_
    have HO362 := n4_
    have BK333 := n5_
    have BK364 := n6_
    have HB := n7_
    clear n0_ n1_ n2_ n3_ n4_ n5_ n6_ n7_
    replace HO348 := aM (Kd.R_drew HO348.out)
    replace HO352 := aM (Kd.R_drew HO352.out)
    replace HO355 := aM (Kd.R_drew HO355.out)
    replace HO359 := aM (Kd.R_drew HO359.out)
    replace HO362 := aM (Kd.R_drew HO362.out)
    replace BK333 := aM (blk_drew BK333.out)
    replace BK364 := aM (blk_drew BK364.out)
    replace HB := aM (below_drew1 HB.out)
    refine start_ (n := 11) (S := fun w' => w'.cell? ⟨gb364, 0, none⟩ = some (.bool t356) ∧ w'.cell? ⟨gb364, 1, none⟩ = some (.slice Ao30 t357.length co30) ∧ w'.cell? ⟨gb364, 2, none⟩ = some (.slice Ao31 t360.length co31)) (ds := []) #[false, false, false, false, false, false, false, false, false, false, false] (by kernel_rfl) rfl rfl (cz3 BK364.out) (fun hHeld => ?_); refine with_tabW plumblaw07_value.tab8 plumblaw07_value.bits8 (fun HT_ HW_ => ?_)
    generalize w32.drew = w33 at HO348 HO352 HO355 HO359 HO362 BK333 BK364 HB hHeld ⊢
    refine pP 1 (some 45) ?_
    refine pH3 0 (some 44) hHeld ?_
    refine one_ (i := 2) (N := some 46) #[true, true, true, false, false, false, false, false, false, false, false] rfl rfl (one_of HT_.out (by kernel_rfl)) (by decide) (fun K hK => ?_)
    refine goes_ Tryd.func15 (by kernel_rfl) rfl #[.int .i64 t350] (by rfl) rfl rfl dA ?_
    with_reducible refine (plumblaw07_num.calls t350 t365 _ A14.out).mono ?_
    rintro e w' ⟨rfl, ⟨nd, rfl⟩⟩
    refine ⟨_, rfl, ?_⟩
    refine hK.out _ _ (cz3 BK364.out) (fun hHeld => ?_)
    clear hK K
    refine norm_ (a' := ?_) ?_ ?_
    rotate_left
    ·show Act.put _ (some 46) _ = _
     simp only [Act.put, List.setIfInBounds_toArray, List.set_cons_zero, List.set_cons_succ, i64_w, i32_w]
     rfl
    refine pP 3 (some 47) ?_
    refine pP 4 (some 48) ?_
    refine pP 5 (some 49) ?_
    refine one_ (i := 6) (N := some 50) #[true, true, true, true, true, true, true, false, false, false, false] rfl rfl (one_of HT_.out (by kernel_rfl)) (by decide) (fun K hK => ?_)
    refine goes_ Tryd.func15 (by kernel_rfl) rfl #[.int .i64 t363] (by rfl) rfl rfl dA ?_
    with_reducible refine (plumblaw07_num.calls t363 t366 _ A16.out).mono ?_
    rintro e w' ⟨rfl, ⟨nd, rfl⟩⟩
    refine ⟨_, rfl, ?_⟩
    refine hK.out _ _ (cz3 BK364.out) (fun hHeld => ?_)
    clear hK K
    refine norm_ (a' := ?_) ?_ ?_
    rotate_left
    ·show Act.put _ (some 50) _ = _
     simp only [Act.put, List.setIfInBounds_toArray, List.set_cons_zero, List.set_cons_succ, i64_w, i32_w]
     rfl
    refine pP 7 (some 51) ?_
    refine pP 8 (some 52) ?_
    refine one_ (i := 9) (N := none) #[true, true, true, true, true, true, true, true, true, true, false] rfl rfl (one_of HT_.out (by kernel_rfl)) (by decide) (fun K hK => ?_)
    have hs34 : w33.cell? ⟨gb333, 0, none⟩ = some (.bool false) := (blk_cell BK333.out 0).trans rfl
    have hfs34 := blk_frozen BK333.out 0
    have hns34_1 := NB364_333.out
    have hms34_1 := NB333_364.out
    have hs35 : w33.cell? ⟨gb333, 1, none⟩ = some (.slice none 0 0) := (blk_cell BK333.out 1).trans rfl
    have hfs35 := blk_frozen BK333.out 1
    have hns35_1 := NB364_333.out
    have hms35_1 := NB333_364.out
    have hs36 : w33.cell? ⟨gb333, 2, none⟩ = some (.slice none 0 0) := (blk_cell BK333.out 2).trans rfl
    have hfs36 := blk_frozen BK333.out 2
    have hns36_1 := NB364_333.out
    have hms36_1 := NB333_364.out
    refine skip_ (w1 := ?_) (by rfl) rfl ?_ ?_
    rotate_left
    ·go_simp
     rfl
    refine hK.out _ _ ⟨((cell_far (p := ⟨gb333, _, none⟩) NB364_333.out _).trans (((cell_far (p := ⟨gb333, _, none⟩) NB364_333.out _).trans (((cell_far (p := ⟨gb333, _, none⟩) NB364_333.out _).trans (hHeld.1)))))), ((cell_far (p := ⟨gb333, _, none⟩) NB364_333.out _).trans (((cell_far (p := ⟨gb333, _, none⟩) NB364_333.out _).trans (((cell_far (p := ⟨gb333, _, none⟩) NB364_333.out _).trans (hHeld.2.1)))))), ((cell_far (p := ⟨gb333, _, none⟩) NB364_333.out _).trans (((cell_far (p := ⟨gb333, _, none⟩) NB364_333.out _).trans (((cell_far (p := ⟨gb333, _, none⟩) NB364_333.out _).trans (hHeld.2.2))))))⟩ (fun hHeld => ?_)
    clear hK K
    refine pP 10 (some 3) ?_
    refine done_ (done_of HT_.out (by kernel_rfl)) ?_
    try go_wp2
    refine bodyPost_ret (results_ct rfl _ _ gb333 46 #[.bool t356, .slice Ao30 t357.length co30, .slice Ao31 t360.length co31] (0, 0) _ rfl (dP BK333.out) Tryd.underlying46 rfl (by kernel_rfl)) rfl ?_
    exact ⟨_, _, dE, by (with_reducible repeat (first | apply Kd.R_alloc | apply Kd.R_drewN | apply Kd.R_drew)); exact Kd.R_mono (Kd.R_far (p := ⟨gb333, 2, none⟩) (Kd.R_far (p := ⟨gb333, 1, none⟩) (Kd.R_far (p := ⟨gb333, 0, none⟩) (Kd.R_types HO359.out BK333.out (by decide)) (fun _ hk => hk.2) (.bool t356)) (fun _ hk => hk.2) (.slice Ao30 t357.length co30)) (fun _ hk => hk.2) (.slice Ao31 t360.length co31)) (fun _ hk => hk.1.2.2.2), by (with_reducible repeat (first | apply Kd.R_alloc | apply Kd.R_drewN | apply Kd.R_drew)); exact Kd.R_mono (Kd.R_far (p := ⟨gb333, 2, none⟩) (Kd.R_far (p := ⟨gb333, 1, none⟩) (Kd.R_far (p := ⟨gb333, 0, none⟩) (Kd.R_types HO362.out BK333.out (by decide)) (fun _ hk => hk.2) (.bool t356)) (fun _ hk => hk.2) (.slice Ao30 t357.length co30)) (fun _ hk => hk.2) (.slice Ao31 t360.length co31)) (fun _ hk => hk.1.2.2.2), eB⟩
   ·rw [if_neg c15] at H
    have c15b0 : (t365 == 0) = false := beq_eq_false_iff_ne.mpr c15
    have c15b1 : (t365 != 0) = true := bne_iff_ne.mpr c15
    exact absurd H (by simp)
 ·rw [if_neg c4] at H
  have c4b0 : (t338 == 0) = false := beq_eq_false_iff_ne.mpr c4
  have c4b1 : (t338 != 0) = true := bne_iff_ne.mpr c4
  exact absurd H (by simp)
def plumblaw07_size.f (a0_0 : Bool) (l0_1 : List Int) (l0_2 : List Int) : Option (Bool × List Int × List Int) := some (false, l0_1, l0_2)
set_option maxHeartbeats 8000000 in
set_option maxRecDepth 100000 in
theorem plumblaw07_size.calls (a0_0 : Bool) (P0_1_ : Nat → Prop) (u9000_ : Value) (l0_1 : List Int) (P0_2_ : Nat → Prop) (u9001_ : Value) (l0_2 : List Int) (r1 : Bool) (r2 : List Int) (r3 : List Int) (w0 w : World) (hB : Below w0.heap.size w0 w) (ho0_1 : Kd.R (Kd.int .u64) 26 w w0.heap.size P0_1_ u9000_ l0_1) (hp0_1_0_2 : ∀ k_, P0_1_ k_ → ¬ P0_2_ k_) (ho0_2 : Kd.R (Kd.int .u64) 26 w w0.heap.size P0_2_ u9001_ l0_2) (hp0_2_0_1 : ∀ k_, P0_2_ k_ → ¬ P0_1_ k_) (h : plumblaw07_size.f a0_0 l0_1 l0_2 = some (r1, r2, r3)) :
  Calls Tryd.prog 26 #[.agg #[.bool a0_0, u9000_, u9001_]] w fun e w' => ∃ v1_ v2_ : Value, e = .returned (.agg #[.bool r1, v1_, v2_]) ∧ Kd.R (Kd.int .u64) 26 w' w0.heap.size (fun k_ => ((P0_1_ k_ ∨ P0_2_ k_) ∨ w.heap.size ≤ k_) ∧ some k_ ≠ (v2_ : Value).ownBlock) v1_ r2 ∧ Kd.R (Kd.int .u64) 26 w' w0.heap.size (fun k_ => ((P0_1_ k_ ∨ P0_2_ k_) ∨ w.heap.size ≤ k_) ∧ some k_ ≠ (v1_ : Value).ownBlock) v2_ r3 ∧ Below w0.heap.size w0 w' ∧ Kept w w' (fun k_ => P0_1_ k_ ∨ P0_2_ k_) := by
 have hu46 := Tryd.underlying46
 have HO0_1 := aM (show Kd.R (Kd.int .u64) 26 w w0.heap.size (fun k_ => ((P0_1_ k_ ∨ P0_2_ k_) ∨ w.heap.size ≤ k_) ∧ some k_ ≠ (u9001_ : Value).ownBlock) u9000_ l0_1 from Kd.R_mono ho0_1 (fun k_ hk => ⟨(.inl (.inl hk)), fun e_ => hp0_1_0_2 k_ hk (ho0_2.1 k_ e_.symm)⟩))
 have HO0_2 := aM (show Kd.R (Kd.int .u64) 26 w w0.heap.size (fun k_ => ((P0_1_ k_ ∨ P0_2_ k_) ∨ w.heap.size ≤ k_) ∧ some k_ ≠ (u9000_ : Value).ownBlock) u9001_ l0_2 from Kd.R_mono ho0_2 (fun k_ hk => ⟨(.inl (.inr hk)), fun e_ => hp0_2_0_1 k_ hk (ho0_1.1 k_ e_.symm)⟩))
 have HK := aM (Kept.refl w (fun k_ => P0_1_ k_ ∨ P0_2_ k_))
 have HW0 := aM hB.size
 have HB := aM hB
 clear hB
 have H := h
 clear h
 unfold plumblaw07_size.f at H
 simp only [Option.some.injEq, Prod.mk.injEq] at H
 obtain ⟨rfl, rfl, rfl⟩ := H
 obtain ⟨Ao2, co2, rfl⟩ := Kd.R_slice HO0_1.out
 obtain ⟨Ao3, co3, rfl⟩ := Kd.R_slice HO0_2.out
 go_enter Tryd.func26, Tryd.ntmps26
 go_wp2_with (first | ((with_reducible refine gate_dst (N := 1) rfl ?_); refine bE 1 #[.bool a0_0, .slice Ao2 l0_1.length co2, .slice Ao3 l0_2.length co3] 46 ?_; intro gb367 hg w4 hbox hb; replace HO0_1 := oB HO0_1.out hb; replace HO0_2 := oB HO0_2.out hb; have BK367 := aM (hbox); have GW367 := aM ((by rw [hg]; exact (by first | exact HK.out.1 | exact (show Kept w _ (fun k_ => P0_1_ k_ ∨ P0_2_ k_) from by repeat (first | (with_reducible first | exact HK.out | apply Kept.alloc | apply Kept.drewN | apply Kept.drew) | exact HK.out)).1) : w.heap.size ≤ gb367)); replace HK := aM (Kept.below (S := (fun k_ => P0_1_ k_ ∨ P0_2_ k_)) (by repeat (first | (with_reducible first | exact HK.out | apply Kept.alloc | apply Kept.drewN | apply Kept.drew) | exact HK.out)) hb); have GE367 : Aside0 (w0.heap.size ≤ gb367) := gE hg; replace HB := hS HB.out hb; clear hb hbox hg) | ((with_reducible refine gate_dst (N := 2) rfl ?_); refine bE 2 #[.bool false, .slice none 0 0, .slice none 0 0] 46 ?_; intro gb368 hg w5 hbox hb; replace HO0_1 := oB HO0_1.out hb; replace HO0_2 := oB HO0_2.out hb; have BK368 := aM (hbox); have GW368 := aM ((by rw [hg]; exact (by first | exact HK.out.1 | exact (show Kept w _ (fun k_ => P0_1_ k_ ∨ P0_2_ k_) from by repeat (first | (with_reducible first | exact HK.out | apply Kept.alloc | apply Kept.drewN | apply Kept.drew | refine Kept.setCell ?_ (.inr GW367.out) _) | exact HK.out)).1) : w.heap.size ≤ gb368)); replace HK := aM (Kept.below (S := (fun k_ => P0_1_ k_ ∨ P0_2_ k_)) (by repeat (first | (with_reducible first | exact HK.out | apply Kept.alloc | apply Kept.drewN | apply Kept.drew | refine Kept.setCell ?_ (.inr GW367.out) _) | exact HK.out)) hb); have GE368 : Aside0 (w0.heap.size ≤ gb368) := gE hg; replace HB := hS HB.out hb; have NB367_368 := nL hg BK367.out; have NB368_367 := nG hg BK367.out; replace BK367 := bB BK367.out hb; clear hb hbox hg; have hnb6 := NB367_368.out; have hnc6 := NB368_367.out; obtain ⟨hcz7_0, hcz7_1, hcz7_2⟩ := cz3 BK367.out; obtain ⟨hfz7_0, hfz7_1, hfz7_2⟩ := fz3 BK367.out; obtain ⟨hcz8_0, hcz8_1, hcz8_2⟩ := cz3 BK368.out; obtain ⟨hfz8_0, hfz8_1, hfz8_2⟩ := fz3 BK368.out))
 refine bodyPost_ret (results_cell_row rfl _ _ gb368 46 #[.bool false, .slice Ao2 l0_1.length co2, .slice Ao3 l0_2.length co3] (0, 0) _ rfl (dQ1 BK368.out NB368_367.out) Tryd.underlying46 rfl (by kernel_rfl)) rfl ?_
 exact ⟨_, _, dE, by (with_reducible repeat (first | apply Kd.R_alloc | apply Kd.R_drewN | apply Kd.R_drew)); exact Kd.R_mono (Kd.R_far (p := ⟨gb368, 2, none⟩) (Kd.R_far (p := ⟨gb368, 1, none⟩) (Kd.R_far (p := ⟨gb368, 0, none⟩) (Kd.R_far (p := ⟨gb367, 0, none⟩) (Kd.R_types (Kd.R_types HO0_1.out BK367.out (by decide)) BK368.out (by decide)) (fun _ hk => hk.1.2) (.bool false)) (fun _ hk => hk.2) (.bool false)) (fun _ hk => hk.2) (.slice Ao2 l0_1.length co2)) (fun _ hk => hk.2) (.slice Ao3 l0_2.length co3)) (fun _ hk => ⟨hk.1.1.1, hk.1.1.2⟩), by (with_reducible repeat (first | apply Kd.R_alloc | apply Kd.R_drewN | apply Kd.R_drew)); exact Kd.R_mono (Kd.R_far (p := ⟨gb368, 2, none⟩) (Kd.R_far (p := ⟨gb368, 1, none⟩) (Kd.R_far (p := ⟨gb368, 0, none⟩) (Kd.R_far (p := ⟨gb367, 0, none⟩) (Kd.R_types (Kd.R_types HO0_2.out BK367.out (by decide)) BK368.out (by decide)) (fun _ hk => hk.1.2) (.bool false)) (fun _ hk => hk.2) (.bool false)) (fun _ hk => hk.2) (.slice Ao2 l0_1.length co2)) (fun _ hk => hk.2) (.slice Ao3 l0_2.length co3)) (fun _ hk => ⟨hk.1.1.1, hk.1.1.2⟩), eB, by repeat (first | (with_reducible first | exact HK.out | apply Kept.alloc | apply Kept.drewN | apply Kept.drew | refine Kept.setCell ?_ (.inr GW367.out) _ | refine Kept.setCell ?_ (.inr GW368.out) _) | exact HK.out)⟩
def rat_normal.f (l0 : List Int) : Option (Bool) := if (l0.length : Int) ≤ 4096 then (if (l0.length : Int) = 0 then (some true) else (if 0 ≤ (wrap64 ((l0.length : Int) - 1)) then (if (wrap64 ((l0.length : Int) - 1)) < (l0.length : Int) then (some ((rd l0 (wrap64 ((l0.length : Int) - 1))) != 0)) else (none)) else (none))) else (some false)
set_option maxHeartbeats 8000000 in
set_option maxRecDepth 100000 in
theorem rat_normal.calls (A0 : Option Addr) (c0 : Nat) (l0 : List Int) (r : Bool) (w : World) (hr0 : Kd.C (Kd.int .u64) w A0 l0.length l0) (hc0 : l0.length ≤ c0) (h : rat_normal.f l0 = some r) :
  Calls Tryd.prog 96 #[.slice A0 l0.length c0] w fun e w' => e = .returned (.bool r) ∧ Drawn0 w w' := by
 have HR0 := aM hr0
 have HC0 := aM hc0
 clear hr0 hc0
 have H := h
 clear h
 unfold rat_normal.f at H
 by_cases c2 : (l0.length : Int) ≤ 4096
 ·rw [if_pos c2] at H
  have c2b0 : decide ((l0.length : Int) ≤ 4096) = true := decide_eq_true c2
  have c2b1 : decide (l0.length ≤ 4096) = true := decide_eq_true (by omega)
  clear c2
  by_cases c3 : (l0.length : Int) = 0
  ·rw [if_pos c3] at H
   have c3b0 : ((l0.length : Int) == 0) = true := beq_iff_eq.mpr c3
   have c3b1 : ((l0.length : Int) != 0) = false := bne_eq_false_iff_eq.mpr c3
   clear c3
   obtain rfl := Option.some.inj H
   go_enter Tryd.func96, Tryd.ntmps96
   go_wp2
   go_ret
   exact ⟨by first | rfl | (simp; done) | (simp [*]; done), by repeat (first | exact Drawn0.refl _ | apply Drawn0.step)⟩
  ·rw [if_neg c3] at H
   have c3b0 : ((l0.length : Int) == 0) = false := beq_eq_false_iff_ne.mpr c3
   have c3b1 : ((l0.length : Int) != 0) = true := bne_iff_ne.mpr c3
   have c3b2 : ¬ (l0 = []) := fun h_ => c3 (by rw [h_]; rfl)
   obtain ⟨ji4, hji4⟩ : ∃ j_ : Int, (wrap64 ((l0.length : Int) - 1)) = j_ := ⟨_, rfl⟩
   first | rw [hji4] at H | simp only [hji4] at H
   have hji4w : (IntKind.i64.wrap ((l0.length : Int) - 1)) = ji4 := (i64_w _).trans hji4
   by_cases c5 : (0 : Int) ≤ (ji4)
   ·rw [if_pos c5] at H
    have c5b0 : decide (0 ≤ (ji4)) = true := decide_eq_true c5
    clear c5
    by_cases c6 : (ji4) < (l0.length : Int)
    ·rw [if_pos c6] at H
     have c6b0 : decide ((ji4) < (l0.length : Int)) = true := decide_eq_true c6
     clear c6
     obtain rfl := Option.some.inj H
     have p369 : 0 ≤ ((ji4) : Int) := of_decide_eq_true dS
     have q369 : (ji4) < (l0.length : Int) := of_decide_eq_true dS
     obtain ⟨ad369, e369, hx369_0⟩ := Kd.at_int HR0.out (ji4) p369 q369
     cases e369
     replace p369 := eq_true p369
     replace q369 := eq_true q369
     go_enter Tryd.func96, Tryd.ntmps96
     go_wp2
     go_ret
     exact ⟨by first | rfl | (simp; done) | (simp only [← hji4] <;> (first | rfl | simp)) | (simp [*]; done), by repeat (first | exact Drawn0.refl _ | apply Drawn0.step)⟩
    ·rw [if_neg c6] at H
     exact absurd H (by simp)
   ·rw [if_neg c5] at H
    exact absurd H (by simp)
 ·rw [if_neg c2] at H
  have c2b0 : decide ((l0.length : Int) ≤ 4096) = false := decide_eq_false c2
  have c2b1 : decide (l0.length ≤ 4096) = false := decide_eq_false (by omega)
  clear c2
  obtain rfl := Option.some.inj H
  go_enter Tryd.func96, Tryd.ntmps96
  go_wp2
  go_ret
  exact ⟨by first | rfl | (simp; done) | (simp [*]; done), by repeat (first | exact Drawn0.refl _ | apply Drawn0.step)⟩
end Go.Proofs.YtoefabmlkbhmpaaDoor.PA
