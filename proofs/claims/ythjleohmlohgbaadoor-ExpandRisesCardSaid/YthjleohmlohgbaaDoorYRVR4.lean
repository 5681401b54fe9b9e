/- A part of the proof (4). -/
import Derived.Test.YthjleohmlohgbaaDoorYRVR2
import Derived.Test.YthjleohmlohgbaaDoorYRVR3
namespace Go.Proofs.YthjleohmlohgbaaDoor.PA
open Go.RowKit Go.Proofs.YthjleohmlohgbaaDoorW.PrintWords Go.Proofs.YthjleohmlohgbaaDoorW.PrintLast Go.Proofs.YthjleohmlohgbaaDoorW.PrintMore
attribute [local go_sem] max2_int min2_int max_two min_two max_three min_three max_four min_four
set_option linter.unusedVariables false
set_option linter.unusedSimpArgs false
def cpyAt (xs ys : List Int) (q : Nat) : List Int := xs.take q ++ (ys.take (min ys.length (xs.length - q)) ++ xs.drop (q + min ys.length (xs.length - q)))
theorem cpyAt_length {xs ys : List Int} {q : Nat} (h : q ≤ xs.length) : (cpyAt xs ys q).length = xs.length := by
 unfold cpyAt
 rw [List.length_append, List.length_append, List.length_take, List.length_take, List.length_drop]
 omega
theorem shl_copied {yq y z : List Int} {q : Nat} (hl : yq.length = y.length) (h : y = cpyAt yq z q) :
  yq.take q ++ (z.take (min z.length (y.length - q)) ++ yq.drop (q + min z.length (y.length - q))) = y := by
 rw [← hl]
 conv => rhs; rw [h]
 rfl
def nat_Shl.l0 : Nat → Int → List Int → Int → Int → Option (List Int × Int)
 | 0, _, _, _, _ => none
 | k + 1, x1, x6, x7, x8 => if x8 > (wrap64 (Int.tdiv x1 64)) then (if 0 ≤ x8 then (if x8 < (x6.length : Int) then (if 0 ≤ (wrap64 (x8 - 1)) then (if (wrap64 (x8 - 1)) < (x6.length : Int) then ((wide_Shl.f (rd x6 x8) (rd x6 (wrap64 (x8 - 1))) x7).bind fun bt118 => (nat_Shl.l0 k x1 (x6.set (x8 : Int).toNat bt118.1) x7 (wrap64 (x8 - 1)))) else (none)) else (none)) else (none)) else (none)) else (if 0 ≤ (wrap64 (Int.tdiv x1 64)) then (if (wrap64 (Int.tdiv x1 64)) < (x6.length : Int) then (if 0 ≤ x7 then ((nat_bound.f k (x6.set ((wrap64 (Int.tdiv x1 64)) : Int).toNat (shl .u64 (rd x6 (wrap64 (Int.tdiv x1 64))) x7))).bind fun bt123 => (some (bt123.1, bt123.2))) else (none)) else (none)) else (none))
def nat_Shl.f (k : Nat) (l0 : List Int) (a1 : Int) : Option (List Int × Int) := (nat_size.f k l0).bind fun t110 => (if 0 ≤ t110 then (if t110 ≤ (l0.length : Int) then (if a1 < 0 then (some (([] : List Int), 22)) else (if ((l0.take (t110 : Int).toNat).length : Int) = 0 then (some (([] : List Int), 0)) else ((nat_Bits.f k (l0.take (t110 : Int).toNat)).bind fun t112 => (if a1 > (wrap64 (262144 - t112)) then (some (([] : List Int), 21)) else (if 0 ≤ (wrap64 ((wrap64 ((wrap64 (Int.tdiv a1 64)) + ((l0.take (t110 : Int).toNat).length : Int))) + 1)) then (if ((wrap64 ((wrap64 ((wrap64 (Int.tdiv a1 64)) + ((l0.take (t110 : Int).toNat).length : Int))) + 1) : Int).toNat ≤ 35184372088832 ∧ 0 ≤ (wrap64 (Int.tdiv a1 64)) ∧ (wrap64 (Int.tdiv a1 64)).toNat ≤ (wrap64 ((wrap64 ((wrap64 (Int.tdiv a1 64)) + ((l0.take (t110 : Int).toNat).length : Int))) + 1) : Int).toNat) then ((some (cpyAt (List.replicate (wrap64 ((wrap64 ((wrap64 (Int.tdiv a1 64)) + ((l0.take (t110 : Int).toNat).length : Int))) + 1) : Int).toNat 0) (l0.take (t110 : Int).toNat) (wrap64 (Int.tdiv a1 64)).toNat : List Int)).bind fun y113 => (if (Int.tmod a1 64) > 0 then (nat_Shl.l0 k a1 y113 (Int.tmod a1 64) (wrap64 ((y113.length : Int) - 1))) else ((nat_bound.f k y113).bind fun bt127 => (some (bt127.1, bt127.2))))) else (none)) else (none)))))) else (none)) else (none))
theorem nat_Shl.mono_l : ∀ k, (∀ y0 y1 y2 y3, LeO (nat_Shl.l0 k y0 y1 y2 y3) (nat_Shl.l0 (k + 1) y0 y1 y2 y3))
 | 0 => fun _ _ _ _ r h => by simp [nat_Shl.l0] at h
 | k + 1 => by
  have ih0 := nat_Shl.mono_l k
  ·intro y0 y1 y2 y3
   unfold nat_Shl.l0
   have m0_ := nat_Bits.mono
   have m1_ := nat_bound.mono
   have m2_ := nat_size.mono
   exact mX
theorem nat_Shl.mono : ∀ a0 a1 k, LeO (nat_Shl.f k a0 a1) (nat_Shl.f (k + 1) a0 a1) := by
 intro a0 a1 k
 have ih0 := nat_Shl.mono_l k
 unfold nat_Shl.f
 have m0_ := nat_Bits.mono
 have m1_ := nat_bound.mono
 have m2_ := nat_size.mono
 exact mX
def nat_Shl.T15 : Bool × List (List Nat × List Nat) := (true, [([], []), ([], []), ([], []), ([], []), ([2, 3], [2, 3]), ([4], [4]), ([], []), ([], []), ([7], [7]), ([6, 8], [6, 8]), ([9], [9]), ([], []), ([5, 10, 11], [5, 10, 11]), ([12], [12]), ([13], [13]), ([13], [13]), ([0, 1, 0, 1, 2, 3, 4, 5, 6, 7, 8, 9, 10, 11, 12, 13, 14], [0, 1]), ([16, 14, 12, 0, 1, 2, 3, 4, 5, 6, 7, 8, 9, 10, 11, 12, 13, 14], [14, 16])])
def nat_Shl.B15 : List Nat := [0, 0, 0, 0, 12, 28, 0, 0, 128, 448, 960, 0, 4092, 8188, 16380, 16380, 32767, 98303]
theorem nat_Shl.tab15 : rtab .any (opsOf Tryd.f35 15) = nat_Shl.T15 := by kernel_rfl
theorem nat_Shl.bits15 : waitsOk nat_Shl.T15.2 nat_Shl.B15 = true := by kernel_rfl
set_option maxHeartbeats 8000000 in
set_option maxRecDepth 100000 in
theorem nat_Shl.calls (k : Nat) (A0 : Option Addr) (c0 : Nat) (l0 : List Int) (a1 : Int) (r1 : List Int) (r2 : Int) (w : World) (hr0 : Kd.C (Kd.int .u64) w A0 l0.length l0) (hc0 : l0.length ≤ c0) (h : nat_Shl.f k l0 a1 = some (r1, r2)) :
  Calls Tryd.prog 35 #[.slice A0 l0.length c0, .int .i64 a1] w fun e w' => ∃ v0_ : Value, e = .returned (.tuple #[v0_, .int .i64 r2]) ∧ Kd.R (Kd.int .u64) 22 w' w.heap.size (fun _ => True) v0_ r1 ∧ Below w.heap.size w w' := by
 have HR0 := aM hr0
 have HC0 := aM hc0
 clear hr0 hc0
 have HB := aM (Below.refl w.heap.size w)
 have H := h
 clear h
 unfold nat_Shl.f at H
 replace H := oA H
 obtain ⟨t110, A3, H⟩ := H
 (try dsimp only at H)
 replace H := nO H
 obtain ⟨c4, H⟩ := H
 have c4b0 := eq_true c4
 have c4b1 : decide (0 ≤ t110) = true := decide_eq_true c4
 clear c4
 replace H := nO H
 obtain ⟨c5, H⟩ := H
 have c5b0 := eq_true c5
 have c5b1 := decide_eq_true c5
 clear c5
 obtain ⟨z110, Nz1100⟩ : ∃ z_ : List Int, (l0.take (t110 : Int).toNat) = z_ := ⟨_, rfl⟩
 rw [Nz1100] at H
 have Nz110 := aM Nz1100
 clear Nz1100
 by_cases c6 : a1 < 0
 ·rw [if_pos c6] at H
  have c6b0 := decide_eq_true c6
  clear c6
  simp only [Option.some.injEq, Prod.mk.injEq] at H
  obtain ⟨rfl, rfl⟩ := H
  go_enter Tryd.func35, Tryd.ntmps35
  go_wp2_with (first | ((with_reducible refine gate_callee (f := 33) rfl ?_); refine gL (some 11) Tryd.func33 #[.slice A0 l0.length c0] ?_; (with_reducible refine (nat_size.calls k _ _ l0 t110 _ ?side1 HC0.out A3.out).mono ?_); (case side1 => exact dC HR0.out); rintro e w' ⟨rfl, ⟨nd, rfl⟩⟩; refine ⟨_, rfl, ?_⟩; obtain ⟨i07, hi07, _, hsz7, _⟩ := info_parts info22; obtain ⟨hcut7, hA7, hC7⟩ := print_take_of (P := Tryd.prog) (Value.int .u64) 0 37 22 .i64 Tryd.underlying37 hi07 hsz7 A0 c0 l0 t110 (of_decide_eq_true dS) (of_decide_eq_true dS) HC0.out; rw [Nz110.out] at hcut7 hA7 hC7; have HR111 := aM (Kd.C_of_reads (h1 := fun _ => rfl) (hA7 _ (Kd.reads_of_C HR0.out))); have HC111 := aM hC7; clear hA7 hC7 hi07 hsz7))
  go_ret2
  exact ⟨_, dE, by first | exact Kd.R_nil _ _ _ _ _ | exact Kd.N_nil _ _ _ _ _ | exact Kd.V_nil _ _ _ _ _ | exact Kd.Q_nil _ _ _ _ _ | exact Kd.S_nil _ _ _ _ _, dB⟩
 ·rw [if_neg c6] at H
  have c6b0 := decide_eq_false c6
  clear c6
  by_cases c8 : (z110.length : Int) = 0
  ·rw [if_pos c8] at H
   obtain ⟨c8b0, c8b1⟩ := bT c8
   clear c8
   simp only [Option.some.injEq, Prod.mk.injEq] at H
   obtain ⟨rfl, rfl⟩ := H
   go_enter Tryd.func35, Tryd.ntmps35
   go_wp2_with (first | ((with_reducible refine gate_callee (f := 33) rfl ?_); refine gL (some 11) Tryd.func33 #[.slice A0 l0.length c0] ?_; (with_reducible refine (nat_size.calls k _ _ l0 t110 _ ?side1 HC0.out A3.out).mono ?_); (case side1 => exact dC HR0.out); rintro e w' ⟨rfl, ⟨nd, rfl⟩⟩; refine ⟨_, rfl, ?_⟩; obtain ⟨i09, hi09, _, hsz9, _⟩ := info_parts info22; obtain ⟨hcut9, hA9, hC9⟩ := print_take_of (P := Tryd.prog) (Value.int .u64) 0 37 22 .i64 Tryd.underlying37 hi09 hsz9 A0 c0 l0 t110 (of_decide_eq_true dS) (of_decide_eq_true dS) HC0.out; rw [Nz110.out] at hcut9 hA9 hC9; have HR111 := aM (Kd.C_of_reads (h1 := fun _ => rfl) (hA9 _ (Kd.reads_of_C HR0.out))); have HC111 := aM hC9; clear hA9 hC9 hi09 hsz9))
   go_ret2
   exact ⟨_, dE, by first | exact Kd.R_nil _ _ _ _ _ | exact Kd.N_nil _ _ _ _ _ | exact Kd.V_nil _ _ _ _ _ | exact Kd.Q_nil _ _ _ _ _ | exact Kd.S_nil _ _ _ _ _, dB⟩
  ·rw [if_neg c8] at H
   obtain ⟨c8b0, c8b1⟩ := bF c8
   have c8b2 : ¬ (z110 = []) := fun h_ => c8 (by rw [h_]; rfl)
   replace H := oA H
   obtain ⟨t112, A10, H⟩ := H
   (try dsimp only at H)
   by_cases c11 : a1 > (wrap64 (262144 - t112))
   ·rw [if_pos c11] at H
    have c11b0 : decide ((wrap64 (262144 - t112)) < a1) = true := decide_eq_true c11
    clear c11
    simp only [Option.some.injEq, Prod.mk.injEq] at H
    obtain ⟨rfl, rfl⟩ := H
    go_enter Tryd.func35, Tryd.ntmps35
    go_wp2_with (first | ((with_reducible refine gate_callee (f := 33) rfl ?_); refine gL (some 11) Tryd.func33 #[.slice A0 l0.length c0] ?_; (with_reducible refine (nat_size.calls k _ _ l0 t110 _ ?side1 HC0.out A3.out).mono ?_); (case side1 => exact dC HR0.out); rintro e w' ⟨rfl, ⟨nd, rfl⟩⟩; refine ⟨_, rfl, ?_⟩; obtain ⟨i012, hi012, _, hsz12, _⟩ := info_parts info22; obtain ⟨hcut12, hA12, hC12⟩ := print_take_of (P := Tryd.prog) (Value.int .u64) 0 37 22 .i64 Tryd.underlying37 hi012 hsz12 A0 c0 l0 t110 (of_decide_eq_true dS) (of_decide_eq_true dS) HC0.out; rw [Nz110.out] at hcut12 hA12 hC12; have HR111 := aM (Kd.C_of_reads (h1 := fun _ => rfl) (hA12 _ (Kd.reads_of_C HR0.out))); have HC111 := aM hC12; clear hA12 hC12 hi012 hsz12) | ((with_reducible refine gate_callee (f := 50) rfl ?_); refine goesL_ (some 23) rfl rfl Tryd.func50 (by kernel_rfl) rfl #[.slice A0 z110.length c0] rfl (by (try simp only [List.map_toArray, List.map_cons, List.map_nil]); first | done | (rw [show z110.length = t110.toNat from (by rw [← Nz110.out, List.length_take]; have h_ : (t110 : Int) ≤ (l0.length : Int) := of_decide_eq_true dS; omega)] <;> rfl) | rfl | (simp only [List.length_drop, List.length_take]; rfl)) ?_; (with_reducible refine (nat_Bits.calls k _ _ z110 t112 _ ?side1 HC111.out A10.out).mono ?_); (case side1 => exact dC HR111.out); rintro e w' ⟨rfl, ⟨nd, rfl⟩⟩; refine ⟨_, rfl, ?_⟩))
    go_ret2
    exact ⟨_, dE, by first | exact Kd.R_nil _ _ _ _ _ | exact Kd.N_nil _ _ _ _ _ | exact Kd.V_nil _ _ _ _ _ | exact Kd.Q_nil _ _ _ _ _ | exact Kd.S_nil _ _ _ _ _, dB⟩
   ·rw [if_neg c11] at H
    have c11b0 : decide ((wrap64 (262144 - t112)) < a1) = false := decide_eq_false c11
    clear c11
    obtain ⟨ji13, hji13⟩ : ∃ j_ : Int, (wrap64 ((wrap64 ((wrap64 (Int.tdiv a1 64)) + (z110.length : Int))) + 1)) = j_ := ⟨_, rfl⟩
    first | rw [hji13] at H | simp only [hji13] at H
    (try rw [hji13] at A3)
    (try rw [hji13] at A10)
    have hji13w : (IntKind.i64.wrap ((wrap64 ((wrap64 (Int.tdiv a1 64)) + (z110.length : Int))) + 1)) = ji13 := (i64_w _).trans hji13
    replace H := nO H
    obtain ⟨c14, H⟩ := H
    have c14b0 := eq_true c14
    have c14b1 : decide (0 ≤ (ji13)) = true := decide_eq_true c14
    clear c14
    replace H := nO H
    obtain ⟨c15, H⟩ := H
    obtain ⟨c15, cq0, cq1⟩ := c15
    have c15b0 := eq_true c15
    have c15b1 : decide ((ji13 : Int).toNat ≤ 35184372088832) = true := decide_eq_true c15
    clear c15
    obtain ⟨yq, hyq⟩ : ∃ y_ : List Int, y_ = (List.replicate (ji13 : Int).toNat 0) := ⟨_, rfl⟩
    have ylq : yq.length = (ji13 : Int).toNat := by rw [hyq, List.length_replicate]
    rw [← hyq] at H
    have Nyq := aM hyq
    clear hyq
    obtain ⟨y113, hy113⟩ : ∃ y_ : List Int, y_ = (cpyAt yq z110 (wrap64 (Int.tdiv a1 64)).toNat) := ⟨_, rfl⟩
    have yl113 : yq.length = y113.length := by rw [hy113, cpyAt_length (by omega)]
    have cq2 : (wrap64 (Int.tdiv a1 64)) ≤ (y113.length : Int) := by omega
    have Cq := aM (And.intro cq0 (And.intro cq2 (And.intro yl113 hy113)))
    clear cq0 cq1 cq2 ylq yl113
    replace H : (if (Int.tmod a1 64) > 0 then (nat_Shl.l0 k a1 y113 (Int.tmod a1 64) (wrap64 ((y113.length : Int) - 1))) else ((nat_bound.f k y113).bind fun bt127 => (some (bt127.1, bt127.2)))) = some (r1, r2) := by first | (rw [hy113]; with_reducible exact H) | (have H2_ := (Option.bind_some _ _).symm.trans H; rw [hy113]; with_reducible exact H2_) | (have H2_ := (Option.bind_some _ _).symm.trans H; with_reducible exact H2_) | with_reducible exact H | (rw [hy113]; exact H) | exact H
    have Ny113 := aM hy113
    clear hy113
    by_cases c16 : (Int.tmod a1 64) > 0
    ·rw [if_pos c16] at H
     have c16b0 : decide (0 < (Int.tmod a1 64)) = true := decide_eq_true c16
     clear c16
     have H' := aM H
     clear H
     go_enter Tryd.func35, Tryd.ntmps35
     go_wp2_with (first | ((with_reducible refine gate_callee (f := 33) rfl ?_); refine gL (some 11) Tryd.func33 #[.slice A0 l0.length c0] ?_; (with_reducible refine (nat_size.calls k _ _ l0 t110 _ ?side1 HC0.out A3.out).mono ?_); (case side1 => exact dC HR0.out); rintro e w' ⟨rfl, ⟨nd, rfl⟩⟩; refine ⟨_, rfl, ?_⟩; obtain ⟨i017, hi017, _, hsz17, _⟩ := info_parts info22; obtain ⟨hcut17, hA17, hC17⟩ := print_take_of (P := Tryd.prog) (Value.int .u64) 0 37 22 .i64 Tryd.underlying37 hi017 hsz17 A0 c0 l0 t110 (of_decide_eq_true dS) (of_decide_eq_true dS) HC0.out; rw [Nz110.out] at hcut17 hA17 hC17; have HR111 := aM (Kd.C_of_reads (h1 := fun _ => rfl) (hA17 _ (Kd.reads_of_C HR0.out))); have HC111 := aM hC17; clear hA17 hC17 hi017 hsz17) | ((with_reducible refine gate_callee (f := 50) rfl ?_); refine goesL_ (some 23) rfl rfl Tryd.func50 (by kernel_rfl) rfl #[.slice A0 z110.length c0] rfl (by (try simp only [List.map_toArray, List.map_cons, List.map_nil]); first | done | (rw [show z110.length = t110.toNat from (by rw [← Nz110.out, List.length_take]; have h_ : (t110 : Int) ≤ (l0.length : Int) := of_decide_eq_true dS; omega)] <;> rfl) | rfl | (simp only [List.length_drop, List.length_take]; rfl)) ?_; (with_reducible refine (nat_Bits.calls k _ _ z110 t112 _ ?side1 HC111.out A10.out).mono ?_); (case side1 => exact dC HR111.out); rintro e w' ⟨rfl, ⟨nd, rfl⟩⟩; refine ⟨_, rfl, ?_⟩) | ((with_reducible refine gate_dst (N := 32) rfl ?_); refine Kd.R_make (Kd.int .u64) _ 22 rfl (N := 32) rfl 37 _ _ rfl ji13 rfl rfl Tryd.underlying37 (.int .u64 0) 8 info22 rfl (by decide) (by omega) 0 (ok := fun _ => True) (okp := fun _ => True) rfl (fun _ hk => hk) trivial (of_decide_eq_true dS) (Nat.le_trans (Nat.mul_le_mul_right _ (of_decide_eq_true dS : ji13.toNat ≤ 35184372088832)) (by omega)) (Below.refl _ _) (Nat.le_refl _) ?_; intro v114 w18 ho19 hb hg_ hnew_; clear hg_ hnew_; rw [← Nyq.out] at ho19; have HO115 := aM (Kd.R_lower ho19 (below_size dB)); replace HB := hS HB.out hb; clear hb ho19; obtain ⟨Ao20, co20, eo20⟩ := Kd.R_slice HO115.out; rw [Cq.out.2.2.1] at eo20; subst eo20; obtain ⟨i0q, hi0q, _, hszq, _⟩ := info_parts info22; have hcutq := cut_from (P := Tryd.prog) 37 22 .i64 Tryd.underlying37 hi0q 1 hszq Ao20 y113.length co20 (wrap64 (Int.tdiv a1 64)) Cq.out.1 Cq.out.2.1; clear hi0q hszq; obtain ⟨Aq, hAq⟩ : ∃ A_ : Option Addr, A_ = (if co20 = (wrap64 (Int.tdiv a1 64)).toNat then Ao20 else Ao20.map (·.add ((wrap64 (Int.tdiv a1 64)).toNat * 1))) := ⟨_, rfl⟩; rw [← hAq] at hcutq; have NAq := aM hAq; clear hAq) | ((with_reducible refine gate_dst (N := 38) rfl ?_); refine Kd.R_copy_at (enc := Value.int .u64) (h1 := fun _ => rfl) (0 : Int) w.heap.size rfl (.tmp 36) (.tmp 37) 37 37 22 rfl Tryd.underlying37 (by kernel_rfl) Ao20 co20 (wrap64 (Int.tdiv a1 64)).toNat y113.length yq z110 Cq.out.2.2.1 A0 z110.length c0 (fun _ => True) Aq NAq.out rfl rfl (by have := Cq.out.2.1; have := Cq.out.1; omega) HO115.out ?hcr HB.out HB.out.size ?_; (case hcr => exact Kd.C_below HR111.out HB.out); intro wq hoq hbq _; rw [shl_copied Cq.out.2.2.1 Cq.out.2.2.2] at hoq; clear HO115; have HO115 := aM hoq; clear HB; have HB := aM hbq; clear hoq hbq hcutq))
     go_loopg [8] k (fun kq v8 w' => ∃ (x6_1 : List Int) (x8_1 : Int), v8 = .int .i64 x8_1 ∧ Aside0 (nat_Shl.l0 kq a1 x6_1 (Int.tmod a1 64) x8_1 = some (r1, r2)) ∧ Aside0 (kq ≤ k) ∧ Aside0 (Kd.R (Kd.int .u64) 22 w' w.heap.size (fun _ => True) (.slice Ao20 y113.length co20) x6_1) ∧ Aside0 (Below w.heap.size w w'))
     case atStart => exact ⟨(y113), (wrap64 ((y113.length : Int) - 1)), dF, H', ⟨Nat.le_refl _⟩, ⟨dR HO115.out⟩, ⟨dB⟩⟩
     case round =>
      clear H'
      try clear c4
      try clear c4b0 c4b1
      try clear c5
      try clear c5b0 c5b1
      try clear c6
      try clear c6b0
      try clear c8
      try clear c8b0 c8b1
      try clear c8b2
      try clear c11
      try clear c11b0
      try clear c14
      try clear c14b0 c14b1
      try clear c15
      try clear Cq
      try clear Nyq
      try clear Ny113
      try clear c15b0 c15b1
      try clear c16
      try clear c16b0
      obtain ⟨x6_1, x8_1, rfl, HA, HK1, HO_6, HB⟩ := hrel
      have hl6_1 := (Kd.R_reads' HO_6.out).1
      rw [hl6_1] at HO_6
      (try simp only [hl6_1])
      cases gk with
      | zero => exact absurd HA.out (by simp [nat_Shl.l0])
      | succ k1 =>
       have H := HA.out
       clear HA
       simp only [nat_Shl.l0] at H
       by_cases c21 : x8_1 > (wrap64 (Int.tdiv a1 64))
       ·rw [if_pos c21] at H
        have c21b0 : decide ((wrap64 (Int.tdiv a1 64)) < x8_1) = true := decide_eq_true c21
        clear c21
        replace H := nO H
        obtain ⟨c22, H⟩ := H
        have c22b0 : decide (0 ≤ x8_1) = true := decide_eq_true c22
        clear c22
        replace H := nO H
        obtain ⟨c23, H⟩ := H
        have c23b0 := decide_eq_true c23
        clear c23
        obtain ⟨ji24, hji24⟩ : ∃ j_ : Int, (wrap64 (x8_1 - 1)) = j_ := ⟨_, rfl⟩
        first | rw [hji24] at H | simp only [hji24] at H
        have hji24w : (IntKind.i64.wrap (x8_1 - 1)) = ji24 := (i64_w _).trans hji24
        replace H := nO H
        obtain ⟨c25, H⟩ := H
        have c25b0 : decide (0 ≤ (ji24)) = true := decide_eq_true c25
        clear c25
        replace H := nO H
        obtain ⟨c26, H⟩ := H
        have c26b0 := decide_eq_true c26
        clear c26
        replace H := oA H
        obtain ⟨⟨t118, t119⟩, A27, H⟩ := H
        (try dsimp only at H)
        obtain ⟨y120, hy120⟩ : ∃ y_ : List Int, y_ = (x6_1.set (x8_1 : Int).toNat t118) := ⟨_, rfl⟩
        replace H : (nat_Shl.l0 k1 a1 y120 (Int.tmod a1 64) ji24) = some (r1, r2) := by first | (rw [hy120]; with_reducible exact H) | (have H2_ := (Option.bind_some _ _).symm.trans H; rw [hy120]; with_reducible exact H2_) | (have H2_ := (Option.bind_some _ _).symm.trans H; with_reducible exact H2_) | with_reducible exact H | (rw [hy120]; exact H) | exact H
        have Ny120 := aM hy120
        clear hy120
        have H' := aM H
        clear H
        try go_wp2
        replace HO_6 := aM (Kd.R_drew HO_6.out)
        replace HB := aM (below_drew1 HB.out)
        have p116 : 0 ≤ (x8_1 : Int) := of_decide_eq_true dS
        have q116 : x8_1 < (x6_1.length : Int) := of_decide_eq_true dS
        obtain ⟨ad116, e116, hx116_0⟩ := Kd.at_int (Kd.R_reads' HO_6.out).2.2 x8_1 p116 q116
        cases e116
        replace p116 := eq_true p116
        replace q116 := eq_true q116
        have p117 : 0 ≤ ((ji24) : Int) := of_decide_eq_true dS
        have q117 : (ji24) < (x6_1.length : Int) := of_decide_eq_true dS
        obtain ⟨ad117, e117, hx117_0⟩ := Kd.at_int (Kd.R_reads' HO_6.out).2.2 (ji24) p117 q117
        obtain rfl : ad116 = ad117 := (by injection e117)
        replace p117 := eq_true p117
        replace q117 := eq_true q117
        refine start_ (n := 18) (S := fun w' => w'.cell? (ad116.add (x8_1).toNat) = some (.int .u64 (rd x6_1 x8_1)) ∧ w'.cell? (ad116.add ((ji24)).toNat) = some (.int .u64 (rd x6_1 (ji24)))) (ds := [17]) #[false, false, false, false, false, false, false, false, false, false, false, false, false, false, false, false, false, false] (by kernel_rfl) rfl rfl ⟨hx116_0, hx117_0⟩ (fun hHeld => ?_); refine with_tabW nat_Shl.tab15 nat_Shl.bits15 (fun HT_ HW_ => ?_)
        generalize wr.drew = w29 at HO_6 HB hx116_0 hx117_0 hHeld ⊢
        refine pP 0 (some 53) ?_
        refine pP 1 (some 54) ?_
        refine pP 2 (some 55) ?_
        refine pP 3 (some 56) ?_
        refine pP 4 (some 57) ?_
        refine pP 6 (some 59) ?_
        refine pP 7 (some 60) ?_
        refine pP 8 (some 61) ?_
        refine pP 9 (some 62) ?_
        refine pP 11 (some 64) ?_
        refine pH2 5 (some 58) hHeld ?_
        refine pH2 10 (some 63) hHeld ?_
        refine one_ (i := 12) (N := some 65) #[true, true, true, true, true, true, true, true, true, true, true, true, true, false, false, false, false, false] rfl rfl (one_of HT_.out (by kernel_rfl)) (by decide) (fun K hK => ?_)
        refine goes_ Tryd.func56 (by kernel_rfl) rfl #[.int .u64 (rd x6_1 x8_1), .int .u64 (rd x6_1 (ji24)), .int .i64 (Int.tmod a1 64)] (by rfl) rfl rfl (by (try simp only [List.map_toArray, List.map_cons, List.map_nil]); first | done | (simp only [hji24]; rfl) | rfl | (simp only [List.length_drop, List.length_take]; rfl)) ?_
        with_reducible refine (wide_Shl.calls (rd x6_1 x8_1) (rd x6_1 (ji24)) (Int.tmod a1 64) t118 t119 _ A27.out).mono ?_
        rintro e w30 ⟨rfl, hb⟩
        have HS0_ := (hb.cell (World.block_lt_of_cell? _ _ (hHeld.1))).trans (hHeld.1)
        have HS1_ := (hb.cell (World.block_lt_of_cell? _ _ (hHeld.2))).trans (hHeld.2)
        refine ⟨_, rfl, ?_⟩
        replace HO_6 := oB HO_6.out hb
        replace HB := hS HB.out hb
        (try clear hb)
        (try clear hb2)
        (try clear hk)
        (try clear hi)
        have p28 : 0 ≤ (x8_1 : Int) := of_decide_eq_true dS
        have q28 : (x8_1 : Int) < ((x6_1.length : Int) : Int) := of_decide_eq_true dS
        obtain ⟨go28, co28, eo28, gb28, gl28, cl28, HG28⟩ := Kd.R_form HO_6.out (by omega)
        (first | cases eo28 | (injection eo28 with ea_ en_ ec_; (first | subst ea_ | (injection ea_ with ea_; subst ea_)); subst ec_; clear en_))
        have GB28 := aM gb28
        have GG28 := aM HG28
        clear gb28 gl28 HG28
        (first | simp only [add_plain] at hx116_0 | skip)
        (first | simp only [add_plain] at hx117_0 | skip)
        obtain ⟨hx28_0, hf28_0⟩ := Kd.R_celln 0 HO_6.out (x8_1 : Int) p28 q28
        replace p28 := eq_true p28
        replace q28 := eq_true q28
        have HP31 := Kd.R_putn HO_6.out (x8_1 : Int) t118
        rw [← Ny120.out] at HP31
        have HQ31 := aM HP31
        clear HP31
        refine hK.out _ _ ⟨HS0_, HS1_⟩ (fun hHeld => ?_)
        clear hK K
        refine norm_ (a' := ?_) ?_ ?_
        rotate_left
        ·show Act.put _ (some 65) _ = _
         simp only [Act.put, List.setIfInBounds_toArray, List.set_cons_zero, List.set_cons_succ, i64_w, i32_w]
         rfl
        refine pP 13 (some 52) ?_
        refine pP 14 (some 66) ?_
        refine pP 15 (some 67) ?_
        refine pP 16 (some 68) ?_
        refine last_ (i := 17) (N := none) #[true, true, true, true, true, true, true, true, true, true, true, true, true, true, true, true, true, true] rfl rfl (one_of HT_.out (by kernel_rfl)) (by decide) (fun K hK => ?_)
        refine skip_ (w1 := ?_) (by rfl) rfl ?_ ?_
        rotate_left
        ·go_simp
         rfl
        refine hK.out _ _ ?_
        clear hK K
        refine done_ (done_of HT_.out (by kernel_rfl)) ?_
        try go_wp2
        (try simp only [← hl6_1])
        go_roundg k1
        case measure => have := HK1.out; omega
        case rel => exact ⟨(y120), (ji24), (by first | rfl | (simp; done) | (simp only [← hji24] <;> (first | rfl | simp)) | (simp [*]; done)), H', ⟨by have := HK1.out; omega⟩, ⟨by (try simp only [hl6_1]); (with_reducible repeat (first | apply Kd.R_alloc | apply Kd.R_drewN | apply Kd.R_drew)); exact HQ31.out⟩, ⟨by repeat (first | (with_reducible first | exact HB.out | apply below_alloc | apply pw_below_drewN | apply below_drew1 | refine below_set ?_ GB28.out) | exact HB.out)⟩⟩
       ·rw [if_neg c21] at H
        have c21b0 : decide ((wrap64 (Int.tdiv a1 64)) < x8_1) = false := decide_eq_false c21
        clear c21
        obtain ⟨ji32, hji32⟩ : ∃ j_ : Int, (wrap64 (Int.tdiv a1 64)) = j_ := ⟨_, rfl⟩
        first | rw [hji32] at H | simp only [hji32] at H
        (try rw [hji32] at c21b0)
        have hji32w : (IntKind.i64.wrap (Int.tdiv a1 64)) = ji32 := (i64_w _).trans hji32
        replace H := nO H
        obtain ⟨c33, H⟩ := H
        have c33b0 : decide (0 ≤ (ji32)) = true := decide_eq_true c33
        clear c33
        replace H := nO H
        obtain ⟨c34, H⟩ := H
        have c34b0 := decide_eq_true c34
        clear c34
        obtain ⟨ji35, hji35⟩ : ∃ j_ : Int, (Int.tmod a1 64) = j_ := ⟨_, rfl⟩
        first | rw [hji35] at H | simp only [hji35] at H
        (try rw [hji35] at c16b0)
        replace H := nO H
        obtain ⟨c36, H⟩ := H
        have c36b0 := eq_true c36
        have c36b1 : decide (0 ≤ (ji35)) = true := decide_eq_true c36
        clear c36
        obtain ⟨ji37, hji37⟩ : ∃ j_ : Int, (shl .u64 (rd x6_1 (ji32)) (ji35)) = j_ := ⟨_, rfl⟩
        first | rw [hji37] at H | simp only [hji37] at H
        have hji37_ : (IntKind.u64.wrap ((rd x6_1 (ji32)) * 2 ^ min (ji35).toNat 64)) = ji37 := hji37
        have hji37z : (ji35) ≤ 64 → (IntKind.u64.wrap ((rd x6_1 (ji32)) * 2 ^ (ji35).toNat)) = ji37 := shl_small hji37
        obtain ⟨y122, hy122⟩ : ∃ y_ : List Int, y_ = (x6_1.set ((ji32) : Int).toNat (ji37)) := ⟨_, rfl⟩
        replace H : ((nat_bound.f k1 y122).bind fun bt123 => (some (bt123.1, bt123.2))) = some (r1, r2) := by first | (rw [hy122]; with_reducible exact H) | (have H2_ := (Option.bind_some _ _).symm.trans H; rw [hy122]; with_reducible exact H2_) | (have H2_ := (Option.bind_some _ _).symm.trans H; with_reducible exact H2_) | with_reducible exact H | (rw [hy122]; exact H) | exact H
        have Ny122 := aM hy122
        clear hy122
        replace H := oA H
        obtain ⟨⟨t123, t126⟩, A39, H⟩ := H
        (try dsimp only at H)
        simp only [Option.some.injEq, Prod.mk.injEq] at H
        obtain ⟨rfl, rfl⟩ := H
        have p121 : 0 ≤ ((ji32) : Int) := of_decide_eq_true dS
        have q121 : (ji32) < (x6_1.length : Int) := of_decide_eq_true dS
        obtain ⟨ad121, e121, hx121_0⟩ := Kd.at_int (Kd.R_reads' HO_6.out).2.2 (ji32) p121 q121
        cases e121
        replace p121 := eq_true p121
        replace q121 := eq_true q121
        have p38 : 0 ≤ ((ji32) : Int) := of_decide_eq_true dS
        have q38 : ((ji32) : Int) < ((x6_1.length : Int) : Int) := of_decide_eq_true dS
        obtain ⟨go38, co38, eo38, gb38, gl38, cl38, HG38⟩ := Kd.R_form HO_6.out (by omega)
        (first | cases eo38 | (injection eo38 with ea_ en_ ec_; (first | subst ea_ | (injection ea_ with ea_; subst ea_)); subst ec_; clear en_))
        have GB38 := aM gb38
        have GG38 := aM HG38
        clear gb38 gl38 HG38
        (first | simp only [add_plain] at hx121_0 | skip)
        obtain ⟨hx38_0, hf38_0⟩ := Kd.R_celln 0 HO_6.out ((ji32) : Int) p38 q38
        replace p38 := eq_true p38
        replace q38 := eq_true q38
        have HP40 := Kd.R_putg HO_6.out ((ji32) : Int) ji37
        go_wp2_with (first | ((with_reducible refine gate_store (t := 22) (p := 76) rfl ?_); refine store_event (t := 22) (p := 76) (v := ?vo_w41) (w1 := (wr.setCell ⟨go38, ((ji32) : Int).toNat, none⟩ (.int .u64 ji37))) ?hg ?ho ?hn ?hr ?_; (case ho => rfl); (case hg => rfl); (case hn => rfl); (case hr => first | (go_simp; done) | (go_simp; rfl)); intro w41 hw; have hg : wr.grownBy w41 (some go38) := (by rw [hw]; exact HP40.2); have hp_ : Kd.R (Kd.int .u64) 22 w41 w.heap.size (fun _ => True) (.slice (some ⟨go38, 0, none⟩) x6_1.length co20) y122 := (by rw [hw, Ny122.out]; exact HP40.1); clear HP40; replace HO_6 := aM (hp_); replace HB := aM ((by rw [hw]; exact below_set (HB.out) GB38.out : Below w.heap.size w w41)); clear hg hw hp_) | ((with_reducible refine gate_callee (f := 53) rfl ?_); refine gL (some 78) Tryd.func53 #[.slice (some ⟨go38, 0, none⟩) x6_1.length co20] ?_; (with_reducible refine (nat_bound.calls k1 (fun k_ => some k_ = (.slice (some ⟨go38, 0, none⟩) x6_1.length co20 : Value).ownBlock) (.slice (some ⟨go38, 0, none⟩) x6_1.length co20) y122 t123 t126 w _ ?side1 ?side2 A39.out).mono ?_); (case side1 => repeat (first | (with_reducible first | exact HB.out | apply below_alloc | apply pw_below_drewN | apply below_drew1) | exact HB.out)); (case side2 => exact Kd.R_tight rfl HO_6.out); rintro e w42 ⟨v124, rfl, ho0, hb, hkp⟩; refine ⟨_, rfl, ?_⟩; have HO125 := aM (Kd.R_mono (ok' := fun k_ => True) ho0 (fun k_ hk_ => trivial)); replace HB := aM (hb); clear HO_6; (try clear hb); (try clear hkp); (try clear ho0)))
        go_ret2
        exact ⟨_, by first | rfl | (simp [errW_none, errW_some] <;> rfl) | (simp only [← hji13, ← hji32, ← hji35, ← hji37]; first | rfl | (simp [errW_none, errW_some] <;> rfl)) | (simp [*, errW_none, errW_some] <;> rfl), dR HO125.out, dB⟩
    ·rw [if_neg c16] at H
     have c16b0 : decide (0 < (Int.tmod a1 64)) = false := decide_eq_false c16
     clear c16
     replace H := oA H
     obtain ⟨⟨t127, t130⟩, A43, H⟩ := H
     (try dsimp only at H)
     simp only [Option.some.injEq, Prod.mk.injEq] at H
     obtain ⟨rfl, rfl⟩ := H
     go_enter Tryd.func35, Tryd.ntmps35
     go_wp2_with (first | ((with_reducible refine gate_callee (f := 33) rfl ?_); refine gL (some 11) Tryd.func33 #[.slice A0 l0.length c0] ?_; (with_reducible refine (nat_size.calls k _ _ l0 t110 _ ?side1 HC0.out A3.out).mono ?_); (case side1 => exact dC HR0.out); rintro e w' ⟨rfl, ⟨nd, rfl⟩⟩; refine ⟨_, rfl, ?_⟩; obtain ⟨i044, hi044, _, hsz44, _⟩ := info_parts info22; obtain ⟨hcut44, hA44, hC44⟩ := print_take_of (P := Tryd.prog) (Value.int .u64) 0 37 22 .i64 Tryd.underlying37 hi044 hsz44 A0 c0 l0 t110 (of_decide_eq_true dS) (of_decide_eq_true dS) HC0.out; rw [Nz110.out] at hcut44 hA44 hC44; have HR111 := aM (Kd.C_of_reads (h1 := fun _ => rfl) (hA44 _ (Kd.reads_of_C HR0.out))); have HC111 := aM hC44; clear hA44 hC44 hi044 hsz44) | ((with_reducible refine gate_callee (f := 50) rfl ?_); refine goesL_ (some 23) rfl rfl Tryd.func50 (by kernel_rfl) rfl #[.slice A0 z110.length c0] rfl (by (try simp only [List.map_toArray, List.map_cons, List.map_nil]); first | done | (rw [show z110.length = t110.toNat from (by rw [← Nz110.out, List.length_take]; have h_ : (t110 : Int) ≤ (l0.length : Int) := of_decide_eq_true dS; omega)] <;> rfl) | rfl | (simp only [List.length_drop, List.length_take]; rfl)) ?_; (with_reducible refine (nat_Bits.calls k _ _ z110 t112 _ ?side1 HC111.out A10.out).mono ?_); (case side1 => exact dC HR111.out); rintro e w' ⟨rfl, ⟨nd, rfl⟩⟩; refine ⟨_, rfl, ?_⟩) | ((with_reducible refine gate_dst (N := 32) rfl ?_); refine Kd.R_make (Kd.int .u64) _ 22 rfl (N := 32) rfl 37 _ _ rfl ji13 rfl rfl Tryd.underlying37 (.int .u64 0) 8 info22 rfl (by decide) (by omega) 0 (ok := fun _ => True) (okp := fun _ => True) rfl (fun _ hk => hk) trivial (of_decide_eq_true dS) (Nat.le_trans (Nat.mul_le_mul_right _ (of_decide_eq_true dS : ji13.toNat ≤ 35184372088832)) (by omega)) (Below.refl _ _) (Nat.le_refl _) ?_; intro v114 w45 ho46 hb hg_ hnew_; clear hg_ hnew_; rw [← Nyq.out] at ho46; have HO115 := aM (Kd.R_lower ho46 (below_size dB)); replace HB := hS HB.out hb; clear hb ho46; obtain ⟨Ao47, co47, eo47⟩ := Kd.R_slice HO115.out; rw [Cq.out.2.2.1] at eo47; subst eo47; obtain ⟨i0q, hi0q, _, hszq, _⟩ := info_parts info22; have hcutq := cut_from (P := Tryd.prog) 37 22 .i64 Tryd.underlying37 hi0q 1 hszq Ao47 y113.length co47 (wrap64 (Int.tdiv a1 64)) Cq.out.1 Cq.out.2.1; clear hi0q hszq; obtain ⟨Aq, hAq⟩ : ∃ A_ : Option Addr, A_ = (if co47 = (wrap64 (Int.tdiv a1 64)).toNat then Ao47 else Ao47.map (·.add ((wrap64 (Int.tdiv a1 64)).toNat * 1))) := ⟨_, rfl⟩; rw [← hAq] at hcutq; have NAq := aM hAq; clear hAq) | ((with_reducible refine gate_dst (N := 38) rfl ?_); refine Kd.R_copy_at (enc := Value.int .u64) (h1 := fun _ => rfl) (0 : Int) w.heap.size rfl (.tmp 36) (.tmp 37) 37 37 22 rfl Tryd.underlying37 (by kernel_rfl) Ao47 co47 (wrap64 (Int.tdiv a1 64)).toNat y113.length yq z110 Cq.out.2.2.1 A0 z110.length c0 (fun _ => True) Aq NAq.out rfl rfl (by have := Cq.out.2.1; have := Cq.out.1; omega) HO115.out ?hcr HB.out HB.out.size ?_; (case hcr => exact Kd.C_below HR111.out HB.out); intro wq hoq hbq _; rw [shl_copied Cq.out.2.2.1 Cq.out.2.2.2] at hoq; clear HO115; have HO115 := aM hoq; clear HB; have HB := aM hbq; clear hoq hbq hcutq) | ((with_reducible refine gate_callee (f := 53) rfl ?_); refine gL (some 78) Tryd.func53 #[.slice Ao47 y113.length co47] ?_; (with_reducible refine (nat_bound.calls k (fun k_ => some k_ = (.slice Ao47 y113.length co47 : Value).ownBlock) (.slice Ao47 y113.length co47) y113 t127 t130 w _ ?side1 ?side2 A43.out).mono ?_); (case side1 => repeat (first | (with_reducible first | exact HB.out | apply below_alloc | apply pw_below_drewN | apply below_drew1) | exact HB.out)); (case side2 => exact Kd.R_tight rfl HO115.out); rintro e w48 ⟨v128, rfl, ho0, hb, hkp⟩; refine ⟨_, rfl, ?_⟩; have HO129 := aM (Kd.R_mono (ok' := fun k_ => True) ho0 (fun k_ hk_ => trivial)); replace HB := aM (hb); clear HO115; (try clear hb); (try clear hkp); (try clear ho0)))
     go_ret2
     exact ⟨_, by first | rfl | (simp [errW_none, errW_some] <;> rfl) | (simp only [← hji13]; first | rfl | (simp [errW_none, errW_some] <;> rfl)) | (simp [*, errW_none, errW_some] <;> rfl), dR HO129.out, dB⟩
def quot_Pow.l0 : Nat → List Int → Int → List Int → Int → Option (List Int × Int)
 | 0, _, _, _, _ => none
 | k + 1, x0, x1, x7, x8 => if x8 ≥ 0 then ((nat_Mul.f k x7 x7).bind fun bt132 => (if 0 ≤ x8 then (if (Go.bits .and .i64 (shr .i64 x1 x8) 1) = 1 then ((nat_Mul.f k bt132.1 x0).bind fun bt136 => (if bt132.2 = 0 then (if bt136.2 = 0 then (quot_Pow.l0 k x0 x1 bt136.1 (wrap64 (x8 - 1))) else (some (([] : List Int), 21))) else (some (([] : List Int), 21)))) else (if bt132.2 = 0 then (quot_Pow.l0 k x0 x1 bt132.1 (wrap64 (x8 - 1))) else (some (([] : List Int), 21)))) else (none))) else (some (x7, 0))
def quot_Pow.f (k : Nat) (l0 : List Int) (a1 : Int) : Option (List Int × Int) := (nat_Norm.f l0).bind fun t121 => ((nat_Bits.f k t121).bind fun t124 => (if a1 < 0 then (some (([] : List Int), 31)) else (if a1 = 0 then ((nat_From.f 1).bind fun t125 => (some (t125, 0))) else (if t124 < 2 then (some (t121, 0)) else (if (wrap64 (t124 - 1)) = 0 then (none) else (if a1 > (wrap64 (Int.tdiv (262144 : Int) (wrap64 (t124 - 1)))) then (some (([] : List Int), 21)) else ((nat_From.f 1).bind fun t128 => ((wide_Len.f k (IntKind.u64.wrap (a1))).bind fun t131 => (quot_Pow.l0 k t121 a1 t128 (wrap64 (t131 - 1)))))))))))
theorem quot_Pow.mono_l : ∀ k, (∀ y0 y1 y2 y3, LeO (quot_Pow.l0 k y0 y1 y2 y3) (quot_Pow.l0 (k + 1) y0 y1 y2 y3))
 | 0 => fun _ _ _ _ r h => by simp [quot_Pow.l0] at h
 | k + 1 => by
  have ih0 := quot_Pow.mono_l k
  ·intro y0 y1 y2 y3
   unfold quot_Pow.l0
   have m0_ := nat_Bits.mono
   have m1_ := nat_Mul.mono
   have m2_ := wide_Len.mono
   exact mX
theorem quot_Pow.mono : ∀ a0 a1 k, LeO (quot_Pow.f k a0 a1) (quot_Pow.f (k + 1) a0 a1) := by
 intro a0 a1 k
 have ih0 := quot_Pow.mono_l k
 unfold quot_Pow.f
 have m0_ := nat_Bits.mono
 have m1_ := nat_Mul.mono
 have m2_ := wide_Len.mono
 exact mX
set_option maxHeartbeats 8000000 in
set_option maxRecDepth 100000 in
theorem quot_Pow.calls (k : Nat) (A0 : Option Addr) (c0 : Nat) (l0 : List Int) (a1 : Int) (r1 : List Int) (r2 : Int) (w : World) (hr0 : Kd.C (Kd.int .u64) w A0 l0.length l0) (hc0 : l0.length ≤ c0) (h : quot_Pow.f k l0 a1 = some (r1, r2)) :
  Calls Tryd.prog 57 #[.slice A0 l0.length c0, .int .i64 a1] w fun e w' => ∃ v0_ : Value, e = .returned (.tuple #[v0_, .int .i64 r2]) ∧ Kd.R (Kd.int .u64) 22 w' w.heap.size (fun _ => True) v0_ r1 ∧ Below w.heap.size w w' := by
 have HR0 := aM hr0
 have HC0 := aM hc0
 clear hr0 hc0
 have HB := aM (Below.refl w.heap.size w)
 have H := h
 clear h
 unfold quot_Pow.f at H
 replace H := oA H
 obtain ⟨t121, A3, H⟩ := H
 (try dsimp only at H)
 replace H := oA H
 obtain ⟨t124, A4, H⟩ := H
 (try dsimp only at H)
 by_cases c5 : a1 < 0
 ·rw [if_pos c5] at H
  have c5b0 := decide_eq_true c5
  clear c5
  simp only [Option.some.injEq, Prod.mk.injEq] at H
  obtain ⟨rfl, rfl⟩ := H
  go_enter Tryd.func57, Tryd.ntmps57
  go_wp2_with (first | ((with_reducible refine gate_callee (f := 54) rfl ?_); refine gL (some 12) Tryd.func54 #[.slice A0 l0.length c0] ?_; (with_reducible refine (nat_Norm.calls _ _ l0 t121 _ ?side1 HC0.out A3.out).mono ?_); (case side1 => exact dC HR0.out); rintro e w6 ⟨v122, rfl, ho0, hb⟩; refine ⟨_, rfl, ?_⟩; have HO123 := aM (Kd.R_lower ho0 (below_size dB)); replace HB := hS HB.out hb; (try clear hb); (try clear ho0); obtain ⟨Ao7, co7, rfl⟩ := Kd.R_slice HO123.out) | ((with_reducible refine gate_callee (f := 50) rfl ?_); refine gL (some 14) Tryd.func50 #[.slice Ao7 t121.length co7] ?_; (with_reducible refine (nat_Bits.calls k _ _ t121 t124 _ ?side1 (Kd.R_reads' HO123.out).2.1 A4.out).mono ?_); (case side1 => exact dC (Kd.R_reads' HO123.out).2.2); rintro e w' ⟨rfl, ⟨nd, rfl⟩⟩; refine ⟨_, rfl, ?_⟩))
  go_ret2
  exact ⟨_, dE, by first | exact Kd.R_nil _ _ _ _ _ | exact Kd.N_nil _ _ _ _ _ | exact Kd.V_nil _ _ _ _ _ | exact Kd.Q_nil _ _ _ _ _ | exact Kd.S_nil _ _ _ _ _, dB⟩
 ·rw [if_neg c5] at H
  have c5b0 := decide_eq_false c5
  clear c5
  by_cases c8 : a1 = 0
  ·rw [if_pos c8] at H
   obtain ⟨c8b0, c8b1⟩ := bT c8
   clear c8
   replace H := oA H
   obtain ⟨t125, A9, H⟩ := H
   (try dsimp only at H)
   simp only [Option.some.injEq, Prod.mk.injEq] at H
   obtain ⟨rfl, rfl⟩ := H
   go_enter Tryd.func57, Tryd.ntmps57
   go_wp2_with (first | ((with_reducible refine gate_callee (f := 54) rfl ?_); refine gL (some 12) Tryd.func54 #[.slice A0 l0.length c0] ?_; (with_reducible refine (nat_Norm.calls _ _ l0 t121 _ ?side1 HC0.out A3.out).mono ?_); (case side1 => exact dC HR0.out); rintro e w10 ⟨v122, rfl, ho0, hb⟩; refine ⟨_, rfl, ?_⟩; have HO123 := aM (Kd.R_lower ho0 (below_size dB)); replace HB := hS HB.out hb; (try clear hb); (try clear ho0); obtain ⟨Ao11, co11, rfl⟩ := Kd.R_slice HO123.out) | ((with_reducible refine gate_callee (f := 50) rfl ?_); refine gL (some 14) Tryd.func50 #[.slice Ao11 t121.length co11] ?_; (with_reducible refine (nat_Bits.calls k _ _ t121 t124 _ ?side1 (Kd.R_reads' HO123.out).2.1 A4.out).mono ?_); (case side1 => exact dC (Kd.R_reads' HO123.out).2.2); rintro e w' ⟨rfl, ⟨nd, rfl⟩⟩; refine ⟨_, rfl, ?_⟩) | ((with_reducible refine gate_callee (f := 30) rfl ?_); refine gL (some 21) Tryd.func30 #[.int .u64 1] ?_; (with_reducible refine (nat_From.calls 1 t125 _ A9.out).mono ?_); rintro e w12 ⟨v126, rfl, ho0, hb⟩; refine ⟨_, rfl, ?_⟩; have HO127 := aM (Kd.R_lower (nW ho0 HO123.out) (below_size dB)); replace HO123 := oE HO123.out ho0 hb; replace HB := hS HB.out hb; (try clear hb); (try clear ho0)))
   go_ret2
   exact ⟨_, dE, oM HO127.out (fun _ hk => trivial), dB⟩
  ·rw [if_neg c8] at H
   obtain ⟨c8b0, c8b1⟩ := bF c8
   by_cases c13 : t124 < 2
   ·rw [if_pos c13] at H
    have c13b0 := decide_eq_true c13
    clear c13
    simp only [Option.some.injEq, Prod.mk.injEq] at H
    obtain ⟨rfl, rfl⟩ := H
    go_enter Tryd.func57, Tryd.ntmps57
    go_wp2_with (first | ((with_reducible refine gate_callee (f := 54) rfl ?_); refine gL (some 12) Tryd.func54 #[.slice A0 l0.length c0] ?_; (with_reducible refine (nat_Norm.calls _ _ l0 t121 _ ?side1 HC0.out A3.out).mono ?_); (case side1 => exact dC HR0.out); rintro e w14 ⟨v122, rfl, ho0, hb⟩; refine ⟨_, rfl, ?_⟩; have HO123 := aM (Kd.R_lower ho0 (below_size dB)); replace HB := hS HB.out hb; (try clear hb); (try clear ho0); obtain ⟨Ao15, co15, rfl⟩ := Kd.R_slice HO123.out) | ((with_reducible refine gate_callee (f := 50) rfl ?_); refine gL (some 14) Tryd.func50 #[.slice Ao15 t121.length co15] ?_; (with_reducible refine (nat_Bits.calls k _ _ t121 t124 _ ?side1 (Kd.R_reads' HO123.out).2.1 A4.out).mono ?_); (case side1 => exact dC (Kd.R_reads' HO123.out).2.2); rintro e w' ⟨rfl, ⟨nd, rfl⟩⟩; refine ⟨_, rfl, ?_⟩))
    go_ret2
    exact ⟨_, dE, dR HO123.out, dB⟩
   ·rw [if_neg c13] at H
    have c13b0 := decide_eq_false c13
    clear c13
    replace H := nQ H
    obtain ⟨c16, H⟩ := H
    obtain ⟨c16b0, c16b1⟩ := bF c16
    by_cases c17 : a1 > (wrap64 (Int.tdiv (262144 : Int) (wrap64 (t124 - 1))))
    ·rw [if_pos c17] at H
     have c17b0 : decide ((wrap64 (Int.tdiv (262144 : Int) (wrap64 (t124 - 1)))) < a1) = true := decide_eq_true c17
     clear c17
     simp only [Option.some.injEq, Prod.mk.injEq] at H
     obtain ⟨rfl, rfl⟩ := H
     go_enter Tryd.func57, Tryd.ntmps57
     go_wp2_with (first | ((with_reducible refine gate_callee (f := 54) rfl ?_); refine gL (some 12) Tryd.func54 #[.slice A0 l0.length c0] ?_; (with_reducible refine (nat_Norm.calls _ _ l0 t121 _ ?side1 HC0.out A3.out).mono ?_); (case side1 => exact dC HR0.out); rintro e w18 ⟨v122, rfl, ho0, hb⟩; refine ⟨_, rfl, ?_⟩; have HO123 := aM (Kd.R_lower ho0 (below_size dB)); replace HB := hS HB.out hb; (try clear hb); (try clear ho0); obtain ⟨Ao19, co19, rfl⟩ := Kd.R_slice HO123.out) | ((with_reducible refine gate_callee (f := 50) rfl ?_); refine gL (some 14) Tryd.func50 #[.slice Ao19 t121.length co19] ?_; (with_reducible refine (nat_Bits.calls k _ _ t121 t124 _ ?side1 (Kd.R_reads' HO123.out).2.1 A4.out).mono ?_); (case side1 => exact dC (Kd.R_reads' HO123.out).2.2); rintro e w' ⟨rfl, ⟨nd, rfl⟩⟩; refine ⟨_, rfl, ?_⟩))
     go_ret2
     exact ⟨_, dE, by first | exact Kd.R_nil _ _ _ _ _ | exact Kd.N_nil _ _ _ _ _ | exact Kd.V_nil _ _ _ _ _ | exact Kd.Q_nil _ _ _ _ _ | exact Kd.S_nil _ _ _ _ _, dB⟩
    ·rw [if_neg c17] at H
     have c17b0 : decide ((wrap64 (Int.tdiv (262144 : Int) (wrap64 (t124 - 1)))) < a1) = false := decide_eq_false c17
     clear c17
     replace H := oA H
     obtain ⟨t128, A20, H⟩ := H
     (try dsimp only at H)
     replace H := oA H
     obtain ⟨t131, A21, H⟩ := H
     (try dsimp only at H)
     have H' := aM H
     clear H
     go_enter Tryd.func57, Tryd.ntmps57
     go_wp2_with (first | ((with_reducible refine gate_callee (f := 54) rfl ?_); refine gL (some 12) Tryd.func54 #[.slice A0 l0.length c0] ?_; (with_reducible refine (nat_Norm.calls _ _ l0 t121 _ ?side1 HC0.out A3.out).mono ?_); (case side1 => exact dC HR0.out); rintro e w22 ⟨v122, rfl, ho0, hb⟩; refine ⟨_, rfl, ?_⟩; have HO123 := aM (Kd.R_lower ho0 (below_size dB)); replace HB := hS HB.out hb; (try clear hb); (try clear ho0); obtain ⟨Ao23, co23, rfl⟩ := Kd.R_slice HO123.out) | ((with_reducible refine gate_callee (f := 50) rfl ?_); refine gL (some 14) Tryd.func50 #[.slice Ao23 t121.length co23] ?_; (with_reducible refine (nat_Bits.calls k _ _ t121 t124 _ ?side1 (Kd.R_reads' HO123.out).2.1 A4.out).mono ?_); (case side1 => exact dC (Kd.R_reads' HO123.out).2.2); rintro e w' ⟨rfl, ⟨nd, rfl⟩⟩; refine ⟨_, rfl, ?_⟩) | ((with_reducible refine gate_callee (f := 30) rfl ?_); refine gL (some 32) Tryd.func30 #[.int .u64 1] ?_; (with_reducible refine (nat_From.calls 1 t128 _ A20.out).mono ?_); rintro e w24 ⟨v129, rfl, ho0, hb⟩; refine ⟨_, rfl, ?_⟩; have HO130 := aM (Kd.R_lower (nW ho0 HO123.out) (below_size dB)); replace HO123 := oE HO123.out ho0 hb; replace HB := hS HB.out hb; (try clear hb); (try clear ho0)) | ((with_reducible refine gate_callee (f := 72) rfl ?_); refine gL (some 35) Tryd.func72 #[.int .u64 (IntKind.u64.wrap (a1))] ?_; (with_reducible refine (wide_Len.calls k (IntKind.u64.wrap (a1)) t131 _ A21.out).mono ?_); rintro e w' ⟨rfl, ⟨nd, rfl⟩⟩; refine ⟨_, rfl, ?_⟩))
     go_loopg [7, 8] k (fun kq v7 v8 w' => ∃ (x7_1 : List Int) (x8_1 : Int), v8 = .int .i64 x8_1 ∧ Aside0 (quot_Pow.l0 kq t121 a1 x7_1 x8_1 = some (r1, r2)) ∧ Aside0 (kq ≤ k) ∧ Aside0 (Kd.R (Kd.int .u64) 22 w' w.heap.size (fun k_ => some k_ ≠ (v7 : Value).ownBlock) (.slice Ao23 t121.length co23) t121) ∧ Aside0 (Kd.R (Kd.int .u64) 22 w' w.heap.size (fun k_ => oN Ao23 t121 co23 k_) v7 x7_1) ∧ Aside0 (Below w.heap.size w w'))
     case atStart => exact ⟨(t128), (wrap64 (t131 - 1)), dF, H', ⟨Nat.le_refl _⟩, ⟨oM HO123.out (fun _ hk => hk.2)⟩, ⟨oM HO130.out (fun _ hk => hk.2)⟩, ⟨dB⟩⟩
     case round =>
      clear H'
      try clear c5
      try clear c5b0
      try clear c8
      try clear c8b0 c8b1
      try clear c13
      try clear c13b0
      try clear c16
      try clear c16b0 c16b1
      try clear c17
      try clear c17b0
      obtain ⟨x7_1, x8_1, rfl, HA, HK1, HO_0, HO_7, HB⟩ := hrel
      cases gk with
      | zero => exact absurd HA.out (by simp [quot_Pow.l0])
      | succ k1 =>
       have H := HA.out
       clear HA
       simp only [quot_Pow.l0] at H
       by_cases c25 : x8_1 ≥ 0
       ·rw [if_pos c25] at H
        have c25b0 : decide (0 ≤ x8_1) = true := decide_eq_true c25
        clear c25
        replace H := oA H
        obtain ⟨⟨t132, t133⟩, A26, H⟩ := H
        (try dsimp only at H)
        replace H := nO H
        obtain ⟨c27, H⟩ := H
        have c27b0 := eq_true c27
        have c27b1 : decide (0 ≤ x8_1) = true := decide_eq_true c27
        clear c27
        obtain ⟨ji28, hji28⟩ : ∃ j_ : Int, (shr .i64 a1 x8_1) = j_ := ⟨_, rfl⟩
        first | rw [hji28] at H | simp only [hji28] at H
        (try rw [hji28] at A26)
        have hji28_ : (a1 / 2 ^ min x8_1.toNat 64) = ji28 := hji28
        have hji28z : x8_1 ≤ 64 → (a1 / 2 ^ x8_1.toNat) = ji28 := shr_small hji28
        by_cases c29 : (Go.bits .and .i64 (ji28) 1) = 1
        ·rw [if_pos c29] at H
         obtain ⟨c29b0, c29b1⟩ := bT c29
         clear c29
         replace H := oA H
         obtain ⟨⟨t136, t137⟩, A30, H⟩ := H
         (try dsimp only at H)
         by_cases c31 : t133 = 0
         ·rw [if_pos c31] at H
          obtain ⟨c31b0, c31b1⟩ := bT c31
          clear c31
          by_cases c32 : t137 = 0
          ·rw [if_pos c32] at H
           obtain ⟨c32b0, c32b1⟩ := bT c32
           clear c32
           have H' := aM H
           clear H
           obtain ⟨Ao33, co33, rfl⟩ := Kd.R_slice HO_7.out
           go_wp2_with (first | ((with_reducible refine gate_callee (f := 29) rfl ?_); refine gL (some 44) Tryd.func29 #[.slice Ao33 x7_1.length co33, .slice Ao33 x7_1.length co33] ?_; (with_reducible refine (nat_Mul.calls k1 _ _ x7_1 _ _ x7_1 t132 t133 _ ?side1 (Kd.R_reads' HO_7.out).2.1 ?side3 (Kd.R_reads' HO_7.out).2.1 A26.out).mono ?_); (case side1 => exact dC (Kd.R_reads' HO_7.out).2.2); (case side3 => exact dC (Kd.R_reads' HO_7.out).2.2); rintro e w34 ⟨v134, rfl, ho0, hb⟩; refine ⟨_, rfl, ?_⟩; have HO135 := aM (Kd.R_lower (nW (nW ho0 HO_0.out) HO_7.out) (below_size dB)); replace HO_0 := oE HO_0.out ho0 hb; replace HO_7 := oE HO_7.out ho0 hb; replace HB := hS HB.out hb; (try clear hb); (try clear ho0); obtain ⟨Ao35, co35, rfl⟩ := Kd.R_slice HO135.out) | ((with_reducible refine gate_callee (f := 29) rfl ?_); refine gL (some 55) Tryd.func29 #[.slice Ao35 t132.length co35, .slice Ao23 t121.length co23] ?_; (with_reducible refine (nat_Mul.calls k1 _ _ t132 _ _ t121 t136 t137 _ ?side1 (Kd.R_reads' HO135.out).2.1 ?side3 (Kd.R_reads' HO_0.out).2.1 A30.out).mono ?_); (case side1 => exact dC (Kd.R_reads' HO135.out).2.2); (case side3 => exact dC (Kd.R_reads' HO_0.out).2.2); rintro e w36 ⟨v138, rfl, ho0, hb⟩; refine ⟨_, rfl, ?_⟩; have HO139 := aM (Kd.R_lower (nW (nW (nW ho0 HO_0.out) HO_7.out) HO135.out) (below_size dB)); replace HO_0 := oE HO_0.out ho0 hb; replace HO_7 := oE HO_7.out ho0 hb; replace HO135 := oE HO135.out ho0 hb; replace HB := hS HB.out hb; (try clear hb); (try clear ho0)))
           go_roundg k1
           case measure => have := HK1.out; omega
           case rel => exact ⟨(t136), (wrap64 (x8_1 - 1)), dF, H', ⟨by have := HK1.out; omega⟩, ⟨oM HO_0.out (fun _ hk => hk.2)⟩, ⟨oM HO139.out (fun _ hk => hk.1.1.2)⟩, ⟨dB⟩⟩
          ·rw [if_neg c32] at H
           obtain ⟨c32b0, c32b1⟩ := bF c32
           simp only [Option.some.injEq, Prod.mk.injEq] at H
           obtain ⟨rfl, rfl⟩ := H
           obtain ⟨Ao37, co37, rfl⟩ := Kd.R_slice HO_7.out
           go_wp2_with (first | ((with_reducible refine gate_callee (f := 29) rfl ?_); refine gL (some 44) Tryd.func29 #[.slice Ao37 x7_1.length co37, .slice Ao37 x7_1.length co37] ?_; (with_reducible refine (nat_Mul.calls k1 _ _ x7_1 _ _ x7_1 t132 t133 _ ?side1 (Kd.R_reads' HO_7.out).2.1 ?side3 (Kd.R_reads' HO_7.out).2.1 A26.out).mono ?_); (case side1 => exact dC (Kd.R_reads' HO_7.out).2.2); (case side3 => exact dC (Kd.R_reads' HO_7.out).2.2); rintro e w38 ⟨v134, rfl, ho0, hb⟩; refine ⟨_, rfl, ?_⟩; have HO135 := aM (Kd.R_lower (nW (nW ho0 HO_0.out) HO_7.out) (below_size dB)); replace HO_0 := oE HO_0.out ho0 hb; replace HO_7 := oE HO_7.out ho0 hb; replace HB := hS HB.out hb; (try clear hb); (try clear ho0); obtain ⟨Ao39, co39, rfl⟩ := Kd.R_slice HO135.out) | ((with_reducible refine gate_callee (f := 29) rfl ?_); refine gL (some 55) Tryd.func29 #[.slice Ao39 t132.length co39, .slice Ao23 t121.length co23] ?_; (with_reducible refine (nat_Mul.calls k1 _ _ t132 _ _ t121 t136 t137 _ ?side1 (Kd.R_reads' HO135.out).2.1 ?side3 (Kd.R_reads' HO_0.out).2.1 A30.out).mono ?_); (case side1 => exact dC (Kd.R_reads' HO135.out).2.2); (case side3 => exact dC (Kd.R_reads' HO_0.out).2.2); rintro e w40 ⟨v138, rfl, ho0, hb⟩; refine ⟨_, rfl, ?_⟩; have HO139 := aM (Kd.R_lower (nW (nW (nW ho0 HO_0.out) HO_7.out) HO135.out) (below_size dB)); replace HO_0 := oE HO_0.out ho0 hb; replace HO_7 := oE HO_7.out ho0 hb; replace HO135 := oE HO135.out ho0 hb; replace HB := hS HB.out hb; (try clear hb); (try clear ho0)))
           go_ret2
           exact ⟨_, by first | rfl | (simp [errW_none, errW_some] <;> rfl) | (simp only [← hji28]; first | rfl | (simp [errW_none, errW_some] <;> rfl)) | (simp [*, errW_none, errW_some] <;> rfl), by first | exact Kd.R_nil _ _ _ _ _ | exact Kd.N_nil _ _ _ _ _ | exact Kd.V_nil _ _ _ _ _ | exact Kd.Q_nil _ _ _ _ _ | exact Kd.S_nil _ _ _ _ _, dB⟩
         ·rw [if_neg c31] at H
          obtain ⟨c31b0, c31b1⟩ := bF c31
          simp only [Option.some.injEq, Prod.mk.injEq] at H
          obtain ⟨rfl, rfl⟩ := H
          obtain ⟨Ao41, co41, rfl⟩ := Kd.R_slice HO_7.out
          go_wp2_with (first | ((with_reducible refine gate_callee (f := 29) rfl ?_); refine gL (some 44) Tryd.func29 #[.slice Ao41 x7_1.length co41, .slice Ao41 x7_1.length co41] ?_; (with_reducible refine (nat_Mul.calls k1 _ _ x7_1 _ _ x7_1 t132 t133 _ ?side1 (Kd.R_reads' HO_7.out).2.1 ?side3 (Kd.R_reads' HO_7.out).2.1 A26.out).mono ?_); (case side1 => exact dC (Kd.R_reads' HO_7.out).2.2); (case side3 => exact dC (Kd.R_reads' HO_7.out).2.2); rintro e w42 ⟨v134, rfl, ho0, hb⟩; refine ⟨_, rfl, ?_⟩; have HO135 := aM (Kd.R_lower (nW (nW ho0 HO_0.out) HO_7.out) (below_size dB)); replace HO_0 := oE HO_0.out ho0 hb; replace HO_7 := oE HO_7.out ho0 hb; replace HB := hS HB.out hb; (try clear hb); (try clear ho0); obtain ⟨Ao43, co43, rfl⟩ := Kd.R_slice HO135.out) | ((with_reducible refine gate_callee (f := 29) rfl ?_); refine gL (some 55) Tryd.func29 #[.slice Ao43 t132.length co43, .slice Ao23 t121.length co23] ?_; (with_reducible refine (nat_Mul.calls k1 _ _ t132 _ _ t121 t136 t137 _ ?side1 (Kd.R_reads' HO135.out).2.1 ?side3 (Kd.R_reads' HO_0.out).2.1 A30.out).mono ?_); (case side1 => exact dC (Kd.R_reads' HO135.out).2.2); (case side3 => exact dC (Kd.R_reads' HO_0.out).2.2); rintro e w44 ⟨v138, rfl, ho0, hb⟩; refine ⟨_, rfl, ?_⟩; have HO139 := aM (Kd.R_lower (nW (nW (nW ho0 HO_0.out) HO_7.out) HO135.out) (below_size dB)); replace HO_0 := oE HO_0.out ho0 hb; replace HO_7 := oE HO_7.out ho0 hb; replace HO135 := oE HO135.out ho0 hb; replace HB := hS HB.out hb; (try clear hb); (try clear ho0)))
          go_ret2
          exact ⟨_, by first | rfl | (simp [errW_none, errW_some] <;> rfl) | (simp only [← hji28]; first | rfl | (simp [errW_none, errW_some] <;> rfl)) | (simp [*, errW_none, errW_some] <;> rfl), by first | exact Kd.R_nil _ _ _ _ _ | exact Kd.N_nil _ _ _ _ _ | exact Kd.V_nil _ _ _ _ _ | exact Kd.Q_nil _ _ _ _ _ | exact Kd.S_nil _ _ _ _ _, dB⟩
        ·rw [if_neg c29] at H
         obtain ⟨c29b0, c29b1⟩ := bF c29
         by_cases c45 : t133 = 0
         ·rw [if_pos c45] at H
          obtain ⟨c45b0, c45b1⟩ := bT c45
          clear c45
          have H' := aM H
          clear H
          obtain ⟨Ao46, co46, rfl⟩ := Kd.R_slice HO_7.out
          go_wp2_with (first | ((with_reducible refine gate_callee (f := 29) rfl ?_); refine gL (some 44) Tryd.func29 #[.slice Ao46 x7_1.length co46, .slice Ao46 x7_1.length co46] ?_; (with_reducible refine (nat_Mul.calls k1 _ _ x7_1 _ _ x7_1 t132 t133 _ ?side1 (Kd.R_reads' HO_7.out).2.1 ?side3 (Kd.R_reads' HO_7.out).2.1 A26.out).mono ?_); (case side1 => exact dC (Kd.R_reads' HO_7.out).2.2); (case side3 => exact dC (Kd.R_reads' HO_7.out).2.2); rintro e w47 ⟨v134, rfl, ho0, hb⟩; refine ⟨_, rfl, ?_⟩; have HO135 := aM (Kd.R_lower (nW (nW ho0 HO_0.out) HO_7.out) (below_size dB)); replace HO_0 := oE HO_0.out ho0 hb; replace HO_7 := oE HO_7.out ho0 hb; replace HB := hS HB.out hb; (try clear hb); (try clear ho0)))
          go_roundg k1
          case measure => have := HK1.out; omega
          case rel => exact ⟨(t132), (wrap64 (x8_1 - 1)), dF, H', ⟨by have := HK1.out; omega⟩, ⟨oM HO_0.out (fun _ hk => hk.2)⟩, ⟨oM HO135.out (fun _ hk => hk.1.2)⟩, ⟨dB⟩⟩
         ·rw [if_neg c45] at H
          obtain ⟨c45b0, c45b1⟩ := bF c45
          simp only [Option.some.injEq, Prod.mk.injEq] at H
          obtain ⟨rfl, rfl⟩ := H
          obtain ⟨Ao48, co48, rfl⟩ := Kd.R_slice HO_7.out
          go_wp2_with (first | ((with_reducible refine gate_callee (f := 29) rfl ?_); refine gL (some 44) Tryd.func29 #[.slice Ao48 x7_1.length co48, .slice Ao48 x7_1.length co48] ?_; (with_reducible refine (nat_Mul.calls k1 _ _ x7_1 _ _ x7_1 t132 t133 _ ?side1 (Kd.R_reads' HO_7.out).2.1 ?side3 (Kd.R_reads' HO_7.out).2.1 A26.out).mono ?_); (case side1 => exact dC (Kd.R_reads' HO_7.out).2.2); (case side3 => exact dC (Kd.R_reads' HO_7.out).2.2); rintro e w49 ⟨v134, rfl, ho0, hb⟩; refine ⟨_, rfl, ?_⟩; have HO135 := aM (Kd.R_lower (nW (nW ho0 HO_0.out) HO_7.out) (below_size dB)); replace HO_0 := oE HO_0.out ho0 hb; replace HO_7 := oE HO_7.out ho0 hb; replace HB := hS HB.out hb; (try clear hb); (try clear ho0)))
          go_ret2
          exact ⟨_, by first | rfl | (simp [errW_none, errW_some] <;> rfl) | (simp only [← hji28]; first | rfl | (simp [errW_none, errW_some] <;> rfl)) | (simp [*, errW_none, errW_some] <;> rfl), by first | exact Kd.R_nil _ _ _ _ _ | exact Kd.N_nil _ _ _ _ _ | exact Kd.V_nil _ _ _ _ _ | exact Kd.Q_nil _ _ _ _ _ | exact Kd.S_nil _ _ _ _ _, dB⟩
       ·rw [if_neg c25] at H
        have c25b0 : decide (0 ≤ x8_1) = false := decide_eq_false c25
        clear c25
        simp only [Option.some.injEq, Prod.mk.injEq] at H
        obtain ⟨rfl, rfl⟩ := H
        go_wp2
        go_ret2
        exact ⟨_, dE, oM HO_7.out (fun _ hk => trivial), dB⟩
def radix_Five.f (k : Nat) (a0 : Int) : Option (List Int × Int) := if a0 > 112899 then (some (([] : List Int), 21)) else ((quot_Pow.f k (([5] : List Int)) a0).bind fun bt143 => (some (bt143.1, bt143.2)))
theorem radix_Five.mono : ∀ a0 k, LeO (radix_Five.f k a0) (radix_Five.f (k + 1) a0) := by
 intro a0 k
 unfold radix_Five.f
 have m0_ := quot_Pow.mono
 exact mX
set_option maxHeartbeats 8000000 in
set_option maxRecDepth 100000 in
theorem radix_Five.calls (k : Nat) (a0 : Int) (r1 : List Int) (r2 : Int) (w : World) (h : radix_Five.f k a0 = some (r1, r2)) :
  Calls Tryd.prog 36 #[.int .i64 a0] w fun e w' => ∃ v0_ : Value, e = .returned (.tuple #[v0_, .int .i64 r2]) ∧ Kd.R (Kd.int .u64) 22 w' w.heap.size (fun _ => True) v0_ r1 ∧ Below w.heap.size w w' := by
 have HB := aM (Below.refl w.heap.size w)
 have H := h
 clear h
 unfold radix_Five.f at H
 by_cases c2 : a0 > 112899
 ·rw [if_pos c2] at H
  have c2b0 : decide (112899 < a0) = true := decide_eq_true c2
  clear c2
  simp only [Option.some.injEq, Prod.mk.injEq] at H
  obtain ⟨rfl, rfl⟩ := H
  go_enter Tryd.func36, Tryd.ntmps36
  go_wp2
  go_ret2
  exact ⟨_, dE, by first | exact Kd.R_nil _ _ _ _ _ | exact Kd.N_nil _ _ _ _ _ | exact Kd.V_nil _ _ _ _ _ | exact Kd.Q_nil _ _ _ _ _ | exact Kd.S_nil _ _ _ _ _, dB⟩
 ·rw [if_neg c2] at H
  have c2b0 : decide (112899 < a0) = false := decide_eq_false c2
  clear c2
  obtain ⟨y140, hy140⟩ : ∃ y_ : List Int, y_ = (([5] : List Int)) := ⟨_, rfl⟩
  replace H : ((quot_Pow.f k y140 a0).bind fun bt143 => (some (bt143.1, bt143.2))) = some (r1, r2) := by first | (rw [hy140]; with_reducible exact H) | (have H2_ := (Option.bind_some _ _).symm.trans H; rw [hy140]; with_reducible exact H2_) | (have H2_ := (Option.bind_some _ _).symm.trans H; with_reducible exact H2_) | with_reducible exact H | (rw [hy140]; exact H) | exact H
  have Ny140 := aM hy140
  clear hy140
  replace H := oA H
  obtain ⟨⟨t143, t144⟩, A3, H⟩ := H
  (try dsimp only at H)
  simp only [Option.some.injEq, Prod.mk.injEq] at H
  obtain ⟨rfl, rfl⟩ := H
  go_enter Tryd.func36, Tryd.ntmps36
  go_wp2_with (first | ((with_reducible refine gate_dst (N := 6) rfl ?_); refine Kd.R_lit (Kd.int .u64) _ 22 ?hg (N := 6) ?hd (xs := ([5] : List Int)) (inner := [.int .u64 5]) (ok := fun _ => True) (okp := fun _ => True) ?hr ?hp (fun _ hk => hk) trivial (Below.refl _ _) (Nat.le_refl _) (by simp) ?_; (case hd => rfl); (case hg => rfl); (case hr => first | (go_simp; done) | (go_simp; rfl)); (case hp => exact (Reps.one (show Kd.M (Kd.int .u64) _ _ _ 5 [.int .u64 5] from rfl) (Reps.none _ _))); intro v141 w4 ho5 hb hg_ hnew_; clear hg_ hnew_; (first | rw [← Ny140.out] at ho5 | (simp only [Int.reduceToNat] at ho5; rw [← Ny140.out] at ho5)); have HO142 := aM (Kd.R_lower ho5 (below_size dB)); replace HB := hS HB.out hb; clear hb ho5; obtain ⟨Ao6, co6, rfl⟩ := Kd.R_slice HO142.out) | ((with_reducible refine gate_callee (f := 57) rfl ?_); refine gL (some 8) Tryd.func57 #[.slice Ao6 y140.length co6, .int .i64 a0] ?_; (with_reducible refine (quot_Pow.calls k _ _ y140 a0 t143 t144 _ ?side1 (Kd.R_reads' HO142.out).2.1 A3.out).mono ?_); (case side1 => exact dC (Kd.R_reads' HO142.out).2.2); rintro e w7 ⟨v145, rfl, ho0, hb⟩; refine ⟨_, rfl, ?_⟩; have HO146 := aM (Kd.R_lower (nW ho0 HO142.out) (below_size dB)); replace HO142 := oE HO142.out ho0 hb; replace HB := hS HB.out hb; (try clear hb); (try clear ho0)))
  go_ret2
  exact ⟨_, dE, oM HO146.out (fun _ hk => trivial), dB⟩
def wide_Div.f (a0 : Int) (a1 : Int) (a2 : Int) : Option (Int × Int × Int) := if u64B a0 = true ∧ u64B a1 = true ∧ u64B a2 = true then (if a2 = 0 then some (0, 0, 10) else if a2 ≤ a0 then some (0, 0, 11) else some ((a0 * 18446744073709551616 + a1) / a2, (a0 * 18446744073709551616 + a1) % a2, 0)) else none
structure Mend (B r l d f : Int) : Prop where
 sum : d * (B / 4294967296) + f = r
 f0 : 0 ≤ f
 f1 : f < 4294967296
 le : (r * 4294967296 + l) / B ≤ d
structure DivIn (B r l : Int) : Prop where
 B0 : 9223372036854775808 ≤ B
 B1 : B < 18446744073709551616
 r0 : 0 ≤ r
 r1 : r < B
 l0 : 0 ≤ l
 l1 : l < 4294967296
theorem DivIn.q {B r l : Int} (h : DivIn B r l) : 0 ≤ (r * 4294967296 + l) / B ∧ (r * 4294967296 + l) / B < 4294967296 := by
 obtain ⟨h1, h2, h3, h4, h5, h6⟩ := h
 refine ⟨Int.ediv_nonneg (by omega) (by omega), ?_⟩
 exact Int.ediv_lt_of_lt_mul (by omega) (by omega)
theorem or_zero {y : Int} (h0 : 0 ≤ y) (h1 : y < 18446744073709551616) : Go.bits .or .u64 0 y = y := by rw [or_join 64 (by omega) (by omega) rfl h0 h1 h1]; omega
theorem Mend.start {B r l : Int} (h : DivIn B r l) : Mend B r l (r / (B / 4294967296)) (r % (B / 4294967296)) := by
 obtain ⟨h1, h2, h3, h4, h5, h6⟩ := h
 have hb : 0 < B / 4294967296 := by omega
 have e := Int.mul_ediv_add_emod r (B / 4294967296)
 have m0 := Int.emod_nonneg r (show B / 4294967296 ≠ 0 by omega)
 have m1 := Int.emod_lt_of_pos r hb
 refine ⟨by rw [Int.mul_comm]; exact e, m0, by omega, ?_⟩
 have hq : 0 ≤ r / (B / 4294967296) := Int.ediv_nonneg h3 (by omega)
 have hlt : r * 4294967296 + l < (r / (B / 4294967296) + 1) * B := by
  generalize r / (B / 4294967296) = q at *
  generalize hB : B / 4294967296 = b at *
  have h7 : b * 4294967296 ≤ B := by omega
  have h8 : (q + 1) * (b * 4294967296) ≤ (q + 1) * B := Int.mul_le_mul_of_nonneg_left h7 (by omega)
  have h9 : (q + 1) * (b * 4294967296) = (b * q + b) * 4294967296 := by grind
  omega
 have := Int.ediv_lt_of_lt_mul (by omega) hlt
 omega
theorem Mend.big {B r l d f : Int} (h : DivIn B r l) (m : Mend B r l d f) : 0 ≤ d ∧ d ≤ 4294967297 := by
 obtain ⟨h1, h2, h3, h4, h5, h6⟩ := h
 have h0 := Int.ediv_nonneg (show 0 ≤ r * 4294967296 + l by omega) (show 0 ≤ B by omega)
 refine ⟨Int.le_trans h0 m.le, ?_⟩
 apply Classical.byContradiction
 intro hc
 have h7 : 4294967298 * (B / 4294967296) ≤ d * (B / 4294967296) := Int.mul_le_mul_of_nonneg_right (by omega) (by omega)
 have := m.sum
 have := m.f0
 omega
theorem Mend.test {B r l d f : Int} (h : DivIn B r l) (m : Mend B r l d f) (hd : d ≤ 4294967295) :
  Go.bits .or .u64 (IntKind.u64.wrap (f * 4294967296)) l = f * 4294967296 + l ∧ IntKind.u64.wrap (d * Go.bits .and .u64 B 4294967295) = d * (B % 4294967296) ∧
  (f * 4294967296 + l < d * (B % 4294967296) ↔ (r * 4294967296 + l) / B < d) := by
 have hb := m.big h
 obtain ⟨h1, h2, h3, h4, h5, h6⟩ := h
 have f0 := m.f0
 have f1 := m.f1
 have e := m.sum
 rw [join_half f0 f1 h5 h6, and_half (by omega) h2]
 have p := mul_half (x := d) (y := B % 4294967296) (by omega) (by omega) (by omega) (by omega)
 refine ⟨rfl, u64w_of (by omega) (by omega), ?_⟩
 have eB : d * B = d * (B / 4294967296) * 4294967296 + d * (B % 4294967296) := by
  have : B = B / 4294967296 * 4294967296 + B % 4294967296 := by omega
  generalize B / 4294967296 = u at *
  generalize B % 4294967296 = v at *
  rw [this]; grind
 rw [Int.ediv_lt_iff_lt_mul (by omega), eB]
 omega
theorem Mend.lower {B r l d f : Int} (h : DivIn B r l) (m : Mend B r l d f) (ht : 4294967295 < d ∨ (r * 4294967296 + l) / B < d) :
  1 ≤ d ∧ (d - 1) * (B / 4294967296) + (f + B / 4294967296) = r ∧ (r * 4294967296 + l) / B ≤ d - 1 := by
 have hq := h.q
 have := m.le
 refine ⟨by omega, ?_, by omega⟩
 have := m.sum
 rw [Int.sub_mul]; omega
theorem Mend.next {B r l d f : Int} (h : DivIn B r l) (m : Mend B r l d f) (ht : 4294967295 < d ∨ (r * 4294967296 + l) / B < d) (hf : f + B / 4294967296 < 4294967296) : Mend B r l (d - 1) (f + B / 4294967296) := by
 have h1 := m.lower h ht
 have := m.f0
 have := h.B0
 exact ⟨h1.2.1, by omega, hf, h1.2.2⟩
theorem Mend.stop {B r l d f : Int} (h : DivIn B r l) (m : Mend B r l d f) (ht : 4294967295 < d ∨ (r * 4294967296 + l) / B < d) (hf : 4294967296 ≤ f + B / 4294967296) : d - 1 = (r * 4294967296 + l) / B := by
 have h1 := m.lower h ht
 have hb := m.big h
 obtain ⟨g1, g2, g3, g4, g5, g6⟩ := h
 have : d - 1 ≤ (r * 4294967296 + l) / B := by
  refine Int.le_ediv_of_mul_le (by omega) ?_
  have eB : (d - 1) * B = (d - 1) * (B / 4294967296) * 4294967296 + (d - 1) * (B % 4294967296) := by
   have : B = B / 4294967296 * 4294967296 + B % 4294967296 := by omega
   generalize B / 4294967296 = u at *
   generalize B % 4294967296 = v at *
   rw [this]; grind
  have h5 : (d - 1) * (B % 4294967296) ≤ 4294967296 * (B % 4294967296) := Int.mul_le_mul_of_nonneg_right (by omega) (by omega)
  rw [eB]
  have := h1.2.1
  omega
 omega
theorem div_rest {B r l : Int} (h : DivIn B r l) : IntKind.u64.wrap (IntKind.u64.wrap (IntKind.u64.wrap (r * 4294967296) + l) - IntKind.u64.wrap ((r * 4294967296 + l) / B * B)) = (r * 4294967296 + l) % B := by
 have e := Int.mul_ediv_add_emod (r * 4294967296 + l) B
 have m0 := Int.emod_nonneg (r * 4294967296 + l) (show B ≠ 0 by have := h.B0; omega)
 have m1 := Int.emod_lt_of_pos (r * 4294967296 + l) (show 0 < B by have := h.B0; omega)
 have := h.B1
 rw [Int.mul_comm] at e
 generalize (r * 4294967296 + l) / B * B = p at *
 simp only [u64w]
 omega
theorem DivIn.next {B r l l' : Int} (h : DivIn B r l) (h0 : 0 ≤ l') (h1 : l' < 4294967296) : DivIn B ((r * 4294967296 + l) % B) l' :=
 ⟨h.B0, h.B1, Int.emod_nonneg _ (by have := h.B0; omega), Int.emod_lt_of_pos _ (by have := h.B0; omega), h0, h1⟩
theorem div_two {B r l l' : Int} (h : DivIn B r l) (h0 : 0 ≤ l') (h1 : l' < 4294967296) :
  (r * 4294967296 + l) / B * 4294967296 + ((r * 4294967296 + l) % B * 4294967296 + l') / B = ((r * 4294967296 + l) * 4294967296 + l') / B ∧
  ((r * 4294967296 + l) % B * 4294967296 + l') % B = ((r * 4294967296 + l) * 4294967296 + l') % B := by
 have hB : 0 < B := by have := h.B0; omega
 have e := Int.mul_ediv_add_emod (r * 4294967296 + l) B
 generalize r * 4294967296 + l = n at *
 generalize hq : n / B = q at *
 generalize hr : n % B = s at *
 have e2 : n * 4294967296 + l' = (s * 4294967296 + l') + B * (q * 4294967296) := by rw [← e]; grind
 rw [e2, Int.add_mul_ediv_left _ _ (by omega), Int.add_mul_emod_self_left]
 exact ⟨by omega, rfl⟩
theorem div_scaled {n b : Int} (s : Nat) (hb : 0 < b) : n * 2 ^ s / (b * 2 ^ s) = n / b ∧ n * 2 ^ s % (b * 2 ^ s) / 2 ^ s = n % b := by
 have hs := two_pow_pos s
 refine ⟨Int.mul_ediv_mul_of_pos_left n b hs, ?_⟩
 rw [Int.mul_comm n, Int.mul_comm b, Int.mul_emod_mul_of_pos _ _ hs, Int.mul_ediv_cancel_left _ (by omega)]
theorem div_begin {a0 a1 a2 L : Int} (h0 : 0 ≤ a0) (h1a : 0 ≤ a1) (h1b : a1 < 18446744073709551616) (h2 : a2 < 18446744073709551616) (h02 : a0 < a2) (hL : L = bitsN a2) :
  0 ≤ L ∧ 1 ≤ L ∧ L ≤ 64 ∧ IntKind.u64.wrap (a2 * 2 ^ (64 - L).toNat) = a2 * 2 ^ (64 - L).toNat ∧
  DivIn (a2 * 2 ^ (64 - L).toNat) (Go.bits .or .u64 (IntKind.u64.wrap (a0 * 2 ^ (64 - L).toNat)) (a1 / 2 ^ (64 - (64 - L)).toNat)) (IntKind.u64.wrap (a1 * 2 ^ (64 - L).toNat) / 4294967296) ∧
  0 ≤ Go.bits .and .u64 (IntKind.u64.wrap (a1 * 2 ^ (64 - L).toNat)) 4294967295 ∧ Go.bits .and .u64 (IntKind.u64.wrap (a1 * 2 ^ (64 - L).toNat)) 4294967295 < 4294967296 ∧
  (Go.bits .or .u64 (IntKind.u64.wrap (a0 * 2 ^ (64 - L).toNat)) (a1 / 2 ^ (64 - (64 - L)).toNat) * 4294967296 + IntKind.u64.wrap (a1 * 2 ^ (64 - L).toNat) / 4294967296) * 4294967296 + Go.bits .and .u64 (IntKind.u64.wrap (a1 * 2 ^ (64 - L).toNat)) 4294967295 = (a0 * 18446744073709551616 + a1) * 2 ^ (64 - L).toNat := by
 have hp : 0 < a2 := by omega
 have hL1 : 1 ≤ L := by rw [hL, bitsN_pos hp]; omega
 have hL2 : L ≤ 64 := by rw [hL]; exact bitsN_le_of_lt (n := 64) (by omega) h2
 have hlt := bitsN_lt hp
 have hge := bitsN_ge hp
 rw [← hL] at hlt hge
 obtain ⟨l, rfl⟩ : ∃ l : Nat, L = l + 1 := ⟨(L - 1).toNat, by omega⟩
 have e1 : ((l : Int) + 1).toNat = l + 1 := by omega
 rw [e1] at hlt hge
 simp only [Nat.add_sub_cancel] at hge
 have e2 : (64 - ((l : Int) + 1)).toNat = 63 - l := by omega
 have e3 : (64 - (64 - ((l : Int) + 1))).toNat = l + 1 := by omega
 rw [e2, e3]
 have hs := two_pow_pos (63 - l)
 have hs2 := two_pow_pos (l + 1)
 have p64 : (2 : Int) ^ (l + 1) * 2 ^ (63 - l) = 18446744073709551616 := by rw [← Int.pow_add, show l + 1 + (63 - l) = 64 from by omega]; rfl
 have p63 : (2 : Int) ^ l * 2 ^ (63 - l) = 9223372036854775808 := by rw [← Int.pow_add, show l + (63 - l) = 63 from by omega]; rfl
 have hSle : (2 : Int) ^ (63 - l) ≤ 2 ^ 63 := pow_mono (by omega)
 have hS63 : (2 : Int) ^ 63 = 9223372036854775808 := rfl
 have hB1 : a2 * 2 ^ (63 - l) < 18446744073709551616 := by
  rw [← p64]; exact Int.mul_lt_mul_of_pos_right hlt hs
 have hB0 : 9223372036854775808 ≤ a2 * 2 ^ (63 - l) := by
  rw [← p63]; exact Int.mul_le_mul_of_nonneg_right hge (Int.le_of_lt hs)
 have hA : a0 * 2 ^ (63 - l) + 2 ^ (63 - l) ≤ a2 * 2 ^ (63 - l) := by
  have : (a0 + 1) * 2 ^ (63 - l) ≤ a2 * 2 ^ (63 - l) := Int.mul_le_mul_of_nonneg_right (by omega) (Int.le_of_lt hs)
  rw [Int.add_mul, Int.one_mul] at this; exact this
 have hA0 : 0 ≤ a0 * 2 ^ (63 - l) := Int.mul_nonneg h0 (Int.le_of_lt hs)
 have hd0 : 0 ≤ a1 / 2 ^ (l + 1) := Int.ediv_nonneg h1a (Int.le_of_lt hs2)
 have hd1 : a1 / 2 ^ (l + 1) < 2 ^ (63 - l) := Int.ediv_lt_of_lt_mul hs2 (by rw [Int.mul_comm, p64]; exact h1b)
 have hw0 : IntKind.u64.wrap (a0 * 2 ^ (63 - l)) = a0 * 2 ^ (63 - l) := u64w_of hA0 (by omega)
 have hor : Go.bits .or .u64 (a0 * 2 ^ (63 - l)) (a1 / 2 ^ (l + 1)) = a0 * 2 ^ (63 - l) + a1 / 2 ^ (l + 1) :=
  or_join (63 - l) hA0 (by omega) (Int.mul_emod_left _ _) hd0 hd1 (by omega)
 have hand := and_half (x := IntKind.u64.wrap (a1 * 2 ^ (63 - l))) (u64w_range _).1 (u64w_range _).2
 have hw := u64w_range (a1 * 2 ^ (63 - l))
 have hsplit : a1 * 2 ^ (63 - l) = 18446744073709551616 * (a1 / 2 ^ (l + 1)) + IntKind.u64.wrap (a1 * 2 ^ (63 - l)) := by
  rw [u64w]
  have h9 : a1 * 2 ^ (63 - l) / 18446744073709551616 = a1 / 2 ^ (l + 1) := by
   rw [← p64]; exact Int.mul_ediv_mul_of_pos_left _ _ hs
  have := Int.mul_ediv_add_emod (a1 * 2 ^ (63 - l)) 18446744073709551616
  rw [h9] at this; omega
 rw [hw0, hor, hand]
 generalize IntKind.u64.wrap (a1 * 2 ^ (63 - l)) = v at *
 refine ⟨by omega, hL1, hL2, u64w_of (by omega) hB1, ⟨hB0, hB1, by omega, by omega, by omega, by omega⟩, by omega, by omega, ?_⟩
 have e9 : (a0 * 18446744073709551616 + a1) * 2 ^ (63 - l) = a0 * 2 ^ (63 - l) * 18446744073709551616 + a1 * 2 ^ (63 - l) := by grind
 rw [e9, hsplit]
 omega
set_option maxHeartbeats 8000000 in
theorem wide_Div.calls (a0 : Int) (a1 : Int) (a2 : Int) (r1 : Int) (r2 : Int) (r3 : Int) (w : World) (h : wide_Div.f a0 a1 a2 = some (r1, r2, r3)) :
  Calls Tryd.prog 74 #[.int .u64 a0, .int .u64 a1, .int .u64 a2] w fun e w' => e = .returned (.tuple #[.int .u64 r1, .int .u64 r2, .int .i64 r3]) ∧ Below w.heap.size w w' := by
 unfold wide_Div.f at h
 split at h
 case isFalse => cases h
 rename_i hh
 simp only [u64B_iff] at hh
 obtain ⟨⟨h0a, h0b⟩, ⟨h1a, h1b⟩, h2a, h2b⟩ := hh
 split at h
 case isTrue hz =>
  subst hz
  simp only [Option.some.injEq, Prod.mk.injEq] at h
  obtain ⟨rfl, rfl, rfl⟩ := h
  go_enter Tryd.func74, Tryd.ntmps74
  go_wp2
  go_ret3
  exact ⟨rfl, Below.refl _ _⟩
 rename_i hz
 have g1 : (a2 == 0) = false := beq_eq_false_iff_ne.mpr hz
 split at h
 case isTrue hge =>
  simp only [Option.some.injEq, Prod.mk.injEq] at h
  obtain ⟨rfl, rfl, rfl⟩ := h
  have g2 : decide (a2 ≤ a0) = true := decide_eq_true hge
  clear hz
  go_enter Tryd.func74, Tryd.ntmps74
  go_wp2
  go_ret3
  exact ⟨rfl, Below.refl _ _⟩
 rename_i hge
 have g2 : decide (a2 ≤ a0) = false := decide_eq_false hge
 simp only [Option.some.injEq, Prod.mk.injEq] at h
 obtain ⟨e1, e2, rfl⟩ := h
 have E1 := aM e1
 have E2 := aM e2
 clear e1 e2 hz
 obtain ⟨L, hL⟩ : ∃ L, L = bitsN a2 := ⟨_, rfl⟩
 obtain ⟨hL0, hL1, hL2, hB, hin, hl0, hl1, hN⟩ := div_begin h0a h1a h1b h2b (by omega) hL
 have HL := aM (wide_Len.f_eq h2a h2b 7 (by omega))
 rw [← hL] at HL
 have HB := aM hB; have HI := aM hin; have HN := aM hN; have Hl0 := aM hl0; have Hl1 := aM hl1
 clear hL hB hin hN hl0 hl1 hge
 go_enter Tryd.func74, Tryd.ntmps74
 go_wp2_with (first | (go_at_call 72; (with_reducible refine (wide_Len.calls 7 _ _ _ HL.out).mono ?_); rintro e w' ⟨rfl, ⟨n, rfl⟩⟩))
 go_quiet (fail)
 go_wp2
 have kc : ∀ (m j : Nat), j < 2 → ((w.drewN m).alloc (Obj.cells #[Value.int IntKind.u64 0, Value.int IntKind.u64 0] 107)).cell? ⟨w.heap.size, j, none⟩ = some (.int .u64 0) := by
  intro m j hj
  rw [blk_cell (blk_new' (w.drewN m) _ (g := w.heap.size) rfl) j]
  rcases j with _ | _ | j
  ·rfl
  ·rfl
  ·omega
 have kf : ∀ (m j : Nat), ((w.drewN m).alloc (Obj.cells #[Value.int IntKind.u64 0, Value.int IntKind.u64 0] 107)).frozen? ⟨w.heap.size, j, none⟩ = false := by
  intro m j
  exact blk_frozen (blk_new' (w.drewN m) _ (g := w.heap.size) rfl) j
 have kc0 := fun m => kc m 0 (by omega)
 have kc1 := fun m => kc m 1 (by omega)
 clear kc
 go_region
 clear kc0 kc1 kf
 go_upto_block 0 with (fail)
 rw [HB.out]
 generalize hBd : a2 * 2 ^ (64 - L).toNat = B at *
 generalize hRd : Go.bits BinOp.or IntKind.u64 (IntKind.u64.wrap (a0 * 2 ^ (64 - L).toNat)) (a1 / 2 ^ (64 - (64 - L)).toNat) = R at *
 generalize hl0d : IntKind.u64.wrap (a1 * 2 ^ (64 - L).toNat) / 4294967296 = l0 at *
 generalize hl1d : Go.bits BinOp.and IntKind.u64 (IntKind.u64.wrap (a1 * 2 ^ (64 - L).toNat)) 4294967295 = l1 at *
 have HC : ((((w.drewN (n + nq + 1)).alloc (Obj.cells #[Value.int IntKind.u64 0, Value.int IntKind.u64 0] 107)).setCell ⟨w.heap.size, 0, none⟩ (Value.int IntKind.u64 l0)).setCell ⟨w.heap.size, 1, none⟩ (Value.int IntKind.u64 l1)).heap[w.heap.size]? = some (.cells #[.int .u64 l0, .int .u64 l1] 107 (0, 0)) := blk_set (blk_set (blk_new' (w.drewN (n + nq + 1)) _ (g := w.heap.size) rfl) 0 _) 1 _
 have HW := aM (show Below w.heap.size w ((((w.drewN (n + nq + 1)).alloc (Obj.cells #[Value.int IntKind.u64 0, Value.int IntKind.u64 0] 107)).setCell ⟨w.heap.size, 0, none⟩ (Value.int IntKind.u64 l0)).setCell ⟨w.heap.size, 1, none⟩ (Value.int IntKind.u64 l1)) from below_set (below_set (below_alloc (pw_below_drewN (Below.refl _ _) _) _) (Nat.le_refl _)) (Nat.le_refl _))
 generalize ((((w.drewN (n + nq + 1)).alloc (Obj.cells #[Value.int IntKind.u64 0, Value.int IntKind.u64 0] 107)).setCell ⟨w.heap.size, 0, none⟩ (Value.int IntKind.u64 l0)).setCell ⟨w.heap.size, 1, none⟩ (Value.int IntKind.u64 l1)) = W1 at *
 have HC0 := blk_cell HC 0
 have HC1 := blk_cell HC 1
 replace HC0 : W1.cell? ⟨w.heap.size, 0, none⟩ = some (.int .u64 l0) := HC0
 replace HC1 : W1.cell? ⟨w.heap.size, 1, none⟩ = some (.int .u64 l1) := HC1
 clear HC
 have HI0 := HI
 have HI1 := aM (HI.out.next Hl0.out Hl1.out)
 go_cut [10, 12] (fun v10 v12 wx => v10 = .int .u64 (((R * 4294967296 + l0) % B * 4294967296 + l1) % B) ∧ v12 = .int .u64 ((R * 4294967296 + l0) / B * 4294967296 + ((R * 4294967296 + l0) % B * 4294967296 + l1) / B) ∧ Aside0 (Below w.heap.size w wx))
 case first =>
  have hB0 := HI.out.B0; have hB1 := HI.out.B1; have hR0 := HI.out.r0; have hR1 := HI.out.r1; have hl00 := HI.out.l0; have hl01 := HI.out.l1; have hl10 := HI1.out.l0; have hl11 := HI1.out.l1
  have hq0 := HI.out.q
  obtain ⟨hq0a, hq0b⟩ := hq0
  go_wp2
  refine wp_loop_rounds 3 ?_
  rw [rounds_succ]
  go_upto_block 2 with (fail)
  go_cut [14, 15] (fun v14 v15 wx => ∃ f : Int, v14 = .int .u64 ((R * 4294967296 + l0) / B) ∧ v15 = .int .u64 f ∧ wx.cell? ⟨w.heap.size, 0, none⟩ = some (.int .u64 l0) ∧ wx.cell? ⟨w.heap.size, 1, none⟩ = some (.int .u64 l1) ∧ Aside0 (Below w.heap.size w wx))
  case first =>
   go_wp2
   go_loopw [14, 15] (fun v14 v15 wr => ∃ d f : Int, v14 = .int .u64 d ∧ v15 = .int .u64 f ∧ Mend B R l0 d f ∧ wr.cell? ⟨w.heap.size, 0, none⟩ = some (.int .u64 l0) ∧ wr.cell? ⟨w.heap.size, 1, none⟩ = some (.int .u64 l1) ∧ Aside0 (Below w.heap.size w wr)) (fun v14 _ _ => (intOf v14).toNat)
   case atStart => exact ⟨_, _, rfl, rfl, Mend.start HI0.out, HC0, HC1, HW⟩
   case round =>
    obtain ⟨d, f, rfl, rfl, hm, hc0, hc1, hb⟩ := hrel
    have hbig := hm.big HI0.out
    obtain ⟨hd0, hd1⟩ := hbig
    have hf0 := hm.f0; have hf1 := hm.f1
    by_cases ht : 4294967295 < d ∨ (R * 4294967296 + l0) / B < d
    ·have hlow := hm.lower HI0.out ht
     have hd2 : 1 ≤ d := hlow.1
     have hT := aM ht
     have hg : (decide (4294967295 < d) = true) ∨ (decide (4294967295 < d) = false ∧ decide (Go.bits .or .u64 (f * 4294967296) l0 < IntKind.u64.wrap (d * Go.bits .and .u64 B 4294967295)) = true) := by
      by_cases c1 : 4294967295 < d
      ·exact .inl (decide_eq_true c1)
      ·have h3 := hm.test HI0.out (by omega)
       refine .inr ⟨decide_eq_false c1, ?_⟩
       rw [← u64w_of (x := f * 4294967296) (by omega) (by omega), h3.1, h3.2.1]
       exact decide_eq_true (h3.2.2.2 (by omega))
     clear ht hlow
     by_cases hf2 : f + B / 4294967296 < 4294967296
     ·have hf3 : decide (4294967295 < f + B / 4294967296) = false := decide_eq_false (by omega)
      have hnx := hm.next HI0.out hT.out hf2
      clear hf2
      rcases hg with hg | ⟨hg, hg2⟩
      all_goals
       go_wp2
       go_roundw
       case rel => exact ⟨_, _, rfl, rfl, hnx, hc0, hc1, hb⟩
       case measure => simp only [intOf]; omega
     ·have hf3 : decide (4294967295 < f + B / 4294967296) = true := decide_eq_true (by omega)
      have hst := aM (hm.stop HI0.out hT.out (by omega))
      clear hf2
      rcases hg with hg | ⟨hg, hg2⟩
      all_goals
       go_wp2
       go_meet
       exact ⟨_, by rw [hst.out], rfl, hc0, hc1, hb⟩
    ·have c1 : decide (4294967295 < d) = false := decide_eq_false (by omega)
     have h3 := hm.test HI0.out (by omega)
     have c2 : decide (Go.bits .or .u64 (f * 4294967296) l0 < IntKind.u64.wrap (d * Go.bits .and .u64 B 4294967295)) = false := by
      rw [← u64w_of (x := f * 4294967296) (by omega) (by omega), h3.1, h3.2.1]
      exact decide_eq_false (fun h4 => ht (.inr (h3.2.2.1 h4)))
     have hst := aM (show d = (R * 4294967296 + l0) / B from by have := hm.le; omega)
     clear h3 ht
     go_wp2
     go_meet
     exact ⟨_, by rw [hst.out], rfl, hc0, hc1, hb⟩
  case rest =>
   obtain ⟨f0, rfl, rfl, hc0, hc1, hb⟩ := hcut
   have hR10 := HI1.out.r0; have hR11 := HI1.out.r1
   have hq1 := HI1.out.q
   obtain ⟨hq1a, hq1b⟩ := hq1
   go_wp2
   rw [div_rest HI.out, or_zero hq0a (by omega), rounds_succ]
   clear HC0 HC1
   go_upto_block 2 with (fail)
   go_cut [14, 15] (fun v14 v15 wx => ∃ f : Int, v14 = .int .u64 ((((R * 4294967296 + l0) % B) * 4294967296 + l1) / B) ∧ v15 = .int .u64 f ∧ wx.cell? ⟨w.heap.size, 0, none⟩ = some (.int .u64 l0) ∧ wx.cell? ⟨w.heap.size, 1, none⟩ = some (.int .u64 l1) ∧ Aside0 (Below w.heap.size w wx))
   case first =>
    go_wp2
    go_loopw [14, 15] (fun v14 v15 wr => ∃ d f : Int, v14 = .int .u64 d ∧ v15 = .int .u64 f ∧ Mend B ((R * 4294967296 + l0) % B) l1 d f ∧ wr.cell? ⟨w.heap.size, 0, none⟩ = some (.int .u64 l0) ∧ wr.cell? ⟨w.heap.size, 1, none⟩ = some (.int .u64 l1) ∧ Aside0 (Below w.heap.size w wr)) (fun v14 _ _ => (intOf v14).toNat)
    case atStart => exact ⟨_, _, rfl, rfl, Mend.start HI1.out, hc0, hc1, hb⟩
    case round =>
     obtain ⟨d, f, rfl, rfl, hm, hc0, hc1, hb⟩ := hrel
     have hbig := hm.big HI1.out
     obtain ⟨hd0, hd1⟩ := hbig
     have hf0 := hm.f0; have hf1 := hm.f1
     by_cases ht : 4294967295 < d ∨ (((R * 4294967296 + l0) % B) * 4294967296 + l1) / B < d
     ·have hlow := hm.lower HI1.out ht
      have hd2 : 1 ≤ d := hlow.1
      have hT := aM ht
      have hg : (decide (4294967295 < d) = true) ∨ (decide (4294967295 < d) = false ∧ decide (Go.bits .or .u64 (f * 4294967296) l1 < IntKind.u64.wrap (d * Go.bits .and .u64 B 4294967295)) = true) := by
       by_cases c1 : 4294967295 < d
       ·exact .inl (decide_eq_true c1)
       ·have h3 := hm.test HI1.out (by omega)
        refine .inr ⟨decide_eq_false c1, ?_⟩
        rw [← u64w_of (x := f * 4294967296) (by omega) (by omega), h3.1, h3.2.1]
        exact decide_eq_true (h3.2.2.2 (by omega))
      clear ht hlow
      by_cases hf2 : f + B / 4294967296 < 4294967296
      ·have hf3 : decide (4294967295 < f + B / 4294967296) = false := decide_eq_false (by omega)
       have hnx := hm.next HI1.out hT.out hf2
       clear hf2
       rcases hg with hg | ⟨hg, hg2⟩
       all_goals
        go_wp2
        go_roundw
        case rel => exact ⟨_, _, rfl, rfl, hnx, hc0, hc1, hb⟩
        case measure => simp only [intOf]; omega
      ·have hf3 : decide (4294967295 < f + B / 4294967296) = true := decide_eq_true (by omega)
       have hst := aM (hm.stop HI1.out hT.out (by omega))
       clear hf2
       rcases hg with hg | ⟨hg, hg2⟩
       all_goals
        go_wp2
        go_meet
        exact ⟨_, by rw [hst.out], rfl, hc0, hc1, hb⟩
     ·have c1 : decide (4294967295 < d) = false := decide_eq_false (by omega)
      have h3 := hm.test HI1.out (by omega)
      have c2 : decide (Go.bits .or .u64 (f * 4294967296) l1 < IntKind.u64.wrap (d * Go.bits .and .u64 B 4294967295)) = false := by
       rw [← u64w_of (x := f * 4294967296) (by omega) (by omega), h3.1, h3.2.1]
       exact decide_eq_false (fun h4 => ht (.inr (h3.2.2.1 h4)))
      have hst := aM (show d = (((R * 4294967296 + l0) % B) * 4294967296 + l1) / B from by have := hm.le; omega)
      clear h3 ht
      go_wp2
      go_meet
      exact ⟨_, by rw [hst.out], rfl, hc0, hc1, hb⟩
   case rest =>
    obtain ⟨f1, rfl, rfl, hc0, hc1, hb⟩ := hcut
    go_wp2
    rw [div_rest HI1.out, or_join 32 (by omega) (by omega) (by show _ % 4294967296 = 0; omega) hq1a (by exact hq1b) (by omega), rounds_succ]
    go_wp2
    go_meet
    exact ⟨rfl, rfl, hb⟩
 case rest =>
  obtain ⟨rfl, rfl, hb⟩ := hcut
  have hR20 : 0 ≤ ((R * 4294967296 + l0) % B * 4294967296 + l1) % B := Int.emod_nonneg _ (by have := HI.out.B0; omega)
  have hd2 := div_two HI.out Hl0.out Hl1.out
  have hsc := div_scaled (n := a0 * 18446744073709551616 + a1) (b := a2) (64 - L).toNat (by have := of_decide_eq_false g2; omega)
  rw [HN.out, ← hBd] at hd2
  rw [hsc.1] at hd2
  have hQ := aM (hd2.1.trans E1.out)
  have hr2 : ((R * 4294967296 + l0) % B * 4294967296 + l1) % B / 2 ^ (64 - L).toNat = r2 := by
   rw [← hBd, hd2.2, hsc.2, E2.out]
  have hR2 := aM hr2
  rw [hBd] at hQ
  generalize ((R * 4294967296 + l0) % B * 4294967296 + l1) % B = R2 at *
  generalize (R * 4294967296 + l0) / B * 4294967296 + ((R * 4294967296 + l0) % B * 4294967296 + l1) / B = Q at *
  clear hd2 hsc hr2
  go_wp2
  go_quiet (fail)
  go_wp2
  go_ret3
  exact ⟨by rw [hQ.out, hR2.out]; rfl, pw_below_drewN hb.out _⟩
def quot_Small.l0 : Nat → List Int → Int → List Int → Int → Int → Option (List Int × Int × Int)
 | 0, _, _, _, _, _ => none
 | k + 1, x0, x1, x7, x8, x9 => if x9 ≥ 0 then (if 0 ≤ x9 then (if x9 < (x0.length : Int) then ((wide_Div.f x8 (rd x0 x9) x1).bind fun bt151 => (if x9 < (x7.length : Int) then (quot_Small.l0 k x0 x1 (x7.set (x9 : Int).toNat bt151.1) bt151.2.1 (wrap64 (x9 - 1))) else (none))) else (none)) else (none)) else ((nat_Norm.f x7).bind fun t155 => (some (t155, x8, 0)))
def quot_Small.f (k : Nat) (l0 : List Int) (a1 : Int) : Option (List Int × Int × Int) := if a1 = 0 then (some (([] : List Int), 0, 30)) else (if 0 ≤ (l0.length : Int) then (if ((l0.length : Int) : Int).toNat ≤ 35184372088832 then (quot_Small.l0 k l0 a1 (List.replicate ((l0.length : Int) : Int).toNat 0) 0 (wrap64 ((l0.length : Int) - 1))) else (none)) else (none))
theorem quot_Small.mono_l : ∀ k, (∀ y0 y1 y2 y3 y4, LeO (quot_Small.l0 k y0 y1 y2 y3 y4) (quot_Small.l0 (k + 1) y0 y1 y2 y3 y4))
 | 0 => fun _ _ _ _ _ r h => by simp [quot_Small.l0] at h
 | k + 1 => by
  have ih0 := quot_Small.mono_l k
  ·intro y0 y1 y2 y3 y4
   unfold quot_Small.l0
   exact mX
theorem quot_Small.mono : ∀ a0 a1 k, LeO (quot_Small.f k a0 a1) (quot_Small.f (k + 1) a0 a1) := by
 intro a0 a1 k
 have ih0 := quot_Small.mono_l k
 unfold quot_Small.f
 exact mX
set_option maxHeartbeats 8000000 in
set_option maxRecDepth 100000 in
theorem quot_Small.calls (k : Nat) (A0 : Option Addr) (c0 : Nat) (l0 : List Int) (a1 : Int) (r1 : List Int) (r2 : Int) (r3 : Int) (w : World) (hr0 : Kd.C (Kd.int .u64) w A0 l0.length l0) (hc0 : l0.length ≤ c0) (h : quot_Small.f k l0 a1 = some (r1, r2, r3)) :
  Calls Tryd.prog 58 #[.slice A0 l0.length c0, .int .u64 a1] w fun e w' => ∃ v0_ : Value, e = .returned (.tuple #[v0_, .int .u64 r2, .int .i64 r3]) ∧ Kd.R (Kd.int .u64) 22 w' w.heap.size (fun _ => True) v0_ r1 ∧ Below w.heap.size w w' := by
 have HR0 := aM hr0
 have HC0 := aM hc0
 clear hr0 hc0
 have HB := aM (Below.refl w.heap.size w)
 have H := h
 clear h
 unfold quot_Small.f at H
 by_cases c3 : a1 = 0
 ·rw [if_pos c3] at H
  obtain ⟨c3b0, c3b1⟩ := bT c3
  clear c3
  simp only [Option.some.injEq, Prod.mk.injEq] at H
  obtain ⟨rfl, rfl, rfl⟩ := H
  go_enter Tryd.func58, Tryd.ntmps58
  go_wp2
  go_ret3
  exact ⟨_, dE, by first | exact Kd.R_nil _ _ _ _ _ | exact Kd.N_nil _ _ _ _ _ | exact Kd.V_nil _ _ _ _ _ | exact Kd.Q_nil _ _ _ _ _ | exact Kd.S_nil _ _ _ _ _, dB⟩
 ·rw [if_neg c3] at H
  obtain ⟨c3b0, c3b1⟩ := bF c3
  replace H := nO H
  obtain ⟨c4, H⟩ := H
  have c4b0 := eq_true c4
  have c4b1 : decide (0 ≤ (l0.length : Int)) = true := decide_eq_true c4
  clear c4
  replace H := nO H
  obtain ⟨c5, H⟩ := H
  have c5b0 := eq_true c5
  have c5b1 := decide_eq_true c5
  clear c5
  obtain ⟨y147, hy147⟩ : ∃ y_ : List Int, y_ = (List.replicate ((l0.length : Int) : Int).toNat 0) := ⟨_, rfl⟩
  replace H : (quot_Small.l0 k l0 a1 y147 0 (wrap64 ((l0.length : Int) - 1))) = some (r1, r2, r3) := by first | (rw [hy147]; with_reducible exact H) | (have H2_ := (Option.bind_some _ _).symm.trans H; rw [hy147]; with_reducible exact H2_) | (have H2_ := (Option.bind_some _ _).symm.trans H; with_reducible exact H2_) | with_reducible exact H | (rw [hy147]; exact H) | exact H
  have Ny147 := aM hy147
  clear hy147
  have H' := aM H
  clear H
  go_enter Tryd.func58, Tryd.ntmps58
  go_wp2_with (first | ((with_reducible refine gate_dst (N := 14) rfl ?_); refine Kd.R_make (Kd.int .u64) _ 22 rfl (N := 14) rfl 37 _ _ rfl (l0.length : Int) rfl rfl Tryd.underlying37 (.int .u64 0) 8 info22 rfl (by decide) (by omega) 0 (ok := fun _ => True) (okp := fun _ => True) rfl (fun _ hk => hk) trivial (of_decide_eq_true dS) (Nat.le_trans (Nat.mul_le_mul_right _ (of_decide_eq_true dS : (l0.length : Int).toNat ≤ 35184372088832)) (by omega)) (Below.refl _ _) (Nat.le_refl _) ?_; intro v148 w6 ho7 hb hg_ hnew_; clear hg_ hnew_; (first | rw [← Ny147.out] at ho7 | (simp only [Int.reduceToNat] at ho7; rw [← Ny147.out] at ho7)); have HO149 := aM (Kd.R_lower ho7 (below_size dB)); replace HB := hS HB.out hb; clear hb ho7))
  go_loopg [8, 9] k (fun kq v8 v9 w' => ∃ (x7_1 : List Int) (x8_1 : Int) (x9_1 : Int), v8 = .int .u64 x8_1 ∧ v9 = .int .i64 x9_1 ∧ Aside0 (quot_Small.l0 kq l0 a1 x7_1 x8_1 x9_1 = some (r1, r2, r3)) ∧ Aside0 (kq ≤ k) ∧ Aside0 (Kd.R (Kd.int .u64) 22 w' w.heap.size (fun _ => True) v148 x7_1) ∧ Aside0 (Below w.heap.size w w'))
  case atStart => exact ⟨(y147), (0), (wrap64 ((l0.length : Int) - 1)), dF, dF, H', ⟨Nat.le_refl _⟩, ⟨dR HO149.out⟩, ⟨dB⟩⟩
  case round =>
   clear H'
   try clear c3
   try clear c3b0 c3b1
   try clear c4
   try clear c4b0 c4b1
   try clear c5
   try clear c5b0 c5b1
   obtain ⟨x7_1, x8_1, x9_1, rfl, rfl, HA, HK1, HO_7, HB⟩ := hrel
   cases gk with
   | zero => exact absurd HA.out (by simp [quot_Small.l0])
   | succ k1 =>
    have H := HA.out
    clear HA
    simp only [quot_Small.l0] at H
    by_cases c8 : x9_1 ≥ 0
    ·rw [if_pos c8] at H
     have c8b0 : decide (0 ≤ x9_1) = true := decide_eq_true c8
     clear c8
     replace H := nO H
     obtain ⟨c9, H⟩ := H
     have c9b0 : decide (0 ≤ x9_1) = true := decide_eq_true c9
     clear c9
     replace H := nO H
     obtain ⟨c10, H⟩ := H
     have c10b0 := decide_eq_true c10
     clear c10
     replace H := oA H
     obtain ⟨⟨t151, t152, t153⟩, A11, H⟩ := H
     (try dsimp only at H)
     replace H := nO H
     obtain ⟨c12, H⟩ := H
     have c12b0 := decide_eq_true c12
     clear c12
     obtain ⟨y154, hy154⟩ : ∃ y_ : List Int, y_ = (x7_1.set (x9_1 : Int).toNat t151) := ⟨_, rfl⟩
     replace H : (quot_Small.l0 k1 l0 a1 y154 t152 (wrap64 (x9_1 - 1))) = some (r1, r2, r3) := by first | (rw [hy154]; with_reducible exact H) | (have H2_ := (Option.bind_some _ _).symm.trans H; rw [hy154]; with_reducible exact H2_) | (have H2_ := (Option.bind_some _ _).symm.trans H; with_reducible exact H2_) | with_reducible exact H | (rw [hy154]; exact H) | exact H
     have Ny154 := aM hy154
     clear hy154
     have H' := aM H
     clear H
     have p150 : 0 ≤ (x9_1 : Int) := of_decide_eq_true dS
     have q150 : x9_1 < (l0.length : Int) := of_decide_eq_true dS
     obtain ⟨ad150, e150, hx150_0⟩ := Kd.at_int HR0.out x9_1 p150 q150
     cases e150
     replace hx150_0 := (HB.out.cell (World.block_lt_of_cell? w _ hx150_0)).trans hx150_0
     replace p150 := eq_true p150
     replace q150 := eq_true q150
     go_wp2_with (first | ((with_reducible refine gate_callee (f := 74) rfl ?_); refine gL (some 31) Tryd.func74 #[.int .u64 x8_1, .int .u64 (rd l0 x9_1), .int .u64 a1] ?_; (with_reducible refine (wide_Div.calls x8_1 (rd l0 x9_1) a1 t151 t152 t153 _ A11.out).mono ?_); rintro e w14 ⟨rfl, hb⟩; refine ⟨_, rfl, ?_⟩; replace HO_7 := oB HO_7.out hb; replace HB := hS HB.out hb; (try clear hb); have p13 : 0 ≤ (x9_1 : Int) := of_decide_eq_true dS; have q13 : (x9_1 : Int) < ((x7_1.length : Int) : Int) := of_decide_eq_true dS; obtain ⟨go13, co13, eo13, gb13, gl13, cl13, HG13⟩ := Kd.R_form HO_7.out (by omega); (first | cases eo13 | (injection eo13 with ea_ en_ ec_; (first | subst ea_ | (injection ea_ with ea_; subst ea_)); subst ec_; clear en_)); have GB13 := aM gb13; have GG13 := aM HG13; clear gb13 gl13 HG13; obtain ⟨hx13_0, hf13_0⟩ := Kd.R_celln 0 HO_7.out (x9_1 : Int) p13 q13; replace p13 := eq_true p13; replace q13 := eq_true q13; obtain ⟨hy15_, hz15_⟩ := Kd.R_celln 0 HO_7.out (x9_1 : Int) (of_decide_eq_true dS) (of_decide_eq_true dS); have HP15 := Kd.R_putg HO_7.out (x9_1 : Int) t151) | ((with_reducible refine gate_store (t := 22) (p := 35) rfl ?_); refine store_event (t := 22) (p := 35) (v := ?vo_w16) (w1 := (w14.setCell ⟨go13, (x9_1 : Int).toNat, none⟩ (.int .u64 t151))) ?hg ?ho ?hn ?hr ?_; (case ho => rfl); (case hg => rfl); (case hn => rfl); (case hr => first | (go_simp; done) | (go_simp; rfl)); intro w16 hw; have hg : w14.grownBy w16 (some go13) := (by rw [hw]; exact HP15.2); have hp_ : Kd.R (Kd.int .u64) 22 w16 w.heap.size (fun _ => True) (.slice (some ⟨go13, 0, none⟩) x7_1.length co13) y154 := (by rw [hw, Ny154.out]; exact HP15.1); clear HP15; replace HO_7 := aM (hp_); replace HB := aM ((by rw [hw]; exact below_set (HB.out) GB13.out : Below w.heap.size w w16)); clear hg hw hp_))
     go_roundg k1
     case measure => have := HK1.out; omega
     case rel => exact ⟨(y154), (t152), (wrap64 (x9_1 - 1)), dF, dF, H', ⟨by have := HK1.out; omega⟩, ⟨dR HO_7.out⟩, ⟨dB⟩⟩
    ·rw [if_neg c8] at H
     have c8b0 : decide (0 ≤ x9_1) = false := decide_eq_false c8
     clear c8
     replace H := oA H
     obtain ⟨t155, A17, H⟩ := H
     (try dsimp only at H)
     simp only [Option.some.injEq, Prod.mk.injEq] at H
     obtain ⟨rfl, rfl, rfl⟩ := H
     obtain ⟨Ao18, co18, rfl⟩ := Kd.R_slice HO_7.out
     go_wp2_with (first | ((with_reducible refine gate_callee (f := 54) rfl ?_); refine gL (some 37) Tryd.func54 #[.slice Ao18 x7_1.length co18] ?_; (with_reducible refine (nat_Norm.calls _ _ x7_1 t155 _ ?side1 (Kd.R_reads' HO_7.out).2.1 A17.out).mono ?_); (case side1 => exact dC (Kd.R_reads' HO_7.out).2.2); rintro e w19 ⟨v156, rfl, ho0, hb⟩; refine ⟨_, rfl, ?_⟩; have HO157 := aM (Kd.R_lower (nW ho0 HO_7.out) (below_size dB)); replace HO_7 := oE HO_7.out ho0 hb; replace HB := hS HB.out hb; (try clear hb); (try clear ho0)))
     go_ret3
     exact ⟨_, dE, oM HO157.out (fun _ hk => trivial), dB⟩
def radix_Trim.l0 : Nat → List Int → Int → Option (List Int × Int)
 | 0, _, _ => none
 | k + 1, x0, x4 => (quot_Small.f k x0 10).bind fun bt161 => (if bt161.2.1 = 0 then (radix_Trim.l0 k bt161.1 (wrap64 (x4 + 1))) else (some (x0, x4)))
def radix_Trim.f (k : Nat) (l0 : List Int) : Option (List Int × Int) := (nat_Norm.f l0).bind fun t158 => (if (t158.length : Int) = 0 then (some (([] : List Int), 0)) else (radix_Trim.l0 k t158 0))
theorem radix_Trim.mono_l : ∀ k, (∀ y0 y1, LeO (radix_Trim.l0 k y0 y1) (radix_Trim.l0 (k + 1) y0 y1))
 | 0 => fun _ _ r h => by simp [radix_Trim.l0] at h
 | k + 1 => by
  have ih0 := radix_Trim.mono_l k
  ·intro y0 y1
   unfold radix_Trim.l0
   have m0_ := quot_Small.mono
   exact mX
theorem radix_Trim.mono : ∀ a0 k, LeO (radix_Trim.f k a0) (radix_Trim.f (k + 1) a0) := by
 intro a0 k
 have ih0 := radix_Trim.mono_l k
 unfold radix_Trim.f
 have m0_ := quot_Small.mono
 exact mX
set_option maxHeartbeats 8000000 in
set_option maxRecDepth 100000 in
theorem radix_Trim.calls (k : Nat) (A0 : Option Addr) (c0 : Nat) (l0 : List Int) (r1 : List Int) (r2 : Int) (w : World) (hr0 : Kd.C (Kd.int .u64) w A0 l0.length l0) (hc0 : l0.length ≤ c0) (h : radix_Trim.f k l0 = some (r1, r2)) :
  Calls Tryd.prog 37 #[.slice A0 l0.length c0] w fun e w' => ∃ v0_ : Value, e = .returned (.tuple #[v0_, .int .i64 r2]) ∧ Kd.R (Kd.int .u64) 22 w' w.heap.size (fun _ => True) v0_ r1 ∧ Below w.heap.size w w' := by
 have HR0 := aM hr0
 have HC0 := aM hc0
 clear hr0 hc0
 have HB := aM (Below.refl w.heap.size w)
 have H := h
 clear h
 unfold radix_Trim.f at H
 replace H := oA H
 obtain ⟨t158, A2, H⟩ := H
 (try dsimp only at H)
 by_cases c3 : (t158.length : Int) = 0
 ·rw [if_pos c3] at H
  obtain ⟨c3b0, c3b1⟩ := bT c3
  clear c3
  simp only [Option.some.injEq, Prod.mk.injEq] at H
  obtain ⟨rfl, rfl⟩ := H
  go_enter Tryd.func37, Tryd.ntmps37
  go_wp2_with (first | ((with_reducible refine gate_callee (f := 54) rfl ?_); refine gL (some 9) Tryd.func54 #[.slice A0 l0.length c0] ?_; (with_reducible refine (nat_Norm.calls _ _ l0 t158 _ ?side1 HC0.out A2.out).mono ?_); (case side1 => exact dC HR0.out); rintro e w4 ⟨v159, rfl, ho0, hb⟩; refine ⟨_, rfl, ?_⟩; have HO160 := aM (Kd.R_lower ho0 (below_size dB)); replace HB := hS HB.out hb; (try clear hb); (try clear ho0); obtain ⟨Ao5, co5, rfl⟩ := Kd.R_slice HO160.out))
  go_ret2
  exact ⟨_, dE, by first | exact Kd.R_nil _ _ _ _ _ | exact Kd.N_nil _ _ _ _ _ | exact Kd.V_nil _ _ _ _ _ | exact Kd.Q_nil _ _ _ _ _ | exact Kd.S_nil _ _ _ _ _, dB⟩
 ·rw [if_neg c3] at H
  obtain ⟨c3b0, c3b1⟩ := bF c3
  have c3b2 : ¬ (t158 = []) := fun h_ => c3 (by rw [h_]; rfl)
  have H' := aM H
  clear H
  go_enter Tryd.func37, Tryd.ntmps37
  go_wp2_with (first | ((with_reducible refine gate_callee (f := 54) rfl ?_); refine gL (some 9) Tryd.func54 #[.slice A0 l0.length c0] ?_; (with_reducible refine (nat_Norm.calls _ _ l0 t158 _ ?side1 HC0.out A2.out).mono ?_); (case side1 => exact dC HR0.out); rintro e w6 ⟨v159, rfl, ho0, hb⟩; refine ⟨_, rfl, ?_⟩; have HO160 := aM (Kd.R_lower ho0 (below_size dB)); replace HB := hS HB.out hb; (try clear hb); (try clear ho0); obtain ⟨Ao7, co7, rfl⟩ := Kd.R_slice HO160.out))
  go_loopg [0, 4] k (fun kq v0 v4 w' => ∃ (x0_1 : List Int) (x4_1 : Int), v4 = .int .i64 x4_1 ∧ Aside0 (radix_Trim.l0 kq x0_1 x4_1 = some (r1, r2)) ∧ Aside0 (kq ≤ k) ∧ Aside0 (Kd.R (Kd.int .u64) 22 w' w.heap.size (fun _ => True) v0 x0_1) ∧ Aside0 (Below w.heap.size w w'))
  case atStart => exact ⟨(t158), (0), dF, H', ⟨Nat.le_refl _⟩, ⟨dR HO160.out⟩, ⟨dB⟩⟩
  case round =>
   clear H'
   try clear c3
   try clear c3b0 c3b1
   try clear c3b2
   obtain ⟨x0_1, x4_1, rfl, HA, HK1, HO_0, HB⟩ := hrel
   cases gk with
   | zero => exact absurd HA.out (by simp [radix_Trim.l0])
   | succ k1 =>
    have H := HA.out
    clear HA
    simp only [radix_Trim.l0] at H
    replace H := oA H
    obtain ⟨⟨t161, t162, t163⟩, A8, H⟩ := H
    (try dsimp only at H)
    by_cases c9 : t162 = 0
    ·rw [if_pos c9] at H
     obtain ⟨c9b0, c9b1⟩ := bT c9
     clear c9
     have H' := aM H
     clear H
     obtain ⟨Ao10, co10, rfl⟩ := Kd.R_slice HO_0.out
     go_wp2_with (first | ((with_reducible refine gate_callee (f := 58) rfl ?_); refine gL (some 15) Tryd.func58 #[.slice Ao10 x0_1.length co10, .int .u64 10] ?_; (with_reducible refine (quot_Small.calls k1 _ _ x0_1 10 t161 t162 t163 _ ?side1 (Kd.R_reads' HO_0.out).2.1 A8.out).mono ?_); (case side1 => exact dC (Kd.R_reads' HO_0.out).2.2); rintro e w11 ⟨v164, rfl, ho0, hb⟩; refine ⟨_, rfl, ?_⟩; have HO165 := aM (Kd.R_lower (nW ho0 HO_0.out) (below_size dB)); replace HO_0 := oE HO_0.out ho0 hb; replace HB := hS HB.out hb; (try clear hb); (try clear ho0)))
     go_roundg k1
     case measure => have := HK1.out; omega
     case rel => exact ⟨(t161), (wrap64 (x4_1 + 1)), dF, H', ⟨by have := HK1.out; omega⟩, ⟨oM HO165.out (fun _ hk => trivial)⟩, ⟨dB⟩⟩
    ·rw [if_neg c9] at H
     obtain ⟨c9b0, c9b1⟩ := bF c9
     simp only [Option.some.injEq, Prod.mk.injEq] at H
     obtain ⟨rfl, rfl⟩ := H
     obtain ⟨Ao12, co12, rfl⟩ := Kd.R_slice HO_0.out
     go_wp2_with (first | ((with_reducible refine gate_callee (f := 58) rfl ?_); refine gL (some 15) Tryd.func58 #[.slice Ao12 x0_1.length co12, .int .u64 10] ?_; (with_reducible refine (quot_Small.calls k1 _ _ x0_1 10 t161 t162 t163 _ ?side1 (Kd.R_reads' HO_0.out).2.1 A8.out).mono ?_); (case side1 => exact dC (Kd.R_reads' HO_0.out).2.2); rintro e w13 ⟨v164, rfl, ho0, hb⟩; refine ⟨_, rfl, ?_⟩; have HO165 := aM (Kd.R_lower (nW ho0 HO_0.out) (below_size dB)); replace HO_0 := oE HO_0.out ho0 hb; replace HB := hS HB.out hb; (try clear hb); (try clear ho0)))
     go_ret2
     exact ⟨_, dE, oM HO_0.out (fun _ hk => trivial), dB⟩
def radix_based.f (a0 : Int) : Option (Bool) := if a0 ≥ 2 then (some (decide (a0 ≤ 36))) else (some false)
set_option maxHeartbeats 8000000 in
set_option maxRecDepth 100000 in
theorem radix_based.calls (a0 : Int) (r : Bool) (w : World) (h : radix_based.f a0 = some r) :
  Calls Tryd.prog 25 #[.int .i64 a0] w fun e w' => e = .returned (.bool r) ∧ Drawn0 w w' := by
 have H := h
 clear h
 unfold radix_based.f at H
 by_cases c2 : a0 ≥ 2
 ·rw [if_pos c2] at H
  have c2b0 : decide (2 ≤ a0) = true := decide_eq_true c2
  clear c2
  obtain rfl := Option.some.inj H
  go_enter Tryd.func25, Tryd.ntmps25
  go_wp2
  go_ret
  exact ⟨dF, dD⟩
 ·rw [if_neg c2] at H
  have c2b0 : decide (2 ≤ a0) = false := decide_eq_false c2
  clear c2
  obtain rfl := Option.some.inj H
  go_enter Tryd.func25, Tryd.ntmps25
  go_wp2
  go_ret
  exact ⟨dF, dD⟩
def chunkL (b : Int) : Nat → Int → Int → Int × Int
 | 0, p, n => (p, n)
 | k + 1, p, n => if p ≤ 18446744073709551615 / b then chunkL b k (p * b) (n + 1) else (p, n)
def radix_chunk.f (a0 : Int) : Option (Int × Int) := if 2 ≤ a0 ∧ a0 ≤ 36 then some (chunkL a0 65 a0 1) else none
theorem radix_chunk.calls (a0 : Int) (r1 : Int) (r2 : Int) (w : World) (h : radix_chunk.f a0 = some (r1, r2)) :
  Calls Tryd.prog 28 #[.int .i64 a0] w fun e w' => e = .returned (.tuple #[.int .u64 r1, .int .i64 r2]) ∧ Drawn0 w w' := by
 unfold radix_chunk.f at h
 split at h
 case isFalse => cases h
 rename_i hh
 obtain ⟨h0, h1⟩ := hh
 injection h with h
 have H := aM h
 clear h
 go_enter Tryd.func28, Tryd.ntmps28
 go_wp2
 go_loop [4, 5] (fun v4 v5 => ∃ (k n : Nat) (p : Int), v4 = .int .u64 p ∧ v5 = .int .i64 n ∧ Aside0 (chunkL a0 k p n = (r1, r2) ∧ n + k = 66) ∧ Aside0 ((2 : Int) ^ n ≤ p) ∧ 0 ≤ p ∧ p < 18446744073709551616) (fun _ v5 => 100 - (intOf v5).toNat)
 case atStart => exact ⟨65, 1, a0, rfl, rfl, ⟨H.out, by omega⟩, ⟨by omega⟩, by omega, by omega⟩
 case round =>
  obtain ⟨k, n, p, rfl, rfl, ⟨hc, hn⟩, ⟨hp⟩, hp0, hp1⟩ := hrel
  have hn64 : n < 64 := by
   apply Classical.byContradiction
   intro hge
   have := pow_mono (show 64 ≤ n by omega)
   have h64 : (2 : Int) ^ 64 = 18446744073709551616 := rfl
   omega
  obtain ⟨k, rfl⟩ : ∃ j, k = j + 1 := ⟨k - 1, by omega⟩
  rw [chunkL] at hc
  have hn0 : n + (k + 1) = 66 := hn
  have HN := aM hn0
  have HP := aM hp
  clear hn hn0 hp
  have hdv : (18446744073709551615 : Int).tdiv a0 = 18446744073709551615 / a0 := Int.tdiv_eq_ediv_of_nonneg (by omega)
  have hd0 : 0 ≤ (18446744073709551615 : Int) / a0 := Int.ediv_nonneg (by omega) (by omega)
  have hd1 : (18446744073709551615 : Int) / a0 ≤ 9223372036854775807 := by
   have : (18446744073709551615 : Int) / a0 ≤ 18446744073709551615 / 2 := by
    refine Int.le_ediv_of_mul_le (by omega) ?_
    have h5 := Int.ediv_mul_le (18446744073709551615 : Int) (show a0 ≠ 0 by omega)
    have h6 : (18446744073709551615 : Int) / a0 * 2 ≤ 18446744073709551615 / a0 * a0 := Int.mul_le_mul_of_nonneg_left h0 hd0
    omega
   omega
  by_cases hle : p ≤ 18446744073709551615 / a0
  ·rw [if_pos hle] at hc
   have HC := aM hc
   clear hc
   have hm1 : p * a0 ≤ 18446744073709551615 := by
    have h5 := Int.ediv_mul_le (18446744073709551615 : Int) (show a0 ≠ 0 by omega)
    have h6 : p * a0 ≤ 18446744073709551615 / a0 * a0 := Int.mul_le_mul_of_nonneg_right hle (by omega)
    omega
   have hm0 : p * 2 ≤ p * a0 := Int.mul_le_mul_of_nonneg_left h0 hp0
   have hw := aM (u64w_of (x := p * a0) (by omega) (by omega))
   have hb := aM (show 0 ≤ p * a0 ∧ p * a0 < 18446744073709551616 ∧ (2 : Int) ^ (n + 1) ≤ p * a0 from ⟨by omega, by omega, by have := HP.out; rw [Int.pow_succ]; omega⟩)
   clear hm0 hm1
   go_wp2
   go_round
   case rel => exact ⟨k, n + 1, p * a0, by rw [hw.out], rfl, ⟨HC.out, by have := HN.out; omega⟩, ⟨hb.out.2.2⟩, hb.out.1, hb.out.2.1⟩
   case measure => simp only [intOf]; omega
  ·rw [if_neg hle] at hc
   simp only [Prod.mk.injEq] at hc
   obtain ⟨rfl, rfl⟩ := hc
   go_wp2
   go_ret2
   exact ⟨rfl, Drawn0.refl _⟩
end Go.Proofs.YthjleohmlohgbaaDoor.PA
