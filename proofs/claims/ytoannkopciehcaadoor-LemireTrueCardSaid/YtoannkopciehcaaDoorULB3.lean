/- A part of the proof (3). -/
import Derived.Test.YtoannkopciehcaaDoorULB2
namespace Go.Proofs.YtoannkopciehcaaDoor.PA
open Go.RowKit Go.Proofs.YtoannkopciehcaaDoorW.PrintWords Go.Proofs.YtoannkopciehcaaDoorW.PrintLast Go.Proofs.YtoannkopciehcaaDoorW.PrintMore
attribute [local go_sem] max2_int min2_int max_two min_two max_three min_three max_four min_four   -- for this text's walks alone
set_option linter.unusedVariables false
set_option linter.unusedSimpArgs false

/-! ### lemire_three_rounded: function 29 (by hand) -/
mutual
def lemire_three_rounded.l0 : Nat → Int → Int → Int → Int → Bool → Option (Int × Int)
 | 0, _, _, _, _, _ => none
 | k + 1, x105000, x105001, x105002, x105003, x105004 => if x105000 = 0 then (lemire_three_rounded.l0 k x105001 x105002 0 (wrap64 (x105003 - 64)) x105004) else ((wide_Len.f k x105000).bind fun t105 => (if (wrap64 (64 - t105)) > 0 then (if 0 ≤ (wrap64 (64 - t105)) then (if 0 ≤ (wrap64 (64 - (wrap64 (64 - t105)))) then (lemire_three_rounded.j1 k (Go.bits .or .u64 (shl .u64 x105000 (wrap64 (64 - t105))) (shr .u64 x105001 (wrap64 (64 - (wrap64 (64 - t105)))))) (Go.bits .or .u64 (shl .u64 x105001 (wrap64 (64 - t105))) (shr .u64 x105002 (wrap64 (64 - (wrap64 (64 - t105)))))) (shl .u64 x105002 (wrap64 (64 - t105))) (wrap64 (x105003 - (wrap64 (64 - t105)))) x105004) else (none)) else (none)) else (lemire_three_rounded.j1 k x105000 x105001 x105002 x105003 x105004)))
def lemire_three_rounded.j1 : Nat → Int → Int → Int → Int → Bool → Option (Int × Int)
 | 0, _, _, _, _, _ => none
 | k + 1, x105000, x105001, x105002, x105003, x105004 => if x105001 = 0 then (if x105002 = 0 then (lemire_three_rounded.j2 k x105004 x105000 x105001 x105002 x105003 x105004) else (lemire_three_rounded.j2 k true x105000 x105001 x105002 x105003 x105004)) else (lemire_three_rounded.j2 k true x105000 x105001 x105002 x105003 x105004)
def lemire_three_rounded.j2 : Nat → Bool → Int → Int → Int → Int → Bool → Option (Int × Int)
 | 0, _, _, _, _, _, _ => none
 | k + 1, x5, x105000, x105001, x105002, x105003, x105004 => if (wrap64 ((wrap64 (x105003 + 128)) + 11)) < (-1074) then (lemire_three_rounded.j3 k x5 (wrap64 (x105003 + 128)) (wrap64 ((-1074) - (wrap64 (x105003 + 128)))) x105000 x105001 x105002 x105003 x105004) else (lemire_three_rounded.j3 k x5 (wrap64 (x105003 + 128)) 11 x105000 x105001 x105002 x105003 x105004)
def lemire_three_rounded.j3 : Nat → Bool → Int → Int → Int → Int → Int → Int → Bool → Option (Int × Int)
 | 0, _, _, _, _, _, _, _, _ => none
 | k + 1, x5, x6, x7, x105000, x105001, x105002, x105003, x105004 => if x7 > 65 then (some (0, 0)) else (if x7 = 65 then (lemire_three_rounded.j4 k x6 x7 0 false true) else (if x7 = 64 then (if x5 = true then (lemire_three_rounded.j4 k x6 x7 0 ((x105000 / 9223372036854775808) == 1) true) else (lemire_three_rounded.j4 k x6 x7 0 ((x105000 / 9223372036854775808) == 1) ((IntKind.u64.wrap (x105000 * 2)) != 0))) else (if 0 ≤ x7 then (if 0 ≤ (wrap64 (x7 - 1)) then (if x5 = true then (lemire_three_rounded.j4 k x6 x7 (shr .u64 x105000 x7) ((Go.bits .and .u64 (shr .u64 x105000 (wrap64 (x7 - 1))) 1) == 1) true) else (if 0 ≤ (wrap64 (65 - x7)) then (lemire_three_rounded.j4 k x6 x7 (shr .u64 x105000 x7) ((Go.bits .and .u64 (shr .u64 x105000 (wrap64 (x7 - 1))) 1) == 1) ((shl .u64 x105000 (wrap64 (65 - x7))) != 0)) else (none))) else (none)) else (none))))
def lemire_three_rounded.j4 : Nat → Int → Int → Int → Bool → Bool → Option (Int × Int)
 | 0, _, _, _, _, _ => none
 | k + 1, x6, x7, x8, x9, x10 => if x9 = true then (if x10 = true then (lemire_three_rounded.j5 k x6 x7 x8 true) else (lemire_three_rounded.j5 k x6 x7 x8 ((Go.bits .and .u64 x8 1) == 1))) else (lemire_three_rounded.j5 k x6 x7 x8 false)
def lemire_three_rounded.j5 : Nat → Int → Int → Int → Bool → Option (Int × Int)
 | 0, _, _, _, _ => none
 | k + 1, x6, x7, x8, x134 => if x134 = true then (lemire_three_rounded.j6 k x6 x7 (IntKind.u64.wrap (x8 + 1))) else (lemire_three_rounded.j6 k x6 x7 x8)
def lemire_three_rounded.j6 : Nat → Int → Int → Int → Option (Int × Int)
 | 0, _, _, _ => none
 | k + 1, x6, x7, x8 => if x8 = 9007199254740992 then (if (x8 / 2) > 0 then (if (wrap64 ((wrap64 (x6 + x7)) + 1)) > 971 then (some (0, 70)) else ((f64_Join.f k false (x8 / 2) (wrap64 ((wrap64 (x6 + x7)) + 1))).bind fun bt106 => (some (bt106.1, bt106.2)))) else ((f64_Join.f k false (x8 / 2) (wrap64 ((wrap64 (x6 + x7)) + 1))).bind fun bt108 => (some (bt108.1, bt108.2)))) else (if x8 > 0 then (if (wrap64 (x6 + x7)) > 971 then (some (0, 70)) else ((f64_Join.f k false x8 (wrap64 (x6 + x7))).bind fun bt110 => (some (bt110.1, bt110.2)))) else ((f64_Join.f k false x8 (wrap64 (x6 + x7))).bind fun bt112 => (some (bt112.1, bt112.2))))
end
def lemire_three_rounded.f (k : Nat) (a0_0 : Int) (a0_1 : Int) (a0_2 : Int) (a0_3 : Int) (a0_4 : Bool) : Option (Int × Int) := lemire_three_rounded.l0 k a0_0 a0_1 a0_2 a0_3 a0_4
theorem lemire_three_rounded.mono_l : ∀ k, (∀ y0 y1 y2 y3 y4, LeO (lemire_three_rounded.l0 k y0 y1 y2 y3 y4) (lemire_three_rounded.l0 (k + 1) y0 y1 y2 y3 y4)) ∧ (∀ y0 y1 y2 y3 y4, LeO (lemire_three_rounded.j1 k y0 y1 y2 y3 y4) (lemire_three_rounded.j1 (k + 1) y0 y1 y2 y3 y4)) ∧ (∀ y0 y1 y2 y3 y4 y5, LeO (lemire_three_rounded.j2 k y0 y1 y2 y3 y4 y5) (lemire_three_rounded.j2 (k + 1) y0 y1 y2 y3 y4 y5)) ∧ (∀ y0 y1 y2 y3 y4 y5 y6 y7, LeO (lemire_three_rounded.j3 k y0 y1 y2 y3 y4 y5 y6 y7) (lemire_three_rounded.j3 (k + 1) y0 y1 y2 y3 y4 y5 y6 y7)) ∧ (∀ y0 y1 y2 y3 y4, LeO (lemire_three_rounded.j4 k y0 y1 y2 y3 y4) (lemire_three_rounded.j4 (k + 1) y0 y1 y2 y3 y4)) ∧ (∀ y0 y1 y2 y3, LeO (lemire_three_rounded.j5 k y0 y1 y2 y3) (lemire_three_rounded.j5 (k + 1) y0 y1 y2 y3)) ∧ (∀ y0 y1 y2, LeO (lemire_three_rounded.j6 k y0 y1 y2) (lemire_three_rounded.j6 (k + 1) y0 y1 y2))
 | 0 => ⟨fun _ _ _ _ _ r h => by simp [lemire_three_rounded.l0] at h, fun _ _ _ _ _ r h => by simp [lemire_three_rounded.j1] at h, fun _ _ _ _ _ _ r h => by simp [lemire_three_rounded.j2] at h, fun _ _ _ _ _ _ _ _ r h => by simp [lemire_three_rounded.j3] at h, fun _ _ _ _ _ r h => by simp [lemire_three_rounded.j4] at h, fun _ _ _ _ r h => by simp [lemire_three_rounded.j5] at h, fun _ _ _ r h => by simp [lemire_three_rounded.j6] at h⟩
 | k + 1 => by
  obtain ⟨ih0, ih1, ih2, ih3, ih4, ih5, ih6⟩ := lemire_three_rounded.mono_l k
  refine ⟨?_, ?_, ?_, ?_, ?_, ?_, ?_⟩
  ·intro y0 y1 y2 y3 y4
   unfold lemire_three_rounded.l0
   have m0_ := f64_Join.mono
   have m1_ := wide_Len.mono
   exact mX
  ·intro y0 y1 y2 y3 y4
   unfold lemire_three_rounded.j1
   have m0_ := f64_Join.mono
   have m1_ := wide_Len.mono
   exact mX
  ·intro y0 y1 y2 y3 y4 y5
   unfold lemire_three_rounded.j2
   have m0_ := f64_Join.mono
   have m1_ := wide_Len.mono
   exact mX
  ·intro y0 y1 y2 y3 y4 y5 y6 y7
   unfold lemire_three_rounded.j3
   have m0_ := f64_Join.mono
   have m1_ := wide_Len.mono
   exact mX
  ·intro y0 y1 y2 y3 y4
   unfold lemire_three_rounded.j4
   have m0_ := f64_Join.mono
   have m1_ := wide_Len.mono
   exact mX
  ·intro y0 y1 y2 y3
   unfold lemire_three_rounded.j5
   have m0_ := f64_Join.mono
   have m1_ := wide_Len.mono
   exact mX
  ·intro y0 y1 y2
   unfold lemire_three_rounded.j6
   have m0_ := f64_Join.mono
   have m1_ := wide_Len.mono
   exact mX
theorem lemire_three_rounded.mono : ∀ a0 a1 a2 a3 a4 k, LeO (lemire_three_rounded.f k a0 a1 a2 a3 a4) (lemire_three_rounded.f (k + 1) a0 a1 a2 a3 a4) := by
 intro a0 a1 a2 a3 a4 k
 obtain ⟨ih0, ih1, ih2, ih3, ih4, ih5, ih6⟩ := lemire_three_rounded.mono_l k
 unfold lemire_three_rounded.f
 have m0_ := f64_Join.mono
 have m1_ := wide_Len.mono
 exact mX
def lemire_three_rounded.T6 : Bool × List (List Nat × List Nat) := (true, [([], []), ([0], [0]), ([], []), ([1, 2], [1, 2]), ([], []), ([4], [4]), ([], []), ([6], [6]), ([5, 7], [5, 7]), ([3, 8], [3, 8]), ([0, 1, 2, 3, 4, 5, 6, 7, 8, 9], []), ([10, 9, 0, 1, 2, 3, 4, 5, 6, 7, 8, 9], [9, 10])])
def lemire_three_rounded.B6 : List Nat := [0, 1, 0, 7, 0, 16, 0, 64, 240, 511, 1023, 2047]
theorem lemire_three_rounded.tab6 : rtab .any (opsOf Tryd.f29 6) = lemire_three_rounded.T6 := by kernel_rfl
theorem lemire_three_rounded.bits6 : waitsOk lemire_three_rounded.T6.2 lemire_three_rounded.B6 = true := by kernel_rfl
def lemire_three_rounded.T7 : Bool × List (List Nat × List Nat) := (true, [([], []), ([0], [0]), ([], []), ([1, 2], [1, 2]), ([], []), ([4], [4]), ([], []), ([6], [6]), ([5, 7], [5, 7]), ([3, 8], [3, 8]), ([0, 1, 2, 3, 4, 5, 6, 7, 8, 9], []), ([10, 9, 0, 1, 2, 3, 4, 5, 6, 7, 8, 9], [9, 10])])
def lemire_three_rounded.B7 : List Nat := [0, 1, 0, 7, 0, 16, 0, 64, 240, 511, 1023, 2047]
theorem lemire_three_rounded.tab7 : rtab .any (opsOf Tryd.f29 7) = lemire_three_rounded.T7 := by kernel_rfl
theorem lemire_three_rounded.bits7 : waitsOk lemire_three_rounded.T7.2 lemire_three_rounded.B7 = true := by kernel_rfl
set_option maxHeartbeats 8000000 in
set_option maxRecDepth 100000 in
theorem lemire_three_rounded.calls (k : Nat) (a0_0 : Int) (a0_1 : Int) (a0_2 : Int) (a0_3 : Int) (a0_4 : Bool) (r1 : Int) (r2 : Int) (w : World) (h : lemire_three_rounded.f k a0_0 a0_1 a0_2 a0_3 a0_4 = some (r1, r2)) :
  Calls Tryd.prog 29 #[.agg #[.int .u64 a0_0, .int .u64 a0_1, .int .u64 a0_2, .int .i64 a0_3, .bool a0_4]] w fun e w' => e = .returned (.tuple #[.int .u64 r1, .int .i64 r2]) ∧ Below w.heap.size w w' := by
 have hu56 := Tryd.underlying56
 have HB := Aside0.mk (Below.refl w.heap.size w)
 have H : (lemire_three_rounded.l0 k a0_0 a0_1 a0_2 a0_3 a0_4) = some (r1, r2) := h
 clear h
 have H' := Aside0.mk H
 clear H
 go_enter Tryd.func29, Tryd.ntmps29
 go_wp2_with (first | ((with_reducible refine gate_dst (N := 1) rfl ?_); refine box_event ?hg (N := 1) ?hd (cs := #[.int .u64 a0_0, .int .u64 a0_1, .int .u64 a0_2, .int .i64 a0_3, .bool a0_4]) (t := 56) ?hr ?_; (case hd => rfl); (case hg => rfl); (case hr => first | (go_simp; done) | (go_simp; rfl)); intro gb104 hg w2 hbox hb; have BK104 := Aside0.mk (hbox); have GW104 := Aside0.mk ((by rw [hg]; exact (below_size dB) : w.heap.size ≤ gb104)); have GE104 := Aside0.mk ((by rw [hg]; exact (below_size dB) : w.heap.size ≤ gb104)); replace HB := Aside0.mk (below_step dB hb); clear hb hbox hg))
 go_loopg [] k (fun kq w' => ∃ (x105000_1 : Int) (x105001_1 : Int) (x105002_1 : Int) (x105003_1 : Int), Aside0 (lemire_three_rounded.l0 kq x105000_1 x105001_1 x105002_1 x105003_1 a0_4 = some (r1, r2)) ∧ Aside0 (kq ≤ k) ∧ Aside0 (w'.heap[gb104]? = some (.cells #[.int .u64 x105000_1, .int .u64 x105001_1, .int .u64 x105002_1, .int .i64 x105003_1, .bool a0_4] 56 (0, 0))) ∧ Aside0 (Below w.heap.size w w'))
 case atStart => exact ⟨(a0_0), (a0_1), (a0_2), (a0_3), H', ⟨Nat.le_refl _⟩, ⟨dK BK104.out⟩, ⟨dG GE104.out⟩⟩
 case round =>
  clear H'
  obtain ⟨x105000_1, x105001_1, x105002_1, x105003_1, HA, HK1, BK104, HB⟩ := hrel
  cases gk with
  | zero => exact absurd HA.out (by simp [lemire_three_rounded.l0])
  | succ k1 =>
   have H := HA.out
   clear HA
   simp only [lemire_three_rounded.l0] at H
   by_cases c3 : x105000_1 = 0
   ·rw [if_pos c3] at H
    have c3b0 : (x105000_1 == 0) = true := beq_iff_eq.mpr c3
    have c3b1 : (x105000_1 != 0) = false := bne_eq_false_iff_eq.mpr c3
    clear c3
    have H' := Aside0.mk H
    clear H
    obtain ⟨hcz4_0, hcz4_1, hcz4_2, hcz4_3, hcz4_4⟩ := cz5 BK104.out
    obtain ⟨hfz4_0, hfz4_1, hfz4_2, hfz4_3, hfz4_4⟩ := fz5 BK104.out
    go_wp2
    go_roundg k1
    case measure => have := HK1.out; omega
    case rel => exact ⟨(x105001_1), (x105002_1), (0), (wrap64 (x105003_1 - 64)), H', ⟨by have := HK1.out; omega⟩, ⟨dP BK104.out⟩, ⟨dG GE104.out⟩⟩
   ·rw [if_neg c3] at H
    have c3b0 : (x105000_1 == 0) = false := beq_eq_false_iff_ne.mpr c3
    have c3b1 : (x105000_1 != 0) = true := bne_iff_ne.mpr c3
    replace H := obe H
    obtain ⟨t105, A50, H⟩ := H
    (try dsimp only at H)
    have A5 := Aside0.mk A50
    clear A50
    have HC6 := Aside0.mk H
    clear H
    obtain ⟨hcz7_0, hcz7_1, hcz7_2, hcz7_3, hcz7_4⟩ := cz5 BK104.out
    obtain ⟨hfz7_0, hfz7_1, hfz7_2, hfz7_3, hfz7_4⟩ := fz5 BK104.out
    go_upto_if 32 with (first | ((with_reducible refine gate_callee (f := 30) rfl ?_); refine gL (some 29) Tryd.func30 #[.int .u64 x105000_1] ?_; (with_reducible refine (wide_Len.calls k1 x105000_1 t105 _ A5.out).mono ?_); rintro e w' ⟨rfl, ⟨nd, rfl⟩⟩; refine ⟨_, rfl, ?_⟩))
    (try simp only [Act.put, List.setIfInBounds_toArray, List.set_cons_zero, List.set_cons_succ])
    go_cut [] (fun wc => ∃ (kq : Nat) (x105000_5 : Int) (x105001_5 : Int) (x105002_5 : Int) (x105003_5 : Int), Aside0 (lemire_three_rounded.j1 kq x105000_5 x105001_5 x105002_5 x105003_5 a0_4 = some (r1, r2)) ∧ Aside0 (kq ≤ k1) ∧ Aside0 (wc.heap[gb104]? = some (.cells #[.int .u64 x105000_5, .int .u64 x105001_5, .int .u64 x105002_5, .int .i64 x105003_5, .bool a0_4] 56 (0, 0))) ∧ Aside0 (Below w.heap.size w wc))
    case first =>
     have H := HC6.out
     clear HC6
     by_cases c8 : (wrap64 (64 - t105)) > 0
     ·rw [if_pos c8] at H
      have c8b0 : decide (0 < (wrap64 (64 - t105))) = true := decide_eq_true c8
      clear c8
      (first | rw [c8b0] | (simp only [i64_w, i32_w]; rw [c8b0]) | skip)
      obtain ⟨ji9, hji9⟩ : ∃ j_ : Int, (wrap64 (64 - t105)) = j_ := ⟨_, rfl⟩
      first | rw [hji9] at H | simp only [hji9] at H
      (try rw [hji9] at c8b0)
      have hji9w : (IntKind.i64.wrap (64 - t105)) = ji9 := (i64_w _).trans hji9
      by_cases c10 : (0 : Int) ≤ (ji9)
      ·rw [if_pos c10] at H
       have c10b0 := eq_true c10
       have c10b1 : decide (0 ≤ (ji9)) = true := decide_eq_true c10
       clear c10
       obtain ⟨ji11, hji11⟩ : ∃ j_ : Int, (shl .u64 x105000_1 (ji9)) = j_ := ⟨_, rfl⟩
       first | rw [hji11] at H | simp only [hji11] at H
       have hji11_ : (IntKind.u64.wrap (x105000_1 * 2 ^ min (ji9).toNat 64)) = ji11 := hji11
       have hji11z : (ji9) ≤ 64 → (IntKind.u64.wrap (x105000_1 * 2 ^ (ji9).toNat)) = ji11 := shl_small hji11
       obtain ⟨ji12, hji12⟩ : ∃ j_ : Int, (wrap64 (64 - (ji9))) = j_ := ⟨_, rfl⟩
       first | rw [hji12] at H | simp only [hji12] at H
       have hji12w : (IntKind.i64.wrap (64 - (ji9))) = ji12 := (i64_w _).trans hji12
       by_cases c13 : (0 : Int) ≤ (ji12)
       ·rw [if_pos c13] at H
        have c13b0 := eq_true c13
        have c13b1 : decide (0 ≤ (ji12)) = true := decide_eq_true c13
        clear c13
        obtain ⟨ji14, hji14⟩ : ∃ j_ : Int, (shr .u64 x105001_1 (ji12)) = j_ := ⟨_, rfl⟩
        first | rw [hji14] at H | simp only [hji14] at H
        have hji14_ : (x105001_1 / 2 ^ min (ji12).toNat 64) = ji14 := hji14
        have hji14z : (ji12) ≤ 64 → (x105001_1 / 2 ^ (ji12).toNat) = ji14 := shr_small hji14
        have c15b0 := eq_true (of_decide_eq_true dS : 0 ≤ (ji9))
        obtain ⟨ji16, hji16⟩ : ∃ j_ : Int, (shl .u64 x105001_1 (ji9)) = j_ := ⟨_, rfl⟩
        first | rw [hji16] at H | simp only [hji16] at H
        have hji16_ : (IntKind.u64.wrap (x105001_1 * 2 ^ min (ji9).toNat 64)) = ji16 := hji16
        have hji16z : (ji9) ≤ 64 → (IntKind.u64.wrap (x105001_1 * 2 ^ (ji9).toNat)) = ji16 := shl_small hji16
        have c17b0 := eq_true (of_decide_eq_true dS : 0 ≤ (ji12))
        obtain ⟨ji18, hji18⟩ : ∃ j_ : Int, (shr .u64 x105002_1 (ji12)) = j_ := ⟨_, rfl⟩
        first | rw [hji18] at H | simp only [hji18] at H
        have hji18_ : (x105002_1 / 2 ^ min (ji12).toNat 64) = ji18 := hji18
        have hji18z : (ji12) ≤ 64 → (x105002_1 / 2 ^ (ji12).toNat) = ji18 := shr_small hji18
        have c19b0 := eq_true (of_decide_eq_true dS : 0 ≤ (ji9))
        obtain ⟨ji20, hji20⟩ : ∃ j_ : Int, (shl .u64 x105002_1 (ji9)) = j_ := ⟨_, rfl⟩
        first | rw [hji20] at H | simp only [hji20] at H
        have hji20_ : (IntKind.u64.wrap (x105002_1 * 2 ^ min (ji9).toNat 64)) = ji20 := hji20
        have hji20z : (ji9) ≤ 64 → (IntKind.u64.wrap (x105002_1 * 2 ^ (ji9).toNat)) = ji20 := shl_small hji20
        have H' := Aside0.mk H
        clear H
        replace BK104 := Aside0.mk (blk_drewN BK104.out nd)
        replace HB := Aside0.mk (pw_below_drewN HB.out nd)
        generalize wr.drewN nd = wr at BK104 HB ⊢
        try go_wp2
        replace BK104 := Aside0.mk (blk_drew BK104.out)
        replace HB := Aside0.mk (below_drew1 HB.out)
        refine start_ (n := 12) (S := fun w' => w'.cell? ⟨gb104, 0, none⟩ = some (.int .u64 x105000_1) ∧ w'.cell? ⟨gb104, 1, none⟩ = some (.int .u64 x105001_1) ∧ w'.cell? ⟨gb104, 2, none⟩ = some (.int .u64 x105002_1) ∧ w'.cell? ⟨gb104, 3, none⟩ = some (.int .i64 x105003_1) ∧ w'.cell? ⟨gb104, 4, none⟩ = some (.bool a0_4)) (ds := [11]) #[false, false, false, false, false, false, false, false, false, false, false, false] (by kernel_rfl) rfl rfl (cz5 BK104.out) (fun hHeld => ?_); refine with_tabW lemire_three_rounded.tab6 lemire_three_rounded.bits6 (fun HT_ HW_ => ?_)
        generalize wr.drew = w21 at BK104 HB hHeld ⊢
        refine pP 0 (some 33) ?_
        refine pP 2 (some 35) ?_
        refine pP 4 (some 37) ?_
        refine pP 6 (some 39) ?_
        refine pP 7 (some 40) ?_
        refine pH5 1 (some 34) hHeld ?_
        refine pP 3 (some 36) ?_
        refine pH5 5 (some 38) hHeld ?_
        refine pP 8 (some 41) ?_
        refine pP 9 (some 42) ?_
        refine pP 10 (some 43) ?_
        refine last_ (i := 11) (N := none) #[true, true, true, true, true, true, true, true, true, true, true, true] rfl rfl (one_of HT_.out (by kernel_rfl)) (by decide) (fun K hK => ?_)
        have hs22 : w21.cell? ⟨gb104, 0, none⟩ = some (.int .u64 x105000_1) := (blk_cell BK104.out 0).trans rfl
        have hfs22 := blk_frozen BK104.out 0
        refine skip_ (w1 := ?_) (by rfl) rfl ?_ ?_
        rotate_left
        ·go_simp
         rfl
        refine hK.out _ _ ?_
        clear hK K
        refine done_ (done_of HT_.out (by kernel_rfl)) ?_
        try go_wp2
        have n0_ : Aside0 ((w21.setCell ⟨gb104, 0, none⟩ (.int .u64 (Go.bits .or .u64 (ji11) (ji14)))).heap[gb104]? = some (.cells #[.int .u64 (Go.bits .or .u64 (ji11) (ji14)), .int .u64 x105001_1, .int .u64 x105002_1, .int .i64 x105003_1, .bool a0_4] 56 (0, 0))) := ⟨dP BK104.out⟩
        have n1_ : Aside0 (Below w.heap.size w (w21.setCell ⟨gb104, 0, none⟩ (.int .u64 (Go.bits .or .u64 (ji11) (ji14))))) := ⟨dG GE104.out⟩
        (try clear BK104)
        (try clear HB)
        generalize (w21.setCell ⟨gb104, 0, none⟩ (.int .u64 (Go.bits .or .u64 (ji11) (ji14)))) = w23 at n0_ n1_ ⊢
        have BK104 := n0_
        have HB := n1_
        clear n0_ n1_
        replace BK104 := Aside0.mk (blk_drew BK104.out)
        replace HB := Aside0.mk (below_drew1 HB.out)
        refine start_ (n := 12) (S := fun w' => w'.cell? ⟨gb104, 0, none⟩ = some (.int .u64 (Go.bits .or .u64 (ji11) (ji14))) ∧ w'.cell? ⟨gb104, 1, none⟩ = some (.int .u64 x105001_1) ∧ w'.cell? ⟨gb104, 2, none⟩ = some (.int .u64 x105002_1) ∧ w'.cell? ⟨gb104, 3, none⟩ = some (.int .i64 x105003_1) ∧ w'.cell? ⟨gb104, 4, none⟩ = some (.bool a0_4)) (ds := [11]) #[false, false, false, false, false, false, false, false, false, false, false, false] (by kernel_rfl) rfl rfl (cz5 BK104.out) (fun hHeld => ?_); refine with_tabW lemire_three_rounded.tab7 lemire_three_rounded.bits7 (fun HT_ HW_ => ?_)
        generalize w23.drew = w24 at BK104 HB hHeld ⊢
        refine pP 0 (some 44) ?_
        refine pP 2 (some 46) ?_
        refine pP 4 (some 48) ?_
        refine pP 6 (some 50) ?_
        refine pP 7 (some 51) ?_
        refine pH5 1 (some 45) hHeld ?_
        refine pP 3 (some 47) ?_
        refine pH5 5 (some 49) hHeld ?_
        refine pP 8 (some 52) ?_
        refine pP 9 (some 53) ?_
        refine pP 10 (some 54) ?_
        refine last_ (i := 11) (N := none) #[true, true, true, true, true, true, true, true, true, true, true, true] rfl rfl (one_of HT_.out (by kernel_rfl)) (by decide) (fun K hK => ?_)
        have hs25 : w24.cell? ⟨gb104, 1, none⟩ = some (.int .u64 x105001_1) := (blk_cell BK104.out 1).trans rfl
        have hfs25 := blk_frozen BK104.out 1
        refine skip_ (w1 := ?_) (by rfl) rfl ?_ ?_
        rotate_left
        ·go_simp
         rfl
        refine hK.out _ _ ?_
        clear hK K
        refine done_ (done_of HT_.out (by kernel_rfl)) ?_
        obtain ⟨hcz26_0, hcz26_1, hcz26_2, hcz26_3, hcz26_4⟩ := cz5 BK104.out
        obtain ⟨hfz26_0, hfz26_1, hfz26_2, hfz26_3, hfz26_4⟩ := fz5 BK104.out
        try go_wp2
        go_meet
        case rel => exact ⟨_, (Go.bits .or .u64 (ji11) (ji14)), (Go.bits .or .u64 (ji16) (ji18)), (ji20), (wrap64 (x105003_1 - (ji9))), H', ⟨by have := HK1.out; first | omega | exact Nat.le_refl _⟩, ⟨dP BK104.out⟩, ⟨dG GE104.out⟩⟩
       ·rw [if_neg c13] at H
        exact absurd H (by simp)
      ·rw [if_neg c10] at H
       exact absurd H (by simp)
     ·rw [if_neg c8] at H
      have c8b0 : decide (0 < (wrap64 (64 - t105))) = false := decide_eq_false c8
      clear c8
      (first | rw [c8b0] | (simp only [i64_w, i32_w]; rw [c8b0]) | skip)
      have H' := Aside0.mk H
      clear H
      go_wp2
      go_meet
      case rel => exact ⟨_, (x105000_1), (x105001_1), (x105002_1), (x105003_1), H', ⟨by have := HK1.out; first | omega | exact Nat.le_refl _⟩, ⟨dK BK104.out⟩, ⟨dG GE104.out⟩⟩
    case rest =>
     clear HC6
     try clear c3
     try clear c3b0
     try clear c3b1
     try clear hcz7_0
     try clear hcz7_1
     try clear hcz7_2
     try clear hcz7_3
     try clear hcz7_4
     try clear hfz7_0
     try clear hfz7_1
     try clear hfz7_2
     try clear hfz7_3
     try clear hfz7_4
     obtain ⟨kq, x105000_5, x105001_5, x105002_5, x105003_5, HA, HJ5, BK104, HB⟩ := hcut
     cases kq with
     | zero => exact absurd HA.out (by simp [lemire_three_rounded.j1])
     | succ kj5 =>
      have H := HA.out
      clear HA
      simp only [lemire_three_rounded.j1] at H
      have HC27 := Aside0.mk H
      clear H
      go_upto_region 10 with (fail)
      go_cut [5] (fun v5 wc => ∃ (kq : Nat) (x5_26 : Bool), v5 = .bool x5_26 ∧ Aside0 (lemire_three_rounded.j2 kq x5_26 x105000_5 x105001_5 x105002_5 x105003_5 a0_4 = some (r1, r2)) ∧ Aside0 (kq ≤ kj5) ∧ Aside0 (wc.heap[gb104]? = some (.cells #[.int .u64 x105000_5, .int .u64 x105001_5, .int .u64 x105002_5, .int .i64 x105003_5, .bool a0_4] 56 (0, 0))) ∧ Aside0 (Below w.heap.size w wc))
      case first =>
       have H := HC27.out
       clear HC27
       by_cases c28 : x105001_5 = 0
       ·rw [if_pos c28] at H
        have c28b0 : (x105001_5 == 0) = true := beq_iff_eq.mpr c28
        have c28b1 : (x105001_5 != 0) = false := bne_eq_false_iff_eq.mpr c28
        clear c28
        (first | rw [c28b0] | (simp only [i64_w, i32_w]; rw [c28b0]) | skip)
        by_cases c29 : x105002_5 = 0
        ·rw [if_pos c29] at H
         have c29b0 : (x105002_5 == 0) = true := beq_iff_eq.mpr c29
         have c29b1 : (x105002_5 != 0) = false := bne_eq_false_iff_eq.mpr c29
         clear c29
         have H' := Aside0.mk H
         clear H
         obtain ⟨hcz30_0, hcz30_1, hcz30_2, hcz30_3, hcz30_4⟩ := cz5 BK104.out
         obtain ⟨hfz30_0, hfz30_1, hfz30_2, hfz30_3, hfz30_4⟩ := fz5 BK104.out
         go_wp2
         go_meet
         case rel => exact ⟨_, (a0_4), dF, H', ⟨by have := HK1.out; have := HJ5.out; first | omega | exact Nat.le_refl _⟩, ⟨dK BK104.out⟩, ⟨dG GE104.out⟩⟩
        ·rw [if_neg c29] at H
         have c29b0 : (x105002_5 == 0) = false := beq_eq_false_iff_ne.mpr c29
         have c29b1 : (x105002_5 != 0) = true := bne_iff_ne.mpr c29
         have H' := Aside0.mk H
         clear H
         obtain ⟨hcz31_0, hcz31_1, hcz31_2, hcz31_3, hcz31_4⟩ := cz5 BK104.out
         obtain ⟨hfz31_0, hfz31_1, hfz31_2, hfz31_3, hfz31_4⟩ := fz5 BK104.out
         go_wp2
         go_meet
         case rel => exact ⟨_, (true), dF, H', ⟨by have := HK1.out; have := HJ5.out; first | omega | exact Nat.le_refl _⟩, ⟨dK BK104.out⟩, ⟨dG GE104.out⟩⟩
       ·rw [if_neg c28] at H
        have c28b0 : (x105001_5 == 0) = false := beq_eq_false_iff_ne.mpr c28
        have c28b1 : (x105001_5 != 0) = true := bne_iff_ne.mpr c28
        (first | rw [c28b0] | (simp only [i64_w, i32_w]; rw [c28b0]) | skip)
        have H' := Aside0.mk H
        clear H
        obtain ⟨hcz32_0, hcz32_1, hcz32_2, hcz32_3, hcz32_4⟩ := cz5 BK104.out
        obtain ⟨hfz32_0, hfz32_1, hfz32_2, hfz32_3, hfz32_4⟩ := fz5 BK104.out
        go_wp2
        go_meet
        case rel => exact ⟨_, (true), dF, H', ⟨by have := HK1.out; have := HJ5.out; first | omega | exact Nat.le_refl _⟩, ⟨dK BK104.out⟩, ⟨dG GE104.out⟩⟩
      case rest =>
       clear HC27
       try clear c3
       try clear c3b0
       try clear c3b1
       try clear hcz7_0
       try clear hcz7_1
       try clear hcz7_2
       try clear hcz7_3
       try clear hcz7_4
       try clear hfz7_0
       try clear hfz7_1
       try clear hfz7_2
       try clear hfz7_3
       try clear hfz7_4
       obtain ⟨kq, x5_26, rfl, HA, HJ26, BK104, HB⟩ := hcut
       cases kq with
       | zero => exact absurd HA.out (by simp [lemire_three_rounded.j2])
       | succ kj26 =>
        have H := HA.out
        clear HA
        simp only [lemire_three_rounded.j2] at H
        have HC33 := Aside0.mk H
        clear H
        obtain ⟨hcz34_0, hcz34_1, hcz34_2, hcz34_3, hcz34_4⟩ := cz5 BK104.out
        obtain ⟨hfz34_0, hfz34_1, hfz34_2, hfz34_3, hfz34_4⟩ := fz5 BK104.out
        go_upto_if 83 with (fail)
        go_cut [7] (fun v7 wc => ∃ (kq : Nat) (x7_32 : Int), v7 = .int .i64 x7_32 ∧ Aside0 (lemire_three_rounded.j3 kq x5_26 (wrap64 (x105003_5 + 128)) x7_32 x105000_5 x105001_5 x105002_5 x105003_5 a0_4 = some (r1, r2)) ∧ Aside0 (kq ≤ kj26) ∧ Aside0 (wc.heap[gb104]? = some (.cells #[.int .u64 x105000_5, .int .u64 x105001_5, .int .u64 x105002_5, .int .i64 x105003_5, .bool a0_4] 56 (0, 0))) ∧ Aside0 (Below w.heap.size w wc))
        case first =>
         have H := HC33.out
         clear HC33
         by_cases c35 : (wrap64 ((wrap64 (x105003_5 + 128)) + 11)) < (-1074)
         ·rw [if_pos c35] at H
          have c35b0 : decide ((wrap64 ((wrap64 (x105003_5 + 128)) + 11)) < (-1074)) = true := decide_eq_true c35
          clear c35
          (first | rw [c35b0] | (simp only [i64_w, i32_w]; rw [c35b0]) | skip)
          have H' := Aside0.mk H
          clear H
          go_wp2
          go_meet
          case rel => exact ⟨_, (wrap64 ((-1074) - (wrap64 (x105003_5 + 128)))), dF, H', ⟨by have := HK1.out; have := HJ5.out; have := HJ26.out; first | omega | exact Nat.le_refl _⟩, ⟨dK BK104.out⟩, ⟨dG GE104.out⟩⟩
         ·rw [if_neg c35] at H
          have c35b0 : decide ((wrap64 ((wrap64 (x105003_5 + 128)) + 11)) < (-1074)) = false := decide_eq_false c35
          clear c35
          (first | rw [c35b0] | (simp only [i64_w, i32_w]; rw [c35b0]) | skip)
          have H' := Aside0.mk H
          clear H
          go_wp2
          go_meet
          case rel => exact ⟨_, (11), dF, H', ⟨by have := HK1.out; have := HJ5.out; have := HJ26.out; first | omega | exact Nat.le_refl _⟩, ⟨dK BK104.out⟩, ⟨dG GE104.out⟩⟩
        case rest =>
         clear HC33
         try clear c3
         try clear c3b0
         try clear c3b1
         try clear hcz34_0
         try clear hcz34_1
         try clear hcz34_2
         try clear hcz34_3
         try clear hcz34_4
         try clear hcz7_0
         try clear hcz7_1
         try clear hcz7_2
         try clear hcz7_3
         try clear hcz7_4
         try clear hfz34_0
         try clear hfz34_1
         try clear hfz34_2
         try clear hfz34_3
         try clear hfz34_4
         try clear hfz7_0
         try clear hfz7_1
         try clear hfz7_2
         try clear hfz7_3
         try clear hfz7_4
         obtain ⟨kq, x7_32, rfl, HA, HJ32, BK104, HB⟩ := hcut
         cases kq with
         | zero => exact absurd HA.out (by simp [lemire_three_rounded.j3])
         | succ kj32 =>
          have H := HA.out
          clear HA
          simp only [lemire_three_rounded.j3] at H
          by_cases c36 : x7_32 > 65
          ·rw [if_pos c36] at H
           have c36b0 : decide (65 < x7_32) = true := decide_eq_true c36
           clear c36
           simp only [Option.some.injEq, Prod.mk.injEq] at H
           obtain ⟨rfl, rfl⟩ := H
           go_wp2
           go_ret2
           exact ⟨dE, dG GE104.out⟩
          ·rw [if_neg c36] at H
           have c36b0 : decide (65 < x7_32) = false := decide_eq_false c36
           clear c36
           have HC37 := Aside0.mk H
           clear H
           go_upto_block 2 with (fail)
           go_cut [8, 9, 10] (fun v8 v9 v10 wc => ∃ (kq : Nat) (x8_36 : Int) (x9_36 : Bool) (x10_36 : Bool), v8 = .int .u64 x8_36 ∧ v9 = .bool x9_36 ∧ v10 = .bool x10_36 ∧ Aside0 (lemire_three_rounded.j4 kq (wrap64 (x105003_5 + 128)) x7_32 x8_36 x9_36 x10_36 = some (r1, r2)) ∧ Aside0 (kq ≤ kj32) ∧ Aside0 (wc.heap[gb104]? = some (.cells #[.int .u64 x105000_5, .int .u64 x105001_5, .int .u64 x105002_5, .int .i64 x105003_5, .bool a0_4] 56 (0, 0))) ∧ Aside0 (Below w.heap.size w wc))
           case first =>
            have H := HC37.out
            clear HC37
            by_cases c38 : x7_32 = 65
            ·rw [if_pos c38] at H
             have c38b0 : (x7_32 == 65) = true := beq_iff_eq.mpr c38
             have c38b1 : (x7_32 != 65) = false := bne_eq_false_iff_eq.mpr c38
             clear c38
             (first | rw [c38b0] | (simp only [i64_w, i32_w]; rw [c38b0]) | skip)
             have H' := Aside0.mk H
             clear H
             go_wp2
             go_meet
             case rel => exact ⟨_, (0), (false), (true), dF, dF, dF, H', ⟨by have := HK1.out; have := HJ5.out; have := HJ26.out; have := HJ32.out; first | omega | exact Nat.le_refl _⟩, ⟨dK BK104.out⟩, ⟨dG GE104.out⟩⟩
            ·rw [if_neg c38] at H
             have c38b0 : (x7_32 == 65) = false := beq_eq_false_iff_ne.mpr c38
             have c38b1 : (x7_32 != 65) = true := bne_iff_ne.mpr c38
             (first | rw [c38b0] | (simp only [i64_w, i32_w]; rw [c38b0]) | skip)
             by_cases c39 : x7_32 = 64
             ·rw [if_pos c39] at H
              have c39b0 : (x7_32 == 64) = true := beq_iff_eq.mpr c39
              have c39b1 : (x7_32 != 64) = false := bne_eq_false_iff_eq.mpr c39
              clear c39
              by_cases c40 : x5_26 = true
              ·subst c40
               have H1 : (lemire_three_rounded.j4 kj32 (wrap64 (x105003_5 + 128)) x7_32 0 ((x105000_5 / 9223372036854775808) == 1) true) = some (r1, r2) := by rw [if_pos rfl] at H; exact H
               clear H
               have H := H1
               clear H1
               have H' := Aside0.mk H
               clear H
               obtain ⟨hcz41_0, hcz41_1, hcz41_2, hcz41_3, hcz41_4⟩ := cz5 BK104.out
               obtain ⟨hfz41_0, hfz41_1, hfz41_2, hfz41_3, hfz41_4⟩ := fz5 BK104.out
               go_wp2
               go_meet
               case rel => exact ⟨_, (0), (((x105000_5 / 9223372036854775808) == 1)), (true), dF, dF, dF, H', ⟨by have := HK1.out; have := HJ5.out; have := HJ26.out; have := HJ32.out; first | omega | exact Nat.le_refl _⟩, ⟨dK BK104.out⟩, ⟨dG GE104.out⟩⟩
              ·replace c40 := Bool.eq_false_iff.mpr c40
               subst c40
               have H1 : (lemire_three_rounded.j4 kj32 (wrap64 (x105003_5 + 128)) x7_32 0 ((x105000_5 / 9223372036854775808) == 1) ((IntKind.u64.wrap (x105000_5 * 2)) != 0)) = some (r1, r2) := by rw [if_neg (show ¬ (false = true) by decide)] at H; exact H
               clear H
               have H := H1
               clear H1
               have H' := Aside0.mk H
               clear H
               obtain ⟨hcz42_0, hcz42_1, hcz42_2, hcz42_3, hcz42_4⟩ := cz5 BK104.out
               obtain ⟨hfz42_0, hfz42_1, hfz42_2, hfz42_3, hfz42_4⟩ := fz5 BK104.out
               go_wp2
               go_meet
               case rel => exact ⟨_, (0), (((x105000_5 / 9223372036854775808) == 1)), (((IntKind.u64.wrap (x105000_5 * 2)) != 0)), dF, dF, dF, H', ⟨by have := HK1.out; have := HJ5.out; have := HJ26.out; have := HJ32.out; first | omega | exact Nat.le_refl _⟩, ⟨dK BK104.out⟩, ⟨dG GE104.out⟩⟩
             ·rw [if_neg c39] at H
              have c39b0 : (x7_32 == 64) = false := beq_eq_false_iff_ne.mpr c39
              have c39b1 : (x7_32 != 64) = true := bne_iff_ne.mpr c39
              by_cases c43 : (0 : Int) ≤ x7_32
              ·rw [if_pos c43] at H
               have c43b0 := eq_true c43
               have c43b1 : decide (0 ≤ x7_32) = true := decide_eq_true c43
               clear c43
               obtain ⟨ji44, hji44⟩ : ∃ j_ : Int, (shr .u64 x105000_5 x7_32) = j_ := ⟨_, rfl⟩
               first | rw [hji44] at H | simp only [hji44] at H
               have hji44_ : (x105000_5 / 2 ^ min x7_32.toNat 64) = ji44 := hji44
               have hji44z : x7_32 ≤ 64 → (x105000_5 / 2 ^ x7_32.toNat) = ji44 := shr_small hji44
               obtain ⟨ji45, hji45⟩ : ∃ j_ : Int, (wrap64 (x7_32 - 1)) = j_ := ⟨_, rfl⟩
               first | rw [hji45] at H | simp only [hji45] at H
               have hji45w : (IntKind.i64.wrap (x7_32 - 1)) = ji45 := (i64_w _).trans hji45
               by_cases c46 : (0 : Int) ≤ (ji45)
               ·rw [if_pos c46] at H
                have c46b0 := eq_true c46
                have c46b1 : decide (0 ≤ (ji45)) = true := decide_eq_true c46
                clear c46
                obtain ⟨ji47, hji47⟩ : ∃ j_ : Int, (shr .u64 x105000_5 (ji45)) = j_ := ⟨_, rfl⟩
                first | rw [hji47] at H | simp only [hji47] at H
                have hji47_ : (x105000_5 / 2 ^ min (ji45).toNat 64) = ji47 := hji47
                have hji47z : (ji45) ≤ 64 → (x105000_5 / 2 ^ (ji45).toNat) = ji47 := shr_small hji47
                by_cases c48 : x5_26 = true
                ·subst c48
                 have H1 : (lemire_three_rounded.j4 kj32 (wrap64 (x105003_5 + 128)) x7_32 ji44 ((Go.bits .and .u64 (ji47) 1) == 1) true) = some (r1, r2) := by rw [if_pos rfl] at H; exact H
                 clear H
                 have H := H1
                 clear H1
                 have H' := Aside0.mk H
                 clear H
                 obtain ⟨hcz49_0, hcz49_1, hcz49_2, hcz49_3, hcz49_4⟩ := cz5 BK104.out
                 obtain ⟨hfz49_0, hfz49_1, hfz49_2, hfz49_3, hfz49_4⟩ := fz5 BK104.out
                 go_wp2
                 go_meet
                 case rel => exact ⟨_, (ji44), (((Go.bits .and .u64 (ji47) 1) == 1)), (true), (by first | rfl | (simp; done) | (simp only [← hji44] <;> (first | rfl | simp)) | (simp [*]; done)), (by first | rfl | (simp; done) | (simp only [← hji47] <;> (first | rfl | simp)) | (simp [*]; done)), dF, H', ⟨by have := HK1.out; have := HJ5.out; have := HJ26.out; have := HJ32.out; first | omega | exact Nat.le_refl _⟩, ⟨dK BK104.out⟩, ⟨dG GE104.out⟩⟩
                ·replace c48 := Bool.eq_false_iff.mpr c48
                 subst c48
                 have H1 : (if 0 ≤ (wrap64 (65 - x7_32)) then (lemire_three_rounded.j4 kj32 (wrap64 (x105003_5 + 128)) x7_32 ji44 ((Go.bits .and .u64 (ji47) 1) == 1) ((shl .u64 x105000_5 (wrap64 (65 - x7_32))) != 0)) else (none)) = some (r1, r2) := by rw [if_neg (show ¬ (false = true) by decide)] at H; exact H
                 clear H
                 have H := H1
                 clear H1
                 obtain ⟨ji50, hji50⟩ : ∃ j_ : Int, (wrap64 (65 - x7_32)) = j_ := ⟨_, rfl⟩
                 first | rw [hji50] at H | simp only [hji50] at H
                 have hji50w : (IntKind.i64.wrap (65 - x7_32)) = ji50 := (i64_w _).trans hji50
                 by_cases c51 : (0 : Int) ≤ (ji50)
                 ·rw [if_pos c51] at H
                  have c51b0 := eq_true c51
                  have c51b1 : decide (0 ≤ (ji50)) = true := decide_eq_true c51
                  clear c51
                  obtain ⟨ji52, hji52⟩ : ∃ j_ : Int, (shl .u64 x105000_5 (ji50)) = j_ := ⟨_, rfl⟩
                  first | rw [hji52] at H | simp only [hji52] at H
                  have hji52_ : (IntKind.u64.wrap (x105000_5 * 2 ^ min (ji50).toNat 64)) = ji52 := hji52
                  have hji52z : (ji50) ≤ 64 → (IntKind.u64.wrap (x105000_5 * 2 ^ (ji50).toNat)) = ji52 := shl_small hji52
                  have H' := Aside0.mk H
                  clear H
                  obtain ⟨hcz53_0, hcz53_1, hcz53_2, hcz53_3, hcz53_4⟩ := cz5 BK104.out
                  obtain ⟨hfz53_0, hfz53_1, hfz53_2, hfz53_3, hfz53_4⟩ := fz5 BK104.out
                  go_wp2
                  go_meet
                  case rel => exact ⟨_, (ji44), (((Go.bits .and .u64 (ji47) 1) == 1)), (((ji52) != 0)), (by first | rfl | (simp; done) | (simp only [← hji44] <;> (first | rfl | simp)) | (simp [*]; done)), (by first | rfl | (simp; done) | (simp only [← hji47] <;> (first | rfl | simp)) | (simp [*]; done)), (by first | rfl | (simp; done) | (simp only [← hji52] <;> (first | rfl | simp)) | (simp [*]; done)), H', ⟨by have := HK1.out; have := HJ5.out; have := HJ26.out; have := HJ32.out; first | omega | exact Nat.le_refl _⟩, ⟨dK BK104.out⟩, ⟨dG GE104.out⟩⟩
                 ·rw [if_neg c51] at H
                  exact absurd H (by simp)
               ·rw [if_neg c46] at H
                exact absurd H (by simp)
              ·rw [if_neg c43] at H
               exact absurd H (by simp)
           case rest =>
            clear HC37
            try clear c3
            try clear c3b0
            try clear c3b1
            try clear c36
            try clear c36b0
            try clear hcz34_0
            try clear hcz34_1
            try clear hcz34_2
            try clear hcz34_3
            try clear hcz34_4
            try clear hcz7_0
            try clear hcz7_1
            try clear hcz7_2
            try clear hcz7_3
            try clear hcz7_4
            try clear hfz34_0
            try clear hfz34_1
            try clear hfz34_2
            try clear hfz34_3
            try clear hfz34_4
            try clear hfz7_0
            try clear hfz7_1
            try clear hfz7_2
            try clear hfz7_3
            try clear hfz7_4
            obtain ⟨kq, x8_36, x9_36, x10_36, rfl, rfl, rfl, HA, HJ36, BK104, HB⟩ := hcut
            cases kq with
            | zero => exact absurd HA.out (by simp [lemire_three_rounded.j4])
            | succ kj36 =>
             have H := HA.out
             clear HA
             simp only [lemire_three_rounded.j4] at H
             have HC54 := Aside0.mk H
             clear H
             go_upto_region 26 with (fail)
             go_cut [134] (fun v134 wc => ∃ (kq : Nat) (x134_53 : Bool), v134 = .bool x134_53 ∧ Aside0 (lemire_three_rounded.j5 kq (wrap64 (x105003_5 + 128)) x7_32 x8_36 x134_53 = some (r1, r2)) ∧ Aside0 (kq ≤ kj36) ∧ Aside0 (wc.heap[gb104]? = some (.cells #[.int .u64 x105000_5, .int .u64 x105001_5, .int .u64 x105002_5, .int .i64 x105003_5, .bool a0_4] 56 (0, 0))) ∧ Aside0 (Below w.heap.size w wc))
             case first =>
              have H := HC54.out
              clear HC54
              by_cases c55 : x9_36 = true
              ·subst c55
               have H1 : (if x10_36 = true then (lemire_three_rounded.j5 kj36 (wrap64 (x105003_5 + 128)) x7_32 x8_36 true) else (lemire_three_rounded.j5 kj36 (wrap64 (x105003_5 + 128)) x7_32 x8_36 ((Go.bits .and .u64 x8_36 1) == 1))) = some (r1, r2) := by rw [if_pos rfl] at H; exact H
               clear H
               have H := H1
               clear H1
               by_cases c56 : x10_36 = true
               ·subst c56
                have H1 : (lemire_three_rounded.j5 kj36 (wrap64 (x105003_5 + 128)) x7_32 x8_36 true) = some (r1, r2) := by rw [if_pos rfl] at H; exact H
                clear H
                have H := H1
                clear H1
                have H' := Aside0.mk H
                clear H
                go_wp2
                go_meet
                case rel => exact ⟨_, (true), dF, H', ⟨by have := HK1.out; have := HJ5.out; have := HJ26.out; have := HJ32.out; have := HJ36.out; first | omega | exact Nat.le_refl _⟩, ⟨dK BK104.out⟩, ⟨dG GE104.out⟩⟩
               ·replace c56 := Bool.eq_false_iff.mpr c56
                subst c56
                have H1 : (lemire_three_rounded.j5 kj36 (wrap64 (x105003_5 + 128)) x7_32 x8_36 ((Go.bits .and .u64 x8_36 1) == 1)) = some (r1, r2) := by rw [if_neg (show ¬ (false = true) by decide)] at H; exact H
                clear H
                have H := H1
                clear H1
                have H' := Aside0.mk H
                clear H
                go_wp2
                go_meet
                case rel => exact ⟨_, (((Go.bits .and .u64 x8_36 1) == 1)), dF, H', ⟨by have := HK1.out; have := HJ5.out; have := HJ26.out; have := HJ32.out; have := HJ36.out; first | omega | exact Nat.le_refl _⟩, ⟨dK BK104.out⟩, ⟨dG GE104.out⟩⟩
              ·replace c55 := Bool.eq_false_iff.mpr c55
               subst c55
               have H1 : (lemire_three_rounded.j5 kj36 (wrap64 (x105003_5 + 128)) x7_32 x8_36 false) = some (r1, r2) := by rw [if_neg (show ¬ (false = true) by decide)] at H; exact H
               clear H
               have H := H1
               clear H1
               have H' := Aside0.mk H
               clear H
               go_wp2
               go_meet
               case rel => exact ⟨_, (false), dF, H', ⟨by have := HK1.out; have := HJ5.out; have := HJ26.out; have := HJ32.out; have := HJ36.out; first | omega | exact Nat.le_refl _⟩, ⟨dK BK104.out⟩, ⟨dG GE104.out⟩⟩
             case rest =>
              clear HC54
              try clear c3
              try clear c3b0
              try clear c3b1
              try clear c36
              try clear c36b0
              try clear hcz34_0
              try clear hcz34_1
              try clear hcz34_2
              try clear hcz34_3
              try clear hcz34_4
              try clear hcz7_0
              try clear hcz7_1
              try clear hcz7_2
              try clear hcz7_3
              try clear hcz7_4
              try clear hfz34_0
              try clear hfz34_1
              try clear hfz34_2
              try clear hfz34_3
              try clear hfz34_4
              try clear hfz7_0
              try clear hfz7_1
              try clear hfz7_2
              try clear hfz7_3
              try clear hfz7_4
              obtain ⟨kq, x134_53, rfl, HA, HJ53, BK104, HB⟩ := hcut
              cases kq with
              | zero => exact absurd HA.out (by simp [lemire_three_rounded.j5])
              | succ kj53 =>
               have H := HA.out
               clear HA
               simp only [lemire_three_rounded.j5] at H
               have HC57 := Aside0.mk H
               clear H
               go_upto_if 134 with (fail)
               go_cut [8] (fun v8 wc => ∃ (kq : Nat) (x8_56 : Int), v8 = .int .u64 x8_56 ∧ Aside0 (lemire_three_rounded.j6 kq (wrap64 (x105003_5 + 128)) x7_32 x8_56 = some (r1, r2)) ∧ Aside0 (kq ≤ kj53) ∧ Aside0 (wc.heap[gb104]? = some (.cells #[.int .u64 x105000_5, .int .u64 x105001_5, .int .u64 x105002_5, .int .i64 x105003_5, .bool a0_4] 56 (0, 0))) ∧ Aside0 (Below w.heap.size w wc))
               case first =>
                have H := HC57.out
                clear HC57
                by_cases c58 : x134_53 = true
                ·subst c58
                 have H1 : (lemire_three_rounded.j6 kj53 (wrap64 (x105003_5 + 128)) x7_32 (IntKind.u64.wrap (x8_36 + 1))) = some (r1, r2) := by rw [if_pos rfl] at H; exact H
                 clear H
                 have H := H1
                 clear H1
                 have H' := Aside0.mk H
                 clear H
                 go_wp2
                 go_meet
                 case rel => exact ⟨_, (IntKind.u64.wrap (x8_36 + 1)), dF, H', ⟨by have := HK1.out; have := HJ5.out; have := HJ26.out; have := HJ32.out; have := HJ36.out; have := HJ53.out; first | omega | exact Nat.le_refl _⟩, ⟨dK BK104.out⟩, ⟨dG GE104.out⟩⟩
                ·replace c58 := Bool.eq_false_iff.mpr c58
                 subst c58
                 have H1 : (lemire_three_rounded.j6 kj53 (wrap64 (x105003_5 + 128)) x7_32 x8_36) = some (r1, r2) := by rw [if_neg (show ¬ (false = true) by decide)] at H; exact H
                 clear H
                 have H := H1
                 clear H1
                 have H' := Aside0.mk H
                 clear H
                 go_wp2
                 go_meet
                 case rel => exact ⟨_, (x8_36), dF, H', ⟨by have := HK1.out; have := HJ5.out; have := HJ26.out; have := HJ32.out; have := HJ36.out; have := HJ53.out; first | omega | exact Nat.le_refl _⟩, ⟨dK BK104.out⟩, ⟨dG GE104.out⟩⟩
               case rest =>
                clear HC57
                try clear c3
                try clear c3b0
                try clear c3b1
                try clear c36
                try clear c36b0
                try clear hcz34_0
                try clear hcz34_1
                try clear hcz34_2
                try clear hcz34_3
                try clear hcz34_4
                try clear hcz7_0
                try clear hcz7_1
                try clear hcz7_2
                try clear hcz7_3
                try clear hcz7_4
                try clear hfz34_0
                try clear hfz34_1
                try clear hfz34_2
                try clear hfz34_3
                try clear hfz34_4
                try clear hfz7_0
                try clear hfz7_1
                try clear hfz7_2
                try clear hfz7_3
                try clear hfz7_4
                obtain ⟨kq, x8_56, rfl, HA, HJ56, BK104, HB⟩ := hcut
                cases kq with
                | zero => exact absurd HA.out (by simp [lemire_three_rounded.j6])
                | succ kj56 =>
                 have H := HA.out
                 clear HA
                 simp only [lemire_three_rounded.j6] at H
                 by_cases c59 : x8_56 = 9007199254740992
                 ·rw [if_pos c59] at H
                  have c59b0 : (x8_56 == 9007199254740992) = true := beq_iff_eq.mpr c59
                  have c59b1 : (x8_56 != 9007199254740992) = false := bne_eq_false_iff_eq.mpr c59
                  clear c59
                  by_cases c60 : (x8_56 / 2) > 0
                  ·rw [if_pos c60] at H
                   have c60b0 : decide (0 < (x8_56 / 2)) = true := decide_eq_true c60
                   clear c60
                   by_cases c61 : (wrap64 ((wrap64 ((wrap64 (x105003_5 + 128)) + x7_32)) + 1)) > 971
                   ·rw [if_pos c61] at H
                    have c61b0 : decide (971 < (wrap64 ((wrap64 ((wrap64 (x105003_5 + 128)) + x7_32)) + 1))) = true := decide_eq_true c61
                    clear c61
                    simp only [Option.some.injEq, Prod.mk.injEq] at H
                    obtain ⟨rfl, rfl⟩ := H
                    go_wp2
                    go_ret2
                    exact ⟨dE, dG GE104.out⟩
                   ·rw [if_neg c61] at H
                    have c61b0 : decide (971 < (wrap64 ((wrap64 ((wrap64 (x105003_5 + 128)) + x7_32)) + 1))) = false := decide_eq_false c61
                    clear c61
                    replace H := obe H
                    obtain ⟨⟨t106, t107⟩, A620, H⟩ := H
                    (try dsimp only at H)
                    have A62 := Aside0.mk A620
                    clear A620
                    simp only [Option.some.injEq, Prod.mk.injEq] at H
                    obtain ⟨rfl, rfl⟩ := H
                    go_wp2_with (first | ((with_reducible refine gate_callee (f := 61) rfl ?_); refine gL (some 155) Tryd.func61 #[.bool false, .int .u64 (x8_56 / 2), .int .i64 (wrap64 ((wrap64 ((wrap64 (x105003_5 + 128)) + x7_32)) + 1))] ?_; (with_reducible refine (f64_Join.calls kj56 false (x8_56 / 2) (wrap64 ((wrap64 ((wrap64 (x105003_5 + 128)) + x7_32)) + 1)) t106 t107 _ A62.out).mono ?_); rintro e w63 ⟨rfl, hb⟩; refine ⟨_, rfl, ?_⟩; replace BK104 := Aside0.mk (blk_below (g := gb104) (o := .cells #[.int .u64 x105000_5, .int .u64 x105001_5, .int .u64 x105002_5, .int .i64 x105003_5, .bool a0_4] 56 (0, 0)) (dK BK104.out) hb); replace HB := Aside0.mk (below_step (dG GE104.out) hb); (try clear hb)))
                    go_ret2
                    exact ⟨dE, dG GE104.out⟩
                  ·rw [if_neg c60] at H
                   have c60b0 : decide (0 < (x8_56 / 2)) = false := decide_eq_false c60
                   clear c60
                   replace H := obe H
                   obtain ⟨⟨t108, t109⟩, A640, H⟩ := H
                   (try dsimp only at H)
                   have A64 := Aside0.mk A640
                   clear A640
                   simp only [Option.some.injEq, Prod.mk.injEq] at H
                   obtain ⟨rfl, rfl⟩ := H
                   go_wp2_with (first | ((with_reducible refine gate_callee (f := 61) rfl ?_); refine gL (some 155) Tryd.func61 #[.bool false, .int .u64 (x8_56 / 2), .int .i64 (wrap64 ((wrap64 ((wrap64 (x105003_5 + 128)) + x7_32)) + 1))] ?_; (with_reducible refine (f64_Join.calls kj56 false (x8_56 / 2) (wrap64 ((wrap64 ((wrap64 (x105003_5 + 128)) + x7_32)) + 1)) t108 t109 _ A64.out).mono ?_); rintro e w65 ⟨rfl, hb⟩; refine ⟨_, rfl, ?_⟩; replace BK104 := Aside0.mk (blk_below (g := gb104) (o := .cells #[.int .u64 x105000_5, .int .u64 x105001_5, .int .u64 x105002_5, .int .i64 x105003_5, .bool a0_4] 56 (0, 0)) (dK BK104.out) hb); replace HB := Aside0.mk (below_step (dG GE104.out) hb); (try clear hb)))
                   go_ret2
                   exact ⟨dE, dG GE104.out⟩
                 ·rw [if_neg c59] at H
                  have c59b0 : (x8_56 == 9007199254740992) = false := beq_eq_false_iff_ne.mpr c59
                  have c59b1 : (x8_56 != 9007199254740992) = true := bne_iff_ne.mpr c59
                  by_cases c66 : x8_56 > 0
                  ·rw [if_pos c66] at H
                   have c66b0 : decide (0 < x8_56) = true := decide_eq_true c66
                   clear c66
                   by_cases c67 : (wrap64 ((wrap64 (x105003_5 + 128)) + x7_32)) > 971
                   ·rw [if_pos c67] at H
                    have c67b0 : decide (971 < (wrap64 ((wrap64 (x105003_5 + 128)) + x7_32))) = true := decide_eq_true c67
                    clear c67
                    simp only [Option.some.injEq, Prod.mk.injEq] at H
                    obtain ⟨rfl, rfl⟩ := H
                    go_wp2
                    go_ret2
                    exact ⟨dE, dG GE104.out⟩
                   ·rw [if_neg c67] at H
                    have c67b0 : decide (971 < (wrap64 ((wrap64 (x105003_5 + 128)) + x7_32))) = false := decide_eq_false c67
                    clear c67
                    replace H := obe H
                    obtain ⟨⟨t110, t111⟩, A680, H⟩ := H
                    (try dsimp only at H)
                    have A68 := Aside0.mk A680
                    clear A680
                    simp only [Option.some.injEq, Prod.mk.injEq] at H
                    obtain ⟨rfl, rfl⟩ := H
                    go_wp2_with (first | ((with_reducible refine gate_callee (f := 61) rfl ?_); refine gL (some 155) Tryd.func61 #[.bool false, .int .u64 x8_56, .int .i64 (wrap64 ((wrap64 (x105003_5 + 128)) + x7_32))] ?_; (with_reducible refine (f64_Join.calls kj56 false x8_56 (wrap64 ((wrap64 (x105003_5 + 128)) + x7_32)) t110 t111 _ A68.out).mono ?_); rintro e w69 ⟨rfl, hb⟩; refine ⟨_, rfl, ?_⟩; replace BK104 := Aside0.mk (blk_below (g := gb104) (o := .cells #[.int .u64 x105000_5, .int .u64 x105001_5, .int .u64 x105002_5, .int .i64 x105003_5, .bool a0_4] 56 (0, 0)) (dK BK104.out) hb); replace HB := Aside0.mk (below_step (dG GE104.out) hb); (try clear hb)))
                    go_ret2
                    exact ⟨dE, dG GE104.out⟩
                  ·rw [if_neg c66] at H
                   have c66b0 : decide (0 < x8_56) = false := decide_eq_false c66
                   clear c66
                   replace H := obe H
                   obtain ⟨⟨t112, t113⟩, A700, H⟩ := H
                   (try dsimp only at H)
                   have A70 := Aside0.mk A700
                   clear A700
                   simp only [Option.some.injEq, Prod.mk.injEq] at H
                   obtain ⟨rfl, rfl⟩ := H
                   go_wp2_with (first | ((with_reducible refine gate_callee (f := 61) rfl ?_); refine gL (some 155) Tryd.func61 #[.bool false, .int .u64 x8_56, .int .i64 (wrap64 ((wrap64 (x105003_5 + 128)) + x7_32))] ?_; (with_reducible refine (f64_Join.calls kj56 false x8_56 (wrap64 ((wrap64 (x105003_5 + 128)) + x7_32)) t112 t113 _ A70.out).mono ?_); rintro e w71 ⟨rfl, hb⟩; refine ⟨_, rfl, ?_⟩; replace BK104 := Aside0.mk (blk_below (g := gb104) (o := .cells #[.int .u64 x105000_5, .int .u64 x105001_5, .int .u64 x105002_5, .int .i64 x105003_5, .bool a0_4] 56 (0, 0)) (dK BK104.out) hb); replace HB := Aside0.mk (below_step (dG GE104.out) hb); (try clear hb)))
                   go_ret2
                   exact ⟨dE, dG GE104.out⟩


end Go.Proofs.YtoannkopciehcaaDoor.PA

namespace Go.Proofs.YtoannkopciehcaaDoor.PA
open Go.RowKit Go.Proofs.YtoannkopciehcaaDoorW.PrintWords Go.Proofs.YtoannkopciehcaaDoorW.PrintLast Go.Proofs.YtoannkopciehcaaDoorW.PrintMore
attribute [local go_sem] max2_int min2_int max_two min_two max_three min_three max_four min_four   -- for this text's walks alone
set_option linter.unusedVariables false
set_option linter.unusedSimpArgs false

/-! ### wide_Div: function 31 (by hand) -/
def wide_Div.f (a0 : Int) (a1 : Int) (a2 : Int) : Option (Int × Int × Int) := if u64B a0 = true ∧ u64B a1 = true ∧ u64B a2 = true then (if a2 = 0 then some (0, 0, 10) else if a2 ≤ a0 then some (0, 0, 11) else some ((a0 * 18446744073709551616 + a1) / a2, (a0 * 18446744073709551616 + a1) % a2, 0)) else none
/-- the state of the loop that mends a guessed digit -/
structure Mend (B r l d f : Int) : Prop where
 sum : d * (B / 4294967296) + f = r
 f0 : 0 ≤ f
 f1 : f < 4294967296
 le : (r * 4294967296 + l) / B ≤ d
structure DivIn (B r l : Int) : Prop where
 B0 : 9223372036854775808 ≤ B
 B1 : B < 18446744073709551616
 r0 : 0 ≤ r
 r1 : r < B
 l0 : 0 ≤ l
 l1 : l < 4294967296
theorem DivIn.q {B r l : Int} (h : DivIn B r l) : 0 ≤ (r * 4294967296 + l) / B ∧ (r * 4294967296 + l) / B < 4294967296 := by
 obtain ⟨h1, h2, h3, h4, h5, h6⟩ := h
 refine ⟨Int.ediv_nonneg (by omega) (by omega), ?_⟩
 exact Int.ediv_lt_of_lt_mul (by omega) (by omega)
theorem or_zero {y : Int} (h0 : 0 ≤ y) (h1 : y < 18446744073709551616) : Go.bits .or .u64 0 y = y := by rw [or_join 64 (by omega) (by omega) rfl h0 h1 h1]; omega
theorem Mend.start {B r l : Int} (h : DivIn B r l) : Mend B r l (r / (B / 4294967296)) (r % (B / 4294967296)) := by
 obtain ⟨h1, h2, h3, h4, h5, h6⟩ := h
 have hb : 0 < B / 4294967296 := by omega
 have e := Int.mul_ediv_add_emod r (B / 4294967296)
 have m0 := Int.emod_nonneg r (show B / 4294967296 ≠ 0 by omega)
 have m1 := Int.emod_lt_of_pos r hb
 refine ⟨by rw [Int.mul_comm]; exact e, m0, by omega, ?_⟩
 have hq : 0 ≤ r / (B / 4294967296) := Int.ediv_nonneg h3 (by omega)
 -- by the smaller divisor
 have hlt : r * 4294967296 + l < (r / (B / 4294967296) + 1) * B := by
  generalize r / (B / 4294967296) = q at *
  generalize hB : B / 4294967296 = b at *
  have h7 : b * 4294967296 ≤ B := by omega
  have h8 : (q + 1) * (b * 4294967296) ≤ (q + 1) * B := Int.mul_le_mul_of_nonneg_left h7 (by omega)
  have h9 : (q + 1) * (b * 4294967296) = (b * q + b) * 4294967296 := by grind
  omega
 have := Int.ediv_lt_of_lt_mul (by omega) hlt
 omega
theorem Mend.big {B r l d f : Int} (h : DivIn B r l) (m : Mend B r l d f) : 0 ≤ d ∧ d ≤ 4294967297 := by
 obtain ⟨h1, h2, h3, h4, h5, h6⟩ := h
 have h0 := Int.ediv_nonneg (show 0 ≤ r * 4294967296 + l by omega) (show 0 ≤ B by omega)
 refine ⟨Int.le_trans h0 m.le, ?_⟩
 apply Classical.byContradiction
 intro hc
 have h7 : 4294967298 * (B / 4294967296) ≤ d * (B / 4294967296) := Int.mul_le_mul_of_nonneg_right (by omega) (by omega)
 have := m.sum
 have := m.f0
 omega
/-- what the test says, without wraps -/
theorem Mend.test {B r l d f : Int} (h : DivIn B r l) (m : Mend B r l d f) (hd : d ≤ 4294967295) :
  Go.bits .or .u64 (IntKind.u64.wrap (f * 4294967296)) l = f * 4294967296 + l ∧ IntKind.u64.wrap (d * Go.bits .and .u64 B 4294967295) = d * (B % 4294967296) ∧
  (f * 4294967296 + l < d * (B % 4294967296) ↔ (r * 4294967296 + l) / B < d) := by
 have hb := m.big h
 obtain ⟨h1, h2, h3, h4, h5, h6⟩ := h
 have f0 := m.f0
 have f1 := m.f1
 have e := m.sum
 rw [join_half f0 f1 h5 h6, and_half (by omega) h2]
 have p := mul_half (x := d) (y := B % 4294967296) (by omega) (by omega) (by omega) (by omega)
 refine ⟨rfl, u64w_of (by omega) (by omega), ?_⟩
 have eB : d * B = d * (B / 4294967296) * 4294967296 + d * (B % 4294967296) := by
  have : B = B / 4294967296 * 4294967296 + B % 4294967296 := by omega
  generalize B / 4294967296 = u at *
  generalize B % 4294967296 = v at *
  rw [this]; grind
 rw [Int.ediv_lt_iff_lt_mul (by omega), eB]
 omega
theorem Mend.lower {B r l d f : Int} (h : DivIn B r l) (m : Mend B r l d f) (ht : 4294967295 < d ∨ (r * 4294967296 + l) / B < d) :
  1 ≤ d ∧ (d - 1) * (B / 4294967296) + (f + B / 4294967296) = r ∧ (r * 4294967296 + l) / B ≤ d - 1 := by
 have hq := h.q
 have := m.le
 refine ⟨by omega, ?_, by omega⟩
 have := m.sum
 rw [Int.sub_mul]; omega
theorem Mend.next {B r l d f : Int} (h : DivIn B r l) (m : Mend B r l d f) (ht : 4294967295 < d ∨ (r * 4294967296 + l) / B < d) (hf : f + B / 4294967296 < 4294967296) : Mend B r l (d - 1) (f + B / 4294967296) := by
 have h1 := m.lower h ht
 have := m.f0
 have := h.B0
 exact ⟨h1.2.1, by omega, hf, h1.2.2⟩
theorem Mend.stop {B r l d f : Int} (h : DivIn B r l) (m : Mend B r l d f) (ht : 4294967295 < d ∨ (r * 4294967296 + l) / B < d) (hf : 4294967296 ≤ f + B / 4294967296) : d - 1 = (r * 4294967296 + l) / B := by
 have h1 := m.lower h ht
 have hb := m.big h
 obtain ⟨g1, g2, g3, g4, g5, g6⟩ := h
 have : d - 1 ≤ (r * 4294967296 + l) / B := by
  refine Int.le_ediv_of_mul_le (by omega) ?_
  have eB : (d - 1) * B = (d - 1) * (B / 4294967296) * 4294967296 + (d - 1) * (B % 4294967296) := by
   have : B = B / 4294967296 * 4294967296 + B % 4294967296 := by omega
   generalize B / 4294967296 = u at *
   generalize B % 4294967296 = v at *
   rw [this]; grind
  have h5 : (d - 1) * (B % 4294967296) ≤ 4294967296 * (B % 4294967296) := Int.mul_le_mul_of_nonneg_right (by omega) (by omega)
  rw [eB]
  have := h1.2.1
  omega
 omega
/-- the rest of a step -/
theorem div_rest {B r l : Int} (h : DivIn B r l) : IntKind.u64.wrap (IntKind.u64.wrap (IntKind.u64.wrap (r * 4294967296) + l) - IntKind.u64.wrap ((r * 4294967296 + l) / B * B)) = (r * 4294967296 + l) % B := by
 have e := Int.mul_ediv_add_emod (r * 4294967296 + l) B
 have m0 := Int.emod_nonneg (r * 4294967296 + l) (show B ≠ 0 by have := h.B0; omega)
 have m1 := Int.emod_lt_of_pos (r * 4294967296 + l) (show 0 < B by have := h.B0; omega)
 have := h.B1
 rw [Int.mul_comm] at e
 generalize (r * 4294967296 + l) / B * B = p at *
 simp only [u64w]
 omega
theorem DivIn.next {B r l l' : Int} (h : DivIn B r l) (h0 : 0 ≤ l') (h1 : l' < 4294967296) : DivIn B ((r * 4294967296 + l) % B) l' :=
 ⟨h.B0, h.B1, Int.emod_nonneg _ (by have := h.B0; omega), Int.emod_lt_of_pos _ (by have := h.B0; omega), h0, h1⟩
/-- two digits and the rest are quotient and rest of the whole -/
theorem div_two {B r l l' : Int} (h : DivIn B r l) (h0 : 0 ≤ l') (h1 : l' < 4294967296) :
  (r * 4294967296 + l) / B * 4294967296 + ((r * 4294967296 + l) % B * 4294967296 + l') / B = ((r * 4294967296 + l) * 4294967296 + l') / B ∧
  ((r * 4294967296 + l) % B * 4294967296 + l') % B = ((r * 4294967296 + l) * 4294967296 + l') % B := by
 have hB : 0 < B := by have := h.B0; omega
 have e := Int.mul_ediv_add_emod (r * 4294967296 + l) B
 generalize r * 4294967296 + l = n at *
 generalize hq : n / B = q at *
 generalize hr : n % B = s at *
 have e2 : n * 4294967296 + l' = (s * 4294967296 + l') + B * (q * 4294967296) := by rw [← e]; grind
 rw [e2, Int.add_mul_ediv_left _ _ (by omega), Int.add_mul_emod_self_left]
 exact ⟨by omega, rfl⟩
theorem div_scaled {n b : Int} (s : Nat) (hb : 0 < b) : n * 2 ^ s / (b * 2 ^ s) = n / b ∧ n * 2 ^ s % (b * 2 ^ s) / 2 ^ s = n % b := by
 have hs := two_pow_pos s
 refine ⟨Int.mul_ediv_mul_of_pos_left n b hs, ?_⟩
 rw [Int.mul_comm n, Int.mul_comm b, Int.mul_emod_mul_of_pos _ _ hs, Int.mul_ediv_cancel_left _ (by omega)]
theorem div_begin {a0 a1 a2 L : Int} (h0 : 0 ≤ a0) (h1a : 0 ≤ a1) (h1b : a1 < 18446744073709551616) (h2 : a2 < 18446744073709551616) (h02 : a0 < a2) (hL : L = bitsN a2) :
  0 ≤ L ∧ 1 ≤ L ∧ L ≤ 64 ∧ IntKind.u64.wrap (a2 * 2 ^ (64 - L).toNat) = a2 * 2 ^ (64 - L).toNat ∧
  DivIn (a2 * 2 ^ (64 - L).toNat) (Go.bits .or .u64 (IntKind.u64.wrap (a0 * 2 ^ (64 - L).toNat)) (a1 / 2 ^ (64 - (64 - L)).toNat)) (IntKind.u64.wrap (a1 * 2 ^ (64 - L).toNat) / 4294967296) ∧
  0 ≤ Go.bits .and .u64 (IntKind.u64.wrap (a1 * 2 ^ (64 - L).toNat)) 4294967295 ∧ Go.bits .and .u64 (IntKind.u64.wrap (a1 * 2 ^ (64 - L).toNat)) 4294967295 < 4294967296 ∧
  (Go.bits .or .u64 (IntKind.u64.wrap (a0 * 2 ^ (64 - L).toNat)) (a1 / 2 ^ (64 - (64 - L)).toNat) * 4294967296 + IntKind.u64.wrap (a1 * 2 ^ (64 - L).toNat) / 4294967296) * 4294967296 + Go.bits .and .u64 (IntKind.u64.wrap (a1 * 2 ^ (64 - L).toNat)) 4294967295 = (a0 * 18446744073709551616 + a1) * 2 ^ (64 - L).toNat := by
 have hp : 0 < a2 := by omega
 have hL1 : 1 ≤ L := by rw [hL, bitsN_pos hp]; omega
 have hL2 : L ≤ 64 := by rw [hL]; exact bitsN_le_of_lt (n := 64) (by omega) h2
 have hlt := bitsN_lt hp
 have hge := bitsN_ge hp
 rw [← hL] at hlt hge
 obtain ⟨l, rfl⟩ : ∃ l : Nat, L = l + 1 := ⟨(L - 1).toNat, by omega⟩
 have e1 : ((l : Int) + 1).toNat = l + 1 := by omega
 rw [e1] at hlt hge
 simp only [Nat.add_sub_cancel] at hge
 have e2 : (64 - ((l : Int) + 1)).toNat = 63 - l := by omega
 have e3 : (64 - (64 - ((l : Int) + 1))).toNat = l + 1 := by omega
 rw [e2, e3]
 have hs := two_pow_pos (63 - l)
 have hs2 := two_pow_pos (l + 1)
 have p64 : (2 : Int) ^ (l + 1) * 2 ^ (63 - l) = 18446744073709551616 := by rw [← Int.pow_add, show l + 1 + (63 - l) = 64 from by omega]; rfl
 have p63 : (2 : Int) ^ l * 2 ^ (63 - l) = 9223372036854775808 := by rw [← Int.pow_add, show l + (63 - l) = 63 from by omega]; rfl
 have hSle : (2 : Int) ^ (63 - l) ≤ 2 ^ 63 := pow_mono (by omega)
 have hS63 : (2 : Int) ^ 63 = 9223372036854775808 := rfl
 have hB1 : a2 * 2 ^ (63 - l) < 18446744073709551616 := by
  rw [← p64]; exact Int.mul_lt_mul_of_pos_right hlt hs
 have hB0 : 9223372036854775808 ≤ a2 * 2 ^ (63 - l) := by
  rw [← p63]; exact Int.mul_le_mul_of_nonneg_right hge (Int.le_of_lt hs)
 have hA : a0 * 2 ^ (63 - l) + 2 ^ (63 - l) ≤ a2 * 2 ^ (63 - l) := by
  have : (a0 + 1) * 2 ^ (63 - l) ≤ a2 * 2 ^ (63 - l) := Int.mul_le_mul_of_nonneg_right (by omega) (Int.le_of_lt hs)
  rw [Int.add_mul, Int.one_mul] at this; exact this
 have hA0 : 0 ≤ a0 * 2 ^ (63 - l) := Int.mul_nonneg h0 (Int.le_of_lt hs)
 have hd0 : 0 ≤ a1 / 2 ^ (l + 1) := Int.ediv_nonneg h1a (Int.le_of_lt hs2)
 have hd1 : a1 / 2 ^ (l + 1) < 2 ^ (63 - l) := Int.ediv_lt_of_lt_mul hs2 (by rw [Int.mul_comm, p64]; exact h1b)
 have hw0 : IntKind.u64.wrap (a0 * 2 ^ (63 - l)) = a0 * 2 ^ (63 - l) := u64w_of hA0 (by omega)
 have hor : Go.bits .or .u64 (a0 * 2 ^ (63 - l)) (a1 / 2 ^ (l + 1)) = a0 * 2 ^ (63 - l) + a1 / 2 ^ (l + 1) :=
  or_join (63 - l) hA0 (by omega) (Int.mul_emod_left _ _) hd0 hd1 (by omega)
 have hand := and_half (x := IntKind.u64.wrap (a1 * 2 ^ (63 - l))) (u64w_range _).1 (u64w_range _).2
 have hw := u64w_range (a1 * 2 ^ (63 - l))
 have hsplit : a1 * 2 ^ (63 - l) = 18446744073709551616 * (a1 / 2 ^ (l + 1)) + IntKind.u64.wrap (a1 * 2 ^ (63 - l)) := by
  rw [u64w]
  have h9 : a1 * 2 ^ (63 - l) / 18446744073709551616 = a1 / 2 ^ (l + 1) := by
   rw [← p64]; exact Int.mul_ediv_mul_of_pos_left _ _ hs
  have := Int.mul_ediv_add_emod (a1 * 2 ^ (63 - l)) 18446744073709551616
  rw [h9] at this; omega
 rw [hw0, hor, hand]
 generalize IntKind.u64.wrap (a1 * 2 ^ (63 - l)) = v at *
 refine ⟨by omega, hL1, hL2, u64w_of (by omega) hB1, ⟨hB0, hB1, by omega, by omega, by omega, by omega⟩, by omega, by omega, ?_⟩
 have e9 : (a0 * 18446744073709551616 + a1) * 2 ^ (63 - l) = a0 * 2 ^ (63 - l) * 18446744073709551616 + a1 * 2 ^ (63 - l) := by grind
 rw [e9, hsplit]
 omega
set_option maxHeartbeats 8000000 in
theorem wide_Div.calls (a0 : Int) (a1 : Int) (a2 : Int) (r1 : Int) (r2 : Int) (r3 : Int) (w : World) (h : wide_Div.f a0 a1 a2 = some (r1, r2, r3)) :
  Calls Tryd.prog 31 #[.int .u64 a0, .int .u64 a1, .int .u64 a2] w fun e w' => e = .returned (.tuple #[.int .u64 r1, .int .u64 r2, .int .i64 r3]) ∧ Below w.heap.size w w' := by
 unfold wide_Div.f at h
 split at h
 case isFalse => cases h
 rename_i hh
 simp only [u64B_iff] at hh
 obtain ⟨⟨h0a, h0b⟩, ⟨h1a, h1b⟩, h2a, h2b⟩ := hh
 split at h
 case isTrue hz =>
  subst hz
  simp only [Option.some.injEq, Prod.mk.injEq] at h
  obtain ⟨rfl, rfl, rfl⟩ := h
  go_enter Tryd.func31, Tryd.ntmps31
  go_wp2
  go_ret3
  exact ⟨rfl, Below.refl _ _⟩
 rename_i hz
 have g1 : (a2 == 0) = false := beq_eq_false_iff_ne.mpr hz
 split at h
 case isTrue hge =>
  simp only [Option.some.injEq, Prod.mk.injEq] at h
  obtain ⟨rfl, rfl, rfl⟩ := h
  have g2 : decide (a2 ≤ a0) = true := decide_eq_true hge
  clear hz
  go_enter Tryd.func31, Tryd.ntmps31
  go_wp2
  go_ret3
  exact ⟨rfl, Below.refl _ _⟩
 rename_i hge
 have g2 : decide (a2 ≤ a0) = false := decide_eq_false hge
 simp only [Option.some.injEq, Prod.mk.injEq] at h
 obtain ⟨e1, e2, rfl⟩ := h
 have E1 := Aside0.mk e1
 have E2 := Aside0.mk e2
 clear e1 e2 hz
 obtain ⟨L, hL⟩ : ∃ L, L = bitsN a2 := ⟨_, rfl⟩
 obtain ⟨hL0, hL1, hL2, hB, hin, hl0, hl1, hN⟩ := div_begin h0a h1a h1b h2b (by omega) hL
 have HL := Aside0.mk (wide_Len.f_eq h2a h2b 7 (by omega))
 rw [← hL] at HL
 have HB := Aside0.mk hB; have HI := Aside0.mk hin; have HN := Aside0.mk hN; have Hl0 := Aside0.mk hl0; have Hl1 := Aside0.mk hl1
 clear hL hB hin hN hl0 hl1 hge
 go_enter Tryd.func31, Tryd.ntmps31
 go_wp2_with (first | (go_at_call 30; (with_reducible refine (wide_Len.calls 7 _ _ _ HL.out).mono ?_); rintro e w' ⟨rfl, ⟨n, rfl⟩⟩))
 go_quiet (fail)
 go_wp2
 have kc : ∀ (m j : Nat), j < 2 → ((w.drewN m).alloc (Obj.cells #[Value.int IntKind.u64 0, Value.int IntKind.u64 0] 72)).cell? ⟨w.heap.size, j, none⟩ = some (.int .u64 0) := by
  intro m j hj
  rw [blk_cell (blk_new' (w.drewN m) _ (g := w.heap.size) rfl) j]
  rcases j with _ | _ | j
  ·rfl
  ·rfl
  ·omega
 have kf : ∀ (m j : Nat), ((w.drewN m).alloc (Obj.cells #[Value.int IntKind.u64 0, Value.int IntKind.u64 0] 72)).frozen? ⟨w.heap.size, j, none⟩ = false := by
  intro m j
  exact blk_frozen (blk_new' (w.drewN m) _ (g := w.heap.size) rfl) j
 have kc0 := fun m => kc m 0 (by omega)
 have kc1 := fun m => kc m 1 (by omega)
 clear kc
 go_region
 clear kc0 kc1 kf
 go_upto_block 0 with (fail)
 rw [HB.out]
 generalize hBd : a2 * 2 ^ (64 - L).toNat = B at *
 generalize hRd : Go.bits BinOp.or IntKind.u64 (IntKind.u64.wrap (a0 * 2 ^ (64 - L).toNat)) (a1 / 2 ^ (64 - (64 - L)).toNat) = R at *
 generalize hl0d : IntKind.u64.wrap (a1 * 2 ^ (64 - L).toNat) / 4294967296 = l0 at *
 generalize hl1d : Go.bits BinOp.and IntKind.u64 (IntKind.u64.wrap (a1 * 2 ^ (64 - L).toNat)) 4294967295 = l1 at *
 have HC : ((((w.drewN (n + nq + 1)).alloc (Obj.cells #[Value.int IntKind.u64 0, Value.int IntKind.u64 0] 72)).setCell ⟨w.heap.size, 0, none⟩ (Value.int IntKind.u64 l0)).setCell ⟨w.heap.size, 1, none⟩ (Value.int IntKind.u64 l1)).heap[w.heap.size]? = some (.cells #[.int .u64 l0, .int .u64 l1] 72 (0, 0)) := blk_set (blk_set (blk_new' (w.drewN (n + nq + 1)) _ (g := w.heap.size) rfl) 0 _) 1 _
 have HW := Aside0.mk (show Below w.heap.size w ((((w.drewN (n + nq + 1)).alloc (Obj.cells #[Value.int IntKind.u64 0, Value.int IntKind.u64 0] 72)).setCell ⟨w.heap.size, 0, none⟩ (Value.int IntKind.u64 l0)).setCell ⟨w.heap.size, 1, none⟩ (Value.int IntKind.u64 l1)) from below_set (below_set (below_alloc (pw_below_drewN (Below.refl _ _) _) _) (Nat.le_refl _)) (Nat.le_refl _))
 generalize ((((w.drewN (n + nq + 1)).alloc (Obj.cells #[Value.int IntKind.u64 0, Value.int IntKind.u64 0] 72)).setCell ⟨w.heap.size, 0, none⟩ (Value.int IntKind.u64 l0)).setCell ⟨w.heap.size, 1, none⟩ (Value.int IntKind.u64 l1)) = W1 at *
 have HC0 := blk_cell HC 0
 have HC1 := blk_cell HC 1
 replace HC0 : W1.cell? ⟨w.heap.size, 0, none⟩ = some (.int .u64 l0) := HC0
 replace HC1 : W1.cell? ⟨w.heap.size, 1, none⟩ = some (.int .u64 l1) := HC1
 clear HC
 have HI0 := HI
 have HI1 := Aside0.mk (HI.out.next Hl0.out Hl1.out)
 go_cut [10, 12] (fun v10 v12 wx => v10 = .int .u64 (((R * 4294967296 + l0) % B * 4294967296 + l1) % B) ∧ v12 = .int .u64 ((R * 4294967296 + l0) / B * 4294967296 + ((R * 4294967296 + l0) % B * 4294967296 + l1) / B) ∧ Aside0 (Below w.heap.size w wx))
 case first =>
  have hB0 := HI.out.B0; have hB1 := HI.out.B1; have hR0 := HI.out.r0; have hR1 := HI.out.r1; have hl00 := HI.out.l0; have hl01 := HI.out.l1; have hl10 := HI1.out.l0; have hl11 := HI1.out.l1
  have hq0 := HI.out.q
  obtain ⟨hq0a, hq0b⟩ := hq0
  go_wp2
  refine wp_loop_rounds 3 ?_
  rw [rounds_succ]
  go_upto_block 2 with (fail)
  go_cut [14, 15] (fun v14 v15 wx => ∃ f : Int, v14 = .int .u64 ((R * 4294967296 + l0) / B) ∧ v15 = .int .u64 f ∧ wx.cell? ⟨w.heap.size, 0, none⟩ = some (.int .u64 l0) ∧ wx.cell? ⟨w.heap.size, 1, none⟩ = some (.int .u64 l1) ∧ Aside0 (Below w.heap.size w wx))
  case first =>
   go_wp2
   go_loopw [14, 15] (fun v14 v15 wr => ∃ d f : Int, v14 = .int .u64 d ∧ v15 = .int .u64 f ∧ Mend B R l0 d f ∧ wr.cell? ⟨w.heap.size, 0, none⟩ = some (.int .u64 l0) ∧ wr.cell? ⟨w.heap.size, 1, none⟩ = some (.int .u64 l1) ∧ Aside0 (Below w.heap.size w wr)) (fun v14 _ _ => (intOf v14).toNat)
   case atStart => exact ⟨_, _, rfl, rfl, Mend.start HI0.out, HC0, HC1, HW⟩
   case round =>
    obtain ⟨d, f, rfl, rfl, hm, hc0, hc1, hb⟩ := hrel
    have hbig := hm.big HI0.out
    obtain ⟨hd0, hd1⟩ := hbig
    have hf0 := hm.f0; have hf1 := hm.f1
    by_cases ht : 4294967295 < d ∨ (R * 4294967296 + l0) / B < d
    ·have hlow := hm.lower HI0.out ht
     have hd2 : 1 ≤ d := hlow.1
     have hT := Aside0.mk ht
     have hg : (decide (4294967295 < d) = true) ∨ (decide (4294967295 < d) = false ∧ decide (Go.bits .or .u64 (f * 4294967296) l0 < IntKind.u64.wrap (d * Go.bits .and .u64 B 4294967295)) = true) := by
      by_cases c1 : 4294967295 < d
      ·exact .inl (decide_eq_true c1)
      ·have h3 := hm.test HI0.out (by omega)
       refine .inr ⟨decide_eq_false c1, ?_⟩
       rw [← u64w_of (x := f * 4294967296) (by omega) (by omega), h3.1, h3.2.1]
       exact decide_eq_true (h3.2.2.2 (by omega))
     clear ht hlow
     by_cases hf2 : f + B / 4294967296 < 4294967296
     ·have hf3 : decide (4294967295 < f + B / 4294967296) = false := decide_eq_false (by omega)
      have hnx := hm.next HI0.out hT.out hf2
      clear hf2
      rcases hg with hg | ⟨hg, hg2⟩
      all_goals
       go_wp2
       go_roundw
       case rel => exact ⟨_, _, rfl, rfl, hnx, hc0, hc1, hb⟩
       case measure => simp only [intOf]; omega
     ·have hf3 : decide (4294967295 < f + B / 4294967296) = true := decide_eq_true (by omega)
      have hst := Aside0.mk (hm.stop HI0.out hT.out (by omega))
      clear hf2
      rcases hg with hg | ⟨hg, hg2⟩
      all_goals
       go_wp2
       go_meet
       exact ⟨_, by rw [hst.out], rfl, hc0, hc1, hb⟩
    ·have c1 : decide (4294967295 < d) = false := decide_eq_false (by omega)
     have h3 := hm.test HI0.out (by omega)
     have c2 : decide (Go.bits .or .u64 (f * 4294967296) l0 < IntKind.u64.wrap (d * Go.bits .and .u64 B 4294967295)) = false := by
      rw [← u64w_of (x := f * 4294967296) (by omega) (by omega), h3.1, h3.2.1]
      exact decide_eq_false (fun h4 => ht (.inr (h3.2.2.1 h4)))
     have hst := Aside0.mk (show d = (R * 4294967296 + l0) / B from by have := hm.le; omega)
     clear h3 ht
     go_wp2
     go_meet
     exact ⟨_, by rw [hst.out], rfl, hc0, hc1, hb⟩
  case rest =>
   obtain ⟨f0, rfl, rfl, hc0, hc1, hb⟩ := hcut
   have hR10 := HI1.out.r0; have hR11 := HI1.out.r1
   have hq1 := HI1.out.q
   obtain ⟨hq1a, hq1b⟩ := hq1
   go_wp2
   rw [div_rest HI.out, or_zero hq0a (by omega), rounds_succ]
   clear HC0 HC1
   go_upto_block 2 with (fail)
   go_cut [14, 15] (fun v14 v15 wx => ∃ f : Int, v14 = .int .u64 ((((R * 4294967296 + l0) % B) * 4294967296 + l1) / B) ∧ v15 = .int .u64 f ∧ wx.cell? ⟨w.heap.size, 0, none⟩ = some (.int .u64 l0) ∧ wx.cell? ⟨w.heap.size, 1, none⟩ = some (.int .u64 l1) ∧ Aside0 (Below w.heap.size w wx))
   case first =>
    go_wp2
    go_loopw [14, 15] (fun v14 v15 wr => ∃ d f : Int, v14 = .int .u64 d ∧ v15 = .int .u64 f ∧ Mend B ((R * 4294967296 + l0) % B) l1 d f ∧ wr.cell? ⟨w.heap.size, 0, none⟩ = some (.int .u64 l0) ∧ wr.cell? ⟨w.heap.size, 1, none⟩ = some (.int .u64 l1) ∧ Aside0 (Below w.heap.size w wr)) (fun v14 _ _ => (intOf v14).toNat)
    case atStart => exact ⟨_, _, rfl, rfl, Mend.start HI1.out, hc0, hc1, hb⟩
    case round =>
     obtain ⟨d, f, rfl, rfl, hm, hc0, hc1, hb⟩ := hrel
     have hbig := hm.big HI1.out
     obtain ⟨hd0, hd1⟩ := hbig
     have hf0 := hm.f0; have hf1 := hm.f1
     by_cases ht : 4294967295 < d ∨ (((R * 4294967296 + l0) % B) * 4294967296 + l1) / B < d
     ·have hlow := hm.lower HI1.out ht
      have hd2 : 1 ≤ d := hlow.1
      have hT := Aside0.mk ht
      have hg : (decide (4294967295 < d) = true) ∨ (decide (4294967295 < d) = false ∧ decide (Go.bits .or .u64 (f * 4294967296) l1 < IntKind.u64.wrap (d * Go.bits .and .u64 B 4294967295)) = true) := by
       by_cases c1 : 4294967295 < d
       ·exact .inl (decide_eq_true c1)
       ·have h3 := hm.test HI1.out (by omega)
        refine .inr ⟨decide_eq_false c1, ?_⟩
        rw [← u64w_of (x := f * 4294967296) (by omega) (by omega), h3.1, h3.2.1]
        exact decide_eq_true (h3.2.2.2 (by omega))
      clear ht hlow
      by_cases hf2 : f + B / 4294967296 < 4294967296
      ·have hf3 : decide (4294967295 < f + B / 4294967296) = false := decide_eq_false (by omega)
       have hnx := hm.next HI1.out hT.out hf2
       clear hf2
       rcases hg with hg | ⟨hg, hg2⟩
       all_goals
        go_wp2
        go_roundw
        case rel => exact ⟨_, _, rfl, rfl, hnx, hc0, hc1, hb⟩
        case measure => simp only [intOf]; omega
      ·have hf3 : decide (4294967295 < f + B / 4294967296) = true := decide_eq_true (by omega)
       have hst := Aside0.mk (hm.stop HI1.out hT.out (by omega))
       clear hf2
       rcases hg with hg | ⟨hg, hg2⟩
       all_goals
        go_wp2
        go_meet
        exact ⟨_, by rw [hst.out], rfl, hc0, hc1, hb⟩
     ·have c1 : decide (4294967295 < d) = false := decide_eq_false (by omega)
      have h3 := hm.test HI1.out (by omega)
      have c2 : decide (Go.bits .or .u64 (f * 4294967296) l1 < IntKind.u64.wrap (d * Go.bits .and .u64 B 4294967295)) = false := by
       rw [← u64w_of (x := f * 4294967296) (by omega) (by omega), h3.1, h3.2.1]
       exact decide_eq_false (fun h4 => ht (.inr (h3.2.2.1 h4)))
      have hst := Aside0.mk (show d = (((R * 4294967296 + l0) % B) * 4294967296 + l1) / B from by have := hm.le; omega)
      clear h3 ht
      go_wp2
      go_meet
      exact ⟨_, by rw [hst.out], rfl, hc0, hc1, hb⟩
   case rest =>
    obtain ⟨f1, rfl, rfl, hc0, hc1, hb⟩ := hcut
    go_wp2
    rw [div_rest HI1.out, or_join 32 (by omega) (by omega) (by show _ % 4294967296 = 0; omega) hq1a (by exact hq1b) (by omega), rounds_succ]
    go_wp2
    go_meet
    exact ⟨rfl, rfl, hb⟩
 case rest =>
  obtain ⟨rfl, rfl, hb⟩ := hcut
  have hR20 : 0 ≤ ((R * 4294967296 + l0) % B * 4294967296 + l1) % B := Int.emod_nonneg _ (by have := HI.out.B0; omega)
  have hd2 := div_two HI.out Hl0.out Hl1.out
  have hsc := div_scaled (n := a0 * 18446744073709551616 + a1) (b := a2) (64 - L).toNat (by have := of_decide_eq_false g2; omega)
  rw [HN.out, ← hBd] at hd2
  rw [hsc.1] at hd2
  have hQ := Aside0.mk (hd2.1.trans E1.out)
  have hr2 : ((R * 4294967296 + l0) % B * 4294967296 + l1) % B / 2 ^ (64 - L).toNat = r2 := by
   rw [← hBd, hd2.2, hsc.2, E2.out]
  have hR2 := Aside0.mk hr2
  rw [hBd] at hQ
  generalize ((R * 4294967296 + l0) % B * 4294967296 + l1) % B = R2 at *
  generalize (R * 4294967296 + l0) / B * 4294967296 + ((R * 4294967296 + l0) % B * 4294967296 + l1) / B = Q at *
  clear hd2 hsc hr2
  go_wp2
  go_quiet (fail)
  go_wp2
  go_ret3
  exact ⟨by rw [hQ.out, hR2.out]; rfl, pw_below_drewN hb.out _⟩

end Go.Proofs.YtoannkopciehcaaDoor.PA
