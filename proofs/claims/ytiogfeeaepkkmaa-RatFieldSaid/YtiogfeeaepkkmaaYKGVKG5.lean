/- A part of the proof (5). -/
import Derived.Test.YtiogfeeaepkkmaaYKGVKG2
import Derived.Test.YtiogfeeaepkkmaaYKGVKG3
import Derived.Test.YtiogfeeaepkkmaaYKGVKG4
namespace Go.Proofs.Ytiogfeeaepkkmaa.PA
open Go.RowKit Go.Proofs.YtiogfeeaepkkmaaW.PrintWords Go.Proofs.YtiogfeeaepkkmaaW.PrintLast Go.Proofs.YtiogfeeaepkkmaaW.PrintMore
attribute [local go_sem] max2_int min2_int max_two min_two max_three min_three max_four min_four
set_option linter.unusedVariables false
set_option linter.unusedSimpArgs false
mutual
def quot_long.l0 : Nat → Int → Int → List Int → List Int → Int → List Int → Option (List Int × List Int)
 | 0, _, _, _, _, _, _ => none
 | k + 1, x11, x12, x13, x14, x15, x16 => if x15 < 0 then ((nat_Norm.f x16).bind fun t239 => (if 0 ≤ x11 then (if x11 ≤ (x14.length : Int) then ((quot_shr.f k (x14.take (x11 : Int).toNat) x12).bind fun t246 => (some (t239, t246))) else (none)) else (none))) else (if 0 ≤ (wrap64 (x15 + x11)) then (if (wrap64 (x15 + x11)) < (x14.length : Int) then (if 0 ≤ (wrap64 (x11 - 1)) then (if (wrap64 (x11 - 1)) < (x13.length : Int) then (if (rd x14 (wrap64 (x15 + x11))) = (rd x13 (wrap64 (x11 - 1))) then (if 0 ≤ (wrap64 ((wrap64 (x15 + x11)) - 1)) then (if (wrap64 ((wrap64 (x15 + x11)) - 1)) < (x14.length : Int) then ((wide_Add.f (rd x14 (wrap64 ((wrap64 (x15 + x11)) - 1))) (rd x13 (wrap64 (x11 - 1))) 0).bind fun bt253 => (if bt253.2 = 1 then (quot_long.j3 k 18446744073709551615 x11 x12 x13 x14 x15 x16) else (quot_long.j1 k 18446744073709551615 bt253.1 x11 x12 x13 x14 x15 x16))) else (none)) else (none)) else (if 0 ≤ (wrap64 ((wrap64 (x15 + x11)) - 1)) then (if (wrap64 ((wrap64 (x15 + x11)) - 1)) < (x14.length : Int) then ((wide_Div.f (rd x14 (wrap64 (x15 + x11))) (rd x14 (wrap64 ((wrap64 (x15 + x11)) - 1))) (rd x13 (wrap64 (x11 - 1)))).bind fun bt258 => (quot_long.j1 k bt258.1 bt258.2.1 x11 x12 x13 x14 x15 x16)) else (none)) else (none))) else (none)) else (none)) else (none)) else (none))
def quot_long.j3 : Nat → Int → Int → Int → List Int → List Int → Int → List Int → Option (List Int × List Int)
 | 0, _, _, _, _, _, _, _ => none
 | k + 1, x6, x11, x12, x13, x14, x15, x16 => (quot_takeAt.f k x14 x15 x11 x13 x6).bind fun bt269 => (if bt269.1 = true then ((quot_giveAt.f k bt269.2 x15 x11 x13).bind fun t271 => (if 0 ≤ x15 then (if x15 < (x16.length : Int) then (quot_long.l0 k x11 x12 x13 t271 (wrap64 (x15 - 1)) (x16.set (x15 : Int).toNat (IntKind.u64.wrap (x6 - 1)))) else (none)) else (none))) else (if 0 ≤ x15 then (if x15 < (x16.length : Int) then (quot_long.l0 k x11 x12 x13 bt269.2 (wrap64 (x15 - 1)) (x16.set (x15 : Int).toNat x6)) else (none)) else (none)))
def quot_long.j1 : Nat → Int → Int → Int → Int → List Int → List Int → Int → List Int → Option (List Int × List Int)
 | 0, _, _, _, _, _, _, _, _ => none
 | k + 1, x6, x7, x11, x12, x13, x14, x15, x16 => quot_long.l1 k x6 x7 x11 x12 x13 x14 x15 x16
def quot_long.l1 : Nat → Int → Int → Int → Int → List Int → List Int → Int → List Int → Option (List Int × List Int)
 | 0, _, _, _, _, _, _, _, _ => none
 | k + 1, x6, x7, x11, x12, x13, x14, x15, x16 => if 0 ≤ (wrap64 (x11 - 2)) then (if (wrap64 (x11 - 2)) < (x13.length : Int) then ((wide_Mul.f x6 (rd x13 (wrap64 (x11 - 2)))).bind fun bt262 => (if 0 ≤ (wrap64 ((wrap64 (x15 + x11)) - 2)) then (if (wrap64 ((wrap64 (x15 + x11)) - 2)) < (x14.length : Int) then ((wide_Cmp.f k bt262.1 bt262.2 x7 (rd x14 (wrap64 ((wrap64 (x15 + x11)) - 2)))).bind fun t265 => (if t265 ≤ 0 then (quot_long.j3 k x6 x11 x12 x13 x14 x15 x16) else (if 0 ≤ (wrap64 (x11 - 1)) then (if (wrap64 (x11 - 1)) < (x13.length : Int) then ((wide_Add.f x7 (rd x13 (wrap64 (x11 - 1))) 0).bind fun bt267 => (if bt267.2 = 0 then (quot_long.l1 k (IntKind.u64.wrap (x6 - 1)) bt267.1 x11 x12 x13 x14 x15 x16) else (quot_long.j3 k (IntKind.u64.wrap (x6 - 1)) x11 x12 x13 x14 x15 x16))) else (none)) else (none)))) else (none)) else (none))) else (none)) else (none)
end
def quot_long.f (k : Nat) (l0 : List Int) (l1 : List Int) : Option (List Int × List Int) := if 0 ≤ (wrap64 ((l1.length : Int) - 1)) then (if (wrap64 ((l1.length : Int) - 1)) < (l1.length : Int) then ((wide_Len.f k (rd l1 (wrap64 ((l1.length : Int) - 1)))).bind fun t229 => ((quot_shl.f k l1 (wrap64 (64 - t229)) (l1.length : Int)).bind fun t230 => ((quot_shl.f k l0 (wrap64 (64 - t229)) (wrap64 ((l0.length : Int) + 1))).bind fun t233 => (if 0 ≤ (wrap64 ((wrap64 ((l0.length : Int) - (l1.length : Int))) + 1)) then (if (wrap64 ((wrap64 ((l0.length : Int) - (l1.length : Int))) + 1) : Int).toNat ≤ 35184372088832 then (quot_long.l0 k (l1.length : Int) (wrap64 (64 - t229)) t230 t233 (wrap64 ((l0.length : Int) - (l1.length : Int))) (List.replicate (wrap64 ((wrap64 ((l0.length : Int) - (l1.length : Int))) + 1) : Int).toNat 0)) else (none)) else (none))))) else (none)) else (none)
theorem quot_long.mono_l : ∀ k, (∀ y0 y1 y2 y3 y4 y5, LeO (quot_long.l0 k y0 y1 y2 y3 y4 y5) (quot_long.l0 (k + 1) y0 y1 y2 y3 y4 y5)) ∧ (∀ y0 y1 y2 y3 y4 y5 y6, LeO (quot_long.j3 k y0 y1 y2 y3 y4 y5 y6) (quot_long.j3 (k + 1) y0 y1 y2 y3 y4 y5 y6)) ∧ (∀ y0 y1 y2 y3 y4 y5 y6 y7, LeO (quot_long.j1 k y0 y1 y2 y3 y4 y5 y6 y7) (quot_long.j1 (k + 1) y0 y1 y2 y3 y4 y5 y6 y7)) ∧ (∀ y0 y1 y2 y3 y4 y5 y6 y7, LeO (quot_long.l1 k y0 y1 y2 y3 y4 y5 y6 y7) (quot_long.l1 (k + 1) y0 y1 y2 y3 y4 y5 y6 y7))
 | 0 => ⟨fun _ _ _ _ _ _ r h => by simp [quot_long.l0] at h, fun _ _ _ _ _ _ _ r h => by simp [quot_long.j3] at h, fun _ _ _ _ _ _ _ _ r h => by simp [quot_long.j1] at h, fun _ _ _ _ _ _ _ _ r h => by simp [quot_long.l1] at h⟩
 | k + 1 => by
  obtain ⟨ih0, ih1, ih2, ih3⟩ := quot_long.mono_l k
  refine ⟨?_, ?_, ?_, ?_⟩
  ·intro y0 y1 y2 y3 y4 y5
   unfold quot_long.l0
   have m0_ := quot_giveAt.mono
   have m1_ := quot_shl.mono
   have m2_ := quot_shr.mono
   have m3_ := quot_takeAt.mono
   have m4_ := wide_Cmp.mono
   have m5_ := wide_Len.mono
   exact mX
  ·intro y0 y1 y2 y3 y4 y5 y6
   unfold quot_long.j3
   have m0_ := quot_giveAt.mono
   have m1_ := quot_shl.mono
   have m2_ := quot_shr.mono
   have m3_ := quot_takeAt.mono
   have m4_ := wide_Cmp.mono
   have m5_ := wide_Len.mono
   exact mX
  ·intro y0 y1 y2 y3 y4 y5 y6 y7
   unfold quot_long.j1
   have m0_ := quot_giveAt.mono
   have m1_ := quot_shl.mono
   have m2_ := quot_shr.mono
   have m3_ := quot_takeAt.mono
   have m4_ := wide_Cmp.mono
   have m5_ := wide_Len.mono
   exact mX
  ·intro y0 y1 y2 y3 y4 y5 y6 y7
   unfold quot_long.l1
   have m0_ := quot_giveAt.mono
   have m1_ := quot_shl.mono
   have m2_ := quot_shr.mono
   have m3_ := quot_takeAt.mono
   have m4_ := wide_Cmp.mono
   have m5_ := wide_Len.mono
   exact mX
theorem quot_long.mono : ∀ a0 a1 k, LeO (quot_long.f k a0 a1) (quot_long.f (k + 1) a0 a1) := by
 intro a0 a1 k
 obtain ⟨ih0, ih1, ih2, ih3⟩ := quot_long.mono_l k
 unfold quot_long.f
 have m0_ := quot_giveAt.mono
 have m1_ := quot_shl.mono
 have m2_ := quot_shr.mono
 have m3_ := quot_takeAt.mono
 have m4_ := wide_Cmp.mono
 have m5_ := wide_Len.mono
 exact mX
def quot_long.T9 : Bool × List (List Nat × List Nat) := (true, [([], []), ([], []), ([], []), ([1, 2], [1, 2]), ([0, 3], [0, 3]), ([4], [4]), ([], []), ([], []), ([7], [7]), ([6, 8], [6, 8]), ([9], [9]), ([5, 10], [5, 10])])
def quot_long.B9 : List Nat := [0, 0, 0, 6, 15, 31, 0, 0, 128, 448, 960, 2047]
theorem quot_long.tab9 : rtab .any (opsOf Try.f55 9) = quot_long.T9 := by kernel_rfl
theorem quot_long.bits9 : waitsOk quot_long.T9.2 quot_long.B9 = true := by kernel_rfl
def quot_long.T11 : Bool × List (List Nat × List Nat) := (true, [([], []), ([], []), ([], []), ([1, 2], [1, 2]), ([3], [3]), ([0, 4], [0, 4]), ([5], [5]), ([], []), ([], []), ([8], [8]), ([7, 9], [7, 9]), ([10], [10]), ([6, 11], [6, 11]), ([12], [12]), ([13], [13]), ([13], [13]), ([14, 12, 0, 1, 2, 3, 4, 5, 6, 7, 8, 9, 10, 11, 12, 13, 14], [14]), ([15, 16, 0, 1, 2, 3, 4, 5, 6, 7, 8, 9, 10, 11, 12, 13, 14, 15, 16], [15])])
def quot_long.B11 : List Nat := [0, 0, 0, 6, 14, 31, 63, 0, 0, 256, 896, 1920, 4095, 8191, 16383, 16383, 32767, 131071]
theorem quot_long.tab11 : rtab .any (opsOf Try.f55 11) = quot_long.T11 := by kernel_rfl
theorem quot_long.bits11 : waitsOk quot_long.T11.2 quot_long.B11 = true := by kernel_rfl
def quot_long.T13 : Bool × List (List Nat × List Nat) := (true, [([], []), ([], []), ([], []), ([1, 2], [1, 2]), ([0, 3], [0, 3]), ([4], [4]), ([], []), ([], []), ([], []), ([7, 8], [7, 8]), ([9], [9]), ([6, 10], [6, 10]), ([11], [11]), ([], []), ([], []), ([14], [14]), ([13, 15], [13, 15]), ([16], [16]), ([5, 12, 17], [5, 12, 17]), ([18], [18]), ([19], [19]), ([19], [19]), ([19], [19]), ([20, 18, 0, 1, 2, 3, 4, 5, 6, 7, 8, 9, 10, 11, 12, 13, 14, 15, 16, 17, 18, 19, 20], [20]), ([21, 23, 0, 1, 2, 3, 4, 5, 6, 7, 8, 9, 10, 11, 12, 13, 14, 15, 16, 17, 18, 19, 20, 21, 23], [21])])
def quot_long.B13 : List Nat := [0, 0, 0, 6, 15, 31, 0, 0, 0, 384, 896, 1984, 4032, 0, 0, 16384, 57344, 122880, 262143, 524287, 1048575, 1048575, 1048575, 2097151, 12582911]
theorem quot_long.tab13 : rtab .any (opsOf Try.f55 13) = quot_long.T13 := by kernel_rfl
theorem quot_long.bits13 : waitsOk quot_long.T13.2 quot_long.B13 = true := by kernel_rfl
def quot_long.T24 : Bool × List (List Nat × List Nat) := (true, [([], []), ([0], [0]), ([], []), ([], []), ([2, 3], [2, 3]), ([], []), ([4, 5, 1], [4, 5]), ([1, 6, 0, 1], [1]), ([6, 7, 0, 1, 2, 3, 4, 5, 6, 7], [6])])
def quot_long.B24 : List Nat := [0, 1, 0, 0, 12, 0, 63, 127, 255]
theorem quot_long.tab24 : rtab .any (opsOf Try.f55 24) = quot_long.T24 := by kernel_rfl
theorem quot_long.bits24 : waitsOk quot_long.T24.2 quot_long.B24 = true := by kernel_rfl
theorem long_cut {P : Program} (t e : TypeId) {i : TypeInfo} (ht : P.underlying t = some (.slice e)) (hi : P.info? e = some i) (hsz : i.size = 1) (g N c : Nat) (j n : Int) (h0 : 0 ≤ j) (hn : 0 ≤ n) (h2 : j + n + 1 ≤ (N : Int)) (hc : N ≤ c) (hw : wrap64 (wrap64 (j + n) + 1) = j + n + 1) :
  ∀ W : World, (Instr.slice t (.slice (some ⟨g, 0, none⟩) N c) (some (.int .i64 j)) (some (.int .i64 (wrap64 (wrap64 (j + n) + 1)))) none).run P W = .ok (.slice (some ⟨g, j.toNat, none⟩) (n.toNat + 1) (c - j.toNat)) W := by
 intro W
 rw [hw]
 have := cut_mid (P := P) t e .i64 .i64 ht hi 1 hsz (some ⟨g, 0, none⟩) N c j (j + n + 1) h0 (by omega) h2 hc W
 rw [this, if_neg (by omega), show (j + n + 1).toNat - j.toNat = n.toNat + 1 by omega]
 simp only [Option.map_some, add_at, Nat.mul_one, Nat.zero_add]
theorem long_j1 {k : Nat} {y0 y1 y2 y3 y6 : Int} {y4 y5 : List Int} {y7 : List Int} {r : List Int × List Int} (h : quot_long.j1 k y0 y1 y2 y3 y4 y5 y6 y7 = some r) : ∃ k2, k2 < k ∧ quot_long.l1 k2 y0 y1 y2 y3 y4 y5 y6 y7 = some r := by
 cases k with
 | zero => exact absurd h (by simp [quot_long.j1])
 | succ k2 => exact ⟨k2, Nat.lt_succ_self _, by simpa only [quot_long.j1] using h⟩
theorem long_takeAt_in {k : Nat} {u : List Int} {j n : Int} {v : List Int} {by_ : Int} {r : Bool × List Int} (h : quot_takeAt.f k u j n v by_ = some r) : 0 ≤ j ∧ j + n + 1 ≤ (u.length : Int) ∧ wrap64 (wrap64 (j + n) + 1) = j + n + 1 := by
 unfold quot_takeAt.f at h
 split at h
 ·rename_i hh; exact ⟨hh.1, hh.2.2.1, hh.2.2.2⟩
 ·cases h
set_option maxHeartbeats 8000000 in
set_option maxRecDepth 100000 in
theorem quot_long.calls (k : Nat) (A0 : Option Addr) (c0 : Nat) (l0 : List Int) (A1 : Option Addr) (c1 : Nat) (l1 : List Int) (r1 : List Int) (r2 : List Int) (w : World) (hr0 : Kd.C (Kd.int .u64) w A0 l0.length l0) (hc0 : l0.length ≤ c0) (hr1 : Kd.C (Kd.int .u64) w A1 l1.length l1) (hc1 : l1.length ≤ c1) (h : quot_long.f k l0 l1 = some (r1, r2)) :
  Calls Try.prog 55 #[.slice A0 l0.length c0, .slice A1 l1.length c1] w fun e w' => ∃ v0_ v1_ : Value, e = .returned (.tuple #[v0_, v1_]) ∧ Kd.R (Kd.int .u64) 44 w' w.heap.size (fun k_ => some k_ ≠ (v1_ : Value).ownBlock) v0_ r1 ∧ Kd.R (Kd.int .u64) 44 w' w.heap.size (fun k_ => some k_ ≠ (v0_ : Value).ownBlock) v1_ r2 ∧ Below w.heap.size w w' := by
 have HR0 := aM hr0
 have HC0 := aM hc0
 clear hr0 hc0
 have HR1 := aM hr1
 have HC1 := aM hc1
 clear hr1 hc1
 have HB := aM (Below.refl w.heap.size w)
 have H := h
 clear h
 unfold quot_long.f at H
 obtain ⟨ji3, hji3⟩ : ∃ j_ : Int, (wrap64 ((l1.length : Int) - 1)) = j_ := ⟨_, rfl⟩
 first | rw [hji3] at H | simp only [hji3] at H
 have hji3w : (IntKind.i64.wrap ((l1.length : Int) - 1)) = ji3 := (i64_w _).trans hji3
 replace H := nO H
 obtain ⟨c4, H⟩ := H
 have c4b0 : decide (0 ≤ (ji3)) = true := decide_eq_true c4
 clear c4
 replace H := nO H
 obtain ⟨c5, H⟩ := H
 have c5b0 := decide_eq_true c5
 clear c5
 replace H := oA H
 obtain ⟨t229, A6, H⟩ := H
 (try dsimp only at H)
 replace H := oA H
 obtain ⟨t230, A7, H⟩ := H
 (try dsimp only at H)
 replace H := oA H
 obtain ⟨t233, A8, H⟩ := H
 (try dsimp only at H)
 obtain ⟨ji9, hji9⟩ : ∃ j_ : Int, (wrap64 ((wrap64 ((l0.length : Int) - (l1.length : Int))) + 1)) = j_ := ⟨_, rfl⟩
 first | rw [hji9] at H | simp only [hji9] at H
 (try rw [hji9] at A6)
 (try rw [hji9] at A7)
 (try rw [hji9] at A8)
 have hji9w : (IntKind.i64.wrap ((wrap64 ((l0.length : Int) - (l1.length : Int))) + 1)) = ji9 := (i64_w _).trans hji9
 replace H := nO H
 obtain ⟨c10, H⟩ := H
 have c10b0 := eq_true c10
 have c10b1 : decide (0 ≤ (ji9)) = true := decide_eq_true c10
 clear c10
 replace H := nO H
 obtain ⟨c11, H⟩ := H
 have c11b0 := eq_true c11
 have c11b1 := decide_eq_true c11
 clear c11
 obtain ⟨y236, hy236⟩ : ∃ y_ : List Int, y_ = (List.replicate (ji9 : Int).toNat 0) := ⟨_, rfl⟩
 replace H : (quot_long.l0 k (l1.length : Int) (wrap64 (64 - t229)) t230 t233 (wrap64 ((l0.length : Int) - (l1.length : Int))) y236) = some (r1, r2) := by first | (rw [hy236]; with_reducible exact H) | (have H2_ := (Option.bind_some _ _).symm.trans H; rw [hy236]; with_reducible exact H2_) | (have H2_ := (Option.bind_some _ _).symm.trans H; with_reducible exact H2_) | with_reducible exact H | (rw [hy236]; exact H) | exact H
 have Ny236 := aM hy236
 clear hy236
 have H' := aM H
 clear H
 go_enter Try.func55, Try.ntmps55
 go_wp2
 refine wp_scope_fall (fun l => match l with | 0 => ?r0 | 1 => ?r1 | 2 => ?r2 | _ => ?r3) (fun l n_ a w' => (l = 0 ∨ l = 1 ∨ l = 2 ∨ l = 3) ∧ ∃ (f : Nat → Value) (v231 v234 v237 : Value) (x13_1 x14_1 x16_1 : List Int) (x15_1 x6_ x7_ : Int), a = { tmps := #[.slice A0 l0.length c0, .slice A1 l1.length c1, f 2, f 3, f 4, f 5, .int .u64 x6_, .int .u64 x7_, f 8, f 9, f 10, .int .i64 (l1.length : Int), .int .i64 (wrap64 (64 - t229)), v231, v234, .int .i64 x15_1, v237, f 17, f 18, f 19, f 20, f 21, f 22, f 23, f 24, f 25, f 26, f 27, f 28, f 29, f 30, f 31, f 32, f 33, f 34, f 35, f 36, f 37, f 38, f 39, f 40, f 41, f 42, f 43, f 44, f 45, f 46, f 47, f 48, f 49, f 50, f 51, f 52, f 53, f 54, f 55, f 56, f 57, f 58, f 59, f 60, f 61, f 62, f 63, f 64, f 65, f 66, f 67, f 68, f 69, f 70, f 71, f 72, f 73, f 74, f 75, f 76, f 77, f 78, f 79, f 80, f 81, f 82, f 83, f 84, f 85, f 86, f 87, f 88, f 89, f 90, f 91, f 92, f 93, f 94, f 95, f 96, f 97, f 98, f 99, f 100, f 101, f 102, f 103, f 104, f 105, f 106, f 107, f 108, f 109, f 110, f 111, f 112, f 113, f 114, f 115, f 116, f 117, f 118, f 119, f 120, f 121, f 122, f 123, f 124, f 125, f 126, f 127, f 128, f 129, f 130, f 131, f 132, f 133, f 134, f 135, f 136, f 137, f 138, f 139, f 140, f 141, f 142, f 143, f 144, f 145, f 146, f 147, f 148, f 149, f 150, f 151, f 152, f 153, f 154, f 155, f 156, f 157, f 158, f 159, f 160, f 161, f 162, f 163, f 164, f 165, f 166, f 167], defers := [] } ∧
  (match l with | 0 => x15_1 < 0 ∧ quot_long.l0 (n_ + 1) (l1.length : Int) (wrap64 (64 - t229)) x13_1 x14_1 x15_1 x16_1 = some (r1, r2) | 1 => quot_long.l0 n_ (l1.length : Int) (wrap64 (64 - t229)) x13_1 x14_1 x15_1 x16_1 = some (r1, r2) | 2 => quot_long.j3 n_ x6_ (l1.length : Int) (wrap64 (64 - t229)) x13_1 x14_1 x15_1 x16_1 = some (r1, r2) | _ => quot_long.l1 n_ x6_ x7_ (l1.length : Int) (wrap64 (64 - t229)) x13_1 x14_1 x15_1 x16_1 = some (r1, r2)) ∧
  Aside0 (Kd.R (Kd.int .u64) 44 w' w.heap.size (fun k_ => some k_ ≠ (v234 : Value).ownBlock ∧ some k_ ≠ (v237 : Value).ownBlock) v231 x13_1) ∧ Aside0 (Kd.R (Kd.int .u64) 44 w' w.heap.size (fun k_ => some k_ ≠ (v231 : Value).ownBlock ∧ some k_ ≠ (v237 : Value).ownBlock) v234 x14_1) ∧ Aside0 (Kd.R (Kd.int .u64) 44 w' w.heap.size (fun k_ => some k_ ≠ (v231 : Value).ownBlock ∧ some k_ ≠ (v234 : Value).ownBlock) v237 x16_1) ∧ Aside0 (Below w.heap.size w w')) ?hf ?first ?pass
 case hf =>
  rintro l n_ a w' ⟨h | h | h | h, _⟩
  ·subst h; exact rfl
  ·subst h; exact rfl
  ·subst h; exact rfl
  ·subst h; exact rfl
 case first =>
  intro fall
  have p228 : 0 ≤ ((ji3) : Int) := of_decide_eq_true dS
  have q228 : (ji3) < (l1.length : Int) := of_decide_eq_true dS
  obtain ⟨ad228, e228, hx228_0⟩ := Kd.at_int HR1.out (ji3) p228 q228
  cases e228
  replace p228 := eq_true p228
  replace q228 := eq_true q228
  go_wp2_with (first | ((with_reducible refine gate_callee (f := 63) rfl ?_); refine goesL_ (some 24) rfl rfl Try.func63 (by kernel_rfl) rfl #[.int .u64 (rd l1 (ji3))] rfl (by (try simp only [List.map_toArray, List.map_cons, List.map_nil]); first | done | (simp only [hji3]; rfl) | rfl | (simp only [List.length_drop, List.length_take]; rfl)) ?_; (with_reducible refine (wide_Len.calls k (rd l1 (ji3)) t229 _ A6.out).mono ?_); rintro e w' ⟨rfl, ⟨nd, rfl⟩⟩; refine ⟨_, rfl, ?_⟩) | ((with_reducible refine gate_callee (f := 64) rfl ?_); refine gL (some 29) Try.func64 #[.slice (some ad228) l1.length c1, .int .i64 (wrap64 (64 - t229)), .int .i64 (l1.length : Int)] ?_; (with_reducible refine (quot_shl.calls k _ _ l1 (wrap64 (64 - t229)) (l1.length : Int) t230 _ ?side1 HC1.out A7.out).mono ?_); (case side1 => exact dC HR1.out); rintro e w12 ⟨v231, rfl, ho0, hb⟩; refine ⟨_, rfl, ?_⟩; have HO232 := aM (Kd.R_lower ho0 (below_size dB)); replace HB := hS HB.out hb; (try clear hb); (try clear ho0)) | ((with_reducible refine gate_callee (f := 64) rfl ?_); refine gL (some 35) Try.func64 #[.slice A0 l0.length c0, .int .i64 (wrap64 (64 - t229)), .int .i64 (wrap64 ((l0.length : Int) + 1))] ?_; (with_reducible refine (quot_shl.calls k _ _ l0 (wrap64 (64 - t229)) (wrap64 ((l0.length : Int) + 1)) t233 _ ?side1 HC0.out A8.out).mono ?_); (case side1 => exact dC (Kd.C_below HR0.out HB.out)); rintro e w13 ⟨v234, rfl, ho0, hb⟩; refine ⟨_, rfl, ?_⟩; have HO235 := aM (Kd.R_lower (nW ho0 HO232.out) (below_size dB)); replace HO232 := oE HO232.out ho0 hb; replace HB := hS HB.out hb; (try clear hb); (try clear ho0)) | ((with_reducible refine gate_dst (N := 42) rfl ?_); refine Kd.R_make (Kd.int .u64) _ 44 rfl (N := 42) rfl 22 _ _ rfl ji9 rfl rfl Try.underlying22 (.int .u64 0) 8 info44 rfl (by decide) (by omega) 0 (ok := fun _ => True) (okp := fun _ => True) rfl (fun _ hk => hk) trivial (of_decide_eq_true dS) (Nat.le_trans (Nat.mul_le_mul_right _ (of_decide_eq_true dS : ji9.toNat ≤ 35184372088832)) (by omega)) (Below.refl _ _) (Nat.le_refl _) ?_; intro v237 w14 ho15 hb hg_ hnew_; clear hg_ hnew_; (first | rw [← Ny236.out] at ho15 | (simp only [Int.reduceToNat] at ho15; rw [← Ny236.out] at ho15)); have HO238 := aM (Kd.R_lower (nW (nW ho15 HO232.out) HO235.out) (below_size dB)); replace HO232 := oE HO232.out ho15 hb; replace HO235 := oE HO235.out ho15 hb; replace HB := hS HB.out hb; clear hb ho15))
  refine wp_label ?_
  (try simp only [Exit.then])
  rename_i hK_
  refine hK_ _ _ ?_
  refine wp_at (fun a_ ha_ => ?_)
  exact fall 1 k a_ _ ⟨.inr (.inl rfl), fun i => a_.tmps.getD i .nilIface, _, _, _, t230, t233, y236, (wrap64 ((l0.length : Int) - (l1.length : Int))), 0, 0, (by rw [ha_]; rfl), H'.out, ⟨oS HO232.out⟩, ⟨oS HO235.out⟩, ⟨oS HO238.out⟩, ⟨dB⟩⟩
 case pass =>
  clear A6 A7 A8 Ny236 H' HB
  (try clear c4b0); (try clear c5b0); (try clear c10b0); (try clear c10b1); (try clear c11b0); (try clear c11b1); (try clear hji3w); (try clear hji9w)
  rintro l k1 a wr ⟨rfl | rfl | rfl | rfl, f, v231, v234, v237, x13_1, x14_1, x16_1, x15_1, x6_, x7_, rfl, H, HO_13, HO_14, HO_16, HB⟩ fall
  ·obtain ⟨c16, H⟩ := H
   dsimp only
   simp only [quot_long.l0] at H
   rw [if_pos c16] at H
   have c16b0 : decide (x15_1 < 0) = true := decide_eq_true c16
   clear c16
   replace H := oA H
   obtain ⟨t239, A17, H⟩ := H
   (try dsimp only at H)
   replace H := nO H
   obtain ⟨c18, H⟩ := H
   have c18b0 := eq_true c18
   have c18b1 : decide (0 ≤ (l1.length : Int)) = true := decide_eq_true c18
   clear c18
   replace H := nO H
   obtain ⟨c19, H⟩ := H
   have c19b0 := eq_true c19
   have c19b1 := decide_eq_true c19
   clear c19
   obtain ⟨y242, hy242⟩ : ∃ y_ : List Int, y_ = (x14_1.take ((l1.length : Int) : Int).toNat) := ⟨_, rfl⟩
   replace H : ((quot_shr.f k1 y242 (wrap64 (64 - t229))).bind fun t246 => (some (t239, t246))) = some (r1, r2) := by first | (rw [hy242]; with_reducible exact H) | (have H2_ := (Option.bind_some _ _).symm.trans H; rw [hy242]; with_reducible exact H2_) | (have H2_ := (Option.bind_some _ _).symm.trans H; with_reducible exact H2_) | with_reducible exact H | (rw [hy242]; exact H) | exact H
   have Ny242 := aM hy242
   clear hy242
   replace H := oA H
   obtain ⟨t246, A20, H⟩ := H
   (try dsimp only at H)
   simp only [Option.some.injEq, Prod.mk.injEq] at H
   obtain ⟨rfl, rfl⟩ := H
   try go_wp2
   replace HO_13 := aM (Kd.R_drew HO_13.out)
   replace HO_14 := aM (Kd.R_drew HO_14.out)
   replace HO_16 := aM (Kd.R_drew HO_16.out)
   replace HB := aM (below_drew1 HB.out)
   obtain ⟨Ao23, co23, eo23⟩ := Kd.R_slice HO_14.out
   (first | subst eo23 | (injection eo23 with f1_ f2_ f3_; have f4_ := f1_.symm; have f5_ := f3_.symm; clear f1_ f2_ f3_; subst f4_; subst f5_))
   have q22 : ((l1.length : Int) : Int) ≤ ((x14_1.length : Int) : Int) := of_decide_eq_true dS
   obtain ⟨i022, hi022, _, hsz22, _⟩ := info_parts info44
   have hroom22 : x14_1.length ≤ co23 := (Kd.R_reads' HO_14.out).2.1
   have hC22 : Kd.C (Kd.int .u64) _ Ao23 x14_1.length x14_1 := (Kd.R_reads' HO_14.out).2.2
   have hcut22 := cut_to (P := Try.prog) 22 44 .i64 Try.underlying22 hi022 Ao23 x14_1.length co23 (l1.length : Int) (of_decide_eq_true dS) q22 hroom22
   have hr22 := Kd.C_take (m := ((l1.length : Int) : Int).toNat) hC22 (by omega)
   have hy22 : y242.length = ((l1.length : Int) : Int).toNat := (by rw [Ny242.out, List.length_take]; omega)
   rw [← Ny242.out] at hr22
   rw [← hy22] at hcut22
   have HR245 := aM hr22
   have HC245 := aM (show y242.length ≤ co23 from by omega)
   clear hr22 hC22 hroom22 hi022 hsz22
   have KY22 := aM hy22
   clear hy22
   have KL22 := aM (show ((l1.length : Int) : Int).toNat ≤ x14_1.length from by omega)
   replace q22 := eq_true q22
   obtain ⟨Ao24, co24, eo24⟩ := Kd.R_slice HO_16.out
   (first | subst eo24 | (injection eo24 with f1_ f2_ f3_; have f4_ := f1_.symm; have f5_ := f3_.symm; clear f1_ f2_ f3_; subst f4_; subst f5_))
   refine start_ (n := 9) (S := fun w' => True) (ds := []) #[false, false, false, false, false, false, false, false, false] (by kernel_rfl) rfl rfl trivial (fun hHeld => ?_); refine with_tabW quot_long.tab24 quot_long.bits24 (fun HT_ HW_ => ?_)
   generalize wr.drew = w21 at HO_13 HO_14 HO_16 HB HR245 hHeld ⊢
   refine pP 0 (some 161) ?_
   refine pP 2 (some 163) ?_
   refine pP 3 (some 164) ?_
   refine pP 4 (some 165) ?_
   refine pP 5 (some 166) ?_
   refine one_ (i := 1) (N := some 162) #[true, true, true, true, true, true, false, false, false] rfl rfl (one_of HT_.out (by kernel_rfl)) (by decide) (fun K hK => ?_)
   refine goes_ Try.func46 (by kernel_rfl) rfl #[.slice Ao24 x16_1.length co24] (by rfl) rfl rfl dA ?_
   with_reducible refine (nat_Norm.calls _ _ x16_1 t239 _ ?side1 (Kd.R_reads' HO_16.out).2.1 A17.out).mono ?_
   (case side1 => exact dC (Kd.R_reads' HO_16.out).2.2)
   rintro e w25 ⟨v240, rfl, ho0, hb⟩
   refine ⟨_, rfl, ?_⟩
   have HO241 := aM (Kd.R_lower (nW (nW (nW ho0 HO_13.out) HO_14.out) HO_16.out) (below_size dB))
   replace HO_13 := oE HO_13.out ho0 hb
   replace HO_14 := oE HO_14.out ho0 hb
   replace HO_16 := oE HO_16.out ho0 hb
   replace HR245 := aM (Kd.C_below (by repeat (first | (with_reducible exact HR245.out) | (with_reducible refine Kd.C_alloc ?_ _) | (with_reducible refine Kd.C_drewN ?_ _) | (with_reducible refine Kd.C_drew ?_) | exact HR245.out)) hb)
   replace HB := hS HB.out hb
   (try clear hb)
   (try clear hb2)
   (try clear hk)
   (try clear hi)
   (try clear ho0)
   refine hK.out _ _ trivial (fun hHeld => ?_)
   clear hK K
   refine norm_ (a' := ?_) ?_ ?_
   rotate_left
   ·show Act.put _ (some 162) _ = _
    simp only [Act.put, List.setIfInBounds_toArray, List.set_cons_zero, List.set_cons_succ, i64_w, i32_w]
    rfl
   refine one_ (i := 6) (N := some 167) #[true, true, true, true, true, true, true, false, false] rfl rfl (one_of HT_.out (by kernel_rfl)) (by decide) (fun K hK => ?_)
   refine goes_ Try.func67 (by kernel_rfl) rfl #[.slice Ao23 y242.length co23, .int .i64 (wrap64 (64 - t229))] (by rfl) rfl rfl dA ?_
   with_reducible refine (quot_shr.calls k1 _ _ y242 (wrap64 (64 - t229)) t246 _ ?side1 HC245.out A20.out).mono ?_
   (case side1 => exact dC (by repeat (first | (with_reducible exact HR245.out) | (with_reducible refine Kd.C_alloc ?_ _) | (with_reducible refine Kd.C_drewN ?_ _) | (with_reducible refine Kd.C_drew ?_) | exact HR245.out)))
   rintro e w26 ⟨v247, rfl, ho0, hb⟩
   refine ⟨_, rfl, ?_⟩
   have HO248 := aM (Kd.R_lower (nW (nW (nW (nW ho0 HO_13.out) HO_14.out) HO_16.out) HO241.out) (below_size dB))
   replace HO_13 := oE HO_13.out ho0 hb
   replace HO_14 := oE HO_14.out ho0 hb
   replace HO_16 := oE HO_16.out ho0 hb
   replace HO241 := oE HO241.out ho0 hb
   replace HR245 := aM (Kd.C_below (by repeat (first | (with_reducible exact HR245.out) | (with_reducible refine Kd.C_alloc ?_ _) | (with_reducible refine Kd.C_drewN ?_ _) | (with_reducible refine Kd.C_drew ?_) | exact HR245.out)) hb)
   replace HB := hS HB.out hb
   (try clear hb)
   (try clear hb2)
   (try clear hk)
   (try clear hi)
   (try clear ho0)
   refine hK.out _ _ trivial (fun hHeld => ?_)
   clear hK K
   refine norm_ (a' := ?_) ?_ ?_
   rotate_left
   ·show Act.put _ (some 167) _ = _
    simp only [Act.put, List.setIfInBounds_toArray, List.set_cons_zero, List.set_cons_succ, i64_w, i32_w]
    rfl
   refine pP 7 (some 4) ?_
   refine pP 8 (some 5) ?_
   refine done_ (done_of HT_.out (by kernel_rfl)) ?_
   try go_wp2
   simp only [jumps]
   go_ret2
   exact ⟨_, _, by first | rfl | (simp [errW_none, errW_some] <;> rfl) | (simp only [← hji3, ← hji9]; first | rfl | (simp [errW_none, errW_some] <;> rfl)) | (simp [*, errW_none, errW_some] <;> rfl), oM HO241.out (fun _ hk => hk.2), oM HO248.out (fun _ hk => hk.2), dB⟩
  ·try dsimp only at H
   cases k1 with
   | zero => exact absurd H (by simp [quot_long.l0])
   | succ k1 =>
    by_cases c16 : x15_1 < 0
    ·have c16b0 : decide (x15_1 < 0) = true := decide_eq_true c16
     have H' := aM H
     have C16 := aM c16
     clear H c16
     go_wp2
     with_reducible refine wp_goto ?_
     (try simp only [Exit.then])
     refine jumps_goto (fun a_ ha_ => ?_)
     exact ⟨k1, Nat.lt_succ_self _, .inl rfl, fun i => a_.tmps.getD i .nilIface, _, _, _, x13_1, x14_1, x16_1, x15_1, x6_, x7_, (by rw [ha_]; rfl), ⟨C16.out, H'.out⟩, ⟨dR HO_13.out⟩, ⟨dR HO_14.out⟩, ⟨dR HO_16.out⟩, ⟨dB⟩⟩
    ·simp only [quot_long.l0] at H
     rw [if_neg c16] at H
     have c16b0 := decide_eq_false c16
     clear c16
     obtain ⟨ji28, hji28⟩ : ∃ j_ : Int, (wrap64 (x15_1 + (l1.length : Int))) = j_ := ⟨_, rfl⟩
     first | rw [hji28] at H | simp only [hji28] at H
     have hji28w : (IntKind.i64.wrap (x15_1 + (l1.length : Int))) = ji28 := (i64_w _).trans hji28
     replace H := nO H
     obtain ⟨c29, H⟩ := H
     have c29b0 : decide (0 ≤ (ji28)) = true := decide_eq_true c29
     clear c29
     (first | rw [c29b0] | (simp only [i64_w, i32_w]; rw [c29b0]) | skip)
     replace H := nO H
     obtain ⟨c30, H⟩ := H
     have c30b0 := decide_eq_true c30
     clear c30
     obtain ⟨ji31, hji31⟩ : ∃ j_ : Int, (wrap64 ((l1.length : Int) - 1)) = j_ := ⟨_, rfl⟩
     first | rw [hji31] at H | simp only [hji31] at H
     have hji31w : (IntKind.i64.wrap ((l1.length : Int) - 1)) = ji31 := (i64_w _).trans hji31
     replace H := nO H
     obtain ⟨c32, H⟩ := H
     have c32b0 : decide (0 ≤ (ji31)) = true := decide_eq_true c32
     clear c32
     replace H := nO H
     obtain ⟨c33, H⟩ := H
     have c33b0 := decide_eq_true c33
     clear c33
     have HC34 := aM H
     clear H
     try go_wp2
     replace HO_13 := aM (Kd.R_drew HO_13.out)
     replace HO_14 := aM (Kd.R_drew HO_14.out)
     replace HO_16 := aM (Kd.R_drew HO_16.out)
     replace HB := aM (below_drew1 HB.out)
     obtain ⟨Ao36, co36, eo36⟩ := Kd.R_slice HO_14.out
     (first | subst eo36 | (injection eo36 with f1_ f2_ f3_; have f4_ := f1_.symm; have f5_ := f3_.symm; clear f1_ f2_ f3_; subst f4_; subst f5_))
     have p249 : 0 ≤ ((ji28) : Int) := of_decide_eq_true dS
     have q249 : (ji28) < (x14_1.length : Int) := of_decide_eq_true dS
     obtain ⟨ad249, e249, hx249_0⟩ := Kd.at_int (Kd.R_reads' HO_14.out).2.2 (ji28) p249 q249
     cases e249
     replace p249 := eq_true p249
     replace q249 := eq_true q249
     obtain ⟨Ao37, co37, eo37⟩ := Kd.R_slice HO_13.out
     (first | subst eo37 | (injection eo37 with f1_ f2_ f3_; have f4_ := f1_.symm; have f5_ := f3_.symm; clear f1_ f2_ f3_; subst f4_; subst f5_))
     have p250 : 0 ≤ ((ji31) : Int) := of_decide_eq_true dS
     have q250 : (ji31) < (x13_1.length : Int) := of_decide_eq_true dS
     obtain ⟨ad250, e250, hx250_0⟩ := Kd.at_int (Kd.R_reads' HO_13.out).2.2 (ji31) p250 q250
     cases e250
     replace p250 := eq_true p250
     replace q250 := eq_true q250
     refine start_ (n := 12) (S := fun w' => w'.cell? (ad249.add ((ji28)).toNat) = some (.int .u64 (rd x14_1 (ji28))) ∧ w'.cell? (ad250.add ((ji31)).toNat) = some (.int .u64 (rd x13_1 (ji31)))) (ds := []) #[false, false, false, false, false, false, false, false, false, false, false, false] (by kernel_rfl) rfl rfl ⟨hx249_0, hx250_0⟩ (fun hHeld => ?_); refine with_tabW quot_long.tab9 quot_long.bits9 (fun HT_ HW_ => ?_)
     generalize wr.drew = w35 at HO_13 HO_14 HO_16 HB hx249_0 hx250_0 hHeld ⊢
     refine pP 0 (some 45) ?_
     refine pP 1 (some 46) ?_
     refine pP 2 (some 47) ?_
     refine pP 3 (some 48) ?_
     refine pP 4 (some 49) ?_
     refine pP 6 (some 51) ?_
     refine pP 7 (some 52) ?_
     refine pP 8 (some 53) ?_
     refine pP 9 (some 54) ?_
     refine pH2 5 (some 50) hHeld ?_
     refine pH2 10 (some 55) hHeld ?_
     refine pP 11 (some 56) ?_
     refine done_ (done_of HT_.out (by kernel_rfl)) ?_
     go_upto_if 56 with (fail)
     have H := HC34.out
     clear HC34
     by_cases c38 : (rd x14_1 (ji28)) = (rd x13_1 (ji31))
     ·rw [if_pos c38] at H
      obtain ⟨c38b0, c38b1⟩ := bT c38
      clear c38
      (first | rw [c38b0] | (simp only [i64_w, i32_w]; rw [c38b0]) | skip)
      obtain ⟨ji39, hji39⟩ : ∃ j_ : Int, (wrap64 ((ji28) - 1)) = j_ := ⟨_, rfl⟩
      first | rw [hji39] at H | simp only [hji39] at H
      have hji39w : (IntKind.i64.wrap ((ji28) - 1)) = ji39 := (i64_w _).trans hji39
      replace H := nO H
      obtain ⟨c40, H⟩ := H
      have c40b0 : decide (0 ≤ (ji39)) = true := decide_eq_true c40
      clear c40
      replace H := nO H
      obtain ⟨c41, H⟩ := H
      have c41b0 := decide_eq_true c41
      clear c41
      replace H := oA H
      obtain ⟨⟨t253, t254⟩, A42, H⟩ := H
      (try dsimp only at H)
      by_cases c43 : t254 = 1
      ·rw [if_pos c43] at H
       obtain ⟨c43b0, c43b1⟩ := bT c43
       clear c43
       have H' := aM H
       clear H
       try go_wp2
       replace HO_13 := aM (Kd.R_drew HO_13.out)
       replace HO_14 := aM (Kd.R_drew HO_14.out)
       replace HO_16 := aM (Kd.R_drew HO_16.out)
       replace HB := aM (below_drew1 HB.out)
       have p251 : 0 ≤ ((ji39) : Int) := of_decide_eq_true dS
       have q251 : (ji39) < (x14_1.length : Int) := of_decide_eq_true dS
       obtain ⟨ad251, e251, hx251_0⟩ := Kd.at_int (Kd.R_reads' HO_14.out).2.2 (ji39) p251 q251
       obtain rfl : ad249 = ad251 := (by injection e251)
       replace p251 := eq_true p251
       replace q251 := eq_true q251
       have p252 : 0 ≤ ((ji31) : Int) := of_decide_eq_true dS
       have q252 : (ji31) < (x13_1.length : Int) := of_decide_eq_true dS
       obtain ⟨ad252, e252, hx252_0⟩ := Kd.at_int (Kd.R_reads' HO_13.out).2.2 (ji31) p252 q252
       obtain rfl : ad250 = ad252 := (by injection e252)
       replace p252 := eq_true p252
       replace q252 := eq_true q252
       refine start_ (n := 18) (S := fun w' => w'.cell? (ad249.add ((ji39)).toNat) = some (.int .u64 (rd x14_1 (ji39))) ∧ w'.cell? (ad250.add ((ji31)).toNat) = some (.int .u64 (rd x13_1 (ji31)))) (ds := []) #[false, false, false, false, false, false, false, false, false, false, false, false, false, false, false, false, false, false] (by kernel_rfl) rfl rfl ⟨hx251_0, hx252_0⟩ (fun hHeld => ?_); refine with_tabW quot_long.tab11 quot_long.bits11 (fun HT_ HW_ => ?_)
       generalize w35.drew = w44 at HO_13 HO_14 HO_16 HB hx251_0 hx252_0 hHeld ⊢
       refine pP 0 (some 58) ?_
       refine pP 1 (some 59) ?_
       refine pP 2 (some 60) ?_
       refine pP 3 (some 61) ?_
       refine pP 4 (some 62) ?_
       refine pP 5 (some 63) ?_
       refine pP 7 (some 65) ?_
       refine pP 8 (some 66) ?_
       refine pP 9 (some 67) ?_
       refine pP 10 (some 68) ?_
       refine pH2 6 (some 64) hHeld ?_
       refine pH2 11 (some 69) hHeld ?_
       refine one_ (i := 12) (N := some 70) #[true, true, true, true, true, true, true, true, true, true, true, true, true, false, false, false, false, false] rfl rfl (one_of HT_.out (by kernel_rfl)) (by decide) (fun K hK => ?_)
       refine goes_ Try.func61 (by kernel_rfl) rfl #[.int .u64 (rd x14_1 (ji39)), .int .u64 (rd x13_1 (ji31)), .int .u64 0] (by rfl) rfl rfl (by (try simp only [List.map_toArray, List.map_cons, List.map_nil]); first | done | (simp only [hji31, hji39]; rfl) | rfl | (simp only [List.length_drop, List.length_take]; rfl)) ?_
       with_reducible refine (wide_Add.calls (rd x14_1 (ji39)) (rd x13_1 (ji31)) 0 t253 t254 _ A42.out).mono ?_
       rintro e w' ⟨rfl, ⟨nd, rfl⟩⟩
       refine ⟨_, rfl, ?_⟩
       refine hK.out _ _ ⟨hHeld.1, hHeld.2⟩ (fun hHeld => ?_)
       clear hK K
       refine norm_ (a' := ?_) ?_ ?_
       rotate_left
       ·show Act.put _ (some 70) _ = _
        simp only [Act.put, List.setIfInBounds_toArray, List.set_cons_zero, List.set_cons_succ, i64_w, i32_w]
        rfl
       refine pP 13 (some 57) ?_
       refine pP 14 (some 71) ?_
       refine pP 15 (some 72) ?_
       refine pP 16 (some 7) ?_
       refine pP 17 (some 8) ?_
       refine done_ (done_of HT_.out (by kernel_rfl)) ?_
       try go_wp2
       with_reducible refine wp_goto ?_
       (try simp only [Exit.then])
       refine jumps_goto (fun a_ ha_ => ?_)
       exact ⟨k1, Nat.lt_succ_self _, .inr (.inr (.inl rfl)), fun i => a_.tmps.getD i .nilIface, _, _, _, x13_1, x14_1, x16_1, x15_1, 18446744073709551615, t253, (by rw [ha_]; rfl), H'.out, ⟨dR HO_13.out⟩, ⟨dR HO_14.out⟩, ⟨dR HO_16.out⟩, ⟨dB⟩⟩
      ·rw [if_neg c43] at H
       obtain ⟨c43b0, c43b1⟩ := bF c43
       have H' := aM H
       clear H
       try go_wp2
       replace HO_13 := aM (Kd.R_drew HO_13.out)
       replace HO_14 := aM (Kd.R_drew HO_14.out)
       replace HO_16 := aM (Kd.R_drew HO_16.out)
       replace HB := aM (below_drew1 HB.out)
       have p251 : 0 ≤ ((ji39) : Int) := of_decide_eq_true dS
       have q251 : (ji39) < (x14_1.length : Int) := of_decide_eq_true dS
       obtain ⟨ad251, e251, hx251_0⟩ := Kd.at_int (Kd.R_reads' HO_14.out).2.2 (ji39) p251 q251
       obtain rfl : ad249 = ad251 := (by injection e251)
       replace p251 := eq_true p251
       replace q251 := eq_true q251
       have p252 : 0 ≤ ((ji31) : Int) := of_decide_eq_true dS
       have q252 : (ji31) < (x13_1.length : Int) := of_decide_eq_true dS
       obtain ⟨ad252, e252, hx252_0⟩ := Kd.at_int (Kd.R_reads' HO_13.out).2.2 (ji31) p252 q252
       obtain rfl : ad250 = ad252 := (by injection e252)
       replace p252 := eq_true p252
       replace q252 := eq_true q252
       refine start_ (n := 18) (S := fun w' => w'.cell? (ad249.add ((ji39)).toNat) = some (.int .u64 (rd x14_1 (ji39))) ∧ w'.cell? (ad250.add ((ji31)).toNat) = some (.int .u64 (rd x13_1 (ji31)))) (ds := []) #[false, false, false, false, false, false, false, false, false, false, false, false, false, false, false, false, false, false] (by kernel_rfl) rfl rfl ⟨hx251_0, hx252_0⟩ (fun hHeld => ?_); refine with_tabW quot_long.tab11 quot_long.bits11 (fun HT_ HW_ => ?_)
       generalize w35.drew = w45 at HO_13 HO_14 HO_16 HB hx251_0 hx252_0 hHeld ⊢
       refine pP 0 (some 58) ?_
       refine pP 1 (some 59) ?_
       refine pP 2 (some 60) ?_
       refine pP 3 (some 61) ?_
       refine pP 4 (some 62) ?_
       refine pP 5 (some 63) ?_
       refine pP 7 (some 65) ?_
       refine pP 8 (some 66) ?_
       refine pP 9 (some 67) ?_
       refine pP 10 (some 68) ?_
       refine pH2 6 (some 64) hHeld ?_
       refine pH2 11 (some 69) hHeld ?_
       refine one_ (i := 12) (N := some 70) #[true, true, true, true, true, true, true, true, true, true, true, true, true, false, false, false, false, false] rfl rfl (one_of HT_.out (by kernel_rfl)) (by decide) (fun K hK => ?_)
       refine goes_ Try.func61 (by kernel_rfl) rfl #[.int .u64 (rd x14_1 (ji39)), .int .u64 (rd x13_1 (ji31)), .int .u64 0] (by rfl) rfl rfl (by (try simp only [List.map_toArray, List.map_cons, List.map_nil]); first | done | (simp only [hji31, hji39]; rfl) | rfl | (simp only [List.length_drop, List.length_take]; rfl)) ?_
       with_reducible refine (wide_Add.calls (rd x14_1 (ji39)) (rd x13_1 (ji31)) 0 t253 t254 _ A42.out).mono ?_
       rintro e w' ⟨rfl, ⟨nd, rfl⟩⟩
       refine ⟨_, rfl, ?_⟩
       refine hK.out _ _ ⟨hHeld.1, hHeld.2⟩ (fun hHeld => ?_)
       clear hK K
       refine norm_ (a' := ?_) ?_ ?_
       rotate_left
       ·show Act.put _ (some 70) _ = _
        simp only [Act.put, List.setIfInBounds_toArray, List.set_cons_zero, List.set_cons_succ, i64_w, i32_w]
        rfl
       refine pP 13 (some 57) ?_
       refine pP 14 (some 71) ?_
       refine pP 15 (some 72) ?_
       refine pP 16 (some 7) ?_
       refine pP 17 (some 8) ?_
       refine done_ (done_of HT_.out (by kernel_rfl)) ?_
       try go_wp2
       obtain ⟨k2, hk2, H2⟩ := long_j1 H'.out
       refine wp_label ?_
       (try simp only [Exit.then])
       rename_i hK_
       refine hK_ _ _ ?_
       refine wp_at (fun a_ ha_ => ?_)
       exact fall 3 k2 a_ _ (Nat.lt_succ_of_lt hk2) ⟨.inr (.inr (.inr rfl)), fun i => a_.tmps.getD i .nilIface, _, _, _, x13_1, x14_1, x16_1, x15_1, 18446744073709551615, t253, (by rw [ha_]; rfl), H2, ⟨dR HO_13.out⟩, ⟨dR HO_14.out⟩, ⟨dR HO_16.out⟩, ⟨dB⟩⟩
     ·rw [if_neg c38] at H
      obtain ⟨c38b0, c38b1⟩ := bF c38
      (first | rw [c38b0] | (simp only [i64_w, i32_w]; rw [c38b0]) | skip)
      obtain ⟨ji46, hji46⟩ : ∃ j_ : Int, (wrap64 ((ji28) - 1)) = j_ := ⟨_, rfl⟩
      first | rw [hji46] at H | simp only [hji46] at H
      have hji46w : (IntKind.i64.wrap ((ji28) - 1)) = ji46 := (i64_w _).trans hji46
      replace H := nO H
      obtain ⟨c47, H⟩ := H
      have c47b0 : decide (0 ≤ (ji46)) = true := decide_eq_true c47
      clear c47
      replace H := nO H
      obtain ⟨c48, H⟩ := H
      have c48b0 := decide_eq_true c48
      clear c48
      replace H := oA H
      obtain ⟨⟨t258, t259, t260⟩, A49, H⟩ := H
      (try dsimp only at H)
      have H' := aM H
      clear H
      try go_wp2
      replace HO_13 := aM (Kd.R_drew HO_13.out)
      replace HO_14 := aM (Kd.R_drew HO_14.out)
      replace HO_16 := aM (Kd.R_drew HO_16.out)
      replace HB := aM (below_drew1 HB.out)
      have p255 : 0 ≤ ((ji28) : Int) := of_decide_eq_true dS
      have q255 : (ji28) < (x14_1.length : Int) := of_decide_eq_true dS
      obtain ⟨ad255, e255, hx255_0⟩ := Kd.at_int (Kd.R_reads' HO_14.out).2.2 (ji28) p255 q255
      obtain rfl : ad249 = ad255 := (by injection e255)
      replace p255 := eq_true p255
      replace q255 := eq_true q255
      have p256 : 0 ≤ ((ji46) : Int) := of_decide_eq_true dS
      have q256 : (ji46) < (x14_1.length : Int) := of_decide_eq_true dS
      obtain ⟨ad256, e256, hx256_0⟩ := Kd.at_int (Kd.R_reads' HO_14.out).2.2 (ji46) p256 q256
      obtain rfl : ad249 = ad256 := (by injection e256)
      replace p256 := eq_true p256
      replace q256 := eq_true q256
      have p257 : 0 ≤ ((ji31) : Int) := of_decide_eq_true dS
      have q257 : (ji31) < (x13_1.length : Int) := of_decide_eq_true dS
      obtain ⟨ad257, e257, hx257_0⟩ := Kd.at_int (Kd.R_reads' HO_13.out).2.2 (ji31) p257 q257
      obtain rfl : ad250 = ad257 := (by injection e257)
      replace p257 := eq_true p257
      replace q257 := eq_true q257
      refine start_ (n := 25) (S := fun w' => w'.cell? (ad249.add ((ji28)).toNat) = some (.int .u64 (rd x14_1 (ji28))) ∧ w'.cell? (ad249.add ((ji46)).toNat) = some (.int .u64 (rd x14_1 (ji46))) ∧ w'.cell? (ad250.add ((ji31)).toNat) = some (.int .u64 (rd x13_1 (ji31)))) (ds := []) #[false, false, false, false, false, false, false, false, false, false, false, false, false, false, false, false, false, false, false, false, false, false, false, false, false] (by kernel_rfl) rfl rfl ⟨hx255_0, hx256_0, hx257_0⟩ (fun hHeld => ?_); refine with_tabW quot_long.tab13 quot_long.bits13 (fun HT_ HW_ => ?_)
      generalize w35.drew = w50 at HO_13 HO_14 HO_16 HB hx255_0 hx256_0 hx257_0 hHeld ⊢
      refine pP 0 (some 76) ?_
      refine pP 1 (some 77) ?_
      refine pP 2 (some 78) ?_
      refine pP 3 (some 79) ?_
      refine pP 4 (some 80) ?_
      refine pP 6 (some 82) ?_
      refine pP 7 (some 83) ?_
      refine pP 8 (some 84) ?_
      refine pP 9 (some 85) ?_
      refine pP 10 (some 86) ?_
      refine pP 11 (some 87) ?_
      refine pP 13 (some 89) ?_
      refine pP 14 (some 90) ?_
      refine pP 15 (some 91) ?_
      refine pP 16 (some 92) ?_
      refine pH3 5 (some 81) hHeld ?_
      refine pH3 12 (some 88) hHeld ?_
      refine pH3 17 (some 93) hHeld ?_
      refine one_ (i := 18) (N := some 94) #[true, true, true, true, true, true, true, true, true, true, true, true, true, true, true, true, true, true, true, false, false, false, false, false, false] rfl rfl (one_of HT_.out (by kernel_rfl)) (by decide) (fun K hK => ?_)
      refine goes_ Try.func62 (by kernel_rfl) rfl #[.int .u64 (rd x14_1 (ji28)), .int .u64 (rd x14_1 (ji46)), .int .u64 (rd x13_1 (ji31))] (by rfl) rfl rfl (by (try simp only [List.map_toArray, List.map_cons, List.map_nil]); first | done | (simp only [hji28, hji31, hji46]; rfl) | rfl | (simp only [List.length_drop, List.length_take]; rfl)) ?_
      with_reducible refine (wide_Div.calls (rd x14_1 (ji28)) (rd x14_1 (ji46)) (rd x13_1 (ji31)) t258 t259 t260 _ A49.out).mono ?_
      rintro e w51 ⟨rfl, hb⟩
      have HS0_ := (hb.cell (World.block_lt_of_cell? _ _ (hHeld.1))).trans (hHeld.1)
      have HS1_ := (hb.cell (World.block_lt_of_cell? _ _ (hHeld.2.1))).trans (hHeld.2.1)
      have HS2_ := (hb.cell (World.block_lt_of_cell? _ _ (hHeld.2.2))).trans (hHeld.2.2)
      refine ⟨_, rfl, ?_⟩
      replace HO_13 := oB HO_13.out hb
      replace HO_14 := oB HO_14.out hb
      replace HO_16 := oB HO_16.out hb
      replace HB := hS HB.out hb
      (try clear hb)
      (try clear hb2)
      (try clear hk)
      (try clear hi)
      refine hK.out _ _ ⟨HS0_, HS1_, HS2_⟩ (fun hHeld => ?_)
      clear hK K
      refine norm_ (a' := ?_) ?_ ?_
      rotate_left
      ·show Act.put _ (some 94) _ = _
       simp only [Act.put, List.setIfInBounds_toArray, List.set_cons_zero, List.set_cons_succ, i64_w, i32_w]
       rfl
      refine pP 19 (some 75) ?_
      refine pP 20 (some 95) ?_
      refine pP 21 (some 96) ?_
      refine pP 22 (some 97) ?_
      refine pP 23 (some 6) ?_
      refine pP 24 (some 7) ?_
      refine done_ (done_of HT_.out (by kernel_rfl)) ?_
      try go_wp2
      obtain ⟨k2, hk2, H2⟩ := long_j1 H'.out
      refine wp_label ?_
      (try simp only [Exit.then])
      rename_i hK_
      refine hK_ _ _ ?_
      refine wp_at (fun a_ ha_ => ?_)
      exact fall 3 k2 a_ _ (Nat.lt_succ_of_lt hk2) ⟨.inr (.inr (.inr rfl)), fun i => a_.tmps.getD i .nilIface, _, _, _, x13_1, x14_1, x16_1, x15_1, t258, t259, (by rw [ha_]; rfl), H2, ⟨dR HO_13.out⟩, ⟨dR HO_14.out⟩, ⟨dR HO_16.out⟩, ⟨dB⟩⟩
  ·try dsimp only at H
   cases k1 with
   | zero => exact absurd H (by simp [quot_long.j3])
   | succ kj26 =>
    simp only [quot_long.j3] at H
    replace H := oA H
    obtain ⟨⟨t269, t270⟩, A69, H⟩ := H
    (try dsimp only at H)
    have hin := long_takeAt_in A69.out
    obtain ⟨g14, co14, eo14, gb14, gl14, cl14, HG14⟩ := Kd.R_form HO_14.out (by omega)
    clear HG14 gb14 gl14
    subst eo14
    obtain ⟨i022, hi022, _, hsz22, _⟩ := info_parts info44
    have hroom14 := (Kd.R_reads' HO_14.out).2.1
    have hsz14 : (x15_1 + (l1.length : Int) + 1).toNat - x15_1.toNat = (l1.length : Int).toNat + 1 := by have h1_ := hin.1; clear hin; omega
    have hcut14 := long_cut (P := Try.prog) 22 44 Try.underlying22 hi022 hsz22 g14 x14_1.length co14 x15_1 (l1.length : Int) hin.1 (Int.natCast_nonneg _) hin.2.1 hroom14 hin.2.2
    by_cases c70 : t269 = true
    ·subst c70
     rw [if_pos rfl] at H
     (try dsimp only at H)
     replace H := oA H
     obtain ⟨t271, A71, H⟩ := H
     (try dsimp only at H)
     replace H := nO H
     obtain ⟨c72, H⟩ := H
     have c72b0 : decide (0 ≤ x15_1) = true := decide_eq_true c72
     clear c72
     replace H := nO H
     obtain ⟨c73, H⟩ := H
     have c73b0 := decide_eq_true c73
     clear c73
     obtain ⟨y272, hy272⟩ : ∃ y_ : List Int, y_ = (x16_1.set (x15_1 : Int).toNat (IntKind.u64.wrap (x6_ - 1))) := ⟨_, rfl⟩
     replace H : (quot_long.l0 kj26 (l1.length : Int) (wrap64 (64 - t229)) x13_1 t271 (wrap64 (x15_1 - 1)) y272) = some (r1, r2) := by first | (rw [hy272]; with_reducible exact H) | (have H2_ := (Option.bind_some _ _).symm.trans H; rw [hy272]; with_reducible exact H2_) | (have H2_ := (Option.bind_some _ _).symm.trans H; with_reducible exact H2_) | with_reducible exact H | (rw [hy272]; exact H) | exact H
     have Ny272 := aM hy272
     clear hy272
     have H' := aM H
     clear H
     obtain ⟨Ao76, co76, rfl⟩ := Kd.R_slice HO_13.out
     go_wp2_with (first | ((with_reducible refine gate_callee (f := 65) rfl ?_); refine goesL_ (some 143) rfl rfl Try.func65 (by kernel_rfl) rfl #[.slice (some ⟨g14, x15_1.toNat, none⟩) ((l1.length : Int).toNat + 1) (co14 - x15_1.toNat), .slice Ao76 x13_1.length co76, .int .u64 x6_] rfl (by (try simp only [List.map_toArray, List.map_cons, List.map_nil]); first | done | rfl | (simp only [hsz14]; rfl) | (simp only [List.length_drop, List.length_take]; rfl)) ?_; (with_reducible refine (quot_takeAt.calls kj26 (fun k_ => some k_ = (.slice (some ⟨g14, 0, none⟩) x14_1.length co14 : Value).ownBlock) g14 x14_1.length co14 x14_1 x15_1 (l1.length : Int) _ _ x13_1 x6_ true t270 w _ ?side1 ?side2 ?side3 (Kd.R_reads' HO_13.out).2.1 A69.out).mono ?_); (case side1 => repeat (first | (with_reducible first | exact HB.out | apply below_alloc | apply pw_below_drewN | apply below_drew1) | exact HB.out)); (case side2 => exact Kd.R_tight rfl HO_14.out); (case side3 => exact Kd.C_kept_own (HO_13.out) (fun k_ hk_ hs_ => (hk_.1) hs_)); rintro e w77 ⟨rfl, hy0, hb, hkp, hlen_⟩; refine ⟨_, rfl, ?_⟩; replace HO_13 := aM (Kd.R_mono (ok' := fun k_ => some k_ ≠ (.slice (some ⟨g14, 0, none⟩) x14_1.length co14 : Value).ownBlock ∧ some k_ ≠ (v237 : Value).ownBlock) (Kd.R_keptB (HO_13.out) hkp (fun k_ hk_ hs_ => (hk_.1) hs_)) (fun k_ hk_ => ⟨hk_.1.1, hk_.1.2⟩)); replace HO_14 := aM (Kd.R_reok rfl hy0 (fun k_ e_ => HO_14.out.1 k_ e_)); replace HO_16 := aM (Kd.R_mono (ok' := fun k_ => oN Ao76 x13_1 co76 k_ ∧ some k_ ≠ (.slice (some ⟨g14, 0, none⟩) x14_1.length co14 : Value).ownBlock) (Kd.R_keptB (HO_16.out) hkp (fun k_ hk_ hs_ => (hk_.2) hs_)) (fun k_ hk_ => ⟨hk_.1.1, hk_.1.2⟩)); replace HB := aM (hb); (try clear hb); (try clear hkp); (try clear hy0)) | ((with_reducible refine gate_callee (f := 66) rfl ?_); refine goesL_ (some 154) rfl rfl Try.func66 (by kernel_rfl) rfl #[.slice (some ⟨g14, x15_1.toNat, none⟩) ((l1.length : Int).toNat + 1) (co14 - x15_1.toNat), .slice Ao76 x13_1.length co76] rfl (by (try simp only [List.map_toArray, List.map_cons, List.map_nil]); first | done | rfl | (simp only [hsz14]; rfl) | (simp only [List.length_drop, List.length_take]; rfl)) ?_; (with_reducible refine (quot_giveAt.calls kj26 (fun k_ => some k_ = (.slice (some ⟨g14, 0, none⟩) x14_1.length co14 : Value).ownBlock) g14 x14_1.length co14 t270 x15_1 (l1.length : Int) _ _ x13_1 t271 w _ ?side1 ?side2 ?side3 (Kd.R_reads' HO_13.out).2.1 A71.out).mono ?_); (case side1 => repeat (first | (with_reducible first | exact HB.out | apply below_alloc | apply pw_below_drewN | apply below_drew1) | exact HB.out)); (case side2 => exact Kd.R_tight rfl HO_14.out); (case side3 => exact Kd.C_kept_own (HO_13.out) (fun k_ hk_ hs_ => (hk_.1) hs_)); rintro e w78 ⟨rfl, hy0, hb, hkp, hlen_⟩; refine ⟨_, rfl, ?_⟩; replace HO_13 := aM (Kd.R_mono (ok' := fun k_ => some k_ ≠ (.slice (some ⟨g14, 0, none⟩) x14_1.length co14 : Value).ownBlock ∧ some k_ ≠ (v237 : Value).ownBlock) (Kd.R_keptB (HO_13.out) hkp (fun k_ hk_ hs_ => (hk_.1) hs_)) (fun k_ hk_ => ⟨hk_.1.1, hk_.1.2⟩)); replace HO_14 := aM (Kd.R_reok rfl hy0 (fun k_ e_ => HO_14.out.1 k_ e_)); replace HO_16 := aM (Kd.R_mono (ok' := fun k_ => oN Ao76 x13_1 co76 k_ ∧ some k_ ≠ (.slice (some ⟨g14, 0, none⟩) x14_1.length co14 : Value).ownBlock) (Kd.R_keptB (HO_16.out) hkp (fun k_ hk_ hs_ => (hk_.2) hs_)) (fun k_ hk_ => ⟨hk_.1.1, hk_.1.2⟩)); replace HB := aM (hb); (try clear hb); (try clear hkp); (try clear hy0); have p74 : 0 ≤ (x15_1 : Int) := of_decide_eq_true dS; have q74 : (x15_1 : Int) < ((x16_1.length : Int) : Int) := of_decide_eq_true dS; obtain ⟨go74, co74, eo74, gb74, gl74, cl74, HG74⟩ := Kd.R_form HO_16.out (by omega); (first | cases eo74 | (injection eo74 with ea_ en_ ec_; (first | subst ea_ | (injection ea_ with ea_; subst ea_)); subst ec_; clear en_)); have GB74 := aM gb74; have GG74 := aM HG74; clear gb74 gl74 HG74; obtain ⟨hx74_0, hf74_0⟩ := Kd.R_celln 0 HO_16.out (x15_1 : Int) p74 q74; replace p74 := eq_true p74; replace q74 := eq_true q74; obtain ⟨hy79_, hz79_⟩ := Kd.R_celln 0 HO_16.out (x15_1 : Int) (of_decide_eq_true dS) (of_decide_eq_true dS); have HP79 := Kd.R_putg HO_16.out (x15_1 : Int) (IntKind.u64.wrap (x6_ - 1))) | ((with_reducible refine gate_store (t := 44) (p := 158) rfl ?_); refine store_event (t := 44) (p := 158) (v := ?vo_w80) (w1 := (w78.setCell ⟨go74, (x15_1 : Int).toNat, none⟩ (.int .u64 (IntKind.u64.wrap (x6_ - 1))))) ?hg ?ho ?hn ?hr ?_; (case ho => rfl); (case hg => rfl); (case hn => rfl); (case hr => first | (go_simp; done) | (go_simp; rfl)); intro w80 hw; have hg : w78.grownBy w80 (some go74) := (by rw [hw]; exact HP79.2); have hp_ : Kd.R (Kd.int .u64) 44 w80 w.heap.size (fun k_ => oN Ao76 x13_1 co76 k_ ∧ some k_ ≠ (.slice (some ⟨g14, 0, none⟩) x14_1.length co14 : Value).ownBlock) (.slice (some ⟨go74, 0, none⟩) x16_1.length co74) y272 := (by rw [hw, Ny272.out]; exact HP79.1); clear HP79; replace HO_13 := aM (Kd.R_after (v := (.slice (some ⟨go74, 0, none⟩) x16_1.length co74)) (v1 := (.slice (some ⟨go74, 0, none⟩) x16_1.length co74)) (ok := (fun k_ => some k_ ≠ (.slice (some ⟨g14, 0, none⟩) x14_1.length co14 : Value).ownBlock)) (dR HO_13.out) hg (.inl rfl)); replace HO_14 := aM (Kd.R_after (v := (.slice (some ⟨go74, 0, none⟩) x16_1.length co74)) (v1 := (.slice (some ⟨go74, 0, none⟩) x16_1.length co74)) (ok := (fun k_ => oN Ao76 x13_1 co76 k_)) (dR HO_14.out) hg (.inl rfl)); replace HO_16 := aM (hp_); replace HB := aM ((by rw [hw]; exact below_set (HB.out) GB74.out : Below w.heap.size w w80)); clear hg hw hp_))
     with_reducible refine wp_goto ?_; (try simp only [Exit.then]); refine jumps_goto (fun a_ ha_ => ?_)
     exact ⟨kj26, Nat.lt_succ_self _, .inr (.inl rfl), fun i => a_.tmps.getD i .nilIface, _, _, _, x13_1, t271, y272, wrap64 (x15_1 - 1), (IntKind.u64.wrap (x6_ - 1)), x7_, (by rw [ha_]; rfl), H'.out, ⟨dR HO_13.out⟩, ⟨dR HO_14.out⟩, ⟨dR HO_16.out⟩, ⟨dB⟩⟩
    ·replace c70 := Bool.eq_false_iff.mpr c70
     subst c70
     rw [if_neg (show ¬ (false = true) by decide)] at H
     (try dsimp only at H)
     replace H := nO H
     obtain ⟨c81, H⟩ := H
     have c81b0 : decide (0 ≤ x15_1) = true := decide_eq_true c81
     clear c81
     replace H := nO H
     obtain ⟨c82, H⟩ := H
     have c82b0 := decide_eq_true c82
     clear c82
     obtain ⟨y273, hy273⟩ : ∃ y_ : List Int, y_ = (x16_1.set (x15_1 : Int).toNat x6_) := ⟨_, rfl⟩
     replace H : (quot_long.l0 kj26 (l1.length : Int) (wrap64 (64 - t229)) x13_1 t270 (wrap64 (x15_1 - 1)) y273) = some (r1, r2) := by first | (rw [hy273]; with_reducible exact H) | (have H2_ := (Option.bind_some _ _).symm.trans H; rw [hy273]; with_reducible exact H2_) | (have H2_ := (Option.bind_some _ _).symm.trans H; with_reducible exact H2_) | with_reducible exact H | (rw [hy273]; exact H) | exact H
     have Ny273 := aM hy273
     clear hy273
     have H' := aM H
     clear H
     obtain ⟨Ao85, co85, rfl⟩ := Kd.R_slice HO_13.out
     go_wp2_with (first | ((with_reducible refine gate_callee (f := 65) rfl ?_); refine goesL_ (some 143) rfl rfl Try.func65 (by kernel_rfl) rfl #[.slice (some ⟨g14, x15_1.toNat, none⟩) ((l1.length : Int).toNat + 1) (co14 - x15_1.toNat), .slice Ao85 x13_1.length co85, .int .u64 x6_] rfl (by (try simp only [List.map_toArray, List.map_cons, List.map_nil]); first | done | rfl | (simp only [hsz14]; rfl) | (simp only [List.length_drop, List.length_take]; rfl)) ?_; (with_reducible refine (quot_takeAt.calls kj26 (fun k_ => some k_ = (.slice (some ⟨g14, 0, none⟩) x14_1.length co14 : Value).ownBlock) g14 x14_1.length co14 x14_1 x15_1 (l1.length : Int) _ _ x13_1 x6_ false t270 w _ ?side1 ?side2 ?side3 (Kd.R_reads' HO_13.out).2.1 A69.out).mono ?_); (case side1 => repeat (first | (with_reducible first | exact HB.out | apply below_alloc | apply pw_below_drewN | apply below_drew1) | exact HB.out)); (case side2 => exact Kd.R_tight rfl HO_14.out); (case side3 => exact Kd.C_kept_own (HO_13.out) (fun k_ hk_ hs_ => (hk_.1) hs_)); rintro e w86 ⟨rfl, hy0, hb, hkp, hlen_⟩; refine ⟨_, rfl, ?_⟩; replace HO_13 := aM (Kd.R_mono (ok' := fun k_ => some k_ ≠ (.slice (some ⟨g14, 0, none⟩) x14_1.length co14 : Value).ownBlock ∧ some k_ ≠ (v237 : Value).ownBlock) (Kd.R_keptB (HO_13.out) hkp (fun k_ hk_ hs_ => (hk_.1) hs_)) (fun k_ hk_ => ⟨hk_.1.1, hk_.1.2⟩)); replace HO_14 := aM (Kd.R_reok rfl hy0 (fun k_ e_ => HO_14.out.1 k_ e_)); replace HO_16 := aM (Kd.R_mono (ok' := fun k_ => oN Ao85 x13_1 co85 k_ ∧ some k_ ≠ (.slice (some ⟨g14, 0, none⟩) x14_1.length co14 : Value).ownBlock) (Kd.R_keptB (HO_16.out) hkp (fun k_ hk_ hs_ => (hk_.2) hs_)) (fun k_ hk_ => ⟨hk_.1.1, hk_.1.2⟩)); replace HB := aM (hb); (try clear hb); (try clear hkp); (try clear hy0); have p83 : 0 ≤ (x15_1 : Int) := of_decide_eq_true dS; have q83 : (x15_1 : Int) < ((x16_1.length : Int) : Int) := of_decide_eq_true dS; obtain ⟨go83, co83, eo83, gb83, gl83, cl83, HG83⟩ := Kd.R_form HO_16.out (by omega); (first | cases eo83 | (injection eo83 with ea_ en_ ec_; (first | subst ea_ | (injection ea_ with ea_; subst ea_)); subst ec_; clear en_)); have GB83 := aM gb83; have GG83 := aM HG83; clear gb83 gl83 HG83; obtain ⟨hx83_0, hf83_0⟩ := Kd.R_celln 0 HO_16.out (x15_1 : Int) p83 q83; replace p83 := eq_true p83; replace q83 := eq_true q83; obtain ⟨hy87_, hz87_⟩ := Kd.R_celln 0 HO_16.out (x15_1 : Int) (of_decide_eq_true dS) (of_decide_eq_true dS); have HP87 := Kd.R_putg HO_16.out (x15_1 : Int) x6_) | ((with_reducible refine gate_store (t := 44) (p := 158) rfl ?_); refine store_event (t := 44) (p := 158) (v := ?vo_w88) (w1 := (w86.setCell ⟨go83, (x15_1 : Int).toNat, none⟩ (.int .u64 x6_))) ?hg ?ho ?hn ?hr ?_; (case ho => rfl); (case hg => rfl); (case hn => rfl); (case hr => first | (go_simp; done) | (go_simp; rfl)); intro w88 hw; have hg : w86.grownBy w88 (some go83) := (by rw [hw]; exact HP87.2); have hp_ : Kd.R (Kd.int .u64) 44 w88 w.heap.size (fun k_ => oN Ao85 x13_1 co85 k_ ∧ some k_ ≠ (.slice (some ⟨g14, 0, none⟩) x14_1.length co14 : Value).ownBlock) (.slice (some ⟨go83, 0, none⟩) x16_1.length co83) y273 := (by rw [hw, Ny273.out]; exact HP87.1); clear HP87; replace HO_13 := aM (Kd.R_after (v := (.slice (some ⟨go83, 0, none⟩) x16_1.length co83)) (v1 := (.slice (some ⟨go83, 0, none⟩) x16_1.length co83)) (ok := (fun k_ => some k_ ≠ (.slice (some ⟨g14, 0, none⟩) x14_1.length co14 : Value).ownBlock)) (dR HO_13.out) hg (.inl rfl)); replace HO_14 := aM (Kd.R_after (v := (.slice (some ⟨go83, 0, none⟩) x16_1.length co83)) (v1 := (.slice (some ⟨go83, 0, none⟩) x16_1.length co83)) (ok := (fun k_ => oN Ao85 x13_1 co85 k_)) (dR HO_14.out) hg (.inl rfl)); replace HO_16 := aM (hp_); replace HB := aM ((by rw [hw]; exact below_set (HB.out) GB83.out : Below w.heap.size w w88)); clear hg hw hp_))
     with_reducible refine wp_goto ?_; (try simp only [Exit.then]); refine jumps_goto (fun a_ ha_ => ?_)
     exact ⟨kj26, Nat.lt_succ_self _, .inr (.inl rfl), fun i => a_.tmps.getD i .nilIface, _, _, _, x13_1, t270, y273, wrap64 (x15_1 - 1), x6_, x7_, (by rw [ha_]; rfl), H'.out, ⟨dR HO_13.out⟩, ⟨dR HO_14.out⟩, ⟨dR HO_16.out⟩, ⟨dB⟩⟩
  ·try dsimp only at H
   cases k1 with
   | zero => exact absurd H (by simp [quot_long.l1])
   | succ k3 =>
    simp only [quot_long.l1] at H
    obtain ⟨ji52, hji52⟩ : ∃ j_ : Int, (wrap64 ((l1.length : Int) - 2)) = j_ := ⟨_, rfl⟩
    first | rw [hji52] at H | simp only [hji52] at H
    have hji52w : (IntKind.i64.wrap ((l1.length : Int) - 2)) = ji52 := (i64_w _).trans hji52
    replace H := nO H
    obtain ⟨c53, H⟩ := H
    have c53b0 : decide (0 ≤ (ji52)) = true := decide_eq_true c53
    clear c53
    replace H := nO H
    obtain ⟨c54, H⟩ := H
    have c54b0 := decide_eq_true c54
    clear c54
    replace H := oA H
    obtain ⟨⟨t262, t263⟩, A55, H⟩ := H
    (try dsimp only at H)
    obtain ⟨ji56, hji56⟩ : ∃ j_ : Int, (wrap64 ((wrap64 (x15_1 + (l1.length : Int))) - 2)) = j_ := ⟨_, rfl⟩
    first | rw [hji56] at H | simp only [hji56] at H
    (try rw [hji56] at A55)
    have hji56w : (IntKind.i64.wrap ((wrap64 (x15_1 + (l1.length : Int))) - 2)) = ji56 := (i64_w _).trans hji56
    replace H := nO H
    obtain ⟨c57, H⟩ := H
    have c57b0 : decide (0 ≤ (ji56)) = true := decide_eq_true c57
    clear c57
    replace H := nO H
    obtain ⟨c58, H⟩ := H
    have c58b0 := decide_eq_true c58
    clear c58
    replace H := oA H
    obtain ⟨t265, A59, H⟩ := H
    (try dsimp only at H)
    have pa_ : 0 ≤ ji52 := of_decide_eq_true c53b0
    have qa_ : ji52 < (x13_1.length : Int) := of_decide_eq_true c54b0
    have pb_ : 0 ≤ ji56 := of_decide_eq_true c57b0
    have qb_ : ji56 < (x14_1.length : Int) := of_decide_eq_true c58b0
    obtain ⟨Ao13, co13, rfl⟩ := Kd.R_slice HO_13.out
    obtain ⟨ad250, e250, hy_⟩ := Kd.at_int (Kd.R_reads' HO_13.out).2.2 (ji52) pa_ qa_
    cases e250
    clear hy_
    obtain ⟨Ao14, co14, rfl⟩ := Kd.R_slice HO_14.out
    obtain ⟨ad249, e249, hy_⟩ := Kd.at_int (Kd.R_reads' HO_14.out).2.2 (ji56) pb_ qb_
    cases e249
    clear hy_ pa_ qa_ pb_ qb_
    by_cases c60 : t265 ≤ 0
    ·rw [if_pos c60] at H
     have c60b0 := decide_eq_true c60
     clear c60
     have H' := aM H
     clear H
     have p261 : 0 ≤ ((ji52) : Int) := of_decide_eq_true dS
     have q261 : (ji52) < (x13_1.length : Int) := of_decide_eq_true dS
     obtain ⟨ad261, e261, hx261_0⟩ := Kd.at_int (Kd.R_reads' HO_13.out).2.2 (ji52) p261 q261
     obtain rfl : ad250 = ad261 := (by injection e261)
     replace p261 := eq_true p261
     replace q261 := eq_true q261
     go_wp2_with (first | ((with_reducible refine gate_callee (f := 60) rfl ?_); refine goesL_ (some 105) rfl rfl Try.func60 (by kernel_rfl) rfl #[.int .u64 x6_, .int .u64 (rd x13_1 (ji52))] rfl (by (try simp only [List.map_toArray, List.map_cons, List.map_nil]); first | done | (simp only [hji52]; rfl) | rfl | (simp only [List.length_drop, List.length_take]; rfl)) ?_; (with_reducible refine (wide_Mul.calls x6_ (rd x13_1 (ji52)) t262 t263 _ A55.out).mono ?_); rintro e w61 ⟨rfl, hb⟩; refine ⟨_, rfl, ?_⟩; replace HO_13 := oB HO_13.out hb; replace HO_14 := oB HO_14.out hb; replace HO_16 := oB HO_16.out hb; replace HB := hS HB.out hb; (try clear hb); have p264 : 0 ≤ ((ji56) : Int) := of_decide_eq_true dS; have q264 : (ji56) < (x14_1.length : Int) := of_decide_eq_true dS; obtain ⟨ad264, e264, hx264_0⟩ := Kd.at_int (Kd.R_reads' HO_14.out).2.2 (ji56) p264 q264; obtain rfl : ad249 = ad264 := (by injection e264); replace p264 := eq_true p264; replace q264 := eq_true q264) | ((with_reducible refine gate_callee (f := 52) rfl ?_); refine goesL_ (some 118) rfl rfl Try.func52 (by kernel_rfl) rfl #[.int .u64 t262, .int .u64 t263, .int .u64 x7_, .int .u64 (rd x14_1 (ji56))] rfl (by (try simp only [List.map_toArray, List.map_cons, List.map_nil]); first | done | (simp only [hji56]; rfl) | rfl | (simp only [List.length_drop, List.length_take]; rfl)) ?_; (with_reducible refine (wide_Cmp.calls k3 t262 t263 x7_ (rd x14_1 (ji56)) t265 _ A59.out).mono ?_); rintro e w' ⟨rfl, ⟨nd, rfl⟩⟩; refine ⟨_, rfl, ?_⟩))
     with_reducible refine wp_goto ?_
     (try simp only [Exit.then])
     refine jumps_goto (fun a_ ha_ => ?_)
     exact ⟨k3, Nat.lt_succ_self _, .inr (.inr (.inl rfl)), fun i => a_.tmps.getD i .nilIface, _, _, _, x13_1, x14_1, x16_1, x15_1, x6_, x7_, (by rw [ha_]; rfl), H'.out, ⟨dR HO_13.out⟩, ⟨dR HO_14.out⟩, ⟨dR HO_16.out⟩, ⟨dB⟩⟩
    ·rw [if_neg c60] at H
     have c60b0 := decide_eq_false c60
     clear c60
     obtain ⟨ji62, hji62⟩ : ∃ j_ : Int, (wrap64 ((l1.length : Int) - 1)) = j_ := ⟨_, rfl⟩
     first | rw [hji62] at H | simp only [hji62] at H
     (try rw [hji62] at A55)
     (try rw [hji62] at A59)
     have hji62w : (IntKind.i64.wrap ((l1.length : Int) - 1)) = ji62 := (i64_w _).trans hji62
     replace H := nO H
     obtain ⟨c63, H⟩ := H
     have c63b0 : decide (0 ≤ (ji62)) = true := decide_eq_true c63
     clear c63
     replace H := nO H
     obtain ⟨c64, H⟩ := H
     have c64b0 := decide_eq_true c64
     clear c64
     replace H := oA H
     obtain ⟨⟨t267, t268⟩, A65, H⟩ := H
     (try dsimp only at H)
     by_cases c66 : t268 = 0
     ·rw [if_pos c66] at H
      obtain ⟨c66b0, c66b1⟩ := bT c66
      clear c66
      have H' := aM H
      clear H
      have p261 : 0 ≤ ((ji52) : Int) := of_decide_eq_true dS
      have q261 : (ji52) < (x13_1.length : Int) := of_decide_eq_true dS
      obtain ⟨ad261, e261, hx261_0⟩ := Kd.at_int (Kd.R_reads' HO_13.out).2.2 (ji52) p261 q261
      obtain rfl : ad250 = ad261 := (by injection e261)
      replace p261 := eq_true p261
      replace q261 := eq_true q261
      go_wp2_with (first | ((with_reducible refine gate_callee (f := 60) rfl ?_); refine goesL_ (some 105) rfl rfl Try.func60 (by kernel_rfl) rfl #[.int .u64 x6_, .int .u64 (rd x13_1 (ji52))] rfl (by (try simp only [List.map_toArray, List.map_cons, List.map_nil]); first | done | (simp only [hji52]; rfl) | rfl | (simp only [List.length_drop, List.length_take]; rfl)) ?_; (with_reducible refine (wide_Mul.calls x6_ (rd x13_1 (ji52)) t262 t263 _ A55.out).mono ?_); rintro e w67 ⟨rfl, hb⟩; refine ⟨_, rfl, ?_⟩; replace HO_13 := oB HO_13.out hb; replace HO_14 := oB HO_14.out hb; replace HO_16 := oB HO_16.out hb; replace HB := hS HB.out hb; (try clear hb); have p264 : 0 ≤ ((ji56) : Int) := of_decide_eq_true dS; have q264 : (ji56) < (x14_1.length : Int) := of_decide_eq_true dS; obtain ⟨ad264, e264, hx264_0⟩ := Kd.at_int (Kd.R_reads' HO_14.out).2.2 (ji56) p264 q264; obtain rfl : ad249 = ad264 := (by injection e264); replace p264 := eq_true p264; replace q264 := eq_true q264) | ((with_reducible refine gate_callee (f := 52) rfl ?_); refine goesL_ (some 118) rfl rfl Try.func52 (by kernel_rfl) rfl #[.int .u64 t262, .int .u64 t263, .int .u64 x7_, .int .u64 (rd x14_1 (ji56))] rfl (by (try simp only [List.map_toArray, List.map_cons, List.map_nil]); first | done | (simp only [hji56]; rfl) | rfl | (simp only [List.length_drop, List.length_take]; rfl)) ?_; (with_reducible refine (wide_Cmp.calls k3 t262 t263 x7_ (rd x14_1 (ji56)) t265 _ A59.out).mono ?_); rintro e w' ⟨rfl, ⟨nd, rfl⟩⟩; refine ⟨_, rfl, ?_⟩; have p266 : 0 ≤ ((ji62) : Int) := of_decide_eq_true dS; have q266 : (ji62) < (x13_1.length : Int) := of_decide_eq_true dS; obtain ⟨ad266, e266, hx266_0⟩ := Kd.at_int (Kd.R_reads' HO_13.out).2.2 (ji62) p266 q266; obtain rfl : ad250 = ad266 := (by injection e266); replace p266 := eq_true p266; replace q266 := eq_true q266) | ((with_reducible refine gate_callee (f := 61) rfl ?_); refine goesL_ (some 129) rfl rfl Try.func61 (by kernel_rfl) rfl #[.int .u64 x7_, .int .u64 (rd x13_1 (ji62)), .int .u64 0] rfl (by (try simp only [List.map_toArray, List.map_cons, List.map_nil]); first | done | (simp only [hji62]; rfl) | rfl | (simp only [List.length_drop, List.length_take]; rfl)) ?_; (with_reducible refine (wide_Add.calls x7_ (rd x13_1 (ji62)) 0 t267 t268 _ A65.out).mono ?_); rintro e w' ⟨rfl, ⟨nd, rfl⟩⟩; refine ⟨_, rfl, ?_⟩))
      with_reducible refine wp_goto ?_
      (try simp only [Exit.then])
      refine jumps_goto (fun a_ ha_ => ?_)
      exact ⟨k3, Nat.lt_succ_self _, .inr (.inr (.inr rfl)), fun i => a_.tmps.getD i .nilIface, _, _, _, x13_1, x14_1, x16_1, x15_1, (IntKind.u64.wrap (x6_ - 1)), t267, (by rw [ha_]; rfl), H'.out, ⟨dR HO_13.out⟩, ⟨dR HO_14.out⟩, ⟨dR HO_16.out⟩, ⟨dB⟩⟩
     ·rw [if_neg c66] at H
      obtain ⟨c66b0, c66b1⟩ := bF c66
      have H' := aM H
      clear H
      have p261 : 0 ≤ ((ji52) : Int) := of_decide_eq_true dS
      have q261 : (ji52) < (x13_1.length : Int) := of_decide_eq_true dS
      obtain ⟨ad261, e261, hx261_0⟩ := Kd.at_int (Kd.R_reads' HO_13.out).2.2 (ji52) p261 q261
      obtain rfl : ad250 = ad261 := (by injection e261)
      replace p261 := eq_true p261
      replace q261 := eq_true q261
      go_wp2_with (first | ((with_reducible refine gate_callee (f := 60) rfl ?_); refine goesL_ (some 105) rfl rfl Try.func60 (by kernel_rfl) rfl #[.int .u64 x6_, .int .u64 (rd x13_1 (ji52))] rfl (by (try simp only [List.map_toArray, List.map_cons, List.map_nil]); first | done | (simp only [hji52]; rfl) | rfl | (simp only [List.length_drop, List.length_take]; rfl)) ?_; (with_reducible refine (wide_Mul.calls x6_ (rd x13_1 (ji52)) t262 t263 _ A55.out).mono ?_); rintro e w68 ⟨rfl, hb⟩; refine ⟨_, rfl, ?_⟩; replace HO_13 := oB HO_13.out hb; replace HO_14 := oB HO_14.out hb; replace HO_16 := oB HO_16.out hb; replace HB := hS HB.out hb; (try clear hb); have p264 : 0 ≤ ((ji56) : Int) := of_decide_eq_true dS; have q264 : (ji56) < (x14_1.length : Int) := of_decide_eq_true dS; obtain ⟨ad264, e264, hx264_0⟩ := Kd.at_int (Kd.R_reads' HO_14.out).2.2 (ji56) p264 q264; obtain rfl : ad249 = ad264 := (by injection e264); replace p264 := eq_true p264; replace q264 := eq_true q264) | ((with_reducible refine gate_callee (f := 52) rfl ?_); refine goesL_ (some 118) rfl rfl Try.func52 (by kernel_rfl) rfl #[.int .u64 t262, .int .u64 t263, .int .u64 x7_, .int .u64 (rd x14_1 (ji56))] rfl (by (try simp only [List.map_toArray, List.map_cons, List.map_nil]); first | done | (simp only [hji56]; rfl) | rfl | (simp only [List.length_drop, List.length_take]; rfl)) ?_; (with_reducible refine (wide_Cmp.calls k3 t262 t263 x7_ (rd x14_1 (ji56)) t265 _ A59.out).mono ?_); rintro e w' ⟨rfl, ⟨nd, rfl⟩⟩; refine ⟨_, rfl, ?_⟩; have p266 : 0 ≤ ((ji62) : Int) := of_decide_eq_true dS; have q266 : (ji62) < (x13_1.length : Int) := of_decide_eq_true dS; obtain ⟨ad266, e266, hx266_0⟩ := Kd.at_int (Kd.R_reads' HO_13.out).2.2 (ji62) p266 q266; obtain rfl : ad250 = ad266 := (by injection e266); replace p266 := eq_true p266; replace q266 := eq_true q266) | ((with_reducible refine gate_callee (f := 61) rfl ?_); refine goesL_ (some 129) rfl rfl Try.func61 (by kernel_rfl) rfl #[.int .u64 x7_, .int .u64 (rd x13_1 (ji62)), .int .u64 0] rfl (by (try simp only [List.map_toArray, List.map_cons, List.map_nil]); first | done | (simp only [hji62]; rfl) | rfl | (simp only [List.length_drop, List.length_take]; rfl)) ?_; (with_reducible refine (wide_Add.calls x7_ (rd x13_1 (ji62)) 0 t267 t268 _ A65.out).mono ?_); rintro e w' ⟨rfl, ⟨nd, rfl⟩⟩; refine ⟨_, rfl, ?_⟩))
      refine wp_label ?_
      (try simp only [Exit.then])
      rename_i hK_
      refine hK_ _ _ ?_
      refine wp_at (fun a_ ha_ => ?_)
      exact fall 2 k3 a_ _ (Nat.lt_succ_self _) ⟨.inr (.inr (.inl rfl)), fun i => a_.tmps.getD i .nilIface, _, _, _, x13_1, x14_1, x16_1, x15_1, (IntKind.u64.wrap (x6_ - 1)), t267, (by rw [ha_]; rfl), H'.out, ⟨dR HO_13.out⟩, ⟨dR HO_14.out⟩, ⟨dR HO_16.out⟩, ⟨dB⟩⟩
end Go.Proofs.Ytiogfeeaepkkmaa.PA
