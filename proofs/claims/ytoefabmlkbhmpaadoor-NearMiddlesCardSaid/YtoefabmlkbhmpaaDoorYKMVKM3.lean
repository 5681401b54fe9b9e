/- A part of the proof (3). -/
import Derived.Test.YtoefabmlkbhmpaaDoorYKMVKM2
namespace Go.Proofs.YtoefabmlkbhmpaaDoor.PA
open Go.RowKit Go.Proofs.YtoefabmlkbhmpaaDoorW.PrintWords Go.Proofs.YtoefabmlkbhmpaaDoorW.PrintLast Go.Proofs.YtoefabmlkbhmpaaDoorW.PrintMore
attribute [local go_sem] max2_int min2_int max_two min_two max_three min_three max_four min_four
set_option linter.unusedVariables false
set_option linter.unusedSimpArgs false
def wide_Shr.f (a0 : Int) (a1 : Int) (a2 : Int) : Option (Int × Int × Bool) := (wide_within.f a2).bind fun t107 => (if t107 ≥ 64 then (if a1 = 0 then (if 0 ≤ (wrap64 (128 - t107)) then (if 0 ≤ (wrap64 (t107 - 64)) then (some (0, shr .u64 a0 (wrap64 (t107 - 64)), ((shl .u64 a0 (wrap64 (128 - t107))) != 0))) else (none)) else (none)) else (if 0 ≤ (wrap64 (t107 - 64)) then (some (0, shr .u64 a0 (wrap64 (t107 - 64)), true)) else (none))) else (if 0 ≤ t107 then (if 0 ≤ (wrap64 (64 - t107)) then (some (shr .u64 a0 t107, Go.bits .or .u64 (shr .u64 a1 t107) (shl .u64 a0 (wrap64 (64 - t107))), ((shl .u64 a1 (wrap64 (64 - t107))) != 0))) else (none)) else (none)))
set_option maxHeartbeats 8000000 in
set_option maxRecDepth 100000 in
theorem wide_Shr.calls (a0 : Int) (a1 : Int) (a2 : Int) (r1 : Int) (r2 : Int) (r3 : Bool) (w : World) (h : wide_Shr.f a0 a1 a2 = some (r1, r2, r3)) :
  Calls Tryd.prog 82 #[.int .u64 a0, .int .u64 a1, .int .i64 a2] w fun e w' => e = .returned (.tuple #[.int .u64 r1, .int .u64 r2, .bool r3]) ∧ Below w.heap.size w w' := by
 have HB := aM (Below.refl w.heap.size w)
 have H := h
 clear h
 unfold wide_Shr.f at H
 replace H := oA H
 obtain ⟨t107, A4, H⟩ := H
 (try dsimp only at H)
 by_cases c5 : t107 ≥ 64
 ·rw [if_pos c5] at H
  have c5b0 : decide (64 ≤ t107) = true := decide_eq_true c5
  clear c5
  by_cases c6 : a1 = 0
  ·rw [if_pos c6] at H
   obtain ⟨c6b0, c6b1⟩ := bT c6
   clear c6
   obtain ⟨ji7, hji7⟩ : ∃ j_ : Int, (wrap64 (128 - t107)) = j_ := ⟨_, rfl⟩
   first | rw [hji7] at H | simp only [hji7] at H
   (try rw [hji7] at A4)
   have hji7w : (IntKind.i64.wrap (128 - t107)) = ji7 := (i64_w _).trans hji7
   replace H := nO H
   obtain ⟨c8, H⟩ := H
   have c8b0 := eq_true c8
   have c8b1 : decide (0 ≤ (ji7)) = true := decide_eq_true c8
   clear c8
   obtain ⟨ji9, hji9⟩ : ∃ j_ : Int, (shl .u64 a0 (ji7)) = j_ := ⟨_, rfl⟩
   first | rw [hji9] at H | simp only [hji9] at H
   (try rw [hji9] at A4)
   have hji9_ : (IntKind.u64.wrap (a0 * 2 ^ min (ji7).toNat 64)) = ji9 := hji9
   have hji9z : (ji7) ≤ 64 → (IntKind.u64.wrap (a0 * 2 ^ (ji7).toNat)) = ji9 := shl_small hji9
   obtain ⟨ji10, hji10⟩ : ∃ j_ : Int, (wrap64 (t107 - 64)) = j_ := ⟨_, rfl⟩
   first | rw [hji10] at H | simp only [hji10] at H
   (try rw [hji10] at A4)
   have hji10w : (IntKind.i64.wrap (t107 - 64)) = ji10 := (i64_w _).trans hji10
   replace H := nO H
   obtain ⟨c11, H⟩ := H
   have c11b0 := eq_true c11
   have c11b1 : decide (0 ≤ (ji10)) = true := decide_eq_true c11
   clear c11
   obtain ⟨ji12, hji12⟩ : ∃ j_ : Int, (shr .u64 a0 (ji10)) = j_ := ⟨_, rfl⟩
   first | rw [hji12] at H | simp only [hji12] at H
   (try rw [hji12] at A4)
   have hji12_ : (a0 / 2 ^ min (ji10).toNat 64) = ji12 := hji12
   have hji12z : (ji10) ≤ 64 → (a0 / 2 ^ (ji10).toNat) = ji12 := shr_small hji12
   simp only [Option.some.injEq, Prod.mk.injEq] at H
   obtain ⟨rfl, rfl, rfl⟩ := H
   go_enter Tryd.func82, Tryd.ntmps82
   iterate 6 (go_wp2_with (first | (go_at_call 93; (with_reducible refine (wide_within.calls a2 t107 _ A4.out).mono ?_); rintro e w13 ⟨rfl, hb⟩; replace HB := hS HB.out hb; (try clear hb))); try go_quiet (fail))
   go_ret3
   exact ⟨by first | rfl | (simp [errW_none, errW_some] <;> rfl) | (simp only [← hji7, ← hji9, ← hji10, ← hji12]; first | rfl | (simp [errW_none, errW_some] <;> rfl)) | (simp [*, errW_none, errW_some] <;> rfl), dB⟩
  ·rw [if_neg c6] at H
   obtain ⟨c6b0, c6b1⟩ := bF c6
   obtain ⟨ji14, hji14⟩ : ∃ j_ : Int, (wrap64 (t107 - 64)) = j_ := ⟨_, rfl⟩
   first | rw [hji14] at H | simp only [hji14] at H
   (try rw [hji14] at A4)
   have hji14w : (IntKind.i64.wrap (t107 - 64)) = ji14 := (i64_w _).trans hji14
   replace H := nO H
   obtain ⟨c15, H⟩ := H
   have c15b0 := eq_true c15
   have c15b1 : decide (0 ≤ (ji14)) = true := decide_eq_true c15
   clear c15
   obtain ⟨ji16, hji16⟩ : ∃ j_ : Int, (shr .u64 a0 (ji14)) = j_ := ⟨_, rfl⟩
   first | rw [hji16] at H | simp only [hji16] at H
   (try rw [hji16] at A4)
   have hji16_ : (a0 / 2 ^ min (ji14).toNat 64) = ji16 := hji16
   have hji16z : (ji14) ≤ 64 → (a0 / 2 ^ (ji14).toNat) = ji16 := shr_small hji16
   simp only [Option.some.injEq, Prod.mk.injEq] at H
   obtain ⟨rfl, rfl, rfl⟩ := H
   go_enter Tryd.func82, Tryd.ntmps82
   iterate 6 (go_wp2_with (first | (go_at_call 93; (with_reducible refine (wide_within.calls a2 t107 _ A4.out).mono ?_); rintro e w17 ⟨rfl, hb⟩; replace HB := hS HB.out hb; (try clear hb))); try go_quiet (fail))
   go_ret3
   exact ⟨by first | rfl | (simp [errW_none, errW_some] <;> rfl) | (simp only [← hji14, ← hji16]; first | rfl | (simp [errW_none, errW_some] <;> rfl)) | (simp [*, errW_none, errW_some] <;> rfl), dB⟩
 ·rw [if_neg c5] at H
  have c5b0 : decide (64 ≤ t107) = false := decide_eq_false c5
  clear c5
  replace H := nO H
  obtain ⟨c18, H⟩ := H
  have c18b0 := eq_true c18
  have c18b1 : decide (0 ≤ t107) = true := decide_eq_true c18
  clear c18
  obtain ⟨ji19, hji19⟩ : ∃ j_ : Int, (shr .u64 a0 t107) = j_ := ⟨_, rfl⟩
  first | rw [hji19] at H | simp only [hji19] at H
  (try rw [hji19] at A4)
  have hji19_ : (a0 / 2 ^ min t107.toNat 64) = ji19 := hji19
  have hji19z : t107 ≤ 64 → (a0 / 2 ^ t107.toNat) = ji19 := shr_small hji19
  have c20b0 := eq_true (of_decide_eq_true dS : 0 ≤ t107)
  obtain ⟨ji21, hji21⟩ : ∃ j_ : Int, (shr .u64 a1 t107) = j_ := ⟨_, rfl⟩
  first | rw [hji21] at H | simp only [hji21] at H
  (try rw [hji21] at A4)
  have hji21_ : (a1 / 2 ^ min t107.toNat 64) = ji21 := hji21
  have hji21z : t107 ≤ 64 → (a1 / 2 ^ t107.toNat) = ji21 := shr_small hji21
  obtain ⟨ji22, hji22⟩ : ∃ j_ : Int, (wrap64 (64 - t107)) = j_ := ⟨_, rfl⟩
  first | rw [hji22] at H | simp only [hji22] at H
  (try rw [hji22] at A4)
  have hji22w : (IntKind.i64.wrap (64 - t107)) = ji22 := (i64_w _).trans hji22
  replace H := nO H
  obtain ⟨c23, H⟩ := H
  have c23b0 := eq_true c23
  have c23b1 : decide (0 ≤ (ji22)) = true := decide_eq_true c23
  clear c23
  obtain ⟨ji24, hji24⟩ : ∃ j_ : Int, (shl .u64 a0 (ji22)) = j_ := ⟨_, rfl⟩
  first | rw [hji24] at H | simp only [hji24] at H
  (try rw [hji24] at A4)
  have hji24_ : (IntKind.u64.wrap (a0 * 2 ^ min (ji22).toNat 64)) = ji24 := hji24
  have hji24z : (ji22) ≤ 64 → (IntKind.u64.wrap (a0 * 2 ^ (ji22).toNat)) = ji24 := shl_small hji24
  have c25b0 := eq_true (of_decide_eq_true dS : 0 ≤ (ji22))
  obtain ⟨ji26, hji26⟩ : ∃ j_ : Int, (shl .u64 a1 (ji22)) = j_ := ⟨_, rfl⟩
  first | rw [hji26] at H | simp only [hji26] at H
  (try rw [hji26] at A4)
  have hji26_ : (IntKind.u64.wrap (a1 * 2 ^ min (ji22).toNat 64)) = ji26 := hji26
  have hji26z : (ji22) ≤ 64 → (IntKind.u64.wrap (a1 * 2 ^ (ji22).toNat)) = ji26 := shl_small hji26
  simp only [Option.some.injEq, Prod.mk.injEq] at H
  obtain ⟨rfl, rfl, rfl⟩ := H
  go_enter Tryd.func82, Tryd.ntmps82
  iterate 6 (go_wp2_with (first | (go_at_call 93; (with_reducible refine (wide_within.calls a2 t107 _ A4.out).mono ?_); rintro e w27 ⟨rfl, hb⟩; replace HB := hS HB.out hb; (try clear hb))); try go_quiet (fail))
  go_ret3
  exact ⟨by first | rfl | (simp [errW_none, errW_some] <;> rfl) | (simp only [← hji19, ← hji21, ← hji22, ← hji24, ← hji26]; first | rfl | (simp [errW_none, errW_some] <;> rfl)) | (simp [*, errW_none, errW_some] <;> rfl), dB⟩
def near_cut.j0 : Nat → Int → Int → Bool → Option (Int × Int)
 | 0, _, _, _ => none
 | k + 1, x0, x1, x11 => if x11 = true then (some (x0, 0)) else (if x1 > 64 then (some (0, 1)) else ((wide_Shr.f 0 x0 x1).bind fun bt108 => (if bt108.2.2 = true then (if 0 ≤ (wrap64 (x1 - 1)) then (if (Go.bits .and .u64 x0 (IntKind.u64.wrap ((IntKind.u64.wrap ((shl .u64 1 (wrap64 (x1 - 1))) * 2)) - 1))) < (shl .u64 1 (wrap64 (x1 - 1))) then (some (bt108.2.1, 1)) else (if (Go.bits .and .u64 x0 (IntKind.u64.wrap ((IntKind.u64.wrap ((shl .u64 1 (wrap64 (x1 - 1))) * 2)) - 1))) > (shl .u64 1 (wrap64 (x1 - 1))) then (some (bt108.2.1, 3)) else (some (bt108.2.1, 2)))) else (none)) else (some (bt108.2.1, 0)))))
def near_cut.f (k : Nat) (a0 : Int) (a1 : Int) : Option (Int × Int) := if a0 = 0 then (near_cut.j0 k a0 a1 true) else (near_cut.j0 k a0 a1 (decide (a1 ≤ 0)))
theorem near_cut.mono_l : ∀ k, (∀ y0 y1 y2, LeO (near_cut.j0 k y0 y1 y2) (near_cut.j0 (k + 1) y0 y1 y2))
 | 0 => fun _ _ _ r h => by simp [near_cut.j0] at h
 | k + 1 => by
  have ih0 := near_cut.mono_l k
  ·intro y0 y1 y2
   unfold near_cut.j0
   exact mX
theorem near_cut.mono : ∀ a0 a1 k, LeO (near_cut.f k a0 a1) (near_cut.f (k + 1) a0 a1) := by
 intro a0 a1 k
 have ih0 := near_cut.mono_l k
 unfold near_cut.f
 exact mX
set_option maxHeartbeats 8000000 in
set_option maxRecDepth 100000 in
theorem near_cut.calls (k : Nat) (a0 : Int) (a1 : Int) (r1 : Int) (r2 : Int) (w : World) (h : near_cut.f k a0 a1 = some (r1, r2)) :
  Calls Tryd.prog 84 #[.int .u64 a0, .int .i64 a1] w fun e w' => e = .returned (.tuple #[.int .u64 r1, .int .i64 r2]) ∧ Below w.heap.size w w' := by
 have HB := aM (Below.refl w.heap.size w)
 have H := h
 clear h
 unfold near_cut.f at H
 have HC3 := aM H
 clear H
 go_enter Tryd.func84, Tryd.ntmps84
 go_upto_region 1 with (fail)
 go_cut [11] (fun v11 wc => ∃ (kq : Nat) (x11_2 : Bool), v11 = .bool x11_2 ∧ Aside0 (near_cut.j0 kq a0 a1 x11_2 = some (r1, r2)) ∧ Aside0 (kq ≤ k) ∧ Aside0 (Below w.heap.size w wc))
 case first =>
  have H := HC3.out
  clear HC3
  by_cases c4 : a0 = 0
  ·rw [if_pos c4] at H
   obtain ⟨c4b0, c4b1⟩ := bT c4
   clear c4
   (first | rw [c4b0] | (simp only [i64_w, i32_w]; rw [c4b0]) | skip)
   have H' := aM H
   clear H
   go_wp2
   go_meet
   case rel => exact ⟨_, (true), dF, H', ⟨dN⟩, ⟨dB⟩⟩
  ·rw [if_neg c4] at H
   obtain ⟨c4b0, c4b1⟩ := bF c4
   (first | rw [c4b0] | (simp only [i64_w, i32_w]; rw [c4b0]) | skip)
   have H' := aM H
   clear H
   go_wp2
   go_meet
   case rel => exact ⟨_, (decide (a1 ≤ 0)), dF, H', ⟨dN⟩, ⟨dB⟩⟩
 case rest =>
  clear HC3
  obtain ⟨kq, x11_2, rfl, HA, HJ2, HB⟩ := hcut
  cases kq with
  | zero => exact absurd HA.out (by simp [near_cut.j0])
  | succ kj2 =>
   have H := HA.out
   clear HA
   simp only [near_cut.j0] at H
   by_cases c5 : x11_2 = true
   ·subst c5
    rw [if_pos rfl] at H
    (try dsimp only at H)
    simp only [Option.some.injEq, Prod.mk.injEq] at H
    obtain ⟨rfl, rfl⟩ := H
    go_wp2
    go_ret2
    exact ⟨dE, dB⟩
   ·replace c5 := Bool.eq_false_iff.mpr c5
    subst c5
    rw [if_neg (show ¬ (false = true) by decide)] at H
    (try dsimp only at H)
    by_cases c6 : a1 > 64
    ·rw [if_pos c6] at H
     have c6b0 : decide (64 < a1) = true := decide_eq_true c6
     clear c6
     simp only [Option.some.injEq, Prod.mk.injEq] at H
     obtain ⟨rfl, rfl⟩ := H
     go_wp2
     go_ret2
     exact ⟨dE, dB⟩
    ·rw [if_neg c6] at H
     have c6b0 : decide (64 < a1) = false := decide_eq_false c6
     clear c6
     replace H := oA H
     obtain ⟨⟨t108, t109, t110⟩, A7, H⟩ := H
     (try dsimp only at H)
     by_cases c8 : t110 = true
     ·subst c8
      rw [if_pos rfl] at H
      (try dsimp only at H)
      obtain ⟨ji9, hji9⟩ : ∃ j_ : Int, (wrap64 (a1 - 1)) = j_ := ⟨_, rfl⟩
      first | rw [hji9] at H | simp only [hji9] at H
      (try rw [hji9] at A7)
      have hji9w : (IntKind.i64.wrap (a1 - 1)) = ji9 := (i64_w _).trans hji9
      replace H := nO H
      obtain ⟨c10, H⟩ := H
      have c10b0 := eq_true c10
      have c10b1 : decide (0 ≤ (ji9)) = true := decide_eq_true c10
      clear c10
      obtain ⟨ji11, hji11⟩ : ∃ j_ : Int, (shl .u64 1 (ji9)) = j_ := ⟨_, rfl⟩
      first | rw [hji11] at H | simp only [hji11] at H
      (try rw [hji11] at A7)
      have hji11_ : (IntKind.u64.wrap (1 * 2 ^ min (ji9).toNat 64)) = ji11 := hji11
      have hji11z : (ji9) ≤ 64 → (IntKind.u64.wrap (1 * 2 ^ (ji9).toNat)) = ji11 := shl_small hji11
      have hji11u : (IntKind.u64.wrap (2 ^ min (ji9).toNat 64)) = ji11 := by have h_ := hji11_; rw [Int.one_mul] at h_; exact h_
      have hji11v : (ji9) ≤ 64 → (IntKind.u64.wrap (2 ^ (ji9).toNat)) = ji11 := fun hle_ => by have h_ := hji11z hle_; rw [Int.one_mul] at h_; exact h_
      by_cases c12 : (Go.bits .and .u64 a0 (IntKind.u64.wrap ((IntKind.u64.wrap ((ji11) * 2)) - 1))) < (ji11)
      ·rw [if_pos c12] at H
       have c12b0 := decide_eq_true c12
       clear c12
       simp only [Option.some.injEq, Prod.mk.injEq] at H
       obtain ⟨rfl, rfl⟩ := H
       go_wp2_with (first | ((with_reducible refine gate_callee (f := 82) rfl ?_); refine gL (some 25) Tryd.func82 #[.int .u64 0, .int .u64 a0, .int .i64 a1] ?_; (with_reducible refine (wide_Shr.calls 0 a0 a1 t108 t109 true _ A7.out).mono ?_); rintro e w13 ⟨rfl, hb⟩; refine ⟨_, rfl, ?_⟩; replace HB := hS HB.out hb; (try clear hb)))
       go_ret2
       exact ⟨by first | rfl | (simp [errW_none, errW_some] <;> rfl) | (simp only [← hji9, ← hji11]; first | rfl | (simp [errW_none, errW_some] <;> rfl)) | (simp [*, errW_none, errW_some] <;> rfl), dB⟩
      ·rw [if_neg c12] at H
       have c12b0 := decide_eq_false c12
       clear c12
       by_cases c14 : (Go.bits .and .u64 a0 (IntKind.u64.wrap ((IntKind.u64.wrap ((ji11) * 2)) - 1))) > (ji11)
       ·rw [if_pos c14] at H
        have c14b0 : decide ((ji11) < (Go.bits .and .u64 a0 (IntKind.u64.wrap ((IntKind.u64.wrap ((ji11) * 2)) - 1)))) = true := decide_eq_true c14
        clear c14
        simp only [Option.some.injEq, Prod.mk.injEq] at H
        obtain ⟨rfl, rfl⟩ := H
        go_wp2_with (first | ((with_reducible refine gate_callee (f := 82) rfl ?_); refine gL (some 25) Tryd.func82 #[.int .u64 0, .int .u64 a0, .int .i64 a1] ?_; (with_reducible refine (wide_Shr.calls 0 a0 a1 t108 t109 true _ A7.out).mono ?_); rintro e w15 ⟨rfl, hb⟩; refine ⟨_, rfl, ?_⟩; replace HB := hS HB.out hb; (try clear hb)))
        go_ret2
        exact ⟨by first | rfl | (simp [errW_none, errW_some] <;> rfl) | (simp only [← hji9, ← hji11]; first | rfl | (simp [errW_none, errW_some] <;> rfl)) | (simp [*, errW_none, errW_some] <;> rfl), dB⟩
       ·rw [if_neg c14] at H
        have c14b0 : decide ((ji11) < (Go.bits .and .u64 a0 (IntKind.u64.wrap ((IntKind.u64.wrap ((ji11) * 2)) - 1)))) = false := decide_eq_false c14
        clear c14
        simp only [Option.some.injEq, Prod.mk.injEq] at H
        obtain ⟨rfl, rfl⟩ := H
        go_wp2_with (first | ((with_reducible refine gate_callee (f := 82) rfl ?_); refine gL (some 25) Tryd.func82 #[.int .u64 0, .int .u64 a0, .int .i64 a1] ?_; (with_reducible refine (wide_Shr.calls 0 a0 a1 t108 t109 true _ A7.out).mono ?_); rintro e w16 ⟨rfl, hb⟩; refine ⟨_, rfl, ?_⟩; replace HB := hS HB.out hb; (try clear hb)))
        go_ret2
        exact ⟨by first | rfl | (simp [errW_none, errW_some] <;> rfl) | (simp only [← hji9, ← hji11]; first | rfl | (simp [errW_none, errW_some] <;> rfl)) | (simp [*, errW_none, errW_some] <;> rfl), dB⟩
     ·replace c8 := Bool.eq_false_iff.mpr c8
      subst c8
      rw [if_neg (show ¬ (false = true) by decide)] at H
      (try dsimp only at H)
      simp only [Option.some.injEq, Prod.mk.injEq] at H
      obtain ⟨rfl, rfl⟩ := H
      go_wp2_with (first | ((with_reducible refine gate_callee (f := 82) rfl ?_); refine gL (some 25) Tryd.func82 #[.int .u64 0, .int .u64 a0, .int .i64 a1] ?_; (with_reducible refine (wide_Shr.calls 0 a0 a1 t108 t109 false _ A7.out).mono ?_); rintro e w17 ⟨rfl, hb⟩; refine ⟨_, rfl, ?_⟩; replace HB := hS HB.out hb; (try clear hb)))
      go_ret2
      exact ⟨dE, dB⟩
def wide_Zeros.f (k : Nat) (a0 : Int) : Option (Int) := if a0 = 0 then (some 64) else ((wide_Len.f k (Go.bits .and .u64 a0 (IntKind.u64.wrap (-a0)))).bind fun t111 => (some (wrap64 (t111 - 1))))
theorem wide_Zeros.mono : ∀ a0 k, LeO (wide_Zeros.f k a0) (wide_Zeros.f (k + 1) a0) := by
 intro a0 k
 unfold wide_Zeros.f
 have m0_ := wide_Len.mono
 exact mX
set_option maxHeartbeats 8000000 in
set_option maxRecDepth 100000 in
theorem wide_Zeros.calls (k : Nat) (a0 : Int) (r : Int) (w : World) (h : wide_Zeros.f k a0 = some r) :
  Calls Tryd.prog 104 #[.int .u64 a0] w fun e w' => e = .returned (.int .i64 r) ∧ Drawn0 w w' := by
 have H := h
 clear h
 unfold wide_Zeros.f at H
 by_cases c2 : a0 = 0
 ·rw [if_pos c2] at H
  obtain ⟨c2b0, c2b1⟩ := bT c2
  clear c2
  obtain rfl := Option.some.inj H
  go_enter Tryd.func104, Tryd.ntmps104
  go_wp2
  go_ret
  exact ⟨dF, dD⟩
 ·rw [if_neg c2] at H
  obtain ⟨c2b0, c2b1⟩ := bF c2
  replace H := oA H
  obtain ⟨t111, A3, H⟩ := H
  (try dsimp only at H)
  obtain rfl := Option.some.inj H
  go_enter Tryd.func104, Tryd.ntmps104
  go_wp2_with (first | ((with_reducible refine gate_callee (f := 81) rfl ?_); refine gL (some 9) Tryd.func81 #[.int .u64 (Go.bits .and .u64 a0 (IntKind.u64.wrap (-a0)))] ?_; (with_reducible refine (wide_Len.calls k (Go.bits .and .u64 a0 (IntKind.u64.wrap (-a0))) t111 _ A3.out).mono ?_); rintro e w' ⟨rfl, ⟨nd, rfl⟩⟩; refine ⟨_, rfl, ?_⟩))
  go_ret
  exact ⟨dF, dD⟩
mutual
def f64_Join.j0 : Nat → Int → Int → Int → Option (Int × Int)
 | 0, _, _, _ => none
 | k + 1, x1, x2, x8 => if x1 = 0 then (some (x8, 0)) else (if x2 < (-1137) then (f64_Join.j1 k x1 x2 x8 true) else (f64_Join.j1 k x1 x2 x8 (decide (x2 > 1023))))
def f64_Join.j1 : Nat → Int → Int → Int → Bool → Option (Int × Int)
 | 0, _, _, _, _ => none
 | k + 1, x1, x2, x8, x21 => if x21 = true then (some (0, 61)) else ((wide_Zeros.f k x1).bind fun t112 => (if 0 ≤ t112 then ((wide_Len.f k (shr .u64 x1 t112)).bind fun t113 => (if t113 > 53 then (f64_Join.j2 k (shr .u64 x1 t112) (wrap64 (x2 + t112)) x8 t113 true) else (if (wrap64 ((wrap64 (x2 + t112)) + t113)) > 1024 then (f64_Join.j2 k (shr .u64 x1 t112) (wrap64 (x2 + t112)) x8 t113 true) else (f64_Join.j2 k (shr .u64 x1 t112) (wrap64 (x2 + t112)) x8 t113 (decide ((wrap64 (x2 + t112)) < (-1074))))))) else (none)))
def f64_Join.j2 : Nat → Int → Int → Int → Int → Bool → Option (Int × Int)
 | 0, _, _, _, _, _ => none
 | k + 1, x1, x2, x8, x10, x43 => if x43 = true then (some (0, 61)) else (if 0 ≤ (mn (wrap64 (53 - x10)) (wrap64 (x2 + 1074))) then (if (shl .u64 x1 (mn (wrap64 (53 - x10)) (wrap64 (x2 + 1074)))) < 4503599627370496 then (some (Go.bits .or .u64 x8 (shl .u64 x1 (mn (wrap64 (53 - x10)) (wrap64 (x2 + 1074)))), 0)) else (some (Go.bits .or .u64 (Go.bits .or .u64 x8 (IntKind.u64.wrap ((IntKind.u64.wrap (wrap64 ((wrap64 (x2 - (mn (wrap64 (53 - x10)) (wrap64 (x2 + 1074))))) + 1075))) * 4503599627370496))) (Go.bits .and .u64 (shl .u64 x1 (mn (wrap64 (53 - x10)) (wrap64 (x2 + 1074)))) 4503599627370495), 0))) else (none))
end
def f64_Join.f (k : Nat) (a0 : Bool) (a1 : Int) (a2 : Int) : Option (Int × Int) := if a0 = true then (f64_Join.j0 k a1 a2 9223372036854775808) else (f64_Join.j0 k a1 a2 0)
theorem f64_Join.mono_l : ∀ k, (∀ y0 y1 y2, LeO (f64_Join.j0 k y0 y1 y2) (f64_Join.j0 (k + 1) y0 y1 y2)) ∧ (∀ y0 y1 y2 y3, LeO (f64_Join.j1 k y0 y1 y2 y3) (f64_Join.j1 (k + 1) y0 y1 y2 y3)) ∧ (∀ y0 y1 y2 y3 y4, LeO (f64_Join.j2 k y0 y1 y2 y3 y4) (f64_Join.j2 (k + 1) y0 y1 y2 y3 y4))
 | 0 => ⟨fun _ _ _ r h => by simp [f64_Join.j0] at h, fun _ _ _ _ r h => by simp [f64_Join.j1] at h, fun _ _ _ _ _ r h => by simp [f64_Join.j2] at h⟩
 | k + 1 => by
  obtain ⟨ih0, ih1, ih2⟩ := f64_Join.mono_l k
  refine ⟨?_, ?_, ?_⟩
  ·intro y0 y1 y2
   unfold f64_Join.j0
   have m0_ := wide_Len.mono
   have m1_ := wide_Zeros.mono
   exact mX
  ·intro y0 y1 y2 y3
   unfold f64_Join.j1
   have m0_ := wide_Len.mono
   have m1_ := wide_Zeros.mono
   exact mX
  ·intro y0 y1 y2 y3 y4
   unfold f64_Join.j2
   have m0_ := wide_Len.mono
   have m1_ := wide_Zeros.mono
   exact mX
theorem f64_Join.mono : ∀ a0 a1 a2 k, LeO (f64_Join.f k a0 a1 a2) (f64_Join.f (k + 1) a0 a1 a2) := by
 intro a0 a1 a2 k
 obtain ⟨ih0, ih1, ih2⟩ := f64_Join.mono_l k
 unfold f64_Join.f
 have m0_ := wide_Len.mono
 have m1_ := wide_Zeros.mono
 exact mX
set_option maxHeartbeats 8000000 in
set_option maxRecDepth 100000 in
theorem f64_Join.calls (k : Nat) (a0 : Bool) (a1 : Int) (a2 : Int) (r1 : Int) (r2 : Int) (w : World) (h : f64_Join.f k a0 a1 a2 = some (r1, r2)) :
  Calls Tryd.prog 86 #[.bool a0, .int .u64 a1, .int .i64 a2] w fun e w' => e = .returned (.tuple #[.int .u64 r1, .int .i64 r2]) ∧ Below w.heap.size w w' := by
 have HB := aM (Below.refl w.heap.size w)
 have H := h
 clear h
 unfold f64_Join.f at H
 have HC4 := aM H
 clear H
 go_enter Tryd.func86, Tryd.ntmps86
 go_upto_if 12 with (fail)
 go_cut [8] (fun v8 wc => ∃ (kq : Nat) (x8_3 : Int), v8 = .int .u64 x8_3 ∧ Aside0 (f64_Join.j0 kq a1 a2 x8_3 = some (r1, r2)) ∧ Aside0 (kq ≤ k) ∧ Aside0 (Below w.heap.size w wc))
 case first =>
  have H := HC4.out
  clear HC4
  by_cases c5 : a0 = true
  ·subst c5
   rw [if_pos rfl] at H
   (try dsimp only at H)
   have H' := aM H
   clear H
   go_wp2
   go_meet
   case rel => exact ⟨_, (9223372036854775808), dF, H', ⟨dN⟩, ⟨dB⟩⟩
  ·replace c5 := Bool.eq_false_iff.mpr c5
   subst c5
   rw [if_neg (show ¬ (false = true) by decide)] at H
   (try dsimp only at H)
   have H' := aM H
   clear H
   go_wp2
   go_meet
   case rel => exact ⟨_, (0), dF, H', ⟨dN⟩, ⟨dB⟩⟩
 case rest =>
  clear HC4
  obtain ⟨kq, x8_3, rfl, HA, HJ3, HB⟩ := hcut
  cases kq with
  | zero => exact absurd HA.out (by simp [f64_Join.j0])
  | succ kj3 =>
   have H := HA.out
   clear HA
   simp only [f64_Join.j0] at H
   by_cases c6 : a1 = 0
   ·rw [if_pos c6] at H
    obtain ⟨c6b0, c6b1⟩ := bT c6
    clear c6
    simp only [Option.some.injEq, Prod.mk.injEq] at H
    obtain ⟨rfl, rfl⟩ := H
    go_wp2
    go_ret2
    exact ⟨dE, dB⟩
   ·rw [if_neg c6] at H
    obtain ⟨c6b0, c6b1⟩ := bF c6
    have HC7 := aM H
    clear H
    go_upto_region 6 with (fail)
    go_cut [21] (fun v21 wc => ∃ (kq : Nat) (x21_6 : Bool), v21 = .bool x21_6 ∧ Aside0 (f64_Join.j1 kq a1 a2 x8_3 x21_6 = some (r1, r2)) ∧ Aside0 (kq ≤ kj3) ∧ Aside0 (Below w.heap.size w wc))
    case first =>
     have H := HC7.out
     clear HC7
     by_cases c8 : a2 < (-1137)
     ·rw [if_pos c8] at H
      have c8b0 := decide_eq_true c8
      clear c8
      (first | rw [c8b0] | (simp only [i64_w, i32_w]; rw [c8b0]) | skip)
      have H' := aM H
      clear H
      go_wp2
      go_meet
      case rel => exact ⟨_, (true), dF, H', ⟨by have := HJ3.out; first | omega | exact Nat.le_refl _⟩, ⟨dB⟩⟩
     ·rw [if_neg c8] at H
      have c8b0 := decide_eq_false c8
      clear c8
      (first | rw [c8b0] | (simp only [i64_w, i32_w]; rw [c8b0]) | skip)
      have H' := aM H
      clear H
      go_wp2
      go_meet
      case rel => exact ⟨_, (decide (a2 > 1023)), dF, H', ⟨by have := HJ3.out; first | omega | exact Nat.le_refl _⟩, ⟨dB⟩⟩
    case rest =>
     clear HC7
     try clear c6
     try clear c6b0 c6b1
     obtain ⟨kq, x21_6, rfl, HA, HJ6, HB⟩ := hcut
     cases kq with
     | zero => exact absurd HA.out (by simp [f64_Join.j1])
     | succ kj6 =>
      have H := HA.out
      clear HA
      simp only [f64_Join.j1] at H
      by_cases c9 : x21_6 = true
      ·subst c9
       rw [if_pos rfl] at H
       (try dsimp only at H)
       simp only [Option.some.injEq, Prod.mk.injEq] at H
       obtain ⟨rfl, rfl⟩ := H
       go_wp2
       go_ret2
       exact ⟨dE, dB⟩
      ·replace c9 := Bool.eq_false_iff.mpr c9
       subst c9
       rw [if_neg (show ¬ (false = true) by decide)] at H
       (try dsimp only at H)
       replace H := oA H
       obtain ⟨t112, A10, H⟩ := H
       (try dsimp only at H)
       replace H := nO H
       obtain ⟨c11, H⟩ := H
       have c11b0 := eq_true c11
       have c11b1 : decide (0 ≤ t112) = true := decide_eq_true c11
       clear c11
       obtain ⟨ji12, hji12⟩ : ∃ j_ : Int, (shr .u64 a1 t112) = j_ := ⟨_, rfl⟩
       first | rw [hji12] at H | simp only [hji12] at H
       (try rw [hji12] at A10)
       have hji12_ : (a1 / 2 ^ min t112.toNat 64) = ji12 := hji12
       have hji12z : t112 ≤ 64 → (a1 / 2 ^ t112.toNat) = ji12 := shr_small hji12
       replace H := oA H
       obtain ⟨t113, A13, H⟩ := H
       (try dsimp only at H)
       have HC14 := aM H
       clear H
       go_upto_region 12 with (first | ((with_reducible refine gate_callee (f := 104) rfl ?_); refine gL (some 23) Tryd.func104 #[.int .u64 a1] ?_; (with_reducible refine (wide_Zeros.calls kj6 a1 t112 _ A10.out).mono ?_); rintro e w' ⟨rfl, ⟨nd, rfl⟩⟩; refine ⟨_, rfl, ?_⟩) | ((with_reducible refine gate_callee (f := 81) rfl ?_); refine goesL_ (some 31) rfl rfl Tryd.func81 (by kernel_rfl) rfl #[.int .u64 ji12] rfl (by (try simp only [List.map_toArray, List.map_cons, List.map_nil]); first | done | (simp only [hji12]; rfl) | rfl | (simp only [List.length_drop, List.length_take]; rfl)) ?_; (with_reducible refine (wide_Len.calls kj6 ji12 t113 _ A13.out).mono ?_); rintro e w' ⟨rfl, ⟨nd, rfl⟩⟩; refine ⟨_, rfl, ?_⟩))
       (try simp only [Act.put, List.setIfInBounds_toArray, List.set_cons_zero, List.set_cons_succ])
       go_cut [43] (fun v43 wc => ∃ (kq : Nat) (x43_13 : Bool), v43 = .bool x43_13 ∧ Aside0 (f64_Join.j2 kq ji12 (wrap64 (a2 + t112)) x8_3 t113 x43_13 = some (r1, r2)) ∧ Aside0 (kq ≤ kj6) ∧ Aside0 (Below w.heap.size w wc))
       case first =>
        have H := HC14.out
        clear HC14
        by_cases c15 : t113 > 53
        ·rw [if_pos c15] at H
         have c15b0 : decide (53 < t113) = true := decide_eq_true c15
         clear c15
         (first | rw [c15b0] | (simp only [i64_w, i32_w]; rw [c15b0]) | skip)
         have H' := aM H
         clear H
         go_wp2
         go_meet
         case rel => exact ⟨_, (true), dF, H', ⟨by have := HJ3.out; have := HJ6.out; first | omega | exact Nat.le_refl _⟩, ⟨dB⟩⟩
        ·rw [if_neg c15] at H
         have c15b0 : decide (53 < t113) = false := decide_eq_false c15
         clear c15
         (first | rw [c15b0] | (simp only [i64_w, i32_w]; rw [c15b0]) | skip)
         by_cases c16 : (wrap64 ((wrap64 (a2 + t112)) + t113)) > 1024
         ·rw [if_pos c16] at H
          have c16b0 : decide (1024 < (wrap64 ((wrap64 (a2 + t112)) + t113))) = true := decide_eq_true c16
          clear c16
          have H' := aM H
          clear H
          go_wp2
          go_meet
          case rel => exact ⟨_, (true), dF, H', ⟨by have := HJ3.out; have := HJ6.out; first | omega | exact Nat.le_refl _⟩, ⟨dB⟩⟩
         ·rw [if_neg c16] at H
          have c16b0 : decide (1024 < (wrap64 ((wrap64 (a2 + t112)) + t113))) = false := decide_eq_false c16
          clear c16
          have H' := aM H
          clear H
          go_wp2
          go_meet
          case rel => exact ⟨_, (decide ((wrap64 (a2 + t112)) < (-1074))), dF, H', ⟨by have := HJ3.out; have := HJ6.out; first | omega | exact Nat.le_refl _⟩, ⟨dB⟩⟩
       case rest =>
        clear HC14
        try clear c6
        try clear c6b0 c6b1
        try clear c9
        try clear c11
        try clear c11b0 c11b1
        obtain ⟨kq, x43_13, rfl, HA, HJ13, HB⟩ := hcut
        cases kq with
        | zero => exact absurd HA.out (by simp [f64_Join.j2])
        | succ kj13 =>
         have H := HA.out
         clear HA
         simp only [f64_Join.j2] at H
         by_cases c17 : x43_13 = true
         ·subst c17
          rw [if_pos rfl] at H
          (try dsimp only at H)
          simp only [Option.some.injEq, Prod.mk.injEq] at H
          obtain ⟨rfl, rfl⟩ := H
          go_wp2
          go_ret2
          exact ⟨by first | rfl | (simp [errW_none, errW_some] <;> rfl) | (simp only [← hji12]; first | rfl | (simp [errW_none, errW_some] <;> rfl)) | (simp [*, errW_none, errW_some] <;> rfl), dB⟩
         ·replace c17 := Bool.eq_false_iff.mpr c17
          subst c17
          rw [if_neg (show ¬ (false = true) by decide)] at H
          (try dsimp only at H)
          obtain ⟨ji18, hji18⟩ : ∃ j_ : Int, (mn (wrap64 (53 - t113)) (wrap64 ((wrap64 (a2 + t112)) + 1074))) = j_ := ⟨_, rfl⟩
          first | rw [hji18] at H | simp only [hji18] at H
          have hji18_ : (if (wrap64 ((wrap64 (a2 + t112)) + 1074)) < (wrap64 (53 - t113)) then (wrap64 ((wrap64 (a2 + t112)) + 1074)) else (wrap64 (53 - t113))) = ji18 := hji18
          replace H := nO H
          obtain ⟨c19, H⟩ := H
          have c19b0 := eq_true c19
          have c19b1 : decide (0 ≤ (ji18)) = true := decide_eq_true c19
          clear c19
          obtain ⟨ji20, hji20⟩ : ∃ j_ : Int, (shl .u64 ji12 (ji18)) = j_ := ⟨_, rfl⟩
          first | rw [hji20] at H | simp only [hji20] at H
          have hji20_ : (IntKind.u64.wrap (ji12 * 2 ^ min (ji18).toNat 64)) = ji20 := hji20
          have hji20z : (ji18) ≤ 64 → (IntKind.u64.wrap (ji12 * 2 ^ (ji18).toNat)) = ji20 := shl_small hji20
          by_cases c21 : (ji20) < 4503599627370496
          ·rw [if_pos c21] at H
           have c21b0 := decide_eq_true c21
           clear c21
           simp only [Option.some.injEq, Prod.mk.injEq] at H
           obtain ⟨rfl, rfl⟩ := H
           go_wp2
           go_ret2
           exact ⟨by first | rfl | (simp [errW_none, errW_some] <;> rfl) | (simp only [← hji12, ← hji18, ← hji20]; first | rfl | (simp [errW_none, errW_some] <;> rfl)) | (simp [*, errW_none, errW_some] <;> rfl), dB⟩
          ·rw [if_neg c21] at H
           have c21b0 := decide_eq_false c21
           clear c21
           simp only [Option.some.injEq, Prod.mk.injEq] at H
           obtain ⟨rfl, rfl⟩ := H
           go_wp2
           go_ret2
           exact ⟨by first | rfl | (simp [errW_none, errW_some] <;> rfl) | (simp only [← hji12, ← hji18, ← hji20]; first | rfl | (simp [errW_none, errW_some] <;> rfl)) | (simp [*, errW_none, errW_some] <;> rfl), dB⟩
def near_wayC1.f (a0 : Bool) (a1 : Bool) (a2 : Int) : Option (Bool) := if a2 = 3 then (some true) else (if a2 = 2 then (some a1) else (some false))
set_option maxHeartbeats 8000000 in
set_option maxRecDepth 100000 in
theorem near_wayC1.calls (a0 : Bool) (a1 : Bool) (a2 : Int) (r : Bool) (w : World) (h : near_wayC1.f a0 a1 a2 = some r) :
  Calls Tryd.prog 105 #[.bool a0, .bool a1, .int .i64 a2] w fun e w' => e = .returned (.bool r) ∧ Drawn0 w w' := by
 have H := h
 clear h
 unfold near_wayC1.f at H
 by_cases c4 : a2 = 3
 ·rw [if_pos c4] at H
  obtain ⟨c4b0, c4b1⟩ := bT c4
  clear c4
  obtain rfl := Option.some.inj H
  go_enter Tryd.func105, Tryd.ntmps105
  go_wp2
  go_ret
  exact ⟨dF, dD⟩
 ·rw [if_neg c4] at H
  obtain ⟨c4b0, c4b1⟩ := bF c4
  by_cases c5 : a2 = 2
  ·rw [if_pos c5] at H
   obtain ⟨c5b0, c5b1⟩ := bT c5
   clear c5
   obtain rfl := Option.some.inj H
   go_enter Tryd.func105, Tryd.ntmps105
   go_wp2
   go_ret
   exact ⟨dF, dD⟩
  ·rw [if_neg c5] at H
   obtain ⟨c5b0, c5b1⟩ := bF c5
   obtain rfl := Option.some.inj H
   go_enter Tryd.func105, Tryd.ntmps105
   go_wp2
   go_ret
   exact ⟨dF, dD⟩
def near_wayC2.f (a0 : Bool) (a1 : Bool) (a2 : Int) : Option (Bool) := some false
set_option maxHeartbeats 8000000 in
set_option maxRecDepth 100000 in
theorem near_wayC2.calls (a0 : Bool) (a1 : Bool) (a2 : Int) (r : Bool) (w : World) (h : near_wayC2.f a0 a1 a2 = some r) :
  Calls Tryd.prog 106 #[.bool a0, .bool a1, .int .i64 a2] w fun e w' => e = .returned (.bool r) ∧ Drawn0 w w' := by
 have H := h
 clear h
 unfold near_wayC2.f at H
 obtain rfl := Option.some.inj H
 go_enter Tryd.func106, Tryd.ntmps106
 go_wp2
 go_ret
 exact ⟨dF, dD⟩
def near_wayC3.f (a0 : Bool) (a1 : Bool) (a2 : Int) : Option (Bool) := some (a2 != 0)
set_option maxHeartbeats 8000000 in
set_option maxRecDepth 100000 in
theorem near_wayC3.calls (a0 : Bool) (a1 : Bool) (a2 : Int) (r : Bool) (w : World) (h : near_wayC3.f a0 a1 a2 = some r) :
  Calls Tryd.prog 107 #[.bool a0, .bool a1, .int .i64 a2] w fun e w' => e = .returned (.bool r) ∧ Drawn0 w w' := by
 have H := h
 clear h
 unfold near_wayC3.f at H
 obtain rfl := Option.some.inj H
 go_enter Tryd.func107, Tryd.ntmps107
 go_wp2
 go_ret
 exact ⟨dF, dD⟩
def near_wayC4.f (a0 : Bool) (a1 : Bool) (a2 : Int) : Option (Bool) := if a0 = true then (some false) else (some (a2 != 0))
set_option maxHeartbeats 8000000 in
set_option maxRecDepth 100000 in
theorem near_wayC4.calls (a0 : Bool) (a1 : Bool) (a2 : Int) (r : Bool) (w : World) (h : near_wayC4.f a0 a1 a2 = some r) :
  Calls Tryd.prog 108 #[.bool a0, .bool a1, .int .i64 a2] w fun e w' => e = .returned (.bool r) ∧ Drawn0 w w' := by
 have H := h
 clear h
 unfold near_wayC4.f at H
 by_cases c4 : a0 = true
 ·subst c4
  rw [if_pos rfl] at H
  (try dsimp only at H)
  obtain rfl := Option.some.inj H
  go_enter Tryd.func108, Tryd.ntmps108
  go_wp2
  go_ret
  exact ⟨dF, dD⟩
 ·replace c4 := Bool.eq_false_iff.mpr c4
  subst c4
  rw [if_neg (show ¬ (false = true) by decide)] at H
  (try dsimp only at H)
  obtain rfl := Option.some.inj H
  go_enter Tryd.func108, Tryd.ntmps108
  go_wp2
  go_ret
  exact ⟨dF, dD⟩
def near_wayC5.f (a0 : Bool) (a1 : Bool) (a2 : Int) : Option (Bool) := if a0 = true then (some (a2 != 0)) else (some false)
set_option maxHeartbeats 8000000 in
set_option maxRecDepth 100000 in
theorem near_wayC5.calls (a0 : Bool) (a1 : Bool) (a2 : Int) (r : Bool) (w : World) (h : near_wayC5.f a0 a1 a2 = some r) :
  Calls Tryd.prog 109 #[.bool a0, .bool a1, .int .i64 a2] w fun e w' => e = .returned (.bool r) ∧ Drawn0 w w' := by
 have H := h
 clear h
 unfold near_wayC5.f at H
 by_cases c4 : a0 = true
 ·subst c4
  rw [if_pos rfl] at H
  (try dsimp only at H)
  obtain rfl := Option.some.inj H
  go_enter Tryd.func109, Tryd.ntmps109
  go_wp2
  go_ret
  exact ⟨dF, dD⟩
 ·replace c4 := Bool.eq_false_iff.mpr c4
  subst c4
  rw [if_neg (show ¬ (false = true) by decide)] at H
  (try dsimp only at H)
  obtain rfl := Option.some.inj H
  go_enter Tryd.func109, Tryd.ntmps109
  go_wp2
  go_ret
  exact ⟨dF, dD⟩
def near_way.f (a0 : Int) (a1 : Bool) (a2 : Bool) (a3 : Int) : Option (Bool) := if a0 = 0 then ((near_wayC1.f a1 a2 a3).bind fun t153 => (some t153)) else (if a0 = 1 then ((near_wayC2.f a1 a2 a3).bind fun t154 => (some t154)) else (if a0 = 2 then ((near_wayC3.f a1 a2 a3).bind fun t155 => (some t155)) else (if a0 = 3 then ((near_wayC4.f a1 a2 a3).bind fun t156 => (some t156)) else ((near_wayC5.f a1 a2 a3).bind fun t157 => (some t157)))))
def near_wayfn (m : Int) : Nat := if m = 0 then 105 else if m = 1 then 106 else if m = 2 then 107 else if m = 3 then 108 else 109
theorem near_way.enters (m : Int) (args : Array Value) (w : World) : (callFunc (near_wayfn m) args).run Tryd.prog w = .ok (.enter (near_wayfn m) args) w := by
 unfold near_wayfn
 by_cases c0 : m = 0
 ·rw [if_pos c0]; exact enters_ Tryd.func105 (by kernel_rfl) rfl args w
 ·rw [if_neg c0]
  by_cases c1 : m = 1
  ·rw [if_pos c1]; exact enters_ Tryd.func106 (by kernel_rfl) rfl args w
  ·rw [if_neg c1]
   by_cases c2 : m = 2
   ·rw [if_pos c2]; exact enters_ Tryd.func107 (by kernel_rfl) rfl args w
   ·rw [if_neg c2]
    by_cases c3 : m = 3
    ·rw [if_pos c3]; exact enters_ Tryd.func108 (by kernel_rfl) rfl args w
    ·rw [if_neg c3]; exact enters_ Tryd.func109 (by kernel_rfl) rfl args w
theorem near_way.callsF (m : Int) (a0 a1 : Bool) (a2 : Int) (r : Bool) (w : World) (h : near_way.f m a0 a1 a2 = some r) :
  Calls Tryd.prog (near_wayfn m) #[.bool a0, .bool a1, .int .i64 a2] w fun e w' => e = .returned (.bool r) ∧ Drawn0 w w' := by
 unfold near_way.f at h
 unfold near_wayfn
 by_cases c0 : m = 0
 ·rw [if_pos c0] at h ⊢
  obtain ⟨t, ht, h⟩ := Option.bind_eq_some_iff.mp h
  obtain rfl := Option.some.inj h
  exact near_wayC1.calls _ _ _ _ _ ht
 ·rw [if_neg c0] at h ⊢
  by_cases c1 : m = 1
  ·rw [if_pos c1] at h ⊢
   obtain ⟨t, ht, h⟩ := Option.bind_eq_some_iff.mp h
   obtain rfl := Option.some.inj h
   exact near_wayC2.calls _ _ _ _ _ ht
  ·rw [if_neg c1] at h ⊢
   by_cases c2 : m = 2
   ·rw [if_pos c2] at h ⊢
    obtain ⟨t, ht, h⟩ := Option.bind_eq_some_iff.mp h
    obtain rfl := Option.some.inj h
    exact near_wayC3.calls _ _ _ _ _ ht
   ·rw [if_neg c2] at h ⊢
    by_cases c3 : m = 3
    ·rw [if_pos c3] at h ⊢
     obtain ⟨t, ht, h⟩ := Option.bind_eq_some_iff.mp h
     obtain rfl := Option.some.inj h
     exact near_wayC4.calls _ _ _ _ _ ht
    ·rw [if_neg c3] at h ⊢
     obtain ⟨t, ht, h⟩ := Option.bind_eq_some_iff.mp h
     obtain rfl := Option.some.inj h
     exact near_wayC5.calls _ _ _ _ _ ht
set_option maxRecDepth 100000 in
theorem near_way.calls (a0 : Int) (w : World) : Calls Tryd.prog 85 #[.int .i64 a0] w fun e w' => e = .returned (.agg #[.func (.func (near_wayfn a0)) #[] #[]]) ∧ Below w.heap.size w w' := by
 unfold near_wayfn
 by_cases c0 : a0 = 0
 ·rw [if_pos c0]
  have b0 : (a0 == 0) = true := beq_iff_eq.mpr c0
  clear c0
  go_enter Tryd.func85, Tryd.ntmps85
  go_wp2
  refine bodyPost_ret (results_cell_row rfl _ _ w.heap.size 110 #[.func (.func 105) #[] #[]] (0, 0) _ rfl (by first | exact blk_new w _ | (simp; done)) (by exact Tryd.underlying110) rfl (by kernel_rfl)) rfl ?_
  exact ⟨rfl, by repeat (first | exact Below.refl _ _ | apply below_alloc)⟩
 ·rw [if_neg c0]
  have b0 : (a0 == 0) = false := beq_eq_false_iff_ne.mpr c0
  clear c0
  by_cases c1 : a0 = 1
  ·rw [if_pos c1]
   have b1 : (a0 == 1) = true := beq_iff_eq.mpr c1
   clear c1
   go_enter Tryd.func85, Tryd.ntmps85
   go_wp2
   refine bodyPost_ret (results_cell_row rfl _ _ w.heap.size 110 #[.func (.func 106) #[] #[]] (0, 0) _ rfl (by first | exact blk_new w _ | (simp; done)) (by exact Tryd.underlying110) rfl (by kernel_rfl)) rfl ?_
   exact ⟨rfl, by repeat (first | exact Below.refl _ _ | apply below_alloc)⟩
  ·rw [if_neg c1]
   have b1 : (a0 == 1) = false := beq_eq_false_iff_ne.mpr c1
   clear c1
   by_cases c2 : a0 = 2
   ·rw [if_pos c2]
    have b2 : (a0 == 2) = true := beq_iff_eq.mpr c2
    clear c2
    go_enter Tryd.func85, Tryd.ntmps85
    go_wp2
    refine bodyPost_ret (results_cell_row rfl _ _ w.heap.size 110 #[.func (.func 107) #[] #[]] (0, 0) _ rfl (by first | exact blk_new w _ | (simp; done)) (by exact Tryd.underlying110) rfl (by kernel_rfl)) rfl ?_
    exact ⟨rfl, by repeat (first | exact Below.refl _ _ | apply below_alloc)⟩
   ·rw [if_neg c2]
    have b2 : (a0 == 2) = false := beq_eq_false_iff_ne.mpr c2
    clear c2
    by_cases c3 : a0 = 3
    ·rw [if_pos c3]
     have b3 : (a0 == 3) = true := beq_iff_eq.mpr c3
     clear c3
     go_enter Tryd.func85, Tryd.ntmps85
     go_wp2
     refine bodyPost_ret (results_cell_row rfl _ _ w.heap.size 110 #[.func (.func 108) #[] #[]] (0, 0) _ rfl (by first | exact blk_new w _ | (simp; done)) (by exact Tryd.underlying110) rfl (by kernel_rfl)) rfl ?_
     exact ⟨rfl, by repeat (first | exact Below.refl _ _ | apply below_alloc)⟩
    ·rw [if_neg c3]
     have b3 : (a0 == 3) = false := beq_eq_false_iff_ne.mpr c3
     clear c3
     go_enter Tryd.func85, Tryd.ntmps85
     go_wp2
     refine bodyPost_ret (results_cell_row rfl _ _ w.heap.size 110 #[.func (.func 109) #[] #[]] (0, 0) _ rfl (by first | exact blk_new w _ | (simp; done)) (by exact Tryd.underlying110) rfl (by kernel_rfl)) rfl ?_
     exact ⟨rfl, by repeat (first | exact Below.refl _ _ | apply below_alloc)⟩
theorem goesE_ {P : Program} {ops : Array Oper} {Q : Exit → Act → World → Prop} {rest : List Oper} {oi : Oper} {a : Act} {w : World} (N : Option Tmp) (hd : oi.dst = N) (hg : oi.guard = none) {f : FuncId} {xs : Array Operand} {ts : Array TypeId} {op0 : Operand} (args : Array Value)
  (he : (callFunc f args).run P w = .ok (.enter f args) w) (hop : oi.op = .call { callee := .value op0, args := xs, argTypes := ts }) (hv : a.eval op0 = .func (.func f) #[] #[]) (hargs : xs.map a.eval = args)
  (h : Calls P f args w fun e w' => ∃ v, e = .returned v ∧ wpList P ops Q rest (a.put N v) w') : wpList P ops Q (oi :: rest) a w := by
 refine wpList_plain hg fun K hK => ?_
 have hrun : (execOp a.eval oi).run P w = .ok (.enter f args) w := by
  unfold execOp
  simp [hop, resolve, Deferred.ofValue, invoke, hv, hargs, he]
 unfold Oper.wp
 rw [hrun, Oper.upon_enter]
 refine h.mono fun e w'' hh => ?_
 obtain ⟨v, rfl, hk⟩ := hh
 subst hd
 exact hK _ _ hk
def near_staysL : List (List Bool) := [[false, false], [true, true], [false, false], [false, true], [true, false]]
def near_stays.f (m s : Int) : Option Bool := if 0 ≤ m ∧ m < 5 ∧ 0 ≤ s ∧ s < 2 then some ((near_staysL.getD m.toNat []).getD s.toNat false) else none
def StaysLaid (w : World) : Prop := ∀ i j : Nat, i < 5 → j < 2 → w.cell? ⟨0, 2 * i + j, none⟩ = some (.bool ((near_staysL.getD i []).getD j false))
theorem StaysLaid.below {w w' : World} (h : StaysLaid w) (hb : Below w.heap.size w w') : StaysLaid w' := fun i j hi hj => pw_cell_below hb (h i j hi hj)
theorem StaysLaid.at_ {w : World} (h : StaysLaid w) {m s : Int} {t : Bool} (e : near_stays.f m s = some t) : 0 ≤ m ∧ m < 5 ∧ 0 ≤ s ∧ s < 2 ∧ w.cell? ⟨0, m.toNat * 2 + s.toNat, none⟩ = some (.bool t) := by
 unfold near_stays.f at e
 split at e
 ·rename_i hc
  obtain rfl := Option.some.inj e
  have z := h m.toNat s.toNat (by omega) (by omega)
  rw [Nat.mul_comm] at z
  exact ⟨hc.1, hc.2.1, hc.2.2.1, hc.2.2.2, z⟩
 ·cases e
mutual
def near_finish.j0 : Nat → Bool → Int → Int → Bool → Int → Int → Int → Option (Int × Int)
 | 0, _, _, _, _, _, _, _ => none
 | k + 1, x0, x1, x2, x3, x4, x12, x13 => if x1 = 0 then (near_finish.j1 k x0 x1 x2 x3 x4 x12 x13 (!x3)) else (near_finish.j1 k x0 x1 x2 x3 x4 x12 x13 false)
def near_finish.j1 : Nat → Bool → Int → Int → Bool → Int → Int → Int → Bool → Option (Int × Int)
 | 0, _, _, _, _, _, _, _, _ => none
 | k + 1, x0, x1, x2, x3, x4, x12, x13, x25 => if x25 = true then (some (x12, 0)) else ((wide_Len.f k x1).bind fun t160 => (if x1 = 0 then (near_finish.j2 k x0 x1 x2 x3 x4 x12 x13 (-1074)) else (near_finish.j2 k x0 x1 x2 x3 x4 x12 x13 (mx (wrap64 ((wrap64 (x2 + t160)) - 53)) (-1074)))))
def near_finish.j2 : Nat → Bool → Int → Int → Bool → Int → Int → Int → Int → Option (Int × Int)
 | 0, _, _, _, _, _, _, _, _ => none
 | k + 1, x0, x1, x2, x3, x4, x12, x13, x14 => if x14 > x2 then ((near_cut.f k x1 (wrap64 (x14 - x2))).bind fun bt161 => (near_finish.j3 k x0 bt161.1 x3 x4 x12 x13 x14 bt161.2)) else (if x1 = 0 then (near_finish.j3 k x0 x1 x3 x4 x12 x13 x14 0) else (if 0 ≤ (wrap64 (x2 - x14)) then (near_finish.j3 k x0 (shl .u64 x1 (wrap64 (x2 - x14))) x3 x4 x12 x13 x14 0) else (none)))
def near_finish.j3 : Nat → Bool → Int → Bool → Int → Int → Int → Int → Int → Option (Int × Int)
 | 0, _, _, _, _, _, _, _, _ => none
 | k + 1, x0, x1, x3, x4, x12, x13, x14, x15 => if x3 = true then (if x15 = 0 then (near_finish.j4 k x0 x1 x4 x12 x13 x14 x15 true) else (near_finish.j4 k x0 x1 x4 x12 x13 x14 x15 (x15 == 2))) else (near_finish.j4 k x0 x1 x4 x12 x13 x14 x15 false)
def near_finish.j4 : Nat → Bool → Int → Int → Int → Int → Int → Int → Bool → Option (Int × Int)
 | 0, _, _, _, _, _, _, _, _ => none
 | k + 1, x0, x1, x4, x12, x13, x14, x15, x61 => if x61 = true then (near_finish.j5 k x0 x1 x4 x12 x13 x14 (wrap64 (x15 + 1))) else (near_finish.j5 k x0 x1 x4 x12 x13 x14 x15)
def near_finish.j5 : Nat → Bool → Int → Int → Int → Int → Int → Int → Option (Int × Int)
 | 0, _, _, _, _, _, _, _ => none
 | k + 1, x0, x1, x4, x12, x13, x14, x15 => (near_way.f x4 x0 ((Go.bits .and .u64 x1 1) == 1) x15).bind fun t163 => (if t163 = true then (near_finish.j6 k x0 (IntKind.u64.wrap (x1 + 1)) x4 x12 x13 x14) else (near_finish.j6 k x0 x1 x4 x12 x13 x14))
def near_finish.j6 : Nat → Bool → Int → Int → Int → Int → Int → Option (Int × Int)
 | 0, _, _, _, _, _, _ => none
 | k + 1, x0, x1, x4, x12, x13, x14 => if x1 = 9007199254740992 then (near_finish.j7 k x0 4503599627370496 x4 x12 x13 (wrap64 (x14 + 1))) else (near_finish.j7 k x0 x1 x4 x12 x13 x14)
def near_finish.j7 : Nat → Bool → Int → Int → Int → Int → Int → Option (Int × Int)
 | 0, _, _, _, _, _, _ => none
 | k + 1, x0, x1, x4, x12, x13, x14 => if x14 > 971 then ((near_stays.f x4 x13).bind fun t164 => (if t164 = true then (some (Go.bits .or .u64 x12 9218868437227405311, 0)) else (some (0, 70)))) else ((f64_Join.f k x0 x1 x14).bind fun bt165 => (some (bt165.1, 0)))
end
def near_finish.f (k : Nat) (a0 : Bool) (a1 : Int) (a2 : Int) (a3 : Bool) (a4 : Int) : Option (Int × Int) := if a0 = true then (near_finish.j0 k a0 a1 a2 a3 a4 9223372036854775808 1) else (near_finish.j0 k a0 a1 a2 a3 a4 0 0)
theorem near_finish.mono_l : ∀ k, (∀ y0 y1 y2 y3 y4 y5 y6, LeO (near_finish.j0 k y0 y1 y2 y3 y4 y5 y6) (near_finish.j0 (k + 1) y0 y1 y2 y3 y4 y5 y6)) ∧ (∀ y0 y1 y2 y3 y4 y5 y6 y7, LeO (near_finish.j1 k y0 y1 y2 y3 y4 y5 y6 y7) (near_finish.j1 (k + 1) y0 y1 y2 y3 y4 y5 y6 y7)) ∧ (∀ y0 y1 y2 y3 y4 y5 y6 y7, LeO (near_finish.j2 k y0 y1 y2 y3 y4 y5 y6 y7) (near_finish.j2 (k + 1) y0 y1 y2 y3 y4 y5 y6 y7)) ∧ (∀ y0 y1 y2 y3 y4 y5 y6 y7, LeO (near_finish.j3 k y0 y1 y2 y3 y4 y5 y6 y7) (near_finish.j3 (k + 1) y0 y1 y2 y3 y4 y5 y6 y7)) ∧ (∀ y0 y1 y2 y3 y4 y5 y6 y7, LeO (near_finish.j4 k y0 y1 y2 y3 y4 y5 y6 y7) (near_finish.j4 (k + 1) y0 y1 y2 y3 y4 y5 y6 y7)) ∧ (∀ y0 y1 y2 y3 y4 y5 y6, LeO (near_finish.j5 k y0 y1 y2 y3 y4 y5 y6) (near_finish.j5 (k + 1) y0 y1 y2 y3 y4 y5 y6)) ∧ (∀ y0 y1 y2 y3 y4 y5, LeO (near_finish.j6 k y0 y1 y2 y3 y4 y5) (near_finish.j6 (k + 1) y0 y1 y2 y3 y4 y5)) ∧ (∀ y0 y1 y2 y3 y4 y5, LeO (near_finish.j7 k y0 y1 y2 y3 y4 y5) (near_finish.j7 (k + 1) y0 y1 y2 y3 y4 y5))
 | 0 => ⟨fun _ _ _ _ _ _ _ r h => by simp [near_finish.j0] at h, fun _ _ _ _ _ _ _ _ r h => by simp [near_finish.j1] at h, fun _ _ _ _ _ _ _ _ r h => by simp [near_finish.j2] at h, fun _ _ _ _ _ _ _ _ r h => by simp [near_finish.j3] at h, fun _ _ _ _ _ _ _ _ r h => by simp [near_finish.j4] at h, fun _ _ _ _ _ _ _ r h => by simp [near_finish.j5] at h, fun _ _ _ _ _ _ r h => by simp [near_finish.j6] at h, fun _ _ _ _ _ _ r h => by simp [near_finish.j7] at h⟩
 | k + 1 => by
  obtain ⟨ih0, ih1, ih2, ih3, ih4, ih5, ih6, ih7⟩ := near_finish.mono_l k
  refine ⟨?_, ?_, ?_, ?_, ?_, ?_, ?_, ?_⟩
  ·intro y0 y1 y2 y3 y4 y5 y6
   unfold near_finish.j0
   have m0_ := f64_Join.mono
   have m1_ := near_cut.mono
   have m2_ := wide_Len.mono
   exact mX
  ·intro y0 y1 y2 y3 y4 y5 y6 y7
   unfold near_finish.j1
   have m0_ := f64_Join.mono
   have m1_ := near_cut.mono
   have m2_ := wide_Len.mono
   exact mX
  ·intro y0 y1 y2 y3 y4 y5 y6 y7
   unfold near_finish.j2
   have m0_ := f64_Join.mono
   have m1_ := near_cut.mono
   have m2_ := wide_Len.mono
   exact mX
  ·intro y0 y1 y2 y3 y4 y5 y6 y7
   unfold near_finish.j3
   have m0_ := f64_Join.mono
   have m1_ := near_cut.mono
   have m2_ := wide_Len.mono
   exact mX
  ·intro y0 y1 y2 y3 y4 y5 y6 y7
   unfold near_finish.j4
   have m0_ := f64_Join.mono
   have m1_ := near_cut.mono
   have m2_ := wide_Len.mono
   exact mX
  ·intro y0 y1 y2 y3 y4 y5 y6
   unfold near_finish.j5
   have m0_ := f64_Join.mono
   have m1_ := near_cut.mono
   have m2_ := wide_Len.mono
   exact mX
  ·intro y0 y1 y2 y3 y4 y5
   unfold near_finish.j6
   have m0_ := f64_Join.mono
   have m1_ := near_cut.mono
   have m2_ := wide_Len.mono
   exact mX
  ·intro y0 y1 y2 y3 y4 y5
   unfold near_finish.j7
   have m0_ := f64_Join.mono
   have m1_ := near_cut.mono
   have m2_ := wide_Len.mono
   exact mX
theorem near_finish.mono : ∀ a0 a1 a2 a3 a4 k, LeO (near_finish.f k a0 a1 a2 a3 a4) (near_finish.f (k + 1) a0 a1 a2 a3 a4) := by
 intro a0 a1 a2 a3 a4 k
 obtain ⟨ih0, ih1, ih2, ih3, ih4, ih5, ih6, ih7⟩ := near_finish.mono_l k
 unfold near_finish.f
 have m0_ := f64_Join.mono
 have m1_ := near_cut.mono
 have m2_ := wide_Len.mono
 exact mX
set_option maxHeartbeats 8000000 in
set_option maxRecDepth 100000 in
theorem near_finish.calls (k : Nat) (a0 : Bool) (a1 : Int) (a2 : Int) (a3 : Bool) (a4 : Int) (r1 : Int) (r2 : Int) (w : World) (h : near_finish.f k a0 a1 a2 a3 a4 = some (r1, r2)) (hS : StaysLaid w := by first | exact HS.out | exact hS | exact StaysLaid.below HS.out HB.out | exact StaysLaid.below HS.out dB) :
  Calls Tryd.prog 46 #[.bool a0, .int .u64 a1, .int .i64 a2, .bool a3, .int .i64 a4] w fun e w' => e = .returned (.tuple #[.int .u64 r1, .int .i64 r2]) ∧ Below w.heap.size w w' := by
 have HS := aM (show StaysLaid w from hS)
 clear hS
 have HB := aM (Below.refl w.heap.size w)
 have H := h
 clear h
 unfold near_finish.f at H
 have HC6 := aM H
 clear H
 go_enter Tryd.func46, Tryd.ntmps46
 go_upto_if 19 with (fail)
 go_cut [12, 13] (fun v12 v13 wc => ∃ (kq : Nat) (x12_5 : Int) (x13_5 : Int), v12 = .int .u64 x12_5 ∧ v13 = .int .i64 x13_5 ∧ Aside0 (near_finish.j0 kq a0 a1 a2 a3 a4 x12_5 x13_5 = some (r1, r2)) ∧ Aside0 (kq ≤ k) ∧ Aside0 (Below w.heap.size w wc))
 case first =>
  have H := HC6.out
  clear HC6
  by_cases c7 : a0 = true
  ·subst c7
   rw [if_pos rfl] at H
   (try dsimp only at H)
   have H' := aM H
   clear H
   go_wp2
   go_meet
   case rel => exact ⟨_, (9223372036854775808), (1), dF, dF, H', ⟨dN⟩, ⟨dB⟩⟩
  ·replace c7 := Bool.eq_false_iff.mpr c7
   subst c7
   rw [if_neg (show ¬ (false = true) by decide)] at H
   (try dsimp only at H)
   have H' := aM H
   clear H
   go_wp2
   go_meet
   case rel => exact ⟨_, (0), (0), dF, dF, H', ⟨dN⟩, ⟨dB⟩⟩
 case rest =>
  clear HC6
  obtain ⟨kq, x12_5, x13_5, rfl, rfl, HA, HJ5, HB⟩ := hcut
  cases kq with
  | zero => exact absurd HA.out (by simp [near_finish.j0])
  | succ kj5 =>
   have H := HA.out
   clear HA
   simp only [near_finish.j0] at H
   have HC8 := aM H
   clear H
   go_upto_region 4 with (fail)
   go_cut [25] (fun v25 wc => ∃ (kq : Nat) (x25_7 : Bool), v25 = .bool x25_7 ∧ Aside0 (near_finish.j1 kq a0 a1 a2 a3 a4 x12_5 x13_5 x25_7 = some (r1, r2)) ∧ Aside0 (kq ≤ kj5) ∧ Aside0 (Below w.heap.size w wc))
   case first =>
    have H := HC8.out
    clear HC8
    by_cases c9 : a1 = 0
    ·rw [if_pos c9] at H
     obtain ⟨c9b0, c9b1⟩ := bT c9
     clear c9
     (first | rw [c9b0] | (simp only [i64_w, i32_w]; rw [c9b0]) | skip)
     have H' := aM H
     clear H
     go_wp2
     go_meet
     case rel => exact ⟨_, (!a3), dF, H', ⟨by have := HJ5.out; first | omega | exact Nat.le_refl _⟩, ⟨dB⟩⟩
    ·rw [if_neg c9] at H
     obtain ⟨c9b0, c9b1⟩ := bF c9
     (first | rw [c9b0] | (simp only [i64_w, i32_w]; rw [c9b0]) | skip)
     have H' := aM H
     clear H
     go_wp2
     go_meet
     case rel => exact ⟨_, (false), dF, H', ⟨by have := HJ5.out; first | omega | exact Nat.le_refl _⟩, ⟨dB⟩⟩
   case rest =>
    clear HC8
    obtain ⟨kq, x25_7, rfl, HA, HJ7, HB⟩ := hcut
    cases kq with
    | zero => exact absurd HA.out (by simp [near_finish.j1])
    | succ kj7 =>
     have H := HA.out
     clear HA
     simp only [near_finish.j1] at H
     by_cases c10 : x25_7 = true
     ·subst c10
      rw [if_pos rfl] at H
      (try dsimp only at H)
      simp only [Option.some.injEq, Prod.mk.injEq] at H
      obtain ⟨rfl, rfl⟩ := H
      go_wp2
      go_ret2
      exact ⟨dE, dB⟩
     ·replace c10 := Bool.eq_false_iff.mpr c10
      subst c10
      rw [if_neg (show ¬ (false = true) by decide)] at H
      (try dsimp only at H)
      replace H := oA H
      obtain ⟨t160, A11, H⟩ := H
      (try dsimp only at H)
      obtain ⟨ji12, hji12⟩ : ∃ j_ : Int, (mx (wrap64 ((wrap64 (a2 + t160)) - 53)) (-1074)) = j_ := ⟨_, rfl⟩
      first | rw [hji12] at H | simp only [hji12] at H
      (try rw [hji12] at A11)
      have hji12_ : (if (wrap64 ((wrap64 (a2 + t160)) - 53)) < (-1074) then (-1074) else (wrap64 ((wrap64 (a2 + t160)) - 53))) = ji12 := hji12
      have HC13 := aM H
      clear H
      go_upto_if 34 with (first | ((with_reducible refine gate_callee (f := 81) rfl ?_); refine gL (some 29) Tryd.func81 #[.int .u64 a1] ?_; (with_reducible refine (wide_Len.calls kj7 a1 t160 _ A11.out).mono ?_); rintro e w' ⟨rfl, ⟨nd, rfl⟩⟩; refine ⟨_, rfl, ?_⟩))
      (try simp only [Act.put, List.setIfInBounds_toArray, List.set_cons_zero, List.set_cons_succ])
      go_cut [14] (fun v14 wc => ∃ (kq : Nat) (x14_12 : Int), v14 = .int .i64 x14_12 ∧ Aside0 (near_finish.j2 kq a0 a1 a2 a3 a4 x12_5 x13_5 x14_12 = some (r1, r2)) ∧ Aside0 (kq ≤ kj7) ∧ Aside0 (Below w.heap.size w wc))
      case first =>
       have H := HC13.out
       clear HC13
       by_cases c14 : a1 = 0
       ·rw [if_pos c14] at H
        obtain ⟨c14b0, c14b1⟩ := bT c14
        clear c14
        (first | rw [c14b0] | (simp only [i64_w, i32_w]; rw [c14b0]) | skip)
        have H' := aM H
        clear H
        go_wp2
        go_meet
        case rel => exact ⟨_, ((-1074)), dF, H', ⟨by have := HJ5.out; have := HJ7.out; first | omega | exact Nat.le_refl _⟩, ⟨dB⟩⟩
       ·rw [if_neg c14] at H
        obtain ⟨c14b0, c14b1⟩ := bF c14
        (first | rw [c14b0] | (simp only [i64_w, i32_w]; rw [c14b0]) | skip)
        have H' := aM H
        clear H
        go_wp2
        go_meet
        case rel => exact ⟨_, (ji12), (by first | rfl | (simp; done) | (simp only [← hji12] <;> (first | rfl | simp)) | (simp [*]; done)), H', ⟨by have := HJ5.out; have := HJ7.out; first | omega | exact Nat.le_refl _⟩, ⟨dB⟩⟩
      case rest =>
       clear HC13
       try clear c10
       obtain ⟨kq, x14_12, rfl, HA, HJ12, HB⟩ := hcut
       cases kq with
       | zero => exact absurd HA.out (by simp [near_finish.j2])
       | succ kj12 =>
        have H := HA.out
        clear HA
        simp only [near_finish.j2] at H
        have HC15 := aM H
        clear H
        go_upto_if 37 with (fail)
        go_cut [1, 15] (fun v1 v15 wc => ∃ (kq : Nat) (x1_14 : Int) (x15_14 : Int), v1 = .int .u64 x1_14 ∧ v15 = .int .i64 x15_14 ∧ Aside0 (near_finish.j3 kq a0 x1_14 a3 a4 x12_5 x13_5 x14_12 x15_14 = some (r1, r2)) ∧ Aside0 (kq ≤ kj12) ∧ Aside0 (Below w.heap.size w wc))
        case first =>
         have H := HC15.out
         clear HC15
         by_cases c16 : x14_12 > a2
         ·rw [if_pos c16] at H
          have c16b0 : decide (a2 < x14_12) = true := decide_eq_true c16
          clear c16
          (first | rw [c16b0] | (simp only [i64_w, i32_w]; rw [c16b0]) | skip)
          replace H := oA H
          obtain ⟨⟨t161, t162⟩, A17, H⟩ := H
          (try dsimp only at H)
          have H' := aM H
          clear H
          go_wp2_with (first | ((with_reducible refine gate_callee (f := 84) rfl ?_); refine gL (some 43) Tryd.func84 #[.int .u64 a1, .int .i64 (wrap64 (x14_12 - a2))] ?_; (with_reducible refine (near_cut.calls kj12 a1 (wrap64 (x14_12 - a2)) t161 t162 _ A17.out).mono ?_); rintro e w18 ⟨rfl, hb⟩; refine ⟨_, rfl, ?_⟩; replace HB := hS HB.out hb; (try clear hb)))
          go_meet
          case rel => exact ⟨_, (t161), (t162), dF, dF, H', ⟨by have := HJ5.out; have := HJ7.out; have := HJ12.out; first | omega | exact Nat.le_refl _⟩, ⟨dB⟩⟩
         ·rw [if_neg c16] at H
          have c16b0 : decide (a2 < x14_12) = false := decide_eq_false c16
          clear c16
          (first | rw [c16b0] | (simp only [i64_w, i32_w]; rw [c16b0]) | skip)
          by_cases c19 : a1 = 0
          ·rw [if_pos c19] at H
           obtain ⟨c19b0, c19b1⟩ := bT c19
           clear c19
           have H' := aM H
           clear H
           go_wp2
           go_meet
           case rel => exact ⟨_, (a1), (0), dF, dF, H', ⟨by have := HJ5.out; have := HJ7.out; have := HJ12.out; first | omega | exact Nat.le_refl _⟩, ⟨dB⟩⟩
          ·rw [if_neg c19] at H
           obtain ⟨c19b0, c19b1⟩ := bF c19
           obtain ⟨ji20, hji20⟩ : ∃ j_ : Int, (wrap64 (a2 - x14_12)) = j_ := ⟨_, rfl⟩
           first | rw [hji20] at H | simp only [hji20] at H
           have hji20w : (IntKind.i64.wrap (a2 - x14_12)) = ji20 := (i64_w _).trans hji20
           replace H := nO H
           obtain ⟨c21, H⟩ := H
           have c21b0 := eq_true c21
           have c21b1 : decide (0 ≤ (ji20)) = true := decide_eq_true c21
           clear c21
           obtain ⟨ji22, hji22⟩ : ∃ j_ : Int, (shl .u64 a1 (ji20)) = j_ := ⟨_, rfl⟩
           first | rw [hji22] at H | simp only [hji22] at H
           have hji22_ : (IntKind.u64.wrap (a1 * 2 ^ min (ji20).toNat 64)) = ji22 := hji22
           have hji22z : (ji20) ≤ 64 → (IntKind.u64.wrap (a1 * 2 ^ (ji20).toNat)) = ji22 := shl_small hji22
           have H' := aM H
           clear H
           go_wp2
           go_meet
           case rel => exact ⟨_, (ji22), (0), (by first | rfl | (simp; done) | (simp only [← hji22] <;> (first | rfl | simp)) | (simp [*]; done)), dF, H', ⟨by have := HJ5.out; have := HJ7.out; have := HJ12.out; first | omega | exact Nat.le_refl _⟩, ⟨dB⟩⟩
        case rest =>
         clear HC15
         try clear c10
         obtain ⟨kq, x1_14, x15_14, rfl, rfl, HA, HJ14, HB⟩ := hcut
         cases kq with
         | zero => exact absurd HA.out (by simp [near_finish.j3])
         | succ kj14 =>
          have H := HA.out
          clear HA
          simp only [near_finish.j3] at H
          have HC23 := aM H
          clear H
          go_upto_region 14 with (fail)
          go_cut [61] (fun v61 wc => ∃ (kq : Nat) (x61_22 : Bool), v61 = .bool x61_22 ∧ Aside0 (near_finish.j4 kq a0 x1_14 a4 x12_5 x13_5 x14_12 x15_14 x61_22 = some (r1, r2)) ∧ Aside0 (kq ≤ kj14) ∧ Aside0 (Below w.heap.size w wc))
          case first =>
           have H := HC23.out
           clear HC23
           by_cases c24 : a3 = true
           ·subst c24
            rw [if_pos rfl] at H
            (try dsimp only at H)
            by_cases c25 : x15_14 = 0
            ·rw [if_pos c25] at H
             obtain ⟨c25b0, c25b1⟩ := bT c25
             clear c25
             (first | rw [c25b0] | (simp only [i64_w, i32_w]; rw [c25b0]) | skip)
             have H' := aM H
             clear H
             go_wp2
             go_meet
             case rel => exact ⟨_, (true), dF, H', ⟨by have := HJ5.out; have := HJ7.out; have := HJ12.out; have := HJ14.out; first | omega | exact Nat.le_refl _⟩, ⟨dB⟩⟩
            ·rw [if_neg c25] at H
             obtain ⟨c25b0, c25b1⟩ := bF c25
             (first | rw [c25b0] | (simp only [i64_w, i32_w]; rw [c25b0]) | skip)
             have H' := aM H
             clear H
             go_wp2
             go_meet
             case rel => exact ⟨_, ((x15_14 == 2)), dF, H', ⟨by have := HJ5.out; have := HJ7.out; have := HJ12.out; have := HJ14.out; first | omega | exact Nat.le_refl _⟩, ⟨dB⟩⟩
           ·replace c24 := Bool.eq_false_iff.mpr c24
            subst c24
            rw [if_neg (show ¬ (false = true) by decide)] at H
            (try dsimp only at H)
            have H' := aM H
            clear H
            go_wp2
            go_meet
            case rel => exact ⟨_, (false), dF, H', ⟨by have := HJ5.out; have := HJ7.out; have := HJ12.out; have := HJ14.out; first | omega | exact Nat.le_refl _⟩, ⟨dB⟩⟩
          case rest =>
           clear HC23
           try clear c10
           obtain ⟨kq, x61_22, rfl, HA, HJ22, HB⟩ := hcut
           cases kq with
           | zero => exact absurd HA.out (by simp [near_finish.j4])
           | succ kj22 =>
            have H := HA.out
            clear HA
            simp only [near_finish.j4] at H
            have HC26 := aM H
            clear H
            go_upto_if 61 with (fail)
            go_cut [15] (fun v15 wc => ∃ (kq : Nat) (x15_25 : Int), v15 = .int .i64 x15_25 ∧ Aside0 (near_finish.j5 kq a0 x1_14 a4 x12_5 x13_5 x14_12 x15_25 = some (r1, r2)) ∧ Aside0 (kq ≤ kj22) ∧ Aside0 (Below w.heap.size w wc))
            case first =>
             have H := HC26.out
             clear HC26
             by_cases c27 : x61_22 = true
             ·subst c27
              rw [if_pos rfl] at H
              (try dsimp only at H)
              have H' := aM H
              clear H
              go_wp2
              go_meet
              case rel => exact ⟨_, (wrap64 (x15_14 + 1)), dF, H', ⟨by have := HJ5.out; have := HJ7.out; have := HJ12.out; have := HJ14.out; have := HJ22.out; first | omega | exact Nat.le_refl _⟩, ⟨dB⟩⟩
             ·replace c27 := Bool.eq_false_iff.mpr c27
              subst c27
              rw [if_neg (show ¬ (false = true) by decide)] at H
              (try dsimp only at H)
              have H' := aM H
              clear H
              go_wp2
              go_meet
              case rel => exact ⟨_, (x15_14), dF, H', ⟨by have := HJ5.out; have := HJ7.out; have := HJ12.out; have := HJ14.out; have := HJ22.out; first | omega | exact Nat.le_refl _⟩, ⟨dB⟩⟩
            case rest =>
             clear HC26
             try clear c10
             obtain ⟨kq, x15_25, rfl, HA, HJ25, HB⟩ := hcut
             cases kq with
             | zero => exact absurd HA.out (by simp [near_finish.j5])
             | succ kj25 =>
              have H := HA.out
              clear HA
              simp only [near_finish.j5] at H
              replace H := oA H
              obtain ⟨t163, A28, H⟩ := H
              (try dsimp only at H)
              have HC29 := aM H
              clear H
              go_upto_if 73 with (first | ((with_reducible refine gate_callee (f := 85) rfl ?_); refine gL (some 65) Tryd.func85 #[.int .i64 a4] ?_; (with_reducible refine (near_way.calls a4 _).mono ?_); rintro e w999 ⟨rfl, hb⟩; refine ⟨_, rfl, ?_⟩; replace HB := hS HB.out hb; (try clear hb)) | ((with_reducible refine gate_dst (N := 73) rfl ?_); refine goesE_ (some 73) rfl rfl (f := near_wayfn a4) #[.bool a0, .bool ((Go.bits .and .u64 x1_14 1) == 1), .int .i64 x15_25] (near_way.enters a4 _ _) rfl (by first | rfl | (go_simp; done)) dA ?_; (with_reducible refine (near_way.callsF a4 a0 ((Go.bits .and .u64 x1_14 1) == 1) x15_25 t163 _ A28.out).mono ?_); rintro e w' ⟨rfl, ⟨nd, rfl⟩⟩; refine ⟨_, rfl, ?_⟩))
              (try simp only [Act.put, List.setIfInBounds_toArray, List.set_cons_zero, List.set_cons_succ])
              go_cut [1] (fun v1 wc => ∃ (kq : Nat) (x1_28 : Int), v1 = .int .u64 x1_28 ∧ Aside0 (near_finish.j6 kq a0 x1_28 a4 x12_5 x13_5 x14_12 = some (r1, r2)) ∧ Aside0 (kq ≤ kj25) ∧ Aside0 (Below w.heap.size w wc))
              case first =>
               have H := HC29.out
               clear HC29
               by_cases c30 : t163 = true
               ·subst c30
                rw [if_pos rfl] at H
                (try dsimp only at H)
                have H' := aM H
                clear H
                go_wp2
                go_meet
                case rel => exact ⟨_, (IntKind.u64.wrap (x1_14 + 1)), dF, H', ⟨by have := HJ5.out; have := HJ7.out; have := HJ12.out; have := HJ14.out; have := HJ22.out; have := HJ25.out; first | omega | exact Nat.le_refl _⟩, ⟨dB⟩⟩
               ·replace c30 := Bool.eq_false_iff.mpr c30
                subst c30
                rw [if_neg (show ¬ (false = true) by decide)] at H
                (try dsimp only at H)
                have H' := aM H
                clear H
                go_wp2
                go_meet
                case rel => exact ⟨_, (x1_14), dF, H', ⟨by have := HJ5.out; have := HJ7.out; have := HJ12.out; have := HJ14.out; have := HJ22.out; have := HJ25.out; first | omega | exact Nat.le_refl _⟩, ⟨dB⟩⟩
              case rest =>
               clear HC29
               try clear c10
               obtain ⟨kq, x1_28, rfl, HA, HJ28, HB⟩ := hcut
               cases kq with
               | zero => exact absurd HA.out (by simp [near_finish.j6])
               | succ kj28 =>
                have H := HA.out
                clear HA
                simp only [near_finish.j6] at H
                have HC31 := aM H
                clear H
                go_upto_if 77 with (fail)
                go_cut [1, 14] (fun v1 v14 wc => ∃ (kq : Nat) (x1_30 : Int) (x14_30 : Int), v1 = .int .u64 x1_30 ∧ v14 = .int .i64 x14_30 ∧ Aside0 (near_finish.j7 kq a0 x1_30 a4 x12_5 x13_5 x14_30 = some (r1, r2)) ∧ Aside0 (kq ≤ kj28) ∧ Aside0 (Below w.heap.size w wc))
                case first =>
                 have H := HC31.out
                 clear HC31
                 by_cases c32 : x1_28 = 9007199254740992
                 ·rw [if_pos c32] at H
                  obtain ⟨c32b0, c32b1⟩ := bT c32
                  clear c32
                  (first | rw [c32b0] | (simp only [i64_w, i32_w]; rw [c32b0]) | skip)
                  have H' := aM H
                  clear H
                  go_wp2
                  go_meet
                  case rel => exact ⟨_, (4503599627370496), (wrap64 (x14_12 + 1)), dF, dF, H', ⟨by have := HJ5.out; have := HJ7.out; have := HJ12.out; have := HJ14.out; have := HJ22.out; have := HJ25.out; have := HJ28.out; first | omega | exact Nat.le_refl _⟩, ⟨dB⟩⟩
                 ·rw [if_neg c32] at H
                  obtain ⟨c32b0, c32b1⟩ := bF c32
                  (first | rw [c32b0] | (simp only [i64_w, i32_w]; rw [c32b0]) | skip)
                  have H' := aM H
                  clear H
                  go_wp2
                  go_meet
                  case rel => exact ⟨_, (x1_28), (x14_12), dF, dF, H', ⟨by have := HJ5.out; have := HJ7.out; have := HJ12.out; have := HJ14.out; have := HJ22.out; have := HJ25.out; have := HJ28.out; first | omega | exact Nat.le_refl _⟩, ⟨dB⟩⟩
                case rest =>
                 clear HC31
                 try clear c10
                 obtain ⟨kq, x1_30, x14_30, rfl, rfl, HA, HJ30, HB⟩ := hcut
                 cases kq with
                 | zero => exact absurd HA.out (by simp [near_finish.j7])
                 | succ kj30 =>
                  have H := HA.out
                  clear HA
                  simp only [near_finish.j7] at H
                  by_cases c33 : x14_30 > 971
                  ·rw [if_pos c33] at H
                   have c33b0 : decide (971 < x14_30) = true := decide_eq_true c33
                   clear c33
                   replace H := oA H
                   obtain ⟨t164, A34, H⟩ := H
                   (try dsimp only at H)
                   by_cases c35 : t164 = true
                   ·subst c35
                    rw [if_pos rfl] at H
                    (try dsimp only at H)
                    simp only [Option.some.injEq, Prod.mk.injEq] at H
                    obtain ⟨rfl, rfl⟩ := H
                    obtain ⟨pS, qS, uS, vS, hZ⟩ := StaysLaid.at_ (StaysLaid.below HS.out HB.out) A34.out
                    replace pS := eq_true pS
                    replace qS := eq_true qS
                    replace uS := eq_true uS
                    replace vS := eq_true vS
                    go_wp2
                    go_ret2
                    exact ⟨by first | rfl | (simp [errW_none, errW_some] <;> rfl) | (simp only [← hji12]; first | rfl | (simp [errW_none, errW_some] <;> rfl)) | (simp [*, errW_none, errW_some] <;> rfl), dB⟩
                   ·replace c35 := Bool.eq_false_iff.mpr c35
                    subst c35
                    rw [if_neg (show ¬ (false = true) by decide)] at H
                    (try dsimp only at H)
                    simp only [Option.some.injEq, Prod.mk.injEq] at H
                    obtain ⟨rfl, rfl⟩ := H
                    obtain ⟨pS, qS, uS, vS, hZ⟩ := StaysLaid.at_ (StaysLaid.below HS.out HB.out) A34.out
                    replace pS := eq_true pS
                    replace qS := eq_true qS
                    replace uS := eq_true uS
                    replace vS := eq_true vS
                    go_wp2
                    go_ret2
                    exact ⟨by first | rfl | (simp [errW_none, errW_some] <;> rfl) | (simp only [← hji12]; first | rfl | (simp [errW_none, errW_some] <;> rfl)) | (simp [*, errW_none, errW_some] <;> rfl), dB⟩
                  ·rw [if_neg c33] at H
                   have c33b0 : decide (971 < x14_30) = false := decide_eq_false c33
                   clear c33
                   replace H := oA H
                   obtain ⟨⟨t165, t166⟩, A36, H⟩ := H
                   (try dsimp only at H)
                   simp only [Option.some.injEq, Prod.mk.injEq] at H
                   obtain ⟨rfl, rfl⟩ := H
                   go_wp2_with (first | ((with_reducible refine gate_callee (f := 86) rfl ?_); refine gL (some 93) Tryd.func86 #[.bool a0, .int .u64 x1_30, .int .i64 x14_30] ?_; (with_reducible refine (f64_Join.calls kj30 a0 x1_30 x14_30 t165 t166 _ A36.out).mono ?_); rintro e w37 ⟨rfl, hb⟩; refine ⟨_, rfl, ?_⟩; replace HB := hS HB.out hb; (try clear hb)))
                   go_ret2
                   exact ⟨by first | rfl | (simp [errW_none, errW_some] <;> rfl) | (simp only [← hji12]; first | rfl | (simp [errW_none, errW_some] <;> rfl)) | (simp [*, errW_none, errW_some] <;> rfl), dB⟩
def nat_Norm.f (l0 : List Int) : Option (List Int) := if l0.length ≤ 35184372088832 then some (strip l0) else none
theorem norm_copied (l0 : List Int) : l0.take (min l0.length (List.replicate (strip l0).length (0 : Int)).length) ++ (List.replicate (strip l0).length (0 : Int)).drop (min l0.length (List.replicate (strip l0).length (0 : Int)).length) = strip l0 := by
 have h := strip_length_le l0
 rw [List.length_replicate, Nat.min_eq_right h, List.drop_of_length_le (by simp), List.append_nil, ← strip_take]
theorem nat_Norm.calls (A0 : Option Addr) (c0 : Nat) (l0 : List Int) (r : List Int) (w : World) (hr0 : Kd.C (Kd.int .u64) w A0 l0.length l0) (hc0 : l0.length ≤ c0) (h : nat_Norm.f l0 = some r) :
  Calls Tryd.prog 51 #[.slice A0 l0.length c0] w fun e w' => ∃ v0_ : Value, e = .returned (v0_) ∧ Kd.R (Kd.int .u64) 26 w' w.heap.size (fun _ => True) v0_ r ∧ Below w.heap.size w w' := by
 unfold nat_Norm.f at h
 split at h
 case isFalse => cases h
 rename_i hlen
 injection h with h
 subst h
 have hk := aM (nat_size.f_eq l0 (by omega) (l0.length + 1) (by omega))
 have hsl := strip_length_le l0
 have hcp := aM (norm_copied l0)
 go_enter Tryd.func51, Tryd.ntmps51
 go_wp2_with (first
  | (go_at_call 54; (with_reducible refine (nat_size.calls (l0.length + 1) _ _ l0 _ _ hr0 hc0 hk.out).mono ?_); rintro e w' ⟨rfl, ⟨n, rfl⟩⟩)
  | ((with_reducible refine gate_dst (N := 6) rfl ?_); refine Kd.R_make (Kd.int .u64) _ 26 rfl (N := 6) rfl 22 _ _ rfl ((strip l0).length : Int) rfl rfl Tryd.underlying22 (.int .u64 0) 8 info26 rfl (by decide) (by omega) 0 (ok := fun _ => True) (okp := fun _ => True) rfl (fun _ hk => hk) trivial (by omega) (by omega) (pw_below_drewN (Below.refl _ _) _) (Nat.le_refl _) ?_; intro v1 w1 HO HB _ _; have HO' := aM (show Kd.R (Kd.int .u64) 26 w1 w.heap.size (fun _ => True) v1 (List.replicate (strip l0).length 0) from HO); have HB' := aM (show Below w.heap.size w w1 from HB); clear HO HB)
  | ((with_reducible refine gate_dst (N := 9) rfl ?_); refine Kd.R_copy (enc := Value.int .u64) (h1 := fun _ => rfl) (0 : Int) w.heap.size rfl (.tmp 7) (.tmp 8) 22 22 26 rfl Tryd.underlying22 (by kernel_rfl) v1 (List.replicate (strip l0).length 0) l0 A0 l0.length c0 (fun _ => True) rfl rfl HO'.out (Kd.C_below hr0 HB'.out) HB'.out HB'.out.size ?_; intro w2 HO2 HB2 _; rw [hcp.out] at HO2; have HO2' := aM HO2; have HB2' := aM HB2; clear HO2 HB2))
 go_ret
 exact ⟨v1, rfl, HO2'.out, HB2'.out⟩
def wide_Shl.f (a0 : Int) (a1 : Int) (a2 : Int) : Option (Int × Int) := (wide_within.f a2).bind fun t114 => (if t114 ≥ 64 then (if 0 ≤ (wrap64 (t114 - 64)) then (some (shl .u64 a1 (wrap64 (t114 - 64)), 0)) else (none)) else (if 0 ≤ t114 then (if 0 ≤ (wrap64 (64 - t114)) then (some (Go.bits .or .u64 (shl .u64 a0 t114) (shr .u64 a1 (wrap64 (64 - t114))), shl .u64 a1 t114)) else (none)) else (none)))
set_option maxHeartbeats 8000000 in
set_option maxRecDepth 100000 in
theorem wide_Shl.calls (a0 : Int) (a1 : Int) (a2 : Int) (r1 : Int) (r2 : Int) (w : World) (h : wide_Shl.f a0 a1 a2 = some (r1, r2)) :
  Calls Tryd.prog 55 #[.int .u64 a0, .int .u64 a1, .int .i64 a2] w fun e w' => e = .returned (.tuple #[.int .u64 r1, .int .u64 r2]) ∧ Below w.heap.size w w' := by
 have HB := aM (Below.refl w.heap.size w)
 have H := h
 clear h
 unfold wide_Shl.f at H
 replace H := oA H
 obtain ⟨t114, A4, H⟩ := H
 (try dsimp only at H)
 by_cases c5 : t114 ≥ 64
 ·rw [if_pos c5] at H
  have c5b0 : decide (64 ≤ t114) = true := decide_eq_true c5
  clear c5
  obtain ⟨ji6, hji6⟩ : ∃ j_ : Int, (wrap64 (t114 - 64)) = j_ := ⟨_, rfl⟩
  first | rw [hji6] at H | simp only [hji6] at H
  (try rw [hji6] at A4)
  have hji6w : (IntKind.i64.wrap (t114 - 64)) = ji6 := (i64_w _).trans hji6
  replace H := nO H
  obtain ⟨c7, H⟩ := H
  have c7b0 := eq_true c7
  have c7b1 : decide (0 ≤ (ji6)) = true := decide_eq_true c7
  clear c7
  obtain ⟨ji8, hji8⟩ : ∃ j_ : Int, (shl .u64 a1 (ji6)) = j_ := ⟨_, rfl⟩
  first | rw [hji8] at H | simp only [hji8] at H
  (try rw [hji8] at A4)
  have hji8_ : (IntKind.u64.wrap (a1 * 2 ^ min (ji6).toNat 64)) = ji8 := hji8
  have hji8z : (ji6) ≤ 64 → (IntKind.u64.wrap (a1 * 2 ^ (ji6).toNat)) = ji8 := shl_small hji8
  simp only [Option.some.injEq, Prod.mk.injEq] at H
  obtain ⟨rfl, rfl⟩ := H
  go_enter Tryd.func55, Tryd.ntmps55
  iterate 6 (go_wp2_with (first | (go_at_call 93; (with_reducible refine (wide_within.calls a2 t114 _ A4.out).mono ?_); rintro e w9 ⟨rfl, hb⟩; replace HB := hS HB.out hb; (try clear hb))); try go_quiet (fail))
  go_ret2
  exact ⟨by first | rfl | (simp [errW_none, errW_some] <;> rfl) | (simp only [← hji6, ← hji8]; first | rfl | (simp [errW_none, errW_some] <;> rfl)) | (simp [*, errW_none, errW_some] <;> rfl), dB⟩
 ·rw [if_neg c5] at H
  have c5b0 : decide (64 ≤ t114) = false := decide_eq_false c5
  clear c5
  replace H := nO H
  obtain ⟨c10, H⟩ := H
  have c10b0 := eq_true c10
  have c10b1 : decide (0 ≤ t114) = true := decide_eq_true c10
  clear c10
  obtain ⟨ji11, hji11⟩ : ∃ j_ : Int, (shl .u64 a0 t114) = j_ := ⟨_, rfl⟩
  first | rw [hji11] at H | simp only [hji11] at H
  (try rw [hji11] at A4)
  have hji11_ : (IntKind.u64.wrap (a0 * 2 ^ min t114.toNat 64)) = ji11 := hji11
  have hji11z : t114 ≤ 64 → (IntKind.u64.wrap (a0 * 2 ^ t114.toNat)) = ji11 := shl_small hji11
  obtain ⟨ji12, hji12⟩ : ∃ j_ : Int, (wrap64 (64 - t114)) = j_ := ⟨_, rfl⟩
  first | rw [hji12] at H | simp only [hji12] at H
  (try rw [hji12] at A4)
  have hji12w : (IntKind.i64.wrap (64 - t114)) = ji12 := (i64_w _).trans hji12
  replace H := nO H
  obtain ⟨c13, H⟩ := H
  have c13b0 := eq_true c13
  have c13b1 : decide (0 ≤ (ji12)) = true := decide_eq_true c13
  clear c13
  obtain ⟨ji14, hji14⟩ : ∃ j_ : Int, (shr .u64 a1 (ji12)) = j_ := ⟨_, rfl⟩
  first | rw [hji14] at H | simp only [hji14] at H
  (try rw [hji14] at A4)
  have hji14_ : (a1 / 2 ^ min (ji12).toNat 64) = ji14 := hji14
  have hji14z : (ji12) ≤ 64 → (a1 / 2 ^ (ji12).toNat) = ji14 := shr_small hji14
  have c15b0 := eq_true (of_decide_eq_true dS : 0 ≤ t114)
  obtain ⟨ji16, hji16⟩ : ∃ j_ : Int, (shl .u64 a1 t114) = j_ := ⟨_, rfl⟩
  first | rw [hji16] at H | simp only [hji16] at H
  (try rw [hji16] at A4)
  have hji16_ : (IntKind.u64.wrap (a1 * 2 ^ min t114.toNat 64)) = ji16 := hji16
  have hji16z : t114 ≤ 64 → (IntKind.u64.wrap (a1 * 2 ^ t114.toNat)) = ji16 := shl_small hji16
  simp only [Option.some.injEq, Prod.mk.injEq] at H
  obtain ⟨rfl, rfl⟩ := H
  go_enter Tryd.func55, Tryd.ntmps55
  iterate 6 (go_wp2_with (first | (go_at_call 93; (with_reducible refine (wide_within.calls a2 t114 _ A4.out).mono ?_); rintro e w17 ⟨rfl, hb⟩; replace HB := hS HB.out hb; (try clear hb))); try go_quiet (fail))
  go_ret2
  exact ⟨by first | rfl | (simp [errW_none, errW_some] <;> rfl) | (simp only [← hji11, ← hji12, ← hji14, ← hji16]; first | rfl | (simp [errW_none, errW_some] <;> rfl)) | (simp [*, errW_none, errW_some] <;> rfl), dB⟩
theorem R_make_cap {P : Program} {ops : Array Oper} {rest : List Oper} {o : Oper} {a : Act} {Q : Exit → Act → World → Prop} {w0 W : World} (base e : Nat) (hgd : o.guard = none) {N : Tmp} (_hd : o.dst = some N) (t : TypeId) (x y : Operand) (ho : o.op = .makeSlice t x y) (n c : Int) (hx : a.eval x = .int .i64 n) (hy : a.eval y = .int .i64 c)
  (ht : P.underlying t = some (.slice e)) (hinfo : (P.info? e).map (fun i => (i.zero, i.size, i.bytes)) = some (some (.int .u64 0), 1, 8)) {ok : Nat → Prop} (hfresh : ok W.heap.size) (h0 : 0 ≤ n) (hnc : n ≤ c) (hl : c.toNat ≤ 35184372088832) (HB : Below base w0 W) (hbase : base ≤ W.heap.size)
  (h : ∀ v1 w1, (Kd.int .u64).R e w1 base ok v1 (List.replicate n.toNat 0) → Below base w0 w1 → W.grownBy w1 none → (∃ b, v1.ownBlock = some b ∧ W.heap.size ≤ b) → wpList P ops Q rest (a.put o.dst v1) w1) : wpList P ops Q (o :: rest) a W := by
 obtain ⟨i0, hi, hzz⟩ := Option.map_eq_some_iff.1 hinfo
 simp only [Prod.mk.injEq] at hzz
 obtain ⟨hz0, hz1, hz2⟩ := hzz
 obtain ⟨m, rfl⟩ := Int.eq_ofNat_of_zero_le (show 0 ≤ c by omega)
 obtain ⟨k, rfl⟩ := Int.eq_ofNat_of_zero_le h0
 simp only [Int.toNat_natCast] at hl h
 have hr := run_make (P := P) W t e i0 (.int .u64 0) ht hi hz0 .i64 .i64 (k : Int) (m : Int) h0 hnc (by rw [hz2]; omega) (by omega)
 simp only [Int.toNat_natCast] at hr
 rw [hz1, Nat.mul_one] at hr
 have hrep : Reps ((Kd.int .u64).M W base ok) 1 (List.replicate m (0 : Int)) (madeCells (Value.int .u64 0).cells (m * 1)).toList := Kd.reps_made (R := (Kd.int .u64).M W base ok) (z := .int .u64 0) (size := 1) (z0 := (0 : Int)) rfl (by decide) rfl m
 rw [Nat.mul_one] at hrep
 have full : (Kd.int .u64).R e (W.alloc (.cells (madeCells (Value.int .u64 0).cells m) e)) base ok (.slice (some ⟨W.heap.size, 0, none⟩) m m) (List.replicate m (0 : Int)) := by
  refine ⟨fun q hq => ?_, (madeCells (Value.int .u64 0).cells m).toList, ?_, ?_⟩
  ·have : W.heap.size = q := by simpa [Value.ownBlock] using hq
   subst this
   exact hfresh
  ·have h2 := ownsRow2_lit (base := base) (e := e) (size := 1) W (madeCells (Value.int .u64 0).cells m) m hbase (by simp only [maxLen]; omega) (by simp [size_madeCells])
   rw [List.length_replicate]
   exact h2
  ·exact hrep.imp_ (fun p c hp => hp)
 have cut := Kd.R_take (m := k) full (by simp; omega)
 rw [List.take_replicate, Nat.min_eq_left (by omega)] at cut
 refine Kd.event_run hgd (v := .slice (some ⟨W.heap.size, 0, none⟩) k m) (w1 := W.alloc (.cells (madeCells (Value.int .u64 0).cells m) e)) ?_ (h _ _ cut (HB.alloc hbase _) (World.grownBy_alloc W _ none) ⟨W.heap.size, by simp [Value.ownBlock], Nat.le_refl _⟩)
 simp [execOp, ho, hx, hy, hr]
def near_shl.l0 : Nat → Int → List Int → Int → List Int → Int → Int → Option (List Int)
 | 0, _, _, _, _, _, _ => none
 | k + 1, x1, x5, x6, x20, x21, x22 => if x22 < x21 then (if 0 ≤ x22 then (if x22 < (x20.length : Int) then ((wide_Shl.f 0 (rd x20 x22) (Int.tmod x1 64)).bind fun bt146 => (if x5.length < 17592186044416 then (near_shl.l0 k x1 (x5 ++ [Go.bits .or .u64 bt146.2 x6]) bt146.1 x20 x21 (wrap64 (x22 + 1))) else (none))) else (none)) else (none)) else (if x5.length < 17592186044416 then (some (x5 ++ [x6])) else (none))
def near_shl.f (k : Nat) (l0 : List Int) (a1 : Int) : Option (List Int) := if 0 ≤ (wrap64 (Int.tdiv a1 64)) then (if (wrap64 (Int.tdiv a1 64) : Int).toNat + l0.length + 1 ≤ 35184372088832 then (near_shl.l0 k a1 (List.replicate (wrap64 (Int.tdiv a1 64) : Int).toNat 0) 0 l0 (l0.length : Int) 0) else (none)) else (none)
theorem near_shl.mono_l : ∀ k, (∀ y0 y1 y2 y3 y4 y5, LeO (near_shl.l0 k y0 y1 y2 y3 y4 y5) (near_shl.l0 (k + 1) y0 y1 y2 y3 y4 y5))
 | 0 => fun _ _ _ _ _ _ r h => by simp [near_shl.l0] at h
 | k + 1 => by
  have ih0 := near_shl.mono_l k
  ·intro y0 y1 y2 y3 y4 y5
   unfold near_shl.l0
   exact mX
theorem near_shl.mono : ∀ a0 a1 k, LeO (near_shl.f k a0 a1) (near_shl.f (k + 1) a0 a1) := by
 intro a0 a1 k
 have ih0 := near_shl.mono_l k
 unfold near_shl.f
 exact mX
set_option maxHeartbeats 8000000 in
set_option maxRecDepth 100000 in
theorem near_shl.calls (k : Nat) (A0 : Option Addr) (c0 : Nat) (l0 : List Int) (a1 : Int) (r : List Int) (w : World) (hr0 : Kd.C (Kd.int .u64) w A0 l0.length l0) (hc0 : l0.length ≤ c0) (h : near_shl.f k l0 a1 = some r) :
  Calls Tryd.prog 52 #[.slice A0 l0.length c0, .int .i64 a1] w fun e w' => ∃ v0_ : Value, e = .returned (v0_) ∧ Kd.R (Kd.int .u64) 26 w' w.heap.size (fun _ => True) v0_ r ∧ Below w.heap.size w w' := by
 have HR0 := aM hr0
 have HC0 := aM hc0
 clear hr0 hc0
 have HB := aM (Below.refl w.heap.size w)
 have H := h
 clear h
 unfold near_shl.f at H
 obtain ⟨ji3, hji3⟩ : ∃ j_ : Int, (wrap64 (Int.tdiv a1 64)) = j_ := ⟨_, rfl⟩
 first | rw [hji3] at H | simp only [hji3] at H
 have hji3w : (IntKind.i64.wrap (Int.tdiv a1 64)) = ji3 := (i64_w _).trans hji3
 replace H := nO H
 obtain ⟨c4, H⟩ := H
 have c4b0 := eq_true c4
 have c4b1 : decide (0 ≤ (ji3)) = true := decide_eq_true c4
 clear c4
 replace H := nO H
 obtain ⟨c5, H⟩ := H
 have CAP : Aside0 (ji3 ≤ wrap64 (wrap64 (ji3 + (l0.length : Int)) + 1) ∧ (wrap64 (wrap64 (ji3 + (l0.length : Int)) + 1)).toNat ≤ 35184372088832) := ⟨by
  have j0 : (0 : Int) ≤ ji3 := of_decide_eq_true c4b1
  rw [w64_of (x := ji3 + (l0.length : Int)) (by omega) (by omega), w64_of (by omega) (by omega)]
  omega⟩
 have c5b0 := eq_true c5
 have c5b1 := decide_eq_true c5
 clear c5
 obtain ⟨y142, hy142⟩ : ∃ y_ : List Int, y_ = (List.replicate (ji3 : Int).toNat 0) := ⟨_, rfl⟩
 replace H : (near_shl.l0 k a1 y142 0 l0 (l0.length : Int) 0) = some r := by first | (rw [hy142]; with_reducible exact H) | (have H2_ := (Option.bind_some _ _).symm.trans H; rw [hy142]; with_reducible exact H2_) | (have H2_ := (Option.bind_some _ _).symm.trans H; with_reducible exact H2_) | with_reducible exact H | (rw [hy142]; exact H) | exact H
 have Ny142 := aM hy142
 clear hy142
 have H' := aM H
 clear H
 go_enter Tryd.func52, Tryd.ntmps52
 go_wp2_with (first | ((with_reducible refine gate_dst (N := 19) rfl ?_); refine R_make_cap _ 26 rfl (N := 19) rfl 22 _ _ rfl ji3 (wrap64 (wrap64 (ji3 + (l0.length : Int)) + 1)) rfl rfl Tryd.underlying22 info26 (ok := fun _ => True) trivial (of_decide_eq_true dS) CAP.out.1 CAP.out.2 (Below.refl _ _) (Nat.le_refl _) ?_; intro v143 w6 ho7 hb hg_ hnew_; clear hg_ hnew_; (first | rw [← Ny142.out] at ho7 | (simp only [Int.reduceToNat] at ho7; rw [← Ny142.out] at ho7)); have HO144 := aM (Kd.R_lower ho7 (below_size dB)); replace HB := hS HB.out hb; clear hb ho7))
 go_loopg [5, 6, 22] k (fun kq v5 v6 v22 w' => ∃ (x5_1 : List Int) (x6_1 : Int) (x22_1 : Int), v6 = .int .u64 x6_1 ∧ v22 = .int .i64 x22_1 ∧ Aside0 (near_shl.l0 kq a1 x5_1 x6_1 l0 (l0.length : Int) x22_1 = some r) ∧ Aside0 (kq ≤ k) ∧ Aside0 (Kd.R (Kd.int .u64) 26 w' w.heap.size (fun _ => True) v5 x5_1) ∧ Aside0 (Below w.heap.size w w'))
 case atStart => exact ⟨(y142), (0), (0), dF, dF, H', ⟨Nat.le_refl _⟩, ⟨dR HO144.out⟩, ⟨dB⟩⟩
 case round =>
  clear H'
  try clear c4
  try clear c4b0 c4b1
  try clear c5
  try clear c5b0 c5b1
  obtain ⟨x5_1, x6_1, x22_1, rfl, rfl, HA, HK1, HO_5, HB⟩ := hrel
  cases gk with
  | zero => exact absurd HA.out (by simp [near_shl.l0])
  | succ k1 =>
   have H := HA.out
   clear HA
   simp only [near_shl.l0] at H
   by_cases c8 : x22_1 < (l0.length : Int)
   ·rw [if_pos c8] at H
    have c8b0 := decide_eq_true c8
    clear c8
    replace H := nO H
    obtain ⟨c9, H⟩ := H
    have c9b0 : decide (0 ≤ x22_1) = true := decide_eq_true c9
    clear c9
    replace H := nO H
    obtain ⟨c10, H⟩ := H
    have c10b0 := decide_eq_true c10
    clear c10
    replace H := oA H
    obtain ⟨⟨t146, t147⟩, A11, H⟩ := H
    (try dsimp only at H)
    replace H := nO H
    obtain ⟨c12, H⟩ := H
    have LMc12 := aM c12
    clear c12
    obtain ⟨y148, hy148⟩ : ∃ y_ : List Int, y_ = (x5_1 ++ [Go.bits .or .u64 t147 x6_1]) := ⟨_, rfl⟩
    replace H : (near_shl.l0 k1 a1 y148 t146 l0 (l0.length : Int) (wrap64 (x22_1 + 1))) = some r := by first | (rw [hy148]; with_reducible exact H) | (have H2_ := (Option.bind_some _ _).symm.trans H; rw [hy148]; with_reducible exact H2_) | (have H2_ := (Option.bind_some _ _).symm.trans H; with_reducible exact H2_) | with_reducible exact H | (rw [hy148]; exact H) | exact H
    have Ny148 := aM hy148
    clear hy148
    have H' := aM H
    clear H
    have p145 : 0 ≤ (x22_1 : Int) := of_decide_eq_true dS
    have q145 : x22_1 < (l0.length : Int) := of_decide_eq_true dS
    obtain ⟨ad145, e145, hx145_0⟩ := Kd.at_int HR0.out x22_1 p145 q145
    cases e145
    replace hx145_0 := (HB.out.cell (World.block_lt_of_cell? w _ hx145_0)).trans hx145_0
    replace p145 := eq_true p145
    replace q145 := eq_true q145
    go_wp2_with (first | ((with_reducible refine gate_callee (f := 55) rfl ?_); refine gL (some 30) Tryd.func55 #[.int .u64 0, .int .u64 (rd l0 x22_1), .int .i64 (Int.tmod a1 64)] ?_; (with_reducible refine (wide_Shl.calls 0 (rd l0 x22_1) (Int.tmod a1 64) t146 t147 _ A11.out).mono ?_); rintro e w13 ⟨rfl, hb⟩; refine ⟨_, rfl, ?_⟩; replace HO_5 := oB HO_5.out hb; replace HB := hS HB.out hb; (try clear hb)) | ((with_reducible refine gate_builtin (b := .append) (xs := #[.tmp 33, .tmp 37]) rfl ?_); at_builtin; refine Kd.R_append (Kd.int .u64) (w0 := w) w.heap.size rfl (.tmp 33) (.tmp 37) 22 26 (.int .u64 0) 8 rfl Tryd.underlying22 info26 rfl (by decide) (by omega) u5 x5_1 (Go.bits .or .u64 t147 x6_1) [.int .u64 (Go.bits .or .u64 t147 x6_1)] (fun _ => True) (fun _ => False) rfl rfl ?aP (fun _ hk => hk.elim) ?aF ?aO ?aB ?aS ?aL ?_; (case aP => exact rfl); (case aB => exact dB); (case aF => exact (fun _ _ => trivial)); (case aO => exact (dR HO_5.out)); (case aS => exact (below_size dB)); (case aL => have := LMc12.out; omega); intro v149 w14 ho hb hg hat; rw [← Ny148.out] at ho; replace HB := aM (hb); have HO150 := aM (ho); clear HO_5; clear ho hb hg hat))
    go_roundg k1
    case measure => have := HK1.out; omega
    case rel => exact ⟨(y148), (t146), (wrap64 (x22_1 + 1)), dF, dF, H', ⟨by have := HK1.out; omega⟩, ⟨dR HO150.out⟩, ⟨dB⟩⟩
   ·rw [if_neg c8] at H
    have c8b0 := decide_eq_false c8
    clear c8
    replace H := nO H
    obtain ⟨c15, H⟩ := H
    have LMc15 := aM c15
    clear c15
    obtain ⟨y151, hy151⟩ : ∃ y_ : List Int, y_ = (x5_1 ++ [x6_1]) := ⟨_, rfl⟩
    replace H : (some y151) = some r := by first | (rw [hy151]; with_reducible exact H) | (have H2_ := (Option.bind_some _ _).symm.trans H; rw [hy151]; with_reducible exact H2_) | (have H2_ := (Option.bind_some _ _).symm.trans H; with_reducible exact H2_) | with_reducible exact H | (rw [hy151]; exact H) | exact H
    have Ny151 := aM hy151
    clear hy151
    obtain rfl := Option.some.inj H
    go_wp2_with (first | ((with_reducible refine gate_builtin (b := .append) (xs := #[.tmp 41, .tmp 43]) rfl ?_); at_builtin; refine Kd.R_append (Kd.int .u64) (w0 := w) w.heap.size rfl (.tmp 41) (.tmp 43) 22 26 (.int .u64 0) 8 rfl Tryd.underlying22 info26 rfl (by decide) (by omega) u5 x5_1 x6_1 [.int .u64 x6_1] (fun _ => True) (fun _ => False) rfl rfl ?aP (fun _ hk => hk.elim) ?aF ?aO ?aB ?aS ?aL ?_; (case aP => exact rfl); (case aB => exact dB); (case aF => exact (fun _ _ => trivial)); (case aO => exact (dR HO_5.out)); (case aS => exact (below_size dB)); (case aL => have := LMc15.out; omega); intro v152 w16 ho hb hg hat; rw [← Ny151.out] at ho; replace HB := aM (hb); have HO153 := aM (ho); clear HO_5; clear ho hb hg hat))
    go_ret
    exact ⟨_, by first | rfl | (simp [errW_none, errW_some] <;> rfl) | (simp only [← hji3]; first | rfl | (simp [errW_none, errW_some] <;> rfl)) | (simp [*, errW_none, errW_some] <;> rfl), dR HO153.out, dB⟩
end Go.Proofs.YtoefabmlkbhmpaaDoor.PA
