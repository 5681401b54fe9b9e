/- A part of the proof (3). -/
import Derived.Test.YtoefabmlkbhmpaaDoorSQ2
namespace Go.Proofs.YtoefabmlkbhmpaaDoor.PA
open Go.RowKit Go.Proofs.YtoefabmlkbhmpaaDoorW.PrintWords Go.Proofs.YtoefabmlkbhmpaaDoorW.PrintLast Go.Proofs.YtoefabmlkbhmpaaDoorW.PrintMore
attribute [local go_sem] max2_int min2_int max_two min_two max_three min_three max_four min_four   -- for this text's walks alone
set_option linter.unusedVariables false
set_option linter.unusedSimpArgs false

/-! ### near_cut: function 84 -/
def near_cut.j0 : Nat → Int → Int → Bool → Option (Int × Int)
 | 0, _, _, _ => none
 | k + 1, x0, x1, x11 => if x11 = true then (some (x0, 0)) else (if x1 > 64 then (some (0, 1)) else ((wide_Shr.f 0 x0 x1).bind fun bt150 => (if bt150.2.2 = true then (if 0 ≤ (wrap64 (x1 - 1)) then (if (Go.bits .and .u64 x0 (IntKind.u64.wrap ((IntKind.u64.wrap ((shl .u64 1 (wrap64 (x1 - 1))) * 2)) - 1))) < (shl .u64 1 (wrap64 (x1 - 1))) then (some (bt150.2.1, 1)) else (if (Go.bits .and .u64 x0 (IntKind.u64.wrap ((IntKind.u64.wrap ((shl .u64 1 (wrap64 (x1 - 1))) * 2)) - 1))) > (shl .u64 1 (wrap64 (x1 - 1))) then (some (bt150.2.1, 3)) else (some (bt150.2.1, 2)))) else (none)) else (some (bt150.2.1, 0)))))
def near_cut.f (k : Nat) (a0 : Int) (a1 : Int) : Option (Int × Int) := if a0 = 0 then (near_cut.j0 k a0 a1 true) else (near_cut.j0 k a0 a1 (decide (a1 ≤ 0)))
set_option maxHeartbeats 8000000 in
set_option maxRecDepth 100000 in
theorem near_cut.calls (k : Nat) (a0 : Int) (a1 : Int) (r1 : Int) (r2 : Int) (w : World) (h : near_cut.f k a0 a1 = some (r1, r2)) :
  Calls Tryd.prog 84 #[.int .u64 a0, .int .i64 a1] w fun e w' => e = .returned (.tuple #[.int .u64 r1, .int .i64 r2]) ∧ Below w.heap.size w w' := by
 have HB := Aside0.mk (Below.refl w.heap.size w)
 have H : (if a0 = 0 then (near_cut.j0 k a0 a1 true) else (near_cut.j0 k a0 a1 (decide (a1 ≤ 0)))) = some (r1, r2) := h
 clear h
 have HC3 := Aside0.mk H
 clear H
 go_enter Tryd.func84, Tryd.ntmps84
 go_upto_region 1 with (fail)
 go_cut [11] (fun v11 wc => ∃ (kq : Nat) (x11_2 : Bool), v11 = .bool x11_2 ∧ Aside0 (near_cut.j0 kq a0 a1 x11_2 = some (r1, r2)) ∧ Aside0 (kq ≤ k) ∧ Aside0 (Below w.heap.size w wc))
 case first =>
  have H := HC3.out
  clear HC3
  by_cases c4 : a0 = 0
  ·rw [if_pos c4] at H
   have c4b0 : (a0 == 0) = true := beq_iff_eq.mpr c4
   have c4b1 : (a0 != 0) = false := bne_eq_false_iff_eq.mpr c4
   clear c4
   (first | rw [c4b0] | (simp only [i64_w, i32_w]; rw [c4b0]) | skip)
   have H' := Aside0.mk H
   clear H
   go_wp2
   go_meet
   case rel => exact ⟨_, (true), dF, H', ⟨dN⟩, ⟨dB⟩⟩
  ·rw [if_neg c4] at H
   have c4b0 : (a0 == 0) = false := beq_eq_false_iff_ne.mpr c4
   have c4b1 : (a0 != 0) = true := bne_iff_ne.mpr c4
   (first | rw [c4b0] | (simp only [i64_w, i32_w]; rw [c4b0]) | skip)
   have H' := Aside0.mk H
   clear H
   go_wp2
   go_meet
   case rel => exact ⟨_, (decide (a1 ≤ 0)), dF, H', ⟨dN⟩, ⟨dB⟩⟩
 case rest =>
  clear HC3
  try clear p2
  try clear c4
  try clear c4b0
  try clear c4b1
  obtain ⟨kq, x11_2, rfl, HA, HJ2, HB⟩ := hcut
  cases kq with
  | zero => exact absurd HA.out (by simp [near_cut.j0])
  | succ kj2 =>
   have H := HA.out
   clear HA
   simp only [near_cut.j0] at H
   by_cases c5 : x11_2 = true
   ·subst c5
    have H1 : (some (a0, 0)) = some (r1, r2) := by rw [if_pos rfl] at H; exact H
    clear H
    have H := H1
    clear H1
    simp only [Option.some.injEq, Prod.mk.injEq] at H
    obtain ⟨rfl, rfl⟩ := H
    go_wp2
    go_ret2
    exact ⟨dE, dB⟩
   ·replace c5 := Bool.eq_false_iff.mpr c5
    subst c5
    have H1 : (if a1 > 64 then (some (0, 1)) else ((wide_Shr.f 0 a0 a1).bind fun bt150 => (if bt150.2.2 = true then (if 0 ≤ (wrap64 (a1 - 1)) then (if (Go.bits .and .u64 a0 (IntKind.u64.wrap ((IntKind.u64.wrap ((shl .u64 1 (wrap64 (a1 - 1))) * 2)) - 1))) < (shl .u64 1 (wrap64 (a1 - 1))) then (some (bt150.2.1, 1)) else (if (Go.bits .and .u64 a0 (IntKind.u64.wrap ((IntKind.u64.wrap ((shl .u64 1 (wrap64 (a1 - 1))) * 2)) - 1))) > (shl .u64 1 (wrap64 (a1 - 1))) then (some (bt150.2.1, 3)) else (some (bt150.2.1, 2)))) else (none)) else (some (bt150.2.1, 0))))) = some (r1, r2) := by rw [if_neg (show ¬ (false = true) by decide)] at H; exact H
    clear H
    have H := H1
    clear H1
    by_cases c6 : a1 > 64
    ·rw [if_pos c6] at H
     have c6b0 : decide (64 < a1) = true := decide_eq_true c6
     clear c6
     simp only [Option.some.injEq, Prod.mk.injEq] at H
     obtain ⟨rfl, rfl⟩ := H
     go_wp2
     go_ret2
     exact ⟨dE, dB⟩
    ·rw [if_neg c6] at H
     have c6b0 : decide (64 < a1) = false := decide_eq_false c6
     clear c6
     replace H := obe H
     obtain ⟨⟨t150, t151, t152⟩, A70, H⟩ := H
     replace H : (if t152 = true then (if 0 ≤ (wrap64 (a1 - 1)) then (if (Go.bits .and .u64 a0 (IntKind.u64.wrap ((IntKind.u64.wrap ((shl .u64 1 (wrap64 (a1 - 1))) * 2)) - 1))) < (shl .u64 1 (wrap64 (a1 - 1))) then (some (t151, 1)) else (if (Go.bits .and .u64 a0 (IntKind.u64.wrap ((IntKind.u64.wrap ((shl .u64 1 (wrap64 (a1 - 1))) * 2)) - 1))) > (shl .u64 1 (wrap64 (a1 - 1))) then (some (t151, 3)) else (some (t151, 2)))) else (none)) else (some (t151, 0))) = some (r1, r2) := H
     have A7 := Aside0.mk A70
     clear A70
     by_cases c8 : t152 = true
     ·subst c8
      have H1 : (if 0 ≤ (wrap64 (a1 - 1)) then (if (Go.bits .and .u64 a0 (IntKind.u64.wrap ((IntKind.u64.wrap ((shl .u64 1 (wrap64 (a1 - 1))) * 2)) - 1))) < (shl .u64 1 (wrap64 (a1 - 1))) then (some (t151, 1)) else (if (Go.bits .and .u64 a0 (IntKind.u64.wrap ((IntKind.u64.wrap ((shl .u64 1 (wrap64 (a1 - 1))) * 2)) - 1))) > (shl .u64 1 (wrap64 (a1 - 1))) then (some (t151, 3)) else (some (t151, 2)))) else (none)) = some (r1, r2) := by rw [if_pos rfl] at H; exact H
      clear H
      have H := H1
      clear H1
      obtain ⟨ji9, hji9⟩ : ∃ j_ : Int, (wrap64 (a1 - 1)) = j_ := ⟨_, rfl⟩
      replace H : (if 0 ≤ (ji9) then (if (Go.bits .and .u64 a0 (IntKind.u64.wrap ((IntKind.u64.wrap ((shl .u64 1 (ji9)) * 2)) - 1))) < (shl .u64 1 (ji9)) then (some (t151, 1)) else (if (Go.bits .and .u64 a0 (IntKind.u64.wrap ((IntKind.u64.wrap ((shl .u64 1 (ji9)) * 2)) - 1))) > (shl .u64 1 (ji9)) then (some (t151, 3)) else (some (t151, 2)))) else (none)) = some (r1, r2) := by first | (rw [hji9] at H; exact H) | (simp only [hji9] at H ⊢; exact H)
      (try rw [hji9] at A7)
      have hji9w : (IntKind.i64.wrap (a1 - 1)) = ji9 := (i64_w _).trans hji9
      by_cases c10 : (0 : Int) ≤ (ji9)
      ·rw [if_pos c10] at H
       have c10b0 := eq_true c10
       have c10b1 : decide (0 ≤ (ji9)) = true := decide_eq_true c10
       clear c10
       obtain ⟨ji11, hji11⟩ : ∃ j_ : Int, (shl .u64 1 (ji9)) = j_ := ⟨_, rfl⟩
       replace H : (if (Go.bits .and .u64 a0 (IntKind.u64.wrap ((IntKind.u64.wrap ((ji11) * 2)) - 1))) < (ji11) then (some (t151, 1)) else (if (Go.bits .and .u64 a0 (IntKind.u64.wrap ((IntKind.u64.wrap ((ji11) * 2)) - 1))) > (ji11) then (some (t151, 3)) else (some (t151, 2)))) = some (r1, r2) := by first | (rw [hji11] at H; exact H) | (simp only [hji11] at H ⊢; exact H)
       (try rw [hji11] at A7)
       have hji11_ : (IntKind.u64.wrap (1 * 2 ^ min (ji9).toNat 64)) = ji11 := hji11
       have hji11z : (ji9) ≤ 64 → (IntKind.u64.wrap (1 * 2 ^ (ji9).toNat)) = ji11 := shl_small hji11
       have hji11u : (IntKind.u64.wrap (2 ^ min (ji9).toNat 64)) = ji11 := by have h_ := hji11_; rw [Int.one_mul] at h_; exact h_
       have hji11v : (ji9) ≤ 64 → (IntKind.u64.wrap (2 ^ (ji9).toNat)) = ji11 := fun hle_ => by have h_ := hji11z hle_; rw [Int.one_mul] at h_; exact h_
       by_cases c12 : (Go.bits .and .u64 a0 (IntKind.u64.wrap ((IntKind.u64.wrap ((ji11) * 2)) - 1))) < (ji11)
       ·rw [if_pos c12] at H
        have c12b0 : decide ((Go.bits .and .u64 a0 (IntKind.u64.wrap ((IntKind.u64.wrap ((ji11) * 2)) - 1))) < (ji11)) = true := decide_eq_true c12
        clear c12
        simp only [Option.some.injEq, Prod.mk.injEq] at H
        obtain ⟨rfl, rfl⟩ := H
        go_wp2_with (first | ((with_reducible refine gate_callee (f := 82) rfl ?_); refine gL (some 25) Tryd.func82 #[.int .u64 0, .int .u64 a0, .int .i64 a1] ?_; (with_reducible refine (wide_Shr.calls 0 a0 a1 t150 t151 true _ A7.out).mono ?_); rintro e w13 ⟨rfl, hb⟩; refine ⟨_, rfl, ?_⟩; replace HB := Aside0.mk (below_step dB hb); (try clear hb)))
        go_ret2
        exact ⟨by first | rfl | (simp [errW_none, errW_some] <;> rfl) | (simp only [← hji9, ← hji11]; first | rfl | (simp [errW_none, errW_some] <;> rfl)) | (simp [*, errW_none, errW_some] <;> rfl), dB⟩
       ·rw [if_neg c12] at H
        have c12b0 : decide ((Go.bits .and .u64 a0 (IntKind.u64.wrap ((IntKind.u64.wrap ((ji11) * 2)) - 1))) < (ji11)) = false := decide_eq_false c12
        clear c12
        by_cases c14 : (Go.bits .and .u64 a0 (IntKind.u64.wrap ((IntKind.u64.wrap ((ji11) * 2)) - 1))) > (ji11)
        ·rw [if_pos c14] at H
         have c14b0 : decide ((ji11) < (Go.bits .and .u64 a0 (IntKind.u64.wrap ((IntKind.u64.wrap ((ji11) * 2)) - 1)))) = true := decide_eq_true c14
         clear c14
         simp only [Option.some.injEq, Prod.mk.injEq] at H
         obtain ⟨rfl, rfl⟩ := H
         go_wp2_with (first | ((with_reducible refine gate_callee (f := 82) rfl ?_); refine gL (some 25) Tryd.func82 #[.int .u64 0, .int .u64 a0, .int .i64 a1] ?_; (with_reducible refine (wide_Shr.calls 0 a0 a1 t150 t151 true _ A7.out).mono ?_); rintro e w15 ⟨rfl, hb⟩; refine ⟨_, rfl, ?_⟩; replace HB := Aside0.mk (below_step dB hb); (try clear hb)))
         go_ret2
         exact ⟨by first | rfl | (simp [errW_none, errW_some] <;> rfl) | (simp only [← hji9, ← hji11]; first | rfl | (simp [errW_none, errW_some] <;> rfl)) | (simp [*, errW_none, errW_some] <;> rfl), dB⟩
        ·rw [if_neg c14] at H
         have c14b0 : decide ((ji11) < (Go.bits .and .u64 a0 (IntKind.u64.wrap ((IntKind.u64.wrap ((ji11) * 2)) - 1)))) = false := decide_eq_false c14
         clear c14
         simp only [Option.some.injEq, Prod.mk.injEq] at H
         obtain ⟨rfl, rfl⟩ := H
         go_wp2_with (first | ((with_reducible refine gate_callee (f := 82) rfl ?_); refine gL (some 25) Tryd.func82 #[.int .u64 0, .int .u64 a0, .int .i64 a1] ?_; (with_reducible refine (wide_Shr.calls 0 a0 a1 t150 t151 true _ A7.out).mono ?_); rintro e w16 ⟨rfl, hb⟩; refine ⟨_, rfl, ?_⟩; replace HB := Aside0.mk (below_step dB hb); (try clear hb)))
         go_ret2
         exact ⟨by first | rfl | (simp [errW_none, errW_some] <;> rfl) | (simp only [← hji9, ← hji11]; first | rfl | (simp [errW_none, errW_some] <;> rfl)) | (simp [*, errW_none, errW_some] <;> rfl), dB⟩
      ·rw [if_neg c10] at H
       exact absurd H (by simp)
     ·replace c8 := Bool.eq_false_iff.mpr c8
      subst c8
      have H1 : (some (t151, 0)) = some (r1, r2) := by rw [if_neg (show ¬ (false = true) by decide)] at H; exact H
      clear H
      have H := H1
      clear H1
      simp only [Option.some.injEq, Prod.mk.injEq] at H
      obtain ⟨rfl, rfl⟩ := H
      go_wp2_with (first | ((with_reducible refine gate_callee (f := 82) rfl ?_); refine gL (some 25) Tryd.func82 #[.int .u64 0, .int .u64 a0, .int .i64 a1] ?_; (with_reducible refine (wide_Shr.calls 0 a0 a1 t150 t151 false _ A7.out).mono ?_); rintro e w17 ⟨rfl, hb⟩; refine ⟨_, rfl, ?_⟩; replace HB := Aside0.mk (below_step dB hb); (try clear hb)))
      go_ret2
      exact ⟨dE, dB⟩

-- NOT PRINTED: function 85 (near_way)

end Go.Proofs.YtoefabmlkbhmpaaDoor.PA

namespace Go.Proofs.YtoefabmlkbhmpaaDoor.PA
open Go.RowKit Go.Proofs.YtoefabmlkbhmpaaDoorW.PrintWords Go.Proofs.YtoefabmlkbhmpaaDoorW.PrintLast Go.Proofs.YtoefabmlkbhmpaaDoorW.PrintMore
attribute [local go_sem] max2_int min2_int max_two min_two max_three min_three max_four min_four   -- for this text's walks alone
set_option linter.unusedVariables false
set_option linter.unusedSimpArgs false

/-! ### f64_Join: function 86 -/
mutual
def f64_Join.j0 : Nat → Int → Int → Int → Option (Int × Int)
 | 0, _, _, _ => none
 | k + 1, x1, x2, x8 => if x1 = 0 then (some (x8, 0)) else (if x2 < (-1137) then (f64_Join.j1 k x1 x2 x8 true) else (f64_Join.j1 k x1 x2 x8 (decide (x2 > 1023))))
def f64_Join.j1 : Nat → Int → Int → Int → Bool → Option (Int × Int)
 | 0, _, _, _, _ => none
 | k + 1, x1, x2, x8, x21 => if x21 = true then (some (0, 61)) else ((wide_Zeros.f k x1).bind fun t153 => (if 0 ≤ t153 then ((wide_Len.f k (shr .u64 x1 t153)).bind fun t154 => (if t154 > 53 then (f64_Join.j2 k (shr .u64 x1 t153) (wrap64 (x2 + t153)) x8 t154 true) else (if (wrap64 ((wrap64 (x2 + t153)) + t154)) > 1024 then (f64_Join.j2 k (shr .u64 x1 t153) (wrap64 (x2 + t153)) x8 t154 true) else (f64_Join.j2 k (shr .u64 x1 t153) (wrap64 (x2 + t153)) x8 t154 (decide ((wrap64 (x2 + t153)) < (-1074))))))) else (none)))
def f64_Join.j2 : Nat → Int → Int → Int → Int → Bool → Option (Int × Int)
 | 0, _, _, _, _, _ => none
 | k + 1, x1, x2, x8, x10, x43 => if x43 = true then (some (0, 61)) else (if 0 ≤ (mn (wrap64 (53 - x10)) (wrap64 (x2 + 1074))) then (if (shl .u64 x1 (mn (wrap64 (53 - x10)) (wrap64 (x2 + 1074)))) < 4503599627370496 then (some (Go.bits .or .u64 x8 (shl .u64 x1 (mn (wrap64 (53 - x10)) (wrap64 (x2 + 1074)))), 0)) else (some (Go.bits .or .u64 (Go.bits .or .u64 x8 (IntKind.u64.wrap ((IntKind.u64.wrap (wrap64 ((wrap64 (x2 - (mn (wrap64 (53 - x10)) (wrap64 (x2 + 1074))))) + 1075))) * 4503599627370496))) (Go.bits .and .u64 (shl .u64 x1 (mn (wrap64 (53 - x10)) (wrap64 (x2 + 1074)))) 4503599627370495), 0))) else (none))
end
def f64_Join.f (k : Nat) (a0 : Bool) (a1 : Int) (a2 : Int) : Option (Int × Int) := if a0 = true then (f64_Join.j0 k a1 a2 9223372036854775808) else (f64_Join.j0 k a1 a2 0)
set_option maxHeartbeats 8000000 in
set_option maxRecDepth 100000 in
theorem f64_Join.calls (k : Nat) (a0 : Bool) (a1 : Int) (a2 : Int) (r1 : Int) (r2 : Int) (w : World) (h : f64_Join.f k a0 a1 a2 = some (r1, r2)) :
  Calls Tryd.prog 86 #[.bool a0, .int .u64 a1, .int .i64 a2] w fun e w' => e = .returned (.tuple #[.int .u64 r1, .int .i64 r2]) ∧ Below w.heap.size w w' := by
 have HB := Aside0.mk (Below.refl w.heap.size w)
 have H : (if a0 = true then (f64_Join.j0 k a1 a2 9223372036854775808) else (f64_Join.j0 k a1 a2 0)) = some (r1, r2) := h
 clear h
 have HC4 := Aside0.mk H
 clear H
 go_enter Tryd.func86, Tryd.ntmps86
 go_upto_if 12 with (fail)
 go_cut [8] (fun v8 wc => ∃ (kq : Nat) (x8_3 : Int), v8 = .int .u64 x8_3 ∧ Aside0 (f64_Join.j0 kq a1 a2 x8_3 = some (r1, r2)) ∧ Aside0 (kq ≤ k) ∧ Aside0 (Below w.heap.size w wc))
 case first =>
  have H := HC4.out
  clear HC4
  by_cases c5 : a0 = true
  ·subst c5
   have H1 : (f64_Join.j0 k a1 a2 9223372036854775808) = some (r1, r2) := by rw [if_pos rfl] at H; exact H
   clear H
   have H := H1
   clear H1
   have H' := Aside0.mk H
   clear H
   go_wp2
   go_meet
   case rel => exact ⟨_, (9223372036854775808), dF, H', ⟨dN⟩, ⟨dB⟩⟩
  ·replace c5 := Bool.eq_false_iff.mpr c5
   subst c5
   have H1 : (f64_Join.j0 k a1 a2 0) = some (r1, r2) := by rw [if_neg (show ¬ (false = true) by decide)] at H; exact H
   clear H
   have H := H1
   clear H1
   have H' := Aside0.mk H
   clear H
   go_wp2
   go_meet
   case rel => exact ⟨_, (0), dF, H', ⟨dN⟩, ⟨dB⟩⟩
 case rest =>
  clear HC4
  try clear p2
  try clear c5
  obtain ⟨kq, x8_3, rfl, HA, HJ3, HB⟩ := hcut
  cases kq with
  | zero => exact absurd HA.out (by simp [f64_Join.j0])
  | succ kj3 =>
   have H := HA.out
   clear HA
   simp only [f64_Join.j0] at H
   by_cases c6 : a1 = 0
   ·rw [if_pos c6] at H
    have c6b0 : (a1 == 0) = true := beq_iff_eq.mpr c6
    have c6b1 : (a1 != 0) = false := bne_eq_false_iff_eq.mpr c6
    clear c6
    simp only [Option.some.injEq, Prod.mk.injEq] at H
    obtain ⟨rfl, rfl⟩ := H
    go_wp2
    go_ret2
    exact ⟨dE, dB⟩
   ·rw [if_neg c6] at H
    have c6b0 : (a1 == 0) = false := beq_eq_false_iff_ne.mpr c6
    have c6b1 : (a1 != 0) = true := bne_iff_ne.mpr c6
    have HC7 := Aside0.mk H
    clear H
    go_upto_region 6 with (fail)
    go_cut [21] (fun v21 wc => ∃ (kq : Nat) (x21_6 : Bool), v21 = .bool x21_6 ∧ Aside0 (f64_Join.j1 kq a1 a2 x8_3 x21_6 = some (r1, r2)) ∧ Aside0 (kq ≤ kj3) ∧ Aside0 (Below w.heap.size w wc))
    case first =>
     have H := HC7.out
     clear HC7
     by_cases c8 : a2 < (-1137)
     ·rw [if_pos c8] at H
      have c8b0 : decide (a2 < (-1137)) = true := decide_eq_true c8
      clear c8
      (first | rw [c8b0] | (simp only [i64_w, i32_w]; rw [c8b0]) | skip)
      have H' := Aside0.mk H
      clear H
      go_wp2
      go_meet
      case rel => exact ⟨_, (true), dF, H', ⟨by have := HJ3.out; first | omega | exact Nat.le_refl _⟩, ⟨dB⟩⟩
     ·rw [if_neg c8] at H
      have c8b0 : decide (a2 < (-1137)) = false := decide_eq_false c8
      clear c8
      (first | rw [c8b0] | (simp only [i64_w, i32_w]; rw [c8b0]) | skip)
      have H' := Aside0.mk H
      clear H
      go_wp2
      go_meet
      case rel => exact ⟨_, (decide (a2 > 1023)), dF, H', ⟨by have := HJ3.out; first | omega | exact Nat.le_refl _⟩, ⟨dB⟩⟩
    case rest =>
     clear HC7
     try clear p2
     try clear c5
     try clear c6
     try clear c6b0
     try clear c6b1
     try clear c8
     try clear c8b0
     try clear p2
     obtain ⟨kq, x21_6, rfl, HA, HJ6, HB⟩ := hcut
     cases kq with
     | zero => exact absurd HA.out (by simp [f64_Join.j1])
     | succ kj6 =>
      have H := HA.out
      clear HA
      simp only [f64_Join.j1] at H
      by_cases c9 : x21_6 = true
      ·subst c9
       have H1 : (some (0, 61)) = some (r1, r2) := by rw [if_pos rfl] at H; exact H
       clear H
       have H := H1
       clear H1
       simp only [Option.some.injEq, Prod.mk.injEq] at H
       obtain ⟨rfl, rfl⟩ := H
       go_wp2
       go_ret2
       exact ⟨dE, dB⟩
      ·replace c9 := Bool.eq_false_iff.mpr c9
       subst c9
       have H1 : ((wide_Zeros.f kj6 a1).bind fun t153 => (if 0 ≤ t153 then ((wide_Len.f kj6 (shr .u64 a1 t153)).bind fun t154 => (if t154 > 53 then (f64_Join.j2 kj6 (shr .u64 a1 t153) (wrap64 (a2 + t153)) x8_3 t154 true) else (if (wrap64 ((wrap64 (a2 + t153)) + t154)) > 1024 then (f64_Join.j2 kj6 (shr .u64 a1 t153) (wrap64 (a2 + t153)) x8_3 t154 true) else (f64_Join.j2 kj6 (shr .u64 a1 t153) (wrap64 (a2 + t153)) x8_3 t154 (decide ((wrap64 (a2 + t153)) < (-1074))))))) else (none))) = some (r1, r2) := by rw [if_neg (show ¬ (false = true) by decide)] at H; exact H
       clear H
       have H := H1
       clear H1
       replace H := obe H
       obtain ⟨t153, A100, H⟩ := H
       replace H : (if 0 ≤ t153 then ((wide_Len.f kj6 (shr .u64 a1 t153)).bind fun t154 => (if t154 > 53 then (f64_Join.j2 kj6 (shr .u64 a1 t153) (wrap64 (a2 + t153)) x8_3 t154 true) else (if (wrap64 ((wrap64 (a2 + t153)) + t154)) > 1024 then (f64_Join.j2 kj6 (shr .u64 a1 t153) (wrap64 (a2 + t153)) x8_3 t154 true) else (f64_Join.j2 kj6 (shr .u64 a1 t153) (wrap64 (a2 + t153)) x8_3 t154 (decide ((wrap64 (a2 + t153)) < (-1074))))))) else (none)) = some (r1, r2) := H
       have A10 := Aside0.mk A100
       clear A100
       by_cases c11 : (0 : Int) ≤ t153
       ·rw [if_pos c11] at H
        have c11b0 := eq_true c11
        have c11b1 : decide (0 ≤ t153) = true := decide_eq_true c11
        clear c11
        obtain ⟨ji12, hji12⟩ : ∃ j_ : Int, (shr .u64 a1 t153) = j_ := ⟨_, rfl⟩
        replace H : ((wide_Len.f kj6 (ji12)).bind fun t154 => (if t154 > 53 then (f64_Join.j2 kj6 ji12 (wrap64 (a2 + t153)) x8_3 t154 true) else (if (wrap64 ((wrap64 (a2 + t153)) + t154)) > 1024 then (f64_Join.j2 kj6 ji12 (wrap64 (a2 + t153)) x8_3 t154 true) else (f64_Join.j2 kj6 ji12 (wrap64 (a2 + t153)) x8_3 t154 (decide ((wrap64 (a2 + t153)) < (-1074))))))) = some (r1, r2) := by first | (rw [hji12] at H; exact H) | (simp only [hji12] at H ⊢; exact H)
        (try rw [hji12] at A10)
        have hji12_ : (a1 / 2 ^ min t153.toNat 64) = ji12 := hji12
        have hji12z : t153 ≤ 64 → (a1 / 2 ^ t153.toNat) = ji12 := shr_small hji12
        replace H := obe H
        obtain ⟨t154, A130, H⟩ := H
        replace H : (if t154 > 53 then (f64_Join.j2 kj6 ji12 (wrap64 (a2 + t153)) x8_3 t154 true) else (if (wrap64 ((wrap64 (a2 + t153)) + t154)) > 1024 then (f64_Join.j2 kj6 ji12 (wrap64 (a2 + t153)) x8_3 t154 true) else (f64_Join.j2 kj6 ji12 (wrap64 (a2 + t153)) x8_3 t154 (decide ((wrap64 (a2 + t153)) < (-1074)))))) = some (r1, r2) := H
        have A13 := Aside0.mk A130
        clear A130
        have HC14 := Aside0.mk H
        clear H
        go_upto_region 12 with (first | ((with_reducible refine gate_callee (f := 104) rfl ?_); refine gL (some 23) Tryd.func104 #[.int .u64 a1] ?_; (with_reducible refine (wide_Zeros.calls kj6 a1 t153 _ A10.out).mono ?_); rintro e w' ⟨rfl, ⟨nd, rfl⟩⟩; refine ⟨_, rfl, ?_⟩) | ((with_reducible refine gate_callee (f := 81) rfl ?_); refine goesL_ (some 31) rfl rfl Tryd.func81 (by kernel_rfl) rfl #[.int .u64 ji12] rfl (by (try simp only [List.map_toArray, List.map_cons, List.map_nil]); first | done | (simp only [hji12]; rfl) | rfl | (simp only [List.length_drop, List.length_take]; rfl)) ?_; (with_reducible refine (wide_Len.calls kj6 ji12 t154 _ A13.out).mono ?_); rintro e w' ⟨rfl, ⟨nd, rfl⟩⟩; refine ⟨_, rfl, ?_⟩))
        (try simp only [Act.put, List.setIfInBounds_toArray, List.set_cons_zero, List.set_cons_succ])
        go_cut [43] (fun v43 wc => ∃ (kq : Nat) (x43_13 : Bool), v43 = .bool x43_13 ∧ Aside0 (f64_Join.j2 kq ji12 (wrap64 (a2 + t153)) x8_3 t154 x43_13 = some (r1, r2)) ∧ Aside0 (kq ≤ kj6) ∧ Aside0 (Below w.heap.size w wc))
        case first =>
         have H := HC14.out
         clear HC14
         by_cases c15 : t154 > 53
         ·rw [if_pos c15] at H
          have c15b0 : decide (53 < t154) = true := decide_eq_true c15
          clear c15
          (first | rw [c15b0] | (simp only [i64_w, i32_w]; rw [c15b0]) | skip)
          have H' := Aside0.mk H
          clear H
          go_wp2
          go_meet
          case rel => exact ⟨_, (true), dF, H', ⟨by have := HJ3.out; have := HJ6.out; first | omega | exact Nat.le_refl _⟩, ⟨dB⟩⟩
         ·rw [if_neg c15] at H
          have c15b0 : decide (53 < t154) = false := decide_eq_false c15
          clear c15
          (first | rw [c15b0] | (simp only [i64_w, i32_w]; rw [c15b0]) | skip)
          by_cases c16 : (wrap64 ((wrap64 (a2 + t153)) + t154)) > 1024
          ·rw [if_pos c16] at H
           have c16b0 : decide (1024 < (wrap64 ((wrap64 (a2 + t153)) + t154))) = true := decide_eq_true c16
           clear c16
           have H' := Aside0.mk H
           clear H
           go_wp2
           go_meet
           case rel => exact ⟨_, (true), dF, H', ⟨by have := HJ3.out; have := HJ6.out; first | omega | exact Nat.le_refl _⟩, ⟨dB⟩⟩
          ·rw [if_neg c16] at H
           have c16b0 : decide (1024 < (wrap64 ((wrap64 (a2 + t153)) + t154))) = false := decide_eq_false c16
           clear c16
           have H' := Aside0.mk H
           clear H
           go_wp2
           go_meet
           case rel => exact ⟨_, (decide ((wrap64 (a2 + t153)) < (-1074))), dF, H', ⟨by have := HJ3.out; have := HJ6.out; first | omega | exact Nat.le_refl _⟩, ⟨dB⟩⟩
        case rest =>
         clear HC14
         try clear c1
         try clear p2
         try clear c5
         try clear c6
         try clear c6b0
         try clear c6b1
         try clear p6
         try clear c8
         try clear c8b0
         try clear c9
         try clear c10
         try clear c11
         try clear c11b0
         try clear c11b1
         try clear c15
         try clear c15b0
         try clear c16
         try clear c16b0
         try clear p2
         obtain ⟨kq, x43_13, rfl, HA, HJ13, HB⟩ := hcut
         cases kq with
         | zero => exact absurd HA.out (by simp [f64_Join.j2])
         | succ kj13 =>
          have H := HA.out
          clear HA
          simp only [f64_Join.j2] at H
          by_cases c17 : x43_13 = true
          ·subst c17
           have H1 : (some (0, 61)) = some (r1, r2) := by rw [if_pos rfl] at H; exact H
           clear H
           have H := H1
           clear H1
           simp only [Option.some.injEq, Prod.mk.injEq] at H
           obtain ⟨rfl, rfl⟩ := H
           go_wp2
           go_ret2
           exact ⟨by first | rfl | (simp [errW_none, errW_some] <;> rfl) | (simp only [← hji12]; first | rfl | (simp [errW_none, errW_some] <;> rfl)) | (simp [*, errW_none, errW_some] <;> rfl), dB⟩
          ·replace c17 := Bool.eq_false_iff.mpr c17
           subst c17
           have H1 : (if 0 ≤ (mn (wrap64 (53 - t154)) (wrap64 ((wrap64 (a2 + t153)) + 1074))) then (if (shl .u64 ji12 (mn (wrap64 (53 - t154)) (wrap64 ((wrap64 (a2 + t153)) + 1074)))) < 4503599627370496 then (some (Go.bits .or .u64 x8_3 (shl .u64 ji12 (mn (wrap64 (53 - t154)) (wrap64 ((wrap64 (a2 + t153)) + 1074)))), 0)) else (some (Go.bits .or .u64 (Go.bits .or .u64 x8_3 (IntKind.u64.wrap ((IntKind.u64.wrap (wrap64 ((wrap64 ((wrap64 (a2 + t153)) - (mn (wrap64 (53 - t154)) (wrap64 ((wrap64 (a2 + t153)) + 1074))))) + 1075))) * 4503599627370496))) (Go.bits .and .u64 (shl .u64 ji12 (mn (wrap64 (53 - t154)) (wrap64 ((wrap64 (a2 + t153)) + 1074)))) 4503599627370495), 0))) else (none)) = some (r1, r2) := by rw [if_neg (show ¬ (false = true) by decide)] at H; exact H
           clear H
           have H := H1
           clear H1
           obtain ⟨ji18, hji18⟩ : ∃ j_ : Int, (mn (wrap64 (53 - t154)) (wrap64 ((wrap64 (a2 + t153)) + 1074))) = j_ := ⟨_, rfl⟩
           replace H : (if 0 ≤ (ji18) then (if (shl .u64 ji12 (ji18)) < 4503599627370496 then (some (Go.bits .or .u64 x8_3 (shl .u64 ji12 (ji18)), 0)) else (some (Go.bits .or .u64 (Go.bits .or .u64 x8_3 (IntKind.u64.wrap ((IntKind.u64.wrap (wrap64 ((wrap64 ((wrap64 (a2 + t153)) - (ji18))) + 1075))) * 4503599627370496))) (Go.bits .and .u64 (shl .u64 ji12 (ji18)) 4503599627370495), 0))) else (none)) = some (r1, r2) := by first | (rw [hji18] at H; exact H) | (simp only [hji18] at H ⊢; exact H)
           have hji18_ : (if (wrap64 ((wrap64 (a2 + t153)) + 1074)) < (wrap64 (53 - t154)) then (wrap64 ((wrap64 (a2 + t153)) + 1074)) else (wrap64 (53 - t154))) = ji18 := hji18
           by_cases c19 : (0 : Int) ≤ (ji18)
           ·rw [if_pos c19] at H
            have c19b0 := eq_true c19
            have c19b1 : decide (0 ≤ (ji18)) = true := decide_eq_true c19
            clear c19
            obtain ⟨ji20, hji20⟩ : ∃ j_ : Int, (shl .u64 ji12 (ji18)) = j_ := ⟨_, rfl⟩
            replace H : (if (ji20) < 4503599627370496 then (some (Go.bits .or .u64 x8_3 (ji20), 0)) else (some (Go.bits .or .u64 (Go.bits .or .u64 x8_3 (IntKind.u64.wrap ((IntKind.u64.wrap (wrap64 ((wrap64 ((wrap64 (a2 + t153)) - (ji18))) + 1075))) * 4503599627370496))) (Go.bits .and .u64 (ji20) 4503599627370495), 0))) = some (r1, r2) := by first | (rw [hji20] at H; exact H) | (simp only [hji20] at H ⊢; exact H)
            have hji20_ : (IntKind.u64.wrap (ji12 * 2 ^ min (ji18).toNat 64)) = ji20 := hji20
            have hji20z : (ji18) ≤ 64 → (IntKind.u64.wrap (ji12 * 2 ^ (ji18).toNat)) = ji20 := shl_small hji20
            by_cases c21 : (ji20) < 4503599627370496
            ·rw [if_pos c21] at H
             have c21b0 : decide ((ji20) < 4503599627370496) = true := decide_eq_true c21
             clear c21
             simp only [Option.some.injEq, Prod.mk.injEq] at H
             obtain ⟨rfl, rfl⟩ := H
             go_wp2
             go_ret2
             exact ⟨by first | rfl | (simp [errW_none, errW_some] <;> rfl) | (simp only [← hji12, ← hji18, ← hji20]; first | rfl | (simp [errW_none, errW_some] <;> rfl)) | (simp [*, errW_none, errW_some] <;> rfl), dB⟩
            ·rw [if_neg c21] at H
             have c21b0 : decide ((ji20) < 4503599627370496) = false := decide_eq_false c21
             clear c21
             simp only [Option.some.injEq, Prod.mk.injEq] at H
             obtain ⟨rfl, rfl⟩ := H
             go_wp2
             go_ret2
             exact ⟨by first | rfl | (simp [errW_none, errW_some] <;> rfl) | (simp only [← hji12, ← hji18, ← hji20]; first | rfl | (simp [errW_none, errW_some] <;> rfl)) | (simp [*, errW_none, errW_some] <;> rfl), dB⟩
           ·rw [if_neg c19] at H
            exact absurd H (by simp)
       ·rw [if_neg c11] at H
        exact absurd H (by simp)

end Go.Proofs.YtoefabmlkbhmpaaDoor.PA

namespace Go.Proofs.YtoefabmlkbhmpaaDoor.PA
open Go.RowKit Go.Proofs.YtoefabmlkbhmpaaDoorW.PrintWords Go.Proofs.YtoefabmlkbhmpaaDoorW.PrintLast Go.Proofs.YtoefabmlkbhmpaaDoorW.PrintMore
attribute [local go_sem] max2_int min2_int max_two min_two max_three min_three max_four min_four   -- for this text's walks alone
set_option linter.unusedVariables false
set_option linter.unusedSimpArgs false

/-! ### near_finish: function 46 (by hand) -/
def near_wayC1.f (a0 : Bool) (a1 : Bool) (a2 : Int) : Option (Bool) := if a2 = 3 then (some true) else (if a2 = 2 then (some a1) else (some false))
set_option maxHeartbeats 8000000 in
set_option maxRecDepth 100000 in
theorem near_wayC1.calls (a0 : Bool) (a1 : Bool) (a2 : Int) (r : Bool) (w : World) (h : near_wayC1.f a0 a1 a2 = some r) :
  Calls Tryd.prog 105 #[.bool a0, .bool a1, .int .i64 a2] w fun e w' => e = .returned (.bool r) ∧ Drawn0 w w' := by
 have H : (if a2 = 3 then (some true) else (if a2 = 2 then (some a1) else (some false))) = some r := h
 clear h
 by_cases c4 : a2 = 3
 ·rw [if_pos c4] at H
  have c4b0 : (a2 == 3) = true := beq_iff_eq.mpr c4
  have c4b1 : (a2 != 3) = false := bne_eq_false_iff_eq.mpr c4
  clear c4
  obtain rfl := Option.some.inj H
  go_enter Tryd.func105, Tryd.ntmps105
  go_wp2
  go_ret
  exact ⟨by first | rfl | (simp; done) | (simp [*]; done), by repeat (first | exact Drawn0.refl _ | apply Drawn0.step)⟩
 ·rw [if_neg c4] at H
  have c4b0 : (a2 == 3) = false := beq_eq_false_iff_ne.mpr c4
  have c4b1 : (a2 != 3) = true := bne_iff_ne.mpr c4
  by_cases c5 : a2 = 2
  ·rw [if_pos c5] at H
   have c5b0 : (a2 == 2) = true := beq_iff_eq.mpr c5
   have c5b1 : (a2 != 2) = false := bne_eq_false_iff_eq.mpr c5
   clear c5
   obtain rfl := Option.some.inj H
   go_enter Tryd.func105, Tryd.ntmps105
   go_wp2
   go_ret
   exact ⟨by first | rfl | (simp; done) | (simp [*]; done), by repeat (first | exact Drawn0.refl _ | apply Drawn0.step)⟩
  ·rw [if_neg c5] at H
   have c5b0 : (a2 == 2) = false := beq_eq_false_iff_ne.mpr c5
   have c5b1 : (a2 != 2) = true := bne_iff_ne.mpr c5
   obtain rfl := Option.some.inj H
   go_enter Tryd.func105, Tryd.ntmps105
   go_wp2
   go_ret
   exact ⟨by first | rfl | (simp; done) | (simp [*]; done), by repeat (first | exact Drawn0.refl _ | apply Drawn0.step)⟩

def near_wayC2.f (a0 : Bool) (a1 : Bool) (a2 : Int) : Option (Bool) := some false
set_option maxHeartbeats 8000000 in
set_option maxRecDepth 100000 in
theorem near_wayC2.calls (a0 : Bool) (a1 : Bool) (a2 : Int) (r : Bool) (w : World) (h : near_wayC2.f a0 a1 a2 = some r) :
  Calls Tryd.prog 106 #[.bool a0, .bool a1, .int .i64 a2] w fun e w' => e = .returned (.bool r) ∧ Drawn0 w w' := by
 have H : (some false) = some r := h
 clear h
 obtain rfl := Option.some.inj H
 go_enter Tryd.func106, Tryd.ntmps106
 go_wp2
 go_ret
 exact ⟨by first | rfl | (simp; done) | (simp [*]; done), by repeat (first | exact Drawn0.refl _ | apply Drawn0.step)⟩

def near_wayC3.f (a0 : Bool) (a1 : Bool) (a2 : Int) : Option (Bool) := some (a2 != 0)
set_option maxHeartbeats 8000000 in
set_option maxRecDepth 100000 in
theorem near_wayC3.calls (a0 : Bool) (a1 : Bool) (a2 : Int) (r : Bool) (w : World) (h : near_wayC3.f a0 a1 a2 = some r) :
  Calls Tryd.prog 107 #[.bool a0, .bool a1, .int .i64 a2] w fun e w' => e = .returned (.bool r) ∧ Drawn0 w w' := by
 have H : (some (a2 != 0)) = some r := h
 clear h
 obtain rfl := Option.some.inj H
 go_enter Tryd.func107, Tryd.ntmps107
 go_wp2
 go_ret
 exact ⟨by first | rfl | (simp; done) | (simp [*]; done), by repeat (first | exact Drawn0.refl _ | apply Drawn0.step)⟩

def near_wayC4.f (a0 : Bool) (a1 : Bool) (a2 : Int) : Option (Bool) := if a0 = true then (some false) else (some (a2 != 0))
set_option maxHeartbeats 8000000 in
set_option maxRecDepth 100000 in
theorem near_wayC4.calls (a0 : Bool) (a1 : Bool) (a2 : Int) (r : Bool) (w : World) (h : near_wayC4.f a0 a1 a2 = some r) :
  Calls Tryd.prog 108 #[.bool a0, .bool a1, .int .i64 a2] w fun e w' => e = .returned (.bool r) ∧ Drawn0 w w' := by
 have H : (if a0 = true then (some false) else (some (a2 != 0))) = some r := h
 clear h
 by_cases c4 : a0 = true
 ·subst c4
  have H1 : (some false) = some r := by rw [if_pos rfl] at H; exact H
  clear H
  have H := H1
  clear H1
  obtain rfl := Option.some.inj H
  go_enter Tryd.func108, Tryd.ntmps108
  go_wp2
  go_ret
  exact ⟨by first | rfl | (simp; done) | (simp [*]; done), by repeat (first | exact Drawn0.refl _ | apply Drawn0.step)⟩
 ·replace c4 := Bool.eq_false_iff.mpr c4
  subst c4
  have H1 : (some (a2 != 0)) = some r := by rw [if_neg (show ¬ (false = true) by decide)] at H; exact H
  clear H
  have H := H1
  clear H1
  obtain rfl := Option.some.inj H
  go_enter Tryd.func108, Tryd.ntmps108
  go_wp2
  go_ret
  exact ⟨by first | rfl | (simp; done) | (simp [*]; done), by repeat (first | exact Drawn0.refl _ | apply Drawn0.step)⟩

def near_wayC5.f (a0 : Bool) (a1 : Bool) (a2 : Int) : Option (Bool) := if a0 = true then (some (a2 != 0)) else (some false)
set_option maxHeartbeats 8000000 in
set_option maxRecDepth 100000 in
theorem near_wayC5.calls (a0 : Bool) (a1 : Bool) (a2 : Int) (r : Bool) (w : World) (h : near_wayC5.f a0 a1 a2 = some r) :
  Calls Tryd.prog 109 #[.bool a0, .bool a1, .int .i64 a2] w fun e w' => e = .returned (.bool r) ∧ Drawn0 w w' := by
 have H : (if a0 = true then (some (a2 != 0)) else (some false)) = some r := h
 clear h
 by_cases c4 : a0 = true
 ·subst c4
  have H1 : (some (a2 != 0)) = some r := by rw [if_pos rfl] at H; exact H
  clear H
  have H := H1
  clear H1
  obtain rfl := Option.some.inj H
  go_enter Tryd.func109, Tryd.ntmps109
  go_wp2
  go_ret
  exact ⟨by first | rfl | (simp; done) | (simp [*]; done), by repeat (first | exact Drawn0.refl _ | apply Drawn0.step)⟩
 ·replace c4 := Bool.eq_false_iff.mpr c4
  subst c4
  have H1 : (some false) = some r := by rw [if_neg (show ¬ (false = true) by decide)] at H; exact H
  clear H
  have H := H1
  clear H1
  obtain rfl := Option.some.inj H
  go_enter Tryd.func109, Tryd.ntmps109
  go_wp2
  go_ret
  exact ⟨by first | rfl | (simp; done) | (simp [*]; done), by repeat (first | exact Drawn0.refl _ | apply Drawn0.step)⟩

def near_way.f (a0 : Int) (a1 : Bool) (a2 : Bool) (a3 : Int) : Option (Bool) := if a0 = 0 then ((near_wayC1.f a1 a2 a3).bind fun t153 => (some t153)) else (if a0 = 1 then ((near_wayC2.f a1 a2 a3).bind fun t154 => (some t154)) else (if a0 = 2 then ((near_wayC3.f a1 a2 a3).bind fun t155 => (some t155)) else (if a0 = 3 then ((near_wayC4.f a1 a2 a3).bind fun t156 => (some t156)) else ((near_wayC5.f a1 a2 a3).bind fun t157 => (some t157)))))
/-- the closure of a mode -/
def near_wayfn (m : Int) : Nat := if m = 0 then 105 else if m = 1 then 106 else if m = 2 then 107 else if m = 3 then 108 else 109
theorem near_way.enters (m : Int) (args : Array Value) (w : World) : (callFunc (near_wayfn m) args).run Tryd.prog w = .ok (.enter (near_wayfn m) args) w := by
 unfold near_wayfn
 by_cases c0 : m = 0
 ·rw [if_pos c0]; exact enters_ Tryd.func105 (by kernel_rfl) rfl args w
 ·rw [if_neg c0]
  by_cases c1 : m = 1
  ·rw [if_pos c1]; exact enters_ Tryd.func106 (by kernel_rfl) rfl args w
  ·rw [if_neg c1]
   by_cases c2 : m = 2
   ·rw [if_pos c2]; exact enters_ Tryd.func107 (by kernel_rfl) rfl args w
   ·rw [if_neg c2]
    by_cases c3 : m = 3
    ·rw [if_pos c3]; exact enters_ Tryd.func108 (by kernel_rfl) rfl args w
    ·rw [if_neg c3]; exact enters_ Tryd.func109 (by kernel_rfl) rfl args w
theorem near_way.callsF (m : Int) (a0 a1 : Bool) (a2 : Int) (r : Bool) (w : World) (h : near_way.f m a0 a1 a2 = some r) :
  Calls Tryd.prog (near_wayfn m) #[.bool a0, .bool a1, .int .i64 a2] w fun e w' => e = .returned (.bool r) ∧ Drawn0 w w' := by
 unfold near_way.f at h
 unfold near_wayfn
 by_cases c0 : m = 0
 ·rw [if_pos c0] at h ⊢
  obtain ⟨t, ht, h⟩ := Option.bind_eq_some_iff.mp h
  obtain rfl := Option.some.inj h
  exact near_wayC1.calls _ _ _ _ _ ht
 ·rw [if_neg c0] at h ⊢
  by_cases c1 : m = 1
  ·rw [if_pos c1] at h ⊢
   obtain ⟨t, ht, h⟩ := Option.bind_eq_some_iff.mp h
   obtain rfl := Option.some.inj h
   exact near_wayC2.calls _ _ _ _ _ ht
  ·rw [if_neg c1] at h ⊢
   by_cases c2 : m = 2
   ·rw [if_pos c2] at h ⊢
    obtain ⟨t, ht, h⟩ := Option.bind_eq_some_iff.mp h
    obtain rfl := Option.some.inj h
    exact near_wayC3.calls _ _ _ _ _ ht
   ·rw [if_neg c2] at h ⊢
    by_cases c3 : m = 3
    ·rw [if_pos c3] at h ⊢
     obtain ⟨t, ht, h⟩ := Option.bind_eq_some_iff.mp h
     obtain rfl := Option.some.inj h
     exact near_wayC4.calls _ _ _ _ _ ht
    ·rw [if_neg c3] at h ⊢
     obtain ⟨t, ht, h⟩ := Option.bind_eq_some_iff.mp h
     obtain rfl := Option.some.inj h
     exact near_wayC5.calls _ _ _ _ _ ht
set_option maxRecDepth 100000 in
theorem near_way.calls (a0 : Int) (w : World) : Calls Tryd.prog 85 #[.int .i64 a0] w fun e w' => e = .returned (.agg #[.func (.func (near_wayfn a0)) #[] #[]]) ∧ Below w.heap.size w w' := by
 unfold near_wayfn
 by_cases c0 : a0 = 0
 ·rw [if_pos c0]
  have b0 : (a0 == 0) = true := beq_iff_eq.mpr c0
  clear c0
  go_enter Tryd.func85, Tryd.ntmps85
  go_wp2
  refine bodyPost_ret (results_cell_row rfl _ _ w.heap.size 110 #[.func (.func 105) #[] #[]] (0, 0) _ rfl (by first | exact blk_new w _ | (simp; done)) (by exact Tryd.underlying110) rfl (by kernel_rfl)) rfl ?_
  exact ⟨rfl, by repeat (first | exact Below.refl _ _ | apply below_alloc)⟩
 ·rw [if_neg c0]
  have b0 : (a0 == 0) = false := beq_eq_false_iff_ne.mpr c0
  clear c0
  by_cases c1 : a0 = 1
  ·rw [if_pos c1]
   have b1 : (a0 == 1) = true := beq_iff_eq.mpr c1
   clear c1
   go_enter Tryd.func85, Tryd.ntmps85
   go_wp2
   refine bodyPost_ret (results_cell_row rfl _ _ w.heap.size 110 #[.func (.func 106) #[] #[]] (0, 0) _ rfl (by first | exact blk_new w _ | (simp; done)) (by exact Tryd.underlying110) rfl (by kernel_rfl)) rfl ?_
   exact ⟨rfl, by repeat (first | exact Below.refl _ _ | apply below_alloc)⟩
  ·rw [if_neg c1]
   have b1 : (a0 == 1) = false := beq_eq_false_iff_ne.mpr c1
   clear c1
   by_cases c2 : a0 = 2
   ·rw [if_pos c2]
    have b2 : (a0 == 2) = true := beq_iff_eq.mpr c2
    clear c2
    go_enter Tryd.func85, Tryd.ntmps85
    go_wp2
    refine bodyPost_ret (results_cell_row rfl _ _ w.heap.size 110 #[.func (.func 107) #[] #[]] (0, 0) _ rfl (by first | exact blk_new w _ | (simp; done)) (by exact Tryd.underlying110) rfl (by kernel_rfl)) rfl ?_
    exact ⟨rfl, by repeat (first | exact Below.refl _ _ | apply below_alloc)⟩
   ·rw [if_neg c2]
    have b2 : (a0 == 2) = false := beq_eq_false_iff_ne.mpr c2
    clear c2
    by_cases c3 : a0 = 3
    ·rw [if_pos c3]
     have b3 : (a0 == 3) = true := beq_iff_eq.mpr c3
     clear c3
     go_enter Tryd.func85, Tryd.ntmps85
     go_wp2
     refine bodyPost_ret (results_cell_row rfl _ _ w.heap.size 110 #[.func (.func 108) #[] #[]] (0, 0) _ rfl (by first | exact blk_new w _ | (simp; done)) (by exact Tryd.underlying110) rfl (by kernel_rfl)) rfl ?_
     exact ⟨rfl, by repeat (first | exact Below.refl _ _ | apply below_alloc)⟩
    ·rw [if_neg c3]
     have b3 : (a0 == 3) = false := beq_eq_false_iff_ne.mpr c3
     clear c3
     go_enter Tryd.func85, Tryd.ntmps85
     go_wp2
     refine bodyPost_ret (results_cell_row rfl _ _ w.heap.size 110 #[.func (.func 109) #[] #[]] (0, 0) _ rfl (by first | exact blk_new w _ | (simp; done)) (by exact Tryd.underlying110) rfl (by kernel_rfl)) rfl ?_
     exact ⟨rfl, by repeat (first | exact Below.refl _ _ | apply below_alloc)⟩
theorem goesE_ {P : Program} {ops : Array Oper} {Q : Exit → Act → World → Prop} {rest : List Oper} {oi : Oper} {a : Act} {w : World} (N : Option Tmp) (hd : oi.dst = N) (hg : oi.guard = none) {f : FuncId} {xs : Array Operand} {ts : Array TypeId} {op0 : Operand} (args : Array Value)
  (he : (callFunc f args).run P w = .ok (.enter f args) w) (hop : oi.op = .call { callee := .value op0, args := xs, argTypes := ts }) (hv : a.eval op0 = .func (.func f) #[] #[]) (hargs : xs.map a.eval = args)
  (h : Calls P f args w fun e w' => ∃ v, e = .returned v ∧ wpList P ops Q rest (a.put N v) w') : wpList P ops Q (oi :: rest) a w := by
 refine wpList_plain hg fun K hK => ?_
 have hrun : (execOp a.eval oi).run P w = .ok (.enter f args) w := by
  unfold execOp
  simp [hop, resolve, Deferred.ofValue, invoke, hv, hargs, he]
 unfold Oper.wp
 rw [hrun, Oper.upon_enter]
 refine h.mono fun e w'' hh => ?_
 obtain ⟨v, rfl, hk⟩ := hh
 subst hd
 exact hK _ _ hk
/-- whether a number beyond the greatest stays there: by the mode and the side -/
def near_staysL : List (List Bool) := [[false, false], [true, true], [false, false], [false, true], [true, false]]
def near_stays.f (m s : Int) : Option Bool := if 0 ≤ m ∧ m < 5 ∧ 0 ≤ s ∧ s < 2 then some ((near_staysL.getD m.toNat []).getD s.toNat false) else none
/-- the table lies in the world -/
def StaysLaid (w : World) : Prop := ∀ i j : Nat, i < 5 → j < 2 → w.cell? ⟨0, 2 * i + j, none⟩ = some (.bool ((near_staysL.getD i []).getD j false))
theorem StaysLaid.below {w w' : World} (h : StaysLaid w) (hb : Below w.heap.size w w') : StaysLaid w' := fun i j hi hj => pw_cell_below hb (h i j hi hj)
theorem StaysLaid.at_ {w : World} (h : StaysLaid w) {m s : Int} {t : Bool} (e : near_stays.f m s = some t) : 0 ≤ m ∧ m < 5 ∧ 0 ≤ s ∧ s < 2 ∧ w.cell? ⟨0, m.toNat * 2 + s.toNat, none⟩ = some (.bool t) := by
 unfold near_stays.f at e
 split at e
 ·rename_i hc
  obtain rfl := Option.some.inj e
  have z := h m.toNat s.toNat (by omega) (by omega)
  rw [Nat.mul_comm] at z
  exact ⟨hc.1, hc.2.1, hc.2.2.1, hc.2.2.2, z⟩
 ·cases e
mutual
def near_finish.j0 : Nat → Bool → Int → Int → Bool → Int → Int → Int → Option (Int × Int)
 | 0, _, _, _, _, _, _, _ => none
 | k + 1, x0, x1, x2, x3, x4, x12, x13 => if x1 = 0 then (near_finish.j1 k x0 x1 x2 x3 x4 x12 x13 (!x3)) else (near_finish.j1 k x0 x1 x2 x3 x4 x12 x13 false)
def near_finish.j1 : Nat → Bool → Int → Int → Bool → Int → Int → Int → Bool → Option (Int × Int)
 | 0, _, _, _, _, _, _, _, _ => none
 | k + 1, x0, x1, x2, x3, x4, x12, x13, x25 => if x25 = true then (some (x12, 0)) else ((wide_Len.f k x1).bind fun t160 => (if x1 = 0 then (near_finish.j2 k x0 x1 x2 x3 x4 x12 x13 (-1074)) else (near_finish.j2 k x0 x1 x2 x3 x4 x12 x13 (mx (wrap64 ((wrap64 (x2 + t160)) - 53)) (-1074)))))
def near_finish.j2 : Nat → Bool → Int → Int → Bool → Int → Int → Int → Int → Option (Int × Int)
 | 0, _, _, _, _, _, _, _, _ => none
 | k + 1, x0, x1, x2, x3, x4, x12, x13, x14 => if x14 > x2 then ((near_cut.f k x1 (wrap64 (x14 - x2))).bind fun bt161 => (near_finish.j3 k x0 bt161.1 x3 x4 x12 x13 x14 bt161.2)) else (if x1 = 0 then (near_finish.j3 k x0 x1 x3 x4 x12 x13 x14 0) else (if 0 ≤ (wrap64 (x2 - x14)) then (near_finish.j3 k x0 (shl .u64 x1 (wrap64 (x2 - x14))) x3 x4 x12 x13 x14 0) else (none)))
def near_finish.j3 : Nat → Bool → Int → Bool → Int → Int → Int → Int → Int → Option (Int × Int)
 | 0, _, _, _, _, _, _, _, _ => none
 | k + 1, x0, x1, x3, x4, x12, x13, x14, x15 => if x3 = true then (if x15 = 0 then (near_finish.j4 k x0 x1 x4 x12 x13 x14 x15 true) else (near_finish.j4 k x0 x1 x4 x12 x13 x14 x15 (x15 == 2))) else (near_finish.j4 k x0 x1 x4 x12 x13 x14 x15 false)
def near_finish.j4 : Nat → Bool → Int → Int → Int → Int → Int → Int → Bool → Option (Int × Int)
 | 0, _, _, _, _, _, _, _, _ => none
 | k + 1, x0, x1, x4, x12, x13, x14, x15, x61 => if x61 = true then (near_finish.j5 k x0 x1 x4 x12 x13 x14 (wrap64 (x15 + 1))) else (near_finish.j5 k x0 x1 x4 x12 x13 x14 x15)
def near_finish.j5 : Nat → Bool → Int → Int → Int → Int → Int → Int → Option (Int × Int)
 | 0, _, _, _, _, _, _, _ => none
 | k + 1, x0, x1, x4, x12, x13, x14, x15 => (near_way.f x4 x0 ((Go.bits .and .u64 x1 1) == 1) x15).bind fun t163 => (if t163 = true then (near_finish.j6 k x0 (IntKind.u64.wrap (x1 + 1)) x4 x12 x13 x14) else (near_finish.j6 k x0 x1 x4 x12 x13 x14))
def near_finish.j6 : Nat → Bool → Int → Int → Int → Int → Int → Option (Int × Int)
 | 0, _, _, _, _, _, _ => none
 | k + 1, x0, x1, x4, x12, x13, x14 => if x1 = 9007199254740992 then (near_finish.j7 k x0 4503599627370496 x4 x12 x13 (wrap64 (x14 + 1))) else (near_finish.j7 k x0 x1 x4 x12 x13 x14)
def near_finish.j7 : Nat → Bool → Int → Int → Int → Int → Int → Option (Int × Int)
 | 0, _, _, _, _, _, _ => none
 | k + 1, x0, x1, x4, x12, x13, x14 => if x14 > 971 then ((near_stays.f x4 x13).bind fun t164 => (if t164 = true then (some (Go.bits .or .u64 x12 9218868437227405311, 0)) else (some (0, 70)))) else ((f64_Join.f k x0 x1 x14).bind fun bt165 => (some (bt165.1, 0)))
end
def near_finish.f (k : Nat) (a0 : Bool) (a1 : Int) (a2 : Int) (a3 : Bool) (a4 : Int) : Option (Int × Int) := if a0 = true then (near_finish.j0 k a0 a1 a2 a3 a4 9223372036854775808 1) else (near_finish.j0 k a0 a1 a2 a3 a4 0 0)
set_option maxHeartbeats 8000000 in
set_option maxRecDepth 100000 in
theorem near_finish.calls (k : Nat) (a0 : Bool) (a1 : Int) (a2 : Int) (a3 : Bool) (a4 : Int) (r1 : Int) (r2 : Int) (w : World) (h : near_finish.f k a0 a1 a2 a3 a4 = some (r1, r2)) (hS : StaysLaid w := by first | exact HS.out | exact hS | exact StaysLaid.below HS.out HB.out | exact StaysLaid.below HS.out dB) :
  Calls Tryd.prog 46 #[.bool a0, .int .u64 a1, .int .i64 a2, .bool a3, .int .i64 a4] w fun e w' => e = .returned (.tuple #[.int .u64 r1, .int .i64 r2]) ∧ Below w.heap.size w w' := by
 have HS := Aside0.mk (show StaysLaid w from hS)
 clear hS
 have HB := Aside0.mk (Below.refl w.heap.size w)
 have H : (if a0 = true then (near_finish.j0 k a0 a1 a2 a3 a4 9223372036854775808 1) else (near_finish.j0 k a0 a1 a2 a3 a4 0 0)) = some (r1, r2) := h
 clear h
 have HC6 := Aside0.mk H
 clear H
 go_enter Tryd.func46, Tryd.ntmps46
 go_upto_if 19 with (fail)
 go_cut [12, 13] (fun v12 v13 wc => ∃ (kq : Nat) (x12_5 : Int) (x13_5 : Int), v12 = .int .u64 x12_5 ∧ v13 = .int .i64 x13_5 ∧ Aside0 (near_finish.j0 kq a0 a1 a2 a3 a4 x12_5 x13_5 = some (r1, r2)) ∧ Aside0 (kq ≤ k) ∧ Aside0 (Below w.heap.size w wc))
 case first =>
  have H := HC6.out
  clear HC6
  by_cases c7 : a0 = true
  ·subst c7
   have H1 : (near_finish.j0 k true a1 a2 a3 a4 9223372036854775808 1) = some (r1, r2) := by rw [if_pos rfl] at H; exact H
   clear H
   have H := H1
   clear H1
   have H' := Aside0.mk H
   clear H
   go_wp2
   go_meet
   case rel => exact ⟨_, (9223372036854775808), (1), dF, dF, H', ⟨dN⟩, ⟨dB⟩⟩
  ·replace c7 := Bool.eq_false_iff.mpr c7
   subst c7
   have H1 : (near_finish.j0 k false a1 a2 a3 a4 0 0) = some (r1, r2) := by rw [if_neg (show ¬ (false = true) by decide)] at H; exact H
   clear H
   have H := H1
   clear H1
   have H' := Aside0.mk H
   clear H
   go_wp2
   go_meet
   case rel => exact ⟨_, (0), (0), dF, dF, H', ⟨dN⟩, ⟨dB⟩⟩
 case rest =>
  clear HC6
  try clear p2
  try clear c4
  try clear c7
  obtain ⟨kq, x12_5, x13_5, rfl, rfl, HA, HJ5, HB⟩ := hcut
  cases kq with
  | zero => exact absurd HA.out (by simp [near_finish.j0])
  | succ kj5 =>
   have H := HA.out
   clear HA
   simp only [near_finish.j0] at H
   have HC8 := Aside0.mk H
   clear H
   go_upto_region 4 with (fail)
   go_cut [25] (fun v25 wc => ∃ (kq : Nat) (x25_7 : Bool), v25 = .bool x25_7 ∧ Aside0 (near_finish.j1 kq a0 a1 a2 a3 a4 x12_5 x13_5 x25_7 = some (r1, r2)) ∧ Aside0 (kq ≤ kj5) ∧ Aside0 (Below w.heap.size w wc))
   case first =>
    have H := HC8.out
    clear HC8
    by_cases c9 : a1 = 0
    ·rw [if_pos c9] at H
     have c9b0 : (a1 == 0) = true := beq_iff_eq.mpr c9
     have c9b1 : (a1 != 0) = false := bne_eq_false_iff_eq.mpr c9
     clear c9
     (first | rw [c9b0] | (simp only [i64_w, i32_w]; rw [c9b0]) | skip)
     have H' := Aside0.mk H
     clear H
     go_wp2
     go_meet
     case rel => exact ⟨_, (!a3), dF, H', ⟨by have := HJ5.out; first | omega | exact Nat.le_refl _⟩, ⟨dB⟩⟩
    ·rw [if_neg c9] at H
     have c9b0 : (a1 == 0) = false := beq_eq_false_iff_ne.mpr c9
     have c9b1 : (a1 != 0) = true := bne_iff_ne.mpr c9
     (first | rw [c9b0] | (simp only [i64_w, i32_w]; rw [c9b0]) | skip)
     have H' := Aside0.mk H
     clear H
     go_wp2
     go_meet
     case rel => exact ⟨_, (false), dF, H', ⟨by have := HJ5.out; first | omega | exact Nat.le_refl _⟩, ⟨dB⟩⟩
   case rest =>
    clear HC8
    try clear p2
    try clear c4
    try clear c7
    try clear c9
    try clear c9b0
    try clear c9b1
    try clear p2
    obtain ⟨kq, x25_7, rfl, HA, HJ7, HB⟩ := hcut
    cases kq with
    | zero => exact absurd HA.out (by simp [near_finish.j1])
    | succ kj7 =>
     have H := HA.out
     clear HA
     simp only [near_finish.j1] at H
     by_cases c10 : x25_7 = true
     ·subst c10
      have H1 : (some (x12_5, 0)) = some (r1, r2) := by rw [if_pos rfl] at H; exact H
      clear H
      have H := H1
      clear H1
      simp only [Option.some.injEq, Prod.mk.injEq] at H
      obtain ⟨rfl, rfl⟩ := H
      go_wp2
      go_ret2
      exact ⟨dE, dB⟩
     ·replace c10 := Bool.eq_false_iff.mpr c10
      subst c10
      have H1 : ((wide_Len.f kj7 a1).bind fun t160 => (if a1 = 0 then (near_finish.j2 kj7 a0 a1 a2 a3 a4 x12_5 x13_5 (-1074)) else (near_finish.j2 kj7 a0 a1 a2 a3 a4 x12_5 x13_5 (mx (wrap64 ((wrap64 (a2 + t160)) - 53)) (-1074))))) = some (r1, r2) := by rw [if_neg (show ¬ (false = true) by decide)] at H; exact H
      clear H
      have H := H1
      clear H1
      replace H := obe H
      obtain ⟨t160, A110, H⟩ := H
      replace H : (if a1 = 0 then (near_finish.j2 kj7 a0 a1 a2 a3 a4 x12_5 x13_5 (-1074)) else (near_finish.j2 kj7 a0 a1 a2 a3 a4 x12_5 x13_5 (mx (wrap64 ((wrap64 (a2 + t160)) - 53)) (-1074)))) = some (r1, r2) := H
      have A11 := Aside0.mk A110
      clear A110
      obtain ⟨ji12, hji12⟩ : ∃ j_ : Int, (mx (wrap64 ((wrap64 (a2 + t160)) - 53)) (-1074)) = j_ := ⟨_, rfl⟩
      replace H : (if a1 = 0 then (near_finish.j2 kj7 a0 a1 a2 a3 a4 x12_5 x13_5 (-1074)) else (near_finish.j2 kj7 a0 a1 a2 a3 a4 x12_5 x13_5 ji12)) = some (r1, r2) := by first | (rw [hji12] at H; exact H) | (simp only [hji12] at H ⊢; exact H)
      (try rw [hji12] at A11)
      have hji12_ : (if (wrap64 ((wrap64 (a2 + t160)) - 53)) < (-1074) then (-1074) else (wrap64 ((wrap64 (a2 + t160)) - 53))) = ji12 := hji12
      have HC13 := Aside0.mk H
      clear H
      go_upto_if 34 with (first | ((with_reducible refine gate_callee (f := 81) rfl ?_); refine gL (some 29) Tryd.func81 #[.int .u64 a1] ?_; (with_reducible refine (wide_Len.calls kj7 a1 t160 _ A11.out).mono ?_); rintro e w' ⟨rfl, ⟨nd, rfl⟩⟩; refine ⟨_, rfl, ?_⟩))
      (try simp only [Act.put, List.setIfInBounds_toArray, List.set_cons_zero, List.set_cons_succ])
      go_cut [14] (fun v14 wc => ∃ (kq : Nat) (x14_12 : Int), v14 = .int .i64 x14_12 ∧ Aside0 (near_finish.j2 kq a0 a1 a2 a3 a4 x12_5 x13_5 x14_12 = some (r1, r2)) ∧ Aside0 (kq ≤ kj7) ∧ Aside0 (Below w.heap.size w wc))
      case first =>
       have H := HC13.out
       clear HC13
       by_cases c14 : a1 = 0
       ·rw [if_pos c14] at H
        have c14b0 : (a1 == 0) = true := beq_iff_eq.mpr c14
        have c14b1 : (a1 != 0) = false := bne_eq_false_iff_eq.mpr c14
        clear c14
        (first | rw [c14b0] | (simp only [i64_w, i32_w]; rw [c14b0]) | skip)
        have H' := Aside0.mk H
        clear H
        go_wp2
        go_meet
        case rel => exact ⟨_, ((-1074)), dF, H', ⟨by have := HJ5.out; have := HJ7.out; first | omega | exact Nat.le_refl _⟩, ⟨dB⟩⟩
       ·rw [if_neg c14] at H
        have c14b0 : (a1 == 0) = false := beq_eq_false_iff_ne.mpr c14
        have c14b1 : (a1 != 0) = true := bne_iff_ne.mpr c14
        (first | rw [c14b0] | (simp only [i64_w, i32_w]; rw [c14b0]) | skip)
        have H' := Aside0.mk H
        clear H
        go_wp2
        go_meet
        case rel => exact ⟨_, (ji12), (by first | rfl | (simp; done) | (simp only [← hji12] <;> (first | rfl | simp)) | (simp [*]; done)), H', ⟨by have := HJ5.out; have := HJ7.out; first | omega | exact Nat.le_refl _⟩, ⟨dB⟩⟩
      case rest =>
       clear HC13
       try clear c1
       try clear p2
       try clear c4
       try clear p6
       try clear c7
       try clear c8
       try clear c9
       try clear c9b0
       try clear c9b1
       try clear c10
       try clear c14
       try clear c14b0
       try clear c14b1
       try clear p2
       obtain ⟨kq, x14_12, rfl, HA, HJ12, HB⟩ := hcut
       cases kq with
       | zero => exact absurd HA.out (by simp [near_finish.j2])
       | succ kj12 =>
        have H := HA.out
        clear HA
        simp only [near_finish.j2] at H
        have HC15 := Aside0.mk H
        clear H
        go_upto_if 37 with (fail)
        go_cut [1, 15] (fun v1 v15 wc => ∃ (kq : Nat) (x1_14 : Int) (x15_14 : Int), v1 = .int .u64 x1_14 ∧ v15 = .int .i64 x15_14 ∧ Aside0 (near_finish.j3 kq a0 x1_14 a3 a4 x12_5 x13_5 x14_12 x15_14 = some (r1, r2)) ∧ Aside0 (kq ≤ kj12) ∧ Aside0 (Below w.heap.size w wc))
        case first =>
         have H := HC15.out
         clear HC15
         by_cases c16 : x14_12 > a2
         ·rw [if_pos c16] at H
          have c16b0 : decide (a2 < x14_12) = true := decide_eq_true c16
          clear c16
          (first | rw [c16b0] | (simp only [i64_w, i32_w]; rw [c16b0]) | skip)
          replace H := obe H
          obtain ⟨⟨t161, t162⟩, A170, H⟩ := H
          replace H : (near_finish.j3 kj12 a0 t161 a3 a4 x12_5 x13_5 x14_12 t162) = some (r1, r2) := H
          have A17 := Aside0.mk A170
          clear A170
          have H' := Aside0.mk H
          clear H
          go_wp2_with (first | ((with_reducible refine gate_callee (f := 84) rfl ?_); refine gL (some 43) Tryd.func84 #[.int .u64 a1, .int .i64 (wrap64 (x14_12 - a2))] ?_; (with_reducible refine (near_cut.calls kj12 a1 (wrap64 (x14_12 - a2)) t161 t162 _ A17.out).mono ?_); rintro e w18 ⟨rfl, hb⟩; refine ⟨_, rfl, ?_⟩; replace HB := Aside0.mk (below_step dB hb); (try clear hb)))
          go_meet
          case rel => exact ⟨_, (t161), (t162), dF, dF, H', ⟨by have := HJ5.out; have := HJ7.out; have := HJ12.out; first | omega | exact Nat.le_refl _⟩, ⟨dB⟩⟩
         ·rw [if_neg c16] at H
          have c16b0 : decide (a2 < x14_12) = false := decide_eq_false c16
          clear c16
          (first | rw [c16b0] | (simp only [i64_w, i32_w]; rw [c16b0]) | skip)
          by_cases c19 : a1 = 0
          ·rw [if_pos c19] at H
           have c19b0 : (a1 == 0) = true := beq_iff_eq.mpr c19
           have c19b1 : (a1 != 0) = false := bne_eq_false_iff_eq.mpr c19
           clear c19
           have H' := Aside0.mk H
           clear H
           go_wp2
           go_meet
           case rel => exact ⟨_, (a1), (0), dF, dF, H', ⟨by have := HJ5.out; have := HJ7.out; have := HJ12.out; first | omega | exact Nat.le_refl _⟩, ⟨dB⟩⟩
          ·rw [if_neg c19] at H
           have c19b0 : (a1 == 0) = false := beq_eq_false_iff_ne.mpr c19
           have c19b1 : (a1 != 0) = true := bne_iff_ne.mpr c19
           obtain ⟨ji20, hji20⟩ : ∃ j_ : Int, (wrap64 (a2 - x14_12)) = j_ := ⟨_, rfl⟩
           replace H : (if 0 ≤ (ji20) then (near_finish.j3 kj12 a0 (shl .u64 a1 (ji20)) a3 a4 x12_5 x13_5 x14_12 0) else (none)) = some (r1, r2) := by first | (rw [hji20] at H; exact H) | (simp only [hji20] at H ⊢; exact H)
           have hji20w : (IntKind.i64.wrap (a2 - x14_12)) = ji20 := (i64_w _).trans hji20
           by_cases c21 : (0 : Int) ≤ (ji20)
           ·rw [if_pos c21] at H
            have c21b0 := eq_true c21
            have c21b1 : decide (0 ≤ (ji20)) = true := decide_eq_true c21
            clear c21
            obtain ⟨ji22, hji22⟩ : ∃ j_ : Int, (shl .u64 a1 (ji20)) = j_ := ⟨_, rfl⟩
            replace H : (near_finish.j3 kj12 a0 ji22 a3 a4 x12_5 x13_5 x14_12 0) = some (r1, r2) := by first | (rw [hji22] at H; exact H) | (simp only [hji22] at H ⊢; exact H)
            have hji22_ : (IntKind.u64.wrap (a1 * 2 ^ min (ji20).toNat 64)) = ji22 := hji22
            have hji22z : (ji20) ≤ 64 → (IntKind.u64.wrap (a1 * 2 ^ (ji20).toNat)) = ji22 := shl_small hji22
            have H' := Aside0.mk H
            clear H
            go_wp2
            go_meet
            case rel => exact ⟨_, (ji22), (0), (by first | rfl | (simp; done) | (simp only [← hji22] <;> (first | rfl | simp)) | (simp [*]; done)), dF, H', ⟨by have := HJ5.out; have := HJ7.out; have := HJ12.out; first | omega | exact Nat.le_refl _⟩, ⟨dB⟩⟩
           ·rw [if_neg c21] at H
            exact absurd H (by simp)
        case rest =>
         clear HC15
         try clear c1
         try clear c2
         try clear p2
         try clear c4
         try clear p6
         try clear c7
         try clear c8
         try clear c9
         try clear c9b0
         try clear c9b1
         try clear c10
         try clear c14
         try clear c14b0
         try clear c14b1
         try clear c16
         try clear c16b0
         try clear c19
         try clear c19b0
         try clear c19b1
         try clear c21
         try clear c21b0
         try clear c21b1
         try clear p2
         try clear p6
         obtain ⟨kq, x1_14, x15_14, rfl, rfl, HA, HJ14, HB⟩ := hcut
         cases kq with
         | zero => exact absurd HA.out (by simp [near_finish.j3])
         | succ kj14 =>
          have H := HA.out
          clear HA
          simp only [near_finish.j3] at H
          have HC23 := Aside0.mk H
          clear H
          go_upto_region 14 with (fail)
          go_cut [61] (fun v61 wc => ∃ (kq : Nat) (x61_22 : Bool), v61 = .bool x61_22 ∧ Aside0 (near_finish.j4 kq a0 x1_14 a4 x12_5 x13_5 x14_12 x15_14 x61_22 = some (r1, r2)) ∧ Aside0 (kq ≤ kj14) ∧ Aside0 (Below w.heap.size w wc))
          case first =>
           have H := HC23.out
           clear HC23
           by_cases c24 : a3 = true
           ·subst c24
            have H1 : (if x15_14 = 0 then (near_finish.j4 kj14 a0 x1_14 a4 x12_5 x13_5 x14_12 x15_14 true) else (near_finish.j4 kj14 a0 x1_14 a4 x12_5 x13_5 x14_12 x15_14 (x15_14 == 2))) = some (r1, r2) := by rw [if_pos rfl] at H; exact H
            clear H
            have H := H1
            clear H1
            by_cases c25 : x15_14 = 0
            ·rw [if_pos c25] at H
             have c25b0 : (x15_14 == 0) = true := beq_iff_eq.mpr c25
             have c25b1 : (x15_14 != 0) = false := bne_eq_false_iff_eq.mpr c25
             clear c25
             (first | rw [c25b0] | (simp only [i64_w, i32_w]; rw [c25b0]) | skip)
             have H' := Aside0.mk H
             clear H
             go_wp2
             go_meet
             case rel => exact ⟨_, (true), dF, H', ⟨by have := HJ5.out; have := HJ7.out; have := HJ12.out; have := HJ14.out; first | omega | exact Nat.le_refl _⟩, ⟨dB⟩⟩
            ·rw [if_neg c25] at H
             have c25b0 : (x15_14 == 0) = false := beq_eq_false_iff_ne.mpr c25
             have c25b1 : (x15_14 != 0) = true := bne_iff_ne.mpr c25
             (first | rw [c25b0] | (simp only [i64_w, i32_w]; rw [c25b0]) | skip)
             have H' := Aside0.mk H
             clear H
             go_wp2
             go_meet
             case rel => exact ⟨_, ((x15_14 == 2)), dF, H', ⟨by have := HJ5.out; have := HJ7.out; have := HJ12.out; have := HJ14.out; first | omega | exact Nat.le_refl _⟩, ⟨dB⟩⟩
           ·replace c24 := Bool.eq_false_iff.mpr c24
            subst c24
            have H1 : (near_finish.j4 kj14 a0 x1_14 a4 x12_5 x13_5 x14_12 x15_14 false) = some (r1, r2) := by rw [if_neg (show ¬ (false = true) by decide)] at H; exact H
            clear H
            have H := H1
            clear H1
            have H' := Aside0.mk H
            clear H
            go_wp2
            go_meet
            case rel => exact ⟨_, (false), dF, H', ⟨by have := HJ5.out; have := HJ7.out; have := HJ12.out; have := HJ14.out; first | omega | exact Nat.le_refl _⟩, ⟨dB⟩⟩
          case rest =>
           clear HC23
           try clear c1
           try clear c2
           try clear p2
           try clear c4
           try clear p6
           try clear c7
           try clear c8
           try clear c9
           try clear c9b0
           try clear c9b1
           try clear c10
           try clear c14
           try clear c14b0
           try clear c14b1
           try clear c16
           try clear c16b0
           try clear c19
           try clear c19b0
           try clear c19b1
           try clear c21
           try clear c21b0
           try clear c21b1
           try clear c24
           try clear c25
           try clear c25b0
           try clear c25b1
           try clear p2
           try clear p6
           obtain ⟨kq, x61_22, rfl, HA, HJ22, HB⟩ := hcut
           cases kq with
           | zero => exact absurd HA.out (by simp [near_finish.j4])
           | succ kj22 =>
            have H := HA.out
            clear HA
            simp only [near_finish.j4] at H
            have HC26 := Aside0.mk H
            clear H
            go_upto_if 61 with (fail)
            go_cut [15] (fun v15 wc => ∃ (kq : Nat) (x15_25 : Int), v15 = .int .i64 x15_25 ∧ Aside0 (near_finish.j5 kq a0 x1_14 a4 x12_5 x13_5 x14_12 x15_25 = some (r1, r2)) ∧ Aside0 (kq ≤ kj22) ∧ Aside0 (Below w.heap.size w wc))
            case first =>
             have H := HC26.out
             clear HC26
             by_cases c27 : x61_22 = true
             ·subst c27
              have H1 : (near_finish.j5 kj22 a0 x1_14 a4 x12_5 x13_5 x14_12 (wrap64 (x15_14 + 1))) = some (r1, r2) := by rw [if_pos rfl] at H; exact H
              clear H
              have H := H1
              clear H1
              have H' := Aside0.mk H
              clear H
              go_wp2
              go_meet
              case rel => exact ⟨_, (wrap64 (x15_14 + 1)), dF, H', ⟨by have := HJ5.out; have := HJ7.out; have := HJ12.out; have := HJ14.out; have := HJ22.out; first | omega | exact Nat.le_refl _⟩, ⟨dB⟩⟩
             ·replace c27 := Bool.eq_false_iff.mpr c27
              subst c27
              have H1 : (near_finish.j5 kj22 a0 x1_14 a4 x12_5 x13_5 x14_12 x15_14) = some (r1, r2) := by rw [if_neg (show ¬ (false = true) by decide)] at H; exact H
              clear H
              have H := H1
              clear H1
              have H' := Aside0.mk H
              clear H
              go_wp2
              go_meet
              case rel => exact ⟨_, (x15_14), dF, H', ⟨by have := HJ5.out; have := HJ7.out; have := HJ12.out; have := HJ14.out; have := HJ22.out; first | omega | exact Nat.le_refl _⟩, ⟨dB⟩⟩
            case rest =>
             clear HC26
             try clear c1
             try clear c2
             try clear p2
             try clear c4
             try clear p6
             try clear c7
             try clear c8
             try clear c9
             try clear c9b0
             try clear c9b1
             try clear c10
             try clear c14
             try clear c14b0
             try clear c14b1
             try clear c16
             try clear c16b0
             try clear c19
             try clear c19b0
             try clear c19b1
             try clear c21
             try clear c21b0
             try clear c21b1
             try clear c24
             try clear c25
             try clear c25b0
             try clear c25b1
             try clear c27
             try clear p2
             try clear p6
             obtain ⟨kq, x15_25, rfl, HA, HJ25, HB⟩ := hcut
             cases kq with
             | zero => exact absurd HA.out (by simp [near_finish.j5])
             | succ kj25 =>
              have H := HA.out
              clear HA
              simp only [near_finish.j5] at H
              replace H := obe H
              obtain ⟨t163, A280, H⟩ := H
              replace H : (if t163 = true then (near_finish.j6 kj25 a0 (IntKind.u64.wrap (x1_14 + 1)) a4 x12_5 x13_5 x14_12) else (near_finish.j6 kj25 a0 x1_14 a4 x12_5 x13_5 x14_12)) = some (r1, r2) := H
              have A28 := Aside0.mk A280
              clear A280
              have HC29 := Aside0.mk H
              clear H
              go_upto_if 73 with (first | ((with_reducible refine gate_callee (f := 85) rfl ?_); refine gL (some 65) Tryd.func85 #[.int .i64 a4] ?_; (with_reducible refine (near_way.calls a4 _).mono ?_); rintro e w999 ⟨rfl, hb⟩; refine ⟨_, rfl, ?_⟩; replace HB := Aside0.mk (below_step dB hb); (try clear hb)) | ((with_reducible refine gate_dst (N := 73) rfl ?_); refine goesE_ (some 73) rfl rfl (f := near_wayfn a4) #[.bool a0, .bool ((Go.bits .and .u64 x1_14 1) == 1), .int .i64 x15_25] (near_way.enters a4 _ _) rfl (by first | rfl | (go_simp; done)) dA ?_; (with_reducible refine (near_way.callsF a4 a0 ((Go.bits .and .u64 x1_14 1) == 1) x15_25 t163 _ A28.out).mono ?_); rintro e w' ⟨rfl, ⟨nd, rfl⟩⟩; refine ⟨_, rfl, ?_⟩))
              (try simp only [Act.put, List.setIfInBounds_toArray, List.set_cons_zero, List.set_cons_succ])
              go_cut [1] (fun v1 wc => ∃ (kq : Nat) (x1_28 : Int), v1 = .int .u64 x1_28 ∧ Aside0 (near_finish.j6 kq a0 x1_28 a4 x12_5 x13_5 x14_12 = some (r1, r2)) ∧ Aside0 (kq ≤ kj25) ∧ Aside0 (Below w.heap.size w wc))
              case first =>
               have H := HC29.out
               clear HC29
               by_cases c30 : t163 = true
               ·subst c30
                have H1 : (near_finish.j6 kj25 a0 (IntKind.u64.wrap (x1_14 + 1)) a4 x12_5 x13_5 x14_12) = some (r1, r2) := by rw [if_pos rfl] at H; exact H
                clear H
                have H := H1
                clear H1
                have H' := Aside0.mk H
                clear H
                go_wp2
                go_meet
                case rel => exact ⟨_, (IntKind.u64.wrap (x1_14 + 1)), dF, H', ⟨by have := HJ5.out; have := HJ7.out; have := HJ12.out; have := HJ14.out; have := HJ22.out; have := HJ25.out; first | omega | exact Nat.le_refl _⟩, ⟨dB⟩⟩
               ·replace c30 := Bool.eq_false_iff.mpr c30
                subst c30
                have H1 : (near_finish.j6 kj25 a0 x1_14 a4 x12_5 x13_5 x14_12) = some (r1, r2) := by rw [if_neg (show ¬ (false = true) by decide)] at H; exact H
                clear H
                have H := H1
                clear H1
                have H' := Aside0.mk H
                clear H
                go_wp2
                go_meet
                case rel => exact ⟨_, (x1_14), dF, H', ⟨by have := HJ5.out; have := HJ7.out; have := HJ12.out; have := HJ14.out; have := HJ22.out; have := HJ25.out; first | omega | exact Nat.le_refl _⟩, ⟨dB⟩⟩
              case rest =>
               clear HC29
               try clear c1
               try clear c2
               try clear p2
               try clear c3
               try clear c4
               try clear p6
               try clear c7
               try clear c8
               try clear c9
               try clear c9b0
               try clear c9b1
               try clear c10
               try clear c14
               try clear c14b0
               try clear c14b1
               try clear c16
               try clear c16b0
               try clear c19
               try clear c19b0
               try clear c19b1
               try clear c21
               try clear c21b0
               try clear c21b1
               try clear c24
               try clear c25
               try clear c25b0
               try clear c25b1
               try clear c27
               try clear c30
               try clear p2
               try clear p6
               obtain ⟨kq, x1_28, rfl, HA, HJ28, HB⟩ := hcut
               cases kq with
               | zero => exact absurd HA.out (by simp [near_finish.j6])
               | succ kj28 =>
                have H := HA.out
                clear HA
                simp only [near_finish.j6] at H
                have HC31 := Aside0.mk H
                clear H
                go_upto_if 77 with (fail)
                go_cut [1, 14] (fun v1 v14 wc => ∃ (kq : Nat) (x1_30 : Int) (x14_30 : Int), v1 = .int .u64 x1_30 ∧ v14 = .int .i64 x14_30 ∧ Aside0 (near_finish.j7 kq a0 x1_30 a4 x12_5 x13_5 x14_30 = some (r1, r2)) ∧ Aside0 (kq ≤ kj28) ∧ Aside0 (Below w.heap.size w wc))
                case first =>
                 have H := HC31.out
                 clear HC31
                 by_cases c32 : x1_28 = 9007199254740992
                 ·rw [if_pos c32] at H
                  have c32b0 : (x1_28 == 9007199254740992) = true := beq_iff_eq.mpr c32
                  have c32b1 : (x1_28 != 9007199254740992) = false := bne_eq_false_iff_eq.mpr c32
                  clear c32
                  (first | rw [c32b0] | (simp only [i64_w, i32_w]; rw [c32b0]) | skip)
                  have H' := Aside0.mk H
                  clear H
                  go_wp2
                  go_meet
                  case rel => exact ⟨_, (4503599627370496), (wrap64 (x14_12 + 1)), dF, dF, H', ⟨by have := HJ5.out; have := HJ7.out; have := HJ12.out; have := HJ14.out; have := HJ22.out; have := HJ25.out; have := HJ28.out; first | omega | exact Nat.le_refl _⟩, ⟨dB⟩⟩
                 ·rw [if_neg c32] at H
                  have c32b0 : (x1_28 == 9007199254740992) = false := beq_eq_false_iff_ne.mpr c32
                  have c32b1 : (x1_28 != 9007199254740992) = true := bne_iff_ne.mpr c32
                  (first | rw [c32b0] | (simp only [i64_w, i32_w]; rw [c32b0]) | skip)
                  have H' := Aside0.mk H
                  clear H
                  go_wp2
                  go_meet
                  case rel => exact ⟨_, (x1_28), (x14_12), dF, dF, H', ⟨by have := HJ5.out; have := HJ7.out; have := HJ12.out; have := HJ14.out; have := HJ22.out; have := HJ25.out; have := HJ28.out; first | omega | exact Nat.le_refl _⟩, ⟨dB⟩⟩
                case rest =>
                 clear HC31
                 try clear c1
                 try clear c2
                 try clear p2
                 try clear c3
                 try clear c4
                 try clear p6
                 try clear c7
                 try clear c8
                 try clear c9
                 try clear c9b0
                 try clear c9b1
                 try clear c10
                 try clear c14
                 try clear c14b0
                 try clear c14b1
                 try clear c16
                 try clear c16b0
                 try clear c19
                 try clear c19b0
                 try clear c19b1
                 try clear c21
                 try clear c21b0
                 try clear c21b1
                 try clear c24
                 try clear c25
                 try clear c25b0
                 try clear c25b1
                 try clear c27
                 try clear c30
                 try clear c32
                 try clear c32b0
                 try clear c32b1
                 try clear p2
                 try clear p6
                 obtain ⟨kq, x1_30, x14_30, rfl, rfl, HA, HJ30, HB⟩ := hcut
                 cases kq with
                 | zero => exact absurd HA.out (by simp [near_finish.j7])
                 | succ kj30 =>
                  have H := HA.out
                  clear HA
                  simp only [near_finish.j7] at H
                  by_cases c33 : x14_30 > 971
                  ·rw [if_pos c33] at H
                   have c33b0 : decide (971 < x14_30) = true := decide_eq_true c33
                   clear c33
                   replace H := obe H
                   obtain ⟨t164, A340, H⟩ := H
                   replace H : (if t164 = true then (some (Go.bits .or .u64 x12_5 9218868437227405311, 0)) else (some (0, 70))) = some (r1, r2) := H
                   have A34 := Aside0.mk A340
                   clear A340
                   by_cases c35 : t164 = true
                   ·subst c35
                    have H1 : (some (Go.bits .or .u64 x12_5 9218868437227405311, 0)) = some (r1, r2) := by rw [if_pos rfl] at H; exact H
                    clear H
                    have H := H1
                    clear H1
                    simp only [Option.some.injEq, Prod.mk.injEq] at H
                    obtain ⟨rfl, rfl⟩ := H
                    obtain ⟨pS, qS, uS, vS, hZ⟩ := StaysLaid.at_ (StaysLaid.below HS.out HB.out) A34.out
                    replace pS := eq_true pS
                    replace qS := eq_true qS
                    replace uS := eq_true uS
                    replace vS := eq_true vS
                    go_wp2
                    go_ret2
                    exact ⟨by first | rfl | (simp [errW_none, errW_some] <;> rfl) | (simp only [← hji12]; first | rfl | (simp [errW_none, errW_some] <;> rfl)) | (simp [*, errW_none, errW_some] <;> rfl), dB⟩
                   ·replace c35 := Bool.eq_false_iff.mpr c35
                    subst c35
                    have H1 : (some (0, 70)) = some (r1, r2) := by rw [if_neg (show ¬ (false = true) by decide)] at H; exact H
                    clear H
                    have H := H1
                    clear H1
                    simp only [Option.some.injEq, Prod.mk.injEq] at H
                    obtain ⟨rfl, rfl⟩ := H
                    obtain ⟨pS, qS, uS, vS, hZ⟩ := StaysLaid.at_ (StaysLaid.below HS.out HB.out) A34.out
                    replace pS := eq_true pS
                    replace qS := eq_true qS
                    replace uS := eq_true uS
                    replace vS := eq_true vS
                    go_wp2
                    go_ret2
                    exact ⟨by first | rfl | (simp [errW_none, errW_some] <;> rfl) | (simp only [← hji12]; first | rfl | (simp [errW_none, errW_some] <;> rfl)) | (simp [*, errW_none, errW_some] <;> rfl), dB⟩
                  ·rw [if_neg c33] at H
                   have c33b0 : decide (971 < x14_30) = false := decide_eq_false c33
                   clear c33
                   replace H := obe H
                   obtain ⟨⟨t165, t166⟩, A360, H⟩ := H
                   replace H : (some (t165, 0)) = some (r1, r2) := H
                   have A36 := Aside0.mk A360
                   clear A360
                   simp only [Option.some.injEq, Prod.mk.injEq] at H
                   obtain ⟨rfl, rfl⟩ := H
                   go_wp2_with (first | ((with_reducible refine gate_callee (f := 86) rfl ?_); refine gL (some 93) Tryd.func86 #[.bool a0, .int .u64 x1_30, .int .i64 x14_30] ?_; (with_reducible refine (f64_Join.calls kj30 a0 x1_30 x14_30 t165 t166 _ A36.out).mono ?_); rintro e w37 ⟨rfl, hb⟩; refine ⟨_, rfl, ?_⟩; replace HB := Aside0.mk (below_step dB hb); (try clear hb)))
                   go_ret2
                   exact ⟨by first | rfl | (simp [errW_none, errW_some] <;> rfl) | (simp only [← hji12]; first | rfl | (simp [errW_none, errW_some] <;> rfl)) | (simp [*, errW_none, errW_some] <;> rfl), dB⟩


end Go.Proofs.YtoefabmlkbhmpaaDoor.PA

namespace Go.Proofs.YtoefabmlkbhmpaaDoor.PA
open Go.RowKit Go.Proofs.YtoefabmlkbhmpaaDoorW.PrintWords Go.Proofs.YtoefabmlkbhmpaaDoorW.PrintLast Go.Proofs.YtoefabmlkbhmpaaDoorW.PrintMore
attribute [local go_sem] max2_int min2_int max_two min_two max_three min_three max_four min_four   -- for this text's walks alone
set_option linter.unusedVariables false
set_option linter.unusedSimpArgs false

/-! ### plumbref03_Norm: function 47 -/
mutual
def plumbref03_Norm.j1 : Nat → List Int → Int → Option (List Int)
 | 0, _, _ => none
 | k + 1, x0, x3 => plumbref03_Norm.l1 k x0 x3 ([] : List Int) 0
def plumbref03_Norm.l1 : Nat → List Int → Int → List Int → Int → Option (List Int)
 | 0, _, _, _, _ => none
 | k + 1, x0, x3, x4, x5 => if x5 < x3 then (if 0 ≤ x5 then (if x5 < (x0.length : Int) then (if x4.length < 17592186044416 then (plumbref03_Norm.l1 k x0 x3 (x4 ++ [rd x0 x5]) (wrap64 (x5 + 1))) else (none)) else (none)) else (none)) else (some x4)
def plumbref03_Norm.l0 : Nat → List Int → Int → Option (List Int)
 | 0, _, _ => none
 | k + 1, x0, x3 => if x3 > 0 then (if 0 ≤ (wrap64 (x3 - 1)) then (if (wrap64 (x3 - 1)) < (x0.length : Int) then (if (rd x0 (wrap64 (x3 - 1))) = 0 then (plumbref03_Norm.l0 k x0 (wrap64 (x3 - 1))) else (plumbref03_Norm.j1 k x0 x3)) else (none)) else (none)) else (plumbref03_Norm.j1 k x0 x3)
end
def plumbref03_Norm.f (k : Nat) (l0 : List Int) : Option (List Int) := plumbref03_Norm.l0 k l0 (l0.length : Int)
set_option maxHeartbeats 8000000 in
set_option maxRecDepth 100000 in
theorem plumbref03_Norm.calls (k : Nat) (A0 : Option Addr) (c0 : Nat) (l0 : List Int) (r : List Int) (w : World) (hr0 : Kd.C (Kd.int .u64) w A0 l0.length l0) (hc0 : l0.length ≤ c0) (h : plumbref03_Norm.f k l0 = some r) :
  Calls Tryd.prog 47 #[.slice A0 l0.length c0] w fun e w' => ∃ v0_ : Value, e = .returned (v0_) ∧ Kd.R (Kd.int .u64) 26 w' w.heap.size (fun _ => True) v0_ r ∧ Below w.heap.size w w' := by
 have HR0 := Aside0.mk hr0
 have HC0 := Aside0.mk hc0
 clear hr0 hc0
 have HB := Aside0.mk (Below.refl w.heap.size w)
 have H : (plumbref03_Norm.l0 k l0 (l0.length : Int)) = some r := h
 clear h
 have HC2 := Aside0.mk H
 clear H
 go_enter Tryd.func47, Tryd.ntmps47
 go_upto_block 0 with (fail)
 go_cut [3] (fun v3 wc => ∃ (kq : Nat) (x3_1 : Int), v3 = .int .i64 x3_1 ∧ Aside0 (plumbref03_Norm.j1 kq l0 x3_1 = some r) ∧ Aside0 (kq ≤ k) ∧ Aside0 (Below w.heap.size w wc))
 case first =>
  have H := HC2.out
  clear HC2
  have H' := Aside0.mk H
  clear H
  go_wp2
  go_loopg [3] k (fun kq v3 w' => ∃ (x3_1 : Int), v3 = .int .i64 x3_1 ∧ Aside0 (plumbref03_Norm.l0 kq l0 x3_1 = some r) ∧ Aside0 (kq ≤ k) ∧ Aside0 (Below w.heap.size w w'))
  case atStart => exact ⟨((l0.length : Int)), dF, H', ⟨Nat.le_refl _⟩, ⟨dB⟩⟩
  case round =>
   clear H'
   try clear p2
   obtain ⟨x3_1, rfl, HA, HK1, HB⟩ := hrel
   cases gk with
   | zero => exact absurd HA.out (by simp [plumbref03_Norm.l0])
   | succ k1 =>
    have H := HA.out
    clear HA
    simp only [plumbref03_Norm.l0] at H
    by_cases c3 : x3_1 > 0
    ·rw [if_pos c3] at H
     have c3b0 : decide (0 < x3_1) = true := decide_eq_true c3
     clear c3
     (first | rw [c3b0] | (simp only [i64_w, i32_w]; rw [c3b0]) | skip)
     obtain ⟨ji4, hji4⟩ : ∃ j_ : Int, (wrap64 (x3_1 - 1)) = j_ := ⟨_, rfl⟩
     replace H : (if 0 ≤ (ji4) then (if (ji4) < (l0.length : Int) then (if (rd l0 (ji4)) = 0 then (plumbref03_Norm.l0 k1 l0 ji4) else (plumbref03_Norm.j1 k1 l0 x3_1)) else (none)) else (none)) = some r := by first | (rw [hji4] at H; exact H) | (simp only [hji4] at H ⊢; exact H)
     have hji4w : (IntKind.i64.wrap (x3_1 - 1)) = ji4 := (i64_w _).trans hji4
     by_cases c5 : (0 : Int) ≤ (ji4)
     ·rw [if_pos c5] at H
      have c5b0 : decide (0 ≤ (ji4)) = true := decide_eq_true c5
      clear c5
      by_cases c6 : (ji4) < (l0.length : Int)
      ·rw [if_pos c6] at H
       have c6b0 : decide ((ji4) < (l0.length : Int)) = true := decide_eq_true c6
       clear c6
       by_cases c7 : (rd l0 (ji4)) = 0
       ·rw [if_pos c7] at H
        have c7b0 : ((rd l0 (ji4)) == 0) = true := beq_iff_eq.mpr c7
        have c7b1 : ((rd l0 (ji4)) != 0) = false := bne_eq_false_iff_eq.mpr c7
        clear c7
        have H' := Aside0.mk H
        clear H
        have p168 : 0 ≤ ((ji4) : Int) := of_decide_eq_true dS
        have q168 : (ji4) < (l0.length : Int) := of_decide_eq_true dS
        obtain ⟨ad168, e168, hx168_0⟩ := Kd.at_int HR0.out (ji4) p168 q168
        cases e168
        replace hx168_0 := (HB.out.cell (World.block_lt_of_cell? w _ hx168_0)).trans hx168_0
        replace p168 := eq_true p168
        replace q168 := eq_true q168
        go_wp2
        go_roundg k1
        case measure => have := HK1.out; omega
        case rel => exact ⟨(ji4), (by first | rfl | (simp; done) | (simp only [← hji4] <;> (first | rfl | simp)) | (simp [*]; done)), H', ⟨by have := HK1.out; omega⟩, ⟨dB⟩⟩
       ·rw [if_neg c7] at H
        have c7b0 : ((rd l0 (ji4)) == 0) = false := beq_eq_false_iff_ne.mpr c7
        have c7b1 : ((rd l0 (ji4)) != 0) = true := bne_iff_ne.mpr c7
        have H' := Aside0.mk H
        clear H
        have p168 : 0 ≤ ((ji4) : Int) := of_decide_eq_true dS
        have q168 : (ji4) < (l0.length : Int) := of_decide_eq_true dS
        obtain ⟨ad168, e168, hx168_0⟩ := Kd.at_int HR0.out (ji4) p168 q168
        cases e168
        replace hx168_0 := (HB.out.cell (World.block_lt_of_cell? w _ hx168_0)).trans hx168_0
        replace p168 := eq_true p168
        replace q168 := eq_true q168
        go_wp2
        go_meet
        case rel => exact ⟨_, (x3_1), dF, H', ⟨by have := HK1.out; first | omega | exact Nat.le_refl _⟩, ⟨dB⟩⟩
      ·rw [if_neg c6] at H
       exact absurd H (by simp)
     ·rw [if_neg c5] at H
      exact absurd H (by simp)
    ·rw [if_neg c3] at H
     have c3b0 : decide (0 < x3_1) = false := decide_eq_false c3
     clear c3
     (first | rw [c3b0] | (simp only [i64_w, i32_w]; rw [c3b0]) | skip)
     have H' := Aside0.mk H
     clear H
     go_wp2
     go_meet
     case rel => exact ⟨_, (x3_1), dF, H', ⟨by have := HK1.out; first | omega | exact Nat.le_refl _⟩, ⟨dB⟩⟩
 case rest =>
  clear HC2
  try clear p1
  try clear q1
  try clear hx1
  try clear p2
  try clear c3
  try clear c3b0
  try clear c4
  try clear c5
  try clear c5b0
  try clear c6
  try clear c6b0
  try clear p6
  try clear c7
  try clear c7b0
  try clear c7b1
  try clear hx168_0
  try clear p168
  try clear p2
  try clear q168
  obtain ⟨kq, x3_1, rfl, HA, HJ1, HB⟩ := hcut
  cases kq with
  | zero => exact absurd HA.out (by simp [plumbref03_Norm.j1])
  | succ kj1 =>
   have H := HA.out
   clear HA
   simp only [plumbref03_Norm.j1] at H
   have H' := Aside0.mk H
   clear H
   go_wp2
   go_loopg [4, 5] kj1 (fun kq v4 v5 w' => ∃ (x4_2 : List Int) (x5_2 : Int), v5 = .int .i64 x5_2 ∧ Aside0 (plumbref03_Norm.l1 kq l0 x3_1 x4_2 x5_2 = some r) ∧ Aside0 (kq ≤ kj1) ∧ Aside0 (Kd.R (Kd.int .u64) 26 w' w.heap.size (fun _ => True) v4 x4_2) ∧ Aside0 (Below w.heap.size w w'))
   case atStart => exact ⟨(([] : List Int)), (0), dF, H', ⟨Nat.le_refl _⟩, ⟨by first | exact Kd.R_nil _ _ _ _ _ | exact Kd.N_nil _ _ _ _ _ | exact Kd.V_nil _ _ _ _ _ | exact Kd.Q_nil _ _ _ _ _ | exact Kd.S_nil _ _ _ _ _⟩, ⟨dB⟩⟩
   case round =>
    clear H'
    try clear p1
    try clear q1
    try clear hx1
    try clear p2
    try clear c3
    try clear c3b0
    try clear c4
    try clear c5
    try clear c5b0
    try clear c6
    try clear c6b0
    try clear p6
    try clear c7
    try clear c7b0
    try clear c7b1
    try clear hx168_0
    try clear p1
    try clear p168
    try clear p2
    try clear p6
    try clear q1
    try clear q168
    obtain ⟨x4_2, x5_2, rfl, HA, HK2, HO_4, HB⟩ := hrel
    cases gk with
    | zero => exact absurd HA.out (by simp [plumbref03_Norm.l1])
    | succ k2 =>
     have H := HA.out
     clear HA
     simp only [plumbref03_Norm.l1] at H
     by_cases c8 : x5_2 < x3_1
     ·rw [if_pos c8] at H
      have c8b0 : decide (x5_2 < x3_1) = true := decide_eq_true c8
      clear c8
      by_cases c9 : (0 : Int) ≤ x5_2
      ·rw [if_pos c9] at H
       have c9b0 : decide (0 ≤ x5_2) = true := decide_eq_true c9
       clear c9
       by_cases c10 : x5_2 < (l0.length : Int)
       ·rw [if_pos c10] at H
        have c10b0 : decide (x5_2 < (l0.length : Int)) = true := decide_eq_true c10
        clear c10
        by_cases c11 : x4_2.length < 17592186044416
        ·rw [if_pos c11] at H
         have LMc11 := Aside0.mk c11
         clear c11
         obtain ⟨y170, hy170⟩ : ∃ y_ : List Int, y_ = (x4_2 ++ [rd l0 x5_2]) := ⟨_, rfl⟩
         replace H : (plumbref03_Norm.l1 k2 l0 x3_1 y170 (wrap64 (x5_2 + 1))) = some r := by first | (rw [hy170]; with_reducible exact H) | (have H2_ := (Option.bind_some _ _).symm.trans H; rw [hy170]; with_reducible exact H2_) | (have H2_ := (Option.bind_some _ _).symm.trans H; with_reducible exact H2_) | with_reducible exact H | (rw [hy170]; exact H) | exact H
         have Ny170 := Aside0.mk hy170
         clear hy170
         have H' := Aside0.mk H
         clear H
         have p169 : 0 ≤ (x5_2 : Int) := of_decide_eq_true dS
         have q169 : x5_2 < (l0.length : Int) := of_decide_eq_true dS
         obtain ⟨ad169, e169, hx169_0⟩ := Kd.at_int HR0.out x5_2 p169 q169
         cases e169
         replace hx169_0 := (HB.out.cell (World.block_lt_of_cell? w _ hx169_0)).trans hx169_0
         replace p169 := eq_true p169
         replace q169 := eq_true q169
         go_wp2_with (first | ((with_reducible refine gate_builtin (b := .append) (xs := #[.tmp 25, .tmp 30]) rfl ?_); at_builtin; refine Kd.R_append (Kd.int .u64) (w0 := w) w.heap.size rfl (.tmp 25) (.tmp 30) 22 26 (.int .u64 0) 8 rfl Tryd.underlying22 info26 rfl (by decide) (by omega) u4 x4_2 (rd l0 x5_2) [.int .u64 (rd l0 x5_2)] (fun _ => True) (fun _ => False) rfl rfl ?aP (fun _ hk => hk.elim) ?aF ?aO ?aB ?aS ?aL ?_; (case aP => exact rfl); (case aB => exact dB); (case aF => exact (fun _ _ => trivial)); (case aO => exact (dR HO_4.out)); (case aS => exact (below_size dB)); (case aL => have := LMc11.out; omega); intro v171 w12 ho hb hg hat; rw [← Ny170.out] at ho; replace HB := Aside0.mk (hb); have HO172 := Aside0.mk (ho); clear HO_4; clear ho hb hg hat))
         go_roundg k2
         case measure => have := HJ1.out; have := HK2.out; omega
         case rel => exact ⟨(y170), (wrap64 (x5_2 + 1)), dF, H', ⟨by have := HJ1.out; have := HK2.out; omega⟩, ⟨dR HO172.out⟩, ⟨dB⟩⟩
        ·rw [if_neg c11] at H
         exact absurd H (by simp)
       ·rw [if_neg c10] at H
        exact absurd H (by simp)
      ·rw [if_neg c9] at H
       exact absurd H (by simp)
     ·rw [if_neg c8] at H
      have c8b0 : decide (x5_2 < x3_1) = false := decide_eq_false c8
      clear c8
      obtain rfl := Option.some.inj H
      go_wp2
      go_ret
      exact ⟨_, dE, dR HO_4.out, dB⟩

end Go.Proofs.YtoefabmlkbhmpaaDoor.PA

namespace Go.Proofs.YtoefabmlkbhmpaaDoor.PA
open Go.RowKit Go.Proofs.YtoefabmlkbhmpaaDoorW.PrintWords Go.Proofs.YtoefabmlkbhmpaaDoorW.PrintLast Go.Proofs.YtoefabmlkbhmpaaDoorW.PrintMore
attribute [local go_sem] max2_int min2_int max_two min_two max_three min_three max_four min_four   -- for this text's walks alone
set_option linter.unusedVariables false
set_option linter.unusedSimpArgs false

/-! ### plumbref03_Bits: function 48 -/
/-! ### plumbref07_parts: function 88 -/
def plumbref07_parts.f (a0 : Int) : Option (Int × Int) := if (wrap64 (a0 / 4503599627370496)) = 0 then (some (Go.bits .and .u64 a0 4503599627370495, (-1074))) else (some (Go.bits .or .u64 (Go.bits .and .u64 a0 4503599627370495) 4503599627370496, wrap64 ((wrap64 (a0 / 4503599627370496)) - 1075)))
set_option maxHeartbeats 8000000 in
set_option maxRecDepth 100000 in
theorem plumbref07_parts.calls (a0 : Int) (r1 : Int) (r2 : Int) (w : World) (h : plumbref07_parts.f a0 = some (r1, r2)) :
  Calls Tryd.prog 88 #[.int .u64 a0] w fun e w' => e = .returned (.tuple #[.int .u64 r1, .int .i64 r2]) ∧ Drawn0 w w' := by
 have H : (if (wrap64 (a0 / 4503599627370496)) = 0 then (some (Go.bits .and .u64 a0 4503599627370495, (-1074))) else (some (Go.bits .or .u64 (Go.bits .and .u64 a0 4503599627370495) 4503599627370496, wrap64 ((wrap64 (a0 / 4503599627370496)) - 1075)))) = some (r1, r2) := h
 clear h
 by_cases c2 : (wrap64 (a0 / 4503599627370496)) = 0
 ·rw [if_pos c2] at H
  have c2b0 : ((wrap64 (a0 / 4503599627370496)) == 0) = true := beq_iff_eq.mpr c2
  have c2b1 : ((wrap64 (a0 / 4503599627370496)) != 0) = false := bne_eq_false_iff_eq.mpr c2
  clear c2
  simp only [Option.some.injEq, Prod.mk.injEq] at H
  obtain ⟨rfl, rfl⟩ := H
  go_enter Tryd.func88, Tryd.ntmps88
  go_wp2
  go_ret2
  exact ⟨by first | rfl | (simp; done) | (simp [*]; done), by repeat (first | exact Drawn0.refl _ | apply Drawn0.step)⟩
 ·rw [if_neg c2] at H
  have c2b0 : ((wrap64 (a0 / 4503599627370496)) == 0) = false := beq_eq_false_iff_ne.mpr c2
  have c2b1 : ((wrap64 (a0 / 4503599627370496)) != 0) = true := bne_iff_ne.mpr c2
  simp only [Option.some.injEq, Prod.mk.injEq] at H
  obtain ⟨rfl, rfl⟩ := H
  go_enter Tryd.func88, Tryd.ntmps88
  go_wp2
  go_ret2
  exact ⟨by first | rfl | (simp; done) | (simp [*]; done), by repeat (first | exact Drawn0.refl _ | apply Drawn0.step)⟩

end Go.Proofs.YtoefabmlkbhmpaaDoor.PA

namespace Go.Proofs.YtoefabmlkbhmpaaDoor.PA
open Go.RowKit Go.Proofs.YtoefabmlkbhmpaaDoorW.PrintWords Go.Proofs.YtoefabmlkbhmpaaDoorW.PrintLast Go.Proofs.YtoefabmlkbhmpaaDoorW.PrintMore
attribute [local go_sem] max2_int min2_int max_two min_two max_three min_three max_four min_four   -- for this text's walks alone
set_option linter.unusedVariables false
set_option linter.unusedSimpArgs false

/-! ### plumbref03_Mul: function 110 -/
mutual
def plumbref03_Mul.l0 : Nat → List Int → List Int → List Int → Int → Option (List Int)
 | 0, _, _, _, _ => none
 | k + 1, x0, x1, x5, x6 => if x6 < (wrap64 (2 * (x0.length : Int))) then (if 0 ≤ (wrap64 (Int.tdiv x6 2)) then (if (wrap64 (Int.tdiv x6 2)) < (x0.length : Int) then (if 0 ≤ (wrap64 (32 * (Int.tmod x6 2))) then (plumbref03_Mul.l1 k x0 x1 x5 x6 (Go.bits .and .u64 (shr .u64 (rd x0 (wrap64 (Int.tdiv x6 2))) (wrap64 (32 * (Int.tmod x6 2)))) 4294967295) 0 0) else (none)) else (none)) else (none)) else (plumbref03_Mul.l2 k x5 ([] : List Int) 0)
def plumbref03_Mul.l1 : Nat → List Int → List Int → List Int → Int → Int → Int → Int → Option (List Int)
 | 0, _, _, _, _, _, _, _ => none
 | k + 1, x0, x1, x5, x6, x7, x8, x9 => if x9 < (wrap64 (2 * (x1.length : Int))) then (if 0 ≤ (wrap64 (Int.tdiv x9 2)) then (if (wrap64 (Int.tdiv x9 2)) < (x1.length : Int) then (if 0 ≤ (wrap64 (32 * (Int.tmod x9 2))) then (if 0 ≤ (wrap64 (x6 + x9)) then (if (wrap64 (x6 + x9)) < (x5.length : Int) then (plumbref03_Mul.l1 k x0 x1 (x5.set ((wrap64 (x6 + x9)) : Int).toNat (Go.bits .and .u64 (IntKind.u64.wrap ((IntKind.u64.wrap ((IntKind.u64.wrap (x7 * (Go.bits .and .u64 (shr .u64 (rd x1 (wrap64 (Int.tdiv x9 2))) (wrap64 (32 * (Int.tmod x9 2)))) 4294967295))) + (rd x5 (wrap64 (x6 + x9))))) + x8)) 4294967295)) x6 x7 ((IntKind.u64.wrap ((IntKind.u64.wrap ((IntKind.u64.wrap (x7 * (Go.bits .and .u64 (shr .u64 (rd x1 (wrap64 (Int.tdiv x9 2))) (wrap64 (32 * (Int.tmod x9 2)))) 4294967295))) + (rd x5 (wrap64 (x6 + x9))))) + x8)) / 4294967296) (wrap64 (x9 + 1))) else (none)) else (none)) else (none)) else (none)) else (none)) else (if 0 ≤ (wrap64 (x6 + (wrap64 (2 * (x1.length : Int))))) then (if (wrap64 (x6 + (wrap64 (2 * (x1.length : Int))))) < (x5.length : Int) then (plumbref03_Mul.l0 k x0 x1 (x5.set ((wrap64 (x6 + (wrap64 (2 * (x1.length : Int))))) : Int).toNat (IntKind.u64.wrap ((rd x5 (wrap64 (x6 + (wrap64 (2 * (x1.length : Int)))))) + x8))) (wrap64 (x6 + 1))) else (none)) else (none))
def plumbref03_Mul.l2 : Nat → List Int → List Int → Int → Option (List Int)
 | 0, _, _, _ => none
 | k + 1, x5, x12, x13 => if (wrap64 (x13 + 1)) < (x5.length : Int) then (if 0 ≤ x13 then (if x13 < (x5.length : Int) then (if 0 ≤ (wrap64 (x13 + 1)) then (if x12.length < 17592186044416 then (plumbref03_Mul.l2 k x5 (x12 ++ [Go.bits .or .u64 (rd x5 x13) (IntKind.u64.wrap ((rd x5 (wrap64 (x13 + 1))) * 4294967296))]) (wrap64 (x13 + 2))) else (none)) else (none)) else (none)) else (none)) else ((plumbref03_Norm.f k x12).bind fun t189 => (some t189))
end
def plumbref03_Mul.f (k : Nat) (l0 : List Int) (l1 : List Int) : Option (List Int) := if 0 ≤ (wrap64 ((wrap64 (2 * (wrap64 ((l0.length : Int) + (l1.length : Int))))) + 1)) then (if (wrap64 ((wrap64 (2 * (wrap64 ((l0.length : Int) + (l1.length : Int))))) + 1) : Int).toNat ≤ 35184372088832 then (plumbref03_Mul.l0 k l0 l1 (List.replicate (wrap64 ((wrap64 (2 * (wrap64 ((l0.length : Int) + (l1.length : Int))))) + 1) : Int).toNat 0) 0) else (none)) else (none)
def plumbref03_Mul.T19 : Bool × List (List Nat × List Nat) := (true, [([], []), ([], []), ([], []), ([1, 2], [1, 2]), ([3], [3]), ([], []), ([], []), ([6], [6]), ([5, 7], [5, 7]), ([8], [8]), ([9], [9]), ([4, 10], [4, 10]), ([11], [11]), ([0, 12], [0, 12]), ([13, 13, 0, 1, 2, 3, 4, 5, 6, 7, 8, 9, 10, 11, 12, 13], [0, 13])])
def plumbref03_Mul.B19 : List Nat := [0, 0, 0, 6, 14, 0, 0, 64, 224, 480, 992, 2046, 4094, 8191, 16383]
theorem plumbref03_Mul.tab19 : rtab .any (opsOf Tryd.f110 19) = plumbref03_Mul.T19 := by kernel_rfl
theorem plumbref03_Mul.bits19 : waitsOk plumbref03_Mul.T19.2 plumbref03_Mul.B19 = true := by kernel_rfl
set_option maxHeartbeats 8000000 in
set_option maxRecDepth 100000 in
theorem plumbref03_Mul.calls (k : Nat) (A0 : Option Addr) (c0 : Nat) (l0 : List Int) (A1 : Option Addr) (c1 : Nat) (l1 : List Int) (r : List Int) (w : World) (hr0 : Kd.C (Kd.int .u64) w A0 l0.length l0) (hc0 : l0.length ≤ c0) (hr1 : Kd.C (Kd.int .u64) w A1 l1.length l1) (hc1 : l1.length ≤ c1) (h : plumbref03_Mul.f k l0 l1 = some r) :
  Calls Tryd.prog 110 #[.slice A0 l0.length c0, .slice A1 l1.length c1] w fun e w' => ∃ v0_ : Value, e = .returned (v0_) ∧ Kd.R (Kd.int .u64) 26 w' w.heap.size (fun _ => True) v0_ r ∧ Below w.heap.size w w' := by
 have HR0 := Aside0.mk hr0
 have HC0 := Aside0.mk hc0
 clear hr0 hc0
 have HR1 := Aside0.mk hr1
 have HC1 := Aside0.mk hc1
 clear hr1 hc1
 have HB := Aside0.mk (Below.refl w.heap.size w)
 have H : (if 0 ≤ (wrap64 ((wrap64 (2 * (wrap64 ((l0.length : Int) + (l1.length : Int))))) + 1)) then (if (wrap64 ((wrap64 (2 * (wrap64 ((l0.length : Int) + (l1.length : Int))))) + 1) : Int).toNat ≤ 35184372088832 then (plumbref03_Mul.l0 k l0 l1 (List.replicate (wrap64 ((wrap64 (2 * (wrap64 ((l0.length : Int) + (l1.length : Int))))) + 1) : Int).toNat 0) 0) else (none)) else (none)) = some r := h
 clear h
 obtain ⟨ji3, hji3⟩ : ∃ j_ : Int, (wrap64 ((wrap64 (2 * (wrap64 ((l0.length : Int) + (l1.length : Int))))) + 1)) = j_ := ⟨_, rfl⟩
 replace H : (if 0 ≤ (ji3) then (if (ji3 : Int).toNat ≤ 35184372088832 then (plumbref03_Mul.l0 k l0 l1 (List.replicate (ji3 : Int).toNat 0) 0) else (none)) else (none)) = some r := by first | (rw [hji3] at H; exact H) | (simp only [hji3] at H ⊢; exact H)
 have hji3w : (IntKind.i64.wrap ((wrap64 (2 * (wrap64 ((l0.length : Int) + (l1.length : Int))))) + 1)) = ji3 := (i64_w _).trans hji3
 by_cases c4 : (0 : Int) ≤ (ji3)
 ·rw [if_pos c4] at H
  have c4b0 := eq_true c4
  have c4b1 : decide (0 ≤ (ji3)) = true := decide_eq_true c4
  clear c4
  by_cases c5 : (ji3 : Int).toNat ≤ 35184372088832
  ·rw [if_pos c5] at H
   have c5b0 := eq_true c5
   have c5b1 : decide ((ji3 : Int).toNat ≤ 35184372088832) = true := decide_eq_true c5
   clear c5
   obtain ⟨y175, hy175⟩ : ∃ y_ : List Int, y_ = (List.replicate (ji3 : Int).toNat 0) := ⟨_, rfl⟩
   replace H : (plumbref03_Mul.l0 k l0 l1 y175 0) = some r := by first | (rw [hy175]; with_reducible exact H) | (have H2_ := (Option.bind_some _ _).symm.trans H; rw [hy175]; with_reducible exact H2_) | (have H2_ := (Option.bind_some _ _).symm.trans H; with_reducible exact H2_) | with_reducible exact H | (rw [hy175]; exact H) | exact H
   have Ny175 := Aside0.mk hy175
   clear hy175
   have H' := Aside0.mk H
   clear H
   go_enter Tryd.func110, Tryd.ntmps110
   go_wp2_with (first | ((with_reducible refine gate_dst (N := 21) rfl ?_); refine Kd.R_make (Kd.int .u64) _ 26 rfl (N := 21) rfl 22 _ _ rfl ji3 rfl rfl Tryd.underlying22 (.int .u64 0) 8 info26 rfl (by decide) (by omega) 0 (ok := fun _ => True) (okp := fun _ => True) rfl (fun _ hk => hk) trivial (of_decide_eq_true dS) (Nat.le_trans (Nat.mul_le_mul_right _ (of_decide_eq_true dS : ji3.toNat ≤ 35184372088832)) (by omega)) (Below.refl _ _) (Nat.le_refl _) ?_; intro v176 w6 ho7 hb hg_ hnew_; clear hg_ hnew_; (first | rw [← Ny175.out] at ho7 | (simp only [Int.reduceToNat] at ho7; rw [← Ny175.out] at ho7)); have HO177 := Aside0.mk (Kd.R_lower ho7 (below_size dB)); replace HB := Aside0.mk (below_step dB hb); clear hb ho7))
   go_loopg [6] k (fun kq v6 w' => ∃ (x5_1 : List Int) (x6_1 : Int), v6 = .int .i64 x6_1 ∧ Aside0 (plumbref03_Mul.l0 kq l0 l1 x5_1 x6_1 = some r) ∧ Aside0 (kq ≤ k) ∧ Aside0 (Kd.R (Kd.int .u64) 26 w' w.heap.size (fun _ => True) v176 x5_1) ∧ Aside0 (Below w.heap.size w w'))
   case atStart => exact ⟨(y175), (0), dF, H', ⟨Nat.le_refl _⟩, ⟨dR HO177.out⟩, ⟨dB⟩⟩
   case round =>
    clear H'
    try clear c1
    try clear p2
    try clear c4
    try clear c4b0
    try clear c4b1
    try clear c5
    try clear c5b0
    try clear c5b1
    try clear p6
    obtain ⟨x5_1, x6_1, rfl, HA, HK1, HO_5, HB⟩ := hrel
    cases gk with
    | zero => exact absurd HA.out (by simp [plumbref03_Mul.l0])
    | succ k1 =>
     have H := HA.out
     clear HA
     simp only [plumbref03_Mul.l0] at H
     by_cases c8 : x6_1 < (wrap64 (2 * (l0.length : Int)))
     ·rw [if_pos c8] at H
      have c8b0 : decide (x6_1 < (wrap64 (2 * (l0.length : Int)))) = true := decide_eq_true c8
      clear c8
      obtain ⟨ji9, hji9⟩ : ∃ j_ : Int, (wrap64 (Int.tdiv x6_1 2)) = j_ := ⟨_, rfl⟩
      replace H : (if 0 ≤ (ji9) then (if (ji9) < (l0.length : Int) then (if 0 ≤ (wrap64 (32 * (Int.tmod x6_1 2))) then (plumbref03_Mul.l1 k1 l0 l1 x5_1 x6_1 (Go.bits .and .u64 (shr .u64 (rd l0 (ji9)) (wrap64 (32 * (Int.tmod x6_1 2)))) 4294967295) 0 0) else (none)) else (none)) else (none)) = some r := by first | (rw [hji9] at H; exact H) | (simp only [hji9] at H ⊢; exact H)
      have hji9w : (IntKind.i64.wrap (Int.tdiv x6_1 2)) = ji9 := (i64_w _).trans hji9
      by_cases c10 : (0 : Int) ≤ (ji9)
      ·rw [if_pos c10] at H
       have c10b0 : decide (0 ≤ (ji9)) = true := decide_eq_true c10
       clear c10
       by_cases c11 : (ji9) < (l0.length : Int)
       ·rw [if_pos c11] at H
        have c11b0 : decide ((ji9) < (l0.length : Int)) = true := decide_eq_true c11
        clear c11
        obtain ⟨ji12, hji12⟩ : ∃ j_ : Int, (wrap64 (32 * (Int.tmod x6_1 2))) = j_ := ⟨_, rfl⟩
        replace H : (if 0 ≤ (ji12) then (plumbref03_Mul.l1 k1 l0 l1 x5_1 x6_1 (Go.bits .and .u64 (shr .u64 (rd l0 (ji9)) (ji12)) 4294967295) 0 0) else (none)) = some r := by first | (rw [hji12] at H; exact H) | (simp only [hji12] at H ⊢; exact H)
        have hji12w : (IntKind.i64.wrap (32 * (Int.tmod x6_1 2))) = ji12 := (i64_w _).trans hji12
        by_cases c13 : (0 : Int) ≤ (ji12)
        ·rw [if_pos c13] at H
         have c13b0 := eq_true c13
         have c13b1 : decide (0 ≤ (ji12)) = true := decide_eq_true c13
         clear c13
         obtain ⟨ji14, hji14⟩ : ∃ j_ : Int, (shr .u64 (rd l0 (ji9)) (ji12)) = j_ := ⟨_, rfl⟩
         replace H : (plumbref03_Mul.l1 k1 l0 l1 x5_1 x6_1 (Go.bits .and .u64 (ji14) 4294967295) 0 0) = some r := by first | (rw [hji14] at H; exact H) | (simp only [hji14] at H ⊢; exact H)
         have hji14_ : ((rd l0 (ji9)) / 2 ^ min (ji12).toNat 64) = ji14 := hji14
         have hji14z : (ji12) ≤ 64 → ((rd l0 (ji9)) / 2 ^ (ji12).toNat) = ji14 := shr_small hji14
         have H' := Aside0.mk H
         clear H
         have p178 : 0 ≤ ((ji9) : Int) := of_decide_eq_true dS
         have q178 : (ji9) < (l0.length : Int) := of_decide_eq_true dS
         obtain ⟨ad178, e178, hx178_0⟩ := Kd.at_int HR0.out (ji9) p178 q178
         cases e178
         replace hx178_0 := (HB.out.cell (World.block_lt_of_cell? w _ hx178_0)).trans hx178_0
         replace p178 := eq_true p178
         replace q178 := eq_true q178
         go_wp2
         go_loopg [8, 9] k1 (fun kq v8 v9 w' => ∃ (x5_2 : List Int) (x8_2 : Int) (x9_2 : Int), v8 = .int .u64 x8_2 ∧ v9 = .int .i64 x9_2 ∧ Aside0 (plumbref03_Mul.l1 kq l0 l1 x5_2 x6_1 (Go.bits .and .u64 (ji14) 4294967295) x8_2 x9_2 = some r) ∧ Aside0 (kq ≤ k1) ∧ Aside0 (Kd.R (Kd.int .u64) 26 w' w.heap.size (fun _ => True) v176 x5_2) ∧ Aside0 (Below w.heap.size w w'))
         case atStart => exact ⟨(x5_1), (0), (0), dF, dF, H', ⟨Nat.le_refl _⟩, ⟨dR HO_5.out⟩, ⟨dB⟩⟩
         case round =>
          clear H'
          try clear c1
          try clear p1
          try clear q1
          try clear hx1
          try clear p2
          try clear c4
          try clear c4b0
          try clear c4b1
          try clear c5
          try clear c5b0
          try clear c5b1
          try clear p6
          try clear c8
          try clear c8b0
          try clear c10
          try clear c10b0
          try clear c11
          try clear c11b0
          try clear c13
          try clear c13b0
          try clear c13b1
          try clear hx178_0
          try clear p178
          try clear p2
          try clear p6
          try clear q178
          obtain ⟨x5_2, x8_2, x9_2, rfl, rfl, HA, HK2, HO_5, HB⟩ := hrel
          cases gk with
          | zero => exact absurd HA.out (by simp [plumbref03_Mul.l1])
          | succ k2 =>
           have H := HA.out
           clear HA
           simp only [plumbref03_Mul.l1] at H
           by_cases c15 : x9_2 < (wrap64 (2 * (l1.length : Int)))
           ·rw [if_pos c15] at H
            have c15b0 : decide (x9_2 < (wrap64 (2 * (l1.length : Int)))) = true := decide_eq_true c15
            clear c15
            obtain ⟨ji16, hji16⟩ : ∃ j_ : Int, (wrap64 (Int.tdiv x9_2 2)) = j_ := ⟨_, rfl⟩
            replace H : (if 0 ≤ (ji16) then (if (ji16) < (l1.length : Int) then (if 0 ≤ (wrap64 (32 * (Int.tmod x9_2 2))) then (if 0 ≤ (wrap64 (x6_1 + x9_2)) then (if (wrap64 (x6_1 + x9_2)) < (x5_2.length : Int) then (plumbref03_Mul.l1 k2 l0 l1 (x5_2.set ((wrap64 (x6_1 + x9_2)) : Int).toNat (Go.bits .and .u64 (IntKind.u64.wrap ((IntKind.u64.wrap ((IntKind.u64.wrap ((Go.bits .and .u64 (ji14) 4294967295) * (Go.bits .and .u64 (shr .u64 (rd l1 (ji16)) (wrap64 (32 * (Int.tmod x9_2 2)))) 4294967295))) + (rd x5_2 (wrap64 (x6_1 + x9_2))))) + x8_2)) 4294967295)) x6_1 (Go.bits .and .u64 (ji14) 4294967295) ((IntKind.u64.wrap ((IntKind.u64.wrap ((IntKind.u64.wrap ((Go.bits .and .u64 (ji14) 4294967295) * (Go.bits .and .u64 (shr .u64 (rd l1 (ji16)) (wrap64 (32 * (Int.tmod x9_2 2)))) 4294967295))) + (rd x5_2 (wrap64 (x6_1 + x9_2))))) + x8_2)) / 4294967296) (wrap64 (x9_2 + 1))) else (none)) else (none)) else (none)) else (none)) else (none)) = some r := by first | (rw [hji16] at H; exact H) | (simp only [hji16] at H ⊢; exact H)
            have hji16w : (IntKind.i64.wrap (Int.tdiv x9_2 2)) = ji16 := (i64_w _).trans hji16
            by_cases c17 : (0 : Int) ≤ (ji16)
            ·rw [if_pos c17] at H
             have c17b0 : decide (0 ≤ (ji16)) = true := decide_eq_true c17
             clear c17
             by_cases c18 : (ji16) < (l1.length : Int)
             ·rw [if_pos c18] at H
              have c18b0 : decide ((ji16) < (l1.length : Int)) = true := decide_eq_true c18
              clear c18
              obtain ⟨ji19, hji19⟩ : ∃ j_ : Int, (wrap64 (32 * (Int.tmod x9_2 2))) = j_ := ⟨_, rfl⟩
              replace H : (if 0 ≤ (ji19) then (if 0 ≤ (wrap64 (x6_1 + x9_2)) then (if (wrap64 (x6_1 + x9_2)) < (x5_2.length : Int) then (plumbref03_Mul.l1 k2 l0 l1 (x5_2.set ((wrap64 (x6_1 + x9_2)) : Int).toNat (Go.bits .and .u64 (IntKind.u64.wrap ((IntKind.u64.wrap ((IntKind.u64.wrap ((Go.bits .and .u64 (ji14) 4294967295) * (Go.bits .and .u64 (shr .u64 (rd l1 (ji16)) (ji19)) 4294967295))) + (rd x5_2 (wrap64 (x6_1 + x9_2))))) + x8_2)) 4294967295)) x6_1 (Go.bits .and .u64 (ji14) 4294967295) ((IntKind.u64.wrap ((IntKind.u64.wrap ((IntKind.u64.wrap ((Go.bits .and .u64 (ji14) 4294967295) * (Go.bits .and .u64 (shr .u64 (rd l1 (ji16)) (ji19)) 4294967295))) + (rd x5_2 (wrap64 (x6_1 + x9_2))))) + x8_2)) / 4294967296) (wrap64 (x9_2 + 1))) else (none)) else (none)) else (none)) = some r := by first | (rw [hji19] at H; exact H) | (simp only [hji19] at H ⊢; exact H)
              have hji19w : (IntKind.i64.wrap (32 * (Int.tmod x9_2 2))) = ji19 := (i64_w _).trans hji19
              by_cases c20 : (0 : Int) ≤ (ji19)
              ·rw [if_pos c20] at H
               have c20b0 := eq_true c20
               have c20b1 : decide (0 ≤ (ji19)) = true := decide_eq_true c20
               clear c20
               obtain ⟨ji21, hji21⟩ : ∃ j_ : Int, (shr .u64 (rd l1 (ji16)) (ji19)) = j_ := ⟨_, rfl⟩
               replace H : (if 0 ≤ (wrap64 (x6_1 + x9_2)) then (if (wrap64 (x6_1 + x9_2)) < (x5_2.length : Int) then (plumbref03_Mul.l1 k2 l0 l1 (x5_2.set ((wrap64 (x6_1 + x9_2)) : Int).toNat (Go.bits .and .u64 (IntKind.u64.wrap ((IntKind.u64.wrap ((IntKind.u64.wrap ((Go.bits .and .u64 (ji14) 4294967295) * (Go.bits .and .u64 (ji21) 4294967295))) + (rd x5_2 (wrap64 (x6_1 + x9_2))))) + x8_2)) 4294967295)) x6_1 (Go.bits .and .u64 (ji14) 4294967295) ((IntKind.u64.wrap ((IntKind.u64.wrap ((IntKind.u64.wrap ((Go.bits .and .u64 (ji14) 4294967295) * (Go.bits .and .u64 (ji21) 4294967295))) + (rd x5_2 (wrap64 (x6_1 + x9_2))))) + x8_2)) / 4294967296) (wrap64 (x9_2 + 1))) else (none)) else (none)) = some r := by first | (rw [hji21] at H; exact H) | (simp only [hji21] at H ⊢; exact H)
               have hji21_ : ((rd l1 (ji16)) / 2 ^ min (ji19).toNat 64) = ji21 := hji21
               have hji21z : (ji19) ≤ 64 → ((rd l1 (ji16)) / 2 ^ (ji19).toNat) = ji21 := shr_small hji21
               obtain ⟨ji22, hji22⟩ : ∃ j_ : Int, (wrap64 (x6_1 + x9_2)) = j_ := ⟨_, rfl⟩
               replace H : (if 0 ≤ (ji22) then (if (ji22) < (x5_2.length : Int) then (plumbref03_Mul.l1 k2 l0 l1 (x5_2.set ((ji22) : Int).toNat (Go.bits .and .u64 (IntKind.u64.wrap ((IntKind.u64.wrap ((IntKind.u64.wrap ((Go.bits .and .u64 (ji14) 4294967295) * (Go.bits .and .u64 (ji21) 4294967295))) + (rd x5_2 (ji22)))) + x8_2)) 4294967295)) x6_1 (Go.bits .and .u64 (ji14) 4294967295) ((IntKind.u64.wrap ((IntKind.u64.wrap ((IntKind.u64.wrap ((Go.bits .and .u64 (ji14) 4294967295) * (Go.bits .and .u64 (ji21) 4294967295))) + (rd x5_2 (ji22)))) + x8_2)) / 4294967296) (wrap64 (x9_2 + 1))) else (none)) else (none)) = some r := by first | (rw [hji22] at H; exact H) | (simp only [hji22] at H ⊢; exact H)
               have hji22w : (IntKind.i64.wrap (x6_1 + x9_2)) = ji22 := (i64_w _).trans hji22
               by_cases c23 : (0 : Int) ≤ (ji22)
               ·rw [if_pos c23] at H
                have c23b0 : decide (0 ≤ (ji22)) = true := decide_eq_true c23
                clear c23
                by_cases c24 : (ji22) < (x5_2.length : Int)
                ·rw [if_pos c24] at H
                 have c24b0 : decide ((ji22) < (x5_2.length : Int)) = true := decide_eq_true c24
                 clear c24
                 obtain ⟨y181, hy181⟩ : ∃ y_ : List Int, y_ = (x5_2.set ((ji22) : Int).toNat (Go.bits .and .u64 (IntKind.u64.wrap ((IntKind.u64.wrap ((IntKind.u64.wrap ((Go.bits .and .u64 (ji14) 4294967295) * (Go.bits .and .u64 (ji21) 4294967295))) + (rd x5_2 (ji22)))) + x8_2)) 4294967295)) := ⟨_, rfl⟩
                 replace H : (plumbref03_Mul.l1 k2 l0 l1 y181 x6_1 (Go.bits .and .u64 (ji14) 4294967295) ((IntKind.u64.wrap ((IntKind.u64.wrap ((IntKind.u64.wrap ((Go.bits .and .u64 (ji14) 4294967295) * (Go.bits .and .u64 (ji21) 4294967295))) + (rd x5_2 (ji22)))) + x8_2)) / 4294967296) (wrap64 (x9_2 + 1))) = some r := by first | (rw [hy181]; with_reducible exact H) | (have H2_ := (Option.bind_some _ _).symm.trans H; rw [hy181]; with_reducible exact H2_) | (have H2_ := (Option.bind_some _ _).symm.trans H; with_reducible exact H2_) | with_reducible exact H | (rw [hy181]; exact H) | exact H
                 have Ny181 := Aside0.mk hy181
                 clear hy181
                 have H' := Aside0.mk H
                 clear H
                 have p179 : 0 ≤ ((ji16) : Int) := of_decide_eq_true dS
                 have q179 : (ji16) < (l1.length : Int) := of_decide_eq_true dS
                 obtain ⟨ad179, e179, hx179_0⟩ := Kd.at_int HR1.out (ji16) p179 q179
                 cases e179
                 replace hx179_0 := (HB.out.cell (World.block_lt_of_cell? w _ hx179_0)).trans hx179_0
                 replace p179 := eq_true p179
                 replace q179 := eq_true q179
                 obtain ⟨Ao26, co26, eo26⟩ := Kd.R_slice HO_5.out
                 subst eo26
                 have p180 : 0 ≤ ((ji22) : Int) := of_decide_eq_true dS
                 have q180 : (ji22) < (x5_2.length : Int) := of_decide_eq_true dS
                 obtain ⟨ad180, e180, hx180_0⟩ := Kd.at_int (Kd.R_reads' HO_5.out).2.2 (ji22) p180 q180
                 cases e180
                 replace p180 := eq_true p180
                 replace q180 := eq_true q180
                 have p25 : 0 ≤ ((ji22) : Int) := of_decide_eq_true dS
                 have q25 : ((ji22) : Int) < ((x5_2.length : Int) : Int) := of_decide_eq_true dS
                 obtain ⟨go25, co25, eo25, gb25, gl25, cl25, HG25⟩ := Kd.R_form HO_5.out (by omega)
                 (first | cases eo25 | (injection eo25 with ea_ en_ ec_; (first | subst ea_ | (injection ea_ with ea_; subst ea_)); subst ec_; clear en_))
                 have GB25 := Aside0.mk gb25
                 have GG25 := Aside0.mk HG25
                 clear gb25 gl25 HG25
                 (first | simp only [add_plain] at hx180_0 | skip)
                 obtain ⟨hx25_0, hf25_0⟩ := Kd.R_celln 0 HO_5.out ((ji22) : Int) p25 q25
                 replace p25 := eq_true p25
                 replace q25 := eq_true q25
                 have HP27 := Kd.R_putg HO_5.out ((ji22) : Int) (Go.bits .and .u64 (IntKind.u64.wrap ((IntKind.u64.wrap ((IntKind.u64.wrap ((Go.bits .and .u64 (ji14) 4294967295) * (Go.bits .and .u64 (ji21) 4294967295))) + (rd x5_2 (ji22)))) + x8_2)) 4294967295)
                 go_wp2_with (first | ((with_reducible refine gate_store (t := 26) (p := 74) rfl ?_); refine store_event (t := 26) (p := 74) (v := ?vo_w28) (w1 := (wr.setCell ⟨go25, ((ji22) : Int).toNat, none⟩ (.int .u64 (Go.bits .and .u64 (IntKind.u64.wrap ((IntKind.u64.wrap ((IntKind.u64.wrap ((Go.bits .and .u64 (ji14) 4294967295) * (Go.bits .and .u64 (ji21) 4294967295))) + (rd x5_2 (ji22)))) + x8_2)) 4294967295)))) ?hg ?ho ?hn ?hr ?_; (case ho => rfl); (case hg => rfl); (case hn => rfl); (case hr => first | (go_simp; done) | (go_simp; rfl)); intro w28 hw; have hg : wr.grownBy w28 (some go25) := (by rw [hw]; exact HP27.2); have hp_ : Kd.R (Kd.int .u64) 26 w28 w.heap.size (fun _ => True) (.slice (some ⟨go25, 0, none⟩) x5_2.length co26) y181 := (by rw [hw, Ny181.out]; exact HP27.1); clear HP27; replace HO_5 := Aside0.mk (hp_); replace HB := Aside0.mk ((by rw [hw]; exact below_set (HB.out) GB25.out : Below w.heap.size w w28)); clear hg hw hp_))
                 go_roundg k2
                 case measure => have := HK1.out; have := HK2.out; omega
                 case rel => exact ⟨(y181), ((IntKind.u64.wrap ((IntKind.u64.wrap ((IntKind.u64.wrap ((Go.bits .and .u64 (ji14) 4294967295) * (Go.bits .and .u64 (ji21) 4294967295))) + (rd x5_2 (ji22)))) + x8_2)) / 4294967296), (wrap64 (x9_2 + 1)), (by first | rfl | (simp; done) | (simp only [← hji14, ← hji21, ← hji22] <;> (first | rfl | simp)) | (simp [*]; done)), dF, H', ⟨by have := HK1.out; have := HK2.out; omega⟩, ⟨dR HO_5.out⟩, ⟨dB⟩⟩
                ·rw [if_neg c24] at H
                 exact absurd H (by simp)
               ·rw [if_neg c23] at H
                exact absurd H (by simp)
              ·rw [if_neg c20] at H
               exact absurd H (by simp)
             ·rw [if_neg c18] at H
              exact absurd H (by simp)
            ·rw [if_neg c17] at H
             exact absurd H (by simp)
           ·rw [if_neg c15] at H
            have c15b0 : decide (x9_2 < (wrap64 (2 * (l1.length : Int)))) = false := decide_eq_false c15
            clear c15
            obtain ⟨ji29, hji29⟩ : ∃ j_ : Int, (wrap64 (x6_1 + (wrap64 (2 * (l1.length : Int))))) = j_ := ⟨_, rfl⟩
            replace H : (if 0 ≤ (ji29) then (if (ji29) < (x5_2.length : Int) then (plumbref03_Mul.l0 k2 l0 l1 (x5_2.set ((ji29) : Int).toNat (IntKind.u64.wrap ((rd x5_2 (ji29)) + x8_2))) (wrap64 (x6_1 + 1))) else (none)) else (none)) = some r := by first | (rw [hji29] at H; exact H) | (simp only [hji29] at H ⊢; exact H)
            have hji29w : (IntKind.i64.wrap (x6_1 + (wrap64 (2 * (l1.length : Int))))) = ji29 := (i64_w _).trans hji29
            by_cases c30 : (0 : Int) ≤ (ji29)
            ·rw [if_pos c30] at H
             have c30b0 : decide (0 ≤ (ji29)) = true := decide_eq_true c30
             clear c30
             by_cases c31 : (ji29) < (x5_2.length : Int)
             ·rw [if_pos c31] at H
              have c31b0 : decide ((ji29) < (x5_2.length : Int)) = true := decide_eq_true c31
              clear c31
              obtain ⟨y183, hy183⟩ : ∃ y_ : List Int, y_ = (x5_2.set ((ji29) : Int).toNat (IntKind.u64.wrap ((rd x5_2 (ji29)) + x8_2))) := ⟨_, rfl⟩
              replace H : (plumbref03_Mul.l0 k2 l0 l1 y183 (wrap64 (x6_1 + 1))) = some r := by first | (rw [hy183]; with_reducible exact H) | (have H2_ := (Option.bind_some _ _).symm.trans H; rw [hy183]; with_reducible exact H2_) | (have H2_ := (Option.bind_some _ _).symm.trans H; with_reducible exact H2_) | with_reducible exact H | (rw [hy183]; exact H) | exact H
              have Ny183 := Aside0.mk hy183
              clear hy183
              have H' := Aside0.mk H
              clear H
              obtain ⟨Ao33, co33, eo33⟩ := Kd.R_slice HO_5.out
              subst eo33
              have p182 : 0 ≤ ((ji29) : Int) := of_decide_eq_true dS
              have q182 : (ji29) < (x5_2.length : Int) := of_decide_eq_true dS
              obtain ⟨ad182, e182, hx182_0⟩ := Kd.at_int (Kd.R_reads' HO_5.out).2.2 (ji29) p182 q182
              cases e182
              replace p182 := eq_true p182
              replace q182 := eq_true q182
              have p32 : 0 ≤ ((ji29) : Int) := of_decide_eq_true dS
              have q32 : ((ji29) : Int) < ((x5_2.length : Int) : Int) := of_decide_eq_true dS
              obtain ⟨go32, co32, eo32, gb32, gl32, cl32, HG32⟩ := Kd.R_form HO_5.out (by omega)
              (first | cases eo32 | (injection eo32 with ea_ en_ ec_; (first | subst ea_ | (injection ea_ with ea_; subst ea_)); subst ec_; clear en_))
              have GB32 := Aside0.mk gb32
              have GG32 := Aside0.mk HG32
              clear gb32 gl32 HG32
              (first | simp only [add_plain] at hx182_0 | skip)
              obtain ⟨hx32_0, hf32_0⟩ := Kd.R_celln 0 HO_5.out ((ji29) : Int) p32 q32
              replace p32 := eq_true p32
              replace q32 := eq_true q32
              have HP34 := Kd.R_putg HO_5.out ((ji29) : Int) (IntKind.u64.wrap ((rd x5_2 (ji29)) + x8_2))
              go_wp2_with (first | ((with_reducible refine gate_store (t := 26) (p := 93) rfl ?_); refine store_event (t := 26) (p := 93) (v := ?vo_w35) (w1 := (wr.setCell ⟨go32, ((ji29) : Int).toNat, none⟩ (.int .u64 (IntKind.u64.wrap ((rd x5_2 (ji29)) + x8_2))))) ?hg ?ho ?hn ?hr ?_; (case ho => rfl); (case hg => rfl); (case hn => rfl); (case hr => first | (go_simp; done) | (go_simp; rfl)); intro w35 hw; have hg : wr.grownBy w35 (some go32) := (by rw [hw]; exact HP34.2); have hp_ : Kd.R (Kd.int .u64) 26 w35 w.heap.size (fun _ => True) (.slice (some ⟨go32, 0, none⟩) x5_2.length co33) y183 := (by rw [hw, Ny183.out]; exact HP34.1); clear HP34; replace HO_5 := Aside0.mk (hp_); replace HB := Aside0.mk ((by rw [hw]; exact below_set (HB.out) GB32.out : Below w.heap.size w w35)); clear hg hw hp_))
              go_roundg k2
              case measure => have := HK1.out; have := HK2.out; omega
              case rel => exact ⟨(y183), (wrap64 (x6_1 + 1)), dF, H', ⟨by have := HK1.out; have := HK2.out; omega⟩, ⟨dR HO_5.out⟩, ⟨dB⟩⟩
             ·rw [if_neg c31] at H
              exact absurd H (by simp)
            ·rw [if_neg c30] at H
             exact absurd H (by simp)
        ·rw [if_neg c13] at H
         exact absurd H (by simp)
       ·rw [if_neg c11] at H
        exact absurd H (by simp)
      ·rw [if_neg c10] at H
       exact absurd H (by simp)
     ·rw [if_neg c8] at H
      have c8b0 : decide (x6_1 < (wrap64 (2 * (l0.length : Int)))) = false := decide_eq_false c8
      clear c8
      have H' := Aside0.mk H
      clear H
      go_wp2
      go_loopg [12, 13] k1 (fun kq v12 v13 w' => ∃ (x12_2 : List Int) (x13_2 : Int), v13 = .int .i64 x13_2 ∧ Aside0 (plumbref03_Mul.l2 kq x5_1 x12_2 x13_2 = some r) ∧ Aside0 (kq ≤ k1) ∧ Aside0 (Kd.R (Kd.int .u64) 26 w' w.heap.size (fun k_ => some k_ ≠ (v12 : Value).ownBlock) v176 x5_1) ∧ Aside0 (Kd.R (Kd.int .u64) 26 w' w.heap.size (fun k_ => some k_ ≠ (v176 : Value).ownBlock) v12 x12_2) ∧ Aside0 (Below w.heap.size w w'))
      case atStart => exact ⟨(([] : List Int)), (0), dF, H', ⟨Nat.le_refl _⟩, ⟨by (with_reducible repeat (first | apply Kd.R_alloc | apply Kd.R_drewN | apply Kd.R_drew)); exact Kd.R_mono HO_5.out (fun _ hk => (by simp [Value.ownBlock]))⟩, ⟨by first | exact Kd.R_nil _ _ _ _ _ | exact Kd.N_nil _ _ _ _ _ | exact Kd.V_nil _ _ _ _ _ | exact Kd.Q_nil _ _ _ _ _ | exact Kd.S_nil _ _ _ _ _⟩, ⟨dB⟩⟩
      case round =>
       clear H'
       try clear c1
       try clear p1
       try clear q1
       try clear hx1
       try clear c2
       try clear p2
       try clear q2
       try clear hx2
       try clear hf2
       try clear c3
       try clear p3
       try clear q3
       try clear hx3
       try clear hf3
       try clear c4
       try clear c4b0
       try clear c4b1
       try clear c5
       try clear c5b0
       try clear c5b1
       try clear p6
       try clear c8
       try clear c8b0
       try clear c10
       try clear c10b0
       try clear c11
       try clear c11b0
       try clear c13
       try clear c13b0
       try clear c13b1
       try clear c15
       try clear c15b0
       try clear c17
       try clear c17b0
       try clear p17
       try clear q17
       try clear hx17
       try clear c18
       try clear c18b0
       try clear p18
       try clear q18
       try clear hx18
       try clear c20
       try clear c20b0
       try clear c20b1
       try clear c23
       try clear c23b0
       try clear c24
       try clear c24b0
       try clear p25
       try clear q25
       try clear hx25
       try clear hf25
       try clear c30
       try clear c30b0
       try clear c31
       try clear c31b0
       try clear p32
       try clear q32
       try clear hx32
       try clear hf32
       try clear hx178_0
       try clear hx179_0
       try clear hx180_0
       try clear hx182_0
       try clear hx25_0
       try clear hx32_0
       try clear p1
       try clear p178
       try clear p179
       try clear p180
       try clear p182
       try clear p2
       try clear p25
       try clear p32
       try clear p6
       try clear q1
       try clear q178
       try clear q179
       try clear q180
       try clear q182
       try clear q25
       try clear q32
       obtain ⟨x12_2, x13_2, rfl, HA, HK2, HO_5, HO_12, HB⟩ := hrel
       cases gk with
       | zero => exact absurd HA.out (by simp [plumbref03_Mul.l2])
       | succ k2 =>
        have H := HA.out
        clear HA
        simp only [plumbref03_Mul.l2] at H
        by_cases c36 : (wrap64 (x13_2 + 1)) < (x5_1.length : Int)
        ·rw [if_pos c36] at H
         have c36b0 : decide ((wrap64 (x13_2 + 1)) < (x5_1.length : Int)) = true := decide_eq_true c36
         clear c36
         by_cases c37 : (0 : Int) ≤ x13_2
         ·rw [if_pos c37] at H
          have c37b0 : decide (0 ≤ x13_2) = true := decide_eq_true c37
          clear c37
          by_cases c38 : x13_2 < (x5_1.length : Int)
          ·rw [if_pos c38] at H
           have c38b0 : decide (x13_2 < (x5_1.length : Int)) = true := decide_eq_true c38
           clear c38
           obtain ⟨ji39, hji39⟩ : ∃ j_ : Int, (wrap64 (x13_2 + 1)) = j_ := ⟨_, rfl⟩
           replace H : (if 0 ≤ (ji39) then (if x12_2.length < 17592186044416 then (plumbref03_Mul.l2 k2 x5_1 (x12_2 ++ [Go.bits .or .u64 (rd x5_1 x13_2) (IntKind.u64.wrap ((rd x5_1 (ji39)) * 4294967296))]) (wrap64 (x13_2 + 2))) else (none)) else (none)) = some r := by first | (rw [hji39] at H; exact H) | (simp only [hji39] at H ⊢; exact H)
           (try rw [hji39] at c36b0)
           have hji39w : (IntKind.i64.wrap (x13_2 + 1)) = ji39 := (i64_w _).trans hji39
           by_cases c40 : (0 : Int) ≤ (ji39)
           ·rw [if_pos c40] at H
            have c40b0 : decide (0 ≤ (ji39)) = true := decide_eq_true c40
            clear c40
            by_cases c41 : x12_2.length < 17592186044416
            ·rw [if_pos c41] at H
             have LMc41 := Aside0.mk c41
             clear c41
             obtain ⟨y186, hy186⟩ : ∃ y_ : List Int, y_ = (x12_2 ++ [Go.bits .or .u64 (rd x5_1 x13_2) (IntKind.u64.wrap ((rd x5_1 (ji39)) * 4294967296))]) := ⟨_, rfl⟩
             replace H : (plumbref03_Mul.l2 k2 x5_1 y186 (wrap64 (x13_2 + 2))) = some r := by first | (rw [hy186]; with_reducible exact H) | (have H2_ := (Option.bind_some _ _).symm.trans H; rw [hy186]; with_reducible exact H2_) | (have H2_ := (Option.bind_some _ _).symm.trans H; with_reducible exact H2_) | with_reducible exact H | (rw [hy186]; exact H) | exact H
             have Ny186 := Aside0.mk hy186
             clear hy186
             have H' := Aside0.mk H
             clear H
             obtain ⟨Ao42, co42, eo42⟩ := Kd.R_slice HO_5.out
             subst eo42
             try go_wp2
             replace HO_5 := Aside0.mk (Kd.R_drew HO_5.out)
             replace HO_12 := Aside0.mk (Kd.R_drew HO_12.out)
             replace HB := Aside0.mk (below_drew1 HB.out)
             have p184 : 0 ≤ (x13_2 : Int) := of_decide_eq_true dS
             have q184 : x13_2 < (x5_1.length : Int) := of_decide_eq_true dS
             obtain ⟨ad184, e184, hx184_0⟩ := Kd.at_int (Kd.R_reads' HO_5.out).2.2 x13_2 p184 q184
             cases e184
             replace p184 := eq_true p184
             replace q184 := eq_true q184
             have p185 : 0 ≤ ((ji39) : Int) := of_decide_eq_true dS
             have q185 : (ji39) < (x5_1.length : Int) := of_decide_eq_true dS
             obtain ⟨ad185, e185, hx185_0⟩ := Kd.at_int (Kd.R_reads' HO_5.out).2.2 (ji39) p185 q185
             obtain rfl : ad184 = ad185 := (by injection e185)
             replace p185 := eq_true p185
             replace q185 := eq_true q185
             refine start_ (n := 15) (S := fun w' => w'.cell? (ad184.add (x13_2).toNat) = some (.int .u64 (rd x5_1 x13_2)) ∧ w'.cell? (ad184.add ((ji39)).toNat) = some (.int .u64 (rd x5_1 (ji39)))) (ds := [12, 13]) #[false, false, false, false, false, false, false, false, false, false, false, false, false, false, false] (by kernel_rfl) rfl rfl ⟨hx184_0, hx185_0⟩ (fun hHeld => ?_); refine with_tabW plumbref03_Mul.tab19 plumbref03_Mul.bits19 (fun HT_ HW_ => ?_)
             generalize wr.drew = w43 at HO_5 HO_12 HB hx184_0 hx185_0 hHeld ⊢
             refine pure_ (i := 0) (N := some 101) (v := ?_) (a' := ?_) #[true, false, false, false, false, false, false, false, false, false, false, false, false, false, false] rfl rfl dT (fun _ _ _ h => h) (Or.inl ⟨by rfl, ?_⟩) ?_ ?_
             rotate_left
             ·intro w'
              go_simp
              with_reducible rfl
             rotate_left
             ·simp only [Act.put, List.setIfInBounds_toArray, List.set_cons_zero, List.set_cons_succ, i64_w, i32_w]
              rfl
             refine pure_ (i := 1) (N := some 102) (v := ?_) (a' := ?_) #[true, true, false, false, false, false, false, false, false, false, false, false, false, false, false] rfl rfl dT (fun _ _ _ h => h) (Or.inl ⟨by rfl, ?_⟩) ?_ ?_
             rotate_left
             ·intro w'
              go_simp
              with_reducible rfl
             rotate_left
             ·simp only [Act.put, List.setIfInBounds_toArray, List.set_cons_zero, List.set_cons_succ, i64_w, i32_w]
              rfl
             refine pure_ (i := 2) (N := some 103) (v := ?_) (a' := ?_) #[true, true, true, false, false, false, false, false, false, false, false, false, false, false, false] rfl rfl dT (fun _ _ _ h => h) (Or.inl ⟨by rfl, ?_⟩) ?_ ?_
             rotate_left
             ·intro w'
              go_simp
              with_reducible rfl
             rotate_left
             ·simp only [Act.put, List.setIfInBounds_toArray, List.set_cons_zero, List.set_cons_succ, i64_w, i32_w]
              rfl
             refine pure_ (i := 3) (N := some 104) (v := ?_) (a' := ?_) #[true, true, true, true, false, false, false, false, false, false, false, false, false, false, false] rfl rfl dT (fun _ _ _ h => h) (Or.inl ⟨by rfl, ?_⟩) ?_ ?_
             rotate_left
             ·intro w'
              go_simp
              with_reducible rfl
             rotate_left
             ·simp only [Act.put, List.setIfInBounds_toArray, List.set_cons_zero, List.set_cons_succ, i64_w, i32_w]
              rfl
             refine pure_ (i := 5) (N := some 106) (v := ?_) (a' := ?_) #[true, true, true, true, false, true, false, false, false, false, false, false, false, false, false] rfl rfl dT (fun _ _ _ h => h) (Or.inl ⟨by rfl, ?_⟩) ?_ ?_
             rotate_left
             ·intro w'
              go_simp
              with_reducible rfl
             rotate_left
             ·simp only [Act.put, List.setIfInBounds_toArray, List.set_cons_zero, List.set_cons_succ, i64_w, i32_w]
              rfl
             refine pure_ (i := 6) (N := some 107) (v := ?_) (a' := ?_) #[true, true, true, true, false, true, true, false, false, false, false, false, false, false, false] rfl rfl dT (fun _ _ _ h => h) (Or.inl ⟨by rfl, ?_⟩) ?_ ?_
             rotate_left
             ·intro w'
              go_simp
              with_reducible rfl
             rotate_left
             ·simp only [Act.put, List.setIfInBounds_toArray, List.set_cons_zero, List.set_cons_succ, i64_w, i32_w]
              rfl
             refine pure_ (i := 7) (N := some 108) (v := ?_) (a' := ?_) #[true, true, true, true, false, true, true, true, false, false, false, false, false, false, false] rfl rfl dT (fun _ _ _ h => h) (Or.inl ⟨by rfl, ?_⟩) ?_ ?_
             rotate_left
             ·intro w'
              go_simp
              with_reducible rfl
             rotate_left
             ·simp only [Act.put, List.setIfInBounds_toArray, List.set_cons_zero, List.set_cons_succ, i64_w, i32_w]
              rfl
             refine pure_ (i := 8) (N := some 109) (v := ?_) (a' := ?_) #[true, true, true, true, false, true, true, true, true, false, false, false, false, false, false] rfl rfl dT (fun _ _ _ h => h) (Or.inl ⟨by rfl, ?_⟩) ?_ ?_
             rotate_left
             ·intro w'
              go_simp
              with_reducible rfl
             rotate_left
             ·simp only [Act.put, List.setIfInBounds_toArray, List.set_cons_zero, List.set_cons_succ, i64_w, i32_w]
              rfl
             refine take_ (i := 4) (N := some 105) (v := ?_) (a' := ?_) #[true, true, true, true, true, true, true, true, true, false, false, false, false, false, false] rfl rfl (take_ofW HT_.out HW_.out (by kernel_rfl)) (fun _ _ _ h => h) (Or.inl ⟨by rfl, ?_⟩) hHeld ?_ ?_
             rotate_left
             ·rintro w' ⟨s0, s1⟩
              go_simp
              with_reducible rfl
             rotate_left
             ·simp only [Act.put, List.setIfInBounds_toArray, List.set_cons_zero, List.set_cons_succ, i64_w, i32_w]
              rfl
             refine take_ (i := 9) (N := some 110) (v := ?_) (a' := ?_) #[true, true, true, true, true, true, true, true, true, true, false, false, false, false, false] rfl rfl (take_ofW HT_.out HW_.out (by kernel_rfl)) (fun _ _ _ h => h) (Or.inl ⟨by rfl, ?_⟩) hHeld ?_ ?_
             rotate_left
             ·rintro w' ⟨s0, s1⟩
              go_simp
              with_reducible rfl
             rotate_left
             ·simp only [Act.put, List.setIfInBounds_toArray, List.set_cons_zero, List.set_cons_succ, i64_w, i32_w]
              rfl
             refine pure_ (i := 10) (N := some 111) (v := ?_) (a' := ?_) #[true, true, true, true, true, true, true, true, true, true, true, false, false, false, false] rfl rfl dT (fun _ _ _ h => h) (Or.inl ⟨by rfl, ?_⟩) ?_ ?_
             rotate_left
             ·intro w'
              go_simp
              with_reducible rfl
             rotate_left
             ·simp only [Act.put, List.setIfInBounds_toArray, List.set_cons_zero, List.set_cons_succ, i64_w, i32_w]
              rfl
             refine pure_ (i := 11) (N := some 112) (v := ?_) (a' := ?_) #[true, true, true, true, true, true, true, true, true, true, true, true, false, false, false] rfl rfl dT (fun _ _ _ h => h) (Or.inl ⟨by rfl, ?_⟩) ?_ ?_
             rotate_left
             ·intro w'
              go_simp
              with_reducible rfl
             rotate_left
             ·simp only [Act.put, List.setIfInBounds_toArray, List.set_cons_zero, List.set_cons_succ, i64_w, i32_w]
              rfl
             refine last_ (i := 12) (N := some 113) #[true, true, true, true, true, true, true, true, true, true, true, true, true, false, false] rfl rfl (one_of HT_.out (by kernel_rfl)) (by decide) (fun K hK => ?_)
             refine value_ (w1 := ?_) (v := ?_) (by rfl) rfl ?_ ?_
             rotate_left 2
             ·go_simp
              constructor
              ·rfl
              ·rfl
             refine hK.out _ _ ?_
             clear hK K
             refine norm_ (a' := ?_) ?_ ?_
             rotate_left
             ·show Act.put _ (some 113) _ = _
              simp only [Act.put, List.setIfInBounds_toArray, List.set_cons_zero, List.set_cons_succ, i64_w, i32_w]
              rfl
             refine last_ (i := 13) (N := some 114) #[true, true, true, true, true, true, true, true, true, true, true, true, true, true, false] rfl rfl (one_of HT_.out (by kernel_rfl)) (by decide) (fun K hK => ?_)
             refine Kd.R_append_step (Kd.int .u64) (w0 := w) w.heap.size (by rfl) (.tmp 101) (.tmp 113) 22 26 (.int .u64 0) 8 rfl Tryd.underlying22 info26 rfl (by decide) (by omega) u12 x12_2 (Go.bits .or .u64 (rd x5_1 x13_2) (IntKind.u64.wrap ((rd x5_1 (ji39)) * 4294967296))) [.int .u64 (Go.bits .or .u64 (rd x5_1 x13_2) (IntKind.u64.wrap ((rd x5_1 (ji39)) * 4294967296)))] (fun k_ => some k_ ≠ (.slice (some ad184) x5_1.length co42 : Value).ownBlock) (fun _ => False) rfl rfl ?aP (fun _ hk => hk.elim) ?aF ?aO ?aB ?aS ?aL ?_
             (case aP => exact rfl)
             (case aB => exact dB)
             (case aF => exact (fun k_ hk => Kd.fresh' (Kd.R_lt (dR HO_5.out)) k_ hk))
             (case aO => exact (dR HO_12.out))
             (case aS => exact (below_size dB))
             (case aL => have := LMc41.out; omega)
             intro v187 w44 ho hb hg hat
             rw [← Ny186.out] at ho
             replace HO_5 := Aside0.mk (Kd.R_after (ok := (fun _ => True)) (by (with_reducible repeat (first | apply Kd.R_alloc | apply Kd.R_drewN | apply Kd.R_drew)); exact Kd.R_mono HO_5.out (fun _ hk => ⟨trivial, hk⟩)) hg hat)
             replace HB := Aside0.mk (hb)
             have HO188 := Aside0.mk (ho)
             clear HO_12
             clear ho hb hg hat
             refine hK.out _ _ ?_
             clear hK K
             refine norm_ (a' := ?_) ?_ ?_
             rotate_left
             ·show Act.put _ (some 114) _ = _
              simp only [Act.put, List.setIfInBounds_toArray, List.set_cons_zero, List.set_cons_succ, i64_w, i32_w]
              rfl
             refine pure_ (i := 14) (N := some 12) (v := ?_) (a' := ?_) #[true, true, true, true, true, true, true, true, true, true, true, true, true, true, true] rfl rfl dT (fun _ _ _ h => h) (Or.inl ⟨by rfl, ?_⟩) ?_ ?_
             rotate_left
             ·intro w'
              go_simp
              with_reducible rfl
             rotate_left
             ·simp only [Act.put, List.setIfInBounds_toArray, List.set_cons_zero, List.set_cons_succ, i64_w, i32_w]
              rfl
             refine done_ (done_of HT_.out (by kernel_rfl)) ?_
             try go_wp2
             go_roundg k2
             case measure => have := HK1.out; have := HK2.out; omega
             case rel => exact ⟨(y186), (wrap64 (x13_2 + 2)), dF, H', ⟨by have := HK1.out; have := HK2.out; omega⟩, ⟨by (with_reducible repeat (first | apply Kd.R_alloc | apply Kd.R_drewN | apply Kd.R_drew)); exact Kd.R_mono HO_5.out (fun _ hk => hk.2)⟩, ⟨dR HO188.out⟩, ⟨dB⟩⟩
            ·rw [if_neg c41] at H
             exact absurd H (by simp)
           ·rw [if_neg c40] at H
            exact absurd H (by simp)
          ·rw [if_neg c38] at H
           exact absurd H (by simp)
         ·rw [if_neg c37] at H
          exact absurd H (by simp)
        ·rw [if_neg c36] at H
         have c36b0 : decide ((wrap64 (x13_2 + 1)) < (x5_1.length : Int)) = false := decide_eq_false c36
         clear c36
         replace H := obe H
         obtain ⟨t189, A450, H⟩ := H
         replace H : (some t189) = some r := H
         have A45 := Aside0.mk A450
         clear A450
         obtain rfl := Option.some.inj H
         obtain ⟨Ao46, co46, eo46⟩ := Kd.R_slice HO_5.out
         subst eo46
         obtain ⟨Ao47, co47, eo47⟩ := Kd.R_slice HO_12.out
         subst eo47
         go_wp2_with (first | ((with_reducible refine gate_callee (f := 47) rfl ?_); refine gL (some 116) Tryd.func47 #[.slice Ao47 x12_2.length co47] ?_; (with_reducible refine (plumbref03_Norm.calls k2 _ _ x12_2 t189 _ ?side1 ?side2 A45.out).mono ?_); (case side1 => exact dC (Kd.R_reads' HO_12.out).2.2); (case side2 => exact (Kd.R_reads' HO_12.out).2.1); rintro e w48 ⟨v190, rfl, ho0, hb⟩; refine ⟨_, rfl, ?_⟩; have HO191 := Aside0.mk (Kd.R_lower (Kd.R_new' (Kd.R_new' ho0 (Kd.R_lt (dR HO_5.out))) (Kd.R_lt (dR HO_12.out))) (below_size dB)); replace HO_5 := Aside0.mk (Kd.R_elder' (dR HO_5.out) (Kd.R_base ho0) hb); replace HO_12 := Aside0.mk (Kd.R_elder' (dR HO_12.out) (Kd.R_base ho0) hb); replace HB := Aside0.mk (below_step dB hb); (try clear hb); (try clear ho0)))
         go_ret
         exact ⟨_, by first | rfl | (simp [errW_none, errW_some] <;> rfl) | (simp only [← hji3]; first | rfl | (simp [errW_none, errW_some] <;> rfl)) | (simp [*, errW_none, errW_some] <;> rfl), by (with_reducible repeat (first | apply Kd.R_alloc | apply Kd.R_drewN | apply Kd.R_drew)); exact Kd.R_mono HO191.out (fun _ hk => trivial), dB⟩
  ·rw [if_neg c5] at H
   exact absurd H (by simp)
 ·rw [if_neg c4] at H
  exact absurd H (by simp)

end Go.Proofs.YtoefabmlkbhmpaaDoor.PA
