/- A part of the proof (9). -/
import Derived.Test.YthjleohmlohgbaaDoorYEVE2
import Derived.Test.YthjleohmlohgbaaDoorYEVE8
import Derived.Test.YthjleohmlohgbaaDoorYEVE5
import Derived.Test.YthjleohmlohgbaaDoorYEVE6
import Derived.Test.YthjleohmlohgbaaDoorYEVE3
import Derived.Test.YthjleohmlohgbaaDoorYEVE4
import Derived.Test.YthjleohmlohgbaaDoorYEVE7
namespace Go.Proofs.YthjleohmlohgbaaDoor.PA
open Go.RowKit Go.Proofs.YthjleohmlohgbaaDoorW.PrintWords Go.Proofs.YthjleohmlohgbaaDoorW.PrintLast Go.Proofs.YthjleohmlohgbaaDoorW.PrintMore
attribute [local go_sem] max2_int min2_int max_two min_two max_three min_three max_four min_four
set_option linter.unusedVariables false
set_option linter.unusedSimpArgs false
mutual
def plumbref13_Fixed.j0 : Nat → Int → Int → Bool → Option (ByteArray × Int)
 | 0, _, _, _ => none
 | k + 1, x0, x1, x16 => if x16 = true then (some ((⟨#[]⟩ : ByteArray), 130)) else ((plumbref13_Digits.f k x0).bind fun bt466 => (if bt466.2.2 = 0 then (if (wrap64 ((wrap64 ((bt466.1.size : Int) + bt466.2.1)) + x1)) ≥ 0 then ((plumbref13_rounded.f k bt466.1 (wrap64 ((wrap64 ((bt466.1.size : Int) + bt466.2.1)) + x1))).bind fun t469 => (plumbref13_Fixed.j1 k x0 x1 t469)) else (plumbref13_Fixed.j1 k x0 x1 (⟨#[]⟩ : ByteArray))) else (some ((⟨#[]⟩ : ByteArray), bt466.2.2))))
def plumbref13_Fixed.j1 : Nat → Int → Int → ByteArray → Option (ByteArray × Int)
 | 0, _, _, _ => none
 | k + 1, x0, x1, x10 => if (x10.size : Int) < (wrap64 (x1 + 1)) then ((plumbref13_zeros.f k (wrap64 ((wrap64 (x1 + 1)) - (x10.size : Int)))).bind fun t470 => (if t470.size + x10.size ≤ 9223372036854775807 then (plumbref13_Fixed.j2 k x0 x1 (t470 ++ x10)) else (none))) else (plumbref13_Fixed.j2 k x0 x1 x10)
def plumbref13_Fixed.j2 : Nat → Int → Int → ByteArray → Option (ByteArray × Int)
 | 0, _, _, _ => none
 | k + 1, x0, x1, x10 => plumbref13_Fixed.l0 k x0 x1 x10
def plumbref13_Fixed.j4 : Nat → Int → Int → ByteArray → Option (ByteArray × Int)
 | 0, _, _, _ => none
 | k + 1, x0, x1, x10 => if x1 > 0 then (if 0 ≤ (wrap64 ((x10.size : Int) - x1)) then (if (wrap64 ((x10.size : Int) - x1)) ≤ (x10.size : Int) then (if (x10.extract 0 ((wrap64 ((x10.size : Int) - x1)) : Int).toNat).size + 1 ≤ 9223372036854775807 then (if ((x10.extract 0 ((wrap64 ((x10.size : Int) - x1)) : Int).toNat) ++ (⟨#[46]⟩ : ByteArray)).size + (x10.extract ((wrap64 ((x10.size : Int) - x1)) : Int).toNat x10.size).size ≤ 9223372036854775807 then (if x0 ≥ 9223372036854775808 then (if 1 + (((x10.extract 0 ((wrap64 ((x10.size : Int) - x1)) : Int).toNat) ++ (⟨#[46]⟩ : ByteArray)) ++ (x10.extract ((wrap64 ((x10.size : Int) - x1)) : Int).toNat x10.size)).size ≤ 9223372036854775807 then (some ((⟨#[45]⟩ : ByteArray) ++ (((x10.extract 0 ((wrap64 ((x10.size : Int) - x1)) : Int).toNat) ++ (⟨#[46]⟩ : ByteArray)) ++ (x10.extract ((wrap64 ((x10.size : Int) - x1)) : Int).toNat x10.size)), 0)) else (none)) else (some (((x10.extract 0 ((wrap64 ((x10.size : Int) - x1)) : Int).toNat) ++ (⟨#[46]⟩ : ByteArray)) ++ (x10.extract ((wrap64 ((x10.size : Int) - x1)) : Int).toNat x10.size), 0))) else (none)) else (none)) else (none)) else (none)) else (if x0 ≥ 9223372036854775808 then (if 1 + x10.size ≤ 9223372036854775807 then (some ((⟨#[45]⟩ : ByteArray) ++ x10, 0)) else (none)) else (some (x10, 0)))
def plumbref13_Fixed.l0 : Nat → Int → Int → ByteArray → Option (ByteArray × Int)
 | 0, _, _, _ => none
 | k + 1, x0, x1, x10 => if (x10.size : Int) > (wrap64 (x1 + 1)) then (if 0 < (x10.size : Int) then (if (bt x10 0) = 48 then (if 1 ≤ (x10.size : Int) then (plumbref13_Fixed.l0 k x0 x1 (x10.extract 1 x10.size)) else (none)) else (plumbref13_Fixed.j4 k x0 x1 x10)) else (none)) else (plumbref13_Fixed.j4 k x0 x1 x10)
end
def plumbref13_Fixed.f (k : Nat) (a0 : Int) (a1 : Int) : Option (ByteArray × Int) := if a1 < 0 then (plumbref13_Fixed.j0 k a0 a1 true) else (plumbref13_Fixed.j0 k a0 a1 (decide (a1 > 1100)))
set_option maxHeartbeats 8000000 in
set_option maxRecDepth 100000 in
theorem plumbref13_Fixed.calls (k : Nat) (a0 : Int) (a1 : Int) (r1 : ByteArray) (r2 : Int) (w : World) (h : plumbref13_Fixed.f k a0 a1 = some (r1, r2)) :
  Calls Tryd.prog 7 #[.int .u64 a0, .int .i64 a1] w fun e w' => e = .returned (.tuple #[.string r1, .int .i64 r2]) ∧ Below w.heap.size w w' := by
 have HB := aM (Below.refl w.heap.size w)
 have H := h
 clear h
 unfold plumbref13_Fixed.f at H
 have HC3 := aM H
 clear H
 go_enter Tryd.func7, Tryd.ntmps7
 go_upto_region 1 with (fail)
 repeat (go_quiet (fail); go_upto_region 1 with (fail))
 go_cut [16] (fun v16 wc => ∃ (kq : Nat) (x16_2 : Bool), v16 = .bool x16_2 ∧ Aside0 (plumbref13_Fixed.j0 kq a0 a1 x16_2 = some (r1, r2)) ∧ Aside0 (kq ≤ k) ∧ Aside0 (Below w.heap.size w wc))
 case first =>
  have H := HC3.out
  clear HC3
  by_cases c4 : a1 < 0
  ·rw [if_pos c4] at H
   have c4b0 := decide_eq_true c4
   clear c4
   (first | rw [c4b0] | (simp only [i64_w, i32_w]; rw [c4b0]) | skip)
   have H' := aM H
   clear H
   go_wp2
   repeat (go_quiet (fail); try go_wp2)
   go_meet
   case rel => exact ⟨_, (true), dF, H', ⟨dN⟩, ⟨dB⟩⟩
  ·rw [if_neg c4] at H
   have c4b0 := decide_eq_false c4
   clear c4
   (first | rw [c4b0] | (simp only [i64_w, i32_w]; rw [c4b0]) | skip)
   have H' := aM H
   clear H
   go_wp2
   repeat (go_quiet (fail); try go_wp2)
   go_meet
   case rel => exact ⟨_, (decide (a1 > 1100)), dF, H', ⟨dN⟩, ⟨dB⟩⟩
 case rest =>
  clear HC3
  obtain ⟨kq, x16_2, rfl, HA, HJ2, HB⟩ := hcut
  cases kq with
  | zero => exact absurd HA.out (by simp [plumbref13_Fixed.j0])
  | succ kj2 =>
   have H := HA.out
   clear HA
   simp only [plumbref13_Fixed.j0] at H
   by_cases c5 : x16_2 = true
   ·subst c5
    rw [if_pos rfl] at H
    (try dsimp only at H)
    simp only [Option.some.injEq, Prod.mk.injEq] at H
    obtain ⟨rfl, rfl⟩ := H
    go_wp2
    repeat (go_quiet (fail); try go_wp2)
    go_ret2
    exact ⟨dE, dB⟩
   ·replace c5 := Bool.eq_false_iff.mpr c5
    subst c5
    rw [if_neg (show ¬ (false = true) by decide)] at H
    (try dsimp only at H)
    replace H := oA H
    obtain ⟨⟨t466, t467, t468⟩, A6, H⟩ := H
    (try dsimp only at H)
    by_cases c7 : t468 = 0
    ·rw [if_pos c7] at H
     obtain ⟨c7b0, c7b1⟩ := bT c7
     clear c7
     have HC8 := aM H
     clear H
     go_upto_if 33 with (first | (go_at_call 20; (with_reducible refine (plumbref13_Digits.calls kj2 a0 t466 t467 t468 _ A6.out).mono ?_); rintro e w9 ⟨rfl, hb⟩; replace HB := hS HB.out hb; (try clear hb)))
     repeat (go_quiet (first | (go_at_call 20; (with_reducible refine (plumbref13_Digits.calls kj2 a0 t466 t467 t468 _ A6.out).mono ?_); rintro e w9 ⟨rfl, hb⟩; replace HB := hS HB.out hb; (try clear hb))); go_upto_if 33 with (first | (go_at_call 20; (with_reducible refine (plumbref13_Digits.calls kj2 a0 t466 t467 t468 _ A6.out).mono ?_); rintro e w9 ⟨rfl, hb⟩; replace HB := hS HB.out hb; (try clear hb))))
     (try simp only [Act.put, List.setIfInBounds_toArray, List.set_cons_zero, List.set_cons_succ])
     go_cut [10] (fun v10 wc => ∃ (kq : Nat) (x10_7 : ByteArray), v10 = .string x10_7 ∧ Aside0 (plumbref13_Fixed.j1 kq a0 a1 x10_7 = some (r1, r2)) ∧ Aside0 (kq ≤ kj2) ∧ Aside0 (Below w.heap.size w wc))
     case first =>
      have H := HC8.out
      clear HC8
      by_cases c10 : (wrap64 ((wrap64 ((t466.size : Int) + t467)) + a1)) ≥ 0
      ·rw [if_pos c10] at H
       have c10b0 : decide (0 ≤ (wrap64 ((wrap64 ((t466.size : Int) + t467)) + a1))) = true := decide_eq_true c10
       clear c10
       (first | rw [c10b0] | (simp only [i64_w, i32_w]; rw [c10b0]) | skip)
       replace H := oA H
       obtain ⟨t469, A11, H⟩ := H
       (try dsimp only at H)
       have H' := aM H
       clear H
       iterate 6 (go_wp2_with (first | (go_at_call 21; (with_reducible refine (plumbref13_rounded.calls kj2 t466 (wrap64 ((wrap64 ((t466.size : Int) + t467)) + a1)) t469 _ A11.out).mono ?_); rintro e w12 ⟨rfl, hb⟩; replace HB := hS HB.out hb; (try clear hb))); try go_quiet (fail))
       go_meet
       case rel => exact ⟨_, (t469), dF, H', ⟨by have := HJ2.out; first | omega | exact Nat.le_refl _⟩, ⟨dB⟩⟩
      ·rw [if_neg c10] at H
       have c10b0 : decide (0 ≤ (wrap64 ((wrap64 ((t466.size : Int) + t467)) + a1))) = false := decide_eq_false c10
       clear c10
       (first | rw [c10b0] | (simp only [i64_w, i32_w]; rw [c10b0]) | skip)
       have H' := aM H
       clear H
       go_wp2
       repeat (go_quiet (fail); try go_wp2)
       go_meet
       case rel => exact ⟨_, ((⟨#[]⟩ : ByteArray)), dF, H', ⟨by have := HJ2.out; first | omega | exact Nat.le_refl _⟩, ⟨dB⟩⟩
     case rest =>
      clear HC8
      try clear c5
      try clear c7
      try clear c7b0 c7b1
      obtain ⟨kq, x10_7, rfl, HA, HJ7, HB⟩ := hcut
      cases kq with
      | zero => exact absurd HA.out (by simp [plumbref13_Fixed.j1])
      | succ kj7 =>
       have H := HA.out
       clear HA
       simp only [plumbref13_Fixed.j1] at H
       have HC13 := aM H
       clear H
       go_upto_if 41 with (fail)
       repeat (go_quiet (fail); go_upto_if 41 with (fail))
       go_cut [10] (fun v10 wc => ∃ (kq : Nat) (x10_12 : ByteArray), v10 = .string x10_12 ∧ Aside0 (plumbref13_Fixed.j2 kq a0 a1 x10_12 = some (r1, r2)) ∧ Aside0 (kq ≤ kj7) ∧ Aside0 (Below w.heap.size w wc))
       case first =>
        have H := HC13.out
        clear HC13
        by_cases c14 : (x10_7.size : Int) < (wrap64 (a1 + 1))
        ·rw [if_pos c14] at H
         have c14b0 := decide_eq_true c14
         clear c14
         (first | rw [c14b0] | (simp only [i64_w, i32_w]; rw [c14b0]) | skip)
         replace H := oA H
         obtain ⟨t470, A15, H⟩ := H
         (try dsimp only at H)
         replace H := nO H
         obtain ⟨c16, H⟩ := H
         have c16b0 := eq_true c16
         have c16b1 := decide_eq_true c16
         try have c16b2 : (9223372036854775807 < t470.size + x10_7.size) = False := eq_false (Nat.not_lt.2 c16)
         have H' := aM H
         clear H
         iterate 6 (go_wp2_with (first | (go_at_call 22; (with_reducible refine (plumbref13_zeros.calls kj7 (wrap64 ((wrap64 (a1 + 1)) - (x10_7.size : Int))) t470 _ A15.out).mono ?_); rintro e w17 ⟨rfl, hb⟩; replace HB := hS HB.out hb; (try clear hb))); try go_quiet (fail))
         go_meet
         case rel => exact ⟨_, (t470 ++ x10_7), dF, H', ⟨by have := HJ2.out; have := HJ7.out; first | omega | exact Nat.le_refl _⟩, ⟨dB⟩⟩
        ·rw [if_neg c14] at H
         have c14b0 := decide_eq_false c14
         clear c14
         (first | rw [c14b0] | (simp only [i64_w, i32_w]; rw [c14b0]) | skip)
         have H' := aM H
         clear H
         go_wp2
         repeat (go_quiet (fail); try go_wp2)
         go_meet
         case rel => exact ⟨_, (x10_7), dF, H', ⟨by have := HJ2.out; have := HJ7.out; first | omega | exact Nat.le_refl _⟩, ⟨dB⟩⟩
       case rest =>
        clear HC13
        try clear c5
        try clear c7
        try clear c7b0 c7b1
        obtain ⟨kq, x10_12, rfl, HA, HJ12, HB⟩ := hcut
        cases kq with
        | zero => exact absurd HA.out (by simp [plumbref13_Fixed.j2])
        | succ kj12 =>
         have H := HA.out
         clear HA
         simp only [plumbref13_Fixed.j2] at H
         have HC18 := aM H
         clear H
         go_upto_block 0 with (fail)
         repeat (go_quiet (fail); go_upto_block 0 with (fail))
         go_cut [10] (fun v10 wc => ∃ (kq : Nat) (x10_17 : ByteArray), v10 = .string x10_17 ∧ Aside0 (plumbref13_Fixed.j4 kq a0 a1 x10_17 = some (r1, r2)) ∧ Aside0 (kq ≤ kj12) ∧ Aside0 (Below w.heap.size w wc))
         case first =>
          have H := HC18.out
          clear HC18
          have H' := aM H
          clear H
          go_wp2
          repeat (go_quiet (fail); try go_wp2)
          go_loopg [10] kj12 (fun kq v10 w' => ∃ (x10_4 : ByteArray), v10 = .string x10_4 ∧ Aside0 (plumbref13_Fixed.l0 kq a0 a1 x10_4 = some (r1, r2)) ∧ Aside0 (kq ≤ kj12) ∧ Aside0 (Below w.heap.size w w'))
          case atStart => exact ⟨(x10_12), dF, H', ⟨Nat.le_refl _⟩, ⟨dB⟩⟩
          case round =>
           clear H'
           try clear c5
           try clear c7
           try clear c7b0 c7b1
           obtain ⟨x10_4, rfl, HA, HK4, HB⟩ := hrel
           cases gk with
           | zero => exact absurd HA.out (by simp [plumbref13_Fixed.l0])
           | succ k4 =>
            have H := HA.out
            clear HA
            simp only [plumbref13_Fixed.l0] at H
            by_cases c19 : (x10_4.size : Int) > (wrap64 (a1 + 1))
            ·rw [if_pos c19] at H
             have c19b0 : decide ((wrap64 (a1 + 1)) < (x10_4.size : Int)) = true := decide_eq_true c19
             clear c19
             (first | rw [c19b0] | (simp only [i64_w, i32_w]; rw [c19b0]) | skip)
             replace H := nO H
             obtain ⟨c20, H⟩ := H
             have c20b0 : decide (0 < (x10_4.size : Int)) = true := decide_eq_true c20
             have c20b1 : decide (0 < x10_4.size) = true := decide_eq_true (by omega)
             clear c20
             by_cases c22 : (bt x10_4 0) = 48
             ·rw [if_pos c22] at H
              obtain ⟨c22b0, c22b1⟩ := bT c22
              clear c22
              replace H := nO H
              obtain ⟨c23, H⟩ := H
              have c23b0 := eq_true c23
              have c23b1 : decide (1 ≤ (x10_4.size : Int)) = true := decide_eq_true c23
              clear c23
              have H' := aM H
              clear H
              have p21 : 0 ≤ (0 : Int) := (by omega)
              have q21 : 0 < x10_4.size := (by have : (0 : Int) < (x10_4.size : Int) := of_decide_eq_true dS; omega)
              have hx21 : ∀ h : 0 < x10_4.size, ((x10_4[0]'h).toNat : Int) = bt x10_4 0 := bt_at x10_4 0
              clear p21
              have qi21 : (0 < (x10_4.size : Int)) = True := eq_true (of_decide_eq_true dS)
              replace q21 := eq_true q21
              go_wp2
              repeat (go_quiet (fail); try go_wp2)
              go_roundg k4
              case measure => have := HJ2.out; have := HJ7.out; have := HJ12.out; have := HK4.out; omega
              case rel => exact ⟨(x10_4.extract 1 x10_4.size), dF, H', ⟨by have := HJ2.out; have := HJ7.out; have := HJ12.out; have := HK4.out; omega⟩, ⟨dB⟩⟩
             ·rw [if_neg c22] at H
              obtain ⟨c22b0, c22b1⟩ := bF c22
              have H' := aM H
              clear H
              have p21 : 0 ≤ (0 : Int) := (by omega)
              have q21 : 0 < x10_4.size := (by have : (0 : Int) < (x10_4.size : Int) := of_decide_eq_true dS; omega)
              have hx21 : ∀ h : 0 < x10_4.size, ((x10_4[0]'h).toNat : Int) = bt x10_4 0 := bt_at x10_4 0
              clear p21
              have qi21 : (0 < (x10_4.size : Int)) = True := eq_true (of_decide_eq_true dS)
              replace q21 := eq_true q21
              go_wp2
              repeat (go_quiet (fail); try go_wp2)
              go_meet
              case rel => exact ⟨_, (x10_4), dF, H', ⟨by have := HJ2.out; have := HJ7.out; have := HJ12.out; have := HK4.out; first | omega | exact Nat.le_refl _⟩, ⟨dB⟩⟩
            ·rw [if_neg c19] at H
             have c19b0 : decide ((wrap64 (a1 + 1)) < (x10_4.size : Int)) = false := decide_eq_false c19
             clear c19
             (first | rw [c19b0] | (simp only [i64_w, i32_w]; rw [c19b0]) | skip)
             have H' := aM H
             clear H
             go_wp2
             repeat (go_quiet (fail); try go_wp2)
             go_meet
             case rel => exact ⟨_, (x10_4), dF, H', ⟨by have := HJ2.out; have := HJ7.out; have := HJ12.out; have := HK4.out; first | omega | exact Nat.le_refl _⟩, ⟨dB⟩⟩
         case rest =>
          clear HC18
          try clear c5
          try clear c7
          try clear c7b0 c7b1
          obtain ⟨kq, x10_17, rfl, HA, HJ17, HB⟩ := hcut
          cases kq with
          | zero => exact absurd HA.out (by simp [plumbref13_Fixed.j4])
          | succ kj17 =>
           have H := HA.out
           clear HA
           simp only [plumbref13_Fixed.j4] at H
           by_cases c24 : a1 > 0
           ·rw [if_pos c24] at H
            have c24b0 : decide (0 < a1) = true := decide_eq_true c24
            clear c24
            obtain ⟨ji25, hji25⟩ : ∃ j_ : Int, (wrap64 ((x10_17.size : Int) - a1)) = j_ := ⟨_, rfl⟩
            first | rw [hji25] at H | simp only [hji25] at H
            have hji25w : (IntKind.i64.wrap ((x10_17.size : Int) - a1)) = ji25 := (i64_w _).trans hji25
            replace H := nO H
            obtain ⟨c26, H⟩ := H
            have c26b0 := eq_true c26
            have c26b1 : decide (0 ≤ (ji25)) = true := decide_eq_true c26
            clear c26
            replace H := nO H
            obtain ⟨c27, H⟩ := H
            have c27b0 := eq_true c27
            have c27b1 := decide_eq_true c27
            clear c27
            replace H := nO H
            obtain ⟨c28, H⟩ := H
            have c28b0 := eq_true c28
            have c28n_ : (9223372036854775807 < ji25.toNat + 1) = False := eq_false (by have e1_ := of_eq_true c28b0; (try simp only [ByteArray.size_append, ByteArray.size_extract] at e1_); have e3_ : (⟨#[46]⟩ : ByteArray).size = 1 := rfl; have e4_ := of_eq_true c27b0; omega)
            have c28b1 := decide_eq_true c28
            try have c28b2 : (9223372036854775807 < (x10_17.extract 0 ((ji25) : Int).toNat).size + 1) = False := eq_false (Nat.not_lt.2 c28)
            have c29b0 := eq_true (of_decide_eq_true dS : 0 ≤ (ji25))
            have c30b0 := eq_true (of_decide_eq_true dS : (ji25) ≤ (x10_17.size : Int))
            replace H := nO H
            obtain ⟨c31, H⟩ := H
            have c31b0 := eq_true c31
            have c31n_ : (9223372036854775807 < ji25.toNat + 1 + (x10_17.size - ji25.toNat)) = False := eq_false (by have e1_ := of_eq_true c31b0; (try simp only [ByteArray.size_append, ByteArray.size_extract] at e1_); have e3_ : (⟨#[46]⟩ : ByteArray).size = 1 := rfl; have e4_ := of_eq_true c27b0; omega)
            have c31b1 := decide_eq_true c31
            try have c31b2 : (9223372036854775807 < ((x10_17.extract 0 ((ji25) : Int).toNat) ++ (⟨#[46]⟩ : ByteArray)).size + (x10_17.extract ((ji25) : Int).toNat x10_17.size).size) = False := eq_false (Nat.not_lt.2 c31)
            by_cases c32 : a0 ≥ 9223372036854775808
            ·rw [if_pos c32] at H
             have c32b0 : decide (9223372036854775808 ≤ a0) = true := decide_eq_true c32
             clear c32
             replace H := nO H
             obtain ⟨c33, H⟩ := H
             have c33b0 := eq_true c33
             have c33n_ : (9223372036854775807 < 1 + (ji25.toNat + 1 + (x10_17.size - ji25.toNat))) = False := eq_false (by have e1_ := of_eq_true c33b0; (try simp only [ByteArray.size_append, ByteArray.size_extract] at e1_); have e3_ : (⟨#[46]⟩ : ByteArray).size = 1 := rfl; have e4_ := of_eq_true c27b0; omega)
             have c33b1 := decide_eq_true c33
             try have c33b2 : (9223372036854775807 < 1 + (((x10_17.extract 0 ((ji25) : Int).toNat) ++ (⟨#[46]⟩ : ByteArray)) ++ (x10_17.extract ((ji25) : Int).toNat x10_17.size)).size) = False := eq_false (Nat.not_lt.2 c33)
             simp only [Option.some.injEq, Prod.mk.injEq] at H
             obtain ⟨rfl, rfl⟩ := H
             go_wp2
             repeat (go_quiet (fail); try go_wp2)
             go_ret2
             exact ⟨by first | rfl | (simp [errW_none, errW_some] <;> rfl) | (simp only [← hji25]; first | rfl | (simp [errW_none, errW_some] <;> rfl)) | (simp [*, errW_none, errW_some] <;> rfl), dB⟩
            ·rw [if_neg c32] at H
             have c32b0 : decide (9223372036854775808 ≤ a0) = false := decide_eq_false c32
             clear c32
             simp only [Option.some.injEq, Prod.mk.injEq] at H
             obtain ⟨rfl, rfl⟩ := H
             go_wp2
             repeat (go_quiet (fail); try go_wp2)
             go_ret2
             exact ⟨by first | rfl | (simp [errW_none, errW_some] <;> rfl) | (simp only [← hji25]; first | rfl | (simp [errW_none, errW_some] <;> rfl)) | (simp [*, errW_none, errW_some] <;> rfl), dB⟩
           ·rw [if_neg c24] at H
            have c24b0 : decide (0 < a1) = false := decide_eq_false c24
            clear c24
            by_cases c34 : a0 ≥ 9223372036854775808
            ·rw [if_pos c34] at H
             have c34b0 : decide (9223372036854775808 ≤ a0) = true := decide_eq_true c34
             clear c34
             replace H := nO H
             obtain ⟨c35, H⟩ := H
             have c35b0 := eq_true c35
             have c35b1 := decide_eq_true c35
             try have c35b2 : (9223372036854775807 < 1 + x10_17.size) = False := eq_false (Nat.not_lt.2 c35)
             simp only [Option.some.injEq, Prod.mk.injEq] at H
             obtain ⟨rfl, rfl⟩ := H
             go_wp2
             repeat (go_quiet (fail); try go_wp2)
             go_ret2
             exact ⟨dE, dB⟩
            ·rw [if_neg c34] at H
             have c34b0 : decide (9223372036854775808 ≤ a0) = false := decide_eq_false c34
             clear c34
             simp only [Option.some.injEq, Prod.mk.injEq] at H
             obtain ⟨rfl, rfl⟩ := H
             go_wp2
             repeat (go_quiet (fail); try go_wp2)
             go_ret2
             exact ⟨dE, dB⟩
    ·rw [if_neg c7] at H
     obtain ⟨c7b0, c7b1⟩ := bF c7
     simp only [Option.some.injEq, Prod.mk.injEq] at H
     obtain ⟨rfl, rfl⟩ := H
     iterate 6 (go_wp2_with (first | (go_at_call 20; (with_reducible refine (plumbref13_Digits.calls kj2 a0 t466 t467 t468 _ A6.out).mono ?_); rintro e w36 ⟨rfl, hb⟩; replace HB := hS HB.out hb; (try clear hb))); try go_quiet (fail))
     go_ret2
     exact ⟨dE, dB⟩
def expand_Precise.j0 : Nat → Int → Int → Bool → Option (ByteArray × Int × Int)
 | 0, _, _, _ => none
 | k + 1, x0, x1, x17 => if x17 = true then (some ((⟨#[]⟩ : ByteArray), 0, 130)) else ((expand_all.f k x0).bind fun bt471 => (if bt471.2.2 = 0 then (if (bt471.1.length : Int) = 0 then ((bytes_Repeat.f (([48] : List Int)) x1).bind fun t479 => (some (strOfNums t479, 0, 0))) else ((expand_cut.f k bt471.1 x1).bind fun t482 => (if (t482.length : Int) > x1 then (if 0 ≤ x1 then (if x1 ≤ (t482.length : Int) then (some (strOfNums (t482.take (x1 : Int).toNat), wrap64 ((wrap64 ((wrap64 (bt471.2.1 + (bt471.1.length : Int))) - x1)) + 1), 0)) else (none)) else (none)) else (some (strOfNums t482, wrap64 ((wrap64 (bt471.2.1 + (bt471.1.length : Int))) - x1), 0))))) else (some ((⟨#[]⟩ : ByteArray), 0, bt471.2.2))))
def expand_Precise.f (k : Nat) (a0 : Int) (a1 : Int) : Option (ByteArray × Int × Int) := if a1 < 1 then (expand_Precise.j0 k a0 a1 true) else (expand_Precise.j0 k a0 a1 (decide (a1 > 1100)))
theorem expand_Precise.mono_l : ∀ k, (∀ y0 y1 y2, LeO (expand_Precise.j0 k y0 y1 y2) (expand_Precise.j0 (k + 1) y0 y1 y2))
 | 0 => fun _ _ _ r h => by simp [expand_Precise.j0] at h
 | k + 1 => by
  have ih0 := expand_Precise.mono_l k
  ·intro y0 y1 y2
   unfold expand_Precise.j0
   have m0_ := expand_all.mono
   have m1_ := expand_cut.mono
   exact mX
theorem expand_Precise.mono : ∀ a0 a1 k, LeO (expand_Precise.f k a0 a1) (expand_Precise.f (k + 1) a0 a1) := by
 intro a0 a1 k
 have ih0 := expand_Precise.mono_l k
 unfold expand_Precise.f
 have m0_ := expand_all.mono
 have m1_ := expand_cut.mono
 exact mX
set_option maxHeartbeats 8000000 in
set_option maxRecDepth 100000 in
theorem expand_Precise.calls (k : Nat) (a0 : Int) (a1 : Int) (r1 : ByteArray) (r2 : Int) (r3 : Int) (w : World) (h : expand_Precise.f k a0 a1 = some (r1, r2, r3)) :
  Calls Tryd.prog 9 #[.int .u64 a0, .int .i64 a1] w fun e w' => e = .returned (.tuple #[.string r1, .int .i64 r2, .int .i64 r3]) ∧ Below w.heap.size w w' := by
 have HB := aM (Below.refl w.heap.size w)
 have H := h
 clear h
 unfold expand_Precise.f at H
 have HC3 := aM H
 clear H
 go_enter Tryd.func9, Tryd.ntmps9
 go_upto_region 1 with (fail)
 go_cut [17] (fun v17 wc => ∃ (kq : Nat) (x17_2 : Bool), v17 = .bool x17_2 ∧ Aside0 (expand_Precise.j0 kq a0 a1 x17_2 = some (r1, r2, r3)) ∧ Aside0 (kq ≤ k) ∧ Aside0 (Below w.heap.size w wc))
 case first =>
  have H := HC3.out
  clear HC3
  by_cases c4 : a1 < 1
  ·rw [if_pos c4] at H
   have c4b0 := decide_eq_true c4
   clear c4
   (first | rw [c4b0] | (simp only [i64_w, i32_w]; rw [c4b0]) | skip)
   have H' := aM H
   clear H
   go_wp2
   go_meet
   case rel => exact ⟨_, (true), dF, H', ⟨dN⟩, ⟨dB⟩⟩
  ·rw [if_neg c4] at H
   have c4b0 := decide_eq_false c4
   clear c4
   (first | rw [c4b0] | (simp only [i64_w, i32_w]; rw [c4b0]) | skip)
   have H' := aM H
   clear H
   go_wp2
   go_meet
   case rel => exact ⟨_, (decide (a1 > 1100)), dF, H', ⟨dN⟩, ⟨dB⟩⟩
 case rest =>
  clear HC3
  obtain ⟨kq, x17_2, rfl, HA, HJ2, HB⟩ := hcut
  cases kq with
  | zero => exact absurd HA.out (by simp [expand_Precise.j0])
  | succ kj2 =>
   have H := HA.out
   clear HA
   simp only [expand_Precise.j0] at H
   by_cases c5 : x17_2 = true
   ·subst c5
    rw [if_pos rfl] at H
    (try dsimp only at H)
    simp only [Option.some.injEq, Prod.mk.injEq] at H
    obtain ⟨rfl, rfl, rfl⟩ := H
    go_wp2
    go_ret3
    exact ⟨dE, dB⟩
   ·replace c5 := Bool.eq_false_iff.mpr c5
    subst c5
    rw [if_neg (show ¬ (false = true) by decide)] at H
    (try dsimp only at H)
    replace H := oA H
    obtain ⟨⟨t471, t472, t473⟩, A6, H⟩ := H
    (try dsimp only at H)
    by_cases c7 : t473 = 0
    ·rw [if_pos c7] at H
     obtain ⟨c7b0, c7b1⟩ := bT c7
     clear c7
     by_cases c8 : (t471.length : Int) = 0
     ·rw [if_pos c8] at H
      obtain ⟨c8b0, c8b1⟩ := bT c8
      clear c8
      obtain ⟨y476, hy476⟩ : ∃ y_ : List Int, y_ = (([48] : List Int)) := ⟨_, rfl⟩
      replace H : ((bytes_Repeat.f y476 a1).bind fun t479 => (some (strOfNums t479, 0, 0))) = some (r1, r2, r3) := by first | (rw [hy476]; with_reducible exact H) | (have H2_ := (Option.bind_some _ _).symm.trans H; rw [hy476]; with_reducible exact H2_) | (have H2_ := (Option.bind_some _ _).symm.trans H; with_reducible exact H2_) | with_reducible exact H | (rw [hy476]; exact H) | exact H
      have Ny476 := aM hy476
      clear hy476
      replace H := oA H
      obtain ⟨t479, A9, H⟩ := H
      (try dsimp only at H)
      simp only [Option.some.injEq, Prod.mk.injEq] at H
      obtain ⟨rfl, rfl, rfl⟩ := H
      go_wp2_with (first | ((with_reducible refine gate_callee (f := 16) rfl ?_); refine gL (some 20) Tryd.func16 #[.int .u64 a0] ?_; (with_reducible refine (expand_all.calls kj2 a0 t471 t472 t473 _ A6.out).mono ?_); rintro e w10 ⟨v474, rfl, ho0, hb⟩; refine ⟨_, rfl, ?_⟩; have HO475 := aM (Kd.R_lower ho0 (below_size dB)); replace HB := hS HB.out hb; (try clear hb); (try clear ho0); obtain ⟨Ao11, co11, rfl⟩ := Kd.R_slice HO475.out) | ((with_reducible refine gate_dst (N := 30) rfl ?_); refine Kd.R_lit (Kd.int .u8) _ 5 ?hg (N := 30) ?hd (xs := ([48] : List Int)) (inner := [.int .u8 48]) (ok := fun _ => True) (okp := fun _ => True) ?hr ?hp (fun _ hk => hk) trivial (Below.refl _ _) (Nat.le_refl _) (by simp) ?_; (case hd => rfl); (case hg => rfl); (case hr => first | (go_simp; done) | (go_simp; rfl)); (case hp => exact (Reps.one (show Kd.M (Kd.int .u8) _ _ _ 48 [.int .u8 48] from rfl) (Reps.none _ _))); intro v477 w12 ho13 hb hg_ hnew_; clear hg_ hnew_; (first | rw [← Ny476.out] at ho13 | (simp only [Int.reduceToNat] at ho13; rw [← Ny476.out] at ho13)); have HO478 := aM (Kd.R_lower (nW ho13 HO475.out) (below_size dB)); replace HO475 := oE HO475.out ho13 hb; replace HB := hS HB.out hb; clear hb ho13; obtain ⟨Ao14, co14, rfl⟩ := Kd.R_slice HO478.out) | ((with_reducible refine gate_callee (f := 18) rfl ?_); refine gL (some 32) Tryd.func18 #[.slice Ao14 y476.length co14, .int .i64 a1] ?_; (with_reducible refine (bytes_Repeat.calls _ _ y476 a1 t479 _ ?side1 (Kd.R_reads' HO478.out).2.1 A9.out).mono ?_); (case side1 => exact dC (Kd.R_reads' HO478.out).2.2); rintro e w15 ⟨v480, rfl, ho0, hb⟩; refine ⟨_, rfl, ?_⟩; have HO481 := aM (Kd.R_lower (nW (nW ho0 HO475.out) HO478.out) (below_size dB)); replace HO475 := oE HO475.out ho0 hb; replace HO478 := oE HO478.out ho0 hb; replace HB := hS HB.out hb; (try clear hb); (try clear ho0); have hcv16 := own_string (P := Tryd.prog) Tryd.underlying45 Tryd.underlying5 Tryd.underlying9 (Kd.own_of_R HO481.out)))
      go_ret3
      exact ⟨dE, dB⟩
     ·rw [if_neg c8] at H
      obtain ⟨c8b0, c8b1⟩ := bF c8
      have c8b2 : ¬ (t471 = []) := fun h_ => c8 (by rw [h_]; rfl)
      replace H := oA H
      obtain ⟨t482, A17, H⟩ := H
      (try dsimp only at H)
      by_cases c18 : (t482.length : Int) > a1
      ·rw [if_pos c18] at H
       have c18b0 : decide (a1 < (t482.length : Int)) = true := decide_eq_true c18
       clear c18
       replace H := nO H
       obtain ⟨c19, H⟩ := H
       have c19b0 := eq_true c19
       have c19b1 : decide (0 ≤ a1) = true := decide_eq_true c19
       clear c19
       replace H := nO H
       obtain ⟨c20, H⟩ := H
       have c20b0 := eq_true c20
       have c20b1 := decide_eq_true c20
       clear c20
       obtain ⟨y485, hy485⟩ : ∃ y_ : List Int, y_ = (t482.take (a1 : Int).toNat) := ⟨_, rfl⟩
       replace H : (some (strOfNums y485, wrap64 ((wrap64 ((wrap64 (t472 + (t471.length : Int))) - a1)) + 1), 0)) = some (r1, r2, r3) := by first | (rw [hy485]; with_reducible exact H) | (have H2_ := (Option.bind_some _ _).symm.trans H; rw [hy485]; with_reducible exact H2_) | (have H2_ := (Option.bind_some _ _).symm.trans H; with_reducible exact H2_) | with_reducible exact H | (rw [hy485]; exact H) | exact H
       have Ny485 := aM hy485
       clear hy485
       simp only [Option.some.injEq, Prod.mk.injEq] at H
       obtain ⟨rfl, rfl, rfl⟩ := H
       go_wp2_with (first | ((with_reducible refine gate_callee (f := 16) rfl ?_); refine gL (some 20) Tryd.func16 #[.int .u64 a0] ?_; (with_reducible refine (expand_all.calls kj2 a0 t471 t472 t473 _ A6.out).mono ?_); rintro e w21 ⟨v474, rfl, ho0, hb⟩; refine ⟨_, rfl, ?_⟩; have HO475 := aM (Kd.R_lower ho0 (below_size dB)); replace HB := hS HB.out hb; (try clear hb); (try clear ho0); obtain ⟨Ao22, co22, rfl⟩ := Kd.R_slice HO475.out) | ((with_reducible refine gate_callee (f := 17) rfl ?_); refine gL (some 42) Tryd.func17 #[.slice Ao22 t471.length co22, .int .i64 a1] ?_; (with_reducible refine (expand_cut.calls kj2 _ _ t471 a1 t482 _ ?side1 (Kd.R_reads' HO475.out).2.1 A17.out).mono ?_); (case side1 => exact dC (Kd.R_reads' HO475.out).2.2); rintro e w23 ⟨v483, rfl, ho0, hb⟩; refine ⟨_, rfl, ?_⟩; have HO484 := aM (Kd.Q_lower (Kd.Q_new' ho0 (Kd.R_lt (dR HO475.out))) (below_size dB)); replace HO475 := aM (Kd.R_elder' (dR HO475.out) (Kd.Q_base ho0) hb); replace HB := hS HB.out hb; (try clear hb); (try clear ho0); obtain ⟨Ao24, co24, eo24, _⟩ := Kd.Q_slice HO484.out; subst eo24; have q25 : (a1 : Int) ≤ ((t482.length : Int) : Int) := of_decide_eq_true dS; obtain ⟨i025, hi025, _, hsz25, _⟩ := info_parts info5; have hroom25 : t482.length ≤ co24 := (Kd.Q_reads' HO484.out).2.1; have hC25 : Kd.C (Kd.int .u8) _ Ao24 t482.length t482 := (Kd.Q_reads' HO484.out).2.2; have hcut25 := cut_to (P := Tryd.prog) 45 5 .i64 Tryd.underlying45 hi025 Ao24 t482.length co24 a1 (of_decide_eq_true dS) q25 hroom25; have hr25 := Kd.C_take (m := (a1 : Int).toNat) hC25 (by omega); have hy25 : y485.length = (a1 : Int).toNat := (by rw [Ny485.out, List.length_take]; omega); rw [← Ny485.out] at hr25; rw [← hy25] at hcut25; have HR488 := aM hr25; have HC488 := aM (show y485.length ≤ co24 from by omega); clear hr25 hC25 hroom25 hi025 hsz25; have KY25 := aM hy25; clear hy25; have KL25 := aM (show (a1 : Int).toNat ≤ t482.length from by omega); replace q25 := eq_true q25; have hcv26 := Kd.C_string (P := Tryd.prog) (A := Ao24) (c := co24) Tryd.underlying45 Tryd.underlying5 Tryd.underlying9 (by repeat (first | (with_reducible exact HR488.out) | (with_reducible refine Kd.C_alloc ?_ _) | (with_reducible refine Kd.C_drewN ?_ _) | (with_reducible refine Kd.C_drew ?_) | exact HR488.out))))
       go_ret3
       exact ⟨dE, dB⟩
      ·rw [if_neg c18] at H
       have c18b0 : decide (a1 < (t482.length : Int)) = false := decide_eq_false c18
       clear c18
       simp only [Option.some.injEq, Prod.mk.injEq] at H
       obtain ⟨rfl, rfl, rfl⟩ := H
       go_wp2_with (first | ((with_reducible refine gate_callee (f := 16) rfl ?_); refine gL (some 20) Tryd.func16 #[.int .u64 a0] ?_; (with_reducible refine (expand_all.calls kj2 a0 t471 t472 t473 _ A6.out).mono ?_); rintro e w27 ⟨v474, rfl, ho0, hb⟩; refine ⟨_, rfl, ?_⟩; have HO475 := aM (Kd.R_lower ho0 (below_size dB)); replace HB := hS HB.out hb; (try clear hb); (try clear ho0); obtain ⟨Ao28, co28, rfl⟩ := Kd.R_slice HO475.out) | ((with_reducible refine gate_callee (f := 17) rfl ?_); refine gL (some 42) Tryd.func17 #[.slice Ao28 t471.length co28, .int .i64 a1] ?_; (with_reducible refine (expand_cut.calls kj2 _ _ t471 a1 t482 _ ?side1 (Kd.R_reads' HO475.out).2.1 A17.out).mono ?_); (case side1 => exact dC (Kd.R_reads' HO475.out).2.2); rintro e w29 ⟨v483, rfl, ho0, hb⟩; refine ⟨_, rfl, ?_⟩; have HO484 := aM (Kd.Q_lower (Kd.Q_new' ho0 (Kd.R_lt (dR HO475.out))) (below_size dB)); replace HO475 := aM (Kd.R_elder' (dR HO475.out) (Kd.Q_base ho0) hb); replace HB := hS HB.out hb; (try clear hb); (try clear ho0); obtain ⟨Ao30, co30, eo30, _⟩ := Kd.Q_slice HO484.out; subst eo30; have hcv31 := Kd.C_string (P := Tryd.prog) (A := Ao30) (c := co30) Tryd.underlying45 Tryd.underlying5 Tryd.underlying9 (Kd.Q_reads' HO484.out).2.2))
       go_ret3
       exact ⟨dE, dB⟩
    ·rw [if_neg c7] at H
     obtain ⟨c7b0, c7b1⟩ := bF c7
     simp only [Option.some.injEq, Prod.mk.injEq] at H
     obtain ⟨rfl, rfl, rfl⟩ := H
     go_wp2_with (first | ((with_reducible refine gate_callee (f := 16) rfl ?_); refine gL (some 20) Tryd.func16 #[.int .u64 a0] ?_; (with_reducible refine (expand_all.calls kj2 a0 t471 t472 t473 _ A6.out).mono ?_); rintro e w32 ⟨v474, rfl, ho0, hb⟩; refine ⟨_, rfl, ?_⟩; have HO475 := aM (Kd.R_lower ho0 (below_size dB)); replace HB := hS HB.out hb; (try clear hb); (try clear ho0)))
     go_ret3
     exact ⟨dE, dB⟩
def expand_Digits.f (k : Nat) (a0 : Int) : Option (ByteArray × Int × Int) := (expand_all.f k a0).bind fun bt489 => (if bt489.2.2 = 0 then (if (bt489.1.length : Int) = 0 then (some ((⟨#[48]⟩ : ByteArray), 0, 0)) else (some (strOfNums bt489.1, bt489.2.1, 0))) else (some ((⟨#[]⟩ : ByteArray), 0, bt489.2.2)))
theorem expand_Digits.mono : ∀ a0 k, LeO (expand_Digits.f k a0) (expand_Digits.f (k + 1) a0) := by
 intro a0 k
 unfold expand_Digits.f
 have m0_ := expand_all.mono
 exact mX
set_option maxHeartbeats 8000000 in
set_option maxRecDepth 100000 in
theorem expand_Digits.calls (k : Nat) (a0 : Int) (r1 : ByteArray) (r2 : Int) (r3 : Int) (w : World) (h : expand_Digits.f k a0 = some (r1, r2, r3)) :
  Calls Tryd.prog 23 #[.int .u64 a0] w fun e w' => e = .returned (.tuple #[.string r1, .int .i64 r2, .int .i64 r3]) ∧ Below w.heap.size w w' := by
 have HB := aM (Below.refl w.heap.size w)
 have H := h
 clear h
 unfold expand_Digits.f at H
 replace H := oA H
 obtain ⟨⟨t489, t490, t491⟩, A2, H⟩ := H
 (try dsimp only at H)
 by_cases c3 : t491 = 0
 ·rw [if_pos c3] at H
  obtain ⟨c3b0, c3b1⟩ := bT c3
  clear c3
  by_cases c4 : (t489.length : Int) = 0
  ·rw [if_pos c4] at H
   obtain ⟨c4b0, c4b1⟩ := bT c4
   clear c4
   simp only [Option.some.injEq, Prod.mk.injEq] at H
   obtain ⟨rfl, rfl, rfl⟩ := H
   go_enter Tryd.func23, Tryd.ntmps23
   go_wp2_with (first | ((with_reducible refine gate_callee (f := 16) rfl ?_); refine gL (some 10) Tryd.func16 #[.int .u64 a0] ?_; (with_reducible refine (expand_all.calls k a0 t489 t490 t491 _ A2.out).mono ?_); rintro e w5 ⟨v492, rfl, ho0, hb⟩; refine ⟨_, rfl, ?_⟩; have HO493 := aM (Kd.R_lower ho0 (below_size dB)); replace HB := hS HB.out hb; (try clear hb); (try clear ho0); obtain ⟨Ao6, co6, rfl⟩ := Kd.R_slice HO493.out))
   go_ret3
   exact ⟨dE, dB⟩
  ·rw [if_neg c4] at H
   obtain ⟨c4b0, c4b1⟩ := bF c4
   have c4b2 : ¬ (t489 = []) := fun h_ => c4 (by rw [h_]; rfl)
   simp only [Option.some.injEq, Prod.mk.injEq] at H
   obtain ⟨rfl, rfl, rfl⟩ := H
   go_enter Tryd.func23, Tryd.ntmps23
   go_wp2_with (first | ((with_reducible refine gate_callee (f := 16) rfl ?_); refine gL (some 10) Tryd.func16 #[.int .u64 a0] ?_; (with_reducible refine (expand_all.calls k a0 t489 t490 t491 _ A2.out).mono ?_); rintro e w7 ⟨v492, rfl, ho0, hb⟩; refine ⟨_, rfl, ?_⟩; have HO493 := aM (Kd.R_lower ho0 (below_size dB)); replace HB := hS HB.out hb; (try clear hb); (try clear ho0); obtain ⟨Ao8, co8, rfl⟩ := Kd.R_slice HO493.out; have hcv9 := own_string (P := Tryd.prog) Tryd.underlying45 Tryd.underlying5 Tryd.underlying9 (Kd.own_of_R HO493.out)))
   go_ret3
   exact ⟨dE, dB⟩
 ·rw [if_neg c3] at H
  obtain ⟨c3b0, c3b1⟩ := bF c3
  simp only [Option.some.injEq, Prod.mk.injEq] at H
  obtain ⟨rfl, rfl, rfl⟩ := H
  go_enter Tryd.func23, Tryd.ntmps23
  go_wp2_with (first | ((with_reducible refine gate_callee (f := 16) rfl ?_); refine gL (some 10) Tryd.func16 #[.int .u64 a0] ?_; (with_reducible refine (expand_all.calls k a0 t489 t490 t491 _ A2.out).mono ?_); rintro e w10 ⟨v492, rfl, ho0, hb⟩; refine ⟨_, rfl, ?_⟩; have HO493 := aM (Kd.R_lower ho0 (below_size dB)); replace HB := hS HB.out hb; (try clear hb); (try clear ho0)))
  go_ret3
  exact ⟨dE, dB⟩
def plumblaw13_alive.f (k : Nat)  : Option (Bool) := (expand_Digits.f k 4609434218613702656).bind fun bt494 => ((expand_Fixed.f k 4591870180066957722 20).bind fun bt497 => ((expand_Precise.f k 4652002910794678272 3).bind fun bt499 => (if bt494.1.toList = ([49, 53] : List UInt8) then (if bt494.2.1 = (-1) then (if bt494.2.2 = 0 then (if bt497.1.toList = ([48, 46, 49, 48, 48, 48, 48, 48, 48, 48, 48, 48, 48, 48, 48, 48, 48, 48, 48, 53, 53, 53] : List UInt8) then (if bt497.2 = 0 then (if bt499.1.toList = ([49, 48, 48] : List UInt8) then (if bt499.2.1 = 1 then (some (bt499.2.2 == 0)) else (some false)) else (some false)) else (some false)) else (some false)) else (some false)) else (some false)) else (some false))))
theorem plumblaw13_alive.mono : ∀ k, LeO (plumblaw13_alive.f k ) (plumblaw13_alive.f (k + 1) ) := by
 intro  k
 unfold plumblaw13_alive.f
 have m0_ := expand_Digits.mono
 have m1_ := expand_Fixed.mono
 have m2_ := expand_Precise.mono
 exact mX
set_option maxHeartbeats 8000000 in
set_option maxRecDepth 100000 in
theorem plumblaw13_alive.calls (k : Nat)  (r : Bool) (w : World) (h : plumblaw13_alive.f k  = some r) :
  Calls Tryd.prog 8 #[] w fun e w' => e = .returned (.bool r) ∧ Below w.heap.size w w' := by
 have HB := aM (Below.refl w.heap.size w)
 have H := h
 clear h
 unfold plumblaw13_alive.f at H
 replace H := oA H
 obtain ⟨⟨t494, t495, t496⟩, A1, H⟩ := H
 (try dsimp only at H)
 replace H := oA H
 obtain ⟨⟨t497, t498⟩, A2, H⟩ := H
 (try dsimp only at H)
 replace H := oA H
 obtain ⟨⟨t499, t500, t501⟩, A3, H⟩ := H
 (try dsimp only at H)
 by_cases c4 : t494.toList = ([49, 53] : List UInt8)
 ·rw [if_pos c4] at H
  obtain ⟨c4b0, c4b1⟩ := bT c4
  clear c4
  by_cases c5 : t495 = (-1)
  ·rw [if_pos c5] at H
   obtain ⟨c5b0, c5b1⟩ := bT c5
   clear c5
   by_cases c6 : t496 = 0
   ·rw [if_pos c6] at H
    obtain ⟨c6b0, c6b1⟩ := bT c6
    clear c6
    by_cases c7 : t497.toList = ([48, 46, 49, 48, 48, 48, 48, 48, 48, 48, 48, 48, 48, 48, 48, 48, 48, 48, 48, 53, 53, 53] : List UInt8)
    ·rw [if_pos c7] at H
     obtain ⟨c7b0, c7b1⟩ := bT c7
     clear c7
     by_cases c8 : t498 = 0
     ·rw [if_pos c8] at H
      obtain ⟨c8b0, c8b1⟩ := bT c8
      clear c8
      by_cases c9 : t499.toList = ([49, 48, 48] : List UInt8)
      ·rw [if_pos c9] at H
       obtain ⟨c9b0, c9b1⟩ := bT c9
       clear c9
       by_cases c10 : t500 = 1
       ·rw [if_pos c10] at H
        obtain ⟨c10b0, c10b1⟩ := bT c10
        clear c10
        obtain rfl := Option.some.inj H
        go_enter Tryd.func8, Tryd.ntmps8
        go_wp2_with (first | ((with_reducible refine gate_callee (f := 23) rfl ?_); refine gL (some 10) Tryd.func23 #[.int .u64 4609434218613702656] ?_; (with_reducible refine (expand_Digits.calls k 4609434218613702656 t494 t495 t496 _ A1.out).mono ?_); rintro e w11 ⟨rfl, hb⟩; refine ⟨_, rfl, ?_⟩; replace HB := hS HB.out hb; (try clear hb)) | ((with_reducible refine gate_callee (f := 6) rfl ?_); refine gL (some 15) Tryd.func6 #[.int .u64 4591870180066957722, .int .i64 20] ?_; (with_reducible refine (expand_Fixed.calls k 4591870180066957722 20 t497 t498 _ A2.out).mono ?_); rintro e w12 ⟨rfl, hb⟩; refine ⟨_, rfl, ?_⟩; replace HB := hS HB.out hb; (try clear hb)) | ((with_reducible refine gate_callee (f := 9) rfl ?_); refine gL (some 19) Tryd.func9 #[.int .u64 4652002910794678272, .int .i64 3] ?_; (with_reducible refine (expand_Precise.calls k 4652002910794678272 3 t499 t500 t501 _ A3.out).mono ?_); rintro e w13 ⟨rfl, hb⟩; refine ⟨_, rfl, ?_⟩; replace HB := hS HB.out hb; (try clear hb)))
        go_ret
        exact ⟨dE, dB⟩
       ·rw [if_neg c10] at H
        obtain ⟨c10b0, c10b1⟩ := bF c10
        obtain rfl := Option.some.inj H
        go_enter Tryd.func8, Tryd.ntmps8
        go_wp2_with (first | ((with_reducible refine gate_callee (f := 23) rfl ?_); refine gL (some 10) Tryd.func23 #[.int .u64 4609434218613702656] ?_; (with_reducible refine (expand_Digits.calls k 4609434218613702656 t494 t495 t496 _ A1.out).mono ?_); rintro e w14 ⟨rfl, hb⟩; refine ⟨_, rfl, ?_⟩; replace HB := hS HB.out hb; (try clear hb)) | ((with_reducible refine gate_callee (f := 6) rfl ?_); refine gL (some 15) Tryd.func6 #[.int .u64 4591870180066957722, .int .i64 20] ?_; (with_reducible refine (expand_Fixed.calls k 4591870180066957722 20 t497 t498 _ A2.out).mono ?_); rintro e w15 ⟨rfl, hb⟩; refine ⟨_, rfl, ?_⟩; replace HB := hS HB.out hb; (try clear hb)) | ((with_reducible refine gate_callee (f := 9) rfl ?_); refine gL (some 19) Tryd.func9 #[.int .u64 4652002910794678272, .int .i64 3] ?_; (with_reducible refine (expand_Precise.calls k 4652002910794678272 3 t499 t500 t501 _ A3.out).mono ?_); rintro e w16 ⟨rfl, hb⟩; refine ⟨_, rfl, ?_⟩; replace HB := hS HB.out hb; (try clear hb)))
        go_ret
        exact ⟨dE, dB⟩
      ·rw [if_neg c9] at H
       obtain ⟨c9b0, c9b1⟩ := bF c9
       obtain rfl := Option.some.inj H
       go_enter Tryd.func8, Tryd.ntmps8
       go_wp2_with (first | ((with_reducible refine gate_callee (f := 23) rfl ?_); refine gL (some 10) Tryd.func23 #[.int .u64 4609434218613702656] ?_; (with_reducible refine (expand_Digits.calls k 4609434218613702656 t494 t495 t496 _ A1.out).mono ?_); rintro e w17 ⟨rfl, hb⟩; refine ⟨_, rfl, ?_⟩; replace HB := hS HB.out hb; (try clear hb)) | ((with_reducible refine gate_callee (f := 6) rfl ?_); refine gL (some 15) Tryd.func6 #[.int .u64 4591870180066957722, .int .i64 20] ?_; (with_reducible refine (expand_Fixed.calls k 4591870180066957722 20 t497 t498 _ A2.out).mono ?_); rintro e w18 ⟨rfl, hb⟩; refine ⟨_, rfl, ?_⟩; replace HB := hS HB.out hb; (try clear hb)) | ((with_reducible refine gate_callee (f := 9) rfl ?_); refine gL (some 19) Tryd.func9 #[.int .u64 4652002910794678272, .int .i64 3] ?_; (with_reducible refine (expand_Precise.calls k 4652002910794678272 3 t499 t500 t501 _ A3.out).mono ?_); rintro e w19 ⟨rfl, hb⟩; refine ⟨_, rfl, ?_⟩; replace HB := hS HB.out hb; (try clear hb)))
       go_ret
       exact ⟨dE, dB⟩
     ·rw [if_neg c8] at H
      obtain ⟨c8b0, c8b1⟩ := bF c8
      obtain rfl := Option.some.inj H
      go_enter Tryd.func8, Tryd.ntmps8
      go_wp2_with (first | ((with_reducible refine gate_callee (f := 23) rfl ?_); refine gL (some 10) Tryd.func23 #[.int .u64 4609434218613702656] ?_; (with_reducible refine (expand_Digits.calls k 4609434218613702656 t494 t495 t496 _ A1.out).mono ?_); rintro e w20 ⟨rfl, hb⟩; refine ⟨_, rfl, ?_⟩; replace HB := hS HB.out hb; (try clear hb)) | ((with_reducible refine gate_callee (f := 6) rfl ?_); refine gL (some 15) Tryd.func6 #[.int .u64 4591870180066957722, .int .i64 20] ?_; (with_reducible refine (expand_Fixed.calls k 4591870180066957722 20 t497 t498 _ A2.out).mono ?_); rintro e w21 ⟨rfl, hb⟩; refine ⟨_, rfl, ?_⟩; replace HB := hS HB.out hb; (try clear hb)) | ((with_reducible refine gate_callee (f := 9) rfl ?_); refine gL (some 19) Tryd.func9 #[.int .u64 4652002910794678272, .int .i64 3] ?_; (with_reducible refine (expand_Precise.calls k 4652002910794678272 3 t499 t500 t501 _ A3.out).mono ?_); rintro e w22 ⟨rfl, hb⟩; refine ⟨_, rfl, ?_⟩; replace HB := hS HB.out hb; (try clear hb)))
      go_ret
      exact ⟨dE, dB⟩
    ·rw [if_neg c7] at H
     obtain ⟨c7b0, c7b1⟩ := bF c7
     obtain rfl := Option.some.inj H
     go_enter Tryd.func8, Tryd.ntmps8
     go_wp2_with (first | ((with_reducible refine gate_callee (f := 23) rfl ?_); refine gL (some 10) Tryd.func23 #[.int .u64 4609434218613702656] ?_; (with_reducible refine (expand_Digits.calls k 4609434218613702656 t494 t495 t496 _ A1.out).mono ?_); rintro e w23 ⟨rfl, hb⟩; refine ⟨_, rfl, ?_⟩; replace HB := hS HB.out hb; (try clear hb)) | ((with_reducible refine gate_callee (f := 6) rfl ?_); refine gL (some 15) Tryd.func6 #[.int .u64 4591870180066957722, .int .i64 20] ?_; (with_reducible refine (expand_Fixed.calls k 4591870180066957722 20 t497 t498 _ A2.out).mono ?_); rintro e w24 ⟨rfl, hb⟩; refine ⟨_, rfl, ?_⟩; replace HB := hS HB.out hb; (try clear hb)) | ((with_reducible refine gate_callee (f := 9) rfl ?_); refine gL (some 19) Tryd.func9 #[.int .u64 4652002910794678272, .int .i64 3] ?_; (with_reducible refine (expand_Precise.calls k 4652002910794678272 3 t499 t500 t501 _ A3.out).mono ?_); rintro e w25 ⟨rfl, hb⟩; refine ⟨_, rfl, ?_⟩; replace HB := hS HB.out hb; (try clear hb)))
     go_ret
     exact ⟨dE, dB⟩
   ·rw [if_neg c6] at H
    obtain ⟨c6b0, c6b1⟩ := bF c6
    obtain rfl := Option.some.inj H
    go_enter Tryd.func8, Tryd.ntmps8
    go_wp2_with (first | ((with_reducible refine gate_callee (f := 23) rfl ?_); refine gL (some 10) Tryd.func23 #[.int .u64 4609434218613702656] ?_; (with_reducible refine (expand_Digits.calls k 4609434218613702656 t494 t495 t496 _ A1.out).mono ?_); rintro e w26 ⟨rfl, hb⟩; refine ⟨_, rfl, ?_⟩; replace HB := hS HB.out hb; (try clear hb)) | ((with_reducible refine gate_callee (f := 6) rfl ?_); refine gL (some 15) Tryd.func6 #[.int .u64 4591870180066957722, .int .i64 20] ?_; (with_reducible refine (expand_Fixed.calls k 4591870180066957722 20 t497 t498 _ A2.out).mono ?_); rintro e w27 ⟨rfl, hb⟩; refine ⟨_, rfl, ?_⟩; replace HB := hS HB.out hb; (try clear hb)) | ((with_reducible refine gate_callee (f := 9) rfl ?_); refine gL (some 19) Tryd.func9 #[.int .u64 4652002910794678272, .int .i64 3] ?_; (with_reducible refine (expand_Precise.calls k 4652002910794678272 3 t499 t500 t501 _ A3.out).mono ?_); rintro e w28 ⟨rfl, hb⟩; refine ⟨_, rfl, ?_⟩; replace HB := hS HB.out hb; (try clear hb)))
    go_ret
    exact ⟨dE, dB⟩
  ·rw [if_neg c5] at H
   obtain ⟨c5b0, c5b1⟩ := bF c5
   obtain rfl := Option.some.inj H
   go_enter Tryd.func8, Tryd.ntmps8
   go_wp2_with (first | ((with_reducible refine gate_callee (f := 23) rfl ?_); refine gL (some 10) Tryd.func23 #[.int .u64 4609434218613702656] ?_; (with_reducible refine (expand_Digits.calls k 4609434218613702656 t494 t495 t496 _ A1.out).mono ?_); rintro e w29 ⟨rfl, hb⟩; refine ⟨_, rfl, ?_⟩; replace HB := hS HB.out hb; (try clear hb)) | ((with_reducible refine gate_callee (f := 6) rfl ?_); refine gL (some 15) Tryd.func6 #[.int .u64 4591870180066957722, .int .i64 20] ?_; (with_reducible refine (expand_Fixed.calls k 4591870180066957722 20 t497 t498 _ A2.out).mono ?_); rintro e w30 ⟨rfl, hb⟩; refine ⟨_, rfl, ?_⟩; replace HB := hS HB.out hb; (try clear hb)) | ((with_reducible refine gate_callee (f := 9) rfl ?_); refine gL (some 19) Tryd.func9 #[.int .u64 4652002910794678272, .int .i64 3] ?_; (with_reducible refine (expand_Precise.calls k 4652002910794678272 3 t499 t500 t501 _ A3.out).mono ?_); rintro e w31 ⟨rfl, hb⟩; refine ⟨_, rfl, ?_⟩; replace HB := hS HB.out hb; (try clear hb)))
   go_ret
   exact ⟨dE, dB⟩
 ·rw [if_neg c4] at H
  obtain ⟨c4b0, c4b1⟩ := bF c4
  obtain rfl := Option.some.inj H
  go_enter Tryd.func8, Tryd.ntmps8
  go_wp2_with (first | ((with_reducible refine gate_callee (f := 23) rfl ?_); refine gL (some 10) Tryd.func23 #[.int .u64 4609434218613702656] ?_; (with_reducible refine (expand_Digits.calls k 4609434218613702656 t494 t495 t496 _ A1.out).mono ?_); rintro e w32 ⟨rfl, hb⟩; refine ⟨_, rfl, ?_⟩; replace HB := hS HB.out hb; (try clear hb)) | ((with_reducible refine gate_callee (f := 6) rfl ?_); refine gL (some 15) Tryd.func6 #[.int .u64 4591870180066957722, .int .i64 20] ?_; (with_reducible refine (expand_Fixed.calls k 4591870180066957722 20 t497 t498 _ A2.out).mono ?_); rintro e w33 ⟨rfl, hb⟩; refine ⟨_, rfl, ?_⟩; replace HB := hS HB.out hb; (try clear hb)) | ((with_reducible refine gate_callee (f := 9) rfl ?_); refine gL (some 19) Tryd.func9 #[.int .u64 4652002910794678272, .int .i64 3] ?_; (with_reducible refine (expand_Precise.calls k 4652002910794678272 3 t499 t500 t501 _ A3.out).mono ?_); rintro e w34 ⟨rfl, hb⟩; refine ⟨_, rfl, ?_⟩; replace HB := hS HB.out hb; (try clear hb)))
  go_ret
  exact ⟨dE, dB⟩
def plumblaw13_ExpandFixes.f (k : Nat) (a0 : Int) (a1 : Int) : Option (Bool) := (expand_Fixed.f k a0 a1).bind fun bt502 => ((plumbref13_Fixed.f k a0 a1).bind fun bt504 => ((plumblaw13_alive.f k).bind fun t506 => (if t506 = true then (if bt502.1.toList = bt504.1.toList then (some (bt502.2 == bt504.2)) else (none)) else (none))))
set_option maxHeartbeats 8000000 in
set_option maxRecDepth 100000 in
theorem plumblaw13_ExpandFixes.calls (k : Nat) (a0 : Int) (a1 : Int) (r : Bool) (w : World) (h : plumblaw13_ExpandFixes.f k a0 a1 = some r) :
  Calls Tryd.prog 3 #[.int .u64 a0, .int .i64 a1] w fun e w' => e = .returned (.bool r) ∧ Below w.heap.size w w' := by
 have HB := aM (Below.refl w.heap.size w)
 have H := h
 clear h
 unfold plumblaw13_ExpandFixes.f at H
 replace H := oA H
 obtain ⟨⟨t502, t503⟩, A3, H⟩ := H
 (try dsimp only at H)
 replace H := oA H
 obtain ⟨⟨t504, t505⟩, A4, H⟩ := H
 (try dsimp only at H)
 replace H := oA H
 obtain ⟨t506, A5, H⟩ := H
 (try dsimp only at H)
 replace H := nO H
 obtain ⟨rfl, H⟩ := H
 (try dsimp only at H)
 replace H := nO H
 obtain ⟨c7, H⟩ := H
 obtain ⟨c7b0, c7b1⟩ := bT c7
 clear c7
 obtain rfl := Option.some.inj H
 go_enter Tryd.func3, Tryd.ntmps3
 go_wp2_with (first | ((with_reducible refine gate_callee (f := 6) rfl ?_); refine gL (some 12) Tryd.func6 #[.int .u64 a0, .int .i64 a1] ?_; (with_reducible refine (expand_Fixed.calls k a0 a1 t502 t503 _ A3.out).mono ?_); rintro e w8 ⟨rfl, hb⟩; refine ⟨_, rfl, ?_⟩; replace HB := hS HB.out hb; (try clear hb)) | ((with_reducible refine gate_callee (f := 7) rfl ?_); refine gL (some 18) Tryd.func7 #[.int .u64 a0, .int .i64 a1] ?_; (with_reducible refine (plumbref13_Fixed.calls k a0 a1 t504 t505 _ A4.out).mono ?_); rintro e w9 ⟨rfl, hb⟩; refine ⟨_, rfl, ?_⟩; replace HB := hS HB.out hb; (try clear hb)) | ((with_reducible refine gate_callee (f := 8) rfl ?_); refine gL (some 21) Tryd.func8 #[] ?_; (with_reducible refine (plumblaw13_alive.calls k  true _ A5.out).mono ?_); rintro e w10 ⟨rfl, hb⟩; refine ⟨_, rfl, ?_⟩; replace HB := hS HB.out hb; (try clear hb)))
 go_ret
 exact ⟨dE, dB⟩
def plumblaw13_ExpandFixes.Pure : Prop := ∀ (a0 : Int) (a1 : Int), (Lit.int .u64 a0).wf = true → (Lit.int .i64 a1).wf = true → ∃ k, plumblaw13_ExpandFixes.f k a0 a1 = some true
theorem plumblaw13_ExpandFixes.walk (P : plumblaw13_ExpandFixes.Pure) (a0 : Int) (a1 : Int) (w : World) (w0 : (Lit.int .u64 a0).wf = true) (w1 : (Lit.int .i64 a1).wf = true) :
  Calls Tryd.prog 3 #[.int .u64 a0, .int .i64 a1] w fun e w' => e = .returned (.bool true) ∧ Below w.heap.size w w' := by
 obtain ⟨k, h⟩ := P a0 a1 w0 w1
 refine (plumblaw13_ExpandFixes.calls k a0 a1 true w h).mono ?_
 rintro e w' ⟨rfl, hd⟩
 exact ⟨rfl, hd⟩
def plumbref13_Precise.j0 : Nat → Int → Int → Bool → Option (ByteArray × Int × Int)
 | 0, _, _, _ => none
 | k + 1, x0, x1, x16 => if x16 = true then (some ((⟨#[]⟩ : ByteArray), 0, 130)) else ((plumbref13_Digits.f k x0).bind fun bt507 => (if bt507.2.2 = 0 then (if bt507.1.toList = ([48] : List UInt8) then ((plumbref13_zeros.f k x1).bind fun t510 => (some (t510, 0, 0))) else ((plumbref13_rounded.f k bt507.1 x1).bind fun t511 => (if (t511.size : Int) > x1 then (if 0 ≤ x1 then (if x1 ≤ (t511.size : Int) then (some (t511.extract 0 (x1 : Int).toNat, wrap64 ((wrap64 ((wrap64 (bt507.2.1 + (bt507.1.size : Int))) - x1)) + 1), 0)) else (none)) else (none)) else (some (t511, wrap64 ((wrap64 (bt507.2.1 + (bt507.1.size : Int))) - x1), 0))))) else (some ((⟨#[]⟩ : ByteArray), 0, bt507.2.2))))
def plumbref13_Precise.f (k : Nat) (a0 : Int) (a1 : Int) : Option (ByteArray × Int × Int) := if a1 < 1 then (plumbref13_Precise.j0 k a0 a1 true) else (plumbref13_Precise.j0 k a0 a1 (decide (a1 > 1100)))
set_option maxHeartbeats 8000000 in
set_option maxRecDepth 100000 in
theorem plumbref13_Precise.calls (k : Nat) (a0 : Int) (a1 : Int) (r1 : ByteArray) (r2 : Int) (r3 : Int) (w : World) (h : plumbref13_Precise.f k a0 a1 = some (r1, r2, r3)) :
  Calls Tryd.prog 10 #[.int .u64 a0, .int .i64 a1] w fun e w' => e = .returned (.tuple #[.string r1, .int .i64 r2, .int .i64 r3]) ∧ Below w.heap.size w w' := by
 have HB := aM (Below.refl w.heap.size w)
 have H := h
 clear h
 unfold plumbref13_Precise.f at H
 have HC3 := aM H
 clear H
 go_enter Tryd.func10, Tryd.ntmps10
 go_upto_region 1 with (fail)
 go_cut [16] (fun v16 wc => ∃ (kq : Nat) (x16_2 : Bool), v16 = .bool x16_2 ∧ Aside0 (plumbref13_Precise.j0 kq a0 a1 x16_2 = some (r1, r2, r3)) ∧ Aside0 (kq ≤ k) ∧ Aside0 (Below w.heap.size w wc))
 case first =>
  have H := HC3.out
  clear HC3
  by_cases c4 : a1 < 1
  ·rw [if_pos c4] at H
   have c4b0 := decide_eq_true c4
   clear c4
   (first | rw [c4b0] | (simp only [i64_w, i32_w]; rw [c4b0]) | skip)
   have H' := aM H
   clear H
   go_wp2
   go_meet
   case rel => exact ⟨_, (true), dF, H', ⟨dN⟩, ⟨dB⟩⟩
  ·rw [if_neg c4] at H
   have c4b0 := decide_eq_false c4
   clear c4
   (first | rw [c4b0] | (simp only [i64_w, i32_w]; rw [c4b0]) | skip)
   have H' := aM H
   clear H
   go_wp2
   go_meet
   case rel => exact ⟨_, (decide (a1 > 1100)), dF, H', ⟨dN⟩, ⟨dB⟩⟩
 case rest =>
  clear HC3
  obtain ⟨kq, x16_2, rfl, HA, HJ2, HB⟩ := hcut
  cases kq with
  | zero => exact absurd HA.out (by simp [plumbref13_Precise.j0])
  | succ kj2 =>
   have H := HA.out
   clear HA
   simp only [plumbref13_Precise.j0] at H
   by_cases c5 : x16_2 = true
   ·subst c5
    rw [if_pos rfl] at H
    (try dsimp only at H)
    simp only [Option.some.injEq, Prod.mk.injEq] at H
    obtain ⟨rfl, rfl, rfl⟩ := H
    go_wp2
    go_ret3
    exact ⟨dE, dB⟩
   ·replace c5 := Bool.eq_false_iff.mpr c5
    subst c5
    rw [if_neg (show ¬ (false = true) by decide)] at H
    (try dsimp only at H)
    replace H := oA H
    obtain ⟨⟨t507, t508, t509⟩, A6, H⟩ := H
    (try dsimp only at H)
    by_cases c7 : t509 = 0
    ·rw [if_pos c7] at H
     obtain ⟨c7b0, c7b1⟩ := bT c7
     clear c7
     by_cases c8 : t507.toList = ([48] : List UInt8)
     ·rw [if_pos c8] at H
      obtain ⟨c8b0, c8b1⟩ := bT c8
      clear c8
      replace H := oA H
      obtain ⟨t510, A9, H⟩ := H
      (try dsimp only at H)
      simp only [Option.some.injEq, Prod.mk.injEq] at H
      obtain ⟨rfl, rfl, rfl⟩ := H
      go_wp2_with (first | ((with_reducible refine gate_callee (f := 20) rfl ?_); refine gL (some 19) Tryd.func20 #[.int .u64 a0] ?_; (with_reducible refine (plumbref13_Digits.calls kj2 a0 t507 t508 t509 _ A6.out).mono ?_); rintro e w10 ⟨rfl, hb⟩; refine ⟨_, rfl, ?_⟩; replace HB := hS HB.out hb; (try clear hb)) | ((with_reducible refine gate_callee (f := 22) rfl ?_); refine gL (some 29) Tryd.func22 #[.int .i64 a1] ?_; (with_reducible refine (plumbref13_zeros.calls kj2 a1 t510 _ A9.out).mono ?_); rintro e w11 ⟨rfl, hb⟩; refine ⟨_, rfl, ?_⟩; replace HB := hS HB.out hb; (try clear hb)))
      go_ret3
      exact ⟨dE, dB⟩
     ·rw [if_neg c8] at H
      obtain ⟨c8b0, c8b1⟩ := bF c8
      replace H := oA H
      obtain ⟨t511, A12, H⟩ := H
      (try dsimp only at H)
      by_cases c13 : (t511.size : Int) > a1
      ·rw [if_pos c13] at H
       have c13b0 : decide (a1 < (t511.size : Int)) = true := decide_eq_true c13
       clear c13
       replace H := nO H
       obtain ⟨c14, H⟩ := H
       have c14b0 := eq_true c14
       have c14b1 : decide (0 ≤ a1) = true := decide_eq_true c14
       clear c14
       replace H := nO H
       obtain ⟨c15, H⟩ := H
       have c15b0 := eq_true c15
       have c15b1 := decide_eq_true c15
       clear c15
       simp only [Option.some.injEq, Prod.mk.injEq] at H
       obtain ⟨rfl, rfl, rfl⟩ := H
       go_wp2_with (first | ((with_reducible refine gate_callee (f := 20) rfl ?_); refine gL (some 19) Tryd.func20 #[.int .u64 a0] ?_; (with_reducible refine (plumbref13_Digits.calls kj2 a0 t507 t508 t509 _ A6.out).mono ?_); rintro e w16 ⟨rfl, hb⟩; refine ⟨_, rfl, ?_⟩; replace HB := hS HB.out hb; (try clear hb)) | ((with_reducible refine gate_callee (f := 21) rfl ?_); refine gL (some 32) Tryd.func21 #[.string t507, .int .i64 a1] ?_; (with_reducible refine (plumbref13_rounded.calls kj2 t507 a1 t511 _ A12.out).mono ?_); rintro e w17 ⟨rfl, hb⟩; refine ⟨_, rfl, ?_⟩; replace HB := hS HB.out hb; (try clear hb)))
       go_ret3
       exact ⟨dE, dB⟩
      ·rw [if_neg c13] at H
       have c13b0 : decide (a1 < (t511.size : Int)) = false := decide_eq_false c13
       clear c13
       simp only [Option.some.injEq, Prod.mk.injEq] at H
       obtain ⟨rfl, rfl, rfl⟩ := H
       go_wp2_with (first | ((with_reducible refine gate_callee (f := 20) rfl ?_); refine gL (some 19) Tryd.func20 #[.int .u64 a0] ?_; (with_reducible refine (plumbref13_Digits.calls kj2 a0 t507 t508 t509 _ A6.out).mono ?_); rintro e w18 ⟨rfl, hb⟩; refine ⟨_, rfl, ?_⟩; replace HB := hS HB.out hb; (try clear hb)) | ((with_reducible refine gate_callee (f := 21) rfl ?_); refine gL (some 32) Tryd.func21 #[.string t507, .int .i64 a1] ?_; (with_reducible refine (plumbref13_rounded.calls kj2 t507 a1 t511 _ A12.out).mono ?_); rintro e w19 ⟨rfl, hb⟩; refine ⟨_, rfl, ?_⟩; replace HB := hS HB.out hb; (try clear hb)))
       go_ret3
       exact ⟨dE, dB⟩
    ·rw [if_neg c7] at H
     obtain ⟨c7b0, c7b1⟩ := bF c7
     simp only [Option.some.injEq, Prod.mk.injEq] at H
     obtain ⟨rfl, rfl, rfl⟩ := H
     go_wp2_with (first | ((with_reducible refine gate_callee (f := 20) rfl ?_); refine gL (some 19) Tryd.func20 #[.int .u64 a0] ?_; (with_reducible refine (plumbref13_Digits.calls kj2 a0 t507 t508 t509 _ A6.out).mono ?_); rintro e w20 ⟨rfl, hb⟩; refine ⟨_, rfl, ?_⟩; replace HB := hS HB.out hb; (try clear hb)))
     go_ret3
     exact ⟨dE, dB⟩
def plumblaw13_ExpandPrecises.f (k : Nat) (a0 : Int) (a1 : Int) : Option (Bool) := (expand_Precise.f k a0 a1).bind fun bt512 => ((plumbref13_Precise.f k a0 a1).bind fun bt515 => ((plumblaw13_alive.f k).bind fun t518 => (if t518 = true then (if bt512.1.toList = bt515.1.toList then (if bt512.2.1 = bt515.2.1 then (some (bt512.2.2 == bt515.2.2)) else (none)) else (none)) else (none))))
set_option maxHeartbeats 8000000 in
set_option maxRecDepth 100000 in
theorem plumblaw13_ExpandPrecises.calls (k : Nat) (a0 : Int) (a1 : Int) (r : Bool) (w : World) (h : plumblaw13_ExpandPrecises.f k a0 a1 = some r) :
  Calls Tryd.prog 4 #[.int .u64 a0, .int .i64 a1] w fun e w' => e = .returned (.bool r) ∧ Below w.heap.size w w' := by
 have HB := aM (Below.refl w.heap.size w)
 have H := h
 clear h
 unfold plumblaw13_ExpandPrecises.f at H
 replace H := oA H
 obtain ⟨⟨t512, t513, t514⟩, A3, H⟩ := H
 (try dsimp only at H)
 replace H := oA H
 obtain ⟨⟨t515, t516, t517⟩, A4, H⟩ := H
 (try dsimp only at H)
 replace H := oA H
 obtain ⟨t518, A5, H⟩ := H
 (try dsimp only at H)
 replace H := nO H
 obtain ⟨rfl, H⟩ := H
 (try dsimp only at H)
 replace H := nO H
 obtain ⟨c7, H⟩ := H
 obtain ⟨c7b0, c7b1⟩ := bT c7
 clear c7
 replace H := nO H
 obtain ⟨c8, H⟩ := H
 obtain ⟨c8b0, c8b1⟩ := bT c8
 clear c8
 obtain rfl := Option.some.inj H
 go_enter Tryd.func4, Tryd.ntmps4
 go_wp2_with (first | ((with_reducible refine gate_callee (f := 9) rfl ?_); refine gL (some 14) Tryd.func9 #[.int .u64 a0, .int .i64 a1] ?_; (with_reducible refine (expand_Precise.calls k a0 a1 t512 t513 t514 _ A3.out).mono ?_); rintro e w9 ⟨rfl, hb⟩; refine ⟨_, rfl, ?_⟩; replace HB := hS HB.out hb; (try clear hb)) | ((with_reducible refine gate_callee (f := 10) rfl ?_); refine gL (some 21) Tryd.func10 #[.int .u64 a0, .int .i64 a1] ?_; (with_reducible refine (plumbref13_Precise.calls k a0 a1 t515 t516 t517 _ A4.out).mono ?_); rintro e w10 ⟨rfl, hb⟩; refine ⟨_, rfl, ?_⟩; replace HB := hS HB.out hb; (try clear hb)) | ((with_reducible refine gate_callee (f := 8) rfl ?_); refine gL (some 25) Tryd.func8 #[] ?_; (with_reducible refine (plumblaw13_alive.calls k  true _ A5.out).mono ?_); rintro e w11 ⟨rfl, hb⟩; refine ⟨_, rfl, ?_⟩; replace HB := hS HB.out hb; (try clear hb)))
 go_ret
 exact ⟨dE, dB⟩
def plumblaw13_ExpandPrecises.Pure : Prop := ∀ (a0 : Int) (a1 : Int), (Lit.int .u64 a0).wf = true → (Lit.int .i64 a1).wf = true → ∃ k, plumblaw13_ExpandPrecises.f k a0 a1 = some true
theorem plumblaw13_ExpandPrecises.walk (P : plumblaw13_ExpandPrecises.Pure) (a0 : Int) (a1 : Int) (w : World) (w0 : (Lit.int .u64 a0).wf = true) (w1 : (Lit.int .i64 a1).wf = true) :
  Calls Tryd.prog 4 #[.int .u64 a0, .int .i64 a1] w fun e w' => e = .returned (.bool true) ∧ Below w.heap.size w w' := by
 obtain ⟨k, h⟩ := P a0 a1 w0 w1
 refine (plumblaw13_ExpandPrecises.calls k a0 a1 true w h).mono ?_
 rintro e w' ⟨rfl, hd⟩
 exact ⟨rfl, hd⟩
theorem strip_last {xs : List Int} (h : 0 < (strip xs).length) : xs.getD ((strip xs).length - 1) 0 ≠ 0 := by
 induction xs with
 | nil => simp [strip] at h
 | cons x xs ih =>
  rw [strip_cons] at h ⊢
  by_cases hs : strip xs = []
  ·rw [if_pos hs] at h ⊢
   by_cases hx : x = 0
   ·rw [if_pos hx] at h; simp at h
   ·rw [if_neg hx]; simpa using hx
  ·rw [if_neg hs]
   have h1 : 0 < (strip xs).length := by
    rcases Nat.eq_zero_or_pos (strip xs).length with h0 | h0
    ·exact absurd (List.eq_nil_of_length_eq_zero h0) hs
    ·exact h0
   have h2 := ih h1
   rw [List.length_cons, show (strip xs).length + 1 - 1 = ((strip xs).length - 1) + 1 from by omega, List.getD_cons_succ]
   exact h2
theorem nv_split {xs : List Int} {n : Nat} (h : n ≤ xs.length) : nv xs = nv (xs.take n) + 2 ^ (64 * n) * nv (xs.drop n) := by
 conv => lhs; rw [← List.take_append_drop n xs, nv_append]
 rw [List.length_take, Nat.min_eq_left h]
theorem nv_top {xs : List Int} (h : Ws xs) {n : Nat} (hn : (strip xs).length = n + 1) : nv xs / 2 ^ (64 * n) = xs.getD n 0 := by
 have hl := strip_length_le xs
 have e : nv xs = nv (xs.take n) + 2 ^ (64 * n) * xs.getD n 0 := by
  rw [← nv_strip xs, strip_take xs, hn, List.take_succ_eq_append_getElem (by omega), nv_append, List.length_take, Nat.min_eq_left (by omega), List.getD_eq_getElem?_getD, List.getElem?_eq_getElem (by omega)]
  simp [nv]
 have h1 := nv_nonneg (h.take n)
 have h2 := nv_lt (h.take n)
 rw [List.length_take, Nat.min_eq_left (by omega)] at h2
 rw [e, Int.add_mul_ediv_left _ _ (by omega), Int.ediv_eq_zero_of_lt h1 h2, Int.zero_add]
theorem nat_Bits.f_eq (xs : List Int) (h : Ws xs) (hl : xs.length ≤ 35184372088832) (k : Nat) (hk : xs.length < k) (hk7 : 7 ≤ k) : nat_Bits.f k xs = some (bitsN (nv xs)) := by
 rw [nat_Bits.f, nat_size.f_eq xs (by omega) k hk]
 simp only [Option.bind_some]
 have hsl := strip_length_le xs
 rcases Nat.eq_zero_or_pos (strip xs).length with h0 | h0
 ·rw [if_pos (by omega)]
  have : nv xs = 0 := by rw [← nv_strip, List.eq_nil_of_length_eq_zero h0]; rfl
  rw [this]; rfl
 ·obtain ⟨n, hn⟩ : ∃ n, (strip xs).length = n + 1 := ⟨(strip xs).length - 1, by omega⟩
  rw [hn, if_neg (by omega)]
  have ew : wrap64 (((n + 1 : Nat) : Int) - 1) = (n : Int) := by unfold wrap64; omega
  rw [ew, if_pos (by omega), if_pos (by omega)]
  clear ew
  have er : rd xs (n : Int) = xs.getD n 0 := rfl
  have ho := h.getD n
  have hne := strip_last h0
  rw [hn, Nat.add_sub_cancel] at hne
  rw [er, wide_Len.f_eq ho.1 ho.2 k hk7]
  simp only [Option.bind_some]
  have ht := nv_top h hn
  have hge : (2 : Int) ^ (64 * n) ≤ nv xs := by
   have h1 := Int.mul_ediv_add_emod (nv xs) (2 ^ (64 * n))
   have h2 := Int.emod_nonneg (nv xs) (show (2 : Int) ^ (64 * n) ≠ 0 by have := two_pow_pos (64 * n); omega)
   have h3 := Int.mul_le_mul_of_nonneg_left (show 1 ≤ nv xs / 2 ^ (64 * n) by omega) (Int.le_of_lt (two_pow_pos (64 * n)))
   omega
  rw [bitsN_div (64 * n) hge, ht]
  have hb := bitsN_le_of_lt (n := 64) ho.1 ho.2
  have hb0 := bitsN_nonneg (xs.getD n 0)
  clear ho hne ht hge
  generalize bitsN (xs.getD n 0) = z at *
  congr 1
  unfold wrap64
  omega
theorem nat_bound.f_eq (xs : List Int) (hl : xs.length ≤ 35184372088832) (k : Nat) (hk : xs.length < k) : nat_bound.f k xs = some (if (strip xs).length ≤ 4096 then (strip xs, 0) else ([], 21)) := by
 rw [nat_bound.f, nat_size.f_eq xs (by omega) k hk]
 simp only [Option.bind_some]
 have hsl := strip_length_le xs
 by_cases h : (strip xs).length ≤ 4096
 ·rw [if_pos (by omega), if_pos (by omega), if_pos (by omega), if_pos h, Int.toNat_natCast, ← strip_take]
 ·rw [if_neg (by omega), if_neg h]
theorem strip_len_le {xs : List Int} (h : Ws xs) (n : Nat) : (strip xs).length ≤ n ↔ nv xs < 2 ^ (64 * n) := by
 constructor
 ·intro hn
  have h1 := nv_lt h.strip
  rw [nv_strip] at h1
  have := pow_mono (show 64 * (strip xs).length ≤ 64 * n from by omega)
  omega
 ·intro hn
  apply Classical.byContradiction
  intro hc
  obtain ⟨m, hm⟩ : ∃ m, (strip xs).length = m + 1 := ⟨(strip xs).length - 1, by omega⟩
  have h1 := strip_last (xs := xs) (by omega)
  rw [hm, Nat.add_sub_cancel] at h1
  have ht := nv_top h hm
  have ho := h.getD m
  have h2 := Int.mul_ediv_add_emod (nv xs) (2 ^ (64 * m))
  have h3 := Int.emod_nonneg (nv xs) (show (2 : Int) ^ (64 * m) ≠ 0 by have := two_pow_pos (64 * m); omega)
  have h4 := Int.mul_le_mul_of_nonneg_left (show 1 ≤ nv xs / 2 ^ (64 * m) by omega) (Int.le_of_lt (two_pow_pos (64 * m)))
  have h5 := pow_mono (show 64 * n ≤ 64 * m from by omega)
  omega
def bnd (n : Int) : List Int × Int := if n < 2 ^ 262144 then (wd n.toNat, 0) else ([], 21)
theorem nat_bound.f_bnd {xs : List Int} (h : Ws xs) (hl : xs.length ≤ 35184372088832) (k : Nat) (hk : xs.length < k) : nat_bound.f k xs = some (bnd (nv xs)) := by
 rw [nat_bound.f_eq xs hl k hk]
 congr 1
 unfold bnd
 have := strip_len_le h 4096
 by_cases h1 : (strip xs).length ≤ 4096
 ·rw [if_pos h1, if_pos (this.1 h1), wd_nv h]
 ·rw [if_neg h1, if_neg (fun h2 => h1 (this.2 h2))]
theorem getD_zero_of_lt {xs : List Int} (h : Ws xs) {t : Nat} (hl : nv xs < 2 ^ (64 * t)) : xs.getD t 0 = 0 := by
 by_cases ht : t < xs.length
 ·have e := nv_split (xs := xs) (n := t) (by omega)
  have h1 := nv_nonneg (h.take t)
  have h2 := nv_nonneg (h.drop t)
  have hp := two_pow_pos (64 * t)
  have h3 : nv (xs.drop t) < 1 := by
   apply Classical.byContradiction
   intro hc
   have := Int.mul_le_mul_of_nonneg_left (show 1 ≤ nv (xs.drop t) by omega) (Int.le_of_lt hp)
   omega
  have h4 : nv (xs.drop t) = 0 := by omega
  rw [List.drop_eq_getElem_cons ht, nv_cons] at h4
  have h5 := nv_nonneg (h.drop (t + 1))
  have h6 := h.getD t
  rw [List.getD_eq_getElem?_getD, List.getElem?_eq_getElem ht] at h6 ⊢
  simp only [Option.getD_some] at h6 ⊢
  omega
 ·rw [List.getD_eq_getElem?_getD, List.getElem?_eq_none (by omega)]; rfl
theorem set_getD_ne {xs : List Int} {i j : Nat} {v : Int} (h : i ≠ j) : (xs.set i v).getD j 0 = xs.getD j 0 := by
 rw [List.getD_eq_getElem?_getD, List.getD_eq_getElem?_getD, List.getElem?_set_ne h]
theorem mul_step {a b o c : Int} (ha0 : 0 ≤ a) (ha : a < 18446744073709551616) (hb0 : 0 ≤ b) (hb : b < 18446744073709551616) (ho0 : 0 ≤ o) (ho : o < 18446744073709551616) (hc0 : 0 ≤ c) (hc : c < 18446744073709551616) :
  ∃ lo hi k1 k2 v c' : Int, a * b = hi * 18446744073709551616 + lo ∧ 0 ≤ lo ∧ lo < 18446744073709551616 ∧
   wide_Mul.f a b = some (hi, lo) ∧ ∃ s, wide_Add.f lo o 0 = some (s, k1) ∧ wide_Add.f s c 0 = some (v, k2) ∧ IntKind.u64.wrap (IntKind.u64.wrap (hi + k1) + k2) = c' ∧
   v + c' * 18446744073709551616 = a * b + o + c ∧ 0 ≤ v ∧ v < 18446744073709551616 ∧ 0 ≤ c' ∧ c' < 18446744073709551616 := by
 have hab0 : 0 ≤ a * b := Int.mul_nonneg ha0 hb0
 have hab : a * b ≤ 18446744073709551615 * 18446744073709551615 := Int.mul_le_mul (by omega) (by omega) hb0 (by omega)
 refine ⟨a * b % 18446744073709551616, a * b / 18446744073709551616, _, _, _, _, by omega, by omega, by omega, ?_, _, wide_Add.f_eq (by omega) (by omega) ho0 ho (by omega) (by omega), wide_Add.f_eq (by omega) (by omega) hc0 hc (by omega) (by omega), rfl, ?_, by omega, by omega, ?_, ?_⟩
 ·unfold wide_Mul.f
  rw [if_pos (u64B_iff.2 ⟨ha0, ha⟩), if_pos (u64B_iff.2 ⟨hb0, hb⟩)]
 ·simp only [u64w]
  generalize a * b = p at *
  omega
 ·simp only [u64w]; omega
 ·simp only [u64w]; omega
theorem w64_add (i j : Nat) (h : i + j < 9223372036854775808) : wrap64 ((i : Int) + (j : Int)) = ((i + j : Nat) : Int) := by unfold wrap64; omega
theorem w64_succ (i : Nat) (h : i < 9223372036854775807) : wrap64 ((i : Int) + 1) = ((i + 1 : Nat) : Int) := by unfold wrap64; omega
theorem nat_Mul.l1_eq (x y : List Int) (hy : Ws y) (i m : Nat) (a : Int) (ha0 : 0 ≤ a) (ha : a < 18446744073709551616) (hm : m ≤ 35184372088832) (him : i + y.length < m) :
  ∀ (d k : Nat) (out : List Int) (c : Int) (j : Nat), d = y.length - j → j ≤ y.length → out.length = m → Ws out → 0 ≤ c → c < 18446744073709551616 → out.getD (i + y.length) 0 = 0 →
  ∃ out' c', Ws out' ∧ out'.length = m ∧ 0 ≤ c' ∧ c' < 18446744073709551616 ∧ out'.getD (i + y.length) 0 = 0 ∧
   nv out' + c' * 2 ^ (64 * (i + y.length)) + a * nv (y.take j) * 2 ^ (64 * i) = nv out + c * 2 ^ (64 * (i + j)) + a * nv y * 2 ^ (64 * i) ∧
   nat_Mul.l1 (k + d + 1) y out i a c x (x.length : Int) i y (y.length : Int) j = nat_Mul.l0 k y (out'.set (i + y.length) c') x (x.length : Int) ((i + 1 : Nat) : Int) := by
 intro d
 induction d with
 | zero =>
  intro k out c j hd hj hl hw hc0 hc hz
  obtain rfl : j = y.length := by omega
  refine ⟨out, c, hw, hl, hc0, hc, hz, by rw [List.take_length], ?_⟩
  rw [Nat.add_zero]
  conv => lhs; unfold nat_Mul.l1
  rw [if_neg (by omega)]
  have b1 : i + y.length < 9223372036854775808 := by omega
  have b2 : i < 9223372036854775807 := by omega
  have b3 : (0 : Int) ≤ ((i + y.length : Nat) : Int) := by omega
  have b4 : ((i + y.length : Nat) : Int) < (out.length : Int) := by omega
  have ew := w64_add i y.length b1
  have ew2 := w64_succ i b2
  rw [ew, ew2, Int.toNat_natCast]
  rw [if_pos b3, if_pos b4]
 | succ d ih =>
  intro k out c j hd hj hl hw hc0 hc hz
  have b1 : i + j < 9223372036854775808 := by omega
  have b2 : j < 9223372036854775807 := by omega
  have q0 : (j : Int) < (y.length : Int) := by omega
  have q1 : (0 : Int) ≤ (j : Int) := by omega
  have q2 : (0 : Int) ≤ ((i + j : Nat) : Int) := by omega
  have q3 : ((i + j : Nat) : Int) < (out.length : Int) := by omega
  have q4 : d = y.length - (j + 1) := by omega
  have q5 : j + 1 ≤ y.length := by omega
  have q6 : i + j ≠ i + y.length := by omega
  have q7 : i + j < out.length := by omega
  have q8 : j < y.length := by omega
  have ew := w64_add i j b1
  have ew2 := w64_succ j b2
  have hyj := hy.getD j
  have hoj := hw.getD (i + j)
  obtain ⟨lo, hi, k1, k2, v, c', e1, hlo0, hlo, eM, s, eA, eB, ec, ev, hv0, hv, hc0', hc'⟩ := mul_step ha0 ha hyj.1 hyj.2 hoj.1 hoj.2 hc0 hc
  obtain ⟨out', c2, h1, h2, h3, h4, h5, h6, h7⟩ := ih k (out.set (i + j) v) c' (j + 1) q4 q5 (by rw [List.length_set, hl]) (hw.set _ hv0 hv) hc0' hc' (by rw [set_getD_ne q6]; exact hz)
  refine ⟨out', c2, h1, h2, h3, h4, h5, ?_, ?_⟩
  ·rw [nv_set q7, nv_take_succ q8] at h6
   clear ec ew ew2
   rw [show 64 * (i + (j + 1)) = 64 * (i + j + 1) from by omega, pow64, show 64 * (i + j) = 64 * i + 64 * j from by omega, Int.pow_add] at h6
   rw [show 64 * (i + j) = 64 * i + 64 * j from by omega, Int.pow_add]
   generalize (2 : Int) ^ (64 * i) = pi at *
   generalize (2 : Int) ^ (64 * j) = pj at *
   generalize out.getD (i + j) 0 = o at *
   generalize y.getD j 0 = yj at *
   obtain rfl : v = a * yj + o + c - c' * 18446744073709551616 := by omega
   clear eM eA eB h7 ih e1 hyj hoj hlo hlo0
   grind
  ·rw [← h7, show k + (d + 1) + 1 = (k + d + 1) + 1 from by omega]
   conv => lhs; unfold nat_Mul.l1
   have er : rd y (j : Int) = y.getD j 0 := rfl
   have er2 : rd out ((i + j : Nat) : Int) = out.getD (i + j) 0 := rfl
   rw [ew, ew2, er, er2, eM]
   simp only [Option.bind_some]
   rw [if_pos q0, if_pos q1, if_pos q0, if_pos q2, if_pos q3, eA]
   simp only [Option.bind_some]
   rw [eB]
   simp only [Option.bind_some]
   rw [ec, Int.toNat_natCast]
theorem nat_Mul.l0_eq (x y : List Int) (hx : Ws x) (hy : Ws y) (m : Nat) (hm : m ≤ 35184372088832) (hlm : x.length + y.length = m) : ∀ (d k : Nat) (out : List Int) (i : Nat), d = x.length - i → d * (y.length + 2) + m + 1 < k → i ≤ x.length → out.length = m → Ws out → nv out = nv (x.take i) * nv y →
  nat_Mul.l0 k y out x (x.length : Int) i = some (bnd (nv x * nv y)) := by
 intro d
 induction d with
 | zero =>
  intro k out i hd hk hi hl hw hv
  obtain ⟨k, rfl⟩ : ∃ j, k = j + 1 := ⟨k - 1, by omega⟩
  obtain rfl : i = x.length := by omega
  rw [List.take_length] at hv
  simp only [nat_Mul.l0]
  rw [if_neg (by omega), nat_bound.f_bnd hw (by omega) k (by omega), hv]
  rfl
 | succ d ih =>
  intro k out i hd hk hi hl hw hv
  have hk' : d * (y.length + 2) + (y.length + 2) + m + 1 < k := by rw [Nat.succ_mul] at hk; exact hk
  obtain ⟨k, rfl⟩ : ∃ j, k = j + y.length + 1 + 1 := ⟨k - (y.length + 2), by omega⟩
  have hxi := hx.getD i
  have htop : nv out < 2 ^ (64 * (i + y.length)) := by
   rw [hv, show 64 * (i + y.length) = 64 * i + 64 * y.length from by omega, Int.pow_add]
   have h1 := nv_lt (hx.take i)
   rw [List.length_take, Nat.min_eq_left (by omega)] at h1
   have h2 := nv_lt hy
   have h3 := nv_nonneg (hx.take i)
   have h4 := nv_nonneg hy
   have hp := two_pow_pos (64 * i)
   have h5 : nv (x.take i) * nv y ≤ nv (x.take i) * 2 ^ (64 * y.length) := Int.mul_le_mul_of_nonneg_left (by omega) h3
   have h6 : nv (x.take i) * 2 ^ (64 * y.length) < 2 ^ (64 * i) * 2 ^ (64 * y.length) := Int.mul_lt_mul_of_pos_right h1 (two_pow_pos _)
   omega
  obtain ⟨out', c', h1, h2, h3, h4, h5, h6, h7⟩ := nat_Mul.l1_eq x y hy i m (x.getD i 0) hxi.1 hxi.2 hm (by omega) y.length k out 0 0 (by omega) (by omega) hl hw (by omega) (by omega) (getD_zero_of_lt hw htop)
  conv => lhs; unfold nat_Mul.l0
  have er : rd x (i : Int) = x.getD i 0 := rfl
  rw [if_pos (by omega), if_pos (by omega), if_pos (by omega), er]
  have h7' : nat_Mul.l1 (k + y.length + 1) y out i (x.getD i 0) 0 x (x.length : Int) i y (y.length : Int) 0 = nat_Mul.l0 k y (out'.set (i + y.length) c') x (x.length : Int) ((i + 1 : Nat) : Int) := h7
  rw [h7']
  refine ih k _ (i + 1) (by omega) (by omega) (by omega) (by rw [List.length_set, h2]) (h1.set _ h3 h4) ?_
  rw [nv_set (by omega), h5, nv_take_succ (by omega), Int.add_mul, ← hv]
  simp only [List.take_zero, nv_nil] at h6
  generalize (2 : Int) ^ (64 * i) = pi at *
  generalize (2 : Int) ^ (64 * (i + y.length)) = pl at *
  generalize x.getD i 0 = xi at *
  clear h7 h7' er ih hk hk'
  grind
theorem strip_take' (xs : List Int) : xs.take (strip xs).length = strip xs := (strip_take xs).symm
theorem bnd_big {n : Int} (h : (2 : Int) ^ 262144 ≤ n) : bnd n = ([], 21) := by unfold bnd; rw [if_neg (by omega)]
theorem nv_pos_iff {xs : List Int} (h : Ws xs) : 0 < nv xs ↔ (strip xs) ≠ [] := by
 rw [← strip_length_pos h]
 exact ⟨fun h1 h2 => by rw [h2] at h1; simp at h1, fun h1 => List.length_pos_iff.2 h1⟩
theorem nat_Mul.f_eq (x y : List Int) (hx : Ws x) (hy : Ws y) (hlx : x.length ≤ 1000000) (hly : y.length ≤ 1000000) (k : Nat) (hk : x.length * (y.length + 2) + x.length + y.length + 20 < k) :
  nat_Mul.f k x y = some (if nv x * nv y = 0 then ([], 0) else bnd (nv x * nv y)) := by
 have hsx := strip_length_le x
 have hsy := strip_length_le y
 have hm : (strip x).length * ((strip y).length + 2) ≤ x.length * (y.length + 2) := Nat.mul_le_mul hsx (by omega)
 obtain ⟨k, rfl⟩ : ∃ j, k = j + 1 := ⟨k - 1, by omega⟩
 rw [nat_Mul.f, nat_size.f_eq x (by omega) _ (by omega)]
 simp only [Option.bind_some]
 rw [if_pos (by omega), if_pos (by omega), nat_size.f_eq y (by omega) _ (by omega)]
 simp only [Option.bind_some]
 rw [if_pos (by omega), if_pos (by omega), Int.toNat_natCast, Int.toNat_natCast, strip_take', strip_take']
 have ex := nv_strip x
 have ey := nv_strip y
 have wx := hx.strip
 have wy := hy.strip
 have px := nv_pos_iff hx
 have py := nv_pos_iff hy
 rw [← ex, ← ey] at *
 generalize strip x = x' at *
 generalize strip y = y' at *
 have nx := nv_nonneg wx
 have ny := nv_nonneg wy
 by_cases h0 : x' = []
 ·subst h0
  rw [if_pos (by simp), nat_Mul.j0, if_pos rfl]
  simp [nv]
 ·have hx0 : x'.length ≠ 0 := fun h => h0 (List.eq_nil_of_length_eq_zero h)
  rw [if_neg (by omega)]
  by_cases h1 : y' = []
  ·subst h1
   rw [nat_Mul.j0, if_pos (by simp)]
   simp [nv]
  ·have hy0 : y'.length ≠ 0 := fun h => h1 (List.eq_nil_of_length_eq_zero h)
   have hpx := px.2 h0
   have hpy := py.2 h1
   have hp : 0 < nv x' * nv y' := Int.mul_pos hpx hpy
   rw [nat_Mul.j0, if_neg (by simp only [beq_iff_eq]; omega), nat_Bits.f_eq x' wx (by omega) k (by omega) (by omega), if_neg (show ¬ nv x' * nv y' = 0 by omega)]
   simp only [Option.bind_some]
   rw [nat_Bits.f_eq y' wy (by omega) k (by omega) (by omega)]
   simp only [Option.bind_some]
   have bx := bitsN_ge hpx
   have by_ := bitsN_ge hpy
   have bx1 := bitsN_pos hpx
   have by1 := bitsN_pos hpy
   have bx2 := bitsN_le_of_lt (n := 64 * x'.length) nx (nv_lt wx)
   have by2 := bitsN_le_of_lt (n := 64 * y'.length) ny (nv_lt wy)
   have hbx : 1 ≤ bitsN (nv x') := by omega
   have hby : 1 ≤ bitsN (nv y') := by omega
   clear bx1 by1
   have ew : wrap64 (bitsN (nv x') - 1) = bitsN (nv x') - 1 := by unfold wrap64; omega
   have ew2 : wrap64 (262144 - bitsN (nv y')) = 262144 - bitsN (nv y') := by clear ew; unfold wrap64; omega
   rw [ew, ew2]
   clear ew ew2
   by_cases hb : bitsN (nv x') - 1 > 262144 - bitsN (nv y')
   ·rw [if_pos hb, bnd_big]
    have h3 : (2 : Int) ^ 262144 ≤ 2 ^ ((bitsN (nv x')).toNat - 1 + ((bitsN (nv y')).toNat - 1)) := pow_mono (by omega)
    rw [Int.pow_add] at h3
    exact Int.le_trans h3 (Int.mul_le_mul bx by_ (Int.le_of_lt (two_pow_pos _)) nx)
   ·rw [if_neg hb]
    clear hb bx by_ bx2 by2 hbx hby
    have ew := w64_add x'.length y'.length (by omega)
    have c1 : (0 : Int) ≤ ((x'.length + y'.length : Nat) : Int) := Int.natCast_nonneg _
    rw [ew, if_pos c1, Int.toNat_natCast]
    clear ew c1
    rw [if_pos (by omega)]
    exact nat_Mul.l0_eq x' y' wx wy (x'.length + y'.length) (by omega) rfl x'.length k _ 0 (by omega) (by omega) (by omega) (by simp) (Ws.zeros _) (by rw [nv_zeros]; simp [nv])
theorem drop_set_self {xs : List Int} {m : Nat} (h : m < xs.length) (q : Int) : (xs.set m q).drop m = q :: xs.drop (m + 1) := by
 rw [List.drop_eq_getElem_cons (by rw [List.length_set]; exact h), List.getElem_set_self, List.drop_set_of_lt (by omega)]
theorem drop_getD {xs : List Int} {m : Nat} (h : m < xs.length) : xs.drop m = xs.getD m 0 :: xs.drop (m + 1) := by
 rw [List.drop_eq_getElem_cons h, List.getD_eq_getElem?_getD, List.getElem?_eq_getElem h]; rfl
theorem div_step {r x d : Int} (hr0 : 0 ≤ r) (hr : r < d) (hx0 : 0 ≤ x) (hx : x < 18446744073709551616) (hd : d < 18446744073709551616) :
  wide_Div.f r x d = some ((r * 18446744073709551616 + x) / d, (r * 18446744073709551616 + x) % d, 0) ∧ 0 ≤ (r * 18446744073709551616 + x) / d ∧ (r * 18446744073709551616 + x) / d < 18446744073709551616 ∧
   0 ≤ (r * 18446744073709551616 + x) % d ∧ (r * 18446744073709551616 + x) % d < d ∧ r * 18446744073709551616 + x = (r * 18446744073709551616 + x) / d * d + (r * 18446744073709551616 + x) % d := by
 have hdp : 0 < d := by omega
 refine ⟨?_, Int.ediv_nonneg (by omega) (by omega), Int.ediv_lt_of_lt_mul hdp ?_, Int.emod_nonneg _ (by omega), Int.emod_lt_of_pos _ hdp, ?_⟩
 ·unfold wide_Div.f
  rw [if_pos ⟨u64B_iff.2 ⟨hr0, by omega⟩, u64B_iff.2 ⟨hx0, hx⟩, u64B_iff.2 ⟨by omega, hd⟩⟩, if_neg (by omega), if_neg (by omega)]
 ·have : r * 18446744073709551616 ≤ (d - 1) * 18446744073709551616 := Int.mul_le_mul_of_nonneg_right (by omega) (by omega)
  rw [Int.sub_mul] at this
  rw [Int.mul_comm]
  omega
 ·have := Int.mul_ediv_add_emod (r * 18446744073709551616 + x) d
  rw [Int.mul_comm] at this
  omega
theorem quot_Small.l0_eq (x : List Int) (hx : Ws x) (d : Int) (hd0 : 0 < d) (hd : d < 18446744073709551616) (hm : x.length ≤ 35184372088832) : ∀ (n k : Nat) (out : List Int) (r : Int), n < k → n ≤ x.length → out.length = x.length → Ws out → 0 ≤ r → r < d → nv (x.drop n) = nv (out.drop n) * d + r →
  quot_Small.l0 k x d out r ((n : Int) - 1) = some (wd (nv x / d).toNat, nv x % d, 0) := by
 intro n
 induction n with
 | zero =>
  intro k out r hk hn hl hw hr0 hr hv
  obtain ⟨k, rfl⟩ : ∃ j, k = j + 1 := ⟨k - 1, by omega⟩
  simp only [quot_Small.l0]
  rw [if_neg (by omega), nat_Norm.f, if_pos (by omega)]
  simp only [Option.bind_some, List.drop_zero] at hv ⊢
  have e1 : nv x / d = nv out := by rw [hv, Int.add_comm, Int.add_mul_ediv_right _ _ (by omega), Int.ediv_eq_zero_of_lt hr0 hr, Int.zero_add]
  have e2 : nv x % d = r := by rw [hv, Int.add_comm, Int.add_mul_emod_self_right, Int.emod_eq_of_lt hr0 hr]
  rw [e1, e2, wd_nv hw]
 | succ n ih =>
  intro k out r hk hn hl hw hr0 hr hv
  obtain ⟨k, rfl⟩ : ∃ j, k = j + 1 := ⟨k - 1, by omega⟩
  have q1 : ((n : Int)) ≥ 0 := by omega
  have q2 : (n : Int) < (x.length : Int) := by omega
  have q3 : (n : Int) < (out.length : Int) := by omega
  have q4 : n < out.length := by omega
  have q5 : n < x.length := by omega
  have q6 : n < k := by omega
  have q7 : n ≤ x.length := by omega
  have ew : wrap64 ((n : Int) - 1) = (n : Int) - 1 := by unfold wrap64; omega
  have ho := hx.getD n
  obtain ⟨e1, e2, e3, e4, e5, e6⟩ := div_step hr0 hr ho.1 ho.2 hd
  have en : ((n + 1 : Nat) : Int) - 1 = (n : Int) := by omega
  have er : rd x (n : Int) = x.getD n 0 := rfl
  simp only [quot_Small.l0]
  rw [en, if_pos q1, if_pos q1, if_pos q2, er, e1]
  simp only [Option.bind_some]
  rw [if_pos q3, ew, Int.toNat_natCast]
  refine ih k _ _ q6 q7 (by rw [List.length_set, hl]) (hw.set _ e2 e3) e4 e5 ?_
  rw [drop_set_self q4, drop_getD q5, nv_cons, nv_cons, hv]
  generalize (r * 18446744073709551616 + x.getD n 0) / d = q at *
  generalize (r * 18446744073709551616 + x.getD n 0) % d = s at *
  generalize nv (out.drop (n + 1)) = z at *
  generalize x.getD n 0 = y at *
  clear ew e1 er en
  grind
theorem quot_Small.f_eq (x : List Int) (hx : Ws x) (d : Int) (hd0 : 0 < d) (hd : d < 18446744073709551616) (hm : x.length ≤ 35184372088832) (k : Nat) (hk : x.length < k) :
  quot_Small.f k x d = some (wd (nv x / d).toNat, nv x % d, 0) := by
 have ew : wrap64 ((x.length : Int) - 1) = (x.length : Int) - 1 := by unfold wrap64; omega
 rw [quot_Small.f, ew, if_neg (by omega), if_pos (by omega), Int.toNat_natCast, if_pos hm]
 exact quot_Small.l0_eq x hx d hd0 hd hm x.length k _ 0 hk (Nat.le_refl _) (by simp) (Ws.zeros _) (Int.le_refl _) hd0 (by rw [List.drop_eq_nil_of_le (Nat.le_refl _), List.drop_eq_nil_of_le (by simp)]; simp [nv])
theorem pow_split {s : Nat} (h : s ≤ 64) : (2 : Int) ^ s * 2 ^ (64 - s) = 18446744073709551616 := by
 rw [← Int.pow_add, show s + (64 - s) = 64 from by omega]; rfl
theorem shl_low {x P R : Int} (hP : 0 < P) (h : P * R = 18446744073709551616) : x * P % 18446744073709551616 = P * (x % R) := by
 rw [← h, Int.mul_comm x P, Int.mul_emod_mul_of_pos _ _ hP]
theorem shl_word {x P R : Int} (hP : 0 < P) (h : P * R = 18446744073709551616) : x * P = 18446744073709551616 * (x / R) + x * P % 18446744073709551616 := by
 rw [shl_low hP h]
 have h1 := Int.mul_ediv_add_emod x R
 generalize x / R = a at *
 generalize x % R = b at *
 rw [← h, ← h1]
 grind
theorem wide_Shl.f_eq {hi lo : Int} {s : Nat} (hs1 : 1 ≤ s) (hs : s ≤ 63) (h0 : 0 ≤ hi) (h1 : hi < 18446744073709551616) (l0 : 0 ≤ lo) (l1 : lo < 18446744073709551616) :
  wide_Shl.f hi lo (s : Int) = some (hi * 2 ^ s % 18446744073709551616 + lo / 2 ^ (64 - s), lo * 2 ^ s % 18446744073709551616) := by
 have e1 : mn (mx (s : Int) 0) 128 = (s : Int) := by
  unfold mn mx
  rw [if_neg (by omega), if_neg (by omega)]
 have ew : wrap64 (64 - (s : Int)) = ((64 - s : Nat) : Int) := by unfold wrap64; omega
 have c1 : (0 : Int) ≤ (s : Int) := by clear ew e1; omega
 have c2 : ¬ (s : Int) ≥ 64 := by clear ew e1; omega
 have c3 : (0 : Int) ≤ ((64 - s : Nat) : Int) := Int.natCast_nonneg _
 have hP := two_pow_pos s
 have hR := two_pow_pos (64 - s)
 have hPR := pow_split (s := s) (by omega)
 rw [wide_Shl.f, wide_within.f, e1]
 simp only [Option.bind_some]
 rw [if_neg c2, if_pos c1, ew, if_pos c3]
 clear ew e1 c1 c2 c3
 have m1 : min s 64 = s := Nat.min_eq_left (by omega)
 have m2 : min (64 - s) 64 = 64 - s := Nat.min_eq_left (by omega)
 rw [shl_eq, shl_eq, shr_eq, Int.toNat_natCast, Int.toNat_natCast, m1, m2]
 have hx : hi * 2 ^ s % 18446744073709551616 % 2 ^ s = 0 := by rw [shl_low hP hPR, Int.mul_emod_right]
 have hy : lo / 2 ^ (64 - s) < 2 ^ s := Int.ediv_lt_of_lt_mul hR (by rw [hPR]; exact l1)
 have hle : (2 : Int) ^ s ≤ 2 ^ 63 := pow_mono hs
 have hy0 : 0 ≤ lo / 2 ^ (64 - s) := Int.ediv_nonneg l0 (Int.le_of_lt hR)
 rw [or_join s (Int.emod_nonneg _ (by decide)) (Int.emod_lt_of_pos _ (by decide)) hx hy0 hy (Int.lt_trans (Int.lt_of_lt_of_le hy hle) (by decide))]
theorem take_getD {xs ys : List Int} {n j : Nat} (h : xs.take n = ys.take n) (hj : j < n) : xs.getD j 0 = ys.getD j 0 := by
 have h1 : (xs.take n)[j]? = (ys.take n)[j]? := by rw [h]
 rw [List.getElem?_take, List.getElem?_take, if_pos hj, if_pos hj] at h1
 rw [List.getD_eq_getElem?_getD, List.getD_eq_getElem?_getD, h1]
theorem take_set_self {xs : List Int} {n : Nat} {v : Int} : (xs.set n v).take n = xs.take n := by
 rw [List.take_set]
 exact List.set_eq_of_length_le (by rw [List.length_take]; omega)
theorem take_less {xs ys : List Int} {n : Nat} (h : xs.take (n + 1) = ys.take (n + 1)) : xs.take n = ys.take n := by
 have h1 : (xs.take (n + 1)).take n = (ys.take (n + 1)).take n := by rw [h]
 rwa [List.take_take, List.take_take, Nat.min_eq_left (by omega)] at h1
theorem nat_Shl.l0_eq (y : List Int) (hy : Ws y) (q s m : Nat) (a1 : Int) (ea : wrap64 (Int.tdiv a1 64) = (q : Int)) (hs1 : 1 ≤ s) (hs : s ≤ 63) (hm : m ≤ 35184372088832) (hlm : y.length = m) (hz : nv (y.take q) = 0) :
  ∀ (e k : Nat) (cur : List Int) (i : Nat), i = q + e → e + m + 1 < k → i < m → cur.length = m → Ws cur → cur.take (i + 1) = y.take (i + 1) → nv (cur.drop (i + 1)) = nv (y.drop (i + 1)) * 2 ^ s + y.getD i 0 / 2 ^ (64 - s) →
  nat_Shl.l0 k a1 cur (s : Int) (i : Int) = some (bnd (nv y * 2 ^ s)) := by
 have hP := two_pow_pos s
 have hR := two_pow_pos (64 - s)
 have hPR := pow_split (s := s) (by omega)
 intro e
 induction e with
 | zero =>
  intro k cur i hi hk him hl hw ht hv
  obtain ⟨k, rfl⟩ : ∃ j, k = j + 1 := ⟨k - 1, by clear ea hP hR hPR hv hz; omega⟩
  obtain rfl : i = q := hi
  have c1 : ¬ (i : Int) > (i : Int) := Int.lt_irrefl _
  have c2 : (0 : Int) ≤ (i : Int) := Int.natCast_nonneg _
  have c3 : (i : Int) < (cur.length : Int) := by rw [hl]; exact Int.ofNat_lt.2 him
  have c4 : (0 : Int) ≤ (s : Int) := Int.natCast_nonneg _
  have c5 : i < cur.length := by rw [hl]; exact him
  have c6 : i < y.length := by rw [hlm]; exact him
  have c7 : m < k := by clear ea hP hR hPR hv hz; omega
  have er : rd cur (i : Int) = cur.getD i 0 := rfl
  have m1 : min s 64 = s := Nat.min_eq_left (by clear ea hP hR hPR hv hz; omega)
  conv => lhs; unfold nat_Shl.l0
  rw [ea, if_neg c1, if_pos c2, if_pos c3, if_pos c4, er, take_getD ht (Nat.lt_succ_self i), shl_eq, Int.toNat_natCast, Int.toNat_natCast, m1]
  have hw' : Ws (cur.set i (y.getD i 0 * 2 ^ s % 18446744073709551616)) := hw.set _ (Int.emod_nonneg _ (by decide)) (Int.emod_lt_of_pos _ (by decide))
  rw [nat_bound.f_bnd hw' (by rw [List.length_set, hl]; exact hm) k (by rw [List.length_set, hl]; exact c7)]
  simp only [Option.bind_some]
  have e1 : nv (cur.set i (y.getD i 0 * 2 ^ s % 18446744073709551616)) = nv y * 2 ^ s := by
   rw [nv_split (xs := cur.set i _) (n := i) (by rw [List.length_set]; exact Nat.le_of_lt c5), take_set_self, take_less ht, hz, drop_set_self c5, nv_cons, hv, nv_split (xs := y) (n := i) (Nat.le_of_lt c6), hz, drop_getD c6, nv_cons]
   have h2 := shl_word (x := y.getD i 0) hP hPR
   generalize y.getD i 0 / 2 ^ (64 - s) = u at *
   generalize y.getD i 0 * 2 ^ s % 18446744073709551616 = v at *
   generalize nv (y.drop (i + 1)) = z at *
   generalize y.getD i 0 = w at *
   generalize (2 : Int) ^ (64 * i) = p at *
   generalize (2 : Int) ^ s = P at *
   clear hv ht ea er
   grind
  rw [e1]
 | succ e ih =>
  intro k cur i hi hk him hl hw ht hv
  obtain ⟨k, rfl⟩ : ∃ j, k = j + 1 := ⟨k - 1, by clear ea hP hR hPR hv hz; omega⟩
  obtain ⟨i, rfl⟩ : ∃ j, i = j + 1 := ⟨i - 1, by clear ea hP hR hPR hv hz; omega⟩
  have c1 : ((i + 1 : Nat) : Int) > (q : Int) := by clear ea hP hR hPR hv hz; omega
  have c2 : (0 : Int) ≤ ((i + 1 : Nat) : Int) := Int.natCast_nonneg _
  have c3 : ((i + 1 : Nat) : Int) < (cur.length : Int) := by rw [hl]; exact Int.ofNat_lt.2 him
  have ew : wrap64 (((i + 1 : Nat) : Int) - 1) = (i : Int) := by clear ea hP hR hPR hv hz; unfold wrap64; omega
  have c4 : (0 : Int) ≤ (i : Int) := Int.natCast_nonneg _
  have c5 : (i : Int) < (cur.length : Int) := by clear ea hP hR hPR hv hz ew; omega
  have c6 : i + 1 < cur.length := by clear ea hP hR hPR hv hz ew; omega
  have c7 : i + 1 < y.length := by clear ea hP hR hPR hv hz ew; omega
  have d1 : i = q + e := by clear ea hP hR hPR hv hz ew; omega
  have d2 : e + m + 1 < k := by clear ea hP hR hPR hv hz ew; omega
  have d3 : i < m := by clear ea hP hR hPR hv hz ew; omega
  have er : rd cur ((i + 1 : Nat) : Int) = cur.getD (i + 1) 0 := rfl
  have er2 : rd cur (i : Int) = cur.getD i 0 := rfl
  have y1 := hy.getD (i + 1)
  have y0 := hy.getD i
  conv => lhs; unfold nat_Shl.l0
  rw [ea, if_pos c1, if_pos c2, if_pos c3, ew, if_pos c4, if_pos c5, er, er2, take_getD ht (Nat.lt_succ_self (i + 1)), take_getD ht (show i < i + 1 + 1 from Nat.lt_succ_of_lt (Nat.lt_succ_self i)), wide_Shl.f_eq hs1 hs y1.1 y1.2 y0.1 y0.2]
  simp only [Option.bind_some]
  rw [Int.toNat_natCast]
  have hlow := shl_low (x := y.getD (i + 1) 0) hP hPR
  have g0 : 0 ≤ y.getD (i + 1) 0 % 2 ^ (64 - s) := Int.emod_nonneg _ (Int.ne_of_gt hR)
  have g1 : y.getD (i + 1) 0 % 2 ^ (64 - s) < 2 ^ (64 - s) := Int.emod_lt_of_pos _ hR
  have g2 : 0 ≤ y.getD i 0 / 2 ^ (64 - s) := Int.ediv_nonneg y0.1 (Int.le_of_lt hR)
  have g3 : y.getD i 0 / 2 ^ (64 - s) < 2 ^ s := Int.ediv_lt_of_lt_mul hR (by rw [hPR]; exact y0.2)
  have v0 : 0 ≤ y.getD (i + 1) 0 * 2 ^ s % 18446744073709551616 + y.getD i 0 / 2 ^ (64 - s) := Int.add_nonneg (Int.emod_nonneg _ (by decide)) g2
  have v1 : y.getD (i + 1) 0 * 2 ^ s % 18446744073709551616 + y.getD i 0 / 2 ^ (64 - s) < 18446744073709551616 := by
   rw [hlow, ← hPR]
   have h3 : 2 ^ s * (y.getD (i + 1) 0 % 2 ^ (64 - s) + 1) ≤ 2 ^ s * 2 ^ (64 - s) := Int.mul_le_mul_of_nonneg_left g1 (Int.le_of_lt hP)
   rw [Int.mul_add, Int.mul_one] at h3
   exact Int.lt_of_lt_of_le (Int.add_lt_add_left g3 _) h3
  refine ih k _ i d1 d2 d3 (by rw [List.length_set]; exact hl) (hw.set _ v0 v1) (by rw [take_set_self]; exact take_less ht) ?_
  rw [drop_set_self c6, drop_getD c7, nv_cons, nv_cons, hv]
  have h2 := shl_word (x := y.getD (i + 1) 0) hP hPR
  clear ew ea er er2 hlow g0 g1 g2 g3 v0 v1 y0 y1 ht hv ih
  generalize y.getD (i + 1) 0 * 2 ^ s % 18446744073709551616 = v at *
  generalize y.getD (i + 1) 0 / 2 ^ (64 - s) = u at *
  generalize y.getD i 0 / 2 ^ (64 - s) = t at *
  generalize y.getD (i + 1) 0 = w at *
  generalize nv (y.drop (i + 1 + 1)) = z at *
  generalize (2 : Int) ^ s = P at *
  grind
open Go Go.RowKit Go.Proofs.YthjleohmlohgbaaDoorW.PrintWords Go.Proofs.YthjleohmlohgbaaDoorW.PrintLast Go.Proofs.YthjleohmlohgbaaDoorW.PrintMore
def Hs (xs : List Int) : Prop := ∀ x ∈ xs, 0 ≤ x ∧ x < 4294967296
def hv : List Int → Int
 | [] => 0
 | x :: xs => x + 4294967296 * hv xs
theorem hv_cons (x : Int) (xs : List Int) : hv (x :: xs) = x + 4294967296 * hv xs := rfl
theorem pow32 (n : Nat) : (2 : Int) ^ (32 * (n + 1)) = 4294967296 * 2 ^ (32 * n) := by
 rw [show 32 * (n + 1) = 32 + 32 * n from by omega, Int.pow_add]; rfl
theorem hv_append (xs ys : List Int) : hv (xs ++ ys) = hv xs + 2 ^ (32 * xs.length) * hv ys := by
 induction xs with
 | nil => simp [hv]
 | cons x xs ih =>
  rw [List.cons_append, hv_cons, hv_cons, ih, List.length_cons, pow32]
  grind
theorem Hs.getD {xs : List Int} (h : Hs xs) (n : Nat) : 0 ≤ xs.getD n 0 ∧ xs.getD n 0 < 4294967296 := by
 rw [List.getD_eq_getElem?_getD]
 cases e : xs[n]? with
 | none => simp
 | some v => simpa using h v (List.mem_of_getElem? e)
theorem Hs.set {xs : List Int} (h : Hs xs) (n : Nat) {v : Int} (h0 : 0 ≤ v) (h1 : v < 4294967296) : Hs (xs.set n v) := by
 intro y hy
 rcases List.mem_or_eq_of_mem_set hy with hy | rfl
 ·exact h y hy
 ·exact ⟨h0, h1⟩
theorem Hs.snoc {xs : List Int} (h : Hs xs) {v : Int} (h0 : 0 ≤ v) (h1 : v < 4294967296) : Hs (xs ++ [v]) := by
 intro y hy
 rcases List.mem_append.1 hy with hy | hy
 ·exact h y hy
 ·rcases List.mem_singleton.1 hy with rfl
  exact ⟨h0, h1⟩
theorem hv_take_succ {xs : List Int} {i : Nat} (h : i < xs.length) : hv (xs.take (i + 1)) = hv (xs.take i) + xs.getD i 0 * 2 ^ (32 * i) := by
 rw [List.take_succ_eq_append_getElem h, hv_append, List.length_take, Nat.min_eq_left (by omega), List.getD_eq_getElem?_getD, List.getElem?_eq_getElem h]
 simp [hv]
 rw [Int.mul_comm]
theorem plumbref04_cut.l0_eq : ∀ (n k : Nat) (xs : List Int), xs.length = n → n < k → n < 100000000 → plumbref04_cut.l0 k xs = some (strip xs) := by
 intro n
 induction n with
 | zero =>
  intro k xs hl hk hm
  obtain ⟨k, rfl⟩ : ∃ j, k = j + 1 := ⟨k - 1, by omega⟩
  rw [List.eq_nil_of_length_eq_zero hl]
  rfl
 | succ n ih =>
  intro k xs hl hk hm
  obtain ⟨k, rfl⟩ : ∃ j, k = j + 1 := ⟨k - 1, by omega⟩
  have c1 : (xs.length : Int) > 0 := by omega
  have c2 : (0 : Int) ≤ (n : Int) := Int.natCast_nonneg _
  have c3 : (n : Int) < (xs.length : Int) := by omega
  have c4 : (n : Int) ≤ (xs.length : Int) := by omega
  have c5 : n < xs.length := by omega
  have ew : wrap64 ((xs.length : Int) - 1) = (n : Int) := by rw [hl]; unfold wrap64; omega
  have er : rd xs (n : Int) = xs.getD n 0 := rfl
  have e2 : xs = xs.take n ++ [xs.getD n 0] := by
   conv => lhs; rw [← List.take_of_length_le (l := xs) (i := n + 1) (by omega), List.take_succ_eq_append_getElem c5]
   rw [List.getD_eq_getElem?_getD, List.getElem?_eq_getElem c5]; rfl
  simp only [plumbref04_cut.l0]
  rw [if_pos c1, ew, if_pos c2, if_pos c3, er, Int.toNat_natCast]
  by_cases h : xs.getD n 0 = 0
  ·rw [if_pos h, if_pos c4, ih k _ (by rw [List.length_take]; clear ew er; omega) (by clear ew er; omega) (by clear ew er; omega)]
   conv => rhs; rw [e2, h, strip_snoc_zero]
  ·rw [if_neg h]
   conv => rhs; rw [e2, strip_snoc_ne _ h]
   rw [← e2]
theorem word_join {lo hi : Int} (h0 : 0 ≤ lo) (h1 : lo < 4294967296) (h2 : 0 ≤ hi) (h3 : hi < 4294967296) : Go.bits .or .u64 lo (IntKind.u64.wrap (hi * 4294967296)) = lo + hi * 4294967296 := by
 rw [u64w_of (by omega) (by omega)]
 exact or_join' 32 (by omega) (by omega) (show hi * 4294967296 % 4294967296 = 0 by omega) h0 (show lo < 4294967296 from h1) (by omega)
theorem w64_two (i : Nat) (h : i < 9223372036854775800) : wrap64 ((i : Int) + 2) = ((i + 2 : Nat) : Int) := by unfold wrap64; omega
theorem nv_snocL (xs : List Int) (w : Int) : nv (xs ++ [w]) = nv xs + w * 2 ^ (64 * xs.length) := by
 rw [nv_append]
 simp [nv]
 rw [Int.mul_comm]
theorem ws_snoc {xs : List Int} (h : Ws xs) {v : Int} (h0 : 0 ≤ v) (h1 : v < 18446744073709551616) : Ws (xs ++ [v]) := h.append (Ws.cons h0 h1 Ws.nil)
theorem plumbref04_words.l0_eq (x : List Int) (hx : Hs x) (hm : x.length < 100000000) : ∀ (d k : Nat) (acc : List Int) (t : Nat), x.length + 2 ≤ d + 2 * t → d + x.length + 10 < k → 2 * t ≤ x.length + 1 → acc.length = t → Ws acc → nv acc = hv (x.take (2 * t)) →
  plumbref04_words.l0 k x acc ((2 * t : Nat) : Int) = some (wd (hv x).toNat) := by
 intro d
 induction d with
 | zero =>
  intro k acc t hd hk ht hl hw hv_
  omega
 | succ d ih =>
  intro k acc t hd hk ht hl hw hv_
  obtain ⟨k, rfl⟩ : ∃ j, k = j + 1 := ⟨k - 1, by omega⟩
  by_cases h0 : 2 * t < x.length
  ·have c1 : ((2 * t : Nat) : Int) < (x.length : Int) := Int.ofNat_lt.2 h0
   have c2 : (0 : Int) ≤ ((2 * t : Nat) : Int) := Int.natCast_nonneg _
   have c3 : acc.length < 17592186044416 := by omega
   have c4 : (0 : Int) ≤ ((2 * t + 1 : Nat) : Int) := Int.natCast_nonneg _
   have d1 : x.length + 2 ≤ d + 2 * (t + 1) := by omega
   have d2 : d + x.length + 10 < k := by omega
   have d3 : 2 * (t + 1) ≤ x.length + 1 := by omega
   have b1 : 2 * t < 9223372036854775800 := by omega
   have b2 : 2 * t < 9223372036854775807 := by omega
   have ew2 := w64_two (2 * t) b1
   have ew1 := w64_succ (2 * t) b2
   have ho := hx.getD (2 * t)
   have ho1 := hx.getD (2 * t + 1)
   have er : rd x ((2 * t : Nat) : Int) = x.getD (2 * t) 0 := rfl
   have er1 : rd x ((2 * t + 1 : Nat) : Int) = x.getD (2 * t + 1) 0 := rfl
   simp only [plumbref04_words.l0]
   rw [if_pos c1, if_pos c2, ew1, ew2]
   by_cases h1 : 2 * t + 1 < x.length
   ·have c5 : ((2 * t + 1 : Nat) : Int) < (x.length : Int) := Int.ofNat_lt.2 h1
    rw [if_pos c5, if_pos c4, if_pos c3, er, er1, word_join ho.1 ho.2 ho1.1 ho1.2]
    refine ih k _ (t + 1) d1 d2 d3 (by rw [List.length_append, hl]; rfl) (ws_snoc hw (by clear ew1 ew2 er er1; omega) (by clear ew1 ew2 er er1; omega)) ?_
    rw [nv_snocL, hv_, show 2 * (t + 1) = 2 * t + 1 + 1 from by clear ew1 ew2 er er1; omega, hv_take_succ h1, hv_take_succ h0, pow32, hl, show 32 * (2 * t) = 64 * t from by clear ew1 ew2 er er1; omega]
    generalize (2 : Int) ^ (64 * t) = p
    generalize x.getD (2 * t) 0 = a
    generalize x.getD (2 * t + 1) 0 = b
    clear ew1 ew2 er er1
    grind
   ·have c5 : ¬ ((2 * t + 1 : Nat) : Int) < (x.length : Int) := fun h => h1 (Int.ofNat_lt.1 h)
    rw [if_neg c5, if_pos c3, er]
    refine ih k _ (t + 1) d1 d2 d3 (by rw [List.length_append, hl]; rfl) (ws_snoc hw (by clear ew1 ew2 er er1; omega) (by clear ew1 ew2 er er1; omega)) ?_
    have hxe : x.length = 2 * t + 1 := by clear ew1 ew2 er er1; omega
    rw [nv_snocL, hv_, List.take_of_length_le (i := 2 * (t + 1)) (by clear ew1 ew2 er er1; omega)]
    have e9 : hv x = hv (x.take (2 * t + 1)) := by rw [List.take_of_length_le (by rw [hxe]; exact Nat.le_refl _)]
    rw [e9, hv_take_succ h0, hl, show 32 * (2 * t) = 64 * t from by clear ew1 ew2 er er1 e9; omega]
  ·have c1 : ¬ ((2 * t : Nat) : Int) < (x.length : Int) := fun h => h0 (Int.ofNat_lt.1 h)
   rw [List.take_of_length_le (by omega)] at hv_
   simp only [plumbref04_words.l0]
   rw [if_neg c1, plumbref04_cut.f, plumbref04_cut.l0_eq acc.length k acc rfl (by omega) (by omega), ← hv_, wd_nv hw]
   rfl
end Go.Proofs.YthjleohmlohgbaaDoor.PA
