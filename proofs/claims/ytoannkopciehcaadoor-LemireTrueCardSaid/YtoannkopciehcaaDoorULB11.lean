/- A part of the proof (11). -/
import Derived.Test.YtoannkopciehcaaDoorULB2
import Derived.Test.YtoannkopciehcaaDoorULB4
import Derived.Test.YtoannkopciehcaaDoorULB10
namespace Go.Proofs.YtoannkopciehcaaDoor.PA
open Go.RowKit Go.Proofs.YtoannkopciehcaaDoorW.PrintWords Go.Proofs.YtoannkopciehcaaDoorW.PrintLast Go.Proofs.YtoannkopciehcaaDoorW.PrintMore
attribute [local go_sem] max2_int min2_int max_two min_two max_three min_three max_four min_four   -- for this text's walks alone
set_option linter.unusedVariables false
set_option linter.unusedSimpArgs false

/-! ### lemire_Cut: function 15 -/
mutual
def lemire_Cut.l0 : Nat → ByteArray → Int → Int → Option (Int × Int × Bool × Int)
 | 0, _, _, _ => none
 | k + 1, x0, x12, x13 => if x13 < x12 then (if 0 ≤ x13 then (if x13 < (x0.size : Int) then (if (bt x0 x13) < 48 then (some (0, 0, false, 41)) else (if (bt x0 x13) > 57 then (some (0, 0, false, 41)) else (lemire_Cut.l0 k x0 x12 (wrap64 (x13 + 1))))) else (none)) else (none)) else (lemire_Cut.l1 k x0 0)
def lemire_Cut.j2 : Nat → ByteArray → Int → Option (Int × Int × Bool × Int)
 | 0, _, _ => none
 | k + 1, x0, x7 => lemire_Cut.l2 k x0 x7 0 0
def lemire_Cut.j4 : Nat → ByteArray → Int → Int → Option (Int × Int × Bool × Int)
 | 0, _, _, _ => none
 | k + 1, x0, x7, x8 => lemire_Cut.l3 k x0 x7 x8 x7
def lemire_Cut.l3 : Nat → ByteArray → Int → Int → Int → Option (Int × Int × Bool × Int)
 | 0, _, _, _, _ => none
 | k + 1, x0, x7, x8, x10 => if x10 < (x0.size : Int) then (if 0 ≤ x10 then (if (bt x0 x10) = 48 then (lemire_Cut.l3 k x0 x7 x8 (wrap64 (x10 + 1))) else (some (x8, x7, true, 0))) else (none)) else (some (x8, x7, false, 0))
def lemire_Cut.l2 : Nat → ByteArray → Int → Int → Int → Option (Int × Int × Bool × Int)
 | 0, _, _, _, _ => none
 | k + 1, x0, x7, x8, x9 => if x9 < 19 then (if x7 < (x0.size : Int) then (if 0 ≤ x7 then (lemire_Cut.l2 k x0 (wrap64 (x7 + 1)) (IntKind.u64.wrap ((IntKind.u64.wrap (x8 * 10)) + (((bt x0 x7) - 48) % 256))) (wrap64 (x9 + 1))) else (none)) else (lemire_Cut.j4 k x0 x7 x8)) else (lemire_Cut.j4 k x0 x7 x8)
def lemire_Cut.l1 : Nat → ByteArray → Int → Option (Int × Int × Bool × Int)
 | 0, _, _ => none
 | k + 1, x0, x7 => if x7 < (x0.size : Int) then (if 0 ≤ x7 then (if (bt x0 x7) = 48 then (lemire_Cut.l1 k x0 (wrap64 (x7 + 1))) else (lemire_Cut.j2 k x0 x7)) else (none)) else (lemire_Cut.j2 k x0 x7)
end
def lemire_Cut.f (k : Nat) (a0 : ByteArray) : Option (Int × Int × Bool × Int) := lemire_Cut.l0 k a0 (a0.size : Int) 0
theorem lemire_Cut.mono_l : ∀ k, (∀ y0 y1 y2, LeO (lemire_Cut.l0 k y0 y1 y2) (lemire_Cut.l0 (k + 1) y0 y1 y2)) ∧ (∀ y0 y1, LeO (lemire_Cut.j2 k y0 y1) (lemire_Cut.j2 (k + 1) y0 y1)) ∧ (∀ y0 y1 y2, LeO (lemire_Cut.j4 k y0 y1 y2) (lemire_Cut.j4 (k + 1) y0 y1 y2)) ∧ (∀ y0 y1 y2 y3, LeO (lemire_Cut.l3 k y0 y1 y2 y3) (lemire_Cut.l3 (k + 1) y0 y1 y2 y3)) ∧ (∀ y0 y1 y2 y3, LeO (lemire_Cut.l2 k y0 y1 y2 y3) (lemire_Cut.l2 (k + 1) y0 y1 y2 y3)) ∧ (∀ y0 y1, LeO (lemire_Cut.l1 k y0 y1) (lemire_Cut.l1 (k + 1) y0 y1))
 | 0 => ⟨fun _ _ _ r h => by simp [lemire_Cut.l0] at h, fun _ _ r h => by simp [lemire_Cut.j2] at h, fun _ _ _ r h => by simp [lemire_Cut.j4] at h, fun _ _ _ _ r h => by simp [lemire_Cut.l3] at h, fun _ _ _ _ r h => by simp [lemire_Cut.l2] at h, fun _ _ r h => by simp [lemire_Cut.l1] at h⟩
 | k + 1 => by
  obtain ⟨ih0, ih1, ih2, ih3, ih4, ih5⟩ := lemire_Cut.mono_l k
  refine ⟨?_, ?_, ?_, ?_, ?_, ?_⟩
  ·intro y0 y1 y2
   unfold lemire_Cut.l0
   exact mX
  ·intro y0 y1
   unfold lemire_Cut.j2
   exact mX
  ·intro y0 y1 y2
   unfold lemire_Cut.j4
   exact mX
  ·intro y0 y1 y2 y3
   unfold lemire_Cut.l3
   exact mX
  ·intro y0 y1 y2 y3
   unfold lemire_Cut.l2
   exact mX
  ·intro y0 y1
   unfold lemire_Cut.l1
   exact mX
theorem lemire_Cut.mono : ∀ a0 k, LeO (lemire_Cut.f k a0) (lemire_Cut.f (k + 1) a0) := by
 intro a0 k
 obtain ⟨ih0, ih1, ih2, ih3, ih4, ih5⟩ := lemire_Cut.mono_l k
 unfold lemire_Cut.f
 exact mX
set_option maxHeartbeats 8000000 in
set_option maxRecDepth 100000 in
theorem lemire_Cut.calls (k : Nat) (a0 : ByteArray) (r1 : Int) (r2 : Int) (r3 : Bool) (r4 : Int) (w : World) (h : lemire_Cut.f k a0 = some (r1, r2, r3, r4)) :
  Calls Tryd.prog 15 #[.string a0] w fun e w' => e = .returned (.tuple #[.int .u64 r1, .int .i64 r2, .bool r3, .int .i64 r4]) ∧ Drawn0 w w' := by
 have H : (lemire_Cut.l0 k a0 (a0.size : Int) 0) = some (r1, r2, r3, r4) := h
 clear h
 have H' := Aside0.mk H
 clear H
 go_enter Tryd.func15, Tryd.ntmps15
 go_wp2
 go_loopg [13] k (fun kq v13 w' => ∃ (x13_1 : Int), v13 = .int .i64 x13_1 ∧ Aside0 (lemire_Cut.l0 kq a0 (a0.size : Int) x13_1 = some (r1, r2, r3, r4)) ∧ Aside0 (kq ≤ k) ∧ Drawn0 w w')
 case atStart => exact ⟨(0), dF, H', ⟨Nat.le_refl _⟩, by repeat (first | exact Drawn0.refl _ | apply Drawn0.step)⟩
 case round =>
  clear H'
  obtain ⟨x13_1, rfl, HA, HK1, ⟨m1, rfl⟩⟩ := hrel
  cases gk with
  | zero => exact absurd HA.out (by simp [lemire_Cut.l0])
  | succ k1 =>
   have H := HA.out
   clear HA
   simp only [lemire_Cut.l0] at H
   by_cases c2 : x13_1 < (a0.size : Int)
   ·rw [if_pos c2] at H
    have c2b0 : decide (x13_1 < (a0.size : Int)) = true := decide_eq_true c2
    clear c2
    by_cases c3 : (0 : Int) ≤ x13_1
    ·rw [if_pos c3] at H
     have c3b0 : decide (0 ≤ x13_1) = true := decide_eq_true c3
     clear c3
     by_cases c4 : x13_1 < (a0.size : Int)
     ·rw [if_pos c4] at H
      have c4b0 : decide (x13_1 < (a0.size : Int)) = true := decide_eq_true c4
      clear c4
      by_cases c6 : (bt a0 x13_1) < 48
      ·rw [if_pos c6] at H
       have c6b0 : decide ((bt a0 x13_1) < 48) = true := decide_eq_true c6
       clear c6
       simp only [Option.some.injEq, Prod.mk.injEq] at H
       obtain ⟨rfl, rfl, rfl, rfl⟩ := H
       have p5 : 0 ≤ (x13_1 : Int) := of_decide_eq_true dS
       have q5 : x13_1 < (a0.size : Int) := of_decide_eq_true dS
       have hx5 := bt_at a0 x13_1
       replace p5 := eq_true p5
       replace q5 := eq_true q5
       go_wp2
       refine bodyPost_ret (results_list (rs := [.tmp 2, .tmp 3, .tmp 4, .tmp 5]) rfl (by simp) (.tmp (.tmp (.tmp (.tmp .nil))))) rfl ?_
       exact ⟨by first | rfl | (simp; done) | (simp [*]; done), by repeat (first | exact Drawn0.refl _ | apply Drawn0.step)⟩
      ·rw [if_neg c6] at H
       have c6b0 : decide ((bt a0 x13_1) < 48) = false := decide_eq_false c6
       clear c6
       by_cases c8 : (bt a0 x13_1) > 57
       ·rw [if_pos c8] at H
        have c8b0 : decide (57 < (bt a0 x13_1)) = true := decide_eq_true c8
        clear c8
        simp only [Option.some.injEq, Prod.mk.injEq] at H
        obtain ⟨rfl, rfl, rfl, rfl⟩ := H
        have p5 : 0 ≤ (x13_1 : Int) := of_decide_eq_true dS
        have q5 : x13_1 < (a0.size : Int) := of_decide_eq_true dS
        have hx5 := bt_at a0 x13_1
        replace p5 := eq_true p5
        replace q5 := eq_true q5
        have p7 : 0 ≤ (x13_1 : Int) := of_decide_eq_true dS
        have q7 : x13_1 < (a0.size : Int) := of_decide_eq_true dS
        have hx7 := bt_at a0 x13_1
        replace p7 := eq_true p7
        replace q7 := eq_true q7
        go_wp2
        refine bodyPost_ret (results_list (rs := [.tmp 2, .tmp 3, .tmp 4, .tmp 5]) rfl (by simp) (.tmp (.tmp (.tmp (.tmp .nil))))) rfl ?_
        exact ⟨by first | rfl | (simp; done) | (simp [*]; done), by repeat (first | exact Drawn0.refl _ | apply Drawn0.step)⟩
       ·rw [if_neg c8] at H
        have c8b0 : decide (57 < (bt a0 x13_1)) = false := decide_eq_false c8
        clear c8
        have H' := Aside0.mk H
        clear H
        have p5 : 0 ≤ (x13_1 : Int) := of_decide_eq_true dS
        have q5 : x13_1 < (a0.size : Int) := of_decide_eq_true dS
        have hx5 := bt_at a0 x13_1
        replace p5 := eq_true p5
        replace q5 := eq_true q5
        have p7 : 0 ≤ (x13_1 : Int) := of_decide_eq_true dS
        have q7 : x13_1 < (a0.size : Int) := of_decide_eq_true dS
        have hx7 := bt_at a0 x13_1
        replace p7 := eq_true p7
        replace q7 := eq_true q7
        go_wp2
        go_roundg k1
        case measure => have := HK1.out; omega
        case rel => exact ⟨(wrap64 (x13_1 + 1)), dF, H', ⟨by have := HK1.out; omega⟩, by repeat (first | exact Drawn0.refl _ | apply Drawn0.step)⟩
     ·rw [if_neg c4] at H
      exact absurd H (by simp)
    ·rw [if_neg c3] at H
     exact absurd H (by simp)
   ·rw [if_neg c2] at H
    have c2b0 : decide (x13_1 < (a0.size : Int)) = false := decide_eq_false c2
    clear c2
    have HC9 := Aside0.mk H
    clear H
    go_upto_block 2 with (fail)
    go_cut [7] (fun v7 wc => ∃ (kq : Nat) (x7_8 : Int), v7 = .int .i64 x7_8 ∧ Aside0 (lemire_Cut.j2 kq a0 x7_8 = some (r1, r2, r3, r4)) ∧ Aside0 (kq ≤ k1) ∧ Drawn0 w wc)
    case first =>
     have H := HC9.out
     clear HC9
     have H' := Aside0.mk H
     clear H
     go_wp2
     go_loopg [7] k1 (fun kq v7 w' => ∃ (x7_2 : Int), v7 = .int .i64 x7_2 ∧ Aside0 (lemire_Cut.l1 kq a0 x7_2 = some (r1, r2, r3, r4)) ∧ Aside0 (kq ≤ k1) ∧ Drawn0 w w')
     case atStart => exact ⟨(0), dF, H', ⟨Nat.le_refl _⟩, by repeat (first | exact Drawn0.refl _ | apply Drawn0.step)⟩
     case round =>
      clear H'
      try clear c2
      try clear c2b0
      obtain ⟨x7_2, rfl, HA, HK2, ⟨m2, rfl⟩⟩ := hrel
      cases gk with
      | zero => exact absurd HA.out (by simp [lemire_Cut.l1])
      | succ k2 =>
       have H := HA.out
       clear HA
       simp only [lemire_Cut.l1] at H
       by_cases c10 : x7_2 < (a0.size : Int)
       ·rw [if_pos c10] at H
        have c10b0 : decide (x7_2 < (a0.size : Int)) = true := decide_eq_true c10
        clear c10
        (first | rw [c10b0] | (simp only [i64_w, i32_w]; rw [c10b0]) | skip)
        by_cases c11 : (0 : Int) ≤ x7_2
        ·rw [if_pos c11] at H
         have c11b0 : decide (0 ≤ x7_2) = true := decide_eq_true c11
         clear c11
         by_cases c13 : (bt a0 x7_2) = 48
         ·rw [if_pos c13] at H
          have c13b0 : ((bt a0 x7_2) == 48) = true := beq_iff_eq.mpr c13
          have c13b1 : ((bt a0 x7_2) != 48) = false := bne_eq_false_iff_eq.mpr c13
          clear c13
          have H' := Aside0.mk H
          clear H
          have p12 : 0 ≤ (x7_2 : Int) := of_decide_eq_true dS
          have q12 : x7_2 < (a0.size : Int) := of_decide_eq_true dS
          have hx12 := bt_at a0 x7_2
          replace p12 := eq_true p12
          replace q12 := eq_true q12
          go_wp2
          go_roundg k2
          case measure => have := HK1.out; have := HK2.out; omega
          case rel => exact ⟨(wrap64 (x7_2 + 1)), dF, H', ⟨by have := HK1.out; have := HK2.out; omega⟩, by repeat (first | exact Drawn0.refl _ | apply Drawn0.step)⟩
         ·rw [if_neg c13] at H
          have c13b0 : ((bt a0 x7_2) == 48) = false := beq_eq_false_iff_ne.mpr c13
          have c13b1 : ((bt a0 x7_2) != 48) = true := bne_iff_ne.mpr c13
          have H' := Aside0.mk H
          clear H
          have p12 : 0 ≤ (x7_2 : Int) := of_decide_eq_true dS
          have q12 : x7_2 < (a0.size : Int) := of_decide_eq_true dS
          have hx12 := bt_at a0 x7_2
          replace p12 := eq_true p12
          replace q12 := eq_true q12
          go_wp2
          go_meet
          case rel => exact ⟨_, (x7_2), dF, H', ⟨by have := HK1.out; have := HK2.out; first | omega | exact Nat.le_refl _⟩, by repeat (first | exact Drawn0.refl _ | apply Drawn0.step)⟩
        ·rw [if_neg c11] at H
         exact absurd H (by simp)
       ·rw [if_neg c10] at H
        have c10b0 : decide (x7_2 < (a0.size : Int)) = false := decide_eq_false c10
        clear c10
        (first | rw [c10b0] | (simp only [i64_w, i32_w]; rw [c10b0]) | skip)
        have H' := Aside0.mk H
        clear H
        go_wp2
        go_meet
        case rel => exact ⟨_, (x7_2), dF, H', ⟨by have := HK1.out; have := HK2.out; first | omega | exact Nat.le_refl _⟩, by repeat (first | exact Drawn0.refl _ | apply Drawn0.step)⟩
    case rest =>
     clear HC9
     try clear c2
     try clear c2b0
     obtain ⟨kq, x7_8, rfl, HA, HJ8, ⟨mc8, rfl⟩⟩ := hcut
     cases kq with
     | zero => exact absurd HA.out (by simp [lemire_Cut.j2])
     | succ kj8 =>
      have H := HA.out
      clear HA
      simp only [lemire_Cut.j2] at H
      have HC14 := Aside0.mk H
      clear H
      go_upto_block 4 with (fail)
      go_cut [7, 8] (fun v7 v8 wc => ∃ (kq : Nat) (x7_13 : Int) (x8_13 : Int), v7 = .int .i64 x7_13 ∧ v8 = .int .u64 x8_13 ∧ Aside0 (lemire_Cut.j4 kq a0 x7_13 x8_13 = some (r1, r2, r3, r4)) ∧ Aside0 (kq ≤ kj8) ∧ Drawn0 w wc)
      case first =>
       have H := HC14.out
       clear HC14
       have H' := Aside0.mk H
       clear H
       go_wp2
       go_loopg [7, 8, 9] kj8 (fun kq v7 v8 v9 w' => ∃ (x7_3 : Int) (x8_3 : Int) (x9_3 : Int), v7 = .int .i64 x7_3 ∧ v8 = .int .u64 x8_3 ∧ v9 = .int .i64 x9_3 ∧ Aside0 (lemire_Cut.l2 kq a0 x7_3 x8_3 x9_3 = some (r1, r2, r3, r4)) ∧ Aside0 (kq ≤ kj8) ∧ Drawn0 w w')
       case atStart => exact ⟨(x7_8), (0), (0), dF, dF, dF, H', ⟨Nat.le_refl _⟩, by repeat (first | exact Drawn0.refl _ | apply Drawn0.step)⟩
       case round =>
        clear H'
        try clear c2
        try clear c2b0
        obtain ⟨x7_3, x8_3, x9_3, rfl, rfl, rfl, HA, HK3, ⟨m3, rfl⟩⟩ := hrel
        cases gk with
        | zero => exact absurd HA.out (by simp [lemire_Cut.l2])
        | succ k3 =>
         have H := HA.out
         clear HA
         simp only [lemire_Cut.l2] at H
         by_cases c15 : x9_3 < 19
         ·rw [if_pos c15] at H
          have c15b0 : decide (x9_3 < 19) = true := decide_eq_true c15
          clear c15
          (first | rw [c15b0] | (simp only [i64_w, i32_w]; rw [c15b0]) | skip)
          by_cases c16 : x7_3 < (a0.size : Int)
          ·rw [if_pos c16] at H
           have c16b0 : decide (x7_3 < (a0.size : Int)) = true := decide_eq_true c16
           clear c16
           by_cases c17 : (0 : Int) ≤ x7_3
           ·rw [if_pos c17] at H
            have c17b0 : decide (0 ≤ x7_3) = true := decide_eq_true c17
            clear c17
            have H' := Aside0.mk H
            clear H
            have p18 : 0 ≤ (x7_3 : Int) := of_decide_eq_true dS
            have q18 : x7_3 < (a0.size : Int) := of_decide_eq_true dS
            have hx18 := bt_at a0 x7_3
            replace p18 := eq_true p18
            replace q18 := eq_true q18
            go_wp2
            go_roundg k3
            case measure => have := HK1.out; have := HJ8.out; have := HK3.out; omega
            case rel => exact ⟨(wrap64 (x7_3 + 1)), (IntKind.u64.wrap ((IntKind.u64.wrap (x8_3 * 10)) + (((bt a0 x7_3) - 48) % 256))), (wrap64 (x9_3 + 1)), dF, dF, dF, H', ⟨by have := HK1.out; have := HJ8.out; have := HK3.out; omega⟩, by repeat (first | exact Drawn0.refl _ | apply Drawn0.step)⟩
           ·rw [if_neg c17] at H
            exact absurd H (by simp)
          ·rw [if_neg c16] at H
           have c16b0 : decide (x7_3 < (a0.size : Int)) = false := decide_eq_false c16
           clear c16
           have H' := Aside0.mk H
           clear H
           go_wp2
           go_meet
           case rel => exact ⟨_, (x7_3), (x8_3), dF, dF, H', ⟨by have := HK1.out; have := HJ8.out; have := HK3.out; first | omega | exact Nat.le_refl _⟩, by repeat (first | exact Drawn0.refl _ | apply Drawn0.step)⟩
         ·rw [if_neg c15] at H
          have c15b0 : decide (x9_3 < 19) = false := decide_eq_false c15
          clear c15
          (first | rw [c15b0] | (simp only [i64_w, i32_w]; rw [c15b0]) | skip)
          have H' := Aside0.mk H
          clear H
          go_wp2
          go_meet
          case rel => exact ⟨_, (x7_3), (x8_3), dF, dF, H', ⟨by have := HK1.out; have := HJ8.out; have := HK3.out; first | omega | exact Nat.le_refl _⟩, by repeat (first | exact Drawn0.refl _ | apply Drawn0.step)⟩
      case rest =>
       clear HC14
       try clear c2
       try clear c2b0
       obtain ⟨kq, x7_13, x8_13, rfl, rfl, HA, HJ13, ⟨mc13, rfl⟩⟩ := hcut
       cases kq with
       | zero => exact absurd HA.out (by simp [lemire_Cut.j4])
       | succ kj13 =>
        have H := HA.out
        clear HA
        simp only [lemire_Cut.j4] at H
        have H' := Aside0.mk H
        clear H
        go_wp2
        go_loopg [10] kj13 (fun kq v10 w' => ∃ (x10_4 : Int), v10 = .int .i64 x10_4 ∧ Aside0 (lemire_Cut.l3 kq a0 x7_13 x8_13 x10_4 = some (r1, r2, r3, r4)) ∧ Aside0 (kq ≤ kj13) ∧ Drawn0 w w')
        case atStart => exact ⟨(x7_13), dF, H', ⟨Nat.le_refl _⟩, by repeat (first | exact Drawn0.refl _ | apply Drawn0.step)⟩
        case round =>
         clear H'
         try clear c2
         try clear c2b0
         obtain ⟨x10_4, rfl, HA, HK4, ⟨m4, rfl⟩⟩ := hrel
         cases gk with
         | zero => exact absurd HA.out (by simp [lemire_Cut.l3])
         | succ k4 =>
          have H := HA.out
          clear HA
          simp only [lemire_Cut.l3] at H
          by_cases c19 : x10_4 < (a0.size : Int)
          ·rw [if_pos c19] at H
           have c19b0 : decide (x10_4 < (a0.size : Int)) = true := decide_eq_true c19
           clear c19
           by_cases c20 : (0 : Int) ≤ x10_4
           ·rw [if_pos c20] at H
            have c20b0 : decide (0 ≤ x10_4) = true := decide_eq_true c20
            clear c20
            by_cases c22 : (bt a0 x10_4) = 48
            ·rw [if_pos c22] at H
             have c22b0 : ((bt a0 x10_4) == 48) = true := beq_iff_eq.mpr c22
             have c22b1 : ((bt a0 x10_4) != 48) = false := bne_eq_false_iff_eq.mpr c22
             clear c22
             have H' := Aside0.mk H
             clear H
             have p21 : 0 ≤ (x10_4 : Int) := of_decide_eq_true dS
             have q21 : x10_4 < (a0.size : Int) := of_decide_eq_true dS
             have hx21 := bt_at a0 x10_4
             replace p21 := eq_true p21
             replace q21 := eq_true q21
             go_wp2
             go_roundg k4
             case measure => have := HK1.out; have := HJ8.out; have := HJ13.out; have := HK4.out; omega
             case rel => exact ⟨(wrap64 (x10_4 + 1)), dF, H', ⟨by have := HK1.out; have := HJ8.out; have := HJ13.out; have := HK4.out; omega⟩, by repeat (first | exact Drawn0.refl _ | apply Drawn0.step)⟩
            ·rw [if_neg c22] at H
             have c22b0 : ((bt a0 x10_4) == 48) = false := beq_eq_false_iff_ne.mpr c22
             have c22b1 : ((bt a0 x10_4) != 48) = true := bne_iff_ne.mpr c22
             simp only [Option.some.injEq, Prod.mk.injEq] at H
             obtain ⟨rfl, rfl, rfl, rfl⟩ := H
             have p21 : 0 ≤ (x10_4 : Int) := of_decide_eq_true dS
             have q21 : x10_4 < (a0.size : Int) := of_decide_eq_true dS
             have hx21 := bt_at a0 x10_4
             replace p21 := eq_true p21
             replace q21 := eq_true q21
             go_wp2
             refine bodyPost_ret (results_list (rs := [.tmp 2, .tmp 3, .tmp 4, .tmp 5]) rfl (by simp) (.tmp (.tmp (.tmp (.tmp .nil))))) rfl ?_
             exact ⟨by first | rfl | (simp; done) | (simp [*]; done), by repeat (first | exact Drawn0.refl _ | apply Drawn0.step)⟩
           ·rw [if_neg c20] at H
            exact absurd H (by simp)
          ·rw [if_neg c19] at H
           have c19b0 : decide (x10_4 < (a0.size : Int)) = false := decide_eq_false c19
           clear c19
           simp only [Option.some.injEq, Prod.mk.injEq] at H
           obtain ⟨rfl, rfl, rfl, rfl⟩ := H
           go_wp2
           refine bodyPost_ret (results_list (rs := [.tmp 2, .tmp 3, .tmp 4, .tmp 5]) rfl (by simp) (.tmp (.tmp (.tmp (.tmp .nil))))) rfl ?_
           exact ⟨by first | rfl | (simp; done) | (simp [*]; done), by repeat (first | exact Drawn0.refl _ | apply Drawn0.step)⟩

end Go.Proofs.YtoannkopciehcaaDoor.PA

namespace Go.Proofs.YtoannkopciehcaaDoor.PA
open Go.RowKit Go.Proofs.YtoannkopciehcaaDoorW.PrintWords Go.Proofs.YtoannkopciehcaaDoorW.PrintLast Go.Proofs.YtoannkopciehcaaDoorW.PrintMore
attribute [local go_sem] max2_int min2_int max_two min_two max_three min_three max_four min_four   -- for this text's walks alone
set_option linter.unusedVariables false
set_option linter.unusedSimpArgs false

/-! ### plumblaw10_alive: function 14 -/
def plumblaw10_alive.f (k : Nat)  : Option (Bool) := (lemire_Small.f k 1 (-1)).bind fun bt278 => ((lemire_Fast.f k 1 23).bind fun bt280 => ((lemire_Cut.f k (⟨#[48, 48, 49, 50, 120]⟩ : ByteArray)).bind fun bt282 => ((lemire_Cut.f k (⟨#[48, 48, 49, 50]⟩ : ByteArray)).bind fun bt286 => (if bt278.2 = true then (if bt278.1 = 4591870180066957722 then (if bt280.2 = 0 then (if bt280.1 = 4950912855330343670 then (if bt282.2.2.2 = 41 then (if bt282.1 = 0 then (if bt282.2.1 = 0 then (if bt282.2.2.1 = true then (some false) else (if bt286.2.2.2 = 0 then (if bt286.1 = 12 then (if bt286.2.1 = 4 then (some (!bt286.2.2.1)) else (some false)) else (some false)) else (some false))) else (some false)) else (some false)) else (some false)) else (some false)) else (some false)) else (some false)) else (some false)))))
theorem plumblaw10_alive.mono : ∀ k, LeO (plumblaw10_alive.f k ) (plumblaw10_alive.f (k + 1) ) := by
 intro  k
 unfold plumblaw10_alive.f
 have m0_ := lemire_Cut.mono
 have m1_ := lemire_Fast.mono
 have m2_ := lemire_Small.mono
 exact mX
set_option maxHeartbeats 8000000 in
set_option maxRecDepth 100000 in
theorem plumblaw10_alive.calls (k : Nat)  (r : Bool) (w : World) (h : plumblaw10_alive.f k  = some r) (hG : TensLaid w := by first | exact HG.out | exact hG | exact TensLaid.below HG.out HB.out | exact TensLaid.below HG.out dB) :
  Calls Tryd.prog 14 #[] w fun e w' => e = .returned (.bool r) ∧ Below w.heap.size w w' := by
 have HG := Aside0.mk (show TensLaid w from hG)
 clear hG
 have HB := Aside0.mk (Below.refl w.heap.size w)
 have H : ((lemire_Small.f k 1 (-1)).bind fun bt278 => ((lemire_Fast.f k 1 23).bind fun bt280 => ((lemire_Cut.f k (⟨#[48, 48, 49, 50, 120]⟩ : ByteArray)).bind fun bt282 => ((lemire_Cut.f k (⟨#[48, 48, 49, 50]⟩ : ByteArray)).bind fun bt286 => (if bt278.2 = true then (if bt278.1 = 4591870180066957722 then (if bt280.2 = 0 then (if bt280.1 = 4950912855330343670 then (if bt282.2.2.2 = 41 then (if bt282.1 = 0 then (if bt282.2.1 = 0 then (if bt282.2.2.1 = true then (some false) else (if bt286.2.2.2 = 0 then (if bt286.1 = 12 then (if bt286.2.1 = 4 then (some (!bt286.2.2.1)) else (some false)) else (some false)) else (some false))) else (some false)) else (some false)) else (some false)) else (some false)) else (some false)) else (some false)) else (some false)))))) = some r := h
 clear h
 replace H := obe H
 obtain ⟨⟨t278, t279⟩, A10, H⟩ := H
 (try dsimp only at H)
 have A1 := Aside0.mk A10
 clear A10
 replace H := obe H
 obtain ⟨⟨t280, t281⟩, A20, H⟩ := H
 (try dsimp only at H)
 have A2 := Aside0.mk A20
 clear A20
 replace H := obe H
 obtain ⟨⟨t282, t283, t284, t285⟩, A30, H⟩ := H
 (try dsimp only at H)
 have A3 := Aside0.mk A30
 clear A30
 replace H := obe H
 obtain ⟨⟨t286, t287, t288, t289⟩, A40, H⟩ := H
 (try dsimp only at H)
 have A4 := Aside0.mk A40
 clear A40
 by_cases c5 : t279 = true
 ·subst c5
  have H1 : (if t278 = 4591870180066957722 then (if t281 = 0 then (if t280 = 4950912855330343670 then (if t285 = 41 then (if t282 = 0 then (if t283 = 0 then (if t284 = true then (some false) else (if t289 = 0 then (if t286 = 12 then (if t287 = 4 then (some (!t288)) else (some false)) else (some false)) else (some false))) else (some false)) else (some false)) else (some false)) else (some false)) else (some false)) else (some false)) = some r := by rw [if_pos rfl] at H; exact H
  clear H
  have H := H1
  clear H1
  by_cases c6 : t278 = 4591870180066957722
  ·rw [if_pos c6] at H
   have c6b0 : (t278 == 4591870180066957722) = true := beq_iff_eq.mpr c6
   have c6b1 : (t278 != 4591870180066957722) = false := bne_eq_false_iff_eq.mpr c6
   clear c6
   by_cases c7 : t281 = 0
   ·rw [if_pos c7] at H
    have c7b0 : (t281 == 0) = true := beq_iff_eq.mpr c7
    have c7b1 : (t281 != 0) = false := bne_eq_false_iff_eq.mpr c7
    clear c7
    by_cases c8 : t280 = 4950912855330343670
    ·rw [if_pos c8] at H
     have c8b0 : (t280 == 4950912855330343670) = true := beq_iff_eq.mpr c8
     have c8b1 : (t280 != 4950912855330343670) = false := bne_eq_false_iff_eq.mpr c8
     clear c8
     by_cases c9 : t285 = 41
     ·rw [if_pos c9] at H
      have c9b0 : (t285 == 41) = true := beq_iff_eq.mpr c9
      have c9b1 : (t285 != 41) = false := bne_eq_false_iff_eq.mpr c9
      clear c9
      by_cases c10 : t282 = 0
      ·rw [if_pos c10] at H
       have c10b0 : (t282 == 0) = true := beq_iff_eq.mpr c10
       have c10b1 : (t282 != 0) = false := bne_eq_false_iff_eq.mpr c10
       clear c10
       by_cases c11 : t283 = 0
       ·rw [if_pos c11] at H
        have c11b0 : (t283 == 0) = true := beq_iff_eq.mpr c11
        have c11b1 : (t283 != 0) = false := bne_eq_false_iff_eq.mpr c11
        clear c11
        by_cases c12 : t284 = true
        ·subst c12
         have H1 : (some false) = some r := by rw [if_pos rfl] at H; exact H
         clear H
         have H := H1
         clear H1
         obtain rfl := Option.some.inj H
         go_enter Tryd.func14, Tryd.ntmps14
         go_wp2_with (first | ((with_reducible refine gate_callee (f := 10) rfl ?_); refine gL (some 14) Tryd.func10 #[.int .u64 1, .int .i64 (-1)] ?_; (with_reducible refine (lemire_Small.calls k 1 (-1) t278 true _ A1.out).mono ?_); rintro e w13 ⟨rfl, hb⟩; refine ⟨_, rfl, ?_⟩; replace HB := Aside0.mk (below_step dB hb); (try clear hb)) | ((with_reducible refine gate_callee (f := 12) rfl ?_); refine gL (some 18) Tryd.func12 #[.int .u64 1, .int .i64 23] ?_; (with_reducible refine (lemire_Fast.calls k 1 23 t280 t281 _ A2.out).mono ?_); rintro e w14 ⟨rfl, hb⟩; refine ⟨_, rfl, ?_⟩; replace HB := Aside0.mk (below_step dB hb); (try clear hb)) | ((with_reducible refine gate_callee (f := 15) rfl ?_); refine gL (some 22) Tryd.func15 #[.string (⟨#[48, 48, 49, 50, 120]⟩ : ByteArray)] ?_; (with_reducible refine (lemire_Cut.calls k (⟨#[48, 48, 49, 50, 120]⟩ : ByteArray) t282 t283 true t285 _ A3.out).mono ?_); rintro e w' ⟨rfl, ⟨nd, rfl⟩⟩; refine ⟨_, rfl, ?_⟩) | ((with_reducible refine gate_callee (f := 15) rfl ?_); refine gL (some 28) Tryd.func15 #[.string (⟨#[48, 48, 49, 50]⟩ : ByteArray)] ?_; (with_reducible refine (lemire_Cut.calls k (⟨#[48, 48, 49, 50]⟩ : ByteArray) t286 t287 t288 t289 _ A4.out).mono ?_); rintro e w' ⟨rfl, ⟨nd, rfl⟩⟩; refine ⟨_, rfl, ?_⟩))
         go_ret
         exact ⟨dE, dB⟩
        ·replace c12 := Bool.eq_false_iff.mpr c12
         subst c12
         have H1 : (if t289 = 0 then (if t286 = 12 then (if t287 = 4 then (some (!t288)) else (some false)) else (some false)) else (some false)) = some r := by rw [if_neg (show ¬ (false = true) by decide)] at H; exact H
         clear H
         have H := H1
         clear H1
         by_cases c15 : t289 = 0
         ·rw [if_pos c15] at H
          have c15b0 : (t289 == 0) = true := beq_iff_eq.mpr c15
          have c15b1 : (t289 != 0) = false := bne_eq_false_iff_eq.mpr c15
          clear c15
          by_cases c16 : t286 = 12
          ·rw [if_pos c16] at H
           have c16b0 : (t286 == 12) = true := beq_iff_eq.mpr c16
           have c16b1 : (t286 != 12) = false := bne_eq_false_iff_eq.mpr c16
           clear c16
           by_cases c17 : t287 = 4
           ·rw [if_pos c17] at H
            have c17b0 : (t287 == 4) = true := beq_iff_eq.mpr c17
            have c17b1 : (t287 != 4) = false := bne_eq_false_iff_eq.mpr c17
            clear c17
            obtain rfl := Option.some.inj H
            go_enter Tryd.func14, Tryd.ntmps14
            go_wp2_with (first | ((with_reducible refine gate_callee (f := 10) rfl ?_); refine gL (some 14) Tryd.func10 #[.int .u64 1, .int .i64 (-1)] ?_; (with_reducible refine (lemire_Small.calls k 1 (-1) t278 true _ A1.out).mono ?_); rintro e w18 ⟨rfl, hb⟩; refine ⟨_, rfl, ?_⟩; replace HB := Aside0.mk (below_step dB hb); (try clear hb)) | ((with_reducible refine gate_callee (f := 12) rfl ?_); refine gL (some 18) Tryd.func12 #[.int .u64 1, .int .i64 23] ?_; (with_reducible refine (lemire_Fast.calls k 1 23 t280 t281 _ A2.out).mono ?_); rintro e w19 ⟨rfl, hb⟩; refine ⟨_, rfl, ?_⟩; replace HB := Aside0.mk (below_step dB hb); (try clear hb)) | ((with_reducible refine gate_callee (f := 15) rfl ?_); refine gL (some 22) Tryd.func15 #[.string (⟨#[48, 48, 49, 50, 120]⟩ : ByteArray)] ?_; (with_reducible refine (lemire_Cut.calls k (⟨#[48, 48, 49, 50, 120]⟩ : ByteArray) t282 t283 false t285 _ A3.out).mono ?_); rintro e w' ⟨rfl, ⟨nd, rfl⟩⟩; refine ⟨_, rfl, ?_⟩) | ((with_reducible refine gate_callee (f := 15) rfl ?_); refine gL (some 28) Tryd.func15 #[.string (⟨#[48, 48, 49, 50]⟩ : ByteArray)] ?_; (with_reducible refine (lemire_Cut.calls k (⟨#[48, 48, 49, 50]⟩ : ByteArray) t286 t287 t288 t289 _ A4.out).mono ?_); rintro e w' ⟨rfl, ⟨nd, rfl⟩⟩; refine ⟨_, rfl, ?_⟩))
            go_ret
            exact ⟨dE, dB⟩
           ·rw [if_neg c17] at H
            have c17b0 : (t287 == 4) = false := beq_eq_false_iff_ne.mpr c17
            have c17b1 : (t287 != 4) = true := bne_iff_ne.mpr c17
            obtain rfl := Option.some.inj H
            go_enter Tryd.func14, Tryd.ntmps14
            go_wp2_with (first | ((with_reducible refine gate_callee (f := 10) rfl ?_); refine gL (some 14) Tryd.func10 #[.int .u64 1, .int .i64 (-1)] ?_; (with_reducible refine (lemire_Small.calls k 1 (-1) t278 true _ A1.out).mono ?_); rintro e w20 ⟨rfl, hb⟩; refine ⟨_, rfl, ?_⟩; replace HB := Aside0.mk (below_step dB hb); (try clear hb)) | ((with_reducible refine gate_callee (f := 12) rfl ?_); refine gL (some 18) Tryd.func12 #[.int .u64 1, .int .i64 23] ?_; (with_reducible refine (lemire_Fast.calls k 1 23 t280 t281 _ A2.out).mono ?_); rintro e w21 ⟨rfl, hb⟩; refine ⟨_, rfl, ?_⟩; replace HB := Aside0.mk (below_step dB hb); (try clear hb)) | ((with_reducible refine gate_callee (f := 15) rfl ?_); refine gL (some 22) Tryd.func15 #[.string (⟨#[48, 48, 49, 50, 120]⟩ : ByteArray)] ?_; (with_reducible refine (lemire_Cut.calls k (⟨#[48, 48, 49, 50, 120]⟩ : ByteArray) t282 t283 false t285 _ A3.out).mono ?_); rintro e w' ⟨rfl, ⟨nd, rfl⟩⟩; refine ⟨_, rfl, ?_⟩) | ((with_reducible refine gate_callee (f := 15) rfl ?_); refine gL (some 28) Tryd.func15 #[.string (⟨#[48, 48, 49, 50]⟩ : ByteArray)] ?_; (with_reducible refine (lemire_Cut.calls k (⟨#[48, 48, 49, 50]⟩ : ByteArray) t286 t287 t288 t289 _ A4.out).mono ?_); rintro e w' ⟨rfl, ⟨nd, rfl⟩⟩; refine ⟨_, rfl, ?_⟩))
            go_ret
            exact ⟨dE, dB⟩
          ·rw [if_neg c16] at H
           have c16b0 : (t286 == 12) = false := beq_eq_false_iff_ne.mpr c16
           have c16b1 : (t286 != 12) = true := bne_iff_ne.mpr c16
           obtain rfl := Option.some.inj H
           go_enter Tryd.func14, Tryd.ntmps14
           go_wp2_with (first | ((with_reducible refine gate_callee (f := 10) rfl ?_); refine gL (some 14) Tryd.func10 #[.int .u64 1, .int .i64 (-1)] ?_; (with_reducible refine (lemire_Small.calls k 1 (-1) t278 true _ A1.out).mono ?_); rintro e w22 ⟨rfl, hb⟩; refine ⟨_, rfl, ?_⟩; replace HB := Aside0.mk (below_step dB hb); (try clear hb)) | ((with_reducible refine gate_callee (f := 12) rfl ?_); refine gL (some 18) Tryd.func12 #[.int .u64 1, .int .i64 23] ?_; (with_reducible refine (lemire_Fast.calls k 1 23 t280 t281 _ A2.out).mono ?_); rintro e w23 ⟨rfl, hb⟩; refine ⟨_, rfl, ?_⟩; replace HB := Aside0.mk (below_step dB hb); (try clear hb)) | ((with_reducible refine gate_callee (f := 15) rfl ?_); refine gL (some 22) Tryd.func15 #[.string (⟨#[48, 48, 49, 50, 120]⟩ : ByteArray)] ?_; (with_reducible refine (lemire_Cut.calls k (⟨#[48, 48, 49, 50, 120]⟩ : ByteArray) t282 t283 false t285 _ A3.out).mono ?_); rintro e w' ⟨rfl, ⟨nd, rfl⟩⟩; refine ⟨_, rfl, ?_⟩) | ((with_reducible refine gate_callee (f := 15) rfl ?_); refine gL (some 28) Tryd.func15 #[.string (⟨#[48, 48, 49, 50]⟩ : ByteArray)] ?_; (with_reducible refine (lemire_Cut.calls k (⟨#[48, 48, 49, 50]⟩ : ByteArray) t286 t287 t288 t289 _ A4.out).mono ?_); rintro e w' ⟨rfl, ⟨nd, rfl⟩⟩; refine ⟨_, rfl, ?_⟩))
           go_ret
           exact ⟨dE, dB⟩
         ·rw [if_neg c15] at H
          have c15b0 : (t289 == 0) = false := beq_eq_false_iff_ne.mpr c15
          have c15b1 : (t289 != 0) = true := bne_iff_ne.mpr c15
          obtain rfl := Option.some.inj H
          go_enter Tryd.func14, Tryd.ntmps14
          go_wp2_with (first | ((with_reducible refine gate_callee (f := 10) rfl ?_); refine gL (some 14) Tryd.func10 #[.int .u64 1, .int .i64 (-1)] ?_; (with_reducible refine (lemire_Small.calls k 1 (-1) t278 true _ A1.out).mono ?_); rintro e w24 ⟨rfl, hb⟩; refine ⟨_, rfl, ?_⟩; replace HB := Aside0.mk (below_step dB hb); (try clear hb)) | ((with_reducible refine gate_callee (f := 12) rfl ?_); refine gL (some 18) Tryd.func12 #[.int .u64 1, .int .i64 23] ?_; (with_reducible refine (lemire_Fast.calls k 1 23 t280 t281 _ A2.out).mono ?_); rintro e w25 ⟨rfl, hb⟩; refine ⟨_, rfl, ?_⟩; replace HB := Aside0.mk (below_step dB hb); (try clear hb)) | ((with_reducible refine gate_callee (f := 15) rfl ?_); refine gL (some 22) Tryd.func15 #[.string (⟨#[48, 48, 49, 50, 120]⟩ : ByteArray)] ?_; (with_reducible refine (lemire_Cut.calls k (⟨#[48, 48, 49, 50, 120]⟩ : ByteArray) t282 t283 false t285 _ A3.out).mono ?_); rintro e w' ⟨rfl, ⟨nd, rfl⟩⟩; refine ⟨_, rfl, ?_⟩) | ((with_reducible refine gate_callee (f := 15) rfl ?_); refine gL (some 28) Tryd.func15 #[.string (⟨#[48, 48, 49, 50]⟩ : ByteArray)] ?_; (with_reducible refine (lemire_Cut.calls k (⟨#[48, 48, 49, 50]⟩ : ByteArray) t286 t287 t288 t289 _ A4.out).mono ?_); rintro e w' ⟨rfl, ⟨nd, rfl⟩⟩; refine ⟨_, rfl, ?_⟩))
          go_ret
          exact ⟨dE, dB⟩
       ·rw [if_neg c11] at H
        have c11b0 : (t283 == 0) = false := beq_eq_false_iff_ne.mpr c11
        have c11b1 : (t283 != 0) = true := bne_iff_ne.mpr c11
        obtain rfl := Option.some.inj H
        go_enter Tryd.func14, Tryd.ntmps14
        go_wp2_with (first | ((with_reducible refine gate_callee (f := 10) rfl ?_); refine gL (some 14) Tryd.func10 #[.int .u64 1, .int .i64 (-1)] ?_; (with_reducible refine (lemire_Small.calls k 1 (-1) t278 true _ A1.out).mono ?_); rintro e w26 ⟨rfl, hb⟩; refine ⟨_, rfl, ?_⟩; replace HB := Aside0.mk (below_step dB hb); (try clear hb)) | ((with_reducible refine gate_callee (f := 12) rfl ?_); refine gL (some 18) Tryd.func12 #[.int .u64 1, .int .i64 23] ?_; (with_reducible refine (lemire_Fast.calls k 1 23 t280 t281 _ A2.out).mono ?_); rintro e w27 ⟨rfl, hb⟩; refine ⟨_, rfl, ?_⟩; replace HB := Aside0.mk (below_step dB hb); (try clear hb)) | ((with_reducible refine gate_callee (f := 15) rfl ?_); refine gL (some 22) Tryd.func15 #[.string (⟨#[48, 48, 49, 50, 120]⟩ : ByteArray)] ?_; (with_reducible refine (lemire_Cut.calls k (⟨#[48, 48, 49, 50, 120]⟩ : ByteArray) t282 t283 t284 t285 _ A3.out).mono ?_); rintro e w' ⟨rfl, ⟨nd, rfl⟩⟩; refine ⟨_, rfl, ?_⟩) | ((with_reducible refine gate_callee (f := 15) rfl ?_); refine gL (some 28) Tryd.func15 #[.string (⟨#[48, 48, 49, 50]⟩ : ByteArray)] ?_; (with_reducible refine (lemire_Cut.calls k (⟨#[48, 48, 49, 50]⟩ : ByteArray) t286 t287 t288 t289 _ A4.out).mono ?_); rintro e w' ⟨rfl, ⟨nd, rfl⟩⟩; refine ⟨_, rfl, ?_⟩))
        go_ret
        exact ⟨dE, dB⟩
      ·rw [if_neg c10] at H
       have c10b0 : (t282 == 0) = false := beq_eq_false_iff_ne.mpr c10
       have c10b1 : (t282 != 0) = true := bne_iff_ne.mpr c10
       obtain rfl := Option.some.inj H
       go_enter Tryd.func14, Tryd.ntmps14
       go_wp2_with (first | ((with_reducible refine gate_callee (f := 10) rfl ?_); refine gL (some 14) Tryd.func10 #[.int .u64 1, .int .i64 (-1)] ?_; (with_reducible refine (lemire_Small.calls k 1 (-1) t278 true _ A1.out).mono ?_); rintro e w28 ⟨rfl, hb⟩; refine ⟨_, rfl, ?_⟩; replace HB := Aside0.mk (below_step dB hb); (try clear hb)) | ((with_reducible refine gate_callee (f := 12) rfl ?_); refine gL (some 18) Tryd.func12 #[.int .u64 1, .int .i64 23] ?_; (with_reducible refine (lemire_Fast.calls k 1 23 t280 t281 _ A2.out).mono ?_); rintro e w29 ⟨rfl, hb⟩; refine ⟨_, rfl, ?_⟩; replace HB := Aside0.mk (below_step dB hb); (try clear hb)) | ((with_reducible refine gate_callee (f := 15) rfl ?_); refine gL (some 22) Tryd.func15 #[.string (⟨#[48, 48, 49, 50, 120]⟩ : ByteArray)] ?_; (with_reducible refine (lemire_Cut.calls k (⟨#[48, 48, 49, 50, 120]⟩ : ByteArray) t282 t283 t284 t285 _ A3.out).mono ?_); rintro e w' ⟨rfl, ⟨nd, rfl⟩⟩; refine ⟨_, rfl, ?_⟩) | ((with_reducible refine gate_callee (f := 15) rfl ?_); refine gL (some 28) Tryd.func15 #[.string (⟨#[48, 48, 49, 50]⟩ : ByteArray)] ?_; (with_reducible refine (lemire_Cut.calls k (⟨#[48, 48, 49, 50]⟩ : ByteArray) t286 t287 t288 t289 _ A4.out).mono ?_); rintro e w' ⟨rfl, ⟨nd, rfl⟩⟩; refine ⟨_, rfl, ?_⟩))
       go_ret
       exact ⟨dE, dB⟩
     ·rw [if_neg c9] at H
      have c9b0 : (t285 == 41) = false := beq_eq_false_iff_ne.mpr c9
      have c9b1 : (t285 != 41) = true := bne_iff_ne.mpr c9
      obtain rfl := Option.some.inj H
      go_enter Tryd.func14, Tryd.ntmps14
      go_wp2_with (first | ((with_reducible refine gate_callee (f := 10) rfl ?_); refine gL (some 14) Tryd.func10 #[.int .u64 1, .int .i64 (-1)] ?_; (with_reducible refine (lemire_Small.calls k 1 (-1) t278 true _ A1.out).mono ?_); rintro e w30 ⟨rfl, hb⟩; refine ⟨_, rfl, ?_⟩; replace HB := Aside0.mk (below_step dB hb); (try clear hb)) | ((with_reducible refine gate_callee (f := 12) rfl ?_); refine gL (some 18) Tryd.func12 #[.int .u64 1, .int .i64 23] ?_; (with_reducible refine (lemire_Fast.calls k 1 23 t280 t281 _ A2.out).mono ?_); rintro e w31 ⟨rfl, hb⟩; refine ⟨_, rfl, ?_⟩; replace HB := Aside0.mk (below_step dB hb); (try clear hb)) | ((with_reducible refine gate_callee (f := 15) rfl ?_); refine gL (some 22) Tryd.func15 #[.string (⟨#[48, 48, 49, 50, 120]⟩ : ByteArray)] ?_; (with_reducible refine (lemire_Cut.calls k (⟨#[48, 48, 49, 50, 120]⟩ : ByteArray) t282 t283 t284 t285 _ A3.out).mono ?_); rintro e w' ⟨rfl, ⟨nd, rfl⟩⟩; refine ⟨_, rfl, ?_⟩) | ((with_reducible refine gate_callee (f := 15) rfl ?_); refine gL (some 28) Tryd.func15 #[.string (⟨#[48, 48, 49, 50]⟩ : ByteArray)] ?_; (with_reducible refine (lemire_Cut.calls k (⟨#[48, 48, 49, 50]⟩ : ByteArray) t286 t287 t288 t289 _ A4.out).mono ?_); rintro e w' ⟨rfl, ⟨nd, rfl⟩⟩; refine ⟨_, rfl, ?_⟩))
      go_ret
      exact ⟨dE, dB⟩
    ·rw [if_neg c8] at H
     have c8b0 : (t280 == 4950912855330343670) = false := beq_eq_false_iff_ne.mpr c8
     have c8b1 : (t280 != 4950912855330343670) = true := bne_iff_ne.mpr c8
     obtain rfl := Option.some.inj H
     go_enter Tryd.func14, Tryd.ntmps14
     go_wp2_with (first | ((with_reducible refine gate_callee (f := 10) rfl ?_); refine gL (some 14) Tryd.func10 #[.int .u64 1, .int .i64 (-1)] ?_; (with_reducible refine (lemire_Small.calls k 1 (-1) t278 true _ A1.out).mono ?_); rintro e w32 ⟨rfl, hb⟩; refine ⟨_, rfl, ?_⟩; replace HB := Aside0.mk (below_step dB hb); (try clear hb)) | ((with_reducible refine gate_callee (f := 12) rfl ?_); refine gL (some 18) Tryd.func12 #[.int .u64 1, .int .i64 23] ?_; (with_reducible refine (lemire_Fast.calls k 1 23 t280 t281 _ A2.out).mono ?_); rintro e w33 ⟨rfl, hb⟩; refine ⟨_, rfl, ?_⟩; replace HB := Aside0.mk (below_step dB hb); (try clear hb)) | ((with_reducible refine gate_callee (f := 15) rfl ?_); refine gL (some 22) Tryd.func15 #[.string (⟨#[48, 48, 49, 50, 120]⟩ : ByteArray)] ?_; (with_reducible refine (lemire_Cut.calls k (⟨#[48, 48, 49, 50, 120]⟩ : ByteArray) t282 t283 t284 t285 _ A3.out).mono ?_); rintro e w' ⟨rfl, ⟨nd, rfl⟩⟩; refine ⟨_, rfl, ?_⟩) | ((with_reducible refine gate_callee (f := 15) rfl ?_); refine gL (some 28) Tryd.func15 #[.string (⟨#[48, 48, 49, 50]⟩ : ByteArray)] ?_; (with_reducible refine (lemire_Cut.calls k (⟨#[48, 48, 49, 50]⟩ : ByteArray) t286 t287 t288 t289 _ A4.out).mono ?_); rintro e w' ⟨rfl, ⟨nd, rfl⟩⟩; refine ⟨_, rfl, ?_⟩))
     go_ret
     exact ⟨dE, dB⟩
   ·rw [if_neg c7] at H
    have c7b0 : (t281 == 0) = false := beq_eq_false_iff_ne.mpr c7
    have c7b1 : (t281 != 0) = true := bne_iff_ne.mpr c7
    obtain rfl := Option.some.inj H
    go_enter Tryd.func14, Tryd.ntmps14
    go_wp2_with (first | ((with_reducible refine gate_callee (f := 10) rfl ?_); refine gL (some 14) Tryd.func10 #[.int .u64 1, .int .i64 (-1)] ?_; (with_reducible refine (lemire_Small.calls k 1 (-1) t278 true _ A1.out).mono ?_); rintro e w34 ⟨rfl, hb⟩; refine ⟨_, rfl, ?_⟩; replace HB := Aside0.mk (below_step dB hb); (try clear hb)) | ((with_reducible refine gate_callee (f := 12) rfl ?_); refine gL (some 18) Tryd.func12 #[.int .u64 1, .int .i64 23] ?_; (with_reducible refine (lemire_Fast.calls k 1 23 t280 t281 _ A2.out).mono ?_); rintro e w35 ⟨rfl, hb⟩; refine ⟨_, rfl, ?_⟩; replace HB := Aside0.mk (below_step dB hb); (try clear hb)) | ((with_reducible refine gate_callee (f := 15) rfl ?_); refine gL (some 22) Tryd.func15 #[.string (⟨#[48, 48, 49, 50, 120]⟩ : ByteArray)] ?_; (with_reducible refine (lemire_Cut.calls k (⟨#[48, 48, 49, 50, 120]⟩ : ByteArray) t282 t283 t284 t285 _ A3.out).mono ?_); rintro e w' ⟨rfl, ⟨nd, rfl⟩⟩; refine ⟨_, rfl, ?_⟩) | ((with_reducible refine gate_callee (f := 15) rfl ?_); refine gL (some 28) Tryd.func15 #[.string (⟨#[48, 48, 49, 50]⟩ : ByteArray)] ?_; (with_reducible refine (lemire_Cut.calls k (⟨#[48, 48, 49, 50]⟩ : ByteArray) t286 t287 t288 t289 _ A4.out).mono ?_); rintro e w' ⟨rfl, ⟨nd, rfl⟩⟩; refine ⟨_, rfl, ?_⟩))
    go_ret
    exact ⟨dE, dB⟩
  ·rw [if_neg c6] at H
   have c6b0 : (t278 == 4591870180066957722) = false := beq_eq_false_iff_ne.mpr c6
   have c6b1 : (t278 != 4591870180066957722) = true := bne_iff_ne.mpr c6
   obtain rfl := Option.some.inj H
   go_enter Tryd.func14, Tryd.ntmps14
   go_wp2_with (first | ((with_reducible refine gate_callee (f := 10) rfl ?_); refine gL (some 14) Tryd.func10 #[.int .u64 1, .int .i64 (-1)] ?_; (with_reducible refine (lemire_Small.calls k 1 (-1) t278 true _ A1.out).mono ?_); rintro e w36 ⟨rfl, hb⟩; refine ⟨_, rfl, ?_⟩; replace HB := Aside0.mk (below_step dB hb); (try clear hb)) | ((with_reducible refine gate_callee (f := 12) rfl ?_); refine gL (some 18) Tryd.func12 #[.int .u64 1, .int .i64 23] ?_; (with_reducible refine (lemire_Fast.calls k 1 23 t280 t281 _ A2.out).mono ?_); rintro e w37 ⟨rfl, hb⟩; refine ⟨_, rfl, ?_⟩; replace HB := Aside0.mk (below_step dB hb); (try clear hb)) | ((with_reducible refine gate_callee (f := 15) rfl ?_); refine gL (some 22) Tryd.func15 #[.string (⟨#[48, 48, 49, 50, 120]⟩ : ByteArray)] ?_; (with_reducible refine (lemire_Cut.calls k (⟨#[48, 48, 49, 50, 120]⟩ : ByteArray) t282 t283 t284 t285 _ A3.out).mono ?_); rintro e w' ⟨rfl, ⟨nd, rfl⟩⟩; refine ⟨_, rfl, ?_⟩) | ((with_reducible refine gate_callee (f := 15) rfl ?_); refine gL (some 28) Tryd.func15 #[.string (⟨#[48, 48, 49, 50]⟩ : ByteArray)] ?_; (with_reducible refine (lemire_Cut.calls k (⟨#[48, 48, 49, 50]⟩ : ByteArray) t286 t287 t288 t289 _ A4.out).mono ?_); rintro e w' ⟨rfl, ⟨nd, rfl⟩⟩; refine ⟨_, rfl, ?_⟩))
   go_ret
   exact ⟨dE, dB⟩
 ·replace c5 := Bool.eq_false_iff.mpr c5
  subst c5
  have H1 : (some false) = some r := by rw [if_neg (show ¬ (false = true) by decide)] at H; exact H
  clear H
  have H := H1
  clear H1
  obtain rfl := Option.some.inj H
  go_enter Tryd.func14, Tryd.ntmps14
  go_wp2_with (first | ((with_reducible refine gate_callee (f := 10) rfl ?_); refine gL (some 14) Tryd.func10 #[.int .u64 1, .int .i64 (-1)] ?_; (with_reducible refine (lemire_Small.calls k 1 (-1) t278 false _ A1.out).mono ?_); rintro e w38 ⟨rfl, hb⟩; refine ⟨_, rfl, ?_⟩; replace HB := Aside0.mk (below_step dB hb); (try clear hb)) | ((with_reducible refine gate_callee (f := 12) rfl ?_); refine gL (some 18) Tryd.func12 #[.int .u64 1, .int .i64 23] ?_; (with_reducible refine (lemire_Fast.calls k 1 23 t280 t281 _ A2.out).mono ?_); rintro e w39 ⟨rfl, hb⟩; refine ⟨_, rfl, ?_⟩; replace HB := Aside0.mk (below_step dB hb); (try clear hb)) | ((with_reducible refine gate_callee (f := 15) rfl ?_); refine gL (some 22) Tryd.func15 #[.string (⟨#[48, 48, 49, 50, 120]⟩ : ByteArray)] ?_; (with_reducible refine (lemire_Cut.calls k (⟨#[48, 48, 49, 50, 120]⟩ : ByteArray) t282 t283 t284 t285 _ A3.out).mono ?_); rintro e w' ⟨rfl, ⟨nd, rfl⟩⟩; refine ⟨_, rfl, ?_⟩) | ((with_reducible refine gate_callee (f := 15) rfl ?_); refine gL (some 28) Tryd.func15 #[.string (⟨#[48, 48, 49, 50]⟩ : ByteArray)] ?_; (with_reducible refine (lemire_Cut.calls k (⟨#[48, 48, 49, 50]⟩ : ByteArray) t286 t287 t288 t289 _ A4.out).mono ?_); rintro e w' ⟨rfl, ⟨nd, rfl⟩⟩; refine ⟨_, rfl, ?_⟩))
  go_ret
  exact ⟨dE, dB⟩

end Go.Proofs.YtoannkopciehcaaDoor.PA

namespace Go.Proofs.YtoannkopciehcaaDoor.PA
open Go.RowKit Go.Proofs.YtoannkopciehcaaDoorW.PrintWords Go.Proofs.YtoannkopciehcaaDoorW.PrintLast Go.Proofs.YtoannkopciehcaaDoorW.PrintMore
attribute [local go_sem] max2_int min2_int max_two min_two max_three min_three max_four min_four   -- for this text's walks alone
set_option linter.unusedVariables false
set_option linter.unusedSimpArgs false

/-! ### near_cut: function 76 -/
def near_cut.j0 : Nat → Int → Int → Bool → Option (Int × Int)
 | 0, _, _, _ => none
 | k + 1, x0, x1, x11 => if x11 = true then (some (x0, 0)) else (if x1 > 64 then (some (0, 1)) else ((wide_Shr.f 0 x0 x1).bind fun bt570 => (if bt570.2.2 = true then (if 0 ≤ (wrap64 (x1 - 1)) then (if (Go.bits .and .u64 x0 (IntKind.u64.wrap ((IntKind.u64.wrap ((shl .u64 1 (wrap64 (x1 - 1))) * 2)) - 1))) < (shl .u64 1 (wrap64 (x1 - 1))) then (some (bt570.2.1, 1)) else (if (Go.bits .and .u64 x0 (IntKind.u64.wrap ((IntKind.u64.wrap ((shl .u64 1 (wrap64 (x1 - 1))) * 2)) - 1))) > (shl .u64 1 (wrap64 (x1 - 1))) then (some (bt570.2.1, 3)) else (some (bt570.2.1, 2)))) else (none)) else (some (bt570.2.1, 0)))))
def near_cut.f (k : Nat) (a0 : Int) (a1 : Int) : Option (Int × Int) := if a0 = 0 then (near_cut.j0 k a0 a1 true) else (near_cut.j0 k a0 a1 (decide (a1 ≤ 0)))
set_option maxHeartbeats 8000000 in
set_option maxRecDepth 100000 in
theorem near_cut.calls (k : Nat) (a0 : Int) (a1 : Int) (r1 : Int) (r2 : Int) (w : World) (h : near_cut.f k a0 a1 = some (r1, r2)) :
  Calls Tryd.prog 76 #[.int .u64 a0, .int .i64 a1] w fun e w' => e = .returned (.tuple #[.int .u64 r1, .int .i64 r2]) ∧ Below w.heap.size w w' := by
 have HB := Aside0.mk (Below.refl w.heap.size w)
 have H : (if a0 = 0 then (near_cut.j0 k a0 a1 true) else (near_cut.j0 k a0 a1 (decide (a1 ≤ 0)))) = some (r1, r2) := h
 clear h
 have HC3 := Aside0.mk H
 clear H
 go_enter Tryd.func76, Tryd.ntmps76
 go_upto_region 1 with (fail)
 go_cut [11] (fun v11 wc => ∃ (kq : Nat) (x11_2 : Bool), v11 = .bool x11_2 ∧ Aside0 (near_cut.j0 kq a0 a1 x11_2 = some (r1, r2)) ∧ Aside0 (kq ≤ k) ∧ Aside0 (Below w.heap.size w wc))
 case first =>
  have H := HC3.out
  clear HC3
  by_cases c4 : a0 = 0
  ·rw [if_pos c4] at H
   have c4b0 : (a0 == 0) = true := beq_iff_eq.mpr c4
   have c4b1 : (a0 != 0) = false := bne_eq_false_iff_eq.mpr c4
   clear c4
   (first | rw [c4b0] | (simp only [i64_w, i32_w]; rw [c4b0]) | skip)
   have H' := Aside0.mk H
   clear H
   go_wp2
   go_meet
   case rel => exact ⟨_, (true), dF, H', ⟨dN⟩, ⟨dB⟩⟩
  ·rw [if_neg c4] at H
   have c4b0 : (a0 == 0) = false := beq_eq_false_iff_ne.mpr c4
   have c4b1 : (a0 != 0) = true := bne_iff_ne.mpr c4
   (first | rw [c4b0] | (simp only [i64_w, i32_w]; rw [c4b0]) | skip)
   have H' := Aside0.mk H
   clear H
   go_wp2
   go_meet
   case rel => exact ⟨_, (decide (a1 ≤ 0)), dF, H', ⟨dN⟩, ⟨dB⟩⟩
 case rest =>
  clear HC3
  obtain ⟨kq, x11_2, rfl, HA, HJ2, HB⟩ := hcut
  cases kq with
  | zero => exact absurd HA.out (by simp [near_cut.j0])
  | succ kj2 =>
   have H := HA.out
   clear HA
   simp only [near_cut.j0] at H
   by_cases c5 : x11_2 = true
   ·subst c5
    have H1 : (some (a0, 0)) = some (r1, r2) := by rw [if_pos rfl] at H; exact H
    clear H
    have H := H1
    clear H1
    simp only [Option.some.injEq, Prod.mk.injEq] at H
    obtain ⟨rfl, rfl⟩ := H
    go_wp2
    go_ret2
    exact ⟨dE, dB⟩
   ·replace c5 := Bool.eq_false_iff.mpr c5
    subst c5
    have H1 : (if a1 > 64 then (some (0, 1)) else ((wide_Shr.f 0 a0 a1).bind fun bt570 => (if bt570.2.2 = true then (if 0 ≤ (wrap64 (a1 - 1)) then (if (Go.bits .and .u64 a0 (IntKind.u64.wrap ((IntKind.u64.wrap ((shl .u64 1 (wrap64 (a1 - 1))) * 2)) - 1))) < (shl .u64 1 (wrap64 (a1 - 1))) then (some (bt570.2.1, 1)) else (if (Go.bits .and .u64 a0 (IntKind.u64.wrap ((IntKind.u64.wrap ((shl .u64 1 (wrap64 (a1 - 1))) * 2)) - 1))) > (shl .u64 1 (wrap64 (a1 - 1))) then (some (bt570.2.1, 3)) else (some (bt570.2.1, 2)))) else (none)) else (some (bt570.2.1, 0))))) = some (r1, r2) := by rw [if_neg (show ¬ (false = true) by decide)] at H; exact H
    clear H
    have H := H1
    clear H1
    by_cases c6 : a1 > 64
    ·rw [if_pos c6] at H
     have c6b0 : decide (64 < a1) = true := decide_eq_true c6
     clear c6
     simp only [Option.some.injEq, Prod.mk.injEq] at H
     obtain ⟨rfl, rfl⟩ := H
     go_wp2
     go_ret2
     exact ⟨dE, dB⟩
    ·rw [if_neg c6] at H
     have c6b0 : decide (64 < a1) = false := decide_eq_false c6
     clear c6
     replace H := obe H
     obtain ⟨⟨t570, t571, t572⟩, A70, H⟩ := H
     (try dsimp only at H)
     have A7 := Aside0.mk A70
     clear A70
     by_cases c8 : t572 = true
     ·subst c8
      have H1 : (if 0 ≤ (wrap64 (a1 - 1)) then (if (Go.bits .and .u64 a0 (IntKind.u64.wrap ((IntKind.u64.wrap ((shl .u64 1 (wrap64 (a1 - 1))) * 2)) - 1))) < (shl .u64 1 (wrap64 (a1 - 1))) then (some (t571, 1)) else (if (Go.bits .and .u64 a0 (IntKind.u64.wrap ((IntKind.u64.wrap ((shl .u64 1 (wrap64 (a1 - 1))) * 2)) - 1))) > (shl .u64 1 (wrap64 (a1 - 1))) then (some (t571, 3)) else (some (t571, 2)))) else (none)) = some (r1, r2) := by rw [if_pos rfl] at H; exact H
      clear H
      have H := H1
      clear H1
      obtain ⟨ji9, hji9⟩ : ∃ j_ : Int, (wrap64 (a1 - 1)) = j_ := ⟨_, rfl⟩
      first | rw [hji9] at H | simp only [hji9] at H
      (try rw [hji9] at A7)
      have hji9w : (IntKind.i64.wrap (a1 - 1)) = ji9 := (i64_w _).trans hji9
      by_cases c10 : (0 : Int) ≤ (ji9)
      ·rw [if_pos c10] at H
       have c10b0 := eq_true c10
       have c10b1 : decide (0 ≤ (ji9)) = true := decide_eq_true c10
       clear c10
       obtain ⟨ji11, hji11⟩ : ∃ j_ : Int, (shl .u64 1 (ji9)) = j_ := ⟨_, rfl⟩
       first | rw [hji11] at H | simp only [hji11] at H
       (try rw [hji11] at A7)
       have hji11_ : (IntKind.u64.wrap (1 * 2 ^ min (ji9).toNat 64)) = ji11 := hji11
       have hji11z : (ji9) ≤ 64 → (IntKind.u64.wrap (1 * 2 ^ (ji9).toNat)) = ji11 := shl_small hji11
       have hji11u : (IntKind.u64.wrap (2 ^ min (ji9).toNat 64)) = ji11 := by have h_ := hji11_; rw [Int.one_mul] at h_; exact h_
       have hji11v : (ji9) ≤ 64 → (IntKind.u64.wrap (2 ^ (ji9).toNat)) = ji11 := fun hle_ => by have h_ := hji11z hle_; rw [Int.one_mul] at h_; exact h_
       by_cases c12 : (Go.bits .and .u64 a0 (IntKind.u64.wrap ((IntKind.u64.wrap ((ji11) * 2)) - 1))) < (ji11)
       ·rw [if_pos c12] at H
        have c12b0 : decide ((Go.bits .and .u64 a0 (IntKind.u64.wrap ((IntKind.u64.wrap ((ji11) * 2)) - 1))) < (ji11)) = true := decide_eq_true c12
        clear c12
        simp only [Option.some.injEq, Prod.mk.injEq] at H
        obtain ⟨rfl, rfl⟩ := H
        go_wp2_with (first | ((with_reducible refine gate_callee (f := 74) rfl ?_); refine gL (some 25) Tryd.func74 #[.int .u64 0, .int .u64 a0, .int .i64 a1] ?_; (with_reducible refine (wide_Shr.calls 0 a0 a1 t570 t571 true _ A7.out).mono ?_); rintro e w13 ⟨rfl, hb⟩; refine ⟨_, rfl, ?_⟩; replace HB := Aside0.mk (below_step dB hb); (try clear hb)))
        go_ret2
        exact ⟨by first | rfl | (simp [errW_none, errW_some] <;> rfl) | (simp only [← hji9, ← hji11]; first | rfl | (simp [errW_none, errW_some] <;> rfl)) | (simp [*, errW_none, errW_some] <;> rfl), dB⟩
       ·rw [if_neg c12] at H
        have c12b0 : decide ((Go.bits .and .u64 a0 (IntKind.u64.wrap ((IntKind.u64.wrap ((ji11) * 2)) - 1))) < (ji11)) = false := decide_eq_false c12
        clear c12
        by_cases c14 : (Go.bits .and .u64 a0 (IntKind.u64.wrap ((IntKind.u64.wrap ((ji11) * 2)) - 1))) > (ji11)
        ·rw [if_pos c14] at H
         have c14b0 : decide ((ji11) < (Go.bits .and .u64 a0 (IntKind.u64.wrap ((IntKind.u64.wrap ((ji11) * 2)) - 1)))) = true := decide_eq_true c14
         clear c14
         simp only [Option.some.injEq, Prod.mk.injEq] at H
         obtain ⟨rfl, rfl⟩ := H
         go_wp2_with (first | ((with_reducible refine gate_callee (f := 74) rfl ?_); refine gL (some 25) Tryd.func74 #[.int .u64 0, .int .u64 a0, .int .i64 a1] ?_; (with_reducible refine (wide_Shr.calls 0 a0 a1 t570 t571 true _ A7.out).mono ?_); rintro e w15 ⟨rfl, hb⟩; refine ⟨_, rfl, ?_⟩; replace HB := Aside0.mk (below_step dB hb); (try clear hb)))
         go_ret2
         exact ⟨by first | rfl | (simp [errW_none, errW_some] <;> rfl) | (simp only [← hji9, ← hji11]; first | rfl | (simp [errW_none, errW_some] <;> rfl)) | (simp [*, errW_none, errW_some] <;> rfl), dB⟩
        ·rw [if_neg c14] at H
         have c14b0 : decide ((ji11) < (Go.bits .and .u64 a0 (IntKind.u64.wrap ((IntKind.u64.wrap ((ji11) * 2)) - 1)))) = false := decide_eq_false c14
         clear c14
         simp only [Option.some.injEq, Prod.mk.injEq] at H
         obtain ⟨rfl, rfl⟩ := H
         go_wp2_with (first | ((with_reducible refine gate_callee (f := 74) rfl ?_); refine gL (some 25) Tryd.func74 #[.int .u64 0, .int .u64 a0, .int .i64 a1] ?_; (with_reducible refine (wide_Shr.calls 0 a0 a1 t570 t571 true _ A7.out).mono ?_); rintro e w16 ⟨rfl, hb⟩; refine ⟨_, rfl, ?_⟩; replace HB := Aside0.mk (below_step dB hb); (try clear hb)))
         go_ret2
         exact ⟨by first | rfl | (simp [errW_none, errW_some] <;> rfl) | (simp only [← hji9, ← hji11]; first | rfl | (simp [errW_none, errW_some] <;> rfl)) | (simp [*, errW_none, errW_some] <;> rfl), dB⟩
      ·rw [if_neg c10] at H
       exact absurd H (by simp)
     ·replace c8 := Bool.eq_false_iff.mpr c8
      subst c8
      have H1 : (some (t571, 0)) = some (r1, r2) := by rw [if_neg (show ¬ (false = true) by decide)] at H; exact H
      clear H
      have H := H1
      clear H1
      simp only [Option.some.injEq, Prod.mk.injEq] at H
      obtain ⟨rfl, rfl⟩ := H
      go_wp2_with (first | ((with_reducible refine gate_callee (f := 74) rfl ?_); refine gL (some 25) Tryd.func74 #[.int .u64 0, .int .u64 a0, .int .i64 a1] ?_; (with_reducible refine (wide_Shr.calls 0 a0 a1 t570 t571 false _ A7.out).mono ?_); rintro e w17 ⟨rfl, hb⟩; refine ⟨_, rfl, ?_⟩; replace HB := Aside0.mk (below_step dB hb); (try clear hb)))
      go_ret2
      exact ⟨dE, dB⟩

-- NOT PRINTED: function 77 (near_way)

end Go.Proofs.YtoannkopciehcaaDoor.PA

namespace Go.Proofs.YtoannkopciehcaaDoor.PA
open Go.RowKit Go.Proofs.YtoannkopciehcaaDoorW.PrintWords Go.Proofs.YtoannkopciehcaaDoorW.PrintLast Go.Proofs.YtoannkopciehcaaDoorW.PrintMore
attribute [local go_sem] max2_int min2_int max_two min_two max_three min_three max_four min_four   -- for this text's walks alone
set_option linter.unusedVariables false
set_option linter.unusedSimpArgs false

/-! ### near_finish: function 48 (by hand) -/
def near_wayC1.f (a0 : Bool) (a1 : Bool) (a2 : Int) : Option (Bool) := if a2 = 3 then (some true) else (if a2 = 2 then (some a1) else (some false))
set_option maxHeartbeats 8000000 in
set_option maxRecDepth 100000 in
theorem near_wayC1.calls (a0 : Bool) (a1 : Bool) (a2 : Int) (r : Bool) (w : World) (h : near_wayC1.f a0 a1 a2 = some r) :
  Calls Tryd.prog 101 #[.bool a0, .bool a1, .int .i64 a2] w fun e w' => e = .returned (.bool r) ∧ Drawn0 w w' := by
 have H : (if a2 = 3 then (some true) else (if a2 = 2 then (some a1) else (some false))) = some r := h
 clear h
 by_cases c4 : a2 = 3
 ·rw [if_pos c4] at H
  have c4b0 : (a2 == 3) = true := beq_iff_eq.mpr c4
  have c4b1 : (a2 != 3) = false := bne_eq_false_iff_eq.mpr c4
  clear c4
  obtain rfl := Option.some.inj H
  go_enter Tryd.func101, Tryd.ntmps101
  go_wp2
  go_ret
  exact ⟨by first | rfl | (simp; done) | (simp [*]; done), by repeat (first | exact Drawn0.refl _ | apply Drawn0.step)⟩
 ·rw [if_neg c4] at H
  have c4b0 : (a2 == 3) = false := beq_eq_false_iff_ne.mpr c4
  have c4b1 : (a2 != 3) = true := bne_iff_ne.mpr c4
  by_cases c5 : a2 = 2
  ·rw [if_pos c5] at H
   have c5b0 : (a2 == 2) = true := beq_iff_eq.mpr c5
   have c5b1 : (a2 != 2) = false := bne_eq_false_iff_eq.mpr c5
   clear c5
   obtain rfl := Option.some.inj H
   go_enter Tryd.func101, Tryd.ntmps101
   go_wp2
   go_ret
   exact ⟨by first | rfl | (simp; done) | (simp [*]; done), by repeat (first | exact Drawn0.refl _ | apply Drawn0.step)⟩
  ·rw [if_neg c5] at H
   have c5b0 : (a2 == 2) = false := beq_eq_false_iff_ne.mpr c5
   have c5b1 : (a2 != 2) = true := bne_iff_ne.mpr c5
   obtain rfl := Option.some.inj H
   go_enter Tryd.func101, Tryd.ntmps101
   go_wp2
   go_ret
   exact ⟨by first | rfl | (simp; done) | (simp [*]; done), by repeat (first | exact Drawn0.refl _ | apply Drawn0.step)⟩

def near_wayC2.f (a0 : Bool) (a1 : Bool) (a2 : Int) : Option (Bool) := some false
set_option maxHeartbeats 8000000 in
set_option maxRecDepth 100000 in
theorem near_wayC2.calls (a0 : Bool) (a1 : Bool) (a2 : Int) (r : Bool) (w : World) (h : near_wayC2.f a0 a1 a2 = some r) :
  Calls Tryd.prog 102 #[.bool a0, .bool a1, .int .i64 a2] w fun e w' => e = .returned (.bool r) ∧ Drawn0 w w' := by
 have H : (some false) = some r := h
 clear h
 obtain rfl := Option.some.inj H
 go_enter Tryd.func102, Tryd.ntmps102
 go_wp2
 go_ret
 exact ⟨by first | rfl | (simp; done) | (simp [*]; done), by repeat (first | exact Drawn0.refl _ | apply Drawn0.step)⟩

def near_wayC3.f (a0 : Bool) (a1 : Bool) (a2 : Int) : Option (Bool) := some (a2 != 0)
set_option maxHeartbeats 8000000 in
set_option maxRecDepth 100000 in
theorem near_wayC3.calls (a0 : Bool) (a1 : Bool) (a2 : Int) (r : Bool) (w : World) (h : near_wayC3.f a0 a1 a2 = some r) :
  Calls Tryd.prog 103 #[.bool a0, .bool a1, .int .i64 a2] w fun e w' => e = .returned (.bool r) ∧ Drawn0 w w' := by
 have H : (some (a2 != 0)) = some r := h
 clear h
 obtain rfl := Option.some.inj H
 go_enter Tryd.func103, Tryd.ntmps103
 go_wp2
 go_ret
 exact ⟨by first | rfl | (simp; done) | (simp [*]; done), by repeat (first | exact Drawn0.refl _ | apply Drawn0.step)⟩

def near_wayC4.f (a0 : Bool) (a1 : Bool) (a2 : Int) : Option (Bool) := if a0 = true then (some false) else (some (a2 != 0))
set_option maxHeartbeats 8000000 in
set_option maxRecDepth 100000 in
theorem near_wayC4.calls (a0 : Bool) (a1 : Bool) (a2 : Int) (r : Bool) (w : World) (h : near_wayC4.f a0 a1 a2 = some r) :
  Calls Tryd.prog 104 #[.bool a0, .bool a1, .int .i64 a2] w fun e w' => e = .returned (.bool r) ∧ Drawn0 w w' := by
 have H : (if a0 = true then (some false) else (some (a2 != 0))) = some r := h
 clear h
 by_cases c4 : a0 = true
 ·subst c4
  have H1 : (some false) = some r := by rw [if_pos rfl] at H; exact H
  clear H
  have H := H1
  clear H1
  obtain rfl := Option.some.inj H
  go_enter Tryd.func104, Tryd.ntmps104
  go_wp2
  go_ret
  exact ⟨by first | rfl | (simp; done) | (simp [*]; done), by repeat (first | exact Drawn0.refl _ | apply Drawn0.step)⟩
 ·replace c4 := Bool.eq_false_iff.mpr c4
  subst c4
  have H1 : (some (a2 != 0)) = some r := by rw [if_neg (show ¬ (false = true) by decide)] at H; exact H
  clear H
  have H := H1
  clear H1
  obtain rfl := Option.some.inj H
  go_enter Tryd.func104, Tryd.ntmps104
  go_wp2
  go_ret
  exact ⟨by first | rfl | (simp; done) | (simp [*]; done), by repeat (first | exact Drawn0.refl _ | apply Drawn0.step)⟩

def near_wayC5.f (a0 : Bool) (a1 : Bool) (a2 : Int) : Option (Bool) := if a0 = true then (some (a2 != 0)) else (some false)
set_option maxHeartbeats 8000000 in
set_option maxRecDepth 100000 in
theorem near_wayC5.calls (a0 : Bool) (a1 : Bool) (a2 : Int) (r : Bool) (w : World) (h : near_wayC5.f a0 a1 a2 = some r) :
  Calls Tryd.prog 105 #[.bool a0, .bool a1, .int .i64 a2] w fun e w' => e = .returned (.bool r) ∧ Drawn0 w w' := by
 have H : (if a0 = true then (some (a2 != 0)) else (some false)) = some r := h
 clear h
 by_cases c4 : a0 = true
 ·subst c4
  have H1 : (some (a2 != 0)) = some r := by rw [if_pos rfl] at H; exact H
  clear H
  have H := H1
  clear H1
  obtain rfl := Option.some.inj H
  go_enter Tryd.func105, Tryd.ntmps105
  go_wp2
  go_ret
  exact ⟨by first | rfl | (simp; done) | (simp [*]; done), by repeat (first | exact Drawn0.refl _ | apply Drawn0.step)⟩
 ·replace c4 := Bool.eq_false_iff.mpr c4
  subst c4
  have H1 : (some false) = some r := by rw [if_neg (show ¬ (false = true) by decide)] at H; exact H
  clear H
  have H := H1
  clear H1
  obtain rfl := Option.some.inj H
  go_enter Tryd.func105, Tryd.ntmps105
  go_wp2
  go_ret
  exact ⟨by first | rfl | (simp; done) | (simp [*]; done), by repeat (first | exact Drawn0.refl _ | apply Drawn0.step)⟩

def near_way.f (a0 : Int) (a1 : Bool) (a2 : Bool) (a3 : Int) : Option (Bool) := if a0 = 0 then ((near_wayC1.f a1 a2 a3).bind fun t153 => (some t153)) else (if a0 = 1 then ((near_wayC2.f a1 a2 a3).bind fun t154 => (some t154)) else (if a0 = 2 then ((near_wayC3.f a1 a2 a3).bind fun t155 => (some t155)) else (if a0 = 3 then ((near_wayC4.f a1 a2 a3).bind fun t156 => (some t156)) else ((near_wayC5.f a1 a2 a3).bind fun t157 => (some t157)))))
/-- the closure of a mode -/
def near_wayfn (m : Int) : Nat := if m = 0 then 101 else if m = 1 then 102 else if m = 2 then 103 else if m = 3 then 104 else 105
theorem near_way.enters (m : Int) (args : Array Value) (w : World) : (callFunc (near_wayfn m) args).run Tryd.prog w = .ok (.enter (near_wayfn m) args) w := by
 unfold near_wayfn
 by_cases c0 : m = 0
 ·rw [if_pos c0]; exact enters_ Tryd.func101 (by kernel_rfl) rfl args w
 ·rw [if_neg c0]
  by_cases c1 : m = 1
  ·rw [if_pos c1]; exact enters_ Tryd.func102 (by kernel_rfl) rfl args w
  ·rw [if_neg c1]
   by_cases c2 : m = 2
   ·rw [if_pos c2]; exact enters_ Tryd.func103 (by kernel_rfl) rfl args w
   ·rw [if_neg c2]
    by_cases c3 : m = 3
    ·rw [if_pos c3]; exact enters_ Tryd.func104 (by kernel_rfl) rfl args w
    ·rw [if_neg c3]; exact enters_ Tryd.func105 (by kernel_rfl) rfl args w
theorem near_way.callsF (m : Int) (a0 a1 : Bool) (a2 : Int) (r : Bool) (w : World) (h : near_way.f m a0 a1 a2 = some r) :
  Calls Tryd.prog (near_wayfn m) #[.bool a0, .bool a1, .int .i64 a2] w fun e w' => e = .returned (.bool r) ∧ Drawn0 w w' := by
 unfold near_way.f at h
 unfold near_wayfn
 by_cases c0 : m = 0
 ·rw [if_pos c0] at h ⊢
  obtain ⟨t, ht, h⟩ := Option.bind_eq_some_iff.mp h
  obtain rfl := Option.some.inj h
  exact near_wayC1.calls _ _ _ _ _ ht
 ·rw [if_neg c0] at h ⊢
  by_cases c1 : m = 1
  ·rw [if_pos c1] at h ⊢
   obtain ⟨t, ht, h⟩ := Option.bind_eq_some_iff.mp h
   obtain rfl := Option.some.inj h
   exact near_wayC2.calls _ _ _ _ _ ht
  ·rw [if_neg c1] at h ⊢
   by_cases c2 : m = 2
   ·rw [if_pos c2] at h ⊢
    obtain ⟨t, ht, h⟩ := Option.bind_eq_some_iff.mp h
    obtain rfl := Option.some.inj h
    exact near_wayC3.calls _ _ _ _ _ ht
   ·rw [if_neg c2] at h ⊢
    by_cases c3 : m = 3
    ·rw [if_pos c3] at h ⊢
     obtain ⟨t, ht, h⟩ := Option.bind_eq_some_iff.mp h
     obtain rfl := Option.some.inj h
     exact near_wayC4.calls _ _ _ _ _ ht
    ·rw [if_neg c3] at h ⊢
     obtain ⟨t, ht, h⟩ := Option.bind_eq_some_iff.mp h
     obtain rfl := Option.some.inj h
     exact near_wayC5.calls _ _ _ _ _ ht
set_option maxRecDepth 100000 in
theorem near_way.calls (a0 : Int) (w : World) : Calls Tryd.prog 77 #[.int .i64 a0] w fun e w' => e = .returned (.agg #[.func (.func (near_wayfn a0)) #[] #[]]) ∧ Below w.heap.size w w' := by
 unfold near_wayfn
 by_cases c0 : a0 = 0
 ·rw [if_pos c0]
  have b0 : (a0 == 0) = true := beq_iff_eq.mpr c0
  clear c0
  go_enter Tryd.func77, Tryd.ntmps77
  go_wp2
  refine bodyPost_ret (results_cell_row rfl _ _ w.heap.size 119 #[.func (.func 101) #[] #[]] (0, 0) _ rfl (by first | exact blk_new w _ | (simp; done)) (by exact Tryd.underlying119) rfl (by kernel_rfl)) rfl ?_
  exact ⟨rfl, by repeat (first | exact Below.refl _ _ | apply below_alloc)⟩
 ·rw [if_neg c0]
  have b0 : (a0 == 0) = false := beq_eq_false_iff_ne.mpr c0
  clear c0
  by_cases c1 : a0 = 1
  ·rw [if_pos c1]
   have b1 : (a0 == 1) = true := beq_iff_eq.mpr c1
   clear c1
   go_enter Tryd.func77, Tryd.ntmps77
   go_wp2
   refine bodyPost_ret (results_cell_row rfl _ _ w.heap.size 119 #[.func (.func 102) #[] #[]] (0, 0) _ rfl (by first | exact blk_new w _ | (simp; done)) (by exact Tryd.underlying119) rfl (by kernel_rfl)) rfl ?_
   exact ⟨rfl, by repeat (first | exact Below.refl _ _ | apply below_alloc)⟩
  ·rw [if_neg c1]
   have b1 : (a0 == 1) = false := beq_eq_false_iff_ne.mpr c1
   clear c1
   by_cases c2 : a0 = 2
   ·rw [if_pos c2]
    have b2 : (a0 == 2) = true := beq_iff_eq.mpr c2
    clear c2
    go_enter Tryd.func77, Tryd.ntmps77
    go_wp2
    refine bodyPost_ret (results_cell_row rfl _ _ w.heap.size 119 #[.func (.func 103) #[] #[]] (0, 0) _ rfl (by first | exact blk_new w _ | (simp; done)) (by exact Tryd.underlying119) rfl (by kernel_rfl)) rfl ?_
    exact ⟨rfl, by repeat (first | exact Below.refl _ _ | apply below_alloc)⟩
   ·rw [if_neg c2]
    have b2 : (a0 == 2) = false := beq_eq_false_iff_ne.mpr c2
    clear c2
    by_cases c3 : a0 = 3
    ·rw [if_pos c3]
     have b3 : (a0 == 3) = true := beq_iff_eq.mpr c3
     clear c3
     go_enter Tryd.func77, Tryd.ntmps77
     go_wp2
     refine bodyPost_ret (results_cell_row rfl _ _ w.heap.size 119 #[.func (.func 104) #[] #[]] (0, 0) _ rfl (by first | exact blk_new w _ | (simp; done)) (by exact Tryd.underlying119) rfl (by kernel_rfl)) rfl ?_
     exact ⟨rfl, by repeat (first | exact Below.refl _ _ | apply below_alloc)⟩
    ·rw [if_neg c3]
     have b3 : (a0 == 3) = false := beq_eq_false_iff_ne.mpr c3
     clear c3
     go_enter Tryd.func77, Tryd.ntmps77
     go_wp2
     refine bodyPost_ret (results_cell_row rfl _ _ w.heap.size 119 #[.func (.func 105) #[] #[]] (0, 0) _ rfl (by first | exact blk_new w _ | (simp; done)) (by exact Tryd.underlying119) rfl (by kernel_rfl)) rfl ?_
     exact ⟨rfl, by repeat (first | exact Below.refl _ _ | apply below_alloc)⟩
theorem goesE_ {P : Program} {ops : Array Oper} {Q : Exit → Act → World → Prop} {rest : List Oper} {oi : Oper} {a : Act} {w : World} (N : Option Tmp) (hd : oi.dst = N) (hg : oi.guard = none) {f : FuncId} {xs : Array Operand} {ts : Array TypeId} {op0 : Operand} (args : Array Value)
  (he : (callFunc f args).run P w = .ok (.enter f args) w) (hop : oi.op = .call { callee := .value op0, args := xs, argTypes := ts }) (hv : a.eval op0 = .func (.func f) #[] #[]) (hargs : xs.map a.eval = args)
  (h : Calls P f args w fun e w' => ∃ v, e = .returned v ∧ wpList P ops Q rest (a.put N v) w') : wpList P ops Q (oi :: rest) a w := by
 refine wpList_plain hg fun K hK => ?_
 have hrun : (execOp a.eval oi).run P w = .ok (.enter f args) w := by
  unfold execOp
  simp [hop, resolve, Deferred.ofValue, invoke, hv, hargs, he]
 unfold Oper.wp
 rw [hrun, Oper.upon_enter]
 refine h.mono fun e w'' hh => ?_
 obtain ⟨v, rfl, hk⟩ := hh
 subst hd
 exact hK _ _ hk
/-- whether a number beyond the greatest stays there: by the mode and the side -/
def near_staysL : List (List Bool) := [[false, false], [true, true], [false, false], [false, true], [true, false]]
def near_stays.f (m s : Int) : Option Bool := if 0 ≤ m ∧ m < 5 ∧ 0 ≤ s ∧ s < 2 then some ((near_staysL.getD m.toNat []).getD s.toNat false) else none
/-- the table lies in the world -/
def StaysLaid (w : World) : Prop := ∀ i j : Nat, i < 5 → j < 2 → w.cell? ⟨1, 2 * i + j, none⟩ = some (.bool ((near_staysL.getD i []).getD j false))
theorem StaysLaid.below {w w' : World} (h : StaysLaid w) (hb : Below w.heap.size w w') : StaysLaid w' := fun i j hi hj => pw_cell_below hb (h i j hi hj)
theorem StaysLaid.at_ {w : World} (h : StaysLaid w) {m s : Int} {t : Bool} (e : near_stays.f m s = some t) : 0 ≤ m ∧ m < 5 ∧ 0 ≤ s ∧ s < 2 ∧ w.cell? ⟨1, m.toNat * 2 + s.toNat, none⟩ = some (.bool t) := by
 unfold near_stays.f at e
 split at e
 ·rename_i hc
  obtain rfl := Option.some.inj e
  have z := h m.toNat s.toNat (by omega) (by omega)
  rw [Nat.mul_comm] at z
  exact ⟨hc.1, hc.2.1, hc.2.2.1, hc.2.2.2, z⟩
 ·cases e
mutual
def near_finish.j0 : Nat → Bool → Int → Int → Bool → Int → Int → Int → Option (Int × Int)
 | 0, _, _, _, _, _, _, _ => none
 | k + 1, x0, x1, x2, x3, x4, x12, x13 => if x1 = 0 then (near_finish.j1 k x0 x1 x2 x3 x4 x12 x13 (!x3)) else (near_finish.j1 k x0 x1 x2 x3 x4 x12 x13 false)
def near_finish.j1 : Nat → Bool → Int → Int → Bool → Int → Int → Int → Bool → Option (Int × Int)
 | 0, _, _, _, _, _, _, _, _ => none
 | k + 1, x0, x1, x2, x3, x4, x12, x13, x25 => if x25 = true then (some (x12, 0)) else ((wide_Len.f k x1).bind fun t160 => (if x1 = 0 then (near_finish.j2 k x0 x1 x2 x3 x4 x12 x13 (-1074)) else (near_finish.j2 k x0 x1 x2 x3 x4 x12 x13 (mx (wrap64 ((wrap64 (x2 + t160)) - 53)) (-1074)))))
def near_finish.j2 : Nat → Bool → Int → Int → Bool → Int → Int → Int → Int → Option (Int × Int)
 | 0, _, _, _, _, _, _, _, _ => none
 | k + 1, x0, x1, x2, x3, x4, x12, x13, x14 => if x14 > x2 then ((near_cut.f k x1 (wrap64 (x14 - x2))).bind fun bt161 => (near_finish.j3 k x0 bt161.1 x3 x4 x12 x13 x14 bt161.2)) else (if x1 = 0 then (near_finish.j3 k x0 x1 x3 x4 x12 x13 x14 0) else (if 0 ≤ (wrap64 (x2 - x14)) then (near_finish.j3 k x0 (shl .u64 x1 (wrap64 (x2 - x14))) x3 x4 x12 x13 x14 0) else (none)))
def near_finish.j3 : Nat → Bool → Int → Bool → Int → Int → Int → Int → Int → Option (Int × Int)
 | 0, _, _, _, _, _, _, _, _ => none
 | k + 1, x0, x1, x3, x4, x12, x13, x14, x15 => if x3 = true then (if x15 = 0 then (near_finish.j4 k x0 x1 x4 x12 x13 x14 x15 true) else (near_finish.j4 k x0 x1 x4 x12 x13 x14 x15 (x15 == 2))) else (near_finish.j4 k x0 x1 x4 x12 x13 x14 x15 false)
def near_finish.j4 : Nat → Bool → Int → Int → Int → Int → Int → Int → Bool → Option (Int × Int)
 | 0, _, _, _, _, _, _, _, _ => none
 | k + 1, x0, x1, x4, x12, x13, x14, x15, x61 => if x61 = true then (near_finish.j5 k x0 x1 x4 x12 x13 x14 (wrap64 (x15 + 1))) else (near_finish.j5 k x0 x1 x4 x12 x13 x14 x15)
def near_finish.j5 : Nat → Bool → Int → Int → Int → Int → Int → Int → Option (Int × Int)
 | 0, _, _, _, _, _, _, _ => none
 | k + 1, x0, x1, x4, x12, x13, x14, x15 => (near_way.f x4 x0 ((Go.bits .and .u64 x1 1) == 1) x15).bind fun t163 => (if t163 = true then (near_finish.j6 k x0 (IntKind.u64.wrap (x1 + 1)) x4 x12 x13 x14) else (near_finish.j6 k x0 x1 x4 x12 x13 x14))
def near_finish.j6 : Nat → Bool → Int → Int → Int → Int → Int → Option (Int × Int)
 | 0, _, _, _, _, _, _ => none
 | k + 1, x0, x1, x4, x12, x13, x14 => if x1 = 9007199254740992 then (near_finish.j7 k x0 4503599627370496 x4 x12 x13 (wrap64 (x14 + 1))) else (near_finish.j7 k x0 x1 x4 x12 x13 x14)
def near_finish.j7 : Nat → Bool → Int → Int → Int → Int → Int → Option (Int × Int)
 | 0, _, _, _, _, _, _ => none
 | k + 1, x0, x1, x4, x12, x13, x14 => if x14 > 971 then ((near_stays.f x4 x13).bind fun t164 => (if t164 = true then (some (Go.bits .or .u64 x12 9218868437227405311, 0)) else (some (0, 70)))) else ((f64_Join.f k x0 x1 x14).bind fun bt165 => (some (bt165.1, 0)))
end
def near_finish.f (k : Nat) (a0 : Bool) (a1 : Int) (a2 : Int) (a3 : Bool) (a4 : Int) : Option (Int × Int) := if a0 = true then (near_finish.j0 k a0 a1 a2 a3 a4 9223372036854775808 1) else (near_finish.j0 k a0 a1 a2 a3 a4 0 0)
set_option maxHeartbeats 8000000 in
set_option maxRecDepth 100000 in
theorem near_finish.calls (k : Nat) (a0 : Bool) (a1 : Int) (a2 : Int) (a3 : Bool) (a4 : Int) (r1 : Int) (r2 : Int) (w : World) (h : near_finish.f k a0 a1 a2 a3 a4 = some (r1, r2)) (hS : StaysLaid w := by first | exact HS.out | exact hS | exact StaysLaid.below HS.out HB.out | exact StaysLaid.below HS.out dB) :
  Calls Tryd.prog 48 #[.bool a0, .int .u64 a1, .int .i64 a2, .bool a3, .int .i64 a4] w fun e w' => e = .returned (.tuple #[.int .u64 r1, .int .i64 r2]) ∧ Below w.heap.size w w' := by
 have HS := Aside0.mk (show StaysLaid w from hS)
 clear hS
 have HB := Aside0.mk (Below.refl w.heap.size w)
 have H : (if a0 = true then (near_finish.j0 k a0 a1 a2 a3 a4 9223372036854775808 1) else (near_finish.j0 k a0 a1 a2 a3 a4 0 0)) = some (r1, r2) := h
 clear h
 have HC6 := Aside0.mk H
 clear H
 go_enter Tryd.func48, Tryd.ntmps48
 go_upto_if 19 with (fail)
 go_cut [12, 13] (fun v12 v13 wc => ∃ (kq : Nat) (x12_5 : Int) (x13_5 : Int), v12 = .int .u64 x12_5 ∧ v13 = .int .i64 x13_5 ∧ Aside0 (near_finish.j0 kq a0 a1 a2 a3 a4 x12_5 x13_5 = some (r1, r2)) ∧ Aside0 (kq ≤ k) ∧ Aside0 (Below w.heap.size w wc))
 case first =>
  have H := HC6.out
  clear HC6
  by_cases c7 : a0 = true
  ·subst c7
   have H1 : (near_finish.j0 k true a1 a2 a3 a4 9223372036854775808 1) = some (r1, r2) := by rw [if_pos rfl] at H; exact H
   clear H
   have H := H1
   clear H1
   have H' := Aside0.mk H
   clear H
   go_wp2
   go_meet
   case rel => exact ⟨_, (9223372036854775808), (1), dF, dF, H', ⟨dN⟩, ⟨dB⟩⟩
  ·replace c7 := Bool.eq_false_iff.mpr c7
   subst c7
   have H1 : (near_finish.j0 k false a1 a2 a3 a4 0 0) = some (r1, r2) := by rw [if_neg (show ¬ (false = true) by decide)] at H; exact H
   clear H
   have H := H1
   clear H1
   have H' := Aside0.mk H
   clear H
   go_wp2
   go_meet
   case rel => exact ⟨_, (0), (0), dF, dF, H', ⟨dN⟩, ⟨dB⟩⟩
 case rest =>
  clear HC6
  obtain ⟨kq, x12_5, x13_5, rfl, rfl, HA, HJ5, HB⟩ := hcut
  cases kq with
  | zero => exact absurd HA.out (by simp [near_finish.j0])
  | succ kj5 =>
   have H := HA.out
   clear HA
   simp only [near_finish.j0] at H
   have HC8 := Aside0.mk H
   clear H
   go_upto_region 4 with (fail)
   go_cut [25] (fun v25 wc => ∃ (kq : Nat) (x25_7 : Bool), v25 = .bool x25_7 ∧ Aside0 (near_finish.j1 kq a0 a1 a2 a3 a4 x12_5 x13_5 x25_7 = some (r1, r2)) ∧ Aside0 (kq ≤ kj5) ∧ Aside0 (Below w.heap.size w wc))
   case first =>
    have H := HC8.out
    clear HC8
    by_cases c9 : a1 = 0
    ·rw [if_pos c9] at H
     have c9b0 : (a1 == 0) = true := beq_iff_eq.mpr c9
     have c9b1 : (a1 != 0) = false := bne_eq_false_iff_eq.mpr c9
     clear c9
     (first | rw [c9b0] | (simp only [i64_w, i32_w]; rw [c9b0]) | skip)
     have H' := Aside0.mk H
     clear H
     go_wp2
     go_meet
     case rel => exact ⟨_, (!a3), dF, H', ⟨by have := HJ5.out; first | omega | exact Nat.le_refl _⟩, ⟨dB⟩⟩
    ·rw [if_neg c9] at H
     have c9b0 : (a1 == 0) = false := beq_eq_false_iff_ne.mpr c9
     have c9b1 : (a1 != 0) = true := bne_iff_ne.mpr c9
     (first | rw [c9b0] | (simp only [i64_w, i32_w]; rw [c9b0]) | skip)
     have H' := Aside0.mk H
     clear H
     go_wp2
     go_meet
     case rel => exact ⟨_, (false), dF, H', ⟨by have := HJ5.out; first | omega | exact Nat.le_refl _⟩, ⟨dB⟩⟩
   case rest =>
    clear HC8
    obtain ⟨kq, x25_7, rfl, HA, HJ7, HB⟩ := hcut
    cases kq with
    | zero => exact absurd HA.out (by simp [near_finish.j1])
    | succ kj7 =>
     have H := HA.out
     clear HA
     simp only [near_finish.j1] at H
     by_cases c10 : x25_7 = true
     ·subst c10
      have H1 : (some (x12_5, 0)) = some (r1, r2) := by rw [if_pos rfl] at H; exact H
      clear H
      have H := H1
      clear H1
      simp only [Option.some.injEq, Prod.mk.injEq] at H
      obtain ⟨rfl, rfl⟩ := H
      go_wp2
      go_ret2
      exact ⟨dE, dB⟩
     ·replace c10 := Bool.eq_false_iff.mpr c10
      subst c10
      have H1 : ((wide_Len.f kj7 a1).bind fun t160 => (if a1 = 0 then (near_finish.j2 kj7 a0 a1 a2 a3 a4 x12_5 x13_5 (-1074)) else (near_finish.j2 kj7 a0 a1 a2 a3 a4 x12_5 x13_5 (mx (wrap64 ((wrap64 (a2 + t160)) - 53)) (-1074))))) = some (r1, r2) := by rw [if_neg (show ¬ (false = true) by decide)] at H; exact H
      clear H
      have H := H1
      clear H1
      replace H := obe H
      obtain ⟨t160, A110, H⟩ := H
      (try dsimp only at H)
      have A11 := Aside0.mk A110
      clear A110
      obtain ⟨ji12, hji12⟩ : ∃ j_ : Int, (mx (wrap64 ((wrap64 (a2 + t160)) - 53)) (-1074)) = j_ := ⟨_, rfl⟩
      first | rw [hji12] at H | simp only [hji12] at H
      (try rw [hji12] at A11)
      have hji12_ : (if (wrap64 ((wrap64 (a2 + t160)) - 53)) < (-1074) then (-1074) else (wrap64 ((wrap64 (a2 + t160)) - 53))) = ji12 := hji12
      have HC13 := Aside0.mk H
      clear H
      go_upto_if 34 with (first | ((with_reducible refine gate_callee (f := 30) rfl ?_); refine gL (some 29) Tryd.func30 #[.int .u64 a1] ?_; (with_reducible refine (wide_Len.calls kj7 a1 t160 _ A11.out).mono ?_); rintro e w' ⟨rfl, ⟨nd, rfl⟩⟩; refine ⟨_, rfl, ?_⟩))
      (try simp only [Act.put, List.setIfInBounds_toArray, List.set_cons_zero, List.set_cons_succ])
      go_cut [14] (fun v14 wc => ∃ (kq : Nat) (x14_12 : Int), v14 = .int .i64 x14_12 ∧ Aside0 (near_finish.j2 kq a0 a1 a2 a3 a4 x12_5 x13_5 x14_12 = some (r1, r2)) ∧ Aside0 (kq ≤ kj7) ∧ Aside0 (Below w.heap.size w wc))
      case first =>
       have H := HC13.out
       clear HC13
       by_cases c14 : a1 = 0
       ·rw [if_pos c14] at H
        have c14b0 : (a1 == 0) = true := beq_iff_eq.mpr c14
        have c14b1 : (a1 != 0) = false := bne_eq_false_iff_eq.mpr c14
        clear c14
        (first | rw [c14b0] | (simp only [i64_w, i32_w]; rw [c14b0]) | skip)
        have H' := Aside0.mk H
        clear H
        go_wp2
        go_meet
        case rel => exact ⟨_, ((-1074)), dF, H', ⟨by have := HJ5.out; have := HJ7.out; first | omega | exact Nat.le_refl _⟩, ⟨dB⟩⟩
       ·rw [if_neg c14] at H
        have c14b0 : (a1 == 0) = false := beq_eq_false_iff_ne.mpr c14
        have c14b1 : (a1 != 0) = true := bne_iff_ne.mpr c14
        (first | rw [c14b0] | (simp only [i64_w, i32_w]; rw [c14b0]) | skip)
        have H' := Aside0.mk H
        clear H
        go_wp2
        go_meet
        case rel => exact ⟨_, (ji12), (by first | rfl | (simp; done) | (simp only [← hji12] <;> (first | rfl | simp)) | (simp [*]; done)), H', ⟨by have := HJ5.out; have := HJ7.out; first | omega | exact Nat.le_refl _⟩, ⟨dB⟩⟩
      case rest =>
       clear HC13
       try clear c10
       obtain ⟨kq, x14_12, rfl, HA, HJ12, HB⟩ := hcut
       cases kq with
       | zero => exact absurd HA.out (by simp [near_finish.j2])
       | succ kj12 =>
        have H := HA.out
        clear HA
        simp only [near_finish.j2] at H
        have HC15 := Aside0.mk H
        clear H
        go_upto_if 37 with (fail)
        go_cut [1, 15] (fun v1 v15 wc => ∃ (kq : Nat) (x1_14 : Int) (x15_14 : Int), v1 = .int .u64 x1_14 ∧ v15 = .int .i64 x15_14 ∧ Aside0 (near_finish.j3 kq a0 x1_14 a3 a4 x12_5 x13_5 x14_12 x15_14 = some (r1, r2)) ∧ Aside0 (kq ≤ kj12) ∧ Aside0 (Below w.heap.size w wc))
        case first =>
         have H := HC15.out
         clear HC15
         by_cases c16 : x14_12 > a2
         ·rw [if_pos c16] at H
          have c16b0 : decide (a2 < x14_12) = true := decide_eq_true c16
          clear c16
          (first | rw [c16b0] | (simp only [i64_w, i32_w]; rw [c16b0]) | skip)
          replace H := obe H
          obtain ⟨⟨t161, t162⟩, A170, H⟩ := H
          (try dsimp only at H)
          have A17 := Aside0.mk A170
          clear A170
          have H' := Aside0.mk H
          clear H
          go_wp2_with (first | ((with_reducible refine gate_callee (f := 76) rfl ?_); refine gL (some 43) Tryd.func76 #[.int .u64 a1, .int .i64 (wrap64 (x14_12 - a2))] ?_; (with_reducible refine (near_cut.calls kj12 a1 (wrap64 (x14_12 - a2)) t161 t162 _ A17.out).mono ?_); rintro e w18 ⟨rfl, hb⟩; refine ⟨_, rfl, ?_⟩; replace HB := Aside0.mk (below_step dB hb); (try clear hb)))
          go_meet
          case rel => exact ⟨_, (t161), (t162), dF, dF, H', ⟨by have := HJ5.out; have := HJ7.out; have := HJ12.out; first | omega | exact Nat.le_refl _⟩, ⟨dB⟩⟩
         ·rw [if_neg c16] at H
          have c16b0 : decide (a2 < x14_12) = false := decide_eq_false c16
          clear c16
          (first | rw [c16b0] | (simp only [i64_w, i32_w]; rw [c16b0]) | skip)
          by_cases c19 : a1 = 0
          ·rw [if_pos c19] at H
           have c19b0 : (a1 == 0) = true := beq_iff_eq.mpr c19
           have c19b1 : (a1 != 0) = false := bne_eq_false_iff_eq.mpr c19
           clear c19
           have H' := Aside0.mk H
           clear H
           go_wp2
           go_meet
           case rel => exact ⟨_, (a1), (0), dF, dF, H', ⟨by have := HJ5.out; have := HJ7.out; have := HJ12.out; first | omega | exact Nat.le_refl _⟩, ⟨dB⟩⟩
          ·rw [if_neg c19] at H
           have c19b0 : (a1 == 0) = false := beq_eq_false_iff_ne.mpr c19
           have c19b1 : (a1 != 0) = true := bne_iff_ne.mpr c19
           obtain ⟨ji20, hji20⟩ : ∃ j_ : Int, (wrap64 (a2 - x14_12)) = j_ := ⟨_, rfl⟩
           first | rw [hji20] at H | simp only [hji20] at H
           have hji20w : (IntKind.i64.wrap (a2 - x14_12)) = ji20 := (i64_w _).trans hji20
           by_cases c21 : (0 : Int) ≤ (ji20)
           ·rw [if_pos c21] at H
            have c21b0 := eq_true c21
            have c21b1 : decide (0 ≤ (ji20)) = true := decide_eq_true c21
            clear c21
            obtain ⟨ji22, hji22⟩ : ∃ j_ : Int, (shl .u64 a1 (ji20)) = j_ := ⟨_, rfl⟩
            first | rw [hji22] at H | simp only [hji22] at H
            have hji22_ : (IntKind.u64.wrap (a1 * 2 ^ min (ji20).toNat 64)) = ji22 := hji22
            have hji22z : (ji20) ≤ 64 → (IntKind.u64.wrap (a1 * 2 ^ (ji20).toNat)) = ji22 := shl_small hji22
            have H' := Aside0.mk H
            clear H
            go_wp2
            go_meet
            case rel => exact ⟨_, (ji22), (0), (by first | rfl | (simp; done) | (simp only [← hji22] <;> (first | rfl | simp)) | (simp [*]; done)), dF, H', ⟨by have := HJ5.out; have := HJ7.out; have := HJ12.out; first | omega | exact Nat.le_refl _⟩, ⟨dB⟩⟩
           ·rw [if_neg c21] at H
            exact absurd H (by simp)
        case rest =>
         clear HC15
         try clear c10
         obtain ⟨kq, x1_14, x15_14, rfl, rfl, HA, HJ14, HB⟩ := hcut
         cases kq with
         | zero => exact absurd HA.out (by simp [near_finish.j3])
         | succ kj14 =>
          have H := HA.out
          clear HA
          simp only [near_finish.j3] at H
          have HC23 := Aside0.mk H
          clear H
          go_upto_region 14 with (fail)
          go_cut [61] (fun v61 wc => ∃ (kq : Nat) (x61_22 : Bool), v61 = .bool x61_22 ∧ Aside0 (near_finish.j4 kq a0 x1_14 a4 x12_5 x13_5 x14_12 x15_14 x61_22 = some (r1, r2)) ∧ Aside0 (kq ≤ kj14) ∧ Aside0 (Below w.heap.size w wc))
          case first =>
           have H := HC23.out
           clear HC23
           by_cases c24 : a3 = true
           ·subst c24
            have H1 : (if x15_14 = 0 then (near_finish.j4 kj14 a0 x1_14 a4 x12_5 x13_5 x14_12 x15_14 true) else (near_finish.j4 kj14 a0 x1_14 a4 x12_5 x13_5 x14_12 x15_14 (x15_14 == 2))) = some (r1, r2) := by rw [if_pos rfl] at H; exact H
            clear H
            have H := H1
            clear H1
            by_cases c25 : x15_14 = 0
            ·rw [if_pos c25] at H
             have c25b0 : (x15_14 == 0) = true := beq_iff_eq.mpr c25
             have c25b1 : (x15_14 != 0) = false := bne_eq_false_iff_eq.mpr c25
             clear c25
             (first | rw [c25b0] | (simp only [i64_w, i32_w]; rw [c25b0]) | skip)
             have H' := Aside0.mk H
             clear H
             go_wp2
             go_meet
             case rel => exact ⟨_, (true), dF, H', ⟨by have := HJ5.out; have := HJ7.out; have := HJ12.out; have := HJ14.out; first | omega | exact Nat.le_refl _⟩, ⟨dB⟩⟩
            ·rw [if_neg c25] at H
             have c25b0 : (x15_14 == 0) = false := beq_eq_false_iff_ne.mpr c25
             have c25b1 : (x15_14 != 0) = true := bne_iff_ne.mpr c25
             (first | rw [c25b0] | (simp only [i64_w, i32_w]; rw [c25b0]) | skip)
             have H' := Aside0.mk H
             clear H
             go_wp2
             go_meet
             case rel => exact ⟨_, ((x15_14 == 2)), dF, H', ⟨by have := HJ5.out; have := HJ7.out; have := HJ12.out; have := HJ14.out; first | omega | exact Nat.le_refl _⟩, ⟨dB⟩⟩
           ·replace c24 := Bool.eq_false_iff.mpr c24
            subst c24
            have H1 : (near_finish.j4 kj14 a0 x1_14 a4 x12_5 x13_5 x14_12 x15_14 false) = some (r1, r2) := by rw [if_neg (show ¬ (false = true) by decide)] at H; exact H
            clear H
            have H := H1
            clear H1
            have H' := Aside0.mk H
            clear H
            go_wp2
            go_meet
            case rel => exact ⟨_, (false), dF, H', ⟨by have := HJ5.out; have := HJ7.out; have := HJ12.out; have := HJ14.out; first | omega | exact Nat.le_refl _⟩, ⟨dB⟩⟩
          case rest =>
           clear HC23
           try clear c10
           obtain ⟨kq, x61_22, rfl, HA, HJ22, HB⟩ := hcut
           cases kq with
           | zero => exact absurd HA.out (by simp [near_finish.j4])
           | succ kj22 =>
            have H := HA.out
            clear HA
            simp only [near_finish.j4] at H
            have HC26 := Aside0.mk H
            clear H
            go_upto_if 61 with (fail)
            go_cut [15] (fun v15 wc => ∃ (kq : Nat) (x15_25 : Int), v15 = .int .i64 x15_25 ∧ Aside0 (near_finish.j5 kq a0 x1_14 a4 x12_5 x13_5 x14_12 x15_25 = some (r1, r2)) ∧ Aside0 (kq ≤ kj22) ∧ Aside0 (Below w.heap.size w wc))
            case first =>
             have H := HC26.out
             clear HC26
             by_cases c27 : x61_22 = true
             ·subst c27
              have H1 : (near_finish.j5 kj22 a0 x1_14 a4 x12_5 x13_5 x14_12 (wrap64 (x15_14 + 1))) = some (r1, r2) := by rw [if_pos rfl] at H; exact H
              clear H
              have H := H1
              clear H1
              have H' := Aside0.mk H
              clear H
              go_wp2
              go_meet
              case rel => exact ⟨_, (wrap64 (x15_14 + 1)), dF, H', ⟨by have := HJ5.out; have := HJ7.out; have := HJ12.out; have := HJ14.out; have := HJ22.out; first | omega | exact Nat.le_refl _⟩, ⟨dB⟩⟩
             ·replace c27 := Bool.eq_false_iff.mpr c27
              subst c27
              have H1 : (near_finish.j5 kj22 a0 x1_14 a4 x12_5 x13_5 x14_12 x15_14) = some (r1, r2) := by rw [if_neg (show ¬ (false = true) by decide)] at H; exact H
              clear H
              have H := H1
              clear H1
              have H' := Aside0.mk H
              clear H
              go_wp2
              go_meet
              case rel => exact ⟨_, (x15_14), dF, H', ⟨by have := HJ5.out; have := HJ7.out; have := HJ12.out; have := HJ14.out; have := HJ22.out; first | omega | exact Nat.le_refl _⟩, ⟨dB⟩⟩
            case rest =>
             clear HC26
             try clear c10
             obtain ⟨kq, x15_25, rfl, HA, HJ25, HB⟩ := hcut
             cases kq with
             | zero => exact absurd HA.out (by simp [near_finish.j5])
             | succ kj25 =>
              have H := HA.out
              clear HA
              simp only [near_finish.j5] at H
              replace H := obe H
              obtain ⟨t163, A280, H⟩ := H
              (try dsimp only at H)
              have A28 := Aside0.mk A280
              clear A280
              have HC29 := Aside0.mk H
              clear H
              go_upto_if 73 with (first | ((with_reducible refine gate_callee (f := 77) rfl ?_); refine gL (some 65) Tryd.func77 #[.int .i64 a4] ?_; (with_reducible refine (near_way.calls a4 _).mono ?_); rintro e w999 ⟨rfl, hb⟩; refine ⟨_, rfl, ?_⟩; replace HB := Aside0.mk (below_step dB hb); (try clear hb)) | ((with_reducible refine gate_dst (N := 73) rfl ?_); refine goesE_ (some 73) rfl rfl (f := near_wayfn a4) #[.bool a0, .bool ((Go.bits .and .u64 x1_14 1) == 1), .int .i64 x15_25] (near_way.enters a4 _ _) rfl (by first | rfl | (go_simp; done)) dA ?_; (with_reducible refine (near_way.callsF a4 a0 ((Go.bits .and .u64 x1_14 1) == 1) x15_25 t163 _ A28.out).mono ?_); rintro e w' ⟨rfl, ⟨nd, rfl⟩⟩; refine ⟨_, rfl, ?_⟩))
              (try simp only [Act.put, List.setIfInBounds_toArray, List.set_cons_zero, List.set_cons_succ])
              go_cut [1] (fun v1 wc => ∃ (kq : Nat) (x1_28 : Int), v1 = .int .u64 x1_28 ∧ Aside0 (near_finish.j6 kq a0 x1_28 a4 x12_5 x13_5 x14_12 = some (r1, r2)) ∧ Aside0 (kq ≤ kj25) ∧ Aside0 (Below w.heap.size w wc))
              case first =>
               have H := HC29.out
               clear HC29
               by_cases c30 : t163 = true
               ·subst c30
                have H1 : (near_finish.j6 kj25 a0 (IntKind.u64.wrap (x1_14 + 1)) a4 x12_5 x13_5 x14_12) = some (r1, r2) := by rw [if_pos rfl] at H; exact H
                clear H
                have H := H1
                clear H1
                have H' := Aside0.mk H
                clear H
                go_wp2
                go_meet
                case rel => exact ⟨_, (IntKind.u64.wrap (x1_14 + 1)), dF, H', ⟨by have := HJ5.out; have := HJ7.out; have := HJ12.out; have := HJ14.out; have := HJ22.out; have := HJ25.out; first | omega | exact Nat.le_refl _⟩, ⟨dB⟩⟩
               ·replace c30 := Bool.eq_false_iff.mpr c30
                subst c30
                have H1 : (near_finish.j6 kj25 a0 x1_14 a4 x12_5 x13_5 x14_12) = some (r1, r2) := by rw [if_neg (show ¬ (false = true) by decide)] at H; exact H
                clear H
                have H := H1
                clear H1
                have H' := Aside0.mk H
                clear H
                go_wp2
                go_meet
                case rel => exact ⟨_, (x1_14), dF, H', ⟨by have := HJ5.out; have := HJ7.out; have := HJ12.out; have := HJ14.out; have := HJ22.out; have := HJ25.out; first | omega | exact Nat.le_refl _⟩, ⟨dB⟩⟩
              case rest =>
               clear HC29
               try clear c10
               obtain ⟨kq, x1_28, rfl, HA, HJ28, HB⟩ := hcut
               cases kq with
               | zero => exact absurd HA.out (by simp [near_finish.j6])
               | succ kj28 =>
                have H := HA.out
                clear HA
                simp only [near_finish.j6] at H
                have HC31 := Aside0.mk H
                clear H
                go_upto_if 77 with (fail)
                go_cut [1, 14] (fun v1 v14 wc => ∃ (kq : Nat) (x1_30 : Int) (x14_30 : Int), v1 = .int .u64 x1_30 ∧ v14 = .int .i64 x14_30 ∧ Aside0 (near_finish.j7 kq a0 x1_30 a4 x12_5 x13_5 x14_30 = some (r1, r2)) ∧ Aside0 (kq ≤ kj28) ∧ Aside0 (Below w.heap.size w wc))
                case first =>
                 have H := HC31.out
                 clear HC31
                 by_cases c32 : x1_28 = 9007199254740992
                 ·rw [if_pos c32] at H
                  have c32b0 : (x1_28 == 9007199254740992) = true := beq_iff_eq.mpr c32
                  have c32b1 : (x1_28 != 9007199254740992) = false := bne_eq_false_iff_eq.mpr c32
                  clear c32
                  (first | rw [c32b0] | (simp only [i64_w, i32_w]; rw [c32b0]) | skip)
                  have H' := Aside0.mk H
                  clear H
                  go_wp2
                  go_meet
                  case rel => exact ⟨_, (4503599627370496), (wrap64 (x14_12 + 1)), dF, dF, H', ⟨by have := HJ5.out; have := HJ7.out; have := HJ12.out; have := HJ14.out; have := HJ22.out; have := HJ25.out; have := HJ28.out; first | omega | exact Nat.le_refl _⟩, ⟨dB⟩⟩
                 ·rw [if_neg c32] at H
                  have c32b0 : (x1_28 == 9007199254740992) = false := beq_eq_false_iff_ne.mpr c32
                  have c32b1 : (x1_28 != 9007199254740992) = true := bne_iff_ne.mpr c32
                  (first | rw [c32b0] | (simp only [i64_w, i32_w]; rw [c32b0]) | skip)
                  have H' := Aside0.mk H
                  clear H
                  go_wp2
                  go_meet
                  case rel => exact ⟨_, (x1_28), (x14_12), dF, dF, H', ⟨by have := HJ5.out; have := HJ7.out; have := HJ12.out; have := HJ14.out; have := HJ22.out; have := HJ25.out; have := HJ28.out; first | omega | exact Nat.le_refl _⟩, ⟨dB⟩⟩
                case rest =>
                 clear HC31
                 try clear c10
                 obtain ⟨kq, x1_30, x14_30, rfl, rfl, HA, HJ30, HB⟩ := hcut
                 cases kq with
                 | zero => exact absurd HA.out (by simp [near_finish.j7])
                 | succ kj30 =>
                  have H := HA.out
                  clear HA
                  simp only [near_finish.j7] at H
                  by_cases c33 : x14_30 > 971
                  ·rw [if_pos c33] at H
                   have c33b0 : decide (971 < x14_30) = true := decide_eq_true c33
                   clear c33
                   replace H := obe H
                   obtain ⟨t164, A340, H⟩ := H
                   (try dsimp only at H)
                   have A34 := Aside0.mk A340
                   clear A340
                   by_cases c35 : t164 = true
                   ·subst c35
                    have H1 : (some (Go.bits .or .u64 x12_5 9218868437227405311, 0)) = some (r1, r2) := by rw [if_pos rfl] at H; exact H
                    clear H
                    have H := H1
                    clear H1
                    simp only [Option.some.injEq, Prod.mk.injEq] at H
                    obtain ⟨rfl, rfl⟩ := H
                    obtain ⟨pS, qS, uS, vS, hZ⟩ := StaysLaid.at_ (StaysLaid.below HS.out HB.out) A34.out
                    replace pS := eq_true pS
                    replace qS := eq_true qS
                    replace uS := eq_true uS
                    replace vS := eq_true vS
                    go_wp2
                    go_ret2
                    exact ⟨by first | rfl | (simp [errW_none, errW_some] <;> rfl) | (simp only [← hji12]; first | rfl | (simp [errW_none, errW_some] <;> rfl)) | (simp [*, errW_none, errW_some] <;> rfl), dB⟩
                   ·replace c35 := Bool.eq_false_iff.mpr c35
                    subst c35
                    have H1 : (some (0, 70)) = some (r1, r2) := by rw [if_neg (show ¬ (false = true) by decide)] at H; exact H
                    clear H
                    have H := H1
                    clear H1
                    simp only [Option.some.injEq, Prod.mk.injEq] at H
                    obtain ⟨rfl, rfl⟩ := H
                    obtain ⟨pS, qS, uS, vS, hZ⟩ := StaysLaid.at_ (StaysLaid.below HS.out HB.out) A34.out
                    replace pS := eq_true pS
                    replace qS := eq_true qS
                    replace uS := eq_true uS
                    replace vS := eq_true vS
                    go_wp2
                    go_ret2
                    exact ⟨by first | rfl | (simp [errW_none, errW_some] <;> rfl) | (simp only [← hji12]; first | rfl | (simp [errW_none, errW_some] <;> rfl)) | (simp [*, errW_none, errW_some] <;> rfl), dB⟩
                  ·rw [if_neg c33] at H
                   have c33b0 : decide (971 < x14_30) = false := decide_eq_false c33
                   clear c33
                   replace H := obe H
                   obtain ⟨⟨t165, t166⟩, A360, H⟩ := H
                   (try dsimp only at H)
                   have A36 := Aside0.mk A360
                   clear A360
                   simp only [Option.some.injEq, Prod.mk.injEq] at H
                   obtain ⟨rfl, rfl⟩ := H
                   go_wp2_with (first | ((with_reducible refine gate_callee (f := 61) rfl ?_); refine gL (some 93) Tryd.func61 #[.bool a0, .int .u64 x1_30, .int .i64 x14_30] ?_; (with_reducible refine (f64_Join.calls kj30 a0 x1_30 x14_30 t165 t166 _ A36.out).mono ?_); rintro e w37 ⟨rfl, hb⟩; refine ⟨_, rfl, ?_⟩; replace HB := Aside0.mk (below_step dB hb); (try clear hb)))
                   go_ret2
                   exact ⟨by first | rfl | (simp [errW_none, errW_some] <;> rfl) | (simp only [← hji12]; first | rfl | (simp [errW_none, errW_some] <;> rfl)) | (simp [*, errW_none, errW_some] <;> rfl), dB⟩


end Go.Proofs.YtoannkopciehcaaDoor.PA

namespace Go.Proofs.YtoannkopciehcaaDoor.PA
open Go.RowKit Go.Proofs.YtoannkopciehcaaDoorW.PrintWords Go.Proofs.YtoannkopciehcaaDoorW.PrintLast Go.Proofs.YtoannkopciehcaaDoorW.PrintMore
attribute [local go_sem] max2_int min2_int max_two min_two max_three min_three max_four min_four   -- for this text's walks alone
set_option linter.unusedVariables false
set_option linter.unusedSimpArgs false

/-! ### plumbref03_Norm: function 62 -/
end Go.Proofs.YtoannkopciehcaaDoor.PA

namespace Go.Proofs.YtoannkopciehcaaDoor.PA
open Go.RowKit Go.Proofs.YtoannkopciehcaaDoorW.PrintWords Go.Proofs.YtoannkopciehcaaDoorW.PrintLast Go.Proofs.YtoannkopciehcaaDoorW.PrintMore
attribute [local go_sem] max2_int min2_int max_two min_two max_three min_three max_four min_four   -- for this text's walks alone
set_option linter.unusedVariables false
set_option linter.unusedSimpArgs false

/-! ### plumbref03_Mul: function 32 -/
end Go.Proofs.YtoannkopciehcaaDoor.PA

namespace Go.Proofs.YtoannkopciehcaaDoor.PA
open Go.RowKit Go.Proofs.YtoannkopciehcaaDoorW.PrintWords Go.Proofs.YtoannkopciehcaaDoorW.PrintLast Go.Proofs.YtoannkopciehcaaDoorW.PrintMore
attribute [local go_sem] max2_int min2_int max_two min_two max_three min_three max_four min_four   -- for this text's walks alone
set_option linter.unusedVariables false
set_option linter.unusedSimpArgs false

end Go.Proofs.YtoannkopciehcaaDoor.PA

namespace Go.Proofs.YtoannkopciehcaaDoor.PA
open Go.RowKit Go.Proofs.YtoannkopciehcaaDoorW.PrintWords Go.Proofs.YtoannkopciehcaaDoorW.PrintLast Go.Proofs.YtoannkopciehcaaDoorW.PrintMore
attribute [local go_sem] max2_int min2_int max_two min_two max_three min_three max_four min_four   -- for this text's walks alone
set_option linter.unusedVariables false
set_option linter.unusedSimpArgs false

end Go.Proofs.YtoannkopciehcaaDoor.PA

namespace Go.Proofs.YtoannkopciehcaaDoor.PA
open Go.RowKit Go.Proofs.YtoannkopciehcaaDoorW.PrintWords Go.Proofs.YtoannkopciehcaaDoorW.PrintLast Go.Proofs.YtoannkopciehcaaDoorW.PrintMore
attribute [local go_sem] max2_int min2_int max_two min_two max_three min_three max_four min_four   -- for this text's walks alone
set_option linter.unusedVariables false
set_option linter.unusedSimpArgs false

/-! ### plumbref03_Shl: function 93 (by hand) -/
end Go.Proofs.YtoannkopciehcaaDoor.PA

namespace Go.Proofs.YtoannkopciehcaaDoor.PA
open Go.RowKit Go.Proofs.YtoannkopciehcaaDoorW.PrintWords Go.Proofs.YtoannkopciehcaaDoorW.PrintLast Go.Proofs.YtoannkopciehcaaDoorW.PrintMore
attribute [local go_sem] max2_int min2_int max_two min_two max_three min_three max_four min_four   -- for this text's walks alone
set_option linter.unusedVariables false
set_option linter.unusedSimpArgs false

/-! ### plumbref03_Cmp: function 95 -/
end Go.Proofs.YtoannkopciehcaaDoor.PA

namespace Go.Proofs.YtoannkopciehcaaDoor.PA
open Go.RowKit Go.Proofs.YtoannkopciehcaaDoorW.PrintWords Go.Proofs.YtoannkopciehcaaDoorW.PrintLast Go.Proofs.YtoannkopciehcaaDoorW.PrintMore
attribute [local go_sem] max2_int min2_int max_two min_two max_three min_three max_four min_four   -- for this text's walks alone
set_option linter.unusedVariables false
set_option linter.unusedSimpArgs false

end Go.Proofs.YtoannkopciehcaaDoor.PA

namespace Go.Proofs.YtoannkopciehcaaDoor.PA
open Go.RowKit Go.Proofs.YtoannkopciehcaaDoorW.PrintWords Go.Proofs.YtoannkopciehcaaDoorW.PrintLast Go.Proofs.YtoannkopciehcaaDoorW.PrintMore
attribute [local go_sem] max2_int min2_int max_two min_two max_three min_three max_four min_four   -- for this text's walks alone
set_option linter.unusedVariables false
set_option linter.unusedSimpArgs false

end Go.Proofs.YtoannkopciehcaaDoor.PA

namespace Go.Proofs.YtoannkopciehcaaDoor.PA
open Go.RowKit Go.Proofs.YtoannkopciehcaaDoorW.PrintWords Go.Proofs.YtoannkopciehcaaDoorW.PrintLast Go.Proofs.YtoannkopciehcaaDoorW.PrintMore
attribute [local go_sem] max2_int min2_int max_two min_two max_three min_three max_four min_four   -- for this text's walks alone
set_option linter.unusedVariables false
set_option linter.unusedSimpArgs false

end Go.Proofs.YtoannkopciehcaaDoor.PA

namespace Go.Proofs.YtoannkopciehcaaDoor.PA
open Go.RowKit Go.Proofs.YtoannkopciehcaaDoorW.PrintWords Go.Proofs.YtoannkopciehcaaDoorW.PrintLast Go.Proofs.YtoannkopciehcaaDoorW.PrintMore
attribute [local go_sem] max2_int min2_int max_two min_two max_three min_three max_four min_four   -- for this text's walks alone
set_option linter.unusedVariables false
set_option linter.unusedSimpArgs false

/-! ### plumbref03_Bits: function 92 -/
end Go.Proofs.YtoannkopciehcaaDoor.PA

namespace Go.Proofs.YtoannkopciehcaaDoor.PA
open Go.RowKit Go.Proofs.YtoannkopciehcaaDoorW.PrintWords Go.Proofs.YtoannkopciehcaaDoorW.PrintLast Go.Proofs.YtoannkopciehcaaDoorW.PrintMore
attribute [local go_sem] max2_int min2_int max_two min_two max_three min_three max_four min_four   -- for this text's walks alone
set_option linter.unusedVariables false
set_option linter.unusedSimpArgs false

end Go.Proofs.YtoannkopciehcaaDoor.PA

namespace Go.Proofs.YtoannkopciehcaaDoor.PA
open Go.RowKit Go.Proofs.YtoannkopciehcaaDoorW.PrintWords Go.Proofs.YtoannkopciehcaaDoorW.PrintLast Go.Proofs.YtoannkopciehcaaDoorW.PrintMore
attribute [local go_sem] max2_int min2_int max_two min_two max_three min_three max_four min_four   -- for this text's walks alone
set_option linter.unusedVariables false
set_option linter.unusedSimpArgs false

/-! ### plumbref03_DivMod: function 94 (by hand) -/
end Go.Proofs.YtoannkopciehcaaDoor.PA

namespace Go.Proofs.YtoannkopciehcaaDoor.PA
open Go.RowKit Go.Proofs.YtoannkopciehcaaDoorW.PrintWords Go.Proofs.YtoannkopciehcaaDoorW.PrintLast Go.Proofs.YtoannkopciehcaaDoorW.PrintMore
attribute [local go_sem] max2_int min2_int max_two min_two max_three min_three max_four min_four   -- for this text's walks alone
set_option linter.unusedVariables false
set_option linter.unusedSimpArgs false

end Go.Proofs.YtoannkopciehcaaDoor.PA

namespace Go.Proofs.YtoannkopciehcaaDoor.PA
open Go.RowKit Go.Proofs.YtoannkopciehcaaDoorW.PrintWords Go.Proofs.YtoannkopciehcaaDoorW.PrintLast Go.Proofs.YtoannkopciehcaaDoorW.PrintMore
attribute [local go_sem] max2_int min2_int max_two min_two max_three min_three max_four min_four   -- for this text's walks alone
set_option linter.unusedVariables false
set_option linter.unusedSimpArgs false

end Go.Proofs.YtoannkopciehcaaDoor.PA

namespace Go.Proofs.YtoannkopciehcaaDoor.PA
open Go.RowKit Go.Proofs.YtoannkopciehcaaDoorW.PrintWords Go.Proofs.YtoannkopciehcaaDoorW.PrintLast Go.Proofs.YtoannkopciehcaaDoorW.PrintMore
attribute [local go_sem] max2_int min2_int max_two min_two max_three min_three max_four min_four   -- for this text's walks alone
set_option linter.unusedVariables false
set_option linter.unusedSimpArgs false

/-! ### plumbref03_Add: function 70 -/
end Go.Proofs.YtoannkopciehcaaDoor.PA

namespace Go.Proofs.YtoannkopciehcaaDoor.PA
open Go.RowKit Go.Proofs.YtoannkopciehcaaDoorW.PrintWords Go.Proofs.YtoannkopciehcaaDoorW.PrintLast Go.Proofs.YtoannkopciehcaaDoorW.PrintMore
attribute [local go_sem] max2_int min2_int max_two min_two max_three min_three max_four min_four   -- for this text's walks alone
set_option linter.unusedVariables false
set_option linter.unusedSimpArgs false

end Go.Proofs.YtoannkopciehcaaDoor.PA

namespace Go.Proofs.YtoannkopciehcaaDoor.PA
open Go.RowKit Go.Proofs.YtoannkopciehcaaDoorW.PrintWords Go.Proofs.YtoannkopciehcaaDoorW.PrintLast Go.Proofs.YtoannkopciehcaaDoorW.PrintMore
attribute [local go_sem] max2_int min2_int max_two min_two max_three min_three max_four min_four   -- for this text's walks alone
set_option linter.unusedVariables false
set_option linter.unusedSimpArgs false

end Go.Proofs.YtoannkopciehcaaDoor.PA

namespace Go.Proofs.YtoannkopciehcaaDoor.PA
open Go.RowKit Go.Proofs.YtoannkopciehcaaDoorW.PrintWords Go.Proofs.YtoannkopciehcaaDoorW.PrintLast Go.Proofs.YtoannkopciehcaaDoorW.PrintMore
attribute [local go_sem] max2_int min2_int max_two min_two max_three min_three max_four min_four   -- for this text's walks alone
set_option linter.unusedVariables false
set_option linter.unusedSimpArgs false

end Go.Proofs.YtoannkopciehcaaDoor.PA

namespace Go.Proofs.YtoannkopciehcaaDoor.PA
open Go.RowKit Go.Proofs.YtoannkopciehcaaDoorW.PrintWords Go.Proofs.YtoannkopciehcaaDoorW.PrintLast Go.Proofs.YtoannkopciehcaaDoorW.PrintMore
attribute [local go_sem] max2_int min2_int max_two min_two max_three min_three max_four min_four   -- for this text's walks alone
set_option linter.unusedVariables false
set_option linter.unusedSimpArgs false

/-! ### plumblaw10_LemireRises: function 6 -/
/-! ### near_known: function 45 -/
def near_known.f (a0 : Int) : Option (Bool) := if a0 ≥ 0 then (some (decide (a0 < 5))) else (some false)
set_option maxHeartbeats 8000000 in
set_option maxRecDepth 100000 in
theorem near_known.calls (a0 : Int) (r : Bool) (w : World) (h : near_known.f a0 = some r) :
  Calls Tryd.prog 45 #[.int .i64 a0] w fun e w' => e = .returned (.bool r) ∧ Drawn0 w w' := by
 have H : (if a0 ≥ 0 then (some (decide (a0 < 5))) else (some false)) = some r := h
 clear h
 by_cases c2 : a0 ≥ 0
 ·rw [if_pos c2] at H
  have c2b0 : decide (0 ≤ a0) = true := decide_eq_true c2
  clear c2
  obtain rfl := Option.some.inj H
  go_enter Tryd.func45, Tryd.ntmps45
  go_wp2
  go_ret
  exact ⟨by first | rfl | (simp; done) | (simp [*]; done), by repeat (first | exact Drawn0.refl _ | apply Drawn0.step)⟩
 ·rw [if_neg c2] at H
  have c2b0 : decide (0 ≤ a0) = false := decide_eq_false c2
  clear c2
  obtain rfl := Option.some.inj H
  go_enter Tryd.func45, Tryd.ntmps45
  go_wp2
  go_ret
  exact ⟨by first | rfl | (simp; done) | (simp [*]; done), by repeat (first | exact Drawn0.refl _ | apply Drawn0.step)⟩

/-! ### nat_Word: function 47 -/
def nat_Word.f (k : Nat) (l0 : List Int) : Option (Int × Bool) := (nat_size.f k l0).bind fun t568 => (if t568 = 0 then (some (0, true)) else (if t568 = 1 then (if 0 < (l0.length : Int) then (some (rd l0 0, true)) else (none)) else (some (0, false))))
set_option maxHeartbeats 8000000 in
set_option maxRecDepth 100000 in
theorem nat_Word.calls (k : Nat) (A0 : Option Addr) (c0 : Nat) (l0 : List Int) (r1 : Int) (r2 : Bool) (w : World) (hr0 : Kd.C (Kd.int .u64) w A0 l0.length l0) (hc0 : l0.length ≤ c0) (h : nat_Word.f k l0 = some (r1, r2)) :
  Calls Tryd.prog 47 #[.slice A0 l0.length c0] w fun e w' => e = .returned (.tuple #[.int .u64 r1, .bool r2]) ∧ Drawn0 w w' := by
 have HR0 := Aside0.mk hr0
 have HC0 := Aside0.mk hc0
 clear hr0 hc0
 have H : ((nat_size.f k l0).bind fun t568 => (if t568 = 0 then (some (0, true)) else (if t568 = 1 then (if 0 < (l0.length : Int) then (some (rd l0 0, true)) else (none)) else (some (0, false))))) = some (r1, r2) := h
 clear h
 replace H := obe H
 obtain ⟨t568, A20, H⟩ := H
 (try dsimp only at H)
 have A2 := Aside0.mk A20
 clear A20
 by_cases c3 : t568 = 0
 ·rw [if_pos c3] at H
  have c3b0 : (t568 == 0) = true := beq_iff_eq.mpr c3
  have c3b1 : (t568 != 0) = false := bne_eq_false_iff_eq.mpr c3
  clear c3
  simp only [Option.some.injEq, Prod.mk.injEq] at H
  obtain ⟨rfl, rfl⟩ := H
  go_enter Tryd.func47, Tryd.ntmps47
  go_wp2_with (first | ((with_reducible refine gate_callee (f := 42) rfl ?_); refine gL (some 5) Tryd.func42 #[.slice A0 l0.length c0] ?_; (with_reducible refine (nat_size.calls k _ _ l0 t568 _ ?side1 ?side2 A2.out).mono ?_); (case side1 => exact dC HR0.out); (case side2 => exact HC0.out); rintro e w' ⟨rfl, ⟨nd, rfl⟩⟩; refine ⟨_, rfl, ?_⟩))
  go_ret2
  exact ⟨by first | rfl | (simp; done) | (simp [*]; done), by repeat (first | exact Drawn0.refl _ | apply Drawn0.step)⟩
 ·rw [if_neg c3] at H
  have c3b0 : (t568 == 0) = false := beq_eq_false_iff_ne.mpr c3
  have c3b1 : (t568 != 0) = true := bne_iff_ne.mpr c3
  by_cases c4 : t568 = 1
  ·rw [if_pos c4] at H
   have c4b0 : (t568 == 1) = true := beq_iff_eq.mpr c4
   have c4b1 : (t568 != 1) = false := bne_eq_false_iff_eq.mpr c4
   clear c4
   by_cases c5 : (0 : Int) < (l0.length : Int)
   ·rw [if_pos c5] at H
    have c5b0 : decide (0 < (l0.length : Int)) = true := decide_eq_true c5
    have c5b1 : decide (0 < l0.length) = true := decide_eq_true (by omega)
    clear c5
    simp only [Option.some.injEq, Prod.mk.injEq] at H
    obtain ⟨rfl, rfl⟩ := H
    go_enter Tryd.func47, Tryd.ntmps47
    go_wp2_with (first | ((with_reducible refine gate_callee (f := 42) rfl ?_); refine gL (some 5) Tryd.func42 #[.slice A0 l0.length c0] ?_; (with_reducible refine (nat_size.calls k _ _ l0 t568 _ ?side1 ?side2 A2.out).mono ?_); (case side1 => exact dC HR0.out); (case side2 => exact HC0.out); rintro e w' ⟨rfl, ⟨nd, rfl⟩⟩; refine ⟨_, rfl, ?_⟩; have p569 : 0 ≤ (0 : Int) := (by omega); have q569 : 0 < (l0.length : Int) := of_decide_eq_true dS; obtain ⟨ad569, e569, hx569_0⟩ := Kd.at_int HR0.out 0 p569 q569; cases e569; have qi569 : (0 < l0.length) = True := eq_true (by omega); (try rw [show ((0 : Int)).toNat = 0 from rfl] at hx569_0); (try rw [Addr.add_zero'] at hx569_0); replace p569 := eq_true p569; replace q569 := eq_true q569))
    go_ret2
    exact ⟨by first | rfl | (simp; done) | (simp [*]; done), by repeat (first | exact Drawn0.refl _ | apply Drawn0.step)⟩
   ·rw [if_neg c5] at H
    exact absurd H (by simp)
  ·rw [if_neg c4] at H
   have c4b0 : (t568 == 1) = false := beq_eq_false_iff_ne.mpr c4
   have c4b1 : (t568 != 1) = true := bne_iff_ne.mpr c4
   simp only [Option.some.injEq, Prod.mk.injEq] at H
   obtain ⟨rfl, rfl⟩ := H
   go_enter Tryd.func47, Tryd.ntmps47
   go_wp2_with (first | ((with_reducible refine gate_callee (f := 42) rfl ?_); refine gL (some 5) Tryd.func42 #[.slice A0 l0.length c0] ?_; (with_reducible refine (nat_size.calls k _ _ l0 t568 _ ?side1 ?side2 A2.out).mono ?_); (case side1 => exact dC HR0.out); (case side2 => exact HC0.out); rintro e w' ⟨rfl, ⟨nd, rfl⟩⟩; refine ⟨_, rfl, ?_⟩))
   go_ret2
   exact ⟨by first | rfl | (simp; done) | (simp [*]; done), by repeat (first | exact Drawn0.refl _ | apply Drawn0.step)⟩

end Go.Proofs.YtoannkopciehcaaDoor.PA

namespace Go.Proofs.YtoannkopciehcaaDoor.PA
open Go.RowKit Go.Proofs.YtoannkopciehcaaDoorW.PrintWords Go.Proofs.YtoannkopciehcaaDoorW.PrintLast Go.Proofs.YtoannkopciehcaaDoorW.PrintMore
attribute [local go_sem] max2_int min2_int max_two min_two max_three min_three max_four min_four   -- for this text's walks alone
set_option linter.unusedVariables false
set_option linter.unusedSimpArgs false

end Go.Proofs.YtoannkopciehcaaDoor.PA
