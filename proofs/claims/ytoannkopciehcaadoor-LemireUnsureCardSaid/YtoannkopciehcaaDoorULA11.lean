/- A part of the proof (11). -/
import Derived.Test.YtoannkopciehcaaDoorULA2
import Derived.Test.YtoannkopciehcaaDoorULA4
import Derived.Test.YtoannkopciehcaaDoorULA10
namespace Go.Proofs.YtoannkopciehcaaDoor.PA
open Go.RowKit Go.Proofs.YtoannkopciehcaaDoorW.PrintWords Go.Proofs.YtoannkopciehcaaDoorW.PrintLast Go.Proofs.YtoannkopciehcaaDoorW.PrintMore
attribute [local go_sem] max2_int min2_int max_two min_two max_three min_three max_four min_four   -- for this text's walks alone
set_option linter.unusedVariables false
set_option linter.unusedSimpArgs false

/-! ### lemire_Cut: function 15 -/
mutual
def lemire_Cut.l0 : Nat → ByteArray → Int → Int → Option (Int × Int × Bool × Int)
 | 0, _, _, _ => none
 | k + 1, x0, x12, x13 => if x13 < x12 then (if 0 ≤ x13 then (if x13 < (x0.size : Int) then (if (bt x0 x13) < 48 then (some (0, 0, false, 41)) else (if (bt x0 x13) > 57 then (some (0, 0, false, 41)) else (lemire_Cut.l0 k x0 x12 (wrap64 (x13 + 1))))) else (none)) else (none)) else (lemire_Cut.l1 k x0 0)
def lemire_Cut.j2 : Nat → ByteArray → Int → Option (Int × Int × Bool × Int)
 | 0, _, _ => none
 | k + 1, x0, x7 => lemire_Cut.l2 k x0 x7 0 0
def lemire_Cut.j4 : Nat → ByteArray → Int → Int → Option (Int × Int × Bool × Int)
 | 0, _, _, _ => none
 | k + 1, x0, x7, x8 => lemire_Cut.l3 k x0 x7 x8 x7
def lemire_Cut.l3 : Nat → ByteArray → Int → Int → Int → Option (Int × Int × Bool × Int)
 | 0, _, _, _, _ => none
 | k + 1, x0, x7, x8, x10 => if x10 < (x0.size : Int) then (if 0 ≤ x10 then (if (bt x0 x10) = 48 then (lemire_Cut.l3 k x0 x7 x8 (wrap64 (x10 + 1))) else (some (x8, x7, true, 0))) else (none)) else (some (x8, x7, false, 0))
def lemire_Cut.l2 : Nat → ByteArray → Int → Int → Int → Option (Int × Int × Bool × Int)
 | 0, _, _, _, _ => none
 | k + 1, x0, x7, x8, x9 => if x9 < 19 then (if x7 < (x0.size : Int) then (if 0 ≤ x7 then (lemire_Cut.l2 k x0 (wrap64 (x7 + 1)) (IntKind.u64.wrap ((IntKind.u64.wrap (x8 * 10)) + (((bt x0 x7) - 48) % 256))) (wrap64 (x9 + 1))) else (none)) else (lemire_Cut.j4 k x0 x7 x8)) else (lemire_Cut.j4 k x0 x7 x8)
def lemire_Cut.l1 : Nat → ByteArray → Int → Option (Int × Int × Bool × Int)
 | 0, _, _ => none
 | k + 1, x0, x7 => if x7 < (x0.size : Int) then (if 0 ≤ x7 then (if (bt x0 x7) = 48 then (lemire_Cut.l1 k x0 (wrap64 (x7 + 1))) else (lemire_Cut.j2 k x0 x7)) else (none)) else (lemire_Cut.j2 k x0 x7)
end
def lemire_Cut.f (k : Nat) (a0 : ByteArray) : Option (Int × Int × Bool × Int) := lemire_Cut.l0 k a0 (a0.size : Int) 0
theorem lemire_Cut.mono_l : ∀ k, (∀ y0 y1 y2, LeO (lemire_Cut.l0 k y0 y1 y2) (lemire_Cut.l0 (k + 1) y0 y1 y2)) ∧ (∀ y0 y1, LeO (lemire_Cut.j2 k y0 y1) (lemire_Cut.j2 (k + 1) y0 y1)) ∧ (∀ y0 y1 y2, LeO (lemire_Cut.j4 k y0 y1 y2) (lemire_Cut.j4 (k + 1) y0 y1 y2)) ∧ (∀ y0 y1 y2 y3, LeO (lemire_Cut.l3 k y0 y1 y2 y3) (lemire_Cut.l3 (k + 1) y0 y1 y2 y3)) ∧ (∀ y0 y1 y2 y3, LeO (lemire_Cut.l2 k y0 y1 y2 y3) (lemire_Cut.l2 (k + 1) y0 y1 y2 y3)) ∧ (∀ y0 y1, LeO (lemire_Cut.l1 k y0 y1) (lemire_Cut.l1 (k + 1) y0 y1))
 | 0 => ⟨fun _ _ _ r h => by simp [lemire_Cut.l0] at h, fun _ _ r h => by simp [lemire_Cut.j2] at h, fun _ _ _ r h => by simp [lemire_Cut.j4] at h, fun _ _ _ _ r h => by simp [lemire_Cut.l3] at h, fun _ _ _ _ r h => by simp [lemire_Cut.l2] at h, fun _ _ r h => by simp [lemire_Cut.l1] at h⟩
 | k + 1 => by
  obtain ⟨ih0, ih1, ih2, ih3, ih4, ih5⟩ := lemire_Cut.mono_l k
  refine ⟨?_, ?_, ?_, ?_, ?_, ?_⟩
  ·intro y0 y1 y2
   unfold lemire_Cut.l0
   exact mX
  ·intro y0 y1
   unfold lemire_Cut.j2
   exact mX
  ·intro y0 y1 y2
   unfold lemire_Cut.j4
   exact mX
  ·intro y0 y1 y2 y3
   unfold lemire_Cut.l3
   exact mX
  ·intro y0 y1 y2 y3
   unfold lemire_Cut.l2
   exact mX
  ·intro y0 y1
   unfold lemire_Cut.l1
   exact mX
theorem lemire_Cut.mono : ∀ a0 k, LeO (lemire_Cut.f k a0) (lemire_Cut.f (k + 1) a0) := by
 intro a0 k
 obtain ⟨ih0, ih1, ih2, ih3, ih4, ih5⟩ := lemire_Cut.mono_l k
 unfold lemire_Cut.f
 exact mX
set_option maxHeartbeats 8000000 in
set_option maxRecDepth 100000 in
theorem lemire_Cut.calls (k : Nat) (a0 : ByteArray) (r1 : Int) (r2 : Int) (r3 : Bool) (r4 : Int) (w : World) (h : lemire_Cut.f k a0 = some (r1, r2, r3, r4)) :
  Calls Tryd.prog 15 #[.string a0] w fun e w' => e = .returned (.tuple #[.int .u64 r1, .int .i64 r2, .bool r3, .int .i64 r4]) ∧ Drawn0 w w' := by
 have H : (lemire_Cut.l0 k a0 (a0.size : Int) 0) = some (r1, r2, r3, r4) := h
 clear h
 have H' := Aside0.mk H
 clear H
 go_enter Tryd.func15, Tryd.ntmps15
 go_wp2
 go_loopg [13] k (fun kq v13 w' => ∃ (x13_1 : Int), v13 = .int .i64 x13_1 ∧ Aside0 (lemire_Cut.l0 kq a0 (a0.size : Int) x13_1 = some (r1, r2, r3, r4)) ∧ Aside0 (kq ≤ k) ∧ Drawn0 w w')
 case atStart => exact ⟨(0), dF, H', ⟨Nat.le_refl _⟩, by repeat (first | exact Drawn0.refl _ | apply Drawn0.step)⟩
 case round =>
  clear H'
  obtain ⟨x13_1, rfl, HA, HK1, ⟨m1, rfl⟩⟩ := hrel
  cases gk with
  | zero => exact absurd HA.out (by simp [lemire_Cut.l0])
  | succ k1 =>
   have H := HA.out
   clear HA
   simp only [lemire_Cut.l0] at H
   by_cases c2 : x13_1 < (a0.size : Int)
   ·rw [if_pos c2] at H
    have c2b0 : decide (x13_1 < (a0.size : Int)) = true := decide_eq_true c2
    clear c2
    by_cases c3 : (0 : Int) ≤ x13_1
    ·rw [if_pos c3] at H
     have c3b0 : decide (0 ≤ x13_1) = true := decide_eq_true c3
     clear c3
     by_cases c4 : x13_1 < (a0.size : Int)
     ·rw [if_pos c4] at H
      have c4b0 : decide (x13_1 < (a0.size : Int)) = true := decide_eq_true c4
      clear c4
      by_cases c6 : (bt a0 x13_1) < 48
      ·rw [if_pos c6] at H
       have c6b0 : decide ((bt a0 x13_1) < 48) = true := decide_eq_true c6
       clear c6
       simp only [Option.some.injEq, Prod.mk.injEq] at H
       obtain ⟨rfl, rfl, rfl, rfl⟩ := H
       have p5 : 0 ≤ (x13_1 : Int) := of_decide_eq_true dS
       have q5 : x13_1 < (a0.size : Int) := of_decide_eq_true dS
       have hx5 := bt_at a0 x13_1
       replace p5 := eq_true p5
       replace q5 := eq_true q5
       go_wp2
       refine bodyPost_ret (results_list (rs := [.tmp 2, .tmp 3, .tmp 4, .tmp 5]) rfl (by simp) (.tmp (.tmp (.tmp (.tmp .nil))))) rfl ?_
       exact ⟨by first | rfl | (simp; done) | (simp [*]; done), by repeat (first | exact Drawn0.refl _ | apply Drawn0.step)⟩
      ·rw [if_neg c6] at H
       have c6b0 : decide ((bt a0 x13_1) < 48) = false := decide_eq_false c6
       clear c6
       by_cases c8 : (bt a0 x13_1) > 57
       ·rw [if_pos c8] at H
        have c8b0 : decide (57 < (bt a0 x13_1)) = true := decide_eq_true c8
        clear c8
        simp only [Option.some.injEq, Prod.mk.injEq] at H
        obtain ⟨rfl, rfl, rfl, rfl⟩ := H
        have p5 : 0 ≤ (x13_1 : Int) := of_decide_eq_true dS
        have q5 : x13_1 < (a0.size : Int) := of_decide_eq_true dS
        have hx5 := bt_at a0 x13_1
        replace p5 := eq_true p5
        replace q5 := eq_true q5
        have p7 : 0 ≤ (x13_1 : Int) := of_decide_eq_true dS
        have q7 : x13_1 < (a0.size : Int) := of_decide_eq_true dS
        have hx7 := bt_at a0 x13_1
        replace p7 := eq_true p7
        replace q7 := eq_true q7
        go_wp2
        refine bodyPost_ret (results_list (rs := [.tmp 2, .tmp 3, .tmp 4, .tmp 5]) rfl (by simp) (.tmp (.tmp (.tmp (.tmp .nil))))) rfl ?_
        exact ⟨by first | rfl | (simp; done) | (simp [*]; done), by repeat (first | exact Drawn0.refl _ | apply Drawn0.step)⟩
       ·rw [if_neg c8] at H
        have c8b0 : decide (57 < (bt a0 x13_1)) = false := decide_eq_false c8
        clear c8
        have H' := Aside0.mk H
        clear H
        have p5 : 0 ≤ (x13_1 : Int) := of_decide_eq_true dS
        have q5 : x13_1 < (a0.size : Int) := of_decide_eq_true dS
        have hx5 := bt_at a0 x13_1
        replace p5 := eq_true p5
        replace q5 := eq_true q5
        have p7 : 0 ≤ (x13_1 : Int) := of_decide_eq_true dS
        have q7 : x13_1 < (a0.size : Int) := of_decide_eq_true dS
        have hx7 := bt_at a0 x13_1
        replace p7 := eq_true p7
        replace q7 := eq_true q7
        go_wp2
        go_roundg k1
        case measure => have := HK1.out; omega
        case rel => exact ⟨(wrap64 (x13_1 + 1)), dF, H', ⟨by have := HK1.out; omega⟩, by repeat (first | exact Drawn0.refl _ | apply Drawn0.step)⟩
     ·rw [if_neg c4] at H
      exact absurd H (by simp)
    ·rw [if_neg c3] at H
     exact absurd H (by simp)
   ·rw [if_neg c2] at H
    have c2b0 : decide (x13_1 < (a0.size : Int)) = false := decide_eq_false c2
    clear c2
    have HC9 := Aside0.mk H
    clear H
    go_upto_block 2 with (fail)
    go_cut [7] (fun v7 wc => ∃ (kq : Nat) (x7_8 : Int), v7 = .int .i64 x7_8 ∧ Aside0 (lemire_Cut.j2 kq a0 x7_8 = some (r1, r2, r3, r4)) ∧ Aside0 (kq ≤ k1) ∧ Drawn0 w wc)
    case first =>
     have H := HC9.out
     clear HC9
     have H' := Aside0.mk H
     clear H
     go_wp2
     go_loopg [7] k1 (fun kq v7 w' => ∃ (x7_2 : Int), v7 = .int .i64 x7_2 ∧ Aside0 (lemire_Cut.l1 kq a0 x7_2 = some (r1, r2, r3, r4)) ∧ Aside0 (kq ≤ k1) ∧ Drawn0 w w')
     case atStart => exact ⟨(0), dF, H', ⟨Nat.le_refl _⟩, by repeat (first | exact Drawn0.refl _ | apply Drawn0.step)⟩
     case round =>
      clear H'
      try clear c2
      try clear c2b0
      obtain ⟨x7_2, rfl, HA, HK2, ⟨m2, rfl⟩⟩ := hrel
      cases gk with
      | zero => exact absurd HA.out (by simp [lemire_Cut.l1])
      | succ k2 =>
       have H := HA.out
       clear HA
       simp only [lemire_Cut.l1] at H
       by_cases c10 : x7_2 < (a0.size : Int)
       ·rw [if_pos c10] at H
        have c10b0 : decide (x7_2 < (a0.size : Int)) = true := decide_eq_true c10
        clear c10
        (first | rw [c10b0] | (simp only [i64_w, i32_w]; rw [c10b0]) | skip)
        by_cases c11 : (0 : Int) ≤ x7_2
        ·rw [if_pos c11] at H
         have c11b0 : decide (0 ≤ x7_2) = true := decide_eq_true c11
         clear c11
         by_cases c13 : (bt a0 x7_2) = 48
         ·rw [if_pos c13] at H
          have c13b0 : ((bt a0 x7_2) == 48) = true := beq_iff_eq.mpr c13
          have c13b1 : ((bt a0 x7_2) != 48) = false := bne_eq_false_iff_eq.mpr c13
          clear c13
          have H' := Aside0.mk H
          clear H
          have p12 : 0 ≤ (x7_2 : Int) := of_decide_eq_true dS
          have q12 : x7_2 < (a0.size : Int) := of_decide_eq_true dS
          have hx12 := bt_at a0 x7_2
          replace p12 := eq_true p12
          replace q12 := eq_true q12
          go_wp2
          go_roundg k2
          case measure => have := HK1.out; have := HK2.out; omega
          case rel => exact ⟨(wrap64 (x7_2 + 1)), dF, H', ⟨by have := HK1.out; have := HK2.out; omega⟩, by repeat (first | exact Drawn0.refl _ | apply Drawn0.step)⟩
         ·rw [if_neg c13] at H
          have c13b0 : ((bt a0 x7_2) == 48) = false := beq_eq_false_iff_ne.mpr c13
          have c13b1 : ((bt a0 x7_2) != 48) = true := bne_iff_ne.mpr c13
          have H' := Aside0.mk H
          clear H
          have p12 : 0 ≤ (x7_2 : Int) := of_decide_eq_true dS
          have q12 : x7_2 < (a0.size : Int) := of_decide_eq_true dS
          have hx12 := bt_at a0 x7_2
          replace p12 := eq_true p12
          replace q12 := eq_true q12
          go_wp2
          go_meet
          case rel => exact ⟨_, (x7_2), dF, H', ⟨by have := HK1.out; have := HK2.out; first | omega | exact Nat.le_refl _⟩, by repeat (first | exact Drawn0.refl _ | apply Drawn0.step)⟩
        ·rw [if_neg c11] at H
         exact absurd H (by simp)
       ·rw [if_neg c10] at H
        have c10b0 : decide (x7_2 < (a0.size : Int)) = false := decide_eq_false c10
        clear c10
        (first | rw [c10b0] | (simp only [i64_w, i32_w]; rw [c10b0]) | skip)
        have H' := Aside0.mk H
        clear H
        go_wp2
        go_meet
        case rel => exact ⟨_, (x7_2), dF, H', ⟨by have := HK1.out; have := HK2.out; first | omega | exact Nat.le_refl _⟩, by repeat (first | exact Drawn0.refl _ | apply Drawn0.step)⟩
    case rest =>
     clear HC9
     try clear c2
     try clear c2b0
     obtain ⟨kq, x7_8, rfl, HA, HJ8, ⟨mc8, rfl⟩⟩ := hcut
     cases kq with
     | zero => exact absurd HA.out (by simp [lemire_Cut.j2])
     | succ kj8 =>
      have H := HA.out
      clear HA
      simp only [lemire_Cut.j2] at H
      have HC14 := Aside0.mk H
      clear H
      go_upto_block 4 with (fail)
      go_cut [7, 8] (fun v7 v8 wc => ∃ (kq : Nat) (x7_13 : Int) (x8_13 : Int), v7 = .int .i64 x7_13 ∧ v8 = .int .u64 x8_13 ∧ Aside0 (lemire_Cut.j4 kq a0 x7_13 x8_13 = some (r1, r2, r3, r4)) ∧ Aside0 (kq ≤ kj8) ∧ Drawn0 w wc)
      case first =>
       have H := HC14.out
       clear HC14
       have H' := Aside0.mk H
       clear H
       go_wp2
       go_loopg [7, 8, 9] kj8 (fun kq v7 v8 v9 w' => ∃ (x7_3 : Int) (x8_3 : Int) (x9_3 : Int), v7 = .int .i64 x7_3 ∧ v8 = .int .u64 x8_3 ∧ v9 = .int .i64 x9_3 ∧ Aside0 (lemire_Cut.l2 kq a0 x7_3 x8_3 x9_3 = some (r1, r2, r3, r4)) ∧ Aside0 (kq ≤ kj8) ∧ Drawn0 w w')
       case atStart => exact ⟨(x7_8), (0), (0), dF, dF, dF, H', ⟨Nat.le_refl _⟩, by repeat (first | exact Drawn0.refl _ | apply Drawn0.step)⟩
       case round =>
        clear H'
        try clear c2
        try clear c2b0
        obtain ⟨x7_3, x8_3, x9_3, rfl, rfl, rfl, HA, HK3, ⟨m3, rfl⟩⟩ := hrel
        cases gk with
        | zero => exact absurd HA.out (by simp [lemire_Cut.l2])
        | succ k3 =>
         have H := HA.out
         clear HA
         simp only [lemire_Cut.l2] at H
         by_cases c15 : x9_3 < 19
         ·rw [if_pos c15] at H
          have c15b0 : decide (x9_3 < 19) = true := decide_eq_true c15
          clear c15
          (first | rw [c15b0] | (simp only [i64_w, i32_w]; rw [c15b0]) | skip)
          by_cases c16 : x7_3 < (a0.size : Int)
          ·rw [if_pos c16] at H
           have c16b0 : decide (x7_3 < (a0.size : Int)) = true := decide_eq_true c16
           clear c16
           by_cases c17 : (0 : Int) ≤ x7_3
           ·rw [if_pos c17] at H
            have c17b0 : decide (0 ≤ x7_3) = true := decide_eq_true c17
            clear c17
            have H' := Aside0.mk H
            clear H
            have p18 : 0 ≤ (x7_3 : Int) := of_decide_eq_true dS
            have q18 : x7_3 < (a0.size : Int) := of_decide_eq_true dS
            have hx18 := bt_at a0 x7_3
            replace p18 := eq_true p18
            replace q18 := eq_true q18
            go_wp2
            go_roundg k3
            case measure => have := HK1.out; have := HJ8.out; have := HK3.out; omega
            case rel => exact ⟨(wrap64 (x7_3 + 1)), (IntKind.u64.wrap ((IntKind.u64.wrap (x8_3 * 10)) + (((bt a0 x7_3) - 48) % 256))), (wrap64 (x9_3 + 1)), dF, dF, dF, H', ⟨by have := HK1.out; have := HJ8.out; have := HK3.out; omega⟩, by repeat (first | exact Drawn0.refl _ | apply Drawn0.step)⟩
           ·rw [if_neg c17] at H
            exact absurd H (by simp)
          ·rw [if_neg c16] at H
           have c16b0 : decide (x7_3 < (a0.size : Int)) = false := decide_eq_false c16
           clear c16
           have H' := Aside0.mk H
           clear H
           go_wp2
           go_meet
           case rel => exact ⟨_, (x7_3), (x8_3), dF, dF, H', ⟨by have := HK1.out; have := HJ8.out; have := HK3.out; first | omega | exact Nat.le_refl _⟩, by repeat (first | exact Drawn0.refl _ | apply Drawn0.step)⟩
         ·rw [if_neg c15] at H
          have c15b0 : decide (x9_3 < 19) = false := decide_eq_false c15
          clear c15
          (first | rw [c15b0] | (simp only [i64_w, i32_w]; rw [c15b0]) | skip)
          have H' := Aside0.mk H
          clear H
          go_wp2
          go_meet
          case rel => exact ⟨_, (x7_3), (x8_3), dF, dF, H', ⟨by have := HK1.out; have := HJ8.out; have := HK3.out; first | omega | exact Nat.le_refl _⟩, by repeat (first | exact Drawn0.refl _ | apply Drawn0.step)⟩
      case rest =>
       clear HC14
       try clear c2
       try clear c2b0
       obtain ⟨kq, x7_13, x8_13, rfl, rfl, HA, HJ13, ⟨mc13, rfl⟩⟩ := hcut
       cases kq with
       | zero => exact absurd HA.out (by simp [lemire_Cut.j4])
       | succ kj13 =>
        have H := HA.out
        clear HA
        simp only [lemire_Cut.j4] at H
        have H' := Aside0.mk H
        clear H
        go_wp2
        go_loopg [10] kj13 (fun kq v10 w' => ∃ (x10_4 : Int), v10 = .int .i64 x10_4 ∧ Aside0 (lemire_Cut.l3 kq a0 x7_13 x8_13 x10_4 = some (r1, r2, r3, r4)) ∧ Aside0 (kq ≤ kj13) ∧ Drawn0 w w')
        case atStart => exact ⟨(x7_13), dF, H', ⟨Nat.le_refl _⟩, by repeat (first | exact Drawn0.refl _ | apply Drawn0.step)⟩
        case round =>
         clear H'
         try clear c2
         try clear c2b0
         obtain ⟨x10_4, rfl, HA, HK4, ⟨m4, rfl⟩⟩ := hrel
         cases gk with
         | zero => exact absurd HA.out (by simp [lemire_Cut.l3])
         | succ k4 =>
          have H := HA.out
          clear HA
          simp only [lemire_Cut.l3] at H
          by_cases c19 : x10_4 < (a0.size : Int)
          ·rw [if_pos c19] at H
           have c19b0 : decide (x10_4 < (a0.size : Int)) = true := decide_eq_true c19
           clear c19
           by_cases c20 : (0 : Int) ≤ x10_4
           ·rw [if_pos c20] at H
            have c20b0 : decide (0 ≤ x10_4) = true := decide_eq_true c20
            clear c20
            by_cases c22 : (bt a0 x10_4) = 48
            ·rw [if_pos c22] at H
             have c22b0 : ((bt a0 x10_4) == 48) = true := beq_iff_eq.mpr c22
             have c22b1 : ((bt a0 x10_4) != 48) = false := bne_eq_false_iff_eq.mpr c22
             clear c22
             have H' := Aside0.mk H
             clear H
             have p21 : 0 ≤ (x10_4 : Int) := of_decide_eq_true dS
             have q21 : x10_4 < (a0.size : Int) := of_decide_eq_true dS
             have hx21 := bt_at a0 x10_4
             replace p21 := eq_true p21
             replace q21 := eq_true q21
             go_wp2
             go_roundg k4
             case measure => have := HK1.out; have := HJ8.out; have := HJ13.out; have := HK4.out; omega
             case rel => exact ⟨(wrap64 (x10_4 + 1)), dF, H', ⟨by have := HK1.out; have := HJ8.out; have := HJ13.out; have := HK4.out; omega⟩, by repeat (first | exact Drawn0.refl _ | apply Drawn0.step)⟩
            ·rw [if_neg c22] at H
             have c22b0 : ((bt a0 x10_4) == 48) = false := beq_eq_false_iff_ne.mpr c22
             have c22b1 : ((bt a0 x10_4) != 48) = true := bne_iff_ne.mpr c22
             simp only [Option.some.injEq, Prod.mk.injEq] at H
             obtain ⟨rfl, rfl, rfl, rfl⟩ := H
             have p21 : 0 ≤ (x10_4 : Int) := of_decide_eq_true dS
             have q21 : x10_4 < (a0.size : Int) := of_decide_eq_true dS
             have hx21 := bt_at a0 x10_4
             replace p21 := eq_true p21
             replace q21 := eq_true q21
             go_wp2
             refine bodyPost_ret (results_list (rs := [.tmp 2, .tmp 3, .tmp 4, .tmp 5]) rfl (by simp) (.tmp (.tmp (.tmp (.tmp .nil))))) rfl ?_
             exact ⟨by first | rfl | (simp; done) | (simp [*]; done), by repeat (first | exact Drawn0.refl _ | apply Drawn0.step)⟩
           ·rw [if_neg c20] at H
            exact absurd H (by simp)
          ·rw [if_neg c19] at H
           have c19b0 : decide (x10_4 < (a0.size : Int)) = false := decide_eq_false c19
           clear c19
           simp only [Option.some.injEq, Prod.mk.injEq] at H
           obtain ⟨rfl, rfl, rfl, rfl⟩ := H
           go_wp2
           refine bodyPost_ret (results_list (rs := [.tmp 2, .tmp 3, .tmp 4, .tmp 5]) rfl (by simp) (.tmp (.tmp (.tmp (.tmp .nil))))) rfl ?_
           exact ⟨by first | rfl | (simp; done) | (simp [*]; done), by repeat (first | exact Drawn0.refl _ | apply Drawn0.step)⟩

end Go.Proofs.YtoannkopciehcaaDoor.PA

namespace Go.Proofs.YtoannkopciehcaaDoor.PA
open Go.RowKit Go.Proofs.YtoannkopciehcaaDoorW.PrintWords Go.Proofs.YtoannkopciehcaaDoorW.PrintLast Go.Proofs.YtoannkopciehcaaDoorW.PrintMore
attribute [local go_sem] max2_int min2_int max_two min_two max_three min_three max_four min_four   -- for this text's walks alone
set_option linter.unusedVariables false
set_option linter.unusedSimpArgs false

/-! ### plumblaw10_alive: function 14 -/
def plumblaw10_alive.f (k : Nat)  : Option (Bool) := (lemire_Small.f k 1 (-1)).bind fun bt278 => ((lemire_Fast.f k 1 23).bind fun bt280 => ((lemire_Cut.f k (⟨#[48, 48, 49, 50, 120]⟩ : ByteArray)).bind fun bt282 => ((lemire_Cut.f k (⟨#[48, 48, 49, 50]⟩ : ByteArray)).bind fun bt286 => (if bt278.2 = true then (if bt278.1 = 4591870180066957722 then (if bt280.2 = 0 then (if bt280.1 = 4950912855330343670 then (if bt282.2.2.2 = 41 then (if bt282.1 = 0 then (if bt282.2.1 = 0 then (if bt282.2.2.1 = true then (some false) else (if bt286.2.2.2 = 0 then (if bt286.1 = 12 then (if bt286.2.1 = 4 then (some (!bt286.2.2.1)) else (some false)) else (some false)) else (some false))) else (some false)) else (some false)) else (some false)) else (some false)) else (some false)) else (some false)) else (some false)))))
theorem plumblaw10_alive.mono : ∀ k, LeO (plumblaw10_alive.f k ) (plumblaw10_alive.f (k + 1) ) := by
 intro  k
 unfold plumblaw10_alive.f
 have m0_ := lemire_Cut.mono
 have m1_ := lemire_Fast.mono
 have m2_ := lemire_Small.mono
 exact mX
set_option maxHeartbeats 8000000 in
set_option maxRecDepth 100000 in
theorem plumblaw10_alive.calls (k : Nat)  (r : Bool) (w : World) (h : plumblaw10_alive.f k  = some r) (hG : TensLaid w := by first | exact HG.out | exact hG | exact TensLaid.below HG.out HB.out | exact TensLaid.below HG.out dB) :
  Calls Tryd.prog 14 #[] w fun e w' => e = .returned (.bool r) ∧ Below w.heap.size w w' := by
 have HG := Aside0.mk (show TensLaid w from hG)
 clear hG
 have HB := Aside0.mk (Below.refl w.heap.size w)
 have H : ((lemire_Small.f k 1 (-1)).bind fun bt278 => ((lemire_Fast.f k 1 23).bind fun bt280 => ((lemire_Cut.f k (⟨#[48, 48, 49, 50, 120]⟩ : ByteArray)).bind fun bt282 => ((lemire_Cut.f k (⟨#[48, 48, 49, 50]⟩ : ByteArray)).bind fun bt286 => (if bt278.2 = true then (if bt278.1 = 4591870180066957722 then (if bt280.2 = 0 then (if bt280.1 = 4950912855330343670 then (if bt282.2.2.2 = 41 then (if bt282.1 = 0 then (if bt282.2.1 = 0 then (if bt282.2.2.1 = true then (some false) else (if bt286.2.2.2 = 0 then (if bt286.1 = 12 then (if bt286.2.1 = 4 then (some (!bt286.2.2.1)) else (some false)) else (some false)) else (some false))) else (some false)) else (some false)) else (some false)) else (some false)) else (some false)) else (some false)) else (some false)))))) = some r := h
 clear h
 replace H := obe H
 obtain ⟨⟨t278, t279⟩, A10, H⟩ := H
 (try dsimp only at H)
 have A1 := Aside0.mk A10
 clear A10
 replace H := obe H
 obtain ⟨⟨t280, t281⟩, A20, H⟩ := H
 (try dsimp only at H)
 have A2 := Aside0.mk A20
 clear A20
 replace H := obe H
 obtain ⟨⟨t282, t283, t284, t285⟩, A30, H⟩ := H
 (try dsimp only at H)
 have A3 := Aside0.mk A30
 clear A30
 replace H := obe H
 obtain ⟨⟨t286, t287, t288, t289⟩, A40, H⟩ := H
 (try dsimp only at H)
 have A4 := Aside0.mk A40
 clear A40
 by_cases c5 : t279 = true
 ·subst c5
  have H1 : (if t278 = 4591870180066957722 then (if t281 = 0 then (if t280 = 4950912855330343670 then (if t285 = 41 then (if t282 = 0 then (if t283 = 0 then (if t284 = true then (some false) else (if t289 = 0 then (if t286 = 12 then (if t287 = 4 then (some (!t288)) else (some false)) else (some false)) else (some false))) else (some false)) else (some false)) else (some false)) else (some false)) else (some false)) else (some false)) = some r := by rw [if_pos rfl] at H; exact H
  clear H
  have H := H1
  clear H1
  by_cases c6 : t278 = 4591870180066957722
  ·rw [if_pos c6] at H
   have c6b0 : (t278 == 4591870180066957722) = true := beq_iff_eq.mpr c6
   have c6b1 : (t278 != 4591870180066957722) = false := bne_eq_false_iff_eq.mpr c6
   clear c6
   by_cases c7 : t281 = 0
   ·rw [if_pos c7] at H
    have c7b0 : (t281 == 0) = true := beq_iff_eq.mpr c7
    have c7b1 : (t281 != 0) = false := bne_eq_false_iff_eq.mpr c7
    clear c7
    by_cases c8 : t280 = 4950912855330343670
    ·rw [if_pos c8] at H
     have c8b0 : (t280 == 4950912855330343670) = true := beq_iff_eq.mpr c8
     have c8b1 : (t280 != 4950912855330343670) = false := bne_eq_false_iff_eq.mpr c8
     clear c8
     by_cases c9 : t285 = 41
     ·rw [if_pos c9] at H
      have c9b0 : (t285 == 41) = true := beq_iff_eq.mpr c9
      have c9b1 : (t285 != 41) = false := bne_eq_false_iff_eq.mpr c9
      clear c9
      by_cases c10 : t282 = 0
      ·rw [if_pos c10] at H
       have c10b0 : (t282 == 0) = true := beq_iff_eq.mpr c10
       have c10b1 : (t282 != 0) = false := bne_eq_false_iff_eq.mpr c10
       clear c10
       by_cases c11 : t283 = 0
       ·rw [if_pos c11] at H
        have c11b0 : (t283 == 0) = true := beq_iff_eq.mpr c11
        have c11b1 : (t283 != 0) = false := bne_eq_false_iff_eq.mpr c11
        clear c11
        by_cases c12 : t284 = true
        ·subst c12
         have H1 : (some false) = some r := by rw [if_pos rfl] at H; exact H
         clear H
         have H := H1
         clear H1
         obtain rfl := Option.some.inj H
         go_enter Tryd.func14, Tryd.ntmps14
         go_wp2_with (first | ((with_reducible refine gate_callee (f := 10) rfl ?_); refine gL (some 14) Tryd.func10 #[.int .u64 1, .int .i64 (-1)] ?_; (with_reducible refine (lemire_Small.calls k 1 (-1) t278 true _ A1.out).mono ?_); rintro e w13 ⟨rfl, hb⟩; refine ⟨_, rfl, ?_⟩; replace HB := Aside0.mk (below_step dB hb); (try clear hb)) | ((with_reducible refine gate_callee (f := 12) rfl ?_); refine gL (some 18) Tryd.func12 #[.int .u64 1, .int .i64 23] ?_; (with_reducible refine (lemire_Fast.calls k 1 23 t280 t281 _ A2.out).mono ?_); rintro e w14 ⟨rfl, hb⟩; refine ⟨_, rfl, ?_⟩; replace HB := Aside0.mk (below_step dB hb); (try clear hb)) | ((with_reducible refine gate_callee (f := 15) rfl ?_); refine gL (some 22) Tryd.func15 #[.string (⟨#[48, 48, 49, 50, 120]⟩ : ByteArray)] ?_; (with_reducible refine (lemire_Cut.calls k (⟨#[48, 48, 49, 50, 120]⟩ : ByteArray) t282 t283 true t285 _ A3.out).mono ?_); rintro e w' ⟨rfl, ⟨nd, rfl⟩⟩; refine ⟨_, rfl, ?_⟩) | ((with_reducible refine gate_callee (f := 15) rfl ?_); refine gL (some 28) Tryd.func15 #[.string (⟨#[48, 48, 49, 50]⟩ : ByteArray)] ?_; (with_reducible refine (lemire_Cut.calls k (⟨#[48, 48, 49, 50]⟩ : ByteArray) t286 t287 t288 t289 _ A4.out).mono ?_); rintro e w' ⟨rfl, ⟨nd, rfl⟩⟩; refine ⟨_, rfl, ?_⟩))
         go_ret
         exact ⟨dE, dB⟩
        ·replace c12 := Bool.eq_false_iff.mpr c12
         subst c12
         have H1 : (if t289 = 0 then (if t286 = 12 then (if t287 = 4 then (some (!t288)) else (some false)) else (some false)) else (some false)) = some r := by rw [if_neg (show ¬ (false = true) by decide)] at H; exact H
         clear H
         have H := H1
         clear H1
         by_cases c15 : t289 = 0
         ·rw [if_pos c15] at H
          have c15b0 : (t289 == 0) = true := beq_iff_eq.mpr c15
          have c15b1 : (t289 != 0) = false := bne_eq_false_iff_eq.mpr c15
          clear c15
          by_cases c16 : t286 = 12
          ·rw [if_pos c16] at H
           have c16b0 : (t286 == 12) = true := beq_iff_eq.mpr c16
           have c16b1 : (t286 != 12) = false := bne_eq_false_iff_eq.mpr c16
           clear c16
           by_cases c17 : t287 = 4
           ·rw [if_pos c17] at H
            have c17b0 : (t287 == 4) = true := beq_iff_eq.mpr c17
            have c17b1 : (t287 != 4) = false := bne_eq_false_iff_eq.mpr c17
            clear c17
            obtain rfl := Option.some.inj H
            go_enter Tryd.func14, Tryd.ntmps14
            go_wp2_with (first | ((with_reducible refine gate_callee (f := 10) rfl ?_); refine gL (some 14) Tryd.func10 #[.int .u64 1, .int .i64 (-1)] ?_; (with_reducible refine (lemire_Small.calls k 1 (-1) t278 true _ A1.out).mono ?_); rintro e w18 ⟨rfl, hb⟩; refine ⟨_, rfl, ?_⟩; replace HB := Aside0.mk (below_step dB hb); (try clear hb)) | ((with_reducible refine gate_callee (f := 12) rfl ?_); refine gL (some 18) Tryd.func12 #[.int .u64 1, .int .i64 23] ?_; (with_reducible refine (lemire_Fast.calls k 1 23 t280 t281 _ A2.out).mono ?_); rintro e w19 ⟨rfl, hb⟩; refine ⟨_, rfl, ?_⟩; replace HB := Aside0.mk (below_step dB hb); (try clear hb)) | ((with_reducible refine gate_callee (f := 15) rfl ?_); refine gL (some 22) Tryd.func15 #[.string (⟨#[48, 48, 49, 50, 120]⟩ : ByteArray)] ?_; (with_reducible refine (lemire_Cut.calls k (⟨#[48, 48, 49, 50, 120]⟩ : ByteArray) t282 t283 false t285 _ A3.out).mono ?_); rintro e w' ⟨rfl, ⟨nd, rfl⟩⟩; refine ⟨_, rfl, ?_⟩) | ((with_reducible refine gate_callee (f := 15) rfl ?_); refine gL (some 28) Tryd.func15 #[.string (⟨#[48, 48, 49, 50]⟩ : ByteArray)] ?_; (with_reducible refine (lemire_Cut.calls k (⟨#[48, 48, 49, 50]⟩ : ByteArray) t286 t287 t288 t289 _ A4.out).mono ?_); rintro e w' ⟨rfl, ⟨nd, rfl⟩⟩; refine ⟨_, rfl, ?_⟩))
            go_ret
            exact ⟨dE, dB⟩
           ·rw [if_neg c17] at H
            have c17b0 : (t287 == 4) = false := beq_eq_false_iff_ne.mpr c17
            have c17b1 : (t287 != 4) = true := bne_iff_ne.mpr c17
            obtain rfl := Option.some.inj H
            go_enter Tryd.func14, Tryd.ntmps14
            go_wp2_with (first | ((with_reducible refine gate_callee (f := 10) rfl ?_); refine gL (some 14) Tryd.func10 #[.int .u64 1, .int .i64 (-1)] ?_; (with_reducible refine (lemire_Small.calls k 1 (-1) t278 true _ A1.out).mono ?_); rintro e w20 ⟨rfl, hb⟩; refine ⟨_, rfl, ?_⟩; replace HB := Aside0.mk (below_step dB hb); (try clear hb)) | ((with_reducible refine gate_callee (f := 12) rfl ?_); refine gL (some 18) Tryd.func12 #[.int .u64 1, .int .i64 23] ?_; (with_reducible refine (lemire_Fast.calls k 1 23 t280 t281 _ A2.out).mono ?_); rintro e w21 ⟨rfl, hb⟩; refine ⟨_, rfl, ?_⟩; replace HB := Aside0.mk (below_step dB hb); (try clear hb)) | ((with_reducible refine gate_callee (f := 15) rfl ?_); refine gL (some 22) Tryd.func15 #[.string (⟨#[48, 48, 49, 50, 120]⟩ : ByteArray)] ?_; (with_reducible refine (lemire_Cut.calls k (⟨#[48, 48, 49, 50, 120]⟩ : ByteArray) t282 t283 false t285 _ A3.out).mono ?_); rintro e w' ⟨rfl, ⟨nd, rfl⟩⟩; refine ⟨_, rfl, ?_⟩) | ((with_reducible refine gate_callee (f := 15) rfl ?_); refine gL (some 28) Tryd.func15 #[.string (⟨#[48, 48, 49, 50]⟩ : ByteArray)] ?_; (with_reducible refine (lemire_Cut.calls k (⟨#[48, 48, 49, 50]⟩ : ByteArray) t286 t287 t288 t289 _ A4.out).mono ?_); rintro e w' ⟨rfl, ⟨nd, rfl⟩⟩; refine ⟨_, rfl, ?_⟩))
            go_ret
            exact ⟨dE, dB⟩
          ·rw [if_neg c16] at H
           have c16b0 : (t286 == 12) = false := beq_eq_false_iff_ne.mpr c16
           have c16b1 : (t286 != 12) = true := bne_iff_ne.mpr c16
           obtain rfl := Option.some.inj H
           go_enter Tryd.func14, Tryd.ntmps14
           go_wp2_with (first | ((with_reducible refine gate_callee (f := 10) rfl ?_); refine gL (some 14) Tryd.func10 #[.int .u64 1, .int .i64 (-1)] ?_; (with_reducible refine (lemire_Small.calls k 1 (-1) t278 true _ A1.out).mono ?_); rintro e w22 ⟨rfl, hb⟩; refine ⟨_, rfl, ?_⟩; replace HB := Aside0.mk (below_step dB hb); (try clear hb)) | ((with_reducible refine gate_callee (f := 12) rfl ?_); refine gL (some 18) Tryd.func12 #[.int .u64 1, .int .i64 23] ?_; (with_reducible refine (lemire_Fast.calls k 1 23 t280 t281 _ A2.out).mono ?_); rintro e w23 ⟨rfl, hb⟩; refine ⟨_, rfl, ?_⟩; replace HB := Aside0.mk (below_step dB hb); (try clear hb)) | ((with_reducible refine gate_callee (f := 15) rfl ?_); refine gL (some 22) Tryd.func15 #[.string (⟨#[48, 48, 49, 50, 120]⟩ : ByteArray)] ?_; (with_reducible refine (lemire_Cut.calls k (⟨#[48, 48, 49, 50, 120]⟩ : ByteArray) t282 t283 false t285 _ A3.out).mono ?_); rintro e w' ⟨rfl, ⟨nd, rfl⟩⟩; refine ⟨_, rfl, ?_⟩) | ((with_reducible refine gate_callee (f := 15) rfl ?_); refine gL (some 28) Tryd.func15 #[.string (⟨#[48, 48, 49, 50]⟩ : ByteArray)] ?_; (with_reducible refine (lemire_Cut.calls k (⟨#[48, 48, 49, 50]⟩ : ByteArray) t286 t287 t288 t289 _ A4.out).mono ?_); rintro e w' ⟨rfl, ⟨nd, rfl⟩⟩; refine ⟨_, rfl, ?_⟩))
           go_ret
           exact ⟨dE, dB⟩
         ·rw [if_neg c15] at H
          have c15b0 : (t289 == 0) = false := beq_eq_false_iff_ne.mpr c15
          have c15b1 : (t289 != 0) = true := bne_iff_ne.mpr c15
          obtain rfl := Option.some.inj H
          go_enter Tryd.func14, Tryd.ntmps14
          go_wp2_with (first | ((with_reducible refine gate_callee (f := 10) rfl ?_); refine gL (some 14) Tryd.func10 #[.int .u64 1, .int .i64 (-1)] ?_; (with_reducible refine (lemire_Small.calls k 1 (-1) t278 true _ A1.out).mono ?_); rintro e w24 ⟨rfl, hb⟩; refine ⟨_, rfl, ?_⟩; replace HB := Aside0.mk (below_step dB hb); (try clear hb)) | ((with_reducible refine gate_callee (f := 12) rfl ?_); refine gL (some 18) Tryd.func12 #[.int .u64 1, .int .i64 23] ?_; (with_reducible refine (lemire_Fast.calls k 1 23 t280 t281 _ A2.out).mono ?_); rintro e w25 ⟨rfl, hb⟩; refine ⟨_, rfl, ?_⟩; replace HB := Aside0.mk (below_step dB hb); (try clear hb)) | ((with_reducible refine gate_callee (f := 15) rfl ?_); refine gL (some 22) Tryd.func15 #[.string (⟨#[48, 48, 49, 50, 120]⟩ : ByteArray)] ?_; (with_reducible refine (lemire_Cut.calls k (⟨#[48, 48, 49, 50, 120]⟩ : ByteArray) t282 t283 false t285 _ A3.out).mono ?_); rintro e w' ⟨rfl, ⟨nd, rfl⟩⟩; refine ⟨_, rfl, ?_⟩) | ((with_reducible refine gate_callee (f := 15) rfl ?_); refine gL (some 28) Tryd.func15 #[.string (⟨#[48, 48, 49, 50]⟩ : ByteArray)] ?_; (with_reducible refine (lemire_Cut.calls k (⟨#[48, 48, 49, 50]⟩ : ByteArray) t286 t287 t288 t289 _ A4.out).mono ?_); rintro e w' ⟨rfl, ⟨nd, rfl⟩⟩; refine ⟨_, rfl, ?_⟩))
          go_ret
          exact ⟨dE, dB⟩
       ·rw [if_neg c11] at H
        have c11b0 : (t283 == 0) = false := beq_eq_false_iff_ne.mpr c11
        have c11b1 : (t283 != 0) = true := bne_iff_ne.mpr c11
        obtain rfl := Option.some.inj H
        go_enter Tryd.func14, Tryd.ntmps14
        go_wp2_with (first | ((with_reducible refine gate_callee (f := 10) rfl ?_); refine gL (some 14) Tryd.func10 #[.int .u64 1, .int .i64 (-1)] ?_; (with_reducible refine (lemire_Small.calls k 1 (-1) t278 true _ A1.out).mono ?_); rintro e w26 ⟨rfl, hb⟩; refine ⟨_, rfl, ?_⟩; replace HB := Aside0.mk (below_step dB hb); (try clear hb)) | ((with_reducible refine gate_callee (f := 12) rfl ?_); refine gL (some 18) Tryd.func12 #[.int .u64 1, .int .i64 23] ?_; (with_reducible refine (lemire_Fast.calls k 1 23 t280 t281 _ A2.out).mono ?_); rintro e w27 ⟨rfl, hb⟩; refine ⟨_, rfl, ?_⟩; replace HB := Aside0.mk (below_step dB hb); (try clear hb)) | ((with_reducible refine gate_callee (f := 15) rfl ?_); refine gL (some 22) Tryd.func15 #[.string (⟨#[48, 48, 49, 50, 120]⟩ : ByteArray)] ?_; (with_reducible refine (lemire_Cut.calls k (⟨#[48, 48, 49, 50, 120]⟩ : ByteArray) t282 t283 t284 t285 _ A3.out).mono ?_); rintro e w' ⟨rfl, ⟨nd, rfl⟩⟩; refine ⟨_, rfl, ?_⟩) | ((with_reducible refine gate_callee (f := 15) rfl ?_); refine gL (some 28) Tryd.func15 #[.string (⟨#[48, 48, 49, 50]⟩ : ByteArray)] ?_; (with_reducible refine (lemire_Cut.calls k (⟨#[48, 48, 49, 50]⟩ : ByteArray) t286 t287 t288 t289 _ A4.out).mono ?_); rintro e w' ⟨rfl, ⟨nd, rfl⟩⟩; refine ⟨_, rfl, ?_⟩))
        go_ret
        exact ⟨dE, dB⟩
      ·rw [if_neg c10] at H
       have c10b0 : (t282 == 0) = false := beq_eq_false_iff_ne.mpr c10
       have c10b1 : (t282 != 0) = true := bne_iff_ne.mpr c10
       obtain rfl := Option.some.inj H
       go_enter Tryd.func14, Tryd.ntmps14
       go_wp2_with (first | ((with_reducible refine gate_callee (f := 10) rfl ?_); refine gL (some 14) Tryd.func10 #[.int .u64 1, .int .i64 (-1)] ?_; (with_reducible refine (lemire_Small.calls k 1 (-1) t278 true _ A1.out).mono ?_); rintro e w28 ⟨rfl, hb⟩; refine ⟨_, rfl, ?_⟩; replace HB := Aside0.mk (below_step dB hb); (try clear hb)) | ((with_reducible refine gate_callee (f := 12) rfl ?_); refine gL (some 18) Tryd.func12 #[.int .u64 1, .int .i64 23] ?_; (with_reducible refine (lemire_Fast.calls k 1 23 t280 t281 _ A2.out).mono ?_); rintro e w29 ⟨rfl, hb⟩; refine ⟨_, rfl, ?_⟩; replace HB := Aside0.mk (below_step dB hb); (try clear hb)) | ((with_reducible refine gate_callee (f := 15) rfl ?_); refine gL (some 22) Tryd.func15 #[.string (⟨#[48, 48, 49, 50, 120]⟩ : ByteArray)] ?_; (with_reducible refine (lemire_Cut.calls k (⟨#[48, 48, 49, 50, 120]⟩ : ByteArray) t282 t283 t284 t285 _ A3.out).mono ?_); rintro e w' ⟨rfl, ⟨nd, rfl⟩⟩; refine ⟨_, rfl, ?_⟩) | ((with_reducible refine gate_callee (f := 15) rfl ?_); refine gL (some 28) Tryd.func15 #[.string (⟨#[48, 48, 49, 50]⟩ : ByteArray)] ?_; (with_reducible refine (lemire_Cut.calls k (⟨#[48, 48, 49, 50]⟩ : ByteArray) t286 t287 t288 t289 _ A4.out).mono ?_); rintro e w' ⟨rfl, ⟨nd, rfl⟩⟩; refine ⟨_, rfl, ?_⟩))
       go_ret
       exact ⟨dE, dB⟩
     ·rw [if_neg c9] at H
      have c9b0 : (t285 == 41) = false := beq_eq_false_iff_ne.mpr c9
      have c9b1 : (t285 != 41) = true := bne_iff_ne.mpr c9
      obtain rfl := Option.some.inj H
      go_enter Tryd.func14, Tryd.ntmps14
      go_wp2_with (first | ((with_reducible refine gate_callee (f := 10) rfl ?_); refine gL (some 14) Tryd.func10 #[.int .u64 1, .int .i64 (-1)] ?_; (with_reducible refine (lemire_Small.calls k 1 (-1) t278 true _ A1.out).mono ?_); rintro e w30 ⟨rfl, hb⟩; refine ⟨_, rfl, ?_⟩; replace HB := Aside0.mk (below_step dB hb); (try clear hb)) | ((with_reducible refine gate_callee (f := 12) rfl ?_); refine gL (some 18) Tryd.func12 #[.int .u64 1, .int .i64 23] ?_; (with_reducible refine (lemire_Fast.calls k 1 23 t280 t281 _ A2.out).mono ?_); rintro e w31 ⟨rfl, hb⟩; refine ⟨_, rfl, ?_⟩; replace HB := Aside0.mk (below_step dB hb); (try clear hb)) | ((with_reducible refine gate_callee (f := 15) rfl ?_); refine gL (some 22) Tryd.func15 #[.string (⟨#[48, 48, 49, 50, 120]⟩ : ByteArray)] ?_; (with_reducible refine (lemire_Cut.calls k (⟨#[48, 48, 49, 50, 120]⟩ : ByteArray) t282 t283 t284 t285 _ A3.out).mono ?_); rintro e w' ⟨rfl, ⟨nd, rfl⟩⟩; refine ⟨_, rfl, ?_⟩) | ((with_reducible refine gate_callee (f := 15) rfl ?_); refine gL (some 28) Tryd.func15 #[.string (⟨#[48, 48, 49, 50]⟩ : ByteArray)] ?_; (with_reducible refine (lemire_Cut.calls k (⟨#[48, 48, 49, 50]⟩ : ByteArray) t286 t287 t288 t289 _ A4.out).mono ?_); rintro e w' ⟨rfl, ⟨nd, rfl⟩⟩; refine ⟨_, rfl, ?_⟩))
      go_ret
      exact ⟨dE, dB⟩
    ·rw [if_neg c8] at H
     have c8b0 : (t280 == 4950912855330343670) = false := beq_eq_false_iff_ne.mpr c8
     have c8b1 : (t280 != 4950912855330343670) = true := bne_iff_ne.mpr c8
     obtain rfl := Option.some.inj H
     go_enter Tryd.func14, Tryd.ntmps14
     go_wp2_with (first | ((with_reducible refine gate_callee (f := 10) rfl ?_); refine gL (some 14) Tryd.func10 #[.int .u64 1, .int .i64 (-1)] ?_; (with_reducible refine (lemire_Small.calls k 1 (-1) t278 true _ A1.out).mono ?_); rintro e w32 ⟨rfl, hb⟩; refine ⟨_, rfl, ?_⟩; replace HB := Aside0.mk (below_step dB hb); (try clear hb)) | ((with_reducible refine gate_callee (f := 12) rfl ?_); refine gL (some 18) Tryd.func12 #[.int .u64 1, .int .i64 23] ?_; (with_reducible refine (lemire_Fast.calls k 1 23 t280 t281 _ A2.out).mono ?_); rintro e w33 ⟨rfl, hb⟩; refine ⟨_, rfl, ?_⟩; replace HB := Aside0.mk (below_step dB hb); (try clear hb)) | ((with_reducible refine gate_callee (f := 15) rfl ?_); refine gL (some 22) Tryd.func15 #[.string (⟨#[48, 48, 49, 50, 120]⟩ : ByteArray)] ?_; (with_reducible refine (lemire_Cut.calls k (⟨#[48, 48, 49, 50, 120]⟩ : ByteArray) t282 t283 t284 t285 _ A3.out).mono ?_); rintro e w' ⟨rfl, ⟨nd, rfl⟩⟩; refine ⟨_, rfl, ?_⟩) | ((with_reducible refine gate_callee (f := 15) rfl ?_); refine gL (some 28) Tryd.func15 #[.string (⟨#[48, 48, 49, 50]⟩ : ByteArray)] ?_; (with_reducible refine (lemire_Cut.calls k (⟨#[48, 48, 49, 50]⟩ : ByteArray) t286 t287 t288 t289 _ A4.out).mono ?_); rintro e w' ⟨rfl, ⟨nd, rfl⟩⟩; refine ⟨_, rfl, ?_⟩))
     go_ret
     exact ⟨dE, dB⟩
   ·rw [if_neg c7] at H
    have c7b0 : (t281 == 0) = false := beq_eq_false_iff_ne.mpr c7
    have c7b1 : (t281 != 0) = true := bne_iff_ne.mpr c7
    obtain rfl := Option.some.inj H
    go_enter Tryd.func14, Tryd.ntmps14
    go_wp2_with (first | ((with_reducible refine gate_callee (f := 10) rfl ?_); refine gL (some 14) Tryd.func10 #[.int .u64 1, .int .i64 (-1)] ?_; (with_reducible refine (lemire_Small.calls k 1 (-1) t278 true _ A1.out).mono ?_); rintro e w34 ⟨rfl, hb⟩; refine ⟨_, rfl, ?_⟩; replace HB := Aside0.mk (below_step dB hb); (try clear hb)) | ((with_reducible refine gate_callee (f := 12) rfl ?_); refine gL (some 18) Tryd.func12 #[.int .u64 1, .int .i64 23] ?_; (with_reducible refine (lemire_Fast.calls k 1 23 t280 t281 _ A2.out).mono ?_); rintro e w35 ⟨rfl, hb⟩; refine ⟨_, rfl, ?_⟩; replace HB := Aside0.mk (below_step dB hb); (try clear hb)) | ((with_reducible refine gate_callee (f := 15) rfl ?_); refine gL (some 22) Tryd.func15 #[.string (⟨#[48, 48, 49, 50, 120]⟩ : ByteArray)] ?_; (with_reducible refine (lemire_Cut.calls k (⟨#[48, 48, 49, 50, 120]⟩ : ByteArray) t282 t283 t284 t285 _ A3.out).mono ?_); rintro e w' ⟨rfl, ⟨nd, rfl⟩⟩; refine ⟨_, rfl, ?_⟩) | ((with_reducible refine gate_callee (f := 15) rfl ?_); refine gL (some 28) Tryd.func15 #[.string (⟨#[48, 48, 49, 50]⟩ : ByteArray)] ?_; (with_reducible refine (lemire_Cut.calls k (⟨#[48, 48, 49, 50]⟩ : ByteArray) t286 t287 t288 t289 _ A4.out).mono ?_); rintro e w' ⟨rfl, ⟨nd, rfl⟩⟩; refine ⟨_, rfl, ?_⟩))
    go_ret
    exact ⟨dE, dB⟩
  ·rw [if_neg c6] at H
   have c6b0 : (t278 == 4591870180066957722) = false := beq_eq_false_iff_ne.mpr c6
   have c6b1 : (t278 != 4591870180066957722) = true := bne_iff_ne.mpr c6
   obtain rfl := Option.some.inj H
   go_enter Tryd.func14, Tryd.ntmps14
   go_wp2_with (first | ((with_reducible refine gate_callee (f := 10) rfl ?_); refine gL (some 14) Tryd.func10 #[.int .u64 1, .int .i64 (-1)] ?_; (with_reducible refine (lemire_Small.calls k 1 (-1) t278 true _ A1.out).mono ?_); rintro e w36 ⟨rfl, hb⟩; refine ⟨_, rfl, ?_⟩; replace HB := Aside0.mk (below_step dB hb); (try clear hb)) | ((with_reducible refine gate_callee (f := 12) rfl ?_); refine gL (some 18) Tryd.func12 #[.int .u64 1, .int .i64 23] ?_; (with_reducible refine (lemire_Fast.calls k 1 23 t280 t281 _ A2.out).mono ?_); rintro e w37 ⟨rfl, hb⟩; refine ⟨_, rfl, ?_⟩; replace HB := Aside0.mk (below_step dB hb); (try clear hb)) | ((with_reducible refine gate_callee (f := 15) rfl ?_); refine gL (some 22) Tryd.func15 #[.string (⟨#[48, 48, 49, 50, 120]⟩ : ByteArray)] ?_; (with_reducible refine (lemire_Cut.calls k (⟨#[48, 48, 49, 50, 120]⟩ : ByteArray) t282 t283 t284 t285 _ A3.out).mono ?_); rintro e w' ⟨rfl, ⟨nd, rfl⟩⟩; refine ⟨_, rfl, ?_⟩) | ((with_reducible refine gate_callee (f := 15) rfl ?_); refine gL (some 28) Tryd.func15 #[.string (⟨#[48, 48, 49, 50]⟩ : ByteArray)] ?_; (with_reducible refine (lemire_Cut.calls k (⟨#[48, 48, 49, 50]⟩ : ByteArray) t286 t287 t288 t289 _ A4.out).mono ?_); rintro e w' ⟨rfl, ⟨nd, rfl⟩⟩; refine ⟨_, rfl, ?_⟩))
   go_ret
   exact ⟨dE, dB⟩
 ·replace c5 := Bool.eq_false_iff.mpr c5
  subst c5
  have H1 : (some false) = some r := by rw [if_neg (show ¬ (false = true) by decide)] at H; exact H
  clear H
  have H := H1
  clear H1
  obtain rfl := Option.some.inj H
  go_enter Tryd.func14, Tryd.ntmps14
  go_wp2_with (first | ((with_reducible refine gate_callee (f := 10) rfl ?_); refine gL (some 14) Tryd.func10 #[.int .u64 1, .int .i64 (-1)] ?_; (with_reducible refine (lemire_Small.calls k 1 (-1) t278 false _ A1.out).mono ?_); rintro e w38 ⟨rfl, hb⟩; refine ⟨_, rfl, ?_⟩; replace HB := Aside0.mk (below_step dB hb); (try clear hb)) | ((with_reducible refine gate_callee (f := 12) rfl ?_); refine gL (some 18) Tryd.func12 #[.int .u64 1, .int .i64 23] ?_; (with_reducible refine (lemire_Fast.calls k 1 23 t280 t281 _ A2.out).mono ?_); rintro e w39 ⟨rfl, hb⟩; refine ⟨_, rfl, ?_⟩; replace HB := Aside0.mk (below_step dB hb); (try clear hb)) | ((with_reducible refine gate_callee (f := 15) rfl ?_); refine gL (some 22) Tryd.func15 #[.string (⟨#[48, 48, 49, 50, 120]⟩ : ByteArray)] ?_; (with_reducible refine (lemire_Cut.calls k (⟨#[48, 48, 49, 50, 120]⟩ : ByteArray) t282 t283 t284 t285 _ A3.out).mono ?_); rintro e w' ⟨rfl, ⟨nd, rfl⟩⟩; refine ⟨_, rfl, ?_⟩) | ((with_reducible refine gate_callee (f := 15) rfl ?_); refine gL (some 28) Tryd.func15 #[.string (⟨#[48, 48, 49, 50]⟩ : ByteArray)] ?_; (with_reducible refine (lemire_Cut.calls k (⟨#[48, 48, 49, 50]⟩ : ByteArray) t286 t287 t288 t289 _ A4.out).mono ?_); rintro e w' ⟨rfl, ⟨nd, rfl⟩⟩; refine ⟨_, rfl, ?_⟩))
  go_ret
  exact ⟨dE, dB⟩

end Go.Proofs.YtoannkopciehcaaDoor.PA

namespace Go.Proofs.YtoannkopciehcaaDoor.PA
open Go.RowKit Go.Proofs.YtoannkopciehcaaDoorW.PrintWords Go.Proofs.YtoannkopciehcaaDoorW.PrintLast Go.Proofs.YtoannkopciehcaaDoorW.PrintMore
attribute [local go_sem] max2_int min2_int max_two min_two max_three min_three max_four min_four   -- for this text's walks alone
set_option linter.unusedVariables false
set_option linter.unusedSimpArgs false

/-! ### plumbref10_Cut: function 16 -/
end Go.Proofs.YtoannkopciehcaaDoor.PA

namespace Go.Proofs.YtoannkopciehcaaDoor.PA
open Go.RowKit Go.Proofs.YtoannkopciehcaaDoorW.PrintWords Go.Proofs.YtoannkopciehcaaDoorW.PrintLast Go.Proofs.YtoannkopciehcaaDoorW.PrintMore
attribute [local go_sem] max2_int min2_int max_two min_two max_three min_three max_four min_four   -- for this text's walks alone
set_option linter.unusedVariables false
set_option linter.unusedSimpArgs false

/-! ### plumblaw10_LemireTens: function 5 -/
mutual
def plumblaw10_LemireTens.j0 : Nat → Int → Int → Bool → Option (Bool)
 | 0, _, _, _ => none
 | k + 1, x0, x1, x16 => if x16 = true then (plumblaw10_LemireTens.j1 k x0 (Int.tmod x1 100000)) else (plumblaw10_LemireTens.j1 k x0 x1)
def plumblaw10_LemireTens.j1 : Nat → Int → Int → Option (Bool)
 | 0, _, _ => none
 | k + 1, x0, x1 => (lemire_Fast.f k x0 x1).bind fun bt299 => ((lemire_Fast.f k (IntKind.u64.wrap (10 * x0)) (wrap64 (x1 - 1))).bind fun bt301 => ((plumblaw10_alive.f k).bind fun t303 => (if t303 = true then (if bt299.2 = 100 then (some true) else (if bt301.2 = 100 then (some true) else (if bt299.1 = bt301.1 then (some (bt299.2 == bt301.2)) else (some false)))) else (some false))))
end
def plumblaw10_LemireTens.f (k : Nat) (a0 : Int) (a1 : Int) : Option (Bool) := if a1 < (-100000) then (plumblaw10_LemireTens.j0 k (IntKind.u64.wrap (Int.tdiv a0 10)) a1 true) else (plumblaw10_LemireTens.j0 k (IntKind.u64.wrap (Int.tdiv a0 10)) a1 (decide (a1 > 100000)))
set_option maxHeartbeats 8000000 in
set_option maxRecDepth 100000 in
theorem plumblaw10_LemireTens.calls (k : Nat) (a0 : Int) (a1 : Int) (r : Bool) (w : World) (h : plumblaw10_LemireTens.f k a0 a1 = some r) (hG : TensLaid w := by first | exact HG.out | exact hG | exact TensLaid.below HG.out HB.out | exact TensLaid.below HG.out dB) :
  Calls Tryd.prog 5 #[.int .u64 a0, .int .i64 a1] w fun e w' => e = .returned (.bool r) ∧ Below w.heap.size w w' := by
 have HG := Aside0.mk (show TensLaid w from hG)
 clear hG
 have HB := Aside0.mk (Below.refl w.heap.size w)
 have H : (if a1 < (-100000) then (plumblaw10_LemireTens.j0 k (IntKind.u64.wrap (Int.tdiv a0 10)) a1 true) else (plumblaw10_LemireTens.j0 k (IntKind.u64.wrap (Int.tdiv a0 10)) a1 (decide (a1 > 100000)))) = some r := h
 clear h
 have HC3 := Aside0.mk H
 clear H
 go_enter Tryd.func5, Tryd.ntmps5
 go_upto_region 2 with (fail)
 go_cut [16] (fun v16 wc => ∃ (kq : Nat) (x16_2 : Bool), v16 = .bool x16_2 ∧ Aside0 (plumblaw10_LemireTens.j0 kq (IntKind.u64.wrap (Int.tdiv a0 10)) a1 x16_2 = some r) ∧ Aside0 (kq ≤ k) ∧ Aside0 (Below w.heap.size w wc))
 case first =>
  have H := HC3.out
  clear HC3
  by_cases c4 : a1 < (-100000)
  ·rw [if_pos c4] at H
   have c4b0 : decide (a1 < (-100000)) = true := decide_eq_true c4
   clear c4
   (first | rw [c4b0] | (simp only [i64_w, i32_w]; rw [c4b0]) | skip)
   have H' := Aside0.mk H
   clear H
   go_wp2
   go_meet
   case rel => exact ⟨_, (true), dF, H', ⟨dN⟩, ⟨dB⟩⟩
  ·rw [if_neg c4] at H
   have c4b0 : decide (a1 < (-100000)) = false := decide_eq_false c4
   clear c4
   (first | rw [c4b0] | (simp only [i64_w, i32_w]; rw [c4b0]) | skip)
   have H' := Aside0.mk H
   clear H
   go_wp2
   go_meet
   case rel => exact ⟨_, (decide (a1 > 100000)), dF, H', ⟨dN⟩, ⟨dB⟩⟩
 case rest =>
  clear HC3
  obtain ⟨kq, x16_2, rfl, HA, HJ2, HB⟩ := hcut
  cases kq with
  | zero => exact absurd HA.out (by simp [plumblaw10_LemireTens.j0])
  | succ kj2 =>
   have H := HA.out
   clear HA
   simp only [plumblaw10_LemireTens.j0] at H
   have HC5 := Aside0.mk H
   clear H
   go_upto_if 16 with (fail)
   go_cut [1] (fun v1 wc => ∃ (kq : Nat) (x1_4 : Int), v1 = .int .i64 x1_4 ∧ Aside0 (plumblaw10_LemireTens.j1 kq (IntKind.u64.wrap (Int.tdiv a0 10)) x1_4 = some r) ∧ Aside0 (kq ≤ kj2) ∧ Aside0 (Below w.heap.size w wc))
   case first =>
    have H := HC5.out
    clear HC5
    by_cases c6 : x16_2 = true
    ·subst c6
     have H1 : (plumblaw10_LemireTens.j1 kj2 (IntKind.u64.wrap (Int.tdiv a0 10)) (Int.tmod a1 100000)) = some r := by rw [if_pos rfl] at H; exact H
     clear H
     have H := H1
     clear H1
     have H' := Aside0.mk H
     clear H
     go_wp2
     go_meet
     case rel => exact ⟨_, (Int.tmod a1 100000), dF, H', ⟨by have := HJ2.out; first | omega | exact Nat.le_refl _⟩, ⟨dB⟩⟩
    ·replace c6 := Bool.eq_false_iff.mpr c6
     subst c6
     have H1 : (plumblaw10_LemireTens.j1 kj2 (IntKind.u64.wrap (Int.tdiv a0 10)) a1) = some r := by rw [if_neg (show ¬ (false = true) by decide)] at H; exact H
     clear H
     have H := H1
     clear H1
     have H' := Aside0.mk H
     clear H
     go_wp2
     go_meet
     case rel => exact ⟨_, (a1), dF, H', ⟨by have := HJ2.out; first | omega | exact Nat.le_refl _⟩, ⟨dB⟩⟩
   case rest =>
    clear HC5
    obtain ⟨kq, x1_4, rfl, HA, HJ4, HB⟩ := hcut
    cases kq with
    | zero => exact absurd HA.out (by simp [plumblaw10_LemireTens.j1])
    | succ kj4 =>
     have H := HA.out
     clear HA
     simp only [plumblaw10_LemireTens.j1] at H
     replace H := obe H
     obtain ⟨⟨t299, t300⟩, A70, H⟩ := H
     (try dsimp only at H)
     have A7 := Aside0.mk A70
     clear A70
     replace H := obe H
     obtain ⟨⟨t301, t302⟩, A80, H⟩ := H
     (try dsimp only at H)
     have A8 := Aside0.mk A80
     clear A80
     replace H := obe H
     obtain ⟨t303, A90, H⟩ := H
     (try dsimp only at H)
     have A9 := Aside0.mk A90
     clear A90
     by_cases c10 : t303 = true
     ·subst c10
      have H1 : (if t300 = 100 then (some true) else (if t302 = 100 then (some true) else (if t299 = t301 then (some (t300 == t302)) else (some false)))) = some r := by rw [if_pos rfl] at H; exact H
      clear H
      have H := H1
      clear H1
      by_cases c11 : t300 = 100
      ·rw [if_pos c11] at H
       have c11b0 : (t300 == 100) = true := beq_iff_eq.mpr c11
       have c11b1 : (t300 != 100) = false := bne_eq_false_iff_eq.mpr c11
       clear c11
       obtain rfl := Option.some.inj H
       go_wp2_with (first | ((with_reducible refine gate_callee (f := 12) rfl ?_); refine gL (some 22) Tryd.func12 #[.int .u64 (IntKind.u64.wrap (Int.tdiv a0 10)), .int .i64 x1_4] ?_; (with_reducible refine (lemire_Fast.calls kj4 (IntKind.u64.wrap (Int.tdiv a0 10)) x1_4 t299 t300 _ A7.out).mono ?_); rintro e w12 ⟨rfl, hb⟩; refine ⟨_, rfl, ?_⟩; replace HB := Aside0.mk (below_step dB hb); (try clear hb)) | ((with_reducible refine gate_callee (f := 12) rfl ?_); refine gL (some 30) Tryd.func12 #[.int .u64 (IntKind.u64.wrap (10 * (IntKind.u64.wrap (Int.tdiv a0 10)))), .int .i64 (wrap64 (x1_4 - 1))] ?_; (with_reducible refine (lemire_Fast.calls kj4 (IntKind.u64.wrap (10 * (IntKind.u64.wrap (Int.tdiv a0 10)))) (wrap64 (x1_4 - 1)) t301 t302 _ A8.out).mono ?_); rintro e w13 ⟨rfl, hb⟩; refine ⟨_, rfl, ?_⟩; replace HB := Aside0.mk (below_step dB hb); (try clear hb)) | ((with_reducible refine gate_callee (f := 14) rfl ?_); refine gL (some 33) Tryd.func14 #[] ?_; (with_reducible refine (plumblaw10_alive.calls kj4  true _ A9.out).mono ?_); rintro e w14 ⟨rfl, hb⟩; refine ⟨_, rfl, ?_⟩; replace HB := Aside0.mk (below_step dB hb); (try clear hb)))
       go_ret
       exact ⟨dE, dB⟩
      ·rw [if_neg c11] at H
       have c11b0 : (t300 == 100) = false := beq_eq_false_iff_ne.mpr c11
       have c11b1 : (t300 != 100) = true := bne_iff_ne.mpr c11
       by_cases c15 : t302 = 100
       ·rw [if_pos c15] at H
        have c15b0 : (t302 == 100) = true := beq_iff_eq.mpr c15
        have c15b1 : (t302 != 100) = false := bne_eq_false_iff_eq.mpr c15
        clear c15
        obtain rfl := Option.some.inj H
        go_wp2_with (first | ((with_reducible refine gate_callee (f := 12) rfl ?_); refine gL (some 22) Tryd.func12 #[.int .u64 (IntKind.u64.wrap (Int.tdiv a0 10)), .int .i64 x1_4] ?_; (with_reducible refine (lemire_Fast.calls kj4 (IntKind.u64.wrap (Int.tdiv a0 10)) x1_4 t299 t300 _ A7.out).mono ?_); rintro e w16 ⟨rfl, hb⟩; refine ⟨_, rfl, ?_⟩; replace HB := Aside0.mk (below_step dB hb); (try clear hb)) | ((with_reducible refine gate_callee (f := 12) rfl ?_); refine gL (some 30) Tryd.func12 #[.int .u64 (IntKind.u64.wrap (10 * (IntKind.u64.wrap (Int.tdiv a0 10)))), .int .i64 (wrap64 (x1_4 - 1))] ?_; (with_reducible refine (lemire_Fast.calls kj4 (IntKind.u64.wrap (10 * (IntKind.u64.wrap (Int.tdiv a0 10)))) (wrap64 (x1_4 - 1)) t301 t302 _ A8.out).mono ?_); rintro e w17 ⟨rfl, hb⟩; refine ⟨_, rfl, ?_⟩; replace HB := Aside0.mk (below_step dB hb); (try clear hb)) | ((with_reducible refine gate_callee (f := 14) rfl ?_); refine gL (some 33) Tryd.func14 #[] ?_; (with_reducible refine (plumblaw10_alive.calls kj4  true _ A9.out).mono ?_); rintro e w18 ⟨rfl, hb⟩; refine ⟨_, rfl, ?_⟩; replace HB := Aside0.mk (below_step dB hb); (try clear hb)))
        go_ret
        exact ⟨dE, dB⟩
       ·rw [if_neg c15] at H
        have c15b0 : (t302 == 100) = false := beq_eq_false_iff_ne.mpr c15
        have c15b1 : (t302 != 100) = true := bne_iff_ne.mpr c15
        by_cases c19 : t299 = t301
        ·rw [if_pos c19] at H
         have c19b0 : (t299 == t301) = true := beq_iff_eq.mpr c19
         have c19b1 : (t299 != t301) = false := bne_eq_false_iff_eq.mpr c19
         clear c19
         obtain rfl := Option.some.inj H
         go_wp2_with (first | ((with_reducible refine gate_callee (f := 12) rfl ?_); refine gL (some 22) Tryd.func12 #[.int .u64 (IntKind.u64.wrap (Int.tdiv a0 10)), .int .i64 x1_4] ?_; (with_reducible refine (lemire_Fast.calls kj4 (IntKind.u64.wrap (Int.tdiv a0 10)) x1_4 t299 t300 _ A7.out).mono ?_); rintro e w20 ⟨rfl, hb⟩; refine ⟨_, rfl, ?_⟩; replace HB := Aside0.mk (below_step dB hb); (try clear hb)) | ((with_reducible refine gate_callee (f := 12) rfl ?_); refine gL (some 30) Tryd.func12 #[.int .u64 (IntKind.u64.wrap (10 * (IntKind.u64.wrap (Int.tdiv a0 10)))), .int .i64 (wrap64 (x1_4 - 1))] ?_; (with_reducible refine (lemire_Fast.calls kj4 (IntKind.u64.wrap (10 * (IntKind.u64.wrap (Int.tdiv a0 10)))) (wrap64 (x1_4 - 1)) t301 t302 _ A8.out).mono ?_); rintro e w21 ⟨rfl, hb⟩; refine ⟨_, rfl, ?_⟩; replace HB := Aside0.mk (below_step dB hb); (try clear hb)) | ((with_reducible refine gate_callee (f := 14) rfl ?_); refine gL (some 33) Tryd.func14 #[] ?_; (with_reducible refine (plumblaw10_alive.calls kj4  true _ A9.out).mono ?_); rintro e w22 ⟨rfl, hb⟩; refine ⟨_, rfl, ?_⟩; replace HB := Aside0.mk (below_step dB hb); (try clear hb)))
         go_ret
         exact ⟨dE, dB⟩
        ·rw [if_neg c19] at H
         have c19b0 : (t299 == t301) = false := beq_eq_false_iff_ne.mpr c19
         have c19b1 : (t299 != t301) = true := bne_iff_ne.mpr c19
         obtain rfl := Option.some.inj H
         go_wp2_with (first | ((with_reducible refine gate_callee (f := 12) rfl ?_); refine gL (some 22) Tryd.func12 #[.int .u64 (IntKind.u64.wrap (Int.tdiv a0 10)), .int .i64 x1_4] ?_; (with_reducible refine (lemire_Fast.calls kj4 (IntKind.u64.wrap (Int.tdiv a0 10)) x1_4 t299 t300 _ A7.out).mono ?_); rintro e w23 ⟨rfl, hb⟩; refine ⟨_, rfl, ?_⟩; replace HB := Aside0.mk (below_step dB hb); (try clear hb)) | ((with_reducible refine gate_callee (f := 12) rfl ?_); refine gL (some 30) Tryd.func12 #[.int .u64 (IntKind.u64.wrap (10 * (IntKind.u64.wrap (Int.tdiv a0 10)))), .int .i64 (wrap64 (x1_4 - 1))] ?_; (with_reducible refine (lemire_Fast.calls kj4 (IntKind.u64.wrap (10 * (IntKind.u64.wrap (Int.tdiv a0 10)))) (wrap64 (x1_4 - 1)) t301 t302 _ A8.out).mono ?_); rintro e w24 ⟨rfl, hb⟩; refine ⟨_, rfl, ?_⟩; replace HB := Aside0.mk (below_step dB hb); (try clear hb)) | ((with_reducible refine gate_callee (f := 14) rfl ?_); refine gL (some 33) Tryd.func14 #[] ?_; (with_reducible refine (plumblaw10_alive.calls kj4  true _ A9.out).mono ?_); rintro e w25 ⟨rfl, hb⟩; refine ⟨_, rfl, ?_⟩; replace HB := Aside0.mk (below_step dB hb); (try clear hb)))
         go_ret
         exact ⟨dE, dB⟩
     ·replace c10 := Bool.eq_false_iff.mpr c10
      subst c10
      have H1 : (some false) = some r := by rw [if_neg (show ¬ (false = true) by decide)] at H; exact H
      clear H
      have H := H1
      clear H1
      obtain rfl := Option.some.inj H
      go_wp2_with (first | ((with_reducible refine gate_callee (f := 12) rfl ?_); refine gL (some 22) Tryd.func12 #[.int .u64 (IntKind.u64.wrap (Int.tdiv a0 10)), .int .i64 x1_4] ?_; (with_reducible refine (lemire_Fast.calls kj4 (IntKind.u64.wrap (Int.tdiv a0 10)) x1_4 t299 t300 _ A7.out).mono ?_); rintro e w26 ⟨rfl, hb⟩; refine ⟨_, rfl, ?_⟩; replace HB := Aside0.mk (below_step dB hb); (try clear hb)) | ((with_reducible refine gate_callee (f := 12) rfl ?_); refine gL (some 30) Tryd.func12 #[.int .u64 (IntKind.u64.wrap (10 * (IntKind.u64.wrap (Int.tdiv a0 10)))), .int .i64 (wrap64 (x1_4 - 1))] ?_; (with_reducible refine (lemire_Fast.calls kj4 (IntKind.u64.wrap (10 * (IntKind.u64.wrap (Int.tdiv a0 10)))) (wrap64 (x1_4 - 1)) t301 t302 _ A8.out).mono ?_); rintro e w27 ⟨rfl, hb⟩; refine ⟨_, rfl, ?_⟩; replace HB := Aside0.mk (below_step dB hb); (try clear hb)) | ((with_reducible refine gate_callee (f := 14) rfl ?_); refine gL (some 33) Tryd.func14 #[] ?_; (with_reducible refine (plumblaw10_alive.calls kj4  false _ A9.out).mono ?_); rintro e w28 ⟨rfl, hb⟩; refine ⟨_, rfl, ?_⟩; replace HB := Aside0.mk (below_step dB hb); (try clear hb)))
      go_ret
      exact ⟨dE, dB⟩

/-- THE ONE PURE STATEMENT of plumblaw10_LemireTens: yours. -/
def plumblaw10_LemireTens.Pure : Prop := ∀ (a0 : Int) (a1 : Int), (Lit.int .u64 a0).wf = true → (Lit.int .i64 a1).wf = true → ∃ k, plumblaw10_LemireTens.f k a0 a1 = some true
theorem plumblaw10_LemireTens.walk (P : plumblaw10_LemireTens.Pure) (a0 : Int) (a1 : Int) (w : World) (w0 : (Lit.int .u64 a0).wf = true) (w1 : (Lit.int .i64 a1).wf = true) (hG : TensLaid w) :
  Calls Tryd.prog 5 #[.int .u64 a0, .int .i64 a1] w fun e w' => e = .returned (.bool true) ∧ Below w.heap.size w w' := by
 obtain ⟨k, h⟩ := P a0 a1 w0 w1
 refine (plumblaw10_LemireTens.calls k a0 a1 true w h).mono ?_
 rintro e w' ⟨rfl, hd⟩
 exact ⟨rfl, hd⟩

end Go.Proofs.YtoannkopciehcaaDoor.PA

namespace Go.Proofs.YtoannkopciehcaaDoor.PA
open Go.RowKit Go.Proofs.YtoannkopciehcaaDoorW.PrintWords Go.Proofs.YtoannkopciehcaaDoorW.PrintLast Go.Proofs.YtoannkopciehcaaDoorW.PrintMore
attribute [local go_sem] max2_int min2_int max_two min_two max_three min_three max_four min_four   -- for this text's walks alone
set_option linter.unusedVariables false
set_option linter.unusedSimpArgs false

/-! ### plumbref03_Norm: function 62 -/
end Go.Proofs.YtoannkopciehcaaDoor.PA

namespace Go.Proofs.YtoannkopciehcaaDoor.PA
open Go.RowKit Go.Proofs.YtoannkopciehcaaDoorW.PrintWords Go.Proofs.YtoannkopciehcaaDoorW.PrintLast Go.Proofs.YtoannkopciehcaaDoorW.PrintMore
attribute [local go_sem] max2_int min2_int max_two min_two max_three min_three max_four min_four   -- for this text's walks alone
set_option linter.unusedVariables false
set_option linter.unusedSimpArgs false

/-! ### plumbref03_Mul: function 32 -/
end Go.Proofs.YtoannkopciehcaaDoor.PA

namespace Go.Proofs.YtoannkopciehcaaDoor.PA
open Go.RowKit Go.Proofs.YtoannkopciehcaaDoorW.PrintWords Go.Proofs.YtoannkopciehcaaDoorW.PrintLast Go.Proofs.YtoannkopciehcaaDoorW.PrintMore
attribute [local go_sem] max2_int min2_int max_two min_two max_three min_three max_four min_four   -- for this text's walks alone
set_option linter.unusedVariables false
set_option linter.unusedSimpArgs false

end Go.Proofs.YtoannkopciehcaaDoor.PA

namespace Go.Proofs.YtoannkopciehcaaDoor.PA
open Go.RowKit Go.Proofs.YtoannkopciehcaaDoorW.PrintWords Go.Proofs.YtoannkopciehcaaDoorW.PrintLast Go.Proofs.YtoannkopciehcaaDoorW.PrintMore
attribute [local go_sem] max2_int min2_int max_two min_two max_three min_three max_four min_four   -- for this text's walks alone
set_option linter.unusedVariables false
set_option linter.unusedSimpArgs false

end Go.Proofs.YtoannkopciehcaaDoor.PA

namespace Go.Proofs.YtoannkopciehcaaDoor.PA
open Go.RowKit Go.Proofs.YtoannkopciehcaaDoorW.PrintWords Go.Proofs.YtoannkopciehcaaDoorW.PrintLast Go.Proofs.YtoannkopciehcaaDoorW.PrintMore
attribute [local go_sem] max2_int min2_int max_two min_two max_three min_three max_four min_four   -- for this text's walks alone
set_option linter.unusedVariables false
set_option linter.unusedSimpArgs false

/-! ### plumbref03_Shl: function 93 (by hand) -/
end Go.Proofs.YtoannkopciehcaaDoor.PA

namespace Go.Proofs.YtoannkopciehcaaDoor.PA
open Go.RowKit Go.Proofs.YtoannkopciehcaaDoorW.PrintWords Go.Proofs.YtoannkopciehcaaDoorW.PrintLast Go.Proofs.YtoannkopciehcaaDoorW.PrintMore
attribute [local go_sem] max2_int min2_int max_two min_two max_three min_three max_four min_four   -- for this text's walks alone
set_option linter.unusedVariables false
set_option linter.unusedSimpArgs false

/-! ### plumbref03_Cmp: function 95 -/
end Go.Proofs.YtoannkopciehcaaDoor.PA

namespace Go.Proofs.YtoannkopciehcaaDoor.PA
open Go.RowKit Go.Proofs.YtoannkopciehcaaDoorW.PrintWords Go.Proofs.YtoannkopciehcaaDoorW.PrintLast Go.Proofs.YtoannkopciehcaaDoorW.PrintMore
attribute [local go_sem] max2_int min2_int max_two min_two max_three min_three max_four min_four   -- for this text's walks alone
set_option linter.unusedVariables false
set_option linter.unusedSimpArgs false

end Go.Proofs.YtoannkopciehcaaDoor.PA

namespace Go.Proofs.YtoannkopciehcaaDoor.PA
open Go.RowKit Go.Proofs.YtoannkopciehcaaDoorW.PrintWords Go.Proofs.YtoannkopciehcaaDoorW.PrintLast Go.Proofs.YtoannkopciehcaaDoorW.PrintMore
attribute [local go_sem] max2_int min2_int max_two min_two max_three min_three max_four min_four   -- for this text's walks alone
set_option linter.unusedVariables false
set_option linter.unusedSimpArgs false

end Go.Proofs.YtoannkopciehcaaDoor.PA

namespace Go.Proofs.YtoannkopciehcaaDoor.PA
open Go.RowKit Go.Proofs.YtoannkopciehcaaDoorW.PrintWords Go.Proofs.YtoannkopciehcaaDoorW.PrintLast Go.Proofs.YtoannkopciehcaaDoorW.PrintMore
attribute [local go_sem] max2_int min2_int max_two min_two max_three min_three max_four min_four   -- for this text's walks alone
set_option linter.unusedVariables false
set_option linter.unusedSimpArgs false

end Go.Proofs.YtoannkopciehcaaDoor.PA

namespace Go.Proofs.YtoannkopciehcaaDoor.PA
open Go.RowKit Go.Proofs.YtoannkopciehcaaDoorW.PrintWords Go.Proofs.YtoannkopciehcaaDoorW.PrintLast Go.Proofs.YtoannkopciehcaaDoorW.PrintMore
attribute [local go_sem] max2_int min2_int max_two min_two max_three min_three max_four min_four   -- for this text's walks alone
set_option linter.unusedVariables false
set_option linter.unusedSimpArgs false

/-! ### plumbref03_Bits: function 92 -/
end Go.Proofs.YtoannkopciehcaaDoor.PA

namespace Go.Proofs.YtoannkopciehcaaDoor.PA
open Go.RowKit Go.Proofs.YtoannkopciehcaaDoorW.PrintWords Go.Proofs.YtoannkopciehcaaDoorW.PrintLast Go.Proofs.YtoannkopciehcaaDoorW.PrintMore
attribute [local go_sem] max2_int min2_int max_two min_two max_three min_three max_four min_four   -- for this text's walks alone
set_option linter.unusedVariables false
set_option linter.unusedSimpArgs false

end Go.Proofs.YtoannkopciehcaaDoor.PA

namespace Go.Proofs.YtoannkopciehcaaDoor.PA
open Go.RowKit Go.Proofs.YtoannkopciehcaaDoorW.PrintWords Go.Proofs.YtoannkopciehcaaDoorW.PrintLast Go.Proofs.YtoannkopciehcaaDoorW.PrintMore
attribute [local go_sem] max2_int min2_int max_two min_two max_three min_three max_four min_four   -- for this text's walks alone
set_option linter.unusedVariables false
set_option linter.unusedSimpArgs false

/-! ### plumbref03_DivMod: function 94 (by hand) -/
end Go.Proofs.YtoannkopciehcaaDoor.PA

namespace Go.Proofs.YtoannkopciehcaaDoor.PA
open Go.RowKit Go.Proofs.YtoannkopciehcaaDoorW.PrintWords Go.Proofs.YtoannkopciehcaaDoorW.PrintLast Go.Proofs.YtoannkopciehcaaDoorW.PrintMore
attribute [local go_sem] max2_int min2_int max_two min_two max_three min_three max_four min_four   -- for this text's walks alone
set_option linter.unusedVariables false
set_option linter.unusedSimpArgs false

end Go.Proofs.YtoannkopciehcaaDoor.PA

namespace Go.Proofs.YtoannkopciehcaaDoor.PA
open Go.RowKit Go.Proofs.YtoannkopciehcaaDoorW.PrintWords Go.Proofs.YtoannkopciehcaaDoorW.PrintLast Go.Proofs.YtoannkopciehcaaDoorW.PrintMore
attribute [local go_sem] max2_int min2_int max_two min_two max_three min_three max_four min_four   -- for this text's walks alone
set_option linter.unusedVariables false
set_option linter.unusedSimpArgs false

end Go.Proofs.YtoannkopciehcaaDoor.PA

namespace Go.Proofs.YtoannkopciehcaaDoor.PA
open Go.RowKit Go.Proofs.YtoannkopciehcaaDoorW.PrintWords Go.Proofs.YtoannkopciehcaaDoorW.PrintLast Go.Proofs.YtoannkopciehcaaDoorW.PrintMore
attribute [local go_sem] max2_int min2_int max_two min_two max_three min_three max_four min_four   -- for this text's walks alone
set_option linter.unusedVariables false
set_option linter.unusedSimpArgs false

/-! ### plumbref03_Add: function 70 -/
end Go.Proofs.YtoannkopciehcaaDoor.PA

namespace Go.Proofs.YtoannkopciehcaaDoor.PA
open Go.RowKit Go.Proofs.YtoannkopciehcaaDoorW.PrintWords Go.Proofs.YtoannkopciehcaaDoorW.PrintLast Go.Proofs.YtoannkopciehcaaDoorW.PrintMore
attribute [local go_sem] max2_int min2_int max_two min_two max_three min_three max_four min_four   -- for this text's walks alone
set_option linter.unusedVariables false
set_option linter.unusedSimpArgs false

end Go.Proofs.YtoannkopciehcaaDoor.PA

namespace Go.Proofs.YtoannkopciehcaaDoor.PA
open Go.RowKit Go.Proofs.YtoannkopciehcaaDoorW.PrintWords Go.Proofs.YtoannkopciehcaaDoorW.PrintLast Go.Proofs.YtoannkopciehcaaDoorW.PrintMore
attribute [local go_sem] max2_int min2_int max_two min_two max_three min_three max_four min_four   -- for this text's walks alone
set_option linter.unusedVariables false
set_option linter.unusedSimpArgs false

/-! ### f64_fields: function 119 -/
def f64_fields.f (a0 : Int) : Option (Int × Int) := some (wrap64 (Go.bits .and .u64 (a0 / 4503599627370496) 2047), Go.bits .and .u64 a0 4503599627370495)
set_option maxHeartbeats 8000000 in
set_option maxRecDepth 100000 in
theorem f64_fields.calls (a0 : Int) (r1 : Int) (r2 : Int) (w : World) (h : f64_fields.f a0 = some (r1, r2)) :
  Calls Tryd.prog 119 #[.int .u64 a0] w fun e w' => e = .returned (.tuple #[.int .i64 r1, .int .u64 r2]) ∧ Drawn0 w w' := by
 have H : (some (wrap64 (Go.bits .and .u64 (a0 / 4503599627370496) 2047), Go.bits .and .u64 a0 4503599627370495)) = some (r1, r2) := h
 clear h
 simp only [Option.some.injEq, Prod.mk.injEq] at H
 obtain ⟨rfl, rfl⟩ := H
 go_enter Tryd.func119, Tryd.ntmps119
 go_wp2
 go_ret2
 exact ⟨by first | rfl | (simp; done) | (simp [*]; done), by repeat (first | exact Drawn0.refl _ | apply Drawn0.step)⟩

/-! ### f64_Class: function 113 -/
def f64_Class.j0 : Nat → Int → Int → Bool → Option (Int)
 | 0, _, _, _ => none
 | k + 1, x3, x4, x10 => if x10 = true then (some 0) else (if x3 = 0 then (some 1) else (if x3 < 2047 then (some 2) else (if x4 = 0 then (some 3) else (some 4))))
def f64_Class.f (k : Nat) (a0 : Int) : Option (Int) := (f64_fields.f a0).bind fun bt550 => (if bt550.1 = 0 then (f64_Class.j0 k bt550.1 bt550.2 (bt550.2 == 0)) else (f64_Class.j0 k bt550.1 bt550.2 false))
set_option maxHeartbeats 8000000 in
set_option maxRecDepth 100000 in
theorem f64_Class.calls (k : Nat) (a0 : Int) (r : Int) (w : World) (h : f64_Class.f k a0 = some r) :
  Calls Tryd.prog 113 #[.int .u64 a0] w fun e w' => e = .returned (.int .i64 r) ∧ Drawn0 w w' := by
 have H : ((f64_fields.f a0).bind fun bt550 => (if bt550.1 = 0 then (f64_Class.j0 k bt550.1 bt550.2 (bt550.2 == 0)) else (f64_Class.j0 k bt550.1 bt550.2 false))) = some r := h
 clear h
 replace H := obe H
 obtain ⟨⟨t550, t551⟩, A20, H⟩ := H
 (try dsimp only at H)
 have A2 := Aside0.mk A20
 clear A20
 have HC3 := Aside0.mk H
 clear H
 go_enter Tryd.func113, Tryd.ntmps113
 go_upto_region 2 with (first | ((with_reducible refine gate_callee (f := 119) rfl ?_); refine gL (some 7) Tryd.func119 #[.int .u64 a0] ?_; (with_reducible refine (f64_fields.calls a0 t550 t551 _ A2.out).mono ?_); rintro e w' ⟨rfl, ⟨nd, rfl⟩⟩; refine ⟨_, rfl, ?_⟩))
 (try simp only [Act.put, List.setIfInBounds_toArray, List.set_cons_zero, List.set_cons_succ])
 go_cut [10] (fun v10 wc => ∃ (kq : Nat) (x10_2 : Bool), v10 = .bool x10_2 ∧ Aside0 (f64_Class.j0 kq t550 t551 x10_2 = some r) ∧ Aside0 (kq ≤ k) ∧ Drawn0 w wc)
 case first =>
  have H := HC3.out
  clear HC3
  by_cases c4 : t550 = 0
  ·rw [if_pos c4] at H
   have c4b0 : (t550 == 0) = true := beq_iff_eq.mpr c4
   have c4b1 : (t550 != 0) = false := bne_eq_false_iff_eq.mpr c4
   clear c4
   (first | rw [c4b0] | (simp only [i64_w, i32_w]; rw [c4b0]) | skip)
   have H' := Aside0.mk H
   clear H
   go_wp2
   go_meet
   case rel => exact ⟨_, ((t551 == 0)), dF, H', ⟨dN⟩, by repeat (first | exact Drawn0.refl _ | apply Drawn0.step)⟩
  ·rw [if_neg c4] at H
   have c4b0 : (t550 == 0) = false := beq_eq_false_iff_ne.mpr c4
   have c4b1 : (t550 != 0) = true := bne_iff_ne.mpr c4
   (first | rw [c4b0] | (simp only [i64_w, i32_w]; rw [c4b0]) | skip)
   have H' := Aside0.mk H
   clear H
   go_wp2
   go_meet
   case rel => exact ⟨_, (false), dF, H', ⟨dN⟩, by repeat (first | exact Drawn0.refl _ | apply Drawn0.step)⟩
 case rest =>
  clear HC3
  obtain ⟨kq, x10_2, rfl, HA, HJ2, ⟨mc2, rfl⟩⟩ := hcut
  cases kq with
  | zero => exact absurd HA.out (by simp [f64_Class.j0])
  | succ kj2 =>
   have H := HA.out
   clear HA
   simp only [f64_Class.j0] at H
   by_cases c5 : x10_2 = true
   ·subst c5
    have H1 : (some 0) = some r := by rw [if_pos rfl] at H; exact H
    clear H
    have H := H1
    clear H1
    obtain rfl := Option.some.inj H
    go_wp2
    go_ret
    exact ⟨by first | rfl | (simp; done) | (simp [*]; done), by repeat (first | exact Drawn0.refl _ | apply Drawn0.step)⟩
   ·replace c5 := Bool.eq_false_iff.mpr c5
    subst c5
    have H1 : (if t550 = 0 then (some 1) else (if t550 < 2047 then (some 2) else (if t551 = 0 then (some 3) else (some 4)))) = some r := by rw [if_neg (show ¬ (false = true) by decide)] at H; exact H
    clear H
    have H := H1
    clear H1
    by_cases c6 : t550 = 0
    ·rw [if_pos c6] at H
     have c6b0 : (t550 == 0) = true := beq_iff_eq.mpr c6
     have c6b1 : (t550 != 0) = false := bne_eq_false_iff_eq.mpr c6
     clear c6
     obtain rfl := Option.some.inj H
     go_wp2
     go_ret
     exact ⟨by first | rfl | (simp; done) | (simp [*]; done), by repeat (first | exact Drawn0.refl _ | apply Drawn0.step)⟩
    ·rw [if_neg c6] at H
     have c6b0 : (t550 == 0) = false := beq_eq_false_iff_ne.mpr c6
     have c6b1 : (t550 != 0) = true := bne_iff_ne.mpr c6
     by_cases c7 : t550 < 2047
     ·rw [if_pos c7] at H
      have c7b0 : decide (t550 < 2047) = true := decide_eq_true c7
      clear c7
      obtain rfl := Option.some.inj H
      go_wp2
      go_ret
      exact ⟨by first | rfl | (simp; done) | (simp [*]; done), by repeat (first | exact Drawn0.refl _ | apply Drawn0.step)⟩
     ·rw [if_neg c7] at H
      have c7b0 : decide (t550 < 2047) = false := decide_eq_false c7
      clear c7
      by_cases c8 : t551 = 0
      ·rw [if_pos c8] at H
       have c8b0 : (t551 == 0) = true := beq_iff_eq.mpr c8
       have c8b1 : (t551 != 0) = false := bne_eq_false_iff_eq.mpr c8
       clear c8
       obtain rfl := Option.some.inj H
       go_wp2
       go_ret
       exact ⟨by first | rfl | (simp; done) | (simp [*]; done), by repeat (first | exact Drawn0.refl _ | apply Drawn0.step)⟩
      ·rw [if_neg c8] at H
       have c8b0 : (t551 == 0) = false := beq_eq_false_iff_ne.mpr c8
       have c8b1 : (t551 != 0) = true := bne_iff_ne.mpr c8
       obtain rfl := Option.some.inj H
       go_wp2
       go_ret
       exact ⟨by first | rfl | (simp; done) | (simp [*]; done), by repeat (first | exact Drawn0.refl _ | apply Drawn0.step)⟩

/-! ### f64_finite: function 97 -/
def f64_finite.f (k : Nat) (a0 : Int) : Option (Bool) := (f64_Class.f k a0).bind fun t552 => (if t552 = 3 then (some false) else (if t552 = 4 then (some false) else (some true)))
set_option maxHeartbeats 8000000 in
set_option maxRecDepth 100000 in
theorem f64_finite.calls (k : Nat) (a0 : Int) (r : Bool) (w : World) (h : f64_finite.f k a0 = some r) :
  Calls Tryd.prog 97 #[.int .u64 a0] w fun e w' => e = .returned (.bool r) ∧ Drawn0 w w' := by
 have H : ((f64_Class.f k a0).bind fun t552 => (if t552 = 3 then (some false) else (if t552 = 4 then (some false) else (some true)))) = some r := h
 clear h
 replace H := obe H
 obtain ⟨t552, A20, H⟩ := H
 (try dsimp only at H)
 have A2 := Aside0.mk A20
 clear A20
 by_cases c3 : t552 = 3
 ·rw [if_pos c3] at H
  have c3b0 : (t552 == 3) = true := beq_iff_eq.mpr c3
  have c3b1 : (t552 != 3) = false := bne_eq_false_iff_eq.mpr c3
  clear c3
  obtain rfl := Option.some.inj H
  go_enter Tryd.func97, Tryd.ntmps97
  go_wp2_with (first | ((with_reducible refine gate_callee (f := 113) rfl ?_); refine gL (some 4) Tryd.func113 #[.int .u64 a0] ?_; (with_reducible refine (f64_Class.calls k a0 t552 _ A2.out).mono ?_); rintro e w' ⟨rfl, ⟨nd, rfl⟩⟩; refine ⟨_, rfl, ?_⟩))
  go_ret
  exact ⟨by first | rfl | (simp; done) | (simp [*]; done), by repeat (first | exact Drawn0.refl _ | apply Drawn0.step)⟩
 ·rw [if_neg c3] at H
  have c3b0 : (t552 == 3) = false := beq_eq_false_iff_ne.mpr c3
  have c3b1 : (t552 != 3) = true := bne_iff_ne.mpr c3
  by_cases c4 : t552 = 4
  ·rw [if_pos c4] at H
   have c4b0 : (t552 == 4) = true := beq_iff_eq.mpr c4
   have c4b1 : (t552 != 4) = false := bne_eq_false_iff_eq.mpr c4
   clear c4
   obtain rfl := Option.some.inj H
   go_enter Tryd.func97, Tryd.ntmps97
   go_wp2_with (first | ((with_reducible refine gate_callee (f := 113) rfl ?_); refine gL (some 4) Tryd.func113 #[.int .u64 a0] ?_; (with_reducible refine (f64_Class.calls k a0 t552 _ A2.out).mono ?_); rintro e w' ⟨rfl, ⟨nd, rfl⟩⟩; refine ⟨_, rfl, ?_⟩))
   go_ret
   exact ⟨by first | rfl | (simp; done) | (simp [*]; done), by repeat (first | exact Drawn0.refl _ | apply Drawn0.step)⟩
  ·rw [if_neg c4] at H
   have c4b0 : (t552 == 4) = false := beq_eq_false_iff_ne.mpr c4
   have c4b1 : (t552 != 4) = true := bne_iff_ne.mpr c4
   obtain rfl := Option.some.inj H
   go_enter Tryd.func97, Tryd.ntmps97
   go_wp2_with (first | ((with_reducible refine gate_callee (f := 113) rfl ?_); refine gL (some 4) Tryd.func113 #[.int .u64 a0] ?_; (with_reducible refine (f64_Class.calls k a0 t552 _ A2.out).mono ?_); rintro e w' ⟨rfl, ⟨nd, rfl⟩⟩; refine ⟨_, rfl, ?_⟩))
   go_ret
   exact ⟨by first | rfl | (simp; done) | (simp [*]; done), by repeat (first | exact Drawn0.refl _ | apply Drawn0.step)⟩

end Go.Proofs.YtoannkopciehcaaDoor.PA

namespace Go.Proofs.YtoannkopciehcaaDoor.PA
open Go.RowKit Go.Proofs.YtoannkopciehcaaDoorW.PrintWords Go.Proofs.YtoannkopciehcaaDoorW.PrintLast Go.Proofs.YtoannkopciehcaaDoorW.PrintMore
attribute [local go_sem] max2_int min2_int max_two min_two max_three min_three max_four min_four   -- for this text's walks alone
set_option linter.unusedVariables false
set_option linter.unusedSimpArgs false

/-! ### f64_Rank: function 71 -/
def f64_Rank.f (k : Nat) (a0 : Int) : Option (Int × Int) := (f64_finite.f k a0).bind fun t553 => (if t553 = true then (if (Go.bits .and .u64 a0 9223372036854775808) = 0 then (some (wrap64 (Go.bits .andNot .u64 a0 9223372036854775808), 0)) else (some (wrap64 (-(wrap64 (Go.bits .andNot .u64 a0 9223372036854775808))), 0))) else (some (0, 60)))
set_option maxHeartbeats 8000000 in
set_option maxRecDepth 100000 in
theorem f64_Rank.calls (k : Nat) (a0 : Int) (r1 : Int) (r2 : Int) (w : World) (h : f64_Rank.f k a0 = some (r1, r2)) :
  Calls Tryd.prog 71 #[.int .u64 a0] w fun e w' => e = .returned (.tuple #[.int .i64 r1, .int .i64 r2]) ∧ Drawn0 w w' := by
 have H : ((f64_finite.f k a0).bind fun t553 => (if t553 = true then (if (Go.bits .and .u64 a0 9223372036854775808) = 0 then (some (wrap64 (Go.bits .andNot .u64 a0 9223372036854775808), 0)) else (some (wrap64 (-(wrap64 (Go.bits .andNot .u64 a0 9223372036854775808))), 0))) else (some (0, 60)))) = some (r1, r2) := h
 clear h
 replace H := obe H
 obtain ⟨t553, A20, H⟩ := H
 (try dsimp only at H)
 have A2 := Aside0.mk A20
 clear A20
 by_cases c3 : t553 = true
 ·subst c3
  have H1 : (if (Go.bits .and .u64 a0 9223372036854775808) = 0 then (some (wrap64 (Go.bits .andNot .u64 a0 9223372036854775808), 0)) else (some (wrap64 (-(wrap64 (Go.bits .andNot .u64 a0 9223372036854775808))), 0))) = some (r1, r2) := by rw [if_pos rfl] at H; exact H
  clear H
  have H := H1
  clear H1
  by_cases c4 : (Go.bits .and .u64 a0 9223372036854775808) = 0
  ·rw [if_pos c4] at H
   have c4b0 : ((Go.bits .and .u64 a0 9223372036854775808) == 0) = true := beq_iff_eq.mpr c4
   have c4b1 : ((Go.bits .and .u64 a0 9223372036854775808) != 0) = false := bne_eq_false_iff_eq.mpr c4
   clear c4
   simp only [Option.some.injEq, Prod.mk.injEq] at H
   obtain ⟨rfl, rfl⟩ := H
   go_enter Tryd.func71, Tryd.ntmps71
   go_wp2_with (first | ((with_reducible refine gate_callee (f := 97) rfl ?_); refine gL (some 6) Tryd.func97 #[.int .u64 a0] ?_; (with_reducible refine (f64_finite.calls k a0 true _ A2.out).mono ?_); rintro e w' ⟨rfl, ⟨nd, rfl⟩⟩; refine ⟨_, rfl, ?_⟩))
   go_ret2
   exact ⟨by first | rfl | (simp; done) | (simp [*]; done), by repeat (first | exact Drawn0.refl _ | apply Drawn0.step)⟩
  ·rw [if_neg c4] at H
   have c4b0 : ((Go.bits .and .u64 a0 9223372036854775808) == 0) = false := beq_eq_false_iff_ne.mpr c4
   have c4b1 : ((Go.bits .and .u64 a0 9223372036854775808) != 0) = true := bne_iff_ne.mpr c4
   simp only [Option.some.injEq, Prod.mk.injEq] at H
   obtain ⟨rfl, rfl⟩ := H
   go_enter Tryd.func71, Tryd.ntmps71
   go_wp2_with (first | ((with_reducible refine gate_callee (f := 97) rfl ?_); refine gL (some 6) Tryd.func97 #[.int .u64 a0] ?_; (with_reducible refine (f64_finite.calls k a0 true _ A2.out).mono ?_); rintro e w' ⟨rfl, ⟨nd, rfl⟩⟩; refine ⟨_, rfl, ?_⟩))
   go_ret2
   exact ⟨by first | rfl | (simp; done) | (simp [*]; done), by repeat (first | exact Drawn0.refl _ | apply Drawn0.step)⟩
 ·replace c3 := Bool.eq_false_iff.mpr c3
  subst c3
  have H1 : (some (0, 60)) = some (r1, r2) := by rw [if_neg (show ¬ (false = true) by decide)] at H; exact H
  clear H
  have H := H1
  clear H1
  simp only [Option.some.injEq, Prod.mk.injEq] at H
  obtain ⟨rfl, rfl⟩ := H
  go_enter Tryd.func71, Tryd.ntmps71
  go_wp2_with (first | ((with_reducible refine gate_callee (f := 97) rfl ?_); refine gL (some 6) Tryd.func97 #[.int .u64 a0] ?_; (with_reducible refine (f64_finite.calls k a0 false _ A2.out).mono ?_); rintro e w' ⟨rfl, ⟨nd, rfl⟩⟩; refine ⟨_, rfl, ?_⟩))
  go_ret2
  exact ⟨by first | rfl | (simp; done) | (simp [*]; done), by repeat (first | exact Drawn0.refl _ | apply Drawn0.step)⟩

/-! ### f64_Cmp: function 39 -/
def f64_Cmp.j0 : Nat → Int → Int → Bool → Option (Int × Int)
 | 0, _, _, _ => none
 | k + 1, x6, x8, x20 => if x20 = true then (some (0, 60)) else (if x6 < x8 then (some ((-1), 0)) else (if x6 > x8 then (some (1, 0)) else (some (0, 0))))
def f64_Cmp.f (k : Nat) (a0 : Int) (a1 : Int) : Option (Int × Int) := (f64_Rank.f k a0).bind fun bt554 => ((f64_Rank.f k a1).bind fun bt556 => (if bt554.2 = 0 then (f64_Cmp.j0 k bt554.1 bt556.1 (bt556.2 != 0)) else (f64_Cmp.j0 k bt554.1 bt556.1 true)))
set_option maxHeartbeats 8000000 in
set_option maxRecDepth 100000 in
theorem f64_Cmp.calls (k : Nat) (a0 : Int) (a1 : Int) (r1 : Int) (r2 : Int) (w : World) (h : f64_Cmp.f k a0 a1 = some (r1, r2)) :
  Calls Tryd.prog 39 #[.int .u64 a0, .int .u64 a1] w fun e w' => e = .returned (.tuple #[.int .i64 r1, .int .i64 r2]) ∧ Drawn0 w w' := by
 have H : ((f64_Rank.f k a0).bind fun bt554 => ((f64_Rank.f k a1).bind fun bt556 => (if bt554.2 = 0 then (f64_Cmp.j0 k bt554.1 bt556.1 (bt556.2 != 0)) else (f64_Cmp.j0 k bt554.1 bt556.1 true)))) = some (r1, r2) := h
 clear h
 replace H := obe H
 obtain ⟨⟨t554, t555⟩, A30, H⟩ := H
 (try dsimp only at H)
 have A3 := Aside0.mk A30
 clear A30
 replace H := obe H
 obtain ⟨⟨t556, t557⟩, A40, H⟩ := H
 (try dsimp only at H)
 have A4 := Aside0.mk A40
 clear A40
 have HC5 := Aside0.mk H
 clear H
 go_enter Tryd.func39, Tryd.ntmps39
 go_upto_region 3 with (first | ((with_reducible refine gate_callee (f := 71) rfl ?_); refine gL (some 12) Tryd.func71 #[.int .u64 a0] ?_; (with_reducible refine (f64_Rank.calls k a0 t554 t555 _ A3.out).mono ?_); rintro e w' ⟨rfl, ⟨nd, rfl⟩⟩; refine ⟨_, rfl, ?_⟩) | ((with_reducible refine gate_callee (f := 71) rfl ?_); refine gL (some 17) Tryd.func71 #[.int .u64 a1] ?_; (with_reducible refine (f64_Rank.calls k a1 t556 t557 _ A4.out).mono ?_); rintro e w' ⟨rfl, ⟨nd, rfl⟩⟩; refine ⟨_, rfl, ?_⟩))
 (try simp only [Act.put, List.setIfInBounds_toArray, List.set_cons_zero, List.set_cons_succ])
 go_cut [20] (fun v20 wc => ∃ (kq : Nat) (x20_4 : Bool), v20 = .bool x20_4 ∧ Aside0 (f64_Cmp.j0 kq t554 t556 x20_4 = some (r1, r2)) ∧ Aside0 (kq ≤ k) ∧ Drawn0 w wc)
 case first =>
  have H := HC5.out
  clear HC5
  by_cases c6 : t555 = 0
  ·rw [if_pos c6] at H
   have c6b0 : (t555 == 0) = true := beq_iff_eq.mpr c6
   have c6b1 : (t555 != 0) = false := bne_eq_false_iff_eq.mpr c6
   clear c6
   (first | rw [c6b0] | (simp only [i64_w, i32_w]; rw [c6b0]) | skip)
   have H' := Aside0.mk H
   clear H
   go_wp2
   go_meet
   case rel => exact ⟨_, ((t557 != 0)), dF, H', ⟨dN⟩, by repeat (first | exact Drawn0.refl _ | apply Drawn0.step)⟩
  ·rw [if_neg c6] at H
   have c6b0 : (t555 == 0) = false := beq_eq_false_iff_ne.mpr c6
   have c6b1 : (t555 != 0) = true := bne_iff_ne.mpr c6
   (first | rw [c6b0] | (simp only [i64_w, i32_w]; rw [c6b0]) | skip)
   have H' := Aside0.mk H
   clear H
   go_wp2
   go_meet
   case rel => exact ⟨_, (true), dF, H', ⟨dN⟩, by repeat (first | exact Drawn0.refl _ | apply Drawn0.step)⟩
 case rest =>
  clear HC5
  obtain ⟨kq, x20_4, rfl, HA, HJ4, ⟨mc4, rfl⟩⟩ := hcut
  cases kq with
  | zero => exact absurd HA.out (by simp [f64_Cmp.j0])
  | succ kj4 =>
   have H := HA.out
   clear HA
   simp only [f64_Cmp.j0] at H
   by_cases c7 : x20_4 = true
   ·subst c7
    have H1 : (some (0, 60)) = some (r1, r2) := by rw [if_pos rfl] at H; exact H
    clear H
    have H := H1
    clear H1
    simp only [Option.some.injEq, Prod.mk.injEq] at H
    obtain ⟨rfl, rfl⟩ := H
    go_wp2
    go_ret2
    exact ⟨by first | rfl | (simp; done) | (simp [*]; done), by repeat (first | exact Drawn0.refl _ | apply Drawn0.step)⟩
   ·replace c7 := Bool.eq_false_iff.mpr c7
    subst c7
    have H1 : (if t554 < t556 then (some ((-1), 0)) else (if t554 > t556 then (some (1, 0)) else (some (0, 0)))) = some (r1, r2) := by rw [if_neg (show ¬ (false = true) by decide)] at H; exact H
    clear H
    have H := H1
    clear H1
    by_cases c8 : t554 < t556
    ·rw [if_pos c8] at H
     have c8b0 : decide (t554 < t556) = true := decide_eq_true c8
     clear c8
     simp only [Option.some.injEq, Prod.mk.injEq] at H
     obtain ⟨rfl, rfl⟩ := H
     go_wp2
     go_ret2
     exact ⟨by first | rfl | (simp; done) | (simp [*]; done), by repeat (first | exact Drawn0.refl _ | apply Drawn0.step)⟩
    ·rw [if_neg c8] at H
     have c8b0 : decide (t554 < t556) = false := decide_eq_false c8
     clear c8
     by_cases c9 : t554 > t556
     ·rw [if_pos c9] at H
      have c9b0 : decide (t556 < t554) = true := decide_eq_true c9
      clear c9
      simp only [Option.some.injEq, Prod.mk.injEq] at H
      obtain ⟨rfl, rfl⟩ := H
      go_wp2
      go_ret2
      exact ⟨by first | rfl | (simp; done) | (simp [*]; done), by repeat (first | exact Drawn0.refl _ | apply Drawn0.step)⟩
     ·rw [if_neg c9] at H
      have c9b0 : decide (t556 < t554) = false := decide_eq_false c9
      clear c9
      simp only [Option.some.injEq, Prod.mk.injEq] at H
      obtain ⟨rfl, rfl⟩ := H
      go_wp2
      go_ret2
      exact ⟨by first | rfl | (simp; done) | (simp [*]; done), by repeat (first | exact Drawn0.refl _ | apply Drawn0.step)⟩

/-! ### plumblaw10_rises: function 17 -/
def plumblaw10_rises.j0 : Nat → Int → Int → Int → Int → Bool → Option (Bool)
 | 0, _, _, _, _, _ => none
 | k + 1, x9, x10, x11, x12, x36 => if x36 = true then (some true) else (if x10 = 0 then (if x12 = 0 then ((f64_Cmp.f k x9 x11).bind fun bt562 => (if bt562.2 = 0 then (some (decide (bt562.1 ≤ 0))) else (some false))) else (some false)) else (some false))
def plumblaw10_rises.f (k : Nat) (a0 : Int) (a1 : Int) (a2 : Int) (a3 : Int) : Option (Bool) := (lemire_Fast.f k a0 a1).bind fun bt558 => ((lemire_Fast.f k a2 a3).bind fun bt560 => (if bt558.2 = 100 then (plumblaw10_rises.j0 k bt558.1 bt558.2 bt560.1 bt560.2 true) else (if bt560.2 = 100 then (plumblaw10_rises.j0 k bt558.1 bt558.2 bt560.1 bt560.2 true) else (plumblaw10_rises.j0 k bt558.1 bt558.2 bt560.1 bt560.2 (bt560.2 == 70)))))
set_option maxHeartbeats 8000000 in
set_option maxRecDepth 100000 in
theorem plumblaw10_rises.calls (k : Nat) (a0 : Int) (a1 : Int) (a2 : Int) (a3 : Int) (r : Bool) (w : World) (h : plumblaw10_rises.f k a0 a1 a2 a3 = some r) :
  Calls Tryd.prog 17 #[.int .u64 a0, .int .i64 a1, .int .u64 a2, .int .i64 a3] w fun e w' => e = .returned (.bool r) ∧ Below w.heap.size w w' := by
 have HB := Aside0.mk (Below.refl w.heap.size w)
 have H : ((lemire_Fast.f k a0 a1).bind fun bt558 => ((lemire_Fast.f k a2 a3).bind fun bt560 => (if bt558.2 = 100 then (plumblaw10_rises.j0 k bt558.1 bt558.2 bt560.1 bt560.2 true) else (if bt560.2 = 100 then (plumblaw10_rises.j0 k bt558.1 bt558.2 bt560.1 bt560.2 true) else (plumblaw10_rises.j0 k bt558.1 bt558.2 bt560.1 bt560.2 (bt560.2 == 70)))))) = some r := h
 clear h
 replace H := obe H
 obtain ⟨⟨t558, t559⟩, A50, H⟩ := H
 (try dsimp only at H)
 have A5 := Aside0.mk A50
 clear A50
 replace H := obe H
 obtain ⟨⟨t560, t561⟩, A60, H⟩ := H
 (try dsimp only at H)
 have A6 := Aside0.mk A60
 clear A60
 have HC7 := Aside0.mk H
 clear H
 go_enter Tryd.func17, Tryd.ntmps17
 go_upto_region 3 with (first | ((with_reducible refine gate_callee (f := 12) rfl ?_); refine gL (some 18) Tryd.func12 #[.int .u64 a0, .int .i64 a1] ?_; (with_reducible refine (lemire_Fast.calls k a0 a1 t558 t559 _ A5.out).mono ?_); rintro e w8 ⟨rfl, hb⟩; refine ⟨_, rfl, ?_⟩; replace HB := Aside0.mk (below_step dB hb); (try clear hb)) | ((with_reducible refine gate_callee (f := 12) rfl ?_); refine gL (some 24) Tryd.func12 #[.int .u64 a2, .int .i64 a3] ?_; (with_reducible refine (lemire_Fast.calls k a2 a3 t560 t561 _ A6.out).mono ?_); rintro e w9 ⟨rfl, hb⟩; refine ⟨_, rfl, ?_⟩; replace HB := Aside0.mk (below_step dB hb); (try clear hb)))
 (try simp only [Act.put, List.setIfInBounds_toArray, List.set_cons_zero, List.set_cons_succ])
 go_cut [36] (fun v36 wc => ∃ (kq : Nat) (x36_6 : Bool), v36 = .bool x36_6 ∧ Aside0 (plumblaw10_rises.j0 kq t558 t559 t560 t561 x36_6 = some r) ∧ Aside0 (kq ≤ k) ∧ Aside0 (Below w.heap.size w wc))
 case first =>
  have H := HC7.out
  clear HC7
  by_cases c10 : t559 = 100
  ·rw [if_pos c10] at H
   have c10b0 : (t559 == 100) = true := beq_iff_eq.mpr c10
   have c10b1 : (t559 != 100) = false := bne_eq_false_iff_eq.mpr c10
   clear c10
   (first | rw [c10b0] | (simp only [i64_w, i32_w]; rw [c10b0]) | skip)
   have H' := Aside0.mk H
   clear H
   go_wp2
   go_meet
   case rel => exact ⟨_, (true), dF, H', ⟨dN⟩, ⟨dB⟩⟩
  ·rw [if_neg c10] at H
   have c10b0 : (t559 == 100) = false := beq_eq_false_iff_ne.mpr c10
   have c10b1 : (t559 != 100) = true := bne_iff_ne.mpr c10
   (first | rw [c10b0] | (simp only [i64_w, i32_w]; rw [c10b0]) | skip)
   by_cases c11 : t561 = 100
   ·rw [if_pos c11] at H
    have c11b0 : (t561 == 100) = true := beq_iff_eq.mpr c11
    have c11b1 : (t561 != 100) = false := bne_eq_false_iff_eq.mpr c11
    clear c11
    have H' := Aside0.mk H
    clear H
    go_wp2
    go_meet
    case rel => exact ⟨_, (true), dF, H', ⟨dN⟩, ⟨dB⟩⟩
   ·rw [if_neg c11] at H
    have c11b0 : (t561 == 100) = false := beq_eq_false_iff_ne.mpr c11
    have c11b1 : (t561 != 100) = true := bne_iff_ne.mpr c11
    have H' := Aside0.mk H
    clear H
    go_wp2
    go_meet
    case rel => exact ⟨_, ((t561 == 70)), dF, H', ⟨dN⟩, ⟨dB⟩⟩
 case rest =>
  clear HC7
  obtain ⟨kq, x36_6, rfl, HA, HJ6, HB⟩ := hcut
  cases kq with
  | zero => exact absurd HA.out (by simp [plumblaw10_rises.j0])
  | succ kj6 =>
   have H := HA.out
   clear HA
   simp only [plumblaw10_rises.j0] at H
   by_cases c12 : x36_6 = true
   ·subst c12
    have H1 : (some true) = some r := by rw [if_pos rfl] at H; exact H
    clear H
    have H := H1
    clear H1
    obtain rfl := Option.some.inj H
    go_wp2
    go_ret
    exact ⟨dE, dB⟩
   ·replace c12 := Bool.eq_false_iff.mpr c12
    subst c12
    have H1 : (if t559 = 0 then (if t561 = 0 then ((f64_Cmp.f kj6 t558 t560).bind fun bt562 => (if bt562.2 = 0 then (some (decide (bt562.1 ≤ 0))) else (some false))) else (some false)) else (some false)) = some r := by rw [if_neg (show ¬ (false = true) by decide)] at H; exact H
    clear H
    have H := H1
    clear H1
    by_cases c13 : t559 = 0
    ·rw [if_pos c13] at H
     have c13b0 : (t559 == 0) = true := beq_iff_eq.mpr c13
     have c13b1 : (t559 != 0) = false := bne_eq_false_iff_eq.mpr c13
     clear c13
     by_cases c14 : t561 = 0
     ·rw [if_pos c14] at H
      have c14b0 : (t561 == 0) = true := beq_iff_eq.mpr c14
      have c14b1 : (t561 != 0) = false := bne_eq_false_iff_eq.mpr c14
      clear c14
      replace H := obe H
      obtain ⟨⟨t562, t563⟩, A150, H⟩ := H
      (try dsimp only at H)
      have A15 := Aside0.mk A150
      clear A150
      by_cases c16 : t563 = 0
      ·rw [if_pos c16] at H
       have c16b0 : (t563 == 0) = true := beq_iff_eq.mpr c16
       have c16b1 : (t563 != 0) = false := bne_eq_false_iff_eq.mpr c16
       clear c16
       obtain rfl := Option.some.inj H
       go_wp2_with (first | ((with_reducible refine gate_callee (f := 39) rfl ?_); refine gL (some 46) Tryd.func39 #[.int .u64 t558, .int .u64 t560] ?_; (with_reducible refine (f64_Cmp.calls kj6 t558 t560 t562 t563 _ A15.out).mono ?_); rintro e w' ⟨rfl, ⟨nd, rfl⟩⟩; refine ⟨_, rfl, ?_⟩))
       go_ret
       exact ⟨dE, dB⟩
      ·rw [if_neg c16] at H
       have c16b0 : (t563 == 0) = false := beq_eq_false_iff_ne.mpr c16
       have c16b1 : (t563 != 0) = true := bne_iff_ne.mpr c16
       obtain rfl := Option.some.inj H
       go_wp2_with (first | ((with_reducible refine gate_callee (f := 39) rfl ?_); refine gL (some 46) Tryd.func39 #[.int .u64 t558, .int .u64 t560] ?_; (with_reducible refine (f64_Cmp.calls kj6 t558 t560 t562 t563 _ A15.out).mono ?_); rintro e w' ⟨rfl, ⟨nd, rfl⟩⟩; refine ⟨_, rfl, ?_⟩))
       go_ret
       exact ⟨dE, dB⟩
     ·rw [if_neg c14] at H
      have c14b0 : (t561 == 0) = false := beq_eq_false_iff_ne.mpr c14
      have c14b1 : (t561 != 0) = true := bne_iff_ne.mpr c14
      obtain rfl := Option.some.inj H
      go_wp2
      go_ret
      exact ⟨dE, dB⟩
    ·rw [if_neg c13] at H
     have c13b0 : (t559 == 0) = false := beq_eq_false_iff_ne.mpr c13
     have c13b1 : (t559 != 0) = true := bne_iff_ne.mpr c13
     obtain rfl := Option.some.inj H
     go_wp2
     go_ret
     exact ⟨dE, dB⟩

end Go.Proofs.YtoannkopciehcaaDoor.PA

namespace Go.Proofs.YtoannkopciehcaaDoor.PA
open Go.RowKit Go.Proofs.YtoannkopciehcaaDoorW.PrintWords Go.Proofs.YtoannkopciehcaaDoorW.PrintLast Go.Proofs.YtoannkopciehcaaDoorW.PrintMore
attribute [local go_sem] max2_int min2_int max_two min_two max_three min_three max_four min_four   -- for this text's walks alone
set_option linter.unusedVariables false
set_option linter.unusedSimpArgs false

/-! ### plumblaw10_LemireRises: function 6 -/
mutual
def plumblaw10_LemireRises.j0 : Nat → Int → Int → Int → Int → Option (Bool)
 | 0, _, _, _, _ => none
 | k + 1, x0, x1, x2, x3 => if x2 > x3 then (plumblaw10_LemireRises.j1 k x0 x1 x3 x2) else (plumblaw10_LemireRises.j1 k x0 x1 x2 x3)
def plumblaw10_LemireRises.j1 : Nat → Int → Int → Int → Int → Option (Bool)
 | 0, _, _, _, _ => none
 | k + 1, x0, x1, x2, x3 => (plumblaw10_alive.f k).bind fun t564 => (if t564 = true then ((plumblaw10_rises.f k x0 x2 x1 x2).bind fun t565 => (if t565 = true then ((plumblaw10_rises.f k x0 x2 x0 x3).bind fun t566 => (if t566 = true then ((plumblaw10_rises.f k x0 x2 x1 x3).bind fun t567 => (some t567)) else (some false))) else (some false))) else (some false))
end
def plumblaw10_LemireRises.f (k : Nat) (a0 : Int) (a1 : Int) (a2 : Int) (a3 : Int) : Option (Bool) := if a0 > a1 then (plumblaw10_LemireRises.j0 k a1 a0 a2 a3) else (plumblaw10_LemireRises.j0 k a0 a1 a2 a3)
set_option maxHeartbeats 8000000 in
set_option maxRecDepth 100000 in
theorem plumblaw10_LemireRises.calls (k : Nat) (a0 : Int) (a1 : Int) (a2 : Int) (a3 : Int) (r : Bool) (w : World) (h : plumblaw10_LemireRises.f k a0 a1 a2 a3 = some r) (hG : TensLaid w := by first | exact HG.out | exact hG | exact TensLaid.below HG.out HB.out | exact TensLaid.below HG.out dB) :
  Calls Tryd.prog 6 #[.int .u64 a0, .int .u64 a1, .int .i64 a2, .int .i64 a3] w fun e w' => e = .returned (.bool r) ∧ Below w.heap.size w w' := by
 have HG := Aside0.mk (show TensLaid w from hG)
 clear hG
 have HB := Aside0.mk (Below.refl w.heap.size w)
 have H : (if a0 > a1 then (plumblaw10_LemireRises.j0 k a1 a0 a2 a3) else (plumblaw10_LemireRises.j0 k a0 a1 a2 a3)) = some r := h
 clear h
 have HC5 := Aside0.mk H
 clear H
 go_enter Tryd.func6, Tryd.ntmps6
 go_upto_if 11 with (fail)
 go_cut [0, 1] (fun v0 v1 wc => ∃ (kq : Nat) (x0_4 : Int) (x1_4 : Int), v0 = .int .u64 x0_4 ∧ v1 = .int .u64 x1_4 ∧ Aside0 (plumblaw10_LemireRises.j0 kq x0_4 x1_4 a2 a3 = some r) ∧ Aside0 (kq ≤ k) ∧ Aside0 (Below w.heap.size w wc))
 case first =>
  have H := HC5.out
  clear HC5
  by_cases c6 : a0 > a1
  ·rw [if_pos c6] at H
   have c6b0 : decide (a1 < a0) = true := decide_eq_true c6
   clear c6
   (first | rw [c6b0] | (simp only [i64_w, i32_w]; rw [c6b0]) | skip)
   have H' := Aside0.mk H
   clear H
   go_wp2
   go_meet
   case rel => exact ⟨_, (a1), (a0), dF, dF, H', ⟨dN⟩, ⟨dB⟩⟩
  ·rw [if_neg c6] at H
   have c6b0 : decide (a1 < a0) = false := decide_eq_false c6
   clear c6
   (first | rw [c6b0] | (simp only [i64_w, i32_w]; rw [c6b0]) | skip)
   have H' := Aside0.mk H
   clear H
   go_wp2
   go_meet
   case rel => exact ⟨_, (a0), (a1), dF, dF, H', ⟨dN⟩, ⟨dB⟩⟩
 case rest =>
  clear HC5
  obtain ⟨kq, x0_4, x1_4, rfl, rfl, HA, HJ4, HB⟩ := hcut
  cases kq with
  | zero => exact absurd HA.out (by simp [plumblaw10_LemireRises.j0])
  | succ kj4 =>
   have H := HA.out
   clear HA
   simp only [plumblaw10_LemireRises.j0] at H
   have HC7 := Aside0.mk H
   clear H
   go_upto_if 16 with (fail)
   go_cut [2, 3] (fun v2 v3 wc => ∃ (kq : Nat) (x2_6 : Int) (x3_6 : Int), v2 = .int .i64 x2_6 ∧ v3 = .int .i64 x3_6 ∧ Aside0 (plumblaw10_LemireRises.j1 kq x0_4 x1_4 x2_6 x3_6 = some r) ∧ Aside0 (kq ≤ kj4) ∧ Aside0 (Below w.heap.size w wc))
   case first =>
    have H := HC7.out
    clear HC7
    by_cases c8 : a2 > a3
    ·rw [if_pos c8] at H
     have c8b0 : decide (a3 < a2) = true := decide_eq_true c8
     clear c8
     (first | rw [c8b0] | (simp only [i64_w, i32_w]; rw [c8b0]) | skip)
     have H' := Aside0.mk H
     clear H
     go_wp2
     go_meet
     case rel => exact ⟨_, (a3), (a2), dF, dF, H', ⟨by have := HJ4.out; first | omega | exact Nat.le_refl _⟩, ⟨dB⟩⟩
    ·rw [if_neg c8] at H
     have c8b0 : decide (a3 < a2) = false := decide_eq_false c8
     clear c8
     (first | rw [c8b0] | (simp only [i64_w, i32_w]; rw [c8b0]) | skip)
     have H' := Aside0.mk H
     clear H
     go_wp2
     go_meet
     case rel => exact ⟨_, (a2), (a3), dF, dF, H', ⟨by have := HJ4.out; first | omega | exact Nat.le_refl _⟩, ⟨dB⟩⟩
   case rest =>
    clear HC7
    obtain ⟨kq, x2_6, x3_6, rfl, rfl, HA, HJ6, HB⟩ := hcut
    cases kq with
    | zero => exact absurd HA.out (by simp [plumblaw10_LemireRises.j1])
    | succ kj6 =>
     have H := HA.out
     clear HA
     simp only [plumblaw10_LemireRises.j1] at H
     replace H := obe H
     obtain ⟨t564, A90, H⟩ := H
     (try dsimp only at H)
     have A9 := Aside0.mk A90
     clear A90
     by_cases c10 : t564 = true
     ·subst c10
      have H1 : ((plumblaw10_rises.f kj6 x0_4 x2_6 x1_4 x2_6).bind fun t565 => (if t565 = true then ((plumblaw10_rises.f kj6 x0_4 x2_6 x0_4 x3_6).bind fun t566 => (if t566 = true then ((plumblaw10_rises.f kj6 x0_4 x2_6 x1_4 x3_6).bind fun t567 => (some t567)) else (some false))) else (some false))) = some r := by rw [if_pos rfl] at H; exact H
      clear H
      have H := H1
      clear H1
      replace H := obe H
      obtain ⟨t565, A110, H⟩ := H
      (try dsimp only at H)
      have A11 := Aside0.mk A110
      clear A110
      by_cases c12 : t565 = true
      ·subst c12
       have H1 : ((plumblaw10_rises.f kj6 x0_4 x2_6 x0_4 x3_6).bind fun t566 => (if t566 = true then ((plumblaw10_rises.f kj6 x0_4 x2_6 x1_4 x3_6).bind fun t567 => (some t567)) else (some false))) = some r := by rw [if_pos rfl] at H; exact H
       clear H
       have H := H1
       clear H1
       replace H := obe H
       obtain ⟨t566, A130, H⟩ := H
       (try dsimp only at H)
       have A13 := Aside0.mk A130
       clear A130
       by_cases c14 : t566 = true
       ·subst c14
        have H1 : ((plumblaw10_rises.f kj6 x0_4 x2_6 x1_4 x3_6).bind fun t567 => (some t567)) = some r := by rw [if_pos rfl] at H; exact H
        clear H
        have H := H1
        clear H1
        replace H := obe H
        obtain ⟨t567, A150, H⟩ := H
        (try dsimp only at H)
        have A15 := Aside0.mk A150
        clear A150
        obtain rfl := Option.some.inj H
        go_wp2_with (first | ((with_reducible refine gate_callee (f := 14) rfl ?_); refine gL (some 19) Tryd.func14 #[] ?_; (with_reducible refine (plumblaw10_alive.calls kj6  true _ A9.out).mono ?_); rintro e w16 ⟨rfl, hb⟩; refine ⟨_, rfl, ?_⟩; replace HB := Aside0.mk (below_step dB hb); (try clear hb)) | (go_at_call 17; (with_reducible refine (plumblaw10_rises.calls kj6 x0_4 x2_6 x1_4 x2_6 true _ A11.out).mono ?_); rintro e w17 ⟨rfl, hb⟩; replace HB := Aside0.mk (below_step dB hb); (try clear hb)) | (go_at_call 17; (with_reducible refine (plumblaw10_rises.calls kj6 x0_4 x2_6 x0_4 x3_6 true _ A13.out).mono ?_); rintro e w18 ⟨rfl, hb⟩; replace HB := Aside0.mk (below_step dB hb); (try clear hb)) | (go_at_call 17; (with_reducible refine (plumblaw10_rises.calls kj6 x0_4 x2_6 x1_4 x3_6 t567 _ A15.out).mono ?_); rintro e w19 ⟨rfl, hb⟩; replace HB := Aside0.mk (below_step dB hb); (try clear hb)))
        go_ret
        exact ⟨dE, dB⟩
       ·replace c14 := Bool.eq_false_iff.mpr c14
        subst c14
        have H1 : (some false) = some r := by rw [if_neg (show ¬ (false = true) by decide)] at H; exact H
        clear H
        have H := H1
        clear H1
        obtain rfl := Option.some.inj H
        go_wp2_with (first | ((with_reducible refine gate_callee (f := 14) rfl ?_); refine gL (some 19) Tryd.func14 #[] ?_; (with_reducible refine (plumblaw10_alive.calls kj6  true _ A9.out).mono ?_); rintro e w20 ⟨rfl, hb⟩; refine ⟨_, rfl, ?_⟩; replace HB := Aside0.mk (below_step dB hb); (try clear hb)) | (go_at_call 17; (with_reducible refine (plumblaw10_rises.calls kj6 x0_4 x2_6 x1_4 x2_6 true _ A11.out).mono ?_); rintro e w21 ⟨rfl, hb⟩; replace HB := Aside0.mk (below_step dB hb); (try clear hb)) | (go_at_call 17; (with_reducible refine (plumblaw10_rises.calls kj6 x0_4 x2_6 x0_4 x3_6 false _ A13.out).mono ?_); rintro e w22 ⟨rfl, hb⟩; replace HB := Aside0.mk (below_step dB hb); (try clear hb)))
        go_ret
        exact ⟨dE, dB⟩
      ·replace c12 := Bool.eq_false_iff.mpr c12
       subst c12
       have H1 : (some false) = some r := by rw [if_neg (show ¬ (false = true) by decide)] at H; exact H
       clear H
       have H := H1
       clear H1
       obtain rfl := Option.some.inj H
       go_wp2_with (first | ((with_reducible refine gate_callee (f := 14) rfl ?_); refine gL (some 19) Tryd.func14 #[] ?_; (with_reducible refine (plumblaw10_alive.calls kj6  true _ A9.out).mono ?_); rintro e w23 ⟨rfl, hb⟩; refine ⟨_, rfl, ?_⟩; replace HB := Aside0.mk (below_step dB hb); (try clear hb)) | (go_at_call 17; (with_reducible refine (plumblaw10_rises.calls kj6 x0_4 x2_6 x1_4 x2_6 false _ A11.out).mono ?_); rintro e w24 ⟨rfl, hb⟩; replace HB := Aside0.mk (below_step dB hb); (try clear hb)))
       go_ret
       exact ⟨dE, dB⟩
     ·replace c10 := Bool.eq_false_iff.mpr c10
      subst c10
      have H1 : (some false) = some r := by rw [if_neg (show ¬ (false = true) by decide)] at H; exact H
      clear H
      have H := H1
      clear H1
      obtain rfl := Option.some.inj H
      go_wp2_with (first | ((with_reducible refine gate_callee (f := 14) rfl ?_); refine gL (some 19) Tryd.func14 #[] ?_; (with_reducible refine (plumblaw10_alive.calls kj6  false _ A9.out).mono ?_); rintro e w25 ⟨rfl, hb⟩; refine ⟨_, rfl, ?_⟩; replace HB := Aside0.mk (below_step dB hb); (try clear hb)))
      go_ret
      exact ⟨dE, dB⟩

/-- THE ONE PURE STATEMENT of plumblaw10_LemireRises: yours. -/
def plumblaw10_LemireRises.Pure : Prop := ∀ (a0 : Int) (a1 : Int) (a2 : Int) (a3 : Int), (Lit.int .u64 a0).wf = true → (Lit.int .u64 a1).wf = true → (Lit.int .i64 a2).wf = true → (Lit.int .i64 a3).wf = true → ∃ k, plumblaw10_LemireRises.f k a0 a1 a2 a3 = some true
theorem plumblaw10_LemireRises.walk (P : plumblaw10_LemireRises.Pure) (a0 : Int) (a1 : Int) (a2 : Int) (a3 : Int) (w : World) (w0 : (Lit.int .u64 a0).wf = true) (w1 : (Lit.int .u64 a1).wf = true) (w2 : (Lit.int .i64 a2).wf = true) (w3 : (Lit.int .i64 a3).wf = true) (hG : TensLaid w) :
  Calls Tryd.prog 6 #[.int .u64 a0, .int .u64 a1, .int .i64 a2, .int .i64 a3] w fun e w' => e = .returned (.bool true) ∧ Below w.heap.size w w' := by
 obtain ⟨k, h⟩ := P a0 a1 a2 a3 w0 w1 w2 w3
 refine (plumblaw10_LemireRises.calls k a0 a1 a2 a3 true w h).mono ?_
 rintro e w' ⟨rfl, hd⟩
 exact ⟨rfl, hd⟩

/-! ### near_known: function 45 -/
def near_known.f (a0 : Int) : Option (Bool) := if a0 ≥ 0 then (some (decide (a0 < 5))) else (some false)
set_option maxHeartbeats 8000000 in
set_option maxRecDepth 100000 in
theorem near_known.calls (a0 : Int) (r : Bool) (w : World) (h : near_known.f a0 = some r) :
  Calls Tryd.prog 45 #[.int .i64 a0] w fun e w' => e = .returned (.bool r) ∧ Drawn0 w w' := by
 have H : (if a0 ≥ 0 then (some (decide (a0 < 5))) else (some false)) = some r := h
 clear h
 by_cases c2 : a0 ≥ 0
 ·rw [if_pos c2] at H
  have c2b0 : decide (0 ≤ a0) = true := decide_eq_true c2
  clear c2
  obtain rfl := Option.some.inj H
  go_enter Tryd.func45, Tryd.ntmps45
  go_wp2
  go_ret
  exact ⟨by first | rfl | (simp; done) | (simp [*]; done), by repeat (first | exact Drawn0.refl _ | apply Drawn0.step)⟩
 ·rw [if_neg c2] at H
  have c2b0 : decide (0 ≤ a0) = false := decide_eq_false c2
  clear c2
  obtain rfl := Option.some.inj H
  go_enter Tryd.func45, Tryd.ntmps45
  go_wp2
  go_ret
  exact ⟨by first | rfl | (simp; done) | (simp [*]; done), by repeat (first | exact Drawn0.refl _ | apply Drawn0.step)⟩

/-! ### nat_Word: function 47 -/
def nat_Word.f (k : Nat) (l0 : List Int) : Option (Int × Bool) := (nat_size.f k l0).bind fun t568 => (if t568 = 0 then (some (0, true)) else (if t568 = 1 then (if 0 < (l0.length : Int) then (some (rd l0 0, true)) else (none)) else (some (0, false))))
set_option maxHeartbeats 8000000 in
set_option maxRecDepth 100000 in
theorem nat_Word.calls (k : Nat) (A0 : Option Addr) (c0 : Nat) (l0 : List Int) (r1 : Int) (r2 : Bool) (w : World) (hr0 : Kd.C (Kd.int .u64) w A0 l0.length l0) (hc0 : l0.length ≤ c0) (h : nat_Word.f k l0 = some (r1, r2)) :
  Calls Tryd.prog 47 #[.slice A0 l0.length c0] w fun e w' => e = .returned (.tuple #[.int .u64 r1, .bool r2]) ∧ Drawn0 w w' := by
 have HR0 := Aside0.mk hr0
 have HC0 := Aside0.mk hc0
 clear hr0 hc0
 have H : ((nat_size.f k l0).bind fun t568 => (if t568 = 0 then (some (0, true)) else (if t568 = 1 then (if 0 < (l0.length : Int) then (some (rd l0 0, true)) else (none)) else (some (0, false))))) = some (r1, r2) := h
 clear h
 replace H := obe H
 obtain ⟨t568, A20, H⟩ := H
 (try dsimp only at H)
 have A2 := Aside0.mk A20
 clear A20
 by_cases c3 : t568 = 0
 ·rw [if_pos c3] at H
  have c3b0 : (t568 == 0) = true := beq_iff_eq.mpr c3
  have c3b1 : (t568 != 0) = false := bne_eq_false_iff_eq.mpr c3
  clear c3
  simp only [Option.some.injEq, Prod.mk.injEq] at H
  obtain ⟨rfl, rfl⟩ := H
  go_enter Tryd.func47, Tryd.ntmps47
  go_wp2_with (first | ((with_reducible refine gate_callee (f := 42) rfl ?_); refine gL (some 5) Tryd.func42 #[.slice A0 l0.length c0] ?_; (with_reducible refine (nat_size.calls k _ _ l0 t568 _ ?side1 ?side2 A2.out).mono ?_); (case side1 => exact dC HR0.out); (case side2 => exact HC0.out); rintro e w' ⟨rfl, ⟨nd, rfl⟩⟩; refine ⟨_, rfl, ?_⟩))
  go_ret2
  exact ⟨by first | rfl | (simp; done) | (simp [*]; done), by repeat (first | exact Drawn0.refl _ | apply Drawn0.step)⟩
 ·rw [if_neg c3] at H
  have c3b0 : (t568 == 0) = false := beq_eq_false_iff_ne.mpr c3
  have c3b1 : (t568 != 0) = true := bne_iff_ne.mpr c3
  by_cases c4 : t568 = 1
  ·rw [if_pos c4] at H
   have c4b0 : (t568 == 1) = true := beq_iff_eq.mpr c4
   have c4b1 : (t568 != 1) = false := bne_eq_false_iff_eq.mpr c4
   clear c4
   by_cases c5 : (0 : Int) < (l0.length : Int)
   ·rw [if_pos c5] at H
    have c5b0 : decide (0 < (l0.length : Int)) = true := decide_eq_true c5
    have c5b1 : decide (0 < l0.length) = true := decide_eq_true (by omega)
    clear c5
    simp only [Option.some.injEq, Prod.mk.injEq] at H
    obtain ⟨rfl, rfl⟩ := H
    go_enter Tryd.func47, Tryd.ntmps47
    go_wp2_with (first | ((with_reducible refine gate_callee (f := 42) rfl ?_); refine gL (some 5) Tryd.func42 #[.slice A0 l0.length c0] ?_; (with_reducible refine (nat_size.calls k _ _ l0 t568 _ ?side1 ?side2 A2.out).mono ?_); (case side1 => exact dC HR0.out); (case side2 => exact HC0.out); rintro e w' ⟨rfl, ⟨nd, rfl⟩⟩; refine ⟨_, rfl, ?_⟩; have p569 : 0 ≤ (0 : Int) := (by omega); have q569 : 0 < (l0.length : Int) := of_decide_eq_true dS; obtain ⟨ad569, e569, hx569_0⟩ := Kd.at_int HR0.out 0 p569 q569; cases e569; have qi569 : (0 < l0.length) = True := eq_true (by omega); (try rw [show ((0 : Int)).toNat = 0 from rfl] at hx569_0); (try rw [Addr.add_zero'] at hx569_0); replace p569 := eq_true p569; replace q569 := eq_true q569))
    go_ret2
    exact ⟨by first | rfl | (simp; done) | (simp [*]; done), by repeat (first | exact Drawn0.refl _ | apply Drawn0.step)⟩
   ·rw [if_neg c5] at H
    exact absurd H (by simp)
  ·rw [if_neg c4] at H
   have c4b0 : (t568 == 1) = false := beq_eq_false_iff_ne.mpr c4
   have c4b1 : (t568 != 1) = true := bne_iff_ne.mpr c4
   simp only [Option.some.injEq, Prod.mk.injEq] at H
   obtain ⟨rfl, rfl⟩ := H
   go_enter Tryd.func47, Tryd.ntmps47
   go_wp2_with (first | ((with_reducible refine gate_callee (f := 42) rfl ?_); refine gL (some 5) Tryd.func42 #[.slice A0 l0.length c0] ?_; (with_reducible refine (nat_size.calls k _ _ l0 t568 _ ?side1 ?side2 A2.out).mono ?_); (case side1 => exact dC HR0.out); (case side2 => exact HC0.out); rintro e w' ⟨rfl, ⟨nd, rfl⟩⟩; refine ⟨_, rfl, ?_⟩))
   go_ret2
   exact ⟨by first | rfl | (simp; done) | (simp [*]; done), by repeat (first | exact Drawn0.refl _ | apply Drawn0.step)⟩

end Go.Proofs.YtoannkopciehcaaDoor.PA
