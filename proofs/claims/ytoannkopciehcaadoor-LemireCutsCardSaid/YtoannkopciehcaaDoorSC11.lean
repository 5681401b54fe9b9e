/- A part of the proof (11). -/
import Derived.Test.YtoannkopciehcaaDoorSC2
import Derived.Test.YtoannkopciehcaaDoorSC4
import Derived.Test.YtoannkopciehcaaDoorSC10
import Derived.OpenShut
import Derived.LaidLaws
import Derived.LaidHandle
import Derived.MakeChecks
namespace Go.Proofs.YtoannkopciehcaaDoor.PA
open Go.RowKit Go.Proofs.YtoannkopciehcaaDoorW.PrintWords Go.Proofs.YtoannkopciehcaaDoorW.PrintLast Go.Proofs.YtoannkopciehcaaDoorW.PrintMore
attribute [local go_sem] max2_int min2_int max_two min_two max_three min_three max_four min_four   -- for this text's walks alone
set_option linter.unusedVariables false
set_option linter.unusedSimpArgs false

/-! ### lemire_Cut: function 15 -/
mutual
def lemire_Cut.l0 : Nat → ByteArray → Int → Int → Option (Int × Int × Bool × Int)
 | 0, _, _, _ => none
 | k + 1, x0, x12, x13 => if x13 < x12 then (if 0 ≤ x13 then (if x13 < (x0.size : Int) then (if (bt x0 x13) < 48 then (some (0, 0, false, 41)) else (if (bt x0 x13) > 57 then (some (0, 0, false, 41)) else (lemire_Cut.l0 k x0 x12 (wrap64 (x13 + 1))))) else (none)) else (none)) else (lemire_Cut.l1 k x0 0)
def lemire_Cut.j2 : Nat → ByteArray → Int → Option (Int × Int × Bool × Int)
 | 0, _, _ => none
 | k + 1, x0, x7 => lemire_Cut.l2 k x0 x7 0 0
def lemire_Cut.j4 : Nat → ByteArray → Int → Int → Option (Int × Int × Bool × Int)
 | 0, _, _, _ => none
 | k + 1, x0, x7, x8 => lemire_Cut.l3 k x0 x7 x8 x7
def lemire_Cut.l3 : Nat → ByteArray → Int → Int → Int → Option (Int × Int × Bool × Int)
 | 0, _, _, _, _ => none
 | k + 1, x0, x7, x8, x10 => if x10 < (x0.size : Int) then (if 0 ≤ x10 then (if (bt x0 x10) = 48 then (lemire_Cut.l3 k x0 x7 x8 (wrap64 (x10 + 1))) else (some (x8, x7, true, 0))) else (none)) else (some (x8, x7, false, 0))
def lemire_Cut.l2 : Nat → ByteArray → Int → Int → Int → Option (Int × Int × Bool × Int)
 | 0, _, _, _, _ => none
 | k + 1, x0, x7, x8, x9 => if x9 < 19 then (if x7 < (x0.size : Int) then (if 0 ≤ x7 then (lemire_Cut.l2 k x0 (wrap64 (x7 + 1)) (IntKind.u64.wrap ((IntKind.u64.wrap (x8 * 10)) + (((bt x0 x7) - 48) % 256))) (wrap64 (x9 + 1))) else (none)) else (lemire_Cut.j4 k x0 x7 x8)) else (lemire_Cut.j4 k x0 x7 x8)
def lemire_Cut.l1 : Nat → ByteArray → Int → Option (Int × Int × Bool × Int)
 | 0, _, _ => none
 | k + 1, x0, x7 => if x7 < (x0.size : Int) then (if 0 ≤ x7 then (if (bt x0 x7) = 48 then (lemire_Cut.l1 k x0 (wrap64 (x7 + 1))) else (lemire_Cut.j2 k x0 x7)) else (none)) else (lemire_Cut.j2 k x0 x7)
end
def lemire_Cut.f (k : Nat) (a0 : ByteArray) : Option (Int × Int × Bool × Int) := lemire_Cut.l0 k a0 (a0.size : Int) 0
theorem lemire_Cut.mono_l : ∀ k, (∀ y0 y1 y2, LeO (lemire_Cut.l0 k y0 y1 y2) (lemire_Cut.l0 (k + 1) y0 y1 y2)) ∧ (∀ y0 y1, LeO (lemire_Cut.j2 k y0 y1) (lemire_Cut.j2 (k + 1) y0 y1)) ∧ (∀ y0 y1 y2, LeO (lemire_Cut.j4 k y0 y1 y2) (lemire_Cut.j4 (k + 1) y0 y1 y2)) ∧ (∀ y0 y1 y2 y3, LeO (lemire_Cut.l3 k y0 y1 y2 y3) (lemire_Cut.l3 (k + 1) y0 y1 y2 y3)) ∧ (∀ y0 y1 y2 y3, LeO (lemire_Cut.l2 k y0 y1 y2 y3) (lemire_Cut.l2 (k + 1) y0 y1 y2 y3)) ∧ (∀ y0 y1, LeO (lemire_Cut.l1 k y0 y1) (lemire_Cut.l1 (k + 1) y0 y1))
 | 0 => ⟨fun _ _ _ r h => by simp [lemire_Cut.l0] at h, fun _ _ r h => by simp [lemire_Cut.j2] at h, fun _ _ _ r h => by simp [lemire_Cut.j4] at h, fun _ _ _ _ r h => by simp [lemire_Cut.l3] at h, fun _ _ _ _ r h => by simp [lemire_Cut.l2] at h, fun _ _ r h => by simp [lemire_Cut.l1] at h⟩
 | k + 1 => by
  obtain ⟨ih0, ih1, ih2, ih3, ih4, ih5⟩ := lemire_Cut.mono_l k
  refine ⟨?_, ?_, ?_, ?_, ?_, ?_⟩
  ·intro y0 y1 y2
   unfold lemire_Cut.l0
   repeat' first
   | (with_reducible exact ih0 _ _ _)
   | (with_reducible exact ih1 _ _)
   | (with_reducible exact ih2 _ _ _)
   | (with_reducible exact ih3 _ _ _ _)
   | (with_reducible exact ih4 _ _ _ _)
   | (with_reducible exact ih5 _ _)
   | (with_reducible exact LeO.refl _)
   | (with_reducible exact LeO.none _)
   | (with_reducible refine LeO.ite ?_ ?_)
   | (with_reducible refine LeO.bind ?_ (fun _ => ?_))
   | exact ih0 _ _ _
   | exact ih1 _ _
   | exact ih2 _ _ _
   | exact ih3 _ _ _ _
   | exact ih4 _ _ _ _
   | exact ih5 _ _
   | exact LeO.none _
   | refine LeO.ite ?_ ?_
   | refine LeO.bind ?_ (fun _ => ?_)
  ·intro y0 y1
   unfold lemire_Cut.j2
   repeat' first
   | (with_reducible exact ih0 _ _ _)
   | (with_reducible exact ih1 _ _)
   | (with_reducible exact ih2 _ _ _)
   | (with_reducible exact ih3 _ _ _ _)
   | (with_reducible exact ih4 _ _ _ _)
   | (with_reducible exact ih5 _ _)
   | (with_reducible exact LeO.refl _)
   | (with_reducible exact LeO.none _)
   | (with_reducible refine LeO.ite ?_ ?_)
   | (with_reducible refine LeO.bind ?_ (fun _ => ?_))
   | exact ih0 _ _ _
   | exact ih1 _ _
   | exact ih2 _ _ _
   | exact ih3 _ _ _ _
   | exact ih4 _ _ _ _
   | exact ih5 _ _
   | exact LeO.none _
   | refine LeO.ite ?_ ?_
   | refine LeO.bind ?_ (fun _ => ?_)
  ·intro y0 y1 y2
   unfold lemire_Cut.j4
   repeat' first
   | (with_reducible exact ih0 _ _ _)
   | (with_reducible exact ih1 _ _)
   | (with_reducible exact ih2 _ _ _)
   | (with_reducible exact ih3 _ _ _ _)
   | (with_reducible exact ih4 _ _ _ _)
   | (with_reducible exact ih5 _ _)
   | (with_reducible exact LeO.refl _)
   | (with_reducible exact LeO.none _)
   | (with_reducible refine LeO.ite ?_ ?_)
   | (with_reducible refine LeO.bind ?_ (fun _ => ?_))
   | exact ih0 _ _ _
   | exact ih1 _ _
   | exact ih2 _ _ _
   | exact ih3 _ _ _ _
   | exact ih4 _ _ _ _
   | exact ih5 _ _
   | exact LeO.none _
   | refine LeO.ite ?_ ?_
   | refine LeO.bind ?_ (fun _ => ?_)
  ·intro y0 y1 y2 y3
   unfold lemire_Cut.l3
   repeat' first
   | (with_reducible exact ih0 _ _ _)
   | (with_reducible exact ih1 _ _)
   | (with_reducible exact ih2 _ _ _)
   | (with_reducible exact ih3 _ _ _ _)
   | (with_reducible exact ih4 _ _ _ _)
   | (with_reducible exact ih5 _ _)
   | (with_reducible exact LeO.refl _)
   | (with_reducible exact LeO.none _)
   | (with_reducible refine LeO.ite ?_ ?_)
   | (with_reducible refine LeO.bind ?_ (fun _ => ?_))
   | exact ih0 _ _ _
   | exact ih1 _ _
   | exact ih2 _ _ _
   | exact ih3 _ _ _ _
   | exact ih4 _ _ _ _
   | exact ih5 _ _
   | exact LeO.none _
   | refine LeO.ite ?_ ?_
   | refine LeO.bind ?_ (fun _ => ?_)
  ·intro y0 y1 y2 y3
   unfold lemire_Cut.l2
   repeat' first
   | (with_reducible exact ih0 _ _ _)
   | (with_reducible exact ih1 _ _)
   | (with_reducible exact ih2 _ _ _)
   | (with_reducible exact ih3 _ _ _ _)
   | (with_reducible exact ih4 _ _ _ _)
   | (with_reducible exact ih5 _ _)
   | (with_reducible exact LeO.refl _)
   | (with_reducible exact LeO.none _)
   | (with_reducible refine LeO.ite ?_ ?_)
   | (with_reducible refine LeO.bind ?_ (fun _ => ?_))
   | exact ih0 _ _ _
   | exact ih1 _ _
   | exact ih2 _ _ _
   | exact ih3 _ _ _ _
   | exact ih4 _ _ _ _
   | exact ih5 _ _
   | exact LeO.none _
   | refine LeO.ite ?_ ?_
   | refine LeO.bind ?_ (fun _ => ?_)
  ·intro y0 y1
   unfold lemire_Cut.l1
   repeat' first
   | (with_reducible exact ih0 _ _ _)
   | (with_reducible exact ih1 _ _)
   | (with_reducible exact ih2 _ _ _)
   | (with_reducible exact ih3 _ _ _ _)
   | (with_reducible exact ih4 _ _ _ _)
   | (with_reducible exact ih5 _ _)
   | (with_reducible exact LeO.refl _)
   | (with_reducible exact LeO.none _)
   | (with_reducible refine LeO.ite ?_ ?_)
   | (with_reducible refine LeO.bind ?_ (fun _ => ?_))
   | exact ih0 _ _ _
   | exact ih1 _ _
   | exact ih2 _ _ _
   | exact ih3 _ _ _ _
   | exact ih4 _ _ _ _
   | exact ih5 _ _
   | exact LeO.none _
   | refine LeO.ite ?_ ?_
   | refine LeO.bind ?_ (fun _ => ?_)
theorem lemire_Cut.mono : ∀ a0 k, LeO (lemire_Cut.f k a0) (lemire_Cut.f (k + 1) a0) := by
 intro a0 k
 obtain ⟨ih0, ih1, ih2, ih3, ih4, ih5⟩ := lemire_Cut.mono_l k
 unfold lemire_Cut.f
 repeat' first
   | (with_reducible exact ih0 _ _ _)
   | (with_reducible exact ih1 _ _)
   | (with_reducible exact ih2 _ _ _)
   | (with_reducible exact ih3 _ _ _ _)
   | (with_reducible exact ih4 _ _ _ _)
   | (with_reducible exact ih5 _ _)
   | (with_reducible exact LeO.refl _)
   | (with_reducible exact LeO.none _)
   | (with_reducible refine LeO.ite ?_ ?_)
   | (with_reducible refine LeO.bind ?_ (fun _ => ?_))
   | exact ih0 _ _ _
   | exact ih1 _ _
   | exact ih2 _ _ _
   | exact ih3 _ _ _ _
   | exact ih4 _ _ _ _
   | exact ih5 _ _
   | exact LeO.none _
   | refine LeO.ite ?_ ?_
   | refine LeO.bind ?_ (fun _ => ?_)
set_option maxHeartbeats 8000000 in
set_option maxRecDepth 100000 in
theorem lemire_Cut.calls (k : Nat) (a0 : ByteArray) (r1 : Int) (r2 : Int) (r3 : Bool) (r4 : Int) (w : World) (h : lemire_Cut.f k a0 = some (r1, r2, r3, r4)) :
  Calls Tryd.prog 15 #[.string a0] w fun e w' => e = .returned (.tuple #[.int .u64 r1, .int .i64 r2, .bool r3, .int .i64 r4]) ∧ Drawn0 w w' := by
 have H : (lemire_Cut.l0 k a0 (a0.size : Int) 0) = some (r1, r2, r3, r4) := h
 clear h
 have H' := Aside0.mk H
 clear H
 go_enter Tryd.func15, Tryd.ntmps15
 go_wp2
 go_loopg [13] k (fun kq v13 w' => ∃ (x13_1 : Int), v13 = .int .i64 x13_1 ∧ Aside0 (lemire_Cut.l0 kq a0 (a0.size : Int) x13_1 = some (r1, r2, r3, r4)) ∧ Aside0 (kq ≤ k) ∧ Drawn0 w w')
 case atStart => exact ⟨(0), dF, H', ⟨Nat.le_refl _⟩, by repeat (first | exact Drawn0.refl _ | apply Drawn0.step)⟩
 case round =>
  clear H'
  try clear c1
  obtain ⟨x13_1, rfl, HA, HK1, ⟨m1, rfl⟩⟩ := hrel
  cases gk with
  | zero => exact absurd HA.out (by simp [lemire_Cut.l0])
  | succ k1 =>
   have H := HA.out
   clear HA
   simp only [lemire_Cut.l0] at H
   by_cases c2 : x13_1 < (a0.size : Int)
   ·rw [if_pos c2] at H
    have c2b0 : decide (x13_1 < (a0.size : Int)) = true := decide_eq_true c2
    clear c2
    by_cases c3 : (0 : Int) ≤ x13_1
    ·rw [if_pos c3] at H
     have c3b0 : decide (0 ≤ x13_1) = true := decide_eq_true c3
     clear c3
     by_cases c4 : x13_1 < (a0.size : Int)
     ·rw [if_pos c4] at H
      have c4b0 : decide (x13_1 < (a0.size : Int)) = true := decide_eq_true c4
      clear c4
      by_cases c6 : (bt a0 x13_1) < 48
      ·rw [if_pos c6] at H
       have c6b0 : decide ((bt a0 x13_1) < 48) = true := decide_eq_true c6
       clear c6
       simp only [Option.some.injEq, Prod.mk.injEq] at H
       obtain ⟨rfl, rfl, rfl, rfl⟩ := H
       have p5 : 0 ≤ (x13_1 : Int) := of_decide_eq_true dS
       have q5 : x13_1 < (a0.size : Int) := of_decide_eq_true dS
       have hx5 := bt_at a0 x13_1
       replace p5 := eq_true p5
       replace q5 := eq_true q5
       go_wp2
       refine bodyPost_ret (results_list (rs := [.tmp 2, .tmp 3, .tmp 4, .tmp 5]) rfl (by simp) (.tmp (.tmp (.tmp (.tmp .nil))))) rfl ?_
       exact ⟨by first | rfl | (simp; done) | (simp [*]; done), by repeat (first | exact Drawn0.refl _ | apply Drawn0.step)⟩
      ·rw [if_neg c6] at H
       have c6b0 : decide ((bt a0 x13_1) < 48) = false := decide_eq_false c6
       clear c6
       by_cases c8 : (bt a0 x13_1) > 57
       ·rw [if_pos c8] at H
        have c8b0 : decide (57 < (bt a0 x13_1)) = true := decide_eq_true c8
        clear c8
        simp only [Option.some.injEq, Prod.mk.injEq] at H
        obtain ⟨rfl, rfl, rfl, rfl⟩ := H
        have p5 : 0 ≤ (x13_1 : Int) := of_decide_eq_true dS
        have q5 : x13_1 < (a0.size : Int) := of_decide_eq_true dS
        have hx5 := bt_at a0 x13_1
        replace p5 := eq_true p5
        replace q5 := eq_true q5
        have p7 : 0 ≤ (x13_1 : Int) := of_decide_eq_true dS
        have q7 : x13_1 < (a0.size : Int) := of_decide_eq_true dS
        have hx7 := bt_at a0 x13_1
        replace p7 := eq_true p7
        replace q7 := eq_true q7
        go_wp2
        refine bodyPost_ret (results_list (rs := [.tmp 2, .tmp 3, .tmp 4, .tmp 5]) rfl (by simp) (.tmp (.tmp (.tmp (.tmp .nil))))) rfl ?_
        exact ⟨by first | rfl | (simp; done) | (simp [*]; done), by repeat (first | exact Drawn0.refl _ | apply Drawn0.step)⟩
       ·rw [if_neg c8] at H
        have c8b0 : decide (57 < (bt a0 x13_1)) = false := decide_eq_false c8
        clear c8
        have H' := Aside0.mk H
        clear H
        have p5 : 0 ≤ (x13_1 : Int) := of_decide_eq_true dS
        have q5 : x13_1 < (a0.size : Int) := of_decide_eq_true dS
        have hx5 := bt_at a0 x13_1
        replace p5 := eq_true p5
        replace q5 := eq_true q5
        have p7 : 0 ≤ (x13_1 : Int) := of_decide_eq_true dS
        have q7 : x13_1 < (a0.size : Int) := of_decide_eq_true dS
        have hx7 := bt_at a0 x13_1
        replace p7 := eq_true p7
        replace q7 := eq_true q7
        go_wp2
        go_roundg k1
        case measure => have := HK1.out; omega
        case rel => exact ⟨(wrap64 (x13_1 + 1)), dF, H', ⟨by have := HK1.out; omega⟩, by repeat (first | exact Drawn0.refl _ | apply Drawn0.step)⟩
     ·rw [if_neg c4] at H
      exact absurd H (by simp)
    ·rw [if_neg c3] at H
     exact absurd H (by simp)
   ·rw [if_neg c2] at H
    have c2b0 : decide (x13_1 < (a0.size : Int)) = false := decide_eq_false c2
    clear c2
    have HC9 := Aside0.mk H
    clear H
    go_upto_block 2 with (fail)
    go_cut [7] (fun v7 wc => ∃ (kq : Nat) (x7_8 : Int), v7 = .int .i64 x7_8 ∧ Aside0 (lemire_Cut.j2 kq a0 x7_8 = some (r1, r2, r3, r4)) ∧ Aside0 (kq ≤ k1) ∧ Drawn0 w wc)
    case first =>
     have H := HC9.out
     clear HC9
     have H' := Aside0.mk H
     clear H
     go_wp2
     go_loopg [7] k1 (fun kq v7 w' => ∃ (x7_2 : Int), v7 = .int .i64 x7_2 ∧ Aside0 (lemire_Cut.l1 kq a0 x7_2 = some (r1, r2, r3, r4)) ∧ Aside0 (kq ≤ k1) ∧ Drawn0 w w')
     case atStart => exact ⟨(0), dF, H', ⟨Nat.le_refl _⟩, by repeat (first | exact Drawn0.refl _ | apply Drawn0.step)⟩
     case round =>
      clear H'
      try clear c1
      try clear c2
      try clear c2b0
      try clear p2
      try clear c3
      try clear c3b0
      try clear c4
      try clear c4b0
      try clear p5
      try clear q5
      try clear hx5
      try clear c6
      try clear c6b0
      try clear p6
      try clear p7
      try clear q7
      try clear hx7
      try clear c8
      try clear c8b0
      try clear p5
      try clear p7
      try clear q5
      try clear q7
      obtain ⟨x7_2, rfl, HA, HK2, ⟨m2, rfl⟩⟩ := hrel
      cases gk with
      | zero => exact absurd HA.out (by simp [lemire_Cut.l1])
      | succ k2 =>
       have H := HA.out
       clear HA
       simp only [lemire_Cut.l1] at H
       by_cases c10 : x7_2 < (a0.size : Int)
       ·rw [if_pos c10] at H
        have c10b0 : decide (x7_2 < (a0.size : Int)) = true := decide_eq_true c10
        clear c10
        (first | rw [c10b0] | (simp only [i64_w, i32_w]; rw [c10b0]) | skip)
        by_cases c11 : (0 : Int) ≤ x7_2
        ·rw [if_pos c11] at H
         have c11b0 : decide (0 ≤ x7_2) = true := decide_eq_true c11
         clear c11
         by_cases c13 : (bt a0 x7_2) = 48
         ·rw [if_pos c13] at H
          have c13b0 : ((bt a0 x7_2) == 48) = true := beq_iff_eq.mpr c13
          have c13b1 : ((bt a0 x7_2) != 48) = false := bne_eq_false_iff_eq.mpr c13
          clear c13
          have H' := Aside0.mk H
          clear H
          have p12 : 0 ≤ (x7_2 : Int) := of_decide_eq_true dS
          have q12 : x7_2 < (a0.size : Int) := of_decide_eq_true dS
          have hx12 := bt_at a0 x7_2
          replace p12 := eq_true p12
          replace q12 := eq_true q12
          go_wp2
          go_roundg k2
          case measure => have := HK1.out; have := HK2.out; omega
          case rel => exact ⟨(wrap64 (x7_2 + 1)), dF, H', ⟨by have := HK1.out; have := HK2.out; omega⟩, by repeat (first | exact Drawn0.refl _ | apply Drawn0.step)⟩
         ·rw [if_neg c13] at H
          have c13b0 : ((bt a0 x7_2) == 48) = false := beq_eq_false_iff_ne.mpr c13
          have c13b1 : ((bt a0 x7_2) != 48) = true := bne_iff_ne.mpr c13
          have H' := Aside0.mk H
          clear H
          have p12 : 0 ≤ (x7_2 : Int) := of_decide_eq_true dS
          have q12 : x7_2 < (a0.size : Int) := of_decide_eq_true dS
          have hx12 := bt_at a0 x7_2
          replace p12 := eq_true p12
          replace q12 := eq_true q12
          go_wp2
          go_meet
          case rel => exact ⟨_, (x7_2), dF, H', ⟨by have := HK1.out; have := HK2.out; first | omega | exact Nat.le_refl _⟩, by repeat (first | exact Drawn0.refl _ | apply Drawn0.step)⟩
        ·rw [if_neg c11] at H
         exact absurd H (by simp)
       ·rw [if_neg c10] at H
        have c10b0 : decide (x7_2 < (a0.size : Int)) = false := decide_eq_false c10
        clear c10
        (first | rw [c10b0] | (simp only [i64_w, i32_w]; rw [c10b0]) | skip)
        have H' := Aside0.mk H
        clear H
        go_wp2
        go_meet
        case rel => exact ⟨_, (x7_2), dF, H', ⟨by have := HK1.out; have := HK2.out; first | omega | exact Nat.le_refl _⟩, by repeat (first | exact Drawn0.refl _ | apply Drawn0.step)⟩
    case rest =>
     clear HC9
     try clear c1
     try clear p1
     try clear q1
     try clear hx1
     try clear c2
     try clear c2b0
     try clear p2
     try clear c3
     try clear c3b0
     try clear c4
     try clear c4b0
     try clear p5
     try clear q5
     try clear hx5
     try clear c6
     try clear c6b0
     try clear p6
     try clear p7
     try clear q7
     try clear hx7
     try clear c8
     try clear c8b0
     try clear c10
     try clear c10b0
     try clear c11
     try clear c11b0
     try clear p12
     try clear q12
     try clear hx12
     try clear c13
     try clear c13b0
     try clear c13b1
     try clear p12
     try clear p2
     try clear p5
     try clear p6
     try clear p7
     try clear q12
     try clear q5
     try clear q7
     obtain ⟨kq, x7_8, rfl, HA, HJ8, ⟨mc8, rfl⟩⟩ := hcut
     cases kq with
     | zero => exact absurd HA.out (by simp [lemire_Cut.j2])
     | succ kj8 =>
      have H := HA.out
      clear HA
      simp only [lemire_Cut.j2] at H
      have HC14 := Aside0.mk H
      clear H
      go_upto_block 4 with (fail)
      go_cut [7, 8] (fun v7 v8 wc => ∃ (kq : Nat) (x7_13 : Int) (x8_13 : Int), v7 = .int .i64 x7_13 ∧ v8 = .int .u64 x8_13 ∧ Aside0 (lemire_Cut.j4 kq a0 x7_13 x8_13 = some (r1, r2, r3, r4)) ∧ Aside0 (kq ≤ kj8) ∧ Drawn0 w wc)
      case first =>
       have H := HC14.out
       clear HC14
       have H' := Aside0.mk H
       clear H
       go_wp2
       go_loopg [7, 8, 9] kj8 (fun kq v7 v8 v9 w' => ∃ (x7_3 : Int) (x8_3 : Int) (x9_3 : Int), v7 = .int .i64 x7_3 ∧ v8 = .int .u64 x8_3 ∧ v9 = .int .i64 x9_3 ∧ Aside0 (lemire_Cut.l2 kq a0 x7_3 x8_3 x9_3 = some (r1, r2, r3, r4)) ∧ Aside0 (kq ≤ kj8) ∧ Drawn0 w w')
       case atStart => exact ⟨(x7_8), (0), (0), dF, dF, dF, H', ⟨Nat.le_refl _⟩, by repeat (first | exact Drawn0.refl _ | apply Drawn0.step)⟩
       case round =>
        clear H'
        try clear c1
        try clear p1
        try clear q1
        try clear hx1
        try clear c2
        try clear c2b0
        try clear p2
        try clear c3
        try clear c3b0
        try clear c4
        try clear c4b0
        try clear p5
        try clear q5
        try clear hx5
        try clear c6
        try clear c6b0
        try clear p6
        try clear p7
        try clear q7
        try clear hx7
        try clear c8
        try clear c8b0
        try clear c10
        try clear c10b0
        try clear c11
        try clear c11b0
        try clear p12
        try clear q12
        try clear hx12
        try clear c13
        try clear c13b0
        try clear c13b1
        try clear p1
        try clear p12
        try clear p2
        try clear p5
        try clear p6
        try clear p7
        try clear q1
        try clear q12
        try clear q5
        try clear q7
        obtain ⟨x7_3, x8_3, x9_3, rfl, rfl, rfl, HA, HK3, ⟨m3, rfl⟩⟩ := hrel
        cases gk with
        | zero => exact absurd HA.out (by simp [lemire_Cut.l2])
        | succ k3 =>
         have H := HA.out
         clear HA
         simp only [lemire_Cut.l2] at H
         by_cases c15 : x9_3 < 19
         ·rw [if_pos c15] at H
          have c15b0 : decide (x9_3 < 19) = true := decide_eq_true c15
          clear c15
          (first | rw [c15b0] | (simp only [i64_w, i32_w]; rw [c15b0]) | skip)
          by_cases c16 : x7_3 < (a0.size : Int)
          ·rw [if_pos c16] at H
           have c16b0 : decide (x7_3 < (a0.size : Int)) = true := decide_eq_true c16
           clear c16
           by_cases c17 : (0 : Int) ≤ x7_3
           ·rw [if_pos c17] at H
            have c17b0 : decide (0 ≤ x7_3) = true := decide_eq_true c17
            clear c17
            have H' := Aside0.mk H
            clear H
            have p18 : 0 ≤ (x7_3 : Int) := of_decide_eq_true dS
            have q18 : x7_3 < (a0.size : Int) := of_decide_eq_true dS
            have hx18 := bt_at a0 x7_3
            replace p18 := eq_true p18
            replace q18 := eq_true q18
            go_wp2
            go_roundg k3
            case measure => have := HK1.out; have := HJ8.out; have := HK3.out; omega
            case rel => exact ⟨(wrap64 (x7_3 + 1)), (IntKind.u64.wrap ((IntKind.u64.wrap (x8_3 * 10)) + (((bt a0 x7_3) - 48) % 256))), (wrap64 (x9_3 + 1)), dF, dF, dF, H', ⟨by have := HK1.out; have := HJ8.out; have := HK3.out; omega⟩, by repeat (first | exact Drawn0.refl _ | apply Drawn0.step)⟩
           ·rw [if_neg c17] at H
            exact absurd H (by simp)
          ·rw [if_neg c16] at H
           have c16b0 : decide (x7_3 < (a0.size : Int)) = false := decide_eq_false c16
           clear c16
           have H' := Aside0.mk H
           clear H
           go_wp2
           go_meet
           case rel => exact ⟨_, (x7_3), (x8_3), dF, dF, H', ⟨by have := HK1.out; have := HJ8.out; have := HK3.out; first | omega | exact Nat.le_refl _⟩, by repeat (first | exact Drawn0.refl _ | apply Drawn0.step)⟩
         ·rw [if_neg c15] at H
          have c15b0 : decide (x9_3 < 19) = false := decide_eq_false c15
          clear c15
          (first | rw [c15b0] | (simp only [i64_w, i32_w]; rw [c15b0]) | skip)
          have H' := Aside0.mk H
          clear H
          go_wp2
          go_meet
          case rel => exact ⟨_, (x7_3), (x8_3), dF, dF, H', ⟨by have := HK1.out; have := HJ8.out; have := HK3.out; first | omega | exact Nat.le_refl _⟩, by repeat (first | exact Drawn0.refl _ | apply Drawn0.step)⟩
      case rest =>
       clear HC14
       try clear c1
       try clear p1
       try clear q1
       try clear hx1
       try clear c2
       try clear c2b0
       try clear p2
       try clear c3
       try clear c3b0
       try clear c4
       try clear c4b0
       try clear p5
       try clear q5
       try clear hx5
       try clear c6
       try clear c6b0
       try clear p6
       try clear p7
       try clear q7
       try clear hx7
       try clear c8
       try clear c8b0
       try clear c10
       try clear c10b0
       try clear c11
       try clear c11b0
       try clear p12
       try clear q12
       try clear hx12
       try clear c13
       try clear c13b0
       try clear c13b1
       try clear c15
       try clear c15b0
       try clear c16
       try clear c16b0
       try clear c17
       try clear c17b0
       try clear p18
       try clear q18
       try clear hx18
       try clear p1
       try clear p12
       try clear p18
       try clear p2
       try clear p5
       try clear p6
       try clear p7
       try clear q1
       try clear q12
       try clear q18
       try clear q5
       try clear q7
       obtain ⟨kq, x7_13, x8_13, rfl, rfl, HA, HJ13, ⟨mc13, rfl⟩⟩ := hcut
       cases kq with
       | zero => exact absurd HA.out (by simp [lemire_Cut.j4])
       | succ kj13 =>
        have H := HA.out
        clear HA
        simp only [lemire_Cut.j4] at H
        have H' := Aside0.mk H
        clear H
        go_wp2
        go_loopg [10] kj13 (fun kq v10 w' => ∃ (x10_4 : Int), v10 = .int .i64 x10_4 ∧ Aside0 (lemire_Cut.l3 kq a0 x7_13 x8_13 x10_4 = some (r1, r2, r3, r4)) ∧ Aside0 (kq ≤ kj13) ∧ Drawn0 w w')
        case atStart => exact ⟨(x7_13), dF, H', ⟨Nat.le_refl _⟩, by repeat (first | exact Drawn0.refl _ | apply Drawn0.step)⟩
        case round =>
         clear H'
         try clear c1
         try clear p1
         try clear q1
         try clear hx1
         try clear c2
         try clear c2b0
         try clear p2
         try clear c3
         try clear c3b0
         try clear c4
         try clear c4b0
         try clear p5
         try clear q5
         try clear hx5
         try clear c6
         try clear c6b0
         try clear p6
         try clear p7
         try clear q7
         try clear hx7
         try clear c8
         try clear c8b0
         try clear c10
         try clear c10b0
         try clear c11
         try clear c11b0
         try clear p12
         try clear q12
         try clear hx12
         try clear c13
         try clear c13b0
         try clear c13b1
         try clear c15
         try clear c15b0
         try clear c16
         try clear c16b0
         try clear c17
         try clear c17b0
         try clear p18
         try clear q18
         try clear hx18
         try clear p1
         try clear p12
         try clear p18
         try clear p2
         try clear p5
         try clear p6
         try clear p7
         try clear q1
         try clear q12
         try clear q18
         try clear q5
         try clear q7
         obtain ⟨x10_4, rfl, HA, HK4, ⟨m4, rfl⟩⟩ := hrel
         cases gk with
         | zero => exact absurd HA.out (by simp [lemire_Cut.l3])
         | succ k4 =>
          have H := HA.out
          clear HA
          simp only [lemire_Cut.l3] at H
          by_cases c19 : x10_4 < (a0.size : Int)
          ·rw [if_pos c19] at H
           have c19b0 : decide (x10_4 < (a0.size : Int)) = true := decide_eq_true c19
           clear c19
           by_cases c20 : (0 : Int) ≤ x10_4
           ·rw [if_pos c20] at H
            have c20b0 : decide (0 ≤ x10_4) = true := decide_eq_true c20
            clear c20
            by_cases c22 : (bt a0 x10_4) = 48
            ·rw [if_pos c22] at H
             have c22b0 : ((bt a0 x10_4) == 48) = true := beq_iff_eq.mpr c22
             have c22b1 : ((bt a0 x10_4) != 48) = false := bne_eq_false_iff_eq.mpr c22
             clear c22
             have H' := Aside0.mk H
             clear H
             have p21 : 0 ≤ (x10_4 : Int) := of_decide_eq_true dS
             have q21 : x10_4 < (a0.size : Int) := of_decide_eq_true dS
             have hx21 := bt_at a0 x10_4
             replace p21 := eq_true p21
             replace q21 := eq_true q21
             go_wp2
             go_roundg k4
             case measure => have := HK1.out; have := HJ8.out; have := HJ13.out; have := HK4.out; omega
             case rel => exact ⟨(wrap64 (x10_4 + 1)), dF, H', ⟨by have := HK1.out; have := HJ8.out; have := HJ13.out; have := HK4.out; omega⟩, by repeat (first | exact Drawn0.refl _ | apply Drawn0.step)⟩
            ·rw [if_neg c22] at H
             have c22b0 : ((bt a0 x10_4) == 48) = false := beq_eq_false_iff_ne.mpr c22
             have c22b1 : ((bt a0 x10_4) != 48) = true := bne_iff_ne.mpr c22
             simp only [Option.some.injEq, Prod.mk.injEq] at H
             obtain ⟨rfl, rfl, rfl, rfl⟩ := H
             have p21 : 0 ≤ (x10_4 : Int) := of_decide_eq_true dS
             have q21 : x10_4 < (a0.size : Int) := of_decide_eq_true dS
             have hx21 := bt_at a0 x10_4
             replace p21 := eq_true p21
             replace q21 := eq_true q21
             go_wp2
             refine bodyPost_ret (results_list (rs := [.tmp 2, .tmp 3, .tmp 4, .tmp 5]) rfl (by simp) (.tmp (.tmp (.tmp (.tmp .nil))))) rfl ?_
             exact ⟨by first | rfl | (simp; done) | (simp [*]; done), by repeat (first | exact Drawn0.refl _ | apply Drawn0.step)⟩
           ·rw [if_neg c20] at H
            exact absurd H (by simp)
          ·rw [if_neg c19] at H
           have c19b0 : decide (x10_4 < (a0.size : Int)) = false := decide_eq_false c19
           clear c19
           simp only [Option.some.injEq, Prod.mk.injEq] at H
           obtain ⟨rfl, rfl, rfl, rfl⟩ := H
           go_wp2
           refine bodyPost_ret (results_list (rs := [.tmp 2, .tmp 3, .tmp 4, .tmp 5]) rfl (by simp) (.tmp (.tmp (.tmp (.tmp .nil))))) rfl ?_
           exact ⟨by first | rfl | (simp; done) | (simp [*]; done), by repeat (first | exact Drawn0.refl _ | apply Drawn0.step)⟩

end Go.Proofs.YtoannkopciehcaaDoor.PA

namespace Go.Proofs.YtoannkopciehcaaDoor.PA
open Go.RowKit Go.Proofs.YtoannkopciehcaaDoorW.PrintWords Go.Proofs.YtoannkopciehcaaDoorW.PrintLast Go.Proofs.YtoannkopciehcaaDoorW.PrintMore
attribute [local go_sem] max2_int min2_int max_two min_two max_three min_three max_four min_four   -- for this text's walks alone
set_option linter.unusedVariables false
set_option linter.unusedSimpArgs false

/-! ### plumblaw10_alive: function 14 -/
def plumblaw10_alive.f (k : Nat)  : Option (Bool) := (lemire_Small.f k 1 (-1)).bind fun bt278 => ((lemire_Fast.f k 1 23).bind fun bt280 => ((lemire_Cut.f k (⟨#[48, 48, 49, 50, 120]⟩ : ByteArray)).bind fun bt282 => ((lemire_Cut.f k (⟨#[48, 48, 49, 50]⟩ : ByteArray)).bind fun bt286 => (if bt278.2 = true then (if bt278.1 = 4591870180066957722 then (if bt280.2 = 0 then (if bt280.1 = 4950912855330343670 then (if bt282.2.2.2 = 41 then (if bt282.1 = 0 then (if bt282.2.1 = 0 then (if bt282.2.2.1 = true then (some false) else (if bt286.2.2.2 = 0 then (if bt286.1 = 12 then (if bt286.2.1 = 4 then (some (!bt286.2.2.1)) else (some false)) else (some false)) else (some false))) else (some false)) else (some false)) else (some false)) else (some false)) else (some false)) else (some false)) else (some false)))))
theorem plumblaw10_alive.mono : ∀ k, LeO (plumblaw10_alive.f k ) (plumblaw10_alive.f (k + 1) ) := by
 intro  k
 unfold plumblaw10_alive.f
 repeat' first
   | (with_reducible exact lemire_Cut.mono _ _)
   | (with_reducible exact lemire_Fast.mono _ _ _)
   | (with_reducible exact lemire_Small.mono _ _ _)
   | (with_reducible exact LeO.refl _)
   | (with_reducible exact LeO.none _)
   | (with_reducible refine LeO.ite ?_ ?_)
   | (with_reducible refine LeO.bind ?_ (fun _ => ?_))
   | exact lemire_Cut.mono _ _
   | exact lemire_Fast.mono _ _ _
   | exact lemire_Small.mono _ _ _
   | exact LeO.none _
   | refine LeO.ite ?_ ?_
   | refine LeO.bind ?_ (fun _ => ?_)
set_option maxHeartbeats 8000000 in
set_option maxRecDepth 100000 in
theorem plumblaw10_alive.calls (k : Nat)  (r : Bool) (w : World) (h : plumblaw10_alive.f k  = some r) (hG : TensLaid w := by first | exact HG.out | exact hG | exact TensLaid.below HG.out HB.out | exact TensLaid.below HG.out dB) :
  Calls Tryd.prog 14 #[] w fun e w' => e = .returned (.bool r) ∧ Below w.heap.size w w' := by
 have HG := Aside0.mk (show TensLaid w from hG)
 clear hG
 have HB := Aside0.mk (Below.refl w.heap.size w)
 have H : ((lemire_Small.f k 1 (-1)).bind fun bt278 => ((lemire_Fast.f k 1 23).bind fun bt280 => ((lemire_Cut.f k (⟨#[48, 48, 49, 50, 120]⟩ : ByteArray)).bind fun bt282 => ((lemire_Cut.f k (⟨#[48, 48, 49, 50]⟩ : ByteArray)).bind fun bt286 => (if bt278.2 = true then (if bt278.1 = 4591870180066957722 then (if bt280.2 = 0 then (if bt280.1 = 4950912855330343670 then (if bt282.2.2.2 = 41 then (if bt282.1 = 0 then (if bt282.2.1 = 0 then (if bt282.2.2.1 = true then (some false) else (if bt286.2.2.2 = 0 then (if bt286.1 = 12 then (if bt286.2.1 = 4 then (some (!bt286.2.2.1)) else (some false)) else (some false)) else (some false))) else (some false)) else (some false)) else (some false)) else (some false)) else (some false)) else (some false)) else (some false)))))) = some r := h
 clear h
 replace H := obe H
 obtain ⟨⟨t278, t279⟩, A10, H⟩ := H
 replace H : ((lemire_Fast.f k 1 23).bind fun bt280 => ((lemire_Cut.f k (⟨#[48, 48, 49, 50, 120]⟩ : ByteArray)).bind fun bt282 => ((lemire_Cut.f k (⟨#[48, 48, 49, 50]⟩ : ByteArray)).bind fun bt286 => (if t279 = true then (if t278 = 4591870180066957722 then (if bt280.2 = 0 then (if bt280.1 = 4950912855330343670 then (if bt282.2.2.2 = 41 then (if bt282.1 = 0 then (if bt282.2.1 = 0 then (if bt282.2.2.1 = true then (some false) else (if bt286.2.2.2 = 0 then (if bt286.1 = 12 then (if bt286.2.1 = 4 then (some (!bt286.2.2.1)) else (some false)) else (some false)) else (some false))) else (some false)) else (some false)) else (some false)) else (some false)) else (some false)) else (some false)) else (some false))))) = some r := H
 have A1 := Aside0.mk A10
 clear A10
 replace H := obe H
 obtain ⟨⟨t280, t281⟩, A20, H⟩ := H
 replace H : ((lemire_Cut.f k (⟨#[48, 48, 49, 50, 120]⟩ : ByteArray)).bind fun bt282 => ((lemire_Cut.f k (⟨#[48, 48, 49, 50]⟩ : ByteArray)).bind fun bt286 => (if t279 = true then (if t278 = 4591870180066957722 then (if t281 = 0 then (if t280 = 4950912855330343670 then (if bt282.2.2.2 = 41 then (if bt282.1 = 0 then (if bt282.2.1 = 0 then (if bt282.2.2.1 = true then (some false) else (if bt286.2.2.2 = 0 then (if bt286.1 = 12 then (if bt286.2.1 = 4 then (some (!bt286.2.2.1)) else (some false)) else (some false)) else (some false))) else (some false)) else (some false)) else (some false)) else (some false)) else (some false)) else (some false)) else (some false)))) = some r := H
 have A2 := Aside0.mk A20
 clear A20
 replace H := obe H
 obtain ⟨⟨t282, t283, t284, t285⟩, A30, H⟩ := H
 replace H : ((lemire_Cut.f k (⟨#[48, 48, 49, 50]⟩ : ByteArray)).bind fun bt286 => (if t279 = true then (if t278 = 4591870180066957722 then (if t281 = 0 then (if t280 = 4950912855330343670 then (if t285 = 41 then (if t282 = 0 then (if t283 = 0 then (if t284 = true then (some false) else (if bt286.2.2.2 = 0 then (if bt286.1 = 12 then (if bt286.2.1 = 4 then (some (!bt286.2.2.1)) else (some false)) else (some false)) else (some false))) else (some false)) else (some false)) else (some false)) else (some false)) else (some false)) else (some false)) else (some false))) = some r := H
 have A3 := Aside0.mk A30
 clear A30
 replace H := obe H
 obtain ⟨⟨t286, t287, t288, t289⟩, A40, H⟩ := H
 replace H : (if t279 = true then (if t278 = 4591870180066957722 then (if t281 = 0 then (if t280 = 4950912855330343670 then (if t285 = 41 then (if t282 = 0 then (if t283 = 0 then (if t284 = true then (some false) else (if t289 = 0 then (if t286 = 12 then (if t287 = 4 then (some (!t288)) else (some false)) else (some false)) else (some false))) else (some false)) else (some false)) else (some false)) else (some false)) else (some false)) else (some false)) else (some false)) = some r := H
 have A4 := Aside0.mk A40
 clear A40
 by_cases c5 : t279 = true
 ·subst c5
  have H1 : (if t278 = 4591870180066957722 then (if t281 = 0 then (if t280 = 4950912855330343670 then (if t285 = 41 then (if t282 = 0 then (if t283 = 0 then (if t284 = true then (some false) else (if t289 = 0 then (if t286 = 12 then (if t287 = 4 then (some (!t288)) else (some false)) else (some false)) else (some false))) else (some false)) else (some false)) else (some false)) else (some false)) else (some false)) else (some false)) = some r := by rw [if_pos rfl] at H; exact H
  clear H
  have H := H1
  clear H1
  by_cases c6 : t278 = 4591870180066957722
  ·rw [if_pos c6] at H
   have c6b0 : (t278 == 4591870180066957722) = true := beq_iff_eq.mpr c6
   have c6b1 : (t278 != 4591870180066957722) = false := bne_eq_false_iff_eq.mpr c6
   clear c6
   by_cases c7 : t281 = 0
   ·rw [if_pos c7] at H
    have c7b0 : (t281 == 0) = true := beq_iff_eq.mpr c7
    have c7b1 : (t281 != 0) = false := bne_eq_false_iff_eq.mpr c7
    clear c7
    by_cases c8 : t280 = 4950912855330343670
    ·rw [if_pos c8] at H
     have c8b0 : (t280 == 4950912855330343670) = true := beq_iff_eq.mpr c8
     have c8b1 : (t280 != 4950912855330343670) = false := bne_eq_false_iff_eq.mpr c8
     clear c8
     by_cases c9 : t285 = 41
     ·rw [if_pos c9] at H
      have c9b0 : (t285 == 41) = true := beq_iff_eq.mpr c9
      have c9b1 : (t285 != 41) = false := bne_eq_false_iff_eq.mpr c9
      clear c9
      by_cases c10 : t282 = 0
      ·rw [if_pos c10] at H
       have c10b0 : (t282 == 0) = true := beq_iff_eq.mpr c10
       have c10b1 : (t282 != 0) = false := bne_eq_false_iff_eq.mpr c10
       clear c10
       by_cases c11 : t283 = 0
       ·rw [if_pos c11] at H
        have c11b0 : (t283 == 0) = true := beq_iff_eq.mpr c11
        have c11b1 : (t283 != 0) = false := bne_eq_false_iff_eq.mpr c11
        clear c11
        by_cases c12 : t284 = true
        ·subst c12
         have H1 : (some false) = some r := by rw [if_pos rfl] at H; exact H
         clear H
         have H := H1
         clear H1
         obtain rfl := Option.some.inj H
         go_enter Tryd.func14, Tryd.ntmps14
         go_wp2_with (first | ((with_reducible refine gate_callee (f := 10) rfl ?_); refine gL (some 14) Tryd.func10 #[.int .u64 1, .int .i64 (-1)] ?_; (with_reducible refine (lemire_Small.calls k 1 (-1) t278 true _ A1.out).mono ?_); rintro e w13 ⟨rfl, hb⟩; refine ⟨_, rfl, ?_⟩; replace HB := Aside0.mk (below_step dB hb); (try clear hb)) | ((with_reducible refine gate_callee (f := 12) rfl ?_); refine gL (some 18) Tryd.func12 #[.int .u64 1, .int .i64 23] ?_; (with_reducible refine (lemire_Fast.calls k 1 23 t280 t281 _ A2.out).mono ?_); rintro e w14 ⟨rfl, hb⟩; refine ⟨_, rfl, ?_⟩; replace HB := Aside0.mk (below_step dB hb); (try clear hb)) | ((with_reducible refine gate_callee (f := 15) rfl ?_); refine gL (some 22) Tryd.func15 #[.string (⟨#[48, 48, 49, 50, 120]⟩ : ByteArray)] ?_; (with_reducible refine (lemire_Cut.calls k (⟨#[48, 48, 49, 50, 120]⟩ : ByteArray) t282 t283 true t285 _ A3.out).mono ?_); rintro e w' ⟨rfl, ⟨nd, rfl⟩⟩; refine ⟨_, rfl, ?_⟩) | ((with_reducible refine gate_callee (f := 15) rfl ?_); refine gL (some 28) Tryd.func15 #[.string (⟨#[48, 48, 49, 50]⟩ : ByteArray)] ?_; (with_reducible refine (lemire_Cut.calls k (⟨#[48, 48, 49, 50]⟩ : ByteArray) t286 t287 t288 t289 _ A4.out).mono ?_); rintro e w' ⟨rfl, ⟨nd, rfl⟩⟩; refine ⟨_, rfl, ?_⟩))
         go_ret
         exact ⟨dE, dB⟩
        ·replace c12 := Bool.eq_false_iff.mpr c12
         subst c12
         have H1 : (if t289 = 0 then (if t286 = 12 then (if t287 = 4 then (some (!t288)) else (some false)) else (some false)) else (some false)) = some r := by rw [if_neg (show ¬ (false = true) by decide)] at H; exact H
         clear H
         have H := H1
         clear H1
         by_cases c15 : t289 = 0
         ·rw [if_pos c15] at H
          have c15b0 : (t289 == 0) = true := beq_iff_eq.mpr c15
          have c15b1 : (t289 != 0) = false := bne_eq_false_iff_eq.mpr c15
          clear c15
          by_cases c16 : t286 = 12
          ·rw [if_pos c16] at H
           have c16b0 : (t286 == 12) = true := beq_iff_eq.mpr c16
           have c16b1 : (t286 != 12) = false := bne_eq_false_iff_eq.mpr c16
           clear c16
           by_cases c17 : t287 = 4
           ·rw [if_pos c17] at H
            have c17b0 : (t287 == 4) = true := beq_iff_eq.mpr c17
            have c17b1 : (t287 != 4) = false := bne_eq_false_iff_eq.mpr c17
            clear c17
            obtain rfl := Option.some.inj H
            go_enter Tryd.func14, Tryd.ntmps14
            go_wp2_with (first | ((with_reducible refine gate_callee (f := 10) rfl ?_); refine gL (some 14) Tryd.func10 #[.int .u64 1, .int .i64 (-1)] ?_; (with_reducible refine (lemire_Small.calls k 1 (-1) t278 true _ A1.out).mono ?_); rintro e w18 ⟨rfl, hb⟩; refine ⟨_, rfl, ?_⟩; replace HB := Aside0.mk (below_step dB hb); (try clear hb)) | ((with_reducible refine gate_callee (f := 12) rfl ?_); refine gL (some 18) Tryd.func12 #[.int .u64 1, .int .i64 23] ?_; (with_reducible refine (lemire_Fast.calls k 1 23 t280 t281 _ A2.out).mono ?_); rintro e w19 ⟨rfl, hb⟩; refine ⟨_, rfl, ?_⟩; replace HB := Aside0.mk (below_step dB hb); (try clear hb)) | ((with_reducible refine gate_callee (f := 15) rfl ?_); refine gL (some 22) Tryd.func15 #[.string (⟨#[48, 48, 49, 50, 120]⟩ : ByteArray)] ?_; (with_reducible refine (lemire_Cut.calls k (⟨#[48, 48, 49, 50, 120]⟩ : ByteArray) t282 t283 false t285 _ A3.out).mono ?_); rintro e w' ⟨rfl, ⟨nd, rfl⟩⟩; refine ⟨_, rfl, ?_⟩) | ((with_reducible refine gate_callee (f := 15) rfl ?_); refine gL (some 28) Tryd.func15 #[.string (⟨#[48, 48, 49, 50]⟩ : ByteArray)] ?_; (with_reducible refine (lemire_Cut.calls k (⟨#[48, 48, 49, 50]⟩ : ByteArray) t286 t287 t288 t289 _ A4.out).mono ?_); rintro e w' ⟨rfl, ⟨nd, rfl⟩⟩; refine ⟨_, rfl, ?_⟩))
            go_ret
            exact ⟨dE, dB⟩
           ·rw [if_neg c17] at H
            have c17b0 : (t287 == 4) = false := beq_eq_false_iff_ne.mpr c17
            have c17b1 : (t287 != 4) = true := bne_iff_ne.mpr c17
            obtain rfl := Option.some.inj H
            go_enter Tryd.func14, Tryd.ntmps14
            go_wp2_with (first | ((with_reducible refine gate_callee (f := 10) rfl ?_); refine gL (some 14) Tryd.func10 #[.int .u64 1, .int .i64 (-1)] ?_; (with_reducible refine (lemire_Small.calls k 1 (-1) t278 true _ A1.out).mono ?_); rintro e w20 ⟨rfl, hb⟩; refine ⟨_, rfl, ?_⟩; replace HB := Aside0.mk (below_step dB hb); (try clear hb)) | ((with_reducible refine gate_callee (f := 12) rfl ?_); refine gL (some 18) Tryd.func12 #[.int .u64 1, .int .i64 23] ?_; (with_reducible refine (lemire_Fast.calls k 1 23 t280 t281 _ A2.out).mono ?_); rintro e w21 ⟨rfl, hb⟩; refine ⟨_, rfl, ?_⟩; replace HB := Aside0.mk (below_step dB hb); (try clear hb)) | ((with_reducible refine gate_callee (f := 15) rfl ?_); refine gL (some 22) Tryd.func15 #[.string (⟨#[48, 48, 49, 50, 120]⟩ : ByteArray)] ?_; (with_reducible refine (lemire_Cut.calls k (⟨#[48, 48, 49, 50, 120]⟩ : ByteArray) t282 t283 false t285 _ A3.out).mono ?_); rintro e w' ⟨rfl, ⟨nd, rfl⟩⟩; refine ⟨_, rfl, ?_⟩) | ((with_reducible refine gate_callee (f := 15) rfl ?_); refine gL (some 28) Tryd.func15 #[.string (⟨#[48, 48, 49, 50]⟩ : ByteArray)] ?_; (with_reducible refine (lemire_Cut.calls k (⟨#[48, 48, 49, 50]⟩ : ByteArray) t286 t287 t288 t289 _ A4.out).mono ?_); rintro e w' ⟨rfl, ⟨nd, rfl⟩⟩; refine ⟨_, rfl, ?_⟩))
            go_ret
            exact ⟨dE, dB⟩
          ·rw [if_neg c16] at H
           have c16b0 : (t286 == 12) = false := beq_eq_false_iff_ne.mpr c16
           have c16b1 : (t286 != 12) = true := bne_iff_ne.mpr c16
           obtain rfl := Option.some.inj H
           go_enter Tryd.func14, Tryd.ntmps14
           go_wp2_with (first | ((with_reducible refine gate_callee (f := 10) rfl ?_); refine gL (some 14) Tryd.func10 #[.int .u64 1, .int .i64 (-1)] ?_; (with_reducible refine (lemire_Small.calls k 1 (-1) t278 true _ A1.out).mono ?_); rintro e w22 ⟨rfl, hb⟩; refine ⟨_, rfl, ?_⟩; replace HB := Aside0.mk (below_step dB hb); (try clear hb)) | ((with_reducible refine gate_callee (f := 12) rfl ?_); refine gL (some 18) Tryd.func12 #[.int .u64 1, .int .i64 23] ?_; (with_reducible refine (lemire_Fast.calls k 1 23 t280 t281 _ A2.out).mono ?_); rintro e w23 ⟨rfl, hb⟩; refine ⟨_, rfl, ?_⟩; replace HB := Aside0.mk (below_step dB hb); (try clear hb)) | ((with_reducible refine gate_callee (f := 15) rfl ?_); refine gL (some 22) Tryd.func15 #[.string (⟨#[48, 48, 49, 50, 120]⟩ : ByteArray)] ?_; (with_reducible refine (lemire_Cut.calls k (⟨#[48, 48, 49, 50, 120]⟩ : ByteArray) t282 t283 false t285 _ A3.out).mono ?_); rintro e w' ⟨rfl, ⟨nd, rfl⟩⟩; refine ⟨_, rfl, ?_⟩) | ((with_reducible refine gate_callee (f := 15) rfl ?_); refine gL (some 28) Tryd.func15 #[.string (⟨#[48, 48, 49, 50]⟩ : ByteArray)] ?_; (with_reducible refine (lemire_Cut.calls k (⟨#[48, 48, 49, 50]⟩ : ByteArray) t286 t287 t288 t289 _ A4.out).mono ?_); rintro e w' ⟨rfl, ⟨nd, rfl⟩⟩; refine ⟨_, rfl, ?_⟩))
           go_ret
           exact ⟨dE, dB⟩
         ·rw [if_neg c15] at H
          have c15b0 : (t289 == 0) = false := beq_eq_false_iff_ne.mpr c15
          have c15b1 : (t289 != 0) = true := bne_iff_ne.mpr c15
          obtain rfl := Option.some.inj H
          go_enter Tryd.func14, Tryd.ntmps14
          go_wp2_with (first | ((with_reducible refine gate_callee (f := 10) rfl ?_); refine gL (some 14) Tryd.func10 #[.int .u64 1, .int .i64 (-1)] ?_; (with_reducible refine (lemire_Small.calls k 1 (-1) t278 true _ A1.out).mono ?_); rintro e w24 ⟨rfl, hb⟩; refine ⟨_, rfl, ?_⟩; replace HB := Aside0.mk (below_step dB hb); (try clear hb)) | ((with_reducible refine gate_callee (f := 12) rfl ?_); refine gL (some 18) Tryd.func12 #[.int .u64 1, .int .i64 23] ?_; (with_reducible refine (lemire_Fast.calls k 1 23 t280 t281 _ A2.out).mono ?_); rintro e w25 ⟨rfl, hb⟩; refine ⟨_, rfl, ?_⟩; replace HB := Aside0.mk (below_step dB hb); (try clear hb)) | ((with_reducible refine gate_callee (f := 15) rfl ?_); refine gL (some 22) Tryd.func15 #[.string (⟨#[48, 48, 49, 50, 120]⟩ : ByteArray)] ?_; (with_reducible refine (lemire_Cut.calls k (⟨#[48, 48, 49, 50, 120]⟩ : ByteArray) t282 t283 false t285 _ A3.out).mono ?_); rintro e w' ⟨rfl, ⟨nd, rfl⟩⟩; refine ⟨_, rfl, ?_⟩) | ((with_reducible refine gate_callee (f := 15) rfl ?_); refine gL (some 28) Tryd.func15 #[.string (⟨#[48, 48, 49, 50]⟩ : ByteArray)] ?_; (with_reducible refine (lemire_Cut.calls k (⟨#[48, 48, 49, 50]⟩ : ByteArray) t286 t287 t288 t289 _ A4.out).mono ?_); rintro e w' ⟨rfl, ⟨nd, rfl⟩⟩; refine ⟨_, rfl, ?_⟩))
          go_ret
          exact ⟨dE, dB⟩
       ·rw [if_neg c11] at H
        have c11b0 : (t283 == 0) = false := beq_eq_false_iff_ne.mpr c11
        have c11b1 : (t283 != 0) = true := bne_iff_ne.mpr c11
        obtain rfl := Option.some.inj H
        go_enter Tryd.func14, Tryd.ntmps14
        go_wp2_with (first | ((with_reducible refine gate_callee (f := 10) rfl ?_); refine gL (some 14) Tryd.func10 #[.int .u64 1, .int .i64 (-1)] ?_; (with_reducible refine (lemire_Small.calls k 1 (-1) t278 true _ A1.out).mono ?_); rintro e w26 ⟨rfl, hb⟩; refine ⟨_, rfl, ?_⟩; replace HB := Aside0.mk (below_step dB hb); (try clear hb)) | ((with_reducible refine gate_callee (f := 12) rfl ?_); refine gL (some 18) Tryd.func12 #[.int .u64 1, .int .i64 23] ?_; (with_reducible refine (lemire_Fast.calls k 1 23 t280 t281 _ A2.out).mono ?_); rintro e w27 ⟨rfl, hb⟩; refine ⟨_, rfl, ?_⟩; replace HB := Aside0.mk (below_step dB hb); (try clear hb)) | ((with_reducible refine gate_callee (f := 15) rfl ?_); refine gL (some 22) Tryd.func15 #[.string (⟨#[48, 48, 49, 50, 120]⟩ : ByteArray)] ?_; (with_reducible refine (lemire_Cut.calls k (⟨#[48, 48, 49, 50, 120]⟩ : ByteArray) t282 t283 t284 t285 _ A3.out).mono ?_); rintro e w' ⟨rfl, ⟨nd, rfl⟩⟩; refine ⟨_, rfl, ?_⟩) | ((with_reducible refine gate_callee (f := 15) rfl ?_); refine gL (some 28) Tryd.func15 #[.string (⟨#[48, 48, 49, 50]⟩ : ByteArray)] ?_; (with_reducible refine (lemire_Cut.calls k (⟨#[48, 48, 49, 50]⟩ : ByteArray) t286 t287 t288 t289 _ A4.out).mono ?_); rintro e w' ⟨rfl, ⟨nd, rfl⟩⟩; refine ⟨_, rfl, ?_⟩))
        go_ret
        exact ⟨dE, dB⟩
      ·rw [if_neg c10] at H
       have c10b0 : (t282 == 0) = false := beq_eq_false_iff_ne.mpr c10
       have c10b1 : (t282 != 0) = true := bne_iff_ne.mpr c10
       obtain rfl := Option.some.inj H
       go_enter Tryd.func14, Tryd.ntmps14
       go_wp2_with (first | ((with_reducible refine gate_callee (f := 10) rfl ?_); refine gL (some 14) Tryd.func10 #[.int .u64 1, .int .i64 (-1)] ?_; (with_reducible refine (lemire_Small.calls k 1 (-1) t278 true _ A1.out).mono ?_); rintro e w28 ⟨rfl, hb⟩; refine ⟨_, rfl, ?_⟩; replace HB := Aside0.mk (below_step dB hb); (try clear hb)) | ((with_reducible refine gate_callee (f := 12) rfl ?_); refine gL (some 18) Tryd.func12 #[.int .u64 1, .int .i64 23] ?_; (with_reducible refine (lemire_Fast.calls k 1 23 t280 t281 _ A2.out).mono ?_); rintro e w29 ⟨rfl, hb⟩; refine ⟨_, rfl, ?_⟩; replace HB := Aside0.mk (below_step dB hb); (try clear hb)) | ((with_reducible refine gate_callee (f := 15) rfl ?_); refine gL (some 22) Tryd.func15 #[.string (⟨#[48, 48, 49, 50, 120]⟩ : ByteArray)] ?_; (with_reducible refine (lemire_Cut.calls k (⟨#[48, 48, 49, 50, 120]⟩ : ByteArray) t282 t283 t284 t285 _ A3.out).mono ?_); rintro e w' ⟨rfl, ⟨nd, rfl⟩⟩; refine ⟨_, rfl, ?_⟩) | ((with_reducible refine gate_callee (f := 15) rfl ?_); refine gL (some 28) Tryd.func15 #[.string (⟨#[48, 48, 49, 50]⟩ : ByteArray)] ?_; (with_reducible refine (lemire_Cut.calls k (⟨#[48, 48, 49, 50]⟩ : ByteArray) t286 t287 t288 t289 _ A4.out).mono ?_); rintro e w' ⟨rfl, ⟨nd, rfl⟩⟩; refine ⟨_, rfl, ?_⟩))
       go_ret
       exact ⟨dE, dB⟩
     ·rw [if_neg c9] at H
      have c9b0 : (t285 == 41) = false := beq_eq_false_iff_ne.mpr c9
      have c9b1 : (t285 != 41) = true := bne_iff_ne.mpr c9
      obtain rfl := Option.some.inj H
      go_enter Tryd.func14, Tryd.ntmps14
      go_wp2_with (first | ((with_reducible refine gate_callee (f := 10) rfl ?_); refine gL (some 14) Tryd.func10 #[.int .u64 1, .int .i64 (-1)] ?_; (with_reducible refine (lemire_Small.calls k 1 (-1) t278 true _ A1.out).mono ?_); rintro e w30 ⟨rfl, hb⟩; refine ⟨_, rfl, ?_⟩; replace HB := Aside0.mk (below_step dB hb); (try clear hb)) | ((with_reducible refine gate_callee (f := 12) rfl ?_); refine gL (some 18) Tryd.func12 #[.int .u64 1, .int .i64 23] ?_; (with_reducible refine (lemire_Fast.calls k 1 23 t280 t281 _ A2.out).mono ?_); rintro e w31 ⟨rfl, hb⟩; refine ⟨_, rfl, ?_⟩; replace HB := Aside0.mk (below_step dB hb); (try clear hb)) | ((with_reducible refine gate_callee (f := 15) rfl ?_); refine gL (some 22) Tryd.func15 #[.string (⟨#[48, 48, 49, 50, 120]⟩ : ByteArray)] ?_; (with_reducible refine (lemire_Cut.calls k (⟨#[48, 48, 49, 50, 120]⟩ : ByteArray) t282 t283 t284 t285 _ A3.out).mono ?_); rintro e w' ⟨rfl, ⟨nd, rfl⟩⟩; refine ⟨_, rfl, ?_⟩) | ((with_reducible refine gate_callee (f := 15) rfl ?_); refine gL (some 28) Tryd.func15 #[.string (⟨#[48, 48, 49, 50]⟩ : ByteArray)] ?_; (with_reducible refine (lemire_Cut.calls k (⟨#[48, 48, 49, 50]⟩ : ByteArray) t286 t287 t288 t289 _ A4.out).mono ?_); rintro e w' ⟨rfl, ⟨nd, rfl⟩⟩; refine ⟨_, rfl, ?_⟩))
      go_ret
      exact ⟨dE, dB⟩
    ·rw [if_neg c8] at H
     have c8b0 : (t280 == 4950912855330343670) = false := beq_eq_false_iff_ne.mpr c8
     have c8b1 : (t280 != 4950912855330343670) = true := bne_iff_ne.mpr c8
     obtain rfl := Option.some.inj H
     go_enter Tryd.func14, Tryd.ntmps14
     go_wp2_with (first | ((with_reducible refine gate_callee (f := 10) rfl ?_); refine gL (some 14) Tryd.func10 #[.int .u64 1, .int .i64 (-1)] ?_; (with_reducible refine (lemire_Small.calls k 1 (-1) t278 true _ A1.out).mono ?_); rintro e w32 ⟨rfl, hb⟩; refine ⟨_, rfl, ?_⟩; replace HB := Aside0.mk (below_step dB hb); (try clear hb)) | ((with_reducible refine gate_callee (f := 12) rfl ?_); refine gL (some 18) Tryd.func12 #[.int .u64 1, .int .i64 23] ?_; (with_reducible refine (lemire_Fast.calls k 1 23 t280 t281 _ A2.out).mono ?_); rintro e w33 ⟨rfl, hb⟩; refine ⟨_, rfl, ?_⟩; replace HB := Aside0.mk (below_step dB hb); (try clear hb)) | ((with_reducible refine gate_callee (f := 15) rfl ?_); refine gL (some 22) Tryd.func15 #[.string (⟨#[48, 48, 49, 50, 120]⟩ : ByteArray)] ?_; (with_reducible refine (lemire_Cut.calls k (⟨#[48, 48, 49, 50, 120]⟩ : ByteArray) t282 t283 t284 t285 _ A3.out).mono ?_); rintro e w' ⟨rfl, ⟨nd, rfl⟩⟩; refine ⟨_, rfl, ?_⟩) | ((with_reducible refine gate_callee (f := 15) rfl ?_); refine gL (some 28) Tryd.func15 #[.string (⟨#[48, 48, 49, 50]⟩ : ByteArray)] ?_; (with_reducible refine (lemire_Cut.calls k (⟨#[48, 48, 49, 50]⟩ : ByteArray) t286 t287 t288 t289 _ A4.out).mono ?_); rintro e w' ⟨rfl, ⟨nd, rfl⟩⟩; refine ⟨_, rfl, ?_⟩))
     go_ret
     exact ⟨dE, dB⟩
   ·rw [if_neg c7] at H
    have c7b0 : (t281 == 0) = false := beq_eq_false_iff_ne.mpr c7
    have c7b1 : (t281 != 0) = true := bne_iff_ne.mpr c7
    obtain rfl := Option.some.inj H
    go_enter Tryd.func14, Tryd.ntmps14
    go_wp2_with (first | ((with_reducible refine gate_callee (f := 10) rfl ?_); refine gL (some 14) Tryd.func10 #[.int .u64 1, .int .i64 (-1)] ?_; (with_reducible refine (lemire_Small.calls k 1 (-1) t278 true _ A1.out).mono ?_); rintro e w34 ⟨rfl, hb⟩; refine ⟨_, rfl, ?_⟩; replace HB := Aside0.mk (below_step dB hb); (try clear hb)) | ((with_reducible refine gate_callee (f := 12) rfl ?_); refine gL (some 18) Tryd.func12 #[.int .u64 1, .int .i64 23] ?_; (with_reducible refine (lemire_Fast.calls k 1 23 t280 t281 _ A2.out).mono ?_); rintro e w35 ⟨rfl, hb⟩; refine ⟨_, rfl, ?_⟩; replace HB := Aside0.mk (below_step dB hb); (try clear hb)) | ((with_reducible refine gate_callee (f := 15) rfl ?_); refine gL (some 22) Tryd.func15 #[.string (⟨#[48, 48, 49, 50, 120]⟩ : ByteArray)] ?_; (with_reducible refine (lemire_Cut.calls k (⟨#[48, 48, 49, 50, 120]⟩ : ByteArray) t282 t283 t284 t285 _ A3.out).mono ?_); rintro e w' ⟨rfl, ⟨nd, rfl⟩⟩; refine ⟨_, rfl, ?_⟩) | ((with_reducible refine gate_callee (f := 15) rfl ?_); refine gL (some 28) Tryd.func15 #[.string (⟨#[48, 48, 49, 50]⟩ : ByteArray)] ?_; (with_reducible refine (lemire_Cut.calls k (⟨#[48, 48, 49, 50]⟩ : ByteArray) t286 t287 t288 t289 _ A4.out).mono ?_); rintro e w' ⟨rfl, ⟨nd, rfl⟩⟩; refine ⟨_, rfl, ?_⟩))
    go_ret
    exact ⟨dE, dB⟩
  ·rw [if_neg c6] at H
   have c6b0 : (t278 == 4591870180066957722) = false := beq_eq_false_iff_ne.mpr c6
   have c6b1 : (t278 != 4591870180066957722) = true := bne_iff_ne.mpr c6
   obtain rfl := Option.some.inj H
   go_enter Tryd.func14, Tryd.ntmps14
   go_wp2_with (first | ((with_reducible refine gate_callee (f := 10) rfl ?_); refine gL (some 14) Tryd.func10 #[.int .u64 1, .int .i64 (-1)] ?_; (with_reducible refine (lemire_Small.calls k 1 (-1) t278 true _ A1.out).mono ?_); rintro e w36 ⟨rfl, hb⟩; refine ⟨_, rfl, ?_⟩; replace HB := Aside0.mk (below_step dB hb); (try clear hb)) | ((with_reducible refine gate_callee (f := 12) rfl ?_); refine gL (some 18) Tryd.func12 #[.int .u64 1, .int .i64 23] ?_; (with_reducible refine (lemire_Fast.calls k 1 23 t280 t281 _ A2.out).mono ?_); rintro e w37 ⟨rfl, hb⟩; refine ⟨_, rfl, ?_⟩; replace HB := Aside0.mk (below_step dB hb); (try clear hb)) | ((with_reducible refine gate_callee (f := 15) rfl ?_); refine gL (some 22) Tryd.func15 #[.string (⟨#[48, 48, 49, 50, 120]⟩ : ByteArray)] ?_; (with_reducible refine (lemire_Cut.calls k (⟨#[48, 48, 49, 50, 120]⟩ : ByteArray) t282 t283 t284 t285 _ A3.out).mono ?_); rintro e w' ⟨rfl, ⟨nd, rfl⟩⟩; refine ⟨_, rfl, ?_⟩) | ((with_reducible refine gate_callee (f := 15) rfl ?_); refine gL (some 28) Tryd.func15 #[.string (⟨#[48, 48, 49, 50]⟩ : ByteArray)] ?_; (with_reducible refine (lemire_Cut.calls k (⟨#[48, 48, 49, 50]⟩ : ByteArray) t286 t287 t288 t289 _ A4.out).mono ?_); rintro e w' ⟨rfl, ⟨nd, rfl⟩⟩; refine ⟨_, rfl, ?_⟩))
   go_ret
   exact ⟨dE, dB⟩
 ·replace c5 := Bool.eq_false_iff.mpr c5
  subst c5
  have H1 : (some false) = some r := by rw [if_neg (show ¬ (false = true) by decide)] at H; exact H
  clear H
  have H := H1
  clear H1
  obtain rfl := Option.some.inj H
  go_enter Tryd.func14, Tryd.ntmps14
  go_wp2_with (first | ((with_reducible refine gate_callee (f := 10) rfl ?_); refine gL (some 14) Tryd.func10 #[.int .u64 1, .int .i64 (-1)] ?_; (with_reducible refine (lemire_Small.calls k 1 (-1) t278 false _ A1.out).mono ?_); rintro e w38 ⟨rfl, hb⟩; refine ⟨_, rfl, ?_⟩; replace HB := Aside0.mk (below_step dB hb); (try clear hb)) | ((with_reducible refine gate_callee (f := 12) rfl ?_); refine gL (some 18) Tryd.func12 #[.int .u64 1, .int .i64 23] ?_; (with_reducible refine (lemire_Fast.calls k 1 23 t280 t281 _ A2.out).mono ?_); rintro e w39 ⟨rfl, hb⟩; refine ⟨_, rfl, ?_⟩; replace HB := Aside0.mk (below_step dB hb); (try clear hb)) | ((with_reducible refine gate_callee (f := 15) rfl ?_); refine gL (some 22) Tryd.func15 #[.string (⟨#[48, 48, 49, 50, 120]⟩ : ByteArray)] ?_; (with_reducible refine (lemire_Cut.calls k (⟨#[48, 48, 49, 50, 120]⟩ : ByteArray) t282 t283 t284 t285 _ A3.out).mono ?_); rintro e w' ⟨rfl, ⟨nd, rfl⟩⟩; refine ⟨_, rfl, ?_⟩) | ((with_reducible refine gate_callee (f := 15) rfl ?_); refine gL (some 28) Tryd.func15 #[.string (⟨#[48, 48, 49, 50]⟩ : ByteArray)] ?_; (with_reducible refine (lemire_Cut.calls k (⟨#[48, 48, 49, 50]⟩ : ByteArray) t286 t287 t288 t289 _ A4.out).mono ?_); rintro e w' ⟨rfl, ⟨nd, rfl⟩⟩; refine ⟨_, rfl, ?_⟩))
  go_ret
  exact ⟨dE, dB⟩

end Go.Proofs.YtoannkopciehcaaDoor.PA

namespace Go.Proofs.YtoannkopciehcaaDoor.PA
open Go.RowKit Go.Proofs.YtoannkopciehcaaDoorW.PrintWords Go.Proofs.YtoannkopciehcaaDoorW.PrintLast Go.Proofs.YtoannkopciehcaaDoorW.PrintMore
attribute [local go_sem] max2_int min2_int max_two min_two max_three min_three max_four min_four   -- for this text's walks alone
set_option linter.unusedVariables false
set_option linter.unusedSimpArgs false

/-! ### plumbref10_Cut: function 16 -/
mutual
def plumbref10_Cut.l0 : Nat → ByteArray → Int → Option (Int × Int × Bool × Int)
 | 0, _, _ => none
 | k + 1, x0, x6 => if x6 < (x0.size : Int) then (if 0 ≤ x6 then (if (bt x0 x6) < 48 then (some (0, 0, false, 41)) else (if (bt x0 x6) > 57 then (some (0, 0, false, 41)) else (plumbref10_Cut.l0 k x0 (wrap64 (x6 + 1))))) else (none)) else (plumbref10_Cut.l1 k x0 0)
def plumbref10_Cut.j2 : Nat → ByteArray → Int → Option (Int × Int × Bool × Int)
 | 0, _, _ => none
 | k + 1, x0, x7 => plumbref10_Cut.l2 k x0 x7 0 0
def plumbref10_Cut.j4 : Nat → ByteArray → Int → Int → Option (Int × Int × Bool × Int)
 | 0, _, _, _ => none
 | k + 1, x0, x7, x8 => plumbref10_Cut.l3 k x0 x7 x8 false x7
def plumbref10_Cut.l3 : Nat → ByteArray → Int → Int → Bool → Int → Option (Int × Int × Bool × Int)
 | 0, _, _, _, _, _ => none
 | k + 1, x0, x7, x8, x10, x11 => if x11 < (x0.size : Int) then (if x10 = true then (plumbref10_Cut.l3 k x0 x7 x8 true (wrap64 (x11 + 1))) else (if 0 ≤ x11 then (plumbref10_Cut.l3 k x0 x7 x8 ((bt x0 x11) != 48) (wrap64 (x11 + 1))) else (none))) else (some (x8, x7, x10, 0))
def plumbref10_Cut.l2 : Nat → ByteArray → Int → Int → Int → Option (Int × Int × Bool × Int)
 | 0, _, _, _, _ => none
 | k + 1, x0, x7, x8, x9 => if x7 < (x0.size : Int) then (if x9 < 19 then (if 0 ≤ x7 then (plumbref10_Cut.l2 k x0 (wrap64 (x7 + 1)) (IntKind.u64.wrap ((IntKind.u64.wrap (10 * x8)) + (((bt x0 x7) - 48) % 256))) (wrap64 (x9 + 1))) else (none)) else (plumbref10_Cut.j4 k x0 x7 x8)) else (plumbref10_Cut.j4 k x0 x7 x8)
def plumbref10_Cut.l1 : Nat → ByteArray → Int → Option (Int × Int × Bool × Int)
 | 0, _, _ => none
 | k + 1, x0, x7 => if x7 < (x0.size : Int) then (if 0 ≤ x7 then (if (bt x0 x7) = 48 then (plumbref10_Cut.l1 k x0 (wrap64 (x7 + 1))) else (plumbref10_Cut.j2 k x0 x7)) else (none)) else (plumbref10_Cut.j2 k x0 x7)
end
def plumbref10_Cut.f (k : Nat) (a0 : ByteArray) : Option (Int × Int × Bool × Int) := plumbref10_Cut.l0 k a0 0
theorem plumbref10_Cut.mono_l : ∀ k, (∀ y0 y1, LeO (plumbref10_Cut.l0 k y0 y1) (plumbref10_Cut.l0 (k + 1) y0 y1)) ∧ (∀ y0 y1, LeO (plumbref10_Cut.j2 k y0 y1) (plumbref10_Cut.j2 (k + 1) y0 y1)) ∧ (∀ y0 y1 y2, LeO (plumbref10_Cut.j4 k y0 y1 y2) (plumbref10_Cut.j4 (k + 1) y0 y1 y2)) ∧ (∀ y0 y1 y2 y3 y4, LeO (plumbref10_Cut.l3 k y0 y1 y2 y3 y4) (plumbref10_Cut.l3 (k + 1) y0 y1 y2 y3 y4)) ∧ (∀ y0 y1 y2 y3, LeO (plumbref10_Cut.l2 k y0 y1 y2 y3) (plumbref10_Cut.l2 (k + 1) y0 y1 y2 y3)) ∧ (∀ y0 y1, LeO (plumbref10_Cut.l1 k y0 y1) (plumbref10_Cut.l1 (k + 1) y0 y1))
 | 0 => ⟨fun _ _ r h => by simp [plumbref10_Cut.l0] at h, fun _ _ r h => by simp [plumbref10_Cut.j2] at h, fun _ _ _ r h => by simp [plumbref10_Cut.j4] at h, fun _ _ _ _ _ r h => by simp [plumbref10_Cut.l3] at h, fun _ _ _ _ r h => by simp [plumbref10_Cut.l2] at h, fun _ _ r h => by simp [plumbref10_Cut.l1] at h⟩
 | k + 1 => by
  obtain ⟨ih0, ih1, ih2, ih3, ih4, ih5⟩ := plumbref10_Cut.mono_l k
  refine ⟨?_, ?_, ?_, ?_, ?_, ?_⟩
  ·intro y0 y1
   unfold plumbref10_Cut.l0
   repeat' first
   | (with_reducible exact ih0 _ _)
   | (with_reducible exact ih1 _ _)
   | (with_reducible exact ih2 _ _ _)
   | (with_reducible exact ih3 _ _ _ _ _)
   | (with_reducible exact ih4 _ _ _ _)
   | (with_reducible exact ih5 _ _)
   | (with_reducible exact LeO.refl _)
   | (with_reducible exact LeO.none _)
   | (with_reducible refine LeO.ite ?_ ?_)
   | (with_reducible refine LeO.bind ?_ (fun _ => ?_))
   | exact ih0 _ _
   | exact ih1 _ _
   | exact ih2 _ _ _
   | exact ih3 _ _ _ _ _
   | exact ih4 _ _ _ _
   | exact ih5 _ _
   | exact LeO.none _
   | refine LeO.ite ?_ ?_
   | refine LeO.bind ?_ (fun _ => ?_)
  ·intro y0 y1
   unfold plumbref10_Cut.j2
   repeat' first
   | (with_reducible exact ih0 _ _)
   | (with_reducible exact ih1 _ _)
   | (with_reducible exact ih2 _ _ _)
   | (with_reducible exact ih3 _ _ _ _ _)
   | (with_reducible exact ih4 _ _ _ _)
   | (with_reducible exact ih5 _ _)
   | (with_reducible exact LeO.refl _)
   | (with_reducible exact LeO.none _)
   | (with_reducible refine LeO.ite ?_ ?_)
   | (with_reducible refine LeO.bind ?_ (fun _ => ?_))
   | exact ih0 _ _
   | exact ih1 _ _
   | exact ih2 _ _ _
   | exact ih3 _ _ _ _ _
   | exact ih4 _ _ _ _
   | exact ih5 _ _
   | exact LeO.none _
   | refine LeO.ite ?_ ?_
   | refine LeO.bind ?_ (fun _ => ?_)
  ·intro y0 y1 y2
   unfold plumbref10_Cut.j4
   repeat' first
   | (with_reducible exact ih0 _ _)
   | (with_reducible exact ih1 _ _)
   | (with_reducible exact ih2 _ _ _)
   | (with_reducible exact ih3 _ _ _ _ _)
   | (with_reducible exact ih4 _ _ _ _)
   | (with_reducible exact ih5 _ _)
   | (with_reducible exact LeO.refl _)
   | (with_reducible exact LeO.none _)
   | (with_reducible refine LeO.ite ?_ ?_)
   | (with_reducible refine LeO.bind ?_ (fun _ => ?_))
   | exact ih0 _ _
   | exact ih1 _ _
   | exact ih2 _ _ _
   | exact ih3 _ _ _ _ _
   | exact ih4 _ _ _ _
   | exact ih5 _ _
   | exact LeO.none _
   | refine LeO.ite ?_ ?_
   | refine LeO.bind ?_ (fun _ => ?_)
  ·intro y0 y1 y2 y3 y4
   unfold plumbref10_Cut.l3
   repeat' first
   | (with_reducible exact ih0 _ _)
   | (with_reducible exact ih1 _ _)
   | (with_reducible exact ih2 _ _ _)
   | (with_reducible exact ih3 _ _ _ _ _)
   | (with_reducible exact ih4 _ _ _ _)
   | (with_reducible exact ih5 _ _)
   | (with_reducible exact LeO.refl _)
   | (with_reducible exact LeO.none _)
   | (with_reducible refine LeO.ite ?_ ?_)
   | (with_reducible refine LeO.bind ?_ (fun _ => ?_))
   | exact ih0 _ _
   | exact ih1 _ _
   | exact ih2 _ _ _
   | exact ih3 _ _ _ _ _
   | exact ih4 _ _ _ _
   | exact ih5 _ _
   | exact LeO.none _
   | refine LeO.ite ?_ ?_
   | refine LeO.bind ?_ (fun _ => ?_)
  ·intro y0 y1 y2 y3
   unfold plumbref10_Cut.l2
   repeat' first
   | (with_reducible exact ih0 _ _)
   | (with_reducible exact ih1 _ _)
   | (with_reducible exact ih2 _ _ _)
   | (with_reducible exact ih3 _ _ _ _ _)
   | (with_reducible exact ih4 _ _ _ _)
   | (with_reducible exact ih5 _ _)
   | (with_reducible exact LeO.refl _)
   | (with_reducible exact LeO.none _)
   | (with_reducible refine LeO.ite ?_ ?_)
   | (with_reducible refine LeO.bind ?_ (fun _ => ?_))
   | exact ih0 _ _
   | exact ih1 _ _
   | exact ih2 _ _ _
   | exact ih3 _ _ _ _ _
   | exact ih4 _ _ _ _
   | exact ih5 _ _
   | exact LeO.none _
   | refine LeO.ite ?_ ?_
   | refine LeO.bind ?_ (fun _ => ?_)
  ·intro y0 y1
   unfold plumbref10_Cut.l1
   repeat' first
   | (with_reducible exact ih0 _ _)
   | (with_reducible exact ih1 _ _)
   | (with_reducible exact ih2 _ _ _)
   | (with_reducible exact ih3 _ _ _ _ _)
   | (with_reducible exact ih4 _ _ _ _)
   | (with_reducible exact ih5 _ _)
   | (with_reducible exact LeO.refl _)
   | (with_reducible exact LeO.none _)
   | (with_reducible refine LeO.ite ?_ ?_)
   | (with_reducible refine LeO.bind ?_ (fun _ => ?_))
   | exact ih0 _ _
   | exact ih1 _ _
   | exact ih2 _ _ _
   | exact ih3 _ _ _ _ _
   | exact ih4 _ _ _ _
   | exact ih5 _ _
   | exact LeO.none _
   | refine LeO.ite ?_ ?_
   | refine LeO.bind ?_ (fun _ => ?_)
theorem plumbref10_Cut.mono : ∀ a0 k, LeO (plumbref10_Cut.f k a0) (plumbref10_Cut.f (k + 1) a0) := by
 intro a0 k
 obtain ⟨ih0, ih1, ih2, ih3, ih4, ih5⟩ := plumbref10_Cut.mono_l k
 unfold plumbref10_Cut.f
 repeat' first
   | (with_reducible exact ih0 _ _)
   | (with_reducible exact ih1 _ _)
   | (with_reducible exact ih2 _ _ _)
   | (with_reducible exact ih3 _ _ _ _ _)
   | (with_reducible exact ih4 _ _ _ _)
   | (with_reducible exact ih5 _ _)
   | (with_reducible exact LeO.refl _)
   | (with_reducible exact LeO.none _)
   | (with_reducible refine LeO.ite ?_ ?_)
   | (with_reducible refine LeO.bind ?_ (fun _ => ?_))
   | exact ih0 _ _
   | exact ih1 _ _
   | exact ih2 _ _ _
   | exact ih3 _ _ _ _ _
   | exact ih4 _ _ _ _
   | exact ih5 _ _
   | exact LeO.none _
   | refine LeO.ite ?_ ?_
   | refine LeO.bind ?_ (fun _ => ?_)
set_option maxHeartbeats 8000000 in
set_option maxRecDepth 100000 in
theorem plumbref10_Cut.calls (k : Nat) (a0 : ByteArray) (r1 : Int) (r2 : Int) (r3 : Bool) (r4 : Int) (w : World) (h : plumbref10_Cut.f k a0 = some (r1, r2, r3, r4)) :
  Calls Tryd.prog 16 #[.string a0] w fun e w' => e = .returned (.tuple #[.int .u64 r1, .int .i64 r2, .bool r3, .int .i64 r4]) ∧ Drawn0 w w' := by
 have H : (plumbref10_Cut.l0 k a0 0) = some (r1, r2, r3, r4) := h
 clear h
 have H' := Aside0.mk H
 clear H
 go_enter Tryd.func16, Tryd.ntmps16
 go_wp2
 go_loopg [6] k (fun kq v6 w' => ∃ (x6_1 : Int), v6 = .int .i64 x6_1 ∧ Aside0 (plumbref10_Cut.l0 kq a0 x6_1 = some (r1, r2, r3, r4)) ∧ Aside0 (kq ≤ k) ∧ Drawn0 w w')
 case atStart => exact ⟨(0), dF, H', ⟨Nat.le_refl _⟩, by repeat (first | exact Drawn0.refl _ | apply Drawn0.step)⟩
 case round =>
  clear H'
  try clear c1
  obtain ⟨x6_1, rfl, HA, HK1, ⟨m1, rfl⟩⟩ := hrel
  cases gk with
  | zero => exact absurd HA.out (by simp [plumbref10_Cut.l0])
  | succ k1 =>
   have H := HA.out
   clear HA
   simp only [plumbref10_Cut.l0] at H
   by_cases c2 : x6_1 < (a0.size : Int)
   ·rw [if_pos c2] at H
    have c2b0 : decide (x6_1 < (a0.size : Int)) = true := decide_eq_true c2
    clear c2
    by_cases c3 : (0 : Int) ≤ x6_1
    ·rw [if_pos c3] at H
     have c3b0 : decide (0 ≤ x6_1) = true := decide_eq_true c3
     clear c3
     by_cases c5 : (bt a0 x6_1) < 48
     ·rw [if_pos c5] at H
      have c5b0 : decide ((bt a0 x6_1) < 48) = true := decide_eq_true c5
      clear c5
      simp only [Option.some.injEq, Prod.mk.injEq] at H
      obtain ⟨rfl, rfl, rfl, rfl⟩ := H
      have p4 : 0 ≤ (x6_1 : Int) := of_decide_eq_true dS
      have q4 : x6_1 < (a0.size : Int) := of_decide_eq_true dS
      have hx4 := bt_at a0 x6_1
      replace p4 := eq_true p4
      replace q4 := eq_true q4
      go_wp2
      refine bodyPost_ret (results_list (rs := [.tmp 2, .tmp 3, .tmp 4, .tmp 5]) rfl (by simp) (.tmp (.tmp (.tmp (.tmp .nil))))) rfl ?_
      exact ⟨by first | rfl | (simp; done) | (simp [*]; done), by repeat (first | exact Drawn0.refl _ | apply Drawn0.step)⟩
     ·rw [if_neg c5] at H
      have c5b0 : decide ((bt a0 x6_1) < 48) = false := decide_eq_false c5
      clear c5
      by_cases c7 : (bt a0 x6_1) > 57
      ·rw [if_pos c7] at H
       have c7b0 : decide (57 < (bt a0 x6_1)) = true := decide_eq_true c7
       clear c7
       simp only [Option.some.injEq, Prod.mk.injEq] at H
       obtain ⟨rfl, rfl, rfl, rfl⟩ := H
       have p4 : 0 ≤ (x6_1 : Int) := of_decide_eq_true dS
       have q4 : x6_1 < (a0.size : Int) := of_decide_eq_true dS
       have hx4 := bt_at a0 x6_1
       replace p4 := eq_true p4
       replace q4 := eq_true q4
       have p6 : 0 ≤ (x6_1 : Int) := of_decide_eq_true dS
       have q6 : x6_1 < (a0.size : Int) := of_decide_eq_true dS
       have hx6 := bt_at a0 x6_1
       replace p6 := eq_true p6
       replace q6 := eq_true q6
       go_wp2
       refine bodyPost_ret (results_list (rs := [.tmp 2, .tmp 3, .tmp 4, .tmp 5]) rfl (by simp) (.tmp (.tmp (.tmp (.tmp .nil))))) rfl ?_
       exact ⟨by first | rfl | (simp; done) | (simp [*]; done), by repeat (first | exact Drawn0.refl _ | apply Drawn0.step)⟩
      ·rw [if_neg c7] at H
       have c7b0 : decide (57 < (bt a0 x6_1)) = false := decide_eq_false c7
       clear c7
       have H' := Aside0.mk H
       clear H
       have p4 : 0 ≤ (x6_1 : Int) := of_decide_eq_true dS
       have q4 : x6_1 < (a0.size : Int) := of_decide_eq_true dS
       have hx4 := bt_at a0 x6_1
       replace p4 := eq_true p4
       replace q4 := eq_true q4
       have p6 : 0 ≤ (x6_1 : Int) := of_decide_eq_true dS
       have q6 : x6_1 < (a0.size : Int) := of_decide_eq_true dS
       have hx6 := bt_at a0 x6_1
       replace p6 := eq_true p6
       replace q6 := eq_true q6
       go_wp2
       go_roundg k1
       case measure => have := HK1.out; omega
       case rel => exact ⟨(wrap64 (x6_1 + 1)), dF, H', ⟨by have := HK1.out; omega⟩, by repeat (first | exact Drawn0.refl _ | apply Drawn0.step)⟩
    ·rw [if_neg c3] at H
     exact absurd H (by simp)
   ·rw [if_neg c2] at H
    have c2b0 : decide (x6_1 < (a0.size : Int)) = false := decide_eq_false c2
    clear c2
    have HC8 := Aside0.mk H
    clear H
    go_upto_block 2 with (fail)
    go_cut [7] (fun v7 wc => ∃ (kq : Nat) (x7_7 : Int), v7 = .int .i64 x7_7 ∧ Aside0 (plumbref10_Cut.j2 kq a0 x7_7 = some (r1, r2, r3, r4)) ∧ Aside0 (kq ≤ k1) ∧ Drawn0 w wc)
    case first =>
     have H := HC8.out
     clear HC8
     have H' := Aside0.mk H
     clear H
     go_wp2
     go_loopg [7] k1 (fun kq v7 w' => ∃ (x7_2 : Int), v7 = .int .i64 x7_2 ∧ Aside0 (plumbref10_Cut.l1 kq a0 x7_2 = some (r1, r2, r3, r4)) ∧ Aside0 (kq ≤ k1) ∧ Drawn0 w w')
     case atStart => exact ⟨(0), dF, H', ⟨Nat.le_refl _⟩, by repeat (first | exact Drawn0.refl _ | apply Drawn0.step)⟩
     case round =>
      clear H'
      try clear c1
      try clear c2
      try clear c2b0
      try clear p2
      try clear c3
      try clear c3b0
      try clear p4
      try clear q4
      try clear hx4
      try clear c5
      try clear c5b0
      try clear p6
      try clear q6
      try clear hx6
      try clear c7
      try clear c7b0
      try clear p4
      try clear p6
      try clear q4
      try clear q6
      obtain ⟨x7_2, rfl, HA, HK2, ⟨m2, rfl⟩⟩ := hrel
      cases gk with
      | zero => exact absurd HA.out (by simp [plumbref10_Cut.l1])
      | succ k2 =>
       have H := HA.out
       clear HA
       simp only [plumbref10_Cut.l1] at H
       by_cases c9 : x7_2 < (a0.size : Int)
       ·rw [if_pos c9] at H
        have c9b0 : decide (x7_2 < (a0.size : Int)) = true := decide_eq_true c9
        clear c9
        (first | rw [c9b0] | (simp only [i64_w, i32_w]; rw [c9b0]) | skip)
        by_cases c10 : (0 : Int) ≤ x7_2
        ·rw [if_pos c10] at H
         have c10b0 : decide (0 ≤ x7_2) = true := decide_eq_true c10
         clear c10
         by_cases c12 : (bt a0 x7_2) = 48
         ·rw [if_pos c12] at H
          have c12b0 : ((bt a0 x7_2) == 48) = true := beq_iff_eq.mpr c12
          have c12b1 : ((bt a0 x7_2) != 48) = false := bne_eq_false_iff_eq.mpr c12
          clear c12
          have H' := Aside0.mk H
          clear H
          have p11 : 0 ≤ (x7_2 : Int) := of_decide_eq_true dS
          have q11 : x7_2 < (a0.size : Int) := of_decide_eq_true dS
          have hx11 := bt_at a0 x7_2
          replace p11 := eq_true p11
          replace q11 := eq_true q11
          go_wp2
          go_roundg k2
          case measure => have := HK1.out; have := HK2.out; omega
          case rel => exact ⟨(wrap64 (x7_2 + 1)), dF, H', ⟨by have := HK1.out; have := HK2.out; omega⟩, by repeat (first | exact Drawn0.refl _ | apply Drawn0.step)⟩
         ·rw [if_neg c12] at H
          have c12b0 : ((bt a0 x7_2) == 48) = false := beq_eq_false_iff_ne.mpr c12
          have c12b1 : ((bt a0 x7_2) != 48) = true := bne_iff_ne.mpr c12
          have H' := Aside0.mk H
          clear H
          have p11 : 0 ≤ (x7_2 : Int) := of_decide_eq_true dS
          have q11 : x7_2 < (a0.size : Int) := of_decide_eq_true dS
          have hx11 := bt_at a0 x7_2
          replace p11 := eq_true p11
          replace q11 := eq_true q11
          go_wp2
          go_meet
          case rel => exact ⟨_, (x7_2), dF, H', ⟨by have := HK1.out; have := HK2.out; first | omega | exact Nat.le_refl _⟩, by repeat (first | exact Drawn0.refl _ | apply Drawn0.step)⟩
        ·rw [if_neg c10] at H
         exact absurd H (by simp)
       ·rw [if_neg c9] at H
        have c9b0 : decide (x7_2 < (a0.size : Int)) = false := decide_eq_false c9
        clear c9
        (first | rw [c9b0] | (simp only [i64_w, i32_w]; rw [c9b0]) | skip)
        have H' := Aside0.mk H
        clear H
        go_wp2
        go_meet
        case rel => exact ⟨_, (x7_2), dF, H', ⟨by have := HK1.out; have := HK2.out; first | omega | exact Nat.le_refl _⟩, by repeat (first | exact Drawn0.refl _ | apply Drawn0.step)⟩
    case rest =>
     clear HC8
     try clear c1
     try clear p1
     try clear q1
     try clear hx1
     try clear c2
     try clear c2b0
     try clear p2
     try clear c3
     try clear c3b0
     try clear p4
     try clear q4
     try clear hx4
     try clear c5
     try clear c5b0
     try clear p6
     try clear q6
     try clear hx6
     try clear c7
     try clear c7b0
     try clear c9
     try clear c9b0
     try clear c10
     try clear c10b0
     try clear p11
     try clear q11
     try clear hx11
     try clear c12
     try clear c12b0
     try clear c12b1
     try clear p11
     try clear p2
     try clear p4
     try clear p6
     try clear q11
     try clear q4
     try clear q6
     obtain ⟨kq, x7_7, rfl, HA, HJ7, ⟨mc7, rfl⟩⟩ := hcut
     cases kq with
     | zero => exact absurd HA.out (by simp [plumbref10_Cut.j2])
     | succ kj7 =>
      have H := HA.out
      clear HA
      simp only [plumbref10_Cut.j2] at H
      have HC13 := Aside0.mk H
      clear H
      go_upto_block 4 with (fail)
      go_cut [7, 8] (fun v7 v8 wc => ∃ (kq : Nat) (x7_12 : Int) (x8_12 : Int), v7 = .int .i64 x7_12 ∧ v8 = .int .u64 x8_12 ∧ Aside0 (plumbref10_Cut.j4 kq a0 x7_12 x8_12 = some (r1, r2, r3, r4)) ∧ Aside0 (kq ≤ kj7) ∧ Drawn0 w wc)
      case first =>
       have H := HC13.out
       clear HC13
       have H' := Aside0.mk H
       clear H
       go_wp2
       go_loopg [7, 8, 9] kj7 (fun kq v7 v8 v9 w' => ∃ (x7_3 : Int) (x8_3 : Int) (x9_3 : Int), v7 = .int .i64 x7_3 ∧ v8 = .int .u64 x8_3 ∧ v9 = .int .i64 x9_3 ∧ Aside0 (plumbref10_Cut.l2 kq a0 x7_3 x8_3 x9_3 = some (r1, r2, r3, r4)) ∧ Aside0 (kq ≤ kj7) ∧ Drawn0 w w')
       case atStart => exact ⟨(x7_7), (0), (0), dF, dF, dF, H', ⟨Nat.le_refl _⟩, by repeat (first | exact Drawn0.refl _ | apply Drawn0.step)⟩
       case round =>
        clear H'
        try clear c1
        try clear p1
        try clear q1
        try clear hx1
        try clear c2
        try clear c2b0
        try clear p2
        try clear c3
        try clear c3b0
        try clear p4
        try clear q4
        try clear hx4
        try clear c5
        try clear c5b0
        try clear p6
        try clear q6
        try clear hx6
        try clear c7
        try clear c7b0
        try clear c9
        try clear c9b0
        try clear c10
        try clear c10b0
        try clear p11
        try clear q11
        try clear hx11
        try clear c12
        try clear c12b0
        try clear c12b1
        try clear p1
        try clear p11
        try clear p2
        try clear p4
        try clear p6
        try clear q1
        try clear q11
        try clear q4
        try clear q6
        obtain ⟨x7_3, x8_3, x9_3, rfl, rfl, rfl, HA, HK3, ⟨m3, rfl⟩⟩ := hrel
        cases gk with
        | zero => exact absurd HA.out (by simp [plumbref10_Cut.l2])
        | succ k3 =>
         have H := HA.out
         clear HA
         simp only [plumbref10_Cut.l2] at H
         by_cases c14 : x7_3 < (a0.size : Int)
         ·rw [if_pos c14] at H
          have c14b0 : decide (x7_3 < (a0.size : Int)) = true := decide_eq_true c14
          clear c14
          (first | rw [c14b0] | (simp only [i64_w, i32_w]; rw [c14b0]) | skip)
          by_cases c15 : x9_3 < 19
          ·rw [if_pos c15] at H
           have c15b0 : decide (x9_3 < 19) = true := decide_eq_true c15
           clear c15
           by_cases c16 : (0 : Int) ≤ x7_3
           ·rw [if_pos c16] at H
            have c16b0 : decide (0 ≤ x7_3) = true := decide_eq_true c16
            clear c16
            have H' := Aside0.mk H
            clear H
            have p17 : 0 ≤ (x7_3 : Int) := of_decide_eq_true dS
            have q17 : x7_3 < (a0.size : Int) := of_decide_eq_true dS
            have hx17 := bt_at a0 x7_3
            replace p17 := eq_true p17
            replace q17 := eq_true q17
            go_wp2
            go_roundg k3
            case measure => have := HK1.out; have := HJ7.out; have := HK3.out; omega
            case rel => exact ⟨(wrap64 (x7_3 + 1)), (IntKind.u64.wrap ((IntKind.u64.wrap (10 * x8_3)) + (((bt a0 x7_3) - 48) % 256))), (wrap64 (x9_3 + 1)), dF, dF, dF, H', ⟨by have := HK1.out; have := HJ7.out; have := HK3.out; omega⟩, by repeat (first | exact Drawn0.refl _ | apply Drawn0.step)⟩
           ·rw [if_neg c16] at H
            exact absurd H (by simp)
          ·rw [if_neg c15] at H
           have c15b0 : decide (x9_3 < 19) = false := decide_eq_false c15
           clear c15
           have H' := Aside0.mk H
           clear H
           go_wp2
           go_meet
           case rel => exact ⟨_, (x7_3), (x8_3), dF, dF, H', ⟨by have := HK1.out; have := HJ7.out; have := HK3.out; first | omega | exact Nat.le_refl _⟩, by repeat (first | exact Drawn0.refl _ | apply Drawn0.step)⟩
         ·rw [if_neg c14] at H
          have c14b0 : decide (x7_3 < (a0.size : Int)) = false := decide_eq_false c14
          clear c14
          (first | rw [c14b0] | (simp only [i64_w, i32_w]; rw [c14b0]) | skip)
          have H' := Aside0.mk H
          clear H
          go_wp2
          go_meet
          case rel => exact ⟨_, (x7_3), (x8_3), dF, dF, H', ⟨by have := HK1.out; have := HJ7.out; have := HK3.out; first | omega | exact Nat.le_refl _⟩, by repeat (first | exact Drawn0.refl _ | apply Drawn0.step)⟩
      case rest =>
       clear HC13
       try clear c1
       try clear p1
       try clear q1
       try clear hx1
       try clear c2
       try clear c2b0
       try clear p2
       try clear c3
       try clear c3b0
       try clear p4
       try clear q4
       try clear hx4
       try clear c5
       try clear c5b0
       try clear p6
       try clear q6
       try clear hx6
       try clear c7
       try clear c7b0
       try clear c9
       try clear c9b0
       try clear c10
       try clear c10b0
       try clear p11
       try clear q11
       try clear hx11
       try clear c12
       try clear c12b0
       try clear c12b1
       try clear c14
       try clear c14b0
       try clear c15
       try clear c15b0
       try clear c16
       try clear c16b0
       try clear p17
       try clear q17
       try clear hx17
       try clear p1
       try clear p11
       try clear p17
       try clear p2
       try clear p4
       try clear p6
       try clear q1
       try clear q11
       try clear q17
       try clear q4
       try clear q6
       obtain ⟨kq, x7_12, x8_12, rfl, rfl, HA, HJ12, ⟨mc12, rfl⟩⟩ := hcut
       cases kq with
       | zero => exact absurd HA.out (by simp [plumbref10_Cut.j4])
       | succ kj12 =>
        have H := HA.out
        clear HA
        simp only [plumbref10_Cut.j4] at H
        have H' := Aside0.mk H
        clear H
        go_wp2
        go_loopg [10, 11] kj12 (fun kq v10 v11 w' => ∃ (x10_4 : Bool) (x11_4 : Int), v10 = .bool x10_4 ∧ v11 = .int .i64 x11_4 ∧ Aside0 (plumbref10_Cut.l3 kq a0 x7_12 x8_12 x10_4 x11_4 = some (r1, r2, r3, r4)) ∧ Aside0 (kq ≤ kj12) ∧ Drawn0 w w')
        case atStart => exact ⟨(false), (x7_12), dF, dF, H', ⟨Nat.le_refl _⟩, by repeat (first | exact Drawn0.refl _ | apply Drawn0.step)⟩
        case round =>
         clear H'
         try clear c1
         try clear p1
         try clear q1
         try clear hx1
         try clear c2
         try clear c2b0
         try clear p2
         try clear c3
         try clear c3b0
         try clear p4
         try clear q4
         try clear hx4
         try clear c5
         try clear c5b0
         try clear p6
         try clear q6
         try clear hx6
         try clear c7
         try clear c7b0
         try clear c9
         try clear c9b0
         try clear c10
         try clear c10b0
         try clear p11
         try clear q11
         try clear hx11
         try clear c12
         try clear c12b0
         try clear c12b1
         try clear c14
         try clear c14b0
         try clear c15
         try clear c15b0
         try clear c16
         try clear c16b0
         try clear p17
         try clear q17
         try clear hx17
         try clear p1
         try clear p11
         try clear p17
         try clear p2
         try clear p4
         try clear p6
         try clear q1
         try clear q11
         try clear q17
         try clear q4
         try clear q6
         obtain ⟨x10_4, x11_4, rfl, rfl, HA, HK4, ⟨m4, rfl⟩⟩ := hrel
         cases gk with
         | zero => exact absurd HA.out (by simp [plumbref10_Cut.l3])
         | succ k4 =>
          have H := HA.out
          clear HA
          simp only [plumbref10_Cut.l3] at H
          by_cases c18 : x11_4 < (a0.size : Int)
          ·rw [if_pos c18] at H
           have c18b0 : decide (x11_4 < (a0.size : Int)) = true := decide_eq_true c18
           clear c18
           by_cases c19 : x10_4 = true
           ·subst c19
            have H1 : (plumbref10_Cut.l3 k4 a0 x7_12 x8_12 true (wrap64 (x11_4 + 1))) = some (r1, r2, r3, r4) := by rw [if_pos rfl] at H; exact H
            clear H
            have H := H1
            clear H1
            have H' := Aside0.mk H
            clear H
            go_wp2
            go_roundg k4
            case measure => have := HK1.out; have := HJ7.out; have := HJ12.out; have := HK4.out; omega
            case rel => exact ⟨(true), (wrap64 (x11_4 + 1)), dF, dF, H', ⟨by have := HK1.out; have := HJ7.out; have := HJ12.out; have := HK4.out; omega⟩, by repeat (first | exact Drawn0.refl _ | apply Drawn0.step)⟩
           ·replace c19 := Bool.eq_false_iff.mpr c19
            subst c19
            have H1 : (if 0 ≤ x11_4 then (plumbref10_Cut.l3 k4 a0 x7_12 x8_12 ((bt a0 x11_4) != 48) (wrap64 (x11_4 + 1))) else (none)) = some (r1, r2, r3, r4) := by rw [if_neg (show ¬ (false = true) by decide)] at H; exact H
            clear H
            have H := H1
            clear H1
            by_cases c20 : (0 : Int) ≤ x11_4
            ·rw [if_pos c20] at H
             have c20b0 : decide (0 ≤ x11_4) = true := decide_eq_true c20
             clear c20
             have H' := Aside0.mk H
             clear H
             have p21 : 0 ≤ (x11_4 : Int) := of_decide_eq_true dS
             have q21 : x11_4 < (a0.size : Int) := of_decide_eq_true dS
             have hx21 := bt_at a0 x11_4
             replace p21 := eq_true p21
             replace q21 := eq_true q21
             go_wp2
             go_roundg k4
             case measure => have := HK1.out; have := HJ7.out; have := HJ12.out; have := HK4.out; omega
             case rel => exact ⟨(((bt a0 x11_4) != 48)), (wrap64 (x11_4 + 1)), dF, dF, H', ⟨by have := HK1.out; have := HJ7.out; have := HJ12.out; have := HK4.out; omega⟩, by repeat (first | exact Drawn0.refl _ | apply Drawn0.step)⟩
            ·rw [if_neg c20] at H
             exact absurd H (by simp)
          ·rw [if_neg c18] at H
           have c18b0 : decide (x11_4 < (a0.size : Int)) = false := decide_eq_false c18
           clear c18
           simp only [Option.some.injEq, Prod.mk.injEq] at H
           obtain ⟨rfl, rfl, rfl, rfl⟩ := H
           go_wp2
           refine bodyPost_ret (results_list (rs := [.tmp 2, .tmp 3, .tmp 4, .tmp 5]) rfl (by simp) (.tmp (.tmp (.tmp (.tmp .nil))))) rfl ?_
           exact ⟨by first | rfl | (simp; done) | (simp [*]; done), by repeat (first | exact Drawn0.refl _ | apply Drawn0.step)⟩

end Go.Proofs.YtoannkopciehcaaDoor.PA

namespace Go.Proofs.YtoannkopciehcaaDoor.PA
open Go.RowKit Go.Proofs.YtoannkopciehcaaDoorW.PrintWords Go.Proofs.YtoannkopciehcaaDoorW.PrintLast Go.Proofs.YtoannkopciehcaaDoorW.PrintMore
attribute [local go_sem] max2_int min2_int max_two min_two max_three min_three max_four min_four   -- for this text's walks alone
set_option linter.unusedVariables false
set_option linter.unusedSimpArgs false

/-! ### plumblaw10_LemireCuts: function 4 -/
def plumblaw10_LemireCuts.f (k : Nat) (a0 : ByteArray) : Option (Bool) := (lemire_Cut.f k a0).bind fun bt290 => ((plumbref10_Cut.f k a0).bind fun bt294 => ((plumblaw10_alive.f k).bind fun t298 => (if t298 = true then (if bt290.1 = bt294.1 then (if bt290.2.1 = bt294.2.1 then (if (bt290.2.2.1 == bt294.2.2.1) = true then (some (bt290.2.2.2 == bt294.2.2.2)) else (some false)) else (some false)) else (some false)) else (some false))))
theorem plumblaw10_LemireCuts.mono : ∀ a0 k, LeO (plumblaw10_LemireCuts.f k a0) (plumblaw10_LemireCuts.f (k + 1) a0) := by
 intro a0 k
 unfold plumblaw10_LemireCuts.f
 repeat' first
   | (with_reducible exact lemire_Cut.mono _ _)
   | (with_reducible exact plumblaw10_alive.mono _)
   | (with_reducible exact plumbref10_Cut.mono _ _)
   | (with_reducible exact LeO.refl _)
   | (with_reducible exact LeO.none _)
   | (with_reducible refine LeO.ite ?_ ?_)
   | (with_reducible refine LeO.bind ?_ (fun _ => ?_))
   | exact lemire_Cut.mono _ _
   | exact plumblaw10_alive.mono _
   | exact plumbref10_Cut.mono _ _
   | exact LeO.none _
   | refine LeO.ite ?_ ?_
   | refine LeO.bind ?_ (fun _ => ?_)
set_option maxHeartbeats 8000000 in
set_option maxRecDepth 100000 in
theorem plumblaw10_LemireCuts.calls (k : Nat) (a0 : ByteArray) (r : Bool) (w : World) (h : plumblaw10_LemireCuts.f k a0 = some r) (hG : TensLaid w := by first | exact HG.out | exact hG | exact TensLaid.below HG.out HB.out | exact TensLaid.below HG.out dB) :
  Calls Tryd.prog 4 #[.string a0] w fun e w' => e = .returned (.bool r) ∧ Below w.heap.size w w' := by
 have HG := Aside0.mk (show TensLaid w from hG)
 clear hG
 have HB := Aside0.mk (Below.refl w.heap.size w)
 have H : ((lemire_Cut.f k a0).bind fun bt290 => ((plumbref10_Cut.f k a0).bind fun bt294 => ((plumblaw10_alive.f k).bind fun t298 => (if t298 = true then (if bt290.1 = bt294.1 then (if bt290.2.1 = bt294.2.1 then (if (bt290.2.2.1 == bt294.2.2.1) = true then (some (bt290.2.2.2 == bt294.2.2.2)) else (some false)) else (some false)) else (some false)) else (some false))))) = some r := h
 clear h
 replace H := obe H
 obtain ⟨⟨t290, t291, t292, t293⟩, A20, H⟩ := H
 replace H : ((plumbref10_Cut.f k a0).bind fun bt294 => ((plumblaw10_alive.f k).bind fun t298 => (if t298 = true then (if t290 = bt294.1 then (if t291 = bt294.2.1 then (if (t292 == bt294.2.2.1) = true then (some (t293 == bt294.2.2.2)) else (some false)) else (some false)) else (some false)) else (some false)))) = some r := H
 have A2 := Aside0.mk A20
 clear A20
 replace H := obe H
 obtain ⟨⟨t294, t295, t296, t297⟩, A30, H⟩ := H
 replace H : ((plumblaw10_alive.f k).bind fun t298 => (if t298 = true then (if t290 = t294 then (if t291 = t295 then (if (t292 == t296) = true then (some (t293 == t297)) else (some false)) else (some false)) else (some false)) else (some false))) = some r := H
 have A3 := Aside0.mk A30
 clear A30
 replace H := obe H
 obtain ⟨t298, A40, H⟩ := H
 replace H : (if t298 = true then (if t290 = t294 then (if t291 = t295 then (if (t292 == t296) = true then (some (t293 == t297)) else (some false)) else (some false)) else (some false)) else (some false)) = some r := H
 have A4 := Aside0.mk A40
 clear A40
 by_cases c5 : t298 = true
 ·subst c5
  have H1 : (if t290 = t294 then (if t291 = t295 then (if (t292 == t296) = true then (some (t293 == t297)) else (some false)) else (some false)) else (some false)) = some r := by rw [if_pos rfl] at H; exact H
  clear H
  have H := H1
  clear H1
  by_cases c6 : t290 = t294
  ·rw [if_pos c6] at H
   have c6b0 : (t290 == t294) = true := beq_iff_eq.mpr c6
   have c6b1 : (t290 != t294) = false := bne_eq_false_iff_eq.mpr c6
   clear c6
   by_cases c7 : t291 = t295
   ·rw [if_pos c7] at H
    have c7b0 : (t291 == t295) = true := beq_iff_eq.mpr c7
    have c7b1 : (t291 != t295) = false := bne_eq_false_iff_eq.mpr c7
    clear c7
    by_cases c8 : (t292 == t296) = true
    ·rw [if_pos c8] at H
     have c8b0 : (t292 == t296) = true := c8
     (try (have c8b1 : decide (t292 = t296) = true := by simpa using c8))
     (try (have c8b2 : (t292 == t296) = true := by simpa using c8))
     clear c8
     obtain rfl := Option.some.inj H
     go_enter Tryd.func4, Tryd.ntmps4
     go_wp2_with (first | ((with_reducible refine gate_callee (f := 15) rfl ?_); refine gL (some 13) Tryd.func15 #[.string a0] ?_; (with_reducible refine (lemire_Cut.calls k a0 t290 t291 t292 t293 _ A2.out).mono ?_); rintro e w' ⟨rfl, ⟨nd, rfl⟩⟩; refine ⟨_, rfl, ?_⟩) | ((with_reducible refine gate_callee (f := 16) rfl ?_); refine gL (some 20) Tryd.func16 #[.string a0] ?_; (with_reducible refine (plumbref10_Cut.calls k a0 t294 t295 t296 t297 _ A3.out).mono ?_); rintro e w' ⟨rfl, ⟨nd, rfl⟩⟩; refine ⟨_, rfl, ?_⟩) | ((with_reducible refine gate_callee (f := 14) rfl ?_); refine gL (some 25) Tryd.func14 #[] ?_; (with_reducible refine (plumblaw10_alive.calls k  true _ A4.out).mono ?_); rintro e w9 ⟨rfl, hb⟩; refine ⟨_, rfl, ?_⟩; replace HB := Aside0.mk (below_step dB hb); (try clear hb)))
     go_ret
     exact ⟨dE, dB⟩
    ·rw [if_neg c8] at H
     have c8b0 : (t292 == t296) = false := by simpa using c8
     (try (have c8b1 : decide (t292 = t296) = false := by simpa using c8))
     (try (have c8b2 : (t292 == t296) = false := by simpa using c8))
     (try (have c8b3 : ¬ (t292 = t296) := by simpa using c8))
     clear c8
     obtain rfl := Option.some.inj H
     go_enter Tryd.func4, Tryd.ntmps4
     go_wp2_with (first | ((with_reducible refine gate_callee (f := 15) rfl ?_); refine gL (some 13) Tryd.func15 #[.string a0] ?_; (with_reducible refine (lemire_Cut.calls k a0 t290 t291 t292 t293 _ A2.out).mono ?_); rintro e w' ⟨rfl, ⟨nd, rfl⟩⟩; refine ⟨_, rfl, ?_⟩) | ((with_reducible refine gate_callee (f := 16) rfl ?_); refine gL (some 20) Tryd.func16 #[.string a0] ?_; (with_reducible refine (plumbref10_Cut.calls k a0 t294 t295 t296 t297 _ A3.out).mono ?_); rintro e w' ⟨rfl, ⟨nd, rfl⟩⟩; refine ⟨_, rfl, ?_⟩) | ((with_reducible refine gate_callee (f := 14) rfl ?_); refine gL (some 25) Tryd.func14 #[] ?_; (with_reducible refine (plumblaw10_alive.calls k  true _ A4.out).mono ?_); rintro e w10 ⟨rfl, hb⟩; refine ⟨_, rfl, ?_⟩; replace HB := Aside0.mk (below_step dB hb); (try clear hb)))
     go_ret
     exact ⟨dE, dB⟩
   ·rw [if_neg c7] at H
    have c7b0 : (t291 == t295) = false := beq_eq_false_iff_ne.mpr c7
    have c7b1 : (t291 != t295) = true := bne_iff_ne.mpr c7
    obtain rfl := Option.some.inj H
    go_enter Tryd.func4, Tryd.ntmps4
    go_wp2_with (first | ((with_reducible refine gate_callee (f := 15) rfl ?_); refine gL (some 13) Tryd.func15 #[.string a0] ?_; (with_reducible refine (lemire_Cut.calls k a0 t290 t291 t292 t293 _ A2.out).mono ?_); rintro e w' ⟨rfl, ⟨nd, rfl⟩⟩; refine ⟨_, rfl, ?_⟩) | ((with_reducible refine gate_callee (f := 16) rfl ?_); refine gL (some 20) Tryd.func16 #[.string a0] ?_; (with_reducible refine (plumbref10_Cut.calls k a0 t294 t295 t296 t297 _ A3.out).mono ?_); rintro e w' ⟨rfl, ⟨nd, rfl⟩⟩; refine ⟨_, rfl, ?_⟩) | ((with_reducible refine gate_callee (f := 14) rfl ?_); refine gL (some 25) Tryd.func14 #[] ?_; (with_reducible refine (plumblaw10_alive.calls k  true _ A4.out).mono ?_); rintro e w11 ⟨rfl, hb⟩; refine ⟨_, rfl, ?_⟩; replace HB := Aside0.mk (below_step dB hb); (try clear hb)))
    go_ret
    exact ⟨dE, dB⟩
  ·rw [if_neg c6] at H
   have c6b0 : (t290 == t294) = false := beq_eq_false_iff_ne.mpr c6
   have c6b1 : (t290 != t294) = true := bne_iff_ne.mpr c6
   obtain rfl := Option.some.inj H
   go_enter Tryd.func4, Tryd.ntmps4
   go_wp2_with (first | ((with_reducible refine gate_callee (f := 15) rfl ?_); refine gL (some 13) Tryd.func15 #[.string a0] ?_; (with_reducible refine (lemire_Cut.calls k a0 t290 t291 t292 t293 _ A2.out).mono ?_); rintro e w' ⟨rfl, ⟨nd, rfl⟩⟩; refine ⟨_, rfl, ?_⟩) | ((with_reducible refine gate_callee (f := 16) rfl ?_); refine gL (some 20) Tryd.func16 #[.string a0] ?_; (with_reducible refine (plumbref10_Cut.calls k a0 t294 t295 t296 t297 _ A3.out).mono ?_); rintro e w' ⟨rfl, ⟨nd, rfl⟩⟩; refine ⟨_, rfl, ?_⟩) | ((with_reducible refine gate_callee (f := 14) rfl ?_); refine gL (some 25) Tryd.func14 #[] ?_; (with_reducible refine (plumblaw10_alive.calls k  true _ A4.out).mono ?_); rintro e w12 ⟨rfl, hb⟩; refine ⟨_, rfl, ?_⟩; replace HB := Aside0.mk (below_step dB hb); (try clear hb)))
   go_ret
   exact ⟨dE, dB⟩
 ·replace c5 := Bool.eq_false_iff.mpr c5
  subst c5
  have H1 : (some false) = some r := by rw [if_neg (show ¬ (false = true) by decide)] at H; exact H
  clear H
  have H := H1
  clear H1
  obtain rfl := Option.some.inj H
  go_enter Tryd.func4, Tryd.ntmps4
  go_wp2_with (first | ((with_reducible refine gate_callee (f := 15) rfl ?_); refine gL (some 13) Tryd.func15 #[.string a0] ?_; (with_reducible refine (lemire_Cut.calls k a0 t290 t291 t292 t293 _ A2.out).mono ?_); rintro e w' ⟨rfl, ⟨nd, rfl⟩⟩; refine ⟨_, rfl, ?_⟩) | ((with_reducible refine gate_callee (f := 16) rfl ?_); refine gL (some 20) Tryd.func16 #[.string a0] ?_; (with_reducible refine (plumbref10_Cut.calls k a0 t294 t295 t296 t297 _ A3.out).mono ?_); rintro e w' ⟨rfl, ⟨nd, rfl⟩⟩; refine ⟨_, rfl, ?_⟩) | ((with_reducible refine gate_callee (f := 14) rfl ?_); refine gL (some 25) Tryd.func14 #[] ?_; (with_reducible refine (plumblaw10_alive.calls k  false _ A4.out).mono ?_); rintro e w13 ⟨rfl, hb⟩; refine ⟨_, rfl, ?_⟩; replace HB := Aside0.mk (below_step dB hb); (try clear hb)))
  go_ret
  exact ⟨dE, dB⟩

/-- THE ONE PURE STATEMENT of plumblaw10_LemireCuts: yours. -/
def plumblaw10_LemireCuts.Pure : Prop := ∀ (a0 : ByteArray), a0.size ≤ 140737488351232 → ∃ k, plumblaw10_LemireCuts.f k a0 = some true
theorem plumblaw10_LemireCuts.walk (P : plumblaw10_LemireCuts.Pure) (a0 : ByteArray) (w : World) (w0 : a0.size ≤ 140737488351232) (hG : TensLaid w) :
  Calls Tryd.prog 4 #[.string a0] w fun e w' => e = .returned (.bool true) ∧ Below w.heap.size w w' := by
 obtain ⟨k, h⟩ := P a0 w0
 refine (plumblaw10_LemireCuts.calls k a0 true w h).mono ?_
 rintro e w' ⟨rfl, hd⟩
 exact ⟨rfl, hd⟩

/-! ### plumblaw10_LemireTens: function 5 -/
mutual
def plumblaw10_LemireTens.j0 : Nat → Int → Int → Bool → Option (Bool)
 | 0, _, _, _ => none
 | k + 1, x0, x1, x16 => if x16 = true then (plumblaw10_LemireTens.j1 k x0 (Int.tmod x1 100000)) else (plumblaw10_LemireTens.j1 k x0 x1)
def plumblaw10_LemireTens.j1 : Nat → Int → Int → Option (Bool)
 | 0, _, _ => none
 | k + 1, x0, x1 => (lemire_Fast.f k x0 x1).bind fun bt299 => ((lemire_Fast.f k (IntKind.u64.wrap (10 * x0)) (wrap64 (x1 - 1))).bind fun bt301 => ((plumblaw10_alive.f k).bind fun t303 => (if t303 = true then (if bt299.2 = 100 then (some true) else (if bt301.2 = 100 then (some true) else (if bt299.1 = bt301.1 then (some (bt299.2 == bt301.2)) else (some false)))) else (some false))))
end
def plumblaw10_LemireTens.f (k : Nat) (a0 : Int) (a1 : Int) : Option (Bool) := if a1 < (-100000) then (plumblaw10_LemireTens.j0 k (IntKind.u64.wrap (Int.tdiv a0 10)) a1 true) else (plumblaw10_LemireTens.j0 k (IntKind.u64.wrap (Int.tdiv a0 10)) a1 (decide (a1 > 100000)))
theorem plumblaw10_LemireTens.mono_l : ∀ k, (∀ y0 y1 y2, LeO (plumblaw10_LemireTens.j0 k y0 y1 y2) (plumblaw10_LemireTens.j0 (k + 1) y0 y1 y2)) ∧ (∀ y0 y1, LeO (plumblaw10_LemireTens.j1 k y0 y1) (plumblaw10_LemireTens.j1 (k + 1) y0 y1))
 | 0 => ⟨fun _ _ _ r h => by simp [plumblaw10_LemireTens.j0] at h, fun _ _ r h => by simp [plumblaw10_LemireTens.j1] at h⟩
 | k + 1 => by
  obtain ⟨ih0, ih1⟩ := plumblaw10_LemireTens.mono_l k
  refine ⟨?_, ?_⟩
  ·intro y0 y1 y2
   unfold plumblaw10_LemireTens.j0
   repeat' first
   | (with_reducible exact ih0 _ _ _)
   | (with_reducible exact ih1 _ _)
   | (with_reducible exact lemire_Fast.mono _ _ _)
   | (with_reducible exact plumblaw10_alive.mono _)
   | (with_reducible exact LeO.refl _)
   | (with_reducible exact LeO.none _)
   | (with_reducible refine LeO.ite ?_ ?_)
   | (with_reducible refine LeO.bind ?_ (fun _ => ?_))
   | exact ih0 _ _ _
   | exact ih1 _ _
   | exact lemire_Fast.mono _ _ _
   | exact plumblaw10_alive.mono _
   | exact LeO.none _
   | refine LeO.ite ?_ ?_
   | refine LeO.bind ?_ (fun _ => ?_)
  ·intro y0 y1
   unfold plumblaw10_LemireTens.j1
   repeat' first
   | (with_reducible exact ih0 _ _ _)
   | (with_reducible exact ih1 _ _)
   | (with_reducible exact lemire_Fast.mono _ _ _)
   | (with_reducible exact plumblaw10_alive.mono _)
   | (with_reducible exact LeO.refl _)
   | (with_reducible exact LeO.none _)
   | (with_reducible refine LeO.ite ?_ ?_)
   | (with_reducible refine LeO.bind ?_ (fun _ => ?_))
   | exact ih0 _ _ _
   | exact ih1 _ _
   | exact lemire_Fast.mono _ _ _
   | exact plumblaw10_alive.mono _
   | exact LeO.none _
   | refine LeO.ite ?_ ?_
   | refine LeO.bind ?_ (fun _ => ?_)
theorem plumblaw10_LemireTens.mono : ∀ a0 a1 k, LeO (plumblaw10_LemireTens.f k a0 a1) (plumblaw10_LemireTens.f (k + 1) a0 a1) := by
 intro a0 a1 k
 obtain ⟨ih0, ih1⟩ := plumblaw10_LemireTens.mono_l k
 unfold plumblaw10_LemireTens.f
 repeat' first
   | (with_reducible exact ih0 _ _ _)
   | (with_reducible exact ih1 _ _)
   | (with_reducible exact lemire_Fast.mono _ _ _)
   | (with_reducible exact plumblaw10_alive.mono _)
   | (with_reducible exact LeO.refl _)
   | (with_reducible exact LeO.none _)
   | (with_reducible refine LeO.ite ?_ ?_)
   | (with_reducible refine LeO.bind ?_ (fun _ => ?_))
   | exact ih0 _ _ _
   | exact ih1 _ _
   | exact lemire_Fast.mono _ _ _
   | exact plumblaw10_alive.mono _
   | exact LeO.none _
   | refine LeO.ite ?_ ?_
   | refine LeO.bind ?_ (fun _ => ?_)
set_option maxHeartbeats 8000000 in
set_option maxRecDepth 100000 in
theorem plumblaw10_LemireTens.calls (k : Nat) (a0 : Int) (a1 : Int) (r : Bool) (w : World) (h : plumblaw10_LemireTens.f k a0 a1 = some r) (hG : TensLaid w := by first | exact HG.out | exact hG | exact TensLaid.below HG.out HB.out | exact TensLaid.below HG.out dB) :
  Calls Tryd.prog 5 #[.int .u64 a0, .int .i64 a1] w fun e w' => e = .returned (.bool r) ∧ Below w.heap.size w w' := by
 have HG := Aside0.mk (show TensLaid w from hG)
 clear hG
 have HB := Aside0.mk (Below.refl w.heap.size w)
 have H : (if a1 < (-100000) then (plumblaw10_LemireTens.j0 k (IntKind.u64.wrap (Int.tdiv a0 10)) a1 true) else (plumblaw10_LemireTens.j0 k (IntKind.u64.wrap (Int.tdiv a0 10)) a1 (decide (a1 > 100000)))) = some r := h
 clear h
 have HC3 := Aside0.mk H
 clear H
 go_enter Tryd.func5, Tryd.ntmps5
 go_upto_region 2 with (fail)
 go_cut [16] (fun v16 wc => ∃ (kq : Nat) (x16_2 : Bool), v16 = .bool x16_2 ∧ Aside0 (plumblaw10_LemireTens.j0 kq (IntKind.u64.wrap (Int.tdiv a0 10)) a1 x16_2 = some r) ∧ Aside0 (kq ≤ k) ∧ Aside0 (Below w.heap.size w wc))
 case first =>
  have H := HC3.out
  clear HC3
  by_cases c4 : a1 < (-100000)
  ·rw [if_pos c4] at H
   have c4b0 : decide (a1 < (-100000)) = true := decide_eq_true c4
   clear c4
   (first | rw [c4b0] | (simp only [i64_w, i32_w]; rw [c4b0]) | skip)
   have H' := Aside0.mk H
   clear H
   go_wp2
   go_meet
   case rel => exact ⟨_, (true), dF, H', ⟨dN⟩, ⟨dB⟩⟩
  ·rw [if_neg c4] at H
   have c4b0 : decide (a1 < (-100000)) = false := decide_eq_false c4
   clear c4
   (first | rw [c4b0] | (simp only [i64_w, i32_w]; rw [c4b0]) | skip)
   have H' := Aside0.mk H
   clear H
   go_wp2
   go_meet
   case rel => exact ⟨_, (decide (a1 > 100000)), dF, H', ⟨dN⟩, ⟨dB⟩⟩
 case rest =>
  clear HC3
  try clear p2
  try clear c4
  try clear c4b0
  obtain ⟨kq, x16_2, rfl, HA, HJ2, HB⟩ := hcut
  cases kq with
  | zero => exact absurd HA.out (by simp [plumblaw10_LemireTens.j0])
  | succ kj2 =>
   have H := HA.out
   clear HA
   simp only [plumblaw10_LemireTens.j0] at H
   have HC5 := Aside0.mk H
   clear H
   go_upto_if 16 with (fail)
   go_cut [1] (fun v1 wc => ∃ (kq : Nat) (x1_4 : Int), v1 = .int .i64 x1_4 ∧ Aside0 (plumblaw10_LemireTens.j1 kq (IntKind.u64.wrap (Int.tdiv a0 10)) x1_4 = some r) ∧ Aside0 (kq ≤ kj2) ∧ Aside0 (Below w.heap.size w wc))
   case first =>
    have H := HC5.out
    clear HC5
    by_cases c6 : x16_2 = true
    ·subst c6
     have H1 : (plumblaw10_LemireTens.j1 kj2 (IntKind.u64.wrap (Int.tdiv a0 10)) (Int.tmod a1 100000)) = some r := by rw [if_pos rfl] at H; exact H
     clear H
     have H := H1
     clear H1
     have H' := Aside0.mk H
     clear H
     go_wp2
     go_meet
     case rel => exact ⟨_, (Int.tmod a1 100000), dF, H', ⟨by have := HJ2.out; first | omega | exact Nat.le_refl _⟩, ⟨dB⟩⟩
    ·replace c6 := Bool.eq_false_iff.mpr c6
     subst c6
     have H1 : (plumblaw10_LemireTens.j1 kj2 (IntKind.u64.wrap (Int.tdiv a0 10)) a1) = some r := by rw [if_neg (show ¬ (false = true) by decide)] at H; exact H
     clear H
     have H := H1
     clear H1
     have H' := Aside0.mk H
     clear H
     go_wp2
     go_meet
     case rel => exact ⟨_, (a1), dF, H', ⟨by have := HJ2.out; first | omega | exact Nat.le_refl _⟩, ⟨dB⟩⟩
   case rest =>
    clear HC5
    try clear p2
    try clear c4
    try clear c4b0
    try clear c5
    try clear c6
    try clear p2
    obtain ⟨kq, x1_4, rfl, HA, HJ4, HB⟩ := hcut
    cases kq with
    | zero => exact absurd HA.out (by simp [plumblaw10_LemireTens.j1])
    | succ kj4 =>
     have H := HA.out
     clear HA
     simp only [plumblaw10_LemireTens.j1] at H
     replace H := obe H
     obtain ⟨⟨t299, t300⟩, A70, H⟩ := H
     replace H : ((lemire_Fast.f kj4 (IntKind.u64.wrap (10 * (IntKind.u64.wrap (Int.tdiv a0 10)))) (wrap64 (x1_4 - 1))).bind fun bt301 => ((plumblaw10_alive.f kj4).bind fun t303 => (if t303 = true then (if t300 = 100 then (some true) else (if bt301.2 = 100 then (some true) else (if t299 = bt301.1 then (some (t300 == bt301.2)) else (some false)))) else (some false)))) = some r := H
     have A7 := Aside0.mk A70
     clear A70
     replace H := obe H
     obtain ⟨⟨t301, t302⟩, A80, H⟩ := H
     replace H : ((plumblaw10_alive.f kj4).bind fun t303 => (if t303 = true then (if t300 = 100 then (some true) else (if t302 = 100 then (some true) else (if t299 = t301 then (some (t300 == t302)) else (some false)))) else (some false))) = some r := H
     have A8 := Aside0.mk A80
     clear A80
     replace H := obe H
     obtain ⟨t303, A90, H⟩ := H
     replace H : (if t303 = true then (if t300 = 100 then (some true) else (if t302 = 100 then (some true) else (if t299 = t301 then (some (t300 == t302)) else (some false)))) else (some false)) = some r := H
     have A9 := Aside0.mk A90
     clear A90
     by_cases c10 : t303 = true
     ·subst c10
      have H1 : (if t300 = 100 then (some true) else (if t302 = 100 then (some true) else (if t299 = t301 then (some (t300 == t302)) else (some false)))) = some r := by rw [if_pos rfl] at H; exact H
      clear H
      have H := H1
      clear H1
      by_cases c11 : t300 = 100
      ·rw [if_pos c11] at H
       have c11b0 : (t300 == 100) = true := beq_iff_eq.mpr c11
       have c11b1 : (t300 != 100) = false := bne_eq_false_iff_eq.mpr c11
       clear c11
       obtain rfl := Option.some.inj H
       go_wp2_with (first | ((with_reducible refine gate_callee (f := 12) rfl ?_); refine gL (some 22) Tryd.func12 #[.int .u64 (IntKind.u64.wrap (Int.tdiv a0 10)), .int .i64 x1_4] ?_; (with_reducible refine (lemire_Fast.calls kj4 (IntKind.u64.wrap (Int.tdiv a0 10)) x1_4 t299 t300 _ A7.out).mono ?_); rintro e w12 ⟨rfl, hb⟩; refine ⟨_, rfl, ?_⟩; replace HB := Aside0.mk (below_step dB hb); (try clear hb)) | ((with_reducible refine gate_callee (f := 12) rfl ?_); refine gL (some 30) Tryd.func12 #[.int .u64 (IntKind.u64.wrap (10 * (IntKind.u64.wrap (Int.tdiv a0 10)))), .int .i64 (wrap64 (x1_4 - 1))] ?_; (with_reducible refine (lemire_Fast.calls kj4 (IntKind.u64.wrap (10 * (IntKind.u64.wrap (Int.tdiv a0 10)))) (wrap64 (x1_4 - 1)) t301 t302 _ A8.out).mono ?_); rintro e w13 ⟨rfl, hb⟩; refine ⟨_, rfl, ?_⟩; replace HB := Aside0.mk (below_step dB hb); (try clear hb)) | ((with_reducible refine gate_callee (f := 14) rfl ?_); refine gL (some 33) Tryd.func14 #[] ?_; (with_reducible refine (plumblaw10_alive.calls kj4  true _ A9.out).mono ?_); rintro e w14 ⟨rfl, hb⟩; refine ⟨_, rfl, ?_⟩; replace HB := Aside0.mk (below_step dB hb); (try clear hb)))
       go_ret
       exact ⟨dE, dB⟩
      ·rw [if_neg c11] at H
       have c11b0 : (t300 == 100) = false := beq_eq_false_iff_ne.mpr c11
       have c11b1 : (t300 != 100) = true := bne_iff_ne.mpr c11
       by_cases c15 : t302 = 100
       ·rw [if_pos c15] at H
        have c15b0 : (t302 == 100) = true := beq_iff_eq.mpr c15
        have c15b1 : (t302 != 100) = false := bne_eq_false_iff_eq.mpr c15
        clear c15
        obtain rfl := Option.some.inj H
        go_wp2_with (first | ((with_reducible refine gate_callee (f := 12) rfl ?_); refine gL (some 22) Tryd.func12 #[.int .u64 (IntKind.u64.wrap (Int.tdiv a0 10)), .int .i64 x1_4] ?_; (with_reducible refine (lemire_Fast.calls kj4 (IntKind.u64.wrap (Int.tdiv a0 10)) x1_4 t299 t300 _ A7.out).mono ?_); rintro e w16 ⟨rfl, hb⟩; refine ⟨_, rfl, ?_⟩; replace HB := Aside0.mk (below_step dB hb); (try clear hb)) | ((with_reducible refine gate_callee (f := 12) rfl ?_); refine gL (some 30) Tryd.func12 #[.int .u64 (IntKind.u64.wrap (10 * (IntKind.u64.wrap (Int.tdiv a0 10)))), .int .i64 (wrap64 (x1_4 - 1))] ?_; (with_reducible refine (lemire_Fast.calls kj4 (IntKind.u64.wrap (10 * (IntKind.u64.wrap (Int.tdiv a0 10)))) (wrap64 (x1_4 - 1)) t301 t302 _ A8.out).mono ?_); rintro e w17 ⟨rfl, hb⟩; refine ⟨_, rfl, ?_⟩; replace HB := Aside0.mk (below_step dB hb); (try clear hb)) | ((with_reducible refine gate_callee (f := 14) rfl ?_); refine gL (some 33) Tryd.func14 #[] ?_; (with_reducible refine (plumblaw10_alive.calls kj4  true _ A9.out).mono ?_); rintro e w18 ⟨rfl, hb⟩; refine ⟨_, rfl, ?_⟩; replace HB := Aside0.mk (below_step dB hb); (try clear hb)))
        go_ret
        exact ⟨dE, dB⟩
       ·rw [if_neg c15] at H
        have c15b0 : (t302 == 100) = false := beq_eq_false_iff_ne.mpr c15
        have c15b1 : (t302 != 100) = true := bne_iff_ne.mpr c15
        by_cases c19 : t299 = t301
        ·rw [if_pos c19] at H
         have c19b0 : (t299 == t301) = true := beq_iff_eq.mpr c19
         have c19b1 : (t299 != t301) = false := bne_eq_false_iff_eq.mpr c19
         clear c19
         obtain rfl := Option.some.inj H
         go_wp2_with (first | ((with_reducible refine gate_callee (f := 12) rfl ?_); refine gL (some 22) Tryd.func12 #[.int .u64 (IntKind.u64.wrap (Int.tdiv a0 10)), .int .i64 x1_4] ?_; (with_reducible refine (lemire_Fast.calls kj4 (IntKind.u64.wrap (Int.tdiv a0 10)) x1_4 t299 t300 _ A7.out).mono ?_); rintro e w20 ⟨rfl, hb⟩; refine ⟨_, rfl, ?_⟩; replace HB := Aside0.mk (below_step dB hb); (try clear hb)) | ((with_reducible refine gate_callee (f := 12) rfl ?_); refine gL (some 30) Tryd.func12 #[.int .u64 (IntKind.u64.wrap (10 * (IntKind.u64.wrap (Int.tdiv a0 10)))), .int .i64 (wrap64 (x1_4 - 1))] ?_; (with_reducible refine (lemire_Fast.calls kj4 (IntKind.u64.wrap (10 * (IntKind.u64.wrap (Int.tdiv a0 10)))) (wrap64 (x1_4 - 1)) t301 t302 _ A8.out).mono ?_); rintro e w21 ⟨rfl, hb⟩; refine ⟨_, rfl, ?_⟩; replace HB := Aside0.mk (below_step dB hb); (try clear hb)) | ((with_reducible refine gate_callee (f := 14) rfl ?_); refine gL (some 33) Tryd.func14 #[] ?_; (with_reducible refine (plumblaw10_alive.calls kj4  true _ A9.out).mono ?_); rintro e w22 ⟨rfl, hb⟩; refine ⟨_, rfl, ?_⟩; replace HB := Aside0.mk (below_step dB hb); (try clear hb)))
         go_ret
         exact ⟨dE, dB⟩
        ·rw [if_neg c19] at H
         have c19b0 : (t299 == t301) = false := beq_eq_false_iff_ne.mpr c19
         have c19b1 : (t299 != t301) = true := bne_iff_ne.mpr c19
         obtain rfl := Option.some.inj H
         go_wp2_with (first | ((with_reducible refine gate_callee (f := 12) rfl ?_); refine gL (some 22) Tryd.func12 #[.int .u64 (IntKind.u64.wrap (Int.tdiv a0 10)), .int .i64 x1_4] ?_; (with_reducible refine (lemire_Fast.calls kj4 (IntKind.u64.wrap (Int.tdiv a0 10)) x1_4 t299 t300 _ A7.out).mono ?_); rintro e w23 ⟨rfl, hb⟩; refine ⟨_, rfl, ?_⟩; replace HB := Aside0.mk (below_step dB hb); (try clear hb)) | ((with_reducible refine gate_callee (f := 12) rfl ?_); refine gL (some 30) Tryd.func12 #[.int .u64 (IntKind.u64.wrap (10 * (IntKind.u64.wrap (Int.tdiv a0 10)))), .int .i64 (wrap64 (x1_4 - 1))] ?_; (with_reducible refine (lemire_Fast.calls kj4 (IntKind.u64.wrap (10 * (IntKind.u64.wrap (Int.tdiv a0 10)))) (wrap64 (x1_4 - 1)) t301 t302 _ A8.out).mono ?_); rintro e w24 ⟨rfl, hb⟩; refine ⟨_, rfl, ?_⟩; replace HB := Aside0.mk (below_step dB hb); (try clear hb)) | ((with_reducible refine gate_callee (f := 14) rfl ?_); refine gL (some 33) Tryd.func14 #[] ?_; (with_reducible refine (plumblaw10_alive.calls kj4  true _ A9.out).mono ?_); rintro e w25 ⟨rfl, hb⟩; refine ⟨_, rfl, ?_⟩; replace HB := Aside0.mk (below_step dB hb); (try clear hb)))
         go_ret
         exact ⟨dE, dB⟩
     ·replace c10 := Bool.eq_false_iff.mpr c10
      subst c10
      have H1 : (some false) = some r := by rw [if_neg (show ¬ (false = true) by decide)] at H; exact H
      clear H
      have H := H1
      clear H1
      obtain rfl := Option.some.inj H
      go_wp2_with (first | ((with_reducible refine gate_callee (f := 12) rfl ?_); refine gL (some 22) Tryd.func12 #[.int .u64 (IntKind.u64.wrap (Int.tdiv a0 10)), .int .i64 x1_4] ?_; (with_reducible refine (lemire_Fast.calls kj4 (IntKind.u64.wrap (Int.tdiv a0 10)) x1_4 t299 t300 _ A7.out).mono ?_); rintro e w26 ⟨rfl, hb⟩; refine ⟨_, rfl, ?_⟩; replace HB := Aside0.mk (below_step dB hb); (try clear hb)) | ((with_reducible refine gate_callee (f := 12) rfl ?_); refine gL (some 30) Tryd.func12 #[.int .u64 (IntKind.u64.wrap (10 * (IntKind.u64.wrap (Int.tdiv a0 10)))), .int .i64 (wrap64 (x1_4 - 1))] ?_; (with_reducible refine (lemire_Fast.calls kj4 (IntKind.u64.wrap (10 * (IntKind.u64.wrap (Int.tdiv a0 10)))) (wrap64 (x1_4 - 1)) t301 t302 _ A8.out).mono ?_); rintro e w27 ⟨rfl, hb⟩; refine ⟨_, rfl, ?_⟩; replace HB := Aside0.mk (below_step dB hb); (try clear hb)) | ((with_reducible refine gate_callee (f := 14) rfl ?_); refine gL (some 33) Tryd.func14 #[] ?_; (with_reducible refine (plumblaw10_alive.calls kj4  false _ A9.out).mono ?_); rintro e w28 ⟨rfl, hb⟩; refine ⟨_, rfl, ?_⟩; replace HB := Aside0.mk (below_step dB hb); (try clear hb)))
      go_ret
      exact ⟨dE, dB⟩

/-- THE ONE PURE STATEMENT of plumblaw10_LemireTens: yours. -/
def plumblaw10_LemireTens.Pure : Prop := ∀ (a0 : Int) (a1 : Int), (Lit.int .u64 a0).wf = true → (Lit.int .i64 a1).wf = true → ∃ k, plumblaw10_LemireTens.f k a0 a1 = some true
theorem plumblaw10_LemireTens.walk (P : plumblaw10_LemireTens.Pure) (a0 : Int) (a1 : Int) (w : World) (w0 : (Lit.int .u64 a0).wf = true) (w1 : (Lit.int .i64 a1).wf = true) (hG : TensLaid w) :
  Calls Tryd.prog 5 #[.int .u64 a0, .int .i64 a1] w fun e w' => e = .returned (.bool true) ∧ Below w.heap.size w w' := by
 obtain ⟨k, h⟩ := P a0 a1 w0 w1
 refine (plumblaw10_LemireTens.calls k a0 a1 true w h).mono ?_
 rintro e w' ⟨rfl, hd⟩
 exact ⟨rfl, hd⟩

end Go.Proofs.YtoannkopciehcaaDoor.PA

namespace Go.Proofs.YtoannkopciehcaaDoor.Pure
open Go Go.RowKit Go.Proofs.YtoannkopciehcaaDoor.PA Go.Proofs.YtoannkopciehcaaDoorW.PrintWords Go.Proofs.YtoannkopciehcaaDoorW.PrintLast
set_option linter.unusedVariables false
theorem cut_inc {n N : Nat} (h : n < N) (hN : N ≤ 140737488351232) : wrap64 ((n : Int) + 1) = ((n + 1 : Nat) : Int) := by unfold wrap64; omega
theorem cut_true (a : ByteArray) (ha : a.size ≤ 140737488351232) (u v : Int) : ∀ (d k n : Nat), a.size - n = d → d < k → plumbref10_Cut.l3 k a u v true (n : Int) = some (v, u, true, 0) := by
  intro d
  induction d with
  | zero =>
    intro k n hd hk
    obtain ⟨k, rfl⟩ : ∃ j, k = j + 1 := ⟨k - 1, by omega⟩
    unfold plumbref10_Cut.l3
    rw [if_neg (by omega)]
  | succ d ih =>
    intro k n hd hk
    obtain ⟨k, rfl⟩ : ∃ j, k = j + 1 := ⟨k - 1, by omega⟩
    unfold plumbref10_Cut.l3
    rw [if_pos (by omega), if_pos rfl, cut_inc (show n < a.size by omega) ha]
    exact ih k (n + 1) (by omega) (by omega)
theorem cut_l3 (a : ByteArray) (ha : a.size ≤ 140737488351232) (u v : Int) : ∀ (d k n : Nat), a.size - n = d → d < k → ∃ m, lemire_Cut.l3 k a u v (n : Int) = some (v, u, m, 0) ∧ plumbref10_Cut.l3 k a u v false (n : Int) = some (v, u, m, 0) := by
  intro d
  induction d with
  | zero =>
    intro k n hd hk
    obtain ⟨k, rfl⟩ : ∃ j, k = j + 1 := ⟨k - 1, by omega⟩
    unfold plumbref10_Cut.l3 lemire_Cut.l3
    rw [if_neg (by omega), if_neg (by omega)]
    exact ⟨_, rfl, rfl⟩
  | succ d ih =>
    intro k n hd hk
    obtain ⟨k, rfl⟩ : ∃ j, k = j + 1 := ⟨k - 1, by omega⟩
    have e1 : lemire_Cut.l3 (k + 1) a u v (n : Int) = if bt a (n : Int) = 48 then lemire_Cut.l3 k a u v ((n + 1 : Nat) : Int) else some (v, u, true, 0) := by
      conv => lhs; unfold lemire_Cut.l3
      rw [if_pos (by omega), if_pos (by omega), cut_inc (show n < a.size by omega) ha]
    have e2 : plumbref10_Cut.l3 (k + 1) a u v false (n : Int) = plumbref10_Cut.l3 k a u v (bt a (n : Int) != 48) ((n + 1 : Nat) : Int) := by
      conv => lhs; unfold plumbref10_Cut.l3
      rw [if_pos (by omega), if_neg (by decide), if_pos (by omega), cut_inc (show n < a.size by omega) ha]
    rw [e1, e2]
    by_cases h : bt a (n : Int) = 48
    · rw [if_pos h, h]
      exact ih k (n + 1) (by omega) (by omega)
    · rw [if_neg h, show (bt a (n : Int) != 48) = true from bne_iff_ne.2 h, cut_true a ha u v d k (n + 1) (by omega) (by omega)]
      exact ⟨_, rfl, rfl⟩
theorem cut_l2 (a : ByteArray) (ha : a.size ≤ 140737488351232) : ∀ (d k n c : Nat) (v : Int), a.size - n = d → 2 * d + 4 < k → c ≤ 19 → ∃ r, lemire_Cut.l2 k a (n : Int) v (c : Int) = some r ∧ plumbref10_Cut.l2 k a (n : Int) v (c : Int) = some r := by
  intro d
  induction d with
  | zero =>
    intro k n c v hd hk hc
    obtain ⟨k, rfl⟩ : ∃ j, k = j + 2 := ⟨k - 2, by omega⟩
    obtain ⟨m, h1, h2⟩ := cut_l3 a ha (n : Int) v 0 k n hd (by omega)
    unfold plumbref10_Cut.l2 lemire_Cut.l2
    rw [if_neg (show ¬ (n : Int) < (a.size : Int) by omega)]
    have e : (if (c : Int) < 19 then lemire_Cut.j4 (k + 1) a (n : Int) v else lemire_Cut.j4 (k + 1) a (n : Int) v) = lemire_Cut.j4 (k + 1) a (n : Int) v := by split <;> rfl
    rw [if_neg (show ¬ (n : Int) < (a.size : Int) by omega), e, lemire_Cut.j4, plumbref10_Cut.j4]
    exact ⟨_, h1, h2⟩
  | succ d ih =>
    intro k n c v hd hk hc
    obtain ⟨k, rfl⟩ : ∃ j, k = j + 2 := ⟨k - 2, by omega⟩
    unfold plumbref10_Cut.l2 lemire_Cut.l2
    have q1 : (n : Int) < (a.size : Int) := by omega
    have q2 : (0 : Int) ≤ (n : Int) := by omega
    rw [if_pos q1, if_pos q1]
    by_cases h : c < 19
    · have q3 : (c : Int) < 19 := by omega
      rw [if_pos q3, if_pos q2, if_pos q3, if_pos q2, cut_inc (show n < a.size by omega) ha, cut_inc h (by omega), Int.mul_comm v 10]
      exact ih (k + 1) (n + 1) (c + 1) _ (by omega) (by omega) (by omega)
    · have q3 : ¬ (c : Int) < 19 := by omega
      rw [if_neg q3, if_neg q3, lemire_Cut.j4, plumbref10_Cut.j4]
      obtain ⟨m, h1, h2⟩ := cut_l3 a ha (n : Int) v (d + 1) k n hd (by omega)
      exact ⟨_, h1, h2⟩
theorem cut_l1 (a : ByteArray) (ha : a.size ≤ 140737488351232) : ∀ (d k n : Nat), a.size - n = d → 3 * d + 8 < k → ∃ r, lemire_Cut.l1 k a (n : Int) = some r ∧ plumbref10_Cut.l1 k a (n : Int) = some r := by
  intro d
  induction d with
  | zero =>
    intro k n hd hk
    obtain ⟨k, rfl⟩ : ∃ j, k = j + 2 := ⟨k - 2, by omega⟩
    unfold plumbref10_Cut.l1 lemire_Cut.l1
    rw [if_neg (by omega), if_neg (by omega), lemire_Cut.j2, plumbref10_Cut.j2]
    exact cut_l2 a ha 0 k n 0 0 hd (by omega) (by omega)
  | succ d ih =>
    intro k n hd hk
    obtain ⟨k, rfl⟩ : ∃ j, k = j + 2 := ⟨k - 2, by omega⟩
    unfold plumbref10_Cut.l1 lemire_Cut.l1
    have q1 : (n : Int) < (a.size : Int) := by omega
    have q2 : (0 : Int) ≤ (n : Int) := by omega
    rw [if_pos q1, if_pos q2, if_pos q1, if_pos q2, cut_inc (show n < a.size by omega) ha]
    by_cases h : bt a (n : Int) = 48
    · rw [if_pos h, if_pos h]
      exact ih (k + 1) (n + 1) (by omega) (by omega)
    · rw [if_neg h, if_neg h, lemire_Cut.j2, plumbref10_Cut.j2]
      exact cut_l2 a ha (d + 1) k n 0 0 hd (by omega) (by omega)
theorem cut_l0 (a : ByteArray) (ha : a.size ≤ 140737488351232) : ∀ (d k n : Nat), a.size - n = d → 3 * a.size + d + 9 < k → ∃ r, lemire_Cut.l0 k a (a.size : Int) (n : Int) = some r ∧ plumbref10_Cut.l0 k a (n : Int) = some r := by
  intro d
  induction d with
  | zero =>
    intro k n hd hk
    obtain ⟨k, rfl⟩ : ∃ j, k = j + 1 := ⟨k - 1, by omega⟩
    unfold plumbref10_Cut.l0 lemire_Cut.l0
    rw [if_neg (by omega), if_neg (by omega)]
    exact cut_l1 a ha a.size k 0 (by omega) (by omega)
  | succ d ih =>
    intro k n hd hk
    obtain ⟨k, rfl⟩ : ∃ j, k = j + 1 := ⟨k - 1, by omega⟩
    unfold plumbref10_Cut.l0 lemire_Cut.l0
    have q1 : (n : Int) < (a.size : Int) := by omega
    have q2 : (0 : Int) ≤ (n : Int) := by omega
    rw [if_pos q1, if_pos q2, if_pos q1, if_pos q1, if_pos q2, cut_inc (show n < a.size by omega) ha]
    by_cases h : bt a (n : Int) < 48
    · rw [if_pos h, if_pos h]; exact ⟨_, rfl, rfl⟩
    · rw [if_neg h, if_neg h]
      by_cases h2 : bt a (n : Int) > 57
      · rw [if_pos h2, if_pos h2]; exact ⟨_, rfl, rfl⟩
      · rw [if_neg h2, if_neg h2]
        exact ih k (n + 1) (by omega) (by omega)
theorem cut_alive : plumblaw10_alive.f 200 = some true := by kernel_rfl
theorem cut_alive_at (k : Nat) (hk : 200 ≤ k) : plumblaw10_alive.f k = some true := by
  obtain ⟨d, rfl⟩ : ∃ d, k = 200 + d := ⟨k - 200, by omega⟩
  induction d with
  | zero => exact cut_alive
  | succ d ih => exact plumblaw10_alive.mono _ _ (ih (by omega))
theorem LemireCuts : plumblaw10_LemireCuts.Pure := by
  intro a ha
  obtain ⟨r, h1, h2⟩ := cut_l0 a ha a.size (4 * a.size + 300) 0 (by omega) (by omega)
  refine ⟨4 * a.size + 300, ?_⟩
  rw [plumblaw10_LemireCuts.f, lemire_Cut.f, show lemire_Cut.l0 (4 * a.size + 300) a (a.size : Int) 0 = some r from h1, Option.bind_some, plumbref10_Cut.f, show plumbref10_Cut.l0 (4 * a.size + 300) a 0 = some r from h2, Option.bind_some, cut_alive_at _ (by omega), Option.bind_some, if_pos rfl, if_pos rfl, if_pos rfl, if_pos (by simp)]
  simp
end Go.Proofs.YtoannkopciehcaaDoor.Pure

namespace Go.Proofs.YtoannkopciehcaaDoorW.PrintWords
open Go
theorem trod_words {H : Type} {enc : TypeId × Value → H} {P : Program} {w : World} {base : Nat} {spare : Nat → Bool} {held : Bool} {fuel : Nat} {ty e : TypeId} {n : Nat} {k : IntKind} {cs : List Value} {L : List Int} {p : List MemPlace}
    (hu : P.underlying ty = some (.array n e)) (he : P.underlying e = some (.int k)) (hc : P.cellsOf e = 1)
    (h : DataW.trod enc P w base spare held fuel ty cs = some (.agg (L.map fun x => .lit (.int k x)), p)) : ∀ i, i < n → cs[i]? = some (.int k (L.getD i 0)) := by
  obtain ⟨xs, m, rfl, hx, hlen, hn, hel⟩ := DataW.trod_array hu h
  intro i hi
  have h1 := hel i hi
  rw [hc, Nat.mul_one] at h1
  have hxi : i < xs.length := by omega
  rw [List.getElem?_eq_getElem hxi] at h1
  obtain ⟨z, e1, e2, _⟩ := DataW.trod_int he h1
  simp only [Prod.mk.injEq, DataW.agg.injEq] at hx
  have h2 : (L.map fun x => (DataW.lit (.int k x) : DataW H))[i]? = (xs.map (·.1))[i]? := by rw [hx.1]
  rw [List.getElem?_map, List.getElem?_map, List.getElem?_eq_getElem hxi, e2] at h2
  have h3 : L[i]? = some z := by
    cases hL : L[i]? with
    | none => rw [hL] at h2; simp at h2
    | some y => rw [hL] at h2; simp at h2; rw [h2]
  have h4 : cs[i]? = some (.int k z) := by
    have h5 : ((cs.drop i).take 1)[0]? = some (.int k z) := by rw [e1]; rfl
    rw [List.getElem?_take, if_pos (by decide), List.getElem?_drop, Nat.add_zero] at h5
    exact h5
  rw [h4, List.getD_eq_getElem?_getD, h3]
  rfl
end Go.Proofs.YtoannkopciehcaaDoorW.PrintWords
