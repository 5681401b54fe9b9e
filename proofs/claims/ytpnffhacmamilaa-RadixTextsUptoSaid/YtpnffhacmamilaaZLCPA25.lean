/- PA25: a part of the proof. -/
-- made by program (wip/tools of this work) out of the translation; Lean checks it
import Derived.Test.YtpnffhacmamilaaZLCPA0
import Derived.Test.YtpnffhacmamilaaZLCPA22
import Derived.Test.YtpnffhacmamilaaZLCPA23
import Derived.Test.YtpnffhacmamilaaZLCPA24
namespace Go.Proofs.Ytpnffhacmamilaa.PA
open Go.RowKit Go.Proofs.YtpnffhacmamilaaW.PrintWords Go.Proofs.YtpnffhacmamilaaW.PrintLast Go.Proofs.YtpnffhacmamilaaW.PrintMore
attribute [local go_sem] max2_int min2_int max_two min_two max_three min_three max_four min_four   -- for this text's walks alone
set_option linter.unusedVariables false
set_option linter.unusedSimpArgs false

/-! ### plumbref04_Text: function 29 -/
mutual
def plumbref04_Text.j0 : Nat → List Int → Int → Bool → Option (ByteArray × Int)
  | 0, _, _, _ => none
  | k + 1, x0, x1, x21 => if x21 = true then (some ((⟨#[]⟩ : ByteArray), 40)) else ((plumbref04_TooLong.f k x0).bind fun t312 => (if t312 = true then (some ((⟨#[]⟩ : ByteArray), 21)) else ((plumbref04_step.f k x1).bind fun bt313 => ((plumbref04_limbs.f k x0).bind fun t315 => (plumbref04_Text.l0 k x1 (⟨#[48, 49, 50, 51, 52, 53, 54, 55, 56, 57, 97, 98, 99, 100, 101, 102, 103, 104, 105, 106, 107, 108, 109, 110, 111, 112, 113, 114, 115, 116, 117, 118, 119, 120, 121, 122]⟩ : ByteArray) bt313.1 bt313.2 t315 ([] : List Int))))))
def plumbref04_Text.l0 : Nat → Int → ByteArray → Int → Int → List Int → List Int → Option (ByteArray × Int)
  | 0, _, _, _, _, _, _ => none
  | k + 1, x1, x6, x7, x8, x9, x10 => if (x9.length : Int) > 0 then ((plumbref04_take.f k x9 x7).bind fun bt318 => (plumbref04_Text.l1 k x1 x6 x7 x8 bt318.1 x10 bt318.2 0)) else (plumbref04_Text.l2 k x10)
def plumbref04_Text.l1 : Nat → Int → ByteArray → Int → Int → List Int → List Int → Int → Int → Option (ByteArray × Int)
  | 0, _, _, _, _, _, _, _, _ => none
  | k + 1, x1, x6, x7, x8, x9, x10, x11, x12 => if x12 < x8 then (if (IntKind.u64.wrap (x1)) = 0 then (none) else (if 0 ≤ (wrap64 (Int.tmod x11 (IntKind.u64.wrap (x1)))) then (if (wrap64 (Int.tmod x11 (IntKind.u64.wrap (x1)))) < (x6.size : Int) then (if x10.length < 140737488355328 then (plumbref04_Text.l1 k x1 x6 x7 x8 x9 (x10 ++ [bt x6 (wrap64 (Int.tmod x11 (IntKind.u64.wrap (x1))))]) (IntKind.u64.wrap (Int.tdiv x11 (IntKind.u64.wrap (x1)))) (wrap64 (x12 + 1))) else (none)) else (none)) else (none))) else (plumbref04_Text.l0 k x1 x6 x7 x8 x9 x10)
def plumbref04_Text.j4 : Nat → List Int → Option (ByteArray × Int)
  | 0, _ => none
  | k + 1, x10 => if (x10.length : Int) = 0 then (some ((⟨#[48]⟩ : ByteArray), 0)) else (plumbref04_Text.l3 k x10 0)
def plumbref04_Text.l3 : Nat → List Int → Int → Option (ByteArray × Int)
  | 0, _, _ => none
  | k + 1, x10, x13 => if x13 < (wrap64 ((x10.length : Int) / 2)) then (if 0 ≤ x13 then (if x13 < (x10.length : Int) then (if 0 ≤ (wrap64 ((wrap64 ((x10.length : Int) - 1)) - x13)) then (if (wrap64 ((wrap64 ((x10.length : Int) - 1)) - x13)) < (x10.length : Int) then (plumbref04_Text.l3 k ((x10.set (x13 : Int).toNat (rd x10 (wrap64 ((wrap64 ((x10.length : Int) - 1)) - x13)))).set ((wrap64 ((wrap64 ((x10.length : Int) - 1)) - x13)) : Int).toNat (rd x10 x13)) (wrap64 (x13 + 1))) else (none)) else (none)) else (none)) else (none)) else (some (strOfNums x10, 0))
def plumbref04_Text.l2 : Nat → List Int → Option (ByteArray × Int)
  | 0, _ => none
  | k + 1, x10 => if (x10.length : Int) > 0 then (if 0 ≤ (wrap64 ((x10.length : Int) - 1)) then (if (wrap64 ((x10.length : Int) - 1)) < (x10.length : Int) then (if (rd x10 (wrap64 ((x10.length : Int) - 1))) = 48 then (if (wrap64 ((x10.length : Int) - 1)) ≤ (x10.length : Int) then (plumbref04_Text.l2 k (x10.take ((wrap64 ((x10.length : Int) - 1)) : Int).toNat)) else (none)) else (plumbref04_Text.j4 k x10)) else (none)) else (none)) else (plumbref04_Text.j4 k x10)
end
def plumbref04_Text.f (k : Nat) (l0 : List Int) (a1 : Int) : Option (ByteArray × Int) := if a1 < 2 then (plumbref04_Text.j0 k l0 a1 true) else (plumbref04_Text.j0 k l0 a1 (decide (a1 > 36)))
theorem plumbref04_Text.mono_l : ∀ k, (∀ y0 y1 y2, LeO (plumbref04_Text.j0 k y0 y1 y2) (plumbref04_Text.j0 (k + 1) y0 y1 y2)) ∧ (∀ y0 y1 y2 y3 y4 y5, LeO (plumbref04_Text.l0 k y0 y1 y2 y3 y4 y5) (plumbref04_Text.l0 (k + 1) y0 y1 y2 y3 y4 y5)) ∧ (∀ y0 y1 y2 y3 y4 y5 y6 y7, LeO (plumbref04_Text.l1 k y0 y1 y2 y3 y4 y5 y6 y7) (plumbref04_Text.l1 (k + 1) y0 y1 y2 y3 y4 y5 y6 y7)) ∧ (∀ y0, LeO (plumbref04_Text.j4 k y0) (plumbref04_Text.j4 (k + 1) y0)) ∧ (∀ y0 y1, LeO (plumbref04_Text.l3 k y0 y1) (plumbref04_Text.l3 (k + 1) y0 y1)) ∧ (∀ y0, LeO (plumbref04_Text.l2 k y0) (plumbref04_Text.l2 (k + 1) y0))
  | 0 => ⟨fun _ _ _ r h => by simp [plumbref04_Text.j0] at h, fun _ _ _ _ _ _ r h => by simp [plumbref04_Text.l0] at h, fun _ _ _ _ _ _ _ _ r h => by simp [plumbref04_Text.l1] at h, fun _ r h => by simp [plumbref04_Text.j4] at h, fun _ _ r h => by simp [plumbref04_Text.l3] at h, fun _ r h => by simp [plumbref04_Text.l2] at h⟩
  | k + 1 => by
    obtain ⟨ih0, ih1, ih2, ih3, ih4, ih5⟩ := plumbref04_Text.mono_l k
    refine ⟨?_, ?_, ?_, ?_, ?_, ?_⟩
    · intro y0 y1 y2
      unfold plumbref04_Text.j0
      repeat' first
      | (with_reducible exact ih0 _ _ _)
      | (with_reducible exact ih1 _ _ _ _ _ _)
      | (with_reducible exact ih2 _ _ _ _ _ _ _ _)
      | (with_reducible exact ih3 _)
      | (with_reducible exact ih4 _ _)
      | (with_reducible exact ih5 _)
      | (with_reducible exact plumbref04_TooLong.mono _ _)
      | (with_reducible exact plumbref04_limbs.mono _ _)
      | (with_reducible exact plumbref04_step.mono _ _)
      | (with_reducible exact plumbref04_take.mono _ _ _)
      | (with_reducible exact LeO.refl _)
      | (with_reducible exact LeO.none _)
      | (with_reducible refine LeO.ite ?_ ?_)
      | (with_reducible refine LeO.bind ?_ (fun _ => ?_))
      | exact ih0 _ _ _
      | exact ih1 _ _ _ _ _ _
      | exact ih2 _ _ _ _ _ _ _ _
      | exact ih3 _
      | exact ih4 _ _
      | exact ih5 _
      | exact plumbref04_TooLong.mono _ _
      | exact plumbref04_limbs.mono _ _
      | exact plumbref04_step.mono _ _
      | exact plumbref04_take.mono _ _ _
      | exact LeO.none _
      | refine LeO.ite ?_ ?_
      | refine LeO.bind ?_ (fun _ => ?_)
    · intro y0 y1 y2 y3 y4 y5
      unfold plumbref04_Text.l0
      repeat' first
      | (with_reducible exact ih0 _ _ _)
      | (with_reducible exact ih1 _ _ _ _ _ _)
      | (with_reducible exact ih2 _ _ _ _ _ _ _ _)
      | (with_reducible exact ih3 _)
      | (with_reducible exact ih4 _ _)
      | (with_reducible exact ih5 _)
      | (with_reducible exact plumbref04_TooLong.mono _ _)
      | (with_reducible exact plumbref04_limbs.mono _ _)
      | (with_reducible exact plumbref04_step.mono _ _)
      | (with_reducible exact plumbref04_take.mono _ _ _)
      | (with_reducible exact LeO.refl _)
      | (with_reducible exact LeO.none _)
      | (with_reducible refine LeO.ite ?_ ?_)
      | (with_reducible refine LeO.bind ?_ (fun _ => ?_))
      | exact ih0 _ _ _
      | exact ih1 _ _ _ _ _ _
      | exact ih2 _ _ _ _ _ _ _ _
      | exact ih3 _
      | exact ih4 _ _
      | exact ih5 _
      | exact plumbref04_TooLong.mono _ _
      | exact plumbref04_limbs.mono _ _
      | exact plumbref04_step.mono _ _
      | exact plumbref04_take.mono _ _ _
      | exact LeO.none _
      | refine LeO.ite ?_ ?_
      | refine LeO.bind ?_ (fun _ => ?_)
    · intro y0 y1 y2 y3 y4 y5 y6 y7
      unfold plumbref04_Text.l1
      repeat' first
      | (with_reducible exact ih0 _ _ _)
      | (with_reducible exact ih1 _ _ _ _ _ _)
      | (with_reducible exact ih2 _ _ _ _ _ _ _ _)
      | (with_reducible exact ih3 _)
      | (with_reducible exact ih4 _ _)
      | (with_reducible exact ih5 _)
      | (with_reducible exact plumbref04_TooLong.mono _ _)
      | (with_reducible exact plumbref04_limbs.mono _ _)
      | (with_reducible exact plumbref04_step.mono _ _)
      | (with_reducible exact plumbref04_take.mono _ _ _)
      | (with_reducible exact LeO.refl _)
      | (with_reducible exact LeO.none _)
      | (with_reducible refine LeO.ite ?_ ?_)
      | (with_reducible refine LeO.bind ?_ (fun _ => ?_))
      | exact ih0 _ _ _
      | exact ih1 _ _ _ _ _ _
      | exact ih2 _ _ _ _ _ _ _ _
      | exact ih3 _
      | exact ih4 _ _
      | exact ih5 _
      | exact plumbref04_TooLong.mono _ _
      | exact plumbref04_limbs.mono _ _
      | exact plumbref04_step.mono _ _
      | exact plumbref04_take.mono _ _ _
      | exact LeO.none _
      | refine LeO.ite ?_ ?_
      | refine LeO.bind ?_ (fun _ => ?_)
    · intro y0
      unfold plumbref04_Text.j4
      repeat' first
      | (with_reducible exact ih0 _ _ _)
      | (with_reducible exact ih1 _ _ _ _ _ _)
      | (with_reducible exact ih2 _ _ _ _ _ _ _ _)
      | (with_reducible exact ih3 _)
      | (with_reducible exact ih4 _ _)
      | (with_reducible exact ih5 _)
      | (with_reducible exact plumbref04_TooLong.mono _ _)
      | (with_reducible exact plumbref04_limbs.mono _ _)
      | (with_reducible exact plumbref04_step.mono _ _)
      | (with_reducible exact plumbref04_take.mono _ _ _)
      | (with_reducible exact LeO.refl _)
      | (with_reducible exact LeO.none _)
      | (with_reducible refine LeO.ite ?_ ?_)
      | (with_reducible refine LeO.bind ?_ (fun _ => ?_))
      | exact ih0 _ _ _
      | exact ih1 _ _ _ _ _ _
      | exact ih2 _ _ _ _ _ _ _ _
      | exact ih3 _
      | exact ih4 _ _
      | exact ih5 _
      | exact plumbref04_TooLong.mono _ _
      | exact plumbref04_limbs.mono _ _
      | exact plumbref04_step.mono _ _
      | exact plumbref04_take.mono _ _ _
      | exact LeO.none _
      | refine LeO.ite ?_ ?_
      | refine LeO.bind ?_ (fun _ => ?_)
    · intro y0 y1
      unfold plumbref04_Text.l3
      repeat' first
      | (with_reducible exact ih0 _ _ _)
      | (with_reducible exact ih1 _ _ _ _ _ _)
      | (with_reducible exact ih2 _ _ _ _ _ _ _ _)
      | (with_reducible exact ih3 _)
      | (with_reducible exact ih4 _ _)
      | (with_reducible exact ih5 _)
      | (with_reducible exact plumbref04_TooLong.mono _ _)
      | (with_reducible exact plumbref04_limbs.mono _ _)
      | (with_reducible exact plumbref04_step.mono _ _)
      | (with_reducible exact plumbref04_take.mono _ _ _)
      | (with_reducible exact LeO.refl _)
      | (with_reducible exact LeO.none _)
      | (with_reducible refine LeO.ite ?_ ?_)
      | (with_reducible refine LeO.bind ?_ (fun _ => ?_))
      | exact ih0 _ _ _
      | exact ih1 _ _ _ _ _ _
      | exact ih2 _ _ _ _ _ _ _ _
      | exact ih3 _
      | exact ih4 _ _
      | exact ih5 _
      | exact plumbref04_TooLong.mono _ _
      | exact plumbref04_limbs.mono _ _
      | exact plumbref04_step.mono _ _
      | exact plumbref04_take.mono _ _ _
      | exact LeO.none _
      | refine LeO.ite ?_ ?_
      | refine LeO.bind ?_ (fun _ => ?_)
    · intro y0
      unfold plumbref04_Text.l2
      repeat' first
      | (with_reducible exact ih0 _ _ _)
      | (with_reducible exact ih1 _ _ _ _ _ _)
      | (with_reducible exact ih2 _ _ _ _ _ _ _ _)
      | (with_reducible exact ih3 _)
      | (with_reducible exact ih4 _ _)
      | (with_reducible exact ih5 _)
      | (with_reducible exact plumbref04_TooLong.mono _ _)
      | (with_reducible exact plumbref04_limbs.mono _ _)
      | (with_reducible exact plumbref04_step.mono _ _)
      | (with_reducible exact plumbref04_take.mono _ _ _)
      | (with_reducible exact LeO.refl _)
      | (with_reducible exact LeO.none _)
      | (with_reducible refine LeO.ite ?_ ?_)
      | (with_reducible refine LeO.bind ?_ (fun _ => ?_))
      | exact ih0 _ _ _
      | exact ih1 _ _ _ _ _ _
      | exact ih2 _ _ _ _ _ _ _ _
      | exact ih3 _
      | exact ih4 _ _
      | exact ih5 _
      | exact plumbref04_TooLong.mono _ _
      | exact plumbref04_limbs.mono _ _
      | exact plumbref04_step.mono _ _
      | exact plumbref04_take.mono _ _ _
      | exact LeO.none _
      | refine LeO.ite ?_ ?_
      | refine LeO.bind ?_ (fun _ => ?_)
theorem plumbref04_Text.mono : ∀ a0 a1 k, LeO (plumbref04_Text.f k a0 a1) (plumbref04_Text.f (k + 1) a0 a1) := by
  intro a0 a1 k
  obtain ⟨ih0, ih1, ih2, ih3, ih4, ih5⟩ := plumbref04_Text.mono_l k
  unfold plumbref04_Text.f
  repeat' first
      | (with_reducible exact ih0 _ _ _)
      | (with_reducible exact ih1 _ _ _ _ _ _)
      | (with_reducible exact ih2 _ _ _ _ _ _ _ _)
      | (with_reducible exact ih3 _)
      | (with_reducible exact ih4 _ _)
      | (with_reducible exact ih5 _)
      | (with_reducible exact plumbref04_TooLong.mono _ _)
      | (with_reducible exact plumbref04_limbs.mono _ _)
      | (with_reducible exact plumbref04_step.mono _ _)
      | (with_reducible exact plumbref04_take.mono _ _ _)
      | (with_reducible exact LeO.refl _)
      | (with_reducible exact LeO.none _)
      | (with_reducible refine LeO.ite ?_ ?_)
      | (with_reducible refine LeO.bind ?_ (fun _ => ?_))
      | exact ih0 _ _ _
      | exact ih1 _ _ _ _ _ _
      | exact ih2 _ _ _ _ _ _ _ _
      | exact ih3 _
      | exact ih4 _ _
      | exact ih5 _
      | exact plumbref04_TooLong.mono _ _
      | exact plumbref04_limbs.mono _ _
      | exact plumbref04_step.mono _ _
      | exact plumbref04_take.mono _ _ _
      | exact LeO.none _
      | refine LeO.ite ?_ ?_
      | refine LeO.bind ?_ (fun _ => ?_)
set_option maxHeartbeats 8000000 in
set_option maxRecDepth 100000 in
theorem plumbref04_Text.calls (k : Nat) (A0 : Option Addr) (c0 : Nat) (l0 : List Int) (a1 : Int) (r1 : ByteArray) (r2 : Int) (w : World) (hr0 : Kd.C (Kd.int .u64) w A0 l0.length l0) (hc0 : l0.length ≤ c0) (h : plumbref04_Text.f k l0 a1 = some (r1, r2)) :
    Calls Try.prog 29 #[.slice A0 l0.length c0, .int .i64 a1] w fun e w' => e = .returned (.tuple #[.string r1, .int .i64 r2]) ∧ Below w.heap.size w w' := by
  have HR0 := Aside0.mk hr0
  have HC0 := Aside0.mk hc0
  clear hr0 hc0
  have HB := Aside0.mk (Below.refl w.heap.size w)
  have H : (if a1 < 2 then (plumbref04_Text.j0 k l0 a1 true) else (plumbref04_Text.j0 k l0 a1 (decide (a1 > 36)))) = some (r1, r2) := h
  clear h
  have HC3 := Aside0.mk H
  clear H
  go_enter Try.func29, Try.ntmps29
  go_upto_region 1 with (fail)
  go_cut [21] (fun v21 wc => ∃ (kq : Nat) (x21_2 : Bool), v21 = .bool x21_2 ∧ Aside0 (plumbref04_Text.j0 kq l0 a1 x21_2 = some (r1, r2)) ∧ Aside0 (kq ≤ k) ∧ Aside0 (Below w.heap.size w wc))
  case first =>
    have H := HC3.out
    clear HC3
    by_cases c4 : a1 < 2
    · rw [if_pos c4] at H
      have c4b0 : decide (a1 < 2) = true := decide_eq_true c4
      clear c4
      (first | rw [c4b0] | (simp only [i64_w, i32_w]; rw [c4b0]) | skip)
      have H' := Aside0.mk H
      clear H
      go_wp2
      go_meet
      case rel => exact ⟨_, (true), (by first | rfl | (simp; done) | (simp [*]; done)), H', ⟨by first | omega | exact Nat.le_refl _⟩, ⟨by repeat (first | (with_reducible first | exact HB.out | apply below_alloc | apply pw_below_drewN | apply below_drew1) | exact HB.out)⟩⟩
    · rw [if_neg c4] at H
      have c4b0 : decide (a1 < 2) = false := decide_eq_false c4
      clear c4
      (first | rw [c4b0] | (simp only [i64_w, i32_w]; rw [c4b0]) | skip)
      have H' := Aside0.mk H
      clear H
      go_wp2
      go_meet
      case rel => exact ⟨_, (decide (a1 > 36)), (by first | rfl | (simp; done) | (simp [*]; done)), H', ⟨by first | omega | exact Nat.le_refl _⟩, ⟨by repeat (first | (with_reducible first | exact HB.out | apply below_alloc | apply pw_below_drewN | apply below_drew1) | exact HB.out)⟩⟩
  case rest =>
    clear HC3
    try clear c2
    try clear p2
    try clear c4
    try clear c4b0
    obtain ⟨kq, x21_2, rfl, HA, HJ2, HB⟩ := hcut
    cases kq with
    | zero => exact absurd HA.out (by simp [plumbref04_Text.j0])
    | succ kj2 =>
      have H := HA.out
      clear HA
      simp only [plumbref04_Text.j0] at H
      by_cases c5 : x21_2 = true
      · subst c5
        have H1 : (some ((⟨#[]⟩ : ByteArray), 40)) = some (r1, r2) := by rw [if_pos rfl] at H; exact H
        clear H
        have H := H1
        clear H1
        simp only [Option.some.injEq, Prod.mk.injEq] at H
        obtain ⟨rfl, rfl⟩ := H
        go_wp2
        go_ret2
        exact ⟨by first | rfl | (simp [errW_none, errW_some] <;> rfl) | (simp [*, errW_none, errW_some] <;> rfl), by repeat (first | (with_reducible first | exact HB.out | apply below_alloc | apply pw_below_drewN | apply below_drew1) | exact HB.out)⟩
      · replace c5 := Bool.eq_false_iff.mpr c5
        subst c5
        have H1 : ((plumbref04_TooLong.f kj2 l0).bind fun t312 => (if t312 = true then (some ((⟨#[]⟩ : ByteArray), 21)) else ((plumbref04_step.f kj2 a1).bind fun bt313 => ((plumbref04_limbs.f kj2 l0).bind fun t315 => (plumbref04_Text.l0 kj2 a1 (⟨#[48, 49, 50, 51, 52, 53, 54, 55, 56, 57, 97, 98, 99, 100, 101, 102, 103, 104, 105, 106, 107, 108, 109, 110, 111, 112, 113, 114, 115, 116, 117, 118, 119, 120, 121, 122]⟩ : ByteArray) bt313.1 bt313.2 t315 ([] : List Int)))))) = some (r1, r2) := by rw [if_neg (show ¬ (false = true) by decide)] at H; exact H
        clear H
        have H := H1
        clear H1
        replace H := Option.bind_eq_some_iff.mp H
        obtain ⟨t312, A60, H⟩ := H
        replace H : (if t312 = true then (some ((⟨#[]⟩ : ByteArray), 21)) else ((plumbref04_step.f kj2 a1).bind fun bt313 => ((plumbref04_limbs.f kj2 l0).bind fun t315 => (plumbref04_Text.l0 kj2 a1 (⟨#[48, 49, 50, 51, 52, 53, 54, 55, 56, 57, 97, 98, 99, 100, 101, 102, 103, 104, 105, 106, 107, 108, 109, 110, 111, 112, 113, 114, 115, 116, 117, 118, 119, 120, 121, 122]⟩ : ByteArray) bt313.1 bt313.2 t315 ([] : List Int))))) = some (r1, r2) := H
        have A6 := Aside0.mk A60
        clear A60
        by_cases c7 : t312 = true
        · subst c7
          have H1 : (some ((⟨#[]⟩ : ByteArray), 21)) = some (r1, r2) := by rw [if_pos rfl] at H; exact H
          clear H
          have H := H1
          clear H1
          simp only [Option.some.injEq, Prod.mk.injEq] at H
          obtain ⟨rfl, rfl⟩ := H
          go_wp2_with (first | ((with_reducible refine gate_callee (f := 53) rfl ?_); refine goesL_ (some 23) rfl rfl Try.func53 (by kernel_rfl) rfl #[.slice A0 l0.length c0] rfl (by (try simp only [List.map_toArray, List.map_cons, List.map_nil]); first | done | rfl | (simp only [List.length_drop, List.length_take]; rfl)) ?_; (with_reducible refine (plumbref04_TooLong.calls kj2 _ _ l0 true _ ?side1 ?side2 A6.out).mono ?_); (case side1 => repeat (first | exact (Kd.C_below HR0.out HB.out) | (with_reducible refine Kd.C_alloc ?_ _) | (with_reducible refine Kd.C_drewN ?_ _) | (with_reducible refine Kd.C_drew ?_))); (case side2 => exact HC0.out); rintro e w' ⟨rfl, ⟨nd, rfl⟩⟩; refine ⟨_, rfl, ?_⟩))
          go_ret2
          exact ⟨by first | rfl | (simp [errW_none, errW_some] <;> rfl) | (simp [*, errW_none, errW_some] <;> rfl), by repeat (first | (with_reducible first | exact HB.out | apply below_alloc | apply pw_below_drewN | apply below_drew1) | exact HB.out)⟩
        · replace c7 := Bool.eq_false_iff.mpr c7
          subst c7
          have H1 : ((plumbref04_step.f kj2 a1).bind fun bt313 => ((plumbref04_limbs.f kj2 l0).bind fun t315 => (plumbref04_Text.l0 kj2 a1 (⟨#[48, 49, 50, 51, 52, 53, 54, 55, 56, 57, 97, 98, 99, 100, 101, 102, 103, 104, 105, 106, 107, 108, 109, 110, 111, 112, 113, 114, 115, 116, 117, 118, 119, 120, 121, 122]⟩ : ByteArray) bt313.1 bt313.2 t315 ([] : List Int)))) = some (r1, r2) := by rw [if_neg (show ¬ (false = true) by decide)] at H; exact H
          clear H
          have H := H1
          clear H1
          replace H := Option.bind_eq_some_iff.mp H
          obtain ⟨⟨t313, t314⟩, A80, H⟩ := H
          replace H : ((plumbref04_limbs.f kj2 l0).bind fun t315 => (plumbref04_Text.l0 kj2 a1 (⟨#[48, 49, 50, 51, 52, 53, 54, 55, 56, 57, 97, 98, 99, 100, 101, 102, 103, 104, 105, 106, 107, 108, 109, 110, 111, 112, 113, 114, 115, 116, 117, 118, 119, 120, 121, 122]⟩ : ByteArray) t313 t314 t315 ([] : List Int))) = some (r1, r2) := H
          have A8 := Aside0.mk A80
          clear A80
          replace H := Option.bind_eq_some_iff.mp H
          obtain ⟨t315, A90, H⟩ := H
          replace H : (plumbref04_Text.l0 kj2 a1 (⟨#[48, 49, 50, 51, 52, 53, 54, 55, 56, 57, 97, 98, 99, 100, 101, 102, 103, 104, 105, 106, 107, 108, 109, 110, 111, 112, 113, 114, 115, 116, 117, 118, 119, 120, 121, 122]⟩ : ByteArray) t313 t314 t315 ([] : List Int)) = some (r1, r2) := H
          have A9 := Aside0.mk A90
          clear A90
          have H' := Aside0.mk H
          clear H
          go_wp2_with (first | ((with_reducible refine gate_callee (f := 53) rfl ?_); refine goesL_ (some 23) rfl rfl Try.func53 (by kernel_rfl) rfl #[.slice A0 l0.length c0] rfl (by (try simp only [List.map_toArray, List.map_cons, List.map_nil]); first | done | rfl | (simp only [List.length_drop, List.length_take]; rfl)) ?_; (with_reducible refine (plumbref04_TooLong.calls kj2 _ _ l0 false _ ?side1 ?side2 A6.out).mono ?_); (case side1 => repeat (first | exact (Kd.C_below HR0.out HB.out) | (with_reducible refine Kd.C_alloc ?_ _) | (with_reducible refine Kd.C_drewN ?_ _) | (with_reducible refine Kd.C_drew ?_))); (case side2 => exact HC0.out); rintro e w' ⟨rfl, ⟨nd, rfl⟩⟩; refine ⟨_, rfl, ?_⟩) | ((with_reducible refine gate_callee (f := 54) rfl ?_); refine goesL_ (some 26) rfl rfl Try.func54 (by kernel_rfl) rfl #[.int .i64 a1] rfl (by (try simp only [List.map_toArray, List.map_cons, List.map_nil]); first | done | rfl | (simp only [List.length_drop, List.length_take]; rfl)) ?_; (with_reducible refine (plumbref04_step.calls kj2 a1 t313 t314 _ A8.out).mono ?_); rintro e w' ⟨rfl, ⟨nd, rfl⟩⟩; refine ⟨_, rfl, ?_⟩) | ((with_reducible refine gate_callee (f := 55) rfl ?_); refine goesL_ (some 30) rfl rfl Try.func55 (by kernel_rfl) rfl #[.slice A0 l0.length c0] rfl (by (try simp only [List.map_toArray, List.map_cons, List.map_nil]); first | done | rfl | (simp only [List.length_drop, List.length_take]; rfl)) ?_; (with_reducible refine (plumbref04_limbs.calls kj2 _ _ l0 t315 _ ?side1 ?side2 A9.out).mono ?_); (case side1 => repeat (first | exact (Kd.C_below HR0.out (by repeat (first | (with_reducible first | exact HB.out | apply below_alloc | apply pw_below_drewN | apply below_drew1) | exact HB.out))) | (with_reducible refine Kd.C_alloc ?_ _) | (with_reducible refine Kd.C_drewN ?_ _) | (with_reducible refine Kd.C_drew ?_))); (case side2 => exact HC0.out); rintro e w10 ⟨v316, rfl, ho0, hb⟩; refine ⟨_, rfl, ?_⟩; have n0_ := Aside0.mk (Kd.R_lower ho0 (below_size (by repeat (first | (with_reducible first | exact HB.out | apply below_alloc | apply pw_below_drewN | apply below_drew1) | exact HB.out)))); have n1_ := Aside0.mk (below_step (by repeat (first | (with_reducible first | exact HB.out | apply below_alloc | apply pw_below_drewN | apply below_drew1) | exact HB.out)) hb); clear HB; have HO317 := n0_; have HB := n1_; clear n0_ n1_; (try clear hb); (try clear hb2); (try clear hk); (try clear hi); (try clear ho0)))
          go_loopg [9, 10] kj2 (fun kq v9 v10 w' => ∃ (x9_2 : List Int) (x10_2 : List Int), Aside0 (plumbref04_Text.l0 kq a1 (⟨#[48, 49, 50, 51, 52, 53, 54, 55, 56, 57, 97, 98, 99, 100, 101, 102, 103, 104, 105, 106, 107, 108, 109, 110, 111, 112, 113, 114, 115, 116, 117, 118, 119, 120, 121, 122]⟩ : ByteArray) t313 t314 x9_2 x10_2 = some (r1, r2)) ∧ Aside0 (kq ≤ kj2) ∧ Aside0 (Kd.R (Kd.int .u64) 39 w' w.heap.size (fun _ => True) v9 x9_2) ∧ Aside0 (Kd.R (Kd.int .u8) 5 w' w.heap.size (fun _ => True) v10 x10_2) ∧ Aside0 (Below w.heap.size w w'))
          case atStart => exact ⟨(t315), (([] : List Int)), H', ⟨Nat.le_refl _⟩, ⟨by (with_reducible repeat (first | apply Kd.R_alloc | apply Kd.R_drewN | apply Kd.R_drew)); exact HO317.out⟩, ⟨by first | exact Kd.R_nil _ _ _ _ _ | exact Kd.N_nil _ _ _ _ _ | exact Kd.V_nil _ _ _ _ _ | exact Kd.Q_nil _ _ _ _ _ | exact Kd.S_nil _ _ _ _ _⟩, ⟨by repeat (first | (with_reducible first | exact HB.out | apply below_alloc | apply pw_below_drewN | apply below_drew1) | exact HB.out)⟩⟩
          case round =>
            clear H'
            try clear c2
            try clear p2
            try clear c4
            try clear c4b0
            try clear c5
            try clear c7
            try clear p2
            obtain ⟨x9_2, x10_2, HA, HK2, HO_9, HO_10, HB⟩ := hrel
            cases gk with
            | zero => exact absurd HA.out (by simp [plumbref04_Text.l0])
            | succ k2 =>
              have H := HA.out
              clear HA
              simp only [plumbref04_Text.l0] at H
              by_cases c11 : (x9_2.length : Int) > 0
              · rw [if_pos c11] at H
                have c11b0 : decide (0 < (x9_2.length : Int)) = true := decide_eq_true c11
                have c11b1 : decide (0 < x9_2.length) = true := decide_eq_true (by omega)
                clear c11
                replace H := Option.bind_eq_some_iff.mp H
                obtain ⟨⟨t318, t321⟩, A120, H⟩ := H
                replace H : (plumbref04_Text.l1 k2 a1 (⟨#[48, 49, 50, 51, 52, 53, 54, 55, 56, 57, 97, 98, 99, 100, 101, 102, 103, 104, 105, 106, 107, 108, 109, 110, 111, 112, 113, 114, 115, 116, 117, 118, 119, 120, 121, 122]⟩ : ByteArray) t313 t314 t318 x10_2 t321 0) = some (r1, r2) := H
                have A12 := Aside0.mk A120
                clear A120
                have H' := Aside0.mk H
                clear H
                obtain ⟨Ao13, co13, eo13⟩ := Kd.R_slice HO_9.out
                subst eo13
                go_wp2_with (first | ((with_reducible refine gate_callee (f := 56) rfl ?_); refine goesL_ (some 37) rfl rfl Try.func56 (by kernel_rfl) rfl #[.slice Ao13 x9_2.length co13, .int .u64 t313] rfl (by (try simp only [List.map_toArray, List.map_cons, List.map_nil]); first | done | rfl | (simp only [List.length_drop, List.length_take]; rfl)) ?_; (with_reducible refine (plumbref04_take.calls k2 (fun k_ => some k_ = (.slice Ao13 x9_2.length co13 : Value).ownBlock) (.slice Ao13 x9_2.length co13) x9_2 t313 t318 t321 w _ ?side1 ?side2 A12.out).mono ?_); (case side1 => repeat (first | (with_reducible first | exact HB.out | apply below_alloc | apply pw_below_drewN | apply below_drew1) | exact HB.out)); (case side2 => exact Kd.R_tight rfl HO_9.out); rintro e w14 ⟨v319, rfl, ho0, hb, hkp⟩; refine ⟨_, rfl, ?_⟩; have n0_ := Aside0.mk (Kd.R_mono (ok' := fun k_ => True) (Kd.R_keptB ((Kd.R_apart' HO_10.out (Kd.R_typed HO_9.out) (by decide))) hkp (fun k_ hk_ hs_ => (hk_.2) hs_)) (fun k_ hk_ => trivial)); have n1_ := Aside0.mk (Kd.R_mono (ok' := fun k_ => True) ho0 (fun k_ hk_ => trivial)); have n2_ := Aside0.mk (hb); clear HO_10; clear HB; clear HO_9; have HO_10 := n0_; have HO320 := n1_; have HB := n2_; clear n0_ n1_ n2_; (try clear hb); (try clear hkp); (try clear ho0)))
                go_loopg [10, 11, 12] k2 (fun kq v10 v11 v12 w' => ∃ (x10_3 : List Int) (x11_3 : Int) (x12_3 : Int), v11 = .int .u64 x11_3 ∧ v12 = .int .i64 x12_3 ∧ Aside0 (plumbref04_Text.l1 kq a1 (⟨#[48, 49, 50, 51, 52, 53, 54, 55, 56, 57, 97, 98, 99, 100, 101, 102, 103, 104, 105, 106, 107, 108, 109, 110, 111, 112, 113, 114, 115, 116, 117, 118, 119, 120, 121, 122]⟩ : ByteArray) t313 t314 t318 x10_3 x11_3 x12_3 = some (r1, r2)) ∧ Aside0 (kq ≤ k2) ∧ Aside0 (Kd.R (Kd.int .u64) 39 w' w.heap.size (fun _ => True) v319 t318) ∧ Aside0 (Kd.R (Kd.int .u8) 5 w' w.heap.size (fun _ => True) v10 x10_3) ∧ Aside0 (Below w.heap.size w w'))
                case atStart => exact ⟨(x10_2), (t321), (0), (by first | rfl | (simp; done) | (simp [*]; done)), (by first | rfl | (simp; done) | (simp [*]; done)), H', ⟨Nat.le_refl _⟩, ⟨by (with_reducible repeat (first | apply Kd.R_alloc | apply Kd.R_drewN | apply Kd.R_drew)); exact HO320.out⟩, ⟨by (with_reducible repeat (first | apply Kd.R_alloc | apply Kd.R_drewN | apply Kd.R_drew)); exact HO_10.out⟩, ⟨by repeat (first | (with_reducible first | exact HB.out | apply below_alloc | apply pw_below_drewN | apply below_drew1) | exact HB.out)⟩⟩
                case round =>
                  clear H'
                  try clear c1
                  try clear c2
                  try clear p2
                  try clear c4
                  try clear c4b0
                  try clear c5
                  try clear c7
                  try clear c11
                  try clear c11b0
                  try clear c11b1
                  try clear p2
                  obtain ⟨x10_3, x11_3, x12_3, rfl, rfl, HA, HK3, HO_9, HO_10, HB⟩ := hrel
                  cases gk with
                  | zero => exact absurd HA.out (by simp [plumbref04_Text.l1])
                  | succ k3 =>
                    have H := HA.out
                    clear HA
                    simp only [plumbref04_Text.l1] at H
                    by_cases c15 : x12_3 < t314
                    · rw [if_pos c15] at H
                      have c15b0 : decide (x12_3 < t314) = true := decide_eq_true c15
                      clear c15
                      by_cases c16 : (IntKind.u64.wrap (a1)) = 0
                      · rw [if_pos c16] at H
                        exact absurd H (by simp)
                      · rw [if_neg c16] at H
                        have c16b0 : ((IntKind.u64.wrap (a1)) == 0) = false := beq_eq_false_iff_ne.mpr c16
                        have c16b1 : ((IntKind.u64.wrap (a1)) != 0) = true := bne_iff_ne.mpr c16
                        obtain ⟨ji17, hji17⟩ : ∃ j_ : Int, (wrap64 (Int.tmod x11_3 (IntKind.u64.wrap (a1)))) = j_ := ⟨_, rfl⟩
                        replace H : (if 0 ≤ (ji17) then (if (ji17) < ((⟨#[48, 49, 50, 51, 52, 53, 54, 55, 56, 57, 97, 98, 99, 100, 101, 102, 103, 104, 105, 106, 107, 108, 109, 110, 111, 112, 113, 114, 115, 116, 117, 118, 119, 120, 121, 122]⟩ : ByteArray).size : Int) then (if x10_3.length < 140737488355328 then (plumbref04_Text.l1 k3 a1 (⟨#[48, 49, 50, 51, 52, 53, 54, 55, 56, 57, 97, 98, 99, 100, 101, 102, 103, 104, 105, 106, 107, 108, 109, 110, 111, 112, 113, 114, 115, 116, 117, 118, 119, 120, 121, 122]⟩ : ByteArray) t313 t314 t318 (x10_3 ++ [bt (⟨#[48, 49, 50, 51, 52, 53, 54, 55, 56, 57, 97, 98, 99, 100, 101, 102, 103, 104, 105, 106, 107, 108, 109, 110, 111, 112, 113, 114, 115, 116, 117, 118, 119, 120, 121, 122]⟩ : ByteArray) (ji17)]) (IntKind.u64.wrap (Int.tdiv x11_3 (IntKind.u64.wrap (a1)))) (wrap64 (x12_3 + 1))) else (none)) else (none)) else (none)) = some (r1, r2) := by first | (rw [hji17] at H; exact H) | (simp only [hji17] at H ⊢; exact H)
                        have hji17w : (IntKind.i64.wrap (Int.tmod x11_3 (IntKind.u64.wrap (a1)))) = ji17 := (i64_w _).trans hji17
                        by_cases c18 : (0 : Int) ≤ (ji17)
                        · rw [if_pos c18] at H
                          have c18b0 : decide (0 ≤ (ji17)) = true := decide_eq_true c18
                          clear c18
                          by_cases c19 : (ji17) < ((⟨#[48, 49, 50, 51, 52, 53, 54, 55, 56, 57, 97, 98, 99, 100, 101, 102, 103, 104, 105, 106, 107, 108, 109, 110, 111, 112, 113, 114, 115, 116, 117, 118, 119, 120, 121, 122]⟩ : ByteArray).size : Int)
                          · rw [if_pos c19] at H
                            have c19b0 : decide ((ji17) < ((⟨#[48, 49, 50, 51, 52, 53, 54, 55, 56, 57, 97, 98, 99, 100, 101, 102, 103, 104, 105, 106, 107, 108, 109, 110, 111, 112, 113, 114, 115, 116, 117, 118, 119, 120, 121, 122]⟩ : ByteArray).size : Int)) = true := decide_eq_true c19
                            clear c19
                            by_cases c21 : x10_3.length < 140737488355328
                            · rw [if_pos c21] at H
                              have LMc21 := Aside0.mk c21
                              clear c21
                              obtain ⟨y322, hy322⟩ : ∃ y_ : List Int, y_ = (x10_3 ++ [bt (⟨#[48, 49, 50, 51, 52, 53, 54, 55, 56, 57, 97, 98, 99, 100, 101, 102, 103, 104, 105, 106, 107, 108, 109, 110, 111, 112, 113, 114, 115, 116, 117, 118, 119, 120, 121, 122]⟩ : ByteArray) (ji17)]) := ⟨_, rfl⟩
                              replace H : (plumbref04_Text.l1 k3 a1 (⟨#[48, 49, 50, 51, 52, 53, 54, 55, 56, 57, 97, 98, 99, 100, 101, 102, 103, 104, 105, 106, 107, 108, 109, 110, 111, 112, 113, 114, 115, 116, 117, 118, 119, 120, 121, 122]⟩ : ByteArray) t313 t314 t318 y322 (IntKind.u64.wrap (Int.tdiv x11_3 (IntKind.u64.wrap (a1)))) (wrap64 (x12_3 + 1))) = some (r1, r2) := by first | (rw [hy322]; with_reducible exact H) | (have H2_ := (Option.bind_some _ _).symm.trans H; rw [hy322]; with_reducible exact H2_) | (have H2_ := (Option.bind_some _ _).symm.trans H; with_reducible exact H2_) | with_reducible exact H | (rw [hy322]; exact H) | exact H
                              have Ny322 := Aside0.mk hy322
                              clear hy322
                              have H' := Aside0.mk H
                              clear H
                              have p20 : 0 ≤ ((ji17) : Int) := of_decide_eq_true (by first | (with_reducible assumption) | assumption)
                              have q20 : (ji17) < (36 : Int) := of_decide_eq_true (by first | (with_reducible assumption) | assumption)
                              have hx20 := bt_at (⟨#[48, 49, 50, 51, 52, 53, 54, 55, 56, 57, 97, 98, 99, 100, 101, 102, 103, 104, 105, 106, 107, 108, 109, 110, 111, 112, 113, 114, 115, 116, 117, 118, 119, 120, 121, 122]⟩ : ByteArray) (ji17)
                              replace p20 := eq_true p20
                              replace q20 := eq_true q20
                              go_wp2_with (first | ((with_reducible refine gate_builtin (b := .append) (xs := #[.tmp 45, .tmp 53]) rfl ?_); (try (refine gate_guard (by rfl) ?_; dsimp only)); at_builtin; refine Kd.R_append (Kd.int .u8) (w0 := w) w.heap.size rfl (.tmp 45) (.tmp 53) 28 5 (.int .u8 0) 1 rfl Try.underlying28 info5 rfl (by decide) (by omega) u10 x10_3 (bt (⟨#[48, 49, 50, 51, 52, 53, 54, 55, 56, 57, 97, 98, 99, 100, 101, 102, 103, 104, 105, 106, 107, 108, 109, 110, 111, 112, 113, 114, 115, 116, 117, 118, 119, 120, 121, 122]⟩ : ByteArray) (ji17)) [.int .u8 (bt (⟨#[48, 49, 50, 51, 52, 53, 54, 55, 56, 57, 97, 98, 99, 100, 101, 102, 103, 104, 105, 106, 107, 108, 109, 110, 111, 112, 113, 114, 115, 116, 117, 118, 119, 120, 121, 122]⟩ : ByteArray) (ji17))] (fun _ => True) (fun _ => False) rfl rfl ?aP (fun _ hk => hk.elim) ?aF ?aO ?aB ?aS ?aL ?_; (case aP => exact rfl); (case aB => exact (by repeat (first | (with_reducible first | exact HB.out | apply below_alloc | apply pw_below_drewN | apply below_drew1) | exact HB.out))); (case aF => exact (fun _ _ => trivial)); (case aO => exact (by (with_reducible repeat (first | apply Kd.R_alloc | apply Kd.R_drewN | apply Kd.R_drew)); exact HO_10.out)); (case aS => exact (below_size (by repeat (first | (with_reducible first | exact HB.out | apply below_alloc | apply pw_below_drewN | apply below_drew1) | exact HB.out)))); (case aL => have := LMc21.out; omega); intro v323 w22 ho hb hg hat; rw [← Ny322.out] at ho; have n0_ := Aside0.mk (Kd.R_over' (by (with_reducible repeat (first | apply Kd.R_alloc | apply Kd.R_drewN | apply Kd.R_drew)); exact HO_9.out) (Kd.R_typed (by (with_reducible repeat (first | apply Kd.R_alloc | apply Kd.R_drewN | apply Kd.R_drew)); exact HO_10.out)) (by decide) hg); have n1_ := Aside0.mk (hb); have n2_ := Aside0.mk (ho); clear HO_9; clear HB; clear HO_10; have HO_9 := n0_; have HB := n1_; have HO324 := n2_; clear n0_ n1_ n2_; clear ho hb hg hat))
                              go_roundg k3
                              case measure => have := HJ2.out; have := HK2.out; have := HK3.out; omega
                              case rel => exact ⟨(y322), (IntKind.u64.wrap (Int.tdiv x11_3 (IntKind.u64.wrap (a1)))), (wrap64 (x12_3 + 1)), (by first | rfl | (simp; done) | (simp [*]; done)), (by first | rfl | (simp; done) | (simp [*]; done)), H', ⟨by have := HJ2.out; have := HK2.out; have := HK3.out; omega⟩, ⟨by (with_reducible repeat (first | apply Kd.R_alloc | apply Kd.R_drewN | apply Kd.R_drew)); exact HO_9.out⟩, ⟨by (with_reducible repeat (first | apply Kd.R_alloc | apply Kd.R_drewN | apply Kd.R_drew)); exact HO324.out⟩, ⟨by repeat (first | (with_reducible first | exact HB.out | apply below_alloc | apply pw_below_drewN | apply below_drew1) | exact HB.out)⟩⟩
                            · rw [if_neg c21] at H
                              exact absurd H (by simp)
                          · rw [if_neg c19] at H
                            exact absurd H (by simp)
                        · rw [if_neg c18] at H
                          exact absurd H (by simp)
                    · rw [if_neg c15] at H
                      have c15b0 : decide (x12_3 < t314) = false := decide_eq_false c15
                      clear c15
                      have H' := Aside0.mk H
                      clear H
                      go_wp2
                      go_roundg k3
                      case measure => have := HJ2.out; have := HK2.out; have := HK3.out; omega
                      case rel => exact ⟨(t318), (x10_3), H', ⟨by have := HJ2.out; have := HK2.out; have := HK3.out; omega⟩, ⟨by (with_reducible repeat (first | apply Kd.R_alloc | apply Kd.R_drewN | apply Kd.R_drew)); exact HO_9.out⟩, ⟨by (with_reducible repeat (first | apply Kd.R_alloc | apply Kd.R_drewN | apply Kd.R_drew)); exact HO_10.out⟩, ⟨by repeat (first | (with_reducible first | exact HB.out | apply below_alloc | apply pw_below_drewN | apply below_drew1) | exact HB.out)⟩⟩
              · rw [if_neg c11] at H
                have c11b0 : decide (0 < (x9_2.length : Int)) = false := decide_eq_false c11
                have c11b1 : decide (0 < x9_2.length) = false := decide_eq_false (by omega)
                clear c11
                have HC23 := Aside0.mk H
                clear H
                obtain ⟨Ao24, co24, eo24⟩ := Kd.R_slice HO_9.out
                subst eo24
                go_upto_block 4 with (fail)
                go_cut [10] (fun v10 wc => ∃ (kq : Nat) (x10_22 : List Int), Aside0 (plumbref04_Text.j4 kq x10_22 = some (r1, r2)) ∧ Aside0 (kq ≤ k2) ∧ Aside0 (Kd.R (Kd.int .u8) 5 wc w.heap.size (fun _ => True) v10 x10_22) ∧ Aside0 (Below w.heap.size w wc))
                case first =>
                  have H := HC23.out
                  clear HC23
                  have H' := Aside0.mk H
                  clear H
                  go_wp2
                  go_loopg [10] k2 (fun kq v10 w' => ∃ (x10_3 : List Int), Aside0 (plumbref04_Text.l2 kq x10_3 = some (r1, r2)) ∧ Aside0 (kq ≤ k2) ∧ Aside0 (Kd.R (Kd.int .u8) 5 w' w.heap.size (fun _ => True) v10 x10_3) ∧ Aside0 (Below w.heap.size w w'))
                  case atStart => exact ⟨(x10_2), H', ⟨Nat.le_refl _⟩, ⟨by (with_reducible repeat (first | apply Kd.R_alloc | apply Kd.R_drewN | apply Kd.R_drew)); exact HO_10.out⟩, ⟨by repeat (first | (with_reducible first | exact HB.out | apply below_alloc | apply pw_below_drewN | apply below_drew1) | exact HB.out)⟩⟩
                  case round =>
                    clear H'
                    try clear c1
                    try clear c2
                    try clear p2
                    try clear q2
                    try clear hx2
                    try clear c4
                    try clear c4b0
                    try clear c5
                    try clear p6
                    try clear c7
                    try clear c11
                    try clear c11b0
                    try clear c11b1
                    try clear c15
                    try clear c15b0
                    try clear c16
                    try clear c16b0
                    try clear c16b1
                    try clear c18
                    try clear c18b0
                    try clear c19
                    try clear c19b0
                    try clear p20
                    try clear q20
                    try clear hx20
                    try clear c21
                    try clear p2
                    try clear p20
                    try clear q20
                    obtain ⟨x10_3, HA, HK3, HO_10, HB⟩ := hrel
                    cases gk with
                    | zero => exact absurd HA.out (by simp [plumbref04_Text.l2])
                    | succ k3 =>
                      have H := HA.out
                      clear HA
                      simp only [plumbref04_Text.l2] at H
                      by_cases c25 : (x10_3.length : Int) > 0
                      · rw [if_pos c25] at H
                        have c25b0 : decide (0 < (x10_3.length : Int)) = true := decide_eq_true c25
                        have c25b1 : decide (0 < x10_3.length) = true := decide_eq_true (by omega)
                        clear c25
                        (first | rw [c25b0] | (simp only [i64_w, i32_w]; rw [c25b0]) | skip)
                        obtain ⟨ji26, hji26⟩ : ∃ j_ : Int, (wrap64 ((x10_3.length : Int) - 1)) = j_ := ⟨_, rfl⟩
                        replace H : (if 0 ≤ (ji26) then (if (ji26) < (x10_3.length : Int) then (if (rd x10_3 (ji26)) = 48 then (if (ji26) ≤ (x10_3.length : Int) then (plumbref04_Text.l2 k3 (x10_3.take ((ji26) : Int).toNat)) else (none)) else (plumbref04_Text.j4 k3 x10_3)) else (none)) else (none)) = some (r1, r2) := by first | (rw [hji26] at H; exact H) | (simp only [hji26] at H ⊢; exact H)
                        have hji26w : (IntKind.i64.wrap ((x10_3.length : Int) - 1)) = ji26 := (i64_w _).trans hji26
                        by_cases c27 : (0 : Int) ≤ (ji26)
                        · rw [if_pos c27] at H
                          have c27b0 : decide (0 ≤ (ji26)) = true := decide_eq_true c27
                          clear c27
                          by_cases c28 : (ji26) < (x10_3.length : Int)
                          · rw [if_pos c28] at H
                            have c28b0 : decide ((ji26) < (x10_3.length : Int)) = true := decide_eq_true c28
                            clear c28
                            by_cases c29 : (rd x10_3 (ji26)) = 48
                            · rw [if_pos c29] at H
                              have c29b0 : ((rd x10_3 (ji26)) == 48) = true := beq_iff_eq.mpr c29
                              have c29b1 : ((rd x10_3 (ji26)) != 48) = false := bne_eq_false_iff_eq.mpr c29
                              clear c29
                              by_cases c30 : (ji26) ≤ (x10_3.length : Int)
                              · rw [if_pos c30] at H
                                have c30b0 := eq_true c30
                                have c30b1 : decide ((ji26) ≤ (x10_3.length : Int)) = true := decide_eq_true c30
                                clear c30
                                obtain ⟨y326, hy326⟩ : ∃ y_ : List Int, y_ = (x10_3.take ((ji26) : Int).toNat) := ⟨_, rfl⟩
                                replace H : (plumbref04_Text.l2 k3 y326) = some (r1, r2) := by first | (rw [hy326]; with_reducible exact H) | (have H2_ := (Option.bind_some _ _).symm.trans H; rw [hy326]; with_reducible exact H2_) | (have H2_ := (Option.bind_some _ _).symm.trans H; with_reducible exact H2_) | with_reducible exact H | (rw [hy326]; exact H) | exact H
                                have Ny326 := Aside0.mk hy326
                                clear hy326
                                have H' := Aside0.mk H
                                clear H
                                obtain ⟨Ao31, co31, eo31⟩ := Kd.R_slice HO_10.out
                                subst eo31
                                have p325 : 0 ≤ ((ji26) : Int) := of_decide_eq_true (by first | (with_reducible assumption) | assumption)
                                have q325 : (ji26) < (x10_3.length : Int) := of_decide_eq_true (by first | (with_reducible assumption) | assumption)
                                obtain ⟨ad325, e325, hx325_0⟩ := Kd.at_int (Kd.R_reads' HO_10.out).2.2 (ji26) p325 q325
                                cases e325
                                replace p325 := eq_true p325
                                replace q325 := eq_true q325
                                have q32 : ((ji26) : Int) ≤ ((x10_3.length : Int) : Int) := of_decide_eq_true (by first | (with_reducible assumption) | assumption)
                                obtain ⟨i032, hi032, _, hsz32, _⟩ := info_parts info5
                                have hcut32 := cut_to (P := Try.prog) 28 5 .i64 Try.underlying28 hi032 (some ad325) x10_3.length co31 (ji26) (of_decide_eq_true (by first | (with_reducible assumption) | assumption)) q32 (Kd.R_reads' HO_10.out).2.1
                                have hr32 := Kd.R_take (m := ((ji26) : Int).toNat) HO_10.out (by omega)
                                have hy32 : y326.length = ((ji26) : Int).toNat := (by rw [Ny326.out, List.length_take]; omega)
                                rw [← Ny326.out] at hr32
                                rw [← hy32] at hr32 hcut32
                                clear hy32 hi032 hsz32 HO_10
                                have HO328 := Aside0.mk hr32
                                clear hr32
                                replace q32 := eq_true q32
                                go_wp2
                                go_roundg k3
                                case measure => have := HJ2.out; have := HK2.out; have := HK3.out; omega
                                case rel => exact ⟨(y326), H', ⟨by have := HJ2.out; have := HK2.out; have := HK3.out; omega⟩, ⟨by (with_reducible repeat (first | apply Kd.R_alloc | apply Kd.R_drewN | apply Kd.R_drew)); exact HO328.out⟩, ⟨by repeat (first | (with_reducible first | exact HB.out | apply below_alloc | apply pw_below_drewN | apply below_drew1) | exact HB.out)⟩⟩
                              · rw [if_neg c30] at H
                                exact absurd H (by simp)
                            · rw [if_neg c29] at H
                              have c29b0 : ((rd x10_3 (ji26)) == 48) = false := beq_eq_false_iff_ne.mpr c29
                              have c29b1 : ((rd x10_3 (ji26)) != 48) = true := bne_iff_ne.mpr c29
                              have H' := Aside0.mk H
                              clear H
                              obtain ⟨Ao33, co33, eo33⟩ := Kd.R_slice HO_10.out
                              subst eo33
                              have p325 : 0 ≤ ((ji26) : Int) := of_decide_eq_true (by first | (with_reducible assumption) | assumption)
                              have q325 : (ji26) < (x10_3.length : Int) := of_decide_eq_true (by first | (with_reducible assumption) | assumption)
                              obtain ⟨ad325, e325, hx325_0⟩ := Kd.at_int (Kd.R_reads' HO_10.out).2.2 (ji26) p325 q325
                              cases e325
                              replace p325 := eq_true p325
                              replace q325 := eq_true q325
                              go_wp2
                              go_meet
                              case rel => exact ⟨_, (x10_3), H', ⟨by have := HJ2.out; have := HK2.out; have := HK3.out; first | omega | exact Nat.le_refl _⟩, ⟨by (with_reducible repeat (first | apply Kd.R_alloc | apply Kd.R_drewN | apply Kd.R_drew)); exact HO_10.out⟩, ⟨by repeat (first | (with_reducible first | exact HB.out | apply below_alloc | apply pw_below_drewN | apply below_drew1) | exact HB.out)⟩⟩
                          · rw [if_neg c28] at H
                            exact absurd H (by simp)
                        · rw [if_neg c27] at H
                          exact absurd H (by simp)
                      · rw [if_neg c25] at H
                        have c25b0 : decide (0 < (x10_3.length : Int)) = false := decide_eq_false c25
                        have c25b1 : decide (0 < x10_3.length) = false := decide_eq_false (by omega)
                        clear c25
                        (first | rw [c25b0] | (simp only [i64_w, i32_w]; rw [c25b0]) | skip)
                        have H' := Aside0.mk H
                        clear H
                        obtain ⟨Ao34, co34, eo34⟩ := Kd.R_slice HO_10.out
                        subst eo34
                        go_wp2
                        go_meet
                        case rel => exact ⟨_, (x10_3), H', ⟨by have := HJ2.out; have := HK2.out; have := HK3.out; first | omega | exact Nat.le_refl _⟩, ⟨by (with_reducible repeat (first | apply Kd.R_alloc | apply Kd.R_drewN | apply Kd.R_drew)); exact HO_10.out⟩, ⟨by repeat (first | (with_reducible first | exact HB.out | apply below_alloc | apply pw_below_drewN | apply below_drew1) | exact HB.out)⟩⟩
                case rest =>
                  clear HC23
                  try clear c1
                  try clear c2
                  try clear p2
                  try clear q2
                  try clear hx2
                  try clear c3
                  try clear p3
                  try clear q3
                  try clear hx3
                  try clear c4
                  try clear c4b0
                  try clear c5
                  try clear p6
                  try clear c7
                  try clear c11
                  try clear c11b0
                  try clear c11b1
                  try clear c15
                  try clear c15b0
                  try clear c16
                  try clear c16b0
                  try clear c16b1
                  try clear c18
                  try clear c18b0
                  try clear c19
                  try clear c19b0
                  try clear p20
                  try clear q20
                  try clear hx20
                  try clear c21
                  try clear c25
                  try clear c25b0
                  try clear c25b1
                  try clear c27
                  try clear c27b0
                  try clear c28
                  try clear c28b0
                  try clear c29
                  try clear c29b0
                  try clear c29b1
                  try clear c30
                  try clear c30b0
                  try clear c30b1
                  try clear p32
                  try clear q32
                  try clear hx32
                  try clear hx325_0
                  try clear p2
                  try clear p20
                  try clear p325
                  try clear p6
                  try clear q2
                  try clear q20
                  try clear q32
                  try clear q325
                  obtain ⟨kq, x10_22, HA, HJ22, HO_10, HB⟩ := hcut
                  cases kq with
                  | zero => exact absurd HA.out (by simp [plumbref04_Text.j4])
                  | succ kj22 =>
                    have H := HA.out
                    clear HA
                    simp only [plumbref04_Text.j4] at H
                    by_cases c35 : (x10_22.length : Int) = 0
                    · rw [if_pos c35] at H
                      have c35b0 : ((x10_22.length : Int) == 0) = true := beq_iff_eq.mpr c35
                      have c35b1 : ((x10_22.length : Int) != 0) = false := bne_eq_false_iff_eq.mpr c35
                      clear c35
                      simp only [Option.some.injEq, Prod.mk.injEq] at H
                      obtain ⟨rfl, rfl⟩ := H
                      obtain ⟨Ao36, co36, eo36⟩ := Kd.R_slice HO_10.out
                      subst eo36
                      go_wp2
                      go_ret2
                      exact ⟨by first | rfl | (simp [errW_none, errW_some] <;> rfl) | (simp [*, errW_none, errW_some] <;> rfl), by repeat (first | (with_reducible first | exact HB.out | apply below_alloc | apply pw_below_drewN | apply below_drew1) | exact HB.out)⟩
                    · rw [if_neg c35] at H
                      have c35b0 : ((x10_22.length : Int) == 0) = false := beq_eq_false_iff_ne.mpr c35
                      have c35b1 : ((x10_22.length : Int) != 0) = true := bne_iff_ne.mpr c35
                      have c35b2 : ¬ (x10_22 = []) := fun h_ => c35 (by rw [h_]; rfl)
                      have H' := Aside0.mk H
                      clear H
                      obtain ⟨Ao37, co37, eo37⟩ := Kd.R_slice HO_10.out
                      subst eo37
                      go_wp2
                      go_loopg [13] kj22 (fun kq v13 w' => ∃ (x10_4 : List Int) (x13_4 : Int), v13 = .int .i64 x13_4 ∧ Aside0 (plumbref04_Text.l3 kq x10_4 x13_4 = some (r1, r2)) ∧ Aside0 (kq ≤ kj22) ∧ Aside0 (Kd.R (Kd.int .u8) 5 w' w.heap.size (fun _ => True) (.slice Ao37 x10_22.length co37) x10_4) ∧ Aside0 (Below w.heap.size w w'))
                      case atStart => exact ⟨(x10_22), (0), (by first | rfl | (simp; done) | (simp [*]; done)), H', ⟨Nat.le_refl _⟩, ⟨by (with_reducible repeat (first | apply Kd.R_alloc | apply Kd.R_drewN | apply Kd.R_drew)); exact HO_10.out⟩, ⟨by repeat (first | (with_reducible first | exact HB.out | apply below_alloc | apply pw_below_drewN | apply below_drew1) | exact HB.out)⟩⟩
                      case round =>
                        clear H'
                        try clear c1
                        try clear c2
                        try clear p2
                        try clear q2
                        try clear hx2
                        try clear c3
                        try clear p3
                        try clear q3
                        try clear hx3
                        try clear c4
                        try clear c4b0
                        try clear c5
                        try clear p6
                        try clear c7
                        try clear c11
                        try clear c11b0
                        try clear c11b1
                        try clear c15
                        try clear c15b0
                        try clear c16
                        try clear c16b0
                        try clear c16b1
                        try clear c18
                        try clear c18b0
                        try clear c19
                        try clear c19b0
                        try clear p20
                        try clear q20
                        try clear hx20
                        try clear c21
                        try clear c25
                        try clear c25b0
                        try clear c25b1
                        try clear c27
                        try clear c27b0
                        try clear c28
                        try clear c28b0
                        try clear c29
                        try clear c29b0
                        try clear c29b1
                        try clear c30
                        try clear c30b0
                        try clear c30b1
                        try clear p32
                        try clear q32
                        try clear hx32
                        try clear c35
                        try clear c35b0
                        try clear c35b1
                        try clear c35b2
                        try clear hx325_0
                        try clear p2
                        try clear p20
                        try clear p3
                        try clear p32
                        try clear p325
                        try clear p6
                        try clear q2
                        try clear q20
                        try clear q3
                        try clear q32
                        try clear q325
                        obtain ⟨x10_4, x13_4, rfl, HA, HK4, HO_10, HB⟩ := hrel
                        have hl10_4 := (Kd.R_reads' HO_10.out).1
                        rw [hl10_4] at HO_10
                        (try simp only [hl10_4])
                        cases gk with
                        | zero => exact absurd HA.out (by simp [plumbref04_Text.l3])
                        | succ k4 =>
                          have H := HA.out
                          clear HA
                          simp only [plumbref04_Text.l3] at H
                          by_cases c38 : x13_4 < (wrap64 ((x10_4.length : Int) / 2))
                          · rw [if_pos c38] at H
                            have c38b0 : decide (x13_4 < (wrap64 ((x10_4.length : Int) / 2))) = true := decide_eq_true c38
                            clear c38
                            by_cases c39 : (0 : Int) ≤ x13_4
                            · rw [if_pos c39] at H
                              have c39b0 : decide (0 ≤ x13_4) = true := decide_eq_true c39
                              clear c39
                              by_cases c40 : x13_4 < (x10_4.length : Int)
                              · rw [if_pos c40] at H
                                have c40b0 : decide (x13_4 < (x10_4.length : Int)) = true := decide_eq_true c40
                                clear c40
                                obtain ⟨ji41, hji41⟩ : ∃ j_ : Int, (wrap64 ((wrap64 ((x10_4.length : Int) - 1)) - x13_4)) = j_ := ⟨_, rfl⟩
                                replace H : (if 0 ≤ (ji41) then (if (ji41) < (x10_4.length : Int) then (plumbref04_Text.l3 k4 ((x10_4.set (x13_4 : Int).toNat (rd x10_4 (ji41))).set ((ji41) : Int).toNat (rd x10_4 x13_4)) (wrap64 (x13_4 + 1))) else (none)) else (none)) = some (r1, r2) := by first | (rw [hji41] at H; exact H) | (simp only [hji41] at H ⊢; exact H)
                                have hji41w : (IntKind.i64.wrap ((wrap64 ((x10_4.length : Int) - 1)) - x13_4)) = ji41 := (i64_w _).trans hji41
                                by_cases c42 : (0 : Int) ≤ (ji41)
                                · rw [if_pos c42] at H
                                  have c42b0 : decide (0 ≤ (ji41)) = true := decide_eq_true c42
                                  clear c42
                                  by_cases c43 : (ji41) < (x10_4.length : Int)
                                  · rw [if_pos c43] at H
                                    have c43b0 : decide ((ji41) < (x10_4.length : Int)) = true := decide_eq_true c43
                                    clear c43
                                    obtain ⟨y331, hy331⟩ : ∃ y_ : List Int, y_ = (x10_4.set (x13_4 : Int).toNat (rd x10_4 (ji41))) := ⟨_, rfl⟩
                                    replace H : (plumbref04_Text.l3 k4 (y331.set ((ji41) : Int).toNat (rd x10_4 x13_4)) (wrap64 (x13_4 + 1))) = some (r1, r2) := by first | (rw [hy331]; with_reducible exact H) | (have H2_ := (Option.bind_some _ _).symm.trans H; rw [hy331]; with_reducible exact H2_) | (have H2_ := (Option.bind_some _ _).symm.trans H; with_reducible exact H2_) | with_reducible exact H | (rw [hy331]; exact H) | exact H
                                    have Ny331 := Aside0.mk hy331
                                    clear hy331
                                    obtain ⟨y332, hy332⟩ : ∃ y_ : List Int, y_ = (y331.set ((ji41) : Int).toNat (rd x10_4 x13_4)) := ⟨_, rfl⟩
                                    replace H : (plumbref04_Text.l3 k4 y332 (wrap64 (x13_4 + 1))) = some (r1, r2) := by first | (rw [hy332]; with_reducible exact H) | (have H2_ := (Option.bind_some _ _).symm.trans H; rw [hy332]; with_reducible exact H2_) | (have H2_ := (Option.bind_some _ _).symm.trans H; with_reducible exact H2_) | with_reducible exact H | (rw [hy332]; exact H) | exact H
                                    have Ny332 := Aside0.mk hy332
                                    clear hy332
                                    have H' := Aside0.mk H
                                    clear H
                                    have p329 : 0 ≤ (x13_4 : Int) := of_decide_eq_true (by first | (with_reducible assumption) | assumption)
                                    have q329 : x13_4 < (x10_4.length : Int) := of_decide_eq_true (by first | (with_reducible assumption) | assumption)
                                    obtain ⟨ad329, e329, hx329_0⟩ := Kd.at_int (Kd.R_reads' HO_10.out).2.2 x13_4 p329 q329
                                    cases e329
                                    replace p329 := eq_true p329
                                    replace q329 := eq_true q329
                                    have p330 : 0 ≤ ((ji41) : Int) := of_decide_eq_true (by first | (with_reducible assumption) | assumption)
                                    have q330 : (ji41) < (x10_4.length : Int) := of_decide_eq_true (by first | (with_reducible assumption) | assumption)
                                    obtain ⟨ad330, e330, hx330_0⟩ := Kd.at_int (Kd.R_reads' HO_10.out).2.2 (ji41) p330 q330
                                    obtain rfl : ad329 = ad330 := (by injection e330)
                                    replace p330 := eq_true p330
                                    replace q330 := eq_true q330
                                    have p44 : 0 ≤ (x13_4 : Int) := of_decide_eq_true (by first | (with_reducible assumption) | assumption)
                                    have q44 : (x13_4 : Int) < ((x10_4.length : Int) : Int) := of_decide_eq_true (by first | (with_reducible assumption) | assumption)
                                    obtain ⟨go44, co44, eo44, gb44, gl44, cl44, HG44⟩ := Kd.R_form HO_10.out (by omega)
                                    (first | cases eo44 | (injection eo44 with ea_ en_ ec_; (first | subst ea_ | (injection ea_ with ea_; subst ea_)); subst ec_; clear en_))
                                    have GB44 := Aside0.mk gb44
                                    have GG44 := Aside0.mk HG44
                                    clear gb44 gl44 HG44
                                    (first | simp only [add_plain] at hx329_0 | skip)
                                    (first | simp only [add_plain] at hx330_0 | skip)
                                    obtain ⟨hx44_0, hf44_0⟩ := Kd.R_celln 0 HO_10.out (x13_4 : Int) p44 q44
                                    replace p44 := eq_true p44
                                    replace q44 := eq_true q44
                                    have HP46 := Kd.R_putg HO_10.out (x13_4 : Int) (rd x10_4 (ji41))
                                    go_wp2_with (first | ((with_reducible refine gate_store (t := 5) (p := 101) rfl ?_); refine store_event (t := 5) (p := 101) (v := ?vo_w47) (w1 := (wr.setCell ⟨go44, (x13_4 : Int).toNat, none⟩ (.int .u8 (rd x10_4 (ji41))))) ?hg ?ho ?hn ?hr ?_; (case ho => rfl); (case hg => rfl); (case hn => rfl); (case hr => first | (go_simp; done) | (go_simp; rfl)); intro w47 hw; have hg : wr.grownBy w47 (some go44) := (by rw [hw]; exact HP46.2); have hp_ : Kd.R (Kd.int .u8) 5 w47 w.heap.size (fun _ => True) (.slice (some ⟨go44, 0, none⟩) x10_4.length co37) y331 := (by rw [hw, Ny331.out]; exact HP46.1); clear HP46; have n0_ := Aside0.mk (hp_); have n1_ := Aside0.mk ((by rw [hw]; exact below_set (HB.out) GB44.out : Below w.heap.size w w47)); clear HO_10; clear HB; have HO_10 := n0_; have HB := n1_; clear n0_ n1_; clear hg hw hp_; have p45 : 0 ≤ ((ji41) : Int) := of_decide_eq_true (by first | (with_reducible assumption) | assumption); have q45 : ((ji41) : Int) < ((x10_4.length : Int) : Int) := of_decide_eq_true (by first | (with_reducible assumption) | assumption); obtain ⟨hx45_0, hf45_0⟩ := Kd.R_celln 0 HO_10.out ((ji41) : Int) p45 q45; replace p45 := eq_true p45; replace q45 := eq_true q45; obtain ⟨hy48_, hz48_⟩ := Kd.R_celln 0 HO_10.out ((ji41) : Int) (of_decide_eq_true (by first | (with_reducible assumption) | assumption)) (of_decide_eq_true (by first | (with_reducible assumption) | assumption)); have HP48 := Kd.R_putg HO_10.out ((ji41) : Int) (rd x10_4 x13_4)) | ((with_reducible refine gate_store (t := 5) (p := 105) rfl ?_); refine store_event (t := 5) (p := 105) (v := ?vo_w49) (w1 := (w47.setCell ⟨go44, ((ji41) : Int).toNat, none⟩ (.int .u8 (rd x10_4 x13_4)))) ?hg ?ho ?hn ?hr ?_; (case ho => rfl); (case hg => rfl); (case hn => rfl); (case hr => first | (go_simp; done) | (go_simp; rfl)); intro w49 hw; have hg : w47.grownBy w49 (some go44) := (by rw [hw]; exact HP48.2); have hp_ : Kd.R (Kd.int .u8) 5 w49 w.heap.size (fun _ => True) (.slice (some ⟨go44, 0, none⟩) x10_4.length co37) y332 := (by rw [hw, Ny332.out]; exact HP48.1); clear HP48; have n0_ := Aside0.mk (hp_); have n1_ := Aside0.mk ((by rw [hw]; exact below_set (HB.out) GB44.out : Below w.heap.size w w49)); clear HO_10; clear HB; have HO_10 := n0_; have HB := n1_; clear n0_ n1_; clear hg hw hp_))
                                    (try simp only [← hl10_4])
                                    go_roundg k4
                                    case measure => have := HJ2.out; have := HK2.out; have := HJ22.out; have := HK4.out; omega
                                    case rel => exact ⟨(y332), (wrap64 (x13_4 + 1)), (by first | rfl | (simp; done) | (simp [*]; done)), H', ⟨by have := HJ2.out; have := HK2.out; have := HJ22.out; have := HK4.out; omega⟩, ⟨by (try simp only [hl10_4]); (with_reducible repeat (first | apply Kd.R_alloc | apply Kd.R_drewN | apply Kd.R_drew)); exact HO_10.out⟩, ⟨by repeat (first | (with_reducible first | exact HB.out | apply below_alloc | apply pw_below_drewN | apply below_drew1) | exact HB.out)⟩⟩
                                  · rw [if_neg c43] at H
                                    exact absurd H (by simp)
                                · rw [if_neg c42] at H
                                  exact absurd H (by simp)
                              · rw [if_neg c40] at H
                                exact absurd H (by simp)
                            · rw [if_neg c39] at H
                              exact absurd H (by simp)
                          · rw [if_neg c38] at H
                            have c38b0 : decide (x13_4 < (wrap64 ((x10_4.length : Int) / 2))) = false := decide_eq_false c38
                            clear c38
                            simp only [Option.some.injEq, Prod.mk.injEq] at H
                            obtain ⟨rfl, rfl⟩ := H
                            have hcv50 := own_string (P := Try.prog) Try.underlying28 Try.underlying5 Try.underlying9 (Kd.own_of_R HO_10.out)
                            go_wp2
                            go_ret2
                            exact ⟨by first | rfl | (simp [errW_none, errW_some] <;> rfl) | (simp [*, errW_none, errW_some] <;> rfl), by repeat (first | (with_reducible first | exact HB.out | apply below_alloc | apply pw_below_drewN | apply below_drew1) | exact HB.out)⟩

end Go.Proofs.Ytpnffhacmamilaa.PA
