/- PA1: a part of the proof. -/
-- made by program (wip/tools of this work) out of the translation; Lean checks it
import Derived.Test.YtpnffhacmamilaaZLFPA0
namespace Go.Proofs.Ytpnffhacmamilaa.PA
open Go.RowKit Go.Proofs.YtpnffhacmamilaaW.PrintWords Go.Proofs.YtpnffhacmamilaaW.PrintLast Go.Proofs.YtpnffhacmamilaaW.PrintMore
attribute [local go_sem] max2_int min2_int max_two min_two max_three min_three max_four min_four   -- for this text's walks alone
set_option linter.unusedVariables false
set_option linter.unusedSimpArgs false

/-! ### nat_size: function 37 -/
def nat_size.l0 : Nat → List Int → Int → Option (Int)
  | 0, _, _ => none
  | k + 1, x0, x3 => if x3 > 0 then (if 0 ≤ (wrap64 (x3 - 1)) then (if (wrap64 (x3 - 1)) < (x0.length : Int) then (if (rd x0 (wrap64 (x3 - 1))) = 0 then (nat_size.l0 k x0 (wrap64 (x3 - 1))) else (some x3)) else (none)) else (none)) else (some x3)
def nat_size.f (k : Nat) (l0 : List Int) : Option (Int) := nat_size.l0 k l0 (l0.length : Int)
theorem nat_size.mono_l : ∀ k, (∀ y0 y1, LeO (nat_size.l0 k y0 y1) (nat_size.l0 (k + 1) y0 y1))
  | 0 => fun _ _ r h => by simp [nat_size.l0] at h
  | k + 1 => by
    have ih0 := nat_size.mono_l k
    · intro y0 y1
      unfold nat_size.l0
      repeat' first
      | (with_reducible exact ih0 _ _)
      | (with_reducible exact LeO.refl _)
      | (with_reducible exact LeO.none _)
      | (with_reducible refine LeO.ite ?_ ?_)
      | (with_reducible refine LeO.bind ?_ (fun _ => ?_))
      | exact ih0 _ _
      | exact LeO.none _
      | refine LeO.ite ?_ ?_
      | refine LeO.bind ?_ (fun _ => ?_)
theorem nat_size.mono : ∀ a0 k, LeO (nat_size.f k a0) (nat_size.f (k + 1) a0) := by
  intro a0 k
  have ih0 := nat_size.mono_l k
  unfold nat_size.f
  repeat' first
      | (with_reducible exact ih0 _ _)
      | (with_reducible exact LeO.refl _)
      | (with_reducible exact LeO.none _)
      | (with_reducible refine LeO.ite ?_ ?_)
      | (with_reducible refine LeO.bind ?_ (fun _ => ?_))
      | exact ih0 _ _
      | exact LeO.none _
      | refine LeO.ite ?_ ?_
      | refine LeO.bind ?_ (fun _ => ?_)
set_option maxHeartbeats 8000000 in
set_option maxRecDepth 100000 in
theorem nat_size.calls (k : Nat) (A0 : Option Addr) (c0 : Nat) (l0 : List Int) (r : Int) (w : World) (hr0 : Kd.C (Kd.int .u64) w A0 l0.length l0) (hc0 : l0.length ≤ c0) (h : nat_size.f k l0 = some r) :
    Calls Try.prog 37 #[.slice A0 l0.length c0] w fun e w' => e = .returned (.int .i64 r) ∧ Drawn0 w w' := by
  have HR0 := Aside0.mk hr0
  have HC0 := Aside0.mk hc0
  clear hr0 hc0
  have H : (nat_size.l0 k l0 (l0.length : Int)) = some r := h
  clear h
  have H' := Aside0.mk H
  clear H
  go_enter Try.func37, Try.ntmps37
  go_wp2
  go_loopg [3] k (fun kq v3 w' => ∃ (x3_1 : Int), v3 = .int .i64 x3_1 ∧ Aside0 (nat_size.l0 kq l0 x3_1 = some r) ∧ Aside0 (kq ≤ k) ∧ Drawn0 w w')
  case atStart => exact ⟨((l0.length : Int)), (by first | rfl | (simp; done) | (simp [*]; done)), H', ⟨Nat.le_refl _⟩, by repeat (first | exact Drawn0.refl _ | apply Drawn0.step)⟩
  case round =>
    clear H'
    obtain ⟨x3_1, rfl, HA, HK1, ⟨m1, rfl⟩⟩ := hrel
    cases gk with
    | zero => exact absurd HA.out (by simp [nat_size.l0])
    | succ k1 =>
      have H := HA.out
      clear HA
      simp only [nat_size.l0] at H
      by_cases c2 : x3_1 > 0
      · rw [if_pos c2] at H
        have c2b0 : decide (0 < x3_1) = true := decide_eq_true c2
        clear c2
        obtain ⟨ji3, hji3⟩ : ∃ j_ : Int, (wrap64 (x3_1 - 1)) = j_ := ⟨_, rfl⟩
        replace H : (if 0 ≤ (ji3) then (if (ji3) < (l0.length : Int) then (if (rd l0 (ji3)) = 0 then (nat_size.l0 k1 l0 ji3) else (some x3_1)) else (none)) else (none)) = some r := by first | (rw [hji3] at H; exact H) | (simp only [hji3] at H ⊢; exact H)
        have hji3w : (IntKind.i64.wrap (x3_1 - 1)) = ji3 := (i64_w _).trans hji3
        by_cases c4 : (0 : Int) ≤ (ji3)
        · rw [if_pos c4] at H
          have c4b0 : decide (0 ≤ (ji3)) = true := decide_eq_true c4
          clear c4
          by_cases c5 : (ji3) < (l0.length : Int)
          · rw [if_pos c5] at H
            have c5b0 : decide ((ji3) < (l0.length : Int)) = true := decide_eq_true c5
            clear c5
            by_cases c6 : (rd l0 (ji3)) = 0
            · rw [if_pos c6] at H
              have c6b0 : ((rd l0 (ji3)) == 0) = true := beq_iff_eq.mpr c6
              have c6b1 : ((rd l0 (ji3)) != 0) = false := bne_eq_false_iff_eq.mpr c6
              clear c6
              have H' := Aside0.mk H
              clear H
              have p101 : 0 ≤ ((ji3) : Int) := of_decide_eq_true (by first | (with_reducible assumption) | assumption)
              have q101 : (ji3) < (l0.length : Int) := of_decide_eq_true (by first | (with_reducible assumption) | assumption)
              obtain ⟨ad101, e101, hx101_0⟩ := Kd.at_int HR0.out (ji3) p101 q101
              cases e101
              replace p101 := eq_true p101
              replace q101 := eq_true q101
              go_wp2
              go_roundg k1
              case measure => have := HK1.out; omega
              case rel => exact ⟨(ji3), (by first | rfl | (simp; done) | (simp only [← hji3] <;> (first | rfl | simp)) | (simp [*]; done)), H', ⟨by have := HK1.out; omega⟩, by repeat (first | exact Drawn0.refl _ | apply Drawn0.step)⟩
            · rw [if_neg c6] at H
              have c6b0 : ((rd l0 (ji3)) == 0) = false := beq_eq_false_iff_ne.mpr c6
              have c6b1 : ((rd l0 (ji3)) != 0) = true := bne_iff_ne.mpr c6
              obtain rfl := Option.some.inj H
              have p101 : 0 ≤ ((ji3) : Int) := of_decide_eq_true (by first | (with_reducible assumption) | assumption)
              have q101 : (ji3) < (l0.length : Int) := of_decide_eq_true (by first | (with_reducible assumption) | assumption)
              obtain ⟨ad101, e101, hx101_0⟩ := Kd.at_int HR0.out (ji3) p101 q101
              cases e101
              replace p101 := eq_true p101
              replace q101 := eq_true q101
              go_wp2
              go_ret
              exact ⟨by first | rfl | (simp; done) | (simp only [← hji3] <;> (first | rfl | simp)) | (simp [*]; done), by repeat (first | exact Drawn0.refl _ | apply Drawn0.step)⟩
          · rw [if_neg c5] at H
            exact absurd H (by simp)
        · rw [if_neg c4] at H
          exact absurd H (by simp)
      · rw [if_neg c2] at H
        have c2b0 : decide (0 < x3_1) = false := decide_eq_false c2
        clear c2
        obtain rfl := Option.some.inj H
        go_wp2
        go_ret
        exact ⟨by first | rfl | (simp; done) | (simp [*]; done), by repeat (first | exact Drawn0.refl _ | apply Drawn0.step)⟩

-- what is known of it
theorem nat_size.l0_eq (xs : List Int) (hl : xs.length ≤ 9223372036854775807) (n : Nat) : ∀ k, n < k → n ≤ xs.length → nat_size.l0 k xs n = some ((strip (xs.take n)).length : Int) := by
  induction n with
  | zero =>
    intro k hk _
    obtain ⟨k, rfl⟩ : ∃ m, k = m + 1 := ⟨k - 1, by omega⟩
    simp [nat_size.l0, strip]
  | succ n ih =>
    intro k hk hn
    obtain ⟨k, rfl⟩ : ∃ m, k = m + 1 := ⟨k - 1, by omega⟩
    have e1 : wrap64 (((n + 1 : Nat) : Int) - 1) = n := by unfold wrap64; omega
    have e2 : xs.take (n + 1) = xs.take n ++ [xs.getD n 0] := by
      rw [List.take_succ_eq_append_getElem (by omega), List.getD_eq_getElem?_getD, List.getElem?_eq_getElem (by omega)]; rfl
    simp only [nat_size.l0]
    rw [e1, if_pos (by omega), if_pos (by omega), if_pos (by omega)]
    have e3 : rd xs (n : Int) = xs.getD n 0 := rfl
    rw [e3, e2]
    by_cases hz : xs.getD n 0 = 0
    · rw [if_pos hz, hz, strip_snoc_zero]
      exact ih k (by omega) (by omega)
    · rw [if_neg hz, strip_snoc_ne _ hz, List.length_append, List.length_take]
      simp; omega
theorem nat_size.f_eq (xs : List Int) (hl : xs.length ≤ 9223372036854775807) (k : Nat) (hk : xs.length < k) : nat_size.f k xs = some ((strip xs).length : Int) := by
  rw [nat_size.f, nat_size.l0_eq xs hl xs.length k hk (Nat.le_refl _), List.take_length]

/-! ### nat_Norm: function 14 (by hand) -/
def nat_Norm.f (l0 : List Int) : Option (List Int) := if l0.length ≤ 35184372088832 then some (strip l0) else none
theorem norm_copied (l0 : List Int) : l0.take (min l0.length (List.replicate (strip l0).length (0 : Int)).length) ++ (List.replicate (strip l0).length (0 : Int)).drop (min l0.length (List.replicate (strip l0).length (0 : Int)).length) = strip l0 := by
  have h := strip_length_le l0
  rw [List.length_replicate, Nat.min_eq_right h, List.drop_of_length_le (by simp), List.append_nil, ← strip_take]
theorem nat_Norm.calls (A0 : Option Addr) (c0 : Nat) (l0 : List Int) (r : List Int) (w : World) (hr0 : Kd.C (Kd.int .u64) w A0 l0.length l0) (hc0 : l0.length ≤ c0) (h : nat_Norm.f l0 = some r) :
    Calls Try.prog 14 #[.slice A0 l0.length c0] w fun e w' => ∃ v0_ : Value, e = .returned (v0_) ∧ Kd.R (Kd.int .u64) 39 w' w.heap.size (fun _ => True) v0_ r ∧ Below w.heap.size w w' := by
  unfold nat_Norm.f at h
  split at h
  case isFalse => cases h
  rename_i hlen
  injection h with h
  subst h
  have hk := Aside0.mk (nat_size.f_eq l0 (by omega) (l0.length + 1) (by omega))
  have hsl := strip_length_le l0
  have hcp := Aside0.mk (norm_copied l0)
  go_enter Try.func14, Try.ntmps14
  go_wp2_with (first
    | (go_at_call 37; (with_reducible refine (nat_size.calls (l0.length + 1) _ _ l0 _ _ hr0 hc0 hk.out).mono ?_); rintro e w' ⟨rfl, ⟨n, rfl⟩⟩)
    | ((with_reducible refine gate_dst (N := 6) rfl ?_); refine Kd.R_make (Kd.int .u64) _ 39 rfl (N := 6) rfl 22 _ _ rfl ((strip l0).length : Int) rfl rfl Try.underlying22 (.int .u64 0) 8 info39 rfl (by decide) (by omega) 0 (ok := fun _ => True) (okp := fun _ => True) rfl (fun _ hk => hk) trivial (by omega) (by omega) (pw_below_drewN (Below.refl _ _) _) (Nat.le_refl _) ?_; intro v1 w1 HO HB _ _; have HO' := Aside0.mk (show Kd.R (Kd.int .u64) 39 w1 w.heap.size (fun _ => True) v1 (List.replicate (strip l0).length 0) from HO); have HB' := Aside0.mk (show Below w.heap.size w w1 from HB); clear HO HB)
    | ((with_reducible refine gate_dst (N := 9) rfl ?_); refine Kd.R_copy (enc := Value.int .u64) (h1 := fun _ => rfl) (0 : Int) w.heap.size rfl (.tmp 7) (.tmp 8) 22 22 39 rfl Try.underlying22 (by kernel_rfl) v1 (List.replicate (strip l0).length 0) l0 A0 l0.length c0 (fun _ => True) rfl rfl HO'.out (Kd.C_below hr0 HB'.out) HB'.out HB'.out.size ?_; intro w2 HO2 HB2 _; rw [hcp.out] at HO2; have HO2' := Aside0.mk HO2; have HB2' := Aside0.mk HB2; clear HO2 HB2))
  go_ret
  exact ⟨v1, rfl, HO2'.out, HB2'.out⟩

/-! ### radix_based: function 34 -/
def radix_based.f (a0 : Int) : Option (Bool) := if a0 ≥ 2 then (some (decide (a0 ≤ 36))) else (some false)
set_option maxHeartbeats 8000000 in
set_option maxRecDepth 100000 in
theorem radix_based.calls (a0 : Int) (r : Bool) (w : World) (h : radix_based.f a0 = some r) :
    Calls Try.prog 34 #[.int .i64 a0] w fun e w' => e = .returned (.bool r) ∧ Drawn0 w w' := by
  have H : (if a0 ≥ 2 then (some (decide (a0 ≤ 36))) else (some false)) = some r := h
  clear h
  by_cases c2 : a0 ≥ 2
  · rw [if_pos c2] at H
    have c2b0 : decide (2 ≤ a0) = true := decide_eq_true c2
    clear c2
    obtain rfl := Option.some.inj H
    go_enter Try.func34, Try.ntmps34
    go_wp2
    go_ret
    exact ⟨by first | rfl | (simp; done) | (simp [*]; done), by repeat (first | exact Drawn0.refl _ | apply Drawn0.step)⟩
  · rw [if_neg c2] at H
    have c2b0 : decide (2 ≤ a0) = false := decide_eq_false c2
    clear c2
    obtain rfl := Option.some.inj H
    go_enter Try.func34, Try.ntmps34
    go_wp2
    go_ret
    exact ⟨by first | rfl | (simp; done) | (simp [*]; done), by repeat (first | exact Drawn0.refl _ | apply Drawn0.step)⟩

/-! ### wide_Len: function 38 -/
def wide_Len.l0 : Nat → Int → Int → Int → Option (Int)
  | 0, _, _, _ => none
  | k + 1, x0, x3, x4 => if x4 > 0 then (if 0 ≤ x4 then (if (shr .u64 x0 x4) = 0 then (wide_Len.l0 k x0 x3 (x4 / 2)) else (wide_Len.l0 k (shr .u64 x0 x4) (wrap64 (x3 + x4)) (x4 / 2))) else (none)) else (some (wrap64 (x3 + (wrap64 (x0)))))
def wide_Len.f (k : Nat) (a0 : Int) : Option (Int) := wide_Len.l0 k a0 0 32
theorem wide_Len.mono_l : ∀ k, (∀ y0 y1 y2, LeO (wide_Len.l0 k y0 y1 y2) (wide_Len.l0 (k + 1) y0 y1 y2))
  | 0 => fun _ _ _ r h => by simp [wide_Len.l0] at h
  | k + 1 => by
    have ih0 := wide_Len.mono_l k
    · intro y0 y1 y2
      unfold wide_Len.l0
      repeat' first
      | (with_reducible exact ih0 _ _ _)
      | (with_reducible exact LeO.refl _)
      | (with_reducible exact LeO.none _)
      | (with_reducible refine LeO.ite ?_ ?_)
      | (with_reducible refine LeO.bind ?_ (fun _ => ?_))
      | exact ih0 _ _ _
      | exact LeO.none _
      | refine LeO.ite ?_ ?_
      | refine LeO.bind ?_ (fun _ => ?_)
theorem wide_Len.mono : ∀ a0 k, LeO (wide_Len.f k a0) (wide_Len.f (k + 1) a0) := by
  intro a0 k
  have ih0 := wide_Len.mono_l k
  unfold wide_Len.f
  repeat' first
      | (with_reducible exact ih0 _ _ _)
      | (with_reducible exact LeO.refl _)
      | (with_reducible exact LeO.none _)
      | (with_reducible refine LeO.ite ?_ ?_)
      | (with_reducible refine LeO.bind ?_ (fun _ => ?_))
      | exact ih0 _ _ _
      | exact LeO.none _
      | refine LeO.ite ?_ ?_
      | refine LeO.bind ?_ (fun _ => ?_)
set_option maxHeartbeats 8000000 in
set_option maxRecDepth 100000 in
theorem wide_Len.calls (k : Nat) (a0 : Int) (r : Int) (w : World) (h : wide_Len.f k a0 = some r) :
    Calls Try.prog 38 #[.int .u64 a0] w fun e w' => e = .returned (.int .i64 r) ∧ Drawn0 w w' := by
  have H : (wide_Len.l0 k a0 0 32) = some r := h
  clear h
  have H' := Aside0.mk H
  clear H
  go_enter Try.func38, Try.ntmps38
  go_wp2
  go_loopg [0, 3, 4] k (fun kq v0 v3 v4 w' => ∃ (x0_1 : Int) (x3_1 : Int) (x4_1 : Int), v0 = .int .u64 x0_1 ∧ v3 = .int .i64 x3_1 ∧ v4 = .int .i64 x4_1 ∧ Aside0 (wide_Len.l0 kq x0_1 x3_1 x4_1 = some r) ∧ Aside0 (kq ≤ k) ∧ Drawn0 w w')
  case atStart => exact ⟨(a0), (0), (32), (by first | rfl | (simp; done) | (simp [*]; done)), (by first | rfl | (simp; done) | (simp [*]; done)), (by first | rfl | (simp; done) | (simp [*]; done)), H', ⟨Nat.le_refl _⟩, by repeat (first | exact Drawn0.refl _ | apply Drawn0.step)⟩
  case round =>
    clear H'
    obtain ⟨x0_1, x3_1, x4_1, rfl, rfl, rfl, HA, HK1, ⟨m1, rfl⟩⟩ := hrel
    cases gk with
    | zero => exact absurd HA.out (by simp [wide_Len.l0])
    | succ k1 =>
      have H := HA.out
      clear HA
      simp only [wide_Len.l0] at H
      by_cases c2 : x4_1 > 0
      · rw [if_pos c2] at H
        have c2b0 : decide (0 < x4_1) = true := decide_eq_true c2
        clear c2
        by_cases c3 : (0 : Int) ≤ x4_1
        · rw [if_pos c3] at H
          have c3b0 := eq_true c3
          have c3b1 : decide (0 ≤ x4_1) = true := decide_eq_true c3
          clear c3
          obtain ⟨ji4, hji4⟩ : ∃ j_ : Int, (shr .u64 x0_1 x4_1) = j_ := ⟨_, rfl⟩
          replace H : (if (ji4) = 0 then (wide_Len.l0 k1 x0_1 x3_1 (x4_1 / 2)) else (wide_Len.l0 k1 ji4 (wrap64 (x3_1 + x4_1)) (x4_1 / 2))) = some r := by first | (rw [hji4] at H; exact H) | (simp only [hji4] at H ⊢; exact H)
          have hji4_ : (x0_1 / 2 ^ min x4_1.toNat 64) = ji4 := hji4
          have hji4z : x4_1 ≤ 64 → (x0_1 / 2 ^ x4_1.toNat) = ji4 := shr_small hji4
          by_cases c5 : (ji4) = 0
          · rw [if_pos c5] at H
            have c5b0 : ((ji4) == 0) = true := beq_iff_eq.mpr c5
            have c5b1 : ((ji4) != 0) = false := bne_eq_false_iff_eq.mpr c5
            clear c5
            have H' := Aside0.mk H
            clear H
            go_wp2
            go_roundg k1
            case measure => have := HK1.out; omega
            case rel => exact ⟨(x0_1), (x3_1), (x4_1 / 2), (by first | rfl | (simp; done) | (simp [*]; done)), (by first | rfl | (simp; done) | (simp [*]; done)), (by first | rfl | (simp; done) | (simp [*]; done)), H', ⟨by have := HK1.out; omega⟩, by repeat (first | exact Drawn0.refl _ | apply Drawn0.step)⟩
          · rw [if_neg c5] at H
            have c5b0 : ((ji4) == 0) = false := beq_eq_false_iff_ne.mpr c5
            have c5b1 : ((ji4) != 0) = true := bne_iff_ne.mpr c5
            have c6b0 := eq_true (of_decide_eq_true (by first | (with_reducible assumption) | assumption) : 0 ≤ x4_1)
            have H' := Aside0.mk H
            clear H
            go_wp2
            go_roundg k1
            case measure => have := HK1.out; omega
            case rel => exact ⟨(ji4), (wrap64 (x3_1 + x4_1)), (x4_1 / 2), (by first | rfl | (simp; done) | (simp only [← hji4] <;> (first | rfl | simp)) | (simp [*]; done)), (by first | rfl | (simp; done) | (simp [*]; done)), (by first | rfl | (simp; done) | (simp [*]; done)), H', ⟨by have := HK1.out; omega⟩, by repeat (first | exact Drawn0.refl _ | apply Drawn0.step)⟩
        · rw [if_neg c3] at H
          exact absurd H (by simp)
      · rw [if_neg c2] at H
        have c2b0 : decide (0 < x4_1) = false := decide_eq_false c2
        clear c2
        obtain rfl := Option.some.inj H
        go_wp2
        go_ret
        exact ⟨by first | rfl | (simp; done) | (simp [*]; done), by repeat (first | exact Drawn0.refl _ | apply Drawn0.step)⟩

end Go.Proofs.Ytpnffhacmamilaa.PA
