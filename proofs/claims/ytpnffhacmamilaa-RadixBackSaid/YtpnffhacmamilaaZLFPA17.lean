/- PA17: a part of the proof. -/
-- made by program (wip/tools of this work) out of the translation; Lean checks it
import Derived.Test.YtpnffhacmamilaaZLFPA0
import Derived.Test.YtpnffhacmamilaaZLFPA1
import Derived.Test.YtpnffhacmamilaaZLFPA6
import Derived.Test.YtpnffhacmamilaaZLFPA7
import Derived.Test.YtpnffhacmamilaaZLFPA12
import Derived.Test.YtpnffhacmamilaaZLFPA16
namespace Go.Proofs.Ytpnffhacmamilaa.PA
open Go.RowKit Go.Proofs.YtpnffhacmamilaaW.PrintWords Go.Proofs.YtpnffhacmamilaaW.PrintLast Go.Proofs.YtpnffhacmamilaaW.PrintMore
attribute [local go_sem] max2_int min2_int max_two min_two max_three min_three max_four min_four   -- for this text's walks alone
set_option linter.unusedVariables false
set_option linter.unusedSimpArgs false

/-! ### plumblaw04_RadixBack: function 3 (by hand) -/
attribute [local go_sem] errB_true errB_false guard_neq_errB guard_eql_errB neq_errB eql_errB
mutual
def plumblaw04_RadixBack.j0 : Nat → List Int → Int → Int → ByteArray → Int → Bool → Option (Bool)
  | 0, _, _, _, _, _, _ => none
  | k + 1, x0, x1, x2, x7, x8, x35 => if x35 = true then (if x8 = 0 then (some false) else (some (x7.toList == ([] : List UInt8)))) else (if x8 = 0 then (if (x7.size : Int) = 0 then (plumblaw04_RadixBack.j1 k x0 x1 x2 x7 true) else (if 0 < (x7.size : Int) then (if (bt x7 0) = 48 then (plumblaw04_RadixBack.j1 k x0 x1 x2 x7 (x7.toList != ([48] : List UInt8))) else (plumblaw04_RadixBack.j1 k x0 x1 x2 x7 false)) else (none))) else (plumblaw04_RadixBack.j1 k x0 x1 x2 x7 true))
def plumblaw04_RadixBack.j1 : Nat → List Int → Int → Int → ByteArray → Bool → Option (Bool)
  | 0, _, _, _, _, _ => none
  | k + 1, x0, x1, x2, x7, x57 => if x57 = true then (some false) else (if x7.size ≤ 281474976710656 then (plumblaw04_RadixBack.l0 k x0 x1 x2 x7 (bytesOfStr x7) 0) else (none))
def plumblaw04_RadixBack.l0 : Nat → List Int → Int → Int → ByteArray → List Int → Int → Option (Bool)
  | 0, _, _, _, _, _, _ => none
  | k + 1, x0, x1, x2, x7, x9, x10 => if x10 < (x9.length : Int) then (if 0 ≤ x10 then (if (rd x9 x10) ≥ 97 then (if (rd x9 x10) ≤ 122 then (plumblaw04_RadixBack.l0 k x0 x1 x2 x7 (x9.set (x10 : Int).toNat (((rd x9 x10) - 32) % 256)) (wrap64 (x10 + 1))) else (plumblaw04_RadixBack.l0 k x0 x1 x2 x7 x9 (wrap64 (x10 + 1)))) else (plumblaw04_RadixBack.l0 k x0 x1 x2 x7 x9 (wrap64 (x10 + 1)))) else (none)) else (if 0 ≤ (wrap64 (Int.tmod (IntKind.u64.wrap (x2)) 50)) then (if (wrap64 (Int.tmod (IntKind.u64.wrap (x2)) 50) : Int).toNat ≤ 281474976710656 then (plumblaw04_RadixBack.l1 k x0 x1 x7 x9 (List.replicate (wrap64 (Int.tmod (IntKind.u64.wrap (x2)) 50) : Int).toNat 0) 0) else (none)) else (none))
def plumblaw04_RadixBack.l1 : Nat → List Int → Int → ByteArray → List Int → List Int → Int → Option (Bool)
  | 0, _, _, _, _, _, _ => none
  | k + 1, x0, x1, x7, x9, x11, x12 => if x12 < (x11.length : Int) then (if 0 ≤ x12 then (plumblaw04_RadixBack.l1 k x0 x1 x7 x9 (x11.set (x12 : Int).toNat 48) (wrap64 (x12 + 1))) else (none)) else ((radix_Parse.fB k x7 x1).bind fun bt235 => (if (strOfNums x11).size + (strOfNums x9).size ≤ 9223372036854775807 then ((radix_Parse.fB k ((strOfNums x11) ++ (strOfNums x9)) x1).bind fun bt239 => (if bt235.2 = true then (some false) else (if bt239.2 = true then (some false) else ((nat_Norm.f x0).bind fun t243 => ((plumblaw04_eq.f k bt235.1 t243).bind fun t246 => (if t246 = true then ((plumblaw04_eq.f k bt239.1 bt235.1).bind fun t247 => (some t247)) else (some false))))))) else (none)))
end
def plumblaw04_RadixBack.f (k : Nat) (l0 : List Int) (a1 : Int) (a2 : Int) : Option (Bool) := (radix_Text.f k l0 a1).bind fun bt220 => ((plumblaw04_alive.f k).bind fun t222 => (if t222 = true then (if a1 < 2 then (plumblaw04_RadixBack.j0 k l0 a1 a2 bt220.1 bt220.2 true) else (if a1 > 36 then (plumblaw04_RadixBack.j0 k l0 a1 a2 bt220.1 bt220.2 true) else ((nat_Bits.f k l0).bind fun t223 => (plumblaw04_RadixBack.j0 k l0 a1 a2 bt220.1 bt220.2 (decide (t223 > 262144)))))) else (some false)))
theorem plumblaw04_RadixBack.mono_l : ∀ k, (∀ y0 y1 y2 y3 y4 y5, LeO (plumblaw04_RadixBack.j0 k y0 y1 y2 y3 y4 y5) (plumblaw04_RadixBack.j0 (k + 1) y0 y1 y2 y3 y4 y5)) ∧ (∀ y0 y1 y2 y3 y4, LeO (plumblaw04_RadixBack.j1 k y0 y1 y2 y3 y4) (plumblaw04_RadixBack.j1 (k + 1) y0 y1 y2 y3 y4)) ∧ (∀ y0 y1 y2 y3 y4 y5, LeO (plumblaw04_RadixBack.l0 k y0 y1 y2 y3 y4 y5) (plumblaw04_RadixBack.l0 (k + 1) y0 y1 y2 y3 y4 y5)) ∧ (∀ y0 y1 y2 y3 y4 y5, LeO (plumblaw04_RadixBack.l1 k y0 y1 y2 y3 y4 y5) (plumblaw04_RadixBack.l1 (k + 1) y0 y1 y2 y3 y4 y5))
  | 0 => ⟨fun _ _ _ _ _ _ r h => by simp [plumblaw04_RadixBack.j0] at h, fun _ _ _ _ _ r h => by simp [plumblaw04_RadixBack.j1] at h, fun _ _ _ _ _ _ r h => by simp [plumblaw04_RadixBack.l0] at h, fun _ _ _ _ _ _ r h => by simp [plumblaw04_RadixBack.l1] at h⟩
  | k + 1 => by
    obtain ⟨ih0, ih1, ih2, ih3⟩ := plumblaw04_RadixBack.mono_l k
    refine ⟨?_, ?_, ?_, ?_⟩
    · intro y0 y1 y2 y3 y4 y5
      unfold plumblaw04_RadixBack.j0
      repeat' first
      | (with_reducible exact ih0 _ _ _ _ _ _)
      | (with_reducible exact ih1 _ _ _ _ _)
      | (with_reducible exact ih2 _ _ _ _ _ _)
      | (with_reducible exact ih3 _ _ _ _ _ _)
      | (with_reducible exact nat_Bits.mono _ _)
      | (with_reducible exact plumblaw04_alive.mono _)
      | (with_reducible exact plumblaw04_eq.mono _ _ _)
      | (with_reducible exact radix_Parse.monoB _ _ _)
      | (with_reducible exact radix_Text.mono _ _ _)
      | (with_reducible exact LeO.refl _)
      | (with_reducible exact LeO.none _)
      | (with_reducible refine LeO.ite ?_ ?_)
      | (with_reducible refine LeO.bind ?_ (fun _ => ?_))
      | exact ih0 _ _ _ _ _ _
      | exact ih1 _ _ _ _ _
      | exact ih2 _ _ _ _ _ _
      | exact ih3 _ _ _ _ _ _
      | exact nat_Bits.mono _ _
      | exact plumblaw04_alive.mono _
      | exact plumblaw04_eq.mono _ _ _
      | exact radix_Parse.monoB _ _ _
      | exact radix_Text.mono _ _ _
      | exact LeO.none _
      | refine LeO.ite ?_ ?_
      | refine LeO.bind ?_ (fun _ => ?_)
    · intro y0 y1 y2 y3 y4
      unfold plumblaw04_RadixBack.j1
      repeat' first
      | (with_reducible exact ih0 _ _ _ _ _ _)
      | (with_reducible exact ih1 _ _ _ _ _)
      | (with_reducible exact ih2 _ _ _ _ _ _)
      | (with_reducible exact ih3 _ _ _ _ _ _)
      | (with_reducible exact nat_Bits.mono _ _)
      | (with_reducible exact plumblaw04_alive.mono _)
      | (with_reducible exact plumblaw04_eq.mono _ _ _)
      | (with_reducible exact radix_Parse.monoB _ _ _)
      | (with_reducible exact radix_Text.mono _ _ _)
      | (with_reducible exact LeO.refl _)
      | (with_reducible exact LeO.none _)
      | (with_reducible refine LeO.ite ?_ ?_)
      | (with_reducible refine LeO.bind ?_ (fun _ => ?_))
      | exact ih0 _ _ _ _ _ _
      | exact ih1 _ _ _ _ _
      | exact ih2 _ _ _ _ _ _
      | exact ih3 _ _ _ _ _ _
      | exact nat_Bits.mono _ _
      | exact plumblaw04_alive.mono _
      | exact plumblaw04_eq.mono _ _ _
      | exact radix_Parse.monoB _ _ _
      | exact radix_Text.mono _ _ _
      | exact LeO.none _
      | refine LeO.ite ?_ ?_
      | refine LeO.bind ?_ (fun _ => ?_)
    · intro y0 y1 y2 y3 y4 y5
      unfold plumblaw04_RadixBack.l0
      repeat' first
      | (with_reducible exact ih0 _ _ _ _ _ _)
      | (with_reducible exact ih1 _ _ _ _ _)
      | (with_reducible exact ih2 _ _ _ _ _ _)
      | (with_reducible exact ih3 _ _ _ _ _ _)
      | (with_reducible exact nat_Bits.mono _ _)
      | (with_reducible exact plumblaw04_alive.mono _)
      | (with_reducible exact plumblaw04_eq.mono _ _ _)
      | (with_reducible exact radix_Parse.monoB _ _ _)
      | (with_reducible exact radix_Text.mono _ _ _)
      | (with_reducible exact LeO.refl _)
      | (with_reducible exact LeO.none _)
      | (with_reducible refine LeO.ite ?_ ?_)
      | (with_reducible refine LeO.bind ?_ (fun _ => ?_))
      | exact ih0 _ _ _ _ _ _
      | exact ih1 _ _ _ _ _
      | exact ih2 _ _ _ _ _ _
      | exact ih3 _ _ _ _ _ _
      | exact nat_Bits.mono _ _
      | exact plumblaw04_alive.mono _
      | exact plumblaw04_eq.mono _ _ _
      | exact radix_Parse.monoB _ _ _
      | exact radix_Text.mono _ _ _
      | exact LeO.none _
      | refine LeO.ite ?_ ?_
      | refine LeO.bind ?_ (fun _ => ?_)
    · intro y0 y1 y2 y3 y4 y5
      unfold plumblaw04_RadixBack.l1
      repeat' first
      | (with_reducible exact ih0 _ _ _ _ _ _)
      | (with_reducible exact ih1 _ _ _ _ _)
      | (with_reducible exact ih2 _ _ _ _ _ _)
      | (with_reducible exact ih3 _ _ _ _ _ _)
      | (with_reducible exact nat_Bits.mono _ _)
      | (with_reducible exact plumblaw04_alive.mono _)
      | (with_reducible exact plumblaw04_eq.mono _ _ _)
      | (with_reducible exact radix_Parse.monoB _ _ _)
      | (with_reducible exact radix_Text.mono _ _ _)
      | (with_reducible exact LeO.refl _)
      | (with_reducible exact LeO.none _)
      | (with_reducible refine LeO.ite ?_ ?_)
      | (with_reducible refine LeO.bind ?_ (fun _ => ?_))
      | exact ih0 _ _ _ _ _ _
      | exact ih1 _ _ _ _ _
      | exact ih2 _ _ _ _ _ _
      | exact ih3 _ _ _ _ _ _
      | exact nat_Bits.mono _ _
      | exact plumblaw04_alive.mono _
      | exact plumblaw04_eq.mono _ _ _
      | exact radix_Parse.monoB _ _ _
      | exact radix_Text.mono _ _ _
      | exact LeO.none _
      | refine LeO.ite ?_ ?_
      | refine LeO.bind ?_ (fun _ => ?_)
theorem plumblaw04_RadixBack.mono : ∀ a0 a1 a2 k, LeO (plumblaw04_RadixBack.f k a0 a1 a2) (plumblaw04_RadixBack.f (k + 1) a0 a1 a2) := by
  intro a0 a1 a2 k
  obtain ⟨ih0, ih1, ih2, ih3⟩ := plumblaw04_RadixBack.mono_l k
  unfold plumblaw04_RadixBack.f
  repeat' first
      | (with_reducible exact ih0 _ _ _ _ _ _)
      | (with_reducible exact ih1 _ _ _ _ _)
      | (with_reducible exact ih2 _ _ _ _ _ _)
      | (with_reducible exact ih3 _ _ _ _ _ _)
      | (with_reducible exact nat_Bits.mono _ _)
      | (with_reducible exact plumblaw04_alive.mono _)
      | (with_reducible exact plumblaw04_eq.mono _ _ _)
      | (with_reducible exact radix_Parse.monoB _ _ _)
      | (with_reducible exact radix_Text.mono _ _ _)
      | (with_reducible exact LeO.refl _)
      | (with_reducible exact LeO.none _)
      | (with_reducible refine LeO.ite ?_ ?_)
      | (with_reducible refine LeO.bind ?_ (fun _ => ?_))
      | exact ih0 _ _ _ _ _ _
      | exact ih1 _ _ _ _ _
      | exact ih2 _ _ _ _ _ _
      | exact ih3 _ _ _ _ _ _
      | exact nat_Bits.mono _ _
      | exact plumblaw04_alive.mono _
      | exact plumblaw04_eq.mono _ _ _
      | exact radix_Parse.monoB _ _ _
      | exact radix_Text.mono _ _ _
      | exact LeO.none _
      | refine LeO.ite ?_ ?_
      | refine LeO.bind ?_ (fun _ => ?_)
set_option maxHeartbeats 8000000 in
set_option maxRecDepth 100000 in
theorem plumblaw04_RadixBack.calls (k : Nat) (A0 : Option Addr) (c0 : Nat) (l0 : List Int) (a1 : Int) (a2 : Int) (r : Bool) (w : World) (hr0 : Kd.C (Kd.int .u64) w A0 l0.length l0) (hc0 : l0.length ≤ c0) (h : plumblaw04_RadixBack.f k l0 a1 a2 = some r) :
    Calls Try.prog 3 #[.slice A0 l0.length c0, .int .i64 a1, .int .i64 a2] w fun e w' => e = .returned (.bool r) ∧ Below w.heap.size w w' := by
  have HR0 := Aside0.mk hr0
  have HC0 := Aside0.mk hc0
  clear hr0 hc0
  have HB := Aside0.mk (Below.refl w.heap.size w)
  have H : ((radix_Text.f k l0 a1).bind fun bt220 => ((plumblaw04_alive.f k).bind fun t222 => (if t222 = true then (if a1 < 2 then (plumblaw04_RadixBack.j0 k l0 a1 a2 bt220.1 bt220.2 true) else (if a1 > 36 then (plumblaw04_RadixBack.j0 k l0 a1 a2 bt220.1 bt220.2 true) else ((nat_Bits.f k l0).bind fun t223 => (plumblaw04_RadixBack.j0 k l0 a1 a2 bt220.1 bt220.2 (decide (t223 > 262144)))))) else (some false)))) = some r := h
  clear h
  replace H := Option.bind_eq_some_iff.mp H
  obtain ⟨⟨t220, t221⟩, A40, H⟩ := H
  replace H : ((plumblaw04_alive.f k).bind fun t222 => (if t222 = true then (if a1 < 2 then (plumblaw04_RadixBack.j0 k l0 a1 a2 t220 t221 true) else (if a1 > 36 then (plumblaw04_RadixBack.j0 k l0 a1 a2 t220 t221 true) else ((nat_Bits.f k l0).bind fun t223 => (plumblaw04_RadixBack.j0 k l0 a1 a2 t220 t221 (decide (t223 > 262144)))))) else (some false))) = some r := H
  have A4 := Aside0.mk A40
  clear A40
  replace H := Option.bind_eq_some_iff.mp H
  obtain ⟨t222, A50, H⟩ := H
  replace H : (if t222 = true then (if a1 < 2 then (plumblaw04_RadixBack.j0 k l0 a1 a2 t220 t221 true) else (if a1 > 36 then (plumblaw04_RadixBack.j0 k l0 a1 a2 t220 t221 true) else ((nat_Bits.f k l0).bind fun t223 => (plumblaw04_RadixBack.j0 k l0 a1 a2 t220 t221 (decide (t223 > 262144)))))) else (some false)) = some r := H
  have A5 := Aside0.mk A50
  clear A50
  by_cases c6 : t222 = true
  · subst c6
    have H1 : (if a1 < 2 then (plumblaw04_RadixBack.j0 k l0 a1 a2 t220 t221 true) else (if a1 > 36 then (plumblaw04_RadixBack.j0 k l0 a1 a2 t220 t221 true) else ((nat_Bits.f k l0).bind fun t223 => (plumblaw04_RadixBack.j0 k l0 a1 a2 t220 t221 (decide (t223 > 262144)))))) = some r := by rw [if_pos rfl] at H; exact H
    clear H
    have H := H1
    clear H1
    have HC7 := Aside0.mk H
    clear H
    go_enter Try.func3, Try.ntmps3
    go_upto_region 4 with (first | ((with_reducible refine gate_callee (f := 9) rfl ?_); refine goesL_ (some 20) rfl rfl Try.func9 (by kernel_rfl) rfl #[.slice A0 l0.length c0, .int .i64 a1] rfl (by (try simp only [List.map_toArray, List.map_cons, List.map_nil]); first | done | rfl | (simp only [List.length_drop, List.length_take]; rfl)) ?_; (with_reducible refine (radix_Text.calls k _ _ l0 a1 t220 t221 _ ?side1 ?side2 A4.out).mono ?_); (case side1 => repeat (first | exact HR0.out | (with_reducible refine Kd.C_alloc ?_ _) | (with_reducible refine Kd.C_drewN ?_ _) | (with_reducible refine Kd.C_drew ?_))); (case side2 => exact HC0.out); rintro e w8 ⟨rfl, hb⟩; refine ⟨_, rfl, ?_⟩; have n0_ := Aside0.mk (below_step (by repeat (first | (with_reducible first | exact HB.out | apply below_alloc | apply pw_below_drewN | apply below_drew1) | exact HB.out)) hb); clear HB; have HB := n0_; clear n0_; (try clear hb); (try clear hb2); (try clear hk); (try clear hi)) | ((with_reducible refine gate_callee (f := 10) rfl ?_); refine goesL_ (some 23) rfl rfl Try.func10 (by kernel_rfl) rfl #[] rfl (by (try simp only [List.map_toArray, List.map_cons, List.map_nil]); first | done | rfl | (simp only [List.length_drop, List.length_take]; rfl)) ?_; (with_reducible refine (plumblaw04_alive.calls k  true _ A5.out).mono ?_); rintro e w9 ⟨rfl, hb⟩; refine ⟨_, rfl, ?_⟩; have n0_ := Aside0.mk (below_step (by repeat (first | (with_reducible first | exact HB.out | apply below_alloc | apply pw_below_drewN | apply below_drew1) | exact HB.out)) hb); clear HB; have HB := n0_; clear n0_; (try clear hb); (try clear hb2); (try clear hk); (try clear hi)))
    (try simp only [Act.put, List.setIfInBounds_toArray, List.set_cons_zero, List.set_cons_succ])
    go_cut [35] (fun v35 wc => ∃ (kq : Nat) (x35_6 : Bool), v35 = .bool x35_6 ∧ Aside0 (plumblaw04_RadixBack.j0 kq l0 a1 a2 t220 t221 x35_6 = some r) ∧ Aside0 (kq ≤ k) ∧ Aside0 (Below w.heap.size w wc))
    case first =>
      have H := HC7.out
      clear HC7
      by_cases c10 : a1 < 2
      · rw [if_pos c10] at H
        have c10b0 : decide (a1 < 2) = true := decide_eq_true c10
        clear c10
        (first | rw [c10b0] | (simp only [i64_w, i32_w]; rw [c10b0]) | skip)
        have H' := Aside0.mk H
        clear H
        go_wp2
        go_meet
        case rel => exact ⟨_, (true), (by first | rfl | (simp; done) | (simp [*]; done)), H', ⟨by first | omega | exact Nat.le_refl _⟩, ⟨by repeat (first | (with_reducible first | exact HB.out | apply below_alloc | apply pw_below_drewN | apply below_drew1) | exact HB.out)⟩⟩
      · rw [if_neg c10] at H
        have c10b0 : decide (a1 < 2) = false := decide_eq_false c10
        clear c10
        (first | rw [c10b0] | (simp only [i64_w, i32_w]; rw [c10b0]) | skip)
        by_cases c11 : a1 > 36
        · rw [if_pos c11] at H
          have c11b0 : decide (36 < a1) = true := decide_eq_true c11
          clear c11
          have H' := Aside0.mk H
          clear H
          go_wp2
          go_meet
          case rel => exact ⟨_, (true), (by first | rfl | (simp; done) | (simp [*]; done)), H', ⟨by first | omega | exact Nat.le_refl _⟩, ⟨by repeat (first | (with_reducible first | exact HB.out | apply below_alloc | apply pw_below_drewN | apply below_drew1) | exact HB.out)⟩⟩
        · rw [if_neg c11] at H
          have c11b0 : decide (36 < a1) = false := decide_eq_false c11
          clear c11
          replace H := Option.bind_eq_some_iff.mp H
          obtain ⟨t223, A120, H⟩ := H
          replace H : (plumblaw04_RadixBack.j0 k l0 a1 a2 t220 t221 (decide (t223 > 262144))) = some r := H
          have A12 := Aside0.mk A120
          clear A120
          have H' := Aside0.mk H
          clear H
          go_wp2_with (first | (go_at_call 11; (with_reducible refine (nat_Bits.calls k _ _ l0 t223 _ ?side1 ?side2 A12.out).mono ?_); (case side1 => repeat (first | exact (Kd.C_below HR0.out HB.out) | (with_reducible refine Kd.C_alloc ?_ _) | (with_reducible refine Kd.C_drewN ?_ _) | (with_reducible refine Kd.C_drew ?_))); (case side2 => exact HC0.out); rintro e w' ⟨rfl, ⟨nd, rfl⟩⟩))
          go_meet
          case rel => exact ⟨_, (decide (t223 > 262144)), (by first | rfl | (simp; done) | (simp [*]; done)), H', ⟨by first | omega | exact Nat.le_refl _⟩, ⟨by repeat (first | (with_reducible first | exact HB.out | apply below_alloc | apply pw_below_drewN | apply below_drew1) | exact HB.out)⟩⟩
    case rest =>
      clear HC7
      try clear c1
      try clear p2
      try clear c3
      try clear c6
      try clear c9
      try clear c10
      try clear c10b0
      try clear c11
      try clear c11b0
      obtain ⟨kq, x35_6, rfl, HA, HJ6, HB⟩ := hcut
      cases kq with
      | zero => exact absurd HA.out (by simp [plumblaw04_RadixBack.j0])
      | succ kj6 =>
        have H := HA.out
        clear HA
        simp only [plumblaw04_RadixBack.j0] at H
        by_cases c13 : x35_6 = true
        · subst c13
          have H1 : (if t221 = 0 then (some false) else (some (t220.toList == ([] : List UInt8)))) = some r := by rw [if_pos rfl] at H; exact H
          clear H
          have H := H1
          clear H1
          by_cases c14 : t221 = 0
          · rw [if_pos c14] at H
            have c14b0 : (t221 == 0) = true := beq_iff_eq.mpr c14
            have c14b1 : (t221 != 0) = false := bne_eq_false_iff_eq.mpr c14
            clear c14
            obtain rfl := Option.some.inj H
            go_wp2
            go_ret
            exact ⟨by first | rfl | (simp [errW_none, errW_some] <;> rfl) | (simp [*, errW_none, errW_some] <;> rfl), by repeat (first | (with_reducible first | exact HB.out | apply below_alloc | apply pw_below_drewN | apply below_drew1) | exact HB.out)⟩
          · rw [if_neg c14] at H
            have c14b0 : (t221 == 0) = false := beq_eq_false_iff_ne.mpr c14
            have c14b1 : (t221 != 0) = true := bne_iff_ne.mpr c14
            obtain rfl := Option.some.inj H
            go_wp2
            go_ret
            exact ⟨by first | rfl | (simp [errW_none, errW_some] <;> rfl) | (simp [*, errW_none, errW_some] <;> rfl), by repeat (first | (with_reducible first | exact HB.out | apply below_alloc | apply pw_below_drewN | apply below_drew1) | exact HB.out)⟩
        · replace c13 := Bool.eq_false_iff.mpr c13
          subst c13
          have H1 : (if t221 = 0 then (if (t220.size : Int) = 0 then (plumblaw04_RadixBack.j1 kj6 l0 a1 a2 t220 true) else (if 0 < (t220.size : Int) then (if (bt t220 0) = 48 then (plumblaw04_RadixBack.j1 kj6 l0 a1 a2 t220 (t220.toList != ([48] : List UInt8))) else (plumblaw04_RadixBack.j1 kj6 l0 a1 a2 t220 false)) else (none))) else (plumblaw04_RadixBack.j1 kj6 l0 a1 a2 t220 true)) = some r := by rw [if_neg (show ¬ (false = true) by decide)] at H; exact H
          clear H
          have H := H1
          clear H1
          have HC15 := Aside0.mk H
          clear H
          go_upto_region 6 with (fail)
          go_cut [57] (fun v57 wc => ∃ (kq : Nat) (x57_14 : Bool), v57 = .bool x57_14 ∧ Aside0 (plumblaw04_RadixBack.j1 kq l0 a1 a2 t220 x57_14 = some r) ∧ Aside0 (kq ≤ kj6) ∧ Aside0 (Below w.heap.size w wc))
          case first =>
            have H := HC15.out
            clear HC15
            by_cases c16 : t221 = 0
            · rw [if_pos c16] at H
              have c16b0 : (t221 == 0) = true := beq_iff_eq.mpr c16
              have c16b1 : (t221 != 0) = false := bne_eq_false_iff_eq.mpr c16
              clear c16
              (first | rw [c16b0] | (simp only [i64_w, i32_w]; rw [c16b0]) | skip)
              by_cases c17 : (t220.size : Int) = 0
              · rw [if_pos c17] at H
                have c17b0 : ((t220.size : Int) == 0) = true := beq_iff_eq.mpr c17
                have c17b1 : ((t220.size : Int) != 0) = false := bne_eq_false_iff_eq.mpr c17
                clear c17
                have H' := Aside0.mk H
                clear H
                go_wp2
                go_meet
                case rel => exact ⟨_, (true), (by first | rfl | (simp; done) | (simp [*]; done)), H', ⟨by have := HJ6.out; first | omega | exact Nat.le_refl _⟩, ⟨by repeat (first | (with_reducible first | exact HB.out | apply below_alloc | apply pw_below_drewN | apply below_drew1) | exact HB.out)⟩⟩
              · rw [if_neg c17] at H
                have c17b0 : ((t220.size : Int) == 0) = false := beq_eq_false_iff_ne.mpr c17
                have c17b1 : ((t220.size : Int) != 0) = true := bne_iff_ne.mpr c17
                by_cases c18 : (0 : Int) < (t220.size : Int)
                · rw [if_pos c18] at H
                  have c18b0 : decide (0 < (t220.size : Int)) = true := decide_eq_true c18
                  have c18b1 : decide (0 < t220.size) = true := decide_eq_true (by omega)
                  clear c18
                  by_cases c20 : (bt t220 0) = 48
                  · rw [if_pos c20] at H
                    have c20b0 : ((bt t220 0) == 48) = true := beq_iff_eq.mpr c20
                    have c20b1 : ((bt t220 0) != 48) = false := bne_eq_false_iff_eq.mpr c20
                    clear c20
                    have H' := Aside0.mk H
                    clear H
                    have p19 : 0 ≤ (0 : Int) := (by omega)
                    have q19 : 0 < t220.size := (by have : (0 : Int) < (t220.size : Int) := of_decide_eq_true (by first | (with_reducible assumption) | assumption); omega)
                    have hx19 : ∀ h : 0 < t220.size, ((t220[0]'h).toNat : Int) = bt t220 0 := bt_at t220 0
                    clear p19
                    have qi19 : (0 < (t220.size : Int)) = True := eq_true (of_decide_eq_true (by first | (with_reducible assumption) | assumption))
                    replace q19 := eq_true q19
                    go_wp2
                    go_meet
                    case rel => exact ⟨_, ((t220.toList != ([48] : List UInt8))), (by first | rfl | (simp; done) | (simp [*]; done)), H', ⟨by have := HJ6.out; first | omega | exact Nat.le_refl _⟩, ⟨by repeat (first | (with_reducible first | exact HB.out | apply below_alloc | apply pw_below_drewN | apply below_drew1) | exact HB.out)⟩⟩
                  · rw [if_neg c20] at H
                    have c20b0 : ((bt t220 0) == 48) = false := beq_eq_false_iff_ne.mpr c20
                    have c20b1 : ((bt t220 0) != 48) = true := bne_iff_ne.mpr c20
                    have H' := Aside0.mk H
                    clear H
                    have p19 : 0 ≤ (0 : Int) := (by omega)
                    have q19 : 0 < t220.size := (by have : (0 : Int) < (t220.size : Int) := of_decide_eq_true (by first | (with_reducible assumption) | assumption); omega)
                    have hx19 : ∀ h : 0 < t220.size, ((t220[0]'h).toNat : Int) = bt t220 0 := bt_at t220 0
                    clear p19
                    have qi19 : (0 < (t220.size : Int)) = True := eq_true (of_decide_eq_true (by first | (with_reducible assumption) | assumption))
                    replace q19 := eq_true q19
                    go_wp2
                    go_meet
                    case rel => exact ⟨_, (false), (by first | rfl | (simp; done) | (simp [*]; done)), H', ⟨by have := HJ6.out; first | omega | exact Nat.le_refl _⟩, ⟨by repeat (first | (with_reducible first | exact HB.out | apply below_alloc | apply pw_below_drewN | apply below_drew1) | exact HB.out)⟩⟩
                · rw [if_neg c18] at H
                  exact absurd H (by simp)
            · rw [if_neg c16] at H
              have c16b0 : (t221 == 0) = false := beq_eq_false_iff_ne.mpr c16
              have c16b1 : (t221 != 0) = true := bne_iff_ne.mpr c16
              (first | rw [c16b0] | (simp only [i64_w, i32_w]; rw [c16b0]) | skip)
              have H' := Aside0.mk H
              clear H
              go_wp2
              go_meet
              case rel => exact ⟨_, (true), (by first | rfl | (simp; done) | (simp [*]; done)), H', ⟨by have := HJ6.out; first | omega | exact Nat.le_refl _⟩, ⟨by repeat (first | (with_reducible first | exact HB.out | apply below_alloc | apply pw_below_drewN | apply below_drew1) | exact HB.out)⟩⟩
          case rest =>
            clear HC15
            try clear c1
            try clear p1
            try clear q1
            try clear hx1
            try clear qi1
            try clear c2
            try clear p2
            try clear c3
            try clear c6
            try clear c9
            try clear c10
            try clear c10b0
            try clear c11
            try clear c11b0
            try clear c13
            try clear c14
            try clear c14b0
            try clear c14b1
            try clear c16
            try clear c16b0
            try clear c16b1
            try clear c17
            try clear c17b0
            try clear c17b1
            try clear c18
            try clear c18b0
            try clear c18b1
            try clear p19
            try clear q19
            try clear hx19
            try clear qi19
            try clear c20
            try clear c20b0
            try clear c20b1
            try clear p19
            try clear p2
            try clear q19
            obtain ⟨kq, x57_14, rfl, HA, HJ14, HB⟩ := hcut
            cases kq with
            | zero => exact absurd HA.out (by simp [plumblaw04_RadixBack.j1])
            | succ kj14 =>
              have H := HA.out
              clear HA
              simp only [plumblaw04_RadixBack.j1] at H
              by_cases c21 : x57_14 = true
              · subst c21
                have H1 : (some false) = some r := by rw [if_pos rfl] at H; exact H
                clear H
                have H := H1
                clear H1
                obtain rfl := Option.some.inj H
                go_wp2
                go_ret
                exact ⟨by first | rfl | (simp [errW_none, errW_some] <;> rfl) | (simp [*, errW_none, errW_some] <;> rfl), by repeat (first | (with_reducible first | exact HB.out | apply below_alloc | apply pw_below_drewN | apply below_drew1) | exact HB.out)⟩
              · replace c21 := Bool.eq_false_iff.mpr c21
                subst c21
                have H1 : (if t220.size ≤ 281474976710656 then (plumblaw04_RadixBack.l0 kj14 l0 a1 a2 t220 (bytesOfStr t220) 0) else (none)) = some r := by rw [if_neg (show ¬ (false = true) by decide)] at H; exact H
                clear H
                have H := H1
                clear H1
                by_cases c22 : t220.size ≤ 281474976710656
                · rw [if_pos c22] at H
                  have c22b0 := eq_true c22
                  have c22b1 : decide (t220.size ≤ 281474976710656) = true := decide_eq_true c22
                  clear c22
                  obtain ⟨y224, hy224⟩ : ∃ y_ : List Int, y_ = (bytesOfStr t220) := ⟨_, rfl⟩
                  replace H : (plumblaw04_RadixBack.l0 kj14 l0 a1 a2 t220 y224 0) = some r := by first | (rw [hy224]; with_reducible exact H) | (have H2_ := (Option.bind_some _ _).symm.trans H; rw [hy224]; with_reducible exact H2_) | (have H2_ := (Option.bind_some _ _).symm.trans H; with_reducible exact H2_) | with_reducible exact H | (rw [hy224]; exact H) | exact H
                  have Ny224 := Aside0.mk hy224
                  clear hy224
                  have H' := Aside0.mk H
                  clear H
                  go_wp2_with (first | ((with_reducible refine gate_dst (N := 59) rfl ?_); (try (refine gate_guard (by rfl) ?_; dsimp only)); refine Kd.R_bytes _ 5 rfl (N := 59) rfl 9 28 _ rfl t220 rfl Try.underlying9 Try.underlying28 Try.underlying5 (ok := fun _ => True) trivial (of_decide_eq_true (by first | (with_reducible assumption) | assumption)) (Below.refl _ _) (Nat.le_refl _) ?_; intro v225 w23 ho24 hb hg_ hnew_; clear hg_ hnew_; (first | rw [← Ny224.out] at ho24 | (simp only [Int.reduceToNat] at ho24; rw [← Ny224.out] at ho24)); have n0_ := Aside0.mk (Kd.R_lower ho24 (below_size (by repeat (first | (with_reducible first | exact HB.out | apply below_alloc | apply pw_below_drewN | apply below_drew1) | exact HB.out)))); have n1_ := Aside0.mk (below_step (by repeat (first | (with_reducible first | exact HB.out | apply below_alloc | apply pw_below_drewN | apply below_drew1) | exact HB.out)) hb); clear HB; have HO226 := n0_; have HB := n1_; clear n0_ n1_; clear hb ho24))
                  go_loopg [10] kj14 (fun kq v10 w' => ∃ (x9_3 : List Int) (x10_3 : Int), v10 = .int .i64 x10_3 ∧ Aside0 (plumblaw04_RadixBack.l0 kq l0 a1 a2 t220 x9_3 x10_3 = some r) ∧ Aside0 (kq ≤ kj14) ∧ Aside0 (Kd.R (Kd.int .u8) 5 w' w.heap.size (fun _ => True) v225 x9_3) ∧ Aside0 (Below w.heap.size w w'))
                  case atStart => exact ⟨(y224), (0), (by first | rfl | (simp; done) | (simp [*]; done)), H', ⟨Nat.le_refl _⟩, ⟨by (with_reducible repeat (first | apply Kd.R_alloc | apply Kd.R_drewN | apply Kd.R_drew)); exact HO226.out⟩, ⟨by repeat (first | (with_reducible first | exact HB.out | apply below_alloc | apply pw_below_drewN | apply below_drew1) | exact HB.out)⟩⟩
                  case round =>
                    clear H'
                    try clear c1
                    try clear p1
                    try clear q1
                    try clear hx1
                    try clear qi1
                    try clear c2
                    try clear p2
                    try clear c3
                    try clear c6
                    try clear c9
                    try clear c10
                    try clear c10b0
                    try clear c11
                    try clear c11b0
                    try clear c13
                    try clear c14
                    try clear c14b0
                    try clear c14b1
                    try clear c16
                    try clear c16b0
                    try clear c16b1
                    try clear c17
                    try clear c17b0
                    try clear c17b1
                    try clear c18
                    try clear c18b0
                    try clear c18b1
                    try clear p19
                    try clear q19
                    try clear hx19
                    try clear qi19
                    try clear c20
                    try clear c20b0
                    try clear c20b1
                    try clear c21
                    try clear c22
                    try clear c22b0
                    try clear c22b1
                    try clear p1
                    try clear p19
                    try clear p2
                    try clear q1
                    try clear q19
                    obtain ⟨x9_3, x10_3, rfl, HA, HK3, HO_9, HB⟩ := hrel
                    cases gk with
                    | zero => exact absurd HA.out (by simp [plumblaw04_RadixBack.l0])
                    | succ k3 =>
                      have H := HA.out
                      clear HA
                      simp only [plumblaw04_RadixBack.l0] at H
                      by_cases c25 : x10_3 < (x9_3.length : Int)
                      · rw [if_pos c25] at H
                        have c25b0 : decide (x10_3 < (x9_3.length : Int)) = true := decide_eq_true c25
                        clear c25
                        by_cases c26 : (0 : Int) ≤ x10_3
                        · rw [if_pos c26] at H
                          have c26b0 : decide (0 ≤ x10_3) = true := decide_eq_true c26
                          clear c26
                          by_cases c27 : (rd x9_3 x10_3) ≥ 97
                          · rw [if_pos c27] at H
                            have c27b0 : decide (97 ≤ (rd x9_3 x10_3)) = true := decide_eq_true c27
                            clear c27
                            by_cases c28 : (rd x9_3 x10_3) ≤ 122
                            · rw [if_pos c28] at H
                              have c28b0 : decide ((rd x9_3 x10_3) ≤ 122) = true := decide_eq_true c28
                              clear c28
                              obtain ⟨y230, hy230⟩ : ∃ y_ : List Int, y_ = (x9_3.set (x10_3 : Int).toNat (((rd x9_3 x10_3) - 32) % 256)) := ⟨_, rfl⟩
                              replace H : (plumblaw04_RadixBack.l0 k3 l0 a1 a2 t220 y230 (wrap64 (x10_3 + 1))) = some r := by first | (rw [hy230]; with_reducible exact H) | (have H2_ := (Option.bind_some _ _).symm.trans H; rw [hy230]; with_reducible exact H2_) | (have H2_ := (Option.bind_some _ _).symm.trans H; with_reducible exact H2_) | with_reducible exact H | (rw [hy230]; exact H) | exact H
                              have Ny230 := Aside0.mk hy230
                              clear hy230
                              have H' := Aside0.mk H
                              clear H
                              obtain ⟨Ao30, co30, eo30⟩ := Kd.R_slice HO_9.out
                              subst eo30
                              have p227 : 0 ≤ (x10_3 : Int) := of_decide_eq_true (by first | (with_reducible assumption) | assumption)
                              have q227 : x10_3 < (x9_3.length : Int) := of_decide_eq_true (by first | (with_reducible assumption) | assumption)
                              obtain ⟨ad227, e227, hx227_0⟩ := Kd.at_int (Kd.R_reads' HO_9.out).2.2 x10_3 p227 q227
                              cases e227
                              replace p227 := eq_true p227
                              replace q227 := eq_true q227
                              have p228 : 0 ≤ (x10_3 : Int) := of_decide_eq_true (by first | (with_reducible assumption) | assumption)
                              have q228 : x10_3 < (x9_3.length : Int) := of_decide_eq_true (by first | (with_reducible assumption) | assumption)
                              obtain ⟨ad228, e228, hx228_0⟩ := Kd.at_int (Kd.R_reads' HO_9.out).2.2 x10_3 p228 q228
                              obtain rfl : ad227 = ad228 := (by injection e228)
                              replace p228 := eq_true p228
                              replace q228 := eq_true q228
                              have p229 : 0 ≤ (x10_3 : Int) := of_decide_eq_true (by first | (with_reducible assumption) | assumption)
                              have q229 : x10_3 < (x9_3.length : Int) := of_decide_eq_true (by first | (with_reducible assumption) | assumption)
                              obtain ⟨ad229, e229, hx229_0⟩ := Kd.at_int (Kd.R_reads' HO_9.out).2.2 x10_3 p229 q229
                              obtain rfl : ad227 = ad229 := (by injection e229)
                              replace p229 := eq_true p229
                              replace q229 := eq_true q229
                              have p29 : 0 ≤ (x10_3 : Int) := of_decide_eq_true (by first | (with_reducible assumption) | assumption)
                              have q29 : (x10_3 : Int) < ((x9_3.length : Int) : Int) := of_decide_eq_true (by first | (with_reducible assumption) | assumption)
                              obtain ⟨go29, co29, eo29, gb29, gl29, cl29, HG29⟩ := Kd.R_form HO_9.out (by omega)
                              (first | cases eo29 | (injection eo29 with ea_ en_ ec_; (first | subst ea_ | (injection ea_ with ea_; subst ea_)); subst ec_; clear en_))
                              have GB29 := Aside0.mk gb29
                              have GG29 := Aside0.mk HG29
                              clear gb29 gl29 HG29
                              (first | simp only [add_plain] at hx227_0 | skip)
                              (first | simp only [add_plain] at hx228_0 | skip)
                              (first | simp only [add_plain] at hx229_0 | skip)
                              obtain ⟨hx29_0, hf29_0⟩ := Kd.R_celln 0 HO_9.out (x10_3 : Int) p29 q29
                              replace p29 := eq_true p29
                              replace q29 := eq_true q29
                              have HP31 := Kd.R_putg HO_9.out (x10_3 : Int) (((rd x9_3 x10_3) - 32) % 256)
                              go_wp2_with (first | ((with_reducible refine gate_store (t := 5) (p := 85) rfl ?_); refine store_event (t := 5) (p := 85) (v := ?vo_w32) (w1 := (wr.setCell ⟨go29, (x10_3 : Int).toNat, none⟩ (.int .u8 (((rd x9_3 x10_3) - 32) % 256)))) ?hg ?ho ?hn ?hr ?_; (case ho => rfl); (case hg => rfl); (case hn => rfl); (case hr => first | (go_simp; done) | (go_simp; rfl)); intro w32 hw; have hg : wr.grownBy w32 (some go29) := (by rw [hw]; exact HP31.2); have hp_ : Kd.R (Kd.int .u8) 5 w32 w.heap.size (fun _ => True) (.slice (some ⟨go29, 0, none⟩) x9_3.length co30) y230 := (by rw [hw, Ny230.out]; exact HP31.1); clear HP31; have n0_ := Aside0.mk (hp_); have n1_ := Aside0.mk ((by rw [hw]; exact below_set (HB.out) GB29.out : Below w.heap.size w w32)); clear HO_9; clear HB; have HO_9 := n0_; have HB := n1_; clear n0_ n1_; clear hg hw hp_))
                              go_roundg k3
                              case measure => have := HJ6.out; have := HJ14.out; have := HK3.out; omega
                              case rel => exact ⟨(y230), (wrap64 (x10_3 + 1)), (by first | rfl | (simp; done) | (simp [*]; done)), H', ⟨by have := HJ6.out; have := HJ14.out; have := HK3.out; omega⟩, ⟨by (with_reducible repeat (first | apply Kd.R_alloc | apply Kd.R_drewN | apply Kd.R_drew)); exact HO_9.out⟩, ⟨by repeat (first | (with_reducible first | exact HB.out | apply below_alloc | apply pw_below_drewN | apply below_drew1) | exact HB.out)⟩⟩
                            · rw [if_neg c28] at H
                              have c28b0 : decide ((rd x9_3 x10_3) ≤ 122) = false := decide_eq_false c28
                              clear c28
                              have H' := Aside0.mk H
                              clear H
                              obtain ⟨Ao33, co33, eo33⟩ := Kd.R_slice HO_9.out
                              subst eo33
                              have p227 : 0 ≤ (x10_3 : Int) := of_decide_eq_true (by first | (with_reducible assumption) | assumption)
                              have q227 : x10_3 < (x9_3.length : Int) := of_decide_eq_true (by first | (with_reducible assumption) | assumption)
                              obtain ⟨ad227, e227, hx227_0⟩ := Kd.at_int (Kd.R_reads' HO_9.out).2.2 x10_3 p227 q227
                              cases e227
                              replace p227 := eq_true p227
                              replace q227 := eq_true q227
                              have p228 : 0 ≤ (x10_3 : Int) := of_decide_eq_true (by first | (with_reducible assumption) | assumption)
                              have q228 : x10_3 < (x9_3.length : Int) := of_decide_eq_true (by first | (with_reducible assumption) | assumption)
                              obtain ⟨ad228, e228, hx228_0⟩ := Kd.at_int (Kd.R_reads' HO_9.out).2.2 x10_3 p228 q228
                              obtain rfl : ad227 = ad228 := (by injection e228)
                              replace p228 := eq_true p228
                              replace q228 := eq_true q228
                              go_wp2
                              go_roundg k3
                              case measure => have := HJ6.out; have := HJ14.out; have := HK3.out; omega
                              case rel => exact ⟨(x9_3), (wrap64 (x10_3 + 1)), (by first | rfl | (simp; done) | (simp [*]; done)), H', ⟨by have := HJ6.out; have := HJ14.out; have := HK3.out; omega⟩, ⟨by (with_reducible repeat (first | apply Kd.R_alloc | apply Kd.R_drewN | apply Kd.R_drew)); exact HO_9.out⟩, ⟨by repeat (first | (with_reducible first | exact HB.out | apply below_alloc | apply pw_below_drewN | apply below_drew1) | exact HB.out)⟩⟩
                          · rw [if_neg c27] at H
                            have c27b0 : decide (97 ≤ (rd x9_3 x10_3)) = false := decide_eq_false c27
                            clear c27
                            have H' := Aside0.mk H
                            clear H
                            obtain ⟨Ao34, co34, eo34⟩ := Kd.R_slice HO_9.out
                            subst eo34
                            have p227 : 0 ≤ (x10_3 : Int) := of_decide_eq_true (by first | (with_reducible assumption) | assumption)
                            have q227 : x10_3 < (x9_3.length : Int) := of_decide_eq_true (by first | (with_reducible assumption) | assumption)
                            obtain ⟨ad227, e227, hx227_0⟩ := Kd.at_int (Kd.R_reads' HO_9.out).2.2 x10_3 p227 q227
                            cases e227
                            replace p227 := eq_true p227
                            replace q227 := eq_true q227
                            go_wp2
                            go_roundg k3
                            case measure => have := HJ6.out; have := HJ14.out; have := HK3.out; omega
                            case rel => exact ⟨(x9_3), (wrap64 (x10_3 + 1)), (by first | rfl | (simp; done) | (simp [*]; done)), H', ⟨by have := HJ6.out; have := HJ14.out; have := HK3.out; omega⟩, ⟨by (with_reducible repeat (first | apply Kd.R_alloc | apply Kd.R_drewN | apply Kd.R_drew)); exact HO_9.out⟩, ⟨by repeat (first | (with_reducible first | exact HB.out | apply below_alloc | apply pw_below_drewN | apply below_drew1) | exact HB.out)⟩⟩
                        · rw [if_neg c26] at H
                          exact absurd H (by simp)
                      · rw [if_neg c25] at H
                        have c25b0 : decide (x10_3 < (x9_3.length : Int)) = false := decide_eq_false c25
                        clear c25
                        obtain ⟨ji35, hji35⟩ : ∃ j_ : Int, (wrap64 (Int.tmod (IntKind.u64.wrap (a2)) 50)) = j_ := ⟨_, rfl⟩
                        replace H : (if 0 ≤ (ji35) then (if (ji35 : Int).toNat ≤ 281474976710656 then (plumblaw04_RadixBack.l1 k3 l0 a1 t220 x9_3 (List.replicate (ji35 : Int).toNat 0) 0) else (none)) else (none)) = some r := by first | (rw [hji35] at H; exact H) | (simp only [hji35] at H ⊢; exact H)
                        have hji35w : (IntKind.i64.wrap (Int.tmod (IntKind.u64.wrap (a2)) 50)) = ji35 := (i64_w _).trans hji35
                        by_cases c36 : (0 : Int) ≤ (ji35)
                        · rw [if_pos c36] at H
                          have c36b0 := eq_true c36
                          have c36b1 : decide (0 ≤ (ji35)) = true := decide_eq_true c36
                          clear c36
                          by_cases c37 : (ji35 : Int).toNat ≤ 281474976710656
                          · rw [if_pos c37] at H
                            have c37b0 := eq_true c37
                            have c37b1 : decide ((ji35 : Int).toNat ≤ 281474976710656) = true := decide_eq_true c37
                            clear c37
                            obtain ⟨y231, hy231⟩ : ∃ y_ : List Int, y_ = (List.replicate (ji35 : Int).toNat 0) := ⟨_, rfl⟩
                            replace H : (plumblaw04_RadixBack.l1 k3 l0 a1 t220 x9_3 y231 0) = some r := by first | (rw [hy231]; with_reducible exact H) | (have H2_ := (Option.bind_some _ _).symm.trans H; rw [hy231]; with_reducible exact H2_) | (have H2_ := (Option.bind_some _ _).symm.trans H; with_reducible exact H2_) | with_reducible exact H | (rw [hy231]; exact H) | exact H
                            have Ny231 := Aside0.mk hy231
                            clear hy231
                            have H' := Aside0.mk H
                            clear H
                            obtain ⟨Ao38, co38, eo38⟩ := Kd.R_slice HO_9.out
                            subst eo38
                            go_wp2_with (first | ((with_reducible refine gate_dst (N := 90) rfl ?_); (try (refine gate_guard (by rfl) ?_; dsimp only)); refine Kd.R_make (Kd.int .u8) _ 5 rfl (N := 90) rfl 28 _ _ rfl ji35 rfl rfl Try.underlying28 (.int .u8 0) 1 info5 rfl (by decide) (by omega) 0 (ok := fun _ => True) (okp := fun _ => True) rfl (fun _ hk => hk) trivial (of_decide_eq_true (by first | (with_reducible assumption) | assumption)) (Nat.le_trans (Nat.mul_le_mul_right _ (of_decide_eq_true (by first | (with_reducible assumption) | assumption) : ji35.toNat ≤ 281474976710656)) (by omega)) (Below.refl _ _) (Nat.le_refl _) ?_; intro v232 w39 ho40 hb hg_ hnew_; clear hg_ hnew_; (first | rw [← Ny231.out] at ho40 | (simp only [Int.reduceToNat] at ho40; rw [← Ny231.out] at ho40)); have n0_ := Aside0.mk (Kd.R_elder' (by (with_reducible repeat (first | apply Kd.R_alloc | apply Kd.R_drewN | apply Kd.R_drew)); exact HO_9.out) (Kd.R_base ho40) hb); have n1_ := Aside0.mk (Kd.R_lower (Kd.R_new' ho40 (Kd.R_lt (by (with_reducible repeat (first | apply Kd.R_alloc | apply Kd.R_drewN | apply Kd.R_drew)); exact HO_9.out))) (below_size (by repeat (first | (with_reducible first | exact HB.out | apply below_alloc | apply pw_below_drewN | apply below_drew1) | exact HB.out)))); have n2_ := Aside0.mk (below_step (by repeat (first | (with_reducible first | exact HB.out | apply below_alloc | apply pw_below_drewN | apply below_drew1) | exact HB.out)) hb); clear HO_9; clear HB; have HO_9 := n0_; have HO233 := n1_; have HB := n2_; clear n0_ n1_ n2_; clear hb ho40))
                            go_loopg [12] k3 (fun kq v12 w' => ∃ (x11_4 : List Int) (x12_4 : Int), v12 = .int .i64 x12_4 ∧ Aside0 (plumblaw04_RadixBack.l1 kq l0 a1 t220 x9_3 x11_4 x12_4 = some r) ∧ Aside0 (kq ≤ k3) ∧ Aside0 (Kd.R (Kd.int .u8) 5 w' w.heap.size (fun k_ => some k_ ≠ (v232 : Value).ownBlock) (.slice Ao38 x9_3.length co38) x9_3) ∧ Aside0 (Kd.R (Kd.int .u8) 5 w' w.heap.size (fun k_ => some k_ ≠ ((.slice Ao38 x9_3.length co38) : Value).ownBlock) v232 x11_4) ∧ Aside0 (Below w.heap.size w w'))
                            case atStart => exact ⟨(y231), (0), (by first | rfl | (simp; done) | (simp [*]; done)), H', ⟨Nat.le_refl _⟩, ⟨by (with_reducible repeat (first | apply Kd.R_alloc | apply Kd.R_drewN | apply Kd.R_drew)); exact Kd.R_mono HO_9.out (fun _ hk => hk.2)⟩, ⟨by (with_reducible repeat (first | apply Kd.R_alloc | apply Kd.R_drewN | apply Kd.R_drew)); exact Kd.R_mono HO233.out (fun _ hk => hk.2)⟩, ⟨by repeat (first | (with_reducible first | exact HB.out | apply below_alloc | apply pw_below_drewN | apply below_drew1) | exact HB.out)⟩⟩
                            case round =>
                              clear H'
                              try clear c1
                              try clear p1
                              try clear q1
                              try clear hx1
                              try clear qi1
                              try clear c2
                              try clear p2
                              try clear q2
                              try clear hx2
                              try clear c3
                              try clear c6
                              try clear p6
                              try clear c9
                              try clear c10
                              try clear c10b0
                              try clear c11
                              try clear c11b0
                              try clear c13
                              try clear c14
                              try clear c14b0
                              try clear c14b1
                              try clear c16
                              try clear c16b0
                              try clear c16b1
                              try clear c17
                              try clear c17b0
                              try clear c17b1
                              try clear c18
                              try clear c18b0
                              try clear c18b1
                              try clear p19
                              try clear q19
                              try clear hx19
                              try clear qi19
                              try clear c20
                              try clear c20b0
                              try clear c20b1
                              try clear c21
                              try clear c22
                              try clear c22b0
                              try clear c22b1
                              try clear p22
                              try clear q22
                              try clear hx22
                              try clear c25
                              try clear c25b0
                              try clear c26
                              try clear c26b0
                              try clear c27
                              try clear c27b0
                              try clear c28
                              try clear c28b0
                              try clear p29
                              try clear q29
                              try clear hx29
                              try clear hf29
                              try clear c36
                              try clear c36b0
                              try clear c36b1
                              try clear c37
                              try clear c37b0
                              try clear c37b1
                              try clear hx227_0
                              try clear hx228_0
                              try clear hx229_0
                              try clear hx29_0
                              try clear p1
                              try clear p19
                              try clear p2
                              try clear p227
                              try clear p228
                              try clear p229
                              try clear p29
                              try clear q1
                              try clear q19
                              try clear q227
                              try clear q228
                              try clear q229
                              try clear q29
                              obtain ⟨x11_4, x12_4, rfl, HA, HK4, HO_9, HO_11, HB⟩ := hrel
                              cases gk with
                              | zero => exact absurd HA.out (by simp [plumblaw04_RadixBack.l1])
                              | succ k4 =>
                                have H := HA.out
                                clear HA
                                simp only [plumblaw04_RadixBack.l1] at H
                                by_cases c41 : x12_4 < (x11_4.length : Int)
                                · rw [if_pos c41] at H
                                  have c41b0 : decide (x12_4 < (x11_4.length : Int)) = true := decide_eq_true c41
                                  clear c41
                                  by_cases c42 : (0 : Int) ≤ x12_4
                                  · rw [if_pos c42] at H
                                    have c42b0 : decide (0 ≤ x12_4) = true := decide_eq_true c42
                                    clear c42
                                    obtain ⟨y234, hy234⟩ : ∃ y_ : List Int, y_ = (x11_4.set (x12_4 : Int).toNat 48) := ⟨_, rfl⟩
                                    replace H : (plumblaw04_RadixBack.l1 k4 l0 a1 t220 x9_3 y234 (wrap64 (x12_4 + 1))) = some r := by first | (rw [hy234]; with_reducible exact H) | (have H2_ := (Option.bind_some _ _).symm.trans H; rw [hy234]; with_reducible exact H2_) | (have H2_ := (Option.bind_some _ _).symm.trans H; with_reducible exact H2_) | with_reducible exact H | (rw [hy234]; exact H) | exact H
                                    have Ny234 := Aside0.mk hy234
                                    clear hy234
                                    have H' := Aside0.mk H
                                    clear H
                                    obtain ⟨Ao44, co44, eo44⟩ := Kd.R_slice HO_11.out
                                    subst eo44
                                    have p43 : 0 ≤ (x12_4 : Int) := of_decide_eq_true (by first | (with_reducible assumption) | assumption)
                                    have q43 : (x12_4 : Int) < ((x11_4.length : Int) : Int) := of_decide_eq_true (by first | (with_reducible assumption) | assumption)
                                    obtain ⟨go43, co43, eo43, gb43, gl43, cl43, HG43⟩ := Kd.R_form HO_11.out (by omega)
                                    (first | cases eo43 | (injection eo43 with ea_ en_ ec_; (first | subst ea_ | (injection ea_ with ea_; subst ea_)); subst ec_; clear en_))
                                    have GB43 := Aside0.mk gb43
                                    have GG43 := Aside0.mk HG43
                                    clear gb43 gl43 HG43
                                    obtain ⟨hx43_0, hf43_0⟩ := Kd.R_celln 0 HO_11.out (x12_4 : Int) p43 q43
                                    replace p43 := eq_true p43
                                    replace q43 := eq_true q43
                                    have HP45 := Kd.R_putg HO_11.out (x12_4 : Int) 48
                                    go_wp2_with (first | ((with_reducible refine gate_store (t := 5) (p := 99) rfl ?_); refine store_event (t := 5) (p := 99) (v := ?vo_w46) (w1 := (wr.setCell ⟨go43, (x12_4 : Int).toNat, none⟩ (.int .u8 48))) ?hg ?ho ?hn ?hr ?_; (case ho => rfl); (case hg => rfl); (case hn => rfl); (case hr => first | (go_simp; done) | (go_simp; rfl)); intro w46 hw; have hg : wr.grownBy w46 (some go43) := (by rw [hw]; exact HP45.2); have hp_ : Kd.R (Kd.int .u8) 5 w46 w.heap.size (fun k_ => some k_ ≠ (.slice Ao38 x9_3.length co38 : Value).ownBlock) (.slice (some ⟨go43, 0, none⟩) x11_4.length co44) y234 := (by rw [hw, Ny234.out]; exact HP45.1); clear HP45; have n0_ := Aside0.mk (Kd.R_after (v := (.slice (some ⟨go43, 0, none⟩) x11_4.length co44)) (v1 := (.slice (some ⟨go43, 0, none⟩) x11_4.length co44)) (ok := (fun _ => True)) (by (with_reducible repeat (first | apply Kd.R_alloc | apply Kd.R_drewN | apply Kd.R_drew)); exact Kd.R_mono HO_9.out (fun _ hk => ⟨trivial, hk⟩)) hg (.inl rfl)); have n1_ := Aside0.mk (hp_); have n2_ := Aside0.mk ((by rw [hw]; exact below_set (HB.out) GB43.out : Below w.heap.size w w46)); clear HO_9; clear HO_11; clear HB; have HO_9 := n0_; have HO_11 := n1_; have HB := n2_; clear n0_ n1_ n2_; clear hg hw hp_))
                                    go_roundg k4
                                    case measure => have := HJ6.out; have := HJ14.out; have := HK3.out; have := HK4.out; omega
                                    case rel => exact ⟨(y234), (wrap64 (x12_4 + 1)), (by first | rfl | (simp; done) | (simp [*]; done)), H', ⟨by have := HJ6.out; have := HJ14.out; have := HK3.out; have := HK4.out; omega⟩, ⟨by (with_reducible repeat (first | apply Kd.R_alloc | apply Kd.R_drewN | apply Kd.R_drew)); exact Kd.R_mono HO_9.out (fun _ hk => hk.2)⟩, ⟨by (with_reducible repeat (first | apply Kd.R_alloc | apply Kd.R_drewN | apply Kd.R_drew)); exact HO_11.out⟩, ⟨by repeat (first | (with_reducible first | exact HB.out | apply below_alloc | apply pw_below_drewN | apply below_drew1) | exact HB.out)⟩⟩
                                  · rw [if_neg c42] at H
                                    exact absurd H (by simp)
                                · rw [if_neg c41] at H
                                  have c41b0 : decide (x12_4 < (x11_4.length : Int)) = false := decide_eq_false c41
                                  clear c41
                                  replace H := Option.bind_eq_some_iff.mp H
                                  obtain ⟨⟨t235, t236⟩, A470, H⟩ := H
                                  replace H : (if (strOfNums x11_4).size + (strOfNums x9_3).size ≤ 9223372036854775807 then ((radix_Parse.fB k4 ((strOfNums x11_4) ++ (strOfNums x9_3)) a1).bind fun bt239 => (if t236 = true then (some false) else (if bt239.2 = true then (some false) else ((nat_Norm.f l0).bind fun t243 => ((plumblaw04_eq.f k4 t235 t243).bind fun t246 => (if t246 = true then ((plumblaw04_eq.f k4 bt239.1 t235).bind fun t247 => (some t247)) else (some false))))))) else (none)) = some r := H
                                  have A47 := Aside0.mk A470
                                  clear A470
                                  by_cases c48 : (strOfNums x11_4).size + (strOfNums x9_3).size ≤ 9223372036854775807
                                  · rw [if_pos c48] at H
                                    have c48b0 := eq_true c48
                                    have c48b1 : decide ((strOfNums x11_4).size + (strOfNums x9_3).size ≤ 9223372036854775807) = true := decide_eq_true c48
                                    try have c48b2 : (9223372036854775807 < (strOfNums x11_4).size + (strOfNums x9_3).size) = False := eq_false (Nat.not_lt.2 c48)
                                    replace H := Option.bind_eq_some_iff.mp H
                                    obtain ⟨⟨t239, t240⟩, A490, H⟩ := H
                                    replace H : (if t236 = true then (some false) else (if t240 = true then (some false) else ((nat_Norm.f l0).bind fun t243 => ((plumblaw04_eq.f k4 t235 t243).bind fun t246 => (if t246 = true then ((plumblaw04_eq.f k4 t239 t235).bind fun t247 => (some t247)) else (some false)))))) = some r := H
                                    have A49 := Aside0.mk A490
                                    clear A490
                                    by_cases c50 : t236 = true
                                    · subst c50
                                      have H1 : (some false) = some r := by rw [if_pos rfl] at H; exact H
                                      clear H
                                      have H := H1
                                      clear H1
                                      obtain rfl := Option.some.inj H
                                      obtain ⟨Ao51, co51, eo51⟩ := Kd.R_slice HO_11.out
                                      subst eo51
                                      go_wp2_with (first | ((with_reducible refine gate_callee (f := 12) rfl ?_); refine goesL_ (some 103) rfl rfl Try.func12 (by kernel_rfl) rfl #[.string t220, .int .i64 a1] rfl (by (try simp only [List.map_toArray, List.map_cons, List.map_nil]); first | done | rfl | (simp only [List.length_drop, List.length_take]; rfl)) ?_; (with_reducible refine (radix_Parse.callsE k4 t220 a1 t235 true _ A47.out).mono ?_); rintro e w52 ⟨v237, gv237, rfl, ho0, hb⟩; refine ⟨_, rfl, ?_⟩; have n0_ := Aside0.mk (Kd.R_below (by (with_reducible repeat (first | apply Kd.R_alloc | apply Kd.R_drewN | apply Kd.R_drew)); exact HO_9.out) hb); have n1_ := Aside0.mk (Kd.R_below (by (with_reducible repeat (first | apply Kd.R_alloc | apply Kd.R_drewN | apply Kd.R_drew)); exact HO_11.out) hb); have n2_ := Aside0.mk (Kd.R_lower ho0 (below_size (by repeat (first | (with_reducible first | exact HB.out | apply below_alloc | apply pw_below_drewN | apply below_drew1) | exact HB.out)))); have n3_ := Aside0.mk (below_step (by repeat (first | (with_reducible first | exact HB.out | apply below_alloc | apply pw_below_drewN | apply below_drew1) | exact HB.out)) hb); clear HO_9; clear HO_11; clear HB; have HO_9 := n0_; have HO_11 := n1_; have HO238 := n2_; have HB := n3_; clear n0_ n1_ n2_ n3_; (try clear hb); (try clear hb2); (try clear hk); (try clear hi); (try clear ho0); have hcv53 := own_string (P := Try.prog) Try.underlying28 Try.underlying5 Try.underlying9 (Kd.own_of_R HO_11.out); have hcv54 := own_string (P := Try.prog) Try.underlying28 Try.underlying5 Try.underlying9 (Kd.own_of_R HO_9.out)) | ((with_reducible refine gate_callee (f := 12) rfl ?_); refine goesL_ (some 113) rfl rfl Try.func12 (by kernel_rfl) rfl #[.string ((strOfNums x11_4) ++ (strOfNums x9_3)), .int .i64 a1] rfl (by (try simp only [List.map_toArray, List.map_cons, List.map_nil]); first | done | rfl | (simp only [List.length_drop, List.length_take]; rfl)) ?_; (with_reducible refine (radix_Parse.callsE k4 ((strOfNums x11_4) ++ (strOfNums x9_3)) a1 t239 t240 _ A49.out).mono ?_); rintro e w55 ⟨v241, gv241, rfl, ho0, hb⟩; refine ⟨_, rfl, ?_⟩; have n0_ := Aside0.mk (Kd.R_below (by (with_reducible repeat (first | apply Kd.R_alloc | apply Kd.R_drewN | apply Kd.R_drew)); exact HO_9.out) hb); have n1_ := Aside0.mk (Kd.R_below (by (with_reducible repeat (first | apply Kd.R_alloc | apply Kd.R_drewN | apply Kd.R_drew)); exact HO_11.out) hb); have n2_ := Aside0.mk (Kd.R_elder' (by (with_reducible repeat (first | apply Kd.R_alloc | apply Kd.R_drewN | apply Kd.R_drew)); exact HO238.out) (Kd.R_base ho0) hb); have n3_ := Aside0.mk (Kd.R_lower (Kd.R_new' ho0 (Kd.R_lt (by (with_reducible repeat (first | apply Kd.R_alloc | apply Kd.R_drewN | apply Kd.R_drew)); exact HO238.out))) (below_size (by repeat (first | (with_reducible first | exact HB.out | apply below_alloc | apply pw_below_drewN | apply below_drew1) | exact HB.out)))); have n4_ := Aside0.mk (below_step (by repeat (first | (with_reducible first | exact HB.out | apply below_alloc | apply pw_below_drewN | apply below_drew1) | exact HB.out)) hb); clear HO_9; clear HO_11; clear HO238; clear HB; have HO_9 := n0_; have HO_11 := n1_; have HO238 := n2_; have HO242 := n3_; have HB := n4_; clear n0_ n1_ n2_ n3_ n4_; (try clear hb); (try clear hb2); (try clear hk); (try clear hi); (try clear ho0)))
                                      go_ret
                                      exact ⟨by first | rfl | (simp [errW_none, errW_some] <;> rfl) | (simp only [← hji35]; first | rfl | (simp [errW_none, errW_some] <;> rfl)) | (simp [*, errW_none, errW_some] <;> rfl), by repeat (first | (with_reducible first | exact HB.out | apply below_alloc | apply pw_below_drewN | apply below_drew1) | exact HB.out)⟩
                                    · replace c50 := Bool.eq_false_iff.mpr c50
                                      subst c50
                                      have H1 : (if t240 = true then (some false) else ((nat_Norm.f l0).bind fun t243 => ((plumblaw04_eq.f k4 t235 t243).bind fun t246 => (if t246 = true then ((plumblaw04_eq.f k4 t239 t235).bind fun t247 => (some t247)) else (some false))))) = some r := by rw [if_neg (show ¬ (false = true) by decide)] at H; exact H
                                      clear H
                                      have H := H1
                                      clear H1
                                      by_cases c56 : t240 = true
                                      · subst c56
                                        have H1 : (some false) = some r := by rw [if_pos rfl] at H; exact H
                                        clear H
                                        have H := H1
                                        clear H1
                                        obtain rfl := Option.some.inj H
                                        obtain ⟨Ao57, co57, eo57⟩ := Kd.R_slice HO_11.out
                                        subst eo57
                                        go_wp2_with (first | ((with_reducible refine gate_callee (f := 12) rfl ?_); refine goesL_ (some 103) rfl rfl Try.func12 (by kernel_rfl) rfl #[.string t220, .int .i64 a1] rfl (by (try simp only [List.map_toArray, List.map_cons, List.map_nil]); first | done | rfl | (simp only [List.length_drop, List.length_take]; rfl)) ?_; (with_reducible refine (radix_Parse.callsE k4 t220 a1 t235 false _ A47.out).mono ?_); rintro e w58 ⟨v237, gv237, rfl, ho0, hb⟩; refine ⟨_, rfl, ?_⟩; have n0_ := Aside0.mk (Kd.R_below (by (with_reducible repeat (first | apply Kd.R_alloc | apply Kd.R_drewN | apply Kd.R_drew)); exact HO_9.out) hb); have n1_ := Aside0.mk (Kd.R_below (by (with_reducible repeat (first | apply Kd.R_alloc | apply Kd.R_drewN | apply Kd.R_drew)); exact HO_11.out) hb); have n2_ := Aside0.mk (Kd.R_lower ho0 (below_size (by repeat (first | (with_reducible first | exact HB.out | apply below_alloc | apply pw_below_drewN | apply below_drew1) | exact HB.out)))); have n3_ := Aside0.mk (below_step (by repeat (first | (with_reducible first | exact HB.out | apply below_alloc | apply pw_below_drewN | apply below_drew1) | exact HB.out)) hb); clear HO_9; clear HO_11; clear HB; have HO_9 := n0_; have HO_11 := n1_; have HO238 := n2_; have HB := n3_; clear n0_ n1_ n2_ n3_; (try clear hb); (try clear hb2); (try clear hk); (try clear hi); (try clear ho0); have hcv59 := own_string (P := Try.prog) Try.underlying28 Try.underlying5 Try.underlying9 (Kd.own_of_R HO_11.out); have hcv60 := own_string (P := Try.prog) Try.underlying28 Try.underlying5 Try.underlying9 (Kd.own_of_R HO_9.out)) | ((with_reducible refine gate_callee (f := 12) rfl ?_); refine goesL_ (some 113) rfl rfl Try.func12 (by kernel_rfl) rfl #[.string ((strOfNums x11_4) ++ (strOfNums x9_3)), .int .i64 a1] rfl (by (try simp only [List.map_toArray, List.map_cons, List.map_nil]); first | done | rfl | (simp only [List.length_drop, List.length_take]; rfl)) ?_; (with_reducible refine (radix_Parse.callsE k4 ((strOfNums x11_4) ++ (strOfNums x9_3)) a1 t239 true _ A49.out).mono ?_); rintro e w61 ⟨v241, gv241, rfl, ho0, hb⟩; refine ⟨_, rfl, ?_⟩; have n0_ := Aside0.mk (Kd.R_below (by (with_reducible repeat (first | apply Kd.R_alloc | apply Kd.R_drewN | apply Kd.R_drew)); exact HO_9.out) hb); have n1_ := Aside0.mk (Kd.R_below (by (with_reducible repeat (first | apply Kd.R_alloc | apply Kd.R_drewN | apply Kd.R_drew)); exact HO_11.out) hb); have n2_ := Aside0.mk (Kd.R_elder' (by (with_reducible repeat (first | apply Kd.R_alloc | apply Kd.R_drewN | apply Kd.R_drew)); exact HO238.out) (Kd.R_base ho0) hb); have n3_ := Aside0.mk (Kd.R_lower (Kd.R_new' ho0 (Kd.R_lt (by (with_reducible repeat (first | apply Kd.R_alloc | apply Kd.R_drewN | apply Kd.R_drew)); exact HO238.out))) (below_size (by repeat (first | (with_reducible first | exact HB.out | apply below_alloc | apply pw_below_drewN | apply below_drew1) | exact HB.out)))); have n4_ := Aside0.mk (below_step (by repeat (first | (with_reducible first | exact HB.out | apply below_alloc | apply pw_below_drewN | apply below_drew1) | exact HB.out)) hb); clear HO_9; clear HO_11; clear HO238; clear HB; have HO_9 := n0_; have HO_11 := n1_; have HO238 := n2_; have HO242 := n3_; have HB := n4_; clear n0_ n1_ n2_ n3_ n4_; (try clear hb); (try clear hb2); (try clear hk); (try clear hi); (try clear ho0)))
                                        go_ret
                                        exact ⟨by first | rfl | (simp [errW_none, errW_some] <;> rfl) | (simp only [← hji35]; first | rfl | (simp [errW_none, errW_some] <;> rfl)) | (simp [*, errW_none, errW_some] <;> rfl), by repeat (first | (with_reducible first | exact HB.out | apply below_alloc | apply pw_below_drewN | apply below_drew1) | exact HB.out)⟩
                                      · replace c56 := Bool.eq_false_iff.mpr c56
                                        subst c56
                                        have H1 : ((nat_Norm.f l0).bind fun t243 => ((plumblaw04_eq.f k4 t235 t243).bind fun t246 => (if t246 = true then ((plumblaw04_eq.f k4 t239 t235).bind fun t247 => (some t247)) else (some false)))) = some r := by rw [if_neg (show ¬ (false = true) by decide)] at H; exact H
                                        clear H
                                        have H := H1
                                        clear H1
                                        replace H := Option.bind_eq_some_iff.mp H
                                        obtain ⟨t243, A620, H⟩ := H
                                        replace H : ((plumblaw04_eq.f k4 t235 t243).bind fun t246 => (if t246 = true then ((plumblaw04_eq.f k4 t239 t235).bind fun t247 => (some t247)) else (some false))) = some r := H
                                        have A62 := Aside0.mk A620
                                        clear A620
                                        replace H := Option.bind_eq_some_iff.mp H
                                        obtain ⟨t246, A630, H⟩ := H
                                        replace H : (if t246 = true then ((plumblaw04_eq.f k4 t239 t235).bind fun t247 => (some t247)) else (some false)) = some r := H
                                        have A63 := Aside0.mk A630
                                        clear A630
                                        by_cases c64 : t246 = true
                                        · subst c64
                                          have H1 : ((plumblaw04_eq.f k4 t239 t235).bind fun t247 => (some t247)) = some r := by rw [if_pos rfl] at H; exact H
                                          clear H
                                          have H := H1
                                          clear H1
                                          replace H := Option.bind_eq_some_iff.mp H
                                          obtain ⟨t247, A650, H⟩ := H
                                          replace H : (some t247) = some r := H
                                          have A65 := Aside0.mk A650
                                          clear A650
                                          obtain rfl := Option.some.inj H
                                          obtain ⟨Ao66, co66, eo66⟩ := Kd.R_slice HO_11.out
                                          subst eo66
                                          go_wp2_with (first | ((with_reducible refine gate_callee (f := 12) rfl ?_); refine goesL_ (some 103) rfl rfl Try.func12 (by kernel_rfl) rfl #[.string t220, .int .i64 a1] rfl (by (try simp only [List.map_toArray, List.map_cons, List.map_nil]); first | done | rfl | (simp only [List.length_drop, List.length_take]; rfl)) ?_; (with_reducible refine (radix_Parse.callsE k4 t220 a1 t235 false _ A47.out).mono ?_); rintro e w67 ⟨v237, gv237, rfl, ho0, hb⟩; refine ⟨_, rfl, ?_⟩; have n0_ := Aside0.mk (Kd.R_below (by (with_reducible repeat (first | apply Kd.R_alloc | apply Kd.R_drewN | apply Kd.R_drew)); exact HO_9.out) hb); have n1_ := Aside0.mk (Kd.R_below (by (with_reducible repeat (first | apply Kd.R_alloc | apply Kd.R_drewN | apply Kd.R_drew)); exact HO_11.out) hb); have n2_ := Aside0.mk (Kd.R_lower ho0 (below_size (by repeat (first | (with_reducible first | exact HB.out | apply below_alloc | apply pw_below_drewN | apply below_drew1) | exact HB.out)))); have n3_ := Aside0.mk (below_step (by repeat (first | (with_reducible first | exact HB.out | apply below_alloc | apply pw_below_drewN | apply below_drew1) | exact HB.out)) hb); clear HO_9; clear HO_11; clear HB; have HO_9 := n0_; have HO_11 := n1_; have HO238 := n2_; have HB := n3_; clear n0_ n1_ n2_ n3_; (try clear hb); (try clear hb2); (try clear hk); (try clear hi); (try clear ho0); have hcv68 := own_string (P := Try.prog) Try.underlying28 Try.underlying5 Try.underlying9 (Kd.own_of_R HO_11.out); have hcv69 := own_string (P := Try.prog) Try.underlying28 Try.underlying5 Try.underlying9 (Kd.own_of_R HO_9.out)) | ((with_reducible refine gate_callee (f := 12) rfl ?_); refine goesL_ (some 113) rfl rfl Try.func12 (by kernel_rfl) rfl #[.string ((strOfNums x11_4) ++ (strOfNums x9_3)), .int .i64 a1] rfl (by (try simp only [List.map_toArray, List.map_cons, List.map_nil]); first | done | rfl | (simp only [List.length_drop, List.length_take]; rfl)) ?_; (with_reducible refine (radix_Parse.callsE k4 ((strOfNums x11_4) ++ (strOfNums x9_3)) a1 t239 false _ A49.out).mono ?_); rintro e w70 ⟨v241, gv241, rfl, ho0, hb⟩; refine ⟨_, rfl, ?_⟩; have n0_ := Aside0.mk (Kd.R_below (by (with_reducible repeat (first | apply Kd.R_alloc | apply Kd.R_drewN | apply Kd.R_drew)); exact HO_9.out) hb); have n1_ := Aside0.mk (Kd.R_below (by (with_reducible repeat (first | apply Kd.R_alloc | apply Kd.R_drewN | apply Kd.R_drew)); exact HO_11.out) hb); have n2_ := Aside0.mk (Kd.R_elder' (by (with_reducible repeat (first | apply Kd.R_alloc | apply Kd.R_drewN | apply Kd.R_drew)); exact HO238.out) (Kd.R_base ho0) hb); have n3_ := Aside0.mk (Kd.R_lower (Kd.R_new' ho0 (Kd.R_lt (by (with_reducible repeat (first | apply Kd.R_alloc | apply Kd.R_drewN | apply Kd.R_drew)); exact HO238.out))) (below_size (by repeat (first | (with_reducible first | exact HB.out | apply below_alloc | apply pw_below_drewN | apply below_drew1) | exact HB.out)))); have n4_ := Aside0.mk (below_step (by repeat (first | (with_reducible first | exact HB.out | apply below_alloc | apply pw_below_drewN | apply below_drew1) | exact HB.out)) hb); clear HO_9; clear HO_11; clear HO238; clear HB; have HO_9 := n0_; have HO_11 := n1_; have HO238 := n2_; have HO242 := n3_; have HB := n4_; clear n0_ n1_ n2_ n3_ n4_; (try clear hb); (try clear hb2); (try clear hk); (try clear hi); (try clear ho0)) | (go_at_call 14; (with_reducible refine (nat_Norm.calls _ _ l0 t243 _ ?side1 ?side2 A62.out).mono ?_); (case side1 => repeat (first | exact (Kd.C_below HR0.out HB.out) | (with_reducible refine Kd.C_alloc ?_ _) | (with_reducible refine Kd.C_drewN ?_ _) | (with_reducible refine Kd.C_drew ?_))); (case side2 => exact HC0.out); rintro e w71 ⟨v244, rfl, ho0, hb⟩; have n0_ := Aside0.mk (Kd.R_below (by (with_reducible repeat (first | apply Kd.R_alloc | apply Kd.R_drewN | apply Kd.R_drew)); exact HO_9.out) hb); have n1_ := Aside0.mk (Kd.R_below (by (with_reducible repeat (first | apply Kd.R_alloc | apply Kd.R_drewN | apply Kd.R_drew)); exact HO_11.out) hb); have n2_ := Aside0.mk (Kd.R_elder' (by (with_reducible repeat (first | apply Kd.R_alloc | apply Kd.R_drewN | apply Kd.R_drew)); exact HO238.out) (Kd.R_base ho0) hb); have n3_ := Aside0.mk (Kd.R_elder' (by (with_reducible repeat (first | apply Kd.R_alloc | apply Kd.R_drewN | apply Kd.R_drew)); exact HO242.out) (Kd.R_base ho0) hb); have n4_ := Aside0.mk (Kd.R_lower (Kd.R_new' (Kd.R_new' ho0 (Kd.R_lt (by (with_reducible repeat (first | apply Kd.R_alloc | apply Kd.R_drewN | apply Kd.R_drew)); exact HO238.out))) (Kd.R_lt (by (with_reducible repeat (first | apply Kd.R_alloc | apply Kd.R_drewN | apply Kd.R_drew)); exact HO242.out))) (below_size (by repeat (first | (with_reducible first | exact HB.out | apply below_alloc | apply pw_below_drewN | apply below_drew1) | exact HB.out)))); have n5_ := Aside0.mk (below_step (by repeat (first | (with_reducible first | exact HB.out | apply below_alloc | apply pw_below_drewN | apply below_drew1) | exact HB.out)) hb); clear HO_9; clear HO_11; clear HO238; clear HO242; clear HB; have HO_9 := n0_; have HO_11 := n1_; have HO238 := n2_; have HO242 := n3_; have HO245 := n4_; have HB := n5_; clear n0_ n1_ n2_ n3_ n4_ n5_; (try clear hb); (try clear hb2); (try clear hk); (try clear hi); (try clear ho0); obtain ⟨Ao72, co72, eo72⟩ := Kd.R_slice HO238.out; subst eo72; obtain ⟨Ao73, co73, eo73⟩ := Kd.R_slice HO245.out; subst eo73) | (go_at_call 13; (with_reducible refine (plumblaw04_eq.calls k4 _ _ t235 _ _ t243 true _ ?side1 ?side2 ?side3 ?side4 A63.out).mono ?_); (case side1 => repeat (first | exact (Kd.R_reads' HO238.out).2.2 | (with_reducible refine Kd.C_alloc ?_ _) | (with_reducible refine Kd.C_drewN ?_ _) | (with_reducible refine Kd.C_drew ?_))); (case side2 => exact (Kd.R_reads' HO238.out).2.1); (case side3 => repeat (first | exact (Kd.R_reads' HO245.out).2.2 | (with_reducible refine Kd.C_alloc ?_ _) | (with_reducible refine Kd.C_drewN ?_ _) | (with_reducible refine Kd.C_drew ?_))); (case side4 => exact (Kd.R_reads' HO245.out).2.1); rintro e w' ⟨rfl, ⟨nd, rfl⟩⟩; obtain ⟨Ao74, co74, eo74⟩ := Kd.R_slice HO242.out; subst eo74) | (go_at_call 13; (with_reducible refine (plumblaw04_eq.calls k4 _ _ t239 _ _ t235 t247 _ ?side1 ?side2 ?side3 ?side4 A65.out).mono ?_); (case side1 => repeat (first | exact (Kd.R_reads' HO242.out).2.2 | (with_reducible refine Kd.C_alloc ?_ _) | (with_reducible refine Kd.C_drewN ?_ _) | (with_reducible refine Kd.C_drew ?_))); (case side2 => exact (Kd.R_reads' HO242.out).2.1); (case side3 => repeat (first | exact (Kd.R_reads' HO238.out).2.2 | (with_reducible refine Kd.C_alloc ?_ _) | (with_reducible refine Kd.C_drewN ?_ _) | (with_reducible refine Kd.C_drew ?_))); (case side4 => exact (Kd.R_reads' HO238.out).2.1); rintro e w' ⟨rfl, ⟨nd, rfl⟩⟩))
                                          go_ret
                                          exact ⟨by first | rfl | (simp [errW_none, errW_some] <;> rfl) | (simp only [← hji35]; first | rfl | (simp [errW_none, errW_some] <;> rfl)) | (simp [*, errW_none, errW_some] <;> rfl), by repeat (first | (with_reducible first | exact HB.out | apply below_alloc | apply pw_below_drewN | apply below_drew1) | exact HB.out)⟩
                                        · replace c64 := Bool.eq_false_iff.mpr c64
                                          subst c64
                                          have H1 : (some false) = some r := by rw [if_neg (show ¬ (false = true) by decide)] at H; exact H
                                          clear H
                                          have H := H1
                                          clear H1
                                          obtain rfl := Option.some.inj H
                                          obtain ⟨Ao75, co75, eo75⟩ := Kd.R_slice HO_11.out
                                          subst eo75
                                          go_wp2_with (first | ((with_reducible refine gate_callee (f := 12) rfl ?_); refine goesL_ (some 103) rfl rfl Try.func12 (by kernel_rfl) rfl #[.string t220, .int .i64 a1] rfl (by (try simp only [List.map_toArray, List.map_cons, List.map_nil]); first | done | rfl | (simp only [List.length_drop, List.length_take]; rfl)) ?_; (with_reducible refine (radix_Parse.callsE k4 t220 a1 t235 false _ A47.out).mono ?_); rintro e w76 ⟨v237, gv237, rfl, ho0, hb⟩; refine ⟨_, rfl, ?_⟩; have n0_ := Aside0.mk (Kd.R_below (by (with_reducible repeat (first | apply Kd.R_alloc | apply Kd.R_drewN | apply Kd.R_drew)); exact HO_9.out) hb); have n1_ := Aside0.mk (Kd.R_below (by (with_reducible repeat (first | apply Kd.R_alloc | apply Kd.R_drewN | apply Kd.R_drew)); exact HO_11.out) hb); have n2_ := Aside0.mk (Kd.R_lower ho0 (below_size (by repeat (first | (with_reducible first | exact HB.out | apply below_alloc | apply pw_below_drewN | apply below_drew1) | exact HB.out)))); have n3_ := Aside0.mk (below_step (by repeat (first | (with_reducible first | exact HB.out | apply below_alloc | apply pw_below_drewN | apply below_drew1) | exact HB.out)) hb); clear HO_9; clear HO_11; clear HB; have HO_9 := n0_; have HO_11 := n1_; have HO238 := n2_; have HB := n3_; clear n0_ n1_ n2_ n3_; (try clear hb); (try clear hb2); (try clear hk); (try clear hi); (try clear ho0); have hcv77 := own_string (P := Try.prog) Try.underlying28 Try.underlying5 Try.underlying9 (Kd.own_of_R HO_11.out); have hcv78 := own_string (P := Try.prog) Try.underlying28 Try.underlying5 Try.underlying9 (Kd.own_of_R HO_9.out)) | ((with_reducible refine gate_callee (f := 12) rfl ?_); refine goesL_ (some 113) rfl rfl Try.func12 (by kernel_rfl) rfl #[.string ((strOfNums x11_4) ++ (strOfNums x9_3)), .int .i64 a1] rfl (by (try simp only [List.map_toArray, List.map_cons, List.map_nil]); first | done | rfl | (simp only [List.length_drop, List.length_take]; rfl)) ?_; (with_reducible refine (radix_Parse.callsE k4 ((strOfNums x11_4) ++ (strOfNums x9_3)) a1 t239 false _ A49.out).mono ?_); rintro e w79 ⟨v241, gv241, rfl, ho0, hb⟩; refine ⟨_, rfl, ?_⟩; have n0_ := Aside0.mk (Kd.R_below (by (with_reducible repeat (first | apply Kd.R_alloc | apply Kd.R_drewN | apply Kd.R_drew)); exact HO_9.out) hb); have n1_ := Aside0.mk (Kd.R_below (by (with_reducible repeat (first | apply Kd.R_alloc | apply Kd.R_drewN | apply Kd.R_drew)); exact HO_11.out) hb); have n2_ := Aside0.mk (Kd.R_elder' (by (with_reducible repeat (first | apply Kd.R_alloc | apply Kd.R_drewN | apply Kd.R_drew)); exact HO238.out) (Kd.R_base ho0) hb); have n3_ := Aside0.mk (Kd.R_lower (Kd.R_new' ho0 (Kd.R_lt (by (with_reducible repeat (first | apply Kd.R_alloc | apply Kd.R_drewN | apply Kd.R_drew)); exact HO238.out))) (below_size (by repeat (first | (with_reducible first | exact HB.out | apply below_alloc | apply pw_below_drewN | apply below_drew1) | exact HB.out)))); have n4_ := Aside0.mk (below_step (by repeat (first | (with_reducible first | exact HB.out | apply below_alloc | apply pw_below_drewN | apply below_drew1) | exact HB.out)) hb); clear HO_9; clear HO_11; clear HO238; clear HB; have HO_9 := n0_; have HO_11 := n1_; have HO238 := n2_; have HO242 := n3_; have HB := n4_; clear n0_ n1_ n2_ n3_ n4_; (try clear hb); (try clear hb2); (try clear hk); (try clear hi); (try clear ho0)) | (go_at_call 14; (with_reducible refine (nat_Norm.calls _ _ l0 t243 _ ?side1 ?side2 A62.out).mono ?_); (case side1 => repeat (first | exact (Kd.C_below HR0.out HB.out) | (with_reducible refine Kd.C_alloc ?_ _) | (with_reducible refine Kd.C_drewN ?_ _) | (with_reducible refine Kd.C_drew ?_))); (case side2 => exact HC0.out); rintro e w80 ⟨v244, rfl, ho0, hb⟩; have n0_ := Aside0.mk (Kd.R_below (by (with_reducible repeat (first | apply Kd.R_alloc | apply Kd.R_drewN | apply Kd.R_drew)); exact HO_9.out) hb); have n1_ := Aside0.mk (Kd.R_below (by (with_reducible repeat (first | apply Kd.R_alloc | apply Kd.R_drewN | apply Kd.R_drew)); exact HO_11.out) hb); have n2_ := Aside0.mk (Kd.R_elder' (by (with_reducible repeat (first | apply Kd.R_alloc | apply Kd.R_drewN | apply Kd.R_drew)); exact HO238.out) (Kd.R_base ho0) hb); have n3_ := Aside0.mk (Kd.R_elder' (by (with_reducible repeat (first | apply Kd.R_alloc | apply Kd.R_drewN | apply Kd.R_drew)); exact HO242.out) (Kd.R_base ho0) hb); have n4_ := Aside0.mk (Kd.R_lower (Kd.R_new' (Kd.R_new' ho0 (Kd.R_lt (by (with_reducible repeat (first | apply Kd.R_alloc | apply Kd.R_drewN | apply Kd.R_drew)); exact HO238.out))) (Kd.R_lt (by (with_reducible repeat (first | apply Kd.R_alloc | apply Kd.R_drewN | apply Kd.R_drew)); exact HO242.out))) (below_size (by repeat (first | (with_reducible first | exact HB.out | apply below_alloc | apply pw_below_drewN | apply below_drew1) | exact HB.out)))); have n5_ := Aside0.mk (below_step (by repeat (first | (with_reducible first | exact HB.out | apply below_alloc | apply pw_below_drewN | apply below_drew1) | exact HB.out)) hb); clear HO_9; clear HO_11; clear HO238; clear HO242; clear HB; have HO_9 := n0_; have HO_11 := n1_; have HO238 := n2_; have HO242 := n3_; have HO245 := n4_; have HB := n5_; clear n0_ n1_ n2_ n3_ n4_ n5_; (try clear hb); (try clear hb2); (try clear hk); (try clear hi); (try clear ho0); obtain ⟨Ao81, co81, eo81⟩ := Kd.R_slice HO238.out; subst eo81; obtain ⟨Ao82, co82, eo82⟩ := Kd.R_slice HO245.out; subst eo82) | (go_at_call 13; (with_reducible refine (plumblaw04_eq.calls k4 _ _ t235 _ _ t243 false _ ?side1 ?side2 ?side3 ?side4 A63.out).mono ?_); (case side1 => repeat (first | exact (Kd.R_reads' HO238.out).2.2 | (with_reducible refine Kd.C_alloc ?_ _) | (with_reducible refine Kd.C_drewN ?_ _) | (with_reducible refine Kd.C_drew ?_))); (case side2 => exact (Kd.R_reads' HO238.out).2.1); (case side3 => repeat (first | exact (Kd.R_reads' HO245.out).2.2 | (with_reducible refine Kd.C_alloc ?_ _) | (with_reducible refine Kd.C_drewN ?_ _) | (with_reducible refine Kd.C_drew ?_))); (case side4 => exact (Kd.R_reads' HO245.out).2.1); rintro e w' ⟨rfl, ⟨nd, rfl⟩⟩))
                                          go_ret
                                          exact ⟨by first | rfl | (simp [errW_none, errW_some] <;> rfl) | (simp only [← hji35]; first | rfl | (simp [errW_none, errW_some] <;> rfl)) | (simp [*, errW_none, errW_some] <;> rfl), by repeat (first | (with_reducible first | exact HB.out | apply below_alloc | apply pw_below_drewN | apply below_drew1) | exact HB.out)⟩
                                  · rw [if_neg c48] at H
                                    exact absurd H (by simp)
                          · rw [if_neg c37] at H
                            exact absurd H (by simp)
                        · rw [if_neg c36] at H
                          exact absurd H (by simp)
                · rw [if_neg c22] at H
                  exact absurd H (by simp)
  · replace c6 := Bool.eq_false_iff.mpr c6
    subst c6
    have H1 : (some false) = some r := by rw [if_neg (show ¬ (false = true) by decide)] at H; exact H
    clear H
    have H := H1
    clear H1
    obtain rfl := Option.some.inj H
    go_enter Try.func3, Try.ntmps3
    go_wp2_with (first | ((with_reducible refine gate_callee (f := 9) rfl ?_); refine goesL_ (some 20) rfl rfl Try.func9 (by kernel_rfl) rfl #[.slice A0 l0.length c0, .int .i64 a1] rfl (by (try simp only [List.map_toArray, List.map_cons, List.map_nil]); first | done | rfl | (simp only [List.length_drop, List.length_take]; rfl)) ?_; (with_reducible refine (radix_Text.calls k _ _ l0 a1 t220 t221 _ ?side1 ?side2 A4.out).mono ?_); (case side1 => repeat (first | exact HR0.out | (with_reducible refine Kd.C_alloc ?_ _) | (with_reducible refine Kd.C_drewN ?_ _) | (with_reducible refine Kd.C_drew ?_))); (case side2 => exact HC0.out); rintro e w83 ⟨rfl, hb⟩; refine ⟨_, rfl, ?_⟩; have n0_ := Aside0.mk (below_step (by repeat (first | (with_reducible first | exact HB.out | apply below_alloc | apply pw_below_drewN | apply below_drew1) | exact HB.out)) hb); clear HB; have HB := n0_; clear n0_; (try clear hb); (try clear hb2); (try clear hk); (try clear hi)) | ((with_reducible refine gate_callee (f := 10) rfl ?_); refine goesL_ (some 23) rfl rfl Try.func10 (by kernel_rfl) rfl #[] rfl (by (try simp only [List.map_toArray, List.map_cons, List.map_nil]); first | done | rfl | (simp only [List.length_drop, List.length_take]; rfl)) ?_; (with_reducible refine (plumblaw04_alive.calls k  false _ A5.out).mono ?_); rintro e w84 ⟨rfl, hb⟩; refine ⟨_, rfl, ?_⟩; have n0_ := Aside0.mk (below_step (by repeat (first | (with_reducible first | exact HB.out | apply below_alloc | apply pw_below_drewN | apply below_drew1) | exact HB.out)) hb); clear HB; have HB := n0_; clear n0_; (try clear hb); (try clear hb2); (try clear hk); (try clear hi)))
    go_ret
    exact ⟨by first | rfl | (simp [errW_none, errW_some] <;> rfl) | (simp [*, errW_none, errW_some] <;> rfl), by repeat (first | (with_reducible first | exact HB.out | apply below_alloc | apply pw_below_drewN | apply below_drew1) | exact HB.out)⟩

/-- THE ONE PURE STATEMENT of plumblaw04_RadixBack: yours. -/
def plumblaw04_RadixBack.Pure : Prop := ∀ (l0 : List Int) (a1 : Int) (a2 : Int), l0.length ≤ maxLen → l0.length * 8 ≤ 140737488351232 → (∀ x ∈ l0, (Lit.int .u64 x).wf = true) → (Lit.int .i64 a1).wf = true → (Lit.int .i64 a2).wf = true → ∃ k, plumblaw04_RadixBack.f k l0 a1 a2 = some true
theorem plumblaw04_RadixBack.walk (P : plumblaw04_RadixBack.Pure) (a0 : Option Addr) (len0 cap0 : Nat) (z0 : List Int) (a1 : Int) (a2 : Int) (w : World) (w0 : (a0 = none ∧ len0 = 0 ∧ cap0 = 0 ∧ z0 = []) ∨ ∃ x, a0 = some x ∧ len0 ≤ cap0 ∧ cap0 ≤ maxLen ∧ z0.length = cap0 ∧ (∀ i, i < z0.length → w.cell? (x.add i) = some (.int .u64 (z0.getD i 0))) ∧ ∀ n ∈ z0, (Lit.int .u64 n).wf = true) (y0 : len0 * 8 ≤ 140737488351232) (w1 : (Lit.int .i64 a1).wf = true) (w2 : (Lit.int .i64 a2).wf = true) :
    Calls Try.prog 3 #[.slice a0 len0 cap0, .int .i64 a1, .int .i64 a2] w fun e w' => e = .returned (.bool true) ∧ Below w.heap.size w w' := by
  obtain ⟨l0, rfl, hr0, hm0, hw0, hc0⟩ := ReadsInt.ofRowC w0
  obtain ⟨k, h⟩ := P l0 a1 a2 hm0 y0 hw0 w1 w2
  refine (plumblaw04_RadixBack.calls k _ _ l0 a1 a2 true w (Kd.C_of_reads (d := (0 : Int)) (h1 := fun _ => rfl) hr0) hc0 h).mono ?_
  rintro e w' ⟨rfl, hd⟩
  exact ⟨rfl, hd⟩

end Go.Proofs.Ytpnffhacmamilaa.PA
