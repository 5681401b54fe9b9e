-- made by program (wip/tools of this work) out of the translation; Lean checks it
import Derived.Test.YtpnffhacmamilaaPA0
import Derived.Test.YtpnffhacmamilaaPA1
import Derived.Test.YtpnffhacmamilaaPA4
import Derived.Test.YtpnffhacmamilaaPA12
import Derived.Test.YtpnffhacmamilaaPA13
import Derived.Test.YtpnffhacmamilaaPA15
import Derived.Test.YtpnffhacmamilaaPA16
import Derived.Test.YtpnffhacmamilaaPA17
import Derived.Test.YtpnffhacmamilaaPA19
namespace Go.Proofs.Ytpnffhacmamilaa.PA
open Go.RowKit Go.Proofs.YtpnffhacmamilaaW.PrintWords Go.Proofs.YtpnffhacmamilaaW.PrintLast Go.Proofs.YtpnffhacmamilaaW.PrintMore
attribute [local go_sem] max2_int min2_int max_two min_two max_three min_three max_four min_four   -- for this text's walks alone
set_option linter.unusedVariables false
set_option linter.unusedSimpArgs false

/-! ### plumblaw04_RadixPowers: function 5 -/
mutual
def plumblaw04_RadixPowers.j0 : Nat → Int → List Int → Int → List Int → Int → Bool → Option (Bool)
  | 0, _, _, _, _, _, _ => none
  | k + 1, x0, x3, x4, x5, x6, x27 => if x27 = true then (if x0 < 0 then (if (x3.length : Int) = 0 then (if (x5.length : Int) = 0 then (if x4 = 31 then (some (x6 == 31)) else (some false)) else (some false)) else (some false)) else (some false)) else (if x0 > 112899 then (if (x3.length : Int) = 0 then (if (x5.length : Int) = 0 then (if x4 = 21 then (some (x6 == 21)) else (some false)) else (some false)) else (some false)) else ((quot_Small.f k x3 4294967291).bind fun bt246 => (if x4 = 0 then ((plumblaw04_rest.f k 5 x0).bind fun t251 => (if bt246.2.1 = t251 then ((nat_Zeros.f k x3).bind fun t252 => (if t252 = 0 then ((nat_Norm.f x3).bind fun t253 => (plumblaw04_RadixPowers.j1 k x0 x3 x5 x6 ((x3.length : Int) != (t253.length : Int)))) else (plumblaw04_RadixPowers.j1 k x0 x3 x5 x6 true))) else (plumblaw04_RadixPowers.j1 k x0 x3 x5 x6 true))) else (plumblaw04_RadixPowers.j1 k x0 x3 x5 x6 true))))
def plumblaw04_RadixPowers.j1 : Nat → Int → List Int → List Int → Int → Bool → Option (Bool)
  | 0, _, _, _, _, _ => none
  | k + 1, x0, x3, x5, x6, x92 => if x92 = true then (some false) else (if x0 > 78913 then (if (x5.length : Int) = 0 then (some (x6 == 21)) else (some false)) else ((nat_Shl.f k x3 x0).bind fun bt256 => (if x6 = 0 then (if bt256.2 = 0 then ((plumblaw04_eq.f k x5 bt256.1).bind fun t260 => (plumblaw04_RadixPowers.j2 k x0 x3 (!t260))) else (plumblaw04_RadixPowers.j2 k x0 x3 true)) else (plumblaw04_RadixPowers.j2 k x0 x3 true))))
def plumblaw04_RadixPowers.j2 : Nat → Int → List Int → Bool → Option (Bool)
  | 0, _, _, _ => none
  | k + 1, x0, x3, x119 => if x119 = true then (some false) else (if x0 > 400 then (some true) else ((plumbref04_Power.f k 5 x0).bind fun t261 => ((plumblaw04_eq.f k x3 t261).bind fun t264 => (some t264))))
end
def plumblaw04_RadixPowers.f (k : Nat) (a0 : Int) : Option (Bool) := (radix_Five.f k a0).bind fun bt237 => ((radix_Ten.f k a0).bind fun bt241 => ((plumblaw04_alive.f k).bind fun t245 => (if t245 = true then (plumblaw04_RadixPowers.j0 k a0 bt237.1 bt237.2 bt241.1 bt241.2 (decide (a0 < 0))) else (plumblaw04_RadixPowers.j0 k a0 bt237.1 bt237.2 bt241.1 bt241.2 true))))
theorem plumblaw04_RadixPowers.mono_l : ∀ k, (∀ y0 y1 y2 y3 y4 y5, LeO (plumblaw04_RadixPowers.j0 k y0 y1 y2 y3 y4 y5) (plumblaw04_RadixPowers.j0 (k + 1) y0 y1 y2 y3 y4 y5)) ∧ (∀ y0 y1 y2 y3 y4, LeO (plumblaw04_RadixPowers.j1 k y0 y1 y2 y3 y4) (plumblaw04_RadixPowers.j1 (k + 1) y0 y1 y2 y3 y4)) ∧ (∀ y0 y1 y2, LeO (plumblaw04_RadixPowers.j2 k y0 y1 y2) (plumblaw04_RadixPowers.j2 (k + 1) y0 y1 y2))
  | 0 => ⟨fun _ _ _ _ _ _ r h => by simp [plumblaw04_RadixPowers.j0] at h, fun _ _ _ _ _ r h => by simp [plumblaw04_RadixPowers.j1] at h, fun _ _ _ r h => by simp [plumblaw04_RadixPowers.j2] at h⟩
  | k + 1 => by
    obtain ⟨ih0, ih1, ih2⟩ := plumblaw04_RadixPowers.mono_l k
    refine ⟨?_, ?_, ?_⟩
    · intro y0 y1 y2 y3 y4 y5
      unfold plumblaw04_RadixPowers.j0
      repeat' first
      | (with_reducible exact ih0 _ _ _ _ _ _)
      | (with_reducible exact ih1 _ _ _ _ _)
      | (with_reducible exact ih2 _ _ _)
      | (with_reducible exact nat_Shl.mono _ _ _)
      | (with_reducible exact nat_Zeros.mono _ _)
      | (with_reducible exact plumblaw04_alive.mono _)
      | (with_reducible exact plumblaw04_eq.mono _ _ _)
      | (with_reducible exact plumblaw04_rest.mono _ _ _)
      | (with_reducible exact plumbref04_Power.mono _ _ _)
      | (with_reducible exact quot_Small.mono _ _ _)
      | (with_reducible exact radix_Five.mono _ _)
      | (with_reducible exact radix_Ten.mono _ _)
      | (with_reducible exact LeO.refl _)
      | (with_reducible exact LeO.none _)
      | (with_reducible refine LeO.ite ?_ ?_)
      | (with_reducible refine LeO.bind ?_ (fun _ => ?_))
      | exact ih0 _ _ _ _ _ _
      | exact ih1 _ _ _ _ _
      | exact ih2 _ _ _
      | exact nat_Shl.mono _ _ _
      | exact nat_Zeros.mono _ _
      | exact plumblaw04_alive.mono _
      | exact plumblaw04_eq.mono _ _ _
      | exact plumblaw04_rest.mono _ _ _
      | exact plumbref04_Power.mono _ _ _
      | exact quot_Small.mono _ _ _
      | exact radix_Five.mono _ _
      | exact radix_Ten.mono _ _
      | exact LeO.none _
      | refine LeO.ite ?_ ?_
      | refine LeO.bind ?_ (fun _ => ?_)
    · intro y0 y1 y2 y3 y4
      unfold plumblaw04_RadixPowers.j1
      repeat' first
      | (with_reducible exact ih0 _ _ _ _ _ _)
      | (with_reducible exact ih1 _ _ _ _ _)
      | (with_reducible exact ih2 _ _ _)
      | (with_reducible exact nat_Shl.mono _ _ _)
      | (with_reducible exact nat_Zeros.mono _ _)
      | (with_reducible exact plumblaw04_alive.mono _)
      | (with_reducible exact plumblaw04_eq.mono _ _ _)
      | (with_reducible exact plumblaw04_rest.mono _ _ _)
      | (with_reducible exact plumbref04_Power.mono _ _ _)
      | (with_reducible exact quot_Small.mono _ _ _)
      | (with_reducible exact radix_Five.mono _ _)
      | (with_reducible exact radix_Ten.mono _ _)
      | (with_reducible exact LeO.refl _)
      | (with_reducible exact LeO.none _)
      | (with_reducible refine LeO.ite ?_ ?_)
      | (with_reducible refine LeO.bind ?_ (fun _ => ?_))
      | exact ih0 _ _ _ _ _ _
      | exact ih1 _ _ _ _ _
      | exact ih2 _ _ _
      | exact nat_Shl.mono _ _ _
      | exact nat_Zeros.mono _ _
      | exact plumblaw04_alive.mono _
      | exact plumblaw04_eq.mono _ _ _
      | exact plumblaw04_rest.mono _ _ _
      | exact plumbref04_Power.mono _ _ _
      | exact quot_Small.mono _ _ _
      | exact radix_Five.mono _ _
      | exact radix_Ten.mono _ _
      | exact LeO.none _
      | refine LeO.ite ?_ ?_
      | refine LeO.bind ?_ (fun _ => ?_)
    · intro y0 y1 y2
      unfold plumblaw04_RadixPowers.j2
      repeat' first
      | (with_reducible exact ih0 _ _ _ _ _ _)
      | (with_reducible exact ih1 _ _ _ _ _)
      | (with_reducible exact ih2 _ _ _)
      | (with_reducible exact nat_Shl.mono _ _ _)
      | (with_reducible exact nat_Zeros.mono _ _)
      | (with_reducible exact plumblaw04_alive.mono _)
      | (with_reducible exact plumblaw04_eq.mono _ _ _)
      | (with_reducible exact plumblaw04_rest.mono _ _ _)
      | (with_reducible exact plumbref04_Power.mono _ _ _)
      | (with_reducible exact quot_Small.mono _ _ _)
      | (with_reducible exact radix_Five.mono _ _)
      | (with_reducible exact radix_Ten.mono _ _)
      | (with_reducible exact LeO.refl _)
      | (with_reducible exact LeO.none _)
      | (with_reducible refine LeO.ite ?_ ?_)
      | (with_reducible refine LeO.bind ?_ (fun _ => ?_))
      | exact ih0 _ _ _ _ _ _
      | exact ih1 _ _ _ _ _
      | exact ih2 _ _ _
      | exact nat_Shl.mono _ _ _
      | exact nat_Zeros.mono _ _
      | exact plumblaw04_alive.mono _
      | exact plumblaw04_eq.mono _ _ _
      | exact plumblaw04_rest.mono _ _ _
      | exact plumbref04_Power.mono _ _ _
      | exact quot_Small.mono _ _ _
      | exact radix_Five.mono _ _
      | exact radix_Ten.mono _ _
      | exact LeO.none _
      | refine LeO.ite ?_ ?_
      | refine LeO.bind ?_ (fun _ => ?_)
theorem plumblaw04_RadixPowers.mono : ∀ a0 k, LeO (plumblaw04_RadixPowers.f k a0) (plumblaw04_RadixPowers.f (k + 1) a0) := by
  intro a0 k
  obtain ⟨ih0, ih1, ih2⟩ := plumblaw04_RadixPowers.mono_l k
  unfold plumblaw04_RadixPowers.f
  repeat' first
      | (with_reducible exact ih0 _ _ _ _ _ _)
      | (with_reducible exact ih1 _ _ _ _ _)
      | (with_reducible exact ih2 _ _ _)
      | (with_reducible exact nat_Shl.mono _ _ _)
      | (with_reducible exact nat_Zeros.mono _ _)
      | (with_reducible exact plumblaw04_alive.mono _)
      | (with_reducible exact plumblaw04_eq.mono _ _ _)
      | (with_reducible exact plumblaw04_rest.mono _ _ _)
      | (with_reducible exact plumbref04_Power.mono _ _ _)
      | (with_reducible exact quot_Small.mono _ _ _)
      | (with_reducible exact radix_Five.mono _ _)
      | (with_reducible exact radix_Ten.mono _ _)
      | (with_reducible exact LeO.refl _)
      | (with_reducible exact LeO.none _)
      | (with_reducible refine LeO.ite ?_ ?_)
      | (with_reducible refine LeO.bind ?_ (fun _ => ?_))
      | exact ih0 _ _ _ _ _ _
      | exact ih1 _ _ _ _ _
      | exact ih2 _ _ _
      | exact nat_Shl.mono _ _ _
      | exact nat_Zeros.mono _ _
      | exact plumblaw04_alive.mono _
      | exact plumblaw04_eq.mono _ _ _
      | exact plumblaw04_rest.mono _ _ _
      | exact plumbref04_Power.mono _ _ _
      | exact quot_Small.mono _ _ _
      | exact radix_Five.mono _ _
      | exact radix_Ten.mono _ _
      | exact LeO.none _
      | refine LeO.ite ?_ ?_
      | refine LeO.bind ?_ (fun _ => ?_)
set_option maxHeartbeats 8000000 in
set_option maxRecDepth 100000 in
theorem plumblaw04_RadixPowers.calls (k : Nat) (a0 : Int) (r : Bool) (w : World) (h : plumblaw04_RadixPowers.f k a0 = some r) :
    Calls Try.prog 5 #[.int .i64 a0] w fun e w' => e = .returned (.bool r) ∧ Below w.heap.size w w' := by
  have HB := Aside0.mk (Below.refl w.heap.size w)
  have H : ((radix_Five.f k a0).bind fun bt237 => ((radix_Ten.f k a0).bind fun bt241 => ((plumblaw04_alive.f k).bind fun t245 => (if t245 = true then (plumblaw04_RadixPowers.j0 k a0 bt237.1 bt237.2 bt241.1 bt241.2 (decide (a0 < 0))) else (plumblaw04_RadixPowers.j0 k a0 bt237.1 bt237.2 bt241.1 bt241.2 true))))) = some r := h
  clear h
  replace H := Option.bind_eq_some_iff.mp H
  obtain ⟨⟨t237, t238⟩, A20, H⟩ := H
  replace H : ((radix_Ten.f k a0).bind fun bt241 => ((plumblaw04_alive.f k).bind fun t245 => (if t245 = true then (plumblaw04_RadixPowers.j0 k a0 t237 t238 bt241.1 bt241.2 (decide (a0 < 0))) else (plumblaw04_RadixPowers.j0 k a0 t237 t238 bt241.1 bt241.2 true)))) = some r := H
  have A2 := Aside0.mk A20
  clear A20
  replace H := Option.bind_eq_some_iff.mp H
  obtain ⟨⟨t241, t242⟩, A30, H⟩ := H
  replace H : ((plumblaw04_alive.f k).bind fun t245 => (if t245 = true then (plumblaw04_RadixPowers.j0 k a0 t237 t238 t241 t242 (decide (a0 < 0))) else (plumblaw04_RadixPowers.j0 k a0 t237 t238 t241 t242 true))) = some r := H
  have A3 := Aside0.mk A30
  clear A30
  have HC4 := Aside0.mk H
  clear H
  go_enter Try.func5, Try.ntmps5
  go_upto_region 3 with (first | ((with_reducible refine gate_callee (f := 18) rfl ?_); refine goesL_ (some 14) rfl rfl Try.func18 (by kernel_rfl) rfl #[.int .i64 a0] rfl (by (try simp only [List.map_toArray, List.map_cons, List.map_nil]); first | done | rfl | (simp only [List.length_drop, List.length_take]; rfl)) ?_; (with_reducible refine (radix_Five.calls k a0 t237 t238 _ A2.out).mono ?_); rintro e w5 ⟨v239, rfl, ho0, hb⟩; refine ⟨_, rfl, ?_⟩; have n0_ := Aside0.mk (Kd.R_lower ho0 (below_size (by repeat (first | (with_reducible first | exact HB.out | apply below_alloc | apply pw_below_drewN | apply below_drew1) | exact HB.out)))); have n1_ := Aside0.mk (below_step (by repeat (first | (with_reducible first | exact HB.out | apply below_alloc | apply pw_below_drewN | apply below_drew1) | exact HB.out)) hb); clear HB; have HO240 := n0_; have HB := n1_; clear n0_ n1_; (try clear hb); (try clear hb2); (try clear hk); (try clear hi); (try clear ho0)) | ((with_reducible refine gate_callee (f := 19) rfl ?_); refine goesL_ (some 19) rfl rfl Try.func19 (by kernel_rfl) rfl #[.int .i64 a0] rfl (by (try simp only [List.map_toArray, List.map_cons, List.map_nil]); first | done | rfl | (simp only [List.length_drop, List.length_take]; rfl)) ?_; (with_reducible refine (radix_Ten.calls k a0 t241 t242 _ A3.out).mono ?_); rintro e w6 ⟨v243, rfl, ho0, hb⟩; refine ⟨_, rfl, ?_⟩; have n0_ := Aside0.mk (Kd.R_elder' (by (with_reducible repeat (first | apply Kd.R_alloc | apply Kd.R_drewN | apply Kd.R_drew)); exact HO240.out) (Kd.R_base ho0) hb); have n1_ := Aside0.mk (Kd.R_lower (Kd.R_new' ho0 (Kd.R_lt (by (with_reducible repeat (first | apply Kd.R_alloc | apply Kd.R_drewN | apply Kd.R_drew)); exact HO240.out))) (below_size (by repeat (first | (with_reducible first | exact HB.out | apply below_alloc | apply pw_below_drewN | apply below_drew1) | exact HB.out)))); have n2_ := Aside0.mk (below_step (by repeat (first | (with_reducible first | exact HB.out | apply below_alloc | apply pw_below_drewN | apply below_drew1) | exact HB.out)) hb); clear HO240; clear HB; have HO240 := n0_; have HO244 := n1_; have HB := n2_; clear n0_ n1_ n2_; (try clear hb); (try clear hb2); (try clear hk); (try clear hi); (try clear ho0)))
  (try simp only [Act.put, List.setIfInBounds_toArray, List.set_cons_zero, List.set_cons_succ])
  go_cut [27] (fun v27 wc => ∃ (kq : Nat) (x27_3 : Bool), v27 = .bool x27_3 ∧ Aside0 (plumblaw04_RadixPowers.j0 kq a0 t237 t238 t241 t242 x27_3 = some r) ∧ Aside0 (kq ≤ k) ∧ Aside0 (Kd.R (Kd.int .u64) 39 wc w.heap.size (fun k_ => some k_ ≠ (v243 : Value).ownBlock) v239 t237) ∧ Aside0 (Kd.R (Kd.int .u64) 39 wc w.heap.size (fun k_ => some k_ ≠ (v239 : Value).ownBlock) v243 t241) ∧ Aside0 (Below w.heap.size w wc))
  case first =>
    have H := HC4.out
    clear HC4
    replace H := Option.bind_eq_some_iff.mp H
    obtain ⟨t245, A70, H⟩ := H
    replace H : (if t245 = true then (plumblaw04_RadixPowers.j0 k a0 t237 t238 t241 t242 (decide (a0 < 0))) else (plumblaw04_RadixPowers.j0 k a0 t237 t238 t241 t242 true)) = some r := H
    have A7 := Aside0.mk A70
    clear A70
    by_cases c8 : t245 = true
    · subst c8
      have H1 : (plumblaw04_RadixPowers.j0 k a0 t237 t238 t241 t242 (decide (a0 < 0))) = some r := by rw [if_pos rfl] at H; exact H
      clear H
      have H := H1
      clear H1
      have H' := Aside0.mk H
      clear H
      go_wp2_with (first | ((with_reducible refine gate_callee (f := 10) rfl ?_); refine goesL_ (some 22) rfl rfl Try.func10 (by kernel_rfl) rfl #[] rfl (by (try simp only [List.map_toArray, List.map_cons, List.map_nil]); first | done | rfl | (simp only [List.length_drop, List.length_take]; rfl)) ?_; (with_reducible refine (plumblaw04_alive.calls k  true _ A7.out).mono ?_); rintro e w9 ⟨rfl, hb⟩; refine ⟨_, rfl, ?_⟩; have n0_ := Aside0.mk (Kd.R_below (by (with_reducible repeat (first | apply Kd.R_alloc | apply Kd.R_drewN | apply Kd.R_drew)); exact HO240.out) hb); have n1_ := Aside0.mk (Kd.R_below (by (with_reducible repeat (first | apply Kd.R_alloc | apply Kd.R_drewN | apply Kd.R_drew)); exact HO244.out) hb); have n2_ := Aside0.mk (below_step (by repeat (first | (with_reducible first | exact HB.out | apply below_alloc | apply pw_below_drewN | apply below_drew1) | exact HB.out)) hb); clear HO240; clear HO244; clear HB; have HO240 := n0_; have HO244 := n1_; have HB := n2_; clear n0_ n1_ n2_; (try clear hb); (try clear hb2); (try clear hk); (try clear hi)))
      go_meet
      case rel => exact ⟨_, (decide (a0 < 0)), (by first | rfl | (simp; done) | (simp [*]; done)), H', ⟨by first | omega | exact Nat.le_refl _⟩, ⟨by (with_reducible repeat (first | apply Kd.R_alloc | apply Kd.R_drewN | apply Kd.R_drew)); exact Kd.R_mono HO240.out (fun _ hk => hk.2)⟩, ⟨by (with_reducible repeat (first | apply Kd.R_alloc | apply Kd.R_drewN | apply Kd.R_drew)); exact Kd.R_mono HO244.out (fun _ hk => hk.2)⟩, ⟨by repeat (first | (with_reducible first | exact HB.out | apply below_alloc | apply pw_below_drewN | apply below_drew1) | exact HB.out)⟩⟩
    · replace c8 := Bool.eq_false_iff.mpr c8
      subst c8
      have H1 : (plumblaw04_RadixPowers.j0 k a0 t237 t238 t241 t242 true) = some r := by rw [if_neg (show ¬ (false = true) by decide)] at H; exact H
      clear H
      have H := H1
      clear H1
      have H' := Aside0.mk H
      clear H
      go_wp2_with (first | ((with_reducible refine gate_callee (f := 10) rfl ?_); refine goesL_ (some 22) rfl rfl Try.func10 (by kernel_rfl) rfl #[] rfl (by (try simp only [List.map_toArray, List.map_cons, List.map_nil]); first | done | rfl | (simp only [List.length_drop, List.length_take]; rfl)) ?_; (with_reducible refine (plumblaw04_alive.calls k  false _ A7.out).mono ?_); rintro e w10 ⟨rfl, hb⟩; refine ⟨_, rfl, ?_⟩; have n0_ := Aside0.mk (Kd.R_below (by (with_reducible repeat (first | apply Kd.R_alloc | apply Kd.R_drewN | apply Kd.R_drew)); exact HO240.out) hb); have n1_ := Aside0.mk (Kd.R_below (by (with_reducible repeat (first | apply Kd.R_alloc | apply Kd.R_drewN | apply Kd.R_drew)); exact HO244.out) hb); have n2_ := Aside0.mk (below_step (by repeat (first | (with_reducible first | exact HB.out | apply below_alloc | apply pw_below_drewN | apply below_drew1) | exact HB.out)) hb); clear HO240; clear HO244; clear HB; have HO240 := n0_; have HO244 := n1_; have HB := n2_; clear n0_ n1_ n2_; (try clear hb); (try clear hb2); (try clear hk); (try clear hi)))
      go_meet
      case rel => exact ⟨_, (true), (by first | rfl | (simp; done) | (simp [*]; done)), H', ⟨by first | omega | exact Nat.le_refl _⟩, ⟨by (with_reducible repeat (first | apply Kd.R_alloc | apply Kd.R_drewN | apply Kd.R_drew)); exact Kd.R_mono HO240.out (fun _ hk => hk.2)⟩, ⟨by (with_reducible repeat (first | apply Kd.R_alloc | apply Kd.R_drewN | apply Kd.R_drew)); exact Kd.R_mono HO244.out (fun _ hk => hk.2)⟩, ⟨by repeat (first | (with_reducible first | exact HB.out | apply below_alloc | apply pw_below_drewN | apply below_drew1) | exact HB.out)⟩⟩
  case rest =>
    clear HC4
    try clear c1
    try clear p2
    try clear c5
    try clear c8
    try clear c10
    obtain ⟨kq, x27_3, rfl, HA, HJ3, HO_3, HO_5, HB⟩ := hcut
    cases kq with
    | zero => exact absurd HA.out (by simp [plumblaw04_RadixPowers.j0])
    | succ kj3 =>
      have H := HA.out
      clear HA
      simp only [plumblaw04_RadixPowers.j0] at H
      by_cases c11 : x27_3 = true
      · subst c11
        have H1 : (if a0 < 0 then (if (t237.length : Int) = 0 then (if (t241.length : Int) = 0 then (if t238 = 31 then (some (t242 == 31)) else (some false)) else (some false)) else (some false)) else (some false)) = some r := by rw [if_pos rfl] at H; exact H
        clear H
        have H := H1
        clear H1
        by_cases c12 : a0 < 0
        · rw [if_pos c12] at H
          have c12b0 : decide (a0 < 0) = true := decide_eq_true c12
          clear c12
          by_cases c13 : (t237.length : Int) = 0
          · rw [if_pos c13] at H
            have c13b0 : ((t237.length : Int) == 0) = true := beq_iff_eq.mpr c13
            have c13b1 : ((t237.length : Int) != 0) = false := bne_eq_false_iff_eq.mpr c13
            clear c13
            by_cases c14 : (t241.length : Int) = 0
            · rw [if_pos c14] at H
              have c14b0 : ((t241.length : Int) == 0) = true := beq_iff_eq.mpr c14
              have c14b1 : ((t241.length : Int) != 0) = false := bne_eq_false_iff_eq.mpr c14
              clear c14
              by_cases c15 : t238 = 31
              · rw [if_pos c15] at H
                have c15b0 : (t238 == 31) = true := beq_iff_eq.mpr c15
                have c15b1 : (t238 != 31) = false := bne_eq_false_iff_eq.mpr c15
                clear c15
                obtain rfl := Option.some.inj H
                obtain ⟨Ao16, co16, eo16⟩ := Kd.R_slice HO_3.out
                subst eo16
                obtain ⟨Ao17, co17, eo17⟩ := Kd.R_slice HO_5.out
                subst eo17
                go_wp2
                go_ret
                exact ⟨by first | rfl | (simp [errW_none, errW_some] <;> rfl) | (simp [*, errW_none, errW_some] <;> rfl), by repeat (first | (with_reducible first | exact HB.out | apply below_alloc | apply pw_below_drewN | apply below_drew1) | exact HB.out)⟩
              · rw [if_neg c15] at H
                have c15b0 : (t238 == 31) = false := beq_eq_false_iff_ne.mpr c15
                have c15b1 : (t238 != 31) = true := bne_iff_ne.mpr c15
                obtain rfl := Option.some.inj H
                obtain ⟨Ao18, co18, eo18⟩ := Kd.R_slice HO_3.out
                subst eo18
                obtain ⟨Ao19, co19, eo19⟩ := Kd.R_slice HO_5.out
                subst eo19
                go_wp2
                go_ret
                exact ⟨by first | rfl | (simp [errW_none, errW_some] <;> rfl) | (simp [*, errW_none, errW_some] <;> rfl), by repeat (first | (with_reducible first | exact HB.out | apply below_alloc | apply pw_below_drewN | apply below_drew1) | exact HB.out)⟩
            · rw [if_neg c14] at H
              have c14b0 : ((t241.length : Int) == 0) = false := beq_eq_false_iff_ne.mpr c14
              have c14b1 : ((t241.length : Int) != 0) = true := bne_iff_ne.mpr c14
              have c14b2 : ¬ (t241 = []) := fun h_ => c14 (by rw [h_]; rfl)
              obtain rfl := Option.some.inj H
              obtain ⟨Ao20, co20, eo20⟩ := Kd.R_slice HO_3.out
              subst eo20
              obtain ⟨Ao21, co21, eo21⟩ := Kd.R_slice HO_5.out
              subst eo21
              go_wp2
              go_ret
              exact ⟨by first | rfl | (simp [errW_none, errW_some] <;> rfl) | (simp [*, errW_none, errW_some] <;> rfl), by repeat (first | (with_reducible first | exact HB.out | apply below_alloc | apply pw_below_drewN | apply below_drew1) | exact HB.out)⟩
          · rw [if_neg c13] at H
            have c13b0 : ((t237.length : Int) == 0) = false := beq_eq_false_iff_ne.mpr c13
            have c13b1 : ((t237.length : Int) != 0) = true := bne_iff_ne.mpr c13
            have c13b2 : ¬ (t237 = []) := fun h_ => c13 (by rw [h_]; rfl)
            obtain rfl := Option.some.inj H
            obtain ⟨Ao22, co22, eo22⟩ := Kd.R_slice HO_3.out
            subst eo22
            go_wp2
            go_ret
            exact ⟨by first | rfl | (simp [errW_none, errW_some] <;> rfl) | (simp [*, errW_none, errW_some] <;> rfl), by repeat (first | (with_reducible first | exact HB.out | apply below_alloc | apply pw_below_drewN | apply below_drew1) | exact HB.out)⟩
        · rw [if_neg c12] at H
          have c12b0 : decide (a0 < 0) = false := decide_eq_false c12
          clear c12
          obtain rfl := Option.some.inj H
          go_wp2
          go_ret
          exact ⟨by first | rfl | (simp [errW_none, errW_some] <;> rfl) | (simp [*, errW_none, errW_some] <;> rfl), by repeat (first | (with_reducible first | exact HB.out | apply below_alloc | apply pw_below_drewN | apply below_drew1) | exact HB.out)⟩
      · replace c11 := Bool.eq_false_iff.mpr c11
        subst c11
        have H1 : (if a0 > 112899 then (if (t237.length : Int) = 0 then (if (t241.length : Int) = 0 then (if t238 = 21 then (some (t242 == 21)) else (some false)) else (some false)) else (some false)) else ((quot_Small.f kj3 t237 4294967291).bind fun bt246 => (if t238 = 0 then ((plumblaw04_rest.f kj3 5 a0).bind fun t251 => (if bt246.2.1 = t251 then ((nat_Zeros.f kj3 t237).bind fun t252 => (if t252 = 0 then ((nat_Norm.f t237).bind fun t253 => (plumblaw04_RadixPowers.j1 kj3 a0 t237 t241 t242 ((t237.length : Int) != (t253.length : Int)))) else (plumblaw04_RadixPowers.j1 kj3 a0 t237 t241 t242 true))) else (plumblaw04_RadixPowers.j1 kj3 a0 t237 t241 t242 true))) else (plumblaw04_RadixPowers.j1 kj3 a0 t237 t241 t242 true)))) = some r := by rw [if_neg (show ¬ (false = true) by decide)] at H; exact H
        clear H
        have H := H1
        clear H1
        by_cases c23 : a0 > 112899
        · rw [if_pos c23] at H
          have c23b0 : decide (112899 < a0) = true := decide_eq_true c23
          clear c23
          by_cases c24 : (t237.length : Int) = 0
          · rw [if_pos c24] at H
            have c24b0 : ((t237.length : Int) == 0) = true := beq_iff_eq.mpr c24
            have c24b1 : ((t237.length : Int) != 0) = false := bne_eq_false_iff_eq.mpr c24
            clear c24
            by_cases c25 : (t241.length : Int) = 0
            · rw [if_pos c25] at H
              have c25b0 : ((t241.length : Int) == 0) = true := beq_iff_eq.mpr c25
              have c25b1 : ((t241.length : Int) != 0) = false := bne_eq_false_iff_eq.mpr c25
              clear c25
              by_cases c26 : t238 = 21
              · rw [if_pos c26] at H
                have c26b0 : (t238 == 21) = true := beq_iff_eq.mpr c26
                have c26b1 : (t238 != 21) = false := bne_eq_false_iff_eq.mpr c26
                clear c26
                obtain rfl := Option.some.inj H
                obtain ⟨Ao27, co27, eo27⟩ := Kd.R_slice HO_3.out
                subst eo27
                obtain ⟨Ao28, co28, eo28⟩ := Kd.R_slice HO_5.out
                subst eo28
                go_wp2
                go_ret
                exact ⟨by first | rfl | (simp [errW_none, errW_some] <;> rfl) | (simp [*, errW_none, errW_some] <;> rfl), by repeat (first | (with_reducible first | exact HB.out | apply below_alloc | apply pw_below_drewN | apply below_drew1) | exact HB.out)⟩
              · rw [if_neg c26] at H
                have c26b0 : (t238 == 21) = false := beq_eq_false_iff_ne.mpr c26
                have c26b1 : (t238 != 21) = true := bne_iff_ne.mpr c26
                obtain rfl := Option.some.inj H
                obtain ⟨Ao29, co29, eo29⟩ := Kd.R_slice HO_3.out
                subst eo29
                obtain ⟨Ao30, co30, eo30⟩ := Kd.R_slice HO_5.out
                subst eo30
                go_wp2
                go_ret
                exact ⟨by first | rfl | (simp [errW_none, errW_some] <;> rfl) | (simp [*, errW_none, errW_some] <;> rfl), by repeat (first | (with_reducible first | exact HB.out | apply below_alloc | apply pw_below_drewN | apply below_drew1) | exact HB.out)⟩
            · rw [if_neg c25] at H
              have c25b0 : ((t241.length : Int) == 0) = false := beq_eq_false_iff_ne.mpr c25
              have c25b1 : ((t241.length : Int) != 0) = true := bne_iff_ne.mpr c25
              have c25b2 : ¬ (t241 = []) := fun h_ => c25 (by rw [h_]; rfl)
              obtain rfl := Option.some.inj H
              obtain ⟨Ao31, co31, eo31⟩ := Kd.R_slice HO_3.out
              subst eo31
              obtain ⟨Ao32, co32, eo32⟩ := Kd.R_slice HO_5.out
              subst eo32
              go_wp2
              go_ret
              exact ⟨by first | rfl | (simp [errW_none, errW_some] <;> rfl) | (simp [*, errW_none, errW_some] <;> rfl), by repeat (first | (with_reducible first | exact HB.out | apply below_alloc | apply pw_below_drewN | apply below_drew1) | exact HB.out)⟩
          · rw [if_neg c24] at H
            have c24b0 : ((t237.length : Int) == 0) = false := beq_eq_false_iff_ne.mpr c24
            have c24b1 : ((t237.length : Int) != 0) = true := bne_iff_ne.mpr c24
            have c24b2 : ¬ (t237 = []) := fun h_ => c24 (by rw [h_]; rfl)
            obtain rfl := Option.some.inj H
            obtain ⟨Ao33, co33, eo33⟩ := Kd.R_slice HO_3.out
            subst eo33
            go_wp2
            go_ret
            exact ⟨by first | rfl | (simp [errW_none, errW_some] <;> rfl) | (simp [*, errW_none, errW_some] <;> rfl), by repeat (first | (with_reducible first | exact HB.out | apply below_alloc | apply pw_below_drewN | apply below_drew1) | exact HB.out)⟩
        · rw [if_neg c23] at H
          have c23b0 : decide (112899 < a0) = false := decide_eq_false c23
          clear c23
          replace H := Option.bind_eq_some_iff.mp H
          obtain ⟨⟨t246, t247, t248⟩, A340, H⟩ := H
          replace H : (if t238 = 0 then ((plumblaw04_rest.f kj3 5 a0).bind fun t251 => (if t247 = t251 then ((nat_Zeros.f kj3 t237).bind fun t252 => (if t252 = 0 then ((nat_Norm.f t237).bind fun t253 => (plumblaw04_RadixPowers.j1 kj3 a0 t237 t241 t242 ((t237.length : Int) != (t253.length : Int)))) else (plumblaw04_RadixPowers.j1 kj3 a0 t237 t241 t242 true))) else (plumblaw04_RadixPowers.j1 kj3 a0 t237 t241 t242 true))) else (plumblaw04_RadixPowers.j1 kj3 a0 t237 t241 t242 true)) = some r := H
          have A34 := Aside0.mk A340
          clear A340
          have HC35 := Aside0.mk H
          clear H
          obtain ⟨Ao36, co36, eo36⟩ := Kd.R_slice HO_3.out
          subst eo36
          go_upto_region 8 with (first | ((with_reducible refine gate_callee (f := 20) rfl ?_); refine goesL_ (some 68) rfl rfl Try.func20 (by kernel_rfl) rfl #[.slice Ao36 t237.length co36, .int .u64 4294967291] rfl (by (try simp only [List.map_toArray, List.map_cons, List.map_nil]); first | done | rfl | (simp only [List.length_drop, List.length_take]; rfl)) ?_; (with_reducible refine (quot_Small.calls kj3 _ _ t237 4294967291 t246 t247 t248 _ ?side1 ?side2 A34.out).mono ?_); (case side1 => repeat (first | exact (Kd.R_reads' HO_3.out).2.2 | (with_reducible refine Kd.C_alloc ?_ _) | (with_reducible refine Kd.C_drewN ?_ _) | (with_reducible refine Kd.C_drew ?_))); (case side2 => exact (Kd.R_reads' HO_3.out).2.1); rintro e w37 ⟨v249, rfl, ho0, hb⟩; refine ⟨_, rfl, ?_⟩; have n0_ := Aside0.mk (Kd.R_elder' (by (with_reducible repeat (first | apply Kd.R_alloc | apply Kd.R_drewN | apply Kd.R_drew)); exact HO_3.out) (Kd.R_base ho0) hb); have n1_ := Aside0.mk (Kd.R_elder' (by (with_reducible repeat (first | apply Kd.R_alloc | apply Kd.R_drewN | apply Kd.R_drew)); exact HO_5.out) (Kd.R_base ho0) hb); have n2_ := Aside0.mk (Kd.R_lower (Kd.R_new' (Kd.R_new' ho0 (Kd.R_lt (by (with_reducible repeat (first | apply Kd.R_alloc | apply Kd.R_drewN | apply Kd.R_drew)); exact HO_3.out))) (Kd.R_lt (by (with_reducible repeat (first | apply Kd.R_alloc | apply Kd.R_drewN | apply Kd.R_drew)); exact HO_5.out))) (below_size (by repeat (first | (with_reducible first | exact HB.out | apply below_alloc | apply pw_below_drewN | apply below_drew1) | exact HB.out)))); have n3_ := Aside0.mk (below_step (by repeat (first | (with_reducible first | exact HB.out | apply below_alloc | apply pw_below_drewN | apply below_drew1) | exact HB.out)) hb); clear HO_3; clear HO_5; clear HB; have HO_3 := n0_; have HO_5 := n1_; have HO250 := n2_; have HB := n3_; clear n0_ n1_ n2_ n3_; (try clear hb); (try clear hb2); (try clear hk); (try clear hi); (try clear ho0)))
          (try simp only [Act.put, List.setIfInBounds_toArray, List.set_cons_zero, List.set_cons_succ])
          go_cut [92] (fun v92 wc => ∃ (kq : Nat) (x92_34 : Bool), v92 = .bool x92_34 ∧ Aside0 (plumblaw04_RadixPowers.j1 kq a0 t237 t241 t242 x92_34 = some r) ∧ Aside0 (kq ≤ kj3) ∧ Aside0 (Kd.R (Kd.int .u64) 39 wc w.heap.size (fun k_ => some k_ ≠ (v243 : Value).ownBlock) (.slice Ao36 t237.length co36) t237) ∧ Aside0 (Kd.R (Kd.int .u64) 39 wc w.heap.size (fun k_ => some k_ ≠ ((.slice Ao36 t237.length co36) : Value).ownBlock) v243 t241) ∧ Aside0 (Below w.heap.size w wc))
          case first =>
            have H := HC35.out
            clear HC35
            by_cases c38 : t238 = 0
            · rw [if_pos c38] at H
              have c38b0 : (t238 == 0) = true := beq_iff_eq.mpr c38
              have c38b1 : (t238 != 0) = false := bne_eq_false_iff_eq.mpr c38
              clear c38
              (first | rw [c38b0] | (simp only [i64_w, i32_w]; rw [c38b0]) | skip)
              replace H := Option.bind_eq_some_iff.mp H
              obtain ⟨t251, A390, H⟩ := H
              replace H : (if t247 = t251 then ((nat_Zeros.f kj3 t237).bind fun t252 => (if t252 = 0 then ((nat_Norm.f t237).bind fun t253 => (plumblaw04_RadixPowers.j1 kj3 a0 t237 t241 t242 ((t237.length : Int) != (t253.length : Int)))) else (plumblaw04_RadixPowers.j1 kj3 a0 t237 t241 t242 true))) else (plumblaw04_RadixPowers.j1 kj3 a0 t237 t241 t242 true)) = some r := H
              have A39 := Aside0.mk A390
              clear A390
              by_cases c40 : t247 = t251
              · rw [if_pos c40] at H
                have c40b0 : (t247 == t251) = true := beq_iff_eq.mpr c40
                have c40b1 : (t247 != t251) = false := bne_eq_false_iff_eq.mpr c40
                clear c40
                replace H := Option.bind_eq_some_iff.mp H
                obtain ⟨t252, A410, H⟩ := H
                replace H : (if t252 = 0 then ((nat_Norm.f t237).bind fun t253 => (plumblaw04_RadixPowers.j1 kj3 a0 t237 t241 t242 ((t237.length : Int) != (t253.length : Int)))) else (plumblaw04_RadixPowers.j1 kj3 a0 t237 t241 t242 true)) = some r := H
                have A41 := Aside0.mk A410
                clear A410
                by_cases c42 : t252 = 0
                · rw [if_pos c42] at H
                  have c42b0 : (t252 == 0) = true := beq_iff_eq.mpr c42
                  have c42b1 : (t252 != 0) = false := bne_eq_false_iff_eq.mpr c42
                  clear c42
                  replace H := Option.bind_eq_some_iff.mp H
                  obtain ⟨t253, A430, H⟩ := H
                  replace H : (plumblaw04_RadixPowers.j1 kj3 a0 t237 t241 t242 ((t237.length : Int) != (t253.length : Int))) = some r := H
                  have A43 := Aside0.mk A430
                  clear A430
                  have H' := Aside0.mk H
                  clear H
                  go_wp2_with (first | (go_at_call 21; (with_reducible refine (plumblaw04_rest.calls kj3 5 a0 t251 _ A39.out).mono ?_); rintro e w' ⟨rfl, ⟨nd, rfl⟩⟩) | (go_at_call 22; (with_reducible refine (nat_Zeros.calls kj3 _ _ t237 t252 _ ?side1 ?side2 A41.out).mono ?_); (case side1 => repeat (first | exact (Kd.R_reads' HO_3.out).2.2 | (with_reducible refine Kd.C_alloc ?_ _) | (with_reducible refine Kd.C_drewN ?_ _) | (with_reducible refine Kd.C_drew ?_))); (case side2 => exact (Kd.R_reads' HO_3.out).2.1); rintro e w' ⟨rfl, ⟨nd, rfl⟩⟩) | (go_at_call 14; (with_reducible refine (nat_Norm.calls _ _ t237 t253 _ ?side1 ?side2 A43.out).mono ?_); (case side1 => repeat (first | exact (Kd.R_reads' HO_3.out).2.2 | (with_reducible refine Kd.C_alloc ?_ _) | (with_reducible refine Kd.C_drewN ?_ _) | (with_reducible refine Kd.C_drew ?_))); (case side2 => exact (Kd.R_reads' HO_3.out).2.1); rintro e w44 ⟨v254, rfl, ho0, hb⟩; have n0_ := Aside0.mk (Kd.R_elder' (by (with_reducible repeat (first | apply Kd.R_alloc | apply Kd.R_drewN | apply Kd.R_drew)); exact HO_3.out) (Kd.R_base ho0) hb); have n1_ := Aside0.mk (Kd.R_elder' (by (with_reducible repeat (first | apply Kd.R_alloc | apply Kd.R_drewN | apply Kd.R_drew)); exact HO_5.out) (Kd.R_base ho0) hb); have n2_ := Aside0.mk (Kd.R_elder' (by (with_reducible repeat (first | apply Kd.R_alloc | apply Kd.R_drewN | apply Kd.R_drew)); exact HO250.out) (Kd.R_base ho0) hb); have n3_ := Aside0.mk (Kd.R_lower (Kd.R_new' (Kd.R_new' (Kd.R_new' ho0 (Kd.R_lt (by (with_reducible repeat (first | apply Kd.R_alloc | apply Kd.R_drewN | apply Kd.R_drew)); exact HO_3.out))) (Kd.R_lt (by (with_reducible repeat (first | apply Kd.R_alloc | apply Kd.R_drewN | apply Kd.R_drew)); exact HO_5.out))) (Kd.R_lt (by (with_reducible repeat (first | apply Kd.R_alloc | apply Kd.R_drewN | apply Kd.R_drew)); exact HO250.out))) (below_size (by repeat (first | (with_reducible first | exact HB.out | apply below_alloc | apply pw_below_drewN | apply below_drew1) | exact HB.out)))); have n4_ := Aside0.mk (below_step (by repeat (first | (with_reducible first | exact HB.out | apply below_alloc | apply pw_below_drewN | apply below_drew1) | exact HB.out)) hb); clear HO_3; clear HO_5; clear HO250; clear HB; have HO_3 := n0_; have HO_5 := n1_; have HO250 := n2_; have HO255 := n3_; have HB := n4_; clear n0_ n1_ n2_ n3_ n4_; (try clear hb); (try clear hb2); (try clear hk); (try clear hi); (try clear ho0); obtain ⟨Ao45, co45, eo45⟩ := Kd.R_slice HO255.out; subst eo45))
                  go_meet
                  case rel => exact ⟨_, (((t237.length : Int) != (t253.length : Int))), (by first | rfl | (simp; done) | (simp [*]; done)), H', ⟨by have := HJ3.out; first | omega | exact Nat.le_refl _⟩, ⟨by (with_reducible repeat (first | apply Kd.R_alloc | apply Kd.R_drewN | apply Kd.R_drew)); exact Kd.R_mono HO_3.out (fun _ hk => hk.1.1)⟩, ⟨by (with_reducible repeat (first | apply Kd.R_alloc | apply Kd.R_drewN | apply Kd.R_drew)); exact Kd.R_mono HO_5.out (fun _ hk => hk.1.1)⟩, ⟨by repeat (first | (with_reducible first | exact HB.out | apply below_alloc | apply pw_below_drewN | apply below_drew1) | exact HB.out)⟩⟩
                · rw [if_neg c42] at H
                  have c42b0 : (t252 == 0) = false := beq_eq_false_iff_ne.mpr c42
                  have c42b1 : (t252 != 0) = true := bne_iff_ne.mpr c42
                  have H' := Aside0.mk H
                  clear H
                  go_wp2_with (first | (go_at_call 21; (with_reducible refine (plumblaw04_rest.calls kj3 5 a0 t251 _ A39.out).mono ?_); rintro e w' ⟨rfl, ⟨nd, rfl⟩⟩) | (go_at_call 22; (with_reducible refine (nat_Zeros.calls kj3 _ _ t237 t252 _ ?side1 ?side2 A41.out).mono ?_); (case side1 => repeat (first | exact (Kd.R_reads' HO_3.out).2.2 | (with_reducible refine Kd.C_alloc ?_ _) | (with_reducible refine Kd.C_drewN ?_ _) | (with_reducible refine Kd.C_drew ?_))); (case side2 => exact (Kd.R_reads' HO_3.out).2.1); rintro e w' ⟨rfl, ⟨nd, rfl⟩⟩))
                  go_meet
                  case rel => exact ⟨_, (true), (by first | rfl | (simp; done) | (simp [*]; done)), H', ⟨by have := HJ3.out; first | omega | exact Nat.le_refl _⟩, ⟨by (with_reducible repeat (first | apply Kd.R_alloc | apply Kd.R_drewN | apply Kd.R_drew)); exact Kd.R_mono HO_3.out (fun _ hk => hk.1)⟩, ⟨by (with_reducible repeat (first | apply Kd.R_alloc | apply Kd.R_drewN | apply Kd.R_drew)); exact Kd.R_mono HO_5.out (fun _ hk => hk.1)⟩, ⟨by repeat (first | (with_reducible first | exact HB.out | apply below_alloc | apply pw_below_drewN | apply below_drew1) | exact HB.out)⟩⟩
              · rw [if_neg c40] at H
                have c40b0 : (t247 == t251) = false := beq_eq_false_iff_ne.mpr c40
                have c40b1 : (t247 != t251) = true := bne_iff_ne.mpr c40
                have H' := Aside0.mk H
                clear H
                go_wp2_with (first | (go_at_call 21; (with_reducible refine (plumblaw04_rest.calls kj3 5 a0 t251 _ A39.out).mono ?_); rintro e w' ⟨rfl, ⟨nd, rfl⟩⟩))
                go_meet
                case rel => exact ⟨_, (true), (by first | rfl | (simp; done) | (simp [*]; done)), H', ⟨by have := HJ3.out; first | omega | exact Nat.le_refl _⟩, ⟨by (with_reducible repeat (first | apply Kd.R_alloc | apply Kd.R_drewN | apply Kd.R_drew)); exact Kd.R_mono HO_3.out (fun _ hk => hk.1)⟩, ⟨by (with_reducible repeat (first | apply Kd.R_alloc | apply Kd.R_drewN | apply Kd.R_drew)); exact Kd.R_mono HO_5.out (fun _ hk => hk.1)⟩, ⟨by repeat (first | (with_reducible first | exact HB.out | apply below_alloc | apply pw_below_drewN | apply below_drew1) | exact HB.out)⟩⟩
            · rw [if_neg c38] at H
              have c38b0 : (t238 == 0) = false := beq_eq_false_iff_ne.mpr c38
              have c38b1 : (t238 != 0) = true := bne_iff_ne.mpr c38
              (first | rw [c38b0] | (simp only [i64_w, i32_w]; rw [c38b0]) | skip)
              have H' := Aside0.mk H
              clear H
              go_wp2
              go_meet
              case rel => exact ⟨_, (true), (by first | rfl | (simp; done) | (simp [*]; done)), H', ⟨by have := HJ3.out; first | omega | exact Nat.le_refl _⟩, ⟨by (with_reducible repeat (first | apply Kd.R_alloc | apply Kd.R_drewN | apply Kd.R_drew)); exact Kd.R_mono HO_3.out (fun _ hk => hk.1)⟩, ⟨by (with_reducible repeat (first | apply Kd.R_alloc | apply Kd.R_drewN | apply Kd.R_drew)); exact Kd.R_mono HO_5.out (fun _ hk => hk.1)⟩, ⟨by repeat (first | (with_reducible first | exact HB.out | apply below_alloc | apply pw_below_drewN | apply below_drew1) | exact HB.out)⟩⟩
          case rest =>
            clear HC35
            try clear c1
            try clear c2
            try clear p2
            try clear c3
            try clear c4
            try clear c5
            try clear c8
            try clear c10
            try clear c11
            try clear c12
            try clear c12b0
            try clear c13
            try clear c13b0
            try clear c13b1
            try clear c13b2
            try clear c14
            try clear c14b0
            try clear c14b1
            try clear c14b2
            try clear c15
            try clear c15b0
            try clear c15b1
            try clear c18
            try clear c19
            try clear c20
            try clear c23
            try clear c23b0
            try clear c24
            try clear c24b0
            try clear c24b1
            try clear c24b2
            try clear c25
            try clear c25b0
            try clear c25b1
            try clear c25b2
            try clear c26
            try clear c26b0
            try clear c26b1
            try clear c38
            try clear c38b0
            try clear c38b1
            try clear c40
            try clear c40b0
            try clear c40b1
            try clear c42
            try clear c42b0
            try clear c42b1
            try clear p2
            obtain ⟨kq, x92_34, rfl, HA, HJ34, HO_3, HO_5, HB⟩ := hcut
            cases kq with
            | zero => exact absurd HA.out (by simp [plumblaw04_RadixPowers.j1])
            | succ kj34 =>
              have H := HA.out
              clear HA
              simp only [plumblaw04_RadixPowers.j1] at H
              by_cases c46 : x92_34 = true
              · subst c46
                have H1 : (some false) = some r := by rw [if_pos rfl] at H; exact H
                clear H
                have H := H1
                clear H1
                obtain rfl := Option.some.inj H
                go_wp2
                go_ret
                exact ⟨by first | rfl | (simp [errW_none, errW_some] <;> rfl) | (simp [*, errW_none, errW_some] <;> rfl), by repeat (first | (with_reducible first | exact HB.out | apply below_alloc | apply pw_below_drewN | apply below_drew1) | exact HB.out)⟩
              · replace c46 := Bool.eq_false_iff.mpr c46
                subst c46
                have H1 : (if a0 > 78913 then (if (t241.length : Int) = 0 then (some (t242 == 21)) else (some false)) else ((nat_Shl.f kj34 t237 a0).bind fun bt256 => (if t242 = 0 then (if bt256.2 = 0 then ((plumblaw04_eq.f kj34 t241 bt256.1).bind fun t260 => (plumblaw04_RadixPowers.j2 kj34 a0 t237 (!t260))) else (plumblaw04_RadixPowers.j2 kj34 a0 t237 true)) else (plumblaw04_RadixPowers.j2 kj34 a0 t237 true)))) = some r := by rw [if_neg (show ¬ (false = true) by decide)] at H; exact H
                clear H
                have H := H1
                clear H1
                by_cases c47 : a0 > 78913
                · rw [if_pos c47] at H
                  have c47b0 : decide (78913 < a0) = true := decide_eq_true c47
                  clear c47
                  by_cases c48 : (t241.length : Int) = 0
                  · rw [if_pos c48] at H
                    have c48b0 : ((t241.length : Int) == 0) = true := beq_iff_eq.mpr c48
                    have c48b1 : ((t241.length : Int) != 0) = false := bne_eq_false_iff_eq.mpr c48
                    clear c48
                    obtain rfl := Option.some.inj H
                    obtain ⟨Ao49, co49, eo49⟩ := Kd.R_slice HO_5.out
                    subst eo49
                    go_wp2
                    go_ret
                    exact ⟨by first | rfl | (simp [errW_none, errW_some] <;> rfl) | (simp [*, errW_none, errW_some] <;> rfl), by repeat (first | (with_reducible first | exact HB.out | apply below_alloc | apply pw_below_drewN | apply below_drew1) | exact HB.out)⟩
                  · rw [if_neg c48] at H
                    have c48b0 : ((t241.length : Int) == 0) = false := beq_eq_false_iff_ne.mpr c48
                    have c48b1 : ((t241.length : Int) != 0) = true := bne_iff_ne.mpr c48
                    have c48b2 : ¬ (t241 = []) := fun h_ => c48 (by rw [h_]; rfl)
                    obtain rfl := Option.some.inj H
                    obtain ⟨Ao50, co50, eo50⟩ := Kd.R_slice HO_5.out
                    subst eo50
                    go_wp2
                    go_ret
                    exact ⟨by first | rfl | (simp [errW_none, errW_some] <;> rfl) | (simp [*, errW_none, errW_some] <;> rfl), by repeat (first | (with_reducible first | exact HB.out | apply below_alloc | apply pw_below_drewN | apply below_drew1) | exact HB.out)⟩
                · rw [if_neg c47] at H
                  have c47b0 : decide (78913 < a0) = false := decide_eq_false c47
                  clear c47
                  replace H := Option.bind_eq_some_iff.mp H
                  obtain ⟨⟨t256, t257⟩, A510, H⟩ := H
                  replace H : (if t242 = 0 then (if t257 = 0 then ((plumblaw04_eq.f kj34 t241 t256).bind fun t260 => (plumblaw04_RadixPowers.j2 kj34 a0 t237 (!t260))) else (plumblaw04_RadixPowers.j2 kj34 a0 t237 true)) else (plumblaw04_RadixPowers.j2 kj34 a0 t237 true)) = some r := H
                  have A51 := Aside0.mk A510
                  clear A510
                  have HC52 := Aside0.mk H
                  clear H
                  go_upto_region 13 with (first | ((with_reducible refine gate_callee (f := 23) rfl ?_); refine goesL_ (some 105) rfl rfl Try.func23 (by kernel_rfl) rfl #[.slice Ao36 t237.length co36, .int .i64 a0] rfl (by (try simp only [List.map_toArray, List.map_cons, List.map_nil]); first | done | rfl | (simp only [List.length_drop, List.length_take]; rfl)) ?_; (with_reducible refine (nat_Shl.calls kj34 _ _ t237 a0 t256 t257 _ ?side1 ?side2 A51.out).mono ?_); (case side1 => repeat (first | exact (Kd.R_reads' HO_3.out).2.2 | (with_reducible refine Kd.C_alloc ?_ _) | (with_reducible refine Kd.C_drewN ?_ _) | (with_reducible refine Kd.C_drew ?_))); (case side2 => exact (Kd.R_reads' HO_3.out).2.1); rintro e w53 ⟨v258, rfl, ho0, hb⟩; refine ⟨_, rfl, ?_⟩; have n0_ := Aside0.mk (Kd.R_elder' (by (with_reducible repeat (first | apply Kd.R_alloc | apply Kd.R_drewN | apply Kd.R_drew)); exact HO_3.out) (Kd.R_base ho0) hb); have n1_ := Aside0.mk (Kd.R_elder' (by (with_reducible repeat (first | apply Kd.R_alloc | apply Kd.R_drewN | apply Kd.R_drew)); exact HO_5.out) (Kd.R_base ho0) hb); have n2_ := Aside0.mk (Kd.R_lower (Kd.R_new' (Kd.R_new' ho0 (Kd.R_lt (by (with_reducible repeat (first | apply Kd.R_alloc | apply Kd.R_drewN | apply Kd.R_drew)); exact HO_3.out))) (Kd.R_lt (by (with_reducible repeat (first | apply Kd.R_alloc | apply Kd.R_drewN | apply Kd.R_drew)); exact HO_5.out))) (below_size (by repeat (first | (with_reducible first | exact HB.out | apply below_alloc | apply pw_below_drewN | apply below_drew1) | exact HB.out)))); have n3_ := Aside0.mk (below_step (by repeat (first | (with_reducible first | exact HB.out | apply below_alloc | apply pw_below_drewN | apply below_drew1) | exact HB.out)) hb); clear HO_3; clear HO_5; clear HB; have HO_3 := n0_; have HO_5 := n1_; have HO259 := n2_; have HB := n3_; clear n0_ n1_ n2_ n3_; (try clear hb); (try clear hb2); (try clear hk); (try clear hi); (try clear ho0)))
                  (try simp only [Act.put, List.setIfInBounds_toArray, List.set_cons_zero, List.set_cons_succ])
                  go_cut [119] (fun v119 wc => ∃ (kq : Nat) (x119_51 : Bool), v119 = .bool x119_51 ∧ Aside0 (plumblaw04_RadixPowers.j2 kq a0 t237 x119_51 = some r) ∧ Aside0 (kq ≤ kj34) ∧ Aside0 (Kd.R (Kd.int .u64) 39 wc w.heap.size (fun _ => True) (.slice Ao36 t237.length co36) t237) ∧ Aside0 (Below w.heap.size w wc))
                  case first =>
                    have H := HC52.out
                    clear HC52
                    by_cases c54 : t242 = 0
                    · rw [if_pos c54] at H
                      have c54b0 : (t242 == 0) = true := beq_iff_eq.mpr c54
                      have c54b1 : (t242 != 0) = false := bne_eq_false_iff_eq.mpr c54
                      clear c54
                      (first | rw [c54b0] | (simp only [i64_w, i32_w]; rw [c54b0]) | skip)
                      by_cases c55 : t257 = 0
                      · rw [if_pos c55] at H
                        have c55b0 : (t257 == 0) = true := beq_iff_eq.mpr c55
                        have c55b1 : (t257 != 0) = false := bne_eq_false_iff_eq.mpr c55
                        clear c55
                        replace H := Option.bind_eq_some_iff.mp H
                        obtain ⟨t260, A560, H⟩ := H
                        replace H : (plumblaw04_RadixPowers.j2 kj34 a0 t237 (!t260)) = some r := H
                        have A56 := Aside0.mk A560
                        clear A560
                        have H' := Aside0.mk H
                        clear H
                        obtain ⟨Ao57, co57, eo57⟩ := Kd.R_slice HO_5.out
                        subst eo57
                        obtain ⟨Ao58, co58, eo58⟩ := Kd.R_slice HO259.out
                        subst eo58
                        go_wp2_with (first | (go_at_call 13; (with_reducible refine (plumblaw04_eq.calls kj34 _ _ t241 _ _ t256 t260 _ ?side1 ?side2 ?side3 ?side4 A56.out).mono ?_); (case side1 => repeat (first | exact (Kd.R_reads' HO_5.out).2.2 | (with_reducible refine Kd.C_alloc ?_ _) | (with_reducible refine Kd.C_drewN ?_ _) | (with_reducible refine Kd.C_drew ?_))); (case side2 => exact (Kd.R_reads' HO_5.out).2.1); (case side3 => repeat (first | exact (Kd.R_reads' HO259.out).2.2 | (with_reducible refine Kd.C_alloc ?_ _) | (with_reducible refine Kd.C_drewN ?_ _) | (with_reducible refine Kd.C_drew ?_))); (case side4 => exact (Kd.R_reads' HO259.out).2.1); rintro e w' ⟨rfl, ⟨nd, rfl⟩⟩))
                        go_meet
                        case rel => exact ⟨_, (!t260), (by first | rfl | (simp; done) | (simp [*]; done)), H', ⟨by have := HJ3.out; have := HJ34.out; first | omega | exact Nat.le_refl _⟩, ⟨by (with_reducible repeat (first | apply Kd.R_alloc | apply Kd.R_drewN | apply Kd.R_drew)); exact Kd.R_mono HO_3.out (fun _ hk => trivial)⟩, ⟨by repeat (first | (with_reducible first | exact HB.out | apply below_alloc | apply pw_below_drewN | apply below_drew1) | exact HB.out)⟩⟩
                      · rw [if_neg c55] at H
                        have c55b0 : (t257 == 0) = false := beq_eq_false_iff_ne.mpr c55
                        have c55b1 : (t257 != 0) = true := bne_iff_ne.mpr c55
                        have H' := Aside0.mk H
                        clear H
                        go_wp2
                        go_meet
                        case rel => exact ⟨_, (true), (by first | rfl | (simp; done) | (simp [*]; done)), H', ⟨by have := HJ3.out; have := HJ34.out; first | omega | exact Nat.le_refl _⟩, ⟨by (with_reducible repeat (first | apply Kd.R_alloc | apply Kd.R_drewN | apply Kd.R_drew)); exact Kd.R_mono HO_3.out (fun _ hk => trivial)⟩, ⟨by repeat (first | (with_reducible first | exact HB.out | apply below_alloc | apply pw_below_drewN | apply below_drew1) | exact HB.out)⟩⟩
                    · rw [if_neg c54] at H
                      have c54b0 : (t242 == 0) = false := beq_eq_false_iff_ne.mpr c54
                      have c54b1 : (t242 != 0) = true := bne_iff_ne.mpr c54
                      (first | rw [c54b0] | (simp only [i64_w, i32_w]; rw [c54b0]) | skip)
                      have H' := Aside0.mk H
                      clear H
                      go_wp2
                      go_meet
                      case rel => exact ⟨_, (true), (by first | rfl | (simp; done) | (simp [*]; done)), H', ⟨by have := HJ3.out; have := HJ34.out; first | omega | exact Nat.le_refl _⟩, ⟨by (with_reducible repeat (first | apply Kd.R_alloc | apply Kd.R_drewN | apply Kd.R_drew)); exact Kd.R_mono HO_3.out (fun _ hk => trivial)⟩, ⟨by repeat (first | (with_reducible first | exact HB.out | apply below_alloc | apply pw_below_drewN | apply below_drew1) | exact HB.out)⟩⟩
                  case rest =>
                    clear HC52
                    try clear c1
                    try clear c2
                    try clear p2
                    try clear c3
                    try clear c4
                    try clear c5
                    try clear c8
                    try clear c10
                    try clear c11
                    try clear c12
                    try clear c12b0
                    try clear c13
                    try clear c13b0
                    try clear c13b1
                    try clear c13b2
                    try clear c14
                    try clear c14b0
                    try clear c14b1
                    try clear c14b2
                    try clear c15
                    try clear c15b0
                    try clear c15b1
                    try clear c18
                    try clear c19
                    try clear c20
                    try clear c23
                    try clear c23b0
                    try clear c24
                    try clear c24b0
                    try clear c24b1
                    try clear c24b2
                    try clear c25
                    try clear c25b0
                    try clear c25b1
                    try clear c25b2
                    try clear c26
                    try clear c26b0
                    try clear c26b1
                    try clear c38
                    try clear c38b0
                    try clear c38b1
                    try clear c40
                    try clear c40b0
                    try clear c40b1
                    try clear c42
                    try clear c42b0
                    try clear c42b1
                    try clear c46
                    try clear c47
                    try clear c47b0
                    try clear c48
                    try clear c48b0
                    try clear c48b1
                    try clear c48b2
                    try clear c54
                    try clear c54b0
                    try clear c54b1
                    try clear c55
                    try clear c55b0
                    try clear c55b1
                    try clear p2
                    obtain ⟨kq, x119_51, rfl, HA, HJ51, HO_3, HB⟩ := hcut
                    cases kq with
                    | zero => exact absurd HA.out (by simp [plumblaw04_RadixPowers.j2])
                    | succ kj51 =>
                      have H := HA.out
                      clear HA
                      simp only [plumblaw04_RadixPowers.j2] at H
                      by_cases c59 : x119_51 = true
                      · subst c59
                        have H1 : (some false) = some r := by rw [if_pos rfl] at H; exact H
                        clear H
                        have H := H1
                        clear H1
                        obtain rfl := Option.some.inj H
                        go_wp2
                        go_ret
                        exact ⟨by first | rfl | (simp [errW_none, errW_some] <;> rfl) | (simp [*, errW_none, errW_some] <;> rfl), by repeat (first | (with_reducible first | exact HB.out | apply below_alloc | apply pw_below_drewN | apply below_drew1) | exact HB.out)⟩
                      · replace c59 := Bool.eq_false_iff.mpr c59
                        subst c59
                        have H1 : (if a0 > 400 then (some true) else ((plumbref04_Power.f kj51 5 a0).bind fun t261 => ((plumblaw04_eq.f kj51 t237 t261).bind fun t264 => (some t264)))) = some r := by rw [if_neg (show ¬ (false = true) by decide)] at H; exact H
                        clear H
                        have H := H1
                        clear H1
                        by_cases c60 : a0 > 400
                        · rw [if_pos c60] at H
                          have c60b0 : decide (400 < a0) = true := decide_eq_true c60
                          clear c60
                          obtain rfl := Option.some.inj H
                          go_wp2
                          go_ret
                          exact ⟨by first | rfl | (simp [errW_none, errW_some] <;> rfl) | (simp [*, errW_none, errW_some] <;> rfl), by repeat (first | (with_reducible first | exact HB.out | apply below_alloc | apply pw_below_drewN | apply below_drew1) | exact HB.out)⟩
                        · rw [if_neg c60] at H
                          have c60b0 : decide (400 < a0) = false := decide_eq_false c60
                          clear c60
                          replace H := Option.bind_eq_some_iff.mp H
                          obtain ⟨t261, A610, H⟩ := H
                          replace H : ((plumblaw04_eq.f kj51 t237 t261).bind fun t264 => (some t264)) = some r := H
                          have A61 := Aside0.mk A610
                          clear A610
                          replace H := Option.bind_eq_some_iff.mp H
                          obtain ⟨t264, A620, H⟩ := H
                          replace H : (some t264) = some r := H
                          have A62 := Aside0.mk A620
                          clear A620
                          obtain rfl := Option.some.inj H
                          go_wp2_with (first | (go_at_call 24; (with_reducible refine (plumbref04_Power.calls kj51 5 a0 t261 _ A61.out).mono ?_); rintro e w63 ⟨v262, rfl, ho0, hb⟩; have n0_ := Aside0.mk (Kd.R_below (by (with_reducible repeat (first | apply Kd.R_alloc | apply Kd.R_drewN | apply Kd.R_drew)); exact HO_3.out) hb); have n1_ := Aside0.mk (Kd.V_lower (Kd.V_mono (ok' := fun k_ => some k_ ≠ (.slice Ao36 t237.length co36 : Value).ownBlock) ho0 (fun k_ hk_ => (Kd.fresh' (Kd.R_lt (by (with_reducible repeat (first | apply Kd.R_alloc | apply Kd.R_drewN | apply Kd.R_drew)); exact HO_3.out)) k_ hk_))) (below_size (by repeat (first | (with_reducible first | exact HB.out | apply below_alloc | apply pw_below_drewN | apply below_drew1) | exact HB.out)))); have n2_ := Aside0.mk (below_step (by repeat (first | (with_reducible first | exact HB.out | apply below_alloc | apply pw_below_drewN | apply below_drew1) | exact HB.out)) hb); clear HO_3; clear HB; have HO_3 := n0_; have HO263 := n1_; have HB := n2_; clear n0_ n1_ n2_; (try clear hb); (try clear hb2); (try clear hk); (try clear hi); (try clear ho0); obtain ⟨Ao64, co64, eo64⟩ := Kd.V_slice HO263.out; subst eo64) | (go_at_call 13; (with_reducible refine (plumblaw04_eq.calls kj51 _ _ t237 _ _ t261 t264 _ ?side1 ?side2 ?side3 ?side4 A62.out).mono ?_); (case side1 => repeat (first | exact (Kd.R_reads' HO_3.out).2.2 | (with_reducible refine Kd.C_alloc ?_ _) | (with_reducible refine Kd.C_drewN ?_ _) | (with_reducible refine Kd.C_drew ?_))); (case side2 => exact (Kd.R_reads' HO_3.out).2.1); (case side3 => repeat (first | exact (Kd.V_reads' HO263.out).2.2 | (with_reducible refine Kd.C_alloc ?_ _) | (with_reducible refine Kd.C_drewN ?_ _) | (with_reducible refine Kd.C_drew ?_))); (case side4 => exact (Kd.V_reads' HO263.out).2.1); rintro e w' ⟨rfl, ⟨nd, rfl⟩⟩))
                          go_ret
                          exact ⟨by first | rfl | (simp [errW_none, errW_some] <;> rfl) | (simp [*, errW_none, errW_some] <;> rfl), by repeat (first | (with_reducible first | exact HB.out | apply below_alloc | apply pw_below_drewN | apply below_drew1) | exact HB.out)⟩

/-- THE ONE PURE STATEMENT of plumblaw04_RadixPowers: yours. -/
def plumblaw04_RadixPowers.Pure : Prop := ∀ (a0 : Int), (Lit.int .i64 a0).wf = true → ∃ k, plumblaw04_RadixPowers.f k a0 = some true
theorem plumblaw04_RadixPowers.walk (P : plumblaw04_RadixPowers.Pure) (a0 : Int) (w : World) (w0 : (Lit.int .i64 a0).wf = true) :
    Calls Try.prog 5 #[.int .i64 a0] w fun e w' => e = .returned (.bool true) ∧ Below w.heap.size w w' := by
  obtain ⟨k, h⟩ := P a0 w0
  refine (plumblaw04_RadixPowers.calls k a0 true w h).mono ?_
  rintro e w' ⟨rfl, hd⟩
  exact ⟨rfl, hd⟩

end Go.Proofs.Ytpnffhacmamilaa.PA
