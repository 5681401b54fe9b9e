/- PA7: a part of the proof. -/
-- made by program (wip/tools of this work) out of the translation; Lean checks it
import Derived.Test.YtpnffhacmamilaaZLFPA0
import Derived.Test.YtpnffhacmamilaaZLFPA1
namespace Go.Proofs.Ytpnffhacmamilaa.PA
open Go.RowKit Go.Proofs.YtpnffhacmamilaaW.PrintWords Go.Proofs.YtpnffhacmamilaaW.PrintLast Go.Proofs.YtpnffhacmamilaaW.PrintMore
attribute [local go_sem] max2_int min2_int max_two min_two max_three min_three max_four min_four   -- for this text's walks alone
set_option linter.unusedVariables false
set_option linter.unusedSimpArgs false

/-! ### nat_Bits: function 11 -/
def nat_Bits.f (k : Nat) (l0 : List Int) : Option (Int) := (nat_size.f k l0).bind fun t142 => (if t142 = 0 then (some 0) else (if 0 ≤ (wrap64 (t142 - 1)) then (if (wrap64 (t142 - 1)) < (l0.length : Int) then ((wide_Len.f k (rd l0 (wrap64 (t142 - 1)))).bind fun t144 => (some (wrap64 ((wrap64 (64 * (wrap64 (t142 - 1)))) + t144)))) else (none)) else (none)))
theorem nat_Bits.mono : ∀ a0 k, LeO (nat_Bits.f k a0) (nat_Bits.f (k + 1) a0) := by
  intro a0 k
  unfold nat_Bits.f
  repeat' first
      | (with_reducible exact nat_size.mono _ _)
      | (with_reducible exact wide_Len.mono _ _)
      | (with_reducible exact LeO.refl _)
      | (with_reducible exact LeO.none _)
      | (with_reducible refine LeO.ite ?_ ?_)
      | (with_reducible refine LeO.bind ?_ (fun _ => ?_))
      | exact nat_size.mono _ _
      | exact wide_Len.mono _ _
      | exact LeO.none _
      | refine LeO.ite ?_ ?_
      | refine LeO.bind ?_ (fun _ => ?_)
set_option maxHeartbeats 8000000 in
set_option maxRecDepth 100000 in
theorem nat_Bits.calls (k : Nat) (A0 : Option Addr) (c0 : Nat) (l0 : List Int) (r : Int) (w : World) (hr0 : Kd.C (Kd.int .u64) w A0 l0.length l0) (hc0 : l0.length ≤ c0) (h : nat_Bits.f k l0 = some r) :
    Calls Try.prog 11 #[.slice A0 l0.length c0] w fun e w' => e = .returned (.int .i64 r) ∧ Drawn0 w w' := by
  have HR0 := Aside0.mk hr0
  have HC0 := Aside0.mk hc0
  clear hr0 hc0
  have H : ((nat_size.f k l0).bind fun t142 => (if t142 = 0 then (some 0) else (if 0 ≤ (wrap64 (t142 - 1)) then (if (wrap64 (t142 - 1)) < (l0.length : Int) then ((wide_Len.f k (rd l0 (wrap64 (t142 - 1)))).bind fun t144 => (some (wrap64 ((wrap64 (64 * (wrap64 (t142 - 1)))) + t144)))) else (none)) else (none)))) = some r := h
  clear h
  replace H := Option.bind_eq_some_iff.mp H
  obtain ⟨t142, A20, H⟩ := H
  replace H : (if t142 = 0 then (some 0) else (if 0 ≤ (wrap64 (t142 - 1)) then (if (wrap64 (t142 - 1)) < (l0.length : Int) then ((wide_Len.f k (rd l0 (wrap64 (t142 - 1)))).bind fun t144 => (some (wrap64 ((wrap64 (64 * (wrap64 (t142 - 1)))) + t144)))) else (none)) else (none))) = some r := H
  have A2 := Aside0.mk A20
  clear A20
  by_cases c3 : t142 = 0
  · rw [if_pos c3] at H
    have c3b0 : (t142 == 0) = true := beq_iff_eq.mpr c3
    have c3b1 : (t142 != 0) = false := bne_eq_false_iff_eq.mpr c3
    clear c3
    obtain rfl := Option.some.inj H
    go_enter Try.func11, Try.ntmps11
    go_wp2_with (first | ((with_reducible refine gate_callee (f := 37) rfl ?_); refine goesL_ (some 5) rfl rfl Try.func37 (by kernel_rfl) rfl #[.slice A0 l0.length c0] rfl (by (try simp only [List.map_toArray, List.map_cons, List.map_nil]); first | done | rfl | (simp only [List.length_drop, List.length_take]; rfl)) ?_; (with_reducible refine (nat_size.calls k _ _ l0 t142 _ ?side1 ?side2 A2.out).mono ?_); (case side1 => repeat (first | exact HR0.out | (with_reducible refine Kd.C_alloc ?_ _) | (with_reducible refine Kd.C_drewN ?_ _) | (with_reducible refine Kd.C_drew ?_))); (case side2 => exact HC0.out); rintro e w' ⟨rfl, ⟨nd, rfl⟩⟩; refine ⟨_, rfl, ?_⟩))
    go_ret
    exact ⟨by first | rfl | (simp; done) | (simp [*]; done), by repeat (first | exact Drawn0.refl _ | apply Drawn0.step)⟩
  · rw [if_neg c3] at H
    have c3b0 : (t142 == 0) = false := beq_eq_false_iff_ne.mpr c3
    have c3b1 : (t142 != 0) = true := bne_iff_ne.mpr c3
    obtain ⟨ji4, hji4⟩ : ∃ j_ : Int, (wrap64 (t142 - 1)) = j_ := ⟨_, rfl⟩
    replace H : (if 0 ≤ (ji4) then (if (ji4) < (l0.length : Int) then ((wide_Len.f k (rd l0 (ji4))).bind fun t144 => (some (wrap64 ((wrap64 (64 * (ji4))) + t144)))) else (none)) else (none)) = some r := by first | (rw [hji4] at H; exact H) | (simp only [hji4] at H ⊢; exact H)
    (try rw [hji4] at A2)
    have hji4w : (IntKind.i64.wrap (t142 - 1)) = ji4 := (i64_w _).trans hji4
    by_cases c5 : (0 : Int) ≤ (ji4)
    · rw [if_pos c5] at H
      have c5b0 : decide (0 ≤ (ji4)) = true := decide_eq_true c5
      clear c5
      by_cases c6 : (ji4) < (l0.length : Int)
      · rw [if_pos c6] at H
        have c6b0 : decide ((ji4) < (l0.length : Int)) = true := decide_eq_true c6
        clear c6
        replace H := Option.bind_eq_some_iff.mp H
        obtain ⟨t144, A70, H⟩ := H
        replace H : (some (wrap64 ((wrap64 (64 * (ji4))) + t144))) = some r := H
        have A7 := Aside0.mk A70
        clear A70
        obtain rfl := Option.some.inj H
        go_enter Try.func11, Try.ntmps11
        go_wp2_with (first | ((with_reducible refine gate_callee (f := 37) rfl ?_); refine goesL_ (some 5) rfl rfl Try.func37 (by kernel_rfl) rfl #[.slice A0 l0.length c0] rfl (by (try simp only [List.map_toArray, List.map_cons, List.map_nil]); first | done | rfl | (simp only [List.length_drop, List.length_take]; rfl)) ?_; (with_reducible refine (nat_size.calls k _ _ l0 t142 _ ?side1 ?side2 A2.out).mono ?_); (case side1 => repeat (first | exact HR0.out | (with_reducible refine Kd.C_alloc ?_ _) | (with_reducible refine Kd.C_drewN ?_ _) | (with_reducible refine Kd.C_drew ?_))); (case side2 => exact HC0.out); rintro e w' ⟨rfl, ⟨nd, rfl⟩⟩; refine ⟨_, rfl, ?_⟩; have p143 : 0 ≤ ((ji4) : Int) := of_decide_eq_true (by first | (with_reducible assumption) | assumption); have q143 : (ji4) < (l0.length : Int) := of_decide_eq_true (by first | (with_reducible assumption) | assumption); obtain ⟨ad143, e143, hx143_0⟩ := Kd.at_int HR0.out (ji4) p143 q143; cases e143; replace p143 := eq_true p143; replace q143 := eq_true q143) | ((with_reducible refine gate_callee (f := 38) rfl ?_); refine goesL_ (some 16) rfl rfl Try.func38 (by kernel_rfl) rfl #[.int .u64 (rd l0 (ji4))] rfl (by (try simp only [List.map_toArray, List.map_cons, List.map_nil]); first | done | (simp only [hji4]; rfl) | rfl | (simp only [List.length_drop, List.length_take]; rfl)) ?_; (with_reducible refine (wide_Len.calls k (rd l0 (ji4)) t144 _ A7.out).mono ?_); rintro e w' ⟨rfl, ⟨nd, rfl⟩⟩; refine ⟨_, rfl, ?_⟩))
        go_ret
        exact ⟨by first | rfl | (simp; done) | (simp only [← hji4] <;> (first | rfl | simp)) | (simp [*]; done), by repeat (first | exact Drawn0.refl _ | apply Drawn0.step)⟩
      · rw [if_neg c6] at H
        exact absurd H (by simp)
    · rw [if_neg c5] at H
      exact absurd H (by simp)

/-! ### wide_Mul: function 44 (by hand) -/
def wide_Mul.f (a0 : Int) (a1 : Int) : Option (Int × Int) := if u64B a0 = true then (if u64B a1 = true then some (a0 * a1 / 18446744073709551616, a0 * a1 % 18446744073709551616) else none) else none
theorem mul_half {x y : Int} (hx0 : 0 ≤ x) (hx : x < 4294967296) (hy0 : 0 ≤ y) (hy : y < 4294967296) : 0 ≤ x * y ∧ x * y ≤ 18446744065119617025 := by
  refine ⟨Int.mul_nonneg hx0 hy0, ?_⟩
  have h1 : x * y ≤ 4294967295 * y := Int.mul_le_mul_of_nonneg_right (by omega) hy0
  omega
theorem mul_sum {p o c : Int} (hp : 0 ≤ p ∧ p ≤ 18446744065119617025) (ho0 : 0 ≤ o) (ho : o < 4294967296) (hc0 : 0 ≤ c) (hc : c < 4294967296) :
    IntKind.u64.wrap (IntKind.u64.wrap (IntKind.u64.wrap p + o) + c) = p + o + c := by simp only [u64w]; omega
theorem mul_sum1 {p c : Int} (hp : 0 ≤ p ∧ p ≤ 18446744065119617025) (hc0 : 0 ≤ c) (hc : c < 4294967296) :
    IntKind.u64.wrap (IntKind.u64.wrap (IntKind.u64.wrap p) + c) = p + c := by simp only [u64w]; omega
theorem mul_sum2 {p o : Int} (hp : 0 ≤ p ∧ p ≤ 18446744065119617025) (ho0 : 0 ≤ o) (ho : o < 4294967296) :
    IntKind.u64.wrap (IntKind.u64.wrap (IntKind.u64.wrap p + o)) = p + o := by simp only [u64w]; omega
theorem mul_sum0 {p : Int} (hp : 0 ≤ p ∧ p ≤ 18446744065119617025) :
    IntKind.u64.wrap (IntKind.u64.wrap (IntKind.u64.wrap p)) = p := by simp only [u64w]; omega
theorem and_half {x : Int} (h0 : 0 ≤ x) (h1 : x < 18446744073709551616) : Go.bits .and .u64 x 4294967295 = x % 4294967296 := and_mask h0 h1 32 (by omega) _ rfl
theorem join_half {x y : Int} (hx0 : 0 ≤ x) (hx : x < 4294967296) (hy0 : 0 ≤ y) (hy : y < 4294967296) : Go.bits .or .u64 (IntKind.u64.wrap (x * 4294967296)) y = x * 4294967296 + y := by
  rw [u64w_of (by omega) (by omega)]
  exact or_join 32 (by omega) (by omega) (by show x * 4294967296 % 4294967296 = 0; omega) hy0 hy (by omega)
/-- the product by halves, as the code makes it -/
theorem mul_halves {a b x0 x1 y0 y1 t1 t2 t3 t4 : Int} (ha0 : 0 ≤ a) (ha : a < 18446744073709551616) (hb0 : 0 ≤ b) (hb : b < 18446744073709551616)
    (hx0 : x0 = Go.bits .and .u64 a 4294967295) (hx1 : x1 = a / 4294967296) (hy0 : y0 = Go.bits .and .u64 b 4294967295) (hy1 : y1 = b / 4294967296)
    (h1 : t1 = IntKind.u64.wrap (IntKind.u64.wrap (IntKind.u64.wrap (x0 * y0)))) (h2 : t2 = IntKind.u64.wrap (IntKind.u64.wrap (IntKind.u64.wrap (x0 * y1)) + t1 / 4294967296))
    (h3 : t3 = IntKind.u64.wrap (IntKind.u64.wrap (IntKind.u64.wrap (x1 * y0) + Go.bits .and .u64 t2 4294967295))) (h4 : t4 = IntKind.u64.wrap (IntKind.u64.wrap (IntKind.u64.wrap (x1 * y1) + t2 / 4294967296) + t3 / 4294967296)) :
    Go.bits .or .u64 (IntKind.u64.wrap (t4 / 4294967296 * 4294967296)) (Go.bits .and .u64 t4 4294967295) = a * b / 18446744073709551616 ∧
    Go.bits .or .u64 (IntKind.u64.wrap (Go.bits .and .u64 t3 4294967295 * 4294967296)) (Go.bits .and .u64 t1 4294967295) = a * b % 18446744073709551616 := by
  rw [and_half ha0 ha] at hx0
  rw [and_half hb0 hb] at hy0
  have p00 := mul_half (x := x0) (y := y0) (by omega) (by omega) (by omega) (by omega)
  have p01 := mul_half (x := x0) (y := y1) (by omega) (by omega) (by omega) (by omega)
  have p10 := mul_half (x := x1) (y := y0) (by omega) (by omega) (by omega) (by omega)
  have p11 := mul_half (x := x1) (y := y1) (by omega) (by omega) (by omega) (by omega)
  have e : a * b = x0 * y0 + 4294967296 * (x0 * y1 + x1 * y0) + 18446744073709551616 * (x1 * y1) := by
    have ea : a = x0 + 4294967296 * x1 := by omega
    have eb : b = y0 + 4294967296 * y1 := by omega
    rw [ea, eb]; grind
  rw [e]
  generalize x0 * y0 = p at *
  generalize x0 * y1 = q at *
  generalize x1 * y0 = r at *
  generalize x1 * y1 = s at *
  rw [mul_sum0 p00] at h1
  rw [mul_sum1 p01 (by omega) (by omega)] at h2
  rw [and_half (by omega) (by omega), mul_sum2 p10 (by omega) (by omega)] at h3
  rw [mul_sum p11 (by omega) (by omega) (by omega) (by omega)] at h4
  rw [and_half (x := t4) (by omega) (by omega), and_half (x := t3) (by omega) (by omega), and_half (x := t1) (by omega) (by omega), join_half (by omega) (by omega) (by omega) (by omega), join_half (by omega) (by omega) (by omega) (by omega)]
  omega
/-- what stands behind the loops: the four halves -/
def MulOut (w W : World) (r1 r2 : Int) : Prop := ∃ o0 o1 o2 o3 : Int, (W.cell? ⟨w.heap.size + 1 + 1, 0, none⟩ = some (.int .u64 o0) ∧ W.cell? ⟨w.heap.size + 1 + 1, 1, none⟩ = some (.int .u64 o1) ∧ W.cell? ⟨w.heap.size + 1 + 1, 2, none⟩ = some (.int .u64 o2) ∧ W.cell? ⟨w.heap.size + 1 + 1, 3, none⟩ = some (.int .u64 o3)) ∧ (r1 = Go.bits .or .u64 (IntKind.u64.wrap (o3 * 4294967296)) o2 ∧ r2 = Go.bits .or .u64 (IntKind.u64.wrap (o1 * 4294967296)) o0) ∧ Below w.heap.size w W
theorem MulOut.mk {w W : World} {r1 r2 o0 o1 o2 o3 : Int} (h : ∃ (t : TypeId) (cs : Array Value), W.heap[w.heap.size + 1 + 1]? = some (.cells cs t (0, 0)) ∧ cs.toList = [.int .u64 o0, .int .u64 o1, .int .u64 o2, .int .u64 o3]) (h1 : r1 = Go.bits .or .u64 (IntKind.u64.wrap (o3 * 4294967296)) o2) (h2 : r2 = Go.bits .or .u64 (IntKind.u64.wrap (o1 * 4294967296)) o0) (hb : Below w.heap.size w W) : MulOut w W r1 r2 := by
  obtain ⟨t, cs, hc, hl⟩ := h
  obtain rfl : cs = #[.int .u64 o0, .int .u64 o1, .int .u64 o2, .int .u64 o3] := by cases cs; simp_all
  exact ⟨o0, o1, o2, o3, ⟨blk_cell hc 0, blk_cell hc 1, blk_cell hc 2, blk_cell hc 3⟩, ⟨h1, h2⟩, hb⟩
set_option maxHeartbeats 4000000 in
theorem wide_Mul.calls (a0 : Int) (a1 : Int) (r1 : Int) (r2 : Int) (w : World) (h : wide_Mul.f a0 a1 = some (r1, r2)) :
    Calls Try.prog 44 #[.int .u64 a0, .int .u64 a1] w fun e w' => e = .returned (.tuple #[.int .u64 r1, .int .u64 r2]) ∧ Below w.heap.size w w' := by
  unfold wide_Mul.f at h
  split at h
  case isFalse => cases h
  rename_i h0
  split at h
  case isFalse => cases h
  rename_i h1
  rw [u64B_iff] at h0 h1
  injection h with h
  injection h with e1 e2
  have E1 := Aside0.mk e1
  have E2 := Aside0.mk e2
  clear e1 e2
  obtain ⟨h0a, h0b⟩ := h0
  obtain ⟨h1a, h1b⟩ := h1
  go_enter Try.func44, Try.ntmps44
  go_upto_block 0 with (fail)
  generalize hx0 : Go.bits BinOp.and IntKind.u64 a0 4294967295 = x0
  generalize hx1 : a0 / 4294967296 = x1
  generalize hy0 : Go.bits BinOp.and IntKind.u64 a1 4294967295 = y0
  generalize hy1 : a1 / 4294967296 = y1
  have X0 := Aside0.mk hx0.symm; have X1 := Aside0.mk hx1.symm; have Y0 := Aside0.mk hy0.symm; have Y1 := Aside0.mk hy1.symm
  clear hx0 hx1 hy0 hy1
  go_cut [8] (fun v8 wx => v8 = .pointer (some ⟨w.heap.size + 1 + 1, 0, none⟩) ∧ MulOut w wx r1 r2)
  case first =>
    go_wp2
    refine wp_loop_rounds 3 ?_
    rw [rounds_succ]
    go_wp2
    refine wp_loop_rounds 3 ?_
    rw [rounds_succ]
    go_wp2
    go_quiet (fail)
    go_wp2
    generalize ht1 : IntKind.u64.wrap (IntKind.u64.wrap (IntKind.u64.wrap (x0 * y0))) = t1
    have T1 := Aside0.mk ht1.symm
    clear ht1
    rw [rounds_succ]
    go_wp2
    go_quiet (fail)
    go_wp2
    generalize ht2 : IntKind.u64.wrap (IntKind.u64.wrap (IntKind.u64.wrap (x0 * y1)) + t1 / 4294967296) = t2
    have T2 := Aside0.mk ht2.symm
    clear ht2
    rw [rounds_succ]
    go_wp2
    rw [rounds_succ]
    go_wp2
    refine wp_loop_rounds 3 ?_
    rw [rounds_succ]
    go_wp2
    go_quiet (fail)
    go_wp2
    generalize ht3 : IntKind.u64.wrap (IntKind.u64.wrap (IntKind.u64.wrap (x1 * y0) + Go.bits BinOp.and IntKind.u64 t2 4294967295)) = t3
    have T3 := Aside0.mk ht3.symm
    clear ht3
    rw [rounds_succ]
    go_wp2
    go_quiet (fail)
    go_wp2
    generalize ht4 : IntKind.u64.wrap (IntKind.u64.wrap (IntKind.u64.wrap (x1 * y1) + t2 / 4294967296) + t3 / 4294967296) = t4
    have T4 := Aside0.mk ht4.symm
    clear ht4
    rw [rounds_succ]
    go_wp2
    rw [rounds_succ]
    go_wp2
    go_meet
    go_light
    have hm := mul_halves h0a h0b h1a h1b X0.out X1.out Y0.out Y1.out T1.out T2.out T3.out T4.out
    refine ⟨rfl, MulOut.mk ?h (E1.out.symm.trans hm.1.symm) (E2.out.symm.trans hm.2.symm) ?_⟩
    case h =>
      apply Exists.intro
      apply Exists.intro
      apply And.intro
      · repeat (first | (with_reducible apply blk_drewN) | (with_reducible apply blk_set))
        exact blk_new' _ _ (by simp)
      · simp only [Array.toList_setIfInBounds, List.set_cons_zero, List.set_cons_succ]
    · repeat (first | (with_reducible exact Below.refl _ _) | (with_reducible apply pw_below_drewN) | (with_reducible apply below_alloc) | (with_reducible refine below_set ?_ (by omega)))
  case rest =>
    obtain ⟨rfl, o0, o1, o2, o3, ⟨hc0, hc1, hc2, hc3⟩, hr, hb⟩ := hcut
    have hr' := Aside0.mk hr; have hb' := Aside0.mk hb
    clear E1 E2 X0 X1 Y0 Y1 hr hb
    go_wp2
    go_quiet (fail)
    go_wp2
    go_ret2
    refine ⟨?_, by repeat (first | exact hb'.out | (with_reducible apply pw_below_drewN) | (with_reducible apply below_drew1))⟩
    rw [hr'.out.1, hr'.out.2]; rfl

/-! ### wide_Add: function 45 -/
def wide_Add.f (a0 : Int) (a1 : Int) (a2 : Int) : Option (Int × Int) := if (IntKind.u64.wrap (a0 + a1)) < a0 then (some (IntKind.u64.wrap ((IntKind.u64.wrap (a0 + a1)) + (Go.bits .and .u64 a2 1)), 1)) else (if (IntKind.u64.wrap ((IntKind.u64.wrap (a0 + a1)) + (Go.bits .and .u64 a2 1))) < (IntKind.u64.wrap (a0 + a1)) then (some (IntKind.u64.wrap ((IntKind.u64.wrap (a0 + a1)) + (Go.bits .and .u64 a2 1)), 1)) else (some (IntKind.u64.wrap ((IntKind.u64.wrap (a0 + a1)) + (Go.bits .and .u64 a2 1)), 0)))
set_option maxHeartbeats 8000000 in
set_option maxRecDepth 100000 in
theorem wide_Add.calls (a0 : Int) (a1 : Int) (a2 : Int) (r1 : Int) (r2 : Int) (w : World) (h : wide_Add.f a0 a1 a2 = some (r1, r2)) :
    Calls Try.prog 45 #[.int .u64 a0, .int .u64 a1, .int .u64 a2] w fun e w' => e = .returned (.tuple #[.int .u64 r1, .int .u64 r2]) ∧ Drawn0 w w' := by
  have H : (if (IntKind.u64.wrap (a0 + a1)) < a0 then (some (IntKind.u64.wrap ((IntKind.u64.wrap (a0 + a1)) + (Go.bits .and .u64 a2 1)), 1)) else (if (IntKind.u64.wrap ((IntKind.u64.wrap (a0 + a1)) + (Go.bits .and .u64 a2 1))) < (IntKind.u64.wrap (a0 + a1)) then (some (IntKind.u64.wrap ((IntKind.u64.wrap (a0 + a1)) + (Go.bits .and .u64 a2 1)), 1)) else (some (IntKind.u64.wrap ((IntKind.u64.wrap (a0 + a1)) + (Go.bits .and .u64 a2 1)), 0)))) = some (r1, r2) := h
  clear h
  by_cases c4 : (IntKind.u64.wrap (a0 + a1)) < a0
  · rw [if_pos c4] at H
    have c4b0 : decide ((IntKind.u64.wrap (a0 + a1)) < a0) = true := decide_eq_true c4
    clear c4
    simp only [Option.some.injEq, Prod.mk.injEq] at H
    obtain ⟨rfl, rfl⟩ := H
    go_enter Try.func45, Try.ntmps45
    go_wp2
    go_ret2
    exact ⟨by first | rfl | (simp; done) | (simp [*]; done), by repeat (first | exact Drawn0.refl _ | apply Drawn0.step)⟩
  · rw [if_neg c4] at H
    have c4b0 : decide ((IntKind.u64.wrap (a0 + a1)) < a0) = false := decide_eq_false c4
    clear c4
    by_cases c5 : (IntKind.u64.wrap ((IntKind.u64.wrap (a0 + a1)) + (Go.bits .and .u64 a2 1))) < (IntKind.u64.wrap (a0 + a1))
    · rw [if_pos c5] at H
      have c5b0 : decide ((IntKind.u64.wrap ((IntKind.u64.wrap (a0 + a1)) + (Go.bits .and .u64 a2 1))) < (IntKind.u64.wrap (a0 + a1))) = true := decide_eq_true c5
      clear c5
      simp only [Option.some.injEq, Prod.mk.injEq] at H
      obtain ⟨rfl, rfl⟩ := H
      go_enter Try.func45, Try.ntmps45
      go_wp2
      go_ret2
      exact ⟨by first | rfl | (simp; done) | (simp [*]; done), by repeat (first | exact Drawn0.refl _ | apply Drawn0.step)⟩
    · rw [if_neg c5] at H
      have c5b0 : decide ((IntKind.u64.wrap ((IntKind.u64.wrap (a0 + a1)) + (Go.bits .and .u64 a2 1))) < (IntKind.u64.wrap (a0 + a1))) = false := decide_eq_false c5
      clear c5
      simp only [Option.some.injEq, Prod.mk.injEq] at H
      obtain ⟨rfl, rfl⟩ := H
      go_enter Try.func45, Try.ntmps45
      go_wp2
      go_ret2
      exact ⟨by first | rfl | (simp; done) | (simp [*]; done), by repeat (first | exact Drawn0.refl _ | apply Drawn0.step)⟩

-- what is known of it
theorem and_one {c : Int} (h0 : 0 ≤ c) (h1 : c < 18446744073709551616) : Go.bits .and .u64 c 1 = c % 2 := and_mask h0 h1 1 (by omega) _ rfl
theorem wide_Add.f_eq {a b c : Int} (ha0 : 0 ≤ a) (ha : a < 18446744073709551616) (hb0 : 0 ≤ b) (hb : b < 18446744073709551616) (hc0 : 0 ≤ c) (hc : c ≤ 1) :
    wide_Add.f a b c = some ((a + b + c) % 18446744073709551616, (a + b + c) / 18446744073709551616) := by
  unfold wide_Add.f
  rw [and_one hc0 (by omega)]
  simp only [u64w]
  split
  · congr 2 <;> omega
  · split <;> (congr 2 <;> omega)

/-! ### nat_bound: function 46 -/
def nat_bound.f (k : Nat) (l0 : List Int) : Option (List Int × Int) := (nat_size.f k l0).bind fun t145 => (if t145 ≤ 4096 then (if 0 ≤ t145 then (if t145 ≤ (l0.length : Int) then (some ((l0.take (t145 : Int).toNat), 0)) else (none)) else (none)) else (some (([] : List Int), 21)))
theorem nat_bound.mono : ∀ a0 k, LeO (nat_bound.f k a0) (nat_bound.f (k + 1) a0) := by
  intro a0 k
  unfold nat_bound.f
  repeat' first
      | (with_reducible exact nat_size.mono _ _)
      | (with_reducible exact LeO.refl _)
      | (with_reducible exact LeO.none _)
      | (with_reducible refine LeO.ite ?_ ?_)
      | (with_reducible refine LeO.bind ?_ (fun _ => ?_))
      | exact nat_size.mono _ _
      | exact LeO.none _
      | refine LeO.ite ?_ ?_
      | refine LeO.bind ?_ (fun _ => ?_)
set_option maxHeartbeats 8000000 in
set_option maxRecDepth 100000 in
theorem nat_bound.calls (k : Nat) (P0_ : Nat → Prop) (u9000_ : Value) (l0 : List Int) (r1 : List Int) (r2 : Int) (w0 w : World) (hB : Below w0.heap.size w0 w) (ho0 : Kd.R (Kd.int .u64) 39 w w0.heap.size P0_ u9000_ l0) (h : nat_bound.f k l0 = some (r1, r2)) :
    Calls Try.prog 46 #[u9000_] w fun e w' => ∃ v0_ : Value, e = .returned (.tuple #[v0_, .int .i64 r2]) ∧ Kd.R (Kd.int .u64) 39 w' w0.heap.size (fun k_ => (P0_ k_ ∨ w.heap.size ≤ k_)) v0_ r1 ∧ Below w0.heap.size w0 w' ∧ Kept w w' (fun k_ => P0_ k_) := by
  have HO0 := Aside0.mk (show Kd.R (Kd.int .u64) 39 w w0.heap.size (fun k_ => (P0_ k_ ∨ w.heap.size ≤ k_)) u9000_ l0 from Kd.R_mono ho0 (fun k_ hk => (.inl hk)))
  have HK := Aside0.mk (Kept.refl w (fun k_ => P0_ k_))
  have HW0 := Aside0.mk hB.size
  have HB := Aside0.mk hB
  clear hB
  have H : ((nat_size.f k l0).bind fun t145 => (if t145 ≤ 4096 then (if 0 ≤ t145 then (if t145 ≤ (l0.length : Int) then (some ((l0.take (t145 : Int).toNat), 0)) else (none)) else (none)) else (some (([] : List Int), 21)))) = some (r1, r2) := h
  clear h
  replace H := Option.bind_eq_some_iff.mp H
  obtain ⟨t145, A20, H⟩ := H
  replace H : (if t145 ≤ 4096 then (if 0 ≤ t145 then (if t145 ≤ (l0.length : Int) then (some ((l0.take (t145 : Int).toNat), 0)) else (none)) else (none)) else (some (([] : List Int), 21))) = some (r1, r2) := H
  have A2 := Aside0.mk A20
  clear A20
  by_cases c3 : t145 ≤ 4096
  · rw [if_pos c3] at H
    have c3b0 : decide (t145 ≤ 4096) = true := decide_eq_true c3
    clear c3
    by_cases c4 : (0 : Int) ≤ t145
    · rw [if_pos c4] at H
      have c4b0 := eq_true c4
      have c4b1 : decide (0 ≤ t145) = true := decide_eq_true c4
      clear c4
      by_cases c5 : t145 ≤ (l0.length : Int)
      · rw [if_pos c5] at H
        have c5b0 := eq_true c5
        have c5b1 : decide (t145 ≤ (l0.length : Int)) = true := decide_eq_true c5
        clear c5
        obtain ⟨y146, hy146⟩ : ∃ y_ : List Int, y_ = (l0.take (t145 : Int).toNat) := ⟨_, rfl⟩
        replace H : (some (y146, 0)) = some (r1, r2) := by first | (rw [hy146]; with_reducible exact H) | (have H2_ := (Option.bind_some _ _).symm.trans H; rw [hy146]; with_reducible exact H2_) | (have H2_ := (Option.bind_some _ _).symm.trans H; with_reducible exact H2_) | with_reducible exact H | (rw [hy146]; exact H) | exact H
        have Ny146 := Aside0.mk hy146
        clear hy146
        simp only [Option.some.injEq, Prod.mk.injEq] at H
        obtain ⟨rfl, rfl⟩ := H
        obtain ⟨Ao6, co6, eo6⟩ := Kd.R_slice HO0.out
        subst eo6
        go_enter Try.func46, Try.ntmps46
        go_wp2_with (first | ((with_reducible refine gate_callee (f := 37) rfl ?_); refine goesL_ (some 6) rfl rfl Try.func37 (by kernel_rfl) rfl #[.slice Ao6 l0.length co6] rfl (by (try simp only [List.map_toArray, List.map_cons, List.map_nil]); first | done | rfl | (simp only [List.length_drop, List.length_take]; rfl)) ?_; (with_reducible refine (nat_size.calls k _ _ l0 t145 _ ?side1 ?side2 A2.out).mono ?_); (case side1 => repeat (first | exact (Kd.R_reads' HO0.out).2.2 | (with_reducible refine Kd.C_alloc ?_ _) | (with_reducible refine Kd.C_drewN ?_ _) | (with_reducible refine Kd.C_drew ?_))); (case side2 => exact (Kd.R_reads' HO0.out).2.1); rintro e w' ⟨rfl, ⟨nd, rfl⟩⟩; refine ⟨_, rfl, ?_⟩; have q7 : (t145 : Int) ≤ ((l0.length : Int) : Int) := of_decide_eq_true (by first | (with_reducible assumption) | assumption); obtain ⟨i07, hi07, _, hsz7, _⟩ := info_parts info39; have hcut7 := cut_to3 (P := Try.prog) 22 39 .i64 .i64 Try.underlying22 hi07 Ao6 l0.length co6 t145 (of_decide_eq_true (by first | (with_reducible assumption) | assumption)) q7 (Kd.R_reads' HO0.out).2.1; have hr7 := Kd.R_take3 (m := (t145 : Int).toNat) HO0.out (by omega); have hy7 : y146.length = (t145 : Int).toNat := (by rw [Ny146.out, List.length_take]; omega); rw [← Ny146.out] at hr7; rw [← hy7] at hr7 hcut7; clear hy7 hi07 hsz7 HO0; have HO148 := Aside0.mk hr7; clear hr7; replace q7 := eq_true q7))
        go_ret2
        exact ⟨_, by first | rfl | (simp [errW_none, errW_some] <;> rfl) | (simp [*, errW_none, errW_some] <;> rfl), by (with_reducible repeat (first | apply Kd.R_alloc | apply Kd.R_drewN | apply Kd.R_drew)); exact HO148.out, by repeat (first | (with_reducible first | exact HB.out | apply below_alloc | apply pw_below_drewN | apply below_drew1) | exact HB.out), by repeat (first | (with_reducible first | exact HK.out | apply Kept.alloc | apply Kept.drewN | apply Kept.drew) | exact HK.out)⟩
      · rw [if_neg c5] at H
        exact absurd H (by simp)
    · rw [if_neg c4] at H
      exact absurd H (by simp)
  · rw [if_neg c3] at H
    have c3b0 : decide (t145 ≤ 4096) = false := decide_eq_false c3
    clear c3
    simp only [Option.some.injEq, Prod.mk.injEq] at H
    obtain ⟨rfl, rfl⟩ := H
    obtain ⟨Ao8, co8, eo8⟩ := Kd.R_slice HO0.out
    subst eo8
    go_enter Try.func46, Try.ntmps46
    go_wp2_with (first | ((with_reducible refine gate_callee (f := 37) rfl ?_); refine goesL_ (some 6) rfl rfl Try.func37 (by kernel_rfl) rfl #[.slice Ao8 l0.length co8] rfl (by (try simp only [List.map_toArray, List.map_cons, List.map_nil]); first | done | rfl | (simp only [List.length_drop, List.length_take]; rfl)) ?_; (with_reducible refine (nat_size.calls k _ _ l0 t145 _ ?side1 ?side2 A2.out).mono ?_); (case side1 => repeat (first | exact (Kd.R_reads' HO0.out).2.2 | (with_reducible refine Kd.C_alloc ?_ _) | (with_reducible refine Kd.C_drewN ?_ _) | (with_reducible refine Kd.C_drew ?_))); (case side2 => exact (Kd.R_reads' HO0.out).2.1); rintro e w' ⟨rfl, ⟨nd, rfl⟩⟩; refine ⟨_, rfl, ?_⟩))
    go_ret2
    exact ⟨_, by first | rfl | (simp [errW_none, errW_some] <;> rfl) | (simp [*, errW_none, errW_some] <;> rfl), by first | exact Kd.R_nil _ _ _ _ _ | exact Kd.N_nil _ _ _ _ _ | exact Kd.V_nil _ _ _ _ _ | exact Kd.Q_nil _ _ _ _ _ | exact Kd.S_nil _ _ _ _ _, by repeat (first | (with_reducible first | exact HB.out | apply below_alloc | apply pw_below_drewN | apply below_drew1) | exact HB.out), by repeat (first | (with_reducible first | exact HK.out | apply Kept.alloc | apply Kept.drewN | apply Kept.drew) | exact HK.out)⟩

end Go.Proofs.Ytpnffhacmamilaa.PA
