/- A part of the proof (3). -/
import Derived.Test.YtjknfppbebfhnaaDoorYPVP2
namespace Go.Proofs.YtjknfppbebfhnaaDoor.PA
open Go.RowKit Go.Proofs.YtjknfppbebfhnaaDoorW.PrintWords Go.Proofs.YtjknfppbebfhnaaDoorW.PrintLast Go.Proofs.YtjknfppbebfhnaaDoorW.PrintMore
attribute [local go_sem] max2_int min2_int max_two min_two max_three min_three max_four min_four
set_option linter.unusedVariables false
set_option linter.unusedSimpArgs false
def nat_Bits.f (k : Nat) (l0 : List Int) : Option (Int) := (nat_size.f k l0).bind fun t102 => (if t102 = 0 then (some 0) else (if 0 ≤ (wrap64 (t102 - 1)) then (if (wrap64 (t102 - 1)) < (l0.length : Int) then ((wide_Len.f k (rd l0 (wrap64 (t102 - 1)))).bind fun t104 => (some (wrap64 ((wrap64 (64 * (wrap64 (t102 - 1)))) + t104)))) else (none)) else (none)))
theorem nat_Bits.mono : ∀ a0 k, LeO (nat_Bits.f k a0) (nat_Bits.f (k + 1) a0) := by
 intro a0 k
 unfold nat_Bits.f
 have m0_ := nat_size.mono
 have m1_ := wide_Len.mono
 exact mX
set_option maxHeartbeats 8000000 in
set_option maxRecDepth 100000 in
theorem nat_Bits.calls (k : Nat) (A0 : Option Addr) (c0 : Nat) (l0 : List Int) (r : Int) (w : World) (hr0 : Kd.C (Kd.int .u64) w A0 l0.length l0) (hc0 : l0.length ≤ c0) (h : nat_Bits.f k l0 = some r) :
  Calls Tryd.prog 25 #[.slice A0 l0.length c0] w fun e w' => e = .returned (.int .i64 r) ∧ Drawn0 w w' := by
 have HR0 := aM hr0
 have HC0 := aM hc0
 clear hr0 hc0
 have H := h
 clear h
 unfold nat_Bits.f at H
 replace H := oA H
 obtain ⟨t102, A2, H⟩ := H
 (try dsimp only at H)
 by_cases c3 : t102 = 0
 ·rw [if_pos c3] at H
  obtain ⟨c3b0, c3b1⟩ := bT c3
  clear c3
  obtain rfl := Option.some.inj H
  go_enter Tryd.func25, Tryd.ntmps25
  go_wp2_with (first | ((with_reducible refine gate_callee (f := 24) rfl ?_); refine gL (some 5) Tryd.func24 #[.slice A0 l0.length c0] ?_; (with_reducible refine (nat_size.calls k _ _ l0 t102 _ ?side1 HC0.out A2.out).mono ?_); (case side1 => exact dC HR0.out); rintro e w' ⟨rfl, ⟨nd, rfl⟩⟩; refine ⟨_, rfl, ?_⟩))
  go_ret
  exact ⟨dF, dD⟩
 ·rw [if_neg c3] at H
  obtain ⟨c3b0, c3b1⟩ := bF c3
  obtain ⟨ji4, hji4⟩ : ∃ j_ : Int, (wrap64 (t102 - 1)) = j_ := ⟨_, rfl⟩
  first | rw [hji4] at H | simp only [hji4] at H
  (try rw [hji4] at A2)
  have hji4w : (IntKind.i64.wrap (t102 - 1)) = ji4 := (i64_w _).trans hji4
  replace H := nO H
  obtain ⟨c5, H⟩ := H
  have c5b0 : decide (0 ≤ (ji4)) = true := decide_eq_true c5
  clear c5
  replace H := nO H
  obtain ⟨c6, H⟩ := H
  have c6b0 := decide_eq_true c6
  clear c6
  replace H := oA H
  obtain ⟨t104, A7, H⟩ := H
  (try dsimp only at H)
  obtain rfl := Option.some.inj H
  go_enter Tryd.func25, Tryd.ntmps25
  go_wp2_with (first | ((with_reducible refine gate_callee (f := 24) rfl ?_); refine gL (some 5) Tryd.func24 #[.slice A0 l0.length c0] ?_; (with_reducible refine (nat_size.calls k _ _ l0 t102 _ ?side1 HC0.out A2.out).mono ?_); (case side1 => exact dC HR0.out); rintro e w' ⟨rfl, ⟨nd, rfl⟩⟩; refine ⟨_, rfl, ?_⟩; have p103 : 0 ≤ ((ji4) : Int) := of_decide_eq_true dS; have q103 : (ji4) < (l0.length : Int) := of_decide_eq_true dS; obtain ⟨ad103, e103, hx103_0⟩ := Kd.at_int HR0.out (ji4) p103 q103; cases e103; replace p103 := eq_true p103; replace q103 := eq_true q103) | ((with_reducible refine gate_callee (f := 37) rfl ?_); refine goesL_ (some 16) rfl rfl Tryd.func37 (by kernel_rfl) rfl #[.int .u64 (rd l0 (ji4))] rfl (by (try simp only [List.map_toArray, List.map_cons, List.map_nil]); first | done | (simp only [hji4]; rfl) | rfl | (simp only [List.length_drop, List.length_take]; rfl)) ?_; (with_reducible refine (wide_Len.calls k (rd l0 (ji4)) t104 _ A7.out).mono ?_); rintro e w' ⟨rfl, ⟨nd, rfl⟩⟩; refine ⟨_, rfl, ?_⟩))
  go_ret
  exact ⟨by first | rfl | (simp; done) | (simp only [← hji4] <;> (first | rfl | simp)) | (simp [*]; done), dD⟩
def wide_Mul.f (a0 : Int) (a1 : Int) : Option (Int × Int) := if u64B a0 = true then (if u64B a1 = true then some (a0 * a1 / 18446744073709551616, a0 * a1 % 18446744073709551616) else none) else none
theorem mul_sum {p o c : Int} (hp : 0 ≤ p ∧ p ≤ 18446744065119617025) (ho0 : 0 ≤ o) (ho : o < 4294967296) (hc0 : 0 ≤ c) (hc : c < 4294967296) :
 IntKind.u64.wrap (IntKind.u64.wrap (IntKind.u64.wrap p + o) + c) = p + o + c := by simp only [u64w]; omega
theorem mul_sum1 {p c : Int} (hp : 0 ≤ p ∧ p ≤ 18446744065119617025) (hc0 : 0 ≤ c) (hc : c < 4294967296) :
 IntKind.u64.wrap (IntKind.u64.wrap (IntKind.u64.wrap p) + c) = p + c := by simp only [u64w]; omega
theorem mul_sum2 {p o : Int} (hp : 0 ≤ p ∧ p ≤ 18446744065119617025) (ho0 : 0 ≤ o) (ho : o < 4294967296) :
 IntKind.u64.wrap (IntKind.u64.wrap (IntKind.u64.wrap p + o)) = p + o := by simp only [u64w]; omega
theorem mul_sum0 {p : Int} (hp : 0 ≤ p ∧ p ≤ 18446744065119617025) :
 IntKind.u64.wrap (IntKind.u64.wrap (IntKind.u64.wrap p)) = p := by simp only [u64w]; omega
theorem mul_halves {a b x0 x1 y0 y1 t1 t2 t3 t4 : Int} (ha0 : 0 ≤ a) (ha : a < 18446744073709551616) (hb0 : 0 ≤ b) (hb : b < 18446744073709551616)
  (hx0 : x0 = Go.bits .and .u64 a 4294967295) (hx1 : x1 = a / 4294967296) (hy0 : y0 = Go.bits .and .u64 b 4294967295) (hy1 : y1 = b / 4294967296)
  (h1 : t1 = IntKind.u64.wrap (IntKind.u64.wrap (IntKind.u64.wrap (x0 * y0)))) (h2 : t2 = IntKind.u64.wrap (IntKind.u64.wrap (IntKind.u64.wrap (x0 * y1)) + t1 / 4294967296))
  (h3 : t3 = IntKind.u64.wrap (IntKind.u64.wrap (IntKind.u64.wrap (x1 * y0) + Go.bits .and .u64 t2 4294967295))) (h4 : t4 = IntKind.u64.wrap (IntKind.u64.wrap (IntKind.u64.wrap (x1 * y1) + t2 / 4294967296) + t3 / 4294967296)) :
  Go.bits .or .u64 (IntKind.u64.wrap (t4 / 4294967296 * 4294967296)) (Go.bits .and .u64 t4 4294967295) = a * b / 18446744073709551616 ∧
  Go.bits .or .u64 (IntKind.u64.wrap (Go.bits .and .u64 t3 4294967295 * 4294967296)) (Go.bits .and .u64 t1 4294967295) = a * b % 18446744073709551616 := by
 rw [and_half ha0 ha] at hx0
 rw [and_half hb0 hb] at hy0
 have p00 := mul_half (x := x0) (y := y0) (by omega) (by omega) (by omega) (by omega)
 have p01 := mul_half (x := x0) (y := y1) (by omega) (by omega) (by omega) (by omega)
 have p10 := mul_half (x := x1) (y := y0) (by omega) (by omega) (by omega) (by omega)
 have p11 := mul_half (x := x1) (y := y1) (by omega) (by omega) (by omega) (by omega)
 have e : a * b = x0 * y0 + 4294967296 * (x0 * y1 + x1 * y0) + 18446744073709551616 * (x1 * y1) := by
  have ea : a = x0 + 4294967296 * x1 := by omega
  have eb : b = y0 + 4294967296 * y1 := by omega
  rw [ea, eb]; grind
 rw [e]
 generalize x0 * y0 = p at *
 generalize x0 * y1 = q at *
 generalize x1 * y0 = r at *
 generalize x1 * y1 = s at *
 rw [mul_sum0 p00] at h1
 rw [mul_sum1 p01 (by omega) (by omega)] at h2
 rw [and_half (by omega) (by omega), mul_sum2 p10 (by omega) (by omega)] at h3
 rw [mul_sum p11 (by omega) (by omega) (by omega) (by omega)] at h4
 rw [and_half (x := t4) (by omega) (by omega), and_half (x := t3) (by omega) (by omega), and_half (x := t1) (by omega) (by omega), join_half (by omega) (by omega) (by omega) (by omega), join_half (by omega) (by omega) (by omega) (by omega)]
 omega
def MulOut (w W : World) (r1 r2 : Int) : Prop := ∃ o0 o1 o2 o3 : Int, (W.cell? ⟨w.heap.size + 1 + 1, 0, none⟩ = some (.int .u64 o0) ∧ W.cell? ⟨w.heap.size + 1 + 1, 1, none⟩ = some (.int .u64 o1) ∧ W.cell? ⟨w.heap.size + 1 + 1, 2, none⟩ = some (.int .u64 o2) ∧ W.cell? ⟨w.heap.size + 1 + 1, 3, none⟩ = some (.int .u64 o3)) ∧ (r1 = Go.bits .or .u64 (IntKind.u64.wrap (o3 * 4294967296)) o2 ∧ r2 = Go.bits .or .u64 (IntKind.u64.wrap (o1 * 4294967296)) o0) ∧ Below w.heap.size w W
theorem MulOut.mk {w W : World} {r1 r2 o0 o1 o2 o3 : Int} (h : ∃ (t : TypeId) (cs : Array Value), W.heap[w.heap.size + 1 + 1]? = some (.cells cs t (0, 0)) ∧ cs.toList = [.int .u64 o0, .int .u64 o1, .int .u64 o2, .int .u64 o3]) (h1 : r1 = Go.bits .or .u64 (IntKind.u64.wrap (o3 * 4294967296)) o2) (h2 : r2 = Go.bits .or .u64 (IntKind.u64.wrap (o1 * 4294967296)) o0) (hb : Below w.heap.size w W) : MulOut w W r1 r2 := by
 obtain ⟨t, cs, hc, hl⟩ := h
 obtain rfl : cs = #[.int .u64 o0, .int .u64 o1, .int .u64 o2, .int .u64 o3] := by cases cs; simp_all
 exact ⟨o0, o1, o2, o3, ⟨blk_cell hc 0, blk_cell hc 1, blk_cell hc 2, blk_cell hc 3⟩, ⟨h1, h2⟩, hb⟩
set_option maxHeartbeats 4000000 in
theorem wide_Mul.calls (a0 : Int) (a1 : Int) (r1 : Int) (r2 : Int) (w : World) (h : wide_Mul.f a0 a1 = some (r1, r2)) :
  Calls Tryd.prog 26 #[.int .u64 a0, .int .u64 a1] w fun e w' => e = .returned (.tuple #[.int .u64 r1, .int .u64 r2]) ∧ Below w.heap.size w w' := by
 unfold wide_Mul.f at h
 split at h
 case isFalse => cases h
 rename_i h0
 split at h
 case isFalse => cases h
 rename_i h1
 rw [u64B_iff] at h0 h1
 injection h with h
 injection h with e1 e2
 have E1 := aM e1
 have E2 := aM e2
 clear e1 e2
 obtain ⟨h0a, h0b⟩ := h0
 obtain ⟨h1a, h1b⟩ := h1
 go_enter Tryd.func26, Tryd.ntmps26
 go_upto_block 0 with (fail)
 generalize hx0 : Go.bits BinOp.and IntKind.u64 a0 4294967295 = x0
 generalize hx1 : a0 / 4294967296 = x1
 generalize hy0 : Go.bits BinOp.and IntKind.u64 a1 4294967295 = y0
 generalize hy1 : a1 / 4294967296 = y1
 have X0 := aM hx0.symm; have X1 := aM hx1.symm; have Y0 := aM hy0.symm; have Y1 := aM hy1.symm
 clear hx0 hx1 hy0 hy1
 go_cut [8] (fun v8 wx => v8 = .pointer (some ⟨w.heap.size + 1 + 1, 0, none⟩) ∧ MulOut w wx r1 r2)
 case first =>
  go_wp2
  refine wp_loop_rounds 3 ?_
  rw [rounds_succ]
  go_wp2
  refine wp_loop_rounds 3 ?_
  rw [rounds_succ]
  go_wp2
  go_quiet (fail)
  go_wp2
  generalize ht1 : IntKind.u64.wrap (IntKind.u64.wrap (IntKind.u64.wrap (x0 * y0))) = t1
  have T1 := aM ht1.symm
  clear ht1
  rw [rounds_succ]
  go_wp2
  go_quiet (fail)
  go_wp2
  generalize ht2 : IntKind.u64.wrap (IntKind.u64.wrap (IntKind.u64.wrap (x0 * y1)) + t1 / 4294967296) = t2
  have T2 := aM ht2.symm
  clear ht2
  rw [rounds_succ]
  go_wp2
  rw [rounds_succ]
  go_wp2
  refine wp_loop_rounds 3 ?_
  rw [rounds_succ]
  go_wp2
  go_quiet (fail)
  go_wp2
  generalize ht3 : IntKind.u64.wrap (IntKind.u64.wrap (IntKind.u64.wrap (x1 * y0) + Go.bits BinOp.and IntKind.u64 t2 4294967295)) = t3
  have T3 := aM ht3.symm
  clear ht3
  rw [rounds_succ]
  go_wp2
  go_quiet (fail)
  go_wp2
  generalize ht4 : IntKind.u64.wrap (IntKind.u64.wrap (IntKind.u64.wrap (x1 * y1) + t2 / 4294967296) + t3 / 4294967296) = t4
  have T4 := aM ht4.symm
  clear ht4
  rw [rounds_succ]
  go_wp2
  rw [rounds_succ]
  go_wp2
  go_meet
  go_light
  have hm := mul_halves h0a h0b h1a h1b X0.out X1.out Y0.out Y1.out T1.out T2.out T3.out T4.out
  refine ⟨rfl, MulOut.mk ?h (E1.out.symm.trans hm.1.symm) (E2.out.symm.trans hm.2.symm) ?_⟩
  case h =>
   apply Exists.intro
   apply Exists.intro
   apply And.intro
   ·repeat (first | (with_reducible apply blk_drewN) | (with_reducible apply blk_set))
    exact blk_new' _ _ (by simp)
   ·simp only [Array.toList_setIfInBounds, List.set_cons_zero, List.set_cons_succ]
  ·repeat (first | (with_reducible exact Below.refl _ _) | (with_reducible apply pw_below_drewN) | (with_reducible apply below_alloc) | (with_reducible refine below_set ?_ (by omega)))
 case rest =>
  obtain ⟨rfl, o0, o1, o2, o3, ⟨hc0, hc1, hc2, hc3⟩, hr, hb⟩ := hcut
  have hr' := aM hr; have hb' := aM hb
  clear E1 E2 X0 X1 Y0 Y1 hr hb
  go_wp2
  go_quiet (fail)
  go_wp2
  go_ret2
  refine ⟨?_, by repeat (first | exact hb'.out | (with_reducible apply pw_below_drewN) | (with_reducible apply below_drew1))⟩
  rw [hr'.out.1, hr'.out.2]; rfl
def wide_Add.f (a0 : Int) (a1 : Int) (a2 : Int) : Option (Int × Int) := if (IntKind.u64.wrap (a0 + a1)) < a0 then (some (IntKind.u64.wrap ((IntKind.u64.wrap (a0 + a1)) + (Go.bits .and .u64 a2 1)), 1)) else (if (IntKind.u64.wrap ((IntKind.u64.wrap (a0 + a1)) + (Go.bits .and .u64 a2 1))) < (IntKind.u64.wrap (a0 + a1)) then (some (IntKind.u64.wrap ((IntKind.u64.wrap (a0 + a1)) + (Go.bits .and .u64 a2 1)), 1)) else (some (IntKind.u64.wrap ((IntKind.u64.wrap (a0 + a1)) + (Go.bits .and .u64 a2 1)), 0)))
set_option maxHeartbeats 8000000 in
set_option maxRecDepth 100000 in
theorem wide_Add.calls (a0 : Int) (a1 : Int) (a2 : Int) (r1 : Int) (r2 : Int) (w : World) (h : wide_Add.f a0 a1 a2 = some (r1, r2)) :
  Calls Tryd.prog 27 #[.int .u64 a0, .int .u64 a1, .int .u64 a2] w fun e w' => e = .returned (.tuple #[.int .u64 r1, .int .u64 r2]) ∧ Drawn0 w w' := by
 have H := h
 clear h
 unfold wide_Add.f at H
 by_cases c4 : (IntKind.u64.wrap (a0 + a1)) < a0
 ·rw [if_pos c4] at H
  have c4b0 := decide_eq_true c4
  clear c4
  simp only [Option.some.injEq, Prod.mk.injEq] at H
  obtain ⟨rfl, rfl⟩ := H
  go_enter Tryd.func27, Tryd.ntmps27
  go_wp2
  go_ret2
  exact ⟨dF, dD⟩
 ·rw [if_neg c4] at H
  have c4b0 := decide_eq_false c4
  clear c4
  by_cases c5 : (IntKind.u64.wrap ((IntKind.u64.wrap (a0 + a1)) + (Go.bits .and .u64 a2 1))) < (IntKind.u64.wrap (a0 + a1))
  ·rw [if_pos c5] at H
   have c5b0 := decide_eq_true c5
   clear c5
   simp only [Option.some.injEq, Prod.mk.injEq] at H
   obtain ⟨rfl, rfl⟩ := H
   go_enter Tryd.func27, Tryd.ntmps27
   go_wp2
   go_ret2
   exact ⟨dF, dD⟩
  ·rw [if_neg c5] at H
   have c5b0 := decide_eq_false c5
   clear c5
   simp only [Option.some.injEq, Prod.mk.injEq] at H
   obtain ⟨rfl, rfl⟩ := H
   go_enter Tryd.func27, Tryd.ntmps27
   go_wp2
   go_ret2
   exact ⟨dF, dD⟩
theorem and_one {c : Int} (h0 : 0 ≤ c) (h1 : c < 18446744073709551616) : Go.bits .and .u64 c 1 = c % 2 := and_mask h0 h1 1 (by omega) _ rfl
theorem wide_Add.f_eq {a b c : Int} (ha0 : 0 ≤ a) (ha : a < 18446744073709551616) (hb0 : 0 ≤ b) (hb : b < 18446744073709551616) (hc0 : 0 ≤ c) (hc : c ≤ 1) :
  wide_Add.f a b c = some ((a + b + c) % 18446744073709551616, (a + b + c) / 18446744073709551616) := by
 unfold wide_Add.f
 rw [and_one hc0 (by omega)]
 simp only [u64w]
 split
 ·congr 2 <;> omega
 ·split <;> (congr 2 <;> omega)
def nat_bound.f (k : Nat) (l0 : List Int) : Option (List Int × Int) := (nat_size.f k l0).bind fun t105 => (if t105 ≤ 4096 then (if 0 ≤ t105 then (if t105 ≤ (l0.length : Int) then (some ((l0.take (t105 : Int).toNat), 0)) else (none)) else (none)) else (some (([] : List Int), 21)))
theorem nat_bound.mono : ∀ a0 k, LeO (nat_bound.f k a0) (nat_bound.f (k + 1) a0) := by
 intro a0 k
 unfold nat_bound.f
 have m0_ := nat_size.mono
 exact mX
set_option maxHeartbeats 8000000 in
set_option maxRecDepth 100000 in
theorem nat_bound.calls (k : Nat) (P0_ : Nat → Prop) (u9000_ : Value) (l0 : List Int) (r1 : List Int) (r2 : Int) (w0 w : World) (hB : Below w0.heap.size w0 w) (ho0 : Kd.R (Kd.int .u64) 36 w w0.heap.size P0_ u9000_ l0) (h : nat_bound.f k l0 = some (r1, r2)) :
  Calls Tryd.prog 28 #[u9000_] w fun e w' => ∃ v0_ : Value, e = .returned (.tuple #[v0_, .int .i64 r2]) ∧ Kd.R (Kd.int .u64) 36 w' w0.heap.size (fun k_ => (P0_ k_ ∨ w.heap.size ≤ k_)) v0_ r1 ∧ Below w0.heap.size w0 w' ∧ Kept w w' (fun k_ => P0_ k_) := by
 have HO0 := aM (show Kd.R (Kd.int .u64) 36 w w0.heap.size (fun k_ => (P0_ k_ ∨ w.heap.size ≤ k_)) u9000_ l0 from Kd.R_mono ho0 (fun k_ hk => (.inl hk)))
 have HK := aM (Kept.refl w (fun k_ => P0_ k_))
 have HW0 := aM hB.size
 have HB := aM hB
 clear hB
 have H := h
 clear h
 unfold nat_bound.f at H
 replace H := oA H
 obtain ⟨t105, A2, H⟩ := H
 (try dsimp only at H)
 by_cases c3 : t105 ≤ 4096
 ·rw [if_pos c3] at H
  have c3b0 := decide_eq_true c3
  clear c3
  replace H := nO H
  obtain ⟨c4, H⟩ := H
  have c4b0 := eq_true c4
  have c4b1 : decide (0 ≤ t105) = true := decide_eq_true c4
  clear c4
  replace H := nO H
  obtain ⟨c5, H⟩ := H
  have c5b0 := eq_true c5
  have c5b1 := decide_eq_true c5
  clear c5
  obtain ⟨y106, hy106⟩ : ∃ y_ : List Int, y_ = (l0.take (t105 : Int).toNat) := ⟨_, rfl⟩
  replace H : (some (y106, 0)) = some (r1, r2) := by first | (rw [hy106]; with_reducible exact H) | (have H2_ := (Option.bind_some _ _).symm.trans H; rw [hy106]; with_reducible exact H2_) | (have H2_ := (Option.bind_some _ _).symm.trans H; with_reducible exact H2_) | with_reducible exact H | (rw [hy106]; exact H) | exact H
  have Ny106 := aM hy106
  clear hy106
  simp only [Option.some.injEq, Prod.mk.injEq] at H
  obtain ⟨rfl, rfl⟩ := H
  obtain ⟨Ao6, co6, rfl⟩ := Kd.R_slice HO0.out
  go_enter Tryd.func28, Tryd.ntmps28
  go_wp2_with (first | ((with_reducible refine gate_callee (f := 24) rfl ?_); refine gL (some 6) Tryd.func24 #[.slice Ao6 l0.length co6] ?_; (with_reducible refine (nat_size.calls k _ _ l0 t105 _ ?side1 (Kd.R_reads' HO0.out).2.1 A2.out).mono ?_); (case side1 => exact dC (Kd.R_reads' HO0.out).2.2); rintro e w' ⟨rfl, ⟨nd, rfl⟩⟩; refine ⟨_, rfl, ?_⟩; have q7 : (t105 : Int) ≤ ((l0.length : Int) : Int) := of_decide_eq_true dS; obtain ⟨i07, hi07, _, hsz7, _⟩ := info_parts info36; have hcut7 := cut_to3 (P := Tryd.prog) 22 36 .i64 .i64 Tryd.underlying22 hi07 Ao6 l0.length co6 t105 (of_decide_eq_true dS) q7 (Kd.R_reads' HO0.out).2.1; have hr7 := Kd.R_take3 (m := (t105 : Int).toNat) HO0.out (by omega); have hy7 : y106.length = (t105 : Int).toNat := (by rw [Ny106.out, List.length_take]; omega); rw [← Ny106.out] at hr7; rw [← hy7] at hr7 hcut7; clear hy7 hi07 hsz7 HO0; have HO108 := aM hr7; clear hr7; replace q7 := eq_true q7))
  go_ret2
  exact ⟨_, dE, dR HO108.out, dB, by repeat (first | (with_reducible first | exact HK.out | apply Kept.alloc | apply Kept.drewN | apply Kept.drew) | exact HK.out)⟩
 ·rw [if_neg c3] at H
  have c3b0 := decide_eq_false c3
  clear c3
  simp only [Option.some.injEq, Prod.mk.injEq] at H
  obtain ⟨rfl, rfl⟩ := H
  obtain ⟨Ao8, co8, rfl⟩ := Kd.R_slice HO0.out
  go_enter Tryd.func28, Tryd.ntmps28
  go_wp2_with (first | ((with_reducible refine gate_callee (f := 24) rfl ?_); refine gL (some 6) Tryd.func24 #[.slice Ao8 l0.length co8] ?_; (with_reducible refine (nat_size.calls k _ _ l0 t105 _ ?side1 (Kd.R_reads' HO0.out).2.1 A2.out).mono ?_); (case side1 => exact dC (Kd.R_reads' HO0.out).2.2); rintro e w' ⟨rfl, ⟨nd, rfl⟩⟩; refine ⟨_, rfl, ?_⟩))
  go_ret2
  exact ⟨_, dE, by first | exact Kd.R_nil _ _ _ _ _ | exact Kd.N_nil _ _ _ _ _ | exact Kd.V_nil _ _ _ _ _ | exact Kd.Q_nil _ _ _ _ _ | exact Kd.S_nil _ _ _ _ _, dB, by repeat (first | (with_reducible first | exact HK.out | apply Kept.alloc | apply Kept.drewN | apply Kept.drew) | exact HK.out)⟩
mutual
def nat_Mul.j0 : Nat → List Int → List Int → Bool → Option (List Int × Int)
 | 0, _, _, _ => none
 | k + 1, x0, x1, x30 => if x30 = true then (some (([] : List Int), 0)) else ((nat_Bits.f k x0).bind fun t113 => ((nat_Bits.f k x1).bind fun t114 => (if (wrap64 (t113 - 1)) > (wrap64 (262144 - t114)) then (some (([] : List Int), 21)) else (if 0 ≤ (wrap64 ((x0.length : Int) + (x1.length : Int))) then (if (wrap64 ((x0.length : Int) + (x1.length : Int)) : Int).toNat ≤ 35184372088832 then (nat_Mul.l0 k x1 (List.replicate (wrap64 ((x0.length : Int) + (x1.length : Int)) : Int).toNat 0) x0 (x0.length : Int) 0) else (none)) else (none)))))
def nat_Mul.l0 : Nat → List Int → List Int → List Int → Int → Int → Option (List Int × Int)
 | 0, _, _, _, _, _ => none
 | k + 1, x1, x6, x44, x45, x46 => if x46 < x45 then (if 0 ≤ x46 then (if x46 < (x44.length : Int) then (nat_Mul.l1 k x1 x6 x46 (rd x44 x46) 0 x44 x45 x46 x1 (x1.length : Int) 0) else (none)) else (none)) else ((nat_bound.f k x6).bind fun bt118 => (some (bt118.1, bt118.2)))
def nat_Mul.l1 : Nat → List Int → List Int → Int → Int → Int → List Int → Int → Int → List Int → Int → Int → Option (List Int × Int)
 | 0, _, _, _, _, _, _, _, _, _, _, _ => none
 | k + 1, x1, x6, x7, x8, x9, x44, x45, x46, x51, x52, x53 => if x53 < x52 then (if 0 ≤ x53 then (if x53 < (x51.length : Int) then ((wide_Mul.f x8 (rd x51 x53)).bind fun bt124 => (if 0 ≤ (wrap64 (x7 + x53)) then (if (wrap64 (x7 + x53)) < (x6.length : Int) then ((wide_Add.f bt124.2 (rd x6 (wrap64 (x7 + x53))) 0).bind fun bt127 => ((wide_Add.f bt127.1 x9 0).bind fun bt129 => (nat_Mul.l1 k x1 (x6.set ((wrap64 (x7 + x53)) : Int).toNat bt129.1) x7 x8 (IntKind.u64.wrap ((IntKind.u64.wrap (bt124.1 + bt127.2)) + bt129.2)) x44 x45 x46 x51 x52 (wrap64 (x53 + 1))))) else (none)) else (none))) else (none)) else (none)) else (if 0 ≤ (wrap64 (x7 + (x1.length : Int))) then (if (wrap64 (x7 + (x1.length : Int))) < (x6.length : Int) then (nat_Mul.l0 k x1 (x6.set ((wrap64 (x7 + (x1.length : Int))) : Int).toNat x9) x44 x45 (wrap64 (x46 + 1))) else (none)) else (none))
end
def nat_Mul.f (k : Nat) (l0 : List Int) (l1 : List Int) : Option (List Int × Int) := (nat_size.f k l0).bind fun t109 => (if 0 ≤ t109 then (if t109 ≤ (l0.length : Int) then ((nat_size.f k l1).bind fun t111 => (if 0 ≤ t111 then (if t111 ≤ (l1.length : Int) then (if ((l0.take (t109 : Int).toNat).length : Int) = 0 then (nat_Mul.j0 k (l0.take (t109 : Int).toNat) (l1.take (t111 : Int).toNat) true) else (nat_Mul.j0 k (l0.take (t109 : Int).toNat) (l1.take (t111 : Int).toNat) (((l1.take (t111 : Int).toNat).length : Int) == 0))) else (none)) else (none))) else (none)) else (none))
theorem nat_Mul.mono_l : ∀ k, (∀ y0 y1 y2, LeO (nat_Mul.j0 k y0 y1 y2) (nat_Mul.j0 (k + 1) y0 y1 y2)) ∧ (∀ y0 y1 y2 y3 y4, LeO (nat_Mul.l0 k y0 y1 y2 y3 y4) (nat_Mul.l0 (k + 1) y0 y1 y2 y3 y4)) ∧ (∀ y0 y1 y2 y3 y4 y5 y6 y7 y8 y9 y10, LeO (nat_Mul.l1 k y0 y1 y2 y3 y4 y5 y6 y7 y8 y9 y10) (nat_Mul.l1 (k + 1) y0 y1 y2 y3 y4 y5 y6 y7 y8 y9 y10))
 | 0 => ⟨fun _ _ _ r h => by simp [nat_Mul.j0] at h, fun _ _ _ _ _ r h => by simp [nat_Mul.l0] at h, fun _ _ _ _ _ _ _ _ _ _ _ r h => by simp [nat_Mul.l1] at h⟩
 | k + 1 => by
  obtain ⟨ih0, ih1, ih2⟩ := nat_Mul.mono_l k
  refine ⟨?_, ?_, ?_⟩
  ·intro y0 y1 y2
   unfold nat_Mul.j0
   have m0_ := nat_Bits.mono
   have m1_ := nat_bound.mono
   have m2_ := nat_size.mono
   exact mX
  ·intro y0 y1 y2 y3 y4
   unfold nat_Mul.l0
   have m0_ := nat_Bits.mono
   have m1_ := nat_bound.mono
   have m2_ := nat_size.mono
   exact mX
  ·intro y0 y1 y2 y3 y4 y5 y6 y7 y8 y9 y10
   unfold nat_Mul.l1
   have m0_ := nat_Bits.mono
   have m1_ := nat_bound.mono
   have m2_ := nat_size.mono
   exact mX
theorem nat_Mul.mono : ∀ a0 a1 k, LeO (nat_Mul.f k a0 a1) (nat_Mul.f (k + 1) a0 a1) := by
 intro a0 a1 k
 obtain ⟨ih0, ih1, ih2⟩ := nat_Mul.mono_l k
 unfold nat_Mul.f
 have m0_ := nat_Bits.mono
 have m1_ := nat_bound.mono
 have m2_ := nat_size.mono
 exact mX
set_option maxHeartbeats 8000000 in
set_option maxRecDepth 100000 in
theorem nat_Mul.calls (k : Nat) (A0 : Option Addr) (c0 : Nat) (l0 : List Int) (A1 : Option Addr) (c1 : Nat) (l1 : List Int) (r1 : List Int) (r2 : Int) (w : World) (hr0 : Kd.C (Kd.int .u64) w A0 l0.length l0) (hc0 : l0.length ≤ c0) (hr1 : Kd.C (Kd.int .u64) w A1 l1.length l1) (hc1 : l1.length ≤ c1) (h : nat_Mul.f k l0 l1 = some (r1, r2)) :
  Calls Tryd.prog 13 #[.slice A0 l0.length c0, .slice A1 l1.length c1] w fun e w' => ∃ v0_ : Value, e = .returned (.tuple #[v0_, .int .i64 r2]) ∧ Kd.R (Kd.int .u64) 36 w' w.heap.size (fun _ => True) v0_ r1 ∧ Below w.heap.size w w' := by
 have HR0 := aM hr0
 have HC0 := aM hc0
 clear hr0 hc0
 have HR1 := aM hr1
 have HC1 := aM hc1
 clear hr1 hc1
 have HB := aM (Below.refl w.heap.size w)
 have H := h
 clear h
 unfold nat_Mul.f at H
 replace H := oA H
 obtain ⟨t109, A3, H⟩ := H
 (try dsimp only at H)
 replace H := nO H
 obtain ⟨c4, H⟩ := H
 have c4b0 := eq_true c4
 have c4b1 : decide (0 ≤ t109) = true := decide_eq_true c4
 clear c4
 replace H := nO H
 obtain ⟨c5, H⟩ := H
 have c5b0 := eq_true c5
 have c5b1 := decide_eq_true c5
 clear c5
 obtain ⟨z109, Nz1090⟩ : ∃ z_ : List Int, (l0.take (t109 : Int).toNat) = z_ := ⟨_, rfl⟩
 rw [Nz1090] at H
 have Nz109 := aM Nz1090
 clear Nz1090
 replace H := oA H
 obtain ⟨t111, A6, H⟩ := H
 (try dsimp only at H)
 replace H := nO H
 obtain ⟨c7, H⟩ := H
 have c7b0 := eq_true c7
 have c7b1 : decide (0 ≤ t111) = true := decide_eq_true c7
 clear c7
 replace H := nO H
 obtain ⟨c8, H⟩ := H
 have c8b0 := eq_true c8
 have c8b1 := decide_eq_true c8
 clear c8
 obtain ⟨z111, Nz1110⟩ : ∃ z_ : List Int, (l1.take (t111 : Int).toNat) = z_ := ⟨_, rfl⟩
 rw [Nz1110] at H
 have Nz111 := aM Nz1110
 clear Nz1110
 have HC9 := aM H
 clear H
 go_enter Tryd.func13, Tryd.ntmps13
 go_upto_region 2 with (first | (go_at_call 24; (with_reducible refine (nat_size.calls k _ _ l0 t109 _ ?side1 HC0.out A3.out).mono ?_); (case side1 => exact dC HR0.out); rintro e w' ⟨rfl, ⟨nd, rfl⟩⟩; (try exact dW); obtain ⟨i010, hi010, _, hsz10, _⟩ := info_parts info36; obtain ⟨hcut10, hA10, hC10⟩ := print_take_of (P := Tryd.prog) (Value.int .u64) 0 22 36 .i64 Tryd.underlying22 hi010 hsz10 A0 c0 l0 t109 (of_decide_eq_true dS) (of_decide_eq_true dS) HC0.out; rw [Nz109.out] at hcut10 hA10 hC10; have HR110 := aM (Kd.C_of_reads (h1 := fun _ => rfl) (hA10 _ (Kd.reads_of_C HR0.out))); have HC110 := aM hC10; clear hA10 hC10 hi010 hsz10) | (go_at_call 24; (with_reducible refine (nat_size.calls k _ _ l1 t111 _ ?side1 HC1.out A6.out).mono ?_); (case side1 => exact dC HR1.out); rintro e w' ⟨rfl, ⟨nd, rfl⟩⟩; (try exact dW); obtain ⟨i011, hi011, _, hsz11, _⟩ := info_parts info36; obtain ⟨hcut11, hA11, hC11⟩ := print_take_of (P := Tryd.prog) (Value.int .u64) 0 22 36 .i64 Tryd.underlying22 hi011 hsz11 A1 c1 l1 t111 (of_decide_eq_true dS) (of_decide_eq_true dS) HC1.out; rw [Nz111.out] at hcut11 hA11 hC11; have HR112 := aM (Kd.C_of_reads (h1 := fun _ => rfl) (hA11 _ (Kd.reads_of_C HR1.out))); have HC112 := aM hC11; clear hA11 hC11 hi011 hsz11))
 repeat (go_quiet (first | (go_at_call 24; (with_reducible refine (nat_size.calls k _ _ l0 t109 _ ?side1 HC0.out A3.out).mono ?_); (case side1 => exact dC HR0.out); rintro e w' ⟨rfl, ⟨nd, rfl⟩⟩; (try exact dW); obtain ⟨i010, hi010, _, hsz10, _⟩ := info_parts info36; obtain ⟨hcut10, hA10, hC10⟩ := print_take_of (P := Tryd.prog) (Value.int .u64) 0 22 36 .i64 Tryd.underlying22 hi010 hsz10 A0 c0 l0 t109 (of_decide_eq_true dS) (of_decide_eq_true dS) HC0.out; rw [Nz109.out] at hcut10 hA10 hC10; have HR110 := aM (Kd.C_of_reads (h1 := fun _ => rfl) (hA10 _ (Kd.reads_of_C HR0.out))); have HC110 := aM hC10; clear hA10 hC10 hi010 hsz10) | (go_at_call 24; (with_reducible refine (nat_size.calls k _ _ l1 t111 _ ?side1 HC1.out A6.out).mono ?_); (case side1 => exact dC HR1.out); rintro e w' ⟨rfl, ⟨nd, rfl⟩⟩; (try exact dW); obtain ⟨i011, hi011, _, hsz11, _⟩ := info_parts info36; obtain ⟨hcut11, hA11, hC11⟩ := print_take_of (P := Tryd.prog) (Value.int .u64) 0 22 36 .i64 Tryd.underlying22 hi011 hsz11 A1 c1 l1 t111 (of_decide_eq_true dS) (of_decide_eq_true dS) HC1.out; rw [Nz111.out] at hcut11 hA11 hC11; have HR112 := aM (Kd.C_of_reads (h1 := fun _ => rfl) (hA11 _ (Kd.reads_of_C HR1.out))); have HC112 := aM hC11; clear hA11 hC11 hi011 hsz11)); go_upto_region 2 with (first | (go_at_call 24; (with_reducible refine (nat_size.calls k _ _ l0 t109 _ ?side1 HC0.out A3.out).mono ?_); (case side1 => exact dC HR0.out); rintro e w' ⟨rfl, ⟨nd, rfl⟩⟩; (try exact dW); obtain ⟨i010, hi010, _, hsz10, _⟩ := info_parts info36; obtain ⟨hcut10, hA10, hC10⟩ := print_take_of (P := Tryd.prog) (Value.int .u64) 0 22 36 .i64 Tryd.underlying22 hi010 hsz10 A0 c0 l0 t109 (of_decide_eq_true dS) (of_decide_eq_true dS) HC0.out; rw [Nz109.out] at hcut10 hA10 hC10; have HR110 := aM (Kd.C_of_reads (h1 := fun _ => rfl) (hA10 _ (Kd.reads_of_C HR0.out))); have HC110 := aM hC10; clear hA10 hC10 hi010 hsz10) | (go_at_call 24; (with_reducible refine (nat_size.calls k _ _ l1 t111 _ ?side1 HC1.out A6.out).mono ?_); (case side1 => exact dC HR1.out); rintro e w' ⟨rfl, ⟨nd, rfl⟩⟩; (try exact dW); obtain ⟨i011, hi011, _, hsz11, _⟩ := info_parts info36; obtain ⟨hcut11, hA11, hC11⟩ := print_take_of (P := Tryd.prog) (Value.int .u64) 0 22 36 .i64 Tryd.underlying22 hi011 hsz11 A1 c1 l1 t111 (of_decide_eq_true dS) (of_decide_eq_true dS) HC1.out; rw [Nz111.out] at hcut11 hA11 hC11; have HR112 := aM (Kd.C_of_reads (h1 := fun _ => rfl) (hA11 _ (Kd.reads_of_C HR1.out))); have HC112 := aM hC11; clear hA11 hC11 hi011 hsz11)))
 (try simp only [Act.put, List.setIfInBounds_toArray, List.set_cons_zero, List.set_cons_succ])
 go_cut [30] (fun v30 wc => ∃ (kq : Nat) (x30_8 : Bool), v30 = .bool x30_8 ∧ Aside0 (nat_Mul.j0 kq z109 z111 x30_8 = some (r1, r2)) ∧ Aside0 (kq ≤ k) ∧ Aside0 (Below w.heap.size w wc))
 case first =>
  have H := HC9.out
  clear HC9
  by_cases c12 : (z109.length : Int) = 0
  ·rw [if_pos c12] at H
   obtain ⟨c12b0, c12b1⟩ := bT c12
   clear c12
   (first | rw [c12b0] | (simp only [i64_w, i32_w]; rw [c12b0]) | skip)
   have H' := aM H
   clear H
   go_wp2
   repeat (go_quiet (fail); try go_wp2)
   go_meet
   case rel => exact ⟨_, (true), dF, H', ⟨dN⟩, ⟨dB⟩⟩
  ·rw [if_neg c12] at H
   obtain ⟨c12b0, c12b1⟩ := bF c12
   have c12b2 : ¬ (z109 = []) := fun h_ => c12 (by rw [h_]; rfl)
   (first | rw [c12b0] | (simp only [i64_w, i32_w]; rw [c12b0]) | skip)
   have H' := aM H
   clear H
   go_wp2
   repeat (go_quiet (fail); try go_wp2)
   go_meet
   case rel => exact ⟨_, (((z111.length : Int) == 0)), dF, H', ⟨dN⟩, ⟨dB⟩⟩
 case rest =>
  clear HC9
  try clear c1
  try clear c4
  try clear c4b0 c4b1
  try clear c5
  try clear c5b0 c5b1
  try clear c7
  try clear c7b0 c7b1
  try clear c8
  try clear c8b0 c8b1
  obtain ⟨kq, x30_8, rfl, HA, HJ8, HB⟩ := hcut
  cases kq with
  | zero => exact absurd HA.out (by simp [nat_Mul.j0])
  | succ kj8 =>
   have H := HA.out
   clear HA
   simp only [nat_Mul.j0] at H
   by_cases c13 : x30_8 = true
   ·subst c13
    rw [if_pos rfl] at H
    (try dsimp only at H)
    simp only [Option.some.injEq, Prod.mk.injEq] at H
    obtain ⟨rfl, rfl⟩ := H
    go_wp2
    repeat (go_quiet (fail); try go_wp2)
    go_ret2
    exact ⟨_, dE, by first | exact Kd.R_nil _ _ _ _ _ | exact Kd.N_nil _ _ _ _ _ | exact Kd.V_nil _ _ _ _ _ | exact Kd.Q_nil _ _ _ _ _ | exact Kd.S_nil _ _ _ _ _, dB⟩
   ·replace c13 := Bool.eq_false_iff.mpr c13
    subst c13
    rw [if_neg (show ¬ (false = true) by decide)] at H
    (try dsimp only at H)
    replace H := oA H
    obtain ⟨t113, A14, H⟩ := H
    (try dsimp only at H)
    replace H := oA H
    obtain ⟨t114, A15, H⟩ := H
    (try dsimp only at H)
    by_cases c16 : (wrap64 (t113 - 1)) > (wrap64 (262144 - t114))
    ·rw [if_pos c16] at H
     have c16b0 : decide ((wrap64 (262144 - t114)) < (wrap64 (t113 - 1))) = true := decide_eq_true c16
     clear c16
     simp only [Option.some.injEq, Prod.mk.injEq] at H
     obtain ⟨rfl, rfl⟩ := H
     iterate 6 (go_wp2_with (first | (go_at_call 25; (with_reducible refine (nat_Bits.calls kj8 _ _ z109 t113 _ ?side1 HC110.out A14.out).mono ?_); (case side1 => exact dC (Kd.C_below HR110.out HB.out)); rintro e w' ⟨rfl, ⟨nd, rfl⟩⟩; (try exact dW)) | (go_at_call 25; (with_reducible refine (nat_Bits.calls kj8 _ _ z111 t114 _ ?side1 HC112.out A15.out).mono ?_); (case side1 => exact dC (Kd.C_below HR112.out dB)); rintro e w' ⟨rfl, ⟨nd, rfl⟩⟩; (try exact dW))); try go_quiet (first | (go_at_call 25; (with_reducible refine (nat_Bits.calls kj8 _ _ z109 t113 _ ?side1 HC110.out A14.out).mono ?_); (case side1 => exact dC (Kd.C_below HR110.out HB.out)); rintro e w' ⟨rfl, ⟨nd, rfl⟩⟩; (try exact dW)) | (go_at_call 25; (with_reducible refine (nat_Bits.calls kj8 _ _ z111 t114 _ ?side1 HC112.out A15.out).mono ?_); (case side1 => exact dC (Kd.C_below HR112.out dB)); rintro e w' ⟨rfl, ⟨nd, rfl⟩⟩; (try exact dW))))
     go_ret2
     exact ⟨_, dE, by first | exact Kd.R_nil _ _ _ _ _ | exact Kd.N_nil _ _ _ _ _ | exact Kd.V_nil _ _ _ _ _ | exact Kd.Q_nil _ _ _ _ _ | exact Kd.S_nil _ _ _ _ _, dB⟩
    ·rw [if_neg c16] at H
     have c16b0 : decide ((wrap64 (262144 - t114)) < (wrap64 (t113 - 1))) = false := decide_eq_false c16
     clear c16
     obtain ⟨ji17, hji17⟩ : ∃ j_ : Int, (wrap64 ((z109.length : Int) + (z111.length : Int))) = j_ := ⟨_, rfl⟩
     first | rw [hji17] at H | simp only [hji17] at H
     (try rw [hji17] at A14)
     (try rw [hji17] at A15)
     have hji17w : (IntKind.i64.wrap ((z109.length : Int) + (z111.length : Int))) = ji17 := (i64_w _).trans hji17
     replace H := nO H
     obtain ⟨c18, H⟩ := H
     have c18b0 := eq_true c18
     have c18b1 : decide (0 ≤ (ji17)) = true := decide_eq_true c18
     clear c18
     replace H := nO H
     obtain ⟨c19, H⟩ := H
     have c19b0 := eq_true c19
     have c19b1 := decide_eq_true c19
     clear c19
     obtain ⟨y115, hy115⟩ : ∃ y_ : List Int, y_ = (List.replicate (ji17 : Int).toNat 0) := ⟨_, rfl⟩
     replace H : (nat_Mul.l0 kj8 z111 y115 z109 (z109.length : Int) 0) = some (r1, r2) := by first | (rw [hy115]; with_reducible exact H) | (have H2_ := (Option.bind_some _ _).symm.trans H; rw [hy115]; with_reducible exact H2_) | (have H2_ := (Option.bind_some _ _).symm.trans H; with_reducible exact H2_) | with_reducible exact H | (rw [hy115]; exact H) | exact H
     have Ny115 := aM hy115
     clear hy115
     have H' := aM H
     clear H
     iterate 6 (go_wp2_with (first | (go_at_call 25; (with_reducible refine (nat_Bits.calls kj8 _ _ z109 t113 _ ?side1 HC110.out A14.out).mono ?_); (case side1 => exact dC (Kd.C_below HR110.out HB.out)); rintro e w' ⟨rfl, ⟨nd, rfl⟩⟩; (try exact dW)) | (go_at_call 25; (with_reducible refine (nat_Bits.calls kj8 _ _ z111 t114 _ ?side1 HC112.out A15.out).mono ?_); (case side1 => exact dC (Kd.C_below HR112.out dB)); rintro e w' ⟨rfl, ⟨nd, rfl⟩⟩; (try exact dW)) | ((with_reducible refine gate_dst (N := 43) rfl ?_); (try (refine gate_guard (by rfl) ?_; dsimp only)); refine Kd.R_make (Kd.int .u64) _ 36 rfl (N := 43) rfl 22 _ _ rfl ji17 rfl rfl Tryd.underlying22 (.int .u64 0) 8 info36 rfl (by decide) (by omega) 0 (ok := fun _ => True) (okp := fun _ => True) rfl (fun _ hk => hk) trivial (of_decide_eq_true dS) (Nat.le_trans (Nat.mul_le_mul_right _ (of_decide_eq_true dS : ji17.toNat ≤ 35184372088832)) (by omega)) (Below.refl _ _) (Nat.le_refl _) ?_; intro v116 w20 ho21 hb hg_ hnew_; clear hg_ hnew_; (first | rw [← Ny115.out] at ho21 | (simp only [Int.reduceToNat] at ho21; rw [← Ny115.out] at ho21)); have HO117 := aM (Kd.R_lower ho21 (below_size dB)); replace HB := hS HB.out hb; clear hb ho21)); try go_quiet (first | (go_at_call 25; (with_reducible refine (nat_Bits.calls kj8 _ _ z109 t113 _ ?side1 HC110.out A14.out).mono ?_); (case side1 => exact dC (Kd.C_below HR110.out HB.out)); rintro e w' ⟨rfl, ⟨nd, rfl⟩⟩; (try exact dW)) | (go_at_call 25; (with_reducible refine (nat_Bits.calls kj8 _ _ z111 t114 _ ?side1 HC112.out A15.out).mono ?_); (case side1 => exact dC (Kd.C_below HR112.out dB)); rintro e w' ⟨rfl, ⟨nd, rfl⟩⟩; (try exact dW)) | ((with_reducible refine gate_dst (N := 43) rfl ?_); (try (refine gate_guard (by rfl) ?_; dsimp only)); refine Kd.R_make (Kd.int .u64) _ 36 rfl (N := 43) rfl 22 _ _ rfl ji17 rfl rfl Tryd.underlying22 (.int .u64 0) 8 info36 rfl (by decide) (by omega) 0 (ok := fun _ => True) (okp := fun _ => True) rfl (fun _ hk => hk) trivial (of_decide_eq_true dS) (Nat.le_trans (Nat.mul_le_mul_right _ (of_decide_eq_true dS : ji17.toNat ≤ 35184372088832)) (by omega)) (Below.refl _ _) (Nat.le_refl _) ?_; intro v116 w20 ho21 hb hg_ hnew_; clear hg_ hnew_; (first | rw [← Ny115.out] at ho21 | (simp only [Int.reduceToNat] at ho21; rw [← Ny115.out] at ho21)); have HO117 := aM (Kd.R_lower ho21 (below_size dB)); replace HB := hS HB.out hb; clear hb ho21)))
     go_loopg [46] kj8 (fun kq v46 w' => ∃ (x6_2 : List Int) (x46_2 : Int), v46 = .int .i64 x46_2 ∧ Aside0 (nat_Mul.l0 kq z111 x6_2 z109 (z109.length : Int) x46_2 = some (r1, r2)) ∧ Aside0 (kq ≤ kj8) ∧ Aside0 (Kd.R (Kd.int .u64) 36 w' w.heap.size (fun _ => True) v116 x6_2) ∧ Aside0 (Below w.heap.size w w'))
     case atStart => exact ⟨(y115), (0), dF, H', ⟨Nat.le_refl _⟩, ⟨dR HO117.out⟩, ⟨dB⟩⟩
     case round =>
      clear H'
      try clear c1
      try clear c4
      try clear c4b0 c4b1
      try clear c5
      try clear c5b0 c5b1
      try clear c7
      try clear c7b0 c7b1
      try clear c8
      try clear c8b0 c8b1
      try clear c13
      try clear c16
      try clear c16b0
      try clear c18
      try clear c18b0 c18b1
      try clear c19
      try clear c19b0 c19b1
      obtain ⟨x6_2, x46_2, rfl, HA, HK2, HO_6, HB⟩ := hrel
      cases gk with
      | zero => exact absurd HA.out (by simp [nat_Mul.l0])
      | succ k2 =>
       have H := HA.out
       clear HA
       simp only [nat_Mul.l0] at H
       by_cases c22 : x46_2 < (z109.length : Int)
       ·rw [if_pos c22] at H
        have c22b0 := decide_eq_true c22
        clear c22
        replace H := nO H
        obtain ⟨c23, H⟩ := H
        have c23b0 : decide (0 ≤ x46_2) = true := decide_eq_true c23
        clear c23
        replace H := nO H
        obtain ⟨c24, H⟩ := H
        have c24b0 := decide_eq_true c24
        clear c24
        have H' := aM H
        clear H
        have p122 : 0 ≤ (x46_2 : Int) := of_decide_eq_true dS
        have q122 : x46_2 < (z109.length : Int) := of_decide_eq_true dS
        obtain ⟨ad122, e122, hx122_0⟩ := Kd.at_int HR110.out x46_2 p122 q122
        cases e122
        replace hx122_0 := (HB.out.cell (World.block_lt_of_cell? w _ hx122_0)).trans hx122_0
        replace p122 := eq_true p122
        replace q122 := eq_true q122
        go_wp2
        repeat (go_quiet (fail); try go_wp2)
        go_loopg [9, 53] k2 (fun kq v9 v53 w' => ∃ (x6_3 : List Int) (x9_3 : Int) (x53_3 : Int), v9 = .int .u64 x9_3 ∧ v53 = .int .i64 x53_3 ∧ Aside0 (nat_Mul.l1 kq z111 x6_3 x46_2 (rd z109 x46_2) x9_3 z109 (z109.length : Int) x46_2 z111 (z111.length : Int) x53_3 = some (r1, r2)) ∧ Aside0 (kq ≤ k2) ∧ Aside0 (Kd.R (Kd.int .u64) 36 w' w.heap.size (fun _ => True) v116 x6_3) ∧ Aside0 (Below w.heap.size w w'))
        case atStart => exact ⟨(x6_2), (0), (0), dF, dF, H', ⟨Nat.le_refl _⟩, ⟨dR HO_6.out⟩, ⟨dB⟩⟩
        case round =>
         clear H'
         try clear c1
         try clear c4
         try clear c4b0 c4b1
         try clear c5
         try clear c5b0 c5b1
         try clear c7
         try clear c7b0 c7b1
         try clear c8
         try clear c8b0 c8b1
         try clear c13
         try clear c16
         try clear c16b0
         try clear c18
         try clear c18b0 c18b1
         try clear c19
         try clear c19b0 c19b1
         try clear c22
         try clear c22b0
         try clear c23
         try clear c23b0
         try clear c24
         try clear c24b0
         try clear hx122_0
         try clear p122
         try clear q122
         obtain ⟨x6_3, x9_3, x53_3, rfl, rfl, HA, HK3, HO_6, HB⟩ := hrel
         cases gk with
         | zero => exact absurd HA.out (by simp [nat_Mul.l1])
         | succ k3 =>
          have H := HA.out
          clear HA
          simp only [nat_Mul.l1] at H
          by_cases c25 : x53_3 < (z111.length : Int)
          ·rw [if_pos c25] at H
           have c25b0 := decide_eq_true c25
           clear c25
           replace H := nO H
           obtain ⟨c26, H⟩ := H
           have c26b0 : decide (0 ≤ x53_3) = true := decide_eq_true c26
           clear c26
           replace H := nO H
           obtain ⟨c27, H⟩ := H
           have c27b0 := decide_eq_true c27
           clear c27
           replace H := oA H
           obtain ⟨⟨t124, t125⟩, A28, H⟩ := H
           (try dsimp only at H)
           obtain ⟨ji29, hji29⟩ : ∃ j_ : Int, (wrap64 (x46_2 + x53_3)) = j_ := ⟨_, rfl⟩
           first | rw [hji29] at H | simp only [hji29] at H
           (try rw [hji29] at A28)
           have hji29w : (IntKind.i64.wrap (x46_2 + x53_3)) = ji29 := (i64_w _).trans hji29
           replace H := nO H
           obtain ⟨c30, H⟩ := H
           have c30b0 : decide (0 ≤ (ji29)) = true := decide_eq_true c30
           clear c30
           replace H := nO H
           obtain ⟨c31, H⟩ := H
           have c31b0 := decide_eq_true c31
           clear c31
           replace H := oA H
           obtain ⟨⟨t127, t128⟩, A32, H⟩ := H
           (try dsimp only at H)
           replace H := oA H
           obtain ⟨⟨t129, t130⟩, A33, H⟩ := H
           (try dsimp only at H)
           obtain ⟨y131, hy131⟩ : ∃ y_ : List Int, y_ = (x6_3.set ((ji29) : Int).toNat t129) := ⟨_, rfl⟩
           replace H : (nat_Mul.l1 k3 z111 y131 x46_2 (rd z109 x46_2) (IntKind.u64.wrap ((IntKind.u64.wrap (t124 + t128)) + t130)) z109 (z109.length : Int) x46_2 z111 (z111.length : Int) (wrap64 (x53_3 + 1))) = some (r1, r2) := by first | (rw [hy131]; with_reducible exact H) | (have H2_ := (Option.bind_some _ _).symm.trans H; rw [hy131]; with_reducible exact H2_) | (have H2_ := (Option.bind_some _ _).symm.trans H; with_reducible exact H2_) | with_reducible exact H | (rw [hy131]; exact H) | exact H
           have Ny131 := aM hy131
           clear hy131
           have H' := aM H
           clear H
           have p123 : 0 ≤ (x53_3 : Int) := of_decide_eq_true dS
           have q123 : x53_3 < (z111.length : Int) := of_decide_eq_true dS
           obtain ⟨ad123, e123, hx123_0⟩ := Kd.at_int HR112.out x53_3 p123 q123
           cases e123
           replace hx123_0 := (HB.out.cell (World.block_lt_of_cell? w _ hx123_0)).trans hx123_0
           replace p123 := eq_true p123
           replace q123 := eq_true q123
           iterate 6 (go_wp2_with (first | (go_at_call 26; (with_reducible refine (wide_Mul.calls (rd z109 x46_2) (rd z111 x53_3) t124 t125 _ A28.out).mono ?_); rintro e w35 ⟨rfl, hb⟩; replace HO_6 := oB HO_6.out hb; replace HB := hS HB.out hb; (try clear hb); obtain ⟨Ao36, co36, rfl⟩ := Kd.R_slice HO_6.out; have p126 : 0 ≤ ((ji29) : Int) := of_decide_eq_true dS; have q126 : (ji29) < (x6_3.length : Int) := of_decide_eq_true dS; obtain ⟨ad126, e126, hx126_0⟩ := Kd.at_int (Kd.R_reads' HO_6.out).2.2 (ji29) p126 q126; cases e126; replace p126 := eq_true p126; replace q126 := eq_true q126) | (go_at_call 27; (with_reducible refine (wide_Add.calls t125 (rd x6_3 (ji29)) 0 t127 t128 _ A32.out).mono ?_); rintro e w' ⟨rfl, ⟨nd, rfl⟩⟩; (try exact dW)) | (go_at_call 27; (with_reducible refine (wide_Add.calls t127 x9_3 0 t129 t130 _ A33.out).mono ?_); rintro e w' ⟨rfl, ⟨nd, rfl⟩⟩; (try exact dW); have p34 : 0 ≤ ((ji29) : Int) := of_decide_eq_true dS; have q34 : ((ji29) : Int) < ((x6_3.length : Int) : Int) := of_decide_eq_true dS; obtain ⟨go34, co34, eo34, gb34, gl34, cl34, HG34⟩ := Kd.R_form HO_6.out (by omega); (first | cases eo34 | (injection eo34 with ea_ en_ ec_; (first | subst ea_ | (injection ea_ with ea_; subst ea_)); subst ec_; clear en_)); have GB34 := aM gb34; have GG34 := aM HG34; clear gb34 gl34 HG34; (first | simp only [add_plain] at hx126_0 | skip); obtain ⟨hx34_0, hf34_0⟩ := Kd.R_celln 0 HO_6.out ((ji29) : Int) p34 q34; replace p34 := eq_true p34; replace q34 := eq_true q34; obtain ⟨hy37_, hz37_⟩ := Kd.R_celln 0 HO_6.out ((ji29) : Int) (of_decide_eq_true dS) (of_decide_eq_true dS); have HP37 := Kd.R_putg HO_6.out ((ji29) : Int) t129) | ((with_reducible refine gate_store (t := 36) (p := 88) rfl ?_); (try (rw [drewN_self w35]; generalize hq_ : World.drewN w35 _ = w35; replace HO_6 := aM (Kd.R_at hq_ HO_6.out); replace HB := aM (below_at hq_ HB.out); clear hq_; (try (obtain ⟨hy37_, hz37_⟩ := Kd.R_celln 0 HO_6.out ((ji29) : Int) (of_decide_eq_true dS) (of_decide_eq_true dS))); (try (have HP37 := Kd.R_putg HO_6.out ((ji29) : Int) t129)))); refine store_event (t := 36) (p := 88) (v := ?vo_w38) (w1 := (w35.setCell ⟨go34, ((ji29) : Int).toNat, none⟩ (.int .u64 t129))) ?hg ?ho ?hn ?hr ?_; (case ho => rfl); (case hg => rfl); (case hn => rfl); (case hr => first | (go_simp; done) | (go_simp; rfl)); intro w38 hw; have hg : w35.grownBy w38 (some go34) := (by rw [hw]; exact HP37.2); have hp_ : Kd.R (Kd.int .u64) 36 w38 w.heap.size (fun _ => True) (.slice (some ⟨go34, 0, none⟩) x6_3.length co36) y131 := (by rw [hw, Ny131.out]; exact HP37.1); clear HP37; replace HO_6 := aM (hp_); replace HB := aM ((by rw [hw]; exact below_set (HB.out) GB34.out : Below w.heap.size w w38)); clear hg hw hp_)); try go_quiet (first | (go_at_call 26; (with_reducible refine (wide_Mul.calls (rd z109 x46_2) (rd z111 x53_3) t124 t125 _ A28.out).mono ?_); rintro e w35 ⟨rfl, hb⟩; replace HO_6 := oB HO_6.out hb; replace HB := hS HB.out hb; (try clear hb); obtain ⟨Ao36, co36, rfl⟩ := Kd.R_slice HO_6.out; have p126 : 0 ≤ ((ji29) : Int) := of_decide_eq_true dS; have q126 : (ji29) < (x6_3.length : Int) := of_decide_eq_true dS; obtain ⟨ad126, e126, hx126_0⟩ := Kd.at_int (Kd.R_reads' HO_6.out).2.2 (ji29) p126 q126; cases e126; replace p126 := eq_true p126; replace q126 := eq_true q126) | (go_at_call 27; (with_reducible refine (wide_Add.calls t125 (rd x6_3 (ji29)) 0 t127 t128 _ A32.out).mono ?_); rintro e w' ⟨rfl, ⟨nd, rfl⟩⟩; (try exact dW)) | (go_at_call 27; (with_reducible refine (wide_Add.calls t127 x9_3 0 t129 t130 _ A33.out).mono ?_); rintro e w' ⟨rfl, ⟨nd, rfl⟩⟩; (try exact dW); have p34 : 0 ≤ ((ji29) : Int) := of_decide_eq_true dS; have q34 : ((ji29) : Int) < ((x6_3.length : Int) : Int) := of_decide_eq_true dS; obtain ⟨go34, co34, eo34, gb34, gl34, cl34, HG34⟩ := Kd.R_form HO_6.out (by omega); (first | cases eo34 | (injection eo34 with ea_ en_ ec_; (first | subst ea_ | (injection ea_ with ea_; subst ea_)); subst ec_; clear en_)); have GB34 := aM gb34; have GG34 := aM HG34; clear gb34 gl34 HG34; (first | simp only [add_plain] at hx126_0 | skip); obtain ⟨hx34_0, hf34_0⟩ := Kd.R_celln 0 HO_6.out ((ji29) : Int) p34 q34; replace p34 := eq_true p34; replace q34 := eq_true q34; obtain ⟨hy37_, hz37_⟩ := Kd.R_celln 0 HO_6.out ((ji29) : Int) (of_decide_eq_true dS) (of_decide_eq_true dS); have HP37 := Kd.R_putg HO_6.out ((ji29) : Int) t129) | ((with_reducible refine gate_store (t := 36) (p := 88) rfl ?_); (try (rw [drewN_self w35]; generalize hq_ : World.drewN w35 _ = w35; replace HO_6 := aM (Kd.R_at hq_ HO_6.out); replace HB := aM (below_at hq_ HB.out); clear hq_; (try (obtain ⟨hy37_, hz37_⟩ := Kd.R_celln 0 HO_6.out ((ji29) : Int) (of_decide_eq_true dS) (of_decide_eq_true dS))); (try (have HP37 := Kd.R_putg HO_6.out ((ji29) : Int) t129)))); refine store_event (t := 36) (p := 88) (v := ?vo_w38) (w1 := (w35.setCell ⟨go34, ((ji29) : Int).toNat, none⟩ (.int .u64 t129))) ?hg ?ho ?hn ?hr ?_; (case ho => rfl); (case hg => rfl); (case hn => rfl); (case hr => first | (go_simp; done) | (go_simp; rfl)); intro w38 hw; have hg : w35.grownBy w38 (some go34) := (by rw [hw]; exact HP37.2); have hp_ : Kd.R (Kd.int .u64) 36 w38 w.heap.size (fun _ => True) (.slice (some ⟨go34, 0, none⟩) x6_3.length co36) y131 := (by rw [hw, Ny131.out]; exact HP37.1); clear HP37; replace HO_6 := aM (hp_); replace HB := aM ((by rw [hw]; exact below_set (HB.out) GB34.out : Below w.heap.size w w38)); clear hg hw hp_)))
           go_roundg k3
           case measure => have := HJ8.out; have := HK2.out; have := HK3.out; omega
           case rel => exact ⟨(y131), (IntKind.u64.wrap ((IntKind.u64.wrap (t124 + t128)) + t130)), (wrap64 (x53_3 + 1)), dF, dF, H', ⟨by have := HJ8.out; have := HK2.out; have := HK3.out; omega⟩, ⟨dR HO_6.out⟩, ⟨dB⟩⟩
          ·rw [if_neg c25] at H
           have c25b0 := decide_eq_false c25
           clear c25
           obtain ⟨ji39, hji39⟩ : ∃ j_ : Int, (wrap64 (x46_2 + (z111.length : Int))) = j_ := ⟨_, rfl⟩
           first | rw [hji39] at H | simp only [hji39] at H
           have hji39w : (IntKind.i64.wrap (x46_2 + (z111.length : Int))) = ji39 := (i64_w _).trans hji39
           replace H := nO H
           obtain ⟨c40, H⟩ := H
           have c40b0 : decide (0 ≤ (ji39)) = true := decide_eq_true c40
           clear c40
           replace H := nO H
           obtain ⟨c41, H⟩ := H
           have c41b0 := decide_eq_true c41
           clear c41
           obtain ⟨y132, hy132⟩ : ∃ y_ : List Int, y_ = (x6_3.set ((ji39) : Int).toNat x9_3) := ⟨_, rfl⟩
           replace H : (nat_Mul.l0 k3 z111 y132 z109 (z109.length : Int) (wrap64 (x46_2 + 1))) = some (r1, r2) := by first | (rw [hy132]; with_reducible exact H) | (have H2_ := (Option.bind_some _ _).symm.trans H; rw [hy132]; with_reducible exact H2_) | (have H2_ := (Option.bind_some _ _).symm.trans H; with_reducible exact H2_) | with_reducible exact H | (rw [hy132]; exact H) | exact H
           have Ny132 := aM hy132
           clear hy132
           have H' := aM H
           clear H
           have p42 : 0 ≤ ((ji39) : Int) := of_decide_eq_true dS
           have q42 : ((ji39) : Int) < ((x6_3.length : Int) : Int) := of_decide_eq_true dS
           obtain ⟨go42, co42, eo42, gb42, gl42, cl42, HG42⟩ := Kd.R_form HO_6.out (by omega)
           (first | cases eo42 | (injection eo42 with ea_ en_ ec_; (first | subst ea_ | (injection ea_ with ea_; subst ea_)); subst ec_; clear en_))
           have GB42 := aM gb42
           have GG42 := aM HG42
           clear gb42 gl42 HG42
           obtain ⟨hx42_0, hf42_0⟩ := Kd.R_celln 0 HO_6.out ((ji39) : Int) p42 q42
           replace p42 := eq_true p42
           replace q42 := eq_true q42
           have HP43 := Kd.R_putg HO_6.out ((ji39) : Int) x9_3
           iterate 6 (go_wp2_with (first | ((with_reducible refine gate_store (t := 36) (p := 99) rfl ?_); (try (rw [drewN_self wr]; generalize hq_ : World.drewN wr _ = wr; replace HO_6 := aM (Kd.R_at hq_ HO_6.out); replace HB := aM (below_at hq_ HB.out); clear hq_; (try (have HP43 := Kd.R_putg HO_6.out ((ji39) : Int) x9_3)))); refine store_event (t := 36) (p := 99) (v := ?vo_w44) (w1 := (wr.setCell ⟨go42, ((ji39) : Int).toNat, none⟩ (.int .u64 x9_3))) ?hg ?ho ?hn ?hr ?_; (case ho => rfl); (case hg => rfl); (case hn => rfl); (case hr => first | (go_simp; done) | (go_simp; rfl)); intro w44 hw; have hg : wr.grownBy w44 (some go42) := (by rw [hw]; exact HP43.2); have hp_ : Kd.R (Kd.int .u64) 36 w44 w.heap.size (fun _ => True) (.slice (some ⟨go42, 0, none⟩) x6_3.length co42) y132 := (by rw [hw, Ny132.out]; exact HP43.1); clear HP43; replace HO_6 := aM (hp_); replace HB := aM ((by rw [hw]; exact below_set (HB.out) GB42.out : Below w.heap.size w w44)); clear hg hw hp_)); try go_quiet (fail))
           go_roundg k3
           case measure => have := HJ8.out; have := HK2.out; have := HK3.out; omega
           case rel => exact ⟨(y132), (wrap64 (x46_2 + 1)), dF, H', ⟨by have := HJ8.out; have := HK2.out; have := HK3.out; omega⟩, ⟨dR HO_6.out⟩, ⟨dB⟩⟩
       ·rw [if_neg c22] at H
        have c22b0 := decide_eq_false c22
        clear c22
        replace H := oA H
        obtain ⟨⟨t118, t121⟩, A45, H⟩ := H
        (try dsimp only at H)
        simp only [Option.some.injEq, Prod.mk.injEq] at H
        obtain ⟨rfl, rfl⟩ := H
        obtain ⟨Ao46, co46, rfl⟩ := Kd.R_slice HO_6.out
        iterate 6 (go_wp2_with (first | (go_at_call 28; (with_reducible refine (nat_bound.calls k2 (fun k_ => some k_ = (.slice Ao46 x6_2.length co46 : Value).ownBlock) (.slice Ao46 x6_2.length co46) x6_2 t118 t121 w _ ?side1 ?side2 A45.out).mono ?_); (case side1 => repeat (first | (with_reducible first | exact HB.out | apply below_alloc | apply pw_below_drewN | apply below_drew1) | exact HB.out)); (case side2 => exact Kd.R_tight rfl HO_6.out); rintro e w47 ⟨v119, rfl, ho0, hb, hkp⟩; have HO120 := aM (Kd.R_mono (ok' := fun k_ => True) ho0 (fun k_ hk_ => trivial)); replace HB := aM (hb); clear HO_6; (try clear hb); (try clear hkp); (try clear ho0))); try go_quiet (fail))
        go_ret2
        exact ⟨_, by first | rfl | (simp [errW_none, errW_some] <;> rfl) | (simp only [← hji17]; first | rfl | (simp [errW_none, errW_some] <;> rfl)) | (simp [*, errW_none, errW_some] <;> rfl), dR HO120.out, dB⟩
def nat_Norm.f (l0 : List Int) : Option (List Int) := if l0.length ≤ 35184372088832 then some (strip l0) else none
theorem norm_copied (l0 : List Int) : l0.take (min l0.length (List.replicate (strip l0).length (0 : Int)).length) ++ (List.replicate (strip l0).length (0 : Int)).drop (min l0.length (List.replicate (strip l0).length (0 : Int)).length) = strip l0 := by
 have h := strip_length_le l0
 rw [List.length_replicate, Nat.min_eq_right h, List.drop_of_length_le (by simp), List.append_nil, ← strip_take]
theorem nat_Norm.calls (A0 : Option Addr) (c0 : Nat) (l0 : List Int) (r : List Int) (w : World) (hr0 : Kd.C (Kd.int .u64) w A0 l0.length l0) (hc0 : l0.length ≤ c0) (h : nat_Norm.f l0 = some r) :
  Calls Tryd.prog 29 #[.slice A0 l0.length c0] w fun e w' => ∃ v0_ : Value, e = .returned (v0_) ∧ Kd.R (Kd.int .u64) 36 w' w.heap.size (fun _ => True) v0_ r ∧ Below w.heap.size w w' := by
 unfold nat_Norm.f at h
 split at h
 case isFalse => cases h
 rename_i hlen
 injection h with h
 subst h
 have hk := aM (nat_size.f_eq l0 (by omega) (l0.length + 1) (by omega))
 have hsl := strip_length_le l0
 have hcp := aM (norm_copied l0)
 go_enter Tryd.func29, Tryd.ntmps29
 go_wp2_with (first
  | (go_at_call 24; (with_reducible refine (nat_size.calls (l0.length + 1) _ _ l0 _ _ hr0 hc0 hk.out).mono ?_); rintro e w' ⟨rfl, ⟨n, rfl⟩⟩)
  | ((with_reducible refine gate_dst (N := 6) rfl ?_); refine Kd.R_make (Kd.int .u64) _ 36 rfl (N := 6) rfl 22 _ _ rfl ((strip l0).length : Int) rfl rfl Tryd.underlying22 (.int .u64 0) 8 info36 rfl (by decide) (by omega) 0 (ok := fun _ => True) (okp := fun _ => True) rfl (fun _ hk => hk) trivial (by omega) (by omega) (pw_below_drewN (Below.refl _ _) _) (Nat.le_refl _) ?_; intro v1 w1 HO HB _ _; have HO' := aM (show Kd.R (Kd.int .u64) 36 w1 w.heap.size (fun _ => True) v1 (List.replicate (strip l0).length 0) from HO); have HB' := aM (show Below w.heap.size w w1 from HB); clear HO HB)
  | ((with_reducible refine gate_dst (N := 9) rfl ?_); refine Kd.R_copy (enc := Value.int .u64) (h1 := fun _ => rfl) (0 : Int) w.heap.size rfl (.tmp 7) (.tmp 8) 22 22 36 rfl Tryd.underlying22 (by kernel_rfl) v1 (List.replicate (strip l0).length 0) l0 A0 l0.length c0 (fun _ => True) rfl rfl HO'.out (Kd.C_below hr0 HB'.out) HB'.out HB'.out.size ?_; intro w2 HO2 HB2 _; rw [hcp.out] at HO2; have HO2' := aM HO2; have HB2' := aM HB2; clear HO2 HB2))
 go_ret
 exact ⟨v1, rfl, HO2'.out, HB2'.out⟩
def nat_From.f (a0 : Int) : Option (List Int) := (nat_Norm.f (([a0] : List Int))).bind fun t112 => (some t112)
set_option maxHeartbeats 8000000 in
set_option maxRecDepth 100000 in
theorem nat_From.calls (a0 : Int) (r : List Int) (w : World) (h : nat_From.f a0 = some r) :
  Calls Tryd.prog 14 #[.int .u64 a0] w fun e w' => ∃ v0_ : Value, e = .returned (v0_) ∧ Kd.R (Kd.int .u64) 36 w' w.heap.size (fun _ => True) v0_ r ∧ Below w.heap.size w w' := by
 have HB := aM (Below.refl w.heap.size w)
 have H := h
 clear h
 unfold nat_From.f at H
 obtain ⟨y109, hy109⟩ : ∃ y_ : List Int, y_ = (([a0] : List Int)) := ⟨_, rfl⟩
 replace H : ((nat_Norm.f y109).bind fun t112 => (some t112)) = some r := by first | (rw [hy109]; with_reducible exact H) | (have H2_ := (Option.bind_some _ _).symm.trans H; rw [hy109]; with_reducible exact H2_) | (have H2_ := (Option.bind_some _ _).symm.trans H; with_reducible exact H2_) | with_reducible exact H | (rw [hy109]; exact H) | exact H
 have Ny109 := aM hy109
 clear hy109
 replace H := oA H
 obtain ⟨t112, A2, H⟩ := H
 (try dsimp only at H)
 obtain rfl := Option.some.inj H
 go_enter Tryd.func14, Tryd.ntmps14
 go_wp2_with (first | ((with_reducible refine gate_dst (N := 4) rfl ?_); refine Kd.R_lit (Kd.int .u64) _ 36 ?hg (N := 4) ?hd (xs := ([a0] : List Int)) (inner := [.int .u64 a0]) (ok := fun _ => True) (okp := fun _ => True) ?hr ?hp (fun _ hk => hk) trivial (Below.refl _ _) (Nat.le_refl _) (by simp) ?_; (case hd => rfl); (case hg => rfl); (case hr => first | (go_simp; done) | (go_simp; rfl)); (case hp => exact (Reps.one (show Kd.M (Kd.int .u64) _ _ _ a0 [.int .u64 a0] from rfl) (Reps.none _ _))); intro v110 w3 ho4 hb hg_ hnew_; clear hg_ hnew_; (first | rw [← Ny109.out] at ho4 | (simp only [Int.reduceToNat] at ho4; rw [← Ny109.out] at ho4)); have HO111 := aM (Kd.R_lower ho4 (below_size dB)); replace HB := hS HB.out hb; clear hb ho4; obtain ⟨Ao5, co5, rfl⟩ := Kd.R_slice HO111.out) | ((with_reducible refine gate_callee (f := 29) rfl ?_); refine gL (some 5) Tryd.func29 #[.slice Ao5 y109.length co5] ?_; (with_reducible refine (nat_Norm.calls _ _ y109 t112 _ ?side1 (Kd.R_reads' HO111.out).2.1 A2.out).mono ?_); (case side1 => exact dC (Kd.R_reads' HO111.out).2.2); rintro e w6 ⟨v113, rfl, ho0, hb⟩; refine ⟨_, rfl, ?_⟩; have HO114 := aM (Kd.R_lower (nW ho0 HO111.out) (below_size dB)); replace HO111 := oE HO111.out ho0 hb; replace HB := hS HB.out hb; (try clear hb); (try clear ho0)))
 go_ret
 exact ⟨_, dE, oM HO114.out (fun _ hk => trivial), dB⟩
def nat_sum.f (l0 : List Int) (l1 : List Int) : Option (List Int) := if wsB l0 = true ∧ wsB l1 = true ∧ l0.length < 35184372088832 ∧ l1.length < 35184372088832 then some (wn (max l0.length l1.length + 1) (nv l0 + nv l1)) else none
mutual
def nat_sum.l0 : Nat → List Int → List Int → Int → List Int → Int → Int → Option (List Int)
 | 0, _, _, _, _, _, _ => none
 | k + 1, x1, x5, x6, x24, x25, x26 => if x26 < x25 then (if 0 ≤ x26 then (if x26 < (x24.length : Int) then (if x26 < (x5.length : Int) then ((wide_Add.f (rd x5 x26) (rd x24 x26) x6).bind fun bt111 => (nat_sum.l0 k x1 (x5.set (x26 : Int).toNat bt111.1) bt111.2 x24 x25 (wrap64 (x26 + 1)))) else (none)) else (none)) else (none)) else (nat_sum.l1 k x5 x6 (x1.length : Int))
def nat_sum.l1 : Nat → List Int → Int → Int → Option (List Int)
 | 0, _, _, _ => none
 | k + 1, x5, x6, x9 => if x6 > 0 then (if 0 ≤ x9 then (if x9 < (x5.length : Int) then ((wide_Add.f (rd x5 x9) 0 x6).bind fun bt115 => (nat_sum.l1 k (x5.set (x9 : Int).toNat bt115.1) bt115.2 (wrap64 (x9 + 1)))) else (none)) else (none)) else (some x5)
end
theorem sum_copied {l0 : List Int} : l0.take (min l0.length (List.replicate (l0.length + 1) (0 : Int)).length) ++ (List.replicate (l0.length + 1) (0 : Int)).drop (min l0.length (List.replicate (l0.length + 1) (0 : Int)).length) = l0 ++ [0] := by
 rw [List.length_replicate, Nat.min_eq_left (by omega), List.take_length, List.drop_replicate]
 simp
set_option maxHeartbeats 8000000 in
set_option maxRecDepth 100000 in
theorem nat_sum.coreA (k : Nat) (A0 : Option Addr) (c0 : Nat) (l0 : List Int) (A1 : Option Addr) (c1 : Nat) (l1 : List Int) (r : List Int) (w : World) (hr0 : Kd.C (Kd.int .u64) w A0 l0.length l0) (hr1 : Kd.C (Kd.int .u64) w A1 l1.length l1) (hlen : l0.length < 35184372088832) (g : decide (l0.length < l1.length) = false) (h : nat_sum.l0 k l1 (l0 ++ [0]) 0 l1 (l1.length : Int) 0 = some r) :
  Calls Tryd.prog 30 #[.slice A0 l0.length c0, .slice A1 l1.length c1] w fun e w' => ∃ v0_ : Value, e = .returned (v0_) ∧ Kd.R (Kd.int .u64) 36 w' w.heap.size (fun _ => True) v0_ r ∧ Below w.heap.size w w' := by
 have HR0 := Aside0.mk hr0
 have HR1 := Aside0.mk hr1
 clear hr0 hr1
 have H' := Aside0.mk h
 clear h
 go_enter Tryd.func30, Tryd.ntmps30
 go_wp2_with (first
  | ((with_reducible refine gate_dst (N := 20) rfl ?_); refine Kd.R_make (Kd.int .u64) _ 36 rfl (N := 20) rfl 22 _ _ rfl ((l0.length : Int) + 1) rfl rfl Tryd.underlying22 (.int .u64 0) 8 info36 rfl (by decide) (by omega) 0 (ok := fun _ => True) (okp := fun _ => True) rfl (fun _ hk => hk) trivial (by omega) (by omega) (Below.refl _ _) (Nat.le_refl _) ?_; intro v107 w6 ho7 hb hg_ hnew_; clear hg_ hnew_; have HO107 := Aside0.mk (show Kd.R (Kd.int .u64) 36 w6 w.heap.size (fun _ => True) v107 (List.replicate (l0.length + 1) 0) from ho7); have HB := Aside0.mk hb; clear hb ho7)
  | ((with_reducible refine gate_dst (N := 23) rfl ?_); refine Kd.R_copy (enc := Value.int .u64) (h1 := fun _ => rfl) (0 : Int) w.heap.size rfl (.tmp 21) (.tmp 22) 22 22 36 rfl Tryd.underlying22 (by kernel_rfl) v107 (List.replicate (l0.length + 1) 0) l0 A0 l0.length c0 (fun _ => True) rfl rfl HO107.out (Kd.C_below HR0.out HB.out) HB.out HB.out.size ?_; intro w7 ho8 hb _; rw [sum_copied] at ho8; have HO108 := Aside0.mk ho8; clear HO107 HB; have HB := Aside0.mk hb; clear hb ho8))
 go_loopg [6, 26] k (fun kq v6 v26 w' => ∃ (x5_1 : List Int) (x6_1 : Int) (x26_1 : Int), v6 = .int .u64 x6_1 ∧ v26 = .int .i64 x26_1 ∧ Aside0 (nat_sum.l0 kq l1 x5_1 x6_1 l1 (l1.length : Int) x26_1 = some r) ∧ Aside0 (kq ≤ k) ∧ Aside0 (Kd.R (Kd.int .u64) 36 w' w.heap.size (fun _ => True) v107 x5_1) ∧ Aside0 (Below w.heap.size w w'))
 case atStart => exact ⟨(l0 ++ [0]), (0), (0), dF, dF, H', ⟨Nat.le_refl _⟩, ⟨dR HO108.out⟩, ⟨dB⟩⟩
 case round =>
  clear H'
  try clear c1
  try clear p2
  try clear c4
  try clear c4b0
  try clear c4b1
  try clear c5
  try clear c5b0
  try clear c5b1
  try clear p6
  obtain ⟨x5_1, x6_1, x26_1, rfl, rfl, HA, HK1, HO_5, HB⟩ := hrel
  cases gk with
  | zero => exact absurd HA.out (by simp [nat_sum.l0])
  | succ k1 =>
   have H := HA.out
   clear HA
   simp only [nat_sum.l0] at H
   by_cases c8 : x26_1 < (l1.length : Int)
   ·rw [if_pos c8] at H
    have c8b0 : decide (x26_1 < (l1.length : Int)) = true := decide_eq_true c8
    clear c8
    by_cases c9 : (0 : Int) ≤ x26_1
    ·rw [if_pos c9] at H
     have c9b0 : decide (0 ≤ x26_1) = true := decide_eq_true c9
     clear c9
     by_cases c10 : x26_1 < (l1.length : Int)
     ·rw [if_pos c10] at H
      have c10b0 : decide (x26_1 < (l1.length : Int)) = true := decide_eq_true c10
      clear c10
      by_cases c11 : x26_1 < (x5_1.length : Int)
      ·rw [if_pos c11] at H
       have c11b0 : decide (x26_1 < (x5_1.length : Int)) = true := decide_eq_true c11
       clear c11
       replace H := obe H
       obtain ⟨⟨t111, t112⟩, A120, H⟩ := H
       replace H : (nat_sum.l0 k1 l1 (x5_1.set (x26_1 : Int).toNat t111) t112 l1 (l1.length : Int) (wrap64 (x26_1 + 1))) = some r := H
       have A12 := Aside0.mk A120
       clear A120
       obtain ⟨y113, hy113⟩ : ∃ y_ : List Int, y_ = (x5_1.set (x26_1 : Int).toNat t111) := ⟨_, rfl⟩
       replace H : (nat_sum.l0 k1 l1 y113 t112 l1 (l1.length : Int) (wrap64 (x26_1 + 1))) = some r := by first | (rw [hy113]; with_reducible exact H) | (have H2_ := (Option.bind_some _ _).symm.trans H; rw [hy113]; with_reducible exact H2_) | (have H2_ := (Option.bind_some _ _).symm.trans H; with_reducible exact H2_) | with_reducible exact H | (rw [hy113]; exact H) | exact H
       have Ny113 := Aside0.mk hy113
       clear hy113
       have H' := Aside0.mk H
       clear H
       have p109 : 0 ≤ (x26_1 : Int) := of_decide_eq_true dS
       have q109 : x26_1 < (l1.length : Int) := of_decide_eq_true dS
       obtain ⟨ad109, e109, hx109_0⟩ := Kd.at_int HR1.out x26_1 p109 q109
       cases e109
       replace hx109_0 := (HB.out.cell (World.block_lt_of_cell? w _ hx109_0)).trans hx109_0
       replace p109 := eq_true p109
       replace q109 := eq_true q109
       obtain ⟨Ao14, co14, eo14⟩ := Kd.R_slice HO_5.out
       subst eo14
       have p110 : 0 ≤ (x26_1 : Int) := of_decide_eq_true dS
       have q110 : x26_1 < (x5_1.length : Int) := of_decide_eq_true dS
       obtain ⟨ad110, e110, hx110_0⟩ := Kd.at_int (Kd.R_reads' HO_5.out).2.2 x26_1 p110 q110
       cases e110
       replace p110 := eq_true p110
       replace q110 := eq_true q110
       go_wp2_with (first | ((with_reducible refine gate_callee (f := 27) rfl ?_); refine gL (some 40) Tryd.func27 #[.int .u64 (rd x5_1 x26_1), .int .u64 (rd l1 x26_1), .int .u64 x6_1] ?_; (with_reducible refine (wide_Add.calls (rd x5_1 x26_1) (rd l1 x26_1) x6_1 t111 t112 _ A12.out).mono ?_); rintro e w' ⟨rfl, ⟨nd, rfl⟩⟩; refine ⟨_, rfl, ?_⟩; (try (rw [drewN_self wr]; generalize hq_ : World.drewN wr _ = wr; have n0_ : Aside0 (Kd.R (Kd.int .u64) 36 wr w.heap.size (fun _ => True) (.slice (some ad110) x5_1.length co14) x5_1) := ⟨by rw [← hq_]; exact (dR HO_5.out)⟩; have n1_ : Aside0 (Below w.heap.size w wr) := ⟨by rw [← hq_]; exact dB⟩; clear HO_5 HB hq_; have HO_5 := n0_; have HB := n1_; clear n0_ n1_)); have p13 : 0 ≤ (x26_1 : Int) := of_decide_eq_true dS; have q13 : (x26_1 : Int) < ((x5_1.length : Int) : Int) := of_decide_eq_true dS; obtain ⟨go13, co13, eo13, gb13, gl13, cl13, HG13⟩ := Kd.R_form HO_5.out (by omega); (first | cases eo13 | (injection eo13 with ea_ en_ ec_; (first | subst ea_ | (injection ea_ with ea_; subst ea_)); subst ec_; clear en_)); have GB13 := Aside0.mk gb13; have GG13 := Aside0.mk HG13; clear gb13 gl13 HG13; (first | simp only [add_plain] at hx110_0 | skip); obtain ⟨hx13_0, hf13_0⟩ := Kd.R_celln 0 HO_5.out (x26_1 : Int) p13 q13; replace p13 := eq_true p13; replace q13 := eq_true q13; obtain ⟨hy15_, hz15_⟩ := Kd.R_celln 0 HO_5.out (x26_1 : Int) (of_decide_eq_true dS) (of_decide_eq_true dS); have HP15 := Kd.R_putg HO_5.out (x26_1 : Int) t111) | ((with_reducible refine gate_store (t := 36) (p := 43) rfl ?_); refine store_event (t := 36) (p := 43) (v := ?vo_w16) (w1 := (wr.setCell ⟨go13, (x26_1 : Int).toNat, none⟩ (.int .u64 t111))) ?hg ?ho ?hn ?hr ?_; (case ho => rfl); (case hg => rfl); (case hn => rfl); (case hr => first | (go_simp; done) | (go_simp; rfl)); intro w16 hw; have hg : wr.grownBy w16 (some go13) := (by rw [hw]; exact HP15.2); have hp_ : Kd.R (Kd.int .u64) 36 w16 w.heap.size (fun _ => True) (.slice (some ⟨go13, 0, none⟩) x5_1.length co14) y113 := (by rw [hw, Ny113.out]; exact HP15.1); clear HP15; replace HO_5 := Aside0.mk (hp_); replace HB := Aside0.mk ((by rw [hw]; exact below_set (HB.out) GB13.out : Below w.heap.size w w16)); clear hg hw hp_))
       go_roundg k1
       case measure => have := HK1.out; omega
       case rel => exact ⟨(y113), (t112), (wrap64 (x26_1 + 1)), dF, dF, H', ⟨by have := HK1.out; omega⟩, ⟨dR HO_5.out⟩, ⟨dB⟩⟩
      ·rw [if_neg c11] at H
       exact absurd H (by simp)
     ·rw [if_neg c10] at H
      exact absurd H (by simp)
    ·rw [if_neg c9] at H
     exact absurd H (by simp)
   ·rw [if_neg c8] at H
    have c8b0 : decide (x26_1 < (l1.length : Int)) = false := decide_eq_false c8
    clear c8
    have H' := Aside0.mk H
    clear H
    go_wp2
    go_loopg [6, 9] k1 (fun kq v6 v9 w' => ∃ (x5_2 : List Int) (x6_2 : Int) (x9_2 : Int), v6 = .int .u64 x6_2 ∧ v9 = .int .i64 x9_2 ∧ Aside0 (nat_sum.l1 kq x5_2 x6_2 x9_2 = some r) ∧ Aside0 (kq ≤ k1) ∧ Aside0 (Kd.R (Kd.int .u64) 36 w' w.heap.size (fun _ => True) v107 x5_2) ∧ Aside0 (Below w.heap.size w w'))
    case atStart => exact ⟨(x5_1), (x6_1), ((l1.length : Int)), dF, dF, H', ⟨Nat.le_refl _⟩, ⟨dR HO_5.out⟩, ⟨dB⟩⟩
    case round =>
     clear H'
     try clear c1
     try clear p1
     try clear q1
     try clear hx1
     try clear p2
     try clear c4
     try clear c4b0
     try clear c4b1
     try clear c5
     try clear c5b0
     try clear c5b1
     try clear p6
     try clear c8
     try clear c8b0
     try clear c9
     try clear c9b0
     try clear c10
     try clear c10b0
     try clear p10
     try clear q10
     try clear hx10
     try clear c11
     try clear c11b0
     try clear p11
     try clear q11
     try clear hx11
     try clear p13
     try clear q13
     try clear hx13
     try clear hf13
     try clear hx109_0
     try clear hx110_0
     try clear hx13_0
     try clear p109
     try clear p110
     try clear p13
     try clear p2
     try clear p6
     try clear q109
     try clear q110
     try clear q13
     obtain ⟨x5_2, x6_2, x9_2, rfl, rfl, HA, HK2, HO_5, HB⟩ := hrel
     cases gk with
     | zero => exact absurd HA.out (by simp [nat_sum.l1])
     | succ k2 =>
      have H := HA.out
      clear HA
      simp only [nat_sum.l1] at H
      by_cases c17 : x6_2 > 0
      ·rw [if_pos c17] at H
       have c17b0 : decide (0 < x6_2) = true := decide_eq_true c17
       clear c17
       by_cases c18 : (0 : Int) ≤ x9_2
       ·rw [if_pos c18] at H
        have c18b0 : decide (0 ≤ x9_2) = true := decide_eq_true c18
        clear c18
        by_cases c19 : x9_2 < (x5_2.length : Int)
        ·rw [if_pos c19] at H
         have c19b0 : decide (x9_2 < (x5_2.length : Int)) = true := decide_eq_true c19
         clear c19
         replace H := obe H
         obtain ⟨⟨t115, t116⟩, A200, H⟩ := H
         replace H : (nat_sum.l1 k2 (x5_2.set (x9_2 : Int).toNat t115) t116 (wrap64 (x9_2 + 1))) = some r := H
         have A20 := Aside0.mk A200
         clear A200
         obtain ⟨y117, hy117⟩ : ∃ y_ : List Int, y_ = (x5_2.set (x9_2 : Int).toNat t115) := ⟨_, rfl⟩
         replace H : (nat_sum.l1 k2 y117 t116 (wrap64 (x9_2 + 1))) = some r := by first | (rw [hy117]; with_reducible exact H) | (have H2_ := (Option.bind_some _ _).symm.trans H; rw [hy117]; with_reducible exact H2_) | (have H2_ := (Option.bind_some _ _).symm.trans H; with_reducible exact H2_) | with_reducible exact H | (rw [hy117]; exact H) | exact H
         have Ny117 := Aside0.mk hy117
         clear hy117
         have H' := Aside0.mk H
         clear H
         obtain ⟨Ao22, co22, eo22⟩ := Kd.R_slice HO_5.out
         subst eo22
         have p114 : 0 ≤ (x9_2 : Int) := of_decide_eq_true dS
         have q114 : x9_2 < (x5_2.length : Int) := of_decide_eq_true dS
         obtain ⟨ad114, e114, hx114_0⟩ := Kd.at_int (Kd.R_reads' HO_5.out).2.2 x9_2 p114 q114
         cases e114
         replace p114 := eq_true p114
         replace q114 := eq_true q114
         go_wp2_with (first | ((with_reducible refine gate_callee (f := 27) rfl ?_); refine gL (some 59) Tryd.func27 #[.int .u64 (rd x5_2 x9_2), .int .u64 0, .int .u64 x6_2] ?_; (with_reducible refine (wide_Add.calls (rd x5_2 x9_2) 0 x6_2 t115 t116 _ A20.out).mono ?_); rintro e w' ⟨rfl, ⟨nd, rfl⟩⟩; refine ⟨_, rfl, ?_⟩; (try (rw [drewN_self wr]; generalize hq_ : World.drewN wr _ = wr; have n0_ : Aside0 (Kd.R (Kd.int .u64) 36 wr w.heap.size (fun _ => True) (.slice (some ad114) x5_2.length co22) x5_2) := ⟨by rw [← hq_]; exact (dR HO_5.out)⟩; have n1_ : Aside0 (Below w.heap.size w wr) := ⟨by rw [← hq_]; exact dB⟩; clear HO_5 HB hq_; have HO_5 := n0_; have HB := n1_; clear n0_ n1_)); have p21 : 0 ≤ (x9_2 : Int) := of_decide_eq_true dS; have q21 : (x9_2 : Int) < ((x5_2.length : Int) : Int) := of_decide_eq_true dS; obtain ⟨go21, co21, eo21, gb21, gl21, cl21, HG21⟩ := Kd.R_form HO_5.out (by omega); (first | cases eo21 | (injection eo21 with ea_ en_ ec_; (first | subst ea_ | (injection ea_ with ea_; subst ea_)); subst ec_; clear en_)); have GB21 := Aside0.mk gb21; have GG21 := Aside0.mk HG21; clear gb21 gl21 HG21; (first | simp only [add_plain] at hx114_0 | skip); obtain ⟨hx21_0, hf21_0⟩ := Kd.R_celln 0 HO_5.out (x9_2 : Int) p21 q21; replace p21 := eq_true p21; replace q21 := eq_true q21; obtain ⟨hy23_, hz23_⟩ := Kd.R_celln 0 HO_5.out (x9_2 : Int) (of_decide_eq_true dS) (of_decide_eq_true dS); have HP23 := Kd.R_putg HO_5.out (x9_2 : Int) t115) | ((with_reducible refine gate_store (t := 36) (p := 62) rfl ?_); refine store_event (t := 36) (p := 62) (v := ?vo_w24) (w1 := (wr.setCell ⟨go21, (x9_2 : Int).toNat, none⟩ (.int .u64 t115))) ?hg ?ho ?hn ?hr ?_; (case ho => rfl); (case hg => rfl); (case hn => rfl); (case hr => first | (go_simp; done) | (go_simp; rfl)); intro w24 hw; have hg : wr.grownBy w24 (some go21) := (by rw [hw]; exact HP23.2); have hp_ : Kd.R (Kd.int .u64) 36 w24 w.heap.size (fun _ => True) (.slice (some ⟨go21, 0, none⟩) x5_2.length co22) y117 := (by rw [hw, Ny117.out]; exact HP23.1); clear HP23; replace HO_5 := Aside0.mk (hp_); replace HB := Aside0.mk ((by rw [hw]; exact below_set (HB.out) GB21.out : Below w.heap.size w w24)); clear hg hw hp_))
         go_roundg k2
         case measure => have := HK1.out; have := HK2.out; omega
         case rel => exact ⟨(y117), (t116), (wrap64 (x9_2 + 1)), dF, dF, H', ⟨by have := HK1.out; have := HK2.out; omega⟩, ⟨dR HO_5.out⟩, ⟨dB⟩⟩
        ·rw [if_neg c19] at H
         exact absurd H (by simp)
       ·rw [if_neg c18] at H
        exact absurd H (by simp)
      ·rw [if_neg c17] at H
       have c17b0 : decide (0 < x6_2) = false := decide_eq_false c17
       clear c17
       obtain rfl := Option.some.inj H
       go_wp2
       go_ret
       exact ⟨_, by first | rfl | (simp [errW_none, errW_some] <;> rfl) | (simp only [← hji3]; first | rfl | (simp [errW_none, errW_some] <;> rfl)) | (simp [*, errW_none, errW_some] <;> rfl), dR HO_5.out, dB⟩
set_option maxHeartbeats 8000000 in
set_option maxRecDepth 100000 in
theorem nat_sum.coreB (k : Nat) (A0 : Option Addr) (c0 : Nat) (l0 : List Int) (A1 : Option Addr) (c1 : Nat) (l1 : List Int) (r : List Int) (w : World) (hr0 : Kd.C (Kd.int .u64) w A0 l0.length l0) (hr1 : Kd.C (Kd.int .u64) w A1 l1.length l1) (hlen : l0.length < 35184372088832) (g : decide (l1.length < l0.length) = true) (h : nat_sum.l0 k l1 (l0 ++ [0]) 0 l1 (l1.length : Int) 0 = some r) :
  Calls Tryd.prog 30 #[.slice A1 l1.length c1, .slice A0 l0.length c0] w fun e w' => ∃ v0_ : Value, e = .returned (v0_) ∧ Kd.R (Kd.int .u64) 36 w' w.heap.size (fun _ => True) v0_ r ∧ Below w.heap.size w w' := by
 have HR0 := Aside0.mk hr0
 have HR1 := Aside0.mk hr1
 clear hr0 hr1
 have H' := Aside0.mk h
 clear h
 go_enter Tryd.func30, Tryd.ntmps30
 go_wp2_with (first
  | ((with_reducible refine gate_dst (N := 20) rfl ?_); refine Kd.R_make (Kd.int .u64) _ 36 rfl (N := 20) rfl 22 _ _ rfl ((l0.length : Int) + 1) rfl rfl Tryd.underlying22 (.int .u64 0) 8 info36 rfl (by decide) (by omega) 0 (ok := fun _ => True) (okp := fun _ => True) rfl (fun _ hk => hk) trivial (by omega) (by omega) (Below.refl _ _) (Nat.le_refl _) ?_; intro v107 w6 ho7 hb hg_ hnew_; clear hg_ hnew_; have HO107 := Aside0.mk (show Kd.R (Kd.int .u64) 36 w6 w.heap.size (fun _ => True) v107 (List.replicate (l0.length + 1) 0) from ho7); have HB := Aside0.mk hb; clear hb ho7)
  | ((with_reducible refine gate_dst (N := 23) rfl ?_); refine Kd.R_copy (enc := Value.int .u64) (h1 := fun _ => rfl) (0 : Int) w.heap.size rfl (.tmp 21) (.tmp 22) 22 22 36 rfl Tryd.underlying22 (by kernel_rfl) v107 (List.replicate (l0.length + 1) 0) l0 A0 l0.length c0 (fun _ => True) rfl rfl HO107.out (Kd.C_below HR0.out HB.out) HB.out HB.out.size ?_; intro w7 ho8 hb _; rw [sum_copied] at ho8; have HO108 := Aside0.mk ho8; clear HO107 HB; have HB := Aside0.mk hb; clear hb ho8))
 go_loopg [6, 26] k (fun kq v6 v26 w' => ∃ (x5_1 : List Int) (x6_1 : Int) (x26_1 : Int), v6 = .int .u64 x6_1 ∧ v26 = .int .i64 x26_1 ∧ Aside0 (nat_sum.l0 kq l1 x5_1 x6_1 l1 (l1.length : Int) x26_1 = some r) ∧ Aside0 (kq ≤ k) ∧ Aside0 (Kd.R (Kd.int .u64) 36 w' w.heap.size (fun _ => True) v107 x5_1) ∧ Aside0 (Below w.heap.size w w'))
 case atStart => exact ⟨(l0 ++ [0]), (0), (0), dF, dF, H', ⟨Nat.le_refl _⟩, ⟨dR HO108.out⟩, ⟨dB⟩⟩
 case round =>
  clear H'
  try clear c1
  try clear p2
  try clear c4
  try clear c4b0
  try clear c4b1
  try clear c5
  try clear c5b0
  try clear c5b1
  try clear p6
  obtain ⟨x5_1, x6_1, x26_1, rfl, rfl, HA, HK1, HO_5, HB⟩ := hrel
  cases gk with
  | zero => exact absurd HA.out (by simp [nat_sum.l0])
  | succ k1 =>
   have H := HA.out
   clear HA
   simp only [nat_sum.l0] at H
   by_cases c8 : x26_1 < (l1.length : Int)
   ·rw [if_pos c8] at H
    have c8b0 : decide (x26_1 < (l1.length : Int)) = true := decide_eq_true c8
    clear c8
    by_cases c9 : (0 : Int) ≤ x26_1
    ·rw [if_pos c9] at H
     have c9b0 : decide (0 ≤ x26_1) = true := decide_eq_true c9
     clear c9
     by_cases c10 : x26_1 < (l1.length : Int)
     ·rw [if_pos c10] at H
      have c10b0 : decide (x26_1 < (l1.length : Int)) = true := decide_eq_true c10
      clear c10
      by_cases c11 : x26_1 < (x5_1.length : Int)
      ·rw [if_pos c11] at H
       have c11b0 : decide (x26_1 < (x5_1.length : Int)) = true := decide_eq_true c11
       clear c11
       replace H := obe H
       obtain ⟨⟨t111, t112⟩, A120, H⟩ := H
       replace H : (nat_sum.l0 k1 l1 (x5_1.set (x26_1 : Int).toNat t111) t112 l1 (l1.length : Int) (wrap64 (x26_1 + 1))) = some r := H
       have A12 := Aside0.mk A120
       clear A120
       obtain ⟨y113, hy113⟩ : ∃ y_ : List Int, y_ = (x5_1.set (x26_1 : Int).toNat t111) := ⟨_, rfl⟩
       replace H : (nat_sum.l0 k1 l1 y113 t112 l1 (l1.length : Int) (wrap64 (x26_1 + 1))) = some r := by first | (rw [hy113]; with_reducible exact H) | (have H2_ := (Option.bind_some _ _).symm.trans H; rw [hy113]; with_reducible exact H2_) | (have H2_ := (Option.bind_some _ _).symm.trans H; with_reducible exact H2_) | with_reducible exact H | (rw [hy113]; exact H) | exact H
       have Ny113 := Aside0.mk hy113
       clear hy113
       have H' := Aside0.mk H
       clear H
       have p109 : 0 ≤ (x26_1 : Int) := of_decide_eq_true dS
       have q109 : x26_1 < (l1.length : Int) := of_decide_eq_true dS
       obtain ⟨ad109, e109, hx109_0⟩ := Kd.at_int HR1.out x26_1 p109 q109
       cases e109
       replace hx109_0 := (HB.out.cell (World.block_lt_of_cell? w _ hx109_0)).trans hx109_0
       replace p109 := eq_true p109
       replace q109 := eq_true q109
       obtain ⟨Ao14, co14, eo14⟩ := Kd.R_slice HO_5.out
       subst eo14
       have p110 : 0 ≤ (x26_1 : Int) := of_decide_eq_true dS
       have q110 : x26_1 < (x5_1.length : Int) := of_decide_eq_true dS
       obtain ⟨ad110, e110, hx110_0⟩ := Kd.at_int (Kd.R_reads' HO_5.out).2.2 x26_1 p110 q110
       cases e110
       replace p110 := eq_true p110
       replace q110 := eq_true q110
       go_wp2_with (first | ((with_reducible refine gate_callee (f := 27) rfl ?_); refine gL (some 40) Tryd.func27 #[.int .u64 (rd x5_1 x26_1), .int .u64 (rd l1 x26_1), .int .u64 x6_1] ?_; (with_reducible refine (wide_Add.calls (rd x5_1 x26_1) (rd l1 x26_1) x6_1 t111 t112 _ A12.out).mono ?_); rintro e w' ⟨rfl, ⟨nd, rfl⟩⟩; refine ⟨_, rfl, ?_⟩; (try (rw [drewN_self wr]; generalize hq_ : World.drewN wr _ = wr; have n0_ : Aside0 (Kd.R (Kd.int .u64) 36 wr w.heap.size (fun _ => True) (.slice (some ad110) x5_1.length co14) x5_1) := ⟨by rw [← hq_]; exact (dR HO_5.out)⟩; have n1_ : Aside0 (Below w.heap.size w wr) := ⟨by rw [← hq_]; exact dB⟩; clear HO_5 HB hq_; have HO_5 := n0_; have HB := n1_; clear n0_ n1_)); have p13 : 0 ≤ (x26_1 : Int) := of_decide_eq_true dS; have q13 : (x26_1 : Int) < ((x5_1.length : Int) : Int) := of_decide_eq_true dS; obtain ⟨go13, co13, eo13, gb13, gl13, cl13, HG13⟩ := Kd.R_form HO_5.out (by omega); (first | cases eo13 | (injection eo13 with ea_ en_ ec_; (first | subst ea_ | (injection ea_ with ea_; subst ea_)); subst ec_; clear en_)); have GB13 := Aside0.mk gb13; have GG13 := Aside0.mk HG13; clear gb13 gl13 HG13; (first | simp only [add_plain] at hx110_0 | skip); obtain ⟨hx13_0, hf13_0⟩ := Kd.R_celln 0 HO_5.out (x26_1 : Int) p13 q13; replace p13 := eq_true p13; replace q13 := eq_true q13; obtain ⟨hy15_, hz15_⟩ := Kd.R_celln 0 HO_5.out (x26_1 : Int) (of_decide_eq_true dS) (of_decide_eq_true dS); have HP15 := Kd.R_putg HO_5.out (x26_1 : Int) t111) | ((with_reducible refine gate_store (t := 36) (p := 43) rfl ?_); refine store_event (t := 36) (p := 43) (v := ?vo_w16) (w1 := (wr.setCell ⟨go13, (x26_1 : Int).toNat, none⟩ (.int .u64 t111))) ?hg ?ho ?hn ?hr ?_; (case ho => rfl); (case hg => rfl); (case hn => rfl); (case hr => first | (go_simp; done) | (go_simp; rfl)); intro w16 hw; have hg : wr.grownBy w16 (some go13) := (by rw [hw]; exact HP15.2); have hp_ : Kd.R (Kd.int .u64) 36 w16 w.heap.size (fun _ => True) (.slice (some ⟨go13, 0, none⟩) x5_1.length co14) y113 := (by rw [hw, Ny113.out]; exact HP15.1); clear HP15; replace HO_5 := Aside0.mk (hp_); replace HB := Aside0.mk ((by rw [hw]; exact below_set (HB.out) GB13.out : Below w.heap.size w w16)); clear hg hw hp_))
       go_roundg k1
       case measure => have := HK1.out; omega
       case rel => exact ⟨(y113), (t112), (wrap64 (x26_1 + 1)), dF, dF, H', ⟨by have := HK1.out; omega⟩, ⟨dR HO_5.out⟩, ⟨dB⟩⟩
      ·rw [if_neg c11] at H
       exact absurd H (by simp)
     ·rw [if_neg c10] at H
      exact absurd H (by simp)
    ·rw [if_neg c9] at H
     exact absurd H (by simp)
   ·rw [if_neg c8] at H
    have c8b0 : decide (x26_1 < (l1.length : Int)) = false := decide_eq_false c8
    clear c8
    have H' := Aside0.mk H
    clear H
    go_wp2
    go_loopg [6, 9] k1 (fun kq v6 v9 w' => ∃ (x5_2 : List Int) (x6_2 : Int) (x9_2 : Int), v6 = .int .u64 x6_2 ∧ v9 = .int .i64 x9_2 ∧ Aside0 (nat_sum.l1 kq x5_2 x6_2 x9_2 = some r) ∧ Aside0 (kq ≤ k1) ∧ Aside0 (Kd.R (Kd.int .u64) 36 w' w.heap.size (fun _ => True) v107 x5_2) ∧ Aside0 (Below w.heap.size w w'))
    case atStart => exact ⟨(x5_1), (x6_1), ((l1.length : Int)), dF, dF, H', ⟨Nat.le_refl _⟩, ⟨dR HO_5.out⟩, ⟨dB⟩⟩
    case round =>
     clear H'
     try clear c1
     try clear p1
     try clear q1
     try clear hx1
     try clear p2
     try clear c4
     try clear c4b0
     try clear c4b1
     try clear c5
     try clear c5b0
     try clear c5b1
     try clear p6
     try clear c8
     try clear c8b0
     try clear c9
     try clear c9b0
     try clear c10
     try clear c10b0
     try clear p10
     try clear q10
     try clear hx10
     try clear c11
     try clear c11b0
     try clear p11
     try clear q11
     try clear hx11
     try clear p13
     try clear q13
     try clear hx13
     try clear hf13
     try clear hx109_0
     try clear hx110_0
     try clear hx13_0
     try clear p109
     try clear p110
     try clear p13
     try clear p2
     try clear p6
     try clear q109
     try clear q110
     try clear q13
     obtain ⟨x5_2, x6_2, x9_2, rfl, rfl, HA, HK2, HO_5, HB⟩ := hrel
     cases gk with
     | zero => exact absurd HA.out (by simp [nat_sum.l1])
     | succ k2 =>
      have H := HA.out
      clear HA
      simp only [nat_sum.l1] at H
      by_cases c17 : x6_2 > 0
      ·rw [if_pos c17] at H
       have c17b0 : decide (0 < x6_2) = true := decide_eq_true c17
       clear c17
       by_cases c18 : (0 : Int) ≤ x9_2
       ·rw [if_pos c18] at H
        have c18b0 : decide (0 ≤ x9_2) = true := decide_eq_true c18
        clear c18
        by_cases c19 : x9_2 < (x5_2.length : Int)
        ·rw [if_pos c19] at H
         have c19b0 : decide (x9_2 < (x5_2.length : Int)) = true := decide_eq_true c19
         clear c19
         replace H := obe H
         obtain ⟨⟨t115, t116⟩, A200, H⟩ := H
         replace H : (nat_sum.l1 k2 (x5_2.set (x9_2 : Int).toNat t115) t116 (wrap64 (x9_2 + 1))) = some r := H
         have A20 := Aside0.mk A200
         clear A200
         obtain ⟨y117, hy117⟩ : ∃ y_ : List Int, y_ = (x5_2.set (x9_2 : Int).toNat t115) := ⟨_, rfl⟩
         replace H : (nat_sum.l1 k2 y117 t116 (wrap64 (x9_2 + 1))) = some r := by first | (rw [hy117]; with_reducible exact H) | (have H2_ := (Option.bind_some _ _).symm.trans H; rw [hy117]; with_reducible exact H2_) | (have H2_ := (Option.bind_some _ _).symm.trans H; with_reducible exact H2_) | with_reducible exact H | (rw [hy117]; exact H) | exact H
         have Ny117 := Aside0.mk hy117
         clear hy117
         have H' := Aside0.mk H
         clear H
         obtain ⟨Ao22, co22, eo22⟩ := Kd.R_slice HO_5.out
         subst eo22
         have p114 : 0 ≤ (x9_2 : Int) := of_decide_eq_true dS
         have q114 : x9_2 < (x5_2.length : Int) := of_decide_eq_true dS
         obtain ⟨ad114, e114, hx114_0⟩ := Kd.at_int (Kd.R_reads' HO_5.out).2.2 x9_2 p114 q114
         cases e114
         replace p114 := eq_true p114
         replace q114 := eq_true q114
         go_wp2_with (first | ((with_reducible refine gate_callee (f := 27) rfl ?_); refine gL (some 59) Tryd.func27 #[.int .u64 (rd x5_2 x9_2), .int .u64 0, .int .u64 x6_2] ?_; (with_reducible refine (wide_Add.calls (rd x5_2 x9_2) 0 x6_2 t115 t116 _ A20.out).mono ?_); rintro e w' ⟨rfl, ⟨nd, rfl⟩⟩; refine ⟨_, rfl, ?_⟩; (try (rw [drewN_self wr]; generalize hq_ : World.drewN wr _ = wr; have n0_ : Aside0 (Kd.R (Kd.int .u64) 36 wr w.heap.size (fun _ => True) (.slice (some ad114) x5_2.length co22) x5_2) := ⟨by rw [← hq_]; exact (dR HO_5.out)⟩; have n1_ : Aside0 (Below w.heap.size w wr) := ⟨by rw [← hq_]; exact dB⟩; clear HO_5 HB hq_; have HO_5 := n0_; have HB := n1_; clear n0_ n1_)); have p21 : 0 ≤ (x9_2 : Int) := of_decide_eq_true dS; have q21 : (x9_2 : Int) < ((x5_2.length : Int) : Int) := of_decide_eq_true dS; obtain ⟨go21, co21, eo21, gb21, gl21, cl21, HG21⟩ := Kd.R_form HO_5.out (by omega); (first | cases eo21 | (injection eo21 with ea_ en_ ec_; (first | subst ea_ | (injection ea_ with ea_; subst ea_)); subst ec_; clear en_)); have GB21 := Aside0.mk gb21; have GG21 := Aside0.mk HG21; clear gb21 gl21 HG21; (first | simp only [add_plain] at hx114_0 | skip); obtain ⟨hx21_0, hf21_0⟩ := Kd.R_celln 0 HO_5.out (x9_2 : Int) p21 q21; replace p21 := eq_true p21; replace q21 := eq_true q21; obtain ⟨hy23_, hz23_⟩ := Kd.R_celln 0 HO_5.out (x9_2 : Int) (of_decide_eq_true dS) (of_decide_eq_true dS); have HP23 := Kd.R_putg HO_5.out (x9_2 : Int) t115) | ((with_reducible refine gate_store (t := 36) (p := 62) rfl ?_); refine store_event (t := 36) (p := 62) (v := ?vo_w24) (w1 := (wr.setCell ⟨go21, (x9_2 : Int).toNat, none⟩ (.int .u64 t115))) ?hg ?ho ?hn ?hr ?_; (case ho => rfl); (case hg => rfl); (case hn => rfl); (case hr => first | (go_simp; done) | (go_simp; rfl)); intro w24 hw; have hg : wr.grownBy w24 (some go21) := (by rw [hw]; exact HP23.2); have hp_ : Kd.R (Kd.int .u64) 36 w24 w.heap.size (fun _ => True) (.slice (some ⟨go21, 0, none⟩) x5_2.length co22) y117 := (by rw [hw, Ny117.out]; exact HP23.1); clear HP23; replace HO_5 := Aside0.mk (hp_); replace HB := Aside0.mk ((by rw [hw]; exact below_set (HB.out) GB21.out : Below w.heap.size w w24)); clear hg hw hp_))
         go_roundg k2
         case measure => have := HK1.out; have := HK2.out; omega
         case rel => exact ⟨(y117), (t116), (wrap64 (x9_2 + 1)), dF, dF, H', ⟨by have := HK1.out; have := HK2.out; omega⟩, ⟨dR HO_5.out⟩, ⟨dB⟩⟩
        ·rw [if_neg c19] at H
         exact absurd H (by simp)
       ·rw [if_neg c18] at H
        exact absurd H (by simp)
      ·rw [if_neg c17] at H
       have c17b0 : decide (0 < x6_2) = false := decide_eq_false c17
       clear c17
       obtain rfl := Option.some.inj H
       go_wp2
       go_ret
       exact ⟨_, by first | rfl | (simp [errW_none, errW_some] <;> rfl) | (simp only [← hji3]; first | rfl | (simp [errW_none, errW_some] <;> rfl)) | (simp [*, errW_none, errW_some] <;> rfl), dR HO_5.out, dB⟩
theorem rd_eq (xs : List Int) (n : Nat) : rd xs (n : Int) = xs.getD n 0 := rfl
theorem nat_sum.l1_eq (N : Int) (m : Nat) (hN : N < 2 ^ (64 * m)) : ∀ (d k : Nat) (os : List Int) (c : Int) (i : Nat), d = m - i → d < k → m < 35184372088833 → i ≤ m → os.length = m → Ws os → 0 ≤ c → c ≤ 1 → nv os + c * 2 ^ (64 * i) = N →
  nat_sum.l1 k os c i = some (wn m N) := by
 intro d
 induction d with
 | zero =>
  intro k os c i hd hk hm hi hl hw hc0 hc1 hv
  obtain ⟨k, rfl⟩ : ∃ j, k = j + 1 := ⟨k - 1, by omega⟩
  obtain rfl : i = m := by omega
  have hn := nv_nonneg hw
  have hc : c = 0 := by
   apply Classical.byContradiction
   intro h
   have : c = 1 := by omega
   subst this
   omega
  subst hc
  simp only [nat_sum.l1]
  rw [if_neg (by omega)]
  congr 1
  rw [Int.zero_mul, Int.add_zero] at hv
  rw [← hv]
  exact eq_wn hw hl
 | succ d ih =>
  intro k os c i hd hk hm hi hl hw hc0 hc1 hv
  obtain ⟨k, rfl⟩ : ∃ j, k = j + 1 := ⟨k - 1, by omega⟩
  simp only [nat_sum.l1]
  by_cases hc : c = 0
  ·subst hc
   rw [if_neg (by omega)]
   congr 1
   rw [Int.zero_mul, Int.add_zero] at hv
   rw [← hv]
   exact eq_wn hw hl
  ·have h1 : c = 1 := by omega
   subst h1
   have ho := hw.getD i
   rw [if_pos (by omega), if_pos (by omega), if_pos (by omega), rd_eq, wide_Add.f_eq ho.1 ho.2 (by omega) (by omega) (by omega) (by omega)]
   simp only [Option.bind_some]
   have ew : wrap64 ((i : Int) + 1) = ((i + 1 : Nat) : Int) := by unfold wrap64; omega
   rw [ew, Int.toNat_natCast]
   clear ew
   refine ih k _ _ _ (by omega) (by omega) hm (by omega) (by rw [List.length_set, hl]) (hw.set _ (by omega) (by omega)) (by omega) (by omega) ?_
   rw [nv_set (by omega), pow64, ← hv]
   generalize (2 : Int) ^ (64 * i) = p
   generalize os.getD i 0 = o at *
   have e : (o + 0 + 1) % 18446744073709551616 + 18446744073709551616 * ((o + 0 + 1) / 18446744073709551616) = o + 1 := by omega
   generalize (o + 0 + 1) % 18446744073709551616 = u at *
   generalize (o + 0 + 1) / 18446744073709551616 = v at *
   obtain rfl : u = o + 1 - 18446744073709551616 * v := by omega
   grind
theorem nat_sum.l0_eq (l1 : List Int) (N : Int) (m : Nat) (hN : N < 2 ^ (64 * m)) (hm : m < 35184372088833) (h1 : Ws l1) (hlm : l1.length < m) : ∀ (d k : Nat) (os : List Int) (c : Int) (i : Nat), d = l1.length - i → d + m + 1 < k → i ≤ l1.length → os.length = m → Ws os → 0 ≤ c → c ≤ 1 → nv os + c * 2 ^ (64 * i) + nv l1 = N + nv (l1.take i) →
  nat_sum.l0 k l1 os c l1 (l1.length : Int) i = some (wn m N) := by
 intro d
 induction d with
 | zero =>
  intro k os c i hd hk hi hl hw hc0 hc1 hv
  obtain ⟨k, rfl⟩ : ∃ j, k = j + 1 := ⟨k - 1, by omega⟩
  obtain rfl : i = l1.length := by omega
  rw [List.take_length] at hv
  simp only [nat_sum.l0]
  rw [if_neg (by omega)]
  exact nat_sum.l1_eq N m hN (m - l1.length) k os c l1.length rfl (by omega) hm (by omega) hl hw hc0 hc1 (by omega)
 | succ d ih =>
  intro k os c i hd hk hi hl hw hc0 hc1 hv
  obtain ⟨k, rfl⟩ : ∃ j, k = j + 1 := ⟨k - 1, by omega⟩
  simp only [nat_sum.l0]
  have ho := hw.getD i
  have hy := h1.getD i
  rw [if_pos (by omega), if_pos (by omega), if_pos (by omega), if_pos (by omega), rd_eq, rd_eq, wide_Add.f_eq ho.1 ho.2 hy.1 hy.2 hc0 hc1]
  simp only [Option.bind_some]
  have ew : wrap64 ((i : Int) + 1) = ((i + 1 : Nat) : Int) := by unfold wrap64; omega
  rw [ew, Int.toNat_natCast]
  clear ew
  refine ih k _ _ _ (by omega) (by omega) (by omega) (by rw [List.length_set, hl]) (hw.set _ (by omega) (by omega)) (by omega) (by omega) ?_
  rw [nv_set (by omega), pow64, nv_take_succ (by omega)]
  generalize (2 : Int) ^ (64 * i) = p at *
  generalize os.getD i 0 = o at *
  generalize l1.getD i 0 = y at *
  have e : (o + y + c) % 18446744073709551616 + 18446744073709551616 * ((o + y + c) / 18446744073709551616) = o + y + c := by omega
  generalize (o + y + c) % 18446744073709551616 = u at *
  generalize (o + y + c) / 18446744073709551616 = v at *
  obtain rfl : u = o + y + c - 18446744073709551616 * v := by omega
  grind
theorem nat_sum.go {l0 l1 : List Int} (h0 : Ws l0) (h1 : Ws l1) (hl : l1.length ≤ l0.length) (hb : l0.length < 35184372088832) :
  ∃ k, nat_sum.l0 k l1 (l0 ++ [0]) 0 l1 (l1.length : Int) 0 = some (wn (l0.length + 1) (nv l0 + nv l1)) := by
 have e0 := nv_lt h0
 have e1 := nv_lt h1
 have ep : (2 : Int) ^ (64 * l1.length) ≤ 2 ^ (64 * l0.length) := by
  rw [p2cast, p2cast]; exact Int.ofNat_le.2 (Nat.pow_le_pow_right (by omega) (by omega))
 have hp := pow64 l0.length
 have hp0 := two_pow_pos (64 * l0.length)
 refine ⟨l1.length + (l0.length + 1) + 2, ?_⟩
 refine nat_sum.l0_eq l1 _ (l0.length + 1) (by omega) (by omega) h1 (by omega) l1.length _ (l0 ++ [0]) 0 0 (by omega) (by omega) (by omega) (by simp) (h0.append (Ws.cons (by omega) (by omega) Ws.nil)) (by omega) (by omega) ?_
 rw [nv_append]
 simp [nv]
theorem nat_sum.calls (A0 : Option Addr) (c0 : Nat) (l0 : List Int) (A1 : Option Addr) (c1 : Nat) (l1 : List Int) (r : List Int) (w : World) (hr0 : Kd.C (Kd.int .u64) w A0 l0.length l0) (hc0 : l0.length ≤ c0) (hr1 : Kd.C (Kd.int .u64) w A1 l1.length l1) (hc1 : l1.length ≤ c1) (h : nat_sum.f l0 l1 = some r) :
  Calls Tryd.prog 30 #[.slice A0 l0.length c0, .slice A1 l1.length c1] w fun e w' => ∃ v0_ : Value, e = .returned (v0_) ∧ Kd.R (Kd.int .u64) 36 w' w.heap.size (fun _ => True) v0_ r ∧ Below w.heap.size w w' := by
 unfold nat_sum.f at h
 split at h
 case isFalse => cases h
 rename_i hh
 rw [wsB_iff, wsB_iff] at hh
 obtain ⟨h0, h1, hb0, hb1⟩ := hh
 injection h with h
 subst h
 by_cases hl : l1.length ≤ l0.length
 ·obtain ⟨k, hk⟩ := nat_sum.go h0 h1 hl hb0
  rw [Nat.max_eq_left hl]
  exact nat_sum.coreA k A0 c0 l0 A1 c1 l1 _ w hr0 hr1 hb0 (decide_eq_false (by omega)) hk
 ·obtain ⟨k, hk⟩ := nat_sum.go h1 h0 (by omega) hb1
  rw [Nat.max_eq_right (by omega), Int.add_comm]
  exact nat_sum.coreB k A1 c1 l1 A0 c0 l0 _ w hr1 hr0 hb1 (decide_eq_true (by omega)) hk
def nat_Add.f (k : Nat) (l0 : List Int) (l1 : List Int) : Option (List Int × Int) := (nat_sum.f l0 l1).bind fun t115 => ((nat_bound.f k t115).bind fun bt118 => (some (bt118.1, bt118.2)))
theorem nat_Add.mono : ∀ a0 a1 k, LeO (nat_Add.f k a0 a1) (nat_Add.f (k + 1) a0 a1) := by
 intro a0 a1 k
 unfold nat_Add.f
 have m0_ := nat_bound.mono
 exact mX
set_option maxHeartbeats 8000000 in
set_option maxRecDepth 100000 in
theorem nat_Add.calls (k : Nat) (A0 : Option Addr) (c0 : Nat) (l0 : List Int) (A1 : Option Addr) (c1 : Nat) (l1 : List Int) (r1 : List Int) (r2 : Int) (w : World) (hr0 : Kd.C (Kd.int .u64) w A0 l0.length l0) (hc0 : l0.length ≤ c0) (hr1 : Kd.C (Kd.int .u64) w A1 l1.length l1) (hc1 : l1.length ≤ c1) (h : nat_Add.f k l0 l1 = some (r1, r2)) :
  Calls Tryd.prog 15 #[.slice A0 l0.length c0, .slice A1 l1.length c1] w fun e w' => ∃ v0_ : Value, e = .returned (.tuple #[v0_, .int .i64 r2]) ∧ Kd.R (Kd.int .u64) 36 w' w.heap.size (fun _ => True) v0_ r1 ∧ Below w.heap.size w w' := by
 have HR0 := aM hr0
 have HC0 := aM hc0
 clear hr0 hc0
 have HR1 := aM hr1
 have HC1 := aM hc1
 clear hr1 hc1
 have HB := aM (Below.refl w.heap.size w)
 have H := h
 clear h
 unfold nat_Add.f at H
 replace H := oA H
 obtain ⟨t115, A3, H⟩ := H
 (try dsimp only at H)
 replace H := oA H
 obtain ⟨⟨t118, t121⟩, A4, H⟩ := H
 (try dsimp only at H)
 simp only [Option.some.injEq, Prod.mk.injEq] at H
 obtain ⟨rfl, rfl⟩ := H
 go_enter Tryd.func15, Tryd.ntmps15
 go_wp2_with (first | ((with_reducible refine gate_callee (f := 30) rfl ?_); refine gL (some 8) Tryd.func30 #[.slice A0 l0.length c0, .slice A1 l1.length c1] ?_; (with_reducible refine (nat_sum.calls _ _ l0 _ _ l1 t115 _ ?side1 HC0.out ?side3 HC1.out A3.out).mono ?_); (case side1 => exact dC HR0.out); (case side3 => exact dC HR1.out); rintro e w5 ⟨v116, rfl, ho0, hb⟩; refine ⟨_, rfl, ?_⟩; have HO117 := aM (Kd.R_lower ho0 (below_size dB)); replace HB := hS HB.out hb; (try clear hb); (try clear ho0); obtain ⟨Ao6, co6, rfl⟩ := Kd.R_slice HO117.out) | ((with_reducible refine gate_callee (f := 28) rfl ?_); refine gL (some 9) Tryd.func28 #[.slice Ao6 t115.length co6] ?_; (with_reducible refine (nat_bound.calls k (fun k_ => some k_ = (.slice Ao6 t115.length co6 : Value).ownBlock) (.slice Ao6 t115.length co6) t115 t118 t121 w _ ?side1 ?side2 A4.out).mono ?_); (case side1 => repeat (first | (with_reducible first | exact HB.out | apply below_alloc | apply pw_below_drewN | apply below_drew1) | exact HB.out)); (case side2 => exact Kd.R_tight rfl HO117.out); rintro e w7 ⟨v119, rfl, ho0, hb, hkp⟩; refine ⟨_, rfl, ?_⟩; have HO120 := aM (Kd.R_mono (ok' := fun k_ => True) ho0 (fun k_ hk_ => trivial)); replace HB := aM (hb); clear HO117; (try clear hb); (try clear hkp); (try clear ho0)))
 go_ret2
 exact ⟨_, dE, dR HO120.out, dB⟩
def radix_word.l0 : Nat → ByteArray → Int → Nat → Int → Option Int
 | 0, _, _, _, _ => none
 | k + 1, s, b, pos, acc => if pos < s.size then (radix_value.f 8 ((Utf8.decode s pos).1 : Int)).bind fun v => radix_word.l0 k s b (pos + (Utf8.decode s pos).2) (IntKind.u64.wrap (IntKind.u64.wrap (acc * IntKind.u64.wrap b) + v)) else some acc
def radix_word.f (s : ByteArray) (b : Int) : Option Int := radix_word.l0 (s.size + 1) s b 0 0
theorem rune_width (s : ByteArray) (pos : Nat) (h : pos < s.size) : 1 ≤ (Utf8.decode s pos).2 := by
 by_cases ha : (s[pos]'h).toNat < 128
 ·rw [decode_ascii s pos h ha]
  exact Nat.le_refl _
 ·exact (decode_high s pos h (by omega)).2
theorem iter_drewN (w : World) (a b : Nat) (s : ByteArray) (p : Nat) : ((w.drewN a).iter s p).drewN b = (w.drewN (a + b)).iter s p := by
 simp [World.iter, World.alloc, World.drewN, Nat.add_assoc]
set_option maxHeartbeats 8000000 in
set_option maxRecDepth 100000 in
theorem radix_word.calls (s : ByteArray) (a1 : Int) (r : Int) (w : World) (h : radix_word.f s a1 = some r) :
  Calls Tryd.prog 16 #[.string s, .int .i64 a1] w fun e w' => e = .returned (.int .u64 r) ∧ Below w.heap.size w w' := by
 have H' := aM (show radix_word.l0 (s.size + 1) s a1 0 0 = some r from h)
 clear h
 go_enter Tryd.func16, Tryd.ntmps16
 go_wp2
 go_loopw [5] (fun n w' => ∃ (pos k nd : Nat) (acc : Int), w' = (w.drewN nd).iter s pos ∧ n = .int .u64 acc ∧ Aside0 (radix_word.l0 k s a1 pos acc = some r)) (fun _ w' => s.size - w'.iterPos w.heap.size)
 case atStart => exact ⟨0, s.size + 1, 0, 0, rfl, rfl, H'⟩
 case round =>
  clear H'
  obtain ⟨pos, k, nd, acc, rfl, rfl, HA⟩ := hrel
  cases k with
  | zero => exact absurd HA.out (by simp [radix_word.l0])
  | succ k =>
   have H := HA.out
   clear HA
   simp only [radix_word.l0] at H
   by_cases hp : pos < s.size
   ·rw [if_pos hp] at H
    replace H := obe H
    obtain ⟨v, A1, H⟩ := H
    have A10 := aM A1
    have HN := aM H
    clear A1 H
    have hnx : ∀ ty, (Instr.next (.pointer (some ⟨w.heap.size, 0, none⟩)) true ty).run Tryd.prog ((w.drewN nd).iter s pos) = _ := fun ty => run_next_any (w.drewN nd) s pos ty hp
    go_wp2_with (fail)
    refine (radix_value.calls 8 _ v _ A10.out).mono ?_
    rintro e w' ⟨rfl, ⟨nq, rfl⟩⟩
    go_wp2
    have hwd := rune_width s pos hp
    go_roundw
    case rel => exact ⟨pos + (Utf8.decode s pos).2, k, nd + nq, _, iter_drewN w nd nq s _, rfl, HN⟩
    case measure =>
     have e1 : World.iterPos (((w.drewN nd).iter s (pos + (Utf8.decode s pos).2)).drewN nq) w.heap.size = pos + (Utf8.decode s pos).2 := World.iterPos_iter (w.drewN nd) s _
     have e2 : World.iterPos ((w.drewN nd).iter s pos) w.heap.size = pos := World.iterPos_iter (w.drewN nd) s _
     rw [e1, e2]
     omega
   ·rw [if_neg hp] at H
    obtain rfl := Option.some.inj H
    have hnx : ∀ ty, (Instr.next (.pointer (some ⟨w.heap.size, 0, none⟩)) true ty).run Tryd.prog ((w.drewN nd).iter s pos) = _ := fun ty => run_next_end (w.drewN nd) s pos ty hp
    go_wp2
    go_ret
    exact ⟨rfl, below_alloc (pw_below_drewN (Below.refl _ _) _) _⟩
end Go.Proofs.YtjknfppbebfhnaaDoor.PA
