/- A part of the proof (5). -/
import Derived.Test.YtoefabmlkbhmpaaDoorUKN2
import Derived.Test.YtoefabmlkbhmpaaDoorUKN4
import Derived.Test.YtoefabmlkbhmpaaDoorUKN3
namespace Go.Proofs.YtoefabmlkbhmpaaDoor.PA
open Go.RowKit Go.Proofs.YtoefabmlkbhmpaaDoorW.PrintWords Go.Proofs.YtoefabmlkbhmpaaDoorW.PrintLast Go.Proofs.YtoefabmlkbhmpaaDoorW.PrintMore
attribute [local go_sem] max2_int min2_int max_two min_two max_three min_three max_four min_four   -- for this text's walks alone
set_option linter.unusedVariables false
set_option linter.unusedSimpArgs false

/-! ### quot_Small: function 91 -/
def quot_Small.l0 : Nat → List Int → Int → List Int → Int → Int → Option (List Int × Int × Int)
 | 0, _, _, _, _, _ => none
 | k + 1, x0, x1, x7, x8, x9 => if x9 ≥ 0 then (if 0 ≤ x9 then (if x9 < (x0.length : Int) then ((wide_Div.f x8 (rd x0 x9) x1).bind fun bt175 => (if x9 < (x7.length : Int) then (quot_Small.l0 k x0 x1 (x7.set (x9 : Int).toNat bt175.1) bt175.2.1 (wrap64 (x9 - 1))) else (none))) else (none)) else (none)) else ((nat_Norm.f x7).bind fun t179 => (some (t179, x8, 0)))
def quot_Small.f (k : Nat) (l0 : List Int) (a1 : Int) : Option (List Int × Int × Int) := if a1 = 0 then (some (([] : List Int), 0, 30)) else (if 0 ≤ (l0.length : Int) then (if ((l0.length : Int) : Int).toNat ≤ 35184372088832 then (quot_Small.l0 k l0 a1 (List.replicate ((l0.length : Int) : Int).toNat 0) 0 (wrap64 ((l0.length : Int) - 1))) else (none)) else (none))
theorem quot_Small.mono_l : ∀ k, (∀ y0 y1 y2 y3 y4, LeO (quot_Small.l0 k y0 y1 y2 y3 y4) (quot_Small.l0 (k + 1) y0 y1 y2 y3 y4))
 | 0 => fun _ _ _ _ _ r h => by simp [quot_Small.l0] at h
 | k + 1 => by
  have ih0 := quot_Small.mono_l k
  ·intro y0 y1 y2 y3 y4
   unfold quot_Small.l0
   exact mX
theorem quot_Small.mono : ∀ a0 a1 k, LeO (quot_Small.f k a0 a1) (quot_Small.f (k + 1) a0 a1) := by
 intro a0 a1 k
 have ih0 := quot_Small.mono_l k
 unfold quot_Small.f
 exact mX
set_option maxHeartbeats 8000000 in
set_option maxRecDepth 100000 in
theorem quot_Small.calls (k : Nat) (A0 : Option Addr) (c0 : Nat) (l0 : List Int) (a1 : Int) (r1 : List Int) (r2 : Int) (r3 : Int) (w : World) (hr0 : Kd.C (Kd.int .u64) w A0 l0.length l0) (hc0 : l0.length ≤ c0) (h : quot_Small.f k l0 a1 = some (r1, r2, r3)) :
  Calls Tryd.prog 91 #[.slice A0 l0.length c0, .int .u64 a1] w fun e w' => ∃ v0_ : Value, e = .returned (.tuple #[v0_, .int .u64 r2, .int .i64 r3]) ∧ Kd.R (Kd.int .u64) 26 w' w.heap.size (fun _ => True) v0_ r1 ∧ Below w.heap.size w w' := by
 have HR0 := Aside0.mk hr0
 have HC0 := Aside0.mk hc0
 clear hr0 hc0
 have HB := Aside0.mk (Below.refl w.heap.size w)
 have H : (if a1 = 0 then (some (([] : List Int), 0, 30)) else (if 0 ≤ (l0.length : Int) then (if ((l0.length : Int) : Int).toNat ≤ 35184372088832 then (quot_Small.l0 k l0 a1 (List.replicate ((l0.length : Int) : Int).toNat 0) 0 (wrap64 ((l0.length : Int) - 1))) else (none)) else (none))) = some (r1, r2, r3) := h
 clear h
 by_cases c3 : a1 = 0
 ·rw [if_pos c3] at H
  have c3b0 : (a1 == 0) = true := beq_iff_eq.mpr c3
  have c3b1 : (a1 != 0) = false := bne_eq_false_iff_eq.mpr c3
  clear c3
  simp only [Option.some.injEq, Prod.mk.injEq] at H
  obtain ⟨rfl, rfl, rfl⟩ := H
  go_enter Tryd.func91, Tryd.ntmps91
  go_wp2
  go_ret3
  exact ⟨_, dE, by first | exact Kd.R_nil _ _ _ _ _ | exact Kd.N_nil _ _ _ _ _ | exact Kd.V_nil _ _ _ _ _ | exact Kd.Q_nil _ _ _ _ _ | exact Kd.S_nil _ _ _ _ _, dB⟩
 ·rw [if_neg c3] at H
  have c3b0 : (a1 == 0) = false := beq_eq_false_iff_ne.mpr c3
  have c3b1 : (a1 != 0) = true := bne_iff_ne.mpr c3
  by_cases c4 : (0 : Int) ≤ (l0.length : Int)
  ·rw [if_pos c4] at H
   have c4b0 := eq_true c4
   have c4b1 : decide (0 ≤ (l0.length : Int)) = true := decide_eq_true c4
   clear c4
   by_cases c5 : ((l0.length : Int) : Int).toNat ≤ 35184372088832
   ·rw [if_pos c5] at H
    have c5b0 := eq_true c5
    have c5b1 : decide (((l0.length : Int) : Int).toNat ≤ 35184372088832) = true := decide_eq_true c5
    clear c5
    obtain ⟨y171, hy171⟩ : ∃ y_ : List Int, y_ = (List.replicate ((l0.length : Int) : Int).toNat 0) := ⟨_, rfl⟩
    replace H : (quot_Small.l0 k l0 a1 y171 0 (wrap64 ((l0.length : Int) - 1))) = some (r1, r2, r3) := by first | (rw [hy171]; with_reducible exact H) | (have H2_ := (Option.bind_some _ _).symm.trans H; rw [hy171]; with_reducible exact H2_) | (have H2_ := (Option.bind_some _ _).symm.trans H; with_reducible exact H2_) | with_reducible exact H | (rw [hy171]; exact H) | exact H
    have Ny171 := Aside0.mk hy171
    clear hy171
    have H' := Aside0.mk H
    clear H
    go_enter Tryd.func91, Tryd.ntmps91
    go_wp2_with (first | ((with_reducible refine gate_dst (N := 14) rfl ?_); refine Kd.R_make (Kd.int .u64) _ 26 rfl (N := 14) rfl 22 _ _ rfl (l0.length : Int) rfl rfl Tryd.underlying22 (.int .u64 0) 8 info26 rfl (by decide) (by omega) 0 (ok := fun _ => True) (okp := fun _ => True) rfl (fun _ hk => hk) trivial (of_decide_eq_true dS) (Nat.le_trans (Nat.mul_le_mul_right _ (of_decide_eq_true dS : (l0.length : Int).toNat ≤ 35184372088832)) (by omega)) (Below.refl _ _) (Nat.le_refl _) ?_; intro v172 w6 ho7 hb hg_ hnew_; clear hg_ hnew_; (first | rw [← Ny171.out] at ho7 | (simp only [Int.reduceToNat] at ho7; rw [← Ny171.out] at ho7)); have HO173 := Aside0.mk (Kd.R_lower ho7 (below_size dB)); replace HB := Aside0.mk (below_step dB hb); clear hb ho7))
    go_loopg [8, 9] k (fun kq v8 v9 w' => ∃ (x7_1 : List Int) (x8_1 : Int) (x9_1 : Int), v8 = .int .u64 x8_1 ∧ v9 = .int .i64 x9_1 ∧ Aside0 (quot_Small.l0 kq l0 a1 x7_1 x8_1 x9_1 = some (r1, r2, r3)) ∧ Aside0 (kq ≤ k) ∧ Aside0 (Kd.R (Kd.int .u64) 26 w' w.heap.size (fun _ => True) v172 x7_1) ∧ Aside0 (Below w.heap.size w w'))
    case atStart => exact ⟨(y171), (0), (wrap64 ((l0.length : Int) - 1)), dF, dF, H', ⟨Nat.le_refl _⟩, ⟨dR HO173.out⟩, ⟨dB⟩⟩
    case round =>
     clear H'
     try clear c3
     try clear c3b0
     try clear c3b1
     try clear c4
     try clear c4b0
     try clear c4b1
     try clear c5
     try clear c5b0
     try clear c5b1
     obtain ⟨x7_1, x8_1, x9_1, rfl, rfl, HA, HK1, HO_7, HB⟩ := hrel
     cases gk with
     | zero => exact absurd HA.out (by simp [quot_Small.l0])
     | succ k1 =>
      have H := HA.out
      clear HA
      simp only [quot_Small.l0] at H
      by_cases c8 : x9_1 ≥ 0
      ·rw [if_pos c8] at H
       have c8b0 : decide (0 ≤ x9_1) = true := decide_eq_true c8
       clear c8
       by_cases c9 : (0 : Int) ≤ x9_1
       ·rw [if_pos c9] at H
        have c9b0 : decide (0 ≤ x9_1) = true := decide_eq_true c9
        clear c9
        by_cases c10 : x9_1 < (l0.length : Int)
        ·rw [if_pos c10] at H
         have c10b0 : decide (x9_1 < (l0.length : Int)) = true := decide_eq_true c10
         clear c10
         replace H := obe H
         obtain ⟨⟨t175, t176, t177⟩, A110, H⟩ := H
         (try dsimp only at H)
         have A11 := Aside0.mk A110
         clear A110
         by_cases c12 : x9_1 < (x7_1.length : Int)
         ·rw [if_pos c12] at H
          have c12b0 : decide (x9_1 < (x7_1.length : Int)) = true := decide_eq_true c12
          clear c12
          obtain ⟨y178, hy178⟩ : ∃ y_ : List Int, y_ = (x7_1.set (x9_1 : Int).toNat t175) := ⟨_, rfl⟩
          replace H : (quot_Small.l0 k1 l0 a1 y178 t176 (wrap64 (x9_1 - 1))) = some (r1, r2, r3) := by first | (rw [hy178]; with_reducible exact H) | (have H2_ := (Option.bind_some _ _).symm.trans H; rw [hy178]; with_reducible exact H2_) | (have H2_ := (Option.bind_some _ _).symm.trans H; with_reducible exact H2_) | with_reducible exact H | (rw [hy178]; exact H) | exact H
          have Ny178 := Aside0.mk hy178
          clear hy178
          have H' := Aside0.mk H
          clear H
          have p174 : 0 ≤ (x9_1 : Int) := of_decide_eq_true dS
          have q174 : x9_1 < (l0.length : Int) := of_decide_eq_true dS
          obtain ⟨ad174, e174, hx174_0⟩ := Kd.at_int HR0.out x9_1 p174 q174
          cases e174
          replace hx174_0 := (HB.out.cell (World.block_lt_of_cell? w _ hx174_0)).trans hx174_0
          replace p174 := eq_true p174
          replace q174 := eq_true q174
          go_wp2_with (first | ((with_reducible refine gate_callee (f := 114) rfl ?_); refine gL (some 31) Tryd.func114 #[.int .u64 x8_1, .int .u64 (rd l0 x9_1), .int .u64 a1] ?_; (with_reducible refine (wide_Div.calls x8_1 (rd l0 x9_1) a1 t175 t176 t177 _ A11.out).mono ?_); rintro e w14 ⟨rfl, hb⟩; refine ⟨_, rfl, ?_⟩; replace HO_7 := Aside0.mk (Kd.R_below (dR HO_7.out) hb); replace HB := Aside0.mk (below_step dB hb); (try clear hb); have p13 : 0 ≤ (x9_1 : Int) := of_decide_eq_true dS; have q13 : (x9_1 : Int) < ((x7_1.length : Int) : Int) := of_decide_eq_true dS; obtain ⟨go13, co13, eo13, gb13, gl13, cl13, HG13⟩ := Kd.R_form HO_7.out (by omega); (first | cases eo13 | (injection eo13 with ea_ en_ ec_; (first | subst ea_ | (injection ea_ with ea_; subst ea_)); subst ec_; clear en_)); have GB13 := Aside0.mk gb13; have GG13 := Aside0.mk HG13; clear gb13 gl13 HG13; obtain ⟨hx13_0, hf13_0⟩ := Kd.R_celln 0 HO_7.out (x9_1 : Int) p13 q13; replace p13 := eq_true p13; replace q13 := eq_true q13; obtain ⟨hy15_, hz15_⟩ := Kd.R_celln 0 HO_7.out (x9_1 : Int) (of_decide_eq_true dS) (of_decide_eq_true dS); have HP15 := Kd.R_putg HO_7.out (x9_1 : Int) t175) | ((with_reducible refine gate_store (t := 26) (p := 35) rfl ?_); refine store_event (t := 26) (p := 35) (v := ?vo_w16) (w1 := (w14.setCell ⟨go13, (x9_1 : Int).toNat, none⟩ (.int .u64 t175))) ?hg ?ho ?hn ?hr ?_; (case ho => rfl); (case hg => rfl); (case hn => rfl); (case hr => first | (go_simp; done) | (go_simp; rfl)); intro w16 hw; have hg : w14.grownBy w16 (some go13) := (by rw [hw]; exact HP15.2); have hp_ : Kd.R (Kd.int .u64) 26 w16 w.heap.size (fun _ => True) (.slice (some ⟨go13, 0, none⟩) x7_1.length co13) y178 := (by rw [hw, Ny178.out]; exact HP15.1); clear HP15; replace HO_7 := Aside0.mk (hp_); replace HB := Aside0.mk ((by rw [hw]; exact below_set (HB.out) GB13.out : Below w.heap.size w w16)); clear hg hw hp_))
          go_roundg k1
          case measure => have := HK1.out; omega
          case rel => exact ⟨(y178), (t176), (wrap64 (x9_1 - 1)), dF, dF, H', ⟨by have := HK1.out; omega⟩, ⟨dR HO_7.out⟩, ⟨dB⟩⟩
         ·rw [if_neg c12] at H
          exact absurd H (by simp)
        ·rw [if_neg c10] at H
         exact absurd H (by simp)
       ·rw [if_neg c9] at H
        exact absurd H (by simp)
      ·rw [if_neg c8] at H
       have c8b0 : decide (0 ≤ x9_1) = false := decide_eq_false c8
       clear c8
       replace H := obe H
       obtain ⟨t179, A170, H⟩ := H
       (try dsimp only at H)
       have A17 := Aside0.mk A170
       clear A170
       simp only [Option.some.injEq, Prod.mk.injEq] at H
       obtain ⟨rfl, rfl, rfl⟩ := H
       obtain ⟨Ao18, co18, eo18⟩ := Kd.R_slice HO_7.out
       subst eo18
       go_wp2_with (first | ((with_reducible refine gate_callee (f := 51) rfl ?_); refine gL (some 37) Tryd.func51 #[.slice Ao18 x7_1.length co18] ?_; (with_reducible refine (nat_Norm.calls _ _ x7_1 t179 _ ?side1 ?side2 A17.out).mono ?_); (case side1 => exact dC (Kd.R_reads' HO_7.out).2.2); (case side2 => exact (Kd.R_reads' HO_7.out).2.1); rintro e w19 ⟨v180, rfl, ho0, hb⟩; refine ⟨_, rfl, ?_⟩; have HO181 := Aside0.mk (Kd.R_lower (Kd.R_new' ho0 (Kd.R_lt (dR HO_7.out))) (below_size dB)); replace HO_7 := Aside0.mk (Kd.R_elder' (dR HO_7.out) (Kd.R_base ho0) hb); replace HB := Aside0.mk (below_step dB hb); (try clear hb); (try clear ho0)))
       go_ret3
       exact ⟨_, dE, by (with_reducible repeat (first | apply Kd.R_alloc | apply Kd.R_drewN | apply Kd.R_drew)); exact Kd.R_mono HO181.out (fun _ hk => trivial), dB⟩
   ·rw [if_neg c5] at H
    exact absurd H (by simp)
  ·rw [if_neg c4] at H
   exact absurd H (by simp)

/-! ### wide_Mul: function 60 (by hand) -/
def wide_Mul.f (a0 : Int) (a1 : Int) : Option (Int × Int) := if u64B a0 = true then (if u64B a1 = true then some (a0 * a1 / 18446744073709551616, a0 * a1 % 18446744073709551616) else none) else none
theorem mul_sum {p o c : Int} (hp : 0 ≤ p ∧ p ≤ 18446744065119617025) (ho0 : 0 ≤ o) (ho : o < 4294967296) (hc0 : 0 ≤ c) (hc : c < 4294967296) :
  IntKind.u64.wrap (IntKind.u64.wrap (IntKind.u64.wrap p + o) + c) = p + o + c := by simp only [u64w]; omega
theorem mul_sum1 {p c : Int} (hp : 0 ≤ p ∧ p ≤ 18446744065119617025) (hc0 : 0 ≤ c) (hc : c < 4294967296) :
  IntKind.u64.wrap (IntKind.u64.wrap (IntKind.u64.wrap p) + c) = p + c := by simp only [u64w]; omega
theorem mul_sum2 {p o : Int} (hp : 0 ≤ p ∧ p ≤ 18446744065119617025) (ho0 : 0 ≤ o) (ho : o < 4294967296) :
  IntKind.u64.wrap (IntKind.u64.wrap (IntKind.u64.wrap p + o)) = p + o := by simp only [u64w]; omega
theorem mul_sum0 {p : Int} (hp : 0 ≤ p ∧ p ≤ 18446744065119617025) :
  IntKind.u64.wrap (IntKind.u64.wrap (IntKind.u64.wrap p)) = p := by simp only [u64w]; omega
/-- the product by halves, as the code makes it -/
theorem mul_halves {a b x0 x1 y0 y1 t1 t2 t3 t4 : Int} (ha0 : 0 ≤ a) (ha : a < 18446744073709551616) (hb0 : 0 ≤ b) (hb : b < 18446744073709551616)
  (hx0 : x0 = Go.bits .and .u64 a 4294967295) (hx1 : x1 = a / 4294967296) (hy0 : y0 = Go.bits .and .u64 b 4294967295) (hy1 : y1 = b / 4294967296)
  (h1 : t1 = IntKind.u64.wrap (IntKind.u64.wrap (IntKind.u64.wrap (x0 * y0)))) (h2 : t2 = IntKind.u64.wrap (IntKind.u64.wrap (IntKind.u64.wrap (x0 * y1)) + t1 / 4294967296))
  (h3 : t3 = IntKind.u64.wrap (IntKind.u64.wrap (IntKind.u64.wrap (x1 * y0) + Go.bits .and .u64 t2 4294967295))) (h4 : t4 = IntKind.u64.wrap (IntKind.u64.wrap (IntKind.u64.wrap (x1 * y1) + t2 / 4294967296) + t3 / 4294967296)) :
  Go.bits .or .u64 (IntKind.u64.wrap (t4 / 4294967296 * 4294967296)) (Go.bits .and .u64 t4 4294967295) = a * b / 18446744073709551616 ∧
  Go.bits .or .u64 (IntKind.u64.wrap (Go.bits .and .u64 t3 4294967295 * 4294967296)) (Go.bits .and .u64 t1 4294967295) = a * b % 18446744073709551616 := by
 rw [and_half ha0 ha] at hx0
 rw [and_half hb0 hb] at hy0
 have p00 := mul_half (x := x0) (y := y0) (by omega) (by omega) (by omega) (by omega)
 have p01 := mul_half (x := x0) (y := y1) (by omega) (by omega) (by omega) (by omega)
 have p10 := mul_half (x := x1) (y := y0) (by omega) (by omega) (by omega) (by omega)
 have p11 := mul_half (x := x1) (y := y1) (by omega) (by omega) (by omega) (by omega)
 have e : a * b = x0 * y0 + 4294967296 * (x0 * y1 + x1 * y0) + 18446744073709551616 * (x1 * y1) := by
  have ea : a = x0 + 4294967296 * x1 := by omega
  have eb : b = y0 + 4294967296 * y1 := by omega
  rw [ea, eb]; grind
 rw [e]
 generalize x0 * y0 = p at *
 generalize x0 * y1 = q at *
 generalize x1 * y0 = r at *
 generalize x1 * y1 = s at *
 rw [mul_sum0 p00] at h1
 rw [mul_sum1 p01 (by omega) (by omega)] at h2
 rw [and_half (by omega) (by omega), mul_sum2 p10 (by omega) (by omega)] at h3
 rw [mul_sum p11 (by omega) (by omega) (by omega) (by omega)] at h4
 rw [and_half (x := t4) (by omega) (by omega), and_half (x := t3) (by omega) (by omega), and_half (x := t1) (by omega) (by omega), join_half (by omega) (by omega) (by omega) (by omega), join_half (by omega) (by omega) (by omega) (by omega)]
 omega
/-- what stands behind the loops: the four halves -/
def MulOut (w W : World) (r1 r2 : Int) : Prop := ∃ o0 o1 o2 o3 : Int, (W.cell? ⟨w.heap.size + 1 + 1, 0, none⟩ = some (.int .u64 o0) ∧ W.cell? ⟨w.heap.size + 1 + 1, 1, none⟩ = some (.int .u64 o1) ∧ W.cell? ⟨w.heap.size + 1 + 1, 2, none⟩ = some (.int .u64 o2) ∧ W.cell? ⟨w.heap.size + 1 + 1, 3, none⟩ = some (.int .u64 o3)) ∧ (r1 = Go.bits .or .u64 (IntKind.u64.wrap (o3 * 4294967296)) o2 ∧ r2 = Go.bits .or .u64 (IntKind.u64.wrap (o1 * 4294967296)) o0) ∧ Below w.heap.size w W
theorem MulOut.mk {w W : World} {r1 r2 o0 o1 o2 o3 : Int} (h : ∃ (t : TypeId) (cs : Array Value), W.heap[w.heap.size + 1 + 1]? = some (.cells cs t (0, 0)) ∧ cs.toList = [.int .u64 o0, .int .u64 o1, .int .u64 o2, .int .u64 o3]) (h1 : r1 = Go.bits .or .u64 (IntKind.u64.wrap (o3 * 4294967296)) o2) (h2 : r2 = Go.bits .or .u64 (IntKind.u64.wrap (o1 * 4294967296)) o0) (hb : Below w.heap.size w W) : MulOut w W r1 r2 := by
 obtain ⟨t, cs, hc, hl⟩ := h
 obtain rfl : cs = #[.int .u64 o0, .int .u64 o1, .int .u64 o2, .int .u64 o3] := by cases cs; simp_all
 exact ⟨o0, o1, o2, o3, ⟨blk_cell hc 0, blk_cell hc 1, blk_cell hc 2, blk_cell hc 3⟩, ⟨h1, h2⟩, hb⟩
set_option maxHeartbeats 4000000 in
theorem wide_Mul.calls (a0 : Int) (a1 : Int) (r1 : Int) (r2 : Int) (w : World) (h : wide_Mul.f a0 a1 = some (r1, r2)) :
  Calls Tryd.prog 60 #[.int .u64 a0, .int .u64 a1] w fun e w' => e = .returned (.tuple #[.int .u64 r1, .int .u64 r2]) ∧ Below w.heap.size w w' := by
 unfold wide_Mul.f at h
 split at h
 case isFalse => cases h
 rename_i h0
 split at h
 case isFalse => cases h
 rename_i h1
 rw [u64B_iff] at h0 h1
 injection h with h
 injection h with e1 e2
 have E1 := Aside0.mk e1
 have E2 := Aside0.mk e2
 clear e1 e2
 obtain ⟨h0a, h0b⟩ := h0
 obtain ⟨h1a, h1b⟩ := h1
 go_enter Tryd.func60, Tryd.ntmps60
 go_upto_block 0 with (fail)
 generalize hx0 : Go.bits BinOp.and IntKind.u64 a0 4294967295 = x0
 generalize hx1 : a0 / 4294967296 = x1
 generalize hy0 : Go.bits BinOp.and IntKind.u64 a1 4294967295 = y0
 generalize hy1 : a1 / 4294967296 = y1
 have X0 := Aside0.mk hx0.symm; have X1 := Aside0.mk hx1.symm; have Y0 := Aside0.mk hy0.symm; have Y1 := Aside0.mk hy1.symm
 clear hx0 hx1 hy0 hy1
 go_cut [8] (fun v8 wx => v8 = .pointer (some ⟨w.heap.size + 1 + 1, 0, none⟩) ∧ MulOut w wx r1 r2)
 case first =>
  go_wp2
  refine wp_loop_rounds 3 ?_
  rw [rounds_succ]
  go_wp2
  refine wp_loop_rounds 3 ?_
  rw [rounds_succ]
  go_wp2
  go_quiet (fail)
  go_wp2
  generalize ht1 : IntKind.u64.wrap (IntKind.u64.wrap (IntKind.u64.wrap (x0 * y0))) = t1
  have T1 := Aside0.mk ht1.symm
  clear ht1
  rw [rounds_succ]
  go_wp2
  go_quiet (fail)
  go_wp2
  generalize ht2 : IntKind.u64.wrap (IntKind.u64.wrap (IntKind.u64.wrap (x0 * y1)) + t1 / 4294967296) = t2
  have T2 := Aside0.mk ht2.symm
  clear ht2
  rw [rounds_succ]
  go_wp2
  rw [rounds_succ]
  go_wp2
  refine wp_loop_rounds 3 ?_
  rw [rounds_succ]
  go_wp2
  go_quiet (fail)
  go_wp2
  generalize ht3 : IntKind.u64.wrap (IntKind.u64.wrap (IntKind.u64.wrap (x1 * y0) + Go.bits BinOp.and IntKind.u64 t2 4294967295)) = t3
  have T3 := Aside0.mk ht3.symm
  clear ht3
  rw [rounds_succ]
  go_wp2
  go_quiet (fail)
  go_wp2
  generalize ht4 : IntKind.u64.wrap (IntKind.u64.wrap (IntKind.u64.wrap (x1 * y1) + t2 / 4294967296) + t3 / 4294967296) = t4
  have T4 := Aside0.mk ht4.symm
  clear ht4
  rw [rounds_succ]
  go_wp2
  rw [rounds_succ]
  go_wp2
  go_meet
  go_light
  have hm := mul_halves h0a h0b h1a h1b X0.out X1.out Y0.out Y1.out T1.out T2.out T3.out T4.out
  refine ⟨rfl, MulOut.mk ?h (E1.out.symm.trans hm.1.symm) (E2.out.symm.trans hm.2.symm) ?_⟩
  case h =>
   apply Exists.intro
   apply Exists.intro
   apply And.intro
   ·repeat (first | (with_reducible apply blk_drewN) | (with_reducible apply blk_set))
    exact blk_new' _ _ (by simp)
   ·simp only [Array.toList_setIfInBounds, List.set_cons_zero, List.set_cons_succ]
  ·repeat (first | (with_reducible exact Below.refl _ _) | (with_reducible apply pw_below_drewN) | (with_reducible apply below_alloc) | (with_reducible refine below_set ?_ (by omega)))
 case rest =>
  obtain ⟨rfl, o0, o1, o2, o3, ⟨hc0, hc1, hc2, hc3⟩, hr, hb⟩ := hcut
  have hr' := Aside0.mk hr; have hb' := Aside0.mk hb
  clear E1 E2 X0 X1 Y0 Y1 hr hb
  go_wp2
  go_quiet (fail)
  go_wp2
  go_ret2
  refine ⟨?_, by repeat (first | exact hb'.out | (with_reducible apply pw_below_drewN) | (with_reducible apply below_drew1))⟩
  rw [hr'.out.1, hr'.out.2]; rfl

/-! ### wide_Add: function 61 -/
def wide_Add.f (a0 : Int) (a1 : Int) (a2 : Int) : Option (Int × Int) := if (IntKind.u64.wrap (a0 + a1)) < a0 then (some (IntKind.u64.wrap ((IntKind.u64.wrap (a0 + a1)) + (Go.bits .and .u64 a2 1)), 1)) else (if (IntKind.u64.wrap ((IntKind.u64.wrap (a0 + a1)) + (Go.bits .and .u64 a2 1))) < (IntKind.u64.wrap (a0 + a1)) then (some (IntKind.u64.wrap ((IntKind.u64.wrap (a0 + a1)) + (Go.bits .and .u64 a2 1)), 1)) else (some (IntKind.u64.wrap ((IntKind.u64.wrap (a0 + a1)) + (Go.bits .and .u64 a2 1)), 0)))
set_option maxHeartbeats 8000000 in
set_option maxRecDepth 100000 in
theorem wide_Add.calls (a0 : Int) (a1 : Int) (a2 : Int) (r1 : Int) (r2 : Int) (w : World) (h : wide_Add.f a0 a1 a2 = some (r1, r2)) :
  Calls Tryd.prog 61 #[.int .u64 a0, .int .u64 a1, .int .u64 a2] w fun e w' => e = .returned (.tuple #[.int .u64 r1, .int .u64 r2]) ∧ Drawn0 w w' := by
 have H : (if (IntKind.u64.wrap (a0 + a1)) < a0 then (some (IntKind.u64.wrap ((IntKind.u64.wrap (a0 + a1)) + (Go.bits .and .u64 a2 1)), 1)) else (if (IntKind.u64.wrap ((IntKind.u64.wrap (a0 + a1)) + (Go.bits .and .u64 a2 1))) < (IntKind.u64.wrap (a0 + a1)) then (some (IntKind.u64.wrap ((IntKind.u64.wrap (a0 + a1)) + (Go.bits .and .u64 a2 1)), 1)) else (some (IntKind.u64.wrap ((IntKind.u64.wrap (a0 + a1)) + (Go.bits .and .u64 a2 1)), 0)))) = some (r1, r2) := h
 clear h
 by_cases c4 : (IntKind.u64.wrap (a0 + a1)) < a0
 ·rw [if_pos c4] at H
  have c4b0 : decide ((IntKind.u64.wrap (a0 + a1)) < a0) = true := decide_eq_true c4
  clear c4
  simp only [Option.some.injEq, Prod.mk.injEq] at H
  obtain ⟨rfl, rfl⟩ := H
  go_enter Tryd.func61, Tryd.ntmps61
  go_wp2
  go_ret2
  exact ⟨by first | rfl | (simp; done) | (simp [*]; done), by repeat (first | exact Drawn0.refl _ | apply Drawn0.step)⟩
 ·rw [if_neg c4] at H
  have c4b0 : decide ((IntKind.u64.wrap (a0 + a1)) < a0) = false := decide_eq_false c4
  clear c4
  by_cases c5 : (IntKind.u64.wrap ((IntKind.u64.wrap (a0 + a1)) + (Go.bits .and .u64 a2 1))) < (IntKind.u64.wrap (a0 + a1))
  ·rw [if_pos c5] at H
   have c5b0 : decide ((IntKind.u64.wrap ((IntKind.u64.wrap (a0 + a1)) + (Go.bits .and .u64 a2 1))) < (IntKind.u64.wrap (a0 + a1))) = true := decide_eq_true c5
   clear c5
   simp only [Option.some.injEq, Prod.mk.injEq] at H
   obtain ⟨rfl, rfl⟩ := H
   go_enter Tryd.func61, Tryd.ntmps61
   go_wp2
   go_ret2
   exact ⟨by first | rfl | (simp; done) | (simp [*]; done), by repeat (first | exact Drawn0.refl _ | apply Drawn0.step)⟩
  ·rw [if_neg c5] at H
   have c5b0 : decide ((IntKind.u64.wrap ((IntKind.u64.wrap (a0 + a1)) + (Go.bits .and .u64 a2 1))) < (IntKind.u64.wrap (a0 + a1))) = false := decide_eq_false c5
   clear c5
   simp only [Option.some.injEq, Prod.mk.injEq] at H
   obtain ⟨rfl, rfl⟩ := H
   go_enter Tryd.func61, Tryd.ntmps61
   go_wp2
   go_ret2
   exact ⟨by first | rfl | (simp; done) | (simp [*]; done), by repeat (first | exact Drawn0.refl _ | apply Drawn0.step)⟩

-- what is known of it
theorem and_one {c : Int} (h0 : 0 ≤ c) (h1 : c < 18446744073709551616) : Go.bits .and .u64 c 1 = c % 2 := and_mask h0 h1 1 (by omega) _ rfl
theorem wide_Add.f_eq {a b c : Int} (ha0 : 0 ≤ a) (ha : a < 18446744073709551616) (hb0 : 0 ≤ b) (hb : b < 18446744073709551616) (hc0 : 0 ≤ c) (hc : c ≤ 1) :
  wide_Add.f a b c = some ((a + b + c) % 18446744073709551616, (a + b + c) / 18446744073709551616) := by
 unfold wide_Add.f
 rw [and_one hc0 (by omega)]
 simp only [u64w]
 split
 ·congr 2 <;> omega
 ·split <;> (congr 2 <;> omega)

end Go.Proofs.YtoefabmlkbhmpaaDoor.PA

namespace Go.Proofs.YtoefabmlkbhmpaaDoor.PA
open Go.RowKit Go.Proofs.YtoefabmlkbhmpaaDoorW.PrintWords Go.Proofs.YtoefabmlkbhmpaaDoorW.PrintLast Go.Proofs.YtoefabmlkbhmpaaDoorW.PrintMore
attribute [local go_sem] max2_int min2_int max_two min_two max_three min_three max_four min_four   -- for this text's walks alone
set_option linter.unusedVariables false
set_option linter.unusedSimpArgs false

/-! ### quot_shl: function 115 -/
def quot_shl.l0 : Nat → List Int → Int → Int → List Int → Int → List Int → Int → Int → Option (List Int)
 | 0, _, _, _, _, _, _, _, _ => none
 | k + 1, x0, x1, x2, x7, x8, x15, x16, x17 => if x17 < x16 then (if 0 ≤ x17 then (if x17 < (x15.length : Int) then ((wide_Shl.f 0 (rd x15 x17) x1).bind fun bt186 => (if x17 < (x7.length : Int) then (quot_shl.l0 k x0 x1 x2 (x7.set (x17 : Int).toNat (Go.bits .or .u64 bt186.2 x8)) bt186.1 x15 x16 (wrap64 (x17 + 1))) else (none))) else (none)) else (none)) else (if (x0.length : Int) < x2 then (if 0 ≤ (x0.length : Int) then (if (x0.length : Int) < (x7.length : Int) then (some (x7.set ((x0.length : Int) : Int).toNat x8)) else (none)) else (none)) else (some x7))
def quot_shl.f (k : Nat) (l0 : List Int) (a1 : Int) (a2 : Int) : Option (List Int) := if 0 ≤ a2 then (if (a2 : Int).toNat ≤ 35184372088832 then (quot_shl.l0 k l0 a1 a2 (List.replicate (a2 : Int).toNat 0) 0 l0 (l0.length : Int) 0) else (none)) else (none)
theorem quot_shl.mono_l : ∀ k, (∀ y0 y1 y2 y3 y4 y5 y6 y7, LeO (quot_shl.l0 k y0 y1 y2 y3 y4 y5 y6 y7) (quot_shl.l0 (k + 1) y0 y1 y2 y3 y4 y5 y6 y7))
 | 0 => fun _ _ _ _ _ _ _ _ r h => by simp [quot_shl.l0] at h
 | k + 1 => by
  have ih0 := quot_shl.mono_l k
  ·intro y0 y1 y2 y3 y4 y5 y6 y7
   unfold quot_shl.l0
   exact mX
theorem quot_shl.mono : ∀ a0 a1 a2 k, LeO (quot_shl.f k a0 a1 a2) (quot_shl.f (k + 1) a0 a1 a2) := by
 intro a0 a1 a2 k
 have ih0 := quot_shl.mono_l k
 unfold quot_shl.f
 exact mX
set_option maxHeartbeats 8000000 in
set_option maxRecDepth 100000 in
theorem quot_shl.calls (k : Nat) (A0 : Option Addr) (c0 : Nat) (l0 : List Int) (a1 : Int) (a2 : Int) (r : List Int) (w : World) (hr0 : Kd.C (Kd.int .u64) w A0 l0.length l0) (hc0 : l0.length ≤ c0) (h : quot_shl.f k l0 a1 a2 = some r) :
  Calls Tryd.prog 115 #[.slice A0 l0.length c0, .int .i64 a1, .int .i64 a2] w fun e w' => ∃ v0_ : Value, e = .returned (v0_) ∧ Kd.R (Kd.int .u64) 26 w' w.heap.size (fun _ => True) v0_ r ∧ Below w.heap.size w w' := by
 have HR0 := Aside0.mk hr0
 have HC0 := Aside0.mk hc0
 clear hr0 hc0
 have HB := Aside0.mk (Below.refl w.heap.size w)
 have H : (if 0 ≤ a2 then (if (a2 : Int).toNat ≤ 35184372088832 then (quot_shl.l0 k l0 a1 a2 (List.replicate (a2 : Int).toNat 0) 0 l0 (l0.length : Int) 0) else (none)) else (none)) = some r := h
 clear h
 by_cases c4 : (0 : Int) ≤ a2
 ·rw [if_pos c4] at H
  have c4b0 := eq_true c4
  have c4b1 : decide (0 ≤ a2) = true := decide_eq_true c4
  clear c4
  by_cases c5 : (a2 : Int).toNat ≤ 35184372088832
  ·rw [if_pos c5] at H
   have c5b0 := eq_true c5
   have c5b1 : decide ((a2 : Int).toNat ≤ 35184372088832) = true := decide_eq_true c5
   clear c5
   obtain ⟨y182, hy182⟩ : ∃ y_ : List Int, y_ = (List.replicate (a2 : Int).toNat 0) := ⟨_, rfl⟩
   replace H : (quot_shl.l0 k l0 a1 a2 y182 0 l0 (l0.length : Int) 0) = some r := by first | (rw [hy182]; with_reducible exact H) | (have H2_ := (Option.bind_some _ _).symm.trans H; rw [hy182]; with_reducible exact H2_) | (have H2_ := (Option.bind_some _ _).symm.trans H; with_reducible exact H2_) | with_reducible exact H | (rw [hy182]; exact H) | exact H
   have Ny182 := Aside0.mk hy182
   clear hy182
   have H' := Aside0.mk H
   clear H
   go_enter Tryd.func115, Tryd.ntmps115
   go_wp2_with (first | ((with_reducible refine gate_dst (N := 14) rfl ?_); refine Kd.R_make (Kd.int .u64) _ 26 rfl (N := 14) rfl 22 _ _ rfl a2 rfl rfl Tryd.underlying22 (.int .u64 0) 8 info26 rfl (by decide) (by omega) 0 (ok := fun _ => True) (okp := fun _ => True) rfl (fun _ hk => hk) trivial (of_decide_eq_true dS) (Nat.le_trans (Nat.mul_le_mul_right _ (of_decide_eq_true dS : a2.toNat ≤ 35184372088832)) (by omega)) (Below.refl _ _) (Nat.le_refl _) ?_; intro v183 w6 ho7 hb hg_ hnew_; clear hg_ hnew_; (first | rw [← Ny182.out] at ho7 | (simp only [Int.reduceToNat] at ho7; rw [← Ny182.out] at ho7)); have HO184 := Aside0.mk (Kd.R_lower ho7 (below_size dB)); replace HB := Aside0.mk (below_step dB hb); clear hb ho7))
   go_loopg [8, 17] k (fun kq v8 v17 w' => ∃ (x7_1 : List Int) (x8_1 : Int) (x17_1 : Int), v8 = .int .u64 x8_1 ∧ v17 = .int .i64 x17_1 ∧ Aside0 (quot_shl.l0 kq l0 a1 a2 x7_1 x8_1 l0 (l0.length : Int) x17_1 = some r) ∧ Aside0 (kq ≤ k) ∧ Aside0 (Kd.R (Kd.int .u64) 26 w' w.heap.size (fun _ => True) v183 x7_1) ∧ Aside0 (Below w.heap.size w w'))
   case atStart => exact ⟨(y182), (0), (0), dF, dF, H', ⟨Nat.le_refl _⟩, ⟨dR HO184.out⟩, ⟨dB⟩⟩
   case round =>
    clear H'
    try clear c4
    try clear c4b0
    try clear c4b1
    try clear c5
    try clear c5b0
    try clear c5b1
    obtain ⟨x7_1, x8_1, x17_1, rfl, rfl, HA, HK1, HO_7, HB⟩ := hrel
    cases gk with
    | zero => exact absurd HA.out (by simp [quot_shl.l0])
    | succ k1 =>
     have H := HA.out
     clear HA
     simp only [quot_shl.l0] at H
     by_cases c8 : x17_1 < (l0.length : Int)
     ·rw [if_pos c8] at H
      have c8b0 : decide (x17_1 < (l0.length : Int)) = true := decide_eq_true c8
      clear c8
      by_cases c9 : (0 : Int) ≤ x17_1
      ·rw [if_pos c9] at H
       have c9b0 : decide (0 ≤ x17_1) = true := decide_eq_true c9
       clear c9
       by_cases c10 : x17_1 < (l0.length : Int)
       ·rw [if_pos c10] at H
        have c10b0 : decide (x17_1 < (l0.length : Int)) = true := decide_eq_true c10
        clear c10
        replace H := obe H
        obtain ⟨⟨t186, t187⟩, A110, H⟩ := H
        (try dsimp only at H)
        have A11 := Aside0.mk A110
        clear A110
        by_cases c12 : x17_1 < (x7_1.length : Int)
        ·rw [if_pos c12] at H
         have c12b0 : decide (x17_1 < (x7_1.length : Int)) = true := decide_eq_true c12
         clear c12
         obtain ⟨y188, hy188⟩ : ∃ y_ : List Int, y_ = (x7_1.set (x17_1 : Int).toNat (Go.bits .or .u64 t187 x8_1)) := ⟨_, rfl⟩
         replace H : (quot_shl.l0 k1 l0 a1 a2 y188 t186 l0 (l0.length : Int) (wrap64 (x17_1 + 1))) = some r := by first | (rw [hy188]; with_reducible exact H) | (have H2_ := (Option.bind_some _ _).symm.trans H; rw [hy188]; with_reducible exact H2_) | (have H2_ := (Option.bind_some _ _).symm.trans H; with_reducible exact H2_) | with_reducible exact H | (rw [hy188]; exact H) | exact H
         have Ny188 := Aside0.mk hy188
         clear hy188
         have H' := Aside0.mk H
         clear H
         have p185 : 0 ≤ (x17_1 : Int) := of_decide_eq_true dS
         have q185 : x17_1 < (l0.length : Int) := of_decide_eq_true dS
         obtain ⟨ad185, e185, hx185_0⟩ := Kd.at_int HR0.out x17_1 p185 q185
         cases e185
         replace hx185_0 := (HB.out.cell (World.block_lt_of_cell? w _ hx185_0)).trans hx185_0
         replace p185 := eq_true p185
         replace q185 := eq_true q185
         go_wp2_with (first | ((with_reducible refine gate_callee (f := 55) rfl ?_); refine gL (some 25) Tryd.func55 #[.int .u64 0, .int .u64 (rd l0 x17_1), .int .i64 a1] ?_; (with_reducible refine (wide_Shl.calls 0 (rd l0 x17_1) a1 t186 t187 _ A11.out).mono ?_); rintro e w14 ⟨rfl, hb⟩; refine ⟨_, rfl, ?_⟩; replace HO_7 := Aside0.mk (Kd.R_below (dR HO_7.out) hb); replace HB := Aside0.mk (below_step dB hb); (try clear hb); have p13 : 0 ≤ (x17_1 : Int) := of_decide_eq_true dS; have q13 : (x17_1 : Int) < ((x7_1.length : Int) : Int) := of_decide_eq_true dS; obtain ⟨go13, co13, eo13, gb13, gl13, cl13, HG13⟩ := Kd.R_form HO_7.out (by omega); (first | cases eo13 | (injection eo13 with ea_ en_ ec_; (first | subst ea_ | (injection ea_ with ea_; subst ea_)); subst ec_; clear en_)); have GB13 := Aside0.mk gb13; have GG13 := Aside0.mk HG13; clear gb13 gl13 HG13; obtain ⟨hx13_0, hf13_0⟩ := Kd.R_celln 0 HO_7.out (x17_1 : Int) p13 q13; replace p13 := eq_true p13; replace q13 := eq_true q13; obtain ⟨hy15_, hz15_⟩ := Kd.R_celln 0 HO_7.out (x17_1 : Int) (of_decide_eq_true dS) (of_decide_eq_true dS); have HP15 := Kd.R_putg HO_7.out (x17_1 : Int) (Go.bits .or .u64 t187 x8_1)) | ((with_reducible refine gate_store (t := 26) (p := 33) rfl ?_); refine store_event (t := 26) (p := 33) (v := ?vo_w16) (w1 := (w14.setCell ⟨go13, (x17_1 : Int).toNat, none⟩ (.int .u64 (Go.bits .or .u64 t187 x8_1)))) ?hg ?ho ?hn ?hr ?_; (case ho => rfl); (case hg => rfl); (case hn => rfl); (case hr => first | (go_simp; done) | (go_simp; rfl)); intro w16 hw; have hg : w14.grownBy w16 (some go13) := (by rw [hw]; exact HP15.2); have hp_ : Kd.R (Kd.int .u64) 26 w16 w.heap.size (fun _ => True) (.slice (some ⟨go13, 0, none⟩) x7_1.length co13) y188 := (by rw [hw, Ny188.out]; exact HP15.1); clear HP15; replace HO_7 := Aside0.mk (hp_); replace HB := Aside0.mk ((by rw [hw]; exact below_set (HB.out) GB13.out : Below w.heap.size w w16)); clear hg hw hp_))
         go_roundg k1
         case measure => have := HK1.out; omega
         case rel => exact ⟨(y188), (t186), (wrap64 (x17_1 + 1)), dF, dF, H', ⟨by have := HK1.out; omega⟩, ⟨dR HO_7.out⟩, ⟨dB⟩⟩
        ·rw [if_neg c12] at H
         exact absurd H (by simp)
       ·rw [if_neg c10] at H
        exact absurd H (by simp)
      ·rw [if_neg c9] at H
       exact absurd H (by simp)
     ·rw [if_neg c8] at H
      have c8b0 : decide (x17_1 < (l0.length : Int)) = false := decide_eq_false c8
      clear c8
      by_cases c17 : (l0.length : Int) < a2
      ·rw [if_pos c17] at H
       have c17b0 : decide ((l0.length : Int) < a2) = true := decide_eq_true c17
       clear c17
       by_cases c18 : (0 : Int) ≤ (l0.length : Int)
       ·rw [if_pos c18] at H
        have c18b0 : decide (0 ≤ (l0.length : Int)) = true := decide_eq_true c18
        have c18b1 : decide (0 ≤ l0.length) = true := decide_eq_true (by omega)
        clear c18
        by_cases c19 : (l0.length : Int) < (x7_1.length : Int)
        ·rw [if_pos c19] at H
         have c19b0 : decide ((l0.length : Int) < (x7_1.length : Int)) = true := decide_eq_true c19
         have c19b1 : decide (l0.length < x7_1.length) = true := decide_eq_true (Int.ofNat_lt.mp c19)
         clear c19
         obtain ⟨y189, hy189⟩ : ∃ y_ : List Int, y_ = (x7_1.set ((l0.length : Int) : Int).toNat x8_1) := ⟨_, rfl⟩
         replace H : (some y189) = some r := by first | (rw [hy189]; with_reducible exact H) | (have H2_ := (Option.bind_some _ _).symm.trans H; rw [hy189]; with_reducible exact H2_) | (have H2_ := (Option.bind_some _ _).symm.trans H; with_reducible exact H2_) | with_reducible exact H | (rw [hy189]; exact H) | exact H
         have Ny189 := Aside0.mk hy189
         clear hy189
         obtain rfl := Option.some.inj H
         have p20 : 0 ≤ ((l0.length : Int) : Int) := of_decide_eq_true dS
         have q20 : ((l0.length : Int) : Int) < ((x7_1.length : Int) : Int) := of_decide_eq_true dS
         obtain ⟨go20, co20, eo20, gb20, gl20, cl20, HG20⟩ := Kd.R_form HO_7.out (by omega)
         (first | cases eo20 | (injection eo20 with ea_ en_ ec_; (first | subst ea_ | (injection ea_ with ea_; subst ea_)); subst ec_; clear en_))
         have GB20 := Aside0.mk gb20
         have GG20 := Aside0.mk HG20
         clear gb20 gl20 HG20
         obtain ⟨hx20_0, hf20_0⟩ := Kd.R_celln 0 HO_7.out ((l0.length : Int) : Int) p20 q20; (try simp only [Int.toNat_natCast] at hx20_0 hf20_0)
         replace p20 := eq_true p20
         replace q20 := eq_true q20
         have HP21 := Kd.R_putg HO_7.out ((l0.length : Int) : Int) x8_1; (try simp only [Int.toNat_natCast] at HP21)
         go_wp2_with (first | ((with_reducible refine gate_store (t := 26) (p := 44) rfl ?_); refine store_event (t := 26) (p := 44) (v := ?vo_w22) (w1 := (wr.setCell ⟨go20, l0.length, none⟩ (.int .u64 x8_1))) ?hg ?ho ?hn ?hr ?_; (case ho => rfl); (case hg => rfl); (case hn => rfl); (case hr => first | (go_simp; done) | (go_simp; rfl)); intro w22 hw; have hg : wr.grownBy w22 (some go20) := (by rw [hw]; exact HP21.2); have hp_ : Kd.R (Kd.int .u64) 26 w22 w.heap.size (fun _ => True) (.slice (some ⟨go20, 0, none⟩) x7_1.length co20) y189 := (by rw [hw, Ny189.out]; exact HP21.1); clear HP21; replace HO_7 := Aside0.mk (hp_); replace HB := Aside0.mk ((by rw [hw]; exact below_set (HB.out) GB20.out : Below w.heap.size w w22)); clear hg hw hp_))
         go_ret
         exact ⟨_, dE, dR HO_7.out, dB⟩
        ·rw [if_neg c19] at H
         exact absurd H (by simp)
       ·rw [if_neg c18] at H
        exact absurd H (by simp)
      ·rw [if_neg c17] at H
       have c17b0 : decide ((l0.length : Int) < a2) = false := decide_eq_false c17
       clear c17
       obtain rfl := Option.some.inj H
       go_wp2
       go_ret
       exact ⟨_, dE, dR HO_7.out, dB⟩
  ·rw [if_neg c5] at H
   exact absurd H (by simp)
 ·rw [if_neg c4] at H
  exact absurd H (by simp)

/-! ### wide_Sub: function 102 -/
def wide_Sub.f (a0 : Int) (a1 : Int) (a2 : Int) : Option (Int × Int) := if a0 < a1 then (some (IntKind.u64.wrap ((IntKind.u64.wrap (a0 - a1)) - (Go.bits .and .u64 a2 1)), 1)) else (if a0 = a1 then (if (Go.bits .and .u64 a2 1) = 1 then (some (IntKind.u64.wrap ((IntKind.u64.wrap (a0 - a1)) - (Go.bits .and .u64 a2 1)), 1)) else (some (IntKind.u64.wrap ((IntKind.u64.wrap (a0 - a1)) - (Go.bits .and .u64 a2 1)), 0))) else (some (IntKind.u64.wrap ((IntKind.u64.wrap (a0 - a1)) - (Go.bits .and .u64 a2 1)), 0)))
set_option maxHeartbeats 8000000 in
set_option maxRecDepth 100000 in
theorem wide_Sub.calls (a0 : Int) (a1 : Int) (a2 : Int) (r1 : Int) (r2 : Int) (w : World) (h : wide_Sub.f a0 a1 a2 = some (r1, r2)) :
  Calls Tryd.prog 102 #[.int .u64 a0, .int .u64 a1, .int .u64 a2] w fun e w' => e = .returned (.tuple #[.int .u64 r1, .int .u64 r2]) ∧ Drawn0 w w' := by
 have H : (if a0 < a1 then (some (IntKind.u64.wrap ((IntKind.u64.wrap (a0 - a1)) - (Go.bits .and .u64 a2 1)), 1)) else (if a0 = a1 then (if (Go.bits .and .u64 a2 1) = 1 then (some (IntKind.u64.wrap ((IntKind.u64.wrap (a0 - a1)) - (Go.bits .and .u64 a2 1)), 1)) else (some (IntKind.u64.wrap ((IntKind.u64.wrap (a0 - a1)) - (Go.bits .and .u64 a2 1)), 0))) else (some (IntKind.u64.wrap ((IntKind.u64.wrap (a0 - a1)) - (Go.bits .and .u64 a2 1)), 0)))) = some (r1, r2) := h
 clear h
 by_cases c4 : a0 < a1
 ·rw [if_pos c4] at H
  have c4b0 : decide (a0 < a1) = true := decide_eq_true c4
  clear c4
  simp only [Option.some.injEq, Prod.mk.injEq] at H
  obtain ⟨rfl, rfl⟩ := H
  go_enter Tryd.func102, Tryd.ntmps102
  go_wp2
  go_ret2
  exact ⟨by first | rfl | (simp; done) | (simp [*]; done), by repeat (first | exact Drawn0.refl _ | apply Drawn0.step)⟩
 ·rw [if_neg c4] at H
  have c4b0 : decide (a0 < a1) = false := decide_eq_false c4
  clear c4
  by_cases c5 : a0 = a1
  ·rw [if_pos c5] at H
   have c5b0 : (a0 == a1) = true := beq_iff_eq.mpr c5
   have c5b1 : (a0 != a1) = false := bne_eq_false_iff_eq.mpr c5
   clear c5
   by_cases c6 : (Go.bits .and .u64 a2 1) = 1
   ·rw [if_pos c6] at H
    have c6b0 : ((Go.bits .and .u64 a2 1) == 1) = true := beq_iff_eq.mpr c6
    have c6b1 : ((Go.bits .and .u64 a2 1) != 1) = false := bne_eq_false_iff_eq.mpr c6
    clear c6
    simp only [Option.some.injEq, Prod.mk.injEq] at H
    obtain ⟨rfl, rfl⟩ := H
    go_enter Tryd.func102, Tryd.ntmps102
    go_wp2
    go_ret2
    exact ⟨by first | rfl | (simp; done) | (simp [*]; done), by repeat (first | exact Drawn0.refl _ | apply Drawn0.step)⟩
   ·rw [if_neg c6] at H
    have c6b0 : ((Go.bits .and .u64 a2 1) == 1) = false := beq_eq_false_iff_ne.mpr c6
    have c6b1 : ((Go.bits .and .u64 a2 1) != 1) = true := bne_iff_ne.mpr c6
    simp only [Option.some.injEq, Prod.mk.injEq] at H
    obtain ⟨rfl, rfl⟩ := H
    go_enter Tryd.func102, Tryd.ntmps102
    go_wp2
    go_ret2
    exact ⟨by first | rfl | (simp; done) | (simp [*]; done), by repeat (first | exact Drawn0.refl _ | apply Drawn0.step)⟩
  ·rw [if_neg c5] at H
   have c5b0 : (a0 == a1) = false := beq_eq_false_iff_ne.mpr c5
   have c5b1 : (a0 != a1) = true := bne_iff_ne.mpr c5
   simp only [Option.some.injEq, Prod.mk.injEq] at H
   obtain ⟨rfl, rfl⟩ := H
   go_enter Tryd.func102, Tryd.ntmps102
   go_wp2
   go_ret2
   exact ⟨by first | rfl | (simp; done) | (simp [*]; done), by repeat (first | exact Drawn0.refl _ | apply Drawn0.step)⟩

/-! ### quot_take: function 116 -/
def quot_take.l0 : Nat → List Int → List Int → Int → Int → Int → List Int → Int → Int → Option (Bool × List Int)
 | 0, _, _, _, _, _, _, _, _ => none
 | k + 1, x0, x1, x2, x7, x8, x14, x15, x16 => if x16 < x15 then (if 0 ≤ x16 then (if x16 < (x14.length : Int) then ((wide_Mul.f (rd x14 x16) x2).bind fun bt191 => ((wide_Add.f bt191.2 x7 0).bind fun bt193 => (if x16 < (x0.length : Int) then ((wide_Sub.f (rd x0 x16) bt193.1 x8).bind fun bt196 => (quot_take.l0 k (x0.set (x16 : Int).toNat bt196.1) x1 x2 (IntKind.u64.wrap (bt191.1 + bt193.2)) bt196.2 x14 x15 (wrap64 (x16 + 1)))) else (none)))) else (none)) else (none)) else (if 0 ≤ (x1.length : Int) then (if (x1.length : Int) < (x0.length : Int) then ((wide_Sub.f (rd x0 (x1.length : Int)) x7 x8).bind fun bt200 => (some ((bt200.2 == 1), (x0.set ((x1.length : Int) : Int).toNat bt200.1)))) else (none)) else (none))
def quot_take.f (k : Nat) (l0 : List Int) (l1 : List Int) (a2 : Int) : Option (Bool × List Int) := quot_take.l0 k l0 l1 a2 0 0 l1 (l1.length : Int) 0
theorem quot_take.mono_l : ∀ k, (∀ y0 y1 y2 y3 y4 y5 y6 y7, LeO (quot_take.l0 k y0 y1 y2 y3 y4 y5 y6 y7) (quot_take.l0 (k + 1) y0 y1 y2 y3 y4 y5 y6 y7))
 | 0 => fun _ _ _ _ _ _ _ _ r h => by simp [quot_take.l0] at h
 | k + 1 => by
  have ih0 := quot_take.mono_l k
  ·intro y0 y1 y2 y3 y4 y5 y6 y7
   unfold quot_take.l0
   exact mX
theorem quot_take.mono : ∀ a0 a1 a2 k, LeO (quot_take.f k a0 a1 a2) (quot_take.f (k + 1) a0 a1 a2) := by
 intro a0 a1 a2 k
 have ih0 := quot_take.mono_l k
 unfold quot_take.f
 exact mX
end Go.Proofs.YtoefabmlkbhmpaaDoor.PA

namespace Go.Proofs.YtoefabmlkbhmpaaDoor.PA
open Go.RowKit Go.Proofs.YtoefabmlkbhmpaaDoorW.PrintWords Go.Proofs.YtoefabmlkbhmpaaDoorW.PrintLast Go.Proofs.YtoefabmlkbhmpaaDoorW.PrintMore
attribute [local go_sem] max2_int min2_int max_two min_two max_three min_three max_four min_four   -- for this text's walks alone
set_option linter.unusedVariables false
set_option linter.unusedSimpArgs false

-- what is known of it
set_option maxHeartbeats 8000000 in
set_option maxRecDepth 100000 in
theorem quot_take.callsP (U_ : Value) (Us_ : List Int) (j_ : Nat) (k : Nat) (P0_ : Nat → Prop) (u9000_ : Value) (l0 : List Int) (A1 : Option Addr) (c1 : Nat) (l1 : List Int) (a2 : Int) (r1 : Bool) (r2 : List Int) (w0 w : World) (hB : Below w0.heap.size w0 w) (ho0 : Pc .u64 U_ Us_ j_ 26 w w0.heap.size P0_ u9000_ l0) (hr1 : ∀ W_, Kept w W_ (fun k_ => P0_ k_) → Kd.C (Kd.int .u64) W_ A1 l1.length l1) (hc1 : l1.length ≤ c1) (h : quot_take.f k l0 l1 a2 = some (r1, r2)) :
  Calls Tryd.prog 116 #[u9000_, .slice A1 l1.length c1, .int .u64 a2] w fun e w' => e = .returned (.bool r1) ∧ Pc .u64 U_ Us_ j_ 26 w' w0.heap.size (fun k_ => (P0_ k_ ∨ w.heap.size ≤ k_)) u9000_ r2 ∧ Below w0.heap.size w0 w' ∧ Kept w w' (fun k_ => P0_ k_) := by
 have HO0 := Aside0.mk (show Pc .u64 U_ Us_ j_ 26 w w0.heap.size (fun k_ => (P0_ k_ ∨ w.heap.size ≤ k_)) u9000_ l0 from Pc_mono ho0 (fun k_ hk => (.inl hk)))
 have HR1 := Aside0.mk hr1
 have HC1 := Aside0.mk hc1
 clear hr1 hc1
 have HK := Aside0.mk (Kept.refl w (fun k_ => P0_ k_))
 have HW0 := Aside0.mk hB.size
 have HB := Aside0.mk hB
 clear hB
 have H : (quot_take.l0 k l0 l1 a2 0 0 l1 (l1.length : Int) 0) = some (r1, r2) := h
 clear h
 have H' := Aside0.mk H
 clear H
 go_enter Tryd.func116, Tryd.ntmps116
 go_wp2
 go_loopg [7, 8, 16] k (fun kq v7 v8 v16 w' => ∃ (x0_1 : List Int) (x7_1 : Int) (x8_1 : Int) (x16_1 : Int), v7 = .int .u64 x7_1 ∧ v8 = .int .u64 x8_1 ∧ v16 = .int .i64 x16_1 ∧ Aside0 (quot_take.l0 kq x0_1 l1 a2 x7_1 x8_1 l1 (l1.length : Int) x16_1 = some (r1, r2)) ∧ Aside0 (kq ≤ k) ∧ Aside0 (Pc .u64 U_ Us_ j_ 26 w' w0.heap.size (fun k_ => (P0_ k_ ∨ w.heap.size ≤ k_)) u9000_ x0_1) ∧ Aside0 (Kept w w' (fun k_ => P0_ k_)) ∧ Aside0 (Below w0.heap.size w0 w'))
 case atStart => exact ⟨(l0), (0), (0), (0), dF, dF, dF, H', ⟨Nat.le_refl _⟩, ⟨by (with_reducible repeat (first | apply Pc_alloc | apply Pc_drewN | apply Pc_drew)); exact HO0.out⟩, ⟨by repeat (first | (with_reducible first | exact HK.out | apply Kept.alloc | apply Kept.drewN | apply Kept.drew) | exact HK.out)⟩, ⟨dB⟩⟩
 case round =>
  clear H'
  try clear c1
  obtain ⟨x0_1, x7_1, x8_1, x16_1, rfl, rfl, rfl, HA, HK1, HO_0, HK, HB⟩ := hrel
  cases gk with
  | zero => exact absurd HA.out (by simp [quot_take.l0])
  | succ k1 =>
   have H := HA.out
   clear HA
   simp only [quot_take.l0] at H
   by_cases c4 : x16_1 < (l1.length : Int)
   ·rw [if_pos c4] at H
    have c4b0 : decide (x16_1 < (l1.length : Int)) = true := decide_eq_true c4
    clear c4
    by_cases c5 : (0 : Int) ≤ x16_1
    ·rw [if_pos c5] at H
     have c5b0 : decide (0 ≤ x16_1) = true := decide_eq_true c5
     clear c5
     by_cases c6 : x16_1 < (l1.length : Int)
     ·rw [if_pos c6] at H
      have c6b0 : decide (x16_1 < (l1.length : Int)) = true := decide_eq_true c6
      clear c6
      replace H := obe H
      obtain ⟨⟨t209, t210⟩, A70, H⟩ := H
      (try dsimp only at H)
      have A7 := Aside0.mk A70
      clear A70
      replace H := obe H
      obtain ⟨⟨t211, t212⟩, A80, H⟩ := H
      (try dsimp only at H)
      have A8 := Aside0.mk A80
      clear A80
      by_cases c9 : x16_1 < (x0_1.length : Int)
      ·rw [if_pos c9] at H
       have c9b0 : decide (x16_1 < (x0_1.length : Int)) = true := decide_eq_true c9
       clear c9
       replace H := obe H
       obtain ⟨⟨t214, t215⟩, A100, H⟩ := H
       (try dsimp only at H)
       have A10 := Aside0.mk A100
       clear A100
       obtain ⟨y216, hy216⟩ : ∃ y_ : List Int, y_ = (x0_1.set (x16_1 : Int).toNat t214) := ⟨_, rfl⟩
       replace H : (quot_take.l0 k1 y216 l1 a2 (IntKind.u64.wrap (t209 + t212)) t215 l1 (l1.length : Int) (wrap64 (x16_1 + 1))) = some (r1, r2) := by first | (rw [hy216]; with_reducible exact H) | (have H2_ := (Option.bind_some _ _).symm.trans H; rw [hy216]; with_reducible exact H2_) | (have H2_ := (Option.bind_some _ _).symm.trans H; with_reducible exact H2_) | with_reducible exact H | (rw [hy216]; exact H) | exact H
       have Ny216 := Aside0.mk hy216
       clear hy216
       have H' := Aside0.mk H
       clear H
       have p208 : 0 ≤ (x16_1 : Int) := of_decide_eq_true dS
       have q208 : x16_1 < (l1.length : Int) := of_decide_eq_true dS
       obtain ⟨ad208, e208, hx208_0⟩ := Kd.at_int (Kd.C_kept_now HR1.out HK.out) x16_1 p208 q208
       cases e208
       replace p208 := eq_true p208
       replace q208 := eq_true q208
       go_wp2_with (first | ((with_reducible refine gate_callee (f := 60) rfl ?_); refine gL (some 24) Tryd.func60 #[.int .u64 (rd l1 x16_1), .int .u64 a2] ?_; (with_reducible refine (wide_Mul.calls (rd l1 x16_1) a2 t209 t210 _ A7.out).mono ?_); rintro e w12 ⟨rfl, hb⟩; refine ⟨_, rfl, ?_⟩; replace HO_0 := Aside0.mk (Pc_below (by (with_reducible repeat (first | apply Pc_alloc | apply Pc_drewN | apply Pc_drew)); exact HO_0.out) hb); replace HK := Aside0.mk (Kept.below (S := (fun k_ => P0_ k_)) (by repeat (first | (with_reducible first | exact HK.out | apply Kept.alloc | apply Kept.drewN | apply Kept.drew) | exact HK.out)) hb); replace HB := Aside0.mk (below_step dB hb); (try clear hb)) | ((with_reducible refine gate_callee (f := 61) rfl ?_); refine gL (some 30) Tryd.func61 #[.int .u64 t210, .int .u64 x7_1, .int .u64 0] ?_; (with_reducible refine (wide_Add.calls t210 x7_1 0 t211 t212 _ A8.out).mono ?_); rintro e w' ⟨rfl, ⟨nd, rfl⟩⟩; refine ⟨_, rfl, ?_⟩; (try (rw [drewN_self w12]; generalize hq_ : World.drewN w12 _ = w12; have n0_ : Aside0 (Pc .u64 U_ Us_ j_ 26 w12 w0.heap.size (fun k_ => (P0_ k_ ∨ w.heap.size ≤ k_)) u9000_ x0_1) := ⟨by rw [← hq_]; exact (by (with_reducible repeat (first | apply Pc_alloc | apply Pc_drewN | apply Pc_drew)); exact HO_0.out)⟩; have n1_ : Aside0 (Kept w w12 (fun k_ => P0_ k_)) := ⟨by rw [← hq_]; exact (by repeat (first | (with_reducible first | exact HK.out | apply Kept.alloc | apply Kept.drewN | apply Kept.drew) | exact HK.out))⟩; have n2_ : Aside0 (Below w0.heap.size w0 w12) := ⟨by rw [← hq_]; exact dB⟩; clear HO_0 HK HB hq_; have HO_0 := n0_; have HK := n1_; have HB := n2_; clear n0_ n1_ n2_)); obtain ⟨Ao13, co13, eo13⟩ := Pc_slice HO_0.out; subst eo13; have p213 : 0 ≤ (x16_1 : Int) := of_decide_eq_true dS; have q213 : x16_1 < (x0_1.length : Int) := of_decide_eq_true dS; obtain ⟨ad213, e213, hx213_0⟩ := Kd.at_int (Pc_reads' HO_0.out).2.2 x16_1 p213 q213; cases e213; replace p213 := eq_true p213; replace q213 := eq_true q213) | ((with_reducible refine gate_callee (f := 102) rfl ?_); refine gL (some 45) Tryd.func102 #[.int .u64 (rd x0_1 x16_1), .int .u64 t211, .int .u64 x8_1] ?_; (with_reducible refine (wide_Sub.calls (rd x0_1 x16_1) t211 x8_1 t214 t215 _ A10.out).mono ?_); rintro e w' ⟨rfl, ⟨nd, rfl⟩⟩; refine ⟨_, rfl, ?_⟩; (try (rw [drewN_self w12]; generalize hq_ : World.drewN w12 _ = w12; have n0_ : Aside0 (Pc .u64 U_ Us_ j_ 26 w12 w0.heap.size (fun k_ => (P0_ k_ ∨ w.heap.size ≤ k_)) (.slice (some ad213) x0_1.length co13) x0_1) := ⟨by rw [← hq_]; exact (by (with_reducible repeat (first | apply Pc_alloc | apply Pc_drewN | apply Pc_drew)); exact HO_0.out)⟩; have n1_ : Aside0 (Kept w w12 (fun k_ => P0_ k_)) := ⟨by rw [← hq_]; exact (by repeat (first | (with_reducible first | exact HK.out | apply Kept.alloc | apply Kept.drewN | apply Kept.drew) | exact HK.out))⟩; have n2_ : Aside0 (Below w0.heap.size w0 w12) := ⟨by rw [← hq_]; exact dB⟩; clear HO_0 HK HB hq_; have HO_0 := n0_; have HK := n1_; have HB := n2_; clear n0_ n1_ n2_)); have p11 : 0 ≤ (x16_1 : Int) := of_decide_eq_true dS; have q11 : (x16_1 : Int) < ((x0_1.length : Int) : Int) := of_decide_eq_true dS; obtain ⟨go11, co11, eo11, gb11, gl11, cl11, HG11⟩ := Pc_form HO_0.out (by omega); (first | cases eo11 | (injection eo11 with ea_ en_ ec_; (first | subst ea_ | (injection ea_ with ea_; subst ea_)); subst ec_; clear en_)); have GB11 := Aside0.mk gb11; have GG11 := Aside0.mk HG11; clear gb11 gl11 HG11; have HMgo11 := Aside0.mk (show (P0_ go11 ∨ w.heap.size ≤ go11) from (HO_0.out.1 _ rfl)); (first | simp only [add_at] at hx213_0 | skip); obtain ⟨hx11_0, hf11_0⟩ := Pc_celln 0 HO_0.out (x16_1 : Int) p11 q11; (try simp only [Int.toNat_natCast] at hx11_0 hf11_0); replace p11 := eq_true p11; replace q11 := eq_true q11; obtain ⟨hy14_, hz14_⟩ := Pc_celln 0 HO_0.out (x16_1 : Int) (of_decide_eq_true dS) (of_decide_eq_true dS); (try simp only [Int.toNat_natCast] at hy14_ hz14_); have HP14 := Pc_putg HO_0.out (x16_1 : Int) (of_decide_eq_true dS) (of_decide_eq_true dS) t214; (try simp only [Int.toNat_natCast] at HP14)) | ((with_reducible refine gate_store (t := 26) (p := 48) rfl ?_); refine store_event (t := 26) (p := 48) (v := ?vo_w15) (w1 := (w12.setCell ⟨go11, j_ + (x16_1 : Int).toNat, none⟩ (.int .u64 t214))) ?hg ?ho ?hn ?hr ?_; (case ho => rfl); (case hg => rfl); (case hn => rfl); (case hr => first | (go_simp; done) | (go_simp; rfl)); intro w15 hw; have hg : w12.grownBy w15 (some go11) := (by rw [hw]; exact HP14.2); have hp_ : Pc .u64 U_ Us_ j_ 26 w15 w0.heap.size (fun k_ => (P0_ k_ ∨ w.heap.size ≤ k_)) (.slice (some ⟨go11, j_, none⟩) x0_1.length co13) y216 := (by rw [hw, Ny216.out]; exact HP14.1); clear HP14; replace HB := Aside0.mk ((by rw [hw]; exact below_set (HB.out) GB11.out : Below w0.heap.size w0 w15)); replace HK := Aside0.mk (Kept.of_grown (S := (fun k_ => P0_ k_)) hg (by repeat (first | (with_reducible first | exact HK.out | apply Kept.alloc | apply Kept.drewN | apply Kept.drew) | exact HK.out)) (fun k_ e_ => (HO_0.out.1 k_ e_))); replace HO_0 := Aside0.mk (hp_); clear hg hw hp_))
       go_roundg k1
       case measure => have := HK1.out; omega
       case rel => exact ⟨(y216), (IntKind.u64.wrap (t209 + t212)), (t215), (wrap64 (x16_1 + 1)), dF, dF, dF, H', ⟨by have := HK1.out; omega⟩, ⟨by (with_reducible repeat (first | apply Pc_alloc | apply Pc_drewN | apply Pc_drew)); exact HO_0.out⟩, ⟨by repeat (first | (with_reducible first | exact HK.out | apply Kept.alloc | apply Kept.drewN | apply Kept.drew) | exact HK.out)⟩, ⟨dB⟩⟩
      ·rw [if_neg c9] at H
       exact absurd H (by simp)
     ·rw [if_neg c6] at H
      exact absurd H (by simp)
    ·rw [if_neg c5] at H
     exact absurd H (by simp)
   ·rw [if_neg c4] at H
    have c4b0 : decide (x16_1 < (l1.length : Int)) = false := decide_eq_false c4
    clear c4
    by_cases c16 : (0 : Int) ≤ (l1.length : Int)
    ·rw [if_pos c16] at H
     have c16b0 : decide (0 ≤ (l1.length : Int)) = true := decide_eq_true c16
     have c16b1 : decide (0 ≤ l1.length) = true := decide_eq_true (by omega)
     clear c16
     by_cases c17 : (l1.length : Int) < (x0_1.length : Int)
     ·rw [if_pos c17] at H
      have c17b0 : decide ((l1.length : Int) < (x0_1.length : Int)) = true := decide_eq_true c17
      have c17b1 : decide (l1.length < x0_1.length) = true := decide_eq_true (Int.ofNat_lt.mp c17)
      clear c17
      replace H := obe H
      obtain ⟨⟨t218, t219⟩, A180, H⟩ := H
      (try dsimp only at H)
      have A18 := Aside0.mk A180
      clear A180
      obtain ⟨y220, hy220⟩ : ∃ y_ : List Int, y_ = (x0_1.set ((l1.length : Int) : Int).toNat t218) := ⟨_, rfl⟩
      replace H : (some ((t219 == 1), y220)) = some (r1, r2) := by first | (rw [hy220]; with_reducible exact H) | (have H2_ := (Option.bind_some _ _).symm.trans H; rw [hy220]; with_reducible exact H2_) | (have H2_ := (Option.bind_some _ _).symm.trans H; with_reducible exact H2_) | with_reducible exact H | (rw [hy220]; exact H) | exact H
      have Ny220 := Aside0.mk hy220
      clear hy220
      simp only [Option.some.injEq, Prod.mk.injEq] at H
      obtain ⟨rfl, rfl⟩ := H
      obtain ⟨Ao20, co20, eo20⟩ := Pc_slice HO_0.out
      subst eo20
      have p217 : 0 ≤ ((l1.length : Int) : Int) := of_decide_eq_true dS
      have q217 : (l1.length : Int) < (x0_1.length : Int) := of_decide_eq_true dS
      obtain ⟨ad217, e217, hx217_0⟩ := Kd.at_int (Pc_reads' HO_0.out).2.2 (l1.length : Int) p217 q217
      cases e217
      (try simp only [Go.IntWalk.toNatUp] at hx217_0)
      replace p217 := eq_true p217
      replace q217 := eq_true q217
      go_wp2_with (first | ((with_reducible refine gate_callee (f := 102) rfl ?_); refine gL (some 61) Tryd.func102 #[.int .u64 (rd x0_1 (l1.length : Int)), .int .u64 x7_1, .int .u64 x8_1] ?_; (with_reducible refine (wide_Sub.calls (rd x0_1 (l1.length : Int)) x7_1 x8_1 t218 t219 _ A18.out).mono ?_); rintro e w' ⟨rfl, ⟨nd, rfl⟩⟩; refine ⟨_, rfl, ?_⟩; (try (rw [drewN_self wr]; generalize hq_ : World.drewN wr _ = wr; have n0_ : Aside0 (Pc .u64 U_ Us_ j_ 26 wr w0.heap.size (fun k_ => (P0_ k_ ∨ w.heap.size ≤ k_)) (.slice (some ad217) x0_1.length co20) x0_1) := ⟨by rw [← hq_]; exact (by (with_reducible repeat (first | apply Pc_alloc | apply Pc_drewN | apply Pc_drew)); exact HO_0.out)⟩; have n1_ : Aside0 (Kept w wr (fun k_ => P0_ k_)) := ⟨by rw [← hq_]; exact (by repeat (first | (with_reducible first | exact HK.out | apply Kept.alloc | apply Kept.drewN | apply Kept.drew) | exact HK.out))⟩; have n2_ : Aside0 (Below w0.heap.size w0 wr) := ⟨by rw [← hq_]; exact dB⟩; clear HO_0 HK HB hq_; have HO_0 := n0_; have HK := n1_; have HB := n2_; clear n0_ n1_ n2_)); have p19 : 0 ≤ ((l1.length : Int) : Int) := of_decide_eq_true dS; have q19 : ((l1.length : Int) : Int) < ((x0_1.length : Int) : Int) := of_decide_eq_true dS; obtain ⟨go19, co19, eo19, gb19, gl19, cl19, HG19⟩ := Pc_form HO_0.out (by omega); (first | cases eo19 | (injection eo19 with ea_ en_ ec_; (first | subst ea_ | (injection ea_ with ea_; subst ea_)); subst ec_; clear en_)); have GB19 := Aside0.mk gb19; have GG19 := Aside0.mk HG19; clear gb19 gl19 HG19; have HMgo19 := Aside0.mk (show (P0_ go19 ∨ w.heap.size ≤ go19) from (HO_0.out.1 _ rfl)); (first | simp only [add_at] at hx217_0 | skip); obtain ⟨hx19_0, hf19_0⟩ := Pc_celln 0 HO_0.out ((l1.length : Int) : Int) p19 q19; (try simp only [Int.toNat_natCast] at hx19_0 hf19_0); replace p19 := eq_true p19; replace q19 := eq_true q19; obtain ⟨hy21_, hz21_⟩ := Pc_celln 0 HO_0.out ((l1.length : Int) : Int) (of_decide_eq_true dS) (of_decide_eq_true dS); (try simp only [Int.toNat_natCast] at hy21_ hz21_); (try simp only [Go.IntWalk.toNatUp] at hy21_ hz21_); have HP21 := Pc_putg HO_0.out ((l1.length : Int) : Int) (of_decide_eq_true dS) (of_decide_eq_true dS) t218; (try simp only [Int.toNat_natCast] at HP21)) | ((with_reducible refine gate_store (t := 26) (p := 64) rfl ?_); refine store_event (t := 26) (p := 64) (v := ?vo_w22) (w1 := (wr.setCell ⟨go19, j_ + l1.length, none⟩ (.int .u64 t218))) ?hg ?ho ?hn ?hr ?_; (case ho => rfl); (case hg => rfl); (case hn => rfl); (case hr => first | (go_simp; done) | (go_simp; rfl)); intro w22 hw; have hg : wr.grownBy w22 (some go19) := (by rw [hw]; exact HP21.2); have hp_ : Pc .u64 U_ Us_ j_ 26 w22 w0.heap.size (fun k_ => (P0_ k_ ∨ w.heap.size ≤ k_)) (.slice (some ⟨go19, j_, none⟩) x0_1.length co20) y220 := (by rw [hw, Ny220.out]; exact HP21.1); clear HP21; replace HB := Aside0.mk ((by rw [hw]; exact below_set (HB.out) GB19.out : Below w0.heap.size w0 w22)); replace HK := Aside0.mk (Kept.of_grown (S := (fun k_ => P0_ k_)) hg (by repeat (first | (with_reducible first | exact HK.out | apply Kept.alloc | apply Kept.drewN | apply Kept.drew) | exact HK.out)) (fun k_ e_ => (HO_0.out.1 k_ e_))); replace HO_0 := Aside0.mk (hp_); clear hg hw hp_))
      go_ret
      exact ⟨dE, by (with_reducible repeat (first | apply Pc_alloc | apply Pc_drewN | apply Pc_drew)); exact HO_0.out, dB, by repeat (first | (with_reducible first | exact HK.out | apply Kept.alloc | apply Kept.drewN | apply Kept.drew) | exact HK.out)⟩
     ·rw [if_neg c17] at H
      exact absurd H (by simp)
    ·rw [if_neg c16] at H
     exact absurd H (by simp)
theorem piece_whole {q : IntKind} {U : Value} {Us xs : List Int} {j e base g n c : Nat} {w : World} {ok : Nat → Prop} (h : Pc q U Us j e w base ok (.slice (some ⟨g, j, none⟩) n c) xs) : xs.length = n := by
 obtain ⟨_, _, _, ⟨g', N, c', _, hv⟩, _⟩ := h
 injection hv with _ h2 _
 exact h2.symm
/-- take on the piece of n + 1 words at j of a row -/
def quot_takeAt.f (k : Nat) (u : List Int) (j n : Int) (v : List Int) (b : Int) : Option (Bool × List Int) :=
 if 0 ≤ j ∧ 0 ≤ n ∧ j + n + 1 ≤ (u.length : Int) ∧ wrap64 (wrap64 (j + n) + 1) = j + n + 1 then (quot_take.f k ((u.drop j.toNat).take (n.toNat + 1)) v b).bind fun y => some (y.1, u.take j.toNat ++ y.2 ++ u.drop (j.toNat + (n.toNat + 1))) else none
theorem quot_takeAt.mono : ∀ a0 a1 a2 a3 a4 k, LeO (quot_takeAt.f k a0 a1 a2 a3 a4) (quot_takeAt.f (k + 1) a0 a1 a2 a3 a4) := by
 intro a0 a1 a2 a3 a4 k
 unfold quot_takeAt.f
 exact LeO.ite (LeO.bind (quot_take.mono _ _ _ _) (fun _ => LeO.refl _)) (LeO.none _)
theorem quot_takeAt.calls (k : Nat) (P0_ : Nat → Prop) (g N c : Nat) (Us : List Int) (j n : Int) (A1 : Option Addr) (c1 : Nat) (l1 : List Int) (a2 : Int) (r1 : Bool) (r2 : List Int) (w0 w : World) (hB : Below w0.heap.size w0 w) (ho0 : Kd.R (Kd.int .u64) 26 w w0.heap.size P0_ (.slice (some ⟨g, 0, none⟩) N c) Us) (hr1 : ∀ W_, Kept w W_ (fun k_ => P0_ k_) → Kd.C (Kd.int .u64) W_ A1 l1.length l1) (hc1 : l1.length ≤ c1) (h : quot_takeAt.f k Us j n l1 a2 = some (r1, r2)) :
  Calls Tryd.prog 116 #[.slice (some ⟨g, j.toNat, none⟩) (n.toNat + 1) (c - j.toNat), .slice A1 l1.length c1, .int .u64 a2] w fun e w' => e = .returned (.bool r1) ∧ Kd.R (Kd.int .u64) 26 w' w0.heap.size (fun k_ => (P0_ k_ ∨ w.heap.size ≤ k_)) (.slice (some ⟨g, 0, none⟩) N c) r2 ∧ Below w0.heap.size w0 w' ∧ Kept w w' (fun k_ => P0_ k_) ∧ r2.length = Us.length := by
 unfold quot_takeAt.f at h
 split at h
 case isFalse => cases h
 rename_i hh
 replace hh := And.intro hh.1 (And.intro hh.2.1 hh.2.2.1)
 replace h := Option.bind_eq_some_iff.mp h
 obtain ⟨⟨y1, y2⟩, h1, h⟩ := h
 simp only [Option.some.injEq, Prod.mk.injEq] at h
 obtain ⟨rfl, rfl⟩ := h
 have hj : j.toNat + (n.toNat + 1) ≤ Us.length := by omega
 have hp := Pc_of (j := j.toNat) (n := n.toNat + 1) ho0 (by omega) hj
 refine (quot_take.callsP _ Us j.toNat k P0_ _ _ A1 c1 l1 a2 _ _ w0 w hB hp hr1 hc1 h1).mono ?_
 rintro e w' ⟨rfl, hP, hb, hk⟩
 have hl := piece_whole hP
 have hR := Pc_back hP
 rw [hl] at hR
 refine ⟨rfl, hR, hb, hk, ?_⟩
 rw [List.length_append, List.length_append, List.length_take, List.length_drop, hl]
 omega

/-! ### quot_give: function 117 -/
def quot_give.l0 : Nat → List Int → List Int → Int → List Int → Int → Int → Option (List Int)
 | 0, _, _, _, _, _, _ => none
 | k + 1, x0, x1, x4, x7, x8, x9 => if x9 < x8 then (if 0 ≤ x9 then (if x9 < (x7.length : Int) then (if x9 < (x0.length : Int) then ((wide_Add.f (rd x0 x9) (rd x7 x9) x4).bind fun bt205 => (quot_give.l0 k (x0.set (x9 : Int).toNat bt205.1) x1 bt205.2 x7 x8 (wrap64 (x9 + 1)))) else (none)) else (none)) else (none)) else (if 0 ≤ (x1.length : Int) then (if (x1.length : Int) < (x0.length : Int) then (some (x0.set ((x1.length : Int) : Int).toNat (IntKind.u64.wrap ((rd x0 (x1.length : Int)) + x4)))) else (none)) else (none))
def quot_give.f (k : Nat) (l0 : List Int) (l1 : List Int) : Option (List Int) := quot_give.l0 k l0 l1 0 l1 (l1.length : Int) 0
theorem quot_give.mono_l : ∀ k, (∀ y0 y1 y2 y3 y4 y5, LeO (quot_give.l0 k y0 y1 y2 y3 y4 y5) (quot_give.l0 (k + 1) y0 y1 y2 y3 y4 y5))
 | 0 => fun _ _ _ _ _ _ r h => by simp [quot_give.l0] at h
 | k + 1 => by
  have ih0 := quot_give.mono_l k
  ·intro y0 y1 y2 y3 y4 y5
   unfold quot_give.l0
   exact mX
theorem quot_give.mono : ∀ a0 a1 k, LeO (quot_give.f k a0 a1) (quot_give.f (k + 1) a0 a1) := by
 intro a0 a1 k
 have ih0 := quot_give.mono_l k
 unfold quot_give.f
 exact mX
end Go.Proofs.YtoefabmlkbhmpaaDoor.PA

namespace Go.Proofs.YtoefabmlkbhmpaaDoor.PA
open Go.RowKit Go.Proofs.YtoefabmlkbhmpaaDoorW.PrintWords Go.Proofs.YtoefabmlkbhmpaaDoorW.PrintLast Go.Proofs.YtoefabmlkbhmpaaDoorW.PrintMore
attribute [local go_sem] max2_int min2_int max_two min_two max_three min_three max_four min_four   -- for this text's walks alone
set_option linter.unusedVariables false
set_option linter.unusedSimpArgs false

-- what is known of it
set_option maxHeartbeats 8000000 in
set_option maxRecDepth 100000 in
theorem quot_give.callsP (U_ : Value) (Us_ : List Int) (j_ : Nat) (k : Nat) (P0_ : Nat → Prop) (u9000_ : Value) (l0 : List Int) (A1 : Option Addr) (c1 : Nat) (l1 : List Int) (r : List Int) (w0 w : World) (hB : Below w0.heap.size w0 w) (ho0 : Pc .u64 U_ Us_ j_ 26 w w0.heap.size P0_ u9000_ l0) (hr1 : ∀ W_, Kept w W_ (fun k_ => P0_ k_) → Kd.C (Kd.int .u64) W_ A1 l1.length l1) (hc1 : l1.length ≤ c1) (h : quot_give.f k l0 l1 = some r) :
  Calls Tryd.prog 117 #[u9000_, .slice A1 l1.length c1] w fun e w' => e = .returned (.tuple #[]) ∧ Pc .u64 U_ Us_ j_ 26 w' w0.heap.size (fun k_ => (P0_ k_ ∨ w.heap.size ≤ k_)) u9000_ r ∧ Below w0.heap.size w0 w' ∧ Kept w w' (fun k_ => P0_ k_) := by
 have HO0 := Aside0.mk (show Pc .u64 U_ Us_ j_ 26 w w0.heap.size (fun k_ => (P0_ k_ ∨ w.heap.size ≤ k_)) u9000_ l0 from Pc_mono ho0 (fun k_ hk => (.inl hk)))
 have HR1 := Aside0.mk hr1
 have HC1 := Aside0.mk hc1
 clear hr1 hc1
 have HK := Aside0.mk (Kept.refl w (fun k_ => P0_ k_))
 have HW0 := Aside0.mk hB.size
 have HB := Aside0.mk hB
 clear hB
 have H : (quot_give.l0 k l0 l1 0 l1 (l1.length : Int) 0) = some r := h
 clear h
 have H' := Aside0.mk H
 clear H
 go_enter Tryd.func117, Tryd.ntmps117
 go_wp2
 go_loopg [4, 9] k (fun kq v4 v9 w' => ∃ (x0_1 : List Int) (x4_1 : Int) (x9_1 : Int), v4 = .int .u64 x4_1 ∧ v9 = .int .i64 x9_1 ∧ Aside0 (quot_give.l0 kq x0_1 l1 x4_1 l1 (l1.length : Int) x9_1 = some r) ∧ Aside0 (kq ≤ k) ∧ Aside0 (Pc .u64 U_ Us_ j_ 26 w' w0.heap.size (fun k_ => (P0_ k_ ∨ w.heap.size ≤ k_)) u9000_ x0_1) ∧ Aside0 (Kept w w' (fun k_ => P0_ k_)) ∧ Aside0 (Below w0.heap.size w0 w'))
 case atStart => exact ⟨(l0), (0), (0), dF, dF, H', ⟨Nat.le_refl _⟩, ⟨by (with_reducible repeat (first | apply Pc_alloc | apply Pc_drewN | apply Pc_drew)); exact HO0.out⟩, ⟨by repeat (first | (with_reducible first | exact HK.out | apply Kept.alloc | apply Kept.drewN | apply Kept.drew) | exact HK.out)⟩, ⟨dB⟩⟩
 case round =>
  clear H'
  try clear c1
  obtain ⟨x0_1, x4_1, x9_1, rfl, rfl, HA, HK1, HO_0, HK, HB⟩ := hrel
  cases gk with
  | zero => exact absurd HA.out (by simp [quot_give.l0])
  | succ k1 =>
   have H := HA.out
   clear HA
   simp only [quot_give.l0] at H
   by_cases c3 : x9_1 < (l1.length : Int)
   ·rw [if_pos c3] at H
    have c3b0 : decide (x9_1 < (l1.length : Int)) = true := decide_eq_true c3
    clear c3
    by_cases c4 : (0 : Int) ≤ x9_1
    ·rw [if_pos c4] at H
     have c4b0 : decide (0 ≤ x9_1) = true := decide_eq_true c4
     clear c4
     by_cases c5 : x9_1 < (l1.length : Int)
     ·rw [if_pos c5] at H
      have c5b0 : decide (x9_1 < (l1.length : Int)) = true := decide_eq_true c5
      clear c5
      by_cases c6 : x9_1 < (x0_1.length : Int)
      ·rw [if_pos c6] at H
       have c6b0 : decide (x9_1 < (x0_1.length : Int)) = true := decide_eq_true c6
       clear c6
       replace H := obe H
       obtain ⟨⟨t223, t224⟩, A70, H⟩ := H
       (try dsimp only at H)
       have A7 := Aside0.mk A70
       clear A70
       obtain ⟨y225, hy225⟩ : ∃ y_ : List Int, y_ = (x0_1.set (x9_1 : Int).toNat t223) := ⟨_, rfl⟩
       replace H : (quot_give.l0 k1 y225 l1 t224 l1 (l1.length : Int) (wrap64 (x9_1 + 1))) = some r := by first | (rw [hy225]; with_reducible exact H) | (have H2_ := (Option.bind_some _ _).symm.trans H; rw [hy225]; with_reducible exact H2_) | (have H2_ := (Option.bind_some _ _).symm.trans H; with_reducible exact H2_) | with_reducible exact H | (rw [hy225]; exact H) | exact H
       have Ny225 := Aside0.mk hy225
       clear hy225
       have H' := Aside0.mk H
       clear H
       have p221 : 0 ≤ (x9_1 : Int) := of_decide_eq_true dS
       have q221 : x9_1 < (l1.length : Int) := of_decide_eq_true dS
       obtain ⟨ad221, e221, hx221_0⟩ := Kd.at_int (Kd.C_kept_now HR1.out HK.out) x9_1 p221 q221
       cases e221
       replace p221 := eq_true p221
       replace q221 := eq_true q221
       obtain ⟨Ao9, co9, eo9⟩ := Pc_slice HO_0.out
       subst eo9
       have p222 : 0 ≤ (x9_1 : Int) := of_decide_eq_true dS
       have q222 : x9_1 < (x0_1.length : Int) := of_decide_eq_true dS
       obtain ⟨ad222, e222, hx222_0⟩ := Kd.at_int (Pc_reads' HO_0.out).2.2 x9_1 p222 q222
       cases e222
       replace p222 := eq_true p222
       replace q222 := eq_true q222
       go_wp2_with (first | ((with_reducible refine gate_callee (f := 61) rfl ?_); refine gL (some 23) Tryd.func61 #[.int .u64 (rd x0_1 x9_1), .int .u64 (rd l1 x9_1), .int .u64 x4_1] ?_; (with_reducible refine (wide_Add.calls (rd x0_1 x9_1) (rd l1 x9_1) x4_1 t223 t224 _ A7.out).mono ?_); rintro e w' ⟨rfl, ⟨nd, rfl⟩⟩; refine ⟨_, rfl, ?_⟩; (try (rw [drewN_self wr]; generalize hq_ : World.drewN wr _ = wr; have n0_ : Aside0 (Pc .u64 U_ Us_ j_ 26 wr w0.heap.size (fun k_ => (P0_ k_ ∨ w.heap.size ≤ k_)) (.slice (some ad222) x0_1.length co9) x0_1) := ⟨by rw [← hq_]; exact (by (with_reducible repeat (first | apply Pc_alloc | apply Pc_drewN | apply Pc_drew)); exact HO_0.out)⟩; have n1_ : Aside0 (Kept w wr (fun k_ => P0_ k_)) := ⟨by rw [← hq_]; exact (by repeat (first | (with_reducible first | exact HK.out | apply Kept.alloc | apply Kept.drewN | apply Kept.drew) | exact HK.out))⟩; have n2_ : Aside0 (Below w0.heap.size w0 wr) := ⟨by rw [← hq_]; exact dB⟩; clear HO_0 HK HB hq_; have HO_0 := n0_; have HK := n1_; have HB := n2_; clear n0_ n1_ n2_)); have p8 : 0 ≤ (x9_1 : Int) := of_decide_eq_true dS; have q8 : (x9_1 : Int) < ((x0_1.length : Int) : Int) := of_decide_eq_true dS; obtain ⟨go8, co8, eo8, gb8, gl8, cl8, HG8⟩ := Pc_form HO_0.out (by omega); (first | cases eo8 | (injection eo8 with ea_ en_ ec_; (first | subst ea_ | (injection ea_ with ea_; subst ea_)); subst ec_; clear en_)); have GB8 := Aside0.mk gb8; have GG8 := Aside0.mk HG8; clear gb8 gl8 HG8; have HMgo8 := Aside0.mk (show (P0_ go8 ∨ w.heap.size ≤ go8) from (HO_0.out.1 _ rfl)); (first | simp only [add_at] at hx222_0 | skip); obtain ⟨hx8_0, hf8_0⟩ := Pc_celln 0 HO_0.out (x9_1 : Int) p8 q8; (try simp only [Int.toNat_natCast] at hx8_0 hf8_0); replace p8 := eq_true p8; replace q8 := eq_true q8; obtain ⟨hy10_, hz10_⟩ := Pc_celln 0 HO_0.out (x9_1 : Int) (of_decide_eq_true dS) (of_decide_eq_true dS); (try simp only [Int.toNat_natCast] at hy10_ hz10_); have HP10 := Pc_putg HO_0.out (x9_1 : Int) (of_decide_eq_true dS) (of_decide_eq_true dS) t223; (try simp only [Int.toNat_natCast] at HP10)) | ((with_reducible refine gate_store (t := 26) (p := 26) rfl ?_); refine store_event (t := 26) (p := 26) (v := ?vo_w11) (w1 := (wr.setCell ⟨go8, j_ + (x9_1 : Int).toNat, none⟩ (.int .u64 t223))) ?hg ?ho ?hn ?hr ?_; (case ho => rfl); (case hg => rfl); (case hn => rfl); (case hr => first | (go_simp; done) | (go_simp; rfl)); intro w11 hw; have hg : wr.grownBy w11 (some go8) := (by rw [hw]; exact HP10.2); have hp_ : Pc .u64 U_ Us_ j_ 26 w11 w0.heap.size (fun k_ => (P0_ k_ ∨ w.heap.size ≤ k_)) (.slice (some ⟨go8, j_, none⟩) x0_1.length co9) y225 := (by rw [hw, Ny225.out]; exact HP10.1); clear HP10; replace HB := Aside0.mk ((by rw [hw]; exact below_set (HB.out) GB8.out : Below w0.heap.size w0 w11)); replace HK := Aside0.mk (Kept.of_grown (S := (fun k_ => P0_ k_)) hg (by repeat (first | (with_reducible first | exact HK.out | apply Kept.alloc | apply Kept.drewN | apply Kept.drew) | exact HK.out)) (fun k_ e_ => (HO_0.out.1 k_ e_))); replace HO_0 := Aside0.mk (hp_); clear hg hw hp_))
       go_roundg k1
       case measure => have := HK1.out; omega
       case rel => exact ⟨(y225), (t224), (wrap64 (x9_1 + 1)), dF, dF, H', ⟨by have := HK1.out; omega⟩, ⟨by (with_reducible repeat (first | apply Pc_alloc | apply Pc_drewN | apply Pc_drew)); exact HO_0.out⟩, ⟨by repeat (first | (with_reducible first | exact HK.out | apply Kept.alloc | apply Kept.drewN | apply Kept.drew) | exact HK.out)⟩, ⟨dB⟩⟩
      ·rw [if_neg c6] at H
       exact absurd H (by simp)
     ·rw [if_neg c5] at H
      exact absurd H (by simp)
    ·rw [if_neg c4] at H
     exact absurd H (by simp)
   ·rw [if_neg c3] at H
    have c3b0 : decide (x9_1 < (l1.length : Int)) = false := decide_eq_false c3
    clear c3
    by_cases c12 : (0 : Int) ≤ (l1.length : Int)
    ·rw [if_pos c12] at H
     have c12b0 : decide (0 ≤ (l1.length : Int)) = true := decide_eq_true c12
     have c12b1 : decide (0 ≤ l1.length) = true := decide_eq_true (by omega)
     clear c12
     by_cases c13 : (l1.length : Int) < (x0_1.length : Int)
     ·rw [if_pos c13] at H
      have c13b0 : decide ((l1.length : Int) < (x0_1.length : Int)) = true := decide_eq_true c13
      have c13b1 : decide (l1.length < x0_1.length) = true := decide_eq_true (Int.ofNat_lt.mp c13)
      clear c13
      obtain ⟨y227, hy227⟩ : ∃ y_ : List Int, y_ = (x0_1.set ((l1.length : Int) : Int).toNat (IntKind.u64.wrap ((rd x0_1 (l1.length : Int)) + x4_1))) := ⟨_, rfl⟩
      replace H : (some y227) = some r := by first | (rw [hy227]; with_reducible exact H) | (have H2_ := (Option.bind_some _ _).symm.trans H; rw [hy227]; with_reducible exact H2_) | (have H2_ := (Option.bind_some _ _).symm.trans H; with_reducible exact H2_) | with_reducible exact H | (rw [hy227]; exact H) | exact H
      have Ny227 := Aside0.mk hy227
      clear hy227
      obtain rfl := Option.some.inj H
      obtain ⟨Ao15, co15, eo15⟩ := Pc_slice HO_0.out
      subst eo15
      have p226 : 0 ≤ ((l1.length : Int) : Int) := of_decide_eq_true dS
      have q226 : (l1.length : Int) < (x0_1.length : Int) := of_decide_eq_true dS
      obtain ⟨ad226, e226, hx226_0⟩ := Kd.at_int (Pc_reads' HO_0.out).2.2 (l1.length : Int) p226 q226
      cases e226
      (try simp only [Go.IntWalk.toNatUp] at hx226_0)
      replace p226 := eq_true p226
      replace q226 := eq_true q226
      have p14 : 0 ≤ ((l1.length : Int) : Int) := of_decide_eq_true dS
      have q14 : ((l1.length : Int) : Int) < ((x0_1.length : Int) : Int) := of_decide_eq_true dS
      obtain ⟨go14, co14, eo14, gb14, gl14, cl14, HG14⟩ := Pc_form HO_0.out (by omega)
      (first | cases eo14 | (injection eo14 with ea_ en_ ec_; (first | subst ea_ | (injection ea_ with ea_; subst ea_)); subst ec_; clear en_))
      have GB14 := Aside0.mk gb14
      have GG14 := Aside0.mk HG14
      clear gb14 gl14 HG14
      have HMgo14 := Aside0.mk (show (P0_ go14 ∨ w.heap.size ≤ go14) from (HO_0.out.1 _ rfl))
      (first | simp only [add_at] at hx226_0 | skip)
      obtain ⟨hx14_0, hf14_0⟩ := Pc_celln 0 HO_0.out ((l1.length : Int) : Int) p14 q14; (try simp only [Int.toNat_natCast] at hx14_0 hf14_0); (try simp only [Int.toNat_natCast] at hx14_0 hf14_0)
      replace p14 := eq_true p14
      replace q14 := eq_true q14
      have HP16 := Pc_putg HO_0.out ((l1.length : Int) : Int) (of_decide_eq_true dS) (of_decide_eq_true dS) (IntKind.u64.wrap ((rd x0_1 (l1.length : Int)) + x4_1)); (try simp only [Int.toNat_natCast] at HP16); (try simp only [Int.toNat_natCast] at HP16)
      go_wp2_with (first | ((with_reducible refine gate_store (t := 26) (p := 35) rfl ?_); refine store_event (t := 26) (p := 35) (v := ?vo_w17) (w1 := (wr.setCell ⟨go14, j_ + l1.length, none⟩ (.int .u64 (IntKind.u64.wrap ((rd x0_1 (l1.length : Int)) + x4_1))))) ?hg ?ho ?hn ?hr ?_; (case ho => rfl); (case hg => rfl); (case hn => rfl); (case hr => first | (go_simp; done) | (go_simp; rfl)); intro w17 hw; have hg : wr.grownBy w17 (some go14) := (by rw [hw]; exact HP16.2); have hp_ : Pc .u64 U_ Us_ j_ 26 w17 w0.heap.size (fun k_ => (P0_ k_ ∨ w.heap.size ≤ k_)) (.slice (some ⟨go14, j_, none⟩) x0_1.length co15) y227 := (by rw [hw, Ny227.out]; exact HP16.1); clear HP16; replace HB := Aside0.mk ((by rw [hw]; exact below_set (HB.out) GB14.out : Below w0.heap.size w0 w17)); replace HK := Aside0.mk (Kept.of_grown (S := (fun k_ => P0_ k_)) hg (by repeat (first | (with_reducible first | exact HK.out | apply Kept.alloc | apply Kept.drewN | apply Kept.drew) | exact HK.out)) (fun k_ e_ => (HO_0.out.1 k_ e_))); replace HO_0 := Aside0.mk (hp_); clear hg hw hp_))
      first | go_end0 | ((try simp only [Exit.inBlock, Exit.then]); refine bodyPost_ret (results_none rfl _ _ _) rfl ?_)
      exact ⟨dE, by (with_reducible repeat (first | apply Pc_alloc | apply Pc_drewN | apply Pc_drew)); exact HO_0.out, dB, by repeat (first | (with_reducible first | exact HK.out | apply Kept.alloc | apply Kept.drewN | apply Kept.drew) | exact HK.out)⟩
     ·rw [if_neg c13] at H
      exact absurd H (by simp)
    ·rw [if_neg c12] at H
     exact absurd H (by simp)
/-- give on the piece of n + 1 words at j of a row -/
def quot_giveAt.f (k : Nat) (u : List Int) (j n : Int) (v : List Int) : Option (List Int) :=
 if 0 ≤ j ∧ 0 ≤ n ∧ j + n + 1 ≤ (u.length : Int) then (quot_give.f k ((u.drop j.toNat).take (n.toNat + 1)) v).bind fun y => some (u.take j.toNat ++ y ++ u.drop (j.toNat + (n.toNat + 1))) else none
theorem quot_giveAt.mono : ∀ a0 a1 a2 a3 k, LeO (quot_giveAt.f k a0 a1 a2 a3) (quot_giveAt.f (k + 1) a0 a1 a2 a3) := by
 intro a0 a1 a2 a3 k
 unfold quot_giveAt.f
 exact LeO.ite (LeO.bind (quot_give.mono _ _ _) (fun _ => LeO.refl _)) (LeO.none _)
theorem quot_giveAt.calls (k : Nat) (P0_ : Nat → Prop) (g N c : Nat) (Us : List Int) (j n : Int) (A1 : Option Addr) (c1 : Nat) (l1 : List Int) (r : List Int) (w0 w : World) (hB : Below w0.heap.size w0 w) (ho0 : Kd.R (Kd.int .u64) 26 w w0.heap.size P0_ (.slice (some ⟨g, 0, none⟩) N c) Us) (hr1 : ∀ W_, Kept w W_ (fun k_ => P0_ k_) → Kd.C (Kd.int .u64) W_ A1 l1.length l1) (hc1 : l1.length ≤ c1) (h : quot_giveAt.f k Us j n l1 = some r) :
  Calls Tryd.prog 117 #[.slice (some ⟨g, j.toNat, none⟩) (n.toNat + 1) (c - j.toNat), .slice A1 l1.length c1] w fun e w' => e = .returned (.tuple #[]) ∧ Kd.R (Kd.int .u64) 26 w' w0.heap.size (fun k_ => (P0_ k_ ∨ w.heap.size ≤ k_)) (.slice (some ⟨g, 0, none⟩) N c) r ∧ Below w0.heap.size w0 w' ∧ Kept w w' (fun k_ => P0_ k_) ∧ r.length = Us.length := by
 unfold quot_giveAt.f at h
 split at h
 case isFalse => cases h
 rename_i hh
 replace h := Option.bind_eq_some_iff.mp h
 obtain ⟨y, h1, h⟩ := h
 simp only [Option.some.injEq] at h
 subst h
 have hj : j.toNat + (n.toNat + 1) ≤ Us.length := by omega
 have hp := Pc_of (j := j.toNat) (n := n.toNat + 1) ho0 (by omega) hj
 refine (quot_give.callsP _ Us j.toNat k P0_ _ _ A1 c1 l1 _ w0 w hB hp hr1 hc1 h1).mono ?_
 rintro e w' ⟨rfl, hP, hb, hk⟩
 have hl := piece_whole hP
 have hR := Pc_back hP
 rw [hl] at hR
 refine ⟨rfl, hR, hb, hk, ?_⟩
 rw [List.length_append, List.length_append, List.length_take, List.length_drop, hl]
 omega

/-! ### quot_shr: function 118 -/
def quot_shr.l0 : Nat → List Int → Int → List Int → Int → Int → Option (List Int)
 | 0, _, _, _, _, _ => none
 | k + 1, x0, x1, x5, x6, x7 => if x7 ≥ 0 then (if 0 ≤ x7 then (if x7 < (x0.length : Int) then ((wide_Shr.f x6 (rd x0 x7) x1).bind fun bt214 => (if x7 < (x5.length : Int) then (quot_shr.l0 k x0 x1 (x5.set (x7 : Int).toNat bt214.2.1) (rd x0 x7) (wrap64 (x7 - 1))) else (none))) else (none)) else (none)) else ((nat_Norm.f x5).bind fun t219 => (some t219))
def quot_shr.f (k : Nat) (l0 : List Int) (a1 : Int) : Option (List Int) := if 0 ≤ (l0.length : Int) then (if ((l0.length : Int) : Int).toNat ≤ 35184372088832 then (quot_shr.l0 k l0 a1 (List.replicate ((l0.length : Int) : Int).toNat 0) 0 (wrap64 ((l0.length : Int) - 1))) else (none)) else (none)
theorem quot_shr.mono_l : ∀ k, (∀ y0 y1 y2 y3 y4, LeO (quot_shr.l0 k y0 y1 y2 y3 y4) (quot_shr.l0 (k + 1) y0 y1 y2 y3 y4))
 | 0 => fun _ _ _ _ _ r h => by simp [quot_shr.l0] at h
 | k + 1 => by
  have ih0 := quot_shr.mono_l k
  ·intro y0 y1 y2 y3 y4
   unfold quot_shr.l0
   exact mX
theorem quot_shr.mono : ∀ a0 a1 k, LeO (quot_shr.f k a0 a1) (quot_shr.f (k + 1) a0 a1) := by
 intro a0 a1 k
 have ih0 := quot_shr.mono_l k
 unfold quot_shr.f
 exact mX
set_option maxHeartbeats 8000000 in
set_option maxRecDepth 100000 in
theorem quot_shr.calls (k : Nat) (A0 : Option Addr) (c0 : Nat) (l0 : List Int) (a1 : Int) (r : List Int) (w : World) (hr0 : Kd.C (Kd.int .u64) w A0 l0.length l0) (hc0 : l0.length ≤ c0) (h : quot_shr.f k l0 a1 = some r) :
  Calls Tryd.prog 118 #[.slice A0 l0.length c0, .int .i64 a1] w fun e w' => ∃ v0_ : Value, e = .returned (v0_) ∧ Kd.R (Kd.int .u64) 26 w' w.heap.size (fun _ => True) v0_ r ∧ Below w.heap.size w w' := by
 have HR0 := Aside0.mk hr0
 have HC0 := Aside0.mk hc0
 clear hr0 hc0
 have HB := Aside0.mk (Below.refl w.heap.size w)
 have H : (if 0 ≤ (l0.length : Int) then (if ((l0.length : Int) : Int).toNat ≤ 35184372088832 then (quot_shr.l0 k l0 a1 (List.replicate ((l0.length : Int) : Int).toNat 0) 0 (wrap64 ((l0.length : Int) - 1))) else (none)) else (none)) = some r := h
 clear h
 by_cases c3 : (0 : Int) ≤ (l0.length : Int)
 ·rw [if_pos c3] at H
  have c3b0 := eq_true c3
  have c3b1 : decide (0 ≤ (l0.length : Int)) = true := decide_eq_true c3
  clear c3
  by_cases c4 : ((l0.length : Int) : Int).toNat ≤ 35184372088832
  ·rw [if_pos c4] at H
   have c4b0 := eq_true c4
   have c4b1 : decide (((l0.length : Int) : Int).toNat ≤ 35184372088832) = true := decide_eq_true c4
   clear c4
   obtain ⟨y210, hy210⟩ : ∃ y_ : List Int, y_ = (List.replicate ((l0.length : Int) : Int).toNat 0) := ⟨_, rfl⟩
   replace H : (quot_shr.l0 k l0 a1 y210 0 (wrap64 ((l0.length : Int) - 1))) = some r := by first | (rw [hy210]; with_reducible exact H) | (have H2_ := (Option.bind_some _ _).symm.trans H; rw [hy210]; with_reducible exact H2_) | (have H2_ := (Option.bind_some _ _).symm.trans H; with_reducible exact H2_) | with_reducible exact H | (rw [hy210]; exact H) | exact H
   have Ny210 := Aside0.mk hy210
   clear hy210
   have H' := Aside0.mk H
   clear H
   go_enter Tryd.func118, Tryd.ntmps118
   go_wp2_with (first | ((with_reducible refine gate_dst (N := 10) rfl ?_); refine Kd.R_make (Kd.int .u64) _ 26 rfl (N := 10) rfl 22 _ _ rfl (l0.length : Int) rfl rfl Tryd.underlying22 (.int .u64 0) 8 info26 rfl (by decide) (by omega) 0 (ok := fun _ => True) (okp := fun _ => True) rfl (fun _ hk => hk) trivial (of_decide_eq_true dS) (Nat.le_trans (Nat.mul_le_mul_right _ (of_decide_eq_true dS : (l0.length : Int).toNat ≤ 35184372088832)) (by omega)) (Below.refl _ _) (Nat.le_refl _) ?_; intro v211 w5 ho6 hb hg_ hnew_; clear hg_ hnew_; (first | rw [← Ny210.out] at ho6 | (simp only [Int.reduceToNat] at ho6; rw [← Ny210.out] at ho6)); have HO212 := Aside0.mk (Kd.R_lower ho6 (below_size dB)); replace HB := Aside0.mk (below_step dB hb); clear hb ho6))
   go_loopg [6, 7] k (fun kq v6 v7 w' => ∃ (x5_1 : List Int) (x6_1 : Int) (x7_1 : Int), v6 = .int .u64 x6_1 ∧ v7 = .int .i64 x7_1 ∧ Aside0 (quot_shr.l0 kq l0 a1 x5_1 x6_1 x7_1 = some r) ∧ Aside0 (kq ≤ k) ∧ Aside0 (Kd.R (Kd.int .u64) 26 w' w.heap.size (fun _ => True) v211 x5_1) ∧ Aside0 (Below w.heap.size w w'))
   case atStart => exact ⟨(y210), (0), (wrap64 ((l0.length : Int) - 1)), dF, dF, H', ⟨Nat.le_refl _⟩, ⟨dR HO212.out⟩, ⟨dB⟩⟩
   case round =>
    clear H'
    try clear c3
    try clear c3b0
    try clear c3b1
    try clear c4
    try clear c4b0
    try clear c4b1
    obtain ⟨x5_1, x6_1, x7_1, rfl, rfl, HA, HK1, HO_5, HB⟩ := hrel
    cases gk with
    | zero => exact absurd HA.out (by simp [quot_shr.l0])
    | succ k1 =>
     have H := HA.out
     clear HA
     simp only [quot_shr.l0] at H
     by_cases c7 : x7_1 ≥ 0
     ·rw [if_pos c7] at H
      have c7b0 : decide (0 ≤ x7_1) = true := decide_eq_true c7
      clear c7
      by_cases c8 : (0 : Int) ≤ x7_1
      ·rw [if_pos c8] at H
       have c8b0 : decide (0 ≤ x7_1) = true := decide_eq_true c8
       clear c8
       by_cases c9 : x7_1 < (l0.length : Int)
       ·rw [if_pos c9] at H
        have c9b0 : decide (x7_1 < (l0.length : Int)) = true := decide_eq_true c9
        clear c9
        replace H := obe H
        obtain ⟨⟨t214, t215, t216⟩, A100, H⟩ := H
        (try dsimp only at H)
        have A10 := Aside0.mk A100
        clear A100
        by_cases c11 : x7_1 < (x5_1.length : Int)
        ·rw [if_pos c11] at H
         have c11b0 : decide (x7_1 < (x5_1.length : Int)) = true := decide_eq_true c11
         clear c11
         obtain ⟨y217, hy217⟩ : ∃ y_ : List Int, y_ = (x5_1.set (x7_1 : Int).toNat t215) := ⟨_, rfl⟩
         replace H : (quot_shr.l0 k1 l0 a1 y217 (rd l0 x7_1) (wrap64 (x7_1 - 1))) = some r := by first | (rw [hy217]; with_reducible exact H) | (have H2_ := (Option.bind_some _ _).symm.trans H; rw [hy217]; with_reducible exact H2_) | (have H2_ := (Option.bind_some _ _).symm.trans H; with_reducible exact H2_) | with_reducible exact H | (rw [hy217]; exact H) | exact H
         have Ny217 := Aside0.mk hy217
         clear hy217
         have H' := Aside0.mk H
         clear H
         have p213 : 0 ≤ (x7_1 : Int) := of_decide_eq_true dS
         have q213 : x7_1 < (l0.length : Int) := of_decide_eq_true dS
         obtain ⟨ad213, e213, hx213_0⟩ := Kd.at_int HR0.out x7_1 p213 q213
         cases e213
         replace hx213_0 := (HB.out.cell (World.block_lt_of_cell? w _ hx213_0)).trans hx213_0
         replace p213 := eq_true p213
         replace q213 := eq_true q213
         go_wp2_with (first | ((with_reducible refine gate_callee (f := 82) rfl ?_); refine gL (some 27) Tryd.func82 #[.int .u64 x6_1, .int .u64 (rd l0 x7_1), .int .i64 a1] ?_; (with_reducible refine (wide_Shr.calls x6_1 (rd l0 x7_1) a1 t214 t215 t216 _ A10.out).mono ?_); rintro e w13 ⟨rfl, hb⟩; refine ⟨_, rfl, ?_⟩; replace HO_5 := Aside0.mk (Kd.R_below (dR HO_5.out) hb); replace HB := Aside0.mk (below_step dB hb); (try clear hb); have p12 : 0 ≤ (x7_1 : Int) := of_decide_eq_true dS; have q12 : (x7_1 : Int) < ((x5_1.length : Int) : Int) := of_decide_eq_true dS; obtain ⟨go12, co12, eo12, gb12, gl12, cl12, HG12⟩ := Kd.R_form HO_5.out (by omega); (first | cases eo12 | (injection eo12 with ea_ en_ ec_; (first | subst ea_ | (injection ea_ with ea_; subst ea_)); subst ec_; clear en_)); have GB12 := Aside0.mk gb12; have GG12 := Aside0.mk HG12; clear gb12 gl12 HG12; obtain ⟨hx12_0, hf12_0⟩ := Kd.R_celln 0 HO_5.out (x7_1 : Int) p12 q12; replace p12 := eq_true p12; replace q12 := eq_true q12; obtain ⟨hy14_, hz14_⟩ := Kd.R_celln 0 HO_5.out (x7_1 : Int) (of_decide_eq_true dS) (of_decide_eq_true dS); have HP14 := Kd.R_putg HO_5.out (x7_1 : Int) t215) | ((with_reducible refine gate_store (t := 26) (p := 31) rfl ?_); refine store_event (t := 26) (p := 31) (v := ?vo_w15) (w1 := (w13.setCell ⟨go12, (x7_1 : Int).toNat, none⟩ (.int .u64 t215))) ?hg ?ho ?hn ?hr ?_; (case ho => rfl); (case hg => rfl); (case hn => rfl); (case hr => first | (go_simp; done) | (go_simp; rfl)); intro w15 hw; have hg : w13.grownBy w15 (some go12) := (by rw [hw]; exact HP14.2); have hp_ : Kd.R (Kd.int .u64) 26 w15 w.heap.size (fun _ => True) (.slice (some ⟨go12, 0, none⟩) x5_1.length co12) y217 := (by rw [hw, Ny217.out]; exact HP14.1); clear HP14; replace HO_5 := Aside0.mk (hp_); replace HB := Aside0.mk ((by rw [hw]; exact below_set (HB.out) GB12.out : Below w.heap.size w w15)); clear hg hw hp_; have p218 : 0 ≤ (x7_1 : Int) := of_decide_eq_true dS; have q218 : x7_1 < (l0.length : Int) := of_decide_eq_true dS; obtain ⟨ad218, e218, hx218_0⟩ := Kd.at_int HR0.out x7_1 p218 q218; obtain rfl : ad213 = ad218 := (by injection e218); replace hx218_0 := (HB.out.cell (World.block_lt_of_cell? w _ hx218_0)).trans hx218_0; replace p218 := eq_true p218; replace q218 := eq_true q218))
         go_roundg k1
         case measure => have := HK1.out; omega
         case rel => exact ⟨(y217), (rd l0 x7_1), (wrap64 (x7_1 - 1)), dF, dF, H', ⟨by have := HK1.out; omega⟩, ⟨dR HO_5.out⟩, ⟨dB⟩⟩
        ·rw [if_neg c11] at H
         exact absurd H (by simp)
       ·rw [if_neg c9] at H
        exact absurd H (by simp)
      ·rw [if_neg c8] at H
       exact absurd H (by simp)
     ·rw [if_neg c7] at H
      have c7b0 : decide (0 ≤ x7_1) = false := decide_eq_false c7
      clear c7
      replace H := obe H
      obtain ⟨t219, A160, H⟩ := H
      (try dsimp only at H)
      have A16 := Aside0.mk A160
      clear A160
      obtain rfl := Option.some.inj H
      obtain ⟨Ao17, co17, eo17⟩ := Kd.R_slice HO_5.out
      subst eo17
      go_wp2_with (first | ((with_reducible refine gate_callee (f := 51) rfl ?_); refine gL (some 37) Tryd.func51 #[.slice Ao17 x5_1.length co17] ?_; (with_reducible refine (nat_Norm.calls _ _ x5_1 t219 _ ?side1 ?side2 A16.out).mono ?_); (case side1 => exact dC (Kd.R_reads' HO_5.out).2.2); (case side2 => exact (Kd.R_reads' HO_5.out).2.1); rintro e w18 ⟨v220, rfl, ho0, hb⟩; refine ⟨_, rfl, ?_⟩; have HO221 := Aside0.mk (Kd.R_lower (Kd.R_new' ho0 (Kd.R_lt (dR HO_5.out))) (below_size dB)); replace HO_5 := Aside0.mk (Kd.R_elder' (dR HO_5.out) (Kd.R_base ho0) hb); replace HB := Aside0.mk (below_step dB hb); (try clear hb); (try clear ho0)))
      go_ret
      exact ⟨_, dE, by (with_reducible repeat (first | apply Kd.R_alloc | apply Kd.R_drewN | apply Kd.R_drew)); exact Kd.R_mono HO221.out (fun _ hk => trivial), dB⟩
  ·rw [if_neg c4] at H
   exact absurd H (by simp)
 ·rw [if_neg c3] at H
  exact absurd H (by simp)

end Go.Proofs.YtoefabmlkbhmpaaDoor.PA
