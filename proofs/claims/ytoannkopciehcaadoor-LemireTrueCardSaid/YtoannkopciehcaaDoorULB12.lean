/- A part of the proof (12). -/
import Derived.Test.YtoannkopciehcaaDoorULB2
import Derived.Test.YtoannkopciehcaaDoorULB4
import Derived.Test.YtoannkopciehcaaDoorULB5
import Derived.Test.YtoannkopciehcaaDoorULB6
import Derived.Test.YtoannkopciehcaaDoorULB9
import Derived.Test.YtoannkopciehcaaDoorULB10
import Derived.Test.YtoannkopciehcaaDoorULB11
import Derived.Test.YtoannkopciehcaaDoorULB3
import Derived.Test.YtoannkopciehcaaDoorULB7
import Derived.Test.YtoannkopciehcaaDoorULB8
namespace Go.Proofs.YtoannkopciehcaaDoor.PA
open Go.RowKit Go.Proofs.YtoannkopciehcaaDoorW.PrintWords Go.Proofs.YtoannkopciehcaaDoorW.PrintLast Go.Proofs.YtoannkopciehcaaDoorW.PrintMore
attribute [local go_sem] max2_int min2_int max_two min_two max_three min_three max_four min_four   -- for this text's walks alone
set_option linter.unusedVariables false
set_option linter.unusedSimpArgs false

/-! ### radix_Ten: function 25 -/
def radix_Ten.f (k : Nat) (a0 : Int) : Option (List Int × Int) := if a0 > 78913 then (some (([] : List Int), 21)) else ((radix_Five.f k a0).bind fun bt622 => (if bt622.2 = 0 then ((nat_Shl.f k bt622.1 a0).bind fun bt626 => (some (bt626.1, bt626.2))) else (some (([] : List Int), bt622.2))))
set_option maxHeartbeats 8000000 in
set_option maxRecDepth 100000 in
theorem radix_Ten.calls (k : Nat) (a0 : Int) (r1 : List Int) (r2 : Int) (w : World) (h : radix_Ten.f k a0 = some (r1, r2)) :
  Calls Tryd.prog 25 #[.int .i64 a0] w fun e w' => ∃ v0_ : Value, e = .returned (.tuple #[v0_, .int .i64 r2]) ∧ Kd.R (Kd.int .u64) 22 w' w.heap.size (fun _ => True) v0_ r1 ∧ Below w.heap.size w w' := by
 have HB := Aside0.mk (Below.refl w.heap.size w)
 have H : (if a0 > 78913 then (some (([] : List Int), 21)) else ((radix_Five.f k a0).bind fun bt622 => (if bt622.2 = 0 then ((nat_Shl.f k bt622.1 a0).bind fun bt626 => (some (bt626.1, bt626.2))) else (some (([] : List Int), bt622.2))))) = some (r1, r2) := h
 clear h
 by_cases c2 : a0 > 78913
 ·rw [if_pos c2] at H
  have c2b0 : decide (78913 < a0) = true := decide_eq_true c2
  clear c2
  simp only [Option.some.injEq, Prod.mk.injEq] at H
  obtain ⟨rfl, rfl⟩ := H
  go_enter Tryd.func25, Tryd.ntmps25
  go_wp2
  go_ret2
  exact ⟨_, dE, by first | exact Kd.R_nil _ _ _ _ _ | exact Kd.N_nil _ _ _ _ _ | exact Kd.V_nil _ _ _ _ _ | exact Kd.Q_nil _ _ _ _ _ | exact Kd.S_nil _ _ _ _ _, dB⟩
 ·rw [if_neg c2] at H
  have c2b0 : decide (78913 < a0) = false := decide_eq_false c2
  clear c2
  replace H := obe H
  obtain ⟨⟨t622, t623⟩, A30, H⟩ := H
  (try dsimp only at H)
  have A3 := Aside0.mk A30
  clear A30
  by_cases c4 : t623 = 0
  ·rw [if_pos c4] at H
   have c4b0 : (t623 == 0) = true := beq_iff_eq.mpr c4
   have c4b1 : (t623 != 0) = false := bne_eq_false_iff_eq.mpr c4
   clear c4
   replace H := obe H
   obtain ⟨⟨t626, t627⟩, A50, H⟩ := H
   (try dsimp only at H)
   have A5 := Aside0.mk A50
   clear A50
   simp only [Option.some.injEq, Prod.mk.injEq] at H
   obtain ⟨rfl, rfl⟩ := H
   go_enter Tryd.func25, Tryd.ntmps25
   go_wp2_with (first | ((with_reducible refine gate_callee (f := 57) rfl ?_); refine gL (some 10) Tryd.func57 #[.int .i64 a0] ?_; (with_reducible refine (radix_Five.calls k a0 t622 t623 _ A3.out).mono ?_); rintro e w6 ⟨v624, rfl, ho0, hb⟩; refine ⟨_, rfl, ?_⟩; have HO625 := Aside0.mk (Kd.R_lower ho0 (below_size dB)); replace HB := Aside0.mk (below_step dB hb); (try clear hb); (try clear ho0); obtain ⟨Ao7, co7, eo7⟩ := Kd.R_slice HO625.out; subst eo7) | ((with_reducible refine gate_callee (f := 58) rfl ?_); refine gL (some 18) Tryd.func58 #[.slice Ao7 t622.length co7, .int .i64 a0] ?_; (with_reducible refine (nat_Shl.calls k _ _ t622 a0 t626 t627 _ ?side1 ?side2 A5.out).mono ?_); (case side1 => exact dC (Kd.R_reads' HO625.out).2.2); (case side2 => exact (Kd.R_reads' HO625.out).2.1); rintro e w8 ⟨v628, rfl, ho0, hb⟩; refine ⟨_, rfl, ?_⟩; have HO629 := Aside0.mk (Kd.R_lower (Kd.R_new' ho0 (Kd.R_lt (dR HO625.out))) (below_size dB)); replace HO625 := Aside0.mk (Kd.R_elder' (dR HO625.out) (Kd.R_base ho0) hb); replace HB := Aside0.mk (below_step dB hb); (try clear hb); (try clear ho0)))
   go_ret2
   exact ⟨_, dE, by (with_reducible repeat (first | apply Kd.R_alloc | apply Kd.R_drewN | apply Kd.R_drew)); exact Kd.R_mono HO629.out (fun _ hk => trivial), dB⟩
  ·rw [if_neg c4] at H
   have c4b0 : (t623 == 0) = false := beq_eq_false_iff_ne.mpr c4
   have c4b1 : (t623 != 0) = true := bne_iff_ne.mpr c4
   simp only [Option.some.injEq, Prod.mk.injEq] at H
   obtain ⟨rfl, rfl⟩ := H
   go_enter Tryd.func25, Tryd.ntmps25
   go_wp2_with (first | ((with_reducible refine gate_callee (f := 57) rfl ?_); refine gL (some 10) Tryd.func57 #[.int .i64 a0] ?_; (with_reducible refine (radix_Five.calls k a0 t622 t623 _ A3.out).mono ?_); rintro e w9 ⟨v624, rfl, ho0, hb⟩; refine ⟨_, rfl, ?_⟩; have HO625 := Aside0.mk (Kd.R_lower ho0 (below_size dB)); replace HB := Aside0.mk (below_step dB hb); (try clear hb); (try clear ho0)))
   go_ret2
   exact ⟨_, dE, by first | exact Kd.R_nil _ _ _ _ _ | exact Kd.N_nil _ _ _ _ _ | exact Kd.V_nil _ _ _ _ _ | exact Kd.Q_nil _ _ _ _ _ | exact Kd.S_nil _ _ _ _ _, dB⟩

end Go.Proofs.YtoannkopciehcaaDoor.PA

namespace Go.Proofs.YtoannkopciehcaaDoor.PA
open Go.RowKit Go.Proofs.YtoannkopciehcaaDoorW.PrintWords Go.Proofs.YtoannkopciehcaaDoorW.PrintLast Go.Proofs.YtoannkopciehcaaDoorW.PrintMore
attribute [local go_sem] max2_int min2_int max_two min_two max_three min_three max_four min_four   -- for this text's walks alone
set_option linter.unusedVariables false
set_option linter.unusedSimpArgs false

/-! ### near_shl: function 78 (by hand) -/
theorem R_make_cap {P : Program} {ops : Array Oper} {rest : List Oper} {o : Oper} {a : Act} {Q : Exit → Act → World → Prop} {w0 W : World} (base e : Nat) (hgd : o.guard = none) {N : Tmp} (_hd : o.dst = some N) (t : TypeId) (x y : Operand) (ho : o.op = .makeSlice t x y) (n c : Int) (hx : a.eval x = .int .i64 n) (hy : a.eval y = .int .i64 c)
  (ht : P.underlying t = some (.slice e)) (hinfo : (P.info? e).map (fun i => (i.zero, i.size, i.bytes)) = some (some (.int .u64 0), 1, 8)) {ok : Nat → Prop} (hfresh : ok W.heap.size) (h0 : 0 ≤ n) (hnc : n ≤ c) (hl : c.toNat ≤ 35184372088832) (HB : Below base w0 W) (hbase : base ≤ W.heap.size)
  (h : ∀ v1 w1, (Kd.int .u64).R e w1 base ok v1 (List.replicate n.toNat 0) → Below base w0 w1 → W.grownBy w1 none → (∃ b, v1.ownBlock = some b ∧ W.heap.size ≤ b) → wpList P ops Q rest (a.put o.dst v1) w1) : wpList P ops Q (o :: rest) a W := by
 obtain ⟨i0, hi, hzz⟩ := Option.map_eq_some_iff.1 hinfo
 simp only [Prod.mk.injEq] at hzz
 obtain ⟨hz0, hz1, hz2⟩ := hzz
 obtain ⟨m, rfl⟩ := Int.eq_ofNat_of_zero_le (show 0 ≤ c by omega)
 obtain ⟨k, rfl⟩ := Int.eq_ofNat_of_zero_le h0
 simp only [Int.toNat_natCast] at hl h
 have hr := run_make (P := P) W t e i0 (.int .u64 0) ht hi hz0 .i64 .i64 (k : Int) (m : Int) h0 hnc (by rw [hz2]; omega) (by omega)
 simp only [Int.toNat_natCast] at hr
 rw [hz1, Nat.mul_one] at hr
 have hrep : Reps ((Kd.int .u64).M W base ok) 1 (List.replicate m (0 : Int)) (madeCells (Value.int .u64 0).cells (m * 1)).toList := Kd.reps_made (R := (Kd.int .u64).M W base ok) (z := .int .u64 0) (size := 1) (z0 := (0 : Int)) rfl (by decide) rfl m
 rw [Nat.mul_one] at hrep
 have full : (Kd.int .u64).R e (W.alloc (.cells (madeCells (Value.int .u64 0).cells m) e)) base ok (.slice (some ⟨W.heap.size, 0, none⟩) m m) (List.replicate m (0 : Int)) := by
  refine ⟨fun q hq => ?_, (madeCells (Value.int .u64 0).cells m).toList, ?_, ?_⟩
  ·have : W.heap.size = q := by simpa [Value.ownBlock] using hq
   subst this
   exact hfresh
  ·have h2 := ownsRow2_lit (base := base) (e := e) (size := 1) W (madeCells (Value.int .u64 0).cells m) m hbase (by simp only [maxLen]; omega) (by simp [size_madeCells])
   rw [List.length_replicate]
   exact h2
  ·exact hrep.imp_ (fun p c hp => hp)
 have cut := Kd.R_take (m := k) full (by simp; omega)
 rw [List.take_replicate, Nat.min_eq_left (by omega)] at cut
 refine Kd.event_run hgd (v := .slice (some ⟨W.heap.size, 0, none⟩) k m) (w1 := W.alloc (.cells (madeCells (Value.int .u64 0).cells m) e)) ?_ (h _ _ cut (HB.alloc hbase _) (World.grownBy_alloc W _ none) ⟨W.heap.size, by simp [Value.ownBlock], Nat.le_refl _⟩)
 simp [execOp, ho, hx, hy, hr]
def near_shl.l0 : Nat → Int → List Int → Int → List Int → Int → Int → Option (List Int)
 | 0, _, _, _, _, _, _ => none
 | k + 1, x1, x5, x6, x20, x21, x22 => if x22 < x21 then (if 0 ≤ x22 then (if x22 < (x20.length : Int) then ((wide_Shl.f 0 (rd x20 x22) (Int.tmod x1 64)).bind fun bt146 => (if x5.length < 17592186044416 then (near_shl.l0 k x1 (x5 ++ [Go.bits .or .u64 bt146.2 x6]) bt146.1 x20 x21 (wrap64 (x22 + 1))) else (none))) else (none)) else (none)) else (if x5.length < 17592186044416 then (some (x5 ++ [x6])) else (none))
def near_shl.f (k : Nat) (l0 : List Int) (a1 : Int) : Option (List Int) := if 0 ≤ (wrap64 (Int.tdiv a1 64)) then (if (wrap64 (Int.tdiv a1 64) : Int).toNat + l0.length + 1 ≤ 35184372088832 then (near_shl.l0 k a1 (List.replicate (wrap64 (Int.tdiv a1 64) : Int).toNat 0) 0 l0 (l0.length : Int) 0) else (none)) else (none)
set_option maxHeartbeats 8000000 in
set_option maxRecDepth 100000 in
theorem near_shl.calls (k : Nat) (A0 : Option Addr) (c0 : Nat) (l0 : List Int) (a1 : Int) (r : List Int) (w : World) (hr0 : Kd.C (Kd.int .u64) w A0 l0.length l0) (hc0 : l0.length ≤ c0) (h : near_shl.f k l0 a1 = some r) :
  Calls Tryd.prog 78 #[.slice A0 l0.length c0, .int .i64 a1] w fun e w' => ∃ v0_ : Value, e = .returned (v0_) ∧ Kd.R (Kd.int .u64) 22 w' w.heap.size (fun _ => True) v0_ r ∧ Below w.heap.size w w' := by
 have HR0 := Aside0.mk hr0
 have HC0 := Aside0.mk hc0
 clear hr0 hc0
 have HB := Aside0.mk (Below.refl w.heap.size w)
 have H : (if 0 ≤ (wrap64 (Int.tdiv a1 64)) then (if (wrap64 (Int.tdiv a1 64) : Int).toNat + l0.length + 1 ≤ 35184372088832 then (near_shl.l0 k a1 (List.replicate (wrap64 (Int.tdiv a1 64) : Int).toNat 0) 0 l0 (l0.length : Int) 0) else (none)) else (none)) = some r := h
 clear h
 obtain ⟨ji3, hji3⟩ : ∃ j_ : Int, (wrap64 (Int.tdiv a1 64)) = j_ := ⟨_, rfl⟩
 first | rw [hji3] at H | simp only [hji3] at H
 have hji3w : (IntKind.i64.wrap (Int.tdiv a1 64)) = ji3 := (i64_w _).trans hji3
 by_cases c4 : (0 : Int) ≤ (ji3)
 ·rw [if_pos c4] at H
  have c4b0 := eq_true c4
  have c4b1 : decide (0 ≤ (ji3)) = true := decide_eq_true c4
  clear c4
  by_cases c5 : (ji3 : Int).toNat + l0.length + 1 ≤ 35184372088832
  ·rw [if_pos c5] at H
   have CAP : Aside0 (ji3 ≤ wrap64 (wrap64 (ji3 + (l0.length : Int)) + 1) ∧ (wrap64 (wrap64 (ji3 + (l0.length : Int)) + 1)).toNat ≤ 35184372088832) := ⟨by
    have j0 : (0 : Int) ≤ ji3 := of_decide_eq_true c4b1
    rw [w64_of (x := ji3 + (l0.length : Int)) (by omega) (by omega), w64_of (by omega) (by omega)]
    omega⟩
   have c5b0 := eq_true c5
   have c5b1 : decide ((ji3 : Int).toNat + l0.length + 1 ≤ 35184372088832) = true := decide_eq_true c5
   clear c5
   obtain ⟨y142, hy142⟩ : ∃ y_ : List Int, y_ = (List.replicate (ji3 : Int).toNat 0) := ⟨_, rfl⟩
   replace H : (near_shl.l0 k a1 y142 0 l0 (l0.length : Int) 0) = some r := by first | (rw [hy142]; with_reducible exact H) | (have H2_ := (Option.bind_some _ _).symm.trans H; rw [hy142]; with_reducible exact H2_) | (have H2_ := (Option.bind_some _ _).symm.trans H; with_reducible exact H2_) | with_reducible exact H | (rw [hy142]; exact H) | exact H
   have Ny142 := Aside0.mk hy142
   clear hy142
   have H' := Aside0.mk H
   clear H
   go_enter Tryd.func78, Tryd.ntmps78
   go_wp2_with (first | ((with_reducible refine gate_dst (N := 19) rfl ?_); refine R_make_cap _ 22 rfl (N := 19) rfl 41 _ _ rfl ji3 (wrap64 (wrap64 (ji3 + (l0.length : Int)) + 1)) rfl rfl Tryd.underlying41 info22 (ok := fun _ => True) trivial (of_decide_eq_true dS) CAP.out.1 CAP.out.2 (Below.refl _ _) (Nat.le_refl _) ?_; intro v143 w6 ho7 hb hg_ hnew_; clear hg_ hnew_; (first | rw [← Ny142.out] at ho7 | (simp only [Int.reduceToNat] at ho7; rw [← Ny142.out] at ho7)); have HO144 := Aside0.mk (Kd.R_lower ho7 (below_size dB)); replace HB := Aside0.mk (below_step dB hb); clear hb ho7))
   go_loopg [5, 6, 22] k (fun kq v5 v6 v22 w' => ∃ (x5_1 : List Int) (x6_1 : Int) (x22_1 : Int), v6 = .int .u64 x6_1 ∧ v22 = .int .i64 x22_1 ∧ Aside0 (near_shl.l0 kq a1 x5_1 x6_1 l0 (l0.length : Int) x22_1 = some r) ∧ Aside0 (kq ≤ k) ∧ Aside0 (Kd.R (Kd.int .u64) 22 w' w.heap.size (fun _ => True) v5 x5_1) ∧ Aside0 (Below w.heap.size w w'))
   case atStart => exact ⟨(y142), (0), (0), dF, dF, H', ⟨Nat.le_refl _⟩, ⟨dR HO144.out⟩, ⟨dB⟩⟩
   case round =>
    clear H'
    try clear c4
    try clear c4b0
    try clear c4b1
    try clear c5
    try clear c5b0
    try clear c5b1
    obtain ⟨x5_1, x6_1, x22_1, rfl, rfl, HA, HK1, HO_5, HB⟩ := hrel
    cases gk with
    | zero => exact absurd HA.out (by simp [near_shl.l0])
    | succ k1 =>
     have H := HA.out
     clear HA
     simp only [near_shl.l0] at H
     by_cases c8 : x22_1 < (l0.length : Int)
     ·rw [if_pos c8] at H
      have c8b0 : decide (x22_1 < (l0.length : Int)) = true := decide_eq_true c8
      clear c8
      by_cases c9 : (0 : Int) ≤ x22_1
      ·rw [if_pos c9] at H
       have c9b0 : decide (0 ≤ x22_1) = true := decide_eq_true c9
       clear c9
       by_cases c10 : x22_1 < (l0.length : Int)
       ·rw [if_pos c10] at H
        have c10b0 : decide (x22_1 < (l0.length : Int)) = true := decide_eq_true c10
        clear c10
        replace H := obe H
        obtain ⟨⟨t146, t147⟩, A110, H⟩ := H
        (try dsimp only at H)
        have A11 := Aside0.mk A110
        clear A110
        by_cases c12 : x5_1.length < 17592186044416
        ·rw [if_pos c12] at H
         have LMc12 := Aside0.mk c12
         clear c12
         obtain ⟨y148, hy148⟩ : ∃ y_ : List Int, y_ = (x5_1 ++ [Go.bits .or .u64 t147 x6_1]) := ⟨_, rfl⟩
         replace H : (near_shl.l0 k1 a1 y148 t146 l0 (l0.length : Int) (wrap64 (x22_1 + 1))) = some r := by first | (rw [hy148]; with_reducible exact H) | (have H2_ := (Option.bind_some _ _).symm.trans H; rw [hy148]; with_reducible exact H2_) | (have H2_ := (Option.bind_some _ _).symm.trans H; with_reducible exact H2_) | with_reducible exact H | (rw [hy148]; exact H) | exact H
         have Ny148 := Aside0.mk hy148
         clear hy148
         have H' := Aside0.mk H
         clear H
         have p145 : 0 ≤ (x22_1 : Int) := of_decide_eq_true dS
         have q145 : x22_1 < (l0.length : Int) := of_decide_eq_true dS
         obtain ⟨ad145, e145, hx145_0⟩ := Kd.at_int HR0.out x22_1 p145 q145
         cases e145
         replace hx145_0 := (HB.out.cell (World.block_lt_of_cell? w _ hx145_0)).trans hx145_0
         replace p145 := eq_true p145
         replace q145 := eq_true q145
         go_wp2_with (first | ((with_reducible refine gate_callee (f := 85) rfl ?_); refine gL (some 30) Tryd.func85 #[.int .u64 0, .int .u64 (rd l0 x22_1), .int .i64 (Int.tmod a1 64)] ?_; (with_reducible refine (wide_Shl.calls 0 (rd l0 x22_1) (Int.tmod a1 64) t146 t147 _ A11.out).mono ?_); rintro e w13 ⟨rfl, hb⟩; refine ⟨_, rfl, ?_⟩; replace HO_5 := Aside0.mk (Kd.R_below (dR HO_5.out) hb); replace HB := Aside0.mk (below_step dB hb); (try clear hb)) | ((with_reducible refine gate_builtin (b := .append) (xs := #[.tmp 33, .tmp 37]) rfl ?_); at_builtin; refine Kd.R_append (Kd.int .u64) (w0 := w) w.heap.size rfl (.tmp 33) (.tmp 37) 41 22 (.int .u64 0) 8 rfl Tryd.underlying41 info22 rfl (by decide) (by omega) u5 x5_1 (Go.bits .or .u64 t147 x6_1) [.int .u64 (Go.bits .or .u64 t147 x6_1)] (fun _ => True) (fun _ => False) rfl rfl ?aP (fun _ hk => hk.elim) ?aF ?aO ?aB ?aS ?aL ?_; (case aP => exact rfl); (case aB => exact dB); (case aF => exact (fun _ _ => trivial)); (case aO => exact (dR HO_5.out)); (case aS => exact (below_size dB)); (case aL => have := LMc12.out; omega); intro v149 w14 ho hb hg hat; rw [← Ny148.out] at ho; replace HB := Aside0.mk (hb); have HO150 := Aside0.mk (ho); clear HO_5; clear ho hb hg hat))
         go_roundg k1
         case measure => have := HK1.out; omega
         case rel => exact ⟨(y148), (t146), (wrap64 (x22_1 + 1)), dF, dF, H', ⟨by have := HK1.out; omega⟩, ⟨dR HO150.out⟩, ⟨dB⟩⟩
        ·rw [if_neg c12] at H
         exact absurd H (by simp)
       ·rw [if_neg c10] at H
        exact absurd H (by simp)
      ·rw [if_neg c9] at H
       exact absurd H (by simp)
     ·rw [if_neg c8] at H
      have c8b0 : decide (x22_1 < (l0.length : Int)) = false := decide_eq_false c8
      clear c8
      by_cases c15 : x5_1.length < 17592186044416
      ·rw [if_pos c15] at H
       have LMc15 := Aside0.mk c15
       clear c15
       obtain ⟨y151, hy151⟩ : ∃ y_ : List Int, y_ = (x5_1 ++ [x6_1]) := ⟨_, rfl⟩
       replace H : (some y151) = some r := by first | (rw [hy151]; with_reducible exact H) | (have H2_ := (Option.bind_some _ _).symm.trans H; rw [hy151]; with_reducible exact H2_) | (have H2_ := (Option.bind_some _ _).symm.trans H; with_reducible exact H2_) | with_reducible exact H | (rw [hy151]; exact H) | exact H
       have Ny151 := Aside0.mk hy151
       clear hy151
       obtain rfl := Option.some.inj H
       go_wp2_with (first | ((with_reducible refine gate_builtin (b := .append) (xs := #[.tmp 41, .tmp 43]) rfl ?_); at_builtin; refine Kd.R_append (Kd.int .u64) (w0 := w) w.heap.size rfl (.tmp 41) (.tmp 43) 41 22 (.int .u64 0) 8 rfl Tryd.underlying41 info22 rfl (by decide) (by omega) u5 x5_1 x6_1 [.int .u64 x6_1] (fun _ => True) (fun _ => False) rfl rfl ?aP (fun _ hk => hk.elim) ?aF ?aO ?aB ?aS ?aL ?_; (case aP => exact rfl); (case aB => exact dB); (case aF => exact (fun _ _ => trivial)); (case aO => exact (dR HO_5.out)); (case aS => exact (below_size dB)); (case aL => have := LMc15.out; omega); intro v152 w16 ho hb hg hat; rw [← Ny151.out] at ho; replace HB := Aside0.mk (hb); have HO153 := Aside0.mk (ho); clear HO_5; clear ho hb hg hat))
       go_ret
       exact ⟨_, by first | rfl | (simp [errW_none, errW_some] <;> rfl) | (simp only [← hji3]; first | rfl | (simp [errW_none, errW_some] <;> rfl)) | (simp [*, errW_none, errW_some] <;> rfl), dR HO153.out, dB⟩
      ·rw [if_neg c15] at H
       exact absurd H (by simp)
  ·rw [if_neg c5] at H
   exact absurd H (by simp)
 ·rw [if_neg c4] at H
  exact absurd H (by simp)


end Go.Proofs.YtoannkopciehcaaDoor.PA

namespace Go.Proofs.YtoannkopciehcaaDoor.PA
open Go.RowKit Go.Proofs.YtoannkopciehcaaDoorW.PrintWords Go.Proofs.YtoannkopciehcaaDoorW.PrintLast Go.Proofs.YtoannkopciehcaaDoorW.PrintMore
attribute [local go_sem] max2_int min2_int max_two min_two max_three min_three max_four min_four   -- for this text's walks alone
set_option linter.unusedVariables false
set_option linter.unusedSimpArgs false

/-! ### near_Quotient: function 49 (by hand) -/
def near_Quotient.f (k : Nat) (a0 : Bool) (l1 : List Int) (l2 : List Int) (a3 : Int) : Option (Int × Int) := (nat_Norm.f l1).bind fun t333 => ((nat_Norm.f l2).bind fun t336 => ((near_known.f a3).bind fun t339 => (if t339 = true then (if (t336.length : Int) = 0 then (some (0, 50)) else (if (t333.length : Int) = 0 then ((near_finish.f k a0 0 0 false a3).bind fun bt340 => (some (bt340.1, bt340.2))) else ((nat_Bits.f k t333).bind fun t342 => ((nat_Bits.f k t336).bind fun t343 => (if (wrap64 (t342 - t343)) > 1100 then ((near_finish.f k a0 1 (wrap64 (t342 - t343)) true a3).bind fun bt344 => (some (bt344.1, bt344.2))) else (if (wrap64 (t342 - t343)) < (-1200) then ((near_finish.f k a0 0 0 true a3).bind fun bt346 => (some (bt346.1, bt346.2))) else (if (wrap64 ((wrap64 (t342 - t343)) - 62)) > 0 then ((near_shl.f k t336 (wrap64 ((wrap64 (t342 - t343)) - 62))).bind fun t348 => ((quot_DivMod.f k t333 t348).bind fun bt351 => ((nat_Word.f k bt351.1).bind fun bt358 => ((near_finish.f k a0 bt358.1 (wrap64 ((wrap64 (t342 - t343)) - 62)) (decide ((bt351.2.1.length : Int) > 0)) a3).bind fun bt360 => (some (bt360.1, bt360.2)))))) else ((near_shl.f k t333 (wrap64 (-(wrap64 ((wrap64 (t342 - t343)) - 62))))).bind fun t362 => ((quot_DivMod.f k t362 t336).bind fun bt365 => ((nat_Word.f k bt365.1).bind fun bt372 => ((near_finish.f k a0 bt372.1 (wrap64 ((wrap64 (t342 - t343)) - 62)) (decide ((bt365.2.1.length : Int) > 0)) a3).bind fun bt374 => (some (bt374.1, bt374.2))))))))))))) else (some (0, 71)))))
set_option maxHeartbeats 8000000 in
set_option maxRecDepth 100000 in
theorem near_Quotient.calls (k : Nat) (a0 : Bool) (A1 : Option Addr) (c1 : Nat) (l1 : List Int) (A2 : Option Addr) (c2 : Nat) (l2 : List Int) (a3 : Int) (r1 : Int) (r2 : Int) (w : World) (hr1 : Kd.C (Kd.int .u64) w A1 l1.length l1) (hc1 : l1.length ≤ c1) (hr2 : Kd.C (Kd.int .u64) w A2 l2.length l2) (hc2 : l2.length ≤ c2) (h : near_Quotient.f k a0 l1 l2 a3 = some (r1, r2)) (hS : StaysLaid w := by first | exact HS.out | exact hS | exact StaysLaid.below HS.out HB.out | exact StaysLaid.below HS.out dB) :
  Calls Tryd.prog 49 #[.bool a0, .slice A1 l1.length c1, .slice A2 l2.length c2, .int .i64 a3] w fun e w' => e = .returned (.tuple #[.int .u64 r1, .int .i64 r2]) ∧ Below w.heap.size w w' := by
 have HS := Aside0.mk (show StaysLaid w from hS)
 clear hS
 have HR1 := Aside0.mk hr1
 have HC1 := Aside0.mk hc1
 clear hr1 hc1
 have HR2 := Aside0.mk hr2
 have HC2 := Aside0.mk hc2
 clear hr2 hc2
 have HB := Aside0.mk (Below.refl w.heap.size w)
 have H : ((nat_Norm.f l1).bind fun t333 => ((nat_Norm.f l2).bind fun t336 => ((near_known.f a3).bind fun t339 => (if t339 = true then (if (t336.length : Int) = 0 then (some (0, 50)) else (if (t333.length : Int) = 0 then ((near_finish.f k a0 0 0 false a3).bind fun bt340 => (some (bt340.1, bt340.2))) else ((nat_Bits.f k t333).bind fun t342 => ((nat_Bits.f k t336).bind fun t343 => (if (wrap64 (t342 - t343)) > 1100 then ((near_finish.f k a0 1 (wrap64 (t342 - t343)) true a3).bind fun bt344 => (some (bt344.1, bt344.2))) else (if (wrap64 (t342 - t343)) < (-1200) then ((near_finish.f k a0 0 0 true a3).bind fun bt346 => (some (bt346.1, bt346.2))) else (if (wrap64 ((wrap64 (t342 - t343)) - 62)) > 0 then ((near_shl.f k t336 (wrap64 ((wrap64 (t342 - t343)) - 62))).bind fun t348 => ((quot_DivMod.f k t333 t348).bind fun bt351 => ((nat_Word.f k bt351.1).bind fun bt358 => ((near_finish.f k a0 bt358.1 (wrap64 ((wrap64 (t342 - t343)) - 62)) (decide ((bt351.2.1.length : Int) > 0)) a3).bind fun bt360 => (some (bt360.1, bt360.2)))))) else ((near_shl.f k t333 (wrap64 (-(wrap64 ((wrap64 (t342 - t343)) - 62))))).bind fun t362 => ((quot_DivMod.f k t362 t336).bind fun bt365 => ((nat_Word.f k bt365.1).bind fun bt372 => ((near_finish.f k a0 bt372.1 (wrap64 ((wrap64 (t342 - t343)) - 62)) (decide ((bt365.2.1.length : Int) > 0)) a3).bind fun bt374 => (some (bt374.1, bt374.2))))))))))))) else (some (0, 71)))))) = some (r1, r2) := h
 clear h
 replace H := obe H
 obtain ⟨t333, A50, H⟩ := H
 (try dsimp only at H)
 have A5 := Aside0.mk A50
 clear A50
 replace H := obe H
 obtain ⟨t336, A60, H⟩ := H
 (try dsimp only at H)
 have A6 := Aside0.mk A60
 clear A60
 replace H := obe H
 obtain ⟨t339, A70, H⟩ := H
 (try dsimp only at H)
 have A7 := Aside0.mk A70
 clear A70
 by_cases c8 : t339 = true
 ·subst c8
  have H1 : (if (t336.length : Int) = 0 then (some (0, 50)) else (if (t333.length : Int) = 0 then ((near_finish.f k a0 0 0 false a3).bind fun bt340 => (some (bt340.1, bt340.2))) else ((nat_Bits.f k t333).bind fun t342 => ((nat_Bits.f k t336).bind fun t343 => (if (wrap64 (t342 - t343)) > 1100 then ((near_finish.f k a0 1 (wrap64 (t342 - t343)) true a3).bind fun bt344 => (some (bt344.1, bt344.2))) else (if (wrap64 (t342 - t343)) < (-1200) then ((near_finish.f k a0 0 0 true a3).bind fun bt346 => (some (bt346.1, bt346.2))) else (if (wrap64 ((wrap64 (t342 - t343)) - 62)) > 0 then ((near_shl.f k t336 (wrap64 ((wrap64 (t342 - t343)) - 62))).bind fun t348 => ((quot_DivMod.f k t333 t348).bind fun bt351 => ((nat_Word.f k bt351.1).bind fun bt358 => ((near_finish.f k a0 bt358.1 (wrap64 ((wrap64 (t342 - t343)) - 62)) (decide ((bt351.2.1.length : Int) > 0)) a3).bind fun bt360 => (some (bt360.1, bt360.2)))))) else ((near_shl.f k t333 (wrap64 (-(wrap64 ((wrap64 (t342 - t343)) - 62))))).bind fun t362 => ((quot_DivMod.f k t362 t336).bind fun bt365 => ((nat_Word.f k bt365.1).bind fun bt372 => ((near_finish.f k a0 bt372.1 (wrap64 ((wrap64 (t342 - t343)) - 62)) (decide ((bt365.2.1.length : Int) > 0)) a3).bind fun bt374 => (some (bt374.1, bt374.2))))))))))))) = some (r1, r2) := by rw [if_pos rfl] at H; exact H
  clear H
  have H := H1
  clear H1
  by_cases c9 : (t336.length : Int) = 0
  ·rw [if_pos c9] at H
   have c9b0 : ((t336.length : Int) == 0) = true := beq_iff_eq.mpr c9
   have c9b1 : ((t336.length : Int) != 0) = false := bne_eq_false_iff_eq.mpr c9
   clear c9
   simp only [Option.some.injEq, Prod.mk.injEq] at H
   obtain ⟨rfl, rfl⟩ := H
   go_enter Tryd.func49, Tryd.ntmps49
   go_wp2_with (first | ((with_reducible refine gate_callee (f := 73) rfl ?_); refine gL (some 18) Tryd.func73 #[.slice A1 l1.length c1] ?_; (with_reducible refine (nat_Norm.calls _ _ l1 t333 _ ?side1 ?side2 A5.out).mono ?_); (case side1 => exact dC HR1.out); (case side2 => exact HC1.out); rintro e w10 ⟨v334, rfl, ho0, hb⟩; refine ⟨_, rfl, ?_⟩; have HO335 := Aside0.mk (Kd.R_lower ho0 (below_size dB)); replace HB := Aside0.mk (below_step dB hb); (try clear hb); (try clear ho0)) | ((with_reducible refine gate_callee (f := 73) rfl ?_); refine gL (some 20) Tryd.func73 #[.slice A2 l2.length c2] ?_; (with_reducible refine (nat_Norm.calls _ _ l2 t336 _ ?side1 ?side2 A6.out).mono ?_); (case side1 => exact dC (Kd.C_below HR2.out HB.out)); (case side2 => exact HC2.out); rintro e w11 ⟨v337, rfl, ho0, hb⟩; refine ⟨_, rfl, ?_⟩; have HO338 := Aside0.mk (Kd.R_lower (Kd.R_new' ho0 (Kd.R_lt (dR HO335.out))) (below_size dB)); replace HO335 := Aside0.mk (Kd.R_elder' (dR HO335.out) (Kd.R_base ho0) hb); replace HB := Aside0.mk (below_step dB hb); (try clear hb); (try clear ho0)) | ((with_reducible refine gate_callee (f := 45) rfl ?_); refine gL (some 23) Tryd.func45 #[.int .i64 a3] ?_; (with_reducible refine (near_known.calls a3 true _ A7.out).mono ?_); rintro e w' ⟨rfl, ⟨nd, rfl⟩⟩; refine ⟨_, rfl, ?_⟩; obtain ⟨Ao12, co12, eo12⟩ := Kd.R_slice HO338.out; subst eo12))
   go_ret2
   exact ⟨dE, dB⟩
  ·rw [if_neg c9] at H
   have c9b0 : ((t336.length : Int) == 0) = false := beq_eq_false_iff_ne.mpr c9
   have c9b1 : ((t336.length : Int) != 0) = true := bne_iff_ne.mpr c9
   have c9b2 : ¬ (t336 = []) := fun h_ => c9 (by rw [h_]; rfl)
   by_cases c13 : (t333.length : Int) = 0
   ·rw [if_pos c13] at H
    have c13b0 : ((t333.length : Int) == 0) = true := beq_iff_eq.mpr c13
    have c13b1 : ((t333.length : Int) != 0) = false := bne_eq_false_iff_eq.mpr c13
    clear c13
    replace H := obe H
    obtain ⟨⟨t340, t341⟩, A140, H⟩ := H
    (try dsimp only at H)
    have A14 := Aside0.mk A140
    clear A140
    simp only [Option.some.injEq, Prod.mk.injEq] at H
    obtain ⟨rfl, rfl⟩ := H
    go_enter Tryd.func49, Tryd.ntmps49
    go_wp2_with (first | ((with_reducible refine gate_callee (f := 73) rfl ?_); refine gL (some 18) Tryd.func73 #[.slice A1 l1.length c1] ?_; (with_reducible refine (nat_Norm.calls _ _ l1 t333 _ ?side1 ?side2 A5.out).mono ?_); (case side1 => exact dC HR1.out); (case side2 => exact HC1.out); rintro e w15 ⟨v334, rfl, ho0, hb⟩; refine ⟨_, rfl, ?_⟩; have HO335 := Aside0.mk (Kd.R_lower ho0 (below_size dB)); replace HB := Aside0.mk (below_step dB hb); (try clear hb); (try clear ho0)) | ((with_reducible refine gate_callee (f := 73) rfl ?_); refine gL (some 20) Tryd.func73 #[.slice A2 l2.length c2] ?_; (with_reducible refine (nat_Norm.calls _ _ l2 t336 _ ?side1 ?side2 A6.out).mono ?_); (case side1 => exact dC (Kd.C_below HR2.out HB.out)); (case side2 => exact HC2.out); rintro e w16 ⟨v337, rfl, ho0, hb⟩; refine ⟨_, rfl, ?_⟩; have HO338 := Aside0.mk (Kd.R_lower (Kd.R_new' ho0 (Kd.R_lt (dR HO335.out))) (below_size dB)); replace HO335 := Aside0.mk (Kd.R_elder' (dR HO335.out) (Kd.R_base ho0) hb); replace HB := Aside0.mk (below_step dB hb); (try clear hb); (try clear ho0)) | ((with_reducible refine gate_callee (f := 45) rfl ?_); refine gL (some 23) Tryd.func45 #[.int .i64 a3] ?_; (with_reducible refine (near_known.calls a3 true _ A7.out).mono ?_); rintro e w' ⟨rfl, ⟨nd, rfl⟩⟩; refine ⟨_, rfl, ?_⟩; obtain ⟨Ao17, co17, eo17⟩ := Kd.R_slice HO338.out; subst eo17; obtain ⟨Ao18, co18, eo18⟩ := Kd.R_slice HO335.out; subst eo18) | ((with_reducible refine gate_callee (f := 48) rfl ?_); refine gL (some 35) Tryd.func48 #[.bool a0, .int .u64 0, .int .i64 0, .bool false, .int .i64 a3] ?_; (with_reducible refine (near_finish.calls k a0 0 0 false a3 t340 t341 _ A14.out).mono ?_); rintro e w19 ⟨rfl, hb⟩; refine ⟨_, rfl, ?_⟩; replace HO335 := Aside0.mk (Kd.R_below (dR HO335.out) hb); replace HO338 := Aside0.mk (Kd.R_below (dR HO338.out) hb); replace HB := Aside0.mk (below_step dB hb); (try clear hb)))
    go_ret2
    exact ⟨dE, dB⟩
   ·rw [if_neg c13] at H
    have c13b0 : ((t333.length : Int) == 0) = false := beq_eq_false_iff_ne.mpr c13
    have c13b1 : ((t333.length : Int) != 0) = true := bne_iff_ne.mpr c13
    have c13b2 : ¬ (t333 = []) := fun h_ => c13 (by rw [h_]; rfl)
    replace H := obe H
    obtain ⟨t342, A200, H⟩ := H
    (try dsimp only at H)
    have A20 := Aside0.mk A200
    clear A200
    replace H := obe H
    obtain ⟨t343, A210, H⟩ := H
    (try dsimp only at H)
    have A21 := Aside0.mk A210
    clear A210
    by_cases c22 : (wrap64 (t342 - t343)) > 1100
    ·rw [if_pos c22] at H
     have c22b0 : decide (1100 < (wrap64 (t342 - t343))) = true := decide_eq_true c22
     clear c22
     replace H := obe H
     obtain ⟨⟨t344, t345⟩, A230, H⟩ := H
     (try dsimp only at H)
     have A23 := Aside0.mk A230
     clear A230
     simp only [Option.some.injEq, Prod.mk.injEq] at H
     obtain ⟨rfl, rfl⟩ := H
     go_enter Tryd.func49, Tryd.ntmps49
     go_wp2_with (first | ((with_reducible refine gate_callee (f := 73) rfl ?_); refine gL (some 18) Tryd.func73 #[.slice A1 l1.length c1] ?_; (with_reducible refine (nat_Norm.calls _ _ l1 t333 _ ?side1 ?side2 A5.out).mono ?_); (case side1 => exact dC HR1.out); (case side2 => exact HC1.out); rintro e w24 ⟨v334, rfl, ho0, hb⟩; refine ⟨_, rfl, ?_⟩; have HO335 := Aside0.mk (Kd.R_lower ho0 (below_size dB)); replace HB := Aside0.mk (below_step dB hb); (try clear hb); (try clear ho0)) | ((with_reducible refine gate_callee (f := 73) rfl ?_); refine gL (some 20) Tryd.func73 #[.slice A2 l2.length c2] ?_; (with_reducible refine (nat_Norm.calls _ _ l2 t336 _ ?side1 ?side2 A6.out).mono ?_); (case side1 => exact dC (Kd.C_below HR2.out HB.out)); (case side2 => exact HC2.out); rintro e w25 ⟨v337, rfl, ho0, hb⟩; refine ⟨_, rfl, ?_⟩; have HO338 := Aside0.mk (Kd.R_lower (Kd.R_new' ho0 (Kd.R_lt (dR HO335.out))) (below_size dB)); replace HO335 := Aside0.mk (Kd.R_elder' (dR HO335.out) (Kd.R_base ho0) hb); replace HB := Aside0.mk (below_step dB hb); (try clear hb); (try clear ho0)) | ((with_reducible refine gate_callee (f := 45) rfl ?_); refine gL (some 23) Tryd.func45 #[.int .i64 a3] ?_; (with_reducible refine (near_known.calls a3 true _ A7.out).mono ?_); rintro e w' ⟨rfl, ⟨nd, rfl⟩⟩; refine ⟨_, rfl, ?_⟩; obtain ⟨Ao26, co26, eo26⟩ := Kd.R_slice HO338.out; subst eo26; obtain ⟨Ao27, co27, eo27⟩ := Kd.R_slice HO335.out; subst eo27) | ((with_reducible refine gate_callee (f := 43) rfl ?_); refine gL (some 39) Tryd.func43 #[.slice Ao27 t333.length co27] ?_; (with_reducible refine (nat_Bits.calls k _ _ t333 t342 _ ?side1 ?side2 A20.out).mono ?_); (case side1 => exact dC (Kd.R_reads' HO335.out).2.2); (case side2 => exact (Kd.R_reads' HO335.out).2.1); rintro e w' ⟨rfl, ⟨nd, rfl⟩⟩; refine ⟨_, rfl, ?_⟩) | ((with_reducible refine gate_callee (f := 43) rfl ?_); refine gL (some 41) Tryd.func43 #[.slice Ao26 t336.length co26] ?_; (with_reducible refine (nat_Bits.calls k _ _ t336 t343 _ ?side1 ?side2 A21.out).mono ?_); (case side1 => exact dC (Kd.R_reads' HO338.out).2.2); (case side2 => exact (Kd.R_reads' HO338.out).2.1); rintro e w' ⟨rfl, ⟨nd, rfl⟩⟩; refine ⟨_, rfl, ?_⟩) | ((with_reducible refine gate_callee (f := 48) rfl ?_); refine gL (some 49) Tryd.func48 #[.bool a0, .int .u64 1, .int .i64 (wrap64 (t342 - t343)), .bool true, .int .i64 a3] ?_; (with_reducible refine (near_finish.calls k a0 1 (wrap64 (t342 - t343)) true a3 t344 t345 _ A23.out).mono ?_); rintro e w28 ⟨rfl, hb⟩; refine ⟨_, rfl, ?_⟩; replace HO335 := Aside0.mk (Kd.R_below (dR HO335.out) hb); replace HO338 := Aside0.mk (Kd.R_below (dR HO338.out) hb); replace HB := Aside0.mk (below_step dB hb); (try clear hb)))
     go_ret2
     exact ⟨dE, dB⟩
    ·rw [if_neg c22] at H
     have c22b0 : decide (1100 < (wrap64 (t342 - t343))) = false := decide_eq_false c22
     clear c22
     by_cases c29 : (wrap64 (t342 - t343)) < (-1200)
     ·rw [if_pos c29] at H
      have c29b0 : decide ((wrap64 (t342 - t343)) < (-1200)) = true := decide_eq_true c29
      clear c29
      replace H := obe H
      obtain ⟨⟨t346, t347⟩, A300, H⟩ := H
      (try dsimp only at H)
      have A30 := Aside0.mk A300
      clear A300
      simp only [Option.some.injEq, Prod.mk.injEq] at H
      obtain ⟨rfl, rfl⟩ := H
      go_enter Tryd.func49, Tryd.ntmps49
      go_wp2_with (first | ((with_reducible refine gate_callee (f := 73) rfl ?_); refine gL (some 18) Tryd.func73 #[.slice A1 l1.length c1] ?_; (with_reducible refine (nat_Norm.calls _ _ l1 t333 _ ?side1 ?side2 A5.out).mono ?_); (case side1 => exact dC HR1.out); (case side2 => exact HC1.out); rintro e w31 ⟨v334, rfl, ho0, hb⟩; refine ⟨_, rfl, ?_⟩; have HO335 := Aside0.mk (Kd.R_lower ho0 (below_size dB)); replace HB := Aside0.mk (below_step dB hb); (try clear hb); (try clear ho0)) | ((with_reducible refine gate_callee (f := 73) rfl ?_); refine gL (some 20) Tryd.func73 #[.slice A2 l2.length c2] ?_; (with_reducible refine (nat_Norm.calls _ _ l2 t336 _ ?side1 ?side2 A6.out).mono ?_); (case side1 => exact dC (Kd.C_below HR2.out HB.out)); (case side2 => exact HC2.out); rintro e w32 ⟨v337, rfl, ho0, hb⟩; refine ⟨_, rfl, ?_⟩; have HO338 := Aside0.mk (Kd.R_lower (Kd.R_new' ho0 (Kd.R_lt (dR HO335.out))) (below_size dB)); replace HO335 := Aside0.mk (Kd.R_elder' (dR HO335.out) (Kd.R_base ho0) hb); replace HB := Aside0.mk (below_step dB hb); (try clear hb); (try clear ho0)) | ((with_reducible refine gate_callee (f := 45) rfl ?_); refine gL (some 23) Tryd.func45 #[.int .i64 a3] ?_; (with_reducible refine (near_known.calls a3 true _ A7.out).mono ?_); rintro e w' ⟨rfl, ⟨nd, rfl⟩⟩; refine ⟨_, rfl, ?_⟩; obtain ⟨Ao33, co33, eo33⟩ := Kd.R_slice HO338.out; subst eo33; obtain ⟨Ao34, co34, eo34⟩ := Kd.R_slice HO335.out; subst eo34) | ((with_reducible refine gate_callee (f := 43) rfl ?_); refine gL (some 39) Tryd.func43 #[.slice Ao34 t333.length co34] ?_; (with_reducible refine (nat_Bits.calls k _ _ t333 t342 _ ?side1 ?side2 A20.out).mono ?_); (case side1 => exact dC (Kd.R_reads' HO335.out).2.2); (case side2 => exact (Kd.R_reads' HO335.out).2.1); rintro e w' ⟨rfl, ⟨nd, rfl⟩⟩; refine ⟨_, rfl, ?_⟩) | ((with_reducible refine gate_callee (f := 43) rfl ?_); refine gL (some 41) Tryd.func43 #[.slice Ao33 t336.length co33] ?_; (with_reducible refine (nat_Bits.calls k _ _ t336 t343 _ ?side1 ?side2 A21.out).mono ?_); (case side1 => exact dC (Kd.R_reads' HO338.out).2.2); (case side2 => exact (Kd.R_reads' HO338.out).2.1); rintro e w' ⟨rfl, ⟨nd, rfl⟩⟩; refine ⟨_, rfl, ?_⟩) | ((with_reducible refine gate_callee (f := 48) rfl ?_); refine gL (some 57) Tryd.func48 #[.bool a0, .int .u64 0, .int .i64 0, .bool true, .int .i64 a3] ?_; (with_reducible refine (near_finish.calls k a0 0 0 true a3 t346 t347 _ A30.out).mono ?_); rintro e w35 ⟨rfl, hb⟩; refine ⟨_, rfl, ?_⟩; replace HO335 := Aside0.mk (Kd.R_below (dR HO335.out) hb); replace HO338 := Aside0.mk (Kd.R_below (dR HO338.out) hb); replace HB := Aside0.mk (below_step dB hb); (try clear hb)))
      go_ret2
      exact ⟨dE, dB⟩
     ·rw [if_neg c29] at H
      have c29b0 : decide ((wrap64 (t342 - t343)) < (-1200)) = false := decide_eq_false c29
      clear c29
      by_cases c36 : (wrap64 ((wrap64 (t342 - t343)) - 62)) > 0
      ·rw [if_pos c36] at H
       have c36b0 : decide (0 < (wrap64 ((wrap64 (t342 - t343)) - 62))) = true := decide_eq_true c36
       clear c36
       replace H := obe H
       obtain ⟨t348, A370, H⟩ := H
       (try dsimp only at H)
       have A37 := Aside0.mk A370
       clear A370
       replace H := obe H
       obtain ⟨⟨t351, t352, t353⟩, A380, H⟩ := H
       (try dsimp only at H)
       have A38 := Aside0.mk A380
       clear A380
       replace H := obe H
       obtain ⟨⟨t358, t359⟩, A390, H⟩ := H
       (try dsimp only at H)
       have A39 := Aside0.mk A390
       clear A390
       replace H := obe H
       obtain ⟨⟨t360, t361⟩, A400, H⟩ := H
       (try dsimp only at H)
       have A40 := Aside0.mk A400
       clear A400
       simp only [Option.some.injEq, Prod.mk.injEq] at H
       obtain ⟨rfl, rfl⟩ := H
       have e_ : decide ((t352.length : Int) > 0) = decide (0 < t352.length) := by rw [decide_eq_decide]; omega
       (try (have z_ := A20.out; rw [e_] at z_; clear A20; have A20 := Aside0.mk z_; clear z_))
       (try (have z_ := A21.out; rw [e_] at z_; clear A21; have A21 := Aside0.mk z_; clear z_))
       (try (have z_ := A37.out; rw [e_] at z_; clear A37; have A37 := Aside0.mk z_; clear z_))
       (try (have z_ := A38.out; rw [e_] at z_; clear A38; have A38 := Aside0.mk z_; clear z_))
       (try (have z_ := A39.out; rw [e_] at z_; clear A39; have A39 := Aside0.mk z_; clear z_))
       (try (have z_ := A40.out; rw [e_] at z_; clear A40; have A40 := Aside0.mk z_; clear z_))
       (try (have z_ := A5.out; rw [e_] at z_; clear A5; have A5 := Aside0.mk z_; clear z_))
       (try (have z_ := A6.out; rw [e_] at z_; clear A6; have A6 := Aside0.mk z_; clear z_))
       (try (have z_ := A7.out; rw [e_] at z_; clear A7; have A7 := Aside0.mk z_; clear z_))
       clear e_
       go_enter Tryd.func49, Tryd.ntmps49
       go_wp2_with (first | ((with_reducible refine gate_callee (f := 73) rfl ?_); refine gL (some 18) Tryd.func73 #[.slice A1 l1.length c1] ?_; (with_reducible refine (nat_Norm.calls _ _ l1 t333 _ ?side1 ?side2 A5.out).mono ?_); (case side1 => exact dC HR1.out); (case side2 => exact HC1.out); rintro e w41 ⟨v334, rfl, ho0, hb⟩; refine ⟨_, rfl, ?_⟩; have HO335 := Aside0.mk (Kd.R_lower ho0 (below_size dB)); replace HB := Aside0.mk (below_step dB hb); (try clear hb); (try clear ho0)) | ((with_reducible refine gate_callee (f := 73) rfl ?_); refine gL (some 20) Tryd.func73 #[.slice A2 l2.length c2] ?_; (with_reducible refine (nat_Norm.calls _ _ l2 t336 _ ?side1 ?side2 A6.out).mono ?_); (case side1 => exact dC (Kd.C_below HR2.out HB.out)); (case side2 => exact HC2.out); rintro e w42 ⟨v337, rfl, ho0, hb⟩; refine ⟨_, rfl, ?_⟩; have HO338 := Aside0.mk (Kd.R_lower (Kd.R_new' ho0 (Kd.R_lt (dR HO335.out))) (below_size dB)); replace HO335 := Aside0.mk (Kd.R_elder' (dR HO335.out) (Kd.R_base ho0) hb); replace HB := Aside0.mk (below_step dB hb); (try clear hb); (try clear ho0)) | ((with_reducible refine gate_callee (f := 45) rfl ?_); refine gL (some 23) Tryd.func45 #[.int .i64 a3] ?_; (with_reducible refine (near_known.calls a3 true _ A7.out).mono ?_); rintro e w' ⟨rfl, ⟨nd, rfl⟩⟩; refine ⟨_, rfl, ?_⟩; obtain ⟨Ao43, co43, eo43⟩ := Kd.R_slice HO338.out; subst eo43; obtain ⟨Ao44, co44, eo44⟩ := Kd.R_slice HO335.out; subst eo44) | ((with_reducible refine gate_callee (f := 43) rfl ?_); refine gL (some 39) Tryd.func43 #[.slice Ao44 t333.length co44] ?_; (with_reducible refine (nat_Bits.calls k _ _ t333 t342 _ ?side1 ?side2 A20.out).mono ?_); (case side1 => exact dC (Kd.R_reads' HO335.out).2.2); (case side2 => exact (Kd.R_reads' HO335.out).2.1); rintro e w' ⟨rfl, ⟨nd, rfl⟩⟩; refine ⟨_, rfl, ?_⟩) | ((with_reducible refine gate_callee (f := 43) rfl ?_); refine gL (some 41) Tryd.func43 #[.slice Ao43 t336.length co43] ?_; (with_reducible refine (nat_Bits.calls k _ _ t336 t343 _ ?side1 ?side2 A21.out).mono ?_); (case side1 => exact dC (Kd.R_reads' HO338.out).2.2); (case side2 => exact (Kd.R_reads' HO338.out).2.1); rintro e w' ⟨rfl, ⟨nd, rfl⟩⟩; refine ⟨_, rfl, ?_⟩) | ((with_reducible refine gate_callee (f := 78) rfl ?_); refine gL (some 66) Tryd.func78 #[.slice Ao43 t336.length co43, .int .i64 (wrap64 ((wrap64 (t342 - t343)) - 62))] ?_; (with_reducible refine (near_shl.calls k _ _ t336 (wrap64 ((wrap64 (t342 - t343)) - 62)) t348 _ ?side1 ?side2 A37.out).mono ?_); (case side1 => exact dC (Kd.R_reads' HO338.out).2.2); (case side2 => exact (Kd.R_reads' HO338.out).2.1); rintro e w45 ⟨v349, rfl, ho0, hb⟩; refine ⟨_, rfl, ?_⟩; have HO350 := Aside0.mk (Kd.R_lower (Kd.R_new' (Kd.R_new' ho0 (Kd.R_lt (dR HO335.out))) (Kd.R_lt (dR HO338.out))) (below_size dB)); replace HO335 := Aside0.mk (Kd.R_elder' (dR HO335.out) (Kd.R_base ho0) hb); replace HO338 := Aside0.mk (Kd.R_elder' (dR HO338.out) (Kd.R_base ho0) hb); replace HB := Aside0.mk (below_step dB hb); (try clear hb); (try clear ho0); obtain ⟨Ao46, co46, eo46⟩ := Kd.R_slice HO350.out; subst eo46) | ((with_reducible refine gate_callee (f := 79) rfl ?_); refine gL (some 74) Tryd.func79 #[.slice Ao44 t333.length co44, .slice Ao46 t348.length co46] ?_; (with_reducible refine (quot_DivMod.calls k _ _ t333 _ _ t348 t351 t352 t353 _ ?side1 ?side2 ?side3 ?side4 A38.out).mono ?_); (case side1 => exact dC (Kd.R_reads' HO335.out).2.2); (case side2 => exact (Kd.R_reads' HO335.out).2.1); (case side3 => exact dC (Kd.R_reads' HO350.out).2.2); (case side4 => exact (Kd.R_reads' HO350.out).2.1); rintro e w47 ⟨v354, v356, rfl, ho0, ho1, hb⟩; refine ⟨_, rfl, ?_⟩; have HO355 := Aside0.mk (Kd.R_lower (Kd.R_new' (Kd.R_new' (Kd.R_new' ho0 (Kd.R_lt (dR HO335.out))) (Kd.R_lt (dR HO338.out))) (Kd.R_lt (dR HO350.out))) (below_size dB)); have HO357 := Aside0.mk (Kd.R_lower (Kd.R_new' (Kd.R_new' (Kd.R_new' ho1 (Kd.R_lt (dR HO335.out))) (Kd.R_lt (dR HO338.out))) (Kd.R_lt (dR HO350.out))) (below_size dB)); replace HO335 := Aside0.mk (Kd.R_mono (Kd.R_told (Kd.R_told (Kd.R_old (dR HO335.out) hb) (Kd.R_base ho0)) (Kd.R_base ho1)) (fun _ h_ => h_.1)); replace HO338 := Aside0.mk (Kd.R_mono (Kd.R_told (Kd.R_told (Kd.R_old (dR HO338.out) hb) (Kd.R_base ho0)) (Kd.R_base ho1)) (fun _ h_ => h_.1)); replace HO350 := Aside0.mk (Kd.R_mono (Kd.R_told (Kd.R_told (Kd.R_old (dR HO350.out) hb) (Kd.R_base ho0)) (Kd.R_base ho1)) (fun _ h_ => h_.1)); replace HB := Aside0.mk (below_step dB hb); (try clear hb); (try clear ho0); (try clear ho1); obtain ⟨Ao48, co48, eo48⟩ := Kd.R_slice HO355.out; subst eo48) | ((with_reducible refine gate_callee (f := 47) rfl ?_); refine gL (some 80) Tryd.func47 #[.slice Ao48 t351.length co48] ?_; (with_reducible refine (nat_Word.calls k _ _ t351 t358 t359 _ ?side1 ?side2 A39.out).mono ?_); (case side1 => exact dC (Kd.R_reads' HO355.out).2.2); (case side2 => exact (Kd.R_reads' HO355.out).2.1); rintro e w' ⟨rfl, ⟨nd, rfl⟩⟩; refine ⟨_, rfl, ?_⟩; obtain ⟨Ao49, co49, eo49⟩ := Kd.R_slice HO357.out; subst eo49) | ((with_reducible refine gate_callee (f := 48) rfl ?_); refine gL (some 90) Tryd.func48 #[.bool a0, .int .u64 t358, .int .i64 (wrap64 ((wrap64 (t342 - t343)) - 62)), .bool (decide (0 < t352.length)), .int .i64 a3] ?_; (with_reducible refine (near_finish.calls k a0 t358 (wrap64 ((wrap64 (t342 - t343)) - 62)) (decide (0 < t352.length)) a3 t360 t361 _ A40.out).mono ?_); rintro e w50 ⟨rfl, hb⟩; refine ⟨_, rfl, ?_⟩; replace HO335 := Aside0.mk (Kd.R_below (dR HO335.out) hb); replace HO338 := Aside0.mk (Kd.R_below (dR HO338.out) hb); replace HO350 := Aside0.mk (Kd.R_below (dR HO350.out) hb); replace HO355 := Aside0.mk (Kd.R_below (dR HO355.out) hb); replace HO357 := Aside0.mk (Kd.R_below (dR HO357.out) hb); replace HB := Aside0.mk (below_step dB hb); (try clear hb)))
       go_ret2
       exact ⟨dE, dB⟩
      ·rw [if_neg c36] at H
       have c36b0 : decide (0 < (wrap64 ((wrap64 (t342 - t343)) - 62))) = false := decide_eq_false c36
       clear c36
       replace H := obe H
       obtain ⟨t362, A510, H⟩ := H
       (try dsimp only at H)
       have A51 := Aside0.mk A510
       clear A510
       replace H := obe H
       obtain ⟨⟨t365, t366, t367⟩, A520, H⟩ := H
       (try dsimp only at H)
       have A52 := Aside0.mk A520
       clear A520
       replace H := obe H
       obtain ⟨⟨t372, t373⟩, A530, H⟩ := H
       (try dsimp only at H)
       have A53 := Aside0.mk A530
       clear A530
       replace H := obe H
       obtain ⟨⟨t374, t375⟩, A540, H⟩ := H
       (try dsimp only at H)
       have A54 := Aside0.mk A540
       clear A540
       simp only [Option.some.injEq, Prod.mk.injEq] at H
       obtain ⟨rfl, rfl⟩ := H
       have e_ : decide ((t366.length : Int) > 0) = decide (0 < t366.length) := by rw [decide_eq_decide]; omega
       (try (have z_ := A20.out; rw [e_] at z_; clear A20; have A20 := Aside0.mk z_; clear z_))
       (try (have z_ := A21.out; rw [e_] at z_; clear A21; have A21 := Aside0.mk z_; clear z_))
       (try (have z_ := A5.out; rw [e_] at z_; clear A5; have A5 := Aside0.mk z_; clear z_))
       (try (have z_ := A51.out; rw [e_] at z_; clear A51; have A51 := Aside0.mk z_; clear z_))
       (try (have z_ := A52.out; rw [e_] at z_; clear A52; have A52 := Aside0.mk z_; clear z_))
       (try (have z_ := A53.out; rw [e_] at z_; clear A53; have A53 := Aside0.mk z_; clear z_))
       (try (have z_ := A54.out; rw [e_] at z_; clear A54; have A54 := Aside0.mk z_; clear z_))
       (try (have z_ := A6.out; rw [e_] at z_; clear A6; have A6 := Aside0.mk z_; clear z_))
       (try (have z_ := A7.out; rw [e_] at z_; clear A7; have A7 := Aside0.mk z_; clear z_))
       clear e_
       go_enter Tryd.func49, Tryd.ntmps49
       go_wp2_with (first | ((with_reducible refine gate_callee (f := 73) rfl ?_); refine gL (some 18) Tryd.func73 #[.slice A1 l1.length c1] ?_; (with_reducible refine (nat_Norm.calls _ _ l1 t333 _ ?side1 ?side2 A5.out).mono ?_); (case side1 => exact dC HR1.out); (case side2 => exact HC1.out); rintro e w55 ⟨v334, rfl, ho0, hb⟩; refine ⟨_, rfl, ?_⟩; have HO335 := Aside0.mk (Kd.R_lower ho0 (below_size dB)); replace HB := Aside0.mk (below_step dB hb); (try clear hb); (try clear ho0)) | ((with_reducible refine gate_callee (f := 73) rfl ?_); refine gL (some 20) Tryd.func73 #[.slice A2 l2.length c2] ?_; (with_reducible refine (nat_Norm.calls _ _ l2 t336 _ ?side1 ?side2 A6.out).mono ?_); (case side1 => exact dC (Kd.C_below HR2.out HB.out)); (case side2 => exact HC2.out); rintro e w56 ⟨v337, rfl, ho0, hb⟩; refine ⟨_, rfl, ?_⟩; have HO338 := Aside0.mk (Kd.R_lower (Kd.R_new' ho0 (Kd.R_lt (dR HO335.out))) (below_size dB)); replace HO335 := Aside0.mk (Kd.R_elder' (dR HO335.out) (Kd.R_base ho0) hb); replace HB := Aside0.mk (below_step dB hb); (try clear hb); (try clear ho0)) | ((with_reducible refine gate_callee (f := 45) rfl ?_); refine gL (some 23) Tryd.func45 #[.int .i64 a3] ?_; (with_reducible refine (near_known.calls a3 true _ A7.out).mono ?_); rintro e w' ⟨rfl, ⟨nd, rfl⟩⟩; refine ⟨_, rfl, ?_⟩; obtain ⟨Ao57, co57, eo57⟩ := Kd.R_slice HO338.out; subst eo57; obtain ⟨Ao58, co58, eo58⟩ := Kd.R_slice HO335.out; subst eo58) | ((with_reducible refine gate_callee (f := 43) rfl ?_); refine gL (some 39) Tryd.func43 #[.slice Ao58 t333.length co58] ?_; (with_reducible refine (nat_Bits.calls k _ _ t333 t342 _ ?side1 ?side2 A20.out).mono ?_); (case side1 => exact dC (Kd.R_reads' HO335.out).2.2); (case side2 => exact (Kd.R_reads' HO335.out).2.1); rintro e w' ⟨rfl, ⟨nd, rfl⟩⟩; refine ⟨_, rfl, ?_⟩) | ((with_reducible refine gate_callee (f := 43) rfl ?_); refine gL (some 41) Tryd.func43 #[.slice Ao57 t336.length co57] ?_; (with_reducible refine (nat_Bits.calls k _ _ t336 t343 _ ?side1 ?side2 A21.out).mono ?_); (case side1 => exact dC (Kd.R_reads' HO338.out).2.2); (case side2 => exact (Kd.R_reads' HO338.out).2.1); rintro e w' ⟨rfl, ⟨nd, rfl⟩⟩; refine ⟨_, rfl, ?_⟩) | ((with_reducible refine gate_callee (f := 78) rfl ?_); refine gL (some 70) Tryd.func78 #[.slice Ao58 t333.length co58, .int .i64 (wrap64 (-(wrap64 ((wrap64 (t342 - t343)) - 62))))] ?_; (with_reducible refine (near_shl.calls k _ _ t333 (wrap64 (-(wrap64 ((wrap64 (t342 - t343)) - 62)))) t362 _ ?side1 ?side2 A51.out).mono ?_); (case side1 => exact dC (Kd.R_reads' HO335.out).2.2); (case side2 => exact (Kd.R_reads' HO335.out).2.1); rintro e w59 ⟨v363, rfl, ho0, hb⟩; refine ⟨_, rfl, ?_⟩; have HO364 := Aside0.mk (Kd.R_lower (Kd.R_new' (Kd.R_new' ho0 (Kd.R_lt (dR HO335.out))) (Kd.R_lt (dR HO338.out))) (below_size dB)); replace HO335 := Aside0.mk (Kd.R_elder' (dR HO335.out) (Kd.R_base ho0) hb); replace HO338 := Aside0.mk (Kd.R_elder' (dR HO338.out) (Kd.R_base ho0) hb); replace HB := Aside0.mk (below_step dB hb); (try clear hb); (try clear ho0); obtain ⟨Ao60, co60, eo60⟩ := Kd.R_slice HO364.out; subst eo60) | ((with_reducible refine gate_callee (f := 79) rfl ?_); refine gL (some 74) Tryd.func79 #[.slice Ao60 t362.length co60, .slice Ao57 t336.length co57] ?_; (with_reducible refine (quot_DivMod.calls k _ _ t362 _ _ t336 t365 t366 t367 _ ?side1 ?side2 ?side3 ?side4 A52.out).mono ?_); (case side1 => exact dC (Kd.R_reads' HO364.out).2.2); (case side2 => exact (Kd.R_reads' HO364.out).2.1); (case side3 => exact dC (Kd.R_reads' HO338.out).2.2); (case side4 => exact (Kd.R_reads' HO338.out).2.1); rintro e w61 ⟨v368, v370, rfl, ho0, ho1, hb⟩; refine ⟨_, rfl, ?_⟩; have HO369 := Aside0.mk (Kd.R_lower (Kd.R_new' (Kd.R_new' (Kd.R_new' ho0 (Kd.R_lt (dR HO335.out))) (Kd.R_lt (dR HO338.out))) (Kd.R_lt (dR HO364.out))) (below_size dB)); have HO371 := Aside0.mk (Kd.R_lower (Kd.R_new' (Kd.R_new' (Kd.R_new' ho1 (Kd.R_lt (dR HO335.out))) (Kd.R_lt (dR HO338.out))) (Kd.R_lt (dR HO364.out))) (below_size dB)); replace HO335 := Aside0.mk (Kd.R_mono (Kd.R_told (Kd.R_told (Kd.R_old (dR HO335.out) hb) (Kd.R_base ho0)) (Kd.R_base ho1)) (fun _ h_ => h_.1)); replace HO338 := Aside0.mk (Kd.R_mono (Kd.R_told (Kd.R_told (Kd.R_old (dR HO338.out) hb) (Kd.R_base ho0)) (Kd.R_base ho1)) (fun _ h_ => h_.1)); replace HO364 := Aside0.mk (Kd.R_mono (Kd.R_told (Kd.R_told (Kd.R_old (dR HO364.out) hb) (Kd.R_base ho0)) (Kd.R_base ho1)) (fun _ h_ => h_.1)); replace HB := Aside0.mk (below_step dB hb); (try clear hb); (try clear ho0); (try clear ho1); obtain ⟨Ao62, co62, eo62⟩ := Kd.R_slice HO369.out; subst eo62) | ((with_reducible refine gate_callee (f := 47) rfl ?_); refine gL (some 80) Tryd.func47 #[.slice Ao62 t365.length co62] ?_; (with_reducible refine (nat_Word.calls k _ _ t365 t372 t373 _ ?side1 ?side2 A53.out).mono ?_); (case side1 => exact dC (Kd.R_reads' HO369.out).2.2); (case side2 => exact (Kd.R_reads' HO369.out).2.1); rintro e w' ⟨rfl, ⟨nd, rfl⟩⟩; refine ⟨_, rfl, ?_⟩; obtain ⟨Ao63, co63, eo63⟩ := Kd.R_slice HO371.out; subst eo63) | ((with_reducible refine gate_callee (f := 48) rfl ?_); refine gL (some 90) Tryd.func48 #[.bool a0, .int .u64 t372, .int .i64 (wrap64 ((wrap64 (t342 - t343)) - 62)), .bool (decide (0 < t366.length)), .int .i64 a3] ?_; (with_reducible refine (near_finish.calls k a0 t372 (wrap64 ((wrap64 (t342 - t343)) - 62)) (decide (0 < t366.length)) a3 t374 t375 _ A54.out).mono ?_); rintro e w64 ⟨rfl, hb⟩; refine ⟨_, rfl, ?_⟩; replace HO335 := Aside0.mk (Kd.R_below (dR HO335.out) hb); replace HO338 := Aside0.mk (Kd.R_below (dR HO338.out) hb); replace HO364 := Aside0.mk (Kd.R_below (dR HO364.out) hb); replace HO369 := Aside0.mk (Kd.R_below (dR HO369.out) hb); replace HO371 := Aside0.mk (Kd.R_below (dR HO371.out) hb); replace HB := Aside0.mk (below_step dB hb); (try clear hb)))
       go_ret2
       exact ⟨dE, dB⟩
 ·replace c8 := Bool.eq_false_iff.mpr c8
  subst c8
  have H1 : (some (0, 71)) = some (r1, r2) := by rw [if_neg (show ¬ (false = true) by decide)] at H; exact H
  clear H
  have H := H1
  clear H1
  simp only [Option.some.injEq, Prod.mk.injEq] at H
  obtain ⟨rfl, rfl⟩ := H
  go_enter Tryd.func49, Tryd.ntmps49
  go_wp2_with (first | ((with_reducible refine gate_callee (f := 73) rfl ?_); refine gL (some 18) Tryd.func73 #[.slice A1 l1.length c1] ?_; (with_reducible refine (nat_Norm.calls _ _ l1 t333 _ ?side1 ?side2 A5.out).mono ?_); (case side1 => exact dC HR1.out); (case side2 => exact HC1.out); rintro e w65 ⟨v334, rfl, ho0, hb⟩; refine ⟨_, rfl, ?_⟩; have HO335 := Aside0.mk (Kd.R_lower ho0 (below_size dB)); replace HB := Aside0.mk (below_step dB hb); (try clear hb); (try clear ho0)) | ((with_reducible refine gate_callee (f := 73) rfl ?_); refine gL (some 20) Tryd.func73 #[.slice A2 l2.length c2] ?_; (with_reducible refine (nat_Norm.calls _ _ l2 t336 _ ?side1 ?side2 A6.out).mono ?_); (case side1 => exact dC (Kd.C_below HR2.out HB.out)); (case side2 => exact HC2.out); rintro e w66 ⟨v337, rfl, ho0, hb⟩; refine ⟨_, rfl, ?_⟩; have HO338 := Aside0.mk (Kd.R_lower (Kd.R_new' ho0 (Kd.R_lt (dR HO335.out))) (below_size dB)); replace HO335 := Aside0.mk (Kd.R_elder' (dR HO335.out) (Kd.R_base ho0) hb); replace HB := Aside0.mk (below_step dB hb); (try clear hb); (try clear ho0)) | ((with_reducible refine gate_callee (f := 45) rfl ?_); refine gL (some 23) Tryd.func45 #[.int .i64 a3] ?_; (with_reducible refine (near_known.calls a3 false _ A7.out).mono ?_); rintro e w' ⟨rfl, ⟨nd, rfl⟩⟩; refine ⟨_, rfl, ?_⟩))
  go_ret2
  exact ⟨dE, dB⟩


/-! ### plumblaw10_exact: function 22 -/
def plumblaw10_exact.f (k : Nat) (a0 : Int) (a1 : Int) : Option (Int × Int) := (some (([a0] : List Int) : List Int)).bind fun y630 => (if a1 ≥ 0 then ((radix_Ten.f k a1).bind fun bt636 => ((nat_Mul.f k y630 bt636.1).bind fun bt640 => ((near_Quotient.f k false bt640.1 (([1] : List Int)) 0).bind fun bt644 => (some (bt644.1, bt644.2))))) else ((radix_Ten.f k (wrap64 (-a1))).bind fun bt646 => ((near_Quotient.f k false y630 bt646.1 0).bind fun bt650 => (some (bt650.1, bt650.2)))))
set_option maxHeartbeats 8000000 in
set_option maxRecDepth 100000 in
theorem plumblaw10_exact.calls (k : Nat) (a0 : Int) (a1 : Int) (r1 : Int) (r2 : Int) (w : World) (h : plumblaw10_exact.f k a0 a1 = some (r1, r2)) (hS : StaysLaid w := by first | exact HS.out | exact hS | exact StaysLaid.below HS.out HB.out | exact StaysLaid.below HS.out dB) :
  Calls Tryd.prog 22 #[.int .u64 a0, .int .i64 a1] w fun e w' => e = .returned (.tuple #[.int .u64 r1, .int .i64 r2]) ∧ Below w.heap.size w w' := by
 have HS := Aside0.mk (show StaysLaid w from hS)
 clear hS
 have HB := Aside0.mk (Below.refl w.heap.size w)
 have H : ((some (([a0] : List Int) : List Int)).bind fun y630 => (if a1 ≥ 0 then ((radix_Ten.f k a1).bind fun bt636 => ((nat_Mul.f k y630 bt636.1).bind fun bt640 => ((near_Quotient.f k false bt640.1 (([1] : List Int)) 0).bind fun bt644 => (some (bt644.1, bt644.2))))) else ((radix_Ten.f k (wrap64 (-a1))).bind fun bt646 => ((near_Quotient.f k false y630 bt646.1 0).bind fun bt650 => (some (bt650.1, bt650.2)))))) = some (r1, r2) := h
 clear h
 obtain ⟨y630, hy630⟩ : ∃ y_ : List Int, y_ = (([a0] : List Int)) := ⟨_, rfl⟩
 replace H : (if a1 ≥ 0 then ((radix_Ten.f k a1).bind fun bt636 => ((nat_Mul.f k y630 bt636.1).bind fun bt640 => ((near_Quotient.f k false bt640.1 (([1] : List Int)) 0).bind fun bt644 => (some (bt644.1, bt644.2))))) else ((radix_Ten.f k (wrap64 (-a1))).bind fun bt646 => ((near_Quotient.f k false y630 bt646.1 0).bind fun bt650 => (some (bt650.1, bt650.2))))) = some (r1, r2) := by first | (rw [hy630]; with_reducible exact H) | (have H2_ := (Option.bind_some _ _).symm.trans H; rw [hy630]; with_reducible exact H2_) | (have H2_ := (Option.bind_some _ _).symm.trans H; with_reducible exact H2_) | with_reducible exact H | (rw [hy630]; exact H) | exact H
 have Ny630 := Aside0.mk hy630
 clear hy630
 obtain ⟨y633, hy633⟩ : ∃ y_ : List Int, y_ = (([1] : List Int)) := ⟨_, rfl⟩
 replace H : (if a1 ≥ 0 then ((radix_Ten.f k a1).bind fun bt636 => ((nat_Mul.f k y630 bt636.1).bind fun bt640 => ((near_Quotient.f k false bt640.1 y633 0).bind fun bt644 => (some (bt644.1, bt644.2))))) else ((radix_Ten.f k (wrap64 (-a1))).bind fun bt646 => ((near_Quotient.f k false y630 bt646.1 0).bind fun bt650 => (some (bt650.1, bt650.2))))) = some (r1, r2) := by first | (rw [hy633]; with_reducible exact H) | (have H2_ := (Option.bind_some _ _).symm.trans H; rw [hy633]; with_reducible exact H2_) | (have H2_ := (Option.bind_some _ _).symm.trans H; with_reducible exact H2_) | with_reducible exact H | (rw [hy633]; exact H) | exact H
 have Ny633 := Aside0.mk hy633
 clear hy633
 by_cases c3 : a1 ≥ 0
 ·rw [if_pos c3] at H
  have c3b0 : decide (0 ≤ a1) = true := decide_eq_true c3
  clear c3
  replace H := obe H
  obtain ⟨⟨t636, t637⟩, A40, H⟩ := H
  (try dsimp only at H)
  have A4 := Aside0.mk A40
  clear A40
  replace H := obe H
  obtain ⟨⟨t640, t641⟩, A50, H⟩ := H
  (try dsimp only at H)
  have A5 := Aside0.mk A50
  clear A50
  replace H := obe H
  obtain ⟨⟨t644, t645⟩, A60, H⟩ := H
  (try dsimp only at H)
  have A6 := Aside0.mk A60
  clear A60
  simp only [Option.some.injEq, Prod.mk.injEq] at H
  obtain ⟨rfl, rfl⟩ := H
  go_enter Tryd.func22, Tryd.ntmps22
  go_wp2_with (first | ((with_reducible refine gate_dst (N := 11) rfl ?_); refine Kd.R_lit (Kd.int .u64) _ 22 ?hg (N := 11) ?hd (xs := ([a0] : List Int)) (inner := [.int .u64 a0]) (ok := fun _ => True) (okp := fun _ => True) ?hr ?hp (fun _ hk => hk) trivial (Below.refl _ _) (Nat.le_refl _) (by simp) ?_; (case hd => rfl); (case hg => rfl); (case hr => first | (go_simp; done) | (go_simp; rfl)); (case hp => exact (Reps.one (show Kd.M (Kd.int .u64) _ _ _ a0 [.int .u64 a0] from rfl) (Reps.none _ _))); intro v631 w7 ho8 hb hg_ hnew_; clear hg_ hnew_; (first | rw [← Ny630.out] at ho8 | (simp only [Int.reduceToNat] at ho8; rw [← Ny630.out] at ho8)); have HO632 := Aside0.mk (Kd.R_lower ho8 (below_size dB)); replace HB := Aside0.mk (below_step dB hb); clear hb ho8) | ((with_reducible refine gate_dst (N := 12) rfl ?_); refine Kd.R_lit (Kd.int .u64) _ 22 ?hg (N := 12) ?hd (xs := ([1] : List Int)) (inner := [.int .u64 1]) (ok := fun _ => True) (okp := fun _ => True) ?hr ?hp (fun _ hk => hk) trivial (Below.refl _ _) (Nat.le_refl _) (by simp) ?_; (case hd => rfl); (case hg => rfl); (case hr => first | (go_simp; done) | (go_simp; rfl)); (case hp => exact (Reps.one (show Kd.M (Kd.int .u64) _ _ _ 1 [.int .u64 1] from rfl) (Reps.none _ _))); intro v634 w9 ho10 hb hg_ hnew_; clear hg_ hnew_; (first | rw [← Ny633.out] at ho10 | (simp only [Int.reduceToNat] at ho10; rw [← Ny633.out] at ho10)); have HO635 := Aside0.mk (Kd.R_lower (Kd.R_new' ho10 (Kd.R_lt (dR HO632.out))) (below_size dB)); replace HO632 := Aside0.mk (Kd.R_elder' (dR HO632.out) (Kd.R_base ho10) hb); replace HB := Aside0.mk (below_step dB hb); clear hb ho10) | ((with_reducible refine gate_callee (f := 25) rfl ?_); refine gL (some 17) Tryd.func25 #[.int .i64 a1] ?_; (with_reducible refine (radix_Ten.calls k a1 t636 t637 _ A4.out).mono ?_); rintro e w11 ⟨v638, rfl, ho0, hb⟩; refine ⟨_, rfl, ?_⟩; have HO639 := Aside0.mk (Kd.R_lower (Kd.R_new' (Kd.R_new' ho0 (Kd.R_lt (dR HO632.out))) (Kd.R_lt (dR HO635.out))) (below_size dB)); replace HO632 := Aside0.mk (Kd.R_elder' (dR HO632.out) (Kd.R_base ho0) hb); replace HO635 := Aside0.mk (Kd.R_elder' (dR HO635.out) (Kd.R_base ho0) hb); replace HB := Aside0.mk (below_step dB hb); (try clear hb); (try clear ho0); obtain ⟨Ao12, co12, eo12⟩ := Kd.R_slice HO632.out; subst eo12; obtain ⟨Ao13, co13, eo13⟩ := Kd.R_slice HO639.out; subst eo13) | ((with_reducible refine gate_callee (f := 20) rfl ?_); refine gL (some 23) Tryd.func20 #[.slice Ao12 y630.length co12, .slice Ao13 t636.length co13] ?_; (with_reducible refine (nat_Mul.calls k _ _ y630 _ _ t636 t640 t641 _ ?side1 ?side2 ?side3 ?side4 A5.out).mono ?_); (case side1 => exact dC (Kd.R_reads' HO632.out).2.2); (case side2 => exact (Kd.R_reads' HO632.out).2.1); (case side3 => exact dC (Kd.R_reads' HO639.out).2.2); (case side4 => exact (Kd.R_reads' HO639.out).2.1); rintro e w14 ⟨v642, rfl, ho0, hb⟩; refine ⟨_, rfl, ?_⟩; have HO643 := Aside0.mk (Kd.R_lower (Kd.R_new' (Kd.R_new' (Kd.R_new' ho0 (Kd.R_lt (dR HO632.out))) (Kd.R_lt (dR HO635.out))) (Kd.R_lt (dR HO639.out))) (below_size dB)); replace HO632 := Aside0.mk (Kd.R_elder' (dR HO632.out) (Kd.R_base ho0) hb); replace HO635 := Aside0.mk (Kd.R_elder' (dR HO635.out) (Kd.R_base ho0) hb); replace HO639 := Aside0.mk (Kd.R_elder' (dR HO639.out) (Kd.R_base ho0) hb); replace HB := Aside0.mk (below_step dB hb); (try clear hb); (try clear ho0); obtain ⟨Ao15, co15, eo15⟩ := Kd.R_slice HO643.out; subst eo15; obtain ⟨Ao16, co16, eo16⟩ := Kd.R_slice HO635.out; subst eo16) | ((with_reducible refine gate_callee (f := 49) rfl ?_); refine gL (some 34) Tryd.func49 #[.bool false, .slice Ao15 t640.length co15, .slice Ao16 y633.length co16, .int .i64 0] ?_; (with_reducible refine (near_Quotient.calls k false _ _ t640 _ _ y633 0 t644 t645 _ ?side1 ?side2 ?side3 ?side4 A6.out).mono ?_); (case side1 => exact dC (Kd.R_reads' HO643.out).2.2); (case side2 => exact (Kd.R_reads' HO643.out).2.1); (case side3 => exact dC (Kd.R_reads' HO635.out).2.2); (case side4 => exact (Kd.R_reads' HO635.out).2.1); rintro e w17 ⟨rfl, hb⟩; refine ⟨_, rfl, ?_⟩; replace HO632 := Aside0.mk (Kd.R_below (dR HO632.out) hb); replace HO635 := Aside0.mk (Kd.R_below (dR HO635.out) hb); replace HO639 := Aside0.mk (Kd.R_below (dR HO639.out) hb); replace HO643 := Aside0.mk (Kd.R_below (dR HO643.out) hb); replace HB := Aside0.mk (below_step dB hb); (try clear hb)))
  go_ret2
  exact ⟨dE, dB⟩
 ·rw [if_neg c3] at H
  have c3b0 : decide (0 ≤ a1) = false := decide_eq_false c3
  clear c3
  replace H := obe H
  obtain ⟨⟨t646, t647⟩, A180, H⟩ := H
  (try dsimp only at H)
  have A18 := Aside0.mk A180
  clear A180
  replace H := obe H
  obtain ⟨⟨t650, t651⟩, A190, H⟩ := H
  (try dsimp only at H)
  have A19 := Aside0.mk A190
  clear A190
  simp only [Option.some.injEq, Prod.mk.injEq] at H
  obtain ⟨rfl, rfl⟩ := H
  go_enter Tryd.func22, Tryd.ntmps22
  go_wp2_with (first | ((with_reducible refine gate_dst (N := 11) rfl ?_); refine Kd.R_lit (Kd.int .u64) _ 22 ?hg (N := 11) ?hd (xs := ([a0] : List Int)) (inner := [.int .u64 a0]) (ok := fun _ => True) (okp := fun _ => True) ?hr ?hp (fun _ hk => hk) trivial (Below.refl _ _) (Nat.le_refl _) (by simp) ?_; (case hd => rfl); (case hg => rfl); (case hr => first | (go_simp; done) | (go_simp; rfl)); (case hp => exact (Reps.one (show Kd.M (Kd.int .u64) _ _ _ a0 [.int .u64 a0] from rfl) (Reps.none _ _))); intro v631 w20 ho21 hb hg_ hnew_; clear hg_ hnew_; (first | rw [← Ny630.out] at ho21 | (simp only [Int.reduceToNat] at ho21; rw [← Ny630.out] at ho21)); have HO632 := Aside0.mk (Kd.R_lower ho21 (below_size dB)); replace HB := Aside0.mk (below_step dB hb); clear hb ho21) | ((with_reducible refine gate_dst (N := 12) rfl ?_); refine Kd.R_lit (Kd.int .u64) _ 22 ?hg (N := 12) ?hd (xs := ([1] : List Int)) (inner := [.int .u64 1]) (ok := fun _ => True) (okp := fun _ => True) ?hr ?hp (fun _ hk => hk) trivial (Below.refl _ _) (Nat.le_refl _) (by simp) ?_; (case hd => rfl); (case hg => rfl); (case hr => first | (go_simp; done) | (go_simp; rfl)); (case hp => exact (Reps.one (show Kd.M (Kd.int .u64) _ _ _ 1 [.int .u64 1] from rfl) (Reps.none _ _))); intro v634 w22 ho23 hb hg_ hnew_; clear hg_ hnew_; (first | rw [← Ny633.out] at ho23 | (simp only [Int.reduceToNat] at ho23; rw [← Ny633.out] at ho23)); have HO635 := Aside0.mk (Kd.R_lower (Kd.R_new' ho23 (Kd.R_lt (dR HO632.out))) (below_size dB)); replace HO632 := Aside0.mk (Kd.R_elder' (dR HO632.out) (Kd.R_base ho23) hb); replace HB := Aside0.mk (below_step dB hb); clear hb ho23) | ((with_reducible refine gate_callee (f := 25) rfl ?_); refine gL (some 29) Tryd.func25 #[.int .i64 (wrap64 (-a1))] ?_; (with_reducible refine (radix_Ten.calls k (wrap64 (-a1)) t646 t647 _ A18.out).mono ?_); rintro e w24 ⟨v648, rfl, ho0, hb⟩; refine ⟨_, rfl, ?_⟩; have HO649 := Aside0.mk (Kd.R_lower (Kd.R_new' (Kd.R_new' ho0 (Kd.R_lt (dR HO632.out))) (Kd.R_lt (dR HO635.out))) (below_size dB)); replace HO632 := Aside0.mk (Kd.R_elder' (dR HO632.out) (Kd.R_base ho0) hb); replace HO635 := Aside0.mk (Kd.R_elder' (dR HO635.out) (Kd.R_base ho0) hb); replace HB := Aside0.mk (below_step dB hb); (try clear hb); (try clear ho0); obtain ⟨Ao25, co25, eo25⟩ := Kd.R_slice HO632.out; subst eo25; obtain ⟨Ao26, co26, eo26⟩ := Kd.R_slice HO649.out; subst eo26) | ((with_reducible refine gate_callee (f := 49) rfl ?_); refine gL (some 34) Tryd.func49 #[.bool false, .slice Ao25 y630.length co25, .slice Ao26 t646.length co26, .int .i64 0] ?_; (with_reducible refine (near_Quotient.calls k false _ _ y630 _ _ t646 0 t650 t651 _ ?side1 ?side2 ?side3 ?side4 A19.out).mono ?_); (case side1 => exact dC (Kd.R_reads' HO632.out).2.2); (case side2 => exact (Kd.R_reads' HO632.out).2.1); (case side3 => exact dC (Kd.R_reads' HO649.out).2.2); (case side4 => exact (Kd.R_reads' HO649.out).2.1); rintro e w27 ⟨rfl, hb⟩; refine ⟨_, rfl, ?_⟩; replace HO632 := Aside0.mk (Kd.R_below (dR HO632.out) hb); replace HO635 := Aside0.mk (Kd.R_below (dR HO635.out) hb); replace HO649 := Aside0.mk (Kd.R_below (dR HO649.out) hb); replace HB := Aside0.mk (below_step dB hb); (try clear hb)))
  go_ret2
  exact ⟨dE, dB⟩

end Go.Proofs.YtoannkopciehcaaDoor.PA

namespace Go.Proofs.YtoannkopciehcaaDoor.PA
open Go.RowKit Go.Proofs.YtoannkopciehcaaDoorW.PrintWords Go.Proofs.YtoannkopciehcaaDoorW.PrintLast Go.Proofs.YtoannkopciehcaaDoorW.PrintMore
attribute [local go_sem] max2_int min2_int max_two min_two max_three min_three max_four min_four   -- for this text's walks alone
set_option linter.unusedVariables false
set_option linter.unusedSimpArgs false

/-! ### plumblaw10_LemireTrue: function 8 -/
mutual
def plumblaw10_LemireTrue.j0 : Nat → Int → Int → Int → Bool → Int → Int → Bool → Option (Bool)
 | 0, _, _, _, _, _, _, _ => none
 | k + 1, x0, x1, x5, x6, x7, x8, x54 => if x54 = true then (some false) else (if x1 < (-1000) then (plumblaw10_LemireTrue.j1 k x0 x1 x5 x6 x7 x8 true) else (plumblaw10_LemireTrue.j1 k x0 x1 x5 x6 x7 x8 (decide (x1 > 1000))))
def plumblaw10_LemireTrue.j1 : Nat → Int → Int → Int → Bool → Int → Int → Bool → Option (Bool)
 | 0, _, _, _, _, _, _, _ => none
 | k + 1, x0, x1, x5, x6, x7, x8, x60 => if x60 = true then (if x0 = 0 then (if x8 = 0 then (if x7 = 0 then (some true) else (if x0 > 0 then (if x1 < 0 then (if x1 > 0 then (some (x8 == 70)) else (some false)) else (if x1 > 0 then (some (x8 == 70)) else (some false))) else (some false))) else (if x0 > 0 then (if x1 < 0 then (if x1 > 0 then (some (x8 == 70)) else (some false)) else (if x1 > 0 then (some (x8 == 70)) else (some false))) else (some false))) else (if x0 > 0 then (if x1 < 0 then (if x8 = 0 then (if x7 = 0 then (some true) else (if x1 > 0 then (some (x8 == 70)) else (some false))) else (if x1 > 0 then (some (x8 == 70)) else (some false))) else (if x1 > 0 then (some (x8 == 70)) else (some false))) else (some false))) else ((plumblaw10_exact.f k x0 x1).bind fun bt657 => (if x6 = true then (if bt657.2 = 0 then (plumblaw10_LemireTrue.j2 k x0 x1 x7 x8 bt657.1 bt657.2 (x5 != bt657.1)) else (plumblaw10_LemireTrue.j2 k x0 x1 x7 x8 bt657.1 bt657.2 true)) else (plumblaw10_LemireTrue.j2 k x0 x1 x7 x8 bt657.1 bt657.2 false)))
def plumblaw10_LemireTrue.j2 : Nat → Int → Int → Int → Int → Int → Int → Bool → Option (Bool)
 | 0, _, _, _, _, _, _, _ => none
 | k + 1, x0, x1, x7, x8, x9, x10, x110 => if x110 = true then (some false) else (if x8 = 100 then (if x0 > 0 then (if x1 ≥ (-348) then (if x1 ≤ 347 then (if x1 < 0 then (some true) else (some (decide (x1 > 55)))) else (some false)) else (some false)) else (some false)) else (if x8 = x10 then (some (x7 == x9)) else (some false)))
end
def plumblaw10_LemireTrue.f (k : Nat) (a0 : Int) (a1 : Int) : Option (Bool) := (lemire_Small.f k a0 a1).bind fun bt652 => ((lemire_Fast.f k a0 a1).bind fun bt654 => ((plumblaw10_alive.f k).bind fun t656 => (if t656 = true then (if bt654.2 = 0 then (if bt652.2 = true then (if a0 ≤ 9007199254740992 then (if a1 ≥ (-22) then (plumblaw10_LemireTrue.j0 k a0 a1 bt652.1 bt652.2 bt654.1 bt654.2 (bt652.2 != (decide (a1 ≤ 22)))) else (plumblaw10_LemireTrue.j0 k a0 a1 bt652.1 bt652.2 bt654.1 bt654.2 (bt652.2 != false))) else (plumblaw10_LemireTrue.j0 k a0 a1 bt652.1 bt652.2 bt654.1 bt654.2 (bt652.2 != false))) else (if bt652.1 = 0 then (if a0 ≤ 9007199254740992 then (if a1 ≥ (-22) then (plumblaw10_LemireTrue.j0 k a0 a1 bt652.1 bt652.2 bt654.1 bt654.2 (bt652.2 != (decide (a1 ≤ 22)))) else (plumblaw10_LemireTrue.j0 k a0 a1 bt652.1 bt652.2 bt654.1 bt654.2 (bt652.2 != false))) else (plumblaw10_LemireTrue.j0 k a0 a1 bt652.1 bt652.2 bt654.1 bt654.2 (bt652.2 != false))) else (plumblaw10_LemireTrue.j0 k a0 a1 bt652.1 bt652.2 bt654.1 bt654.2 true))) else (if bt654.1 = 0 then (if bt652.2 = true then (if a0 ≤ 9007199254740992 then (if a1 ≥ (-22) then (plumblaw10_LemireTrue.j0 k a0 a1 bt652.1 bt652.2 bt654.1 bt654.2 (bt652.2 != (decide (a1 ≤ 22)))) else (plumblaw10_LemireTrue.j0 k a0 a1 bt652.1 bt652.2 bt654.1 bt654.2 (bt652.2 != false))) else (plumblaw10_LemireTrue.j0 k a0 a1 bt652.1 bt652.2 bt654.1 bt654.2 (bt652.2 != false))) else (if bt652.1 = 0 then (if a0 ≤ 9007199254740992 then (if a1 ≥ (-22) then (plumblaw10_LemireTrue.j0 k a0 a1 bt652.1 bt652.2 bt654.1 bt654.2 (bt652.2 != (decide (a1 ≤ 22)))) else (plumblaw10_LemireTrue.j0 k a0 a1 bt652.1 bt652.2 bt654.1 bt654.2 (bt652.2 != false))) else (plumblaw10_LemireTrue.j0 k a0 a1 bt652.1 bt652.2 bt654.1 bt654.2 (bt652.2 != false))) else (plumblaw10_LemireTrue.j0 k a0 a1 bt652.1 bt652.2 bt654.1 bt654.2 true))) else (plumblaw10_LemireTrue.j0 k a0 a1 bt652.1 bt652.2 bt654.1 bt654.2 true))) else (plumblaw10_LemireTrue.j0 k a0 a1 bt652.1 bt652.2 bt654.1 bt654.2 true))))
set_option maxHeartbeats 8000000 in
set_option maxRecDepth 100000 in
theorem plumblaw10_LemireTrue.calls (k : Nat) (a0 : Int) (a1 : Int) (r : Bool) (w : World) (h : plumblaw10_LemireTrue.f k a0 a1 = some r) (hG : TensLaid w := by first | exact HG.out | exact hG | exact TensLaid.below HG.out HB.out | exact TensLaid.below HG.out dB) (hS : StaysLaid w := by first | exact HS.out | exact hS | exact StaysLaid.below HS.out HB.out | exact StaysLaid.below HS.out dB) :
  Calls Tryd.prog 8 #[.int .u64 a0, .int .i64 a1] w fun e w' => e = .returned (.bool r) ∧ Below w.heap.size w w' := by
 have HS := Aside0.mk (show StaysLaid w from hS)
 clear hS
 have HG := Aside0.mk (show TensLaid w from hG)
 clear hG
 have HB := Aside0.mk (Below.refl w.heap.size w)
 have H : ((lemire_Small.f k a0 a1).bind fun bt652 => ((lemire_Fast.f k a0 a1).bind fun bt654 => ((plumblaw10_alive.f k).bind fun t656 => (if t656 = true then (if bt654.2 = 0 then (if bt652.2 = true then (if a0 ≤ 9007199254740992 then (if a1 ≥ (-22) then (plumblaw10_LemireTrue.j0 k a0 a1 bt652.1 bt652.2 bt654.1 bt654.2 (bt652.2 != (decide (a1 ≤ 22)))) else (plumblaw10_LemireTrue.j0 k a0 a1 bt652.1 bt652.2 bt654.1 bt654.2 (bt652.2 != false))) else (plumblaw10_LemireTrue.j0 k a0 a1 bt652.1 bt652.2 bt654.1 bt654.2 (bt652.2 != false))) else (if bt652.1 = 0 then (if a0 ≤ 9007199254740992 then (if a1 ≥ (-22) then (plumblaw10_LemireTrue.j0 k a0 a1 bt652.1 bt652.2 bt654.1 bt654.2 (bt652.2 != (decide (a1 ≤ 22)))) else (plumblaw10_LemireTrue.j0 k a0 a1 bt652.1 bt652.2 bt654.1 bt654.2 (bt652.2 != false))) else (plumblaw10_LemireTrue.j0 k a0 a1 bt652.1 bt652.2 bt654.1 bt654.2 (bt652.2 != false))) else (plumblaw10_LemireTrue.j0 k a0 a1 bt652.1 bt652.2 bt654.1 bt654.2 true))) else (if bt654.1 = 0 then (if bt652.2 = true then (if a0 ≤ 9007199254740992 then (if a1 ≥ (-22) then (plumblaw10_LemireTrue.j0 k a0 a1 bt652.1 bt652.2 bt654.1 bt654.2 (bt652.2 != (decide (a1 ≤ 22)))) else (plumblaw10_LemireTrue.j0 k a0 a1 bt652.1 bt652.2 bt654.1 bt654.2 (bt652.2 != false))) else (plumblaw10_LemireTrue.j0 k a0 a1 bt652.1 bt652.2 bt654.1 bt654.2 (bt652.2 != false))) else (if bt652.1 = 0 then (if a0 ≤ 9007199254740992 then (if a1 ≥ (-22) then (plumblaw10_LemireTrue.j0 k a0 a1 bt652.1 bt652.2 bt654.1 bt654.2 (bt652.2 != (decide (a1 ≤ 22)))) else (plumblaw10_LemireTrue.j0 k a0 a1 bt652.1 bt652.2 bt654.1 bt654.2 (bt652.2 != false))) else (plumblaw10_LemireTrue.j0 k a0 a1 bt652.1 bt652.2 bt654.1 bt654.2 (bt652.2 != false))) else (plumblaw10_LemireTrue.j0 k a0 a1 bt652.1 bt652.2 bt654.1 bt654.2 true))) else (plumblaw10_LemireTrue.j0 k a0 a1 bt652.1 bt652.2 bt654.1 bt654.2 true))) else (plumblaw10_LemireTrue.j0 k a0 a1 bt652.1 bt652.2 bt654.1 bt654.2 true))))) = some r := h
 clear h
 replace H := obe H
 obtain ⟨⟨t652, t653⟩, A30, H⟩ := H
 (try dsimp only at H)
 have A3 := Aside0.mk A30
 clear A30
 replace H := obe H
 obtain ⟨⟨t654, t655⟩, A40, H⟩ := H
 (try dsimp only at H)
 have A4 := Aside0.mk A40
 clear A40
 have HC5 := Aside0.mk H
 clear H
 go_enter Tryd.func8, Tryd.ntmps8
 go_upto_region 3 with (first | ((with_reducible refine gate_callee (f := 10) rfl ?_); refine gL (some 14) Tryd.func10 #[.int .u64 a0, .int .i64 a1] ?_; (with_reducible refine (lemire_Small.calls k a0 a1 t652 t653 _ A3.out).mono ?_); rintro e w6 ⟨rfl, hb⟩; refine ⟨_, rfl, ?_⟩; replace HB := Aside0.mk (below_step dB hb); (try clear hb)) | ((with_reducible refine gate_callee (f := 12) rfl ?_); refine gL (some 20) Tryd.func12 #[.int .u64 a0, .int .i64 a1] ?_; (with_reducible refine (lemire_Fast.calls k a0 a1 t654 t655 _ A4.out).mono ?_); rintro e w7 ⟨rfl, hb⟩; refine ⟨_, rfl, ?_⟩; replace HB := Aside0.mk (below_step dB hb); (try clear hb)))
 (try simp only [Act.put, List.setIfInBounds_toArray, List.set_cons_zero, List.set_cons_succ])
 go_cut [54] (fun v54 wc => ∃ (kq : Nat) (x54_4 : Bool), v54 = .bool x54_4 ∧ Aside0 (plumblaw10_LemireTrue.j0 kq a0 a1 t652 t653 t654 t655 x54_4 = some r) ∧ Aside0 (kq ≤ k) ∧ Aside0 (Below w.heap.size w wc))
 case first =>
  have H := HC5.out
  clear HC5
  replace H := obe H
  obtain ⟨t656, A80, H⟩ := H
  (try dsimp only at H)
  have A8 := Aside0.mk A80
  clear A80
  by_cases c9 : t656 = true
  ·subst c9
   have H1 : (if t655 = 0 then (if t653 = true then (if a0 ≤ 9007199254740992 then (if a1 ≥ (-22) then (plumblaw10_LemireTrue.j0 k a0 a1 t652 t653 t654 t655 (t653 != (decide (a1 ≤ 22)))) else (plumblaw10_LemireTrue.j0 k a0 a1 t652 t653 t654 t655 (t653 != false))) else (plumblaw10_LemireTrue.j0 k a0 a1 t652 t653 t654 t655 (t653 != false))) else (if t652 = 0 then (if a0 ≤ 9007199254740992 then (if a1 ≥ (-22) then (plumblaw10_LemireTrue.j0 k a0 a1 t652 t653 t654 t655 (t653 != (decide (a1 ≤ 22)))) else (plumblaw10_LemireTrue.j0 k a0 a1 t652 t653 t654 t655 (t653 != false))) else (plumblaw10_LemireTrue.j0 k a0 a1 t652 t653 t654 t655 (t653 != false))) else (plumblaw10_LemireTrue.j0 k a0 a1 t652 t653 t654 t655 true))) else (if t654 = 0 then (if t653 = true then (if a0 ≤ 9007199254740992 then (if a1 ≥ (-22) then (plumblaw10_LemireTrue.j0 k a0 a1 t652 t653 t654 t655 (t653 != (decide (a1 ≤ 22)))) else (plumblaw10_LemireTrue.j0 k a0 a1 t652 t653 t654 t655 (t653 != false))) else (plumblaw10_LemireTrue.j0 k a0 a1 t652 t653 t654 t655 (t653 != false))) else (if t652 = 0 then (if a0 ≤ 9007199254740992 then (if a1 ≥ (-22) then (plumblaw10_LemireTrue.j0 k a0 a1 t652 t653 t654 t655 (t653 != (decide (a1 ≤ 22)))) else (plumblaw10_LemireTrue.j0 k a0 a1 t652 t653 t654 t655 (t653 != false))) else (plumblaw10_LemireTrue.j0 k a0 a1 t652 t653 t654 t655 (t653 != false))) else (plumblaw10_LemireTrue.j0 k a0 a1 t652 t653 t654 t655 true))) else (plumblaw10_LemireTrue.j0 k a0 a1 t652 t653 t654 t655 true))) = some r := by rw [if_pos rfl] at H; exact H
   clear H
   have H := H1
   clear H1
   by_cases c10 : t655 = 0
   ·rw [if_pos c10] at H
    have c10b0 : (t655 == 0) = true := beq_iff_eq.mpr c10
    have c10b1 : (t655 != 0) = false := bne_eq_false_iff_eq.mpr c10
    clear c10
    (first | rw [c10b0] | (simp only [i64_w, i32_w]; rw [c10b0]) | skip)
    by_cases c11 : t653 = true
    ·subst c11
     have H1 : (if a0 ≤ 9007199254740992 then (if a1 ≥ (-22) then (plumblaw10_LemireTrue.j0 k a0 a1 t652 true t654 t655 (true != (decide (a1 ≤ 22)))) else (plumblaw10_LemireTrue.j0 k a0 a1 t652 true t654 t655 (true != false))) else (plumblaw10_LemireTrue.j0 k a0 a1 t652 true t654 t655 (true != false))) = some r := by rw [if_pos rfl] at H; exact H
     clear H
     have H := H1
     clear H1
     by_cases c12 : a0 ≤ 9007199254740992
     ·rw [if_pos c12] at H
      have c12b0 : decide (a0 ≤ 9007199254740992) = true := decide_eq_true c12
      clear c12
      by_cases c13 : a1 ≥ (-22)
      ·rw [if_pos c13] at H
       have c13b0 : decide ((-22) ≤ a1) = true := decide_eq_true c13
       clear c13
       have H' := Aside0.mk H
       clear H
       go_wp2_with (first | ((with_reducible refine gate_callee (f := 14) rfl ?_); refine gL (some 23) Tryd.func14 #[] ?_; (with_reducible refine (plumblaw10_alive.calls k  true _ A8.out).mono ?_); rintro e w14 ⟨rfl, hb⟩; refine ⟨_, rfl, ?_⟩; replace HB := Aside0.mk (below_step dB hb); (try clear hb)))
       go_meet
       case rel => exact ⟨_, ((true != (decide (a1 ≤ 22)))), dF, H', ⟨dN⟩, ⟨dB⟩⟩
      ·rw [if_neg c13] at H
       have c13b0 : decide ((-22) ≤ a1) = false := decide_eq_false c13
       clear c13
       have H' := Aside0.mk H
       clear H
       go_wp2_with (first | ((with_reducible refine gate_callee (f := 14) rfl ?_); refine gL (some 23) Tryd.func14 #[] ?_; (with_reducible refine (plumblaw10_alive.calls k  true _ A8.out).mono ?_); rintro e w15 ⟨rfl, hb⟩; refine ⟨_, rfl, ?_⟩; replace HB := Aside0.mk (below_step dB hb); (try clear hb)))
       go_meet
       case rel => exact ⟨_, ((true != false)), dF, H', ⟨dN⟩, ⟨dB⟩⟩
     ·rw [if_neg c12] at H
      have c12b0 : decide (a0 ≤ 9007199254740992) = false := decide_eq_false c12
      clear c12
      have H' := Aside0.mk H
      clear H
      go_wp2_with (first | ((with_reducible refine gate_callee (f := 14) rfl ?_); refine gL (some 23) Tryd.func14 #[] ?_; (with_reducible refine (plumblaw10_alive.calls k  true _ A8.out).mono ?_); rintro e w16 ⟨rfl, hb⟩; refine ⟨_, rfl, ?_⟩; replace HB := Aside0.mk (below_step dB hb); (try clear hb)))
      go_meet
      case rel => exact ⟨_, ((true != false)), dF, H', ⟨dN⟩, ⟨dB⟩⟩
    ·replace c11 := Bool.eq_false_iff.mpr c11
     subst c11
     have H1 : (if t652 = 0 then (if a0 ≤ 9007199254740992 then (if a1 ≥ (-22) then (plumblaw10_LemireTrue.j0 k a0 a1 t652 false t654 t655 (false != (decide (a1 ≤ 22)))) else (plumblaw10_LemireTrue.j0 k a0 a1 t652 false t654 t655 (false != false))) else (plumblaw10_LemireTrue.j0 k a0 a1 t652 false t654 t655 (false != false))) else (plumblaw10_LemireTrue.j0 k a0 a1 t652 false t654 t655 true)) = some r := by rw [if_neg (show ¬ (false = true) by decide)] at H; exact H
     clear H
     have H := H1
     clear H1
     by_cases c17 : t652 = 0
     ·rw [if_pos c17] at H
      have c17b0 : (t652 == 0) = true := beq_iff_eq.mpr c17
      have c17b1 : (t652 != 0) = false := bne_eq_false_iff_eq.mpr c17
      clear c17
      by_cases c18 : a0 ≤ 9007199254740992
      ·rw [if_pos c18] at H
       have c18b0 : decide (a0 ≤ 9007199254740992) = true := decide_eq_true c18
       clear c18
       by_cases c19 : a1 ≥ (-22)
       ·rw [if_pos c19] at H
        have c19b0 : decide ((-22) ≤ a1) = true := decide_eq_true c19
        clear c19
        have H' := Aside0.mk H
        clear H
        go_wp2_with (first | ((with_reducible refine gate_callee (f := 14) rfl ?_); refine gL (some 23) Tryd.func14 #[] ?_; (with_reducible refine (plumblaw10_alive.calls k  true _ A8.out).mono ?_); rintro e w20 ⟨rfl, hb⟩; refine ⟨_, rfl, ?_⟩; replace HB := Aside0.mk (below_step dB hb); (try clear hb)))
        go_meet
        case rel => exact ⟨_, ((false != (decide (a1 ≤ 22)))), dF, H', ⟨dN⟩, ⟨dB⟩⟩
       ·rw [if_neg c19] at H
        have c19b0 : decide ((-22) ≤ a1) = false := decide_eq_false c19
        clear c19
        have H' := Aside0.mk H
        clear H
        go_wp2_with (first | ((with_reducible refine gate_callee (f := 14) rfl ?_); refine gL (some 23) Tryd.func14 #[] ?_; (with_reducible refine (plumblaw10_alive.calls k  true _ A8.out).mono ?_); rintro e w21 ⟨rfl, hb⟩; refine ⟨_, rfl, ?_⟩; replace HB := Aside0.mk (below_step dB hb); (try clear hb)))
        go_meet
        case rel => exact ⟨_, ((false != false)), dF, H', ⟨dN⟩, ⟨dB⟩⟩
      ·rw [if_neg c18] at H
       have c18b0 : decide (a0 ≤ 9007199254740992) = false := decide_eq_false c18
       clear c18
       have H' := Aside0.mk H
       clear H
       go_wp2_with (first | ((with_reducible refine gate_callee (f := 14) rfl ?_); refine gL (some 23) Tryd.func14 #[] ?_; (with_reducible refine (plumblaw10_alive.calls k  true _ A8.out).mono ?_); rintro e w22 ⟨rfl, hb⟩; refine ⟨_, rfl, ?_⟩; replace HB := Aside0.mk (below_step dB hb); (try clear hb)))
       go_meet
       case rel => exact ⟨_, ((false != false)), dF, H', ⟨dN⟩, ⟨dB⟩⟩
     ·rw [if_neg c17] at H
      have c17b0 : (t652 == 0) = false := beq_eq_false_iff_ne.mpr c17
      have c17b1 : (t652 != 0) = true := bne_iff_ne.mpr c17
      have H' := Aside0.mk H
      clear H
      go_wp2_with (first | ((with_reducible refine gate_callee (f := 14) rfl ?_); refine gL (some 23) Tryd.func14 #[] ?_; (with_reducible refine (plumblaw10_alive.calls k  true _ A8.out).mono ?_); rintro e w23 ⟨rfl, hb⟩; refine ⟨_, rfl, ?_⟩; replace HB := Aside0.mk (below_step dB hb); (try clear hb)))
      go_meet
      case rel => exact ⟨_, (true), dF, H', ⟨dN⟩, ⟨dB⟩⟩
   ·rw [if_neg c10] at H
    have c10b0 : (t655 == 0) = false := beq_eq_false_iff_ne.mpr c10
    have c10b1 : (t655 != 0) = true := bne_iff_ne.mpr c10
    (first | rw [c10b0] | (simp only [i64_w, i32_w]; rw [c10b0]) | skip)
    by_cases c24 : t654 = 0
    ·rw [if_pos c24] at H
     have c24b0 : (t654 == 0) = true := beq_iff_eq.mpr c24
     have c24b1 : (t654 != 0) = false := bne_eq_false_iff_eq.mpr c24
     clear c24
     by_cases c25 : t653 = true
     ·subst c25
      have H1 : (if a0 ≤ 9007199254740992 then (if a1 ≥ (-22) then (plumblaw10_LemireTrue.j0 k a0 a1 t652 true t654 t655 (true != (decide (a1 ≤ 22)))) else (plumblaw10_LemireTrue.j0 k a0 a1 t652 true t654 t655 (true != false))) else (plumblaw10_LemireTrue.j0 k a0 a1 t652 true t654 t655 (true != false))) = some r := by rw [if_pos rfl] at H; exact H
      clear H
      have H := H1
      clear H1
      by_cases c26 : a0 ≤ 9007199254740992
      ·rw [if_pos c26] at H
       have c26b0 : decide (a0 ≤ 9007199254740992) = true := decide_eq_true c26
       clear c26
       by_cases c27 : a1 ≥ (-22)
       ·rw [if_pos c27] at H
        have c27b0 : decide ((-22) ≤ a1) = true := decide_eq_true c27
        clear c27
        have H' := Aside0.mk H
        clear H
        go_wp2_with (first | ((with_reducible refine gate_callee (f := 14) rfl ?_); refine gL (some 23) Tryd.func14 #[] ?_; (with_reducible refine (plumblaw10_alive.calls k  true _ A8.out).mono ?_); rintro e w28 ⟨rfl, hb⟩; refine ⟨_, rfl, ?_⟩; replace HB := Aside0.mk (below_step dB hb); (try clear hb)))
        go_meet
        case rel => exact ⟨_, ((true != (decide (a1 ≤ 22)))), dF, H', ⟨dN⟩, ⟨dB⟩⟩
       ·rw [if_neg c27] at H
        have c27b0 : decide ((-22) ≤ a1) = false := decide_eq_false c27
        clear c27
        have H' := Aside0.mk H
        clear H
        go_wp2_with (first | ((with_reducible refine gate_callee (f := 14) rfl ?_); refine gL (some 23) Tryd.func14 #[] ?_; (with_reducible refine (plumblaw10_alive.calls k  true _ A8.out).mono ?_); rintro e w29 ⟨rfl, hb⟩; refine ⟨_, rfl, ?_⟩; replace HB := Aside0.mk (below_step dB hb); (try clear hb)))
        go_meet
        case rel => exact ⟨_, ((true != false)), dF, H', ⟨dN⟩, ⟨dB⟩⟩
      ·rw [if_neg c26] at H
       have c26b0 : decide (a0 ≤ 9007199254740992) = false := decide_eq_false c26
       clear c26
       have H' := Aside0.mk H
       clear H
       go_wp2_with (first | ((with_reducible refine gate_callee (f := 14) rfl ?_); refine gL (some 23) Tryd.func14 #[] ?_; (with_reducible refine (plumblaw10_alive.calls k  true _ A8.out).mono ?_); rintro e w30 ⟨rfl, hb⟩; refine ⟨_, rfl, ?_⟩; replace HB := Aside0.mk (below_step dB hb); (try clear hb)))
       go_meet
       case rel => exact ⟨_, ((true != false)), dF, H', ⟨dN⟩, ⟨dB⟩⟩
     ·replace c25 := Bool.eq_false_iff.mpr c25
      subst c25
      have H1 : (if t652 = 0 then (if a0 ≤ 9007199254740992 then (if a1 ≥ (-22) then (plumblaw10_LemireTrue.j0 k a0 a1 t652 false t654 t655 (false != (decide (a1 ≤ 22)))) else (plumblaw10_LemireTrue.j0 k a0 a1 t652 false t654 t655 (false != false))) else (plumblaw10_LemireTrue.j0 k a0 a1 t652 false t654 t655 (false != false))) else (plumblaw10_LemireTrue.j0 k a0 a1 t652 false t654 t655 true)) = some r := by rw [if_neg (show ¬ (false = true) by decide)] at H; exact H
      clear H
      have H := H1
      clear H1
      by_cases c31 : t652 = 0
      ·rw [if_pos c31] at H
       have c31b0 : (t652 == 0) = true := beq_iff_eq.mpr c31
       have c31b1 : (t652 != 0) = false := bne_eq_false_iff_eq.mpr c31
       clear c31
       by_cases c32 : a0 ≤ 9007199254740992
       ·rw [if_pos c32] at H
        have c32b0 : decide (a0 ≤ 9007199254740992) = true := decide_eq_true c32
        clear c32
        by_cases c33 : a1 ≥ (-22)
        ·rw [if_pos c33] at H
         have c33b0 : decide ((-22) ≤ a1) = true := decide_eq_true c33
         clear c33
         have H' := Aside0.mk H
         clear H
         go_wp2_with (first | ((with_reducible refine gate_callee (f := 14) rfl ?_); refine gL (some 23) Tryd.func14 #[] ?_; (with_reducible refine (plumblaw10_alive.calls k  true _ A8.out).mono ?_); rintro e w34 ⟨rfl, hb⟩; refine ⟨_, rfl, ?_⟩; replace HB := Aside0.mk (below_step dB hb); (try clear hb)))
         go_meet
         case rel => exact ⟨_, ((false != (decide (a1 ≤ 22)))), dF, H', ⟨dN⟩, ⟨dB⟩⟩
        ·rw [if_neg c33] at H
         have c33b0 : decide ((-22) ≤ a1) = false := decide_eq_false c33
         clear c33
         have H' := Aside0.mk H
         clear H
         go_wp2_with (first | ((with_reducible refine gate_callee (f := 14) rfl ?_); refine gL (some 23) Tryd.func14 #[] ?_; (with_reducible refine (plumblaw10_alive.calls k  true _ A8.out).mono ?_); rintro e w35 ⟨rfl, hb⟩; refine ⟨_, rfl, ?_⟩; replace HB := Aside0.mk (below_step dB hb); (try clear hb)))
         go_meet
         case rel => exact ⟨_, ((false != false)), dF, H', ⟨dN⟩, ⟨dB⟩⟩
       ·rw [if_neg c32] at H
        have c32b0 : decide (a0 ≤ 9007199254740992) = false := decide_eq_false c32
        clear c32
        have H' := Aside0.mk H
        clear H
        go_wp2_with (first | ((with_reducible refine gate_callee (f := 14) rfl ?_); refine gL (some 23) Tryd.func14 #[] ?_; (with_reducible refine (plumblaw10_alive.calls k  true _ A8.out).mono ?_); rintro e w36 ⟨rfl, hb⟩; refine ⟨_, rfl, ?_⟩; replace HB := Aside0.mk (below_step dB hb); (try clear hb)))
        go_meet
        case rel => exact ⟨_, ((false != false)), dF, H', ⟨dN⟩, ⟨dB⟩⟩
      ·rw [if_neg c31] at H
       have c31b0 : (t652 == 0) = false := beq_eq_false_iff_ne.mpr c31
       have c31b1 : (t652 != 0) = true := bne_iff_ne.mpr c31
       have H' := Aside0.mk H
       clear H
       go_wp2_with (first | ((with_reducible refine gate_callee (f := 14) rfl ?_); refine gL (some 23) Tryd.func14 #[] ?_; (with_reducible refine (plumblaw10_alive.calls k  true _ A8.out).mono ?_); rintro e w37 ⟨rfl, hb⟩; refine ⟨_, rfl, ?_⟩; replace HB := Aside0.mk (below_step dB hb); (try clear hb)))
       go_meet
       case rel => exact ⟨_, (true), dF, H', ⟨dN⟩, ⟨dB⟩⟩
    ·rw [if_neg c24] at H
     have c24b0 : (t654 == 0) = false := beq_eq_false_iff_ne.mpr c24
     have c24b1 : (t654 != 0) = true := bne_iff_ne.mpr c24
     have H' := Aside0.mk H
     clear H
     go_wp2_with (first | ((with_reducible refine gate_callee (f := 14) rfl ?_); refine gL (some 23) Tryd.func14 #[] ?_; (with_reducible refine (plumblaw10_alive.calls k  true _ A8.out).mono ?_); rintro e w38 ⟨rfl, hb⟩; refine ⟨_, rfl, ?_⟩; replace HB := Aside0.mk (below_step dB hb); (try clear hb)))
     go_meet
     case rel => exact ⟨_, (true), dF, H', ⟨dN⟩, ⟨dB⟩⟩
  ·replace c9 := Bool.eq_false_iff.mpr c9
   subst c9
   have H1 : (plumblaw10_LemireTrue.j0 k a0 a1 t652 t653 t654 t655 true) = some r := by rw [if_neg (show ¬ (false = true) by decide)] at H; exact H
   clear H
   have H := H1
   clear H1
   have H' := Aside0.mk H
   clear H
   go_wp2_with (first | ((with_reducible refine gate_callee (f := 14) rfl ?_); refine gL (some 23) Tryd.func14 #[] ?_; (with_reducible refine (plumblaw10_alive.calls k  false _ A8.out).mono ?_); rintro e w39 ⟨rfl, hb⟩; refine ⟨_, rfl, ?_⟩; replace HB := Aside0.mk (below_step dB hb); (try clear hb)))
   go_meet
   case rel => exact ⟨_, (true), dF, H', ⟨dN⟩, ⟨dB⟩⟩
 case rest =>
  clear HC5
  obtain ⟨kq, x54_4, rfl, HA, HJ4, HB⟩ := hcut
  cases kq with
  | zero => exact absurd HA.out (by simp [plumblaw10_LemireTrue.j0])
  | succ kj4 =>
   have H := HA.out
   clear HA
   simp only [plumblaw10_LemireTrue.j0] at H
   by_cases c40 : x54_4 = true
   ·subst c40
    have H1 : (some false) = some r := by rw [if_pos rfl] at H; exact H
    clear H
    have H := H1
    clear H1
    obtain rfl := Option.some.inj H
    go_wp2
    go_ret
    exact ⟨dE, dB⟩
   ·replace c40 := Bool.eq_false_iff.mpr c40
    subst c40
    have H1 : (if a1 < (-1000) then (plumblaw10_LemireTrue.j1 kj4 a0 a1 t652 t653 t654 t655 true) else (plumblaw10_LemireTrue.j1 kj4 a0 a1 t652 t653 t654 t655 (decide (a1 > 1000)))) = some r := by rw [if_neg (show ¬ (false = true) by decide)] at H; exact H
    clear H
    have H := H1
    clear H1
    have HC41 := Aside0.mk H
    clear H
    go_upto_region 5 with (fail)
    go_cut [60] (fun v60 wc => ∃ (kq : Nat) (x60_40 : Bool), v60 = .bool x60_40 ∧ Aside0 (plumblaw10_LemireTrue.j1 kq a0 a1 t652 t653 t654 t655 x60_40 = some r) ∧ Aside0 (kq ≤ kj4) ∧ Aside0 (Below w.heap.size w wc))
    case first =>
     have H := HC41.out
     clear HC41
     by_cases c42 : a1 < (-1000)
     ·rw [if_pos c42] at H
      have c42b0 : decide (a1 < (-1000)) = true := decide_eq_true c42
      clear c42
      (first | rw [c42b0] | (simp only [i64_w, i32_w]; rw [c42b0]) | skip)
      have H' := Aside0.mk H
      clear H
      go_wp2
      go_meet
      case rel => exact ⟨_, (true), dF, H', ⟨by have := HJ4.out; first | omega | exact Nat.le_refl _⟩, ⟨dB⟩⟩
     ·rw [if_neg c42] at H
      have c42b0 : decide (a1 < (-1000)) = false := decide_eq_false c42
      clear c42
      (first | rw [c42b0] | (simp only [i64_w, i32_w]; rw [c42b0]) | skip)
      have H' := Aside0.mk H
      clear H
      go_wp2
      go_meet
      case rel => exact ⟨_, (decide (a1 > 1000)), dF, H', ⟨by have := HJ4.out; first | omega | exact Nat.le_refl _⟩, ⟨dB⟩⟩
    case rest =>
     clear HC41
     try clear c40
     obtain ⟨kq, x60_40, rfl, HA, HJ40, HB⟩ := hcut
     cases kq with
     | zero => exact absurd HA.out (by simp [plumblaw10_LemireTrue.j1])
     | succ kj40 =>
      have H := HA.out
      clear HA
      simp only [plumblaw10_LemireTrue.j1] at H
      by_cases c43 : x60_40 = true
      ·subst c43
       have H1 : (if a0 = 0 then (if t655 = 0 then (if t654 = 0 then (some true) else (if a0 > 0 then (if a1 < 0 then (if a1 > 0 then (some (t655 == 70)) else (some false)) else (if a1 > 0 then (some (t655 == 70)) else (some false))) else (some false))) else (if a0 > 0 then (if a1 < 0 then (if a1 > 0 then (some (t655 == 70)) else (some false)) else (if a1 > 0 then (some (t655 == 70)) else (some false))) else (some false))) else (if a0 > 0 then (if a1 < 0 then (if t655 = 0 then (if t654 = 0 then (some true) else (if a1 > 0 then (some (t655 == 70)) else (some false))) else (if a1 > 0 then (some (t655 == 70)) else (some false))) else (if a1 > 0 then (some (t655 == 70)) else (some false))) else (some false))) = some r := by rw [if_pos rfl] at H; exact H
       clear H
       have H := H1
       clear H1
       by_cases c44 : a0 = 0
       ·rw [if_pos c44] at H
        have c44b0 : (a0 == 0) = true := beq_iff_eq.mpr c44
        have c44b1 : (a0 != 0) = false := bne_eq_false_iff_eq.mpr c44
        clear c44
        by_cases c45 : t655 = 0
        ·rw [if_pos c45] at H
         have c45b0 : (t655 == 0) = true := beq_iff_eq.mpr c45
         have c45b1 : (t655 != 0) = false := bne_eq_false_iff_eq.mpr c45
         clear c45
         by_cases c46 : t654 = 0
         ·rw [if_pos c46] at H
          have c46b0 : (t654 == 0) = true := beq_iff_eq.mpr c46
          have c46b1 : (t654 != 0) = false := bne_eq_false_iff_eq.mpr c46
          clear c46
          obtain rfl := Option.some.inj H
          go_wp2
          go_ret
          exact ⟨dE, dB⟩
         ·rw [if_neg c46] at H
          have c46b0 : (t654 == 0) = false := beq_eq_false_iff_ne.mpr c46
          have c46b1 : (t654 != 0) = true := bne_iff_ne.mpr c46
          by_cases c47 : a0 > 0
          ·rw [if_pos c47] at H
           have c47b0 : decide (0 < a0) = true := decide_eq_true c47
           clear c47
           by_cases c48 : a1 < 0
           ·rw [if_pos c48] at H
            have c48b0 : decide (a1 < 0) = true := decide_eq_true c48
            clear c48
            by_cases c49 : a1 > 0
            ·rw [if_pos c49] at H
             have c49b0 : decide (0 < a1) = true := decide_eq_true c49
             clear c49
             obtain rfl := Option.some.inj H
             go_wp2
             go_ret
             exact ⟨dE, dB⟩
            ·rw [if_neg c49] at H
             have c49b0 : decide (0 < a1) = false := decide_eq_false c49
             clear c49
             obtain rfl := Option.some.inj H
             go_wp2
             go_ret
             exact ⟨dE, dB⟩
           ·rw [if_neg c48] at H
            have c48b0 : decide (a1 < 0) = false := decide_eq_false c48
            clear c48
            by_cases c50 : a1 > 0
            ·rw [if_pos c50] at H
             have c50b0 : decide (0 < a1) = true := decide_eq_true c50
             clear c50
             obtain rfl := Option.some.inj H
             go_wp2
             go_ret
             exact ⟨dE, dB⟩
            ·rw [if_neg c50] at H
             have c50b0 : decide (0 < a1) = false := decide_eq_false c50
             clear c50
             obtain rfl := Option.some.inj H
             go_wp2
             go_ret
             exact ⟨dE, dB⟩
          ·rw [if_neg c47] at H
           have c47b0 : decide (0 < a0) = false := decide_eq_false c47
           clear c47
           obtain rfl := Option.some.inj H
           go_wp2
           go_ret
           exact ⟨dE, dB⟩
        ·rw [if_neg c45] at H
         have c45b0 : (t655 == 0) = false := beq_eq_false_iff_ne.mpr c45
         have c45b1 : (t655 != 0) = true := bne_iff_ne.mpr c45
         by_cases c51 : a0 > 0
         ·rw [if_pos c51] at H
          have c51b0 : decide (0 < a0) = true := decide_eq_true c51
          clear c51
          by_cases c52 : a1 < 0
          ·rw [if_pos c52] at H
           have c52b0 : decide (a1 < 0) = true := decide_eq_true c52
           clear c52
           by_cases c53 : a1 > 0
           ·rw [if_pos c53] at H
            have c53b0 : decide (0 < a1) = true := decide_eq_true c53
            clear c53
            obtain rfl := Option.some.inj H
            go_wp2
            go_ret
            exact ⟨dE, dB⟩
           ·rw [if_neg c53] at H
            have c53b0 : decide (0 < a1) = false := decide_eq_false c53
            clear c53
            obtain rfl := Option.some.inj H
            go_wp2
            go_ret
            exact ⟨dE, dB⟩
          ·rw [if_neg c52] at H
           have c52b0 : decide (a1 < 0) = false := decide_eq_false c52
           clear c52
           by_cases c54 : a1 > 0
           ·rw [if_pos c54] at H
            have c54b0 : decide (0 < a1) = true := decide_eq_true c54
            clear c54
            obtain rfl := Option.some.inj H
            go_wp2
            go_ret
            exact ⟨dE, dB⟩
           ·rw [if_neg c54] at H
            have c54b0 : decide (0 < a1) = false := decide_eq_false c54
            clear c54
            obtain rfl := Option.some.inj H
            go_wp2
            go_ret
            exact ⟨dE, dB⟩
         ·rw [if_neg c51] at H
          have c51b0 : decide (0 < a0) = false := decide_eq_false c51
          clear c51
          obtain rfl := Option.some.inj H
          go_wp2
          go_ret
          exact ⟨dE, dB⟩
       ·rw [if_neg c44] at H
        have c44b0 : (a0 == 0) = false := beq_eq_false_iff_ne.mpr c44
        have c44b1 : (a0 != 0) = true := bne_iff_ne.mpr c44
        by_cases c55 : a0 > 0
        ·rw [if_pos c55] at H
         have c55b0 : decide (0 < a0) = true := decide_eq_true c55
         clear c55
         by_cases c56 : a1 < 0
         ·rw [if_pos c56] at H
          have c56b0 : decide (a1 < 0) = true := decide_eq_true c56
          clear c56
          by_cases c57 : t655 = 0
          ·rw [if_pos c57] at H
           have c57b0 : (t655 == 0) = true := beq_iff_eq.mpr c57
           have c57b1 : (t655 != 0) = false := bne_eq_false_iff_eq.mpr c57
           clear c57
           by_cases c58 : t654 = 0
           ·rw [if_pos c58] at H
            have c58b0 : (t654 == 0) = true := beq_iff_eq.mpr c58
            have c58b1 : (t654 != 0) = false := bne_eq_false_iff_eq.mpr c58
            clear c58
            obtain rfl := Option.some.inj H
            go_wp2
            go_ret
            exact ⟨dE, dB⟩
           ·rw [if_neg c58] at H
            have c58b0 : (t654 == 0) = false := beq_eq_false_iff_ne.mpr c58
            have c58b1 : (t654 != 0) = true := bne_iff_ne.mpr c58
            by_cases c59 : a1 > 0
            ·rw [if_pos c59] at H
             have c59b0 : decide (0 < a1) = true := decide_eq_true c59
             clear c59
             obtain rfl := Option.some.inj H
             go_wp2
             go_ret
             exact ⟨dE, dB⟩
            ·rw [if_neg c59] at H
             have c59b0 : decide (0 < a1) = false := decide_eq_false c59
             clear c59
             obtain rfl := Option.some.inj H
             go_wp2
             go_ret
             exact ⟨dE, dB⟩
          ·rw [if_neg c57] at H
           have c57b0 : (t655 == 0) = false := beq_eq_false_iff_ne.mpr c57
           have c57b1 : (t655 != 0) = true := bne_iff_ne.mpr c57
           by_cases c60 : a1 > 0
           ·rw [if_pos c60] at H
            have c60b0 : decide (0 < a1) = true := decide_eq_true c60
            clear c60
            obtain rfl := Option.some.inj H
            go_wp2
            go_ret
            exact ⟨dE, dB⟩
           ·rw [if_neg c60] at H
            have c60b0 : decide (0 < a1) = false := decide_eq_false c60
            clear c60
            obtain rfl := Option.some.inj H
            go_wp2
            go_ret
            exact ⟨dE, dB⟩
         ·rw [if_neg c56] at H
          have c56b0 : decide (a1 < 0) = false := decide_eq_false c56
          clear c56
          by_cases c61 : a1 > 0
          ·rw [if_pos c61] at H
           have c61b0 : decide (0 < a1) = true := decide_eq_true c61
           clear c61
           obtain rfl := Option.some.inj H
           go_wp2
           go_ret
           exact ⟨dE, dB⟩
          ·rw [if_neg c61] at H
           have c61b0 : decide (0 < a1) = false := decide_eq_false c61
           clear c61
           obtain rfl := Option.some.inj H
           go_wp2
           go_ret
           exact ⟨dE, dB⟩
        ·rw [if_neg c55] at H
         have c55b0 : decide (0 < a0) = false := decide_eq_false c55
         clear c55
         obtain rfl := Option.some.inj H
         go_wp2
         go_ret
         exact ⟨dE, dB⟩
      ·replace c43 := Bool.eq_false_iff.mpr c43
       subst c43
       have H1 : ((plumblaw10_exact.f kj40 a0 a1).bind fun bt657 => (if t653 = true then (if bt657.2 = 0 then (plumblaw10_LemireTrue.j2 kj40 a0 a1 t654 t655 bt657.1 bt657.2 (t652 != bt657.1)) else (plumblaw10_LemireTrue.j2 kj40 a0 a1 t654 t655 bt657.1 bt657.2 true)) else (plumblaw10_LemireTrue.j2 kj40 a0 a1 t654 t655 bt657.1 bt657.2 false))) = some r := by rw [if_neg (show ¬ (false = true) by decide)] at H; exact H
       clear H
       have H := H1
       clear H1
       replace H := obe H
       obtain ⟨⟨t657, t658⟩, A620, H⟩ := H
       (try dsimp only at H)
       have A62 := Aside0.mk A620
       clear A620
       have HC63 := Aside0.mk H
       clear H
       go_upto_region 8 with (first | ((with_reducible refine gate_callee (f := 22) rfl ?_); refine gL (some 98) Tryd.func22 #[.int .u64 a0, .int .i64 a1] ?_; (with_reducible refine (plumblaw10_exact.calls kj40 a0 a1 t657 t658 _ A62.out).mono ?_); rintro e w64 ⟨rfl, hb⟩; refine ⟨_, rfl, ?_⟩; replace HB := Aside0.mk (below_step dB hb); (try clear hb)))
       (try simp only [Act.put, List.setIfInBounds_toArray, List.set_cons_zero, List.set_cons_succ])
       go_cut [110] (fun v110 wc => ∃ (kq : Nat) (x110_62 : Bool), v110 = .bool x110_62 ∧ Aside0 (plumblaw10_LemireTrue.j2 kq a0 a1 t654 t655 t657 t658 x110_62 = some r) ∧ Aside0 (kq ≤ kj40) ∧ Aside0 (Below w.heap.size w wc))
       case first =>
        have H := HC63.out
        clear HC63
        by_cases c65 : t653 = true
        ·subst c65
         have H1 : (if t658 = 0 then (plumblaw10_LemireTrue.j2 kj40 a0 a1 t654 t655 t657 t658 (t652 != t657)) else (plumblaw10_LemireTrue.j2 kj40 a0 a1 t654 t655 t657 t658 true)) = some r := by rw [if_pos rfl] at H; exact H
         clear H
         have H := H1
         clear H1
         by_cases c66 : t658 = 0
         ·rw [if_pos c66] at H
          have c66b0 : (t658 == 0) = true := beq_iff_eq.mpr c66
          have c66b1 : (t658 != 0) = false := bne_eq_false_iff_eq.mpr c66
          clear c66
          (first | rw [c66b0] | (simp only [i64_w, i32_w]; rw [c66b0]) | skip)
          have H' := Aside0.mk H
          clear H
          go_wp2
          go_meet
          case rel => exact ⟨_, ((t652 != t657)), dF, H', ⟨by have := HJ4.out; have := HJ40.out; first | omega | exact Nat.le_refl _⟩, ⟨dB⟩⟩
         ·rw [if_neg c66] at H
          have c66b0 : (t658 == 0) = false := beq_eq_false_iff_ne.mpr c66
          have c66b1 : (t658 != 0) = true := bne_iff_ne.mpr c66
          (first | rw [c66b0] | (simp only [i64_w, i32_w]; rw [c66b0]) | skip)
          have H' := Aside0.mk H
          clear H
          go_wp2
          go_meet
          case rel => exact ⟨_, (true), dF, H', ⟨by have := HJ4.out; have := HJ40.out; first | omega | exact Nat.le_refl _⟩, ⟨dB⟩⟩
        ·replace c65 := Bool.eq_false_iff.mpr c65
         subst c65
         have H1 : (plumblaw10_LemireTrue.j2 kj40 a0 a1 t654 t655 t657 t658 false) = some r := by rw [if_neg (show ¬ (false = true) by decide)] at H; exact H
         clear H
         have H := H1
         clear H1
         have H' := Aside0.mk H
         clear H
         go_wp2
         go_meet
         case rel => exact ⟨_, (false), dF, H', ⟨by have := HJ4.out; have := HJ40.out; first | omega | exact Nat.le_refl _⟩, ⟨dB⟩⟩
       case rest =>
        clear HC63
        try clear c40
        try clear c43
        obtain ⟨kq, x110_62, rfl, HA, HJ62, HB⟩ := hcut
        cases kq with
        | zero => exact absurd HA.out (by simp [plumblaw10_LemireTrue.j2])
        | succ kj62 =>
         have H := HA.out
         clear HA
         simp only [plumblaw10_LemireTrue.j2] at H
         by_cases c67 : x110_62 = true
         ·subst c67
          have H1 : (some false) = some r := by rw [if_pos rfl] at H; exact H
          clear H
          have H := H1
          clear H1
          obtain rfl := Option.some.inj H
          go_wp2
          go_ret
          exact ⟨dE, dB⟩
         ·replace c67 := Bool.eq_false_iff.mpr c67
          subst c67
          have H1 : (if t655 = 100 then (if a0 > 0 then (if a1 ≥ (-348) then (if a1 ≤ 347 then (if a1 < 0 then (some true) else (some (decide (a1 > 55)))) else (some false)) else (some false)) else (some false)) else (if t655 = t658 then (some (t654 == t657)) else (some false))) = some r := by rw [if_neg (show ¬ (false = true) by decide)] at H; exact H
          clear H
          have H := H1
          clear H1
          by_cases c68 : t655 = 100
          ·rw [if_pos c68] at H
           have c68b0 : (t655 == 100) = true := beq_iff_eq.mpr c68
           have c68b1 : (t655 != 100) = false := bne_eq_false_iff_eq.mpr c68
           clear c68
           by_cases c69 : a0 > 0
           ·rw [if_pos c69] at H
            have c69b0 : decide (0 < a0) = true := decide_eq_true c69
            clear c69
            by_cases c70 : a1 ≥ (-348)
            ·rw [if_pos c70] at H
             have c70b0 : decide ((-348) ≤ a1) = true := decide_eq_true c70
             clear c70
             by_cases c71 : a1 ≤ 347
             ·rw [if_pos c71] at H
              have c71b0 : decide (a1 ≤ 347) = true := decide_eq_true c71
              clear c71
              by_cases c72 : a1 < 0
              ·rw [if_pos c72] at H
               have c72b0 : decide (a1 < 0) = true := decide_eq_true c72
               clear c72
               obtain rfl := Option.some.inj H
               go_wp2
               go_ret
               exact ⟨dE, dB⟩
              ·rw [if_neg c72] at H
               have c72b0 : decide (a1 < 0) = false := decide_eq_false c72
               clear c72
               obtain rfl := Option.some.inj H
               go_wp2
               go_ret
               exact ⟨dE, dB⟩
             ·rw [if_neg c71] at H
              have c71b0 : decide (a1 ≤ 347) = false := decide_eq_false c71
              clear c71
              obtain rfl := Option.some.inj H
              go_wp2
              go_ret
              exact ⟨dE, dB⟩
            ·rw [if_neg c70] at H
             have c70b0 : decide ((-348) ≤ a1) = false := decide_eq_false c70
             clear c70
             obtain rfl := Option.some.inj H
             go_wp2
             go_ret
             exact ⟨dE, dB⟩
           ·rw [if_neg c69] at H
            have c69b0 : decide (0 < a0) = false := decide_eq_false c69
            clear c69
            obtain rfl := Option.some.inj H
            go_wp2
            go_ret
            exact ⟨dE, dB⟩
          ·rw [if_neg c68] at H
           have c68b0 : (t655 == 100) = false := beq_eq_false_iff_ne.mpr c68
           have c68b1 : (t655 != 100) = true := bne_iff_ne.mpr c68
           by_cases c73 : t655 = t658
           ·rw [if_pos c73] at H
            have c73b0 : (t655 == t658) = true := beq_iff_eq.mpr c73
            have c73b1 : (t655 != t658) = false := bne_eq_false_iff_eq.mpr c73
            clear c73
            obtain rfl := Option.some.inj H
            go_wp2
            go_ret
            exact ⟨dE, dB⟩
           ·rw [if_neg c73] at H
            have c73b0 : (t655 == t658) = false := beq_eq_false_iff_ne.mpr c73
            have c73b1 : (t655 != t658) = true := bne_iff_ne.mpr c73
            obtain rfl := Option.some.inj H
            go_wp2
            go_ret
            exact ⟨dE, dB⟩

/-- THE ONE PURE STATEMENT of plumblaw10_LemireTrue: yours. -/
def plumblaw10_LemireTrue.Pure : Prop := ∀ (a0 : Int) (a1 : Int), (Lit.int .u64 a0).wf = true → (Lit.int .i64 a1).wf = true → ∃ k, plumblaw10_LemireTrue.f k a0 a1 = some true
theorem plumblaw10_LemireTrue.walk (P : plumblaw10_LemireTrue.Pure) (a0 : Int) (a1 : Int) (w : World) (w0 : (Lit.int .u64 a0).wf = true) (w1 : (Lit.int .i64 a1).wf = true) (hG : TensLaid w) (hS : StaysLaid w) :
  Calls Tryd.prog 8 #[.int .u64 a0, .int .i64 a1] w fun e w' => e = .returned (.bool true) ∧ Below w.heap.size w w' := by
 obtain ⟨k, h⟩ := P a0 a1 w0 w1
 refine (plumblaw10_LemireTrue.calls k a0 a1 true w h).mono ?_
 rintro e w' ⟨rfl, hd⟩
 exact ⟨rfl, hd⟩

end Go.Proofs.YtoannkopciehcaaDoor.PA

namespace Go.Proofs.YtoannkopciehcaaDoor.PA
open Go.RowKit Go.Proofs.YtoannkopciehcaaDoorW.PrintWords Go.Proofs.YtoannkopciehcaaDoorW.PrintLast Go.Proofs.YtoannkopciehcaaDoorW.PrintMore
attribute [local go_sem] max2_int min2_int max_two min_two max_three min_three max_four min_four   -- for this text's walks alone
set_option linter.unusedVariables false
set_option linter.unusedSimpArgs false

/-! ### plumbref10_Cut: function 16 -/
end Go.Proofs.YtoannkopciehcaaDoor.PA

namespace Go.Proofs.YtoannkopciehcaaDoor.PA
open Go.RowKit Go.Proofs.YtoannkopciehcaaDoorW.PrintWords Go.Proofs.YtoannkopciehcaaDoorW.PrintLast Go.Proofs.YtoannkopciehcaaDoorW.PrintMore
attribute [local go_sem] max2_int min2_int max_two min_two max_three min_three max_four min_four   -- for this text's walks alone
set_option linter.unusedVariables false
set_option linter.unusedSimpArgs false

/-! ### plumblaw10_LemireTens: function 5 -/
end Go.Proofs.YtoannkopciehcaaDoor.PA

namespace Go.Proofs.YtoannkopciehcaaDoor.PA
open Go.RowKit Go.Proofs.YtoannkopciehcaaDoorW.PrintWords Go.Proofs.YtoannkopciehcaaDoorW.PrintLast Go.Proofs.YtoannkopciehcaaDoorW.PrintMore
attribute [local go_sem] max2_int min2_int max_two min_two max_three min_three max_four min_four   -- for this text's walks alone
set_option linter.unusedVariables false
set_option linter.unusedSimpArgs false

end Go.Proofs.YtoannkopciehcaaDoor.PA

namespace Go.Proofs.YtoannkopciehcaaDoor.PA
open Go.RowKit Go.Proofs.YtoannkopciehcaaDoorW.PrintWords Go.Proofs.YtoannkopciehcaaDoorW.PrintLast Go.Proofs.YtoannkopciehcaaDoorW.PrintMore
set_option linter.unusedVariables false
set_option linter.unusedSimpArgs false
/-- the last word of a list without zeros at its end -/
theorem strip_last {xs : List Int} (h : 0 < (strip xs).length) : xs.getD ((strip xs).length - 1) 0 ≠ 0 := by
  induction xs with
  | nil => simp [strip] at h
  | cons x xs ih =>
    rw [strip_cons] at h ⊢
    by_cases hs : strip xs = []
    · rw [if_pos hs] at h ⊢
      by_cases hx : x = 0
      · rw [if_pos hx] at h; simp at h
      · rw [if_neg hx]; simpa using hx
    · rw [if_neg hs]
      have h1 : 0 < (strip xs).length := by
        rcases Nat.eq_zero_or_pos (strip xs).length with h0 | h0
        · exact absurd (List.eq_nil_of_length_eq_zero h0) hs
        · exact h0
      have h2 := ih h1
      rw [List.length_cons, show (strip xs).length + 1 - 1 = ((strip xs).length - 1) + 1 from by omega, List.getD_cons_succ]
      exact h2
theorem nv_split {xs : List Int} {n : Nat} (h : n ≤ xs.length) : nv xs = nv (xs.take n) + 2 ^ (64 * n) * nv (xs.drop n) := by
  conv => lhs; rw [← List.take_append_drop n xs, nv_append]
  rw [List.length_take, Nat.min_eq_left h]
/-- a normal list's number by its last word -/
theorem nv_top {xs : List Int} (h : Ws xs) {n : Nat} (hn : (strip xs).length = n + 1) : nv xs / 2 ^ (64 * n) = xs.getD n 0 := by
  have hl := strip_length_le xs
  have e : nv xs = nv (xs.take n) + 2 ^ (64 * n) * xs.getD n 0 := by
    rw [← nv_strip xs, strip_take xs, hn, List.take_succ_eq_append_getElem (by omega), nv_append, List.length_take, Nat.min_eq_left (by omega), List.getD_eq_getElem?_getD, List.getElem?_eq_getElem (by omega)]
    simp [nv]
  have h1 := nv_nonneg (h.take n)
  have h2 := nv_lt (h.take n)
  rw [List.length_take, Nat.min_eq_left (by omega)] at h2
  rw [e, Int.add_mul_ediv_left _ _ (by omega), Int.ediv_eq_zero_of_lt h1 h2, Int.zero_add]
theorem nat_Bits.f_eq (xs : List Int) (h : Ws xs) (hl : xs.length ≤ 35184372088832) (k : Nat) (hk : xs.length < k) (hk7 : 7 ≤ k) : nat_Bits.f k xs = some (bitsN (nv xs)) := by
  rw [nat_Bits.f, nat_size.f_eq xs (by omega) k hk]
  simp only [Option.bind_some]
  have hsl := strip_length_le xs
  rcases Nat.eq_zero_or_pos (strip xs).length with h0 | h0
  · rw [if_pos (by omega)]
    have : nv xs = 0 := by rw [← nv_strip, List.eq_nil_of_length_eq_zero h0]; rfl
    rw [this]; rfl
  · obtain ⟨n, hn⟩ : ∃ n, (strip xs).length = n + 1 := ⟨(strip xs).length - 1, by omega⟩
    rw [hn, if_neg (by omega)]
    have ew : wrap64 (((n + 1 : Nat) : Int) - 1) = (n : Int) := by unfold wrap64; omega
    rw [ew, if_pos (by omega), if_pos (by omega)]
    clear ew
    have er : rd xs (n : Int) = xs.getD n 0 := rfl
    have ho := h.getD n
    have hne := strip_last h0
    rw [hn, Nat.add_sub_cancel] at hne
    rw [er, wide_Len.f_eq ho.1 ho.2 k hk7]
    simp only [Option.bind_some]
    have ht := nv_top h hn
    have hge : (2 : Int) ^ (64 * n) ≤ nv xs := by
      have h1 := Int.mul_ediv_add_emod (nv xs) (2 ^ (64 * n))
      have h2 := Int.emod_nonneg (nv xs) (show (2 : Int) ^ (64 * n) ≠ 0 by have := two_pow_pos (64 * n); omega)
      have h3 := Int.mul_le_mul_of_nonneg_left (show 1 ≤ nv xs / 2 ^ (64 * n) by omega) (Int.le_of_lt (two_pow_pos (64 * n)))
      omega
    rw [bitsN_div (64 * n) hge, ht]
    have hb := bitsN_le_of_lt (n := 64) ho.1 ho.2
    have hb0 := bitsN_nonneg (xs.getD n 0)
    clear ho hne ht hge
    generalize bitsN (xs.getD n 0) = z at *
    congr 1
    unfold wrap64
    omega
theorem nat_bound.f_eq (xs : List Int) (hl : xs.length ≤ 35184372088832) (k : Nat) (hk : xs.length < k) : nat_bound.f k xs = some (if (strip xs).length ≤ 4096 then (strip xs, 0) else ([], 21)) := by
  rw [nat_bound.f, nat_size.f_eq xs (by omega) k hk]
  simp only [Option.bind_some]
  have hsl := strip_length_le xs
  by_cases h : (strip xs).length ≤ 4096
  · rw [if_pos (by omega), if_pos (by omega), if_pos (by omega), if_pos h, Int.toNat_natCast, ← strip_take]
  · rw [if_neg (by omega), if_neg h]
theorem strip_len_le {xs : List Int} (h : Ws xs) (n : Nat) : (strip xs).length ≤ n ↔ nv xs < 2 ^ (64 * n) := by
  constructor
  · intro hn
    have h1 := nv_lt h.strip
    rw [nv_strip] at h1
    have := pow_mono (show 64 * (strip xs).length ≤ 64 * n from by omega)
    omega
  · intro hn
    apply Classical.byContradiction
    intro hc
    obtain ⟨m, hm⟩ : ∃ m, (strip xs).length = m + 1 := ⟨(strip xs).length - 1, by omega⟩
    have h1 := strip_last (xs := xs) (by omega)
    rw [hm, Nat.add_sub_cancel] at h1
    have ht := nv_top h hm
    have ho := h.getD m
    have h2 := Int.mul_ediv_add_emod (nv xs) (2 ^ (64 * m))
    have h3 := Int.emod_nonneg (nv xs) (show (2 : Int) ^ (64 * m) ≠ 0 by have := two_pow_pos (64 * m); omega)
    have h4 := Int.mul_le_mul_of_nonneg_left (show 1 ≤ nv xs / 2 ^ (64 * m) by omega) (Int.le_of_lt (two_pow_pos (64 * m)))
    have h5 := pow_mono (show 64 * n ≤ 64 * m from by omega)
    omega
/-- the answer that has at most 4096 words -/
def bnd (n : Int) : List Int × Int := if n < 2 ^ 262144 then (wd n.toNat, 0) else ([], 21)
theorem nat_bound.f_bnd {xs : List Int} (h : Ws xs) (hl : xs.length ≤ 35184372088832) (k : Nat) (hk : xs.length < k) : nat_bound.f k xs = some (bnd (nv xs)) := by
  rw [nat_bound.f_eq xs hl k hk]
  congr 1
  unfold bnd
  have := strip_len_le h 4096
  by_cases h1 : (strip xs).length ≤ 4096
  · rw [if_pos h1, if_pos (this.1 h1), wd_nv h]
  · rw [if_neg h1, if_neg (fun h2 => h1 (this.2 h2))]
end Go.Proofs.YtoannkopciehcaaDoor.PA
