/- A part of the proof (8). -/
import Derived.Test.YtoefabmlkbhmpaaDoorYKBVKB2
import Derived.Test.YtoefabmlkbhmpaaDoorYKBVKB7
namespace Go.Proofs.YtoefabmlkbhmpaaDoor.PA
open Go.RowKit Go.Proofs.YtoefabmlkbhmpaaDoorW.PrintWords Go.Proofs.YtoefabmlkbhmpaaDoorW.PrintLast Go.Proofs.YtoefabmlkbhmpaaDoorW.PrintMore
attribute [local go_sem] max2_int min2_int max_two min_two max_three min_three max_four min_four
set_option linter.unusedVariables false
set_option linter.unusedSimpArgs false
def plumblaw07_bounded.l0 : Nat → List Int → Int → List Int → Int → Option (List Int)
 | 0, _, _, _, _ => none
 | k + 1, x0, x1, x5, x6 => if x6 < (x0.length : Int) then (if x6 < x1 then (if 0 ≤ x6 then (if x5.length < 17592186044416 then (plumblaw07_bounded.l0 k x0 x1 (x5 ++ [rd x0 x6]) (wrap64 (x6 + 1))) else (none)) else (none)) else (some x5)) else (some x5)
def plumblaw07_bounded.f (k : Nat) (l0 : List Int) (a1 : Int) : Option (List Int) := plumblaw07_bounded.l0 k l0 a1 ([] : List Int) 0
set_option maxHeartbeats 8000000 in
set_option maxRecDepth 100000 in
theorem plumblaw07_bounded.calls (k : Nat) (A0 : Option Addr) (c0 : Nat) (l0 : List Int) (a1 : Int) (r : List Int) (w : World) (hr0 : Kd.C (Kd.int .u64) w A0 l0.length l0) (hc0 : l0.length ≤ c0) (h : plumblaw07_bounded.f k l0 a1 = some r) :
  Calls Tryd.prog 20 #[.slice A0 l0.length c0, .int .i64 a1] w fun e w' => ∃ v0_ : Value, e = .returned (v0_) ∧ Kd.R (Kd.int .u64) 26 w' w.heap.size (fun _ => True) v0_ r ∧ Below w.heap.size w w' := by
 have HR0 := Aside0.mk hr0
 have HC0 := Aside0.mk hc0
 clear hr0 hc0
 have HB := Aside0.mk (Below.refl w.heap.size w)
 have H := h
 clear h
 unfold plumblaw07_bounded.f at H
 have H' := Aside0.mk H
 clear H
 go_enter Tryd.func20, Tryd.ntmps20
 go_wp2
 go_loopg [5, 6] k (fun kq v5 v6 w' => ∃ (x5_1 : List Int) (x6_1 : Int), v6 = .int .i64 x6_1 ∧ Aside0 (plumblaw07_bounded.l0 kq l0 a1 x5_1 x6_1 = some r) ∧ Aside0 (kq ≤ k) ∧ Aside0 (Kd.R (Kd.int .u64) 26 w' w.heap.size (fun _ => True) v5 x5_1) ∧ Aside0 (Below w.heap.size w w'))
 case atStart => exact ⟨(([] : List Int)), (0), dF, H', ⟨Nat.le_refl _⟩, ⟨by first | exact Kd.R_nil _ _ _ _ _ | exact Kd.N_nil _ _ _ _ _ | exact Kd.V_nil _ _ _ _ _ | exact Kd.Q_nil _ _ _ _ _ | exact Kd.S_nil _ _ _ _ _⟩, ⟨dB⟩⟩
 case round =>
  clear H'
  obtain ⟨x5_1, x6_1, rfl, HA, HK1, HO_5, HB⟩ := hrel
  cases gk with
  | zero => exact absurd HA.out (by simp [plumblaw07_bounded.l0])
  | succ k1 =>
   have H := HA.out
   clear HA
   simp only [plumblaw07_bounded.l0] at H
   by_cases c3 : x6_1 < (l0.length : Int)
   ·rw [if_pos c3] at H
    have c3b0 : decide (x6_1 < (l0.length : Int)) = true := decide_eq_true c3
    clear c3
    by_cases c4 : x6_1 < a1
    ·rw [if_pos c4] at H
     have c4b0 : decide (x6_1 < a1) = true := decide_eq_true c4
     clear c4
     by_cases c5 : (0 : Int) ≤ x6_1
     ·rw [if_pos c5] at H
      have c5b0 : decide (0 ≤ x6_1) = true := decide_eq_true c5
      clear c5
      by_cases c6 : x5_1.length < 17592186044416
      ·rw [if_pos c6] at H
       have LMc6 := Aside0.mk c6
       clear c6
       obtain ⟨y269, hy269⟩ : ∃ y_ : List Int, y_ = (x5_1 ++ [rd l0 x6_1]) := ⟨_, rfl⟩
       replace H : (plumblaw07_bounded.l0 k1 l0 a1 y269 (wrap64 (x6_1 + 1))) = some r := by first | (rw [hy269]; with_reducible exact H) | (have H2_ := (Option.bind_some _ _).symm.trans H; rw [hy269]; with_reducible exact H2_) | (have H2_ := (Option.bind_some _ _).symm.trans H; with_reducible exact H2_) | with_reducible exact H | (rw [hy269]; exact H) | exact H
       have Ny269 := Aside0.mk hy269
       clear hy269
       have H' := Aside0.mk H
       clear H
       have p268 : 0 ≤ (x6_1 : Int) := of_decide_eq_true dS
       have q268 : x6_1 < (l0.length : Int) := of_decide_eq_true dS
       obtain ⟨ad268, e268, hx268_0⟩ := Kd.at_int HR0.out x6_1 p268 q268
       cases e268
       replace hx268_0 := (HB.out.cell (World.block_lt_of_cell? w _ hx268_0)).trans hx268_0
       replace p268 := eq_true p268
       replace q268 := eq_true q268
       go_wp2_with (first | ((with_reducible refine gate_builtin (b := .append) (xs := #[.tmp 18, .tmp 23]) rfl ?_); at_builtin; refine Kd.R_append (Kd.int .u64) (w0 := w) w.heap.size rfl (.tmp 18) (.tmp 23) 22 26 (.int .u64 0) 8 rfl Tryd.underlying22 info26 rfl (by decide) (by omega) u5 x5_1 (rd l0 x6_1) [.int .u64 (rd l0 x6_1)] (fun _ => True) (fun _ => False) rfl rfl ?aP (fun _ hk => hk.elim) ?aF ?aO ?aB ?aS ?aL ?_; (case aP => exact rfl); (case aB => exact dB); (case aF => exact (fun _ _ => trivial)); (case aO => exact (dR HO_5.out)); (case aS => exact (below_size dB)); (case aL => have := LMc6.out; omega); intro v270 w7 ho hb hg hat; rw [← Ny269.out] at ho; replace HB := Aside0.mk (hb); have HO271 := Aside0.mk (ho); clear HO_5; clear ho hb hg hat))
       go_roundg k1
       case measure => have := HK1.out; omega
       case rel => exact ⟨(y269), (wrap64 (x6_1 + 1)), dF, H', ⟨by have := HK1.out; omega⟩, ⟨dR HO271.out⟩, ⟨dB⟩⟩
      ·rw [if_neg c6] at H
       exact absurd H (by simp)
     ·rw [if_neg c5] at H
      exact absurd H (by simp)
    ·rw [if_neg c4] at H
     have c4b0 : decide (x6_1 < a1) = false := decide_eq_false c4
     clear c4
     obtain rfl := Option.some.inj H
     go_wp2
     go_ret
     exact ⟨_, dE, dR HO_5.out, dB⟩
   ·rw [if_neg c3] at H
    have c3b0 : decide (x6_1 < (l0.length : Int)) = false := decide_eq_false c3
    clear c3
    obtain rfl := Option.some.inj H
    go_wp2
    go_ret
    exact ⟨_, dE, dR HO_5.out, dB⟩
def quot_Gcd.l0 : Nat → List Int → List Int → Option (List Int)
 | 0, _, _ => none
 | k + 1, x0, x1 => if (x1.length : Int) > 0 then ((quot_DivMod.f k x0 x1).bind fun bt278 => (quot_Gcd.l0 k x1 bt278.2.1)) else (some x0)
def quot_Gcd.f (k : Nat) (l0 : List Int) (l1 : List Int) : Option (List Int) := (nat_Norm.f l0).bind fun t272 => ((nat_Norm.f l1).bind fun t275 => (quot_Gcd.l0 k t272 t275))
set_option maxHeartbeats 8000000 in
set_option maxRecDepth 100000 in
theorem quot_Gcd.calls (k : Nat) (A0 : Option Addr) (c0 : Nat) (l0 : List Int) (A1 : Option Addr) (c1 : Nat) (l1 : List Int) (r : List Int) (w : World) (hr0 : Kd.C (Kd.int .u64) w A0 l0.length l0) (hc0 : l0.length ≤ c0) (hr1 : Kd.C (Kd.int .u64) w A1 l1.length l1) (hc1 : l1.length ≤ c1) (h : quot_Gcd.f k l0 l1 = some r) :
  Calls Tryd.prog 97 #[.slice A0 l0.length c0, .slice A1 l1.length c1] w fun e w' => ∃ v0_ : Value, e = .returned (v0_) ∧ Kd.R (Kd.int .u64) 26 w' w.heap.size (fun _ => True) v0_ r ∧ Below w.heap.size w w' := by
 have HR0 := Aside0.mk hr0
 have HC0 := Aside0.mk hc0
 clear hr0 hc0
 have HR1 := Aside0.mk hr1
 have HC1 := Aside0.mk hc1
 clear hr1 hc1
 have HB := Aside0.mk (Below.refl w.heap.size w)
 have H := h
 clear h
 unfold quot_Gcd.f at H
 replace H := obe H
 obtain ⟨t272, A30, H⟩ := H
 (try dsimp only at H)
 have A3 := Aside0.mk A30
 clear A30
 replace H := obe H
 obtain ⟨t275, A40, H⟩ := H
 (try dsimp only at H)
 have A4 := Aside0.mk A40
 clear A40
 have H' := Aside0.mk H
 clear H
 go_enter Tryd.func97, Tryd.ntmps97
 go_wp2_with (first | ((with_reducible refine gate_callee (f := 51) rfl ?_); refine gL (some 9) Tryd.func51 #[.slice A0 l0.length c0] ?_; (with_reducible refine (nat_Norm.calls _ _ l0 t272 _ ?side1 HC0.out A3.out).mono ?_); (case side1 => exact dC HR0.out); rintro e w5 ⟨v273, rfl, ho0, hb⟩; refine ⟨_, rfl, ?_⟩; have HO274 := Aside0.mk (Kd.R_lower ho0 (below_size dB)); replace HB := hS HB.out hb; (try clear hb); (try clear ho0)) | ((with_reducible refine gate_callee (f := 51) rfl ?_); refine gL (some 11) Tryd.func51 #[.slice A1 l1.length c1] ?_; (with_reducible refine (nat_Norm.calls _ _ l1 t275 _ ?side1 HC1.out A4.out).mono ?_); (case side1 => exact dC (Kd.C_below HR1.out HB.out)); rintro e w6 ⟨v276, rfl, ho0, hb⟩; refine ⟨_, rfl, ?_⟩; have HO277 := Aside0.mk (Kd.R_lower (Kd.R_new' ho0 (Kd.R_lt (dR HO274.out))) (below_size dB)); replace HO274 := oE HO274.out ho0 hb; replace HB := hS HB.out hb; (try clear hb); (try clear ho0)))
 go_loopg [0, 1] k (fun kq v0 v1 w' => ∃ (x0_1 : List Int) (x1_1 : List Int), Aside0 (quot_Gcd.l0 kq x0_1 x1_1 = some r) ∧ Aside0 (kq ≤ k) ∧ Aside0 (Kd.R (Kd.int .u64) 26 w' w.heap.size (fun k_ => some k_ ≠ (v1 : Value).ownBlock) v0 x0_1) ∧ Aside0 (Kd.R (Kd.int .u64) 26 w' w.heap.size (fun k_ => some k_ ≠ (v0 : Value).ownBlock) v1 x1_1) ∧ Aside0 (Below w.heap.size w w'))
 case atStart => exact ⟨(t272), (t275), H', ⟨Nat.le_refl _⟩, ⟨by (with_reducible repeat (first | apply Kd.R_alloc | apply Kd.R_drewN | apply Kd.R_drew)); exact Kd.R_mono HO274.out (fun _ hk => hk.2)⟩, ⟨by (with_reducible repeat (first | apply Kd.R_alloc | apply Kd.R_drewN | apply Kd.R_drew)); exact Kd.R_mono HO277.out (fun _ hk => hk.2)⟩, ⟨dB⟩⟩
 case round =>
  clear H'
  try clear c1
  obtain ⟨x0_1, x1_1, HA, HK1, HO_0, HO_1, HB⟩ := hrel
  cases gk with
  | zero => exact absurd HA.out (by simp [quot_Gcd.l0])
  | succ k1 =>
   have H := HA.out
   clear HA
   simp only [quot_Gcd.l0] at H
   by_cases c7 : (x1_1.length : Int) > 0
   ·rw [if_pos c7] at H
    have c7b0 : decide (0 < (x1_1.length : Int)) = true := decide_eq_true c7
    have c7b1 : decide (0 < x1_1.length) = true := decide_eq_true (by omega)
    clear c7
    replace H := obe H
    obtain ⟨⟨t278, t279, t280⟩, A80, H⟩ := H
    (try dsimp only at H)
    have A8 := Aside0.mk A80
    clear A80
    have H' := Aside0.mk H
    clear H
    obtain ⟨Ao9, co9, rfl⟩ := Kd.R_slice HO_1.out
    obtain ⟨Ao10, co10, rfl⟩ := Kd.R_slice HO_0.out
    go_wp2_with (first | ((with_reducible refine gate_callee (f := 53) rfl ?_); refine gL (some 18) Tryd.func53 #[.slice Ao10 x0_1.length co10, .slice Ao9 x1_1.length co9] ?_; (with_reducible refine (quot_DivMod.calls k1 _ _ x0_1 _ _ x1_1 t278 t279 t280 _ ?side1 (Kd.R_reads' HO_0.out).2.1 ?side3 (Kd.R_reads' HO_1.out).2.1 A8.out).mono ?_); (case side1 => exact dC (Kd.R_reads' HO_0.out).2.2); (case side3 => exact dC (Kd.R_reads' HO_1.out).2.2); rintro e w11 ⟨v281, v283, rfl, ho0, ho1, hb⟩; refine ⟨_, rfl, ?_⟩; have HO282 := Aside0.mk (Kd.R_lower (Kd.R_new' (Kd.R_new' ho0 (Kd.R_lt (dR HO_0.out))) (Kd.R_lt (dR HO_1.out))) (below_size dB)); have HO284 := Aside0.mk (Kd.R_lower (Kd.R_new' (Kd.R_new' ho1 (Kd.R_lt (dR HO_0.out))) (Kd.R_lt (dR HO_1.out))) (below_size dB)); replace HO_0 := Aside0.mk (Kd.R_mono (Kd.R_told (Kd.R_told (Kd.R_old (dR HO_0.out) hb) (Kd.R_base ho0)) (Kd.R_base ho1)) (fun _ h_ => h_.1)); replace HO_1 := Aside0.mk (Kd.R_mono (Kd.R_told (Kd.R_told (Kd.R_old (dR HO_1.out) hb) (Kd.R_base ho0)) (Kd.R_base ho1)) (fun _ h_ => h_.1)); replace HB := hS HB.out hb; (try clear hb); (try clear ho0); (try clear ho1)))
    go_roundg k1
    case measure => have := HK1.out; omega
    case rel => exact ⟨(x1_1), (t279), H', ⟨by have := HK1.out; omega⟩, ⟨by (with_reducible repeat (first | apply Kd.R_alloc | apply Kd.R_drewN | apply Kd.R_drew)); exact Kd.R_mono HO_1.out (fun _ hk => hk.2)⟩, ⟨by (with_reducible repeat (first | apply Kd.R_alloc | apply Kd.R_drewN | apply Kd.R_drew)); exact Kd.R_mono HO284.out (fun _ hk => hk.2)⟩, ⟨dB⟩⟩
   ·rw [if_neg c7] at H
    have c7b0 : decide (0 < (x1_1.length : Int)) = false := decide_eq_false c7
    have c7b1 : decide (0 < x1_1.length) = false := decide_eq_false (by omega)
    clear c7
    obtain rfl := Option.some.inj H
    obtain ⟨Ao12, co12, rfl⟩ := Kd.R_slice HO_1.out
    go_wp2
    go_ret
    exact ⟨_, dE, by (with_reducible repeat (first | apply Kd.R_alloc | apply Kd.R_drewN | apply Kd.R_drew)); exact Kd.R_mono HO_0.out (fun _ hk => trivial), dB⟩
def quot_Lowest.f (k : Nat) (l0 : List Int) (l1 : List Int) : Option (List Int × List Int) := (quot_Gcd.f k l0 l1).bind fun t285 => (if (t285.length : Int) = 0 then (some (([] : List Int), ([] : List Int))) else ((quot_DivMod.f k l0 t285).bind fun bt288 => ((quot_DivMod.f k l1 t285).bind fun bt295 => (some (bt288.1, bt295.1)))))
set_option maxHeartbeats 8000000 in
set_option maxRecDepth 100000 in
theorem quot_Lowest.calls (k : Nat) (A0 : Option Addr) (c0 : Nat) (l0 : List Int) (A1 : Option Addr) (c1 : Nat) (l1 : List Int) (r1 : List Int) (r2 : List Int) (w : World) (hr0 : Kd.C (Kd.int .u64) w A0 l0.length l0) (hc0 : l0.length ≤ c0) (hr1 : Kd.C (Kd.int .u64) w A1 l1.length l1) (hc1 : l1.length ≤ c1) (h : quot_Lowest.f k l0 l1 = some (r1, r2)) :
  Calls Tryd.prog 101 #[.slice A0 l0.length c0, .slice A1 l1.length c1] w fun e w' => ∃ v0_ v1_ : Value, e = .returned (.tuple #[v0_, v1_]) ∧ Kd.R (Kd.int .u64) 26 w' w.heap.size (fun k_ => some k_ ≠ (v1_ : Value).ownBlock) v0_ r1 ∧ Kd.R (Kd.int .u64) 26 w' w.heap.size (fun k_ => some k_ ≠ (v0_ : Value).ownBlock) v1_ r2 ∧ Below w.heap.size w w' := by
 have HR0 := Aside0.mk hr0
 have HC0 := Aside0.mk hc0
 clear hr0 hc0
 have HR1 := Aside0.mk hr1
 have HC1 := Aside0.mk hc1
 clear hr1 hc1
 have HB := Aside0.mk (Below.refl w.heap.size w)
 have H := h
 clear h
 unfold quot_Lowest.f at H
 replace H := obe H
 obtain ⟨t285, A30, H⟩ := H
 (try dsimp only at H)
 have A3 := Aside0.mk A30
 clear A30
 by_cases c4 : (t285.length : Int) = 0
 ·rw [if_pos c4] at H
  have c4b0 : ((t285.length : Int) == 0) = true := beq_iff_eq.mpr c4
  have c4b1 : ((t285.length : Int) != 0) = false := bne_eq_false_iff_eq.mpr c4
  clear c4
  simp only [Option.some.injEq, Prod.mk.injEq] at H
  obtain ⟨rfl, rfl⟩ := H
  go_enter Tryd.func101, Tryd.ntmps101
  go_wp2_with (first | ((with_reducible refine gate_callee (f := 97) rfl ?_); refine gL (some 15) Tryd.func97 #[.slice A0 l0.length c0, .slice A1 l1.length c1] ?_; (with_reducible refine (quot_Gcd.calls k _ _ l0 _ _ l1 t285 _ ?side1 HC0.out ?side3 HC1.out A3.out).mono ?_); (case side1 => exact dC HR0.out); (case side3 => exact dC HR1.out); rintro e w5 ⟨v286, rfl, ho0, hb⟩; refine ⟨_, rfl, ?_⟩; have HO287 := Aside0.mk (Kd.R_lower ho0 (below_size dB)); replace HB := hS HB.out hb; (try clear hb); (try clear ho0); obtain ⟨Ao6, co6, rfl⟩ := Kd.R_slice HO287.out))
  go_ret2
  exact ⟨_, _, dE, by first | exact Kd.R_nil _ _ _ _ _ | exact Kd.N_nil _ _ _ _ _ | exact Kd.V_nil _ _ _ _ _ | exact Kd.Q_nil _ _ _ _ _ | exact Kd.S_nil _ _ _ _ _, by first | exact Kd.R_nil _ _ _ _ _ | exact Kd.N_nil _ _ _ _ _ | exact Kd.V_nil _ _ _ _ _ | exact Kd.Q_nil _ _ _ _ _ | exact Kd.S_nil _ _ _ _ _, dB⟩
 ·rw [if_neg c4] at H
  have c4b0 : ((t285.length : Int) == 0) = false := beq_eq_false_iff_ne.mpr c4
  have c4b1 : ((t285.length : Int) != 0) = true := bne_iff_ne.mpr c4
  have c4b2 : ¬ (t285 = []) := fun h_ => c4 (by rw [h_]; rfl)
  replace H := obe H
  obtain ⟨⟨t288, t289, t290⟩, A70, H⟩ := H
  (try dsimp only at H)
  have A7 := Aside0.mk A70
  clear A70
  replace H := obe H
  obtain ⟨⟨t295, t296, t297⟩, A80, H⟩ := H
  (try dsimp only at H)
  have A8 := Aside0.mk A80
  clear A80
  simp only [Option.some.injEq, Prod.mk.injEq] at H
  obtain ⟨rfl, rfl⟩ := H
  go_enter Tryd.func101, Tryd.ntmps101
  go_wp2_with (first | ((with_reducible refine gate_callee (f := 97) rfl ?_); refine gL (some 15) Tryd.func97 #[.slice A0 l0.length c0, .slice A1 l1.length c1] ?_; (with_reducible refine (quot_Gcd.calls k _ _ l0 _ _ l1 t285 _ ?side1 HC0.out ?side3 HC1.out A3.out).mono ?_); (case side1 => exact dC HR0.out); (case side3 => exact dC HR1.out); rintro e w9 ⟨v286, rfl, ho0, hb⟩; refine ⟨_, rfl, ?_⟩; have HO287 := Aside0.mk (Kd.R_lower ho0 (below_size dB)); replace HB := hS HB.out hb; (try clear hb); (try clear ho0); obtain ⟨Ao10, co10, rfl⟩ := Kd.R_slice HO287.out) | ((with_reducible refine gate_callee (f := 53) rfl ?_); refine gL (some 22) Tryd.func53 #[.slice A0 l0.length c0, .slice Ao10 t285.length co10] ?_; (with_reducible refine (quot_DivMod.calls k _ _ l0 _ _ t285 t288 t289 t290 _ ?side1 HC0.out ?side3 (Kd.R_reads' HO287.out).2.1 A7.out).mono ?_); (case side1 => exact dC (Kd.C_below HR0.out HB.out)); (case side3 => exact dC (Kd.R_reads' HO287.out).2.2); rintro e w11 ⟨v291, v293, rfl, ho0, ho1, hb⟩; refine ⟨_, rfl, ?_⟩; have HO292 := Aside0.mk (Kd.R_lower (Kd.R_new' ho0 (Kd.R_lt (dR HO287.out))) (below_size dB)); have HO294 := Aside0.mk (Kd.R_lower (Kd.R_new' ho1 (Kd.R_lt (dR HO287.out))) (below_size dB)); replace HO287 := Aside0.mk (Kd.R_mono (Kd.R_told (Kd.R_told (Kd.R_old (dR HO287.out) hb) (Kd.R_base ho0)) (Kd.R_base ho1)) (fun _ h_ => h_.1)); replace HB := hS HB.out hb; (try clear hb); (try clear ho0); (try clear ho1)) | ((with_reducible refine gate_callee (f := 53) rfl ?_); refine gL (some 29) Tryd.func53 #[.slice A1 l1.length c1, .slice Ao10 t285.length co10] ?_; (with_reducible refine (quot_DivMod.calls k _ _ l1 _ _ t285 t295 t296 t297 _ ?side1 HC1.out ?side3 (Kd.R_reads' HO287.out).2.1 A8.out).mono ?_); (case side1 => exact dC (Kd.C_below HR1.out HB.out)); (case side3 => exact dC (Kd.R_reads' HO287.out).2.2); rintro e w12 ⟨v298, v300, rfl, ho0, ho1, hb⟩; refine ⟨_, rfl, ?_⟩; have HO299 := Aside0.mk (Kd.R_lower (Kd.R_new' (Kd.R_new' (Kd.R_new' ho0 (Kd.R_lt (dR HO287.out))) (Kd.R_lt (dR HO292.out))) (Kd.R_lt (dR HO294.out))) (below_size dB)); have HO301 := Aside0.mk (Kd.R_lower (Kd.R_new' (Kd.R_new' (Kd.R_new' ho1 (Kd.R_lt (dR HO287.out))) (Kd.R_lt (dR HO292.out))) (Kd.R_lt (dR HO294.out))) (below_size dB)); replace HO287 := Aside0.mk (Kd.R_mono (Kd.R_told (Kd.R_told (Kd.R_old (dR HO287.out) hb) (Kd.R_base ho0)) (Kd.R_base ho1)) (fun _ h_ => h_.1)); replace HO292 := Aside0.mk (Kd.R_mono (Kd.R_told (Kd.R_told (Kd.R_old (dR HO292.out) hb) (Kd.R_base ho0)) (Kd.R_base ho1)) (fun _ h_ => h_.1)); replace HO294 := Aside0.mk (Kd.R_mono (Kd.R_told (Kd.R_told (Kd.R_old (dR HO294.out) hb) (Kd.R_base ho0)) (Kd.R_base ho1)) (fun _ h_ => h_.1)); replace HB := hS HB.out hb; (try clear hb); (try clear ho0); (try clear ho1)))
  go_ret2
  exact ⟨_, _, dE, by (with_reducible repeat (first | apply Kd.R_alloc | apply Kd.R_drewN | apply Kd.R_drew)); exact Kd.R_mono HO292.out (fun _ hk => hk.1.2), by (with_reducible repeat (first | apply Kd.R_alloc | apply Kd.R_drewN | apply Kd.R_drew)); exact Kd.R_mono HO299.out (fun _ hk => hk.1.2), dB⟩
def rat_lowest.f (k : Nat) (a0 : Bool) (l1 : List Int) (l2 : List Int) : Option (Bool × List Int × List Int) := (quot_Lowest.f k l1 l2).bind fun bt420 => (if a0 = true then (some (decide ((bt420.1.length : Int) > 0), bt420.1, bt420.2)) else (some (false, bt420.1, bt420.2)))
set_option maxHeartbeats 8000000 in
set_option maxRecDepth 100000 in
theorem rat_lowest.calls (k : Nat) (a0 : Bool) (A1 : Option Addr) (c1 : Nat) (l1 : List Int) (A2 : Option Addr) (c2 : Nat) (l2 : List Int) (r1 : Bool) (r2 : List Int) (r3 : List Int) (w : World) (hr1 : Kd.C (Kd.int .u64) w A1 l1.length l1) (hc1 : l1.length ≤ c1) (hr2 : Kd.C (Kd.int .u64) w A2 l2.length l2) (hc2 : l2.length ≤ c2) (h : rat_lowest.f k a0 l1 l2 = some (r1, r2, r3)) :
  Calls Tryd.prog 74 #[.bool a0, .slice A1 l1.length c1, .slice A2 l2.length c2] w fun e w' => ∃ v1_ v2_ : Value, e = .returned (.agg #[.bool r1, v1_, v2_]) ∧ Kd.R (Kd.int .u64) 26 w' w.heap.size (fun k_ => some k_ ≠ (v2_ : Value).ownBlock) v1_ r2 ∧ Kd.R (Kd.int .u64) 26 w' w.heap.size (fun k_ => some k_ ≠ (v1_ : Value).ownBlock) v2_ r3 ∧ Below w.heap.size w w' := by
 have hu46 := Tryd.underlying46
 have HR1 := Aside0.mk hr1
 have HC1 := Aside0.mk hc1
 clear hr1 hc1
 have HR2 := Aside0.mk hr2
 have HC2 := Aside0.mk hc2
 clear hr2 hc2
 have HB := Aside0.mk (Below.refl w.heap.size w)
 have H := h
 clear h
 unfold rat_lowest.f at H
 replace H := obe H
 obtain ⟨⟨t420, t421⟩, A40, H⟩ := H
 (try dsimp only at H)
 have A4 := Aside0.mk A40
 clear A40
 by_cases c5 : a0 = true
 ·subst c5
  rw [if_pos rfl] at H
  (try dsimp only at H)
  simp only [Option.some.injEq, Prod.mk.injEq] at H
  obtain ⟨rfl, rfl, rfl⟩ := H
  go_enter Tryd.func74, Tryd.ntmps74
  go_wp2_with (first | ((with_reducible refine gate_dst (N := 6) rfl ?_); (try (refine gate_guard (by rfl) ?_; dsimp only)); refine bE 6 #[.bool false, .slice none 0 0, .slice none 0 0] 46 ?_; intro gb419 hg w6 hbox hb; have BK419 := Aside0.mk (hbox); have GE419 : Aside0 (w.heap.size ≤ gb419) := gE hg; replace HB := hS HB.out hb; clear hb hbox hg) | ((with_reducible refine gate_callee (f := 101) rfl ?_); refine gL (some 12) Tryd.func101 #[.slice A1 l1.length c1, .slice A2 l2.length c2] ?_; (with_reducible refine (quot_Lowest.calls k _ _ l1 _ _ l2 t420 t421 _ ?side1 HC1.out ?side3 HC2.out A4.out).mono ?_); (case side1 => exact dC (Kd.C_below HR1.out HB.out)); (case side3 => exact dC (Kd.C_below HR2.out HB.out)); rintro e w7 ⟨v422, v424, rfl, ho0, ho1, hb⟩; refine ⟨_, rfl, ?_⟩; have HO423 := Aside0.mk (Kd.R_lower ho0 (below_size eB)); have HO425 := Aside0.mk (Kd.R_lower ho1 (below_size eB)); replace BK419 := bB BK419.out hb; replace HB := hS HB.out hb; (try clear hb); (try clear ho0); (try clear ho1); obtain ⟨Ao8, co8, rfl⟩ := Kd.R_slice HO423.out; obtain ⟨Ao9, co9, rfl⟩ := Kd.R_slice HO425.out; obtain ⟨hcz10_0, hcz10_1, hcz10_2⟩ := cz3 BK419.out; obtain ⟨hfz10_0, hfz10_1, hfz10_2⟩ := fz3 BK419.out))
  (try rw [show decide (0 < t420.length) = decide ((t420.length : Int) > 0) from by rw [decide_eq_decide]; omega])
  refine bodyPost_ret (results_cell_row rfl _ _ gb419 46 #[.bool (decide ((t420.length : Int) > 0)), .slice Ao8 t420.length co8, .slice Ao9 t421.length co9] (0, 0) _ rfl (dP BK419.out) Tryd.underlying46 rfl (by kernel_rfl)) rfl ?_
  exact ⟨_, _, dE, by (with_reducible repeat (first | apply Kd.R_alloc | apply Kd.R_drewN | apply Kd.R_drew)); exact Kd.R_mono (Kd.R_far (p := ⟨gb419, 2, none⟩) (Kd.R_far (p := ⟨gb419, 1, none⟩) (Kd.R_far (p := ⟨gb419, 0, none⟩) (Kd.R_types HO423.out BK419.out (by decide)) (fun _ hk => hk.2) (.bool (decide ((t420.length : Int) > 0)))) (fun _ hk => hk.2) (.slice Ao8 t420.length co8)) (fun _ hk => hk.2) (.slice Ao9 t421.length co9)) (fun _ hk => hk.1), by (with_reducible repeat (first | apply Kd.R_alloc | apply Kd.R_drewN | apply Kd.R_drew)); exact Kd.R_mono (Kd.R_far (p := ⟨gb419, 2, none⟩) (Kd.R_far (p := ⟨gb419, 1, none⟩) (Kd.R_far (p := ⟨gb419, 0, none⟩) (Kd.R_types HO425.out BK419.out (by decide)) (fun _ hk => hk.2) (.bool (decide ((t420.length : Int) > 0)))) (fun _ hk => hk.2) (.slice Ao8 t420.length co8)) (fun _ hk => hk.2) (.slice Ao9 t421.length co9)) (fun _ hk => hk.1), dG GE419.out⟩
 ·replace c5 := Bool.eq_false_iff.mpr c5
  subst c5
  rw [if_neg (show ¬ (false = true) by decide)] at H
  (try dsimp only at H)
  simp only [Option.some.injEq, Prod.mk.injEq] at H
  obtain ⟨rfl, rfl, rfl⟩ := H
  go_enter Tryd.func74, Tryd.ntmps74
  go_wp2_with (first | ((with_reducible refine gate_dst (N := 6) rfl ?_); (try (refine gate_guard (by rfl) ?_; dsimp only)); refine bE 6 #[.bool false, .slice none 0 0, .slice none 0 0] 46 ?_; intro gb419 hg w11 hbox hb; have BK419 := Aside0.mk (hbox); have GE419 : Aside0 (w.heap.size ≤ gb419) := gE hg; replace HB := hS HB.out hb; clear hb hbox hg) | ((with_reducible refine gate_callee (f := 101) rfl ?_); refine gL (some 12) Tryd.func101 #[.slice A1 l1.length c1, .slice A2 l2.length c2] ?_; (with_reducible refine (quot_Lowest.calls k _ _ l1 _ _ l2 t420 t421 _ ?side1 HC1.out ?side3 HC2.out A4.out).mono ?_); (case side1 => exact dC (Kd.C_below HR1.out HB.out)); (case side3 => exact dC (Kd.C_below HR2.out HB.out)); rintro e w12 ⟨v422, v424, rfl, ho0, ho1, hb⟩; refine ⟨_, rfl, ?_⟩; have HO423 := Aside0.mk (Kd.R_lower ho0 (below_size eB)); have HO425 := Aside0.mk (Kd.R_lower ho1 (below_size eB)); replace BK419 := bB BK419.out hb; replace HB := hS HB.out hb; (try clear hb); (try clear ho0); (try clear ho1); obtain ⟨Ao13, co13, rfl⟩ := Kd.R_slice HO425.out; obtain ⟨Ao14, co14, rfl⟩ := Kd.R_slice HO423.out; obtain ⟨hcz15_0, hcz15_1, hcz15_2⟩ := cz3 BK419.out; obtain ⟨hfz15_0, hfz15_1, hfz15_2⟩ := fz3 BK419.out))
  refine bodyPost_ret (results_cell_row rfl _ _ gb419 46 #[.bool false, .slice Ao14 t420.length co14, .slice Ao13 t421.length co13] (0, 0) _ rfl (dP BK419.out) Tryd.underlying46 rfl (by kernel_rfl)) rfl ?_
  exact ⟨_, _, dE, by (with_reducible repeat (first | apply Kd.R_alloc | apply Kd.R_drewN | apply Kd.R_drew)); exact Kd.R_mono (Kd.R_far (p := ⟨gb419, 2, none⟩) (Kd.R_far (p := ⟨gb419, 1, none⟩) (Kd.R_far (p := ⟨gb419, 0, none⟩) (Kd.R_types HO423.out BK419.out (by decide)) (fun _ hk => hk.2) (.bool false)) (fun _ hk => hk.2) (.slice Ao14 t420.length co14)) (fun _ hk => hk.2) (.slice Ao13 t421.length co13)) (fun _ hk => hk.1), by (with_reducible repeat (first | apply Kd.R_alloc | apply Kd.R_drewN | apply Kd.R_drew)); exact Kd.R_mono (Kd.R_far (p := ⟨gb419, 2, none⟩) (Kd.R_far (p := ⟨gb419, 1, none⟩) (Kd.R_far (p := ⟨gb419, 0, none⟩) (Kd.R_types HO425.out BK419.out (by decide)) (fun _ hk => hk.2) (.bool false)) (fun _ hk => hk.2) (.slice Ao14 t420.length co14)) (fun _ hk => hk.2) (.slice Ao13 t421.length co13)) (fun _ hk => hk.1), dG GE419.out⟩
def rat_New.f (k : Nat) (a0 : Bool) (l1 : List Int) (l2 : List Int) : Option (Bool × List Int × List Int × Int) := (nat_Norm.f l1).bind fun t303 => ((nat_Norm.f l2).bind fun t306 => (if (t306.length : Int) = 0 then (some (false, ([] : List Int), ([] : List Int), 50)) else (if (t303.length : Int) > 4096 then (some (false, ([] : List Int), ([] : List Int), 21)) else (if (t306.length : Int) > 4096 then (some (false, ([] : List Int), ([] : List Int), 21)) else ((rat_lowest.f k a0 t303 t306).bind fun bt309 => (some (bt309.1, bt309.2.1, bt309.2.2, 0)))))))
set_option maxHeartbeats 8000000 in
set_option maxRecDepth 100000 in
theorem rat_New.calls (k : Nat) (a0 : Bool) (A1 : Option Addr) (c1 : Nat) (l1 : List Int) (A2 : Option Addr) (c2 : Nat) (l2 : List Int) (r1 : Bool) (r2 : List Int) (r3 : List Int) (r4 : Int) (w : World) (hr1 : Kd.C (Kd.int .u64) w A1 l1.length l1) (hc1 : l1.length ≤ c1) (hr2 : Kd.C (Kd.int .u64) w A2 l2.length l2) (hc2 : l2.length ≤ c2) (h : rat_New.f k a0 l1 l2 = some (r1, r2, r3, r4)) :
  Calls Tryd.prog 59 #[.bool a0, .slice A1 l1.length c1, .slice A2 l2.length c2] w fun e w' => ∃ v1_ v2_ : Value, e = .returned (.tuple #[.agg #[.bool r1, v1_, v2_], .int .i64 r4]) ∧ Kd.R (Kd.int .u64) 26 w' w.heap.size (fun k_ => some k_ ≠ (v2_ : Value).ownBlock) v1_ r2 ∧ Kd.R (Kd.int .u64) 26 w' w.heap.size (fun k_ => some k_ ≠ (v1_ : Value).ownBlock) v2_ r3 ∧ Below w.heap.size w w' := by
 have hu46 := Tryd.underlying46
 have HR1 := Aside0.mk hr1
 have HC1 := Aside0.mk hc1
 clear hr1 hc1
 have HR2 := Aside0.mk hr2
 have HC2 := Aside0.mk hc2
 clear hr2 hc2
 have HB := Aside0.mk (Below.refl w.heap.size w)
 have H := h
 clear h
 unfold rat_New.f at H
 replace H := obe H
 obtain ⟨t303, A40, H⟩ := H
 (try dsimp only at H)
 have A4 := Aside0.mk A40
 clear A40
 replace H := obe H
 obtain ⟨t306, A50, H⟩ := H
 (try dsimp only at H)
 have A5 := Aside0.mk A50
 clear A50
 by_cases c6 : (t306.length : Int) = 0
 ·rw [if_pos c6] at H
  have c6b0 : ((t306.length : Int) == 0) = true := beq_iff_eq.mpr c6
  have c6b1 : ((t306.length : Int) != 0) = false := bne_eq_false_iff_eq.mpr c6
  clear c6
  simp only [Option.some.injEq, Prod.mk.injEq] at H
  obtain ⟨rfl, rfl, rfl, rfl⟩ := H
  go_enter Tryd.func59, Tryd.ntmps59
  go_wp2_with (first | ((with_reducible refine gate_dst (N := 6) rfl ?_); (try (refine gate_guard (by rfl) ?_; dsimp only)); refine bE 6 #[.bool false, .slice none 0 0, .slice none 0 0] 46 ?_; intro gb302 hg w7 hbox hb; have BK302 := Aside0.mk (hbox); have GE302 : Aside0 (w.heap.size ≤ gb302) := gE hg; replace HB := hS HB.out hb; clear hb hbox hg) | ((with_reducible refine gate_callee (f := 51) rfl ?_); refine gL (some 9) Tryd.func51 #[.slice A1 l1.length c1] ?_; (with_reducible refine (nat_Norm.calls _ _ l1 t303 _ ?side1 HC1.out A4.out).mono ?_); (case side1 => exact dC (Kd.C_below HR1.out HB.out)); rintro e w8 ⟨v304, rfl, ho0, hb⟩; refine ⟨_, rfl, ?_⟩; have HO305 := Aside0.mk (Kd.R_lower ho0 (below_size eB)); replace BK302 := bB BK302.out hb; replace HB := hS HB.out hb; (try clear hb); (try clear ho0)) | ((with_reducible refine gate_callee (f := 51) rfl ?_); refine gL (some 11) Tryd.func51 #[.slice A2 l2.length c2] ?_; (with_reducible refine (nat_Norm.calls _ _ l2 t306 _ ?side1 HC2.out A5.out).mono ?_); (case side1 => exact dC (Kd.C_below HR2.out HB.out)); rintro e w9 ⟨v307, rfl, ho0, hb⟩; refine ⟨_, rfl, ?_⟩; have HO308 := Aside0.mk (Kd.R_lower (Kd.R_new' ho0 (Kd.R_lt (dR HO305.out))) (below_size eB)); replace HO305 := oE HO305.out ho0 hb; replace BK302 := bB BK302.out hb; replace HB := hS HB.out hb; (try clear hb); (try clear ho0); obtain ⟨Ao10, co10, rfl⟩ := Kd.R_slice HO308.out; obtain ⟨hcz11_0, hcz11_1, hcz11_2⟩ := cz3 BK302.out; obtain ⟨hfz11_0, hfz11_1, hfz11_2⟩ := fz3 BK302.out))
  refine bodyPost_ret (results_ct rfl _ _ gb302 46 #[.bool false, .slice none 0 0, .slice none 0 0] (0, 0) _ rfl (dP BK302.out) Tryd.underlying46 rfl (by kernel_rfl)) rfl ?_
  exact ⟨_, _, dE, by first | exact Kd.R_nil _ _ _ _ _ | exact Kd.N_nil _ _ _ _ _ | exact Kd.V_nil _ _ _ _ _ | exact Kd.Q_nil _ _ _ _ _ | exact Kd.S_nil _ _ _ _ _, by first | exact Kd.R_nil _ _ _ _ _ | exact Kd.N_nil _ _ _ _ _ | exact Kd.V_nil _ _ _ _ _ | exact Kd.Q_nil _ _ _ _ _ | exact Kd.S_nil _ _ _ _ _, dG GE302.out⟩
 ·rw [if_neg c6] at H
  have c6b0 : ((t306.length : Int) == 0) = false := beq_eq_false_iff_ne.mpr c6
  have c6b1 : ((t306.length : Int) != 0) = true := bne_iff_ne.mpr c6
  have c6b2 : ¬ (t306 = []) := fun h_ => c6 (by rw [h_]; rfl)
  by_cases c12 : (t303.length : Int) > 4096
  ·rw [if_pos c12] at H
   have c12b0 : decide (4096 < (t303.length : Int)) = true := decide_eq_true c12
   have c12b1 : decide (4096 < t303.length) = true := decide_eq_true (by omega)
   clear c12
   simp only [Option.some.injEq, Prod.mk.injEq] at H
   obtain ⟨rfl, rfl, rfl, rfl⟩ := H
   go_enter Tryd.func59, Tryd.ntmps59
   go_wp2_with (first | ((with_reducible refine gate_dst (N := 6) rfl ?_); (try (refine gate_guard (by rfl) ?_; dsimp only)); refine bE 6 #[.bool false, .slice none 0 0, .slice none 0 0] 46 ?_; intro gb302 hg w13 hbox hb; have BK302 := Aside0.mk (hbox); have GE302 : Aside0 (w.heap.size ≤ gb302) := gE hg; replace HB := hS HB.out hb; clear hb hbox hg) | ((with_reducible refine gate_callee (f := 51) rfl ?_); refine gL (some 9) Tryd.func51 #[.slice A1 l1.length c1] ?_; (with_reducible refine (nat_Norm.calls _ _ l1 t303 _ ?side1 HC1.out A4.out).mono ?_); (case side1 => exact dC (Kd.C_below HR1.out HB.out)); rintro e w14 ⟨v304, rfl, ho0, hb⟩; refine ⟨_, rfl, ?_⟩; have HO305 := Aside0.mk (Kd.R_lower ho0 (below_size eB)); replace BK302 := bB BK302.out hb; replace HB := hS HB.out hb; (try clear hb); (try clear ho0)) | ((with_reducible refine gate_callee (f := 51) rfl ?_); refine gL (some 11) Tryd.func51 #[.slice A2 l2.length c2] ?_; (with_reducible refine (nat_Norm.calls _ _ l2 t306 _ ?side1 HC2.out A5.out).mono ?_); (case side1 => exact dC (Kd.C_below HR2.out HB.out)); rintro e w15 ⟨v307, rfl, ho0, hb⟩; refine ⟨_, rfl, ?_⟩; have HO308 := Aside0.mk (Kd.R_lower (Kd.R_new' ho0 (Kd.R_lt (dR HO305.out))) (below_size eB)); replace HO305 := oE HO305.out ho0 hb; replace BK302 := bB BK302.out hb; replace HB := hS HB.out hb; (try clear hb); (try clear ho0); obtain ⟨Ao16, co16, rfl⟩ := Kd.R_slice HO308.out; obtain ⟨Ao17, co17, rfl⟩ := Kd.R_slice HO305.out; obtain ⟨hcz18_0, hcz18_1, hcz18_2⟩ := cz3 BK302.out; obtain ⟨hfz18_0, hfz18_1, hfz18_2⟩ := fz3 BK302.out))
   refine bodyPost_ret (results_ct rfl _ _ gb302 46 #[.bool false, .slice none 0 0, .slice none 0 0] (0, 0) _ rfl (dP BK302.out) Tryd.underlying46 rfl (by kernel_rfl)) rfl ?_
   exact ⟨_, _, dE, by first | exact Kd.R_nil _ _ _ _ _ | exact Kd.N_nil _ _ _ _ _ | exact Kd.V_nil _ _ _ _ _ | exact Kd.Q_nil _ _ _ _ _ | exact Kd.S_nil _ _ _ _ _, by first | exact Kd.R_nil _ _ _ _ _ | exact Kd.N_nil _ _ _ _ _ | exact Kd.V_nil _ _ _ _ _ | exact Kd.Q_nil _ _ _ _ _ | exact Kd.S_nil _ _ _ _ _, dG GE302.out⟩
  ·rw [if_neg c12] at H
   have c12b0 : decide (4096 < (t303.length : Int)) = false := decide_eq_false c12
   have c12b1 : decide (4096 < t303.length) = false := decide_eq_false (by omega)
   clear c12
   by_cases c19 : (t306.length : Int) > 4096
   ·rw [if_pos c19] at H
    have c19b0 : decide (4096 < (t306.length : Int)) = true := decide_eq_true c19
    have c19b1 : decide (4096 < t306.length) = true := decide_eq_true (by omega)
    clear c19
    simp only [Option.some.injEq, Prod.mk.injEq] at H
    obtain ⟨rfl, rfl, rfl, rfl⟩ := H
    go_enter Tryd.func59, Tryd.ntmps59
    go_wp2_with (first | ((with_reducible refine gate_dst (N := 6) rfl ?_); (try (refine gate_guard (by rfl) ?_; dsimp only)); refine bE 6 #[.bool false, .slice none 0 0, .slice none 0 0] 46 ?_; intro gb302 hg w20 hbox hb; have BK302 := Aside0.mk (hbox); have GE302 : Aside0 (w.heap.size ≤ gb302) := gE hg; replace HB := hS HB.out hb; clear hb hbox hg) | ((with_reducible refine gate_callee (f := 51) rfl ?_); refine gL (some 9) Tryd.func51 #[.slice A1 l1.length c1] ?_; (with_reducible refine (nat_Norm.calls _ _ l1 t303 _ ?side1 HC1.out A4.out).mono ?_); (case side1 => exact dC (Kd.C_below HR1.out HB.out)); rintro e w21 ⟨v304, rfl, ho0, hb⟩; refine ⟨_, rfl, ?_⟩; have HO305 := Aside0.mk (Kd.R_lower ho0 (below_size eB)); replace BK302 := bB BK302.out hb; replace HB := hS HB.out hb; (try clear hb); (try clear ho0)) | ((with_reducible refine gate_callee (f := 51) rfl ?_); refine gL (some 11) Tryd.func51 #[.slice A2 l2.length c2] ?_; (with_reducible refine (nat_Norm.calls _ _ l2 t306 _ ?side1 HC2.out A5.out).mono ?_); (case side1 => exact dC (Kd.C_below HR2.out HB.out)); rintro e w22 ⟨v307, rfl, ho0, hb⟩; refine ⟨_, rfl, ?_⟩; have HO308 := Aside0.mk (Kd.R_lower (Kd.R_new' ho0 (Kd.R_lt (dR HO305.out))) (below_size eB)); replace HO305 := oE HO305.out ho0 hb; replace BK302 := bB BK302.out hb; replace HB := hS HB.out hb; (try clear hb); (try clear ho0); obtain ⟨Ao23, co23, rfl⟩ := Kd.R_slice HO308.out; obtain ⟨Ao24, co24, rfl⟩ := Kd.R_slice HO305.out; obtain ⟨hcz25_0, hcz25_1, hcz25_2⟩ := cz3 BK302.out; obtain ⟨hfz25_0, hfz25_1, hfz25_2⟩ := fz3 BK302.out))
    refine bodyPost_ret (results_ct rfl _ _ gb302 46 #[.bool false, .slice none 0 0, .slice none 0 0] (0, 0) _ rfl (dP BK302.out) Tryd.underlying46 rfl (by kernel_rfl)) rfl ?_
    exact ⟨_, _, dE, by first | exact Kd.R_nil _ _ _ _ _ | exact Kd.N_nil _ _ _ _ _ | exact Kd.V_nil _ _ _ _ _ | exact Kd.Q_nil _ _ _ _ _ | exact Kd.S_nil _ _ _ _ _, by first | exact Kd.R_nil _ _ _ _ _ | exact Kd.N_nil _ _ _ _ _ | exact Kd.V_nil _ _ _ _ _ | exact Kd.Q_nil _ _ _ _ _ | exact Kd.S_nil _ _ _ _ _, dG GE302.out⟩
   ·rw [if_neg c19] at H
    have c19b0 : decide (4096 < (t306.length : Int)) = false := decide_eq_false c19
    have c19b1 : decide (4096 < t306.length) = false := decide_eq_false (by omega)
    clear c19
    replace H := obe H
    obtain ⟨⟨t309, t310, t313⟩, A260, H⟩ := H
    (try dsimp only at H)
    have A26 := Aside0.mk A260
    clear A260
    simp only [Option.some.injEq, Prod.mk.injEq] at H
    obtain ⟨rfl, rfl, rfl, rfl⟩ := H
    go_enter Tryd.func59, Tryd.ntmps59
    go_wp2_with (first | ((with_reducible refine gate_dst (N := 6) rfl ?_); (try (refine gate_guard (by rfl) ?_; dsimp only)); refine bE 6 #[.bool false, .slice none 0 0, .slice none 0 0] 46 ?_; intro gb302 hg w27 hbox hb; have BK302 := Aside0.mk (hbox); have GE302 : Aside0 (w.heap.size ≤ gb302) := gE hg; replace HB := hS HB.out hb; clear hb hbox hg) | ((with_reducible refine gate_callee (f := 51) rfl ?_); refine gL (some 9) Tryd.func51 #[.slice A1 l1.length c1] ?_; (with_reducible refine (nat_Norm.calls _ _ l1 t303 _ ?side1 HC1.out A4.out).mono ?_); (case side1 => exact dC (Kd.C_below HR1.out HB.out)); rintro e w28 ⟨v304, rfl, ho0, hb⟩; refine ⟨_, rfl, ?_⟩; have HO305 := Aside0.mk (Kd.R_lower ho0 (below_size eB)); replace BK302 := bB BK302.out hb; replace HB := hS HB.out hb; (try clear hb); (try clear ho0)) | ((with_reducible refine gate_callee (f := 51) rfl ?_); refine gL (some 11) Tryd.func51 #[.slice A2 l2.length c2] ?_; (with_reducible refine (nat_Norm.calls _ _ l2 t306 _ ?side1 HC2.out A5.out).mono ?_); (case side1 => exact dC (Kd.C_below HR2.out HB.out)); rintro e w29 ⟨v307, rfl, ho0, hb⟩; refine ⟨_, rfl, ?_⟩; have HO308 := Aside0.mk (Kd.R_lower (Kd.R_new' ho0 (Kd.R_lt (dR HO305.out))) (below_size eB)); replace HO305 := oE HO305.out ho0 hb; replace BK302 := bB BK302.out hb; replace HB := hS HB.out hb; (try clear hb); (try clear ho0); obtain ⟨Ao30, co30, rfl⟩ := Kd.R_slice HO308.out; obtain ⟨Ao31, co31, rfl⟩ := Kd.R_slice HO305.out) | ((with_reducible refine gate_callee (f := 74) rfl ?_); refine gL (some 30) Tryd.func74 #[.bool a0, .slice Ao31 t303.length co31, .slice Ao30 t306.length co30] ?_; (with_reducible refine (rat_lowest.calls k a0 _ _ t303 _ _ t306 t309 t310 t313 _ ?side1 (Kd.R_reads' HO305.out).2.1 ?side3 (Kd.R_reads' HO308.out).2.1 A26.out).mono ?_); (case side1 => exact dC (Kd.R_reads' HO305.out).2.2); (case side3 => exact dC (Kd.R_reads' HO308.out).2.2); rintro e w32 ⟨v311, v314, rfl, ho0, ho1, hb⟩; refine ⟨_, rfl, ?_⟩; have HO312 := Aside0.mk (Kd.R_lower (Kd.R_new' (Kd.R_new' ho0 (Kd.R_lt (dR HO305.out))) (Kd.R_lt (dR HO308.out))) (below_size eB)); have HO315 := Aside0.mk (Kd.R_lower (Kd.R_new' (Kd.R_new' ho1 (Kd.R_lt (dR HO305.out))) (Kd.R_lt (dR HO308.out))) (below_size eB)); replace HO305 := Aside0.mk (Kd.R_mono (Kd.R_told (Kd.R_told (Kd.R_old (dR HO305.out) hb) (Kd.R_base ho0)) (Kd.R_base ho1)) (fun _ h_ => h_.1)); replace HO308 := Aside0.mk (Kd.R_mono (Kd.R_told (Kd.R_told (Kd.R_old (dR HO308.out) hb) (Kd.R_base ho0)) (Kd.R_base ho1)) (fun _ h_ => h_.1)); replace BK302 := bB BK302.out hb; replace HB := hS HB.out hb; (try clear hb); (try clear ho0); (try clear ho1); obtain ⟨hcz33_0, hcz33_1, hcz33_2⟩ := cz3 BK302.out; obtain ⟨hfz33_0, hfz33_1, hfz33_2⟩ := fz3 BK302.out; obtain ⟨Ao34, co34, rfl⟩ := Kd.R_slice HO312.out; obtain ⟨Ao35, co35, rfl⟩ := Kd.R_slice HO315.out))
    refine bodyPost_ret (results_ct rfl _ _ gb302 46 #[.bool t309, .slice Ao34 t310.length co34, .slice Ao35 t313.length co35] (0, 0) _ rfl (dP BK302.out) Tryd.underlying46 rfl (by kernel_rfl)) rfl ?_
    exact ⟨_, _, dE, by (with_reducible repeat (first | apply Kd.R_alloc | apply Kd.R_drewN | apply Kd.R_drew)); exact Kd.R_mono (Kd.R_far (p := ⟨gb302, 2, none⟩) (Kd.R_far (p := ⟨gb302, 1, none⟩) (Kd.R_far (p := ⟨gb302, 0, none⟩) (Kd.R_types HO312.out BK302.out (by decide)) (fun _ hk => hk.2) (.bool t309)) (fun _ hk => hk.2) (.slice Ao34 t310.length co34)) (fun _ hk => hk.2) (.slice Ao35 t313.length co35)) (fun _ hk => hk.1.1.1), by (with_reducible repeat (first | apply Kd.R_alloc | apply Kd.R_drewN | apply Kd.R_drew)); exact Kd.R_mono (Kd.R_far (p := ⟨gb302, 2, none⟩) (Kd.R_far (p := ⟨gb302, 1, none⟩) (Kd.R_far (p := ⟨gb302, 0, none⟩) (Kd.R_types HO315.out BK302.out (by decide)) (fun _ hk => hk.2) (.bool t309)) (fun _ hk => hk.2) (.slice Ao34 t310.length co34)) (fun _ hk => hk.2) (.slice Ao35 t313.length co35)) (fun _ hk => hk.1.1.1), dG GE302.out⟩
end Go.Proofs.YtoefabmlkbhmpaaDoor.PA
