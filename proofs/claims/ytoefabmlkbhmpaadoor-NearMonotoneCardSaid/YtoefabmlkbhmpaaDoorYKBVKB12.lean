/- A part of the proof (12). -/
import Derived.Test.YtoefabmlkbhmpaaDoorYKBVKB2
import Derived.Test.YtoefabmlkbhmpaaDoorYKBVKB3
import Derived.Test.YtoefabmlkbhmpaaDoorYKBVKB11
import Derived.Test.YtoefabmlkbhmpaaDoorYKBVKB8
import Derived.Test.YtoefabmlkbhmpaaDoorYKBVKB7
import Derived.Test.YtoefabmlkbhmpaaDoorYKBVKB9
namespace Go.Proofs.YtoefabmlkbhmpaaDoor.PA
open Go.RowKit Go.Proofs.YtoefabmlkbhmpaaDoorW.PrintWords Go.Proofs.YtoefabmlkbhmpaaDoorW.PrintLast Go.Proofs.YtoefabmlkbhmpaaDoorW.PrintMore
attribute [local go_sem] max2_int min2_int max_two min_two max_three min_three max_four min_four
set_option linter.unusedVariables false
set_option linter.unusedSimpArgs false
def plumblaw07_cmp.f (k : Nat) (a0_0 : Bool) (l0_1 : List Int) (l0_2 : List Int) (a1_0 : Bool) (l1_1 : List Int) (l1_2 : List Int) : Option (Int) := (rat_Cmp.f k a0_0 l0_1 l0_2 a1_0 l1_1 l1_2).bind fun bt520 => ((plumblaw07_num.f bt520.2).bind fun t522 => (if t522 = 0 then (some bt520.1) else (some 9)))
set_option maxHeartbeats 8000000 in
set_option maxRecDepth 100000 in
theorem plumblaw07_cmp.calls (k : Nat) (a0_0 : Bool) (A0_1 : Option Addr) (c0_1 : Nat) (l0_1 : List Int) (A0_2 : Option Addr) (c0_2 : Nat) (l0_2 : List Int) (a1_0 : Bool) (A1_1 : Option Addr) (c1_1 : Nat) (l1_1 : List Int) (A1_2 : Option Addr) (c1_2 : Nat) (l1_2 : List Int) (r : Int) (w : World) (hr0_1 : Kd.C (Kd.int .u64) w A0_1 l0_1.length l0_1) (hc0_1 : l0_1.length ≤ c0_1) (hr0_2 : Kd.C (Kd.int .u64) w A0_2 l0_2.length l0_2) (hc0_2 : l0_2.length ≤ c0_2) (hr1_1 : Kd.C (Kd.int .u64) w A1_1 l1_1.length l1_1) (hc1_1 : l1_1.length ≤ c1_1) (hr1_2 : Kd.C (Kd.int .u64) w A1_2 l1_2.length l1_2) (hc1_2 : l1_2.length ≤ c1_2) (h : plumblaw07_cmp.f k a0_0 l0_1 l0_2 a1_0 l1_1 l1_2 = some r) :
  Calls Tryd.prog 27 #[.agg #[.bool a0_0, .slice A0_1 l0_1.length c0_1, .slice A0_2 l0_2.length c0_2], .agg #[.bool a1_0, .slice A1_1 l1_1.length c1_1, .slice A1_2 l1_2.length c1_2]] w fun e w' => e = .returned (.int .i64 r) ∧ Below w.heap.size w w' := by
 have hu46 := Tryd.underlying46
 have HR0_1 := Aside0.mk hr0_1
 have HC0_1 := Aside0.mk hc0_1
 clear hr0_1 hc0_1
 have HR0_2 := Aside0.mk hr0_2
 have HC0_2 := Aside0.mk hc0_2
 clear hr0_2 hc0_2
 have HR1_1 := Aside0.mk hr1_1
 have HC1_1 := Aside0.mk hc1_1
 clear hr1_1 hc1_1
 have HR1_2 := Aside0.mk hr1_2
 have HC1_2 := Aside0.mk hc1_2
 clear hr1_2 hc1_2
 have HB := Aside0.mk (Below.refl w.heap.size w)
 have H := h
 clear h
 unfold plumblaw07_cmp.f at H
 replace H := obe H
 obtain ⟨⟨t520, t521⟩, A30, H⟩ := H
 (try dsimp only at H)
 have A3 := Aside0.mk A30
 clear A30
 replace H := obe H
 obtain ⟨t522, A40, H⟩ := H
 (try dsimp only at H)
 have A4 := Aside0.mk A40
 clear A40
 by_cases c5 : t522 = 0
 ·rw [if_pos c5] at H
  have c5b0 : (t522 == 0) = true := beq_iff_eq.mpr c5
  have c5b1 : (t522 != 0) = false := bne_eq_false_iff_eq.mpr c5
  clear c5
  obtain rfl := Option.some.inj H
  go_enter Tryd.func27, Tryd.ntmps27
  go_wp2_with (first | ((with_reducible refine gate_dst (N := 2) rfl ?_); refine bE 2 #[.bool a0_0, .slice A0_1 l0_1.length c0_1, .slice A0_2 l0_2.length c0_2] 46 ?_; intro gb518 hg w6 hbox hb; have BK518 := Aside0.mk (hbox); have GE518 : Aside0 (w.heap.size ≤ gb518) := gE hg; replace HB := hS HB.out hb; clear hb hbox hg) | ((with_reducible refine gate_dst (N := 3) rfl ?_); refine bE 3 #[.bool a1_0, .slice A1_1 l1_1.length c1_1, .slice A1_2 l1_2.length c1_2] 46 ?_; intro gb519 hg w7 hbox hb; have BK519 := Aside0.mk (hbox); have GE519 : Aside0 (w.heap.size ≤ gb519) := gE hg; replace HB := hS HB.out hb; have NB518_519 := nL hg BK518.out; have NB519_518 := nG hg BK518.out; replace BK518 := bB BK518.out hb; clear hb hbox hg; have hnb8 := NB518_519.out; have hnc8 := NB519_518.out; obtain ⟨hcz9_0, hcz9_1, hcz9_2⟩ := cz3 BK518.out; obtain ⟨hfz9_0, hfz9_1, hfz9_2⟩ := fz3 BK518.out; obtain ⟨hcz10_0, hcz10_1, hcz10_2⟩ := cz3 BK519.out; obtain ⟨hfz10_0, hfz10_1, hfz10_2⟩ := fz3 BK519.out) | ((with_reducible refine gate_callee (f := 63) rfl ?_); refine gL (some 10) Tryd.func63 #[.agg #[.bool a0_0, .slice A0_1 l0_1.length c0_1, .slice A0_2 l0_2.length c0_2], .agg #[.bool a1_0, .slice A1_1 l1_1.length c1_1, .slice A1_2 l1_2.length c1_2]] ?_; (with_reducible refine (rat_Cmp.calls k a0_0 _ _ l0_1 _ _ l0_2 a1_0 _ _ l1_1 _ _ l1_2 t520 t521 _ ?side1 HC0_1.out ?side3 HC0_2.out ?side5 HC1_1.out ?side7 HC1_2.out A3.out).mono ?_); (case side1 => exact dC (Kd.C_below HR0_1.out HB.out)); (case side3 => exact dC (Kd.C_below HR0_2.out HB.out)); (case side5 => exact dC (Kd.C_below HR1_1.out HB.out)); (case side7 => exact dC (Kd.C_below HR1_2.out HB.out)); rintro e w11 ⟨rfl, hb⟩; refine ⟨_, rfl, ?_⟩; replace BK518 := bB BK518.out hb; replace BK519 := bB BK519.out hb; replace HB := hS HB.out hb; (try clear hb)) | ((with_reducible refine gate_callee (f := 15) rfl ?_); refine gL (some 14) Tryd.func15 #[.int .i64 t521] ?_; (with_reducible refine (plumblaw07_num.calls t521 t522 _ A4.out).mono ?_); rintro e w' ⟨rfl, ⟨nd, rfl⟩⟩; refine ⟨_, rfl, ?_⟩))
  go_ret
  exact ⟨dE, eB⟩
 ·rw [if_neg c5] at H
  have c5b0 : (t522 == 0) = false := beq_eq_false_iff_ne.mpr c5
  have c5b1 : (t522 != 0) = true := bne_iff_ne.mpr c5
  obtain rfl := Option.some.inj H
  go_enter Tryd.func27, Tryd.ntmps27
  go_wp2_with (first | ((with_reducible refine gate_dst (N := 2) rfl ?_); refine bE 2 #[.bool a0_0, .slice A0_1 l0_1.length c0_1, .slice A0_2 l0_2.length c0_2] 46 ?_; intro gb518 hg w12 hbox hb; have BK518 := Aside0.mk (hbox); have GE518 : Aside0 (w.heap.size ≤ gb518) := gE hg; replace HB := hS HB.out hb; clear hb hbox hg) | ((with_reducible refine gate_dst (N := 3) rfl ?_); refine bE 3 #[.bool a1_0, .slice A1_1 l1_1.length c1_1, .slice A1_2 l1_2.length c1_2] 46 ?_; intro gb519 hg w13 hbox hb; have BK519 := Aside0.mk (hbox); have GE519 : Aside0 (w.heap.size ≤ gb519) := gE hg; replace HB := hS HB.out hb; have NB518_519 := nL hg BK518.out; have NB519_518 := nG hg BK518.out; replace BK518 := bB BK518.out hb; clear hb hbox hg; have hnb14 := NB518_519.out; have hnc14 := NB519_518.out; obtain ⟨hcz15_0, hcz15_1, hcz15_2⟩ := cz3 BK518.out; obtain ⟨hfz15_0, hfz15_1, hfz15_2⟩ := fz3 BK518.out; obtain ⟨hcz16_0, hcz16_1, hcz16_2⟩ := cz3 BK519.out; obtain ⟨hfz16_0, hfz16_1, hfz16_2⟩ := fz3 BK519.out) | ((with_reducible refine gate_callee (f := 63) rfl ?_); refine gL (some 10) Tryd.func63 #[.agg #[.bool a0_0, .slice A0_1 l0_1.length c0_1, .slice A0_2 l0_2.length c0_2], .agg #[.bool a1_0, .slice A1_1 l1_1.length c1_1, .slice A1_2 l1_2.length c1_2]] ?_; (with_reducible refine (rat_Cmp.calls k a0_0 _ _ l0_1 _ _ l0_2 a1_0 _ _ l1_1 _ _ l1_2 t520 t521 _ ?side1 HC0_1.out ?side3 HC0_2.out ?side5 HC1_1.out ?side7 HC1_2.out A3.out).mono ?_); (case side1 => exact dC (Kd.C_below HR0_1.out HB.out)); (case side3 => exact dC (Kd.C_below HR0_2.out HB.out)); (case side5 => exact dC (Kd.C_below HR1_1.out HB.out)); (case side7 => exact dC (Kd.C_below HR1_2.out HB.out)); rintro e w17 ⟨rfl, hb⟩; refine ⟨_, rfl, ?_⟩; replace BK518 := bB BK518.out hb; replace BK519 := bB BK519.out hb; replace HB := hS HB.out hb; (try clear hb)) | ((with_reducible refine gate_callee (f := 15) rfl ?_); refine gL (some 14) Tryd.func15 #[.int .i64 t521] ?_; (with_reducible refine (plumblaw07_num.calls t521 t522 _ A4.out).mono ?_); rintro e w' ⟨rfl, ⟨nd, rfl⟩⟩; refine ⟨_, rfl, ?_⟩))
  go_ret
  exact ⟨dE, eB⟩
def f64_fields.f (a0 : Int) : Option (Int × Int) := some (wrap64 (Go.bits .and .u64 (a0 / 4503599627370496) 2047), Go.bits .and .u64 a0 4503599627370495)
set_option maxHeartbeats 8000000 in
set_option maxRecDepth 100000 in
theorem f64_fields.calls (a0 : Int) (r1 : Int) (r2 : Int) (w : World) (h : f64_fields.f a0 = some (r1, r2)) :
  Calls Tryd.prog 67 #[.int .u64 a0] w fun e w' => e = .returned (.tuple #[.int .i64 r1, .int .u64 r2]) ∧ Drawn0 w w' := by
 have H := h
 clear h
 unfold f64_fields.f at H
 simp only [Option.some.injEq, Prod.mk.injEq] at H
 obtain ⟨rfl, rfl⟩ := H
 go_enter Tryd.func67, Tryd.ntmps67
 go_wp2
 go_ret2
 exact ⟨by first | rfl | (simp; done) | (simp [*]; done), by repeat (first | exact Drawn0.refl _ | apply Drawn0.step)⟩
def f64_Class.j0 : Nat → Int → Int → Bool → Option (Int)
 | 0, _, _, _ => none
 | k + 1, x3, x4, x10 => if x10 = true then (some 0) else (if x3 = 0 then (some 1) else (if x3 < 2047 then (some 2) else (if x4 = 0 then (some 3) else (some 4))))
def f64_Class.f (k : Nat) (a0 : Int) : Option (Int) := (f64_fields.f a0).bind fun bt461 => (if bt461.1 = 0 then (f64_Class.j0 k bt461.1 bt461.2 (bt461.2 == 0)) else (f64_Class.j0 k bt461.1 bt461.2 false))
set_option maxHeartbeats 8000000 in
set_option maxRecDepth 100000 in
theorem f64_Class.calls (k : Nat) (a0 : Int) (r : Int) (w : World) (h : f64_Class.f k a0 = some r) :
  Calls Tryd.prog 34 #[.int .u64 a0] w fun e w' => e = .returned (.int .i64 r) ∧ Drawn0 w w' := by
 have H := h
 clear h
 unfold f64_Class.f at H
 replace H := obe H
 obtain ⟨⟨t461, t462⟩, A20, H⟩ := H
 (try dsimp only at H)
 have A2 := Aside0.mk A20
 clear A20
 have HC3 := Aside0.mk H
 clear H
 go_enter Tryd.func34, Tryd.ntmps34
 go_upto_region 2 with (first | ((with_reducible refine gate_callee (f := 67) rfl ?_); refine gL (some 7) Tryd.func67 #[.int .u64 a0] ?_; (with_reducible refine (f64_fields.calls a0 t461 t462 _ A2.out).mono ?_); rintro e w' ⟨rfl, ⟨nd, rfl⟩⟩; refine ⟨_, rfl, ?_⟩))
 (try simp only [Act.put, List.setIfInBounds_toArray, List.set_cons_zero, List.set_cons_succ])
 go_cut [10] (fun v10 wc => ∃ (kq : Nat) (x10_2 : Bool), v10 = .bool x10_2 ∧ Aside0 (f64_Class.j0 kq t461 t462 x10_2 = some r) ∧ Aside0 (kq ≤ k) ∧ Drawn0 w wc)
 case first =>
  have H := HC3.out
  clear HC3
  by_cases c4 : t461 = 0
  ·rw [if_pos c4] at H
   have c4b0 : (t461 == 0) = true := beq_iff_eq.mpr c4
   have c4b1 : (t461 != 0) = false := bne_eq_false_iff_eq.mpr c4
   clear c4
   (first | rw [c4b0] | (simp only [i64_w, i32_w]; rw [c4b0]) | skip)
   have H' := Aside0.mk H
   clear H
   go_wp2
   go_meet
   case rel => exact ⟨_, ((t462 == 0)), dF, H', ⟨dN⟩, by repeat (first | exact Drawn0.refl _ | apply Drawn0.step)⟩
  ·rw [if_neg c4] at H
   have c4b0 : (t461 == 0) = false := beq_eq_false_iff_ne.mpr c4
   have c4b1 : (t461 != 0) = true := bne_iff_ne.mpr c4
   (first | rw [c4b0] | (simp only [i64_w, i32_w]; rw [c4b0]) | skip)
   have H' := Aside0.mk H
   clear H
   go_wp2
   go_meet
   case rel => exact ⟨_, (false), dF, H', ⟨dN⟩, by repeat (first | exact Drawn0.refl _ | apply Drawn0.step)⟩
 case rest =>
  clear HC3
  obtain ⟨kq, x10_2, rfl, HA, HJ2, ⟨mc2, rfl⟩⟩ := hcut
  cases kq with
  | zero => exact absurd HA.out (by simp [f64_Class.j0])
  | succ kj2 =>
   have H := HA.out
   clear HA
   simp only [f64_Class.j0] at H
   by_cases c5 : x10_2 = true
   ·subst c5
    rw [if_pos rfl] at H
    (try dsimp only at H)
    obtain rfl := Option.some.inj H
    go_wp2
    go_ret
    exact ⟨by first | rfl | (simp; done) | (simp [*]; done), by repeat (first | exact Drawn0.refl _ | apply Drawn0.step)⟩
   ·replace c5 := Bool.eq_false_iff.mpr c5
    subst c5
    rw [if_neg (show ¬ (false = true) by decide)] at H
    (try dsimp only at H)
    by_cases c6 : t461 = 0
    ·rw [if_pos c6] at H
     have c6b0 : (t461 == 0) = true := beq_iff_eq.mpr c6
     have c6b1 : (t461 != 0) = false := bne_eq_false_iff_eq.mpr c6
     clear c6
     obtain rfl := Option.some.inj H
     go_wp2
     go_ret
     exact ⟨by first | rfl | (simp; done) | (simp [*]; done), by repeat (first | exact Drawn0.refl _ | apply Drawn0.step)⟩
    ·rw [if_neg c6] at H
     have c6b0 : (t461 == 0) = false := beq_eq_false_iff_ne.mpr c6
     have c6b1 : (t461 != 0) = true := bne_iff_ne.mpr c6
     by_cases c7 : t461 < 2047
     ·rw [if_pos c7] at H
      have c7b0 : decide (t461 < 2047) = true := decide_eq_true c7
      clear c7
      obtain rfl := Option.some.inj H
      go_wp2
      go_ret
      exact ⟨by first | rfl | (simp; done) | (simp [*]; done), by repeat (first | exact Drawn0.refl _ | apply Drawn0.step)⟩
     ·rw [if_neg c7] at H
      have c7b0 : decide (t461 < 2047) = false := decide_eq_false c7
      clear c7
      by_cases c8 : t462 = 0
      ·rw [if_pos c8] at H
       have c8b0 : (t462 == 0) = true := beq_iff_eq.mpr c8
       have c8b1 : (t462 != 0) = false := bne_eq_false_iff_eq.mpr c8
       clear c8
       obtain rfl := Option.some.inj H
       go_wp2
       go_ret
       exact ⟨by first | rfl | (simp; done) | (simp [*]; done), by repeat (first | exact Drawn0.refl _ | apply Drawn0.step)⟩
      ·rw [if_neg c8] at H
       have c8b0 : (t462 == 0) = false := beq_eq_false_iff_ne.mpr c8
       have c8b1 : (t462 != 0) = true := bne_iff_ne.mpr c8
       obtain rfl := Option.some.inj H
       go_wp2
       go_ret
       exact ⟨by first | rfl | (simp; done) | (simp [*]; done), by repeat (first | exact Drawn0.refl _ | apply Drawn0.step)⟩
def near_Rat.f (k : Nat) (a0_0 : Bool) (l0_1 : List Int) (l0_2 : List Int) (a1 : Int) : Option (Int × Int) := (near_known.f a1).bind fun t729 => (if t729 = true then ((rat_Check.f k a0_0 l0_1 l0_2).bind fun t730 => (if t730 = 0 then ((near_Quotient.f k a0_0 l0_1 l0_2 a1).bind fun bt731 => (some (bt731.1, bt731.2))) else (some (0, 51)))) else (some (0, 71)))
set_option maxHeartbeats 8000000 in
set_option maxRecDepth 100000 in
theorem near_Rat.calls (k : Nat) (a0_0 : Bool) (A0_1 : Option Addr) (c0_1 : Nat) (l0_1 : List Int) (A0_2 : Option Addr) (c0_2 : Nat) (l0_2 : List Int) (a1 : Int) (r1 : Int) (r2 : Int) (w : World) (hr0_1 : Kd.C (Kd.int .u64) w A0_1 l0_1.length l0_1) (hc0_1 : l0_1.length ≤ c0_1) (hr0_2 : Kd.C (Kd.int .u64) w A0_2 l0_2.length l0_2) (hc0_2 : l0_2.length ≤ c0_2) (h : near_Rat.f k a0_0 l0_1 l0_2 a1 = some (r1, r2)) (hS : StaysLaid w := by first | exact HS.out | exact hS | exact StaysLaid.below HS.out HB.out | exact StaysLaid.below HS.out dB) :
  Calls Tryd.prog 28 #[.agg #[.bool a0_0, .slice A0_1 l0_1.length c0_1, .slice A0_2 l0_2.length c0_2], .int .i64 a1] w fun e w' => e = .returned (.tuple #[.int .u64 r1, .int .i64 r2]) ∧ Below w.heap.size w w' := by
 have HS := Aside0.mk (show StaysLaid w from hS)
 clear hS
 have hu46 := Tryd.underlying46
 have HR0_1 := Aside0.mk hr0_1
 have HC0_1 := Aside0.mk hc0_1
 clear hr0_1 hc0_1
 have HR0_2 := Aside0.mk hr0_2
 have HC0_2 := Aside0.mk hc0_2
 clear hr0_2 hc0_2
 have HB := Aside0.mk (Below.refl w.heap.size w)
 have H := h
 clear h
 unfold near_Rat.f at H
 replace H := obe H
 obtain ⟨t729, A30, H⟩ := H
 (try dsimp only at H)
 have A3 := Aside0.mk A30
 clear A30
 by_cases c4 : t729 = true
 ·subst c4
  rw [if_pos rfl] at H
  (try dsimp only at H)
  replace H := obe H
  obtain ⟨t730, A50, H⟩ := H
  (try dsimp only at H)
  have A5 := Aside0.mk A50
  clear A50
  by_cases c6 : t730 = 0
  ·rw [if_pos c6] at H
   have c6b0 : (t730 == 0) = true := beq_iff_eq.mpr c6
   have c6b1 : (t730 != 0) = false := bne_eq_false_iff_eq.mpr c6
   clear c6
   replace H := obe H
   obtain ⟨⟨t731, t732⟩, A70, H⟩ := H
   (try dsimp only at H)
   have A7 := Aside0.mk A70
   clear A70
   simp only [Option.some.injEq, Prod.mk.injEq] at H
   obtain ⟨rfl, rfl⟩ := H
   go_enter Tryd.func28, Tryd.ntmps28
   go_wp2_with (first | ((with_reducible refine gate_dst (N := 2) rfl ?_); refine bE 2 #[.bool a0_0, .slice A0_1 l0_1.length c0_1, .slice A0_2 l0_2.length c0_2] 46 ?_; intro gb728 hg w8 hbox hb; have BK728 := Aside0.mk (hbox); have GE728 : Aside0 (w.heap.size ≤ gb728) := gE hg; replace HB := hS HB.out hb; clear hb hbox hg) | ((with_reducible refine gate_callee (f := 42) rfl ?_); refine gL (some 8) Tryd.func42 #[.int .i64 a1] ?_; (with_reducible refine (near_known.calls a1 true _ A3.out).mono ?_); rintro e w' ⟨rfl, ⟨nd, rfl⟩⟩; refine ⟨_, rfl, ?_⟩; obtain ⟨hcz9_0, hcz9_1, hcz9_2⟩ := cz3 BK728.out; obtain ⟨hfz9_0, hfz9_1, hfz9_2⟩ := fz3 BK728.out) | ((with_reducible refine gate_callee (f := 64) rfl ?_); refine gL (some 12) Tryd.func64 #[.agg #[.bool a0_0, .slice A0_1 l0_1.length c0_1, .slice A0_2 l0_2.length c0_2]] ?_; (with_reducible refine (rat_Check.calls k a0_0 _ _ l0_1 _ _ l0_2 t730 _ ?side1 HC0_1.out ?side3 HC0_2.out A5.out).mono ?_); (case side1 => exact dC (Kd.C_below HR0_1.out eB)); (case side3 => exact dC (Kd.C_below HR0_2.out eB)); rintro e w10 ⟨rfl, hb⟩; refine ⟨_, rfl, ?_⟩; replace BK728 := bB BK728.out hb; replace HB := hS HB.out hb; (try clear hb); obtain ⟨hcz11_0, hcz11_1, hcz11_2⟩ := cz3 BK728.out; obtain ⟨hfz11_0, hfz11_1, hfz11_2⟩ := fz3 BK728.out) | ((with_reducible refine gate_callee (f := 17) rfl ?_); refine gL (some 21) Tryd.func17 #[.bool a0_0, .slice A0_1 l0_1.length c0_1, .slice A0_2 l0_2.length c0_2, .int .i64 a1] ?_; (with_reducible refine (near_Quotient.calls k a0_0 _ _ l0_1 _ _ l0_2 a1 t731 t732 _ ?side1 HC0_1.out ?side3 HC0_2.out A7.out).mono ?_); (case side1 => exact dC (Kd.C_below HR0_1.out HB.out)); (case side3 => exact dC (Kd.C_below HR0_2.out HB.out)); rintro e w12 ⟨rfl, hb⟩; refine ⟨_, rfl, ?_⟩; replace BK728 := bB BK728.out hb; replace HB := hS HB.out hb; (try clear hb)))
   go_ret2
   exact ⟨dE, dG GE728.out⟩
  ·rw [if_neg c6] at H
   have c6b0 : (t730 == 0) = false := beq_eq_false_iff_ne.mpr c6
   have c6b1 : (t730 != 0) = true := bne_iff_ne.mpr c6
   simp only [Option.some.injEq, Prod.mk.injEq] at H
   obtain ⟨rfl, rfl⟩ := H
   go_enter Tryd.func28, Tryd.ntmps28
   go_wp2_with (first | ((with_reducible refine gate_dst (N := 2) rfl ?_); refine bE 2 #[.bool a0_0, .slice A0_1 l0_1.length c0_1, .slice A0_2 l0_2.length c0_2] 46 ?_; intro gb728 hg w13 hbox hb; have BK728 := Aside0.mk (hbox); have GE728 : Aside0 (w.heap.size ≤ gb728) := gE hg; replace HB := hS HB.out hb; clear hb hbox hg) | ((with_reducible refine gate_callee (f := 42) rfl ?_); refine gL (some 8) Tryd.func42 #[.int .i64 a1] ?_; (with_reducible refine (near_known.calls a1 true _ A3.out).mono ?_); rintro e w' ⟨rfl, ⟨nd, rfl⟩⟩; refine ⟨_, rfl, ?_⟩; obtain ⟨hcz14_0, hcz14_1, hcz14_2⟩ := cz3 BK728.out; obtain ⟨hfz14_0, hfz14_1, hfz14_2⟩ := fz3 BK728.out) | ((with_reducible refine gate_callee (f := 64) rfl ?_); refine gL (some 12) Tryd.func64 #[.agg #[.bool a0_0, .slice A0_1 l0_1.length c0_1, .slice A0_2 l0_2.length c0_2]] ?_; (with_reducible refine (rat_Check.calls k a0_0 _ _ l0_1 _ _ l0_2 t730 _ ?side1 HC0_1.out ?side3 HC0_2.out A5.out).mono ?_); (case side1 => exact dC (Kd.C_below HR0_1.out eB)); (case side3 => exact dC (Kd.C_below HR0_2.out eB)); rintro e w15 ⟨rfl, hb⟩; refine ⟨_, rfl, ?_⟩; replace BK728 := bB BK728.out hb; replace HB := hS HB.out hb; (try clear hb)))
   go_ret2
   exact ⟨dE, dG GE728.out⟩
 ·replace c4 := Bool.eq_false_iff.mpr c4
  subst c4
  rw [if_neg (show ¬ (false = true) by decide)] at H
  (try dsimp only at H)
  simp only [Option.some.injEq, Prod.mk.injEq] at H
  obtain ⟨rfl, rfl⟩ := H
  go_enter Tryd.func28, Tryd.ntmps28
  go_wp2_with (first | ((with_reducible refine gate_dst (N := 2) rfl ?_); refine bE 2 #[.bool a0_0, .slice A0_1 l0_1.length c0_1, .slice A0_2 l0_2.length c0_2] 46 ?_; intro gb728 hg w16 hbox hb; have BK728 := Aside0.mk (hbox); have GE728 : Aside0 (w.heap.size ≤ gb728) := gE hg; replace HB := hS HB.out hb; clear hb hbox hg) | ((with_reducible refine gate_callee (f := 42) rfl ?_); refine gL (some 8) Tryd.func42 #[.int .i64 a1] ?_; (with_reducible refine (near_known.calls a1 false _ A3.out).mono ?_); rintro e w' ⟨rfl, ⟨nd, rfl⟩⟩; refine ⟨_, rfl, ?_⟩))
  go_ret2
  exact ⟨dE, dG GE728.out⟩
def f64_finite.f (k : Nat) (a0 : Int) : Option (Bool) := (f64_Class.f k a0).bind fun t733 => (if t733 = 3 then (some false) else (if t733 = 4 then (some false) else (some true)))
set_option maxHeartbeats 8000000 in
set_option maxRecDepth 100000 in
theorem f64_finite.calls (k : Nat) (a0 : Int) (r : Bool) (w : World) (h : f64_finite.f k a0 = some r) :
  Calls Tryd.prog 98 #[.int .u64 a0] w fun e w' => e = .returned (.bool r) ∧ Drawn0 w w' := by
 have H := h
 clear h
 unfold f64_finite.f at H
 replace H := obe H
 obtain ⟨t733, A20, H⟩ := H
 (try dsimp only at H)
 have A2 := Aside0.mk A20
 clear A20
 by_cases c3 : t733 = 3
 ·rw [if_pos c3] at H
  have c3b0 : (t733 == 3) = true := beq_iff_eq.mpr c3
  have c3b1 : (t733 != 3) = false := bne_eq_false_iff_eq.mpr c3
  clear c3
  obtain rfl := Option.some.inj H
  go_enter Tryd.func98, Tryd.ntmps98
  go_wp2_with (first | ((with_reducible refine gate_callee (f := 34) rfl ?_); refine gL (some 4) Tryd.func34 #[.int .u64 a0] ?_; (with_reducible refine (f64_Class.calls k a0 t733 _ A2.out).mono ?_); rintro e w' ⟨rfl, ⟨nd, rfl⟩⟩; refine ⟨_, rfl, ?_⟩))
  go_ret
  exact ⟨by first | rfl | (simp; done) | (simp [*]; done), by repeat (first | exact Drawn0.refl _ | apply Drawn0.step)⟩
 ·rw [if_neg c3] at H
  have c3b0 : (t733 == 3) = false := beq_eq_false_iff_ne.mpr c3
  have c3b1 : (t733 != 3) = true := bne_iff_ne.mpr c3
  by_cases c4 : t733 = 4
  ·rw [if_pos c4] at H
   have c4b0 : (t733 == 4) = true := beq_iff_eq.mpr c4
   have c4b1 : (t733 != 4) = false := bne_eq_false_iff_eq.mpr c4
   clear c4
   obtain rfl := Option.some.inj H
   go_enter Tryd.func98, Tryd.ntmps98
   go_wp2_with (first | ((with_reducible refine gate_callee (f := 34) rfl ?_); refine gL (some 4) Tryd.func34 #[.int .u64 a0] ?_; (with_reducible refine (f64_Class.calls k a0 t733 _ A2.out).mono ?_); rintro e w' ⟨rfl, ⟨nd, rfl⟩⟩; refine ⟨_, rfl, ?_⟩))
   go_ret
   exact ⟨by first | rfl | (simp; done) | (simp [*]; done), by repeat (first | exact Drawn0.refl _ | apply Drawn0.step)⟩
  ·rw [if_neg c4] at H
   have c4b0 : (t733 == 4) = false := beq_eq_false_iff_ne.mpr c4
   have c4b1 : (t733 != 4) = true := bne_iff_ne.mpr c4
   obtain rfl := Option.some.inj H
   go_enter Tryd.func98, Tryd.ntmps98
   go_wp2_with (first | ((with_reducible refine gate_callee (f := 34) rfl ?_); refine gL (some 4) Tryd.func34 #[.int .u64 a0] ?_; (with_reducible refine (f64_Class.calls k a0 t733 _ A2.out).mono ?_); rintro e w' ⟨rfl, ⟨nd, rfl⟩⟩; refine ⟨_, rfl, ?_⟩))
   go_ret
   exact ⟨by first | rfl | (simp; done) | (simp [*]; done), by repeat (first | exact Drawn0.refl _ | apply Drawn0.step)⟩
def f64_Rank.f (k : Nat) (a0 : Int) : Option (Int × Int) := (f64_finite.f k a0).bind fun t734 => (if t734 = true then (if (Go.bits .and .u64 a0 9223372036854775808) = 0 then (some (wrap64 (Go.bits .andNot .u64 a0 9223372036854775808), 0)) else (some (wrap64 (-(wrap64 (Go.bits .andNot .u64 a0 9223372036854775808))), 0))) else (some (0, 60)))
set_option maxHeartbeats 8000000 in
set_option maxRecDepth 100000 in
theorem f64_Rank.calls (k : Nat) (a0 : Int) (r1 : Int) (r2 : Int) (w : World) (h : f64_Rank.f k a0 = some (r1, r2)) :
  Calls Tryd.prog 65 #[.int .u64 a0] w fun e w' => e = .returned (.tuple #[.int .i64 r1, .int .i64 r2]) ∧ Drawn0 w w' := by
 have H := h
 clear h
 unfold f64_Rank.f at H
 replace H := obe H
 obtain ⟨t734, A20, H⟩ := H
 (try dsimp only at H)
 have A2 := Aside0.mk A20
 clear A20
 by_cases c3 : t734 = true
 ·subst c3
  rw [if_pos rfl] at H
  (try dsimp only at H)
  by_cases c4 : (Go.bits .and .u64 a0 9223372036854775808) = 0
  ·rw [if_pos c4] at H
   have c4b0 : ((Go.bits .and .u64 a0 9223372036854775808) == 0) = true := beq_iff_eq.mpr c4
   have c4b1 : ((Go.bits .and .u64 a0 9223372036854775808) != 0) = false := bne_eq_false_iff_eq.mpr c4
   clear c4
   simp only [Option.some.injEq, Prod.mk.injEq] at H
   obtain ⟨rfl, rfl⟩ := H
   go_enter Tryd.func65, Tryd.ntmps65
   go_wp2_with (first | ((with_reducible refine gate_callee (f := 98) rfl ?_); refine gL (some 6) Tryd.func98 #[.int .u64 a0] ?_; (with_reducible refine (f64_finite.calls k a0 true _ A2.out).mono ?_); rintro e w' ⟨rfl, ⟨nd, rfl⟩⟩; refine ⟨_, rfl, ?_⟩))
   go_ret2
   exact ⟨by first | rfl | (simp; done) | (simp [*]; done), by repeat (first | exact Drawn0.refl _ | apply Drawn0.step)⟩
  ·rw [if_neg c4] at H
   have c4b0 : ((Go.bits .and .u64 a0 9223372036854775808) == 0) = false := beq_eq_false_iff_ne.mpr c4
   have c4b1 : ((Go.bits .and .u64 a0 9223372036854775808) != 0) = true := bne_iff_ne.mpr c4
   simp only [Option.some.injEq, Prod.mk.injEq] at H
   obtain ⟨rfl, rfl⟩ := H
   go_enter Tryd.func65, Tryd.ntmps65
   go_wp2_with (first | ((with_reducible refine gate_callee (f := 98) rfl ?_); refine gL (some 6) Tryd.func98 #[.int .u64 a0] ?_; (with_reducible refine (f64_finite.calls k a0 true _ A2.out).mono ?_); rintro e w' ⟨rfl, ⟨nd, rfl⟩⟩; refine ⟨_, rfl, ?_⟩))
   go_ret2
   exact ⟨by first | rfl | (simp; done) | (simp [*]; done), by repeat (first | exact Drawn0.refl _ | apply Drawn0.step)⟩
 ·replace c3 := Bool.eq_false_iff.mpr c3
  subst c3
  rw [if_neg (show ¬ (false = true) by decide)] at H
  (try dsimp only at H)
  simp only [Option.some.injEq, Prod.mk.injEq] at H
  obtain ⟨rfl, rfl⟩ := H
  go_enter Tryd.func65, Tryd.ntmps65
  go_wp2_with (first | ((with_reducible refine gate_callee (f := 98) rfl ?_); refine gL (some 6) Tryd.func98 #[.int .u64 a0] ?_; (with_reducible refine (f64_finite.calls k a0 false _ A2.out).mono ?_); rintro e w' ⟨rfl, ⟨nd, rfl⟩⟩; refine ⟨_, rfl, ?_⟩))
  go_ret2
  exact ⟨by first | rfl | (simp; done) | (simp [*]; done), by repeat (first | exact Drawn0.refl _ | apply Drawn0.step)⟩
def f64_Cmp.j0 : Nat → Int → Int → Bool → Option (Int × Int)
 | 0, _, _, _ => none
 | k + 1, x6, x8, x20 => if x20 = true then (some (0, 60)) else (if x6 < x8 then (some ((-1), 0)) else (if x6 > x8 then (some (1, 0)) else (some (0, 0))))
def f64_Cmp.f (k : Nat) (a0 : Int) (a1 : Int) : Option (Int × Int) := (f64_Rank.f k a0).bind fun bt735 => ((f64_Rank.f k a1).bind fun bt737 => (if bt735.2 = 0 then (f64_Cmp.j0 k bt735.1 bt737.1 (bt737.2 != 0)) else (f64_Cmp.j0 k bt735.1 bt737.1 true)))
set_option maxHeartbeats 8000000 in
set_option maxRecDepth 100000 in
theorem f64_Cmp.calls (k : Nat) (a0 : Int) (a1 : Int) (r1 : Int) (r2 : Int) (w : World) (h : f64_Cmp.f k a0 a1 = some (r1, r2)) :
  Calls Tryd.prog 29 #[.int .u64 a0, .int .u64 a1] w fun e w' => e = .returned (.tuple #[.int .i64 r1, .int .i64 r2]) ∧ Drawn0 w w' := by
 have H := h
 clear h
 unfold f64_Cmp.f at H
 replace H := obe H
 obtain ⟨⟨t735, t736⟩, A30, H⟩ := H
 (try dsimp only at H)
 have A3 := Aside0.mk A30
 clear A30
 replace H := obe H
 obtain ⟨⟨t737, t738⟩, A40, H⟩ := H
 (try dsimp only at H)
 have A4 := Aside0.mk A40
 clear A40
 have HC5 := Aside0.mk H
 clear H
 go_enter Tryd.func29, Tryd.ntmps29
 go_upto_region 3 with (first | ((with_reducible refine gate_callee (f := 65) rfl ?_); refine gL (some 12) Tryd.func65 #[.int .u64 a0] ?_; (with_reducible refine (f64_Rank.calls k a0 t735 t736 _ A3.out).mono ?_); rintro e w' ⟨rfl, ⟨nd, rfl⟩⟩; refine ⟨_, rfl, ?_⟩) | ((with_reducible refine gate_callee (f := 65) rfl ?_); refine gL (some 17) Tryd.func65 #[.int .u64 a1] ?_; (with_reducible refine (f64_Rank.calls k a1 t737 t738 _ A4.out).mono ?_); rintro e w' ⟨rfl, ⟨nd, rfl⟩⟩; refine ⟨_, rfl, ?_⟩))
 (try simp only [Act.put, List.setIfInBounds_toArray, List.set_cons_zero, List.set_cons_succ])
 go_cut [20] (fun v20 wc => ∃ (kq : Nat) (x20_4 : Bool), v20 = .bool x20_4 ∧ Aside0 (f64_Cmp.j0 kq t735 t737 x20_4 = some (r1, r2)) ∧ Aside0 (kq ≤ k) ∧ Drawn0 w wc)
 case first =>
  have H := HC5.out
  clear HC5
  by_cases c6 : t736 = 0
  ·rw [if_pos c6] at H
   have c6b0 : (t736 == 0) = true := beq_iff_eq.mpr c6
   have c6b1 : (t736 != 0) = false := bne_eq_false_iff_eq.mpr c6
   clear c6
   (first | rw [c6b0] | (simp only [i64_w, i32_w]; rw [c6b0]) | skip)
   have H' := Aside0.mk H
   clear H
   go_wp2
   go_meet
   case rel => exact ⟨_, ((t738 != 0)), dF, H', ⟨dN⟩, by repeat (first | exact Drawn0.refl _ | apply Drawn0.step)⟩
  ·rw [if_neg c6] at H
   have c6b0 : (t736 == 0) = false := beq_eq_false_iff_ne.mpr c6
   have c6b1 : (t736 != 0) = true := bne_iff_ne.mpr c6
   (first | rw [c6b0] | (simp only [i64_w, i32_w]; rw [c6b0]) | skip)
   have H' := Aside0.mk H
   clear H
   go_wp2
   go_meet
   case rel => exact ⟨_, (true), dF, H', ⟨dN⟩, by repeat (first | exact Drawn0.refl _ | apply Drawn0.step)⟩
 case rest =>
  clear HC5
  obtain ⟨kq, x20_4, rfl, HA, HJ4, ⟨mc4, rfl⟩⟩ := hcut
  cases kq with
  | zero => exact absurd HA.out (by simp [f64_Cmp.j0])
  | succ kj4 =>
   have H := HA.out
   clear HA
   simp only [f64_Cmp.j0] at H
   by_cases c7 : x20_4 = true
   ·subst c7
    rw [if_pos rfl] at H
    (try dsimp only at H)
    simp only [Option.some.injEq, Prod.mk.injEq] at H
    obtain ⟨rfl, rfl⟩ := H
    go_wp2
    go_ret2
    exact ⟨by first | rfl | (simp; done) | (simp [*]; done), by repeat (first | exact Drawn0.refl _ | apply Drawn0.step)⟩
   ·replace c7 := Bool.eq_false_iff.mpr c7
    subst c7
    rw [if_neg (show ¬ (false = true) by decide)] at H
    (try dsimp only at H)
    by_cases c8 : t735 < t737
    ·rw [if_pos c8] at H
     have c8b0 : decide (t735 < t737) = true := decide_eq_true c8
     clear c8
     simp only [Option.some.injEq, Prod.mk.injEq] at H
     obtain ⟨rfl, rfl⟩ := H
     go_wp2
     go_ret2
     exact ⟨by first | rfl | (simp; done) | (simp [*]; done), by repeat (first | exact Drawn0.refl _ | apply Drawn0.step)⟩
    ·rw [if_neg c8] at H
     have c8b0 : decide (t735 < t737) = false := decide_eq_false c8
     clear c8
     by_cases c9 : t735 > t737
     ·rw [if_pos c9] at H
      have c9b0 : decide (t737 < t735) = true := decide_eq_true c9
      clear c9
      simp only [Option.some.injEq, Prod.mk.injEq] at H
      obtain ⟨rfl, rfl⟩ := H
      go_wp2
      go_ret2
      exact ⟨by first | rfl | (simp; done) | (simp [*]; done), by repeat (first | exact Drawn0.refl _ | apply Drawn0.step)⟩
     ·rw [if_neg c9] at H
      have c9b0 : decide (t737 < t735) = false := decide_eq_false c9
      clear c9
      simp only [Option.some.injEq, Prod.mk.injEq] at H
      obtain ⟨rfl, rfl⟩ := H
      go_wp2
      go_ret2
      exact ⟨by first | rfl | (simp; done) | (simp [*]; done), by repeat (first | exact Drawn0.refl _ | apply Drawn0.step)⟩
end Go.Proofs.YtoefabmlkbhmpaaDoor.PA
