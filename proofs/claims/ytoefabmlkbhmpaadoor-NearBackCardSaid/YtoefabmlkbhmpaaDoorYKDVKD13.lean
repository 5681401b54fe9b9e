/- A part of the proof (13). -/
import Derived.Test.YtoefabmlkbhmpaaDoorYKDVKD2
import Derived.Test.YtoefabmlkbhmpaaDoorYKDVKD3
import Derived.Test.YtoefabmlkbhmpaaDoorYKDVKD4
import Derived.Test.YtoefabmlkbhmpaaDoorYKDVKD10
namespace Go.Proofs.YtoefabmlkbhmpaaDoor.PA
open Go.RowKit Go.Proofs.YtoefabmlkbhmpaaDoorW.PrintWords Go.Proofs.YtoefabmlkbhmpaaDoorW.PrintLast Go.Proofs.YtoefabmlkbhmpaaDoorW.PrintMore
attribute [local go_sem] max2_int min2_int max_two min_two max_three min_three max_four min_four
set_option linter.unusedVariables false
set_option linter.unusedSimpArgs false
def near_Mid.f (k : Nat) (a0 : Int) : Option (Bool × List Int × List Int × Int) := (near_Value.f k a0).bind fun bt431 => (if bt431.2.2.2 = 0 then (none) else (some (false, ([] : List Int), ([] : List Int), bt431.2.2.2)))
set_option maxHeartbeats 8000000 in
set_option maxRecDepth 100000 in
theorem near_Mid.calls (k : Nat) (a0 : Int) (r1 : Bool) (r2 : List Int) (r3 : List Int) (r4 : Int) (w : World) (h : near_Mid.f k a0 = some (r1, r2, r3, r4)) :
  Calls Tryd.prog 35 #[.int .u64 a0] w fun e w' => ∃ v1_ v2_ : Value, e = .returned (.tuple #[.agg #[.bool r1, v1_, v2_], .int .i64 r4]) ∧ Kd.R (Kd.int .u64) 26 w' w.heap.size (fun k_ => some k_ ≠ (v2_ : Value).ownBlock) v1_ r2 ∧ Kd.R (Kd.int .u64) 26 w' w.heap.size (fun k_ => some k_ ≠ (v1_ : Value).ownBlock) v2_ r3 ∧ Below w.heap.size w w' := by
 have hu46 := Tryd.underlying46
 have HB := aM (Below.refl w.heap.size w)
 have H := h
 clear h
 unfold near_Mid.f at H
 replace H := obe H
 obtain ⟨⟨t431, t432, t435, t438⟩, A20, H⟩ := H
 (try dsimp only at H)
 have A2 := aM A20
 clear A20
 by_cases c3 : t438 = 0
 ·rw [if_pos c3] at H
  exact absurd H (by simp)
 ·rw [if_neg c3] at H
  have c3b0 : (t438 == 0) = false := beq_eq_false_iff_ne.mpr c3
  have c3b1 : (t438 != 0) = true := bne_iff_ne.mpr c3
  simp only [Option.some.injEq, Prod.mk.injEq] at H
  obtain ⟨rfl, rfl, rfl, rfl⟩ := H
  go_enter Tryd.func35, Tryd.ntmps35
  go_wp2_with (first | ((with_reducible refine gate_dst (N := 2) rfl ?_); refine bE 2 #[.bool false, .slice none 0 0, .slice none 0 0] 46 ?_; intro gb430 hg w4 hbox hb; have BK430 := aM (hbox); have GE430 : Aside0 (w.heap.size ≤ gb430) := gE hg; replace HB := hS HB.out hb; clear hb hbox hg) | ((with_reducible refine gate_callee (f := 33) rfl ?_); refine gL (some 13) Tryd.func33 #[.int .u64 a0] ?_; (with_reducible refine (near_Value.calls k a0 t431 t432 t435 t438 _ A2.out).mono ?_); rintro e w5 ⟨v433, v436, rfl, ho0, ho1, hb⟩; refine ⟨_, rfl, ?_⟩; have HO434 := aM (Kd.R_lower ho0 (below_size eB)); have HO437 := aM (Kd.R_lower ho1 (below_size eB)); replace BK430 := bB BK430.out hb; replace HB := hS HB.out hb; (try clear hb); (try clear ho0); (try clear ho1)) | ((with_reducible refine gate_dst (N := 4) rfl ?_); refine bE 4 #[.bool false, .slice none 0 0, .slice none 0 0] 46 ?_; intro gb439 hg w6 hbox hb; replace HO434 := oB HO434.out hb; replace HO437 := oB HO437.out hb; have BK439 := aM (hbox); have GE439 : Aside0 (w.heap.size ≤ gb439) := gE hg; replace HB := hS HB.out hb; have NB430_439 := nL hg BK430.out; have NB439_430 := nG hg BK430.out; replace BK430 := bB BK430.out hb; clear hb hbox hg; have hnb7 := NB439_430.out; have hnc7 := NB430_439.out; obtain ⟨hcz8_0, hcz8_1, hcz8_2⟩ := cz3 BK439.out; obtain ⟨hfz8_0, hfz8_1, hfz8_2⟩ := fz3 BK439.out; obtain ⟨Ao9, co9, rfl⟩ := Kd.R_slice HO434.out; obtain ⟨Ao10, co10, rfl⟩ := Kd.R_slice HO437.out; obtain ⟨hcz11_0, hcz11_1, hcz11_2⟩ := cz3 BK430.out; obtain ⟨hfz11_0, hfz11_1, hfz11_2⟩ := fz3 BK430.out))
  refine bodyPost_ret (results_ct rfl _ _ gb430 46 #[.bool false, .slice none 0 0, .slice none 0 0] (0, 0) _ rfl (dQ1 BK430.out NB430_439.out) Tryd.underlying46 rfl (by kernel_rfl)) rfl ?_
  exact ⟨_, _, dE, by first | exact Kd.R_nil _ _ _ _ _ | exact Kd.N_nil _ _ _ _ _ | exact Kd.V_nil _ _ _ _ _ | exact Kd.Q_nil _ _ _ _ _ | exact Kd.S_nil _ _ _ _ _, by first | exact Kd.R_nil _ _ _ _ _ | exact Kd.N_nil _ _ _ _ _ | exact Kd.V_nil _ _ _ _ _ | exact Kd.Q_nil _ _ _ _ _ | exact Kd.S_nil _ _ _ _ _, eB⟩
def near_Exact.f (k : Nat) (a0_0 : Bool) (l0_1 : List Int) (l0_2 : List Int) : Option (Int × Bool) := (near_Rat.f k a0_0 l0_1 l0_2 0).bind fun bt441 => (if bt441.2 = 0 then ((near_Value.f k bt441.1).bind fun bt443 => ((rat_Cmp.f k bt443.1 bt443.2.1 bt443.2.2.1 a0_0 l0_1 l0_2).bind fun bt452 => (if bt452.2 = 0 then (if bt452.1 = 0 then (some (bt441.1, true)) else (none)) else (none)))) else (none))
set_option maxHeartbeats 8000000 in
set_option maxRecDepth 100000 in
theorem near_Exact.calls (k : Nat) (a0_0 : Bool) (A0_1 : Option Addr) (c0_1 : Nat) (l0_1 : List Int) (A0_2 : Option Addr) (c0_2 : Nat) (l0_2 : List Int) (r1 : Int) (r2 : Bool) (w : World) (hr0_1 : Kd.C (Kd.int .u64) w A0_1 l0_1.length l0_1) (hc0_1 : l0_1.length ≤ c0_1) (hr0_2 : Kd.C (Kd.int .u64) w A0_2 l0_2.length l0_2) (hc0_2 : l0_2.length ≤ c0_2) (h : near_Exact.f k a0_0 l0_1 l0_2 = some (r1, r2)) (hS : StaysLaid w := by first | exact HS.out | exact hS | exact StaysLaid.below HS.out HB.out | exact StaysLaid.below HS.out dB) :
  Calls Tryd.prog 38 #[.agg #[.bool a0_0, .slice A0_1 l0_1.length c0_1, .slice A0_2 l0_2.length c0_2]] w fun e w' => e = .returned (.tuple #[.int .u64 r1, .bool r2]) ∧ Below w.heap.size w w' := by
 have HS := aM (show StaysLaid w from hS)
 clear hS
 have hu46 := Tryd.underlying46
 have HR0_1 := aM hr0_1
 have HC0_1 := aM hc0_1
 clear hr0_1 hc0_1
 have HR0_2 := aM hr0_2
 have HC0_2 := aM hc0_2
 clear hr0_2 hc0_2
 have HB := aM (Below.refl w.heap.size w)
 have H := h
 clear h
 unfold near_Exact.f at H
 replace H := obe H
 obtain ⟨⟨t441, t442⟩, A20, H⟩ := H
 (try dsimp only at H)
 have A2 := aM A20
 clear A20
 by_cases c3 : t442 = 0
 ·rw [if_pos c3] at H
  have c3b0 : (t442 == 0) = true := beq_iff_eq.mpr c3
  have c3b1 : (t442 != 0) = false := bne_eq_false_iff_eq.mpr c3
  clear c3
  replace H := obe H
  obtain ⟨⟨t443, t444, t447, t450⟩, A40, H⟩ := H
  (try dsimp only at H)
  have A4 := aM A40
  clear A40
  replace H := obe H
  obtain ⟨⟨t452, t453⟩, A50, H⟩ := H
  (try dsimp only at H)
  have A5 := aM A50
  clear A50
  by_cases c6 : t453 = 0
  ·rw [if_pos c6] at H
   have c6b0 : (t453 == 0) = true := beq_iff_eq.mpr c6
   have c6b1 : (t453 != 0) = false := bne_eq_false_iff_eq.mpr c6
   clear c6
   by_cases c7 : t452 = 0
   ·rw [if_pos c7] at H
    have c7b0 : (t452 == 0) = true := beq_iff_eq.mpr c7
    have c7b1 : (t452 != 0) = false := bne_eq_false_iff_eq.mpr c7
    clear c7
    simp only [Option.some.injEq, Prod.mk.injEq] at H
    obtain ⟨rfl, rfl⟩ := H
    go_enter Tryd.func38, Tryd.ntmps38
    go_wp2_with (first | ((with_reducible refine gate_dst (N := 1) rfl ?_); refine bE 1 #[.bool a0_0, .slice A0_1 l0_1.length c0_1, .slice A0_2 l0_2.length c0_2] 46 ?_; intro gb440 hg w8 hbox hb; have BK440 := aM (hbox); have GE440 : Aside0 (w.heap.size ≤ gb440) := gE hg; replace HB := hS HB.out hb; clear hb hbox hg; obtain ⟨hcz9_0, hcz9_1, hcz9_2⟩ := cz3 BK440.out; obtain ⟨hfz9_0, hfz9_1, hfz9_2⟩ := fz3 BK440.out) | ((with_reducible refine gate_callee (f := 28) rfl ?_); refine gL (some 12) Tryd.func28 #[.agg #[.bool a0_0, .slice A0_1 l0_1.length c0_1, .slice A0_2 l0_2.length c0_2], .int .i64 0] ?_; (with_reducible refine (near_Rat.calls k a0_0 _ _ l0_1 _ _ l0_2 0 t441 t442 _ ?side1 HC0_1.out ?side3 HC0_2.out A2.out).mono ?_); (case side1 => exact dC (Kd.C_below HR0_1.out HB.out)); (case side3 => exact dC (Kd.C_below HR0_2.out HB.out)); rintro e w10 ⟨rfl, hb⟩; refine ⟨_, rfl, ?_⟩; replace BK440 := bB BK440.out hb; replace HB := hS HB.out hb; (try clear hb)) | ((with_reducible refine gate_callee (f := 33) rfl ?_); refine gL (some 19) Tryd.func33 #[.int .u64 t441] ?_; (with_reducible refine (near_Value.calls k t441 t443 t444 t447 t450 _ A4.out).mono ?_); rintro e w11 ⟨v445, v448, rfl, ho0, ho1, hb⟩; refine ⟨_, rfl, ?_⟩; have HO446 := aM (Kd.R_lower ho0 (below_size eB)); have HO449 := aM (Kd.R_lower ho1 (below_size eB)); replace BK440 := bB BK440.out hb; replace HB := hS HB.out hb; (try clear hb); (try clear ho0); (try clear ho1)) | ((with_reducible refine gate_dst (N := 6) rfl ?_); refine bE 6 #[.bool false, .slice none 0 0, .slice none 0 0] 46 ?_; intro gb451 hg w12 hbox hb; replace HO446 := oB HO446.out hb; replace HO449 := oB HO449.out hb; have BK451 := aM (hbox); have GE451 : Aside0 (w.heap.size ≤ gb451) := gE hg; replace HB := hS HB.out hb; have NB440_451 := nL hg BK440.out; have NB451_440 := nG hg BK440.out; replace BK440 := bB BK440.out hb; clear hb hbox hg; have hnb13 := NB451_440.out; have hnc13 := NB440_451.out; obtain ⟨hcz14_0, hcz14_1, hcz14_2⟩ := cz3 BK451.out; obtain ⟨hfz14_0, hfz14_1, hfz14_2⟩ := fz3 BK451.out; obtain ⟨Ao15, co15, rfl⟩ := Kd.R_slice HO446.out; obtain ⟨Ao16, co16, rfl⟩ := Kd.R_slice HO449.out; obtain ⟨hcz17_0, hcz17_1, hcz17_2⟩ := cz3 BK440.out; obtain ⟨hfz17_0, hfz17_1, hfz17_2⟩ := fz3 BK440.out) | ((with_reducible refine gate_callee (f := 63) rfl ?_); refine gL (some 25) Tryd.func63 #[.agg #[.bool t443, .slice Ao15 t444.length co15, .slice Ao16 t447.length co16], .agg #[.bool a0_0, .slice A0_1 l0_1.length c0_1, .slice A0_2 l0_2.length c0_2]] ?_; (with_reducible refine (rat_Cmp.calls k t443 _ _ t444 _ _ t447 a0_0 _ _ l0_1 _ _ l0_2 t452 t453 _ ?side1 (Kd.R_reads' HO446.out).2.1 ?side3 (Kd.R_reads' HO449.out).2.1 ?side5 HC0_1.out ?side7 HC0_2.out A5.out).mono ?_); (case side1 => refine (Kd.R_reads' (e := 26) (base := w.heap.size) (ok := fun k_ => some k_ ≠ (.slice Ao16 t447.length co16 : Value).ownBlock) (n := t444.length) (c := co15) ?_).2.2; exact (by (with_reducible repeat (first | apply Kd.R_alloc | apply Kd.R_drewN | apply Kd.R_drew)); exact (rX HO446.out BK451.out))); (case side3 => refine (Kd.R_reads' (e := 26) (base := w.heap.size) (ok := fun k_ => some k_ ≠ (.slice Ao15 t444.length co15 : Value).ownBlock) (n := t447.length) (c := co16) ?_).2.2; exact (by (with_reducible repeat (first | apply Kd.R_alloc | apply Kd.R_drewN | apply Kd.R_drew)); exact (rX HO449.out BK451.out))); (case side5 => exact Kd.C_below HR0_1.out eB); (case side7 => exact Kd.C_below HR0_2.out eB); rintro e w18 ⟨rfl, hb⟩; refine ⟨_, rfl, ?_⟩; replace HO446 := oX HO446.out BK451.out hb; replace HO449 := oX HO449.out BK451.out hb; replace BK440 := aM (blk_below (g := gb440) (o := .cells #[.bool a0_0, .slice A0_1 l0_1.length c0_1, .slice A0_2 l0_2.length c0_2] 46 (0, 0)) (dQ1 BK440.out NB440_451.out) hb); replace BK451 := aM (blk_below (g := gb451) (o := .cells #[.bool t443, .slice Ao15 t444.length co15, .slice Ao16 t447.length co16] 46 (0, 0)) (dP BK451.out) hb); replace HB := hS HB.out hb; (try clear hb)))
    go_ret2
    exact ⟨dE, eB⟩
   ·rw [if_neg c7] at H
    exact absurd H (by simp)
  ·rw [if_neg c6] at H
   exact absurd H (by simp)
 ·rw [if_neg c3] at H
  exact absurd H (by simp)
end Go.Proofs.YtoefabmlkbhmpaaDoor.PA
