/- A part of the proof (14). -/
import Derived.Test.YtoefabmlkbhmpaaDoorYKDVKD2
import Derived.Test.YtoefabmlkbhmpaaDoorYKDVKD3
import Derived.Test.YtoefabmlkbhmpaaDoorYKDVKD7
import Derived.Test.YtoefabmlkbhmpaaDoorYKDVKD8
import Derived.Test.YtoefabmlkbhmpaaDoorYKDVKD9
import Derived.Test.YtoefabmlkbhmpaaDoorYKDVKD10
import Derived.Test.YtoefabmlkbhmpaaDoorYKDVKD12
import Derived.Test.YtoefabmlkbhmpaaDoorYKDVKD13
namespace Go.Proofs.YtoefabmlkbhmpaaDoor.PA
open Go.RowKit Go.Proofs.YtoefabmlkbhmpaaDoorW.PrintWords Go.Proofs.YtoefabmlkbhmpaaDoorW.PrintLast Go.Proofs.YtoefabmlkbhmpaaDoorW.PrintMore
attribute [local go_sem] max2_int min2_int max_two min_two max_three min_three max_four min_four
set_option linter.unusedVariables false
set_option linter.unusedSimpArgs false
mutual
def plumblaw07_NearBack.j0 : Nat → Int → Bool → Bool → List Int → List Int → Option (Bool)
 | 0, _, _, _, _, _ => none
 | k + 1, x0, x77, x463000, x463001, x463002 => if x77 = true then (none) else ((near_Value.f k (Go.bits .xor .u64 x0 9223372036854775808)).bind fun bt487 => ((rat_Add.f k x463000 x463001 x463002 bt487.1 bt487.2.1 bt487.2.2.1).bind fun bt496 => ((plumblaw07_num.f bt487.2.2.2).bind fun t505 => (if t505 = 0 then ((plumblaw07_num.f bt496.2.2.2).bind fun t506 => (if t506 = 0 then ((rat_Sign.f k bt496.1 bt496.2.1 bt496.2.2.1).bind fun t507 => (plumblaw07_NearBack.j1 k x0 (t507 != 0) x463000 x463001 x463002)) else (plumblaw07_NearBack.j1 k x0 true x463000 x463001 x463002))) else (plumblaw07_NearBack.j1 k x0 true x463000 x463001 x463002)))))
def plumblaw07_NearBack.j1 : Nat → Int → Bool → Bool → List Int → List Int → Option (Bool)
 | 0, _, _, _, _, _ => none
 | k + 1, x0, x102, x463000, x463001, x463002 => if x102 = true then (none) else (if x0 = 9223372036854775808 then (plumblaw07_NearBack.j2 k 0 x463000 x463001 x463002) else (plumblaw07_NearBack.j2 k x0 x463000 x463001 x463002))
def plumblaw07_NearBack.j2 : Nat → Int → Bool → List Int → List Int → Option (Bool)
 | 0, _, _, _, _ => none
 | k + 1, x13, x463000, x463001, x463002 => plumblaw07_NearBack.l0 k x13 0 x463000 x463001 x463002
def plumblaw07_NearBack.l0 : Nat → Int → Int → Bool → List Int → List Int → Option (Bool)
 | 0, _, _, _, _, _ => none
 | k + 1, x13, x14, x463000, x463001, x463002 => if x14 ≤ 4 then ((near_Rat.f k x463000 x463001 x463002 x14).bind fun bt510 => ((plumblaw07_num.f bt510.2).bind fun t512 => (if t512 = 0 then (if bt510.1 = x13 then (plumblaw07_NearBack.l0 k x13 (wrap64 (x14 + 1)) x463000 x463001 x463002) else (none)) else (none)))) else ((near_Exact.f k x463000 x463001 x463002).bind fun bt508 => (if bt508.2 = true then (some (bt508.1 == x13)) else (none)))
end
def plumblaw07_NearBack.f (k : Nat) (a0 : Int) : Option (Bool) := (near_Value.f k a0).bind fun bt454 => ((plumblaw07_value.f k a0).bind fun bt463 => ((f64_Class.f k a0).bind fun t472 => (if t472 > 2 then ((near_Mid.f k a0).bind fun bt473 => ((plumblaw07_num.f bt454.2.2.2).bind fun t482 => (if t482 = 60 then ((plumblaw07_num.f bt473.2.2.2).bind fun t483 => (if t483 = 60 then (if bt463.2.2.2 = true then (none) else (if (bt454.2.1.length : Int) = 0 then (some ((bt454.2.2.1.length : Int) == 0)) else (none))) else (none))) else (none)))) else ((plumblaw07_num.f bt454.2.2.2).bind fun t484 => (if t484 = 0 then (if bt463.2.2.2 = true then ((plumblaw07_cmp.f k bt454.1 bt454.2.1 bt454.2.2.1 bt463.1 bt463.2.1 bt463.2.2.1).bind fun t485 => (if t485 = 0 then ((plumblaw07_fixed.f k).bind fun t486 => (plumblaw07_NearBack.j0 k a0 (!t486) bt454.1 bt454.2.1 bt454.2.2.1)) else (plumblaw07_NearBack.j0 k a0 true bt454.1 bt454.2.1 bt454.2.2.1))) else (plumblaw07_NearBack.j0 k a0 true bt454.1 bt454.2.1 bt454.2.2.1)) else (plumblaw07_NearBack.j0 k a0 true bt454.1 bt454.2.1 bt454.2.2.1))))))
set_option maxHeartbeats 8000000 in
set_option maxRecDepth 100000 in
theorem plumblaw07_NearBack.calls (k : Nat) (a0 : Int) (r : Bool) (w : World) (h : plumblaw07_NearBack.f k a0 = some r) (hS : StaysLaid w := by first | exact HS.out | exact hS | exact StaysLaid.below HS.out HB.out | exact StaysLaid.below HS.out dB) :
  Calls Tryd.prog 10 #[.int .u64 a0] w fun e w' => e = .returned (.bool r) ∧ Below w.heap.size w w' := by
 have HS := aM (show StaysLaid w from hS)
 clear hS
 have hu46 := Tryd.underlying46
 have HB := aM (Below.refl w.heap.size w)
 have H := h
 clear h
 unfold plumblaw07_NearBack.f at H
 replace H := obe H
 obtain ⟨⟨t454, t455, t458, t461⟩, A20, H⟩ := H
 (try dsimp only at H)
 have A2 := aM A20
 clear A20
 replace H := obe H
 obtain ⟨⟨t463, t464, t467, t470⟩, A30, H⟩ := H
 (try dsimp only at H)
 have A3 := aM A30
 clear A30
 replace H := obe H
 obtain ⟨t472, A40, H⟩ := H
 (try dsimp only at H)
 have A4 := aM A40
 clear A40
 by_cases c5 : t472 > 2
 ·rw [if_pos c5] at H
  have c5b0 : decide (2 < t472) = true := decide_eq_true c5
  clear c5
  replace H := obe H
  obtain ⟨⟨t473, t474, t477, t480⟩, A60, H⟩ := H
  (try dsimp only at H)
  have A6 := aM A60
  clear A60
  replace H := obe H
  obtain ⟨t482, A70, H⟩ := H
  (try dsimp only at H)
  have A7 := aM A70
  clear A70
  by_cases c8 : t482 = 60
  ·rw [if_pos c8] at H
   have c8b0 : (t482 == 60) = true := beq_iff_eq.mpr c8
   have c8b1 : (t482 != 60) = false := bne_eq_false_iff_eq.mpr c8
   clear c8
   replace H := obe H
   obtain ⟨t483, A90, H⟩ := H
   (try dsimp only at H)
   have A9 := aM A90
   clear A90
   by_cases c10 : t483 = 60
   ·rw [if_pos c10] at H
    have c10b0 : (t483 == 60) = true := beq_iff_eq.mpr c10
    have c10b1 : (t483 != 60) = false := bne_eq_false_iff_eq.mpr c10
    clear c10
    by_cases c11 : t470 = true
    ·subst c11
     rw [if_pos rfl] at H
     (try dsimp only at H)
     exact absurd H (by simp)
    ·replace c11 := Bool.eq_false_iff.mpr c11
     subst c11
     rw [if_neg (show ¬ (false = true) by decide)] at H
     (try dsimp only at H)
     by_cases c12 : (t455.length : Int) = 0
     ·rw [if_pos c12] at H
      have c12b0 : ((t455.length : Int) == 0) = true := beq_iff_eq.mpr c12
      have c12b1 : ((t455.length : Int) != 0) = false := bne_eq_false_iff_eq.mpr c12
      clear c12
      obtain rfl := Option.some.inj H
      go_enter Tryd.func10, Tryd.ntmps10
      go_wp2_with (first | ((with_reducible refine gate_callee (f := 33) rfl ?_); refine gL (some 21) Tryd.func33 #[.int .u64 a0] ?_; (with_reducible refine (near_Value.calls k a0 t454 t455 t458 t461 _ A2.out).mono ?_); rintro e w13 ⟨v456, v459, rfl, ho0, ho1, hb⟩; refine ⟨_, rfl, ?_⟩; have HO457 := aM (Kd.R_lower ho0 (below_size dB)); have HO460 := aM (Kd.R_lower ho1 (below_size dB)); replace HB := hS HB.out hb; (try clear hb); (try clear ho0); (try clear ho1)) | ((with_reducible refine gate_dst (N := 3) rfl ?_); (try (refine gate_guard (by rfl) ?_; dsimp only)); refine bE 3 #[.bool false, .slice none 0 0, .slice none 0 0] 46 ?_; intro gb462 hg w14 hbox hb; replace HO457 := oB HO457.out hb; replace HO460 := oB HO460.out hb; have BK462 := aM (hbox); have GE462 : Aside0 (w.heap.size ≤ gb462) := gE hg; replace HB := hS HB.out hb; clear hb hbox hg; obtain ⟨hcz15_0, hcz15_1, hcz15_2⟩ := cz3 BK462.out; obtain ⟨hfz15_0, hfz15_1, hfz15_2⟩ := fz3 BK462.out; obtain ⟨Ao16, co16, rfl⟩ := Kd.R_slice HO457.out; obtain ⟨Ao17, co17, rfl⟩ := Kd.R_slice HO460.out) | ((with_reducible refine gate_callee (f := 25) rfl ?_); refine gL (some 26) Tryd.func25 #[.int .u64 a0] ?_; (with_reducible refine (plumblaw07_value.calls k a0 t463 t464 t467 false _ A3.out).mono ?_); rintro e w18 ⟨v465, v468, rfl, ho0, ho1, hb⟩; refine ⟨_, rfl, ?_⟩; have HO466 := aM (Kd.R_lower (Kd.R_new' (Kd.R_new' ho0 (Kd.R_lt (by (with_reducible repeat (first | apply Kd.R_alloc | apply Kd.R_drewN | apply Kd.R_drew)); exact (rX HO457.out BK462.out)))) (Kd.R_lt (by (with_reducible repeat (first | apply Kd.R_alloc | apply Kd.R_drewN | apply Kd.R_drew)); exact (rX HO460.out BK462.out)))) (below_size eB)); have HO469 := aM (Kd.R_lower (Kd.R_new' (Kd.R_new' ho1 (Kd.R_lt (by (with_reducible repeat (first | apply Kd.R_alloc | apply Kd.R_drewN | apply Kd.R_drew)); exact (rX HO457.out BK462.out)))) (Kd.R_lt (by (with_reducible repeat (first | apply Kd.R_alloc | apply Kd.R_drewN | apply Kd.R_drew)); exact (rX HO460.out BK462.out)))) (below_size eB)); replace HO457 := aM (Kd.R_mono (Kd.R_told (Kd.R_told (Kd.R_old (by (with_reducible repeat (first | apply Kd.R_alloc | apply Kd.R_drewN | apply Kd.R_drew)); exact (rX HO457.out BK462.out)) hb) (Kd.R_base ho0)) (Kd.R_base ho1)) (fun _ h_ => h_.1)); replace HO460 := aM (Kd.R_mono (Kd.R_told (Kd.R_told (Kd.R_old (by (with_reducible repeat (first | apply Kd.R_alloc | apply Kd.R_drewN | apply Kd.R_drew)); exact (rX HO460.out BK462.out)) hb) (Kd.R_base ho0)) (Kd.R_base ho1)) (fun _ h_ => h_.1)); replace BK462 := aM (blk_below (g := gb462) (o := .cells #[.bool t454, .slice Ao16 t455.length co16, .slice Ao17 t458.length co17] 46 (0, 0)) (dP BK462.out) hb); replace HB := hS HB.out hb; (try clear hb); (try clear ho0); (try clear ho1)) | ((with_reducible refine gate_dst (N := 5) rfl ?_); (try (refine gate_guard (by rfl) ?_; dsimp only)); refine bE 5 #[.bool false, .slice none 0 0, .slice none 0 0] 46 ?_; intro gb471 hg w19 hbox hb; replace HO457 := oB HO457.out hb; replace HO460 := oB HO460.out hb; replace HO466 := oB HO466.out hb; replace HO469 := oB HO469.out hb; have BK471 := aM (hbox); have GE471 : Aside0 (w.heap.size ≤ gb471) := gE hg; replace HB := hS HB.out hb; have NB462_471 := nL hg BK462.out; have NB471_462 := nG hg BK462.out; replace BK462 := bB BK462.out hb; clear hb hbox hg; have hnb20 := NB471_462.out; have hnc20 := NB462_471.out; obtain ⟨hcz21_0, hcz21_1, hcz21_2⟩ := cz3 BK471.out; obtain ⟨hfz21_0, hfz21_1, hfz21_2⟩ := fz3 BK471.out; obtain ⟨Ao22, co22, rfl⟩ := Kd.R_slice HO466.out; obtain ⟨Ao23, co23, rfl⟩ := Kd.R_slice HO469.out) | ((with_reducible refine gate_callee (f := 34) rfl ?_); refine gL (some 30) Tryd.func34 #[.int .u64 a0] ?_; (with_reducible refine (f64_Class.calls k a0 t472 _ A4.out).mono ?_); rintro e w' ⟨rfl, ⟨nd, rfl⟩⟩; refine ⟨_, rfl, ?_⟩) | ((with_reducible refine gate_callee (f := 35) rfl ?_); refine gL (some 34) Tryd.func35 #[.int .u64 a0] ?_; (with_reducible refine (near_Mid.calls k a0 t473 t474 t477 t480 _ A6.out).mono ?_); rintro e w24 ⟨v475, v478, rfl, ho0, ho1, hb⟩; refine ⟨_, rfl, ?_⟩; have HO476 := aM (Kd.R_lower (Kd.R_new' (Kd.R_new' (Kd.R_new' (Kd.R_new' ho0 (Kd.R_lt (by (with_reducible repeat (first | apply Kd.R_alloc | apply Kd.R_drewN | apply Kd.R_drew)); exact (rX HO457.out BK471.out)))) (Kd.R_lt (by (with_reducible repeat (first | apply Kd.R_alloc | apply Kd.R_drewN | apply Kd.R_drew)); exact (rX HO460.out BK471.out)))) (Kd.R_lt (by (with_reducible repeat (first | apply Kd.R_alloc | apply Kd.R_drewN | apply Kd.R_drew)); exact (rX HO466.out BK471.out)))) (Kd.R_lt (by (with_reducible repeat (first | apply Kd.R_alloc | apply Kd.R_drewN | apply Kd.R_drew)); exact (rX HO469.out BK471.out)))) (below_size eB)); have HO479 := aM (Kd.R_lower (Kd.R_new' (Kd.R_new' (Kd.R_new' (Kd.R_new' ho1 (Kd.R_lt (by (with_reducible repeat (first | apply Kd.R_alloc | apply Kd.R_drewN | apply Kd.R_drew)); exact (rX HO457.out BK471.out)))) (Kd.R_lt (by (with_reducible repeat (first | apply Kd.R_alloc | apply Kd.R_drewN | apply Kd.R_drew)); exact (rX HO460.out BK471.out)))) (Kd.R_lt (by (with_reducible repeat (first | apply Kd.R_alloc | apply Kd.R_drewN | apply Kd.R_drew)); exact (rX HO466.out BK471.out)))) (Kd.R_lt (by (with_reducible repeat (first | apply Kd.R_alloc | apply Kd.R_drewN | apply Kd.R_drew)); exact (rX HO469.out BK471.out)))) (below_size eB)); replace HO457 := aM (Kd.R_mono (Kd.R_told (Kd.R_told (Kd.R_old (by (with_reducible repeat (first | apply Kd.R_alloc | apply Kd.R_drewN | apply Kd.R_drew)); exact (rX HO457.out BK471.out)) hb) (Kd.R_base ho0)) (Kd.R_base ho1)) (fun _ h_ => h_.1)); replace HO460 := aM (Kd.R_mono (Kd.R_told (Kd.R_told (Kd.R_old (by (with_reducible repeat (first | apply Kd.R_alloc | apply Kd.R_drewN | apply Kd.R_drew)); exact (rX HO460.out BK471.out)) hb) (Kd.R_base ho0)) (Kd.R_base ho1)) (fun _ h_ => h_.1)); replace HO466 := aM (Kd.R_mono (Kd.R_told (Kd.R_told (Kd.R_old (by (with_reducible repeat (first | apply Kd.R_alloc | apply Kd.R_drewN | apply Kd.R_drew)); exact (rX HO466.out BK471.out)) hb) (Kd.R_base ho0)) (Kd.R_base ho1)) (fun _ h_ => h_.1)); replace HO469 := aM (Kd.R_mono (Kd.R_told (Kd.R_told (Kd.R_old (by (with_reducible repeat (first | apply Kd.R_alloc | apply Kd.R_drewN | apply Kd.R_drew)); exact (rX HO469.out BK471.out)) hb) (Kd.R_base ho0)) (Kd.R_base ho1)) (fun _ h_ => h_.1)); replace BK462 := aM (blk_below (g := gb462) (o := .cells #[.bool t454, .slice Ao16 t455.length co16, .slice Ao17 t458.length co17] 46 (0, 0)) (dQ1 BK462.out NB462_471.out) hb); replace BK471 := aM (blk_below (g := gb471) (o := .cells #[.bool t463, .slice Ao22 t464.length co22, .slice Ao23 t467.length co23] 46 (0, 0)) (dP BK471.out) hb); replace HB := hS HB.out hb; (try clear hb); (try clear ho0); (try clear ho1)) | ((with_reducible refine gate_dst (N := 7) rfl ?_); (try (refine gate_guard (by rfl) ?_; dsimp only)); refine bE 7 #[.bool false, .slice none 0 0, .slice none 0 0] 46 ?_; intro gb481 hg w25 hbox hb; replace HO457 := oB HO457.out hb; replace HO460 := oB HO460.out hb; replace HO466 := oB HO466.out hb; replace HO469 := oB HO469.out hb; replace HO476 := oB HO476.out hb; replace HO479 := oB HO479.out hb; have BK481 := aM (hbox); have GE481 : Aside0 (w.heap.size ≤ gb481) := gE hg; replace HB := hS HB.out hb; have NB462_481 := nL hg BK462.out; have NB481_462 := nG hg BK462.out; replace BK462 := bB BK462.out hb; have NB471_481 := nL hg BK471.out; have NB481_471 := nG hg BK471.out; replace BK471 := bB BK471.out hb; clear hb hbox hg; have hnb26 := NB481_462.out; have hnc26 := NB462_481.out; have hnb27 := NB481_471.out; have hnc27 := NB471_481.out; obtain ⟨hcz28_0, hcz28_1, hcz28_2⟩ := cz3 BK481.out; obtain ⟨hfz28_0, hfz28_1, hfz28_2⟩ := fz3 BK481.out; obtain ⟨Ao29, co29, rfl⟩ := Kd.R_slice HO476.out; obtain ⟨Ao30, co30, rfl⟩ := Kd.R_slice HO479.out) | ((with_reducible refine gate_callee (f := 15) rfl ?_); refine gL (some 38) Tryd.func15 #[.int .i64 t461] ?_; (with_reducible refine (plumblaw07_num.calls t461 t482 _ A7.out).mono ?_); rintro e w' ⟨rfl, ⟨nd, rfl⟩⟩; refine ⟨_, rfl, ?_⟩) | (go_at_call 15; (with_reducible refine (plumblaw07_num.calls t480 t483 _ A9.out).mono ?_); rintro e w' ⟨rfl, ⟨nd, rfl⟩⟩; obtain ⟨hcz31_0, hcz31_1, hcz31_2⟩ := cz3 BK462.out; obtain ⟨hfz31_0, hfz31_1, hfz31_2⟩ := fz3 BK462.out))
      go_ret
      exact ⟨dE, eB⟩
     ·rw [if_neg c12] at H
      exact absurd H (by simp)
   ·rw [if_neg c10] at H
    exact absurd H (by simp)
  ·rw [if_neg c8] at H
   exact absurd H (by simp)
 ·rw [if_neg c5] at H
  have c5b0 : decide (2 < t472) = false := decide_eq_false c5
  clear c5
  have HC32 := aM H
  clear H
  go_enter Tryd.func10, Tryd.ntmps10
  go_upto_region 6 with (first | ((with_reducible refine gate_callee (f := 33) rfl ?_); refine gL (some 21) Tryd.func33 #[.int .u64 a0] ?_; (with_reducible refine (near_Value.calls k a0 t454 t455 t458 t461 _ A2.out).mono ?_); rintro e w33 ⟨v456, v459, rfl, ho0, ho1, hb⟩; refine ⟨_, rfl, ?_⟩; have HO457 := aM (Kd.R_lower ho0 (below_size dB)); have HO460 := aM (Kd.R_lower ho1 (below_size dB)); replace HB := hS HB.out hb; (try clear hb); (try clear ho0); (try clear ho1)) | ((with_reducible refine gate_dst (N := 3) rfl ?_); (try (refine gate_guard (by rfl) ?_; dsimp only)); refine bE 3 #[.bool false, .slice none 0 0, .slice none 0 0] 46 ?_; intro gb462 hg w34 hbox hb; replace HO457 := oB HO457.out hb; replace HO460 := oB HO460.out hb; have BK462 := aM (hbox); have GE462 : Aside0 (w.heap.size ≤ gb462) := gE hg; replace HB := hS HB.out hb; clear hb hbox hg; obtain ⟨hcz35_0, hcz35_1, hcz35_2⟩ := cz3 BK462.out; obtain ⟨hfz35_0, hfz35_1, hfz35_2⟩ := fz3 BK462.out; obtain ⟨Ao36, co36, rfl⟩ := Kd.R_slice HO457.out; obtain ⟨Ao37, co37, rfl⟩ := Kd.R_slice HO460.out) | ((with_reducible refine gate_callee (f := 25) rfl ?_); refine gL (some 26) Tryd.func25 #[.int .u64 a0] ?_; (with_reducible refine (plumblaw07_value.calls k a0 t463 t464 t467 t470 _ A3.out).mono ?_); rintro e w38 ⟨v465, v468, rfl, ho0, ho1, hb⟩; refine ⟨_, rfl, ?_⟩; have HO466 := aM (Kd.R_lower (Kd.R_new' (Kd.R_new' ho0 (Kd.R_lt (by (with_reducible repeat (first | apply Kd.R_alloc | apply Kd.R_drewN | apply Kd.R_drew)); exact (rX HO457.out BK462.out)))) (Kd.R_lt (by (with_reducible repeat (first | apply Kd.R_alloc | apply Kd.R_drewN | apply Kd.R_drew)); exact (rX HO460.out BK462.out)))) (below_size eB)); have HO469 := aM (Kd.R_lower (Kd.R_new' (Kd.R_new' ho1 (Kd.R_lt (by (with_reducible repeat (first | apply Kd.R_alloc | apply Kd.R_drewN | apply Kd.R_drew)); exact (rX HO457.out BK462.out)))) (Kd.R_lt (by (with_reducible repeat (first | apply Kd.R_alloc | apply Kd.R_drewN | apply Kd.R_drew)); exact (rX HO460.out BK462.out)))) (below_size eB)); replace HO457 := aM (Kd.R_mono (Kd.R_told (Kd.R_told (Kd.R_old (by (with_reducible repeat (first | apply Kd.R_alloc | apply Kd.R_drewN | apply Kd.R_drew)); exact (rX HO457.out BK462.out)) hb) (Kd.R_base ho0)) (Kd.R_base ho1)) (fun _ h_ => h_.1)); replace HO460 := aM (Kd.R_mono (Kd.R_told (Kd.R_told (Kd.R_old (by (with_reducible repeat (first | apply Kd.R_alloc | apply Kd.R_drewN | apply Kd.R_drew)); exact (rX HO460.out BK462.out)) hb) (Kd.R_base ho0)) (Kd.R_base ho1)) (fun _ h_ => h_.1)); replace BK462 := aM (blk_below (g := gb462) (o := .cells #[.bool t454, .slice Ao36 t455.length co36, .slice Ao37 t458.length co37] 46 (0, 0)) (dP BK462.out) hb); replace HB := hS HB.out hb; (try clear hb); (try clear ho0); (try clear ho1)) | ((with_reducible refine gate_dst (N := 5) rfl ?_); (try (refine gate_guard (by rfl) ?_; dsimp only)); refine bE 5 #[.bool false, .slice none 0 0, .slice none 0 0] 46 ?_; intro gb471 hg w39 hbox hb; replace HO457 := oB HO457.out hb; replace HO460 := oB HO460.out hb; replace HO466 := oB HO466.out hb; replace HO469 := oB HO469.out hb; have BK471 := aM (hbox); have GE471 : Aside0 (w.heap.size ≤ gb471) := gE hg; replace HB := hS HB.out hb; have NB462_471 := nL hg BK462.out; have NB471_462 := nG hg BK462.out; replace BK462 := bB BK462.out hb; clear hb hbox hg; have hnb40 := NB471_462.out; have hnc40 := NB462_471.out; obtain ⟨hcz41_0, hcz41_1, hcz41_2⟩ := cz3 BK471.out; obtain ⟨hfz41_0, hfz41_1, hfz41_2⟩ := fz3 BK471.out; obtain ⟨Ao42, co42, rfl⟩ := Kd.R_slice HO466.out; obtain ⟨Ao43, co43, rfl⟩ := Kd.R_slice HO469.out) | ((with_reducible refine gate_callee (f := 34) rfl ?_); refine gL (some 30) Tryd.func34 #[.int .u64 a0] ?_; (with_reducible refine (f64_Class.calls k a0 t472 _ A4.out).mono ?_); rintro e w' ⟨rfl, ⟨nd, rfl⟩⟩; refine ⟨_, rfl, ?_⟩))
  (try simp only [Act.put, List.setIfInBounds_toArray, List.set_cons_zero, List.set_cons_succ])
  go_cut [77] (fun v77 wc => ∃ (kq : Nat) (x77_31 : Bool), v77 = .bool x77_31 ∧ Aside0 (plumblaw07_NearBack.j0 kq a0 x77_31 t454 t455 t458 = some r) ∧ Aside0 (kq ≤ k) ∧ Aside0 (Kd.R (Kd.int .u64) 26 wc w.heap.size (fun k_ => some k_ ≠ ((.slice Ao37 t458.length co37) : Value).ownBlock ∧ some k_ ≠ ((.slice Ao42 t464.length co42) : Value).ownBlock ∧ some k_ ≠ ((.slice Ao43 t467.length co43) : Value).ownBlock) (.slice Ao36 t455.length co36) t455) ∧ Aside0 (Kd.R (Kd.int .u64) 26 wc w.heap.size (fun k_ => some k_ ≠ ((.slice Ao36 t455.length co36) : Value).ownBlock ∧ some k_ ≠ ((.slice Ao42 t464.length co42) : Value).ownBlock ∧ some k_ ≠ ((.slice Ao43 t467.length co43) : Value).ownBlock) (.slice Ao37 t458.length co37) t458) ∧ Aside0 (Kd.R (Kd.int .u64) 26 wc w.heap.size (fun k_ => some k_ ≠ ((.slice Ao36 t455.length co36) : Value).ownBlock ∧ some k_ ≠ ((.slice Ao37 t458.length co37) : Value).ownBlock ∧ some k_ ≠ ((.slice Ao43 t467.length co43) : Value).ownBlock) (.slice Ao42 t464.length co42) t464) ∧ Aside0 (Kd.R (Kd.int .u64) 26 wc w.heap.size (fun k_ => some k_ ≠ ((.slice Ao36 t455.length co36) : Value).ownBlock ∧ some k_ ≠ ((.slice Ao37 t458.length co37) : Value).ownBlock ∧ some k_ ≠ ((.slice Ao42 t464.length co42) : Value).ownBlock) (.slice Ao43 t467.length co43) t467) ∧ Aside0 (wc.heap[gb462]? = some (.cells #[.bool t454, (.slice Ao36 t455.length co36), (.slice Ao37 t458.length co37)] 46 (0, 0))) ∧ Aside0 (wc.heap[gb471]? = some (.cells #[.bool t463, (.slice Ao42 t464.length co42), (.slice Ao43 t467.length co43)] 46 (0, 0))) ∧ Aside0 (Below w.heap.size w wc))
  case first =>
   have H := HC32.out
   clear HC32
   replace H := obe H
   obtain ⟨t484, A440, H⟩ := H
   (try dsimp only at H)
   have A44 := aM A440
   clear A440
   by_cases c45 : t484 = 0
   ·rw [if_pos c45] at H
    have c45b0 : (t484 == 0) = true := beq_iff_eq.mpr c45
    have c45b1 : (t484 != 0) = false := bne_eq_false_iff_eq.mpr c45
    clear c45
    (first | rw [c45b0] | (simp only [i64_w, i32_w]; rw [c45b0]) | skip)
    by_cases c46 : t470 = true
    ·subst c46
     rw [if_pos rfl] at H
     (try dsimp only at H)
     replace H := obe H
     obtain ⟨t485, A470, H⟩ := H
     (try dsimp only at H)
     have A47 := aM A470
     clear A470
     by_cases c48 : t485 = 0
     ·rw [if_pos c48] at H
      have c48b0 : (t485 == 0) = true := beq_iff_eq.mpr c48
      have c48b1 : (t485 != 0) = false := bne_eq_false_iff_eq.mpr c48
      clear c48
      replace H := obe H
      obtain ⟨t486, A490, H⟩ := H
      (try dsimp only at H)
      have A49 := aM A490
      clear A490
      have H' := aM H
      clear H
      go_wp2_with (first | ((with_reducible refine gate_callee (f := 15) rfl ?_); refine gL (some 62) Tryd.func15 #[.int .i64 t461] ?_; (with_reducible refine (plumblaw07_num.calls t461 t484 _ A44.out).mono ?_); rintro e w' ⟨rfl, ⟨nd, rfl⟩⟩; refine ⟨_, rfl, ?_⟩; have hnb50 := NB462_471.out; have hnc50 := NB471_462.out; obtain ⟨hcz51_0, hcz51_1, hcz51_2⟩ := cz3 BK462.out; obtain ⟨hfz51_0, hfz51_1, hfz51_2⟩ := fz3 BK462.out; obtain ⟨hcz52_0, hcz52_1, hcz52_2⟩ := cz3 BK471.out; obtain ⟨hfz52_0, hfz52_1, hfz52_2⟩ := fz3 BK471.out) | (go_at_call 27; (with_reducible refine (plumblaw07_cmp.calls k t454 _ _ t455 _ _ t458 t463 _ _ t464 _ _ t467 t485 _ ?side1 (Kd.R_reads' HO457.out).2.1 ?side3 (Kd.R_reads' HO460.out).2.1 ?side5 (Kd.R_reads' HO466.out).2.1 ?side7 (Kd.R_reads' HO469.out).2.1 A47.out).mono ?_); (case side1 => refine (Kd.R_reads' (e := 26) (base := w.heap.size) (ok := fun k_ => ((some k_ ≠ (.slice Ao37 t458.length co37 : Value).ownBlock ∧ some k_ ≠ (.slice Ao42 t464.length co42 : Value).ownBlock) ∧ some k_ ≠ (.slice Ao43 t467.length co43 : Value).ownBlock)) (n := t455.length) (c := co36) ?_).2.2; exact (by (with_reducible repeat (first | apply Kd.R_alloc | apply Kd.R_drewN | apply Kd.R_drew)); exact (rX HO457.out BK471.out))); (case side3 => refine (Kd.R_reads' (e := 26) (base := w.heap.size) (ok := fun k_ => ((some k_ ≠ (.slice Ao36 t455.length co36 : Value).ownBlock ∧ some k_ ≠ (.slice Ao42 t464.length co42 : Value).ownBlock) ∧ some k_ ≠ (.slice Ao43 t467.length co43 : Value).ownBlock)) (n := t458.length) (c := co37) ?_).2.2; exact (by (with_reducible repeat (first | apply Kd.R_alloc | apply Kd.R_drewN | apply Kd.R_drew)); exact (rX HO460.out BK471.out))); (case side5 => refine (Kd.R_reads' (e := 26) (base := w.heap.size) (ok := fun k_ => ((some k_ ≠ (.slice Ao43 t467.length co43 : Value).ownBlock ∧ some k_ ≠ (.slice Ao36 t455.length co36 : Value).ownBlock) ∧ some k_ ≠ (.slice Ao37 t458.length co37 : Value).ownBlock)) (n := t464.length) (c := co42) ?_).2.2; exact (by (with_reducible repeat (first | apply Kd.R_alloc | apply Kd.R_drewN | apply Kd.R_drew)); exact (rX HO466.out BK471.out))); (case side7 => refine (Kd.R_reads' (e := 26) (base := w.heap.size) (ok := fun k_ => ((some k_ ≠ (.slice Ao42 t464.length co42 : Value).ownBlock ∧ some k_ ≠ (.slice Ao36 t455.length co36 : Value).ownBlock) ∧ some k_ ≠ (.slice Ao37 t458.length co37 : Value).ownBlock)) (n := t467.length) (c := co43) ?_).2.2; exact (by (with_reducible repeat (first | apply Kd.R_alloc | apply Kd.R_drewN | apply Kd.R_drew)); exact (rX HO469.out BK471.out))); rintro e w53 ⟨rfl, hb⟩; replace HO457 := oX HO457.out BK471.out hb; replace HO460 := oX HO460.out BK471.out hb; replace HO466 := oX HO466.out BK471.out hb; replace HO469 := oX HO469.out BK471.out hb; replace BK462 := aM (blk_below (g := gb462) (o := .cells #[.bool t454, .slice Ao36 t455.length co36, .slice Ao37 t458.length co37] 46 (0, 0)) (dQ1 BK462.out NB462_471.out) hb); replace BK471 := aM (blk_below (g := gb471) (o := .cells #[.bool t463, .slice Ao42 t464.length co42, .slice Ao43 t467.length co43] 46 (0, 0)) (dP BK471.out) hb); replace HB := hS HB.out hb; (try clear hb)) | (go_at_call 19; (with_reducible refine (plumblaw07_fixed.calls k  t486 _ A49.out ?hs0).mono ?_); (case hs0 => first | exact StaysLaid.below HS.out HB.out | exact StaysLaid.below HS.out eB); rintro e w54 ⟨rfl, hb⟩; replace HO457 := oB HO457.out hb; replace HO460 := oB HO460.out hb; replace HO466 := oB HO466.out hb; replace HO469 := oB HO469.out hb; replace BK462 := bB BK462.out hb; replace BK471 := bB BK471.out hb; replace HB := hS HB.out hb; (try clear hb)))
      go_meet
      case rel => exact ⟨_, (!t486), dF, H', ⟨dN⟩, ⟨by (with_reducible repeat (first | apply Kd.R_alloc | apply Kd.R_drewN | apply Kd.R_drew)); exact Kd.R_mono HO457.out (fun _ hk => ⟨hk.1.1, ⟨hk.1.2, hk.2⟩⟩)⟩, ⟨by (with_reducible repeat (first | apply Kd.R_alloc | apply Kd.R_drewN | apply Kd.R_drew)); exact Kd.R_mono HO460.out (fun _ hk => ⟨hk.1.1, ⟨hk.1.2, hk.2⟩⟩)⟩, ⟨by (with_reducible repeat (first | apply Kd.R_alloc | apply Kd.R_drewN | apply Kd.R_drew)); exact Kd.R_mono HO466.out (fun _ hk => ⟨hk.1.2, ⟨hk.2, hk.1.1⟩⟩)⟩, ⟨by (with_reducible repeat (first | apply Kd.R_alloc | apply Kd.R_drewN | apply Kd.R_drew)); exact Kd.R_mono HO469.out (fun _ hk => ⟨hk.1.2, ⟨hk.2, hk.1.1⟩⟩)⟩, ⟨dK BK462.out⟩, ⟨dK BK471.out⟩, ⟨eB⟩⟩
     ·rw [if_neg c48] at H
      have c48b0 : (t485 == 0) = false := beq_eq_false_iff_ne.mpr c48
      have c48b1 : (t485 != 0) = true := bne_iff_ne.mpr c48
      have H' := aM H
      clear H
      go_wp2_with (first | ((with_reducible refine gate_callee (f := 15) rfl ?_); refine gL (some 62) Tryd.func15 #[.int .i64 t461] ?_; (with_reducible refine (plumblaw07_num.calls t461 t484 _ A44.out).mono ?_); rintro e w' ⟨rfl, ⟨nd, rfl⟩⟩; refine ⟨_, rfl, ?_⟩; have hnb55 := NB462_471.out; have hnc55 := NB471_462.out; obtain ⟨hcz56_0, hcz56_1, hcz56_2⟩ := cz3 BK462.out; obtain ⟨hfz56_0, hfz56_1, hfz56_2⟩ := fz3 BK462.out; obtain ⟨hcz57_0, hcz57_1, hcz57_2⟩ := cz3 BK471.out; obtain ⟨hfz57_0, hfz57_1, hfz57_2⟩ := fz3 BK471.out) | (go_at_call 27; (with_reducible refine (plumblaw07_cmp.calls k t454 _ _ t455 _ _ t458 t463 _ _ t464 _ _ t467 t485 _ ?side1 (Kd.R_reads' HO457.out).2.1 ?side3 (Kd.R_reads' HO460.out).2.1 ?side5 (Kd.R_reads' HO466.out).2.1 ?side7 (Kd.R_reads' HO469.out).2.1 A47.out).mono ?_); (case side1 => refine (Kd.R_reads' (e := 26) (base := w.heap.size) (ok := fun k_ => ((some k_ ≠ (.slice Ao37 t458.length co37 : Value).ownBlock ∧ some k_ ≠ (.slice Ao42 t464.length co42 : Value).ownBlock) ∧ some k_ ≠ (.slice Ao43 t467.length co43 : Value).ownBlock)) (n := t455.length) (c := co36) ?_).2.2; exact (by (with_reducible repeat (first | apply Kd.R_alloc | apply Kd.R_drewN | apply Kd.R_drew)); exact (rX HO457.out BK471.out))); (case side3 => refine (Kd.R_reads' (e := 26) (base := w.heap.size) (ok := fun k_ => ((some k_ ≠ (.slice Ao36 t455.length co36 : Value).ownBlock ∧ some k_ ≠ (.slice Ao42 t464.length co42 : Value).ownBlock) ∧ some k_ ≠ (.slice Ao43 t467.length co43 : Value).ownBlock)) (n := t458.length) (c := co37) ?_).2.2; exact (by (with_reducible repeat (first | apply Kd.R_alloc | apply Kd.R_drewN | apply Kd.R_drew)); exact (rX HO460.out BK471.out))); (case side5 => refine (Kd.R_reads' (e := 26) (base := w.heap.size) (ok := fun k_ => ((some k_ ≠ (.slice Ao43 t467.length co43 : Value).ownBlock ∧ some k_ ≠ (.slice Ao36 t455.length co36 : Value).ownBlock) ∧ some k_ ≠ (.slice Ao37 t458.length co37 : Value).ownBlock)) (n := t464.length) (c := co42) ?_).2.2; exact (by (with_reducible repeat (first | apply Kd.R_alloc | apply Kd.R_drewN | apply Kd.R_drew)); exact (rX HO466.out BK471.out))); (case side7 => refine (Kd.R_reads' (e := 26) (base := w.heap.size) (ok := fun k_ => ((some k_ ≠ (.slice Ao42 t464.length co42 : Value).ownBlock ∧ some k_ ≠ (.slice Ao36 t455.length co36 : Value).ownBlock) ∧ some k_ ≠ (.slice Ao37 t458.length co37 : Value).ownBlock)) (n := t467.length) (c := co43) ?_).2.2; exact (by (with_reducible repeat (first | apply Kd.R_alloc | apply Kd.R_drewN | apply Kd.R_drew)); exact (rX HO469.out BK471.out))); rintro e w58 ⟨rfl, hb⟩; replace HO457 := oX HO457.out BK471.out hb; replace HO460 := oX HO460.out BK471.out hb; replace HO466 := oX HO466.out BK471.out hb; replace HO469 := oX HO469.out BK471.out hb; replace BK462 := aM (blk_below (g := gb462) (o := .cells #[.bool t454, .slice Ao36 t455.length co36, .slice Ao37 t458.length co37] 46 (0, 0)) (dQ1 BK462.out NB462_471.out) hb); replace BK471 := aM (blk_below (g := gb471) (o := .cells #[.bool t463, .slice Ao42 t464.length co42, .slice Ao43 t467.length co43] 46 (0, 0)) (dP BK471.out) hb); replace HB := hS HB.out hb; (try clear hb)))
      go_meet
      case rel => exact ⟨_, (true), dF, H', ⟨dN⟩, ⟨by (with_reducible repeat (first | apply Kd.R_alloc | apply Kd.R_drewN | apply Kd.R_drew)); exact Kd.R_mono HO457.out (fun _ hk => ⟨hk.1.1, ⟨hk.1.2, hk.2⟩⟩)⟩, ⟨by (with_reducible repeat (first | apply Kd.R_alloc | apply Kd.R_drewN | apply Kd.R_drew)); exact Kd.R_mono HO460.out (fun _ hk => ⟨hk.1.1, ⟨hk.1.2, hk.2⟩⟩)⟩, ⟨by (with_reducible repeat (first | apply Kd.R_alloc | apply Kd.R_drewN | apply Kd.R_drew)); exact Kd.R_mono HO466.out (fun _ hk => ⟨hk.1.2, ⟨hk.2, hk.1.1⟩⟩)⟩, ⟨by (with_reducible repeat (first | apply Kd.R_alloc | apply Kd.R_drewN | apply Kd.R_drew)); exact Kd.R_mono HO469.out (fun _ hk => ⟨hk.1.2, ⟨hk.2, hk.1.1⟩⟩)⟩, ⟨dK BK462.out⟩, ⟨dK BK471.out⟩, ⟨eB⟩⟩
    ·replace c46 := Bool.eq_false_iff.mpr c46
     subst c46
     rw [if_neg (show ¬ (false = true) by decide)] at H
     (try dsimp only at H)
     have H' := aM H
     clear H
     go_wp2_with (first | ((with_reducible refine gate_callee (f := 15) rfl ?_); refine gL (some 62) Tryd.func15 #[.int .i64 t461] ?_; (with_reducible refine (plumblaw07_num.calls t461 t484 _ A44.out).mono ?_); rintro e w' ⟨rfl, ⟨nd, rfl⟩⟩; refine ⟨_, rfl, ?_⟩))
     go_meet
     case rel => exact ⟨_, (true), dF, H', ⟨dN⟩, ⟨by (with_reducible repeat (first | apply Kd.R_alloc | apply Kd.R_drewN | apply Kd.R_drew)); exact Kd.R_mono (Kd.R_far (p := ⟨gb471, 2, none⟩) (Kd.R_far (p := ⟨gb471, 1, none⟩) (Kd.R_far (p := ⟨gb471, 0, none⟩) (Kd.R_types HO457.out BK471.out (by decide)) (fun _ hk => hk.2) (.bool t463)) (fun _ hk => hk.2) (.slice Ao42 t464.length co42)) (fun _ hk => hk.2) (.slice Ao43 t467.length co43)) (fun _ hk => ⟨hk.1.1.1, ⟨hk.1.1.2, hk.1.2⟩⟩)⟩, ⟨by (with_reducible repeat (first | apply Kd.R_alloc | apply Kd.R_drewN | apply Kd.R_drew)); exact Kd.R_mono (Kd.R_far (p := ⟨gb471, 2, none⟩) (Kd.R_far (p := ⟨gb471, 1, none⟩) (Kd.R_far (p := ⟨gb471, 0, none⟩) (Kd.R_types HO460.out BK471.out (by decide)) (fun _ hk => hk.2) (.bool t463)) (fun _ hk => hk.2) (.slice Ao42 t464.length co42)) (fun _ hk => hk.2) (.slice Ao43 t467.length co43)) (fun _ hk => ⟨hk.1.1.1, ⟨hk.1.1.2, hk.1.2⟩⟩)⟩, ⟨by (with_reducible repeat (first | apply Kd.R_alloc | apply Kd.R_drewN | apply Kd.R_drew)); exact Kd.R_mono (Kd.R_far (p := ⟨gb471, 2, none⟩) (Kd.R_far (p := ⟨gb471, 1, none⟩) (Kd.R_far (p := ⟨gb471, 0, none⟩) (Kd.R_types HO466.out BK471.out (by decide)) (fun _ hk => hk.2) (.bool t463)) (fun _ hk => hk.2) (.slice Ao42 t464.length co42)) (fun _ hk => hk.2) (.slice Ao43 t467.length co43)) (fun _ hk => ⟨hk.1.1.2, ⟨hk.1.2, hk.1.1.1⟩⟩)⟩, ⟨by (with_reducible repeat (first | apply Kd.R_alloc | apply Kd.R_drewN | apply Kd.R_drew)); exact Kd.R_mono (Kd.R_far (p := ⟨gb471, 2, none⟩) (Kd.R_far (p := ⟨gb471, 1, none⟩) (Kd.R_far (p := ⟨gb471, 0, none⟩) (Kd.R_types HO469.out BK471.out (by decide)) (fun _ hk => hk.2) (.bool t463)) (fun _ hk => hk.2) (.slice Ao42 t464.length co42)) (fun _ hk => hk.2) (.slice Ao43 t467.length co43)) (fun _ hk => ⟨hk.1.1.2, ⟨hk.1.2, hk.1.1.1⟩⟩)⟩, ⟨dQ1 BK462.out NB462_471.out⟩, ⟨dP BK471.out⟩, ⟨eB⟩⟩
   ·rw [if_neg c45] at H
    have c45b0 : (t484 == 0) = false := beq_eq_false_iff_ne.mpr c45
    have c45b1 : (t484 != 0) = true := bne_iff_ne.mpr c45
    (first | rw [c45b0] | (simp only [i64_w, i32_w]; rw [c45b0]) | skip)
    have H' := aM H
    clear H
    go_wp2_with (first | ((with_reducible refine gate_callee (f := 15) rfl ?_); refine gL (some 62) Tryd.func15 #[.int .i64 t461] ?_; (with_reducible refine (plumblaw07_num.calls t461 t484 _ A44.out).mono ?_); rintro e w' ⟨rfl, ⟨nd, rfl⟩⟩; refine ⟨_, rfl, ?_⟩))
    go_meet
    case rel => exact ⟨_, (true), dF, H', ⟨dN⟩, ⟨by (with_reducible repeat (first | apply Kd.R_alloc | apply Kd.R_drewN | apply Kd.R_drew)); exact Kd.R_mono (Kd.R_far (p := ⟨gb471, 2, none⟩) (Kd.R_far (p := ⟨gb471, 1, none⟩) (Kd.R_far (p := ⟨gb471, 0, none⟩) (Kd.R_types HO457.out BK471.out (by decide)) (fun _ hk => hk.2) (.bool t463)) (fun _ hk => hk.2) (.slice Ao42 t464.length co42)) (fun _ hk => hk.2) (.slice Ao43 t467.length co43)) (fun _ hk => ⟨hk.1.1.1, ⟨hk.1.1.2, hk.1.2⟩⟩)⟩, ⟨by (with_reducible repeat (first | apply Kd.R_alloc | apply Kd.R_drewN | apply Kd.R_drew)); exact Kd.R_mono (Kd.R_far (p := ⟨gb471, 2, none⟩) (Kd.R_far (p := ⟨gb471, 1, none⟩) (Kd.R_far (p := ⟨gb471, 0, none⟩) (Kd.R_types HO460.out BK471.out (by decide)) (fun _ hk => hk.2) (.bool t463)) (fun _ hk => hk.2) (.slice Ao42 t464.length co42)) (fun _ hk => hk.2) (.slice Ao43 t467.length co43)) (fun _ hk => ⟨hk.1.1.1, ⟨hk.1.1.2, hk.1.2⟩⟩)⟩, ⟨by (with_reducible repeat (first | apply Kd.R_alloc | apply Kd.R_drewN | apply Kd.R_drew)); exact Kd.R_mono (Kd.R_far (p := ⟨gb471, 2, none⟩) (Kd.R_far (p := ⟨gb471, 1, none⟩) (Kd.R_far (p := ⟨gb471, 0, none⟩) (Kd.R_types HO466.out BK471.out (by decide)) (fun _ hk => hk.2) (.bool t463)) (fun _ hk => hk.2) (.slice Ao42 t464.length co42)) (fun _ hk => hk.2) (.slice Ao43 t467.length co43)) (fun _ hk => ⟨hk.1.1.2, ⟨hk.1.2, hk.1.1.1⟩⟩)⟩, ⟨by (with_reducible repeat (first | apply Kd.R_alloc | apply Kd.R_drewN | apply Kd.R_drew)); exact Kd.R_mono (Kd.R_far (p := ⟨gb471, 2, none⟩) (Kd.R_far (p := ⟨gb471, 1, none⟩) (Kd.R_far (p := ⟨gb471, 0, none⟩) (Kd.R_types HO469.out BK471.out (by decide)) (fun _ hk => hk.2) (.bool t463)) (fun _ hk => hk.2) (.slice Ao42 t464.length co42)) (fun _ hk => hk.2) (.slice Ao43 t467.length co43)) (fun _ hk => ⟨hk.1.1.2, ⟨hk.1.2, hk.1.1.1⟩⟩)⟩, ⟨dQ1 BK462.out NB462_471.out⟩, ⟨dP BK471.out⟩, ⟨eB⟩⟩
  case rest =>
   clear HC32
   try clear c5
   try clear c5b0
   try clear hcz35_0
   try clear hcz35_1
   try clear hcz35_2
   try clear hcz41_0
   try clear hcz41_1
   try clear hcz41_2
   try clear hfz35_0
   try clear hfz35_1
   try clear hfz35_2
   try clear hfz41_0
   try clear hfz41_1
   try clear hfz41_2
   obtain ⟨kq, x77_31, rfl, HA, HJ31, HO_463001, HO_463002, HO_472001, HO_472002, BK462, BK471, HB⟩ := hcut
   cases kq with
   | zero => exact absurd HA.out (by simp [plumblaw07_NearBack.j0])
   | succ kj31 =>
    have H := HA.out
    clear HA
    simp only [plumblaw07_NearBack.j0] at H
    by_cases c59 : x77_31 = true
    ·subst c59
     rw [if_pos rfl] at H
     (try dsimp only at H)
     exact absurd H (by simp)
    ·replace c59 := Bool.eq_false_iff.mpr c59
     subst c59
     rw [if_neg (show ¬ (false = true) by decide)] at H
     (try dsimp only at H)
     replace H := obe H
     obtain ⟨⟨t487, t488, t491, t494⟩, A600, H⟩ := H
     (try dsimp only at H)
     have A60 := aM A600
     clear A600
     replace H := obe H
     obtain ⟨⟨t496, t497, t500, t503⟩, A610, H⟩ := H
     (try dsimp only at H)
     have A61 := aM A610
     clear A610
     have HC62 := aM H
     clear H
     go_upto_region 10 with (first | ((with_reducible refine gate_callee (f := 33) rfl ?_); refine gL (some 81) Tryd.func33 #[.int .u64 (Go.bits .xor .u64 a0 9223372036854775808)] ?_; (with_reducible refine (near_Value.calls kj31 (Go.bits .xor .u64 a0 9223372036854775808) t487 t488 t491 t494 _ A60.out).mono ?_); rintro e w63 ⟨v489, v492, rfl, ho0, ho1, hb⟩; refine ⟨_, rfl, ?_⟩; have HO490 := aM (Kd.R_lower (Kd.R_new' (Kd.R_new' (Kd.R_new' (Kd.R_new' ho0 (Kd.R_lt (dR HO_463001.out))) (Kd.R_lt (dR HO_463002.out))) (Kd.R_lt (dR HO_472001.out))) (Kd.R_lt (dR HO_472002.out))) (below_size eB)); have HO493 := aM (Kd.R_lower (Kd.R_new' (Kd.R_new' (Kd.R_new' (Kd.R_new' ho1 (Kd.R_lt (dR HO_463001.out))) (Kd.R_lt (dR HO_463002.out))) (Kd.R_lt (dR HO_472001.out))) (Kd.R_lt (dR HO_472002.out))) (below_size eB)); replace HO_463001 := aM (Kd.R_mono (Kd.R_told (Kd.R_told (Kd.R_old (dR HO_463001.out) hb) (Kd.R_base ho0)) (Kd.R_base ho1)) (fun _ h_ => h_.1)); replace HO_463002 := aM (Kd.R_mono (Kd.R_told (Kd.R_told (Kd.R_old (dR HO_463002.out) hb) (Kd.R_base ho0)) (Kd.R_base ho1)) (fun _ h_ => h_.1)); replace HO_472001 := aM (Kd.R_mono (Kd.R_told (Kd.R_told (Kd.R_old (dR HO_472001.out) hb) (Kd.R_base ho0)) (Kd.R_base ho1)) (fun _ h_ => h_.1)); replace HO_472002 := aM (Kd.R_mono (Kd.R_told (Kd.R_told (Kd.R_old (dR HO_472002.out) hb) (Kd.R_base ho0)) (Kd.R_base ho1)) (fun _ h_ => h_.1)); replace BK462 := bB BK462.out hb; replace BK471 := bB BK471.out hb; replace HB := hS HB.out hb; (try clear hb); (try clear ho0); (try clear ho1)) | ((with_reducible refine gate_dst (N := 9) rfl ?_); (try (refine gate_guard (by rfl) ?_; dsimp only)); refine bE 9 #[.bool false, .slice none 0 0, .slice none 0 0] 46 ?_; intro gb495 hg w64 hbox hb; replace HO_463001 := oB HO_463001.out hb; replace HO_463002 := oB HO_463002.out hb; replace HO_472001 := oB HO_472001.out hb; replace HO_472002 := oB HO_472002.out hb; replace HO490 := oB HO490.out hb; replace HO493 := oB HO493.out hb; have BK495 := aM (hbox); have GE495 : Aside0 (w.heap.size ≤ gb495) := gE hg; replace HB := hS HB.out hb; have NB462_495 := nL hg BK462.out; have NB495_462 := nG hg BK462.out; replace BK462 := bB BK462.out hb; have NB471_495 := nL hg BK471.out; have NB495_471 := nG hg BK471.out; replace BK471 := bB BK471.out hb; clear hb hbox hg; have hnb65 := NB495_462.out; have hnc65 := NB462_495.out; have hnb66 := NB495_471.out; have hnc66 := NB471_495.out; obtain ⟨hcz67_0, hcz67_1, hcz67_2⟩ := cz3 BK495.out; obtain ⟨hfz67_0, hfz67_1, hfz67_2⟩ := fz3 BK495.out; obtain ⟨Ao68, co68, rfl⟩ := Kd.R_slice HO490.out; obtain ⟨Ao69, co69, rfl⟩ := Kd.R_slice HO493.out; have hnb70 := NB462_471.out; have hnc70 := NB471_462.out; obtain ⟨hcz71_0, hcz71_1, hcz71_2⟩ := cz3 BK462.out; obtain ⟨hfz71_0, hfz71_1, hfz71_2⟩ := fz3 BK462.out) | ((with_reducible refine gate_callee (f := 36) rfl ?_); refine gL (some 87) Tryd.func36 #[.agg #[.bool t454, .slice Ao36 t455.length co36, .slice Ao37 t458.length co37], .agg #[.bool t487, .slice Ao68 t488.length co68, .slice Ao69 t491.length co69]] ?_; (with_reducible refine (rat_Add.calls kj31 t454 _ _ t455 _ _ t458 t487 _ _ t488 _ _ t491 t496 t497 t500 t503 _ ?side1 (Kd.R_reads' HO_463001.out).2.1 ?side3 (Kd.R_reads' HO_463002.out).2.1 ?side5 (Kd.R_reads' HO490.out).2.1 ?side7 (Kd.R_reads' HO493.out).2.1 A61.out).mono ?_); (case side1 => refine (Kd.R_reads' (e := 26) (base := w.heap.size) (ok := fun k_ => (((some k_ ≠ (.slice Ao37 t458.length co37 : Value).ownBlock ∧ (some k_ ≠ (.slice Ao42 t464.length co42 : Value).ownBlock ∧ some k_ ≠ (.slice Ao43 t467.length co43 : Value).ownBlock)) ∧ some k_ ≠ (.slice Ao68 t488.length co68 : Value).ownBlock) ∧ some k_ ≠ (.slice Ao69 t491.length co69 : Value).ownBlock)) (n := t455.length) (c := co36) ?_).2.2; exact (by (with_reducible repeat (first | apply Kd.R_alloc | apply Kd.R_drewN | apply Kd.R_drew)); exact (rX HO_463001.out BK495.out))); (case side3 => refine (Kd.R_reads' (e := 26) (base := w.heap.size) (ok := fun k_ => (((some k_ ≠ (.slice Ao36 t455.length co36 : Value).ownBlock ∧ (some k_ ≠ (.slice Ao42 t464.length co42 : Value).ownBlock ∧ some k_ ≠ (.slice Ao43 t467.length co43 : Value).ownBlock)) ∧ some k_ ≠ (.slice Ao68 t488.length co68 : Value).ownBlock) ∧ some k_ ≠ (.slice Ao69 t491.length co69 : Value).ownBlock)) (n := t458.length) (c := co37) ?_).2.2; exact (by (with_reducible repeat (first | apply Kd.R_alloc | apply Kd.R_drewN | apply Kd.R_drew)); exact (rX HO_463002.out BK495.out))); (case side5 => refine (Kd.R_reads' (e := 26) (base := w.heap.size) (ok := fun k_ => ((((some k_ ≠ (.slice Ao69 t491.length co69 : Value).ownBlock ∧ some k_ ≠ (.slice Ao36 t455.length co36 : Value).ownBlock) ∧ some k_ ≠ (.slice Ao37 t458.length co37 : Value).ownBlock) ∧ some k_ ≠ (.slice Ao42 t464.length co42 : Value).ownBlock) ∧ some k_ ≠ (.slice Ao43 t467.length co43 : Value).ownBlock)) (n := t488.length) (c := co68) ?_).2.2; exact (by (with_reducible repeat (first | apply Kd.R_alloc | apply Kd.R_drewN | apply Kd.R_drew)); exact (rX HO490.out BK495.out))); (case side7 => refine (Kd.R_reads' (e := 26) (base := w.heap.size) (ok := fun k_ => ((((some k_ ≠ (.slice Ao68 t488.length co68 : Value).ownBlock ∧ some k_ ≠ (.slice Ao36 t455.length co36 : Value).ownBlock) ∧ some k_ ≠ (.slice Ao37 t458.length co37 : Value).ownBlock) ∧ some k_ ≠ (.slice Ao42 t464.length co42 : Value).ownBlock) ∧ some k_ ≠ (.slice Ao43 t467.length co43 : Value).ownBlock)) (n := t491.length) (c := co69) ?_).2.2; exact (by (with_reducible repeat (first | apply Kd.R_alloc | apply Kd.R_drewN | apply Kd.R_drew)); exact (rX HO493.out BK495.out))); rintro e w72 ⟨v498, v501, rfl, ho0, ho1, hb⟩; refine ⟨_, rfl, ?_⟩; have HO499 := aM (Kd.R_lower (Kd.R_new' (Kd.R_new' (Kd.R_new' (Kd.R_new' (Kd.R_new' (Kd.R_new' ho0 (Kd.R_lt (by (with_reducible repeat (first | apply Kd.R_alloc | apply Kd.R_drewN | apply Kd.R_drew)); exact (rX HO_463001.out BK495.out)))) (Kd.R_lt (by (with_reducible repeat (first | apply Kd.R_alloc | apply Kd.R_drewN | apply Kd.R_drew)); exact (rX HO_463002.out BK495.out)))) (Kd.R_lt (by (with_reducible repeat (first | apply Kd.R_alloc | apply Kd.R_drewN | apply Kd.R_drew)); exact (rX HO_472001.out BK495.out)))) (Kd.R_lt (by (with_reducible repeat (first | apply Kd.R_alloc | apply Kd.R_drewN | apply Kd.R_drew)); exact (rX HO_472002.out BK495.out)))) (Kd.R_lt (by (with_reducible repeat (first | apply Kd.R_alloc | apply Kd.R_drewN | apply Kd.R_drew)); exact (rX HO490.out BK495.out)))) (Kd.R_lt (by (with_reducible repeat (first | apply Kd.R_alloc | apply Kd.R_drewN | apply Kd.R_drew)); exact (rX HO493.out BK495.out)))) (below_size eB)); have HO502 := aM (Kd.R_lower (Kd.R_new' (Kd.R_new' (Kd.R_new' (Kd.R_new' (Kd.R_new' (Kd.R_new' ho1 (Kd.R_lt (by (with_reducible repeat (first | apply Kd.R_alloc | apply Kd.R_drewN | apply Kd.R_drew)); exact (rX HO_463001.out BK495.out)))) (Kd.R_lt (by (with_reducible repeat (first | apply Kd.R_alloc | apply Kd.R_drewN | apply Kd.R_drew)); exact (rX HO_463002.out BK495.out)))) (Kd.R_lt (by (with_reducible repeat (first | apply Kd.R_alloc | apply Kd.R_drewN | apply Kd.R_drew)); exact (rX HO_472001.out BK495.out)))) (Kd.R_lt (by (with_reducible repeat (first | apply Kd.R_alloc | apply Kd.R_drewN | apply Kd.R_drew)); exact (rX HO_472002.out BK495.out)))) (Kd.R_lt (by (with_reducible repeat (first | apply Kd.R_alloc | apply Kd.R_drewN | apply Kd.R_drew)); exact (rX HO490.out BK495.out)))) (Kd.R_lt (by (with_reducible repeat (first | apply Kd.R_alloc | apply Kd.R_drewN | apply Kd.R_drew)); exact (rX HO493.out BK495.out)))) (below_size eB)); replace HO_463001 := aM (Kd.R_mono (Kd.R_told (Kd.R_told (Kd.R_old (by (with_reducible repeat (first | apply Kd.R_alloc | apply Kd.R_drewN | apply Kd.R_drew)); exact (rX HO_463001.out BK495.out)) hb) (Kd.R_base ho0)) (Kd.R_base ho1)) (fun _ h_ => h_.1)); replace HO_463002 := aM (Kd.R_mono (Kd.R_told (Kd.R_told (Kd.R_old (by (with_reducible repeat (first | apply Kd.R_alloc | apply Kd.R_drewN | apply Kd.R_drew)); exact (rX HO_463002.out BK495.out)) hb) (Kd.R_base ho0)) (Kd.R_base ho1)) (fun _ h_ => h_.1)); replace HO_472001 := aM (Kd.R_mono (Kd.R_told (Kd.R_told (Kd.R_old (by (with_reducible repeat (first | apply Kd.R_alloc | apply Kd.R_drewN | apply Kd.R_drew)); exact (rX HO_472001.out BK495.out)) hb) (Kd.R_base ho0)) (Kd.R_base ho1)) (fun _ h_ => h_.1)); replace HO_472002 := aM (Kd.R_mono (Kd.R_told (Kd.R_told (Kd.R_old (by (with_reducible repeat (first | apply Kd.R_alloc | apply Kd.R_drewN | apply Kd.R_drew)); exact (rX HO_472002.out BK495.out)) hb) (Kd.R_base ho0)) (Kd.R_base ho1)) (fun _ h_ => h_.1)); replace HO490 := aM (Kd.R_mono (Kd.R_told (Kd.R_told (Kd.R_old (by (with_reducible repeat (first | apply Kd.R_alloc | apply Kd.R_drewN | apply Kd.R_drew)); exact (rX HO490.out BK495.out)) hb) (Kd.R_base ho0)) (Kd.R_base ho1)) (fun _ h_ => h_.1)); replace HO493 := aM (Kd.R_mono (Kd.R_told (Kd.R_told (Kd.R_old (by (with_reducible repeat (first | apply Kd.R_alloc | apply Kd.R_drewN | apply Kd.R_drew)); exact (rX HO493.out BK495.out)) hb) (Kd.R_base ho0)) (Kd.R_base ho1)) (fun _ h_ => h_.1)); replace BK462 := aM (blk_below (g := gb462) (o := .cells #[.bool t454, .slice Ao36 t455.length co36, .slice Ao37 t458.length co37] 46 (0, 0)) (dQ1 BK462.out NB462_495.out) hb); replace BK471 := aM (blk_below (g := gb471) (o := .cells #[.bool t463, .slice Ao42 t464.length co42, .slice Ao43 t467.length co43] 46 (0, 0)) (dQ1 BK471.out NB471_495.out) hb); replace BK495 := aM (blk_below (g := gb495) (o := .cells #[.bool t487, .slice Ao68 t488.length co68, .slice Ao69 t491.length co69] 46 (0, 0)) (dP BK495.out) hb); replace HB := hS HB.out hb; (try clear hb); (try clear ho0); (try clear ho1)) | ((with_reducible refine gate_dst (N := 11) rfl ?_); (try (refine gate_guard (by rfl) ?_; dsimp only)); refine bE 11 #[.bool false, .slice none 0 0, .slice none 0 0] 46 ?_; intro gb504 hg w73 hbox hb; replace HO_463001 := oB HO_463001.out hb; replace HO_463002 := oB HO_463002.out hb; replace HO_472001 := oB HO_472001.out hb; replace HO_472002 := oB HO_472002.out hb; replace HO490 := oB HO490.out hb; replace HO493 := oB HO493.out hb; replace HO499 := oB HO499.out hb; replace HO502 := oB HO502.out hb; have BK504 := aM (hbox); have GE504 : Aside0 (w.heap.size ≤ gb504) := gE hg; replace HB := hS HB.out hb; have NB462_504 := nL hg BK462.out; have NB504_462 := nG hg BK462.out; replace BK462 := bB BK462.out hb; have NB471_504 := nL hg BK471.out; have NB504_471 := nG hg BK471.out; replace BK471 := bB BK471.out hb; have NB495_504 := nL hg BK495.out; have NB504_495 := nG hg BK495.out; replace BK495 := bB BK495.out hb; clear hb hbox hg; have hnb74 := NB504_462.out; have hnc74 := NB462_504.out; have hnb75 := NB504_471.out; have hnc75 := NB471_504.out; have hnb76 := NB504_495.out; have hnc76 := NB495_504.out; obtain ⟨hcz77_0, hcz77_1, hcz77_2⟩ := cz3 BK504.out; obtain ⟨hfz77_0, hfz77_1, hfz77_2⟩ := fz3 BK504.out; obtain ⟨Ao78, co78, rfl⟩ := Kd.R_slice HO499.out; obtain ⟨Ao79, co79, rfl⟩ := Kd.R_slice HO502.out))
     (try simp only [Act.put, List.setIfInBounds_toArray, List.set_cons_zero, List.set_cons_succ])
     go_cut [102] (fun v102 wc => ∃ (kq : Nat) (x102_61 : Bool), v102 = .bool x102_61 ∧ Aside0 (plumblaw07_NearBack.j1 kq a0 x102_61 t454 t455 t458 = some r) ∧ Aside0 (kq ≤ kj31) ∧ Aside0 (Kd.R (Kd.int .u64) 26 wc w.heap.size (fun k_ => some k_ ≠ ((.slice Ao37 t458.length co37) : Value).ownBlock ∧ some k_ ≠ ((.slice Ao42 t464.length co42) : Value).ownBlock ∧ some k_ ≠ ((.slice Ao43 t467.length co43) : Value).ownBlock ∧ some k_ ≠ ((.slice Ao68 t488.length co68) : Value).ownBlock ∧ some k_ ≠ ((.slice Ao69 t491.length co69) : Value).ownBlock ∧ some k_ ≠ ((.slice Ao78 t497.length co78) : Value).ownBlock ∧ some k_ ≠ ((.slice Ao79 t500.length co79) : Value).ownBlock) (.slice Ao36 t455.length co36) t455) ∧ Aside0 (Kd.R (Kd.int .u64) 26 wc w.heap.size (fun k_ => some k_ ≠ ((.slice Ao36 t455.length co36) : Value).ownBlock ∧ some k_ ≠ ((.slice Ao42 t464.length co42) : Value).ownBlock ∧ some k_ ≠ ((.slice Ao43 t467.length co43) : Value).ownBlock ∧ some k_ ≠ ((.slice Ao68 t488.length co68) : Value).ownBlock ∧ some k_ ≠ ((.slice Ao69 t491.length co69) : Value).ownBlock ∧ some k_ ≠ ((.slice Ao78 t497.length co78) : Value).ownBlock ∧ some k_ ≠ ((.slice Ao79 t500.length co79) : Value).ownBlock) (.slice Ao37 t458.length co37) t458) ∧ Aside0 (Kd.R (Kd.int .u64) 26 wc w.heap.size (fun k_ => some k_ ≠ ((.slice Ao36 t455.length co36) : Value).ownBlock ∧ some k_ ≠ ((.slice Ao37 t458.length co37) : Value).ownBlock ∧ some k_ ≠ ((.slice Ao43 t467.length co43) : Value).ownBlock ∧ some k_ ≠ ((.slice Ao68 t488.length co68) : Value).ownBlock ∧ some k_ ≠ ((.slice Ao69 t491.length co69) : Value).ownBlock ∧ some k_ ≠ ((.slice Ao78 t497.length co78) : Value).ownBlock ∧ some k_ ≠ ((.slice Ao79 t500.length co79) : Value).ownBlock) (.slice Ao42 t464.length co42) t464) ∧ Aside0 (Kd.R (Kd.int .u64) 26 wc w.heap.size (fun k_ => some k_ ≠ ((.slice Ao36 t455.length co36) : Value).ownBlock ∧ some k_ ≠ ((.slice Ao37 t458.length co37) : Value).ownBlock ∧ some k_ ≠ ((.slice Ao42 t464.length co42) : Value).ownBlock ∧ some k_ ≠ ((.slice Ao68 t488.length co68) : Value).ownBlock ∧ some k_ ≠ ((.slice Ao69 t491.length co69) : Value).ownBlock ∧ some k_ ≠ ((.slice Ao78 t497.length co78) : Value).ownBlock ∧ some k_ ≠ ((.slice Ao79 t500.length co79) : Value).ownBlock) (.slice Ao43 t467.length co43) t467) ∧ Aside0 (Kd.R (Kd.int .u64) 26 wc w.heap.size (fun k_ => some k_ ≠ ((.slice Ao36 t455.length co36) : Value).ownBlock ∧ some k_ ≠ ((.slice Ao37 t458.length co37) : Value).ownBlock ∧ some k_ ≠ ((.slice Ao42 t464.length co42) : Value).ownBlock ∧ some k_ ≠ ((.slice Ao43 t467.length co43) : Value).ownBlock ∧ some k_ ≠ ((.slice Ao69 t491.length co69) : Value).ownBlock ∧ some k_ ≠ ((.slice Ao78 t497.length co78) : Value).ownBlock ∧ some k_ ≠ ((.slice Ao79 t500.length co79) : Value).ownBlock) (.slice Ao68 t488.length co68) t488) ∧ Aside0 (Kd.R (Kd.int .u64) 26 wc w.heap.size (fun k_ => some k_ ≠ ((.slice Ao36 t455.length co36) : Value).ownBlock ∧ some k_ ≠ ((.slice Ao37 t458.length co37) : Value).ownBlock ∧ some k_ ≠ ((.slice Ao42 t464.length co42) : Value).ownBlock ∧ some k_ ≠ ((.slice Ao43 t467.length co43) : Value).ownBlock ∧ some k_ ≠ ((.slice Ao68 t488.length co68) : Value).ownBlock ∧ some k_ ≠ ((.slice Ao78 t497.length co78) : Value).ownBlock ∧ some k_ ≠ ((.slice Ao79 t500.length co79) : Value).ownBlock) (.slice Ao69 t491.length co69) t491) ∧ Aside0 (Kd.R (Kd.int .u64) 26 wc w.heap.size (fun k_ => some k_ ≠ ((.slice Ao36 t455.length co36) : Value).ownBlock ∧ some k_ ≠ ((.slice Ao37 t458.length co37) : Value).ownBlock ∧ some k_ ≠ ((.slice Ao42 t464.length co42) : Value).ownBlock ∧ some k_ ≠ ((.slice Ao43 t467.length co43) : Value).ownBlock ∧ some k_ ≠ ((.slice Ao68 t488.length co68) : Value).ownBlock ∧ some k_ ≠ ((.slice Ao69 t491.length co69) : Value).ownBlock ∧ some k_ ≠ ((.slice Ao79 t500.length co79) : Value).ownBlock) (.slice Ao78 t497.length co78) t497) ∧ Aside0 (Kd.R (Kd.int .u64) 26 wc w.heap.size (fun k_ => some k_ ≠ ((.slice Ao36 t455.length co36) : Value).ownBlock ∧ some k_ ≠ ((.slice Ao37 t458.length co37) : Value).ownBlock ∧ some k_ ≠ ((.slice Ao42 t464.length co42) : Value).ownBlock ∧ some k_ ≠ ((.slice Ao43 t467.length co43) : Value).ownBlock ∧ some k_ ≠ ((.slice Ao68 t488.length co68) : Value).ownBlock ∧ some k_ ≠ ((.slice Ao69 t491.length co69) : Value).ownBlock ∧ some k_ ≠ ((.slice Ao78 t497.length co78) : Value).ownBlock) (.slice Ao79 t500.length co79) t500) ∧ Aside0 (wc.heap[gb462]? = some (.cells #[.bool t454, (.slice Ao36 t455.length co36), (.slice Ao37 t458.length co37)] 46 (0, 0))) ∧ Aside0 (wc.heap[gb471]? = some (.cells #[.bool t463, (.slice Ao42 t464.length co42), (.slice Ao43 t467.length co43)] 46 (0, 0))) ∧ Aside0 (wc.heap[gb495]? = some (.cells #[.bool t487, (.slice Ao68 t488.length co68), (.slice Ao69 t491.length co69)] 46 (0, 0))) ∧ Aside0 (wc.heap[gb504]? = some (.cells #[.bool t496, (.slice Ao78 t497.length co78), (.slice Ao79 t500.length co79)] 46 (0, 0))) ∧ Aside0 (Below w.heap.size w wc))
     case first =>
      have H := HC62.out
      clear HC62
      replace H := obe H
      obtain ⟨t505, A800, H⟩ := H
      (try dsimp only at H)
      have A80 := aM A800
      clear A800
      by_cases c81 : t505 = 0
      ·rw [if_pos c81] at H
       have c81b0 : (t505 == 0) = true := beq_iff_eq.mpr c81
       have c81b1 : (t505 != 0) = false := bne_eq_false_iff_eq.mpr c81
       clear c81
       (first | rw [c81b0] | (simp only [i64_w, i32_w]; rw [c81b0]) | skip)
       replace H := obe H
       obtain ⟨t506, A820, H⟩ := H
       (try dsimp only at H)
       have A82 := aM A820
       clear A820
       by_cases c83 : t506 = 0
       ·rw [if_pos c83] at H
        have c83b0 : (t506 == 0) = true := beq_iff_eq.mpr c83
        have c83b1 : (t506 != 0) = false := bne_eq_false_iff_eq.mpr c83
        clear c83
        replace H := obe H
        obtain ⟨t507, A840, H⟩ := H
        (try dsimp only at H)
        have A84 := aM A840
        clear A840
        have H' := aM H
        clear H
        go_wp2_with (first | ((with_reducible refine gate_callee (f := 15) rfl ?_); refine gL (some 91) Tryd.func15 #[.int .i64 t494] ?_; (with_reducible refine (plumblaw07_num.calls t494 t505 _ A80.out).mono ?_); rintro e w' ⟨rfl, ⟨nd, rfl⟩⟩; refine ⟨_, rfl, ?_⟩) | (go_at_call 15; (with_reducible refine (plumblaw07_num.calls t503 t506 _ A82.out).mono ?_); rintro e w' ⟨rfl, ⟨nd, rfl⟩⟩; have hnb85 := NB504_462.out; have hnc85 := NB462_504.out; have hnb86 := NB504_471.out; have hnc86 := NB471_504.out; have hnb87 := NB504_495.out; have hnc87 := NB495_504.out; obtain ⟨hcz88_0, hcz88_1, hcz88_2⟩ := cz3 BK504.out; obtain ⟨hfz88_0, hfz88_1, hfz88_2⟩ := fz3 BK504.out) | (go_at_call 37; (with_reducible refine (rat_Sign.calls kj31 t496 _ _ t497 _ _ t500 t507 _ ?side1 (Kd.R_reads' HO499.out).2.1 ?side3 (Kd.R_reads' HO502.out).2.1 A84.out).mono ?_); (case side1 => refine (Kd.R_reads' (e := 26) (base := w.heap.size) (ok := fun k_ => ((((((some k_ ≠ (.slice Ao79 t500.length co79 : Value).ownBlock ∧ some k_ ≠ (.slice Ao36 t455.length co36 : Value).ownBlock) ∧ some k_ ≠ (.slice Ao37 t458.length co37 : Value).ownBlock) ∧ some k_ ≠ (.slice Ao42 t464.length co42 : Value).ownBlock) ∧ some k_ ≠ (.slice Ao43 t467.length co43 : Value).ownBlock) ∧ some k_ ≠ (.slice Ao68 t488.length co68 : Value).ownBlock) ∧ some k_ ≠ (.slice Ao69 t491.length co69 : Value).ownBlock)) (n := t497.length) (c := co78) ?_).2.2; exact (by (with_reducible repeat (first | apply Kd.R_alloc | apply Kd.R_drewN | apply Kd.R_drew)); exact (rX HO499.out BK504.out))); (case side3 => refine (Kd.R_reads' (e := 26) (base := w.heap.size) (ok := fun k_ => ((((((some k_ ≠ (.slice Ao78 t497.length co78 : Value).ownBlock ∧ some k_ ≠ (.slice Ao36 t455.length co36 : Value).ownBlock) ∧ some k_ ≠ (.slice Ao37 t458.length co37 : Value).ownBlock) ∧ some k_ ≠ (.slice Ao42 t464.length co42 : Value).ownBlock) ∧ some k_ ≠ (.slice Ao43 t467.length co43 : Value).ownBlock) ∧ some k_ ≠ (.slice Ao68 t488.length co68 : Value).ownBlock) ∧ some k_ ≠ (.slice Ao69 t491.length co69 : Value).ownBlock)) (n := t500.length) (c := co79) ?_).2.2; exact (by (with_reducible repeat (first | apply Kd.R_alloc | apply Kd.R_drewN | apply Kd.R_drew)); exact (rX HO502.out BK504.out))); rintro e w89 ⟨rfl, hb⟩; replace HO_463001 := oX HO_463001.out BK504.out hb; replace HO_463002 := oX HO_463002.out BK504.out hb; replace HO_472001 := oX HO_472001.out BK504.out hb; replace HO_472002 := oX HO_472002.out BK504.out hb; replace HO490 := oX HO490.out BK504.out hb; replace HO493 := oX HO493.out BK504.out hb; replace HO499 := oX HO499.out BK504.out hb; replace HO502 := oX HO502.out BK504.out hb; replace BK462 := aM (blk_below (g := gb462) (o := .cells #[.bool t454, .slice Ao36 t455.length co36, .slice Ao37 t458.length co37] 46 (0, 0)) (dQ1 BK462.out NB462_504.out) hb); replace BK471 := aM (blk_below (g := gb471) (o := .cells #[.bool t463, .slice Ao42 t464.length co42, .slice Ao43 t467.length co43] 46 (0, 0)) (dQ1 BK471.out NB471_504.out) hb); replace BK495 := aM (blk_below (g := gb495) (o := .cells #[.bool t487, .slice Ao68 t488.length co68, .slice Ao69 t491.length co69] 46 (0, 0)) (dQ1 BK495.out NB495_504.out) hb); replace BK504 := aM (blk_below (g := gb504) (o := .cells #[.bool t496, .slice Ao78 t497.length co78, .slice Ao79 t500.length co79] 46 (0, 0)) (dP BK504.out) hb); replace HB := hS HB.out hb; (try clear hb)))
        go_meet
        case rel => exact ⟨_, ((t507 != 0)), dF, H', ⟨by have := HJ31.out; first | omega | exact Nat.le_refl _⟩, ⟨by (with_reducible repeat (first | apply Kd.R_alloc | apply Kd.R_drewN | apply Kd.R_drew)); exact Kd.R_mono HO_463001.out (fun _ hk => ⟨hk.1.1.1.1.1, ⟨hk.1.1.1.1.2.1, ⟨hk.1.1.1.1.2.2, ⟨hk.1.1.1.2, ⟨hk.1.1.2, ⟨hk.1.2, hk.2⟩⟩⟩⟩⟩⟩)⟩, ⟨by (with_reducible repeat (first | apply Kd.R_alloc | apply Kd.R_drewN | apply Kd.R_drew)); exact Kd.R_mono HO_463002.out (fun _ hk => ⟨hk.1.1.1.1.1, ⟨hk.1.1.1.1.2.1, ⟨hk.1.1.1.1.2.2, ⟨hk.1.1.1.2, ⟨hk.1.1.2, ⟨hk.1.2, hk.2⟩⟩⟩⟩⟩⟩)⟩, ⟨by (with_reducible repeat (first | apply Kd.R_alloc | apply Kd.R_drewN | apply Kd.R_drew)); exact Kd.R_mono HO_472001.out (fun _ hk => ⟨hk.1.1.1.1.1, ⟨hk.1.1.1.1.2.1, ⟨hk.1.1.1.1.2.2, ⟨hk.1.1.1.2, ⟨hk.1.1.2, ⟨hk.1.2, hk.2⟩⟩⟩⟩⟩⟩)⟩, ⟨by (with_reducible repeat (first | apply Kd.R_alloc | apply Kd.R_drewN | apply Kd.R_drew)); exact Kd.R_mono HO_472002.out (fun _ hk => ⟨hk.1.1.1.1.1, ⟨hk.1.1.1.1.2.1, ⟨hk.1.1.1.1.2.2, ⟨hk.1.1.1.2, ⟨hk.1.1.2, ⟨hk.1.2, hk.2⟩⟩⟩⟩⟩⟩)⟩, ⟨by (with_reducible repeat (first | apply Kd.R_alloc | apply Kd.R_drewN | apply Kd.R_drew)); exact Kd.R_mono HO490.out (fun _ hk => ⟨hk.1.1.1.1.1.2, ⟨hk.1.1.1.1.2, ⟨hk.1.1.1.2, ⟨hk.1.1.2, ⟨hk.1.1.1.1.1.1, ⟨hk.1.2, hk.2⟩⟩⟩⟩⟩⟩)⟩, ⟨by (with_reducible repeat (first | apply Kd.R_alloc | apply Kd.R_drewN | apply Kd.R_drew)); exact Kd.R_mono HO493.out (fun _ hk => ⟨hk.1.1.1.1.1.2, ⟨hk.1.1.1.1.2, ⟨hk.1.1.1.2, ⟨hk.1.1.2, ⟨hk.1.1.1.1.1.1, ⟨hk.1.2, hk.2⟩⟩⟩⟩⟩⟩)⟩, ⟨by (with_reducible repeat (first | apply Kd.R_alloc | apply Kd.R_drewN | apply Kd.R_drew)); exact Kd.R_mono HO499.out (fun _ hk => ⟨hk.1.1.1.1.1.2, ⟨hk.1.1.1.1.2, ⟨hk.1.1.1.2, ⟨hk.1.1.2, ⟨hk.1.2, ⟨hk.2, hk.1.1.1.1.1.1⟩⟩⟩⟩⟩⟩)⟩, ⟨by (with_reducible repeat (first | apply Kd.R_alloc | apply Kd.R_drewN | apply Kd.R_drew)); exact Kd.R_mono HO502.out (fun _ hk => ⟨hk.1.1.1.1.1.2, ⟨hk.1.1.1.1.2, ⟨hk.1.1.1.2, ⟨hk.1.1.2, ⟨hk.1.2, ⟨hk.2, hk.1.1.1.1.1.1⟩⟩⟩⟩⟩⟩)⟩, ⟨dK BK462.out⟩, ⟨dK BK471.out⟩, ⟨dK BK495.out⟩, ⟨dK BK504.out⟩, ⟨eB⟩⟩
       ·rw [if_neg c83] at H
        have c83b0 : (t506 == 0) = false := beq_eq_false_iff_ne.mpr c83
        have c83b1 : (t506 != 0) = true := bne_iff_ne.mpr c83
        have H' := aM H
        clear H
        go_wp2_with (first | ((with_reducible refine gate_callee (f := 15) rfl ?_); refine gL (some 91) Tryd.func15 #[.int .i64 t494] ?_; (with_reducible refine (plumblaw07_num.calls t494 t505 _ A80.out).mono ?_); rintro e w' ⟨rfl, ⟨nd, rfl⟩⟩; refine ⟨_, rfl, ?_⟩) | (go_at_call 15; (with_reducible refine (plumblaw07_num.calls t503 t506 _ A82.out).mono ?_); rintro e w' ⟨rfl, ⟨nd, rfl⟩⟩))
        go_meet
        case rel => exact ⟨_, (true), dF, H', ⟨by have := HJ31.out; first | omega | exact Nat.le_refl _⟩, ⟨by (with_reducible repeat (first | apply Kd.R_alloc | apply Kd.R_drewN | apply Kd.R_drew)); exact Kd.R_mono (Kd.R_far (p := ⟨gb504, 2, none⟩) (Kd.R_far (p := ⟨gb504, 1, none⟩) (Kd.R_far (p := ⟨gb504, 0, none⟩) (Kd.R_types HO_463001.out BK504.out (by decide)) (fun _ hk => hk.2) (.bool t496)) (fun _ hk => hk.2) (.slice Ao78 t497.length co78)) (fun _ hk => hk.2) (.slice Ao79 t500.length co79)) (fun _ hk => ⟨hk.1.1.1.1.1.1, ⟨hk.1.1.1.1.1.2.1, ⟨hk.1.1.1.1.1.2.2, ⟨hk.1.1.1.1.2, ⟨hk.1.1.1.2, ⟨hk.1.1.2, hk.1.2⟩⟩⟩⟩⟩⟩)⟩, ⟨by (with_reducible repeat (first | apply Kd.R_alloc | apply Kd.R_drewN | apply Kd.R_drew)); exact Kd.R_mono (Kd.R_far (p := ⟨gb504, 2, none⟩) (Kd.R_far (p := ⟨gb504, 1, none⟩) (Kd.R_far (p := ⟨gb504, 0, none⟩) (Kd.R_types HO_463002.out BK504.out (by decide)) (fun _ hk => hk.2) (.bool t496)) (fun _ hk => hk.2) (.slice Ao78 t497.length co78)) (fun _ hk => hk.2) (.slice Ao79 t500.length co79)) (fun _ hk => ⟨hk.1.1.1.1.1.1, ⟨hk.1.1.1.1.1.2.1, ⟨hk.1.1.1.1.1.2.2, ⟨hk.1.1.1.1.2, ⟨hk.1.1.1.2, ⟨hk.1.1.2, hk.1.2⟩⟩⟩⟩⟩⟩)⟩, ⟨by (with_reducible repeat (first | apply Kd.R_alloc | apply Kd.R_drewN | apply Kd.R_drew)); exact Kd.R_mono (Kd.R_far (p := ⟨gb504, 2, none⟩) (Kd.R_far (p := ⟨gb504, 1, none⟩) (Kd.R_far (p := ⟨gb504, 0, none⟩) (Kd.R_types HO_472001.out BK504.out (by decide)) (fun _ hk => hk.2) (.bool t496)) (fun _ hk => hk.2) (.slice Ao78 t497.length co78)) (fun _ hk => hk.2) (.slice Ao79 t500.length co79)) (fun _ hk => ⟨hk.1.1.1.1.1.1, ⟨hk.1.1.1.1.1.2.1, ⟨hk.1.1.1.1.1.2.2, ⟨hk.1.1.1.1.2, ⟨hk.1.1.1.2, ⟨hk.1.1.2, hk.1.2⟩⟩⟩⟩⟩⟩)⟩, ⟨by (with_reducible repeat (first | apply Kd.R_alloc | apply Kd.R_drewN | apply Kd.R_drew)); exact Kd.R_mono (Kd.R_far (p := ⟨gb504, 2, none⟩) (Kd.R_far (p := ⟨gb504, 1, none⟩) (Kd.R_far (p := ⟨gb504, 0, none⟩) (Kd.R_types HO_472002.out BK504.out (by decide)) (fun _ hk => hk.2) (.bool t496)) (fun _ hk => hk.2) (.slice Ao78 t497.length co78)) (fun _ hk => hk.2) (.slice Ao79 t500.length co79)) (fun _ hk => ⟨hk.1.1.1.1.1.1, ⟨hk.1.1.1.1.1.2.1, ⟨hk.1.1.1.1.1.2.2, ⟨hk.1.1.1.1.2, ⟨hk.1.1.1.2, ⟨hk.1.1.2, hk.1.2⟩⟩⟩⟩⟩⟩)⟩, ⟨by (with_reducible repeat (first | apply Kd.R_alloc | apply Kd.R_drewN | apply Kd.R_drew)); exact Kd.R_mono (Kd.R_far (p := ⟨gb504, 2, none⟩) (Kd.R_far (p := ⟨gb504, 1, none⟩) (Kd.R_far (p := ⟨gb504, 0, none⟩) (Kd.R_types HO490.out BK504.out (by decide)) (fun _ hk => hk.2) (.bool t496)) (fun _ hk => hk.2) (.slice Ao78 t497.length co78)) (fun _ hk => hk.2) (.slice Ao79 t500.length co79)) (fun _ hk => ⟨hk.1.1.1.1.1.1.2, ⟨hk.1.1.1.1.1.2, ⟨hk.1.1.1.1.2, ⟨hk.1.1.1.2, ⟨hk.1.1.1.1.1.1.1, ⟨hk.1.1.2, hk.1.2⟩⟩⟩⟩⟩⟩)⟩, ⟨by (with_reducible repeat (first | apply Kd.R_alloc | apply Kd.R_drewN | apply Kd.R_drew)); exact Kd.R_mono (Kd.R_far (p := ⟨gb504, 2, none⟩) (Kd.R_far (p := ⟨gb504, 1, none⟩) (Kd.R_far (p := ⟨gb504, 0, none⟩) (Kd.R_types HO493.out BK504.out (by decide)) (fun _ hk => hk.2) (.bool t496)) (fun _ hk => hk.2) (.slice Ao78 t497.length co78)) (fun _ hk => hk.2) (.slice Ao79 t500.length co79)) (fun _ hk => ⟨hk.1.1.1.1.1.1.2, ⟨hk.1.1.1.1.1.2, ⟨hk.1.1.1.1.2, ⟨hk.1.1.1.2, ⟨hk.1.1.1.1.1.1.1, ⟨hk.1.1.2, hk.1.2⟩⟩⟩⟩⟩⟩)⟩, ⟨by (with_reducible repeat (first | apply Kd.R_alloc | apply Kd.R_drewN | apply Kd.R_drew)); exact Kd.R_mono (Kd.R_far (p := ⟨gb504, 2, none⟩) (Kd.R_far (p := ⟨gb504, 1, none⟩) (Kd.R_far (p := ⟨gb504, 0, none⟩) (Kd.R_types HO499.out BK504.out (by decide)) (fun _ hk => hk.2) (.bool t496)) (fun _ hk => hk.2) (.slice Ao78 t497.length co78)) (fun _ hk => hk.2) (.slice Ao79 t500.length co79)) (fun _ hk => ⟨hk.1.1.1.1.1.1.2, ⟨hk.1.1.1.1.1.2, ⟨hk.1.1.1.1.2, ⟨hk.1.1.1.2, ⟨hk.1.1.2, ⟨hk.1.2, hk.1.1.1.1.1.1.1⟩⟩⟩⟩⟩⟩)⟩, ⟨by (with_reducible repeat (first | apply Kd.R_alloc | apply Kd.R_drewN | apply Kd.R_drew)); exact Kd.R_mono (Kd.R_far (p := ⟨gb504, 2, none⟩) (Kd.R_far (p := ⟨gb504, 1, none⟩) (Kd.R_far (p := ⟨gb504, 0, none⟩) (Kd.R_types HO502.out BK504.out (by decide)) (fun _ hk => hk.2) (.bool t496)) (fun _ hk => hk.2) (.slice Ao78 t497.length co78)) (fun _ hk => hk.2) (.slice Ao79 t500.length co79)) (fun _ hk => ⟨hk.1.1.1.1.1.1.2, ⟨hk.1.1.1.1.1.2, ⟨hk.1.1.1.1.2, ⟨hk.1.1.1.2, ⟨hk.1.1.2, ⟨hk.1.2, hk.1.1.1.1.1.1.1⟩⟩⟩⟩⟩⟩)⟩, ⟨dQ1 BK462.out NB462_504.out⟩, ⟨dQ1 BK471.out NB471_504.out⟩, ⟨dQ1 BK495.out NB495_504.out⟩, ⟨dP BK504.out⟩, ⟨eB⟩⟩
      ·rw [if_neg c81] at H
       have c81b0 : (t505 == 0) = false := beq_eq_false_iff_ne.mpr c81
       have c81b1 : (t505 != 0) = true := bne_iff_ne.mpr c81
       (first | rw [c81b0] | (simp only [i64_w, i32_w]; rw [c81b0]) | skip)
       have H' := aM H
       clear H
       go_wp2_with (first | ((with_reducible refine gate_callee (f := 15) rfl ?_); refine gL (some 91) Tryd.func15 #[.int .i64 t494] ?_; (with_reducible refine (plumblaw07_num.calls t494 t505 _ A80.out).mono ?_); rintro e w' ⟨rfl, ⟨nd, rfl⟩⟩; refine ⟨_, rfl, ?_⟩))
       go_meet
       case rel => exact ⟨_, (true), dF, H', ⟨by have := HJ31.out; first | omega | exact Nat.le_refl _⟩, ⟨by (with_reducible repeat (first | apply Kd.R_alloc | apply Kd.R_drewN | apply Kd.R_drew)); exact Kd.R_mono (Kd.R_far (p := ⟨gb504, 2, none⟩) (Kd.R_far (p := ⟨gb504, 1, none⟩) (Kd.R_far (p := ⟨gb504, 0, none⟩) (Kd.R_types HO_463001.out BK504.out (by decide)) (fun _ hk => hk.2) (.bool t496)) (fun _ hk => hk.2) (.slice Ao78 t497.length co78)) (fun _ hk => hk.2) (.slice Ao79 t500.length co79)) (fun _ hk => ⟨hk.1.1.1.1.1.1, ⟨hk.1.1.1.1.1.2.1, ⟨hk.1.1.1.1.1.2.2, ⟨hk.1.1.1.1.2, ⟨hk.1.1.1.2, ⟨hk.1.1.2, hk.1.2⟩⟩⟩⟩⟩⟩)⟩, ⟨by (with_reducible repeat (first | apply Kd.R_alloc | apply Kd.R_drewN | apply Kd.R_drew)); exact Kd.R_mono (Kd.R_far (p := ⟨gb504, 2, none⟩) (Kd.R_far (p := ⟨gb504, 1, none⟩) (Kd.R_far (p := ⟨gb504, 0, none⟩) (Kd.R_types HO_463002.out BK504.out (by decide)) (fun _ hk => hk.2) (.bool t496)) (fun _ hk => hk.2) (.slice Ao78 t497.length co78)) (fun _ hk => hk.2) (.slice Ao79 t500.length co79)) (fun _ hk => ⟨hk.1.1.1.1.1.1, ⟨hk.1.1.1.1.1.2.1, ⟨hk.1.1.1.1.1.2.2, ⟨hk.1.1.1.1.2, ⟨hk.1.1.1.2, ⟨hk.1.1.2, hk.1.2⟩⟩⟩⟩⟩⟩)⟩, ⟨by (with_reducible repeat (first | apply Kd.R_alloc | apply Kd.R_drewN | apply Kd.R_drew)); exact Kd.R_mono (Kd.R_far (p := ⟨gb504, 2, none⟩) (Kd.R_far (p := ⟨gb504, 1, none⟩) (Kd.R_far (p := ⟨gb504, 0, none⟩) (Kd.R_types HO_472001.out BK504.out (by decide)) (fun _ hk => hk.2) (.bool t496)) (fun _ hk => hk.2) (.slice Ao78 t497.length co78)) (fun _ hk => hk.2) (.slice Ao79 t500.length co79)) (fun _ hk => ⟨hk.1.1.1.1.1.1, ⟨hk.1.1.1.1.1.2.1, ⟨hk.1.1.1.1.1.2.2, ⟨hk.1.1.1.1.2, ⟨hk.1.1.1.2, ⟨hk.1.1.2, hk.1.2⟩⟩⟩⟩⟩⟩)⟩, ⟨by (with_reducible repeat (first | apply Kd.R_alloc | apply Kd.R_drewN | apply Kd.R_drew)); exact Kd.R_mono (Kd.R_far (p := ⟨gb504, 2, none⟩) (Kd.R_far (p := ⟨gb504, 1, none⟩) (Kd.R_far (p := ⟨gb504, 0, none⟩) (Kd.R_types HO_472002.out BK504.out (by decide)) (fun _ hk => hk.2) (.bool t496)) (fun _ hk => hk.2) (.slice Ao78 t497.length co78)) (fun _ hk => hk.2) (.slice Ao79 t500.length co79)) (fun _ hk => ⟨hk.1.1.1.1.1.1, ⟨hk.1.1.1.1.1.2.1, ⟨hk.1.1.1.1.1.2.2, ⟨hk.1.1.1.1.2, ⟨hk.1.1.1.2, ⟨hk.1.1.2, hk.1.2⟩⟩⟩⟩⟩⟩)⟩, ⟨by (with_reducible repeat (first | apply Kd.R_alloc | apply Kd.R_drewN | apply Kd.R_drew)); exact Kd.R_mono (Kd.R_far (p := ⟨gb504, 2, none⟩) (Kd.R_far (p := ⟨gb504, 1, none⟩) (Kd.R_far (p := ⟨gb504, 0, none⟩) (Kd.R_types HO490.out BK504.out (by decide)) (fun _ hk => hk.2) (.bool t496)) (fun _ hk => hk.2) (.slice Ao78 t497.length co78)) (fun _ hk => hk.2) (.slice Ao79 t500.length co79)) (fun _ hk => ⟨hk.1.1.1.1.1.1.2, ⟨hk.1.1.1.1.1.2, ⟨hk.1.1.1.1.2, ⟨hk.1.1.1.2, ⟨hk.1.1.1.1.1.1.1, ⟨hk.1.1.2, hk.1.2⟩⟩⟩⟩⟩⟩)⟩, ⟨by (with_reducible repeat (first | apply Kd.R_alloc | apply Kd.R_drewN | apply Kd.R_drew)); exact Kd.R_mono (Kd.R_far (p := ⟨gb504, 2, none⟩) (Kd.R_far (p := ⟨gb504, 1, none⟩) (Kd.R_far (p := ⟨gb504, 0, none⟩) (Kd.R_types HO493.out BK504.out (by decide)) (fun _ hk => hk.2) (.bool t496)) (fun _ hk => hk.2) (.slice Ao78 t497.length co78)) (fun _ hk => hk.2) (.slice Ao79 t500.length co79)) (fun _ hk => ⟨hk.1.1.1.1.1.1.2, ⟨hk.1.1.1.1.1.2, ⟨hk.1.1.1.1.2, ⟨hk.1.1.1.2, ⟨hk.1.1.1.1.1.1.1, ⟨hk.1.1.2, hk.1.2⟩⟩⟩⟩⟩⟩)⟩, ⟨by (with_reducible repeat (first | apply Kd.R_alloc | apply Kd.R_drewN | apply Kd.R_drew)); exact Kd.R_mono (Kd.R_far (p := ⟨gb504, 2, none⟩) (Kd.R_far (p := ⟨gb504, 1, none⟩) (Kd.R_far (p := ⟨gb504, 0, none⟩) (Kd.R_types HO499.out BK504.out (by decide)) (fun _ hk => hk.2) (.bool t496)) (fun _ hk => hk.2) (.slice Ao78 t497.length co78)) (fun _ hk => hk.2) (.slice Ao79 t500.length co79)) (fun _ hk => ⟨hk.1.1.1.1.1.1.2, ⟨hk.1.1.1.1.1.2, ⟨hk.1.1.1.1.2, ⟨hk.1.1.1.2, ⟨hk.1.1.2, ⟨hk.1.2, hk.1.1.1.1.1.1.1⟩⟩⟩⟩⟩⟩)⟩, ⟨by (with_reducible repeat (first | apply Kd.R_alloc | apply Kd.R_drewN | apply Kd.R_drew)); exact Kd.R_mono (Kd.R_far (p := ⟨gb504, 2, none⟩) (Kd.R_far (p := ⟨gb504, 1, none⟩) (Kd.R_far (p := ⟨gb504, 0, none⟩) (Kd.R_types HO502.out BK504.out (by decide)) (fun _ hk => hk.2) (.bool t496)) (fun _ hk => hk.2) (.slice Ao78 t497.length co78)) (fun _ hk => hk.2) (.slice Ao79 t500.length co79)) (fun _ hk => ⟨hk.1.1.1.1.1.1.2, ⟨hk.1.1.1.1.1.2, ⟨hk.1.1.1.1.2, ⟨hk.1.1.1.2, ⟨hk.1.1.2, ⟨hk.1.2, hk.1.1.1.1.1.1.1⟩⟩⟩⟩⟩⟩)⟩, ⟨dQ1 BK462.out NB462_504.out⟩, ⟨dQ1 BK471.out NB471_504.out⟩, ⟨dQ1 BK495.out NB495_504.out⟩, ⟨dP BK504.out⟩, ⟨eB⟩⟩
     case rest =>
      clear HC62
      try clear c5
      try clear c5b0
      try clear c59
      try clear hcz35_0
      try clear hcz35_1
      try clear hcz35_2
      try clear hcz41_0
      try clear hcz41_1
      try clear hcz41_2
      try clear hcz67_0
      try clear hcz67_1
      try clear hcz67_2
      try clear hcz71_0
      try clear hcz71_1
      try clear hcz71_2
      try clear hcz77_0
      try clear hcz77_1
      try clear hcz77_2
      try clear hfz35_0
      try clear hfz35_1
      try clear hfz35_2
      try clear hfz41_0
      try clear hfz41_1
      try clear hfz41_2
      try clear hfz67_0
      try clear hfz67_1
      try clear hfz67_2
      try clear hfz71_0
      try clear hfz71_1
      try clear hfz71_2
      try clear hfz77_0
      try clear hfz77_1
      try clear hfz77_2
      obtain ⟨kq, x102_61, rfl, HA, HJ61, HO_463001, HO_463002, HO_472001, HO_472002, HO_496001, HO_496002, HO_505001, HO_505002, BK462, BK471, BK495, BK504, HB⟩ := hcut
      cases kq with
      | zero => exact absurd HA.out (by simp [plumblaw07_NearBack.j1])
      | succ kj61 =>
       have H := HA.out
       clear HA
       simp only [plumblaw07_NearBack.j1] at H
       by_cases c90 : x102_61 = true
       ·subst c90
        rw [if_pos rfl] at H
        (try dsimp only at H)
        exact absurd H (by simp)
       ·replace c90 := Bool.eq_false_iff.mpr c90
        subst c90
        rw [if_neg (show ¬ (false = true) by decide)] at H
        (try dsimp only at H)
        have HC91 := aM H
        clear H
        go_upto_if 105 with (fail)
        go_cut [13] (fun v13 wc => ∃ (kq : Nat) (x13_90 : Int), v13 = .int .u64 x13_90 ∧ Aside0 (plumblaw07_NearBack.j2 kq x13_90 t454 t455 t458 = some r) ∧ Aside0 (kq ≤ kj61) ∧ Aside0 (Kd.R (Kd.int .u64) 26 wc w.heap.size (fun k_ => some k_ ≠ ((.slice Ao37 t458.length co37) : Value).ownBlock ∧ some k_ ≠ ((.slice Ao42 t464.length co42) : Value).ownBlock ∧ some k_ ≠ ((.slice Ao43 t467.length co43) : Value).ownBlock ∧ some k_ ≠ ((.slice Ao68 t488.length co68) : Value).ownBlock ∧ some k_ ≠ ((.slice Ao69 t491.length co69) : Value).ownBlock ∧ some k_ ≠ ((.slice Ao78 t497.length co78) : Value).ownBlock ∧ some k_ ≠ ((.slice Ao79 t500.length co79) : Value).ownBlock) (.slice Ao36 t455.length co36) t455) ∧ Aside0 (Kd.R (Kd.int .u64) 26 wc w.heap.size (fun k_ => some k_ ≠ ((.slice Ao36 t455.length co36) : Value).ownBlock ∧ some k_ ≠ ((.slice Ao42 t464.length co42) : Value).ownBlock ∧ some k_ ≠ ((.slice Ao43 t467.length co43) : Value).ownBlock ∧ some k_ ≠ ((.slice Ao68 t488.length co68) : Value).ownBlock ∧ some k_ ≠ ((.slice Ao69 t491.length co69) : Value).ownBlock ∧ some k_ ≠ ((.slice Ao78 t497.length co78) : Value).ownBlock ∧ some k_ ≠ ((.slice Ao79 t500.length co79) : Value).ownBlock) (.slice Ao37 t458.length co37) t458) ∧ Aside0 (Kd.R (Kd.int .u64) 26 wc w.heap.size (fun k_ => some k_ ≠ ((.slice Ao36 t455.length co36) : Value).ownBlock ∧ some k_ ≠ ((.slice Ao37 t458.length co37) : Value).ownBlock ∧ some k_ ≠ ((.slice Ao43 t467.length co43) : Value).ownBlock ∧ some k_ ≠ ((.slice Ao68 t488.length co68) : Value).ownBlock ∧ some k_ ≠ ((.slice Ao69 t491.length co69) : Value).ownBlock ∧ some k_ ≠ ((.slice Ao78 t497.length co78) : Value).ownBlock ∧ some k_ ≠ ((.slice Ao79 t500.length co79) : Value).ownBlock) (.slice Ao42 t464.length co42) t464) ∧ Aside0 (Kd.R (Kd.int .u64) 26 wc w.heap.size (fun k_ => some k_ ≠ ((.slice Ao36 t455.length co36) : Value).ownBlock ∧ some k_ ≠ ((.slice Ao37 t458.length co37) : Value).ownBlock ∧ some k_ ≠ ((.slice Ao42 t464.length co42) : Value).ownBlock ∧ some k_ ≠ ((.slice Ao68 t488.length co68) : Value).ownBlock ∧ some k_ ≠ ((.slice Ao69 t491.length co69) : Value).ownBlock ∧ some k_ ≠ ((.slice Ao78 t497.length co78) : Value).ownBlock ∧ some k_ ≠ ((.slice Ao79 t500.length co79) : Value).ownBlock) (.slice Ao43 t467.length co43) t467) ∧ Aside0 (Kd.R (Kd.int .u64) 26 wc w.heap.size (fun k_ => some k_ ≠ ((.slice Ao36 t455.length co36) : Value).ownBlock ∧ some k_ ≠ ((.slice Ao37 t458.length co37) : Value).ownBlock ∧ some k_ ≠ ((.slice Ao42 t464.length co42) : Value).ownBlock ∧ some k_ ≠ ((.slice Ao43 t467.length co43) : Value).ownBlock ∧ some k_ ≠ ((.slice Ao69 t491.length co69) : Value).ownBlock ∧ some k_ ≠ ((.slice Ao78 t497.length co78) : Value).ownBlock ∧ some k_ ≠ ((.slice Ao79 t500.length co79) : Value).ownBlock) (.slice Ao68 t488.length co68) t488) ∧ Aside0 (Kd.R (Kd.int .u64) 26 wc w.heap.size (fun k_ => some k_ ≠ ((.slice Ao36 t455.length co36) : Value).ownBlock ∧ some k_ ≠ ((.slice Ao37 t458.length co37) : Value).ownBlock ∧ some k_ ≠ ((.slice Ao42 t464.length co42) : Value).ownBlock ∧ some k_ ≠ ((.slice Ao43 t467.length co43) : Value).ownBlock ∧ some k_ ≠ ((.slice Ao68 t488.length co68) : Value).ownBlock ∧ some k_ ≠ ((.slice Ao78 t497.length co78) : Value).ownBlock ∧ some k_ ≠ ((.slice Ao79 t500.length co79) : Value).ownBlock) (.slice Ao69 t491.length co69) t491) ∧ Aside0 (Kd.R (Kd.int .u64) 26 wc w.heap.size (fun k_ => some k_ ≠ ((.slice Ao36 t455.length co36) : Value).ownBlock ∧ some k_ ≠ ((.slice Ao37 t458.length co37) : Value).ownBlock ∧ some k_ ≠ ((.slice Ao42 t464.length co42) : Value).ownBlock ∧ some k_ ≠ ((.slice Ao43 t467.length co43) : Value).ownBlock ∧ some k_ ≠ ((.slice Ao68 t488.length co68) : Value).ownBlock ∧ some k_ ≠ ((.slice Ao69 t491.length co69) : Value).ownBlock ∧ some k_ ≠ ((.slice Ao79 t500.length co79) : Value).ownBlock) (.slice Ao78 t497.length co78) t497) ∧ Aside0 (Kd.R (Kd.int .u64) 26 wc w.heap.size (fun k_ => some k_ ≠ ((.slice Ao36 t455.length co36) : Value).ownBlock ∧ some k_ ≠ ((.slice Ao37 t458.length co37) : Value).ownBlock ∧ some k_ ≠ ((.slice Ao42 t464.length co42) : Value).ownBlock ∧ some k_ ≠ ((.slice Ao43 t467.length co43) : Value).ownBlock ∧ some k_ ≠ ((.slice Ao68 t488.length co68) : Value).ownBlock ∧ some k_ ≠ ((.slice Ao69 t491.length co69) : Value).ownBlock ∧ some k_ ≠ ((.slice Ao78 t497.length co78) : Value).ownBlock) (.slice Ao79 t500.length co79) t500) ∧ Aside0 (wc.heap[gb462]? = some (.cells #[.bool t454, (.slice Ao36 t455.length co36), (.slice Ao37 t458.length co37)] 46 (0, 0))) ∧ Aside0 (wc.heap[gb471]? = some (.cells #[.bool t463, (.slice Ao42 t464.length co42), (.slice Ao43 t467.length co43)] 46 (0, 0))) ∧ Aside0 (wc.heap[gb495]? = some (.cells #[.bool t487, (.slice Ao68 t488.length co68), (.slice Ao69 t491.length co69)] 46 (0, 0))) ∧ Aside0 (wc.heap[gb504]? = some (.cells #[.bool t496, (.slice Ao78 t497.length co78), (.slice Ao79 t500.length co79)] 46 (0, 0))) ∧ Aside0 (Below w.heap.size w wc))
        case first =>
         have H := HC91.out
         clear HC91
         by_cases c92 : a0 = 9223372036854775808
         ·rw [if_pos c92] at H
          have c92b0 : (a0 == 9223372036854775808) = true := beq_iff_eq.mpr c92
          have c92b1 : (a0 != 9223372036854775808) = false := bne_eq_false_iff_eq.mpr c92
          clear c92
          (first | rw [c92b0] | (simp only [i64_w, i32_w]; rw [c92b0]) | skip)
          have H' := aM H
          clear H
          go_wp2
          go_meet
          case rel => exact ⟨_, (0), dF, H', ⟨by have := HJ31.out; have := HJ61.out; first | omega | exact Nat.le_refl _⟩, ⟨dR HO_463001.out⟩, ⟨dR HO_463002.out⟩, ⟨dR HO_472001.out⟩, ⟨dR HO_472002.out⟩, ⟨dR HO_496001.out⟩, ⟨dR HO_496002.out⟩, ⟨dR HO_505001.out⟩, ⟨dR HO_505002.out⟩, ⟨dK BK462.out⟩, ⟨dK BK471.out⟩, ⟨dK BK495.out⟩, ⟨dK BK504.out⟩, ⟨eB⟩⟩
         ·rw [if_neg c92] at H
          have c92b0 : (a0 == 9223372036854775808) = false := beq_eq_false_iff_ne.mpr c92
          have c92b1 : (a0 != 9223372036854775808) = true := bne_iff_ne.mpr c92
          (first | rw [c92b0] | (simp only [i64_w, i32_w]; rw [c92b0]) | skip)
          have H' := aM H
          clear H
          go_wp2
          go_meet
          case rel => exact ⟨_, (a0), dF, H', ⟨by have := HJ31.out; have := HJ61.out; first | omega | exact Nat.le_refl _⟩, ⟨dR HO_463001.out⟩, ⟨dR HO_463002.out⟩, ⟨dR HO_472001.out⟩, ⟨dR HO_472002.out⟩, ⟨dR HO_496001.out⟩, ⟨dR HO_496002.out⟩, ⟨dR HO_505001.out⟩, ⟨dR HO_505002.out⟩, ⟨dK BK462.out⟩, ⟨dK BK471.out⟩, ⟨dK BK495.out⟩, ⟨dK BK504.out⟩, ⟨eB⟩⟩
        case rest =>
         clear HC91
         try clear c5
         try clear c5b0
         try clear c59
         try clear c90
         try clear hcz35_0
         try clear hcz35_1
         try clear hcz35_2
         try clear hcz41_0
         try clear hcz41_1
         try clear hcz41_2
         try clear hcz67_0
         try clear hcz67_1
         try clear hcz67_2
         try clear hcz71_0
         try clear hcz71_1
         try clear hcz71_2
         try clear hcz77_0
         try clear hcz77_1
         try clear hcz77_2
         try clear hfz35_0
         try clear hfz35_1
         try clear hfz35_2
         try clear hfz41_0
         try clear hfz41_1
         try clear hfz41_2
         try clear hfz67_0
         try clear hfz67_1
         try clear hfz67_2
         try clear hfz71_0
         try clear hfz71_1
         try clear hfz71_2
         try clear hfz77_0
         try clear hfz77_1
         try clear hfz77_2
         obtain ⟨kq, x13_90, rfl, HA, HJ90, HO_463001, HO_463002, HO_472001, HO_472002, HO_496001, HO_496002, HO_505001, HO_505002, BK462, BK471, BK495, BK504, HB⟩ := hcut
         cases kq with
         | zero => exact absurd HA.out (by simp [plumblaw07_NearBack.j2])
         | succ kj90 =>
          have H := HA.out
          clear HA
          simp only [plumblaw07_NearBack.j2] at H
          have H' := aM H
          clear H
          go_wp2
          go_loopg [14] kj90 (fun kq v14 w' => ∃ (x14_4 : Int), v14 = .int .i64 x14_4 ∧ Aside0 (plumblaw07_NearBack.l0 kq x13_90 x14_4 t454 t455 t458 = some r) ∧ Aside0 (kq ≤ kj90) ∧ Aside0 (Kd.R (Kd.int .u64) 26 w' w.heap.size (fun k_ => some k_ ≠ ((.slice Ao37 t458.length co37) : Value).ownBlock ∧ some k_ ≠ ((.slice Ao42 t464.length co42) : Value).ownBlock ∧ some k_ ≠ ((.slice Ao43 t467.length co43) : Value).ownBlock ∧ some k_ ≠ ((.slice Ao68 t488.length co68) : Value).ownBlock ∧ some k_ ≠ ((.slice Ao69 t491.length co69) : Value).ownBlock ∧ some k_ ≠ ((.slice Ao78 t497.length co78) : Value).ownBlock ∧ some k_ ≠ ((.slice Ao79 t500.length co79) : Value).ownBlock) (.slice Ao36 t455.length co36) t455) ∧ Aside0 (Kd.R (Kd.int .u64) 26 w' w.heap.size (fun k_ => some k_ ≠ ((.slice Ao36 t455.length co36) : Value).ownBlock ∧ some k_ ≠ ((.slice Ao42 t464.length co42) : Value).ownBlock ∧ some k_ ≠ ((.slice Ao43 t467.length co43) : Value).ownBlock ∧ some k_ ≠ ((.slice Ao68 t488.length co68) : Value).ownBlock ∧ some k_ ≠ ((.slice Ao69 t491.length co69) : Value).ownBlock ∧ some k_ ≠ ((.slice Ao78 t497.length co78) : Value).ownBlock ∧ some k_ ≠ ((.slice Ao79 t500.length co79) : Value).ownBlock) (.slice Ao37 t458.length co37) t458) ∧ Aside0 (Kd.R (Kd.int .u64) 26 w' w.heap.size (fun k_ => some k_ ≠ ((.slice Ao36 t455.length co36) : Value).ownBlock ∧ some k_ ≠ ((.slice Ao37 t458.length co37) : Value).ownBlock ∧ some k_ ≠ ((.slice Ao43 t467.length co43) : Value).ownBlock ∧ some k_ ≠ ((.slice Ao68 t488.length co68) : Value).ownBlock ∧ some k_ ≠ ((.slice Ao69 t491.length co69) : Value).ownBlock ∧ some k_ ≠ ((.slice Ao78 t497.length co78) : Value).ownBlock ∧ some k_ ≠ ((.slice Ao79 t500.length co79) : Value).ownBlock) (.slice Ao42 t464.length co42) t464) ∧ Aside0 (Kd.R (Kd.int .u64) 26 w' w.heap.size (fun k_ => some k_ ≠ ((.slice Ao36 t455.length co36) : Value).ownBlock ∧ some k_ ≠ ((.slice Ao37 t458.length co37) : Value).ownBlock ∧ some k_ ≠ ((.slice Ao42 t464.length co42) : Value).ownBlock ∧ some k_ ≠ ((.slice Ao68 t488.length co68) : Value).ownBlock ∧ some k_ ≠ ((.slice Ao69 t491.length co69) : Value).ownBlock ∧ some k_ ≠ ((.slice Ao78 t497.length co78) : Value).ownBlock ∧ some k_ ≠ ((.slice Ao79 t500.length co79) : Value).ownBlock) (.slice Ao43 t467.length co43) t467) ∧ Aside0 (Kd.R (Kd.int .u64) 26 w' w.heap.size (fun k_ => some k_ ≠ ((.slice Ao36 t455.length co36) : Value).ownBlock ∧ some k_ ≠ ((.slice Ao37 t458.length co37) : Value).ownBlock ∧ some k_ ≠ ((.slice Ao42 t464.length co42) : Value).ownBlock ∧ some k_ ≠ ((.slice Ao43 t467.length co43) : Value).ownBlock ∧ some k_ ≠ ((.slice Ao69 t491.length co69) : Value).ownBlock ∧ some k_ ≠ ((.slice Ao78 t497.length co78) : Value).ownBlock ∧ some k_ ≠ ((.slice Ao79 t500.length co79) : Value).ownBlock) (.slice Ao68 t488.length co68) t488) ∧ Aside0 (Kd.R (Kd.int .u64) 26 w' w.heap.size (fun k_ => some k_ ≠ ((.slice Ao36 t455.length co36) : Value).ownBlock ∧ some k_ ≠ ((.slice Ao37 t458.length co37) : Value).ownBlock ∧ some k_ ≠ ((.slice Ao42 t464.length co42) : Value).ownBlock ∧ some k_ ≠ ((.slice Ao43 t467.length co43) : Value).ownBlock ∧ some k_ ≠ ((.slice Ao68 t488.length co68) : Value).ownBlock ∧ some k_ ≠ ((.slice Ao78 t497.length co78) : Value).ownBlock ∧ some k_ ≠ ((.slice Ao79 t500.length co79) : Value).ownBlock) (.slice Ao69 t491.length co69) t491) ∧ Aside0 (Kd.R (Kd.int .u64) 26 w' w.heap.size (fun k_ => some k_ ≠ ((.slice Ao36 t455.length co36) : Value).ownBlock ∧ some k_ ≠ ((.slice Ao37 t458.length co37) : Value).ownBlock ∧ some k_ ≠ ((.slice Ao42 t464.length co42) : Value).ownBlock ∧ some k_ ≠ ((.slice Ao43 t467.length co43) : Value).ownBlock ∧ some k_ ≠ ((.slice Ao68 t488.length co68) : Value).ownBlock ∧ some k_ ≠ ((.slice Ao69 t491.length co69) : Value).ownBlock ∧ some k_ ≠ ((.slice Ao79 t500.length co79) : Value).ownBlock) (.slice Ao78 t497.length co78) t497) ∧ Aside0 (Kd.R (Kd.int .u64) 26 w' w.heap.size (fun k_ => some k_ ≠ ((.slice Ao36 t455.length co36) : Value).ownBlock ∧ some k_ ≠ ((.slice Ao37 t458.length co37) : Value).ownBlock ∧ some k_ ≠ ((.slice Ao42 t464.length co42) : Value).ownBlock ∧ some k_ ≠ ((.slice Ao43 t467.length co43) : Value).ownBlock ∧ some k_ ≠ ((.slice Ao68 t488.length co68) : Value).ownBlock ∧ some k_ ≠ ((.slice Ao69 t491.length co69) : Value).ownBlock ∧ some k_ ≠ ((.slice Ao78 t497.length co78) : Value).ownBlock) (.slice Ao79 t500.length co79) t500) ∧ Aside0 (w'.heap[gb462]? = some (.cells #[.bool t454, (.slice Ao36 t455.length co36), (.slice Ao37 t458.length co37)] 46 (0, 0))) ∧ Aside0 (w'.heap[gb471]? = some (.cells #[.bool t463, (.slice Ao42 t464.length co42), (.slice Ao43 t467.length co43)] 46 (0, 0))) ∧ Aside0 (w'.heap[gb495]? = some (.cells #[.bool t487, (.slice Ao68 t488.length co68), (.slice Ao69 t491.length co69)] 46 (0, 0))) ∧ Aside0 (w'.heap[gb504]? = some (.cells #[.bool t496, (.slice Ao78 t497.length co78), (.slice Ao79 t500.length co79)] 46 (0, 0))) ∧ Aside0 (Below w.heap.size w w'))
          case atStart => exact ⟨(0), dF, H', ⟨Nat.le_refl _⟩, ⟨dR HO_463001.out⟩, ⟨dR HO_463002.out⟩, ⟨dR HO_472001.out⟩, ⟨dR HO_472002.out⟩, ⟨dR HO_496001.out⟩, ⟨dR HO_496002.out⟩, ⟨dR HO_505001.out⟩, ⟨dR HO_505002.out⟩, ⟨dK BK462.out⟩, ⟨dK BK471.out⟩, ⟨dK BK495.out⟩, ⟨dK BK504.out⟩, ⟨eB⟩⟩
          case round =>
           clear H'
           try clear c5
           try clear c5b0
           try clear c59
           try clear c90
           try clear hcz35_0
           try clear hcz35_1
           try clear hcz35_2
           try clear hcz41_0
           try clear hcz41_1
           try clear hcz41_2
           try clear hcz67_0
           try clear hcz67_1
           try clear hcz67_2
           try clear hcz71_0
           try clear hcz71_1
           try clear hcz71_2
           try clear hcz77_0
           try clear hcz77_1
           try clear hcz77_2
           try clear hfz35_0
           try clear hfz35_1
           try clear hfz35_2
           try clear hfz41_0
           try clear hfz41_1
           try clear hfz41_2
           try clear hfz67_0
           try clear hfz67_1
           try clear hfz67_2
           try clear hfz71_0
           try clear hfz71_1
           try clear hfz71_2
           try clear hfz77_0
           try clear hfz77_1
           try clear hfz77_2
           obtain ⟨x14_4, rfl, HA, HK4, HO_463001, HO_463002, HO_472001, HO_472002, HO_496001, HO_496002, HO_505001, HO_505002, BK462, BK471, BK495, BK504, HB⟩ := hrel
           cases gk with
           | zero => exact absurd HA.out (by simp [plumblaw07_NearBack.l0])
           | succ k4 =>
            have H := HA.out
            clear HA
            simp only [plumblaw07_NearBack.l0] at H
            by_cases c93 : x14_4 ≤ 4
            ·rw [if_pos c93] at H
             have c93b0 : decide (x14_4 ≤ 4) = true := decide_eq_true c93
             clear c93
             replace H := obe H
             obtain ⟨⟨t510, t511⟩, A940, H⟩ := H
             (try dsimp only at H)
             have A94 := aM A940
             clear A940
             replace H := obe H
             obtain ⟨t512, A950, H⟩ := H
             (try dsimp only at H)
             have A95 := aM A950
             clear A950
             by_cases c96 : t512 = 0
             ·rw [if_pos c96] at H
              have c96b0 : (t512 == 0) = true := beq_iff_eq.mpr c96
              have c96b1 : (t512 != 0) = false := bne_eq_false_iff_eq.mpr c96
              clear c96
              by_cases c97 : t510 = x13_90
              ·rw [if_pos c97] at H
               have c97b0 : (t510 == x13_90) = true := beq_iff_eq.mpr c97
               have c97b1 : (t510 != x13_90) = false := bne_eq_false_iff_eq.mpr c97
               clear c97
               have H' := aM H
               clear H
               have hnb98 := NB462_471.out
               have hnc98 := NB471_462.out
               have hnb99 := NB462_495.out
               have hnc99 := NB495_462.out
               have hnb100 := NB462_504.out
               have hnc100 := NB504_462.out
               obtain ⟨hcz101_0, hcz101_1, hcz101_2⟩ := cz3 BK462.out
               obtain ⟨hfz101_0, hfz101_1, hfz101_2⟩ := fz3 BK462.out
               go_wp2_with (first | ((with_reducible refine gate_callee (f := 28) rfl ?_); refine gL (some 113) Tryd.func28 #[.agg #[.bool t454, .slice Ao36 t455.length co36, .slice Ao37 t458.length co37], .int .i64 x14_4] ?_; (with_reducible refine (near_Rat.calls k4 t454 _ _ t455 _ _ t458 x14_4 t510 t511 _ ?side1 (Kd.R_reads' HO_463001.out).2.1 ?side3 (Kd.R_reads' HO_463002.out).2.1 A94.out).mono ?_); (case side1 => exact dC (Kd.R_reads' HO_463001.out).2.2); (case side3 => exact dC (Kd.R_reads' HO_463002.out).2.2); rintro e w102 ⟨rfl, hb⟩; refine ⟨_, rfl, ?_⟩; replace HO_463001 := oB HO_463001.out hb; replace HO_463002 := oB HO_463002.out hb; replace HO_472001 := oB HO_472001.out hb; replace HO_472002 := oB HO_472002.out hb; replace HO_496001 := oB HO_496001.out hb; replace HO_496002 := oB HO_496002.out hb; replace HO_505001 := oB HO_505001.out hb; replace HO_505002 := oB HO_505002.out hb; replace BK462 := bB BK462.out hb; replace BK471 := bB BK471.out hb; replace BK495 := bB BK495.out hb; replace BK504 := bB BK504.out hb; replace HB := hS HB.out hb; (try clear hb)) | ((with_reducible refine gate_callee (f := 15) rfl ?_); refine gL (some 117) Tryd.func15 #[.int .i64 t511] ?_; (with_reducible refine (plumblaw07_num.calls t511 t512 _ A95.out).mono ?_); rintro e w' ⟨rfl, ⟨nd, rfl⟩⟩; refine ⟨_, rfl, ?_⟩))
               go_roundg k4
               case measure => have := HJ31.out; have := HJ61.out; have := HJ90.out; have := HK4.out; omega
               case rel => exact ⟨(wrap64 (x14_4 + 1)), dF, H', ⟨by have := HJ31.out; have := HJ61.out; have := HJ90.out; have := HK4.out; omega⟩, ⟨dR HO_463001.out⟩, ⟨dR HO_463002.out⟩, ⟨dR HO_472001.out⟩, ⟨dR HO_472002.out⟩, ⟨dR HO_496001.out⟩, ⟨dR HO_496002.out⟩, ⟨dR HO_505001.out⟩, ⟨dR HO_505002.out⟩, ⟨dK BK462.out⟩, ⟨dK BK471.out⟩, ⟨dK BK495.out⟩, ⟨dK BK504.out⟩, ⟨eB⟩⟩
              ·rw [if_neg c97] at H
               exact absurd H (by simp)
             ·rw [if_neg c96] at H
              exact absurd H (by simp)
            ·rw [if_neg c93] at H
             have c93b0 : decide (x14_4 ≤ 4) = false := decide_eq_false c93
             clear c93
             replace H := obe H
             obtain ⟨⟨t508, t509⟩, A1030, H⟩ := H
             (try dsimp only at H)
             have A103 := aM A1030
             clear A1030
             by_cases c104 : t509 = true
             ·subst c104
              rw [if_pos rfl] at H
              (try dsimp only at H)
              obtain rfl := Option.some.inj H
              have hnb105 := NB462_471.out
              have hnc105 := NB471_462.out
              have hnb106 := NB462_495.out
              have hnc106 := NB495_462.out
              have hnb107 := NB462_504.out
              have hnc107 := NB504_462.out
              obtain ⟨hcz108_0, hcz108_1, hcz108_2⟩ := cz3 BK462.out
              obtain ⟨hfz108_0, hfz108_1, hfz108_2⟩ := fz3 BK462.out
              go_wp2_with (first | ((with_reducible refine gate_callee (f := 38) rfl ?_); refine gL (some 126) Tryd.func38 #[.agg #[.bool t454, .slice Ao36 t455.length co36, .slice Ao37 t458.length co37]] ?_; (with_reducible refine (near_Exact.calls k4 t454 _ _ t455 _ _ t458 t508 true _ ?side1 (Kd.R_reads' HO_463001.out).2.1 ?side3 (Kd.R_reads' HO_463002.out).2.1 A103.out).mono ?_); (case side1 => exact dC (Kd.R_reads' HO_463001.out).2.2); (case side3 => exact dC (Kd.R_reads' HO_463002.out).2.2); rintro e w109 ⟨rfl, hb⟩; refine ⟨_, rfl, ?_⟩; replace HO_463001 := oB HO_463001.out hb; replace HO_463002 := oB HO_463002.out hb; replace HO_472001 := oB HO_472001.out hb; replace HO_472002 := oB HO_472002.out hb; replace HO_496001 := oB HO_496001.out hb; replace HO_496002 := oB HO_496002.out hb; replace HO_505001 := oB HO_505001.out hb; replace HO_505002 := oB HO_505002.out hb; replace BK462 := bB BK462.out hb; replace BK471 := bB BK471.out hb; replace BK495 := bB BK495.out hb; replace BK504 := bB BK504.out hb; replace HB := hS HB.out hb; (try clear hb)))
              go_ret
              exact ⟨dE, eB⟩
             ·replace c104 := Bool.eq_false_iff.mpr c104
              subst c104
              rw [if_neg (show ¬ (false = true) by decide)] at H
              (try dsimp only at H)
              exact absurd H (by simp)
end Go.Proofs.YtoefabmlkbhmpaaDoor.PA
