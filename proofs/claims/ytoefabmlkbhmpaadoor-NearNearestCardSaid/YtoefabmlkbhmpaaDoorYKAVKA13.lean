/- A part of the proof (13). -/
import Derived.Test.YtoefabmlkbhmpaaDoorYKAVKA2
import Derived.Test.YtoefabmlkbhmpaaDoorYKAVKA9
import Derived.Test.YtoefabmlkbhmpaaDoorYKAVKA11
import Derived.Test.YtoefabmlkbhmpaaDoorYKAVKA12
namespace Go.Proofs.YtoefabmlkbhmpaaDoor.PA
open Go.RowKit Go.Proofs.YtoefabmlkbhmpaaDoorW.PrintWords Go.Proofs.YtoefabmlkbhmpaaDoorW.PrintLast Go.Proofs.YtoefabmlkbhmpaaDoorW.PrintMore
attribute [local go_sem] max2_int min2_int max_two min_two max_three min_three max_four min_four
set_option linter.unusedVariables false
set_option linter.unusedSimpArgs false
def plumblaw07_twice.f (k : Nat) (a0_0 : Bool) (l0_1 : List Int) (l0_2 : List Int) (a1_0 : Bool) (l1_1 : List Int) (l1_2 : List Int) (a2_0 : Bool) (l2_1 : List Int) (l2_2 : List Int) : Option (Int) := (rat_Add.f k a0_0 l0_1 l0_2 a1_0 l1_1 l1_2).bind fun bt417 => ((rat_Add.f k a2_0 l2_1 l2_2 a2_0 l2_1 l2_2).bind fun bt426 => ((plumblaw07_num.f bt417.2.2.2).bind fun t435 => (if t435 = 0 then ((plumblaw07_num.f bt426.2.2.2).bind fun t436 => (if t436 = 0 then ((plumblaw07_cmp.f k bt426.1 bt426.2.1 bt426.2.2.1 bt417.1 bt417.2.1 bt417.2.2.1).bind fun t437 => (some t437)) else (none))) else (none))))
set_option maxHeartbeats 8000000 in
set_option maxRecDepth 100000 in
theorem plumblaw07_twice.calls (k : Nat) (a0_0 : Bool) (A0_1 : Option Addr) (c0_1 : Nat) (l0_1 : List Int) (A0_2 : Option Addr) (c0_2 : Nat) (l0_2 : List Int) (a1_0 : Bool) (A1_1 : Option Addr) (c1_1 : Nat) (l1_1 : List Int) (A1_2 : Option Addr) (c1_2 : Nat) (l1_2 : List Int) (a2_0 : Bool) (A2_1 : Option Addr) (c2_1 : Nat) (l2_1 : List Int) (A2_2 : Option Addr) (c2_2 : Nat) (l2_2 : List Int) (r : Int) (w : World) (hr0_1 : Kd.C (Kd.int .u64) w A0_1 l0_1.length l0_1) (hc0_1 : l0_1.length ≤ c0_1) (hr0_2 : Kd.C (Kd.int .u64) w A0_2 l0_2.length l0_2) (hc0_2 : l0_2.length ≤ c0_2) (hr1_1 : Kd.C (Kd.int .u64) w A1_1 l1_1.length l1_1) (hc1_1 : l1_1.length ≤ c1_1) (hr1_2 : Kd.C (Kd.int .u64) w A1_2 l1_2.length l1_2) (hc1_2 : l1_2.length ≤ c1_2) (hr2_1 : Kd.C (Kd.int .u64) w A2_1 l2_1.length l2_1) (hc2_1 : l2_1.length ≤ c2_1) (hr2_2 : Kd.C (Kd.int .u64) w A2_2 l2_2.length l2_2) (hc2_2 : l2_2.length ≤ c2_2) (h : plumblaw07_twice.f k a0_0 l0_1 l0_2 a1_0 l1_1 l1_2 a2_0 l2_1 l2_2 = some r) :
  Calls Tryd.prog 30 #[.agg #[.bool a0_0, .slice A0_1 l0_1.length c0_1, .slice A0_2 l0_2.length c0_2], .agg #[.bool a1_0, .slice A1_1 l1_1.length c1_1, .slice A1_2 l1_2.length c1_2], .agg #[.bool a2_0, .slice A2_1 l2_1.length c2_1, .slice A2_2 l2_2.length c2_2]] w fun e w' => e = .returned (.int .i64 r) ∧ Below w.heap.size w w' := by
 have hu46 := Tryd.underlying46
 have HR0_1 := aM hr0_1
 have HC0_1 := aM hc0_1
 clear hr0_1 hc0_1
 have HR0_2 := aM hr0_2
 have HC0_2 := aM hc0_2
 clear hr0_2 hc0_2
 have HR1_1 := aM hr1_1
 have HC1_1 := aM hc1_1
 clear hr1_1 hc1_1
 have HR1_2 := aM hr1_2
 have HC1_2 := aM hc1_2
 clear hr1_2 hc1_2
 have HR2_1 := aM hr2_1
 have HC2_1 := aM hc2_1
 clear hr2_1 hc2_1
 have HR2_2 := aM hr2_2
 have HC2_2 := aM hc2_2
 clear hr2_2 hc2_2
 have HB := aM (Below.refl w.heap.size w)
 have H := h
 clear h
 unfold plumblaw07_twice.f at H
 replace H := obe H
 obtain ⟨⟨t417, t418, t421, t424⟩, A40, H⟩ := H
 (try dsimp only at H)
 have A4 := aM A40
 clear A40
 replace H := obe H
 obtain ⟨⟨t426, t427, t430, t433⟩, A50, H⟩ := H
 (try dsimp only at H)
 have A5 := aM A50
 clear A50
 replace H := obe H
 obtain ⟨t435, A60, H⟩ := H
 (try dsimp only at H)
 have A6 := aM A60
 clear A60
 by_cases c7 : t435 = 0
 ·rw [if_pos c7] at H
  have c7b0 : (t435 == 0) = true := beq_iff_eq.mpr c7
  have c7b1 : (t435 != 0) = false := bne_eq_false_iff_eq.mpr c7
  clear c7
  replace H := obe H
  obtain ⟨t436, A80, H⟩ := H
  (try dsimp only at H)
  have A8 := aM A80
  clear A80
  by_cases c9 : t436 = 0
  ·rw [if_pos c9] at H
   have c9b0 : (t436 == 0) = true := beq_iff_eq.mpr c9
   have c9b1 : (t436 != 0) = false := bne_eq_false_iff_eq.mpr c9
   clear c9
   replace H := obe H
   obtain ⟨t437, A100, H⟩ := H
   (try dsimp only at H)
   have A10 := aM A100
   clear A100
   obtain rfl := Option.some.inj H
   go_enter Tryd.func30, Tryd.ntmps30
   go_wp2_with (first | ((with_reducible refine gate_dst (N := 3) rfl ?_); refine bE 3 #[.bool a0_0, .slice A0_1 l0_1.length c0_1, .slice A0_2 l0_2.length c0_2] 46 ?_; intro gb414 hg w11 hbox hb; have BK414 := aM (hbox); have GE414 : Aside0 (w.heap.size ≤ gb414) := gE hg; replace HB := hS HB.out hb; clear hb hbox hg) | ((with_reducible refine gate_dst (N := 4) rfl ?_); refine bE 4 #[.bool a1_0, .slice A1_1 l1_1.length c1_1, .slice A1_2 l1_2.length c1_2] 46 ?_; intro gb415 hg w12 hbox hb; have BK415 := aM (hbox); have GE415 : Aside0 (w.heap.size ≤ gb415) := gE hg; replace HB := hS HB.out hb; have NB414_415 := nL hg BK414.out; have NB415_414 := nG hg BK414.out; replace BK414 := bB BK414.out hb; clear hb hbox hg) | ((with_reducible refine gate_dst (N := 5) rfl ?_); refine bE 5 #[.bool a2_0, .slice A2_1 l2_1.length c2_1, .slice A2_2 l2_2.length c2_2] 46 ?_; intro gb416 hg w13 hbox hb; have BK416 := aM (hbox); have GE416 : Aside0 (w.heap.size ≤ gb416) := gE hg; replace HB := hS HB.out hb; have NB414_416 := nL hg BK414.out; have NB416_414 := nG hg BK414.out; replace BK414 := bB BK414.out hb; have NB415_416 := nL hg BK415.out; have NB416_415 := nG hg BK415.out; replace BK415 := bB BK415.out hb; clear hb hbox hg; have hnb14 := NB414_415.out; have hnc14 := NB415_414.out; have hnb15 := NB414_416.out; have hnc15 := NB416_414.out; obtain ⟨hcz16_0, hcz16_1, hcz16_2⟩ := cz3 BK414.out; obtain ⟨hfz16_0, hfz16_1, hfz16_2⟩ := fz3 BK414.out; have hnb17 := NB415_416.out; have hnc17 := NB416_415.out; obtain ⟨hcz18_0, hcz18_1, hcz18_2⟩ := cz3 BK415.out; obtain ⟨hfz18_0, hfz18_1, hfz18_2⟩ := fz3 BK415.out) | ((with_reducible refine gate_callee (f := 36) rfl ?_); refine gL (some 14) Tryd.func36 #[.agg #[.bool a0_0, .slice A0_1 l0_1.length c0_1, .slice A0_2 l0_2.length c0_2], .agg #[.bool a1_0, .slice A1_1 l1_1.length c1_1, .slice A1_2 l1_2.length c1_2]] ?_; (with_reducible refine (rat_Add.calls k a0_0 _ _ l0_1 _ _ l0_2 a1_0 _ _ l1_1 _ _ l1_2 t417 t418 t421 t424 _ ?side1 HC0_1.out ?side3 HC0_2.out ?side5 HC1_1.out ?side7 HC1_2.out A4.out).mono ?_); (case side1 => exact dC (Kd.C_below HR0_1.out HB.out)); (case side3 => exact dC (Kd.C_below HR0_2.out HB.out)); (case side5 => exact dC (Kd.C_below HR1_1.out HB.out)); (case side7 => exact dC (Kd.C_below HR1_2.out HB.out)); rintro e w19 ⟨v419, v422, rfl, ho0, ho1, hb⟩; refine ⟨_, rfl, ?_⟩; have HO420 := aM (Kd.R_lower ho0 (below_size eB)); have HO423 := aM (Kd.R_lower ho1 (below_size eB)); replace BK414 := bB BK414.out hb; replace BK415 := bB BK415.out hb; replace BK416 := bB BK416.out hb; replace HB := hS HB.out hb; (try clear hb); (try clear ho0); (try clear ho1)) | ((with_reducible refine gate_dst (N := 7) rfl ?_); refine bE 7 #[.bool false, .slice none 0 0, .slice none 0 0] 46 ?_; intro gb425 hg w20 hbox hb; replace HO420 := oB HO420.out hb; replace HO423 := oB HO423.out hb; have BK425 := aM (hbox); have GE425 : Aside0 (w.heap.size ≤ gb425) := gE hg; replace HB := hS HB.out hb; have NB414_425 := nL hg BK414.out; have NB425_414 := nG hg BK414.out; replace BK414 := bB BK414.out hb; have NB415_425 := nL hg BK415.out; have NB425_415 := nG hg BK415.out; replace BK415 := bB BK415.out hb; have NB416_425 := nL hg BK416.out; have NB425_416 := nG hg BK416.out; replace BK416 := bB BK416.out hb; clear hb hbox hg; have hnb21 := NB425_414.out; have hnc21 := NB414_425.out; have hnb22 := NB425_415.out; have hnc22 := NB415_425.out; have hnb23 := NB425_416.out; have hnc23 := NB416_425.out; obtain ⟨hcz24_0, hcz24_1, hcz24_2⟩ := cz3 BK425.out; obtain ⟨hfz24_0, hfz24_1, hfz24_2⟩ := fz3 BK425.out; obtain ⟨Ao25, co25, rfl⟩ := Kd.R_slice HO420.out; obtain ⟨Ao26, co26, rfl⟩ := Kd.R_slice HO423.out; obtain ⟨hcz27_0, hcz27_1, hcz27_2⟩ := cz3 BK416.out; obtain ⟨hfz27_0, hfz27_1, hfz27_2⟩ := fz3 BK416.out) | ((with_reducible refine gate_callee (f := 36) rfl ?_); refine gL (some 20) Tryd.func36 #[.agg #[.bool a2_0, .slice A2_1 l2_1.length c2_1, .slice A2_2 l2_2.length c2_2], .agg #[.bool a2_0, .slice A2_1 l2_1.length c2_1, .slice A2_2 l2_2.length c2_2]] ?_; (with_reducible refine (rat_Add.calls k a2_0 _ _ l2_1 _ _ l2_2 a2_0 _ _ l2_1 _ _ l2_2 t426 t427 t430 t433 _ ?side1 HC2_1.out ?side3 HC2_2.out ?side5 HC2_1.out ?side7 HC2_2.out A5.out).mono ?_); (case side1 => exact Kd.C_below HR2_1.out eB); (case side3 => exact Kd.C_below HR2_2.out eB); (case side5 => exact Kd.C_below HR2_1.out eB); (case side7 => exact Kd.C_below HR2_2.out eB); rintro e w28 ⟨v428, v431, rfl, ho0, ho1, hb⟩; refine ⟨_, rfl, ?_⟩; have HO429 := aM (Kd.R_lower (Kd.R_new' (Kd.R_new' ho0 (Kd.R_lt (by (with_reducible repeat (first | apply Kd.R_alloc | apply Kd.R_drewN | apply Kd.R_drew)); exact (rX HO420.out BK425.out)))) (Kd.R_lt (by (with_reducible repeat (first | apply Kd.R_alloc | apply Kd.R_drewN | apply Kd.R_drew)); exact (rX HO423.out BK425.out)))) (below_size eB)); have HO432 := aM (Kd.R_lower (Kd.R_new' (Kd.R_new' ho1 (Kd.R_lt (by (with_reducible repeat (first | apply Kd.R_alloc | apply Kd.R_drewN | apply Kd.R_drew)); exact (rX HO420.out BK425.out)))) (Kd.R_lt (by (with_reducible repeat (first | apply Kd.R_alloc | apply Kd.R_drewN | apply Kd.R_drew)); exact (rX HO423.out BK425.out)))) (below_size eB)); replace HO420 := aM (Kd.R_mono (Kd.R_told (Kd.R_told (Kd.R_old (by (with_reducible repeat (first | apply Kd.R_alloc | apply Kd.R_drewN | apply Kd.R_drew)); exact (rX HO420.out BK425.out)) hb) (Kd.R_base ho0)) (Kd.R_base ho1)) (fun _ h_ => h_.1)); replace HO423 := aM (Kd.R_mono (Kd.R_told (Kd.R_told (Kd.R_old (by (with_reducible repeat (first | apply Kd.R_alloc | apply Kd.R_drewN | apply Kd.R_drew)); exact (rX HO423.out BK425.out)) hb) (Kd.R_base ho0)) (Kd.R_base ho1)) (fun _ h_ => h_.1)); replace BK414 := aM (blk_below (g := gb414) (o := .cells #[.bool a0_0, .slice A0_1 l0_1.length c0_1, .slice A0_2 l0_2.length c0_2] 46 (0, 0)) (dQ1 BK414.out NB414_425.out) hb); replace BK415 := aM (blk_below (g := gb415) (o := .cells #[.bool a1_0, .slice A1_1 l1_1.length c1_1, .slice A1_2 l1_2.length c1_2] 46 (0, 0)) (dQ1 BK415.out NB415_425.out) hb); replace BK416 := aM (blk_below (g := gb416) (o := .cells #[.bool a2_0, .slice A2_1 l2_1.length c2_1, .slice A2_2 l2_2.length c2_2] 46 (0, 0)) (dQ1 BK416.out NB416_425.out) hb); replace BK425 := aM (blk_below (g := gb425) (o := .cells #[.bool t417, .slice Ao25 t418.length co25, .slice Ao26 t421.length co26] 46 (0, 0)) (dP BK425.out) hb); replace HB := hS HB.out hb; (try clear hb); (try clear ho0); (try clear ho1)) | ((with_reducible refine gate_dst (N := 9) rfl ?_); refine bE 9 #[.bool false, .slice none 0 0, .slice none 0 0] 46 ?_; intro gb434 hg w29 hbox hb; replace HO420 := oB HO420.out hb; replace HO423 := oB HO423.out hb; replace HO429 := oB HO429.out hb; replace HO432 := oB HO432.out hb; have BK434 := aM (hbox); have GE434 : Aside0 (w.heap.size ≤ gb434) := gE hg; replace HB := hS HB.out hb; have NB414_434 := nL hg BK414.out; have NB434_414 := nG hg BK414.out; replace BK414 := bB BK414.out hb; have NB415_434 := nL hg BK415.out; have NB434_415 := nG hg BK415.out; replace BK415 := bB BK415.out hb; have NB416_434 := nL hg BK416.out; have NB434_416 := nG hg BK416.out; replace BK416 := bB BK416.out hb; have NB425_434 := nL hg BK425.out; have NB434_425 := nG hg BK425.out; replace BK425 := bB BK425.out hb; clear hb hbox hg; have hnb30 := NB434_414.out; have hnc30 := NB414_434.out; have hnb31 := NB434_415.out; have hnc31 := NB415_434.out; have hnb32 := NB434_416.out; have hnc32 := NB416_434.out; have hnb33 := NB434_425.out; have hnc33 := NB425_434.out; obtain ⟨hcz34_0, hcz34_1, hcz34_2⟩ := cz3 BK434.out; obtain ⟨hfz34_0, hfz34_1, hfz34_2⟩ := fz3 BK434.out; obtain ⟨Ao35, co35, rfl⟩ := Kd.R_slice HO429.out; obtain ⟨Ao36, co36, rfl⟩ := Kd.R_slice HO432.out) | ((with_reducible refine gate_callee (f := 15) rfl ?_); refine gL (some 24) Tryd.func15 #[.int .i64 t424] ?_; (with_reducible refine (plumblaw07_num.calls t424 t435 _ A6.out).mono ?_); rintro e w' ⟨rfl, ⟨nd, rfl⟩⟩; refine ⟨_, rfl, ?_⟩) | (go_at_call 15; (with_reducible refine (plumblaw07_num.calls t433 t436 _ A8.out).mono ?_); rintro e w' ⟨rfl, ⟨nd, rfl⟩⟩; obtain ⟨hcz37_0, hcz37_1, hcz37_2⟩ := cz3 BK425.out; obtain ⟨hfz37_0, hfz37_1, hfz37_2⟩ := fz3 BK425.out) | ((with_reducible refine gate_callee (f := 27) rfl ?_); refine gL (some 33) Tryd.func27 #[.agg #[.bool t426, .slice Ao35 t427.length co35, .slice Ao36 t430.length co36], .agg #[.bool t417, .slice Ao25 t418.length co25, .slice Ao26 t421.length co26]] ?_; (with_reducible refine (plumblaw07_cmp.calls k t426 _ _ t427 _ _ t430 t417 _ _ t418 _ _ t421 t437 _ ?side1 (Kd.R_reads' HO429.out).2.1 ?side3 (Kd.R_reads' HO432.out).2.1 ?side5 (Kd.R_reads' HO420.out).2.1 ?side7 (Kd.R_reads' HO423.out).2.1 A10.out).mono ?_); (case side1 => refine (Kd.R_reads' (e := 26) (base := w.heap.size) (ok := fun k_ => ((some k_ ≠ (.slice Ao36 t430.length co36 : Value).ownBlock ∧ some k_ ≠ (.slice Ao25 t418.length co25 : Value).ownBlock) ∧ some k_ ≠ (.slice Ao26 t421.length co26 : Value).ownBlock)) (n := t427.length) (c := co35) ?_).2.2; exact (by (with_reducible repeat (first | apply Kd.R_alloc | apply Kd.R_drewN | apply Kd.R_drew)); exact (rX HO429.out BK434.out))); (case side3 => refine (Kd.R_reads' (e := 26) (base := w.heap.size) (ok := fun k_ => ((some k_ ≠ (.slice Ao35 t427.length co35 : Value).ownBlock ∧ some k_ ≠ (.slice Ao25 t418.length co25 : Value).ownBlock) ∧ some k_ ≠ (.slice Ao26 t421.length co26 : Value).ownBlock)) (n := t430.length) (c := co36) ?_).2.2; exact (by (with_reducible repeat (first | apply Kd.R_alloc | apply Kd.R_drewN | apply Kd.R_drew)); exact (rX HO432.out BK434.out))); (case side5 => refine (Kd.R_reads' (e := 26) (base := w.heap.size) (ok := fun k_ => ((some k_ ≠ (.slice Ao26 t421.length co26 : Value).ownBlock ∧ some k_ ≠ (.slice Ao35 t427.length co35 : Value).ownBlock) ∧ some k_ ≠ (.slice Ao36 t430.length co36 : Value).ownBlock)) (n := t418.length) (c := co25) ?_).2.2; exact (by (with_reducible repeat (first | apply Kd.R_alloc | apply Kd.R_drewN | apply Kd.R_drew)); exact (rX HO420.out BK434.out))); (case side7 => refine (Kd.R_reads' (e := 26) (base := w.heap.size) (ok := fun k_ => ((some k_ ≠ (.slice Ao25 t418.length co25 : Value).ownBlock ∧ some k_ ≠ (.slice Ao35 t427.length co35 : Value).ownBlock) ∧ some k_ ≠ (.slice Ao36 t430.length co36 : Value).ownBlock)) (n := t421.length) (c := co26) ?_).2.2; exact (by (with_reducible repeat (first | apply Kd.R_alloc | apply Kd.R_drewN | apply Kd.R_drew)); exact (rX HO423.out BK434.out))); rintro e w38 ⟨rfl, hb⟩; refine ⟨_, rfl, ?_⟩; replace HO420 := oX HO420.out BK434.out hb; replace HO423 := oX HO423.out BK434.out hb; replace HO429 := oX HO429.out BK434.out hb; replace HO432 := oX HO432.out BK434.out hb; replace BK414 := aM (blk_below (g := gb414) (o := .cells #[.bool a0_0, .slice A0_1 l0_1.length c0_1, .slice A0_2 l0_2.length c0_2] 46 (0, 0)) (dQ1 BK414.out NB414_434.out) hb); replace BK415 := aM (blk_below (g := gb415) (o := .cells #[.bool a1_0, .slice A1_1 l1_1.length c1_1, .slice A1_2 l1_2.length c1_2] 46 (0, 0)) (dQ1 BK415.out NB415_434.out) hb); replace BK416 := aM (blk_below (g := gb416) (o := .cells #[.bool a2_0, .slice A2_1 l2_1.length c2_1, .slice A2_2 l2_2.length c2_2] 46 (0, 0)) (dQ1 BK416.out NB416_434.out) hb); replace BK425 := aM (blk_below (g := gb425) (o := .cells #[.bool t417, .slice Ao25 t418.length co25, .slice Ao26 t421.length co26] 46 (0, 0)) (dQ1 BK425.out NB425_434.out) hb); replace BK434 := aM (blk_below (g := gb434) (o := .cells #[.bool t426, .slice Ao35 t427.length co35, .slice Ao36 t430.length co36] 46 (0, 0)) (dP BK434.out) hb); replace HB := hS HB.out hb; (try clear hb)))
   go_ret
   exact ⟨dE, eB⟩
  ·rw [if_neg c9] at H
   exact absurd H (by simp)
 ·rw [if_neg c7] at H
  exact absurd H (by simp)
def plumblaw07_above.f (k : Nat) (a0 : Int) : Option (Bool × List Int × List Int × Bool) := if a0 = 9218868437227405311 then ((plumblaw07_whole.f k false 1 1024).bind fun bt439 => (some (bt439.1, bt439.2.1, bt439.2.2, true))) else ((plumblaw07_value.f k (IntKind.u64.wrap (a0 + 1))).bind fun bt446 => (some (bt446.1, bt446.2.1, bt446.2.2.1, bt446.2.2.2)))
set_option maxHeartbeats 8000000 in
set_option maxRecDepth 100000 in
theorem plumblaw07_above.calls (k : Nat) (a0 : Int) (r1 : Bool) (r2 : List Int) (r3 : List Int) (r4 : Bool) (w : World) (h : plumblaw07_above.f k a0 = some (r1, r2, r3, r4)) :
  Calls Tryd.prog 32 #[.int .u64 a0] w fun e w' => ∃ v1_ v2_ : Value, e = .returned (.tuple #[.agg #[.bool r1, v1_, v2_], .bool r4]) ∧ Kd.R (Kd.int .u64) 26 w' w.heap.size (fun k_ => some k_ ≠ (v2_ : Value).ownBlock) v1_ r2 ∧ Kd.R (Kd.int .u64) 26 w' w.heap.size (fun k_ => some k_ ≠ (v1_ : Value).ownBlock) v2_ r3 ∧ Below w.heap.size w w' := by
 have hu46 := Tryd.underlying46
 have HB := aM (Below.refl w.heap.size w)
 have H := h
 clear h
 unfold plumblaw07_above.f at H
 by_cases c2 : a0 = 9218868437227405311
 ·rw [if_pos c2] at H
  have c2b0 : (a0 == 9218868437227405311) = true := beq_iff_eq.mpr c2
  have c2b1 : (a0 != 9218868437227405311) = false := bne_eq_false_iff_eq.mpr c2
  clear c2
  replace H := obe H
  obtain ⟨⟨t439, t440, t443⟩, A30, H⟩ := H
  (try dsimp only at H)
  have A3 := aM A30
  clear A30
  simp only [Option.some.injEq, Prod.mk.injEq] at H
  obtain ⟨rfl, rfl, rfl, rfl⟩ := H
  go_enter Tryd.func32, Tryd.ntmps32
  go_wp2_with (first | ((with_reducible refine gate_dst (N := 2) rfl ?_); refine bE 2 #[.bool false, .slice none 0 0, .slice none 0 0] 46 ?_; intro gb438 hg w4 hbox hb; have BK438 := aM (hbox); have GE438 : Aside0 (w.heap.size ≤ gb438) := gE hg; replace HB := hS HB.out hb; clear hb hbox hg) | ((with_reducible refine gate_callee (f := 31) rfl ?_); refine gL (some 6) Tryd.func31 #[.bool false, .int .u64 1, .int .i64 1024] ?_; (with_reducible refine (plumblaw07_whole.calls k false 1 1024 t439 t440 t443 _ A3.out).mono ?_); rintro e w5 ⟨v441, v444, rfl, ho0, ho1, hb⟩; refine ⟨_, rfl, ?_⟩; have HO442 := aM (Kd.R_lower ho0 (below_size eB)); have HO445 := aM (Kd.R_lower ho1 (below_size eB)); replace BK438 := bB BK438.out hb; replace HB := hS HB.out hb; (try clear hb); (try clear ho0); (try clear ho1); obtain ⟨hcz6_0, hcz6_1, hcz6_2⟩ := cz3 BK438.out; obtain ⟨hfz6_0, hfz6_1, hfz6_2⟩ := fz3 BK438.out; obtain ⟨Ao7, co7, rfl⟩ := Kd.R_slice HO442.out; obtain ⟨Ao8, co8, rfl⟩ := Kd.R_slice HO445.out))
  refine bodyPost_ret (results_ct rfl _ _ gb438 46 #[.bool t439, .slice Ao7 t440.length co7, .slice Ao8 t443.length co8] (0, 0) _ rfl (dP BK438.out) Tryd.underlying46 rfl (by kernel_rfl)) rfl ?_
  exact ⟨_, _, dE, by (with_reducible repeat (first | apply Kd.R_alloc | apply Kd.R_drewN | apply Kd.R_drew)); exact rX HO442.out BK438.out, by (with_reducible repeat (first | apply Kd.R_alloc | apply Kd.R_drewN | apply Kd.R_drew)); exact rX HO445.out BK438.out, dG GE438.out⟩
 ·rw [if_neg c2] at H
  have c2b0 : (a0 == 9218868437227405311) = false := beq_eq_false_iff_ne.mpr c2
  have c2b1 : (a0 != 9218868437227405311) = true := bne_iff_ne.mpr c2
  replace H := obe H
  obtain ⟨⟨t446, t447, t450, t453⟩, A90, H⟩ := H
  (try dsimp only at H)
  have A9 := aM A90
  clear A90
  simp only [Option.some.injEq, Prod.mk.injEq] at H
  obtain ⟨rfl, rfl, rfl, rfl⟩ := H
  go_enter Tryd.func32, Tryd.ntmps32
  go_wp2_with (first | ((with_reducible refine gate_dst (N := 2) rfl ?_); refine bE 2 #[.bool false, .slice none 0 0, .slice none 0 0] 46 ?_; intro gb438 hg w10 hbox hb; have BK438 := aM (hbox); have GE438 : Aside0 (w.heap.size ≤ gb438) := gE hg; replace HB := hS HB.out hb; clear hb hbox hg) | ((with_reducible refine gate_callee (f := 25) rfl ?_); refine gL (some 9) Tryd.func25 #[.int .u64 (IntKind.u64.wrap (a0 + 1))] ?_; (with_reducible refine (plumblaw07_value.calls k (IntKind.u64.wrap (a0 + 1)) t446 t447 t450 t453 _ A9.out).mono ?_); rintro e w11 ⟨v448, v451, rfl, ho0, ho1, hb⟩; refine ⟨_, rfl, ?_⟩; have HO449 := aM (Kd.R_lower ho0 (below_size eB)); have HO452 := aM (Kd.R_lower ho1 (below_size eB)); replace BK438 := bB BK438.out hb; replace HB := hS HB.out hb; (try clear hb); (try clear ho0); (try clear ho1); obtain ⟨hcz12_0, hcz12_1, hcz12_2⟩ := cz3 BK438.out; obtain ⟨hfz12_0, hfz12_1, hfz12_2⟩ := fz3 BK438.out; obtain ⟨Ao13, co13, rfl⟩ := Kd.R_slice HO449.out; obtain ⟨Ao14, co14, rfl⟩ := Kd.R_slice HO452.out))
  refine bodyPost_ret (results_ct rfl _ _ gb438 46 #[.bool t446, .slice Ao13 t447.length co13, .slice Ao14 t450.length co14] (0, 0) _ rfl (dP BK438.out) Tryd.underlying46 rfl (by kernel_rfl)) rfl ?_
  exact ⟨_, _, dE, by (with_reducible repeat (first | apply Kd.R_alloc | apply Kd.R_drewN | apply Kd.R_drew)); exact rX HO449.out BK438.out, by (with_reducible repeat (first | apply Kd.R_alloc | apply Kd.R_drewN | apply Kd.R_drew)); exact rX HO452.out BK438.out, dG GE438.out⟩
end Go.Proofs.YtoefabmlkbhmpaaDoor.PA
