/- A part of the proof (15). -/
import Derived.Test.YtiogfeeaepkkmaaYKGVKG2
import Derived.Test.YtiogfeeaepkkmaaYKGVKG11
import Derived.Test.YtiogfeeaepkkmaaYKGVKG12
import Derived.Test.YtiogfeeaepkkmaaYKGVKG13
import Derived.Test.YtiogfeeaepkkmaaYKGVKG14
import Derived.Test.YtiogfeeaepkkmaaYKGVKG18
namespace Go.Proofs.Ytiogfeeaepkkmaa.PA
open Go.RowKit Go.Proofs.YtiogfeeaepkkmaaW.PrintWords Go.Proofs.YtiogfeeaepkkmaaW.PrintLast Go.Proofs.YtiogfeeaepkkmaaW.PrintMore
attribute [local go_sem] max2_int min2_int max_two min_two max_three min_three max_four min_four
set_option linter.unusedVariables false
set_option linter.unusedSimpArgs false
set_option maxHeartbeats 8000000 in
set_option maxRecDepth 100000 in
theorem plumblaw05_RatField.calls (k : Nat) (a0_0 : Bool) (A0_1 : Option Addr) (c0_1 : Nat) (l0_1 : List Int) (A0_2 : Option Addr) (c0_2 : Nat) (l0_2 : List Int) (a1_0 : Bool) (A1_1 : Option Addr) (c1_1 : Nat) (l1_1 : List Int) (A1_2 : Option Addr) (c1_2 : Nat) (l1_2 : List Int) (a2_0 : Bool) (A2_1 : Option Addr) (c2_1 : Nat) (l2_1 : List Int) (A2_2 : Option Addr) (c2_2 : Nat) (l2_2 : List Int) (r : Bool) (w : World) (hr0_1 : Kd.C (Kd.int .u64) w A0_1 l0_1.length l0_1) (hc0_1 : l0_1.length ≤ c0_1) (hr0_2 : Kd.C (Kd.int .u64) w A0_2 l0_2.length l0_2) (hc0_2 : l0_2.length ≤ c0_2) (hr1_1 : Kd.C (Kd.int .u64) w A1_1 l1_1.length l1_1) (hc1_1 : l1_1.length ≤ c1_1) (hr1_2 : Kd.C (Kd.int .u64) w A1_2 l1_2.length l1_2) (hc1_2 : l1_2.length ≤ c1_2) (hr2_1 : Kd.C (Kd.int .u64) w A2_1 l2_1.length l2_1) (hc2_1 : l2_1.length ≤ c2_1) (hr2_2 : Kd.C (Kd.int .u64) w A2_2 l2_2.length l2_2) (hc2_2 : l2_2.length ≤ c2_2) (h : plumblaw05_RatField.f k a0_0 l0_1 l0_2 a1_0 l1_1 l1_2 a2_0 l2_1 l2_2 = some r) :
  Calls Try.prog 3 #[.agg #[.bool a0_0, .slice A0_1 l0_1.length c0_1, .slice A0_2 l0_2.length c0_2], .agg #[.bool a1_0, .slice A1_1 l1_1.length c1_1, .slice A1_2 l1_2.length c1_2], .agg #[.bool a2_0, .slice A2_1 l2_1.length c2_1, .slice A2_2 l2_2.length c2_2]] w fun e w' => e = .returned (.bool r) ∧ Below w.heap.size w w' := by
 have hu24 := Try.underlying24
 have hu25 := Try.underlying25
 have HR0_1 := aM hr0_1
 have HC0_1 := aM hc0_1
 clear hr0_1 hc0_1
 have HR0_2 := aM hr0_2
 have HC0_2 := aM hc0_2
 clear hr0_2 hc0_2
 have HR1_1 := aM hr1_1
 have HC1_1 := aM hc1_1
 clear hr1_1 hc1_1
 have HR1_2 := aM hr1_2
 have HC1_2 := aM hc1_2
 clear hr1_2 hc1_2
 have HR2_1 := aM hr2_1
 have HC2_1 := aM hc2_1
 clear hr2_1 hc2_1
 have HR2_2 := aM hr2_2
 have HC2_2 := aM hc2_2
 clear hr2_2 hc2_2
 have HB := aM (Below.refl w.heap.size w)
 have H := h
 clear h
 unfold plumblaw05_RatField.f at H
 replace H := oA H
 obtain ⟨⟨t471, t472, t475, t478, t479, t482, t485, t486, t489, t492⟩, A4, H⟩ := H
 (try dsimp only at H)
 replace H := nO H
 obtain ⟨rfl, H⟩ := H
 (try dsimp only at H)
 replace H := oA H
 obtain ⟨⟨t496, t497, t500, t503⟩, A6, H⟩ := H
 (try dsimp only at H)
 replace H := oA H
 obtain ⟨⟨t505, t506, t509, t512⟩, A7, H⟩ := H
 (try dsimp only at H)
 replace H := oA H
 obtain ⟨⟨t514, t515, t518, t521⟩, A8, H⟩ := H
 (try dsimp only at H)
 replace H := oA H
 obtain ⟨⟨t523, t524, t527, t530⟩, A9, H⟩ := H
 (try dsimp only at H)
 replace H := oA H
 obtain ⟨⟨t532, t533, t536, t539⟩, A10, H⟩ := H
 (try dsimp only at H)
 have HC11 := aM H
 clear H
 go_enter Try.func3, Try.ntmps3
 go_upto_region 9 with (first | ((with_reducible refine gate_dst (N := 3) rfl ?_); refine bE 3 #[.bool a0_0, .slice A0_1 l0_1.length c0_1, .slice A0_2 l0_2.length c0_2] 24 ?_; intro gb468 hg w12 hbox hb; have BK468 := aM (hbox); have GW468 : Aside0 (w.heap.size ≤ gb468) := gE hg; have GE468 : Aside0 (w.heap.size ≤ gb468) := gE hg; replace HB := hS HB.out hb; clear hb hbox hg) | ((with_reducible refine gate_dst (N := 4) rfl ?_); refine bE 4 #[.bool a1_0, .slice A1_1 l1_1.length c1_1, .slice A1_2 l1_2.length c1_2] 24 ?_; intro gb469 hg w13 hbox hb; have BK469 := aM (hbox); have GW469 : Aside0 (w.heap.size ≤ gb469) := gE hg; have GE469 : Aside0 (w.heap.size ≤ gb469) := gE hg; replace HB := hS HB.out hb; have NB468_469 := nL hg BK468.out; have NB469_468 := nG hg BK468.out; replace BK468 := bB BK468.out hb; clear hb hbox hg) | ((with_reducible refine gate_dst (N := 5) rfl ?_); refine bE 5 #[.bool a2_0, .slice A2_1 l2_1.length c2_1, .slice A2_2 l2_2.length c2_2] 24 ?_; intro gb470 hg w14 hbox hb; have BK470 := aM (hbox); have GW470 : Aside0 (w.heap.size ≤ gb470) := gE hg; have GE470 : Aside0 (w.heap.size ≤ gb470) := gE hg; replace HB := hS HB.out hb; have NB468_470 := nL hg BK468.out; have NB470_468 := nG hg BK468.out; replace BK468 := bB BK468.out hb; have NB469_470 := nL hg BK469.out; have NB470_469 := nG hg BK469.out; replace BK469 := bB BK469.out hb; clear hb hbox hg; have hnb15 := NB468_469.out; have hnc15 := NB469_468.out; have hnb16 := NB468_470.out; have hnc16 := NB470_468.out; obtain ⟨hcz17_0, hcz17_1, hcz17_2⟩ := cz3 BK468.out; obtain ⟨hfz17_0, hfz17_1, hfz17_2⟩ := fz3 BK468.out; have hnb18 := NB469_470.out; have hnc18 := NB470_469.out; obtain ⟨hcz19_0, hcz19_1, hcz19_2⟩ := cz3 BK469.out; obtain ⟨hfz19_0, hfz19_1, hfz19_2⟩ := fz3 BK469.out; obtain ⟨hcz20_0, hcz20_1, hcz20_2⟩ := cz3 BK470.out; obtain ⟨hfz20_0, hfz20_1, hfz20_2⟩ := fz3 BK470.out) | ((with_reducible refine gate_callee (f := 6) rfl ?_); refine gL (some 41) Try.func6 #[.agg #[.bool a0_0, .slice A0_1 l0_1.length c0_1, .slice A0_2 l0_2.length c0_2], .agg #[.bool a1_0, .slice A1_1 l1_1.length c1_1, .slice A1_2 l1_2.length c1_2], .agg #[.bool a2_0, .slice A2_1 l2_1.length c2_1, .slice A2_2 l2_2.length c2_2]] ?_; (with_reducible refine (plumblaw05_three.calls k a0_0 _ _ l0_1 _ _ l0_2 a1_0 _ _ l1_1 _ _ l1_2 a2_0 _ _ l2_1 _ _ l2_2 t471 t472 t475 t478 t479 t482 t485 t486 t489 true _ ?side1 HC0_1.out ?side3 HC0_2.out ?side5 HC1_1.out ?side7 HC1_2.out ?side9 HC2_1.out ?side11 HC2_2.out A4.out).mono ?_); (case side1 => exact dC (Kd.C_below HR0_1.out HB.out)); (case side3 => exact dC (Kd.C_below HR0_2.out HB.out)); (case side5 => exact dC (Kd.C_below HR1_1.out HB.out)); (case side7 => exact dC (Kd.C_below HR1_2.out HB.out)); (case side9 => exact dC (Kd.C_below HR2_1.out HB.out)); (case side11 => exact dC (Kd.C_below HR2_2.out HB.out)); rintro e w21 ⟨v473, v476, v480, v483, v487, v490, rfl, ho0, ho1, ho2, ho3, ho4, ho5, hb⟩; refine ⟨_, rfl, ?_⟩; have HO474 := aM (Kd.R_lower ho0 (below_size eB)); have HO477 := aM (Kd.R_lower ho1 (below_size eB)); have HO481 := aM (Kd.R_lower ho2 (below_size eB)); have HO484 := aM (Kd.R_lower ho3 (below_size eB)); have HO488 := aM (Kd.R_lower ho4 (below_size eB)); have HO491 := aM (Kd.R_lower ho5 (below_size eB)); replace BK468 := bB BK468.out hb; replace BK469 := bB BK469.out hb; replace BK470 := bB BK470.out hb; replace HB := hS HB.out hb; (try clear hb); (try clear ho0); (try clear ho1); (try clear ho2); (try clear ho3); (try clear ho4); (try clear ho5)) | ((with_reducible refine gate_dst (N := 7) rfl ?_); refine bE 7 #[.bool false, .slice none 0 0, .slice none 0 0] 25 ?_; intro gb493 hg w22 hbox hb; replace HO474 := oB HO474.out hb; replace HO477 := oB HO477.out hb; replace HO481 := oB HO481.out hb; replace HO484 := oB HO484.out hb; replace HO488 := oB HO488.out hb; replace HO491 := oB HO491.out hb; have BK493 := aM (hbox); have GW493 : Aside0 (w.heap.size ≤ gb493) := gE hg; have GE493 : Aside0 (w.heap.size ≤ gb493) := gE hg; replace HB := hS HB.out hb; have NB468_493 := nL hg BK468.out; have NB493_468 := nG hg BK468.out; replace BK468 := bB BK468.out hb; have NB469_493 := nL hg BK469.out; have NB493_469 := nG hg BK469.out; replace BK469 := bB BK469.out hb; have NB470_493 := nL hg BK470.out; have NB493_470 := nG hg BK470.out; replace BK470 := bB BK470.out hb; clear hb hbox hg) | ((with_reducible refine gate_dst (N := 8) rfl ?_); refine bE 8 #[.bool false, .slice none 0 0, .slice none 0 0] 25 ?_; intro gb494 hg w23 hbox hb; replace HO474 := oB HO474.out hb; replace HO477 := oB HO477.out hb; replace HO481 := oB HO481.out hb; replace HO484 := oB HO484.out hb; replace HO488 := oB HO488.out hb; replace HO491 := oB HO491.out hb; have BK494 := aM (hbox); have GW494 : Aside0 (w.heap.size ≤ gb494) := gE hg; have GE494 : Aside0 (w.heap.size ≤ gb494) := gE hg; replace HB := hS HB.out hb; have NB468_494 := nL hg BK468.out; have NB494_468 := nG hg BK468.out; replace BK468 := bB BK468.out hb; have NB469_494 := nL hg BK469.out; have NB494_469 := nG hg BK469.out; replace BK469 := bB BK469.out hb; have NB470_494 := nL hg BK470.out; have NB494_470 := nG hg BK470.out; replace BK470 := bB BK470.out hb; have NB493_494 := nL hg BK493.out; have NB494_493 := nG hg BK493.out; replace BK493 := bB BK493.out hb; clear hb hbox hg) | ((with_reducible refine gate_dst (N := 9) rfl ?_); refine bE 9 #[.bool false, .slice none 0 0, .slice none 0 0] 25 ?_; intro gb495 hg w24 hbox hb; replace HO474 := oB HO474.out hb; replace HO477 := oB HO477.out hb; replace HO481 := oB HO481.out hb; replace HO484 := oB HO484.out hb; replace HO488 := oB HO488.out hb; replace HO491 := oB HO491.out hb; have BK495 := aM (hbox); have GW495 : Aside0 (w.heap.size ≤ gb495) := gE hg; have GE495 : Aside0 (w.heap.size ≤ gb495) := gE hg; replace HB := hS HB.out hb; have NB468_495 := nL hg BK468.out; have NB495_468 := nG hg BK468.out; replace BK468 := bB BK468.out hb; have NB469_495 := nL hg BK469.out; have NB495_469 := nG hg BK469.out; replace BK469 := bB BK469.out hb; have NB470_495 := nL hg BK470.out; have NB495_470 := nG hg BK470.out; replace BK470 := bB BK470.out hb; have NB493_495 := nL hg BK493.out; have NB495_493 := nG hg BK493.out; replace BK493 := bB BK493.out hb; have NB494_495 := nL hg BK494.out; have NB495_494 := nG hg BK494.out; replace BK494 := bB BK494.out hb; clear hb hbox hg; have hnb25 := NB493_468.out; have hnc25 := NB468_493.out; have hnb26 := NB493_469.out; have hnc26 := NB469_493.out; have hnb27 := NB493_470.out; have hnc27 := NB470_493.out; have hnb28 := NB493_494.out; have hnc28 := NB494_493.out; have hnb29 := NB493_495.out; have hnc29 := NB495_493.out; obtain ⟨hcz30_0, hcz30_1, hcz30_2⟩ := cz3 BK493.out; obtain ⟨hfz30_0, hfz30_1, hfz30_2⟩ := fz3 BK493.out; obtain ⟨Ao31, co31, rfl⟩ := Kd.R_slice HO474.out; obtain ⟨Ao32, co32, rfl⟩ := Kd.R_slice HO477.out; have hnb33 := NB494_468.out; have hnc33 := NB468_494.out; have hnb34 := NB494_469.out; have hnc34 := NB469_494.out; have hnb35 := NB494_470.out; have hnc35 := NB470_494.out; have hnb36 := NB494_495.out; have hnc36 := NB495_494.out; obtain ⟨hcz37_0, hcz37_1, hcz37_2⟩ := cz3 BK494.out; obtain ⟨hfz37_0, hfz37_1, hfz37_2⟩ := fz3 BK494.out; obtain ⟨Ao38, co38, rfl⟩ := Kd.R_slice HO481.out; obtain ⟨Ao39, co39, rfl⟩ := Kd.R_slice HO484.out; have hnb40 := NB495_468.out; have hnc40 := NB468_495.out; have hnb41 := NB495_469.out; have hnc41 := NB469_495.out; have hnb42 := NB495_470.out; have hnc42 := NB470_495.out; obtain ⟨hcz43_0, hcz43_1, hcz43_2⟩ := cz3 BK495.out; obtain ⟨hfz43_0, hfz43_1, hfz43_2⟩ := fz3 BK495.out; obtain ⟨Ao44, co44, rfl⟩ := Kd.R_slice HO488.out; obtain ⟨Ao45, co45, rfl⟩ := Kd.R_slice HO491.out) | ((with_reducible refine gate_callee (f := 7) rfl ?_); refine gL (some 51) Try.func7 #[.agg #[.bool t471, .slice Ao31 t472.length co31, .slice Ao32 t475.length co32], .agg #[.bool t478, .slice Ao38 t479.length co38, .slice Ao39 t482.length co39]] ?_; (with_reducible refine (plumblaw05_add.calls k t471 _ _ t472 _ _ t475 t478 _ _ t479 _ _ t482 t496 t497 t500 t503 _ ?side1 (Kd.R_reads' HO474.out).2.1 ?side3 ?side4 ?side5 ?side6 ?side7 ?side8 A6.out).mono ?_); (case side1 => exact qC3 HO474.out BK493.out BK494.out BK495.out); (case side3 => exact qC3 HO477.out BK493.out BK494.out BK495.out); (case side4 => exact (Kd.R_reads' HO477.out).2.1); (case side5 => exact qC3 HO481.out BK493.out BK494.out BK495.out); (case side6 => exact (Kd.R_reads' HO481.out).2.1); (case side7 => exact qC3 HO484.out BK493.out BK494.out BK495.out); (case side8 => exact (Kd.R_reads' HO484.out).2.1); rintro e w46 ⟨v498, v501, rfl, ho0, ho1, hb⟩; refine ⟨_, rfl, ?_⟩; have HO499 := aM (Kd.R_lower (Kd.R_new' (Kd.R_new' (Kd.R_new' (Kd.R_new' (Kd.R_new' (Kd.R_new' ho0 (Kd.R_lt (pR3 HO474.out BK493.out BK494.out BK495.out))) (Kd.R_lt (pR3 HO477.out BK493.out BK494.out BK495.out))) (Kd.R_lt (pR3 HO481.out BK493.out BK494.out BK495.out))) (Kd.R_lt (pR3 HO484.out BK493.out BK494.out BK495.out))) (Kd.R_lt (pR3 HO488.out BK493.out BK494.out BK495.out))) (Kd.R_lt (pR3 HO491.out BK493.out BK494.out BK495.out))) (below_size eB)); have HO502 := aM (Kd.R_lower (Kd.R_new' (Kd.R_new' (Kd.R_new' (Kd.R_new' (Kd.R_new' (Kd.R_new' ho1 (Kd.R_lt (pR3 HO474.out BK493.out BK494.out BK495.out))) (Kd.R_lt (pR3 HO477.out BK493.out BK494.out BK495.out))) (Kd.R_lt (pR3 HO481.out BK493.out BK494.out BK495.out))) (Kd.R_lt (pR3 HO484.out BK493.out BK494.out BK495.out))) (Kd.R_lt (pR3 HO488.out BK493.out BK494.out BK495.out))) (Kd.R_lt (pR3 HO491.out BK493.out BK494.out BK495.out))) (below_size eB)); replace HO474 := aM (Kd.R_mono (Kd.R_told (Kd.R_told (Kd.R_old (pR3 HO474.out BK493.out BK494.out BK495.out) hb) (Kd.R_base ho0)) (Kd.R_base ho1)) (fun _ h_ => h_.1)); replace HO477 := aM (Kd.R_mono (Kd.R_told (Kd.R_told (Kd.R_old (pR3 HO477.out BK493.out BK494.out BK495.out) hb) (Kd.R_base ho0)) (Kd.R_base ho1)) (fun _ h_ => h_.1)); replace HO481 := aM (Kd.R_mono (Kd.R_told (Kd.R_told (Kd.R_old (pR3 HO481.out BK493.out BK494.out BK495.out) hb) (Kd.R_base ho0)) (Kd.R_base ho1)) (fun _ h_ => h_.1)); replace HO484 := aM (Kd.R_mono (Kd.R_told (Kd.R_told (Kd.R_old (pR3 HO484.out BK493.out BK494.out BK495.out) hb) (Kd.R_base ho0)) (Kd.R_base ho1)) (fun _ h_ => h_.1)); replace HO488 := aM (Kd.R_mono (Kd.R_told (Kd.R_told (Kd.R_old (pR3 HO488.out BK493.out BK494.out BK495.out) hb) (Kd.R_base ho0)) (Kd.R_base ho1)) (fun _ h_ => h_.1)); replace HO491 := aM (Kd.R_mono (Kd.R_told (Kd.R_told (Kd.R_old (pR3 HO491.out BK493.out BK494.out BK495.out) hb) (Kd.R_base ho0)) (Kd.R_base ho1)) (fun _ h_ => h_.1)); replace BK468 := wU3 BK468.out NB468_495.out NB468_494.out NB468_493.out hb; replace BK469 := wU3 BK469.out NB469_495.out NB469_494.out NB469_493.out hb; replace BK470 := wU3 BK470.out NB470_495.out NB470_494.out NB470_493.out hb; replace BK493 := aM (blk_below (g := gb493) (o := .cells #[.bool t471, .slice Ao31 t472.length co31, .slice Ao32 t475.length co32] 25 (0, 0)) (dQ2 BK493.out NB493_495.out NB493_494.out) hb); replace BK494 := aM (blk_below (g := gb494) (o := .cells #[.bool t478, .slice Ao38 t479.length co38, .slice Ao39 t482.length co39] 25 (0, 0)) (dQ2 BK494.out NB494_495.out NB494_493.out) hb); replace BK495 := aM (blk_below (g := gb495) (o := .cells #[.bool t485, .slice Ao44 t486.length co44, .slice Ao45 t489.length co45] 25 (0, 0)) (dQ2 BK495.out NB495_494.out NB495_493.out) hb); replace HB := hS HB.out hb; (try clear hb); (try clear ho0); (try clear ho1)) | ((with_reducible refine gate_dst (N := 11) rfl ?_); refine bE 11 #[.bool false, .slice none 0 0, .slice none 0 0] 25 ?_; intro gb504 hg w47 hbox hb; replace HO474 := oB HO474.out hb; replace HO477 := oB HO477.out hb; replace HO481 := oB HO481.out hb; replace HO484 := oB HO484.out hb; replace HO488 := oB HO488.out hb; replace HO491 := oB HO491.out hb; replace HO499 := oB HO499.out hb; replace HO502 := oB HO502.out hb; have BK504 := aM (hbox); have GW504 : Aside0 (w.heap.size ≤ gb504) := gE hg; have GE504 : Aside0 (w.heap.size ≤ gb504) := gE hg; replace HB := hS HB.out hb; have NB468_504 := nL hg BK468.out; have NB504_468 := nG hg BK468.out; replace BK468 := bB BK468.out hb; have NB469_504 := nL hg BK469.out; have NB504_469 := nG hg BK469.out; replace BK469 := bB BK469.out hb; have NB470_504 := nL hg BK470.out; have NB504_470 := nG hg BK470.out; replace BK470 := bB BK470.out hb; have NB493_504 := nL hg BK493.out; have NB504_493 := nG hg BK493.out; replace BK493 := bB BK493.out hb; have NB494_504 := nL hg BK494.out; have NB504_494 := nG hg BK494.out; replace BK494 := bB BK494.out hb; have NB495_504 := nL hg BK495.out; have NB504_495 := nG hg BK495.out; replace BK495 := bB BK495.out hb; clear hb hbox hg; have hnb48 := NB504_468.out; have hnc48 := NB468_504.out; have hnb49 := NB504_469.out; have hnc49 := NB469_504.out; have hnb50 := NB504_470.out; have hnc50 := NB470_504.out; have hnb51 := NB504_493.out; have hnc51 := NB493_504.out; have hnb52 := NB504_494.out; have hnc52 := NB494_504.out; have hnb53 := NB504_495.out; have hnc53 := NB495_504.out; obtain ⟨hcz54_0, hcz54_1, hcz54_2⟩ := cz3 BK504.out; obtain ⟨hfz54_0, hfz54_1, hfz54_2⟩ := fz3 BK504.out; obtain ⟨Ao55, co55, rfl⟩ := Kd.R_slice HO499.out; obtain ⟨Ao56, co56, rfl⟩ := Kd.R_slice HO502.out; obtain ⟨hcz57_0, hcz57_1, hcz57_2⟩ := cz3 BK494.out; obtain ⟨hfz57_0, hfz57_1, hfz57_2⟩ := fz3 BK494.out; obtain ⟨hcz58_0, hcz58_1, hcz58_2⟩ := cz3 BK493.out; obtain ⟨hfz58_0, hfz58_1, hfz58_2⟩ := fz3 BK493.out) | ((with_reducible refine gate_callee (f := 7) rfl ?_); refine gL (some 57) Try.func7 #[.agg #[.bool t478, .slice Ao38 t479.length co38, .slice Ao39 t482.length co39], .agg #[.bool t471, .slice Ao31 t472.length co31, .slice Ao32 t475.length co32]] ?_; (with_reducible refine (plumblaw05_add.calls k t478 _ _ t479 _ _ t482 t471 _ _ t472 _ _ t475 t505 t506 t509 t512 _ ?side1 (Kd.R_reads' HO481.out).2.1 ?side3 (Kd.R_reads' HO484.out).2.1 ?side5 (Kd.R_reads' HO474.out).2.1 ?side7 (Kd.R_reads' HO477.out).2.1 A7.out).mono ?_); (case side1 => refine (Kd.R_reads' (e := 44) (base := w.heap.size) (ok := fun k_ => (((oN Ao31 t472 co31 k_ ∧ (oN Ao32 t475 co32 k_ ∧ (oN Ao39 t482 co39 k_ ∧ (oN Ao44 t486 co44 k_ ∧ oN Ao45 t489 co45 k_)))) ∧ oN Ao55 t497 co55 k_) ∧ oN Ao56 t500 co56 k_)) (n := t479.length) (c := co38) ?_).2.2; exact (oR HO481.out BK504.out)); (case side3 => refine (Kd.R_reads' (e := 44) (base := w.heap.size) (ok := fun k_ => (((oN Ao31 t472 co31 k_ ∧ (oN Ao32 t475 co32 k_ ∧ (oN Ao38 t479 co38 k_ ∧ (oN Ao44 t486 co44 k_ ∧ oN Ao45 t489 co45 k_)))) ∧ oN Ao55 t497 co55 k_) ∧ oN Ao56 t500 co56 k_)) (n := t482.length) (c := co39) ?_).2.2; exact (oR HO484.out BK504.out)); (case side5 => refine (Kd.R_reads' (e := 44) (base := w.heap.size) (ok := fun k_ => (((oN Ao32 t475 co32 k_ ∧ (oN Ao38 t479 co38 k_ ∧ (oN Ao39 t482 co39 k_ ∧ (oN Ao44 t486 co44 k_ ∧ oN Ao45 t489 co45 k_)))) ∧ oN Ao55 t497 co55 k_) ∧ oN Ao56 t500 co56 k_)) (n := t472.length) (c := co31) ?_).2.2; exact (oR HO474.out BK504.out)); (case side7 => refine (Kd.R_reads' (e := 44) (base := w.heap.size) (ok := fun k_ => (((oN Ao31 t472 co31 k_ ∧ (oN Ao38 t479 co38 k_ ∧ (oN Ao39 t482 co39 k_ ∧ (oN Ao44 t486 co44 k_ ∧ oN Ao45 t489 co45 k_)))) ∧ oN Ao55 t497 co55 k_) ∧ oN Ao56 t500 co56 k_)) (n := t475.length) (c := co32) ?_).2.2; exact (oR HO477.out BK504.out)); rintro e w59 ⟨v507, v510, rfl, ho0, ho1, hb⟩; refine ⟨_, rfl, ?_⟩; have HO508 := aM (Kd.R_lower (nV (nV (nV (nV (nV (nV (nV (nV ho0 HO474.out BK504.out) HO477.out BK504.out) HO481.out BK504.out) HO484.out BK504.out) HO488.out BK504.out) HO491.out BK504.out) HO499.out BK504.out) HO502.out BK504.out) (below_size eB)); have HO511 := aM (Kd.R_lower (nV (nV (nV (nV (nV (nV (nV (nV ho1 HO474.out BK504.out) HO477.out BK504.out) HO481.out BK504.out) HO484.out BK504.out) HO488.out BK504.out) HO491.out BK504.out) HO499.out BK504.out) HO502.out BK504.out) (below_size eB)); replace HO474 := tX HO474.out BK504.out hb ho0 ho1; replace HO477 := tX HO477.out BK504.out hb ho0 ho1; replace HO481 := tX HO481.out BK504.out hb ho0 ho1; replace HO484 := tX HO484.out BK504.out hb ho0 ho1; replace HO488 := tX HO488.out BK504.out hb ho0 ho1; replace HO491 := tX HO491.out BK504.out hb ho0 ho1; replace HO499 := tX HO499.out BK504.out hb ho0 ho1; replace HO502 := tX HO502.out BK504.out hb ho0 ho1; replace BK468 := bU1 BK468.out NB468_504.out hb; replace BK469 := bU1 BK469.out NB469_504.out hb; replace BK470 := bU1 BK470.out NB470_504.out hb; replace BK493 := bU1 BK493.out NB493_504.out hb; replace BK494 := bU1 BK494.out NB494_504.out hb; replace BK495 := bU1 BK495.out NB495_504.out hb; replace BK504 := aM (blk_below (g := gb504) (o := .cells #[.bool t496, .slice Ao55 t497.length co55, .slice Ao56 t500.length co56] 25 (0, 0)) (dP BK504.out) hb); replace HB := hS HB.out hb; (try clear hb); (try clear ho0); (try clear ho1)) | ((with_reducible refine gate_dst (N := 13) rfl ?_); refine bE 13 #[.bool false, .slice none 0 0, .slice none 0 0] 25 ?_; intro gb513 hg w60 hbox hb; replace HO474 := oB HO474.out hb; replace HO477 := oB HO477.out hb; replace HO481 := oB HO481.out hb; replace HO484 := oB HO484.out hb; replace HO488 := oB HO488.out hb; replace HO491 := oB HO491.out hb; replace HO499 := oB HO499.out hb; replace HO502 := oB HO502.out hb; replace HO508 := oB HO508.out hb; replace HO511 := oB HO511.out hb; have BK513 := aM (hbox); have GW513 : Aside0 (w.heap.size ≤ gb513) := gE hg; have GE513 : Aside0 (w.heap.size ≤ gb513) := gE hg; replace HB := hS HB.out hb; have NB468_513 := nL hg BK468.out; have NB513_468 := nG hg BK468.out; replace BK468 := bB BK468.out hb; have NB469_513 := nL hg BK469.out; have NB513_469 := nG hg BK469.out; replace BK469 := bB BK469.out hb; have NB470_513 := nL hg BK470.out; have NB513_470 := nG hg BK470.out; replace BK470 := bB BK470.out hb; have NB493_513 := nL hg BK493.out; have NB513_493 := nG hg BK493.out; replace BK493 := bB BK493.out hb; have NB494_513 := nL hg BK494.out; have NB513_494 := nG hg BK494.out; replace BK494 := bB BK494.out hb; have NB495_513 := nL hg BK495.out; have NB513_495 := nG hg BK495.out; replace BK495 := bB BK495.out hb; have NB504_513 := nL hg BK504.out; have NB513_504 := nG hg BK504.out; replace BK504 := bB BK504.out hb; clear hb hbox hg; have hnb61 := NB513_468.out; have hnc61 := NB468_513.out; have hnb62 := NB513_469.out; have hnc62 := NB469_513.out; have hnb63 := NB513_470.out; have hnc63 := NB470_513.out; have hnb64 := NB513_493.out; have hnc64 := NB493_513.out; have hnb65 := NB513_494.out; have hnc65 := NB494_513.out; have hnb66 := NB513_495.out; have hnc66 := NB495_513.out; have hnb67 := NB513_504.out; have hnc67 := NB504_513.out; obtain ⟨hcz68_0, hcz68_1, hcz68_2⟩ := cz3 BK513.out; obtain ⟨hfz68_0, hfz68_1, hfz68_2⟩ := fz3 BK513.out; obtain ⟨Ao69, co69, rfl⟩ := Kd.R_slice HO508.out; obtain ⟨Ao70, co70, rfl⟩ := Kd.R_slice HO511.out; obtain ⟨hcz71_0, hcz71_1, hcz71_2⟩ := cz3 BK504.out; obtain ⟨hfz71_0, hfz71_1, hfz71_2⟩ := fz3 BK504.out; obtain ⟨hcz72_0, hcz72_1, hcz72_2⟩ := cz3 BK495.out; obtain ⟨hfz72_0, hfz72_1, hfz72_2⟩ := fz3 BK495.out) | ((with_reducible refine gate_callee (f := 7) rfl ?_); refine gL (some 63) Try.func7 #[.agg #[.bool t496, .slice Ao55 t497.length co55, .slice Ao56 t500.length co56], .agg #[.bool t485, .slice Ao44 t486.length co44, .slice Ao45 t489.length co45]] ?_; (with_reducible refine (plumblaw05_add.calls k t496 _ _ t497 _ _ t500 t485 _ _ t486 _ _ t489 t514 t515 t518 t521 _ ?side1 (Kd.R_reads' HO499.out).2.1 ?side3 (Kd.R_reads' HO502.out).2.1 ?side5 (Kd.R_reads' HO488.out).2.1 ?side7 ?side8 A8.out).mono ?_); (case side1 => refine (Kd.R_reads' (e := 44) (base := w.heap.size) (ok := fun k_ => ((((((((oN Ao56 t500 co56 k_ ∧ oN Ao31 t472 co31 k_) ∧ oN Ao32 t475 co32 k_) ∧ oN Ao38 t479 co38 k_) ∧ oN Ao39 t482 co39 k_) ∧ oN Ao44 t486 co44 k_) ∧ oN Ao45 t489 co45 k_) ∧ oN Ao69 t506 co69 k_) ∧ oN Ao70 t509 co70 k_)) (n := t497.length) (c := co55) ?_).2.2; exact (oR HO499.out BK513.out)); (case side3 => refine (Kd.R_reads' (e := 44) (base := w.heap.size) (ok := fun k_ => ((((((((oN Ao55 t497 co55 k_ ∧ oN Ao31 t472 co31 k_) ∧ oN Ao32 t475 co32 k_) ∧ oN Ao38 t479 co38 k_) ∧ oN Ao39 t482 co39 k_) ∧ oN Ao44 t486 co44 k_) ∧ oN Ao45 t489 co45 k_) ∧ oN Ao69 t506 co69 k_) ∧ oN Ao70 t509 co70 k_)) (n := t500.length) (c := co56) ?_).2.2; exact (oR HO502.out BK513.out)); (case side5 => refine (Kd.R_reads' (e := 44) (base := w.heap.size) (ok := fun k_ => (((((oN Ao31 t472 co31 k_ ∧ (oN Ao32 t475 co32 k_ ∧ (oN Ao38 t479 co38 k_ ∧ (oN Ao39 t482 co39 k_ ∧ oN Ao45 t489 co45 k_)))) ∧ oN Ao55 t497 co55 k_) ∧ oN Ao56 t500 co56 k_) ∧ oN Ao69 t506 co69 k_) ∧ oN Ao70 t509 co70 k_)) (n := t486.length) (c := co44) ?_).2.2; exact (oR HO488.out BK513.out)); (case side7 => refine (Kd.R_reads' (e := 44) (base := w.heap.size) (ok := fun k_ => (((((oN Ao31 t472 co31 k_ ∧ (oN Ao32 t475 co32 k_ ∧ (oN Ao38 t479 co38 k_ ∧ (oN Ao39 t482 co39 k_ ∧ oN Ao44 t486 co44 k_)))) ∧ oN Ao55 t497 co55 k_) ∧ oN Ao56 t500 co56 k_) ∧ oN Ao69 t506 co69 k_) ∧ oN Ao70 t509 co70 k_)) (n := t489.length) (c := co45) ?_).2.2; exact (oR HO491.out BK513.out)); (case side8 => exact (Kd.R_reads' HO491.out).2.1); rintro e w73 ⟨v516, v519, rfl, ho0, ho1, hb⟩; refine ⟨_, rfl, ?_⟩; have HO517 := aM (Kd.R_lower (nV (nV (nV (nV (nV (nV (nV (nV (nV (nV ho0 HO474.out BK513.out) HO477.out BK513.out) HO481.out BK513.out) HO484.out BK513.out) HO488.out BK513.out) HO491.out BK513.out) HO499.out BK513.out) HO502.out BK513.out) HO508.out BK513.out) HO511.out BK513.out) (below_size eB)); have HO520 := aM (Kd.R_lower (nV (nV (nV (nV (nV (nV (nV (nV (nV (nV ho1 HO474.out BK513.out) HO477.out BK513.out) HO481.out BK513.out) HO484.out BK513.out) HO488.out BK513.out) HO491.out BK513.out) HO499.out BK513.out) HO502.out BK513.out) HO508.out BK513.out) HO511.out BK513.out) (below_size eB)); replace HO474 := tX HO474.out BK513.out hb ho0 ho1; replace HO477 := tX HO477.out BK513.out hb ho0 ho1; replace HO481 := tX HO481.out BK513.out hb ho0 ho1; replace HO484 := tX HO484.out BK513.out hb ho0 ho1; replace HO488 := tX HO488.out BK513.out hb ho0 ho1; replace HO491 := tX HO491.out BK513.out hb ho0 ho1; replace HO499 := tX HO499.out BK513.out hb ho0 ho1; replace HO502 := tX HO502.out BK513.out hb ho0 ho1; replace HO508 := tX HO508.out BK513.out hb ho0 ho1; replace HO511 := tX HO511.out BK513.out hb ho0 ho1; replace BK468 := bU1 BK468.out NB468_513.out hb; replace BK469 := bU1 BK469.out NB469_513.out hb; replace BK470 := bU1 BK470.out NB470_513.out hb; replace BK493 := bU1 BK493.out NB493_513.out hb; replace BK494 := bU1 BK494.out NB494_513.out hb; replace BK495 := bU1 BK495.out NB495_513.out hb; replace BK504 := bU1 BK504.out NB504_513.out hb; replace BK513 := aM (blk_below (g := gb513) (o := .cells #[.bool t505, .slice Ao69 t506.length co69, .slice Ao70 t509.length co70] 25 (0, 0)) (dP BK513.out) hb); replace HB := hS HB.out hb; (try clear hb); (try clear ho0); (try clear ho1)) | ((with_reducible refine gate_dst (N := 15) rfl ?_); refine bE 15 #[.bool false, .slice none 0 0, .slice none 0 0] 25 ?_; intro gb522 hg w74 hbox hb; replace HO474 := oB HO474.out hb; replace HO477 := oB HO477.out hb; replace HO481 := oB HO481.out hb; replace HO484 := oB HO484.out hb; replace HO488 := oB HO488.out hb; replace HO491 := oB HO491.out hb; replace HO499 := oB HO499.out hb; replace HO502 := oB HO502.out hb; replace HO508 := oB HO508.out hb; replace HO511 := oB HO511.out hb; replace HO517 := oB HO517.out hb; replace HO520 := oB HO520.out hb; have BK522 := aM (hbox); have GW522 : Aside0 (w.heap.size ≤ gb522) := gE hg; have GE522 : Aside0 (w.heap.size ≤ gb522) := gE hg; replace HB := hS HB.out hb; have NB468_522 := nL hg BK468.out; have NB522_468 := nG hg BK468.out; replace BK468 := bB BK468.out hb; have NB469_522 := nL hg BK469.out; have NB522_469 := nG hg BK469.out; replace BK469 := bB BK469.out hb; have NB470_522 := nL hg BK470.out; have NB522_470 := nG hg BK470.out; replace BK470 := bB BK470.out hb; have NB493_522 := nL hg BK493.out; have NB522_493 := nG hg BK493.out; replace BK493 := bB BK493.out hb; have NB494_522 := nL hg BK494.out; have NB522_494 := nG hg BK494.out; replace BK494 := bB BK494.out hb; have NB495_522 := nL hg BK495.out; have NB522_495 := nG hg BK495.out; replace BK495 := bB BK495.out hb; have NB504_522 := nL hg BK504.out; have NB522_504 := nG hg BK504.out; replace BK504 := bB BK504.out hb; have NB513_522 := nL hg BK513.out; have NB522_513 := nG hg BK513.out; replace BK513 := bB BK513.out hb; clear hb hbox hg; have hnb75 := NB522_468.out; have hnc75 := NB468_522.out; have hnb76 := NB522_469.out; have hnc76 := NB469_522.out; have hnb77 := NB522_470.out; have hnc77 := NB470_522.out; have hnb78 := NB522_493.out; have hnc78 := NB493_522.out; have hnb79 := NB522_494.out; have hnc79 := NB494_522.out; have hnb80 := NB522_495.out; have hnc80 := NB495_522.out; have hnb81 := NB522_504.out; have hnc81 := NB504_522.out; have hnb82 := NB522_513.out; have hnc82 := NB513_522.out; obtain ⟨hcz83_0, hcz83_1, hcz83_2⟩ := cz3 BK522.out; obtain ⟨hfz83_0, hfz83_1, hfz83_2⟩ := fz3 BK522.out; obtain ⟨Ao84, co84, rfl⟩ := Kd.R_slice HO517.out; obtain ⟨Ao85, co85, rfl⟩ := Kd.R_slice HO520.out; obtain ⟨hcz86_0, hcz86_1, hcz86_2⟩ := cz3 BK494.out; obtain ⟨hfz86_0, hfz86_1, hfz86_2⟩ := fz3 BK494.out; obtain ⟨hcz87_0, hcz87_1, hcz87_2⟩ := cz3 BK495.out; obtain ⟨hfz87_0, hfz87_1, hfz87_2⟩ := fz3 BK495.out) | ((with_reducible refine gate_callee (f := 7) rfl ?_); refine gL (some 69) Try.func7 #[.agg #[.bool t478, .slice Ao38 t479.length co38, .slice Ao39 t482.length co39], .agg #[.bool t485, .slice Ao44 t486.length co44, .slice Ao45 t489.length co45]] ?_; (with_reducible refine (plumblaw05_add.calls k t478 _ _ t479 _ _ t482 t485 _ _ t486 _ _ t489 t523 t524 t527 t530 _ ?side1 (Kd.R_reads' HO481.out).2.1 ?side3 (Kd.R_reads' HO484.out).2.1 ?side5 (Kd.R_reads' HO488.out).2.1 ?side7 ?side8 A9.out).mono ?_); (case side1 => refine (Kd.R_reads' (e := 44) (base := w.heap.size) (ok := fun k_ => (((((((oN Ao31 t472 co31 k_ ∧ (oN Ao32 t475 co32 k_ ∧ (oN Ao39 t482 co39 k_ ∧ (oN Ao44 t486 co44 k_ ∧ oN Ao45 t489 co45 k_)))) ∧ oN Ao55 t497 co55 k_) ∧ oN Ao56 t500 co56 k_) ∧ oN Ao69 t506 co69 k_) ∧ oN Ao70 t509 co70 k_) ∧ oN Ao84 t515 co84 k_) ∧ oN Ao85 t518 co85 k_)) (n := t479.length) (c := co38) ?_).2.2; exact (oR HO481.out BK522.out)); (case side3 => refine (Kd.R_reads' (e := 44) (base := w.heap.size) (ok := fun k_ => (((((((oN Ao31 t472 co31 k_ ∧ (oN Ao32 t475 co32 k_ ∧ (oN Ao38 t479 co38 k_ ∧ (oN Ao44 t486 co44 k_ ∧ oN Ao45 t489 co45 k_)))) ∧ oN Ao55 t497 co55 k_) ∧ oN Ao56 t500 co56 k_) ∧ oN Ao69 t506 co69 k_) ∧ oN Ao70 t509 co70 k_) ∧ oN Ao84 t515 co84 k_) ∧ oN Ao85 t518 co85 k_)) (n := t482.length) (c := co39) ?_).2.2; exact (oR HO484.out BK522.out)); (case side5 => refine (Kd.R_reads' (e := 44) (base := w.heap.size) (ok := fun k_ => (((((((oN Ao31 t472 co31 k_ ∧ (oN Ao32 t475 co32 k_ ∧ (oN Ao38 t479 co38 k_ ∧ (oN Ao39 t482 co39 k_ ∧ oN Ao45 t489 co45 k_)))) ∧ oN Ao55 t497 co55 k_) ∧ oN Ao56 t500 co56 k_) ∧ oN Ao69 t506 co69 k_) ∧ oN Ao70 t509 co70 k_) ∧ oN Ao84 t515 co84 k_) ∧ oN Ao85 t518 co85 k_)) (n := t486.length) (c := co44) ?_).2.2; exact (oR HO488.out BK522.out)); (case side7 => refine (Kd.R_reads' (e := 44) (base := w.heap.size) (ok := fun k_ => (((((((oN Ao31 t472 co31 k_ ∧ (oN Ao32 t475 co32 k_ ∧ (oN Ao38 t479 co38 k_ ∧ (oN Ao39 t482 co39 k_ ∧ oN Ao44 t486 co44 k_)))) ∧ oN Ao55 t497 co55 k_) ∧ oN Ao56 t500 co56 k_) ∧ oN Ao69 t506 co69 k_) ∧ oN Ao70 t509 co70 k_) ∧ oN Ao84 t515 co84 k_) ∧ oN Ao85 t518 co85 k_)) (n := t489.length) (c := co45) ?_).2.2; exact (oR HO491.out BK522.out)); (case side8 => exact (Kd.R_reads' HO491.out).2.1); rintro e w88 ⟨v525, v528, rfl, ho0, ho1, hb⟩; refine ⟨_, rfl, ?_⟩; have HO526 := aM (Kd.R_lower (nV (nV (nV (nV (nV (nV (nV (nV (nV (nV (nV (nV ho0 HO474.out BK522.out) HO477.out BK522.out) HO481.out BK522.out) HO484.out BK522.out) HO488.out BK522.out) HO491.out BK522.out) HO499.out BK522.out) HO502.out BK522.out) HO508.out BK522.out) HO511.out BK522.out) HO517.out BK522.out) HO520.out BK522.out) (below_size eB)); have HO529 := aM (Kd.R_lower (nV (nV (nV (nV (nV (nV (nV (nV (nV (nV (nV (nV ho1 HO474.out BK522.out) HO477.out BK522.out) HO481.out BK522.out) HO484.out BK522.out) HO488.out BK522.out) HO491.out BK522.out) HO499.out BK522.out) HO502.out BK522.out) HO508.out BK522.out) HO511.out BK522.out) HO517.out BK522.out) HO520.out BK522.out) (below_size eB)); replace HO474 := tX HO474.out BK522.out hb ho0 ho1; replace HO477 := tX HO477.out BK522.out hb ho0 ho1; replace HO481 := tX HO481.out BK522.out hb ho0 ho1; replace HO484 := tX HO484.out BK522.out hb ho0 ho1; replace HO488 := tX HO488.out BK522.out hb ho0 ho1; replace HO491 := tX HO491.out BK522.out hb ho0 ho1; replace HO499 := tX HO499.out BK522.out hb ho0 ho1; replace HO502 := tX HO502.out BK522.out hb ho0 ho1; replace HO508 := tX HO508.out BK522.out hb ho0 ho1; replace HO511 := tX HO511.out BK522.out hb ho0 ho1; replace HO517 := tX HO517.out BK522.out hb ho0 ho1; replace HO520 := tX HO520.out BK522.out hb ho0 ho1; replace BK468 := bU1 BK468.out NB468_522.out hb; replace BK469 := bU1 BK469.out NB469_522.out hb; replace BK470 := bU1 BK470.out NB470_522.out hb; replace BK493 := bU1 BK493.out NB493_522.out hb; replace BK494 := bU1 BK494.out NB494_522.out hb; replace BK495 := bU1 BK495.out NB495_522.out hb; replace BK504 := bU1 BK504.out NB504_522.out hb; replace BK513 := bU1 BK513.out NB513_522.out hb; replace BK522 := aM (blk_below (g := gb522) (o := .cells #[.bool t514, .slice Ao84 t515.length co84, .slice Ao85 t518.length co85] 25 (0, 0)) (dP BK522.out) hb); replace HB := hS HB.out hb; (try clear hb); (try clear ho0); (try clear ho1)) | ((with_reducible refine gate_dst (N := 17) rfl ?_); refine bE 17 #[.bool false, .slice none 0 0, .slice none 0 0] 25 ?_; intro gb531 hg w89 hbox hb; replace HO474 := oB HO474.out hb; replace HO477 := oB HO477.out hb; replace HO481 := oB HO481.out hb; replace HO484 := oB HO484.out hb; replace HO488 := oB HO488.out hb; replace HO491 := oB HO491.out hb; replace HO499 := oB HO499.out hb; replace HO502 := oB HO502.out hb; replace HO508 := oB HO508.out hb; replace HO511 := oB HO511.out hb; replace HO517 := oB HO517.out hb; replace HO520 := oB HO520.out hb; replace HO526 := oB HO526.out hb; replace HO529 := oB HO529.out hb; have BK531 := aM (hbox); have GW531 : Aside0 (w.heap.size ≤ gb531) := gE hg; have GE531 : Aside0 (w.heap.size ≤ gb531) := gE hg; replace HB := hS HB.out hb; have NB468_531 := nL hg BK468.out; have NB531_468 := nG hg BK468.out; replace BK468 := bB BK468.out hb; have NB469_531 := nL hg BK469.out; have NB531_469 := nG hg BK469.out; replace BK469 := bB BK469.out hb; have NB470_531 := nL hg BK470.out; have NB531_470 := nG hg BK470.out; replace BK470 := bB BK470.out hb; have NB493_531 := nL hg BK493.out; have NB531_493 := nG hg BK493.out; replace BK493 := bB BK493.out hb; have NB494_531 := nL hg BK494.out; have NB531_494 := nG hg BK494.out; replace BK494 := bB BK494.out hb; have NB495_531 := nL hg BK495.out; have NB531_495 := nG hg BK495.out; replace BK495 := bB BK495.out hb; have NB504_531 := nL hg BK504.out; have NB531_504 := nG hg BK504.out; replace BK504 := bB BK504.out hb; have NB513_531 := nL hg BK513.out; have NB531_513 := nG hg BK513.out; replace BK513 := bB BK513.out hb; have NB522_531 := nL hg BK522.out; have NB531_522 := nG hg BK522.out; replace BK522 := bB BK522.out hb; clear hb hbox hg; have hnb90 := NB531_468.out; have hnc90 := NB468_531.out; have hnb91 := NB531_469.out; have hnc91 := NB469_531.out; have hnb92 := NB531_470.out; have hnc92 := NB470_531.out; have hnb93 := NB531_493.out; have hnc93 := NB493_531.out; have hnb94 := NB531_494.out; have hnc94 := NB494_531.out; have hnb95 := NB531_495.out; have hnc95 := NB495_531.out; have hnb96 := NB531_504.out; have hnc96 := NB504_531.out; have hnb97 := NB531_513.out; have hnc97 := NB513_531.out; have hnb98 := NB531_522.out; have hnc98 := NB522_531.out; obtain ⟨hcz99_0, hcz99_1, hcz99_2⟩ := cz3 BK531.out; obtain ⟨hfz99_0, hfz99_1, hfz99_2⟩ := fz3 BK531.out; obtain ⟨Ao100, co100, rfl⟩ := Kd.R_slice HO526.out; obtain ⟨Ao101, co101, rfl⟩ := Kd.R_slice HO529.out; obtain ⟨hcz102_0, hcz102_1, hcz102_2⟩ := cz3 BK493.out; obtain ⟨hfz102_0, hfz102_1, hfz102_2⟩ := fz3 BK493.out) | ((with_reducible refine gate_callee (f := 7) rfl ?_); refine gL (some 75) Try.func7 #[.agg #[.bool t471, .slice Ao31 t472.length co31, .slice Ao32 t475.length co32], .agg #[.bool t523, .slice Ao100 t524.length co100, .slice Ao101 t527.length co101]] ?_; (with_reducible refine (plumblaw05_add.calls k t471 _ _ t472 _ _ t475 t523 _ _ t524 _ _ t527 t532 t533 t536 t539 _ ?side1 (Kd.R_reads' HO474.out).2.1 ?side3 (Kd.R_reads' HO477.out).2.1 ?side5 ?side6 ?side7 ?side8 A10.out).mono ?_); (case side1 => refine (Kd.R_reads' (e := 44) (base := w.heap.size) (ok := fun k_ => (((((((((oN Ao32 t475 co32 k_ ∧ (oN Ao38 t479 co38 k_ ∧ (oN Ao39 t482 co39 k_ ∧ (oN Ao44 t486 co44 k_ ∧ oN Ao45 t489 co45 k_)))) ∧ oN Ao55 t497 co55 k_) ∧ oN Ao56 t500 co56 k_) ∧ oN Ao69 t506 co69 k_) ∧ oN Ao70 t509 co70 k_) ∧ oN Ao84 t515 co84 k_) ∧ oN Ao85 t518 co85 k_) ∧ oN Ao100 t524 co100 k_) ∧ oN Ao101 t527 co101 k_)) (n := t472.length) (c := co31) ?_).2.2; exact (oR HO474.out BK531.out)); (case side3 => refine (Kd.R_reads' (e := 44) (base := w.heap.size) (ok := fun k_ => (((((((((oN Ao31 t472 co31 k_ ∧ (oN Ao38 t479 co38 k_ ∧ (oN Ao39 t482 co39 k_ ∧ (oN Ao44 t486 co44 k_ ∧ oN Ao45 t489 co45 k_)))) ∧ oN Ao55 t497 co55 k_) ∧ oN Ao56 t500 co56 k_) ∧ oN Ao69 t506 co69 k_) ∧ oN Ao70 t509 co70 k_) ∧ oN Ao84 t515 co84 k_) ∧ oN Ao85 t518 co85 k_) ∧ oN Ao100 t524 co100 k_) ∧ oN Ao101 t527 co101 k_)) (n := t475.length) (c := co32) ?_).2.2; exact (oR HO477.out BK531.out)); (case side5 => refine (Kd.R_reads' (e := 44) (base := w.heap.size) (ok := fun k_ => ((((((((((((oN Ao101 t527 co101 k_ ∧ oN Ao31 t472 co31 k_) ∧ oN Ao32 t475 co32 k_) ∧ oN Ao38 t479 co38 k_) ∧ oN Ao39 t482 co39 k_) ∧ oN Ao44 t486 co44 k_) ∧ oN Ao45 t489 co45 k_) ∧ oN Ao55 t497 co55 k_) ∧ oN Ao56 t500 co56 k_) ∧ oN Ao69 t506 co69 k_) ∧ oN Ao70 t509 co70 k_) ∧ oN Ao84 t515 co84 k_) ∧ oN Ao85 t518 co85 k_)) (n := t524.length) (c := co100) ?_).2.2; exact (oR HO526.out BK531.out)); (case side6 => exact (Kd.R_reads' HO526.out).2.1); (case side7 => refine (Kd.R_reads' (e := 44) (base := w.heap.size) (ok := fun k_ => ((((((((((((oN Ao100 t524 co100 k_ ∧ oN Ao31 t472 co31 k_) ∧ oN Ao32 t475 co32 k_) ∧ oN Ao38 t479 co38 k_) ∧ oN Ao39 t482 co39 k_) ∧ oN Ao44 t486 co44 k_) ∧ oN Ao45 t489 co45 k_) ∧ oN Ao55 t497 co55 k_) ∧ oN Ao56 t500 co56 k_) ∧ oN Ao69 t506 co69 k_) ∧ oN Ao70 t509 co70 k_) ∧ oN Ao84 t515 co84 k_) ∧ oN Ao85 t518 co85 k_)) (n := t527.length) (c := co101) ?_).2.2; exact (oR HO529.out BK531.out)); (case side8 => exact (Kd.R_reads' HO529.out).2.1); rintro e w103 ⟨v534, v537, rfl, ho0, ho1, hb⟩; refine ⟨_, rfl, ?_⟩; have HO535 := aM (Kd.R_lower (nV (nV (nV (nV (nV (nV (nV (nV (nV (nV (nV (nV (nV (nV ho0 HO474.out BK531.out) HO477.out BK531.out) HO481.out BK531.out) HO484.out BK531.out) HO488.out BK531.out) HO491.out BK531.out) HO499.out BK531.out) HO502.out BK531.out) HO508.out BK531.out) HO511.out BK531.out) HO517.out BK531.out) HO520.out BK531.out) HO526.out BK531.out) HO529.out BK531.out) (below_size eB)); have HO538 := aM (Kd.R_lower (nV (nV (nV (nV (nV (nV (nV (nV (nV (nV (nV (nV (nV (nV ho1 HO474.out BK531.out) HO477.out BK531.out) HO481.out BK531.out) HO484.out BK531.out) HO488.out BK531.out) HO491.out BK531.out) HO499.out BK531.out) HO502.out BK531.out) HO508.out BK531.out) HO511.out BK531.out) HO517.out BK531.out) HO520.out BK531.out) HO526.out BK531.out) HO529.out BK531.out) (below_size eB)); replace HO474 := tX HO474.out BK531.out hb ho0 ho1; replace HO477 := tX HO477.out BK531.out hb ho0 ho1; replace HO481 := tX HO481.out BK531.out hb ho0 ho1; replace HO484 := tX HO484.out BK531.out hb ho0 ho1; replace HO488 := tX HO488.out BK531.out hb ho0 ho1; replace HO491 := tX HO491.out BK531.out hb ho0 ho1; replace HO499 := tX HO499.out BK531.out hb ho0 ho1; replace HO502 := tX HO502.out BK531.out hb ho0 ho1; replace HO508 := tX HO508.out BK531.out hb ho0 ho1; replace HO511 := tX HO511.out BK531.out hb ho0 ho1; replace HO517 := tX HO517.out BK531.out hb ho0 ho1; replace HO520 := tX HO520.out BK531.out hb ho0 ho1; replace HO526 := tX HO526.out BK531.out hb ho0 ho1; replace HO529 := tX HO529.out BK531.out hb ho0 ho1; replace BK468 := bU1 BK468.out NB468_531.out hb; replace BK469 := bU1 BK469.out NB469_531.out hb; replace BK470 := bU1 BK470.out NB470_531.out hb; replace BK493 := bU1 BK493.out NB493_531.out hb; replace BK494 := bU1 BK494.out NB494_531.out hb; replace BK495 := bU1 BK495.out NB495_531.out hb; replace BK504 := bU1 BK504.out NB504_531.out hb; replace BK513 := bU1 BK513.out NB513_531.out hb; replace BK522 := bU1 BK522.out NB522_531.out hb; replace BK531 := aM (blk_below (g := gb531) (o := .cells #[.bool t523, .slice Ao100 t524.length co100, .slice Ao101 t527.length co101] 25 (0, 0)) (dP BK531.out) hb); replace HB := hS HB.out hb; (try clear hb); (try clear ho0); (try clear ho1)) | ((with_reducible refine gate_dst (N := 19) rfl ?_); refine bE 19 #[.bool false, .slice none 0 0, .slice none 0 0] 25 ?_; intro gb540 hg w104 hbox hb; replace HO474 := oB HO474.out hb; replace HO477 := oB HO477.out hb; replace HO481 := oB HO481.out hb; replace HO484 := oB HO484.out hb; replace HO488 := oB HO488.out hb; replace HO491 := oB HO491.out hb; replace HO499 := oB HO499.out hb; replace HO502 := oB HO502.out hb; replace HO508 := oB HO508.out hb; replace HO511 := oB HO511.out hb; replace HO517 := oB HO517.out hb; replace HO520 := oB HO520.out hb; replace HO526 := oB HO526.out hb; replace HO529 := oB HO529.out hb; replace HO535 := oB HO535.out hb; replace HO538 := oB HO538.out hb; have BK540 := aM (hbox); have GW540 : Aside0 (w.heap.size ≤ gb540) := gE hg; have GE540 : Aside0 (w.heap.size ≤ gb540) := gE hg; replace HB := hS HB.out hb; have NB468_540 := nL hg BK468.out; have NB540_468 := nG hg BK468.out; replace BK468 := bB BK468.out hb; have NB469_540 := nL hg BK469.out; have NB540_469 := nG hg BK469.out; replace BK469 := bB BK469.out hb; have NB470_540 := nL hg BK470.out; have NB540_470 := nG hg BK470.out; replace BK470 := bB BK470.out hb; have NB493_540 := nL hg BK493.out; have NB540_493 := nG hg BK493.out; replace BK493 := bB BK493.out hb; have NB494_540 := nL hg BK494.out; have NB540_494 := nG hg BK494.out; replace BK494 := bB BK494.out hb; have NB495_540 := nL hg BK495.out; have NB540_495 := nG hg BK495.out; replace BK495 := bB BK495.out hb; have NB504_540 := nL hg BK504.out; have NB540_504 := nG hg BK504.out; replace BK504 := bB BK504.out hb; have NB513_540 := nL hg BK513.out; have NB540_513 := nG hg BK513.out; replace BK513 := bB BK513.out hb; have NB522_540 := nL hg BK522.out; have NB540_522 := nG hg BK522.out; replace BK522 := bB BK522.out hb; have NB531_540 := nL hg BK531.out; have NB540_531 := nG hg BK531.out; replace BK531 := bB BK531.out hb; clear hb hbox hg; have hnb105 := NB540_468.out; have hnc105 := NB468_540.out; have hnb106 := NB540_469.out; have hnc106 := NB469_540.out; have hnb107 := NB540_470.out; have hnc107 := NB470_540.out; have hnb108 := NB540_493.out; have hnc108 := NB493_540.out; have hnb109 := NB540_494.out; have hnc109 := NB494_540.out; have hnb110 := NB540_495.out; have hnc110 := NB495_540.out; have hnb111 := NB540_504.out; have hnc111 := NB504_540.out; have hnb112 := NB540_513.out; have hnc112 := NB513_540.out; have hnb113 := NB540_522.out; have hnc113 := NB522_540.out; have hnb114 := NB540_531.out; have hnc114 := NB531_540.out; obtain ⟨hcz115_0, hcz115_1, hcz115_2⟩ := cz3 BK540.out; obtain ⟨hfz115_0, hfz115_1, hfz115_2⟩ := fz3 BK540.out; obtain ⟨Ao116, co116, rfl⟩ := Kd.R_slice HO535.out; obtain ⟨Ao117, co117, rfl⟩ := Kd.R_slice HO538.out))
 (try simp only [Act.put, List.setIfInBounds_toArray, List.set_cons_zero, List.set_cons_succ])
 go_cut [107] (fun v107 wc => ∃ (kq : Nat) (x107_10 : Bool), v107 = .bool x107_10 ∧ Aside0 (plumblaw05_RatField.j0 kq x107_10 t471 t472 t475 t478 t479 t482 t485 t486 t489 t496 t497 t500 t523 t524 t527 = some r) ∧ Aside0 (kq ≤ k) ∧ Aside0 (Kd.R (Kd.int .u64) 44 wc w.heap.size (fun k_ => oN Ao32 t475 co32 k_ ∧ oN Ao38 t479 co38 k_ ∧ oN Ao39 t482 co39 k_ ∧ oN Ao44 t486 co44 k_ ∧ oN Ao45 t489 co45 k_ ∧ oN Ao55 t497 co55 k_ ∧ oN Ao56 t500 co56 k_ ∧ oN Ao100 t524 co100 k_ ∧ oN Ao101 t527 co101 k_) (.slice Ao31 t472.length co31) t472) ∧ Aside0 (Kd.R (Kd.int .u64) 44 wc w.heap.size (fun k_ => oN Ao31 t472 co31 k_ ∧ oN Ao38 t479 co38 k_ ∧ oN Ao39 t482 co39 k_ ∧ oN Ao44 t486 co44 k_ ∧ oN Ao45 t489 co45 k_ ∧ oN Ao55 t497 co55 k_ ∧ oN Ao56 t500 co56 k_ ∧ oN Ao100 t524 co100 k_ ∧ oN Ao101 t527 co101 k_) (.slice Ao32 t475.length co32) t475) ∧ Aside0 (Kd.R (Kd.int .u64) 44 wc w.heap.size (fun k_ => oN Ao31 t472 co31 k_ ∧ oN Ao32 t475 co32 k_ ∧ oN Ao39 t482 co39 k_ ∧ oN Ao44 t486 co44 k_ ∧ oN Ao45 t489 co45 k_ ∧ oN Ao55 t497 co55 k_ ∧ oN Ao56 t500 co56 k_ ∧ oN Ao100 t524 co100 k_ ∧ oN Ao101 t527 co101 k_) (.slice Ao38 t479.length co38) t479) ∧ Aside0 (Kd.R (Kd.int .u64) 44 wc w.heap.size (fun k_ => oN Ao31 t472 co31 k_ ∧ oN Ao32 t475 co32 k_ ∧ oN Ao38 t479 co38 k_ ∧ oN Ao44 t486 co44 k_ ∧ oN Ao45 t489 co45 k_ ∧ oN Ao55 t497 co55 k_ ∧ oN Ao56 t500 co56 k_ ∧ oN Ao100 t524 co100 k_ ∧ oN Ao101 t527 co101 k_) (.slice Ao39 t482.length co39) t482) ∧ Aside0 (Kd.R (Kd.int .u64) 44 wc w.heap.size (fun k_ => oN Ao31 t472 co31 k_ ∧ oN Ao32 t475 co32 k_ ∧ oN Ao38 t479 co38 k_ ∧ oN Ao39 t482 co39 k_ ∧ oN Ao45 t489 co45 k_ ∧ oN Ao55 t497 co55 k_ ∧ oN Ao56 t500 co56 k_ ∧ oN Ao100 t524 co100 k_ ∧ oN Ao101 t527 co101 k_) (.slice Ao44 t486.length co44) t486) ∧ Aside0 (Kd.R (Kd.int .u64) 44 wc w.heap.size (fun k_ => oN Ao31 t472 co31 k_ ∧ oN Ao32 t475 co32 k_ ∧ oN Ao38 t479 co38 k_ ∧ oN Ao39 t482 co39 k_ ∧ oN Ao44 t486 co44 k_ ∧ oN Ao55 t497 co55 k_ ∧ oN Ao56 t500 co56 k_ ∧ oN Ao100 t524 co100 k_ ∧ oN Ao101 t527 co101 k_) (.slice Ao45 t489.length co45) t489) ∧ Aside0 (Kd.R (Kd.int .u64) 44 wc w.heap.size (fun k_ => oN Ao31 t472 co31 k_ ∧ oN Ao32 t475 co32 k_ ∧ oN Ao38 t479 co38 k_ ∧ oN Ao39 t482 co39 k_ ∧ oN Ao44 t486 co44 k_ ∧ oN Ao45 t489 co45 k_ ∧ oN Ao56 t500 co56 k_ ∧ oN Ao100 t524 co100 k_ ∧ oN Ao101 t527 co101 k_) (.slice Ao55 t497.length co55) t497) ∧ Aside0 (Kd.R (Kd.int .u64) 44 wc w.heap.size (fun k_ => oN Ao31 t472 co31 k_ ∧ oN Ao32 t475 co32 k_ ∧ oN Ao38 t479 co38 k_ ∧ oN Ao39 t482 co39 k_ ∧ oN Ao44 t486 co44 k_ ∧ oN Ao45 t489 co45 k_ ∧ oN Ao55 t497 co55 k_ ∧ oN Ao100 t524 co100 k_ ∧ oN Ao101 t527 co101 k_) (.slice Ao56 t500.length co56) t500) ∧ Aside0 (Kd.R (Kd.int .u64) 44 wc w.heap.size (fun k_ => oN Ao31 t472 co31 k_ ∧ oN Ao32 t475 co32 k_ ∧ oN Ao38 t479 co38 k_ ∧ oN Ao39 t482 co39 k_ ∧ oN Ao44 t486 co44 k_ ∧ oN Ao45 t489 co45 k_ ∧ oN Ao55 t497 co55 k_ ∧ oN Ao56 t500 co56 k_ ∧ oN Ao101 t527 co101 k_) (.slice Ao100 t524.length co100) t524) ∧ Aside0 (Kd.R (Kd.int .u64) 44 wc w.heap.size (fun k_ => oN Ao31 t472 co31 k_ ∧ oN Ao32 t475 co32 k_ ∧ oN Ao38 t479 co38 k_ ∧ oN Ao39 t482 co39 k_ ∧ oN Ao44 t486 co44 k_ ∧ oN Ao45 t489 co45 k_ ∧ oN Ao55 t497 co55 k_ ∧ oN Ao56 t500 co56 k_ ∧ oN Ao100 t524 co100 k_) (.slice Ao101 t527.length co101) t527) ∧ Aside0 (wc.heap[gb493]? = some (.cells #[.bool t471, (.slice Ao31 t472.length co31), (.slice Ao32 t475.length co32)] 25 (0, 0))) ∧ Aside0 (wc.heap[gb494]? = some (.cells #[.bool t478, (.slice Ao38 t479.length co38), (.slice Ao39 t482.length co39)] 25 (0, 0))) ∧ Aside0 (wc.heap[gb495]? = some (.cells #[.bool t485, (.slice Ao44 t486.length co44), (.slice Ao45 t489.length co45)] 25 (0, 0))) ∧ Aside0 (wc.heap[gb504]? = some (.cells #[.bool t496, (.slice Ao55 t497.length co55), (.slice Ao56 t500.length co56)] 25 (0, 0))) ∧ Aside0 (wc.heap[gb531]? = some (.cells #[.bool t523, (.slice Ao100 t524.length co100), (.slice Ao101 t527.length co101)] 25 (0, 0))) ∧ Aside0 (Below w.heap.size w wc))
 case first =>
  as_aux_lemma =>
  have H := HC11.out
  clear HC11
  replace H := nO H
  obtain ⟨rfl, H⟩ := H
  (try dsimp only at H)
  replace H := nO H
  obtain ⟨rfl, H⟩ := H
  (try dsimp only at H)
  replace H := nO H
  obtain ⟨rfl, H⟩ := H
  (try dsimp only at H)
  replace H := nO H
  obtain ⟨rfl, H⟩ := H
  (try dsimp only at H)
  replace H := nO H
  obtain ⟨rfl, H⟩ := H
  (try dsimp only at H)
  replace H := oA H
  obtain ⟨t541, A123, H⟩ := H
  (try dsimp only at H)
  replace H := nO H
  obtain ⟨rfl, H⟩ := H
  (try dsimp only at H)
  replace H := oA H
  obtain ⟨t542, A125, H⟩ := H
  (try dsimp only at H)
  have H' := aM H
  clear H
  have hnb126 := NB504_468.out
  have hnc126 := NB468_504.out
  have hnb127 := NB504_469.out
  have hnc127 := NB469_504.out
  have hnb128 := NB504_470.out
  have hnc128 := NB470_504.out
  have hnb129 := NB504_493.out
  have hnc129 := NB493_504.out
  have hnb130 := NB504_494.out
  have hnc130 := NB494_504.out
  have hnb131 := NB504_495.out
  have hnc131 := NB495_504.out
  have hnb132 := NB504_513.out
  have hnc132 := NB513_504.out
  have hnb133 := NB504_522.out
  have hnc133 := NB522_504.out
  have hnb134 := NB504_531.out
  have hnc134 := NB531_504.out
  have hnb135 := NB504_540.out
  have hnc135 := NB540_504.out
  obtain ⟨hcz136_0, hcz136_1, hcz136_2⟩ := cz3 BK504.out
  obtain ⟨hfz136_0, hfz136_1, hfz136_2⟩ := fz3 BK504.out
  have hnb137 := NB513_468.out
  have hnc137 := NB468_513.out
  have hnb138 := NB513_469.out
  have hnc138 := NB469_513.out
  have hnb139 := NB513_470.out
  have hnc139 := NB470_513.out
  have hnb140 := NB513_493.out
  have hnc140 := NB493_513.out
  have hnb141 := NB513_494.out
  have hnc141 := NB494_513.out
  have hnb142 := NB513_495.out
  have hnc142 := NB495_513.out
  have hnb143 := NB513_522.out
  have hnc143 := NB522_513.out
  have hnb144 := NB513_531.out
  have hnc144 := NB531_513.out
  have hnb145 := NB513_540.out
  have hnc145 := NB540_513.out
  obtain ⟨hcz146_0, hcz146_1, hcz146_2⟩ := cz3 BK513.out
  obtain ⟨hfz146_0, hfz146_1, hfz146_2⟩ := fz3 BK513.out
  go_wp2_with (first | (go_at_call 8; (with_reducible refine (plumblaw05_one.calls k t496 _ _ t497 _ _ t500 t505 _ _ t506 _ _ t509 true _ ?side1 (Kd.R_reads' HO499.out).2.1 ?side3 (Kd.R_reads' HO502.out).2.1 ?side5 ?side6 ?side7 ?side8 A123.out).mono ?_); (case side1 => refine (Kd.R_reads' (e := 44) (base := w.heap.size) (ok := fun k_ => ((((((((((((((oN Ao56 t500 co56 k_ ∧ oN Ao31 t472 co31 k_) ∧ oN Ao32 t475 co32 k_) ∧ oN Ao38 t479 co38 k_) ∧ oN Ao39 t482 co39 k_) ∧ oN Ao44 t486 co44 k_) ∧ oN Ao45 t489 co45 k_) ∧ oN Ao69 t506 co69 k_) ∧ oN Ao70 t509 co70 k_) ∧ oN Ao84 t515 co84 k_) ∧ oN Ao85 t518 co85 k_) ∧ oN Ao100 t524 co100 k_) ∧ oN Ao101 t527 co101 k_) ∧ oN Ao116 t533 co116 k_) ∧ oN Ao117 t536 co117 k_)) (n := t497.length) (c := co55) ?_).2.2; exact (oR HO499.out BK540.out)); (case side3 => refine (Kd.R_reads' (e := 44) (base := w.heap.size) (ok := fun k_ => ((((((((((((((oN Ao55 t497 co55 k_ ∧ oN Ao31 t472 co31 k_) ∧ oN Ao32 t475 co32 k_) ∧ oN Ao38 t479 co38 k_) ∧ oN Ao39 t482 co39 k_) ∧ oN Ao44 t486 co44 k_) ∧ oN Ao45 t489 co45 k_) ∧ oN Ao69 t506 co69 k_) ∧ oN Ao70 t509 co70 k_) ∧ oN Ao84 t515 co84 k_) ∧ oN Ao85 t518 co85 k_) ∧ oN Ao100 t524 co100 k_) ∧ oN Ao101 t527 co101 k_) ∧ oN Ao116 t533 co116 k_) ∧ oN Ao117 t536 co117 k_)) (n := t500.length) (c := co56) ?_).2.2; exact (oR HO502.out BK540.out)); (case side5 => refine (Kd.R_reads' (e := 44) (base := w.heap.size) (ok := fun k_ => ((((((((((((((oN Ao70 t509 co70 k_ ∧ oN Ao31 t472 co31 k_) ∧ oN Ao32 t475 co32 k_) ∧ oN Ao38 t479 co38 k_) ∧ oN Ao39 t482 co39 k_) ∧ oN Ao44 t486 co44 k_) ∧ oN Ao45 t489 co45 k_) ∧ oN Ao55 t497 co55 k_) ∧ oN Ao56 t500 co56 k_) ∧ oN Ao84 t515 co84 k_) ∧ oN Ao85 t518 co85 k_) ∧ oN Ao100 t524 co100 k_) ∧ oN Ao101 t527 co101 k_) ∧ oN Ao116 t533 co116 k_) ∧ oN Ao117 t536 co117 k_)) (n := t506.length) (c := co69) ?_).2.2; exact (oR HO508.out BK540.out)); (case side6 => exact (Kd.R_reads' HO508.out).2.1); (case side7 => refine (Kd.R_reads' (e := 44) (base := w.heap.size) (ok := fun k_ => ((((((((((((((oN Ao69 t506 co69 k_ ∧ oN Ao31 t472 co31 k_) ∧ oN Ao32 t475 co32 k_) ∧ oN Ao38 t479 co38 k_) ∧ oN Ao39 t482 co39 k_) ∧ oN Ao44 t486 co44 k_) ∧ oN Ao45 t489 co45 k_) ∧ oN Ao55 t497 co55 k_) ∧ oN Ao56 t500 co56 k_) ∧ oN Ao84 t515 co84 k_) ∧ oN Ao85 t518 co85 k_) ∧ oN Ao100 t524 co100 k_) ∧ oN Ao101 t527 co101 k_) ∧ oN Ao116 t533 co116 k_) ∧ oN Ao117 t536 co117 k_)) (n := t509.length) (c := co70) ?_).2.2; exact (oR HO511.out BK540.out)); (case side8 => exact (Kd.R_reads' HO511.out).2.1); rintro e w147 ⟨rfl, hb⟩; replace HO474 := oX HO474.out BK540.out hb; replace HO477 := oX HO477.out BK540.out hb; replace HO481 := oX HO481.out BK540.out hb; replace HO484 := oX HO484.out BK540.out hb; replace HO488 := oX HO488.out BK540.out hb; replace HO491 := oX HO491.out BK540.out hb; replace HO499 := oX HO499.out BK540.out hb; replace HO502 := oX HO502.out BK540.out hb; replace HO508 := oX HO508.out BK540.out hb; replace HO511 := oX HO511.out BK540.out hb; replace HO517 := oX HO517.out BK540.out hb; replace HO520 := oX HO520.out BK540.out hb; replace HO526 := oX HO526.out BK540.out hb; replace HO529 := oX HO529.out BK540.out hb; replace HO535 := oX HO535.out BK540.out hb; replace HO538 := oX HO538.out BK540.out hb; replace BK468 := bU1 BK468.out NB468_540.out hb; replace BK469 := bU1 BK469.out NB469_540.out hb; replace BK470 := bU1 BK470.out NB470_540.out hb; replace BK493 := bU1 BK493.out NB493_540.out hb; replace BK494 := bU1 BK494.out NB494_540.out hb; replace BK495 := bU1 BK495.out NB495_540.out hb; replace BK504 := bU1 BK504.out NB504_540.out hb; replace BK513 := bU1 BK513.out NB513_540.out hb; replace BK522 := bU1 BK522.out NB522_540.out hb; replace BK531 := bU1 BK531.out NB531_540.out hb; replace BK540 := aM (blk_below (g := gb540) (o := .cells #[.bool t532, .slice Ao116 t533.length co116, .slice Ao117 t536.length co117] 25 (0, 0)) (dP BK540.out) hb); replace HB := hS HB.out hb; (try clear hb); have hnb148 := NB522_468.out; have hnc148 := NB468_522.out; have hnb149 := NB522_469.out; have hnc149 := NB469_522.out; have hnb150 := NB522_470.out; have hnc150 := NB470_522.out; have hnb151 := NB522_493.out; have hnc151 := NB493_522.out; have hnb152 := NB522_494.out; have hnc152 := NB494_522.out; have hnb153 := NB522_495.out; have hnc153 := NB495_522.out; have hnb154 := NB522_531.out; have hnc154 := NB531_522.out; have hnb155 := NB522_540.out; have hnc155 := NB540_522.out; obtain ⟨hcz156_0, hcz156_1, hcz156_2⟩ := cz3 BK522.out; obtain ⟨hfz156_0, hfz156_1, hfz156_2⟩ := fz3 BK522.out; have hnb157 := NB540_468.out; have hnc157 := NB468_540.out; have hnb158 := NB540_469.out; have hnc158 := NB469_540.out; have hnb159 := NB540_470.out; have hnc159 := NB470_540.out; have hnb160 := NB540_493.out; have hnc160 := NB493_540.out; have hnb161 := NB540_494.out; have hnc161 := NB494_540.out; have hnb162 := NB540_495.out; have hnc162 := NB495_540.out; have hnb163 := NB540_531.out; have hnc163 := NB531_540.out; obtain ⟨hcz164_0, hcz164_1, hcz164_2⟩ := cz3 BK540.out; obtain ⟨hfz164_0, hfz164_1, hfz164_2⟩ := fz3 BK540.out) | (go_at_call 8; (with_reducible refine (plumblaw05_one.calls k t514 _ _ t515 _ _ t518 t532 _ _ t533 _ _ t536 t542 _ ?side1 (Kd.R_reads' HO517.out).2.1 ?side3 (Kd.R_reads' HO520.out).2.1 ?side5 (Kd.R_reads' HO535.out).2.1 ?side7 (Kd.R_reads' HO538.out).2.1 A125.out).mono ?_); (case side1 => exact dC (Kd.R_reads' HO517.out).2.2); (case side3 => exact dC (Kd.R_reads' HO520.out).2.2); (case side5 => exact dC (Kd.R_reads' HO535.out).2.2); (case side7 => exact dC (Kd.R_reads' HO538.out).2.2); rintro e w165 ⟨rfl, hb⟩; replace HO474 := oB HO474.out hb; replace HO477 := oB HO477.out hb; replace HO481 := oB HO481.out hb; replace HO484 := oB HO484.out hb; replace HO488 := oB HO488.out hb; replace HO491 := oB HO491.out hb; replace HO499 := oB HO499.out hb; replace HO502 := oB HO502.out hb; replace HO508 := oB HO508.out hb; replace HO511 := oB HO511.out hb; replace HO517 := oB HO517.out hb; replace HO520 := oB HO520.out hb; replace HO526 := oB HO526.out hb; replace HO529 := oB HO529.out hb; replace HO535 := oB HO535.out hb; replace HO538 := oB HO538.out hb; replace BK468 := bB BK468.out hb; replace BK469 := bB BK469.out hb; replace BK470 := bB BK470.out hb; replace BK493 := bB BK493.out hb; replace BK494 := bB BK494.out hb; replace BK495 := bB BK495.out hb; replace BK504 := bB BK504.out hb; replace BK513 := bB BK513.out hb; replace BK522 := bB BK522.out hb; replace BK531 := bB BK531.out hb; replace BK540 := bB BK540.out hb; replace HB := hS HB.out hb; (try clear hb)))
  go_meet
  case rel => exact ⟨_, (!t542), dF, H', ⟨dN⟩, ⟨oS HO474.out⟩, ⟨oS HO477.out⟩, ⟨oS HO481.out⟩, ⟨oS HO484.out⟩, ⟨oS HO488.out⟩, ⟨oS HO491.out⟩, ⟨oS HO499.out⟩, ⟨oS HO502.out⟩, ⟨oS HO526.out⟩, ⟨oS HO529.out⟩, ⟨dK BK493.out⟩, ⟨dK BK494.out⟩, ⟨dK BK495.out⟩, ⟨dK BK504.out⟩, ⟨dK BK531.out⟩, ⟨eB⟩⟩
 case rest =>
  as_aux_lemma =>
  clear HC11
  try clear A4 A6 A7 A8 A9 A10
  try clear BK468 GW468 GE468 BK469 GW469 GE469
  try clear NB468_469 NB469_468 BK470 GW470 GE470 NB468_470
  try clear NB470_468 NB469_470 NB470_469 HO474 HO477 HO481
  try clear HO484 HO488 HO491 BK493 NB468_493 NB493_468
  try clear NB469_493 NB493_469 NB470_493 NB493_470 BK494 NB468_494
  try clear NB494_468 NB469_494 NB494_469 NB470_494 NB494_470 BK495
  try clear NB468_495 NB495_468 NB469_495 NB495_469 NB470_495 NB495_470
  try clear HO499 HO502 BK504 NB468_504 NB504_468 NB469_504
  try clear NB504_469 NB470_504 NB504_470 HO508 HO511 BK513
  try clear GW513 GE513 NB468_513 NB513_468 NB469_513 NB513_469
  try clear NB470_513 NB513_470 NB493_513 NB513_493 NB494_513 NB513_494
  try clear NB495_513 NB513_495 NB504_513 NB513_504 HO517 HO520
  try clear BK522 GW522 GE522 NB468_522 NB522_468 NB469_522
  try clear NB522_469 NB470_522 NB522_470 NB493_522 NB522_493 NB494_522
  try clear NB522_494 NB495_522 NB522_495 NB504_522 NB522_504 NB513_522
  try clear NB522_513 HO526 HO529 BK531 NB468_531 NB531_468
  try clear NB469_531 NB531_469 NB470_531 NB531_470 NB513_531 NB531_513
  try clear NB522_531 NB531_522 HO535 HO538 BK540 GW540
  try clear GE540 NB468_540 NB540_468 NB469_540 NB540_469 NB470_540
  try clear NB540_470 NB493_540 NB540_493 NB494_540 NB540_494 NB495_540
  try clear NB540_495 NB504_540 NB540_504 NB513_540 NB540_513 NB522_540
  try clear NB540_522 NB531_540 NB540_531
  try clear c5
  try clear hcz102_0 hcz102_1 hcz102_2
  try clear hcz115_0 hcz115_1 hcz115_2
  try clear hcz17_0 hcz17_1 hcz17_2
  try clear hcz19_0 hcz19_1 hcz19_2
  try clear hcz20_0 hcz20_1 hcz20_2
  try clear hcz30_0 hcz30_1 hcz30_2
  try clear hcz37_0 hcz37_1 hcz37_2
  try clear hcz43_0 hcz43_1 hcz43_2
  try clear hcz54_0 hcz54_1 hcz54_2
  try clear hcz57_0 hcz57_1 hcz57_2
  try clear hcz58_0 hcz58_1 hcz58_2
  try clear hcz68_0 hcz68_1 hcz68_2
  try clear hcz71_0 hcz71_1 hcz71_2
  try clear hcz72_0 hcz72_1 hcz72_2
  try clear hcz83_0 hcz83_1 hcz83_2
  try clear hcz86_0 hcz86_1 hcz86_2
  try clear hcz87_0 hcz87_1 hcz87_2
  try clear hcz99_0 hcz99_1 hcz99_2
  try clear hfz102_0 hfz102_1 hfz102_2
  try clear hfz115_0 hfz115_1 hfz115_2
  try clear hfz17_0 hfz17_1 hfz17_2
  try clear hfz19_0 hfz19_1 hfz19_2
  try clear hfz20_0 hfz20_1 hfz20_2
  try clear hfz30_0 hfz30_1 hfz30_2
  try clear hfz37_0 hfz37_1 hfz37_2
  try clear hfz43_0 hfz43_1 hfz43_2
  try clear hfz54_0 hfz54_1 hfz54_2
  try clear hfz57_0 hfz57_1 hfz57_2
  try clear hfz58_0 hfz58_1 hfz58_2
  try clear hfz68_0 hfz68_1 hfz68_2
  try clear hfz71_0 hfz71_1 hfz71_2
  try clear hfz72_0 hfz72_1 hfz72_2
  try clear hfz83_0 hfz83_1 hfz83_2
  try clear hfz86_0 hfz86_1 hfz86_2
  try clear hfz87_0 hfz87_1 hfz87_2
  try clear hfz99_0 hfz99_1 hfz99_2
  obtain ⟨kq, x107_10, rfl, HA, HJ10, HO_494001, HO_494002, HO_495001, HO_495002, HO_496001, HO_496002, HO_505001, HO_505002, HO_532001, HO_532002, BK493, BK494, BK495, BK504, BK531, HB⟩ := hcut
  cases kq with
  | zero => exact absurd HA.out (by simp [plumblaw05_RatField.j0])
  | succ kj10 =>
   have H := HA.out
   clear HA
   simp only [plumblaw05_RatField.j0] at H
   replace H := nR H
   obtain ⟨rfl, H⟩ := H
   (try dsimp only at H)
   replace H := oA H
   obtain ⟨⟨t543, t544, t547, t550⟩, A167, H⟩ := H
   (try dsimp only at H)
   replace H := oA H
   obtain ⟨⟨t552, t553, t556, t559⟩, A168, H⟩ := H
   (try dsimp only at H)
   replace H := oA H
   obtain ⟨⟨t561, t562, t565, t568⟩, A169, H⟩ := H
   (try dsimp only at H)
   replace H := oA H
   obtain ⟨⟨t570, t571, t574, t577⟩, A170, H⟩ := H
   (try dsimp only at H)
   replace H := oA H
   obtain ⟨⟨t579, t580, t583, t586⟩, A171, H⟩ := H
   (try dsimp only at H)
   have HC172 := aM H
   clear H
   have hnb173 := NB493_494.out
   have hnc173 := NB494_493.out
   have hnb174 := NB493_495.out
   have hnc174 := NB495_493.out
   have hnb175 := NB493_504.out
   have hnc175 := NB504_493.out
   have hnb176 := NB493_531.out
   have hnc176 := NB531_493.out
   obtain ⟨hcz177_0, hcz177_1, hcz177_2⟩ := cz3 BK493.out
   obtain ⟨hfz177_0, hfz177_1, hfz177_2⟩ := fz3 BK493.out
   have hnb178 := NB494_495.out
   have hnc178 := NB495_494.out
   have hnb179 := NB494_504.out
   have hnc179 := NB504_494.out
   have hnb180 := NB494_531.out
   have hnc180 := NB531_494.out
   obtain ⟨hcz181_0, hcz181_1, hcz181_2⟩ := cz3 BK494.out
   obtain ⟨hfz181_0, hfz181_1, hfz181_2⟩ := fz3 BK494.out
   go_upto_region 16 with (first | ((with_reducible refine gate_callee (f := 9) rfl ?_); refine gL (some 111) Try.func9 #[.agg #[.bool t471, .slice Ao31 t472.length co31, .slice Ao32 t475.length co32], .agg #[.bool t478, .slice Ao38 t479.length co38, .slice Ao39 t482.length co39]] ?_; (with_reducible refine (plumblaw05_mul.calls kj10 t471 _ _ t472 _ _ t475 t478 _ _ t479 _ _ t482 t543 t544 t547 t550 _ ?side1 (Kd.R_reads' HO_494001.out).2.1 ?side3 (Kd.R_reads' HO_494002.out).2.1 ?side5 (Kd.R_reads' HO_495001.out).2.1 ?side7 (Kd.R_reads' HO_495002.out).2.1 A167.out).mono ?_); (case side1 => exact dC (Kd.R_reads' HO_494001.out).2.2); (case side3 => exact dC (Kd.R_reads' HO_494002.out).2.2); (case side5 => exact dC (Kd.R_reads' HO_495001.out).2.2); (case side7 => exact dC (Kd.R_reads' HO_495002.out).2.2); rintro e w182 ⟨v545, v548, rfl, ho0, ho1, hb⟩; refine ⟨_, rfl, ?_⟩; have HO546 := aM (Kd.R_lower (nW (nW (nW (nW (nW (nW (nW (nW (nW (nW ho0 HO_494001.out) HO_494002.out) HO_495001.out) HO_495002.out) HO_496001.out) HO_496002.out) HO_505001.out) HO_505002.out) HO_532001.out) HO_532002.out) (below_size eB)); have HO549 := aM (Kd.R_lower (nW (nW (nW (nW (nW (nW (nW (nW (nW (nW ho1 HO_494001.out) HO_494002.out) HO_495001.out) HO_495002.out) HO_496001.out) HO_496002.out) HO_505001.out) HO_505002.out) HO_532001.out) HO_532002.out) (below_size eB)); replace HO_494001 := tT HO_494001.out hb ho0 ho1; replace HO_494002 := tT HO_494002.out hb ho0 ho1; replace HO_495001 := tT HO_495001.out hb ho0 ho1; replace HO_495002 := tT HO_495002.out hb ho0 ho1; replace HO_496001 := tT HO_496001.out hb ho0 ho1; replace HO_496002 := tT HO_496002.out hb ho0 ho1; replace HO_505001 := tT HO_505001.out hb ho0 ho1; replace HO_505002 := tT HO_505002.out hb ho0 ho1; replace HO_532001 := tT HO_532001.out hb ho0 ho1; replace HO_532002 := tT HO_532002.out hb ho0 ho1; replace BK493 := bB BK493.out hb; replace BK494 := bB BK494.out hb; replace BK495 := bB BK495.out hb; replace BK504 := bB BK504.out hb; replace BK531 := bB BK531.out hb; replace HB := hS HB.out hb; (try clear hb); (try clear ho0); (try clear ho1)) | ((with_reducible refine gate_dst (N := 21) rfl ?_); refine bE 21 #[.bool false, .slice none 0 0, .slice none 0 0] 25 ?_; intro gb551 hg w183 hbox hb; replace HO_494001 := oB HO_494001.out hb; replace HO_494002 := oB HO_494002.out hb; replace HO_495001 := oB HO_495001.out hb; replace HO_495002 := oB HO_495002.out hb; replace HO_496001 := oB HO_496001.out hb; replace HO_496002 := oB HO_496002.out hb; replace HO_505001 := oB HO_505001.out hb; replace HO_505002 := oB HO_505002.out hb; replace HO_532001 := oB HO_532001.out hb; replace HO_532002 := oB HO_532002.out hb; replace HO546 := oB HO546.out hb; replace HO549 := oB HO549.out hb; have BK551 := aM (hbox); have GW551 : Aside0 (w.heap.size ≤ gb551) := gE hg; have GE551 : Aside0 (w.heap.size ≤ gb551) := gE hg; replace HB := hS HB.out hb; have NB493_551 := nL hg BK493.out; have NB551_493 := nG hg BK493.out; replace BK493 := bB BK493.out hb; have NB494_551 := nL hg BK494.out; have NB551_494 := nG hg BK494.out; replace BK494 := bB BK494.out hb; have NB495_551 := nL hg BK495.out; have NB551_495 := nG hg BK495.out; replace BK495 := bB BK495.out hb; have NB504_551 := nL hg BK504.out; have NB551_504 := nG hg BK504.out; replace BK504 := bB BK504.out hb; have NB531_551 := nL hg BK531.out; have NB551_531 := nG hg BK531.out; replace BK531 := bB BK531.out hb; clear hb hbox hg; have hnb184 := NB551_493.out; have hnc184 := NB493_551.out; have hnb185 := NB551_494.out; have hnc185 := NB494_551.out; have hnb186 := NB551_495.out; have hnc186 := NB495_551.out; have hnb187 := NB551_504.out; have hnc187 := NB504_551.out; have hnb188 := NB551_531.out; have hnc188 := NB531_551.out; obtain ⟨hcz189_0, hcz189_1, hcz189_2⟩ := cz3 BK551.out; obtain ⟨hfz189_0, hfz189_1, hfz189_2⟩ := fz3 BK551.out; obtain ⟨Ao190, co190, rfl⟩ := Kd.R_slice HO546.out; obtain ⟨Ao191, co191, rfl⟩ := Kd.R_slice HO549.out; obtain ⟨hcz192_0, hcz192_1, hcz192_2⟩ := cz3 BK494.out; obtain ⟨hfz192_0, hfz192_1, hfz192_2⟩ := fz3 BK494.out; obtain ⟨hcz193_0, hcz193_1, hcz193_2⟩ := cz3 BK493.out; obtain ⟨hfz193_0, hfz193_1, hfz193_2⟩ := fz3 BK493.out) | ((with_reducible refine gate_callee (f := 9) rfl ?_); refine gL (some 117) Try.func9 #[.agg #[.bool t478, .slice Ao38 t479.length co38, .slice Ao39 t482.length co39], .agg #[.bool t471, .slice Ao31 t472.length co31, .slice Ao32 t475.length co32]] ?_; (with_reducible refine (plumblaw05_mul.calls kj10 t478 _ _ t479 _ _ t482 t471 _ _ t472 _ _ t475 t552 t553 t556 t559 _ ?side1 (Kd.R_reads' HO_495001.out).2.1 ?side3 (Kd.R_reads' HO_495002.out).2.1 ?side5 (Kd.R_reads' HO_494001.out).2.1 ?side7 ?side8 A168.out).mono ?_); (case side1 => refine (Kd.R_reads' (e := 44) (base := w.heap.size) (ok := fun k_ => (((oN Ao31 t472 co31 k_ ∧ (oN Ao32 t475 co32 k_ ∧ (oN Ao39 t482 co39 k_ ∧ (oN Ao44 t486 co44 k_ ∧ (oN Ao45 t489 co45 k_ ∧ (oN Ao55 t497 co55 k_ ∧ (oN Ao56 t500 co56 k_ ∧ (oN Ao100 t524 co100 k_ ∧ oN Ao101 t527 co101 k_)))))))) ∧ oN Ao190 t544 co190 k_) ∧ oN Ao191 t547 co191 k_)) (n := t479.length) (c := co38) ?_).2.2; exact (oR HO_495001.out BK551.out)); (case side3 => refine (Kd.R_reads' (e := 44) (base := w.heap.size) (ok := fun k_ => (((oN Ao31 t472 co31 k_ ∧ (oN Ao32 t475 co32 k_ ∧ (oN Ao38 t479 co38 k_ ∧ (oN Ao44 t486 co44 k_ ∧ (oN Ao45 t489 co45 k_ ∧ (oN Ao55 t497 co55 k_ ∧ (oN Ao56 t500 co56 k_ ∧ (oN Ao100 t524 co100 k_ ∧ oN Ao101 t527 co101 k_)))))))) ∧ oN Ao190 t544 co190 k_) ∧ oN Ao191 t547 co191 k_)) (n := t482.length) (c := co39) ?_).2.2; exact (oR HO_495002.out BK551.out)); (case side5 => refine (Kd.R_reads' (e := 44) (base := w.heap.size) (ok := fun k_ => (((oN Ao32 t475 co32 k_ ∧ (oN Ao38 t479 co38 k_ ∧ (oN Ao39 t482 co39 k_ ∧ (oN Ao44 t486 co44 k_ ∧ (oN Ao45 t489 co45 k_ ∧ (oN Ao55 t497 co55 k_ ∧ (oN Ao56 t500 co56 k_ ∧ (oN Ao100 t524 co100 k_ ∧ oN Ao101 t527 co101 k_)))))))) ∧ oN Ao190 t544 co190 k_) ∧ oN Ao191 t547 co191 k_)) (n := t472.length) (c := co31) ?_).2.2; exact (oR HO_494001.out BK551.out)); (case side7 => refine (Kd.R_reads' (e := 44) (base := w.heap.size) (ok := fun k_ => (((oN Ao31 t472 co31 k_ ∧ (oN Ao38 t479 co38 k_ ∧ (oN Ao39 t482 co39 k_ ∧ (oN Ao44 t486 co44 k_ ∧ (oN Ao45 t489 co45 k_ ∧ (oN Ao55 t497 co55 k_ ∧ (oN Ao56 t500 co56 k_ ∧ (oN Ao100 t524 co100 k_ ∧ oN Ao101 t527 co101 k_)))))))) ∧ oN Ao190 t544 co190 k_) ∧ oN Ao191 t547 co191 k_)) (n := t475.length) (c := co32) ?_).2.2; exact (oR HO_494002.out BK551.out)); (case side8 => exact (Kd.R_reads' HO_494002.out).2.1); rintro e w194 ⟨v554, v557, rfl, ho0, ho1, hb⟩; refine ⟨_, rfl, ?_⟩; have HO555 := aM (Kd.R_lower (nV (nV (nV (nV (nV (nV (nV (nV (nV (nV (nV (nV ho0 HO_494001.out BK551.out) HO_494002.out BK551.out) HO_495001.out BK551.out) HO_495002.out BK551.out) HO_496001.out BK551.out) HO_496002.out BK551.out) HO_505001.out BK551.out) HO_505002.out BK551.out) HO_532001.out BK551.out) HO_532002.out BK551.out) HO546.out BK551.out) HO549.out BK551.out) (below_size eB)); have HO558 := aM (Kd.R_lower (nV (nV (nV (nV (nV (nV (nV (nV (nV (nV (nV (nV ho1 HO_494001.out BK551.out) HO_494002.out BK551.out) HO_495001.out BK551.out) HO_495002.out BK551.out) HO_496001.out BK551.out) HO_496002.out BK551.out) HO_505001.out BK551.out) HO_505002.out BK551.out) HO_532001.out BK551.out) HO_532002.out BK551.out) HO546.out BK551.out) HO549.out BK551.out) (below_size eB)); replace HO_494001 := tX HO_494001.out BK551.out hb ho0 ho1; replace HO_494002 := tX HO_494002.out BK551.out hb ho0 ho1; replace HO_495001 := tX HO_495001.out BK551.out hb ho0 ho1; replace HO_495002 := tX HO_495002.out BK551.out hb ho0 ho1; replace HO_496001 := tX HO_496001.out BK551.out hb ho0 ho1; replace HO_496002 := tX HO_496002.out BK551.out hb ho0 ho1; replace HO_505001 := tX HO_505001.out BK551.out hb ho0 ho1; replace HO_505002 := tX HO_505002.out BK551.out hb ho0 ho1; replace HO_532001 := tX HO_532001.out BK551.out hb ho0 ho1; replace HO_532002 := tX HO_532002.out BK551.out hb ho0 ho1; replace HO546 := tX HO546.out BK551.out hb ho0 ho1; replace HO549 := tX HO549.out BK551.out hb ho0 ho1; replace BK493 := bU1 BK493.out NB493_551.out hb; replace BK494 := bU1 BK494.out NB494_551.out hb; replace BK495 := bU1 BK495.out NB495_551.out hb; replace BK504 := bU1 BK504.out NB504_551.out hb; replace BK531 := bU1 BK531.out NB531_551.out hb; replace BK551 := aM (blk_below (g := gb551) (o := .cells #[.bool t543, .slice Ao190 t544.length co190, .slice Ao191 t547.length co191] 25 (0, 0)) (dP BK551.out) hb); replace HB := hS HB.out hb; (try clear hb); (try clear ho0); (try clear ho1)) | ((with_reducible refine gate_dst (N := 22) rfl ?_); refine bE 22 #[.bool false, .slice none 0 0, .slice none 0 0] 25 ?_; intro gb560 hg w195 hbox hb; replace HO_494001 := oB HO_494001.out hb; replace HO_494002 := oB HO_494002.out hb; replace HO_495001 := oB HO_495001.out hb; replace HO_495002 := oB HO_495002.out hb; replace HO_496001 := oB HO_496001.out hb; replace HO_496002 := oB HO_496002.out hb; replace HO_505001 := oB HO_505001.out hb; replace HO_505002 := oB HO_505002.out hb; replace HO_532001 := oB HO_532001.out hb; replace HO_532002 := oB HO_532002.out hb; replace HO546 := oB HO546.out hb; replace HO549 := oB HO549.out hb; replace HO555 := oB HO555.out hb; replace HO558 := oB HO558.out hb; have BK560 := aM (hbox); have GW560 : Aside0 (w.heap.size ≤ gb560) := gE hg; have GE560 : Aside0 (w.heap.size ≤ gb560) := gE hg; replace HB := hS HB.out hb; have NB493_560 := nL hg BK493.out; have NB560_493 := nG hg BK493.out; replace BK493 := bB BK493.out hb; have NB494_560 := nL hg BK494.out; have NB560_494 := nG hg BK494.out; replace BK494 := bB BK494.out hb; have NB495_560 := nL hg BK495.out; have NB560_495 := nG hg BK495.out; replace BK495 := bB BK495.out hb; have NB504_560 := nL hg BK504.out; have NB560_504 := nG hg BK504.out; replace BK504 := bB BK504.out hb; have NB531_560 := nL hg BK531.out; have NB560_531 := nG hg BK531.out; replace BK531 := bB BK531.out hb; have NB551_560 := nL hg BK551.out; have NB560_551 := nG hg BK551.out; replace BK551 := bB BK551.out hb; clear hb hbox hg; have hnb196 := NB560_493.out; have hnc196 := NB493_560.out; have hnb197 := NB560_494.out; have hnc197 := NB494_560.out; have hnb198 := NB560_495.out; have hnc198 := NB495_560.out; have hnb199 := NB560_504.out; have hnc199 := NB504_560.out; have hnb200 := NB560_531.out; have hnc200 := NB531_560.out; have hnb201 := NB560_551.out; have hnc201 := NB551_560.out; obtain ⟨hcz202_0, hcz202_1, hcz202_2⟩ := cz3 BK560.out; obtain ⟨hfz202_0, hfz202_1, hfz202_2⟩ := fz3 BK560.out; obtain ⟨Ao203, co203, rfl⟩ := Kd.R_slice HO555.out; obtain ⟨Ao204, co204, rfl⟩ := Kd.R_slice HO558.out; obtain ⟨hcz205_0, hcz205_1, hcz205_2⟩ := cz3 BK551.out; obtain ⟨hfz205_0, hfz205_1, hfz205_2⟩ := fz3 BK551.out; have hnb206 := NB495_504.out; have hnc206 := NB504_495.out; have hnb207 := NB495_531.out; have hnc207 := NB531_495.out; obtain ⟨hcz208_0, hcz208_1, hcz208_2⟩ := cz3 BK495.out; obtain ⟨hfz208_0, hfz208_1, hfz208_2⟩ := fz3 BK495.out) | ((with_reducible refine gate_callee (f := 9) rfl ?_); refine gL (some 123) Try.func9 #[.agg #[.bool t543, .slice Ao190 t544.length co190, .slice Ao191 t547.length co191], .agg #[.bool t485, .slice Ao44 t486.length co44, .slice Ao45 t489.length co45]] ?_; (with_reducible refine (plumblaw05_mul.calls kj10 t543 _ _ t544 _ _ t547 t485 _ _ t486 _ _ t489 t561 t562 t565 t568 _ ?side1 (Kd.R_reads' HO546.out).2.1 ?side3 (Kd.R_reads' HO549.out).2.1 ?side5 ?side6 ?side7 ?side8 A169.out).mono ?_); (case side1 => refine (Kd.R_reads' (e := 44) (base := w.heap.size) (ok := fun k_ => ((((((((((((oN Ao191 t547 co191 k_ ∧ oN Ao31 t472 co31 k_) ∧ oN Ao32 t475 co32 k_) ∧ oN Ao38 t479 co38 k_) ∧ oN Ao39 t482 co39 k_) ∧ oN Ao44 t486 co44 k_) ∧ oN Ao45 t489 co45 k_) ∧ oN Ao55 t497 co55 k_) ∧ oN Ao56 t500 co56 k_) ∧ oN Ao100 t524 co100 k_) ∧ oN Ao101 t527 co101 k_) ∧ oN Ao203 t553 co203 k_) ∧ oN Ao204 t556 co204 k_)) (n := t544.length) (c := co190) ?_).2.2; exact (oR HO546.out BK560.out)); (case side3 => refine (Kd.R_reads' (e := 44) (base := w.heap.size) (ok := fun k_ => ((((((((((((oN Ao190 t544 co190 k_ ∧ oN Ao31 t472 co31 k_) ∧ oN Ao32 t475 co32 k_) ∧ oN Ao38 t479 co38 k_) ∧ oN Ao39 t482 co39 k_) ∧ oN Ao44 t486 co44 k_) ∧ oN Ao45 t489 co45 k_) ∧ oN Ao55 t497 co55 k_) ∧ oN Ao56 t500 co56 k_) ∧ oN Ao100 t524 co100 k_) ∧ oN Ao101 t527 co101 k_) ∧ oN Ao203 t553 co203 k_) ∧ oN Ao204 t556 co204 k_)) (n := t547.length) (c := co191) ?_).2.2; exact (oR HO549.out BK560.out)); (case side5 => refine (Kd.R_reads' (e := 44) (base := w.heap.size) (ok := fun k_ => (((((oN Ao31 t472 co31 k_ ∧ (oN Ao32 t475 co32 k_ ∧ (oN Ao38 t479 co38 k_ ∧ (oN Ao39 t482 co39 k_ ∧ (oN Ao45 t489 co45 k_ ∧ (oN Ao55 t497 co55 k_ ∧ (oN Ao56 t500 co56 k_ ∧ (oN Ao100 t524 co100 k_ ∧ oN Ao101 t527 co101 k_)))))))) ∧ oN Ao190 t544 co190 k_) ∧ oN Ao191 t547 co191 k_) ∧ oN Ao203 t553 co203 k_) ∧ oN Ao204 t556 co204 k_)) (n := t486.length) (c := co44) ?_).2.2; exact (oR HO_496001.out BK560.out)); (case side6 => exact (Kd.R_reads' HO_496001.out).2.1); (case side7 => refine (Kd.R_reads' (e := 44) (base := w.heap.size) (ok := fun k_ => (((((oN Ao31 t472 co31 k_ ∧ (oN Ao32 t475 co32 k_ ∧ (oN Ao38 t479 co38 k_ ∧ (oN Ao39 t482 co39 k_ ∧ (oN Ao44 t486 co44 k_ ∧ (oN Ao55 t497 co55 k_ ∧ (oN Ao56 t500 co56 k_ ∧ (oN Ao100 t524 co100 k_ ∧ oN Ao101 t527 co101 k_)))))))) ∧ oN Ao190 t544 co190 k_) ∧ oN Ao191 t547 co191 k_) ∧ oN Ao203 t553 co203 k_) ∧ oN Ao204 t556 co204 k_)) (n := t489.length) (c := co45) ?_).2.2; exact (oR HO_496002.out BK560.out)); (case side8 => exact (Kd.R_reads' HO_496002.out).2.1); rintro e w209 ⟨v563, v566, rfl, ho0, ho1, hb⟩; refine ⟨_, rfl, ?_⟩; have HO564 := aM (Kd.R_lower (nV (nV (nV (nV (nV (nV (nV (nV (nV (nV (nV (nV (nV (nV ho0 HO_494001.out BK560.out) HO_494002.out BK560.out) HO_495001.out BK560.out) HO_495002.out BK560.out) HO_496001.out BK560.out) HO_496002.out BK560.out) HO_505001.out BK560.out) HO_505002.out BK560.out) HO_532001.out BK560.out) HO_532002.out BK560.out) HO546.out BK560.out) HO549.out BK560.out) HO555.out BK560.out) HO558.out BK560.out) (below_size eB)); have HO567 := aM (Kd.R_lower (nV (nV (nV (nV (nV (nV (nV (nV (nV (nV (nV (nV (nV (nV ho1 HO_494001.out BK560.out) HO_494002.out BK560.out) HO_495001.out BK560.out) HO_495002.out BK560.out) HO_496001.out BK560.out) HO_496002.out BK560.out) HO_505001.out BK560.out) HO_505002.out BK560.out) HO_532001.out BK560.out) HO_532002.out BK560.out) HO546.out BK560.out) HO549.out BK560.out) HO555.out BK560.out) HO558.out BK560.out) (below_size eB)); replace HO_494001 := tX HO_494001.out BK560.out hb ho0 ho1; replace HO_494002 := tX HO_494002.out BK560.out hb ho0 ho1; replace HO_495001 := tX HO_495001.out BK560.out hb ho0 ho1; replace HO_495002 := tX HO_495002.out BK560.out hb ho0 ho1; replace HO_496001 := tX HO_496001.out BK560.out hb ho0 ho1; replace HO_496002 := tX HO_496002.out BK560.out hb ho0 ho1; replace HO_505001 := tX HO_505001.out BK560.out hb ho0 ho1; replace HO_505002 := tX HO_505002.out BK560.out hb ho0 ho1; replace HO_532001 := tX HO_532001.out BK560.out hb ho0 ho1; replace HO_532002 := tX HO_532002.out BK560.out hb ho0 ho1; replace HO546 := tX HO546.out BK560.out hb ho0 ho1; replace HO549 := tX HO549.out BK560.out hb ho0 ho1; replace HO555 := tX HO555.out BK560.out hb ho0 ho1; replace HO558 := tX HO558.out BK560.out hb ho0 ho1; replace BK493 := bU1 BK493.out NB493_560.out hb; replace BK494 := bU1 BK494.out NB494_560.out hb; replace BK495 := bU1 BK495.out NB495_560.out hb; replace BK504 := bU1 BK504.out NB504_560.out hb; replace BK531 := bU1 BK531.out NB531_560.out hb; replace BK551 := bU1 BK551.out NB551_560.out hb; replace BK560 := aM (blk_below (g := gb560) (o := .cells #[.bool t552, .slice Ao203 t553.length co203, .slice Ao204 t556.length co204] 25 (0, 0)) (dP BK560.out) hb); replace HB := hS HB.out hb; (try clear hb); (try clear ho0); (try clear ho1)) | ((with_reducible refine gate_dst (N := 23) rfl ?_); refine bE 23 #[.bool false, .slice none 0 0, .slice none 0 0] 25 ?_; intro gb569 hg w210 hbox hb; replace HO_494001 := oB HO_494001.out hb; replace HO_494002 := oB HO_494002.out hb; replace HO_495001 := oB HO_495001.out hb; replace HO_495002 := oB HO_495002.out hb; replace HO_496001 := oB HO_496001.out hb; replace HO_496002 := oB HO_496002.out hb; replace HO_505001 := oB HO_505001.out hb; replace HO_505002 := oB HO_505002.out hb; replace HO_532001 := oB HO_532001.out hb; replace HO_532002 := oB HO_532002.out hb; replace HO546 := oB HO546.out hb; replace HO549 := oB HO549.out hb; replace HO555 := oB HO555.out hb; replace HO558 := oB HO558.out hb; replace HO564 := oB HO564.out hb; replace HO567 := oB HO567.out hb; have BK569 := aM (hbox); have GW569 : Aside0 (w.heap.size ≤ gb569) := gE hg; have GE569 : Aside0 (w.heap.size ≤ gb569) := gE hg; replace HB := hS HB.out hb; have NB493_569 := nL hg BK493.out; have NB569_493 := nG hg BK493.out; replace BK493 := bB BK493.out hb; have NB494_569 := nL hg BK494.out; have NB569_494 := nG hg BK494.out; replace BK494 := bB BK494.out hb; have NB495_569 := nL hg BK495.out; have NB569_495 := nG hg BK495.out; replace BK495 := bB BK495.out hb; have NB504_569 := nL hg BK504.out; have NB569_504 := nG hg BK504.out; replace BK504 := bB BK504.out hb; have NB531_569 := nL hg BK531.out; have NB569_531 := nG hg BK531.out; replace BK531 := bB BK531.out hb; have NB551_569 := nL hg BK551.out; have NB569_551 := nG hg BK551.out; replace BK551 := bB BK551.out hb; have NB560_569 := nL hg BK560.out; have NB569_560 := nG hg BK560.out; replace BK560 := bB BK560.out hb; clear hb hbox hg; have hnb211 := NB569_493.out; have hnc211 := NB493_569.out; have hnb212 := NB569_494.out; have hnc212 := NB494_569.out; have hnb213 := NB569_495.out; have hnc213 := NB495_569.out; have hnb214 := NB569_504.out; have hnc214 := NB504_569.out; have hnb215 := NB569_531.out; have hnc215 := NB531_569.out; have hnb216 := NB569_551.out; have hnc216 := NB551_569.out; have hnb217 := NB569_560.out; have hnc217 := NB560_569.out; obtain ⟨hcz218_0, hcz218_1, hcz218_2⟩ := cz3 BK569.out; obtain ⟨hfz218_0, hfz218_1, hfz218_2⟩ := fz3 BK569.out; obtain ⟨Ao219, co219, rfl⟩ := Kd.R_slice HO564.out; obtain ⟨Ao220, co220, rfl⟩ := Kd.R_slice HO567.out; obtain ⟨hcz221_0, hcz221_1, hcz221_2⟩ := cz3 BK494.out; obtain ⟨hfz221_0, hfz221_1, hfz221_2⟩ := fz3 BK494.out; obtain ⟨hcz222_0, hcz222_1, hcz222_2⟩ := cz3 BK495.out; obtain ⟨hfz222_0, hfz222_1, hfz222_2⟩ := fz3 BK495.out) | ((with_reducible refine gate_callee (f := 9) rfl ?_); refine gL (some 129) Try.func9 #[.agg #[.bool t478, .slice Ao38 t479.length co38, .slice Ao39 t482.length co39], .agg #[.bool t485, .slice Ao44 t486.length co44, .slice Ao45 t489.length co45]] ?_; (with_reducible refine (plumblaw05_mul.calls kj10 t478 _ _ t479 _ _ t482 t485 _ _ t486 _ _ t489 t570 t571 t574 t577 _ ?side1 (Kd.R_reads' HO_495001.out).2.1 ?side3 (Kd.R_reads' HO_495002.out).2.1 ?side5 ?side6 ?side7 ?side8 A170.out).mono ?_); (case side1 => refine (Kd.R_reads' (e := 44) (base := w.heap.size) (ok := fun k_ => (((((((oN Ao31 t472 co31 k_ ∧ (oN Ao32 t475 co32 k_ ∧ (oN Ao39 t482 co39 k_ ∧ (oN Ao44 t486 co44 k_ ∧ (oN Ao45 t489 co45 k_ ∧ (oN Ao55 t497 co55 k_ ∧ (oN Ao56 t500 co56 k_ ∧ (oN Ao100 t524 co100 k_ ∧ oN Ao101 t527 co101 k_)))))))) ∧ oN Ao190 t544 co190 k_) ∧ oN Ao191 t547 co191 k_) ∧ oN Ao203 t553 co203 k_) ∧ oN Ao204 t556 co204 k_) ∧ oN Ao219 t562 co219 k_) ∧ oN Ao220 t565 co220 k_)) (n := t479.length) (c := co38) ?_).2.2; exact (oR HO_495001.out BK569.out)); (case side3 => refine (Kd.R_reads' (e := 44) (base := w.heap.size) (ok := fun k_ => (((((((oN Ao31 t472 co31 k_ ∧ (oN Ao32 t475 co32 k_ ∧ (oN Ao38 t479 co38 k_ ∧ (oN Ao44 t486 co44 k_ ∧ (oN Ao45 t489 co45 k_ ∧ (oN Ao55 t497 co55 k_ ∧ (oN Ao56 t500 co56 k_ ∧ (oN Ao100 t524 co100 k_ ∧ oN Ao101 t527 co101 k_)))))))) ∧ oN Ao190 t544 co190 k_) ∧ oN Ao191 t547 co191 k_) ∧ oN Ao203 t553 co203 k_) ∧ oN Ao204 t556 co204 k_) ∧ oN Ao219 t562 co219 k_) ∧ oN Ao220 t565 co220 k_)) (n := t482.length) (c := co39) ?_).2.2; exact (oR HO_495002.out BK569.out)); (case side5 => refine (Kd.R_reads' (e := 44) (base := w.heap.size) (ok := fun k_ => (((((((oN Ao31 t472 co31 k_ ∧ (oN Ao32 t475 co32 k_ ∧ (oN Ao38 t479 co38 k_ ∧ (oN Ao39 t482 co39 k_ ∧ (oN Ao45 t489 co45 k_ ∧ (oN Ao55 t497 co55 k_ ∧ (oN Ao56 t500 co56 k_ ∧ (oN Ao100 t524 co100 k_ ∧ oN Ao101 t527 co101 k_)))))))) ∧ oN Ao190 t544 co190 k_) ∧ oN Ao191 t547 co191 k_) ∧ oN Ao203 t553 co203 k_) ∧ oN Ao204 t556 co204 k_) ∧ oN Ao219 t562 co219 k_) ∧ oN Ao220 t565 co220 k_)) (n := t486.length) (c := co44) ?_).2.2; exact (oR HO_496001.out BK569.out)); (case side6 => exact (Kd.R_reads' HO_496001.out).2.1); (case side7 => refine (Kd.R_reads' (e := 44) (base := w.heap.size) (ok := fun k_ => (((((((oN Ao31 t472 co31 k_ ∧ (oN Ao32 t475 co32 k_ ∧ (oN Ao38 t479 co38 k_ ∧ (oN Ao39 t482 co39 k_ ∧ (oN Ao44 t486 co44 k_ ∧ (oN Ao55 t497 co55 k_ ∧ (oN Ao56 t500 co56 k_ ∧ (oN Ao100 t524 co100 k_ ∧ oN Ao101 t527 co101 k_)))))))) ∧ oN Ao190 t544 co190 k_) ∧ oN Ao191 t547 co191 k_) ∧ oN Ao203 t553 co203 k_) ∧ oN Ao204 t556 co204 k_) ∧ oN Ao219 t562 co219 k_) ∧ oN Ao220 t565 co220 k_)) (n := t489.length) (c := co45) ?_).2.2; exact (oR HO_496002.out BK569.out)); (case side8 => exact (Kd.R_reads' HO_496002.out).2.1); rintro e w223 ⟨v572, v575, rfl, ho0, ho1, hb⟩; refine ⟨_, rfl, ?_⟩; have HO573 := aM (Kd.R_lower (nV (nV (nV (nV (nV (nV (nV (nV (nV (nV (nV (nV (nV (nV (nV (nV ho0 HO_494001.out BK569.out) HO_494002.out BK569.out) HO_495001.out BK569.out) HO_495002.out BK569.out) HO_496001.out BK569.out) HO_496002.out BK569.out) HO_505001.out BK569.out) HO_505002.out BK569.out) HO_532001.out BK569.out) HO_532002.out BK569.out) HO546.out BK569.out) HO549.out BK569.out) HO555.out BK569.out) HO558.out BK569.out) HO564.out BK569.out) HO567.out BK569.out) (below_size eB)); have HO576 := aM (Kd.R_lower (nV (nV (nV (nV (nV (nV (nV (nV (nV (nV (nV (nV (nV (nV (nV (nV ho1 HO_494001.out BK569.out) HO_494002.out BK569.out) HO_495001.out BK569.out) HO_495002.out BK569.out) HO_496001.out BK569.out) HO_496002.out BK569.out) HO_505001.out BK569.out) HO_505002.out BK569.out) HO_532001.out BK569.out) HO_532002.out BK569.out) HO546.out BK569.out) HO549.out BK569.out) HO555.out BK569.out) HO558.out BK569.out) HO564.out BK569.out) HO567.out BK569.out) (below_size eB)); replace HO_494001 := tX HO_494001.out BK569.out hb ho0 ho1; replace HO_494002 := tX HO_494002.out BK569.out hb ho0 ho1; replace HO_495001 := tX HO_495001.out BK569.out hb ho0 ho1; replace HO_495002 := tX HO_495002.out BK569.out hb ho0 ho1; replace HO_496001 := tX HO_496001.out BK569.out hb ho0 ho1; replace HO_496002 := tX HO_496002.out BK569.out hb ho0 ho1; replace HO_505001 := tX HO_505001.out BK569.out hb ho0 ho1; replace HO_505002 := tX HO_505002.out BK569.out hb ho0 ho1; replace HO_532001 := tX HO_532001.out BK569.out hb ho0 ho1; replace HO_532002 := tX HO_532002.out BK569.out hb ho0 ho1; replace HO546 := tX HO546.out BK569.out hb ho0 ho1; replace HO549 := tX HO549.out BK569.out hb ho0 ho1; replace HO555 := tX HO555.out BK569.out hb ho0 ho1; replace HO558 := tX HO558.out BK569.out hb ho0 ho1; replace HO564 := tX HO564.out BK569.out hb ho0 ho1; replace HO567 := tX HO567.out BK569.out hb ho0 ho1; replace BK493 := bU1 BK493.out NB493_569.out hb; replace BK494 := bU1 BK494.out NB494_569.out hb; replace BK495 := bU1 BK495.out NB495_569.out hb; replace BK504 := bU1 BK504.out NB504_569.out hb; replace BK531 := bU1 BK531.out NB531_569.out hb; replace BK551 := bU1 BK551.out NB551_569.out hb; replace BK560 := bU1 BK560.out NB560_569.out hb; replace BK569 := aM (blk_below (g := gb569) (o := .cells #[.bool t561, .slice Ao219 t562.length co219, .slice Ao220 t565.length co220] 25 (0, 0)) (dP BK569.out) hb); replace HB := hS HB.out hb; (try clear hb); (try clear ho0); (try clear ho1)) | ((with_reducible refine gate_dst (N := 24) rfl ?_); refine bE 24 #[.bool false, .slice none 0 0, .slice none 0 0] 25 ?_; intro gb578 hg w224 hbox hb; replace HO_494001 := oB HO_494001.out hb; replace HO_494002 := oB HO_494002.out hb; replace HO_495001 := oB HO_495001.out hb; replace HO_495002 := oB HO_495002.out hb; replace HO_496001 := oB HO_496001.out hb; replace HO_496002 := oB HO_496002.out hb; replace HO_505001 := oB HO_505001.out hb; replace HO_505002 := oB HO_505002.out hb; replace HO_532001 := oB HO_532001.out hb; replace HO_532002 := oB HO_532002.out hb; replace HO546 := oB HO546.out hb; replace HO549 := oB HO549.out hb; replace HO555 := oB HO555.out hb; replace HO558 := oB HO558.out hb; replace HO564 := oB HO564.out hb; replace HO567 := oB HO567.out hb; replace HO573 := oB HO573.out hb; replace HO576 := oB HO576.out hb; have BK578 := aM (hbox); have GW578 : Aside0 (w.heap.size ≤ gb578) := gE hg; have GE578 : Aside0 (w.heap.size ≤ gb578) := gE hg; replace HB := hS HB.out hb; have NB493_578 := nL hg BK493.out; have NB578_493 := nG hg BK493.out; replace BK493 := bB BK493.out hb; have NB494_578 := nL hg BK494.out; have NB578_494 := nG hg BK494.out; replace BK494 := bB BK494.out hb; have NB495_578 := nL hg BK495.out; have NB578_495 := nG hg BK495.out; replace BK495 := bB BK495.out hb; have NB504_578 := nL hg BK504.out; have NB578_504 := nG hg BK504.out; replace BK504 := bB BK504.out hb; have NB531_578 := nL hg BK531.out; have NB578_531 := nG hg BK531.out; replace BK531 := bB BK531.out hb; have NB551_578 := nL hg BK551.out; have NB578_551 := nG hg BK551.out; replace BK551 := bB BK551.out hb; have NB560_578 := nL hg BK560.out; have NB578_560 := nG hg BK560.out; replace BK560 := bB BK560.out hb; have NB569_578 := nL hg BK569.out; have NB578_569 := nG hg BK569.out; replace BK569 := bB BK569.out hb; clear hb hbox hg; have hnb225 := NB578_493.out; have hnc225 := NB493_578.out; have hnb226 := NB578_494.out; have hnc226 := NB494_578.out; have hnb227 := NB578_495.out; have hnc227 := NB495_578.out; have hnb228 := NB578_504.out; have hnc228 := NB504_578.out; have hnb229 := NB578_531.out; have hnc229 := NB531_578.out; have hnb230 := NB578_551.out; have hnc230 := NB551_578.out; have hnb231 := NB578_560.out; have hnc231 := NB560_578.out; have hnb232 := NB578_569.out; have hnc232 := NB569_578.out; obtain ⟨hcz233_0, hcz233_1, hcz233_2⟩ := cz3 BK578.out; obtain ⟨hfz233_0, hfz233_1, hfz233_2⟩ := fz3 BK578.out; obtain ⟨Ao234, co234, rfl⟩ := Kd.R_slice HO573.out; obtain ⟨Ao235, co235, rfl⟩ := Kd.R_slice HO576.out; obtain ⟨hcz236_0, hcz236_1, hcz236_2⟩ := cz3 BK493.out; obtain ⟨hfz236_0, hfz236_1, hfz236_2⟩ := fz3 BK493.out) | ((with_reducible refine gate_callee (f := 9) rfl ?_); refine gL (some 135) Try.func9 #[.agg #[.bool t471, .slice Ao31 t472.length co31, .slice Ao32 t475.length co32], .agg #[.bool t570, .slice Ao234 t571.length co234, .slice Ao235 t574.length co235]] ?_; (with_reducible refine (plumblaw05_mul.calls kj10 t471 _ _ t472 _ _ t475 t570 _ _ t571 _ _ t574 t579 t580 t583 t586 _ ?side1 (Kd.R_reads' HO_494001.out).2.1 ?side3 (Kd.R_reads' HO_494002.out).2.1 ?side5 ?side6 ?side7 ?side8 A171.out).mono ?_); (case side1 => refine (Kd.R_reads' (e := 44) (base := w.heap.size) (ok := fun k_ => (((((((((oN Ao32 t475 co32 k_ ∧ (oN Ao38 t479 co38 k_ ∧ (oN Ao39 t482 co39 k_ ∧ (oN Ao44 t486 co44 k_ ∧ (oN Ao45 t489 co45 k_ ∧ (oN Ao55 t497 co55 k_ ∧ (oN Ao56 t500 co56 k_ ∧ (oN Ao100 t524 co100 k_ ∧ oN Ao101 t527 co101 k_)))))))) ∧ oN Ao190 t544 co190 k_) ∧ oN Ao191 t547 co191 k_) ∧ oN Ao203 t553 co203 k_) ∧ oN Ao204 t556 co204 k_) ∧ oN Ao219 t562 co219 k_) ∧ oN Ao220 t565 co220 k_) ∧ oN Ao234 t571 co234 k_) ∧ oN Ao235 t574 co235 k_)) (n := t472.length) (c := co31) ?_).2.2; exact (oR HO_494001.out BK578.out)); (case side3 => refine (Kd.R_reads' (e := 44) (base := w.heap.size) (ok := fun k_ => (((((((((oN Ao31 t472 co31 k_ ∧ (oN Ao38 t479 co38 k_ ∧ (oN Ao39 t482 co39 k_ ∧ (oN Ao44 t486 co44 k_ ∧ (oN Ao45 t489 co45 k_ ∧ (oN Ao55 t497 co55 k_ ∧ (oN Ao56 t500 co56 k_ ∧ (oN Ao100 t524 co100 k_ ∧ oN Ao101 t527 co101 k_)))))))) ∧ oN Ao190 t544 co190 k_) ∧ oN Ao191 t547 co191 k_) ∧ oN Ao203 t553 co203 k_) ∧ oN Ao204 t556 co204 k_) ∧ oN Ao219 t562 co219 k_) ∧ oN Ao220 t565 co220 k_) ∧ oN Ao234 t571 co234 k_) ∧ oN Ao235 t574 co235 k_)) (n := t475.length) (c := co32) ?_).2.2; exact (oR HO_494002.out BK578.out)); (case side5 => refine (Kd.R_reads' (e := 44) (base := w.heap.size) (ok := fun k_ => ((((((((((((((((oN Ao235 t574 co235 k_ ∧ oN Ao31 t472 co31 k_) ∧ oN Ao32 t475 co32 k_) ∧ oN Ao38 t479 co38 k_) ∧ oN Ao39 t482 co39 k_) ∧ oN Ao44 t486 co44 k_) ∧ oN Ao45 t489 co45 k_) ∧ oN Ao55 t497 co55 k_) ∧ oN Ao56 t500 co56 k_) ∧ oN Ao100 t524 co100 k_) ∧ oN Ao101 t527 co101 k_) ∧ oN Ao190 t544 co190 k_) ∧ oN Ao191 t547 co191 k_) ∧ oN Ao203 t553 co203 k_) ∧ oN Ao204 t556 co204 k_) ∧ oN Ao219 t562 co219 k_) ∧ oN Ao220 t565 co220 k_)) (n := t571.length) (c := co234) ?_).2.2; exact (oR HO573.out BK578.out)); (case side6 => exact (Kd.R_reads' HO573.out).2.1); (case side7 => refine (Kd.R_reads' (e := 44) (base := w.heap.size) (ok := fun k_ => ((((((((((((((((oN Ao234 t571 co234 k_ ∧ oN Ao31 t472 co31 k_) ∧ oN Ao32 t475 co32 k_) ∧ oN Ao38 t479 co38 k_) ∧ oN Ao39 t482 co39 k_) ∧ oN Ao44 t486 co44 k_) ∧ oN Ao45 t489 co45 k_) ∧ oN Ao55 t497 co55 k_) ∧ oN Ao56 t500 co56 k_) ∧ oN Ao100 t524 co100 k_) ∧ oN Ao101 t527 co101 k_) ∧ oN Ao190 t544 co190 k_) ∧ oN Ao191 t547 co191 k_) ∧ oN Ao203 t553 co203 k_) ∧ oN Ao204 t556 co204 k_) ∧ oN Ao219 t562 co219 k_) ∧ oN Ao220 t565 co220 k_)) (n := t574.length) (c := co235) ?_).2.2; exact (oR HO576.out BK578.out)); (case side8 => exact (Kd.R_reads' HO576.out).2.1); rintro e w237 ⟨v581, v584, rfl, ho0, ho1, hb⟩; refine ⟨_, rfl, ?_⟩; have HO582 := aM (Kd.R_lower (nV (nV (nV (nV (nV (nV (nV (nV (nV (nV (nV (nV (nV (nV (nV (nV (nV (nV ho0 HO_494001.out BK578.out) HO_494002.out BK578.out) HO_495001.out BK578.out) HO_495002.out BK578.out) HO_496001.out BK578.out) HO_496002.out BK578.out) HO_505001.out BK578.out) HO_505002.out BK578.out) HO_532001.out BK578.out) HO_532002.out BK578.out) HO546.out BK578.out) HO549.out BK578.out) HO555.out BK578.out) HO558.out BK578.out) HO564.out BK578.out) HO567.out BK578.out) HO573.out BK578.out) HO576.out BK578.out) (below_size eB)); have HO585 := aM (Kd.R_lower (nV (nV (nV (nV (nV (nV (nV (nV (nV (nV (nV (nV (nV (nV (nV (nV (nV (nV ho1 HO_494001.out BK578.out) HO_494002.out BK578.out) HO_495001.out BK578.out) HO_495002.out BK578.out) HO_496001.out BK578.out) HO_496002.out BK578.out) HO_505001.out BK578.out) HO_505002.out BK578.out) HO_532001.out BK578.out) HO_532002.out BK578.out) HO546.out BK578.out) HO549.out BK578.out) HO555.out BK578.out) HO558.out BK578.out) HO564.out BK578.out) HO567.out BK578.out) HO573.out BK578.out) HO576.out BK578.out) (below_size eB)); replace HO_494001 := tX HO_494001.out BK578.out hb ho0 ho1; replace HO_494002 := tX HO_494002.out BK578.out hb ho0 ho1; replace HO_495001 := tX HO_495001.out BK578.out hb ho0 ho1; replace HO_495002 := tX HO_495002.out BK578.out hb ho0 ho1; replace HO_496001 := tX HO_496001.out BK578.out hb ho0 ho1; replace HO_496002 := tX HO_496002.out BK578.out hb ho0 ho1; replace HO_505001 := tX HO_505001.out BK578.out hb ho0 ho1; replace HO_505002 := tX HO_505002.out BK578.out hb ho0 ho1; replace HO_532001 := tX HO_532001.out BK578.out hb ho0 ho1; replace HO_532002 := tX HO_532002.out BK578.out hb ho0 ho1; replace HO546 := tX HO546.out BK578.out hb ho0 ho1; replace HO549 := tX HO549.out BK578.out hb ho0 ho1; replace HO555 := tX HO555.out BK578.out hb ho0 ho1; replace HO558 := tX HO558.out BK578.out hb ho0 ho1; replace HO564 := tX HO564.out BK578.out hb ho0 ho1; replace HO567 := tX HO567.out BK578.out hb ho0 ho1; replace HO573 := tX HO573.out BK578.out hb ho0 ho1; replace HO576 := tX HO576.out BK578.out hb ho0 ho1; replace BK493 := bU1 BK493.out NB493_578.out hb; replace BK494 := bU1 BK494.out NB494_578.out hb; replace BK495 := bU1 BK495.out NB495_578.out hb; replace BK504 := bU1 BK504.out NB504_578.out hb; replace BK531 := bU1 BK531.out NB531_578.out hb; replace BK551 := bU1 BK551.out NB551_578.out hb; replace BK560 := bU1 BK560.out NB560_578.out hb; replace BK569 := bU1 BK569.out NB569_578.out hb; replace BK578 := aM (blk_below (g := gb578) (o := .cells #[.bool t570, .slice Ao234 t571.length co234, .slice Ao235 t574.length co235] 25 (0, 0)) (dP BK578.out) hb); replace HB := hS HB.out hb; (try clear hb); (try clear ho0); (try clear ho1)) | ((with_reducible refine gate_dst (N := 25) rfl ?_); refine bE 25 #[.bool false, .slice none 0 0, .slice none 0 0] 25 ?_; intro gb587 hg w238 hbox hb; replace HO_494001 := oB HO_494001.out hb; replace HO_494002 := oB HO_494002.out hb; replace HO_495001 := oB HO_495001.out hb; replace HO_495002 := oB HO_495002.out hb; replace HO_496001 := oB HO_496001.out hb; replace HO_496002 := oB HO_496002.out hb; replace HO_505001 := oB HO_505001.out hb; replace HO_505002 := oB HO_505002.out hb; replace HO_532001 := oB HO_532001.out hb; replace HO_532002 := oB HO_532002.out hb; replace HO546 := oB HO546.out hb; replace HO549 := oB HO549.out hb; replace HO555 := oB HO555.out hb; replace HO558 := oB HO558.out hb; replace HO564 := oB HO564.out hb; replace HO567 := oB HO567.out hb; replace HO573 := oB HO573.out hb; replace HO576 := oB HO576.out hb; replace HO582 := oB HO582.out hb; replace HO585 := oB HO585.out hb; have BK587 := aM (hbox); have GW587 : Aside0 (w.heap.size ≤ gb587) := gE hg; have GE587 : Aside0 (w.heap.size ≤ gb587) := gE hg; replace HB := hS HB.out hb; have NB493_587 := nL hg BK493.out; have NB587_493 := nG hg BK493.out; replace BK493 := bB BK493.out hb; have NB494_587 := nL hg BK494.out; have NB587_494 := nG hg BK494.out; replace BK494 := bB BK494.out hb; have NB495_587 := nL hg BK495.out; have NB587_495 := nG hg BK495.out; replace BK495 := bB BK495.out hb; have NB504_587 := nL hg BK504.out; have NB587_504 := nG hg BK504.out; replace BK504 := bB BK504.out hb; have NB531_587 := nL hg BK531.out; have NB587_531 := nG hg BK531.out; replace BK531 := bB BK531.out hb; have NB551_587 := nL hg BK551.out; have NB587_551 := nG hg BK551.out; replace BK551 := bB BK551.out hb; have NB560_587 := nL hg BK560.out; have NB587_560 := nG hg BK560.out; replace BK560 := bB BK560.out hb; have NB569_587 := nL hg BK569.out; have NB587_569 := nG hg BK569.out; replace BK569 := bB BK569.out hb; have NB578_587 := nL hg BK578.out; have NB587_578 := nG hg BK578.out; replace BK578 := bB BK578.out hb; clear hb hbox hg; have hnb239 := NB587_493.out; have hnc239 := NB493_587.out; have hnb240 := NB587_494.out; have hnc240 := NB494_587.out; have hnb241 := NB587_495.out; have hnc241 := NB495_587.out; have hnb242 := NB587_504.out; have hnc242 := NB504_587.out; have hnb243 := NB587_531.out; have hnc243 := NB531_587.out; have hnb244 := NB587_551.out; have hnc244 := NB551_587.out; have hnb245 := NB587_560.out; have hnc245 := NB560_587.out; have hnb246 := NB587_569.out; have hnc246 := NB569_587.out; have hnb247 := NB587_578.out; have hnc247 := NB578_587.out; obtain ⟨hcz248_0, hcz248_1, hcz248_2⟩ := cz3 BK587.out; obtain ⟨hfz248_0, hfz248_1, hfz248_2⟩ := fz3 BK587.out; obtain ⟨Ao249, co249, rfl⟩ := Kd.R_slice HO582.out; obtain ⟨Ao250, co250, rfl⟩ := Kd.R_slice HO585.out))
   (try simp only [Act.put, List.setIfInBounds_toArray, List.set_cons_zero, List.set_cons_succ])
   go_cut [167] (fun v167 wc => ∃ (kq : Nat) (x167_171 : Bool), v167 = .bool x167_171 ∧ Aside0 (plumblaw05_RatField.j1 kq x167_171 t471 t472 t475 t478 t479 t482 t485 t486 t489 t496 t497 t500 t523 t524 t527 t543 t544 t547 = some r) ∧ Aside0 (kq ≤ kj10) ∧ Aside0 (Kd.R (Kd.int .u64) 44 wc w.heap.size (fun k_ => oN Ao32 t475 co32 k_ ∧ oN Ao38 t479 co38 k_ ∧ oN Ao39 t482 co39 k_ ∧ oN Ao44 t486 co44 k_ ∧ oN Ao45 t489 co45 k_ ∧ oN Ao55 t497 co55 k_ ∧ oN Ao56 t500 co56 k_ ∧ oN Ao100 t524 co100 k_ ∧ oN Ao101 t527 co101 k_ ∧ oN Ao190 t544 co190 k_ ∧ oN Ao191 t547 co191 k_) (.slice Ao31 t472.length co31) t472) ∧ Aside0 (Kd.R (Kd.int .u64) 44 wc w.heap.size (fun k_ => oN Ao31 t472 co31 k_ ∧ oN Ao38 t479 co38 k_ ∧ oN Ao39 t482 co39 k_ ∧ oN Ao44 t486 co44 k_ ∧ oN Ao45 t489 co45 k_ ∧ oN Ao55 t497 co55 k_ ∧ oN Ao56 t500 co56 k_ ∧ oN Ao100 t524 co100 k_ ∧ oN Ao101 t527 co101 k_ ∧ oN Ao190 t544 co190 k_ ∧ oN Ao191 t547 co191 k_) (.slice Ao32 t475.length co32) t475) ∧ Aside0 (Kd.R (Kd.int .u64) 44 wc w.heap.size (fun k_ => oN Ao31 t472 co31 k_ ∧ oN Ao32 t475 co32 k_ ∧ oN Ao39 t482 co39 k_ ∧ oN Ao44 t486 co44 k_ ∧ oN Ao45 t489 co45 k_ ∧ oN Ao55 t497 co55 k_ ∧ oN Ao56 t500 co56 k_ ∧ oN Ao100 t524 co100 k_ ∧ oN Ao101 t527 co101 k_ ∧ oN Ao190 t544 co190 k_ ∧ oN Ao191 t547 co191 k_) (.slice Ao38 t479.length co38) t479) ∧ Aside0 (Kd.R (Kd.int .u64) 44 wc w.heap.size (fun k_ => oN Ao31 t472 co31 k_ ∧ oN Ao32 t475 co32 k_ ∧ oN Ao38 t479 co38 k_ ∧ oN Ao44 t486 co44 k_ ∧ oN Ao45 t489 co45 k_ ∧ oN Ao55 t497 co55 k_ ∧ oN Ao56 t500 co56 k_ ∧ oN Ao100 t524 co100 k_ ∧ oN Ao101 t527 co101 k_ ∧ oN Ao190 t544 co190 k_ ∧ oN Ao191 t547 co191 k_) (.slice Ao39 t482.length co39) t482) ∧ Aside0 (Kd.R (Kd.int .u64) 44 wc w.heap.size (fun k_ => oN Ao31 t472 co31 k_ ∧ oN Ao32 t475 co32 k_ ∧ oN Ao38 t479 co38 k_ ∧ oN Ao39 t482 co39 k_ ∧ oN Ao45 t489 co45 k_ ∧ oN Ao55 t497 co55 k_ ∧ oN Ao56 t500 co56 k_ ∧ oN Ao100 t524 co100 k_ ∧ oN Ao101 t527 co101 k_ ∧ oN Ao190 t544 co190 k_ ∧ oN Ao191 t547 co191 k_) (.slice Ao44 t486.length co44) t486) ∧ Aside0 (Kd.R (Kd.int .u64) 44 wc w.heap.size (fun k_ => oN Ao31 t472 co31 k_ ∧ oN Ao32 t475 co32 k_ ∧ oN Ao38 t479 co38 k_ ∧ oN Ao39 t482 co39 k_ ∧ oN Ao44 t486 co44 k_ ∧ oN Ao55 t497 co55 k_ ∧ oN Ao56 t500 co56 k_ ∧ oN Ao100 t524 co100 k_ ∧ oN Ao101 t527 co101 k_ ∧ oN Ao190 t544 co190 k_ ∧ oN Ao191 t547 co191 k_) (.slice Ao45 t489.length co45) t489) ∧ Aside0 (Kd.R (Kd.int .u64) 44 wc w.heap.size (fun k_ => oN Ao31 t472 co31 k_ ∧ oN Ao32 t475 co32 k_ ∧ oN Ao38 t479 co38 k_ ∧ oN Ao39 t482 co39 k_ ∧ oN Ao44 t486 co44 k_ ∧ oN Ao45 t489 co45 k_ ∧ oN Ao56 t500 co56 k_ ∧ oN Ao100 t524 co100 k_ ∧ oN Ao101 t527 co101 k_ ∧ oN Ao190 t544 co190 k_ ∧ oN Ao191 t547 co191 k_) (.slice Ao55 t497.length co55) t497) ∧ Aside0 (Kd.R (Kd.int .u64) 44 wc w.heap.size (fun k_ => oN Ao31 t472 co31 k_ ∧ oN Ao32 t475 co32 k_ ∧ oN Ao38 t479 co38 k_ ∧ oN Ao39 t482 co39 k_ ∧ oN Ao44 t486 co44 k_ ∧ oN Ao45 t489 co45 k_ ∧ oN Ao55 t497 co55 k_ ∧ oN Ao100 t524 co100 k_ ∧ oN Ao101 t527 co101 k_ ∧ oN Ao190 t544 co190 k_ ∧ oN Ao191 t547 co191 k_) (.slice Ao56 t500.length co56) t500) ∧ Aside0 (Kd.R (Kd.int .u64) 44 wc w.heap.size (fun k_ => oN Ao31 t472 co31 k_ ∧ oN Ao32 t475 co32 k_ ∧ oN Ao38 t479 co38 k_ ∧ oN Ao39 t482 co39 k_ ∧ oN Ao44 t486 co44 k_ ∧ oN Ao45 t489 co45 k_ ∧ oN Ao55 t497 co55 k_ ∧ oN Ao56 t500 co56 k_ ∧ oN Ao101 t527 co101 k_ ∧ oN Ao190 t544 co190 k_ ∧ oN Ao191 t547 co191 k_) (.slice Ao100 t524.length co100) t524) ∧ Aside0 (Kd.R (Kd.int .u64) 44 wc w.heap.size (fun k_ => oN Ao31 t472 co31 k_ ∧ oN Ao32 t475 co32 k_ ∧ oN Ao38 t479 co38 k_ ∧ oN Ao39 t482 co39 k_ ∧ oN Ao44 t486 co44 k_ ∧ oN Ao45 t489 co45 k_ ∧ oN Ao55 t497 co55 k_ ∧ oN Ao56 t500 co56 k_ ∧ oN Ao100 t524 co100 k_ ∧ oN Ao190 t544 co190 k_ ∧ oN Ao191 t547 co191 k_) (.slice Ao101 t527.length co101) t527) ∧ Aside0 (Kd.R (Kd.int .u64) 44 wc w.heap.size (fun k_ => oN Ao31 t472 co31 k_ ∧ oN Ao32 t475 co32 k_ ∧ oN Ao38 t479 co38 k_ ∧ oN Ao39 t482 co39 k_ ∧ oN Ao44 t486 co44 k_ ∧ oN Ao45 t489 co45 k_ ∧ oN Ao55 t497 co55 k_ ∧ oN Ao56 t500 co56 k_ ∧ oN Ao100 t524 co100 k_ ∧ oN Ao101 t527 co101 k_ ∧ oN Ao191 t547 co191 k_) (.slice Ao190 t544.length co190) t544) ∧ Aside0 (Kd.R (Kd.int .u64) 44 wc w.heap.size (fun k_ => oN Ao31 t472 co31 k_ ∧ oN Ao32 t475 co32 k_ ∧ oN Ao38 t479 co38 k_ ∧ oN Ao39 t482 co39 k_ ∧ oN Ao44 t486 co44 k_ ∧ oN Ao45 t489 co45 k_ ∧ oN Ao55 t497 co55 k_ ∧ oN Ao56 t500 co56 k_ ∧ oN Ao100 t524 co100 k_ ∧ oN Ao101 t527 co101 k_ ∧ oN Ao190 t544 co190 k_) (.slice Ao191 t547.length co191) t547) ∧ Aside0 (wc.heap[gb493]? = some (.cells #[.bool t471, (.slice Ao31 t472.length co31), (.slice Ao32 t475.length co32)] 25 (0, 0))) ∧ Aside0 (wc.heap[gb494]? = some (.cells #[.bool t478, (.slice Ao38 t479.length co38), (.slice Ao39 t482.length co39)] 25 (0, 0))) ∧ Aside0 (wc.heap[gb495]? = some (.cells #[.bool t485, (.slice Ao44 t486.length co44), (.slice Ao45 t489.length co45)] 25 (0, 0))) ∧ Aside0 (wc.heap[gb504]? = some (.cells #[.bool t496, (.slice Ao55 t497.length co55), (.slice Ao56 t500.length co56)] 25 (0, 0))) ∧ Aside0 (wc.heap[gb531]? = some (.cells #[.bool t523, (.slice Ao100 t524.length co100), (.slice Ao101 t527.length co101)] 25 (0, 0))) ∧ Aside0 (wc.heap[gb551]? = some (.cells #[.bool t543, (.slice Ao190 t544.length co190), (.slice Ao191 t547.length co191)] 25 (0, 0))) ∧ Aside0 (Below w.heap.size w wc))
   case first =>
    as_aux_lemma =>
    have H := HC172.out
    clear HC172
    replace H := nO H
    obtain ⟨rfl, H⟩ := H
    (try dsimp only at H)
    replace H := nO H
    obtain ⟨rfl, H⟩ := H
    (try dsimp only at H)
    replace H := nO H
    obtain ⟨rfl, H⟩ := H
    (try dsimp only at H)
    replace H := nO H
    obtain ⟨rfl, H⟩ := H
    (try dsimp only at H)
    replace H := nO H
    obtain ⟨rfl, H⟩ := H
    (try dsimp only at H)
    replace H := oA H
    obtain ⟨t588, A256, H⟩ := H
    (try dsimp only at H)
    replace H := nO H
    obtain ⟨rfl, H⟩ := H
    (try dsimp only at H)
    replace H := oA H
    obtain ⟨t589, A258, H⟩ := H
    (try dsimp only at H)
    have H' := aM H
    clear H
    have hnb259 := NB551_493.out
    have hnc259 := NB493_551.out
    have hnb260 := NB551_494.out
    have hnc260 := NB494_551.out
    have hnb261 := NB551_495.out
    have hnc261 := NB495_551.out
    have hnb262 := NB551_504.out
    have hnc262 := NB504_551.out
    have hnb263 := NB551_531.out
    have hnc263 := NB531_551.out
    have hnb264 := NB551_560.out
    have hnc264 := NB560_551.out
    have hnb265 := NB551_569.out
    have hnc265 := NB569_551.out
    have hnb266 := NB551_578.out
    have hnc266 := NB578_551.out
    have hnb267 := NB551_587.out
    have hnc267 := NB587_551.out
    obtain ⟨hcz268_0, hcz268_1, hcz268_2⟩ := cz3 BK551.out
    obtain ⟨hfz268_0, hfz268_1, hfz268_2⟩ := fz3 BK551.out
    have hnb269 := NB560_493.out
    have hnc269 := NB493_560.out
    have hnb270 := NB560_494.out
    have hnc270 := NB494_560.out
    have hnb271 := NB560_495.out
    have hnc271 := NB495_560.out
    have hnb272 := NB560_504.out
    have hnc272 := NB504_560.out
    have hnb273 := NB560_531.out
    have hnc273 := NB531_560.out
    have hnb274 := NB560_569.out
    have hnc274 := NB569_560.out
    have hnb275 := NB560_578.out
    have hnc275 := NB578_560.out
    have hnb276 := NB560_587.out
    have hnc276 := NB587_560.out
    obtain ⟨hcz277_0, hcz277_1, hcz277_2⟩ := cz3 BK560.out
    obtain ⟨hfz277_0, hfz277_1, hfz277_2⟩ := fz3 BK560.out
    go_wp2_with (first | (go_at_call 8; (with_reducible refine (plumblaw05_one.calls kj10 t543 _ _ t544 _ _ t547 t552 _ _ t553 _ _ t556 true _ ?side1 (Kd.R_reads' HO546.out).2.1 ?side3 ?side4 ?side5 ?side6 ?side7 ?side8 A256.out).mono ?_); (case side1 => refine (Kd.R_reads' (e := 44) (base := w.heap.size) (ok := fun k_ => ((((((((((((((((((oN Ao191 t547 co191 k_ ∧ oN Ao31 t472 co31 k_) ∧ oN Ao32 t475 co32 k_) ∧ oN Ao38 t479 co38 k_) ∧ oN Ao39 t482 co39 k_) ∧ oN Ao44 t486 co44 k_) ∧ oN Ao45 t489 co45 k_) ∧ oN Ao55 t497 co55 k_) ∧ oN Ao56 t500 co56 k_) ∧ oN Ao100 t524 co100 k_) ∧ oN Ao101 t527 co101 k_) ∧ oN Ao203 t553 co203 k_) ∧ oN Ao204 t556 co204 k_) ∧ oN Ao219 t562 co219 k_) ∧ oN Ao220 t565 co220 k_) ∧ oN Ao234 t571 co234 k_) ∧ oN Ao235 t574 co235 k_) ∧ oN Ao249 t580 co249 k_) ∧ oN Ao250 t583 co250 k_)) (n := t544.length) (c := co190) ?_).2.2; exact (oR HO546.out BK587.out)); (case side3 => refine (Kd.R_reads' (e := 44) (base := w.heap.size) (ok := fun k_ => ((((((((((((((((((oN Ao190 t544 co190 k_ ∧ oN Ao31 t472 co31 k_) ∧ oN Ao32 t475 co32 k_) ∧ oN Ao38 t479 co38 k_) ∧ oN Ao39 t482 co39 k_) ∧ oN Ao44 t486 co44 k_) ∧ oN Ao45 t489 co45 k_) ∧ oN Ao55 t497 co55 k_) ∧ oN Ao56 t500 co56 k_) ∧ oN Ao100 t524 co100 k_) ∧ oN Ao101 t527 co101 k_) ∧ oN Ao203 t553 co203 k_) ∧ oN Ao204 t556 co204 k_) ∧ oN Ao219 t562 co219 k_) ∧ oN Ao220 t565 co220 k_) ∧ oN Ao234 t571 co234 k_) ∧ oN Ao235 t574 co235 k_) ∧ oN Ao249 t580 co249 k_) ∧ oN Ao250 t583 co250 k_)) (n := t547.length) (c := co191) ?_).2.2; exact (oR HO549.out BK587.out)); (case side4 => exact (Kd.R_reads' HO549.out).2.1); (case side5 => refine (Kd.R_reads' (e := 44) (base := w.heap.size) (ok := fun k_ => ((((((((((((((((((oN Ao204 t556 co204 k_ ∧ oN Ao31 t472 co31 k_) ∧ oN Ao32 t475 co32 k_) ∧ oN Ao38 t479 co38 k_) ∧ oN Ao39 t482 co39 k_) ∧ oN Ao44 t486 co44 k_) ∧ oN Ao45 t489 co45 k_) ∧ oN Ao55 t497 co55 k_) ∧ oN Ao56 t500 co56 k_) ∧ oN Ao100 t524 co100 k_) ∧ oN Ao101 t527 co101 k_) ∧ oN Ao190 t544 co190 k_) ∧ oN Ao191 t547 co191 k_) ∧ oN Ao219 t562 co219 k_) ∧ oN Ao220 t565 co220 k_) ∧ oN Ao234 t571 co234 k_) ∧ oN Ao235 t574 co235 k_) ∧ oN Ao249 t580 co249 k_) ∧ oN Ao250 t583 co250 k_)) (n := t553.length) (c := co203) ?_).2.2; exact (oR HO555.out BK587.out)); (case side6 => exact (Kd.R_reads' HO555.out).2.1); (case side7 => refine (Kd.R_reads' (e := 44) (base := w.heap.size) (ok := fun k_ => ((((((((((((((((((oN Ao203 t553 co203 k_ ∧ oN Ao31 t472 co31 k_) ∧ oN Ao32 t475 co32 k_) ∧ oN Ao38 t479 co38 k_) ∧ oN Ao39 t482 co39 k_) ∧ oN Ao44 t486 co44 k_) ∧ oN Ao45 t489 co45 k_) ∧ oN Ao55 t497 co55 k_) ∧ oN Ao56 t500 co56 k_) ∧ oN Ao100 t524 co100 k_) ∧ oN Ao101 t527 co101 k_) ∧ oN Ao190 t544 co190 k_) ∧ oN Ao191 t547 co191 k_) ∧ oN Ao219 t562 co219 k_) ∧ oN Ao220 t565 co220 k_) ∧ oN Ao234 t571 co234 k_) ∧ oN Ao235 t574 co235 k_) ∧ oN Ao249 t580 co249 k_) ∧ oN Ao250 t583 co250 k_)) (n := t556.length) (c := co204) ?_).2.2; exact (oR HO558.out BK587.out)); (case side8 => exact (Kd.R_reads' HO558.out).2.1); rintro e w278 ⟨rfl, hb⟩; replace HO_494001 := oX HO_494001.out BK587.out hb; replace HO_494002 := oX HO_494002.out BK587.out hb; replace HO_495001 := oX HO_495001.out BK587.out hb; replace HO_495002 := oX HO_495002.out BK587.out hb; replace HO_496001 := oX HO_496001.out BK587.out hb; replace HO_496002 := oX HO_496002.out BK587.out hb; replace HO_505001 := oX HO_505001.out BK587.out hb; replace HO_505002 := oX HO_505002.out BK587.out hb; replace HO_532001 := oX HO_532001.out BK587.out hb; replace HO_532002 := oX HO_532002.out BK587.out hb; replace HO546 := oX HO546.out BK587.out hb; replace HO549 := oX HO549.out BK587.out hb; replace HO555 := oX HO555.out BK587.out hb; replace HO558 := oX HO558.out BK587.out hb; replace HO564 := oX HO564.out BK587.out hb; replace HO567 := oX HO567.out BK587.out hb; replace HO573 := oX HO573.out BK587.out hb; replace HO576 := oX HO576.out BK587.out hb; replace HO582 := oX HO582.out BK587.out hb; replace HO585 := oX HO585.out BK587.out hb; replace BK493 := bU1 BK493.out NB493_587.out hb; replace BK494 := bU1 BK494.out NB494_587.out hb; replace BK495 := bU1 BK495.out NB495_587.out hb; replace BK504 := bU1 BK504.out NB504_587.out hb; replace BK531 := bU1 BK531.out NB531_587.out hb; replace BK551 := bU1 BK551.out NB551_587.out hb; replace BK560 := bU1 BK560.out NB560_587.out hb; replace BK569 := bU1 BK569.out NB569_587.out hb; replace BK578 := bU1 BK578.out NB578_587.out hb; replace BK587 := aM (blk_below (g := gb587) (o := .cells #[.bool t579, .slice Ao249 t580.length co249, .slice Ao250 t583.length co250] 25 (0, 0)) (dP BK587.out) hb); replace HB := hS HB.out hb; (try clear hb); have hnb279 := NB569_493.out; have hnc279 := NB493_569.out; have hnb280 := NB569_494.out; have hnc280 := NB494_569.out; have hnb281 := NB569_495.out; have hnc281 := NB495_569.out; have hnb282 := NB569_504.out; have hnc282 := NB504_569.out; have hnb283 := NB569_531.out; have hnc283 := NB531_569.out; have hnb284 := NB569_578.out; have hnc284 := NB578_569.out; have hnb285 := NB569_587.out; have hnc285 := NB587_569.out; obtain ⟨hcz286_0, hcz286_1, hcz286_2⟩ := cz3 BK569.out; obtain ⟨hfz286_0, hfz286_1, hfz286_2⟩ := fz3 BK569.out; have hnb287 := NB587_493.out; have hnc287 := NB493_587.out; have hnb288 := NB587_494.out; have hnc288 := NB494_587.out; have hnb289 := NB587_495.out; have hnc289 := NB495_587.out; have hnb290 := NB587_504.out; have hnc290 := NB504_587.out; have hnb291 := NB587_531.out; have hnc291 := NB531_587.out; have hnb292 := NB587_578.out; have hnc292 := NB578_587.out; obtain ⟨hcz293_0, hcz293_1, hcz293_2⟩ := cz3 BK587.out; obtain ⟨hfz293_0, hfz293_1, hfz293_2⟩ := fz3 BK587.out) | (go_at_call 8; (with_reducible refine (plumblaw05_one.calls kj10 t561 _ _ t562 _ _ t565 t579 _ _ t580 _ _ t583 t589 _ ?side1 (Kd.R_reads' HO564.out).2.1 ?side3 (Kd.R_reads' HO567.out).2.1 ?side5 (Kd.R_reads' HO582.out).2.1 ?side7 (Kd.R_reads' HO585.out).2.1 A258.out).mono ?_); (case side1 => exact dC (Kd.R_reads' HO564.out).2.2); (case side3 => exact dC (Kd.R_reads' HO567.out).2.2); (case side5 => exact dC (Kd.R_reads' HO582.out).2.2); (case side7 => exact dC (Kd.R_reads' HO585.out).2.2); rintro e w294 ⟨rfl, hb⟩; replace HO_494001 := oB HO_494001.out hb; replace HO_494002 := oB HO_494002.out hb; replace HO_495001 := oB HO_495001.out hb; replace HO_495002 := oB HO_495002.out hb; replace HO_496001 := oB HO_496001.out hb; replace HO_496002 := oB HO_496002.out hb; replace HO_505001 := oB HO_505001.out hb; replace HO_505002 := oB HO_505002.out hb; replace HO_532001 := oB HO_532001.out hb; replace HO_532002 := oB HO_532002.out hb; replace HO546 := oB HO546.out hb; replace HO549 := oB HO549.out hb; replace HO555 := oB HO555.out hb; replace HO558 := oB HO558.out hb; replace HO564 := oB HO564.out hb; replace HO567 := oB HO567.out hb; replace HO573 := oB HO573.out hb; replace HO576 := oB HO576.out hb; replace HO582 := oB HO582.out hb; replace HO585 := oB HO585.out hb; replace BK493 := bB BK493.out hb; replace BK494 := bB BK494.out hb; replace BK495 := bB BK495.out hb; replace BK504 := bB BK504.out hb; replace BK531 := bB BK531.out hb; replace BK551 := bB BK551.out hb; replace BK560 := bB BK560.out hb; replace BK569 := bB BK569.out hb; replace BK578 := bB BK578.out hb; replace BK587 := bB BK587.out hb; replace HB := hS HB.out hb; (try clear hb)))
    go_meet
    case rel => exact ⟨_, (!t589), dF, H', ⟨by have := HJ10.out; first | omega | exact Nat.le_refl _⟩, ⟨oS HO_494001.out⟩, ⟨oS HO_494002.out⟩, ⟨oS HO_495001.out⟩, ⟨oS HO_495002.out⟩, ⟨oS HO_496001.out⟩, ⟨oS HO_496002.out⟩, ⟨oS HO_505001.out⟩, ⟨oS HO_505002.out⟩, ⟨oS HO_532001.out⟩, ⟨oS HO_532002.out⟩, ⟨oS HO546.out⟩, ⟨oS HO549.out⟩, ⟨dK BK493.out⟩, ⟨dK BK494.out⟩, ⟨dK BK495.out⟩, ⟨dK BK504.out⟩, ⟨dK BK531.out⟩, ⟨dK BK551.out⟩, ⟨eB⟩⟩
   case rest =>
    as_aux_lemma =>
    clear HC172
    try clear HO_494001 HO_494002 HO_495001 HO_495002 HO_496001 HO_496002
    try clear HO_505001 HO_505002 HO_532001 HO_532002 BK493 BK494
    try clear BK495 BK504 BK531 A167 A168 A169
    try clear A170 A171 HO546 HO549 BK551 HO555
    try clear HO558 BK560 GW560 GE560 NB493_560 NB560_493
    try clear NB494_560 NB560_494 NB495_560 NB560_495 NB504_560 NB560_504
    try clear NB531_560 NB560_531 NB551_560 NB560_551 HO564 HO567
    try clear BK569 GW569 GE569 NB493_569 NB569_493 NB494_569
    try clear NB569_494 NB495_569 NB569_495 NB504_569 NB569_504 NB531_569
    try clear NB569_531 NB551_569 NB569_551 NB560_569 NB569_560 HO573
    try clear HO576 BK578 GW578 GE578 NB493_578 NB578_493
    try clear NB494_578 NB578_494 NB495_578 NB578_495 NB504_578 NB578_504
    try clear NB531_578 NB578_531 NB551_578 NB578_551 NB560_578 NB578_560
    try clear NB569_578 NB578_569 HO582 HO585 BK587 GW587
    try clear GE587 NB493_587 NB587_493 NB494_587 NB587_494 NB495_587
    try clear NB587_495 NB504_587 NB587_504 NB531_587 NB587_531 NB551_587
    try clear NB587_551 NB560_587 NB587_560 NB569_587 NB587_569 NB578_587
    try clear NB587_578
    try clear c5
    try clear c166
    try clear hcz102_0 hcz102_1 hcz102_2
    try clear hcz115_0 hcz115_1 hcz115_2
    try clear hcz177_0 hcz177_1 hcz177_2
    try clear hcz17_0 hcz17_1 hcz17_2
    try clear hcz181_0 hcz181_1 hcz181_2
    try clear hcz189_0 hcz189_1 hcz189_2
    try clear hcz192_0 hcz192_1 hcz192_2
    try clear hcz193_0 hcz193_1 hcz193_2
    try clear hcz19_0 hcz19_1 hcz19_2
    try clear hcz202_0 hcz202_1 hcz202_2
    try clear hcz205_0 hcz205_1 hcz205_2
    try clear hcz208_0 hcz208_1 hcz208_2
    try clear hcz20_0 hcz20_1 hcz20_2
    try clear hcz218_0 hcz218_1 hcz218_2
    try clear hcz221_0 hcz221_1 hcz221_2
    try clear hcz222_0 hcz222_1 hcz222_2
    try clear hcz233_0 hcz233_1 hcz233_2
    try clear hcz236_0 hcz236_1 hcz236_2
    try clear hcz248_0 hcz248_1 hcz248_2
    try clear hcz30_0 hcz30_1 hcz30_2
    try clear hcz37_0 hcz37_1 hcz37_2
    try clear hcz43_0 hcz43_1 hcz43_2
    try clear hcz54_0 hcz54_1 hcz54_2
    try clear hcz57_0 hcz57_1 hcz57_2
    try clear hcz58_0 hcz58_1 hcz58_2
    try clear hcz68_0 hcz68_1 hcz68_2
    try clear hcz71_0 hcz71_1 hcz71_2
    try clear hcz72_0 hcz72_1 hcz72_2
    try clear hcz83_0 hcz83_1 hcz83_2
    try clear hcz86_0 hcz86_1 hcz86_2
    try clear hcz87_0 hcz87_1 hcz87_2
    try clear hcz99_0 hcz99_1 hcz99_2
    try clear hfz102_0 hfz102_1 hfz102_2
    try clear hfz115_0 hfz115_1 hfz115_2
    try clear hfz177_0 hfz177_1 hfz177_2
    try clear hfz17_0 hfz17_1 hfz17_2
    try clear hfz181_0 hfz181_1 hfz181_2
    try clear hfz189_0 hfz189_1 hfz189_2
    try clear hfz192_0 hfz192_1 hfz192_2
    try clear hfz193_0 hfz193_1 hfz193_2
    try clear hfz19_0 hfz19_1 hfz19_2
    try clear hfz202_0 hfz202_1 hfz202_2
    try clear hfz205_0 hfz205_1 hfz205_2
    try clear hfz208_0 hfz208_1 hfz208_2
    try clear hfz20_0 hfz20_1 hfz20_2
    try clear hfz218_0 hfz218_1 hfz218_2
    try clear hfz221_0 hfz221_1 hfz221_2
    try clear hfz222_0 hfz222_1 hfz222_2
    try clear hfz233_0 hfz233_1 hfz233_2
    try clear hfz236_0 hfz236_1 hfz236_2
    try clear hfz248_0 hfz248_1 hfz248_2
    try clear hfz30_0 hfz30_1 hfz30_2
    try clear hfz37_0 hfz37_1 hfz37_2
    try clear hfz43_0 hfz43_1 hfz43_2
    try clear hfz54_0 hfz54_1 hfz54_2
    try clear hfz57_0 hfz57_1 hfz57_2
    try clear hfz58_0 hfz58_1 hfz58_2
    try clear hfz68_0 hfz68_1 hfz68_2
    try clear hfz71_0 hfz71_1 hfz71_2
    try clear hfz72_0 hfz72_1 hfz72_2
    try clear hfz83_0 hfz83_1 hfz83_2
    try clear hfz86_0 hfz86_1 hfz86_2
    try clear hfz87_0 hfz87_1 hfz87_2
    try clear hfz99_0 hfz99_1 hfz99_2
    obtain ⟨kq, x167_171, rfl, HA, HJ171, HO_494001, HO_494002, HO_495001, HO_495002, HO_496001, HO_496002, HO_505001, HO_505002, HO_532001, HO_532002, HO_552001, HO_552002, BK493, BK494, BK495, BK504, BK531, BK551, HB⟩ := hcut
    cases kq with
    | zero => exact absurd HA.out (by simp [plumblaw05_RatField.j1])
    | succ kj171 =>
     have H := HA.out
     clear HA
     simp only [plumblaw05_RatField.j1] at H
     replace H := nR H
     obtain ⟨rfl, H⟩ := H
     (try dsimp only at H)
     replace H := oA H
     obtain ⟨⟨t590, t591, t594, t597⟩, A296, H⟩ := H
     (try dsimp only at H)
     replace H := oA H
     obtain ⟨⟨t599, t600, t603, t606⟩, A297, H⟩ := H
     (try dsimp only at H)
     replace H := oA H
     obtain ⟨⟨t608, t609, t612, t615⟩, A298, H⟩ := H
     (try dsimp only at H)
     replace H := oA H
     obtain ⟨⟨t617, t618, t621, t624⟩, A299, H⟩ := H
     (try dsimp only at H)
     replace H := oA H
     obtain ⟨⟨t626, t627, t630, t633⟩, A300, H⟩ := H
     (try dsimp only at H)
     have HC301 := aM H
     clear H
     have hnb302 := NB493_494.out
     have hnc302 := NB494_493.out
     have hnb303 := NB493_495.out
     have hnc303 := NB495_493.out
     have hnb304 := NB493_504.out
     have hnc304 := NB504_493.out
     have hnb305 := NB493_531.out
     have hnc305 := NB531_493.out
     have hnb306 := NB493_551.out
     have hnc306 := NB551_493.out
     obtain ⟨hcz307_0, hcz307_1, hcz307_2⟩ := cz3 BK493.out
     obtain ⟨hfz307_0, hfz307_1, hfz307_2⟩ := fz3 BK493.out
     have hnb308 := NB531_494.out
     have hnc308 := NB494_531.out
     have hnb309 := NB531_495.out
     have hnc309 := NB495_531.out
     have hnb310 := NB531_504.out
     have hnc310 := NB504_531.out
     have hnb311 := NB531_551.out
     have hnc311 := NB551_531.out
     obtain ⟨hcz312_0, hcz312_1, hcz312_2⟩ := cz3 BK531.out
     obtain ⟨hfz312_0, hfz312_1, hfz312_2⟩ := fz3 BK531.out
     go_upto_region 23 with (first | ((with_reducible refine gate_callee (f := 9) rfl ?_); refine gL (some 171) Try.func9 #[.agg #[.bool t471, .slice Ao31 t472.length co31, .slice Ao32 t475.length co32], .agg #[.bool t523, .slice Ao100 t524.length co100, .slice Ao101 t527.length co101]] ?_; (with_reducible refine (plumblaw05_mul.calls kj171 t471 _ _ t472 _ _ t475 t523 _ _ t524 _ _ t527 t590 t591 t594 t597 _ ?side1 (Kd.R_reads' HO_494001.out).2.1 ?side3 (Kd.R_reads' HO_494002.out).2.1 ?side5 (Kd.R_reads' HO_532001.out).2.1 ?side7 (Kd.R_reads' HO_532002.out).2.1 A296.out).mono ?_); (case side1 => exact dC (Kd.R_reads' HO_494001.out).2.2); (case side3 => exact dC (Kd.R_reads' HO_494002.out).2.2); (case side5 => exact dC (Kd.R_reads' HO_532001.out).2.2); (case side7 => exact dC (Kd.R_reads' HO_532002.out).2.2); rintro e w313 ⟨v592, v595, rfl, ho0, ho1, hb⟩; refine ⟨_, rfl, ?_⟩; have HO593 := aM (Kd.R_lower (nW (nW (nW (nW (nW (nW (nW (nW (nW (nW (nW (nW ho0 HO_494001.out) HO_494002.out) HO_495001.out) HO_495002.out) HO_496001.out) HO_496002.out) HO_505001.out) HO_505002.out) HO_532001.out) HO_532002.out) HO_552001.out) HO_552002.out) (below_size eB)); have HO596 := aM (Kd.R_lower (nW (nW (nW (nW (nW (nW (nW (nW (nW (nW (nW (nW ho1 HO_494001.out) HO_494002.out) HO_495001.out) HO_495002.out) HO_496001.out) HO_496002.out) HO_505001.out) HO_505002.out) HO_532001.out) HO_532002.out) HO_552001.out) HO_552002.out) (below_size eB)); replace HO_494001 := tT HO_494001.out hb ho0 ho1; replace HO_494002 := tT HO_494002.out hb ho0 ho1; replace HO_495001 := tT HO_495001.out hb ho0 ho1; replace HO_495002 := tT HO_495002.out hb ho0 ho1; replace HO_496001 := tT HO_496001.out hb ho0 ho1; replace HO_496002 := tT HO_496002.out hb ho0 ho1; replace HO_505001 := tT HO_505001.out hb ho0 ho1; replace HO_505002 := tT HO_505002.out hb ho0 ho1; replace HO_532001 := tT HO_532001.out hb ho0 ho1; replace HO_532002 := tT HO_532002.out hb ho0 ho1; replace HO_552001 := tT HO_552001.out hb ho0 ho1; replace HO_552002 := tT HO_552002.out hb ho0 ho1; replace BK493 := bB BK493.out hb; replace BK494 := bB BK494.out hb; replace BK495 := bB BK495.out hb; replace BK504 := bB BK504.out hb; replace BK531 := bB BK531.out hb; replace BK551 := bB BK551.out hb; replace HB := hS HB.out hb; (try clear hb); (try clear ho0); (try clear ho1)) | ((with_reducible refine gate_dst (N := 26) rfl ?_); refine bE 26 #[.bool false, .slice none 0 0, .slice none 0 0] 25 ?_; intro gb598 hg w314 hbox hb; replace HO_494001 := oB HO_494001.out hb; replace HO_494002 := oB HO_494002.out hb; replace HO_495001 := oB HO_495001.out hb; replace HO_495002 := oB HO_495002.out hb; replace HO_496001 := oB HO_496001.out hb; replace HO_496002 := oB HO_496002.out hb; replace HO_505001 := oB HO_505001.out hb; replace HO_505002 := oB HO_505002.out hb; replace HO_532001 := oB HO_532001.out hb; replace HO_532002 := oB HO_532002.out hb; replace HO_552001 := oB HO_552001.out hb; replace HO_552002 := oB HO_552002.out hb; replace HO593 := oB HO593.out hb; replace HO596 := oB HO596.out hb; have BK598 := aM (hbox); have GW598 : Aside0 (w.heap.size ≤ gb598) := gE hg; have GE598 : Aside0 (w.heap.size ≤ gb598) := gE hg; replace HB := hS HB.out hb; have NB493_598 := nL hg BK493.out; have NB598_493 := nG hg BK493.out; replace BK493 := bB BK493.out hb; have NB494_598 := nL hg BK494.out; have NB598_494 := nG hg BK494.out; replace BK494 := bB BK494.out hb; have NB495_598 := nL hg BK495.out; have NB598_495 := nG hg BK495.out; replace BK495 := bB BK495.out hb; have NB504_598 := nL hg BK504.out; have NB598_504 := nG hg BK504.out; replace BK504 := bB BK504.out hb; have NB531_598 := nL hg BK531.out; have NB598_531 := nG hg BK531.out; replace BK531 := bB BK531.out hb; have NB551_598 := nL hg BK551.out; have NB598_551 := nG hg BK551.out; replace BK551 := bB BK551.out hb; clear hb hbox hg; have hnb315 := NB598_493.out; have hnc315 := NB493_598.out; have hnb316 := NB598_494.out; have hnc316 := NB494_598.out; have hnb317 := NB598_495.out; have hnc317 := NB495_598.out; have hnb318 := NB598_504.out; have hnc318 := NB504_598.out; have hnb319 := NB598_531.out; have hnc319 := NB531_598.out; have hnb320 := NB598_551.out; have hnc320 := NB551_598.out; obtain ⟨hcz321_0, hcz321_1, hcz321_2⟩ := cz3 BK598.out; obtain ⟨hfz321_0, hfz321_1, hfz321_2⟩ := fz3 BK598.out; obtain ⟨Ao322, co322, rfl⟩ := Kd.R_slice HO593.out; obtain ⟨Ao323, co323, rfl⟩ := Kd.R_slice HO596.out; obtain ⟨hcz324_0, hcz324_1, hcz324_2⟩ := cz3 BK493.out; obtain ⟨hfz324_0, hfz324_1, hfz324_2⟩ := fz3 BK493.out; have hnb325 := NB495_494.out; have hnc325 := NB494_495.out; have hnb326 := NB495_504.out; have hnc326 := NB504_495.out; have hnb327 := NB495_551.out; have hnc327 := NB551_495.out; obtain ⟨hcz328_0, hcz328_1, hcz328_2⟩ := cz3 BK495.out; obtain ⟨hfz328_0, hfz328_1, hfz328_2⟩ := fz3 BK495.out) | ((with_reducible refine gate_callee (f := 9) rfl ?_); refine gL (some 177) Try.func9 #[.agg #[.bool t471, .slice Ao31 t472.length co31, .slice Ao32 t475.length co32], .agg #[.bool t485, .slice Ao44 t486.length co44, .slice Ao45 t489.length co45]] ?_; (with_reducible refine (plumblaw05_mul.calls kj171 t471 _ _ t472 _ _ t475 t485 _ _ t486 _ _ t489 t599 t600 t603 t606 _ ?side1 (Kd.R_reads' HO_494001.out).2.1 ?side3 (Kd.R_reads' HO_494002.out).2.1 ?side5 ?side6 ?side7 ?side8 A297.out).mono ?_); (case side1 => refine (Kd.R_reads' (e := 44) (base := w.heap.size) (ok := fun k_ => (((oN Ao32 t475 co32 k_ ∧ (oN Ao38 t479 co38 k_ ∧ (oN Ao39 t482 co39 k_ ∧ (oN Ao44 t486 co44 k_ ∧ (oN Ao45 t489 co45 k_ ∧ (oN Ao55 t497 co55 k_ ∧ (oN Ao56 t500 co56 k_ ∧ (oN Ao100 t524 co100 k_ ∧ (oN Ao101 t527 co101 k_ ∧ (oN Ao190 t544 co190 k_ ∧ oN Ao191 t547 co191 k_)))))))))) ∧ oN Ao322 t591 co322 k_) ∧ oN Ao323 t594 co323 k_)) (n := t472.length) (c := co31) ?_).2.2; exact (oR HO_494001.out BK598.out)); (case side3 => refine (Kd.R_reads' (e := 44) (base := w.heap.size) (ok := fun k_ => (((oN Ao31 t472 co31 k_ ∧ (oN Ao38 t479 co38 k_ ∧ (oN Ao39 t482 co39 k_ ∧ (oN Ao44 t486 co44 k_ ∧ (oN Ao45 t489 co45 k_ ∧ (oN Ao55 t497 co55 k_ ∧ (oN Ao56 t500 co56 k_ ∧ (oN Ao100 t524 co100 k_ ∧ (oN Ao101 t527 co101 k_ ∧ (oN Ao190 t544 co190 k_ ∧ oN Ao191 t547 co191 k_)))))))))) ∧ oN Ao322 t591 co322 k_) ∧ oN Ao323 t594 co323 k_)) (n := t475.length) (c := co32) ?_).2.2; exact (oR HO_494002.out BK598.out)); (case side5 => refine (Kd.R_reads' (e := 44) (base := w.heap.size) (ok := fun k_ => (((oN Ao31 t472 co31 k_ ∧ (oN Ao32 t475 co32 k_ ∧ (oN Ao38 t479 co38 k_ ∧ (oN Ao39 t482 co39 k_ ∧ (oN Ao45 t489 co45 k_ ∧ (oN Ao55 t497 co55 k_ ∧ (oN Ao56 t500 co56 k_ ∧ (oN Ao100 t524 co100 k_ ∧ (oN Ao101 t527 co101 k_ ∧ (oN Ao190 t544 co190 k_ ∧ oN Ao191 t547 co191 k_)))))))))) ∧ oN Ao322 t591 co322 k_) ∧ oN Ao323 t594 co323 k_)) (n := t486.length) (c := co44) ?_).2.2; exact (oR HO_496001.out BK598.out)); (case side6 => exact (Kd.R_reads' HO_496001.out).2.1); (case side7 => refine (Kd.R_reads' (e := 44) (base := w.heap.size) (ok := fun k_ => (((oN Ao31 t472 co31 k_ ∧ (oN Ao32 t475 co32 k_ ∧ (oN Ao38 t479 co38 k_ ∧ (oN Ao39 t482 co39 k_ ∧ (oN Ao44 t486 co44 k_ ∧ (oN Ao55 t497 co55 k_ ∧ (oN Ao56 t500 co56 k_ ∧ (oN Ao100 t524 co100 k_ ∧ (oN Ao101 t527 co101 k_ ∧ (oN Ao190 t544 co190 k_ ∧ oN Ao191 t547 co191 k_)))))))))) ∧ oN Ao322 t591 co322 k_) ∧ oN Ao323 t594 co323 k_)) (n := t489.length) (c := co45) ?_).2.2; exact (oR HO_496002.out BK598.out)); (case side8 => exact (Kd.R_reads' HO_496002.out).2.1); rintro e w329 ⟨v601, v604, rfl, ho0, ho1, hb⟩; refine ⟨_, rfl, ?_⟩; have HO602 := aM (Kd.R_lower (nV (nV (nV (nV (nV (nV (nV (nV (nV (nV (nV (nV (nV (nV ho0 HO_494001.out BK598.out) HO_494002.out BK598.out) HO_495001.out BK598.out) HO_495002.out BK598.out) HO_496001.out BK598.out) HO_496002.out BK598.out) HO_505001.out BK598.out) HO_505002.out BK598.out) HO_532001.out BK598.out) HO_532002.out BK598.out) HO_552001.out BK598.out) HO_552002.out BK598.out) HO593.out BK598.out) HO596.out BK598.out) (below_size eB)); have HO605 := aM (Kd.R_lower (nV (nV (nV (nV (nV (nV (nV (nV (nV (nV (nV (nV (nV (nV ho1 HO_494001.out BK598.out) HO_494002.out BK598.out) HO_495001.out BK598.out) HO_495002.out BK598.out) HO_496001.out BK598.out) HO_496002.out BK598.out) HO_505001.out BK598.out) HO_505002.out BK598.out) HO_532001.out BK598.out) HO_532002.out BK598.out) HO_552001.out BK598.out) HO_552002.out BK598.out) HO593.out BK598.out) HO596.out BK598.out) (below_size eB)); replace HO_494001 := tX HO_494001.out BK598.out hb ho0 ho1; replace HO_494002 := tX HO_494002.out BK598.out hb ho0 ho1; replace HO_495001 := tX HO_495001.out BK598.out hb ho0 ho1; replace HO_495002 := tX HO_495002.out BK598.out hb ho0 ho1; replace HO_496001 := tX HO_496001.out BK598.out hb ho0 ho1; replace HO_496002 := tX HO_496002.out BK598.out hb ho0 ho1; replace HO_505001 := tX HO_505001.out BK598.out hb ho0 ho1; replace HO_505002 := tX HO_505002.out BK598.out hb ho0 ho1; replace HO_532001 := tX HO_532001.out BK598.out hb ho0 ho1; replace HO_532002 := tX HO_532002.out BK598.out hb ho0 ho1; replace HO_552001 := tX HO_552001.out BK598.out hb ho0 ho1; replace HO_552002 := tX HO_552002.out BK598.out hb ho0 ho1; replace HO593 := tX HO593.out BK598.out hb ho0 ho1; replace HO596 := tX HO596.out BK598.out hb ho0 ho1; replace BK493 := bU1 BK493.out NB493_598.out hb; replace BK494 := bU1 BK494.out NB494_598.out hb; replace BK495 := bU1 BK495.out NB495_598.out hb; replace BK504 := bU1 BK504.out NB504_598.out hb; replace BK531 := bU1 BK531.out NB531_598.out hb; replace BK551 := bU1 BK551.out NB551_598.out hb; replace BK598 := aM (blk_below (g := gb598) (o := .cells #[.bool t590, .slice Ao322 t591.length co322, .slice Ao323 t594.length co323] 25 (0, 0)) (dP BK598.out) hb); replace HB := hS HB.out hb; (try clear hb); (try clear ho0); (try clear ho1)) | ((with_reducible refine gate_dst (N := 27) rfl ?_); refine bE 27 #[.bool false, .slice none 0 0, .slice none 0 0] 25 ?_; intro gb607 hg w330 hbox hb; replace HO_494001 := oB HO_494001.out hb; replace HO_494002 := oB HO_494002.out hb; replace HO_495001 := oB HO_495001.out hb; replace HO_495002 := oB HO_495002.out hb; replace HO_496001 := oB HO_496001.out hb; replace HO_496002 := oB HO_496002.out hb; replace HO_505001 := oB HO_505001.out hb; replace HO_505002 := oB HO_505002.out hb; replace HO_532001 := oB HO_532001.out hb; replace HO_532002 := oB HO_532002.out hb; replace HO_552001 := oB HO_552001.out hb; replace HO_552002 := oB HO_552002.out hb; replace HO593 := oB HO593.out hb; replace HO596 := oB HO596.out hb; replace HO602 := oB HO602.out hb; replace HO605 := oB HO605.out hb; have BK607 := aM (hbox); have GW607 : Aside0 (w.heap.size ≤ gb607) := gE hg; have GE607 : Aside0 (w.heap.size ≤ gb607) := gE hg; replace HB := hS HB.out hb; have NB493_607 := nL hg BK493.out; have NB607_493 := nG hg BK493.out; replace BK493 := bB BK493.out hb; have NB494_607 := nL hg BK494.out; have NB607_494 := nG hg BK494.out; replace BK494 := bB BK494.out hb; have NB495_607 := nL hg BK495.out; have NB607_495 := nG hg BK495.out; replace BK495 := bB BK495.out hb; have NB504_607 := nL hg BK504.out; have NB607_504 := nG hg BK504.out; replace BK504 := bB BK504.out hb; have NB531_607 := nL hg BK531.out; have NB607_531 := nG hg BK531.out; replace BK531 := bB BK531.out hb; have NB551_607 := nL hg BK551.out; have NB607_551 := nG hg BK551.out; replace BK551 := bB BK551.out hb; have NB598_607 := nL hg BK598.out; have NB607_598 := nG hg BK598.out; replace BK598 := bB BK598.out hb; clear hb hbox hg; have hnb331 := NB607_493.out; have hnc331 := NB493_607.out; have hnb332 := NB607_494.out; have hnc332 := NB494_607.out; have hnb333 := NB607_495.out; have hnc333 := NB495_607.out; have hnb334 := NB607_504.out; have hnc334 := NB504_607.out; have hnb335 := NB607_531.out; have hnc335 := NB531_607.out; have hnb336 := NB607_551.out; have hnc336 := NB551_607.out; have hnb337 := NB607_598.out; have hnc337 := NB598_607.out; obtain ⟨hcz338_0, hcz338_1, hcz338_2⟩ := cz3 BK607.out; obtain ⟨hfz338_0, hfz338_1, hfz338_2⟩ := fz3 BK607.out; obtain ⟨Ao339, co339, rfl⟩ := Kd.R_slice HO602.out; obtain ⟨Ao340, co340, rfl⟩ := Kd.R_slice HO605.out; have hnb341 := NB551_494.out; have hnc341 := NB494_551.out; have hnb342 := NB551_504.out; have hnc342 := NB504_551.out; obtain ⟨hcz343_0, hcz343_1, hcz343_2⟩ := cz3 BK551.out; obtain ⟨hfz343_0, hfz343_1, hfz343_2⟩ := fz3 BK551.out) | ((with_reducible refine gate_callee (f := 7) rfl ?_); refine gL (some 183) Try.func7 #[.agg #[.bool t543, .slice Ao190 t544.length co190, .slice Ao191 t547.length co191], .agg #[.bool t599, .slice Ao339 t600.length co339, .slice Ao340 t603.length co340]] ?_; (with_reducible refine (plumblaw05_add.calls kj171 t543 _ _ t544 _ _ t547 t599 _ _ t600 _ _ t603 t608 t609 t612 t615 _ ?side1 (Kd.R_reads' HO_552001.out).2.1 ?side3 (Kd.R_reads' HO_552002.out).2.1 ?side5 ?side6 ?side7 ?side8 A298.out).mono ?_); (case side1 => refine (Kd.R_reads' (e := 44) (base := w.heap.size) (ok := fun k_ => (((((oN Ao31 t472 co31 k_ ∧ (oN Ao32 t475 co32 k_ ∧ (oN Ao38 t479 co38 k_ ∧ (oN Ao39 t482 co39 k_ ∧ (oN Ao44 t486 co44 k_ ∧ (oN Ao45 t489 co45 k_ ∧ (oN Ao55 t497 co55 k_ ∧ (oN Ao56 t500 co56 k_ ∧ (oN Ao100 t524 co100 k_ ∧ (oN Ao101 t527 co101 k_ ∧ oN Ao191 t547 co191 k_)))))))))) ∧ oN Ao322 t591 co322 k_) ∧ oN Ao323 t594 co323 k_) ∧ oN Ao339 t600 co339 k_) ∧ oN Ao340 t603 co340 k_)) (n := t544.length) (c := co190) ?_).2.2; exact (oR HO_552001.out BK607.out)); (case side3 => refine (Kd.R_reads' (e := 44) (base := w.heap.size) (ok := fun k_ => (((((oN Ao31 t472 co31 k_ ∧ (oN Ao32 t475 co32 k_ ∧ (oN Ao38 t479 co38 k_ ∧ (oN Ao39 t482 co39 k_ ∧ (oN Ao44 t486 co44 k_ ∧ (oN Ao45 t489 co45 k_ ∧ (oN Ao55 t497 co55 k_ ∧ (oN Ao56 t500 co56 k_ ∧ (oN Ao100 t524 co100 k_ ∧ (oN Ao101 t527 co101 k_ ∧ oN Ao190 t544 co190 k_)))))))))) ∧ oN Ao322 t591 co322 k_) ∧ oN Ao323 t594 co323 k_) ∧ oN Ao339 t600 co339 k_) ∧ oN Ao340 t603 co340 k_)) (n := t547.length) (c := co191) ?_).2.2; exact (oR HO_552002.out BK607.out)); (case side5 => refine (Kd.R_reads' (e := 44) (base := w.heap.size) (ok := fun k_ => ((((((((((((((oN Ao340 t603 co340 k_ ∧ oN Ao31 t472 co31 k_) ∧ oN Ao32 t475 co32 k_) ∧ oN Ao38 t479 co38 k_) ∧ oN Ao39 t482 co39 k_) ∧ oN Ao44 t486 co44 k_) ∧ oN Ao45 t489 co45 k_) ∧ oN Ao55 t497 co55 k_) ∧ oN Ao56 t500 co56 k_) ∧ oN Ao100 t524 co100 k_) ∧ oN Ao101 t527 co101 k_) ∧ oN Ao190 t544 co190 k_) ∧ oN Ao191 t547 co191 k_) ∧ oN Ao322 t591 co322 k_) ∧ oN Ao323 t594 co323 k_)) (n := t600.length) (c := co339) ?_).2.2; exact (oR HO602.out BK607.out)); (case side6 => exact (Kd.R_reads' HO602.out).2.1); (case side7 => refine (Kd.R_reads' (e := 44) (base := w.heap.size) (ok := fun k_ => ((((((((((((((oN Ao339 t600 co339 k_ ∧ oN Ao31 t472 co31 k_) ∧ oN Ao32 t475 co32 k_) ∧ oN Ao38 t479 co38 k_) ∧ oN Ao39 t482 co39 k_) ∧ oN Ao44 t486 co44 k_) ∧ oN Ao45 t489 co45 k_) ∧ oN Ao55 t497 co55 k_) ∧ oN Ao56 t500 co56 k_) ∧ oN Ao100 t524 co100 k_) ∧ oN Ao101 t527 co101 k_) ∧ oN Ao190 t544 co190 k_) ∧ oN Ao191 t547 co191 k_) ∧ oN Ao322 t591 co322 k_) ∧ oN Ao323 t594 co323 k_)) (n := t603.length) (c := co340) ?_).2.2; exact (oR HO605.out BK607.out)); (case side8 => exact (Kd.R_reads' HO605.out).2.1); rintro e w344 ⟨v610, v613, rfl, ho0, ho1, hb⟩; refine ⟨_, rfl, ?_⟩; have HO611 := aM (Kd.R_lower (nV (nV (nV (nV (nV (nV (nV (nV (nV (nV (nV (nV (nV (nV (nV (nV ho0 HO_494001.out BK607.out) HO_494002.out BK607.out) HO_495001.out BK607.out) HO_495002.out BK607.out) HO_496001.out BK607.out) HO_496002.out BK607.out) HO_505001.out BK607.out) HO_505002.out BK607.out) HO_532001.out BK607.out) HO_532002.out BK607.out) HO_552001.out BK607.out) HO_552002.out BK607.out) HO593.out BK607.out) HO596.out BK607.out) HO602.out BK607.out) HO605.out BK607.out) (below_size eB)); have HO614 := aM (Kd.R_lower (nV (nV (nV (nV (nV (nV (nV (nV (nV (nV (nV (nV (nV (nV (nV (nV ho1 HO_494001.out BK607.out) HO_494002.out BK607.out) HO_495001.out BK607.out) HO_495002.out BK607.out) HO_496001.out BK607.out) HO_496002.out BK607.out) HO_505001.out BK607.out) HO_505002.out BK607.out) HO_532001.out BK607.out) HO_532002.out BK607.out) HO_552001.out BK607.out) HO_552002.out BK607.out) HO593.out BK607.out) HO596.out BK607.out) HO602.out BK607.out) HO605.out BK607.out) (below_size eB)); replace HO_494001 := tX HO_494001.out BK607.out hb ho0 ho1; replace HO_494002 := tX HO_494002.out BK607.out hb ho0 ho1; replace HO_495001 := tX HO_495001.out BK607.out hb ho0 ho1; replace HO_495002 := tX HO_495002.out BK607.out hb ho0 ho1; replace HO_496001 := tX HO_496001.out BK607.out hb ho0 ho1; replace HO_496002 := tX HO_496002.out BK607.out hb ho0 ho1; replace HO_505001 := tX HO_505001.out BK607.out hb ho0 ho1; replace HO_505002 := tX HO_505002.out BK607.out hb ho0 ho1; replace HO_532001 := tX HO_532001.out BK607.out hb ho0 ho1; replace HO_532002 := tX HO_532002.out BK607.out hb ho0 ho1; replace HO_552001 := tX HO_552001.out BK607.out hb ho0 ho1; replace HO_552002 := tX HO_552002.out BK607.out hb ho0 ho1; replace HO593 := tX HO593.out BK607.out hb ho0 ho1; replace HO596 := tX HO596.out BK607.out hb ho0 ho1; replace HO602 := tX HO602.out BK607.out hb ho0 ho1; replace HO605 := tX HO605.out BK607.out hb ho0 ho1; replace BK493 := bU1 BK493.out NB493_607.out hb; replace BK494 := bU1 BK494.out NB494_607.out hb; replace BK495 := bU1 BK495.out NB495_607.out hb; replace BK504 := bU1 BK504.out NB504_607.out hb; replace BK531 := bU1 BK531.out NB531_607.out hb; replace BK551 := bU1 BK551.out NB551_607.out hb; replace BK598 := bU1 BK598.out NB598_607.out hb; replace BK607 := aM (blk_below (g := gb607) (o := .cells #[.bool t599, .slice Ao339 t600.length co339, .slice Ao340 t603.length co340] 25 (0, 0)) (dP BK607.out) hb); replace HB := hS HB.out hb; (try clear hb); (try clear ho0); (try clear ho1)) | ((with_reducible refine gate_dst (N := 28) rfl ?_); refine bE 28 #[.bool false, .slice none 0 0, .slice none 0 0] 25 ?_; intro gb616 hg w345 hbox hb; replace HO_494001 := oB HO_494001.out hb; replace HO_494002 := oB HO_494002.out hb; replace HO_495001 := oB HO_495001.out hb; replace HO_495002 := oB HO_495002.out hb; replace HO_496001 := oB HO_496001.out hb; replace HO_496002 := oB HO_496002.out hb; replace HO_505001 := oB HO_505001.out hb; replace HO_505002 := oB HO_505002.out hb; replace HO_532001 := oB HO_532001.out hb; replace HO_532002 := oB HO_532002.out hb; replace HO_552001 := oB HO_552001.out hb; replace HO_552002 := oB HO_552002.out hb; replace HO593 := oB HO593.out hb; replace HO596 := oB HO596.out hb; replace HO602 := oB HO602.out hb; replace HO605 := oB HO605.out hb; replace HO611 := oB HO611.out hb; replace HO614 := oB HO614.out hb; have BK616 := aM (hbox); have GW616 : Aside0 (w.heap.size ≤ gb616) := gE hg; have GE616 : Aside0 (w.heap.size ≤ gb616) := gE hg; replace HB := hS HB.out hb; have NB493_616 := nL hg BK493.out; have NB616_493 := nG hg BK493.out; replace BK493 := bB BK493.out hb; have NB494_616 := nL hg BK494.out; have NB616_494 := nG hg BK494.out; replace BK494 := bB BK494.out hb; have NB495_616 := nL hg BK495.out; have NB616_495 := nG hg BK495.out; replace BK495 := bB BK495.out hb; have NB504_616 := nL hg BK504.out; have NB616_504 := nG hg BK504.out; replace BK504 := bB BK504.out hb; have NB531_616 := nL hg BK531.out; have NB616_531 := nG hg BK531.out; replace BK531 := bB BK531.out hb; have NB551_616 := nL hg BK551.out; have NB616_551 := nG hg BK551.out; replace BK551 := bB BK551.out hb; have NB598_616 := nL hg BK598.out; have NB616_598 := nG hg BK598.out; replace BK598 := bB BK598.out hb; have NB607_616 := nL hg BK607.out; have NB616_607 := nG hg BK607.out; replace BK607 := bB BK607.out hb; clear hb hbox hg; have hnb346 := NB616_493.out; have hnc346 := NB493_616.out; have hnb347 := NB616_494.out; have hnc347 := NB494_616.out; have hnb348 := NB616_495.out; have hnc348 := NB495_616.out; have hnb349 := NB616_504.out; have hnc349 := NB504_616.out; have hnb350 := NB616_531.out; have hnc350 := NB531_616.out; have hnb351 := NB616_551.out; have hnc351 := NB551_616.out; have hnb352 := NB616_598.out; have hnc352 := NB598_616.out; have hnb353 := NB616_607.out; have hnc353 := NB607_616.out; obtain ⟨hcz354_0, hcz354_1, hcz354_2⟩ := cz3 BK616.out; obtain ⟨hfz354_0, hfz354_1, hfz354_2⟩ := fz3 BK616.out; obtain ⟨Ao355, co355, rfl⟩ := Kd.R_slice HO611.out; obtain ⟨Ao356, co356, rfl⟩ := Kd.R_slice HO614.out; have hnb357 := NB504_494.out; have hnc357 := NB494_504.out; obtain ⟨hcz358_0, hcz358_1, hcz358_2⟩ := cz3 BK504.out; obtain ⟨hfz358_0, hfz358_1, hfz358_2⟩ := fz3 BK504.out; obtain ⟨hcz359_0, hcz359_1, hcz359_2⟩ := cz3 BK494.out; obtain ⟨hfz359_0, hfz359_1, hfz359_2⟩ := fz3 BK494.out) | ((with_reducible refine gate_callee (f := 10) rfl ?_); refine gL (some 189) Try.func10 #[.agg #[.bool t496, .slice Ao55 t497.length co55, .slice Ao56 t500.length co56], .agg #[.bool t478, .slice Ao38 t479.length co38, .slice Ao39 t482.length co39]] ?_; (with_reducible refine (plumblaw05_sub.calls kj171 t496 _ _ t497 _ _ t500 t478 _ _ t479 _ _ t482 t617 t618 t621 t624 _ ?side1 (Kd.R_reads' HO_505001.out).2.1 ?side3 (Kd.R_reads' HO_505002.out).2.1 ?side5 ?side6 ?side7 ?side8 A299.out).mono ?_); (case side1 => refine (Kd.R_reads' (e := 44) (base := w.heap.size) (ok := fun k_ => (((((((oN Ao31 t472 co31 k_ ∧ (oN Ao32 t475 co32 k_ ∧ (oN Ao38 t479 co38 k_ ∧ (oN Ao39 t482 co39 k_ ∧ (oN Ao44 t486 co44 k_ ∧ (oN Ao45 t489 co45 k_ ∧ (oN Ao56 t500 co56 k_ ∧ (oN Ao100 t524 co100 k_ ∧ (oN Ao101 t527 co101 k_ ∧ (oN Ao190 t544 co190 k_ ∧ oN Ao191 t547 co191 k_)))))))))) ∧ oN Ao322 t591 co322 k_) ∧ oN Ao323 t594 co323 k_) ∧ oN Ao339 t600 co339 k_) ∧ oN Ao340 t603 co340 k_) ∧ oN Ao355 t609 co355 k_) ∧ oN Ao356 t612 co356 k_)) (n := t497.length) (c := co55) ?_).2.2; exact (oR HO_505001.out BK616.out)); (case side3 => refine (Kd.R_reads' (e := 44) (base := w.heap.size) (ok := fun k_ => (((((((oN Ao31 t472 co31 k_ ∧ (oN Ao32 t475 co32 k_ ∧ (oN Ao38 t479 co38 k_ ∧ (oN Ao39 t482 co39 k_ ∧ (oN Ao44 t486 co44 k_ ∧ (oN Ao45 t489 co45 k_ ∧ (oN Ao55 t497 co55 k_ ∧ (oN Ao100 t524 co100 k_ ∧ (oN Ao101 t527 co101 k_ ∧ (oN Ao190 t544 co190 k_ ∧ oN Ao191 t547 co191 k_)))))))))) ∧ oN Ao322 t591 co322 k_) ∧ oN Ao323 t594 co323 k_) ∧ oN Ao339 t600 co339 k_) ∧ oN Ao340 t603 co340 k_) ∧ oN Ao355 t609 co355 k_) ∧ oN Ao356 t612 co356 k_)) (n := t500.length) (c := co56) ?_).2.2; exact (oR HO_505002.out BK616.out)); (case side5 => refine (Kd.R_reads' (e := 44) (base := w.heap.size) (ok := fun k_ => (((((((oN Ao31 t472 co31 k_ ∧ (oN Ao32 t475 co32 k_ ∧ (oN Ao39 t482 co39 k_ ∧ (oN Ao44 t486 co44 k_ ∧ (oN Ao45 t489 co45 k_ ∧ (oN Ao55 t497 co55 k_ ∧ (oN Ao56 t500 co56 k_ ∧ (oN Ao100 t524 co100 k_ ∧ (oN Ao101 t527 co101 k_ ∧ (oN Ao190 t544 co190 k_ ∧ oN Ao191 t547 co191 k_)))))))))) ∧ oN Ao322 t591 co322 k_) ∧ oN Ao323 t594 co323 k_) ∧ oN Ao339 t600 co339 k_) ∧ oN Ao340 t603 co340 k_) ∧ oN Ao355 t609 co355 k_) ∧ oN Ao356 t612 co356 k_)) (n := t479.length) (c := co38) ?_).2.2; exact (oR HO_495001.out BK616.out)); (case side6 => exact (Kd.R_reads' HO_495001.out).2.1); (case side7 => refine (Kd.R_reads' (e := 44) (base := w.heap.size) (ok := fun k_ => (((((((oN Ao31 t472 co31 k_ ∧ (oN Ao32 t475 co32 k_ ∧ (oN Ao38 t479 co38 k_ ∧ (oN Ao44 t486 co44 k_ ∧ (oN Ao45 t489 co45 k_ ∧ (oN Ao55 t497 co55 k_ ∧ (oN Ao56 t500 co56 k_ ∧ (oN Ao100 t524 co100 k_ ∧ (oN Ao101 t527 co101 k_ ∧ (oN Ao190 t544 co190 k_ ∧ oN Ao191 t547 co191 k_)))))))))) ∧ oN Ao322 t591 co322 k_) ∧ oN Ao323 t594 co323 k_) ∧ oN Ao339 t600 co339 k_) ∧ oN Ao340 t603 co340 k_) ∧ oN Ao355 t609 co355 k_) ∧ oN Ao356 t612 co356 k_)) (n := t482.length) (c := co39) ?_).2.2; exact (oR HO_495002.out BK616.out)); (case side8 => exact (Kd.R_reads' HO_495002.out).2.1); rintro e w360 ⟨v619, v622, rfl, ho0, ho1, hb⟩; refine ⟨_, rfl, ?_⟩; have HO620 := aM (Kd.R_lower (nV (nV (nV (nV (nV (nV (nV (nV (nV (nV (nV (nV (nV (nV (nV (nV (nV (nV ho0 HO_494001.out BK616.out) HO_494002.out BK616.out) HO_495001.out BK616.out) HO_495002.out BK616.out) HO_496001.out BK616.out) HO_496002.out BK616.out) HO_505001.out BK616.out) HO_505002.out BK616.out) HO_532001.out BK616.out) HO_532002.out BK616.out) HO_552001.out BK616.out) HO_552002.out BK616.out) HO593.out BK616.out) HO596.out BK616.out) HO602.out BK616.out) HO605.out BK616.out) HO611.out BK616.out) HO614.out BK616.out) (below_size eB)); have HO623 := aM (Kd.R_lower (nV (nV (nV (nV (nV (nV (nV (nV (nV (nV (nV (nV (nV (nV (nV (nV (nV (nV ho1 HO_494001.out BK616.out) HO_494002.out BK616.out) HO_495001.out BK616.out) HO_495002.out BK616.out) HO_496001.out BK616.out) HO_496002.out BK616.out) HO_505001.out BK616.out) HO_505002.out BK616.out) HO_532001.out BK616.out) HO_532002.out BK616.out) HO_552001.out BK616.out) HO_552002.out BK616.out) HO593.out BK616.out) HO596.out BK616.out) HO602.out BK616.out) HO605.out BK616.out) HO611.out BK616.out) HO614.out BK616.out) (below_size eB)); replace HO_494001 := tX HO_494001.out BK616.out hb ho0 ho1; replace HO_494002 := tX HO_494002.out BK616.out hb ho0 ho1; replace HO_495001 := tX HO_495001.out BK616.out hb ho0 ho1; replace HO_495002 := tX HO_495002.out BK616.out hb ho0 ho1; replace HO_496001 := tX HO_496001.out BK616.out hb ho0 ho1; replace HO_496002 := tX HO_496002.out BK616.out hb ho0 ho1; replace HO_505001 := tX HO_505001.out BK616.out hb ho0 ho1; replace HO_505002 := tX HO_505002.out BK616.out hb ho0 ho1; replace HO_532001 := tX HO_532001.out BK616.out hb ho0 ho1; replace HO_532002 := tX HO_532002.out BK616.out hb ho0 ho1; replace HO_552001 := tX HO_552001.out BK616.out hb ho0 ho1; replace HO_552002 := tX HO_552002.out BK616.out hb ho0 ho1; replace HO593 := tX HO593.out BK616.out hb ho0 ho1; replace HO596 := tX HO596.out BK616.out hb ho0 ho1; replace HO602 := tX HO602.out BK616.out hb ho0 ho1; replace HO605 := tX HO605.out BK616.out hb ho0 ho1; replace HO611 := tX HO611.out BK616.out hb ho0 ho1; replace HO614 := tX HO614.out BK616.out hb ho0 ho1; replace BK493 := bU1 BK493.out NB493_616.out hb; replace BK494 := bU1 BK494.out NB494_616.out hb; replace BK495 := bU1 BK495.out NB495_616.out hb; replace BK504 := bU1 BK504.out NB504_616.out hb; replace BK531 := bU1 BK531.out NB531_616.out hb; replace BK551 := bU1 BK551.out NB551_616.out hb; replace BK598 := bU1 BK598.out NB598_616.out hb; replace BK607 := bU1 BK607.out NB607_616.out hb; replace BK616 := aM (blk_below (g := gb616) (o := .cells #[.bool t608, .slice Ao355 t609.length co355, .slice Ao356 t612.length co356] 25 (0, 0)) (dP BK616.out) hb); replace HB := hS HB.out hb; (try clear hb); (try clear ho0); (try clear ho1)) | ((with_reducible refine gate_dst (N := 29) rfl ?_); refine bE 29 #[.bool false, .slice none 0 0, .slice none 0 0] 25 ?_; intro gb625 hg w361 hbox hb; replace HO_494001 := oB HO_494001.out hb; replace HO_494002 := oB HO_494002.out hb; replace HO_495001 := oB HO_495001.out hb; replace HO_495002 := oB HO_495002.out hb; replace HO_496001 := oB HO_496001.out hb; replace HO_496002 := oB HO_496002.out hb; replace HO_505001 := oB HO_505001.out hb; replace HO_505002 := oB HO_505002.out hb; replace HO_532001 := oB HO_532001.out hb; replace HO_532002 := oB HO_532002.out hb; replace HO_552001 := oB HO_552001.out hb; replace HO_552002 := oB HO_552002.out hb; replace HO593 := oB HO593.out hb; replace HO596 := oB HO596.out hb; replace HO602 := oB HO602.out hb; replace HO605 := oB HO605.out hb; replace HO611 := oB HO611.out hb; replace HO614 := oB HO614.out hb; replace HO620 := oB HO620.out hb; replace HO623 := oB HO623.out hb; have BK625 := aM (hbox); have GW625 : Aside0 (w.heap.size ≤ gb625) := gE hg; have GE625 : Aside0 (w.heap.size ≤ gb625) := gE hg; replace HB := hS HB.out hb; have NB493_625 := nL hg BK493.out; have NB625_493 := nG hg BK493.out; replace BK493 := bB BK493.out hb; have NB494_625 := nL hg BK494.out; have NB625_494 := nG hg BK494.out; replace BK494 := bB BK494.out hb; have NB495_625 := nL hg BK495.out; have NB625_495 := nG hg BK495.out; replace BK495 := bB BK495.out hb; have NB504_625 := nL hg BK504.out; have NB625_504 := nG hg BK504.out; replace BK504 := bB BK504.out hb; have NB531_625 := nL hg BK531.out; have NB625_531 := nG hg BK531.out; replace BK531 := bB BK531.out hb; have NB551_625 := nL hg BK551.out; have NB625_551 := nG hg BK551.out; replace BK551 := bB BK551.out hb; have NB598_625 := nL hg BK598.out; have NB625_598 := nG hg BK598.out; replace BK598 := bB BK598.out hb; have NB607_625 := nL hg BK607.out; have NB625_607 := nG hg BK607.out; replace BK607 := bB BK607.out hb; have NB616_625 := nL hg BK616.out; have NB625_616 := nG hg BK616.out; replace BK616 := bB BK616.out hb; clear hb hbox hg; have hnb362 := NB625_493.out; have hnc362 := NB493_625.out; have hnb363 := NB625_494.out; have hnc363 := NB494_625.out; have hnb364 := NB625_495.out; have hnc364 := NB495_625.out; have hnb365 := NB625_504.out; have hnc365 := NB504_625.out; have hnb366 := NB625_531.out; have hnc366 := NB531_625.out; have hnb367 := NB625_551.out; have hnc367 := NB551_625.out; have hnb368 := NB625_598.out; have hnc368 := NB598_625.out; have hnb369 := NB625_607.out; have hnc369 := NB607_625.out; have hnb370 := NB625_616.out; have hnc370 := NB616_625.out; obtain ⟨hcz371_0, hcz371_1, hcz371_2⟩ := cz3 BK625.out; obtain ⟨hfz371_0, hfz371_1, hfz371_2⟩ := fz3 BK625.out; obtain ⟨Ao372, co372, rfl⟩ := Kd.R_slice HO620.out; obtain ⟨Ao373, co373, rfl⟩ := Kd.R_slice HO623.out; obtain ⟨hcz374_0, hcz374_1, hcz374_2⟩ := cz3 BK493.out; obtain ⟨hfz374_0, hfz374_1, hfz374_2⟩ := fz3 BK493.out) | ((with_reducible refine gate_callee (f := 10) rfl ?_); refine gL (some 195) Try.func10 #[.agg #[.bool t471, .slice Ao31 t472.length co31, .slice Ao32 t475.length co32], .agg #[.bool t471, .slice Ao31 t472.length co31, .slice Ao32 t475.length co32]] ?_; (with_reducible refine (plumblaw05_sub.calls kj171 t471 _ _ t472 _ _ t475 t471 _ _ t472 _ _ t475 t626 t627 t630 t633 _ ?side1 (Kd.R_reads' HO_494001.out).2.1 ?side3 ?side4 ?side5 ?side6 ?side7 ?side8 A300.out).mono ?_); (case side1 => refine (Kd.R_reads' (e := 44) (base := w.heap.size) (ok := fun k_ => (((((((((oN Ao32 t475 co32 k_ ∧ (oN Ao38 t479 co38 k_ ∧ (oN Ao39 t482 co39 k_ ∧ (oN Ao44 t486 co44 k_ ∧ (oN Ao45 t489 co45 k_ ∧ (oN Ao55 t497 co55 k_ ∧ (oN Ao56 t500 co56 k_ ∧ (oN Ao100 t524 co100 k_ ∧ (oN Ao101 t527 co101 k_ ∧ (oN Ao190 t544 co190 k_ ∧ oN Ao191 t547 co191 k_)))))))))) ∧ oN Ao322 t591 co322 k_) ∧ oN Ao323 t594 co323 k_) ∧ oN Ao339 t600 co339 k_) ∧ oN Ao340 t603 co340 k_) ∧ oN Ao355 t609 co355 k_) ∧ oN Ao356 t612 co356 k_) ∧ oN Ao372 t618 co372 k_) ∧ oN Ao373 t621 co373 k_)) (n := t472.length) (c := co31) ?_).2.2; exact (oR HO_494001.out BK625.out)); (case side3 => refine (Kd.R_reads' (e := 44) (base := w.heap.size) (ok := fun k_ => (((((((((oN Ao31 t472 co31 k_ ∧ (oN Ao38 t479 co38 k_ ∧ (oN Ao39 t482 co39 k_ ∧ (oN Ao44 t486 co44 k_ ∧ (oN Ao45 t489 co45 k_ ∧ (oN Ao55 t497 co55 k_ ∧ (oN Ao56 t500 co56 k_ ∧ (oN Ao100 t524 co100 k_ ∧ (oN Ao101 t527 co101 k_ ∧ (oN Ao190 t544 co190 k_ ∧ oN Ao191 t547 co191 k_)))))))))) ∧ oN Ao322 t591 co322 k_) ∧ oN Ao323 t594 co323 k_) ∧ oN Ao339 t600 co339 k_) ∧ oN Ao340 t603 co340 k_) ∧ oN Ao355 t609 co355 k_) ∧ oN Ao356 t612 co356 k_) ∧ oN Ao372 t618 co372 k_) ∧ oN Ao373 t621 co373 k_)) (n := t475.length) (c := co32) ?_).2.2; exact (oR HO_494002.out BK625.out)); (case side4 => exact (Kd.R_reads' HO_494002.out).2.1); (case side5 => refine (Kd.R_reads' (e := 44) (base := w.heap.size) (ok := fun k_ => (((((((((oN Ao32 t475 co32 k_ ∧ (oN Ao38 t479 co38 k_ ∧ (oN Ao39 t482 co39 k_ ∧ (oN Ao44 t486 co44 k_ ∧ (oN Ao45 t489 co45 k_ ∧ (oN Ao55 t497 co55 k_ ∧ (oN Ao56 t500 co56 k_ ∧ (oN Ao100 t524 co100 k_ ∧ (oN Ao101 t527 co101 k_ ∧ (oN Ao190 t544 co190 k_ ∧ oN Ao191 t547 co191 k_)))))))))) ∧ oN Ao322 t591 co322 k_) ∧ oN Ao323 t594 co323 k_) ∧ oN Ao339 t600 co339 k_) ∧ oN Ao340 t603 co340 k_) ∧ oN Ao355 t609 co355 k_) ∧ oN Ao356 t612 co356 k_) ∧ oN Ao372 t618 co372 k_) ∧ oN Ao373 t621 co373 k_)) (n := t472.length) (c := co31) ?_).2.2; exact (oR HO_494001.out BK625.out)); (case side6 => exact (Kd.R_reads' HO_494001.out).2.1); (case side7 => refine (Kd.R_reads' (e := 44) (base := w.heap.size) (ok := fun k_ => (((((((((oN Ao31 t472 co31 k_ ∧ (oN Ao38 t479 co38 k_ ∧ (oN Ao39 t482 co39 k_ ∧ (oN Ao44 t486 co44 k_ ∧ (oN Ao45 t489 co45 k_ ∧ (oN Ao55 t497 co55 k_ ∧ (oN Ao56 t500 co56 k_ ∧ (oN Ao100 t524 co100 k_ ∧ (oN Ao101 t527 co101 k_ ∧ (oN Ao190 t544 co190 k_ ∧ oN Ao191 t547 co191 k_)))))))))) ∧ oN Ao322 t591 co322 k_) ∧ oN Ao323 t594 co323 k_) ∧ oN Ao339 t600 co339 k_) ∧ oN Ao340 t603 co340 k_) ∧ oN Ao355 t609 co355 k_) ∧ oN Ao356 t612 co356 k_) ∧ oN Ao372 t618 co372 k_) ∧ oN Ao373 t621 co373 k_)) (n := t475.length) (c := co32) ?_).2.2; exact (oR HO_494002.out BK625.out)); (case side8 => exact (Kd.R_reads' HO_494002.out).2.1); rintro e w375 ⟨v628, v631, rfl, ho0, ho1, hb⟩; refine ⟨_, rfl, ?_⟩; have HO629 := aM (Kd.R_lower (nV (nV (nV (nV (nV (nV (nV (nV (nV (nV (nV (nV (nV (nV (nV (nV (nV (nV (nV (nV ho0 HO_494001.out BK625.out) HO_494002.out BK625.out) HO_495001.out BK625.out) HO_495002.out BK625.out) HO_496001.out BK625.out) HO_496002.out BK625.out) HO_505001.out BK625.out) HO_505002.out BK625.out) HO_532001.out BK625.out) HO_532002.out BK625.out) HO_552001.out BK625.out) HO_552002.out BK625.out) HO593.out BK625.out) HO596.out BK625.out) HO602.out BK625.out) HO605.out BK625.out) HO611.out BK625.out) HO614.out BK625.out) HO620.out BK625.out) HO623.out BK625.out) (below_size eB)); have HO632 := aM (Kd.R_lower (nV (nV (nV (nV (nV (nV (nV (nV (nV (nV (nV (nV (nV (nV (nV (nV (nV (nV (nV (nV ho1 HO_494001.out BK625.out) HO_494002.out BK625.out) HO_495001.out BK625.out) HO_495002.out BK625.out) HO_496001.out BK625.out) HO_496002.out BK625.out) HO_505001.out BK625.out) HO_505002.out BK625.out) HO_532001.out BK625.out) HO_532002.out BK625.out) HO_552001.out BK625.out) HO_552002.out BK625.out) HO593.out BK625.out) HO596.out BK625.out) HO602.out BK625.out) HO605.out BK625.out) HO611.out BK625.out) HO614.out BK625.out) HO620.out BK625.out) HO623.out BK625.out) (below_size eB)); replace HO_494001 := tX HO_494001.out BK625.out hb ho0 ho1; replace HO_494002 := tX HO_494002.out BK625.out hb ho0 ho1; replace HO_495001 := tX HO_495001.out BK625.out hb ho0 ho1; replace HO_495002 := tX HO_495002.out BK625.out hb ho0 ho1; replace HO_496001 := tX HO_496001.out BK625.out hb ho0 ho1; replace HO_496002 := tX HO_496002.out BK625.out hb ho0 ho1; replace HO_505001 := tX HO_505001.out BK625.out hb ho0 ho1; replace HO_505002 := tX HO_505002.out BK625.out hb ho0 ho1; replace HO_532001 := tX HO_532001.out BK625.out hb ho0 ho1; replace HO_532002 := tX HO_532002.out BK625.out hb ho0 ho1; replace HO_552001 := tX HO_552001.out BK625.out hb ho0 ho1; replace HO_552002 := tX HO_552002.out BK625.out hb ho0 ho1; replace HO593 := tX HO593.out BK625.out hb ho0 ho1; replace HO596 := tX HO596.out BK625.out hb ho0 ho1; replace HO602 := tX HO602.out BK625.out hb ho0 ho1; replace HO605 := tX HO605.out BK625.out hb ho0 ho1; replace HO611 := tX HO611.out BK625.out hb ho0 ho1; replace HO614 := tX HO614.out BK625.out hb ho0 ho1; replace HO620 := tX HO620.out BK625.out hb ho0 ho1; replace HO623 := tX HO623.out BK625.out hb ho0 ho1; replace BK493 := bU1 BK493.out NB493_625.out hb; replace BK494 := bU1 BK494.out NB494_625.out hb; replace BK495 := bU1 BK495.out NB495_625.out hb; replace BK504 := bU1 BK504.out NB504_625.out hb; replace BK531 := bU1 BK531.out NB531_625.out hb; replace BK551 := bU1 BK551.out NB551_625.out hb; replace BK598 := bU1 BK598.out NB598_625.out hb; replace BK607 := bU1 BK607.out NB607_625.out hb; replace BK616 := bU1 BK616.out NB616_625.out hb; replace BK625 := aM (blk_below (g := gb625) (o := .cells #[.bool t617, .slice Ao372 t618.length co372, .slice Ao373 t621.length co373] 25 (0, 0)) (dP BK625.out) hb); replace HB := hS HB.out hb; (try clear hb); (try clear ho0); (try clear ho1)) | ((with_reducible refine gate_dst (N := 30) rfl ?_); refine bE 30 #[.bool false, .slice none 0 0, .slice none 0 0] 25 ?_; intro gb634 hg w376 hbox hb; replace HO_494001 := oB HO_494001.out hb; replace HO_494002 := oB HO_494002.out hb; replace HO_495001 := oB HO_495001.out hb; replace HO_495002 := oB HO_495002.out hb; replace HO_496001 := oB HO_496001.out hb; replace HO_496002 := oB HO_496002.out hb; replace HO_505001 := oB HO_505001.out hb; replace HO_505002 := oB HO_505002.out hb; replace HO_532001 := oB HO_532001.out hb; replace HO_532002 := oB HO_532002.out hb; replace HO_552001 := oB HO_552001.out hb; replace HO_552002 := oB HO_552002.out hb; replace HO593 := oB HO593.out hb; replace HO596 := oB HO596.out hb; replace HO602 := oB HO602.out hb; replace HO605 := oB HO605.out hb; replace HO611 := oB HO611.out hb; replace HO614 := oB HO614.out hb; replace HO620 := oB HO620.out hb; replace HO623 := oB HO623.out hb; replace HO629 := oB HO629.out hb; replace HO632 := oB HO632.out hb; have BK634 := aM (hbox); have GW634 : Aside0 (w.heap.size ≤ gb634) := gE hg; have GE634 : Aside0 (w.heap.size ≤ gb634) := gE hg; replace HB := hS HB.out hb; have NB493_634 := nL hg BK493.out; have NB634_493 := nG hg BK493.out; replace BK493 := bB BK493.out hb; have NB494_634 := nL hg BK494.out; have NB634_494 := nG hg BK494.out; replace BK494 := bB BK494.out hb; have NB495_634 := nL hg BK495.out; have NB634_495 := nG hg BK495.out; replace BK495 := bB BK495.out hb; have NB504_634 := nL hg BK504.out; have NB634_504 := nG hg BK504.out; replace BK504 := bB BK504.out hb; have NB531_634 := nL hg BK531.out; have NB634_531 := nG hg BK531.out; replace BK531 := bB BK531.out hb; have NB551_634 := nL hg BK551.out; have NB634_551 := nG hg BK551.out; replace BK551 := bB BK551.out hb; have NB598_634 := nL hg BK598.out; have NB634_598 := nG hg BK598.out; replace BK598 := bB BK598.out hb; have NB607_634 := nL hg BK607.out; have NB634_607 := nG hg BK607.out; replace BK607 := bB BK607.out hb; have NB616_634 := nL hg BK616.out; have NB634_616 := nG hg BK616.out; replace BK616 := bB BK616.out hb; have NB625_634 := nL hg BK625.out; have NB634_625 := nG hg BK625.out; replace BK625 := bB BK625.out hb; clear hb hbox hg; have hnb377 := NB634_493.out; have hnc377 := NB493_634.out; have hnb378 := NB634_494.out; have hnc378 := NB494_634.out; have hnb379 := NB634_495.out; have hnc379 := NB495_634.out; have hnb380 := NB634_504.out; have hnc380 := NB504_634.out; have hnb381 := NB634_531.out; have hnc381 := NB531_634.out; have hnb382 := NB634_551.out; have hnc382 := NB551_634.out; have hnb383 := NB634_598.out; have hnc383 := NB598_634.out; have hnb384 := NB634_607.out; have hnc384 := NB607_634.out; have hnb385 := NB634_616.out; have hnc385 := NB616_634.out; have hnb386 := NB634_625.out; have hnc386 := NB625_634.out; obtain ⟨hcz387_0, hcz387_1, hcz387_2⟩ := cz3 BK634.out; obtain ⟨hfz387_0, hfz387_1, hfz387_2⟩ := fz3 BK634.out; obtain ⟨Ao388, co388, rfl⟩ := Kd.R_slice HO629.out; obtain ⟨Ao389, co389, rfl⟩ := Kd.R_slice HO632.out))
     (try simp only [Act.put, List.setIfInBounds_toArray, List.set_cons_zero, List.set_cons_succ])
     go_cut [233] (fun v233 wc => ∃ (kq : Nat) (x233_300 : Bool), v233 = .bool x233_300 ∧ Aside0 (plumblaw05_RatField.j2 kq x233_300 t471 t472 t475 t478 t479 t482 t543 t544 t547 = some r) ∧ Aside0 (kq ≤ kj171) ∧ Aside0 (Kd.R (Kd.int .u64) 44 wc w.heap.size (fun k_ => oN Ao32 t475 co32 k_ ∧ oN Ao38 t479 co38 k_ ∧ oN Ao39 t482 co39 k_ ∧ oN Ao190 t544 co190 k_ ∧ oN Ao191 t547 co191 k_) (.slice Ao31 t472.length co31) t472) ∧ Aside0 (Kd.R (Kd.int .u64) 44 wc w.heap.size (fun k_ => oN Ao31 t472 co31 k_ ∧ oN Ao38 t479 co38 k_ ∧ oN Ao39 t482 co39 k_ ∧ oN Ao190 t544 co190 k_ ∧ oN Ao191 t547 co191 k_) (.slice Ao32 t475.length co32) t475) ∧ Aside0 (Kd.R (Kd.int .u64) 44 wc w.heap.size (fun k_ => oN Ao31 t472 co31 k_ ∧ oN Ao32 t475 co32 k_ ∧ oN Ao39 t482 co39 k_ ∧ oN Ao190 t544 co190 k_ ∧ oN Ao191 t547 co191 k_) (.slice Ao38 t479.length co38) t479) ∧ Aside0 (Kd.R (Kd.int .u64) 44 wc w.heap.size (fun k_ => oN Ao31 t472 co31 k_ ∧ oN Ao32 t475 co32 k_ ∧ oN Ao38 t479 co38 k_ ∧ oN Ao190 t544 co190 k_ ∧ oN Ao191 t547 co191 k_) (.slice Ao39 t482.length co39) t482) ∧ Aside0 (Kd.R (Kd.int .u64) 44 wc w.heap.size (fun k_ => oN Ao31 t472 co31 k_ ∧ oN Ao32 t475 co32 k_ ∧ oN Ao38 t479 co38 k_ ∧ oN Ao39 t482 co39 k_ ∧ oN Ao191 t547 co191 k_) (.slice Ao190 t544.length co190) t544) ∧ Aside0 (Kd.R (Kd.int .u64) 44 wc w.heap.size (fun k_ => oN Ao31 t472 co31 k_ ∧ oN Ao32 t475 co32 k_ ∧ oN Ao38 t479 co38 k_ ∧ oN Ao39 t482 co39 k_ ∧ oN Ao190 t544 co190 k_) (.slice Ao191 t547.length co191) t547) ∧ Aside0 (wc.heap[gb493]? = some (.cells #[.bool t471, (.slice Ao31 t472.length co31), (.slice Ao32 t475.length co32)] 25 (0, 0))) ∧ Aside0 (wc.heap[gb494]? = some (.cells #[.bool t478, (.slice Ao38 t479.length co38), (.slice Ao39 t482.length co39)] 25 (0, 0))) ∧ Aside0 (wc.heap[gb551]? = some (.cells #[.bool t543, (.slice Ao190 t544.length co190), (.slice Ao191 t547.length co191)] 25 (0, 0))) ∧ Aside0 (Below w.heap.size w wc))
     case first =>
      as_aux_lemma =>
      have H := HC301.out
      clear HC301
      replace H := nO H
      obtain ⟨rfl, H⟩ := H
      (try dsimp only at H)
      replace H := nO H
      obtain ⟨rfl, H⟩ := H
      (try dsimp only at H)
      replace H := nO H
      obtain ⟨rfl, H⟩ := H
      (try dsimp only at H)
      replace H := nO H
      obtain ⟨rfl, H⟩ := H
      (try dsimp only at H)
      replace H := nO H
      obtain ⟨rfl, H⟩ := H
      (try dsimp only at H)
      replace H := oA H
      obtain ⟨t635, A395, H⟩ := H
      (try dsimp only at H)
      replace H := nO H
      obtain ⟨rfl, H⟩ := H
      (try dsimp only at H)
      replace H := oA H
      obtain ⟨t636, A397, H⟩ := H
      (try dsimp only at H)
      replace H := nO H
      obtain ⟨rfl, H⟩ := H
      (try dsimp only at H)
      replace H := oA H
      obtain ⟨⟨t637, t638, t641⟩, A399, H⟩ := H
      (try dsimp only at H)
      replace H := oA H
      obtain ⟨t644, A400, H⟩ := H
      (try dsimp only at H)
      have H' := aM H
      clear H
      try go_wp2
      obtain ⟨w401, hw_⟩ : ∃ W, W = (((w376.setCell ⟨gb634, 0, none⟩ (.bool t626)).setCell ⟨gb634, 1, none⟩ (.slice Ao388 t627.length co388)).setCell ⟨gb634, 2, none⟩ (.slice Ao389 t630.length co389)) := ⟨_, rfl⟩
      have mR0_ : ∀ (ok : Nat → Prop) v xs, Kd.R (Kd.int .u64) 44 w376 w.heap.size ok v xs → Aside0 (Kd.R (Kd.int .u64) 44 w401 w.heap.size ok v xs) := by rw [hw_]; exact fun _ _ _ x => ⟨oR x BK634.out⟩
      have mB1_ : ∀ (g : Nat) (o : Obj), w376.heap[g]? = some o → g ≠ gb634 → Aside0 (w401.heap[g]? = some o) := by rw [hw_]; exact fun _ _ x y => ⟨Eq.trans (Below.heap_setCell _ ⟨gb634, _, none⟩ _ _ y) (Eq.trans (Below.heap_setCell _ ⟨gb634, _, none⟩ _ _ y) (Eq.trans (Below.heap_setCell _ ⟨gb634, _, none⟩ _ _ y) x))⟩
      replace HO_494001 := mR0_ _ _ _ HO_494001.out
      replace HO_494002 := mR0_ _ _ _ HO_494002.out
      replace HO_495001 := mR0_ _ _ _ HO_495001.out
      replace HO_495002 := mR0_ _ _ _ HO_495002.out
      replace HO_496001 := mR0_ _ _ _ HO_496001.out
      replace HO_496002 := mR0_ _ _ _ HO_496002.out
      replace HO_505001 := mR0_ _ _ _ HO_505001.out
      replace HO_505002 := mR0_ _ _ _ HO_505002.out
      replace HO_532001 := mR0_ _ _ _ HO_532001.out
      replace HO_532002 := mR0_ _ _ _ HO_532002.out
      replace HO_552001 := mR0_ _ _ _ HO_552001.out
      replace HO_552002 := mR0_ _ _ _ HO_552002.out
      replace HO593 := mR0_ _ _ _ HO593.out
      replace HO596 := mR0_ _ _ _ HO596.out
      replace HO602 := mR0_ _ _ _ HO602.out
      replace HO605 := mR0_ _ _ _ HO605.out
      replace HO611 := mR0_ _ _ _ HO611.out
      replace HO614 := mR0_ _ _ _ HO614.out
      replace HO620 := mR0_ _ _ _ HO620.out
      replace HO623 := mR0_ _ _ _ HO623.out
      replace HO629 := mR0_ _ _ _ HO629.out
      replace HO632 := mR0_ _ _ _ HO632.out
      replace BK493 := mB1_ _ _ BK493.out NB493_634.out
      replace BK494 := mB1_ _ _ BK494.out NB494_634.out
      replace BK495 := mB1_ _ _ BK495.out NB495_634.out
      replace BK504 := mB1_ _ _ BK504.out NB504_634.out
      replace BK531 := mB1_ _ _ BK531.out NB531_634.out
      replace BK551 := mB1_ _ _ BK551.out NB551_634.out
      replace BK598 := mB1_ _ _ BK598.out NB598_634.out
      replace BK607 := mB1_ _ _ BK607.out NB607_634.out
      replace BK616 := mB1_ _ _ BK616.out NB616_634.out
      replace BK625 := mB1_ _ _ BK625.out NB625_634.out
      replace BK634 : Aside0 (w401.heap[gb634]? = some (.cells #[.bool t626, .slice Ao388 t627.length co388, .slice Ao389 t630.length co389] 25 (0, 0))) := by rw [hw_]; exact ⟨dP BK634.out⟩
      replace HB : Aside0 (Below w.heap.size w w401) := by rw [hw_]; exact ⟨eB⟩
      rw [← hw_]
      clear hw_ mR0_ mB1_
      replace HO_494001 := aM (Kd.R_drew HO_494001.out)
      replace HO_494002 := aM (Kd.R_drew HO_494002.out)
      replace HO_495001 := aM (Kd.R_drew HO_495001.out)
      replace HO_495002 := aM (Kd.R_drew HO_495002.out)
      replace HO_496001 := aM (Kd.R_drew HO_496001.out)
      replace HO_496002 := aM (Kd.R_drew HO_496002.out)
      replace HO_505001 := aM (Kd.R_drew HO_505001.out)
      replace HO_505002 := aM (Kd.R_drew HO_505002.out)
      replace HO_532001 := aM (Kd.R_drew HO_532001.out)
      replace HO_532002 := aM (Kd.R_drew HO_532002.out)
      replace HO_552001 := aM (Kd.R_drew HO_552001.out)
      replace HO_552002 := aM (Kd.R_drew HO_552002.out)
      replace HO593 := aM (Kd.R_drew HO593.out)
      replace HO596 := aM (Kd.R_drew HO596.out)
      replace HO602 := aM (Kd.R_drew HO602.out)
      replace HO605 := aM (Kd.R_drew HO605.out)
      replace HO611 := aM (Kd.R_drew HO611.out)
      replace HO614 := aM (Kd.R_drew HO614.out)
      replace HO620 := aM (Kd.R_drew HO620.out)
      replace HO623 := aM (Kd.R_drew HO623.out)
      replace HO629 := aM (Kd.R_drew HO629.out)
      replace HO632 := aM (Kd.R_drew HO632.out)
      replace BK493 := aM (blk_drew BK493.out)
      replace BK494 := aM (blk_drew BK494.out)
      replace BK495 := aM (blk_drew BK495.out)
      replace BK504 := aM (blk_drew BK504.out)
      replace BK531 := aM (blk_drew BK531.out)
      replace BK551 := aM (blk_drew BK551.out)
      replace BK598 := aM (blk_drew BK598.out)
      replace BK607 := aM (blk_drew BK607.out)
      replace BK616 := aM (blk_drew BK616.out)
      replace BK625 := aM (blk_drew BK625.out)
      replace BK634 := aM (blk_drew BK634.out)
      replace HB := aM (below_drew1 HB.out)
      refine start_ (n := 36) (S := fun w' => w'.cell? ⟨gb598, 0, none⟩ = some (.bool t590) ∧ w'.cell? ⟨gb598, 1, none⟩ = some (.slice Ao322 t591.length co322) ∧ w'.cell? ⟨gb598, 2, none⟩ = some (.slice Ao323 t594.length co323) ∧ w'.cell? ⟨gb616, 0, none⟩ = some (.bool t608) ∧ w'.cell? ⟨gb616, 1, none⟩ = some (.slice Ao355 t609.length co355) ∧ w'.cell? ⟨gb616, 2, none⟩ = some (.slice Ao356 t612.length co356) ∧ w'.cell? ⟨gb625, 0, none⟩ = some (.bool t617) ∧ w'.cell? ⟨gb625, 1, none⟩ = some (.slice Ao372 t618.length co372) ∧ w'.cell? ⟨gb625, 2, none⟩ = some (.slice Ao373 t621.length co373) ∧ w'.cell? ⟨gb493, 0, none⟩ = some (.bool t471) ∧ w'.cell? ⟨gb493, 1, none⟩ = some (.slice Ao31 t472.length co31) ∧ w'.cell? ⟨gb493, 2, none⟩ = some (.slice Ao32 t475.length co32) ∧ w'.cell? ⟨gb634, 0, none⟩ = some (.bool t626) ∧ w'.cell? ⟨gb634, 1, none⟩ = some (.slice Ao388 t627.length co388) ∧ w'.cell? ⟨gb634, 2, none⟩ = some (.slice Ao389 t630.length co389)) (ds := []) #[false, false, false, false, false, false, false, false, false, false, false, false, false, false, false, false, false, false, false, false, false, false, false, false, false, false, false, false, false, false, false, false, false, false, false, false] (by kernel_rfl) rfl rfl ⟨(blk_cell BK598.out 0).trans rfl, (blk_cell BK598.out 1).trans rfl, (blk_cell BK598.out 2).trans rfl, (blk_cell BK616.out 0).trans rfl, (blk_cell BK616.out 1).trans rfl, (blk_cell BK616.out 2).trans rfl, (blk_cell BK625.out 0).trans rfl, (blk_cell BK625.out 1).trans rfl, (blk_cell BK625.out 2).trans rfl, (blk_cell BK493.out 0).trans rfl, (blk_cell BK493.out 1).trans rfl, (blk_cell BK493.out 2).trans rfl, (blk_cell BK634.out 0).trans rfl, (blk_cell BK634.out 1).trans rfl, (blk_cell BK634.out 2).trans rfl⟩ (fun hHeld => ?_); refine with_tabW plumblaw05_RatField.tab23 plumblaw05_RatField.bits23 (fun HT_ HW_ => ?_)
      generalize w401.drew = w402 at HO_494001 HO_494002 HO_495001 HO_495002 HO_496001 HO_496002 HO_505001 HO_505002 HO_532001 HO_532002 HO_552001 HO_552002 HO593 HO596 HO602 HO605 HO611 HO614 HO620 HO623 HO629 HO632 BK493 BK494 BK495 BK504 BK531 BK551 BK598 BK607 BK616 BK625 BK634 HB hHeld ⊢
      refine pP 0 (some 198) ?_
      refine pP 1 (some 199) ?_
      refine pP 2 (some 200) ?_
      refine pP 3 (some 201) ?_
      refine pP 4 (some 202) ?_
      refine pP 5 (some 203) ?_
      refine pP 6 (some 204) ?_
      refine pP 7 (some 205) ?_
      refine pP 8 (some 206) ?_
      refine pP 9 (some 207) ?_
      refine pP 10 (some 208) ?_
      refine pP 11 (some 209) ?_
      refine pP 12 (some 210) ?_
      refine pP 13 (some 211) ?_
      refine pP 14 (some 212) ?_
      refine pP 15 (some 213) ?_
      refine pP 16 (some 214) ?_
      refine pP 17 (some 215) ?_
      refine pP 18 (some 216) ?_
      refine pH15 19 (some 217) hHeld ?_
      refine pH15 20 (some 218) hHeld ?_
      refine one_ (i := 21) (N := some 219) #[true, true, true, true, true, true, true, true, true, true, true, true, true, true, true, true, true, true, true, true, true, true, false, false, false, false, false, false, false, false, false, false, false, false, false, false] rfl rfl (one_of HT_.out (by kernel_rfl)) (by decide) (fun K hK => ?_)
      refine goes_ Try.func8 (by kernel_rfl) rfl #[.agg #[.bool t590, .slice Ao322 t591.length co322, .slice Ao323 t594.length co323], .agg #[.bool t608, .slice Ao355 t609.length co355, .slice Ao356 t612.length co356]] (by rfl) rfl rfl dA ?_
      with_reducible refine (plumblaw05_one.calls kj171 t590 _ _ t591 _ _ t594 t608 _ _ t609 _ _ t612 true _ ?side1 (Kd.R_reads' HO593.out).2.1 ?side3 (Kd.R_reads' HO596.out).2.1 ?side5 (Kd.R_reads' HO611.out).2.1 ?side7 (Kd.R_reads' HO614.out).2.1 A395.out).mono ?_
      (case side1 => exact dC (Kd.R_reads' HO593.out).2.2)
      (case side3 => exact dC (Kd.R_reads' HO596.out).2.2)
      (case side5 => exact dC (Kd.R_reads' HO611.out).2.2)
      (case side7 => exact dC (Kd.R_reads' HO614.out).2.2)
      rintro e w403 ⟨rfl, hb⟩
      refine ⟨_, rfl, ?_⟩
      replace HO_494001 := oB HO_494001.out hb
      replace HO_494002 := oB HO_494002.out hb
      replace HO_495001 := oB HO_495001.out hb
      replace HO_495002 := oB HO_495002.out hb
      replace HO_496001 := oB HO_496001.out hb
      replace HO_496002 := oB HO_496002.out hb
      replace HO_505001 := oB HO_505001.out hb
      replace HO_505002 := oB HO_505002.out hb
      replace HO_532001 := oB HO_532001.out hb
      replace HO_532002 := oB HO_532002.out hb
      replace HO_552001 := oB HO_552001.out hb
      replace HO_552002 := oB HO_552002.out hb
      replace HO593 := oB HO593.out hb
      replace HO596 := oB HO596.out hb
      replace HO602 := oB HO602.out hb
      replace HO605 := oB HO605.out hb
      replace HO611 := oB HO611.out hb
      replace HO614 := oB HO614.out hb
      replace HO620 := oB HO620.out hb
      replace HO623 := oB HO623.out hb
      replace HO629 := oB HO629.out hb
      replace HO632 := oB HO632.out hb
      replace BK493 := bB BK493.out hb
      replace BK494 := bB BK494.out hb
      replace BK495 := bB BK495.out hb
      replace BK504 := bB BK504.out hb
      replace BK531 := bB BK531.out hb
      replace BK551 := bB BK551.out hb
      replace BK598 := bB BK598.out hb
      replace BK607 := bB BK607.out hb
      replace BK616 := bB BK616.out hb
      replace BK625 := bB BK625.out hb
      replace BK634 := bB BK634.out hb
      replace HB := hS HB.out hb
      (try clear hb)
      (try clear hb2)
      (try clear hk)
      (try clear hi)
      refine hK.out _ _ ⟨(blk_cell BK598.out 0).trans rfl, (blk_cell BK598.out 1).trans rfl, (blk_cell BK598.out 2).trans rfl, (blk_cell BK616.out 0).trans rfl, (blk_cell BK616.out 1).trans rfl, (blk_cell BK616.out 2).trans rfl, (blk_cell BK625.out 0).trans rfl, (blk_cell BK625.out 1).trans rfl, (blk_cell BK625.out 2).trans rfl, (blk_cell BK493.out 0).trans rfl, (blk_cell BK493.out 1).trans rfl, (blk_cell BK493.out 2).trans rfl, (blk_cell BK634.out 0).trans rfl, (blk_cell BK634.out 1).trans rfl, (blk_cell BK634.out 2).trans rfl⟩ (fun hHeld => ?_)
      clear hK K
      refine norm_ (a' := ?_) ?_ ?_
      rotate_left
      ·show Act.put _ (some 219) _ = _
       simp only [Act.put, List.setIfInBounds_toArray, List.set_cons_zero, List.set_cons_succ, i64_w, i32_w]
       rfl
      refine pP 22 (some 220) ?_
      refine pP 23 (some 221) ?_
      refine pP 24 (some 222) ?_
      refine pH15 25 (some 223) hHeld ?_
      refine pH15 26 (some 224) hHeld ?_
      refine one_ (i := 27) (N := some 225) #[true, true, true, true, true, true, true, true, true, true, true, true, true, true, true, true, true, true, true, true, true, true, true, true, true, true, true, true, false, false, false, false, false, false, false, false] rfl rfl (one_of HT_.out (by kernel_rfl)) (by decide) (fun K hK => ?_)
      refine goes_ Try.func8 (by kernel_rfl) rfl #[.agg #[.bool t617, .slice Ao372 t618.length co372, .slice Ao373 t621.length co373], .agg #[.bool t471, .slice Ao31 t472.length co31, .slice Ao32 t475.length co32]] (by rfl) rfl rfl dA ?_
      with_reducible refine (plumblaw05_one.calls kj171 t617 _ _ t618 _ _ t621 t471 _ _ t472 _ _ t475 true _ ?side1 (Kd.R_reads' HO620.out).2.1 ?side3 (Kd.R_reads' HO623.out).2.1 ?side5 (Kd.R_reads' HO_494001.out).2.1 ?side7 (Kd.R_reads' HO_494002.out).2.1 A397.out).mono ?_
      (case side1 => exact dC (Kd.R_reads' HO620.out).2.2)
      (case side3 => exact dC (Kd.R_reads' HO623.out).2.2)
      (case side5 => exact dC (Kd.R_reads' HO_494001.out).2.2)
      (case side7 => exact dC (Kd.R_reads' HO_494002.out).2.2)
      rintro e w404 ⟨rfl, hb⟩
      refine ⟨_, rfl, ?_⟩
      replace HO_494001 := oB HO_494001.out hb
      replace HO_494002 := oB HO_494002.out hb
      replace HO_495001 := oB HO_495001.out hb
      replace HO_495002 := oB HO_495002.out hb
      replace HO_496001 := oB HO_496001.out hb
      replace HO_496002 := oB HO_496002.out hb
      replace HO_505001 := oB HO_505001.out hb
      replace HO_505002 := oB HO_505002.out hb
      replace HO_532001 := oB HO_532001.out hb
      replace HO_532002 := oB HO_532002.out hb
      replace HO_552001 := oB HO_552001.out hb
      replace HO_552002 := oB HO_552002.out hb
      replace HO593 := oB HO593.out hb
      replace HO596 := oB HO596.out hb
      replace HO602 := oB HO602.out hb
      replace HO605 := oB HO605.out hb
      replace HO611 := oB HO611.out hb
      replace HO614 := oB HO614.out hb
      replace HO620 := oB HO620.out hb
      replace HO623 := oB HO623.out hb
      replace HO629 := oB HO629.out hb
      replace HO632 := oB HO632.out hb
      replace BK493 := bB BK493.out hb
      replace BK494 := bB BK494.out hb
      replace BK495 := bB BK495.out hb
      replace BK504 := bB BK504.out hb
      replace BK531 := bB BK531.out hb
      replace BK551 := bB BK551.out hb
      replace BK598 := bB BK598.out hb
      replace BK607 := bB BK607.out hb
      replace BK616 := bB BK616.out hb
      replace BK625 := bB BK625.out hb
      replace BK634 := bB BK634.out hb
      replace HB := hS HB.out hb
      (try clear hb)
      (try clear hb2)
      (try clear hk)
      (try clear hi)
      refine hK.out _ _ ⟨(blk_cell BK598.out 0).trans rfl, (blk_cell BK598.out 1).trans rfl, (blk_cell BK598.out 2).trans rfl, (blk_cell BK616.out 0).trans rfl, (blk_cell BK616.out 1).trans rfl, (blk_cell BK616.out 2).trans rfl, (blk_cell BK625.out 0).trans rfl, (blk_cell BK625.out 1).trans rfl, (blk_cell BK625.out 2).trans rfl, (blk_cell BK493.out 0).trans rfl, (blk_cell BK493.out 1).trans rfl, (blk_cell BK493.out 2).trans rfl, (blk_cell BK634.out 0).trans rfl, (blk_cell BK634.out 1).trans rfl, (blk_cell BK634.out 2).trans rfl⟩ (fun hHeld => ?_)
      clear hK K
      refine norm_ (a' := ?_) ?_ ?_
      rotate_left
      ·show Act.put _ (some 225) _ = _
       simp only [Act.put, List.setIfInBounds_toArray, List.set_cons_zero, List.set_cons_succ, i64_w, i32_w]
       rfl
      refine pP 28 (some 226) ?_
      refine pP 29 (some 227) ?_
      refine pP 30 (some 228) ?_
      refine pH15 31 (some 229) hHeld ?_
      refine one_ (i := 32) (N := some 230) #[true, true, true, true, true, true, true, true, true, true, true, true, true, true, true, true, true, true, true, true, true, true, true, true, true, true, true, true, true, true, true, true, true, false, false, false] rfl rfl (one_of HT_.out (by kernel_rfl)) (by decide) (fun K hK => ?_)
      refine goes_ Try.func11 (by kernel_rfl) rfl #[.int .i64 0] (by rfl) rfl rfl dA ?_
      with_reducible refine (rat_Int.calls 0 t637 t638 t641 _ A399.out).mono ?_
      rintro e w405 ⟨v639, v642, rfl, ho0, ho1, hb⟩
      refine ⟨_, rfl, ?_⟩
      have HO640 := aM (Kd.R_lower (nW (nW (nW (nW (nW (nW (nW (nW (nW (nW (nW (nW (nW (nW (nW (nW (nW (nW (nW (nW (nW (nW ho0 HO_494001.out) HO_494002.out) HO_495001.out) HO_495002.out) HO_496001.out) HO_496002.out) HO_505001.out) HO_505002.out) HO_532001.out) HO_532002.out) HO_552001.out) HO_552002.out) HO593.out) HO596.out) HO602.out) HO605.out) HO611.out) HO614.out) HO620.out) HO623.out) HO629.out) HO632.out) (below_size eB))
      have HO643 := aM (Kd.R_lower (nW (nW (nW (nW (nW (nW (nW (nW (nW (nW (nW (nW (nW (nW (nW (nW (nW (nW (nW (nW (nW (nW ho1 HO_494001.out) HO_494002.out) HO_495001.out) HO_495002.out) HO_496001.out) HO_496002.out) HO_505001.out) HO_505002.out) HO_532001.out) HO_532002.out) HO_552001.out) HO_552002.out) HO593.out) HO596.out) HO602.out) HO605.out) HO611.out) HO614.out) HO620.out) HO623.out) HO629.out) HO632.out) (below_size eB))
      replace HO_494001 := tT HO_494001.out hb ho0 ho1
      replace HO_494002 := tT HO_494002.out hb ho0 ho1
      replace HO_495001 := tT HO_495001.out hb ho0 ho1
      replace HO_495002 := tT HO_495002.out hb ho0 ho1
      replace HO_496001 := tT HO_496001.out hb ho0 ho1
      replace HO_496002 := tT HO_496002.out hb ho0 ho1
      replace HO_505001 := tT HO_505001.out hb ho0 ho1
      replace HO_505002 := tT HO_505002.out hb ho0 ho1
      replace HO_532001 := tT HO_532001.out hb ho0 ho1
      replace HO_532002 := tT HO_532002.out hb ho0 ho1
      replace HO_552001 := tT HO_552001.out hb ho0 ho1
      replace HO_552002 := tT HO_552002.out hb ho0 ho1
      replace HO593 := tT HO593.out hb ho0 ho1
      replace HO596 := tT HO596.out hb ho0 ho1
      replace HO602 := tT HO602.out hb ho0 ho1
      replace HO605 := tT HO605.out hb ho0 ho1
      replace HO611 := tT HO611.out hb ho0 ho1
      replace HO614 := tT HO614.out hb ho0 ho1
      replace HO620 := tT HO620.out hb ho0 ho1
      replace HO623 := tT HO623.out hb ho0 ho1
      replace HO629 := tT HO629.out hb ho0 ho1
      replace HO632 := tT HO632.out hb ho0 ho1
      replace BK493 := bB BK493.out hb
      replace BK494 := bB BK494.out hb
      replace BK495 := bB BK495.out hb
      replace BK504 := bB BK504.out hb
      replace BK531 := bB BK531.out hb
      replace BK551 := bB BK551.out hb
      replace BK598 := bB BK598.out hb
      replace BK607 := bB BK607.out hb
      replace BK616 := bB BK616.out hb
      replace BK625 := bB BK625.out hb
      replace BK634 := bB BK634.out hb
      replace HB := hS HB.out hb
      (try clear hb)
      (try clear hb2)
      (try clear hk)
      (try clear hi)
      (try clear ho0)
      (try clear ho1)
      obtain ⟨Ao406, co406, eo406⟩ := Kd.R_slice HO640.out
      (first | subst eo406 | (injection eo406 with f1_ f2_ f3_; have f4_ := f1_.symm; have f5_ := f3_.symm; clear f1_ f2_ f3_; subst f4_; subst f5_))
      obtain ⟨Ao407, co407, eo407⟩ := Kd.R_slice HO643.out
      (first | subst eo407 | (injection eo407 with f1_ f2_ f3_; have f4_ := f1_.symm; have f5_ := f3_.symm; clear f1_ f2_ f3_; subst f4_; subst f5_))
      refine hK.out _ _ ⟨(blk_cell BK598.out 0).trans rfl, (blk_cell BK598.out 1).trans rfl, (blk_cell BK598.out 2).trans rfl, (blk_cell BK616.out 0).trans rfl, (blk_cell BK616.out 1).trans rfl, (blk_cell BK616.out 2).trans rfl, (blk_cell BK625.out 0).trans rfl, (blk_cell BK625.out 1).trans rfl, (blk_cell BK625.out 2).trans rfl, (blk_cell BK493.out 0).trans rfl, (blk_cell BK493.out 1).trans rfl, (blk_cell BK493.out 2).trans rfl, (blk_cell BK634.out 0).trans rfl, (blk_cell BK634.out 1).trans rfl, (blk_cell BK634.out 2).trans rfl⟩ (fun hHeld => ?_)
      clear hK K
      refine norm_ (a' := ?_) ?_ ?_
      rotate_left
      ·show Act.put _ (some 230) _ = _
       simp only [Act.put, List.setIfInBounds_toArray, List.set_cons_zero, List.set_cons_succ, i64_w, i32_w]
       rfl
      refine one_ (i := 33) (N := some 231) #[true, true, true, true, true, true, true, true, true, true, true, true, true, true, true, true, true, true, true, true, true, true, true, true, true, true, true, true, true, true, true, true, true, true, false, false] rfl rfl (one_of HT_.out (by kernel_rfl)) (by decide) (fun K hK => ?_)
      refine goes_ Try.func8 (by kernel_rfl) rfl #[.agg #[.bool t626, .slice Ao388 t627.length co388, .slice Ao389 t630.length co389], .agg #[.bool t637, .slice Ao406 t638.length co406, .slice Ao407 t641.length co407]] (by rfl) rfl rfl dA ?_
      with_reducible refine (plumblaw05_one.calls kj171 t626 _ _ t627 _ _ t630 t637 _ _ t638 _ _ t641 t644 _ ?side1 (Kd.R_reads' HO629.out).2.1 ?side3 (Kd.R_reads' HO632.out).2.1 ?side5 (Kd.R_reads' HO640.out).2.1 ?side7 (Kd.R_reads' HO643.out).2.1 A400.out).mono ?_
      (case side1 => exact dC (Kd.R_reads' HO629.out).2.2)
      (case side3 => exact dC (Kd.R_reads' HO632.out).2.2)
      (case side5 => exact dC (Kd.R_reads' HO640.out).2.2)
      (case side7 => exact dC (Kd.R_reads' HO643.out).2.2)
      rintro e w408 ⟨rfl, hb⟩
      refine ⟨_, rfl, ?_⟩
      replace HO_494001 := oB HO_494001.out hb
      replace HO_494002 := oB HO_494002.out hb
      replace HO_495001 := oB HO_495001.out hb
      replace HO_495002 := oB HO_495002.out hb
      replace HO_496001 := oB HO_496001.out hb
      replace HO_496002 := oB HO_496002.out hb
      replace HO_505001 := oB HO_505001.out hb
      replace HO_505002 := oB HO_505002.out hb
      replace HO_532001 := oB HO_532001.out hb
      replace HO_532002 := oB HO_532002.out hb
      replace HO_552001 := oB HO_552001.out hb
      replace HO_552002 := oB HO_552002.out hb
      replace HO593 := oB HO593.out hb
      replace HO596 := oB HO596.out hb
      replace HO602 := oB HO602.out hb
      replace HO605 := oB HO605.out hb
      replace HO611 := oB HO611.out hb
      replace HO614 := oB HO614.out hb
      replace HO620 := oB HO620.out hb
      replace HO623 := oB HO623.out hb
      replace HO629 := oB HO629.out hb
      replace HO632 := oB HO632.out hb
      replace HO640 := oB HO640.out hb
      replace HO643 := oB HO643.out hb
      replace BK493 := bB BK493.out hb
      replace BK494 := bB BK494.out hb
      replace BK495 := bB BK495.out hb
      replace BK504 := bB BK504.out hb
      replace BK531 := bB BK531.out hb
      replace BK551 := bB BK551.out hb
      replace BK598 := bB BK598.out hb
      replace BK607 := bB BK607.out hb
      replace BK616 := bB BK616.out hb
      replace BK625 := bB BK625.out hb
      replace BK634 := bB BK634.out hb
      replace HB := hS HB.out hb
      (try clear hb)
      (try clear hb2)
      (try clear hk)
      (try clear hi)
      refine hK.out _ _ ⟨(blk_cell BK598.out 0).trans rfl, (blk_cell BK598.out 1).trans rfl, (blk_cell BK598.out 2).trans rfl, (blk_cell BK616.out 0).trans rfl, (blk_cell BK616.out 1).trans rfl, (blk_cell BK616.out 2).trans rfl, (blk_cell BK625.out 0).trans rfl, (blk_cell BK625.out 1).trans rfl, (blk_cell BK625.out 2).trans rfl, (blk_cell BK493.out 0).trans rfl, (blk_cell BK493.out 1).trans rfl, (blk_cell BK493.out 2).trans rfl, (blk_cell BK634.out 0).trans rfl, (blk_cell BK634.out 1).trans rfl, (blk_cell BK634.out 2).trans rfl⟩ (fun hHeld => ?_)
      clear hK K
      refine norm_ (a' := ?_) ?_ ?_
      rotate_left
      ·show Act.put _ (some 231) _ = _
       simp only [Act.put, List.setIfInBounds_toArray, List.set_cons_zero, List.set_cons_succ, i64_w, i32_w]
       rfl
      refine pP 34 (some 232) ?_
      refine pP 35 (some 233) ?_
      refine done_ (done_of HT_.out (by kernel_rfl)) ?_
      try go_wp2
      go_meet
      case rel => exact ⟨_, (!t644), dF, H', ⟨by have := HJ10.out; have := HJ171.out; first | omega | exact Nat.le_refl _⟩, ⟨oS HO_494001.out⟩, ⟨oS HO_494002.out⟩, ⟨oS HO_495001.out⟩, ⟨oS HO_495002.out⟩, ⟨oS HO_552001.out⟩, ⟨oS HO_552002.out⟩, ⟨dK BK493.out⟩, ⟨dK BK494.out⟩, ⟨dK BK551.out⟩, ⟨eB⟩⟩
     case rest =>
      as_aux_lemma =>
      clear HC301
      try clear GW495 GE495 NB493_495 NB495_493 NB494_495 NB495_494
      try clear GW504 GE504 NB493_504 NB504_493 NB494_504 NB504_494
      try clear NB495_504 NB504_495 GW531 GE531 NB493_531 NB531_493
      try clear NB494_531 NB531_494 NB495_531 NB531_495 NB504_531 NB531_504
      try clear NB495_551 NB551_495 NB504_551 NB551_504 NB531_551 NB551_531
      try clear HO_494001 HO_494002 HO_495001 HO_495002 HO_496001 HO_496002
      try clear HO_505001 HO_505002 HO_532001 HO_532002 HO_552001 HO_552002
      try clear BK493 BK494 BK495 BK504 BK531 BK551
      try clear A296 A297 A298 A299 A300 HO593
      try clear HO596 BK598 GW598 GE598 NB493_598 NB598_493
      try clear NB494_598 NB598_494 NB495_598 NB598_495 NB504_598 NB598_504
      try clear NB531_598 NB598_531 NB551_598 NB598_551 HO602 HO605
      try clear BK607 GW607 GE607 NB493_607 NB607_493 NB494_607
      try clear NB607_494 NB495_607 NB607_495 NB504_607 NB607_504 NB531_607
      try clear NB607_531 NB551_607 NB607_551 NB598_607 NB607_598 HO611
      try clear HO614 BK616 GW616 GE616 NB493_616 NB616_493
      try clear NB494_616 NB616_494 NB495_616 NB616_495 NB504_616 NB616_504
      try clear NB531_616 NB616_531 NB551_616 NB616_551 NB598_616 NB616_598
      try clear NB607_616 NB616_607 HO620 HO623 BK625 GW625
      try clear GE625 NB493_625 NB625_493 NB494_625 NB625_494 NB495_625
      try clear NB625_495 NB504_625 NB625_504 NB531_625 NB625_531 NB551_625
      try clear NB625_551 NB598_625 NB625_598 NB607_625 NB625_607 NB616_625
      try clear NB625_616 HO629 HO632 BK634 GW634 GE634
      try clear NB493_634 NB634_493 NB494_634 NB634_494 NB495_634 NB634_495
      try clear NB504_634 NB634_504 NB531_634 NB634_531 NB551_634 NB634_551
      try clear NB598_634 NB634_598 NB607_634 NB634_607 NB616_634 NB634_616
      try clear NB625_634 NB634_625
      obtain ⟨kq, x233_300, rfl, HA, HJ300, HO_494001, HO_494002, HO_495001, HO_495002, HO_552001, HO_552002, BK493, BK494, BK551, HB⟩ := hcut
      cases kq with
      | zero => exact absurd HA.out (by simp [plumblaw05_RatField.j2])
      | succ kj300 =>
       have H := HA.out
       clear HA
       simp only [plumblaw05_RatField.j2] at H
       replace H := nR H
       obtain ⟨rfl, H⟩ := H
       (try dsimp only at H)
       replace H := oA H
       obtain ⟨⟨t645, t646, t649⟩, A410, H⟩ := H
       (try dsimp only at H)
       replace H := oA H
       obtain ⟨⟨t652, t653, t656, t659⟩, A411, H⟩ := H
       (try dsimp only at H)
       replace H := oA H
       obtain ⟨⟨t661, t662, t665⟩, A412, H⟩ := H
       (try dsimp only at H)
       replace H := oA H
       obtain ⟨⟨t668, t669, t672, t675⟩, A413, H⟩ := H
       (try dsimp only at H)
       have HC414 := aM H
       clear H
       try go_wp2
       replace HO_494001 := aM (Kd.R_drew HO_494001.out)
       replace HO_494002 := aM (Kd.R_drew HO_494002.out)
       replace HO_495001 := aM (Kd.R_drew HO_495001.out)
       replace HO_495002 := aM (Kd.R_drew HO_495002.out)
       replace HO_552001 := aM (Kd.R_drew HO_552001.out)
       replace HO_552002 := aM (Kd.R_drew HO_552002.out)
       replace BK493 := aM (blk_drew BK493.out)
       replace BK494 := aM (blk_drew BK494.out)
       replace BK551 := aM (blk_drew BK551.out)
       replace HB := aM (below_drew1 HB.out)
       refine start_ (n := 9) (S := fun w' => w'.cell? ⟨gb493, 0, none⟩ = some (.bool t471) ∧ w'.cell? ⟨gb493, 1, none⟩ = some (.slice Ao31 t472.length co31) ∧ w'.cell? ⟨gb493, 2, none⟩ = some (.slice Ao32 t475.length co32)) (ds := []) #[false, false, false, false, false, false, false, false, false] (by kernel_rfl) rfl rfl (cz3 BK493.out) (fun hHeld => ?_); refine with_tabW plumblaw05_RatField.tab25 plumblaw05_RatField.bits25 (fun HT_ HW_ => ?_)
       generalize wc.drew = w415 at HO_494001 HO_494002 HO_495001 HO_495002 HO_552001 HO_552002 BK493 BK494 BK551 HB hHeld ⊢
       refine pH3 0 (some 235) hHeld ?_
       refine join_ (σ := Value × Value × Value × Value × Nat) 2 #[true, true, true, true, true, true, true, false, false] (fun s_ => [(236, .agg #[.bool t645, s_.1, s_.2.1]), (237, .tuple #[.agg #[.bool t652, s_.2.2.1, s_.2.2.2.1], .bool t659]), (31, .pointer (some ⟨s_.2.2.2.2, 0, none⟩)), (234, .tuple #[.agg #[.bool t652, s_.2.2.1, s_.2.2.2.1], .bool t659]), (238, .agg #[.bool t652, s_.2.2.1, s_.2.2.2.1]), (239, .bool t659)]) (fun s_ w' => (w'.cell? ⟨gb493, 0, none⟩ = some (.bool t471) ∧ w'.cell? ⟨gb493, 1, none⟩ = some (.slice Ao31 t472.length co31) ∧ w'.cell? ⟨gb493, 2, none⟩ = some (.slice Ao32 t475.length co32)) ∧ (Kd.R (Kd.int .u64) 44 w' w.heap.size (fun k_ => some k_ ≠ (s_.2.1 : Value).ownBlock ∧ some k_ ≠ (s_.2.2.1 : Value).ownBlock ∧ some k_ ≠ (s_.2.2.2.1 : Value).ownBlock ∧ oN Ao31 t472 co31 k_ ∧ oN Ao32 t475 co32 k_ ∧ oN Ao38 t479 co38 k_ ∧ oN Ao39 t482 co39 k_ ∧ oN Ao190 t544 co190 k_ ∧ oN Ao191 t547 co191 k_) s_.1 t646) ∧ (Kd.R (Kd.int .u64) 44 w' w.heap.size (fun k_ => some k_ ≠ (s_.1 : Value).ownBlock ∧ some k_ ≠ (s_.2.2.1 : Value).ownBlock ∧ some k_ ≠ (s_.2.2.2.1 : Value).ownBlock ∧ oN Ao31 t472 co31 k_ ∧ oN Ao32 t475 co32 k_ ∧ oN Ao38 t479 co38 k_ ∧ oN Ao39 t482 co39 k_ ∧ oN Ao190 t544 co190 k_ ∧ oN Ao191 t547 co191 k_) s_.2.1 t649) ∧ (Kd.R (Kd.int .u64) 44 w' w.heap.size (fun k_ => some k_ ≠ (s_.1 : Value).ownBlock ∧ some k_ ≠ (s_.2.1 : Value).ownBlock ∧ some k_ ≠ (s_.2.2.2.1 : Value).ownBlock ∧ oN Ao31 t472 co31 k_ ∧ oN Ao32 t475 co32 k_ ∧ oN Ao38 t479 co38 k_ ∧ oN Ao39 t482 co39 k_ ∧ oN Ao190 t544 co190 k_ ∧ oN Ao191 t547 co191 k_) s_.2.2.1 t653) ∧ (Kd.R (Kd.int .u64) 44 w' w.heap.size (fun k_ => some k_ ≠ (s_.1 : Value).ownBlock ∧ some k_ ≠ (s_.2.1 : Value).ownBlock ∧ some k_ ≠ (s_.2.2.1 : Value).ownBlock ∧ oN Ao31 t472 co31 k_ ∧ oN Ao32 t475 co32 k_ ∧ oN Ao38 t479 co38 k_ ∧ oN Ao39 t482 co39 k_ ∧ oN Ao190 t544 co190 k_ ∧ oN Ao191 t547 co191 k_) s_.2.2.2.1 t656) ∧ (Kd.R (Kd.int .u64) 44 w' w.heap.size (fun k_ => some k_ ≠ (s_.1 : Value).ownBlock ∧ some k_ ≠ (s_.2.1 : Value).ownBlock ∧ some k_ ≠ (s_.2.2.1 : Value).ownBlock ∧ some k_ ≠ (s_.2.2.2.1 : Value).ownBlock ∧ oN Ao32 t475 co32 k_ ∧ oN Ao38 t479 co38 k_ ∧ oN Ao39 t482 co39 k_ ∧ oN Ao190 t544 co190 k_ ∧ oN Ao191 t547 co191 k_) (.slice Ao31 t472.length co31) t472) ∧ (Kd.R (Kd.int .u64) 44 w' w.heap.size (fun k_ => some k_ ≠ (s_.1 : Value).ownBlock ∧ some k_ ≠ (s_.2.1 : Value).ownBlock ∧ some k_ ≠ (s_.2.2.1 : Value).ownBlock ∧ some k_ ≠ (s_.2.2.2.1 : Value).ownBlock ∧ oN Ao31 t472 co31 k_ ∧ oN Ao38 t479 co38 k_ ∧ oN Ao39 t482 co39 k_ ∧ oN Ao190 t544 co190 k_ ∧ oN Ao191 t547 co191 k_) (.slice Ao32 t475.length co32) t475) ∧ (Kd.R (Kd.int .u64) 44 w' w.heap.size (fun k_ => some k_ ≠ (s_.1 : Value).ownBlock ∧ some k_ ≠ (s_.2.1 : Value).ownBlock ∧ some k_ ≠ (s_.2.2.1 : Value).ownBlock ∧ some k_ ≠ (s_.2.2.2.1 : Value).ownBlock ∧ oN Ao31 t472 co31 k_ ∧ oN Ao32 t475 co32 k_ ∧ oN Ao39 t482 co39 k_ ∧ oN Ao190 t544 co190 k_ ∧ oN Ao191 t547 co191 k_) (.slice Ao38 t479.length co38) t479) ∧ (Kd.R (Kd.int .u64) 44 w' w.heap.size (fun k_ => some k_ ≠ (s_.1 : Value).ownBlock ∧ some k_ ≠ (s_.2.1 : Value).ownBlock ∧ some k_ ≠ (s_.2.2.1 : Value).ownBlock ∧ some k_ ≠ (s_.2.2.2.1 : Value).ownBlock ∧ oN Ao31 t472 co31 k_ ∧ oN Ao32 t475 co32 k_ ∧ oN Ao38 t479 co38 k_ ∧ oN Ao190 t544 co190 k_ ∧ oN Ao191 t547 co191 k_) (.slice Ao39 t482.length co39) t482) ∧ (Kd.R (Kd.int .u64) 44 w' w.heap.size (fun k_ => some k_ ≠ (s_.1 : Value).ownBlock ∧ some k_ ≠ (s_.2.1 : Value).ownBlock ∧ some k_ ≠ (s_.2.2.1 : Value).ownBlock ∧ some k_ ≠ (s_.2.2.2.1 : Value).ownBlock ∧ oN Ao31 t472 co31 k_ ∧ oN Ao32 t475 co32 k_ ∧ oN Ao38 t479 co38 k_ ∧ oN Ao39 t482 co39 k_ ∧ oN Ao191 t547 co191 k_) (.slice Ao190 t544.length co190) t544) ∧ (Kd.R (Kd.int .u64) 44 w' w.heap.size (fun k_ => some k_ ≠ (s_.1 : Value).ownBlock ∧ some k_ ≠ (s_.2.1 : Value).ownBlock ∧ some k_ ≠ (s_.2.2.1 : Value).ownBlock ∧ some k_ ≠ (s_.2.2.2.1 : Value).ownBlock ∧ oN Ao31 t472 co31 k_ ∧ oN Ao32 t475 co32 k_ ∧ oN Ao38 t479 co38 k_ ∧ oN Ao39 t482 co39 k_ ∧ oN Ao190 t544 co190 k_) (.slice Ao191 t547.length co191) t547) ∧ (w'.heap[gb493]? = some (.cells #[.bool t471, .slice Ao31 t472.length co31, .slice Ao32 t475.length co32] 25 (0, 0))) ∧ (w'.heap[gb494]? = some (.cells #[.bool t478, .slice Ao38 t479.length co38, .slice Ao39 t482.length co39] 25 (0, 0))) ∧ (w'.heap[gb551]? = some (.cells #[.bool t543, .slice Ao190 t544.length co190, .slice Ao191 t547.length co191] 25 (0, 0))) ∧ (w'.heap[s_.2.2.2.2]? = some (.cells #[.bool false, .slice none 0 0, .slice none 0 0] 25 (0, 0))) ∧ (w.heap.size ≤ s_.2.2.2.2) ∧ (w.heap.size ≤ s_.2.2.2.2) ∧ (gb493 ≠ s_.2.2.2.2) ∧ (s_.2.2.2.2 ≠ gb493) ∧ (gb494 ≠ s_.2.2.2.2) ∧ (s_.2.2.2.2 ≠ gb494) ∧ (gb551 ≠ s_.2.2.2.2) ∧ (s_.2.2.2.2 ≠ gb551) ∧ (Below w.heap.size w w')) ?_ ?_
       rotate_left
       ·intro hCont
        refine two_ (i := 1) (j := 6) (Ni := some 236) (Nj := some 31) #[true, true, false, false, false, false, false, false, false] #[true, false, false, false, false, false, true, false, false] rfl rfl rfl rfl (two_of HT_.out (by kernel_rfl)) (by decide) (by decide) (fun K hK => ?_) (fun K hK => ?_)
        ·skip
         refine goes_ Try.func11 (by kernel_rfl) rfl #[.int .i64 1] (by rfl) rfl rfl dA ?_
         with_reducible refine (rat_Int.calls 1 t645 t646 t649 _ A410.out).mono ?_
         rintro e w416 ⟨v647, v650, rfl, ho0, ho1, hb⟩
         refine ⟨_, rfl, ?_⟩
         have HO648 := aM (Kd.R_lower (nW (nW (nW (nW (nW (nW ho0 HO_494001.out) HO_494002.out) HO_495001.out) HO_495002.out) HO_552001.out) HO_552002.out) (below_size eB))
         have HO651 := aM (Kd.R_lower (nW (nW (nW (nW (nW (nW ho1 HO_494001.out) HO_494002.out) HO_495001.out) HO_495002.out) HO_552001.out) HO_552002.out) (below_size eB))
         replace HO_494001 := tT HO_494001.out hb ho0 ho1
         replace HO_494002 := tT HO_494002.out hb ho0 ho1
         replace HO_495001 := tT HO_495001.out hb ho0 ho1
         replace HO_495002 := tT HO_495002.out hb ho0 ho1
         replace HO_552001 := tT HO_552001.out hb ho0 ho1
         replace HO_552002 := tT HO_552002.out hb ho0 ho1
         replace BK493 := bB BK493.out hb
         replace BK494 := bB BK494.out hb
         replace BK551 := bB BK551.out hb
         replace HB := hS HB.out hb
         (try clear hb)
         (try clear hb2)
         (try clear hk)
         (try clear hi)
         (try clear ho0)
         (try clear ho1)
         obtain ⟨Ao417, co417, eo417⟩ := Kd.R_slice HO648.out
         (first | subst eo417 | (injection eo417 with f1_ f2_ f3_; have f4_ := f1_.symm; have f5_ := f3_.symm; clear f1_ f2_ f3_; subst f4_; subst f5_))
         obtain ⟨Ao418, co418, eo418⟩ := Kd.R_slice HO651.out
         (first | subst eo418 | (injection eo418 with f1_ f2_ f3_; have f4_ := f1_.symm; have f5_ := f3_.symm; clear f1_ f2_ f3_; subst f4_; subst f5_))
         refine hK.out _ _ (cz3 BK493.out) (fun hHeld => ?_)
         clear hK K
         refine norm_ (a' := ?_) ?_ ?_
         rotate_left
         ·show Act.put _ (some 236) _ = _
          simp only [Act.put, List.setIfInBounds_toArray, List.set_cons_zero, List.set_cons_succ, i64_w, i32_w]
          rfl
         refine two_ (i := 2) (j := 6) (Ni := some 237) (Nj := some 31) #[true, true, true, false, false, false, false, false, false] #[true, true, false, false, false, false, true, false, false] rfl rfl rfl rfl (two_of HT_.out (by kernel_rfl)) (by decide) (by decide) (fun K hK => ?_) (fun K hK => ?_)
         ·skip
          refine goes_ Try.func9 (by kernel_rfl) rfl #[.agg #[.bool t471, .slice Ao31 t472.length co31, .slice Ao32 t475.length co32], .agg #[.bool t645, .slice Ao417 t646.length co417, .slice Ao418 t649.length co418]] (by rfl) rfl rfl dA ?_
          with_reducible refine (plumblaw05_mul.calls kj300 t471 _ _ t472 _ _ t475 t645 _ _ t646 _ _ t649 t652 t653 t656 t659 _ ?side1 (Kd.R_reads' HO_494001.out).2.1 ?side3 (Kd.R_reads' HO_494002.out).2.1 ?side5 (Kd.R_reads' HO648.out).2.1 ?side7 (Kd.R_reads' HO651.out).2.1 A411.out).mono ?_
          (case side1 => exact dC (Kd.R_reads' HO_494001.out).2.2)
          (case side3 => exact dC (Kd.R_reads' HO_494002.out).2.2)
          (case side5 => exact dC (Kd.R_reads' HO648.out).2.2)
          (case side7 => exact dC (Kd.R_reads' HO651.out).2.2)
          rintro e w419 ⟨v654, v657, rfl, ho0, ho1, hb⟩
          refine ⟨_, rfl, ?_⟩
          have HO655 := aM (Kd.R_lower (nW (nW (nW (nW (nW (nW (nW (nW ho0 HO_494001.out) HO_494002.out) HO_495001.out) HO_495002.out) HO_552001.out) HO_552002.out) HO648.out) HO651.out) (below_size eB))
          have HO658 := aM (Kd.R_lower (nW (nW (nW (nW (nW (nW (nW (nW ho1 HO_494001.out) HO_494002.out) HO_495001.out) HO_495002.out) HO_552001.out) HO_552002.out) HO648.out) HO651.out) (below_size eB))
          replace HO_494001 := tT HO_494001.out hb ho0 ho1
          replace HO_494002 := tT HO_494002.out hb ho0 ho1
          replace HO_495001 := tT HO_495001.out hb ho0 ho1
          replace HO_495002 := tT HO_495002.out hb ho0 ho1
          replace HO_552001 := tT HO_552001.out hb ho0 ho1
          replace HO_552002 := tT HO_552002.out hb ho0 ho1
          replace HO648 := tT HO648.out hb ho0 ho1
          replace HO651 := tT HO651.out hb ho0 ho1
          replace BK493 := bB BK493.out hb
          replace BK494 := bB BK494.out hb
          replace BK551 := bB BK551.out hb
          replace HB := hS HB.out hb
          (try clear hb)
          (try clear hb2)
          (try clear hk)
          (try clear hi)
          (try clear ho0)
          (try clear ho1)
          refine hK.out _ _ (cz3 BK493.out) (fun hHeld => ?_)
          clear hK K
          refine norm_ (a' := ?_) ?_ ?_
          rotate_left
          ·show Act.put _ (some 237) _ = _
           simp only [Act.put, List.setIfInBounds_toArray, List.set_cons_zero, List.set_cons_succ, i64_w, i32_w]
           rfl
          refine pP 3 (some 234) ?_
          refine pP 4 (some 238) ?_
          refine pP 5 (some 239) ?_
          refine one_ (i := 6) (N := some 31) #[true, true, true, true, true, true, true, false, false] rfl rfl (one_of HT_.out (by kernel_rfl)) (by decide) (fun K hK => ?_)
          refine box_step ?hg (N := 31) ?hd (cs := #[.bool false, .slice none 0 0, .slice none 0 0]) (t := 25) ?hr ?_; (case hd => rfl); (case hg => rfl); (case hr => first | (go_simp; done) | (go_simp; rfl))
          intro gb660 hg w420 hbox hb
          replace HO_494001 := oB HO_494001.out hb
          replace HO_494002 := oB HO_494002.out hb
          replace HO_495001 := oB HO_495001.out hb
          replace HO_495002 := oB HO_495002.out hb
          replace HO_552001 := oB HO_552001.out hb
          replace HO_552002 := oB HO_552002.out hb
          replace HO648 := oB HO648.out hb
          replace HO651 := oB HO651.out hb
          replace HO655 := oB HO655.out hb
          replace HO658 := oB HO658.out hb
          have BK660 := aM (hbox)
          have GW660 : Aside0 (w.heap.size ≤ gb660) := gE hg
          have GE660 : Aside0 (w.heap.size ≤ gb660) := gE hg
          replace HB := hS HB.out hb
          have NB493_660 := nL hg BK493.out
          have NB660_493 := nG hg BK493.out
          replace BK493 := bB BK493.out hb
          have NB494_660 := nL hg BK494.out
          have NB660_494 := nG hg BK494.out
          replace BK494 := bB BK494.out hb
          have NB551_660 := nL hg BK551.out
          have NB660_551 := nG hg BK551.out
          replace BK551 := bB BK551.out hb
          clear hb hbox hg
          refine hK.out _ _ (cz3 BK493.out) (fun hHeld => ?_)
          clear hK K
          refine norm_ (a' := ?_) ?_ ?_
          rotate_left
          ·show Act.put _ (some 31) _ = _
           simp only [Act.put, List.setIfInBounds_toArray, List.set_cons_zero, List.set_cons_succ, i64_w, i32_w]
           rfl
          exact norm_ (by simp only [putAll, Act.put, List.setIfInBounds_toArray, List.set_cons_zero, List.set_cons_succ]) (hCont (.slice Ao417 t646.length co417, .slice Ao418 t649.length co418, v654, v657, gb660) _ ⟨hHeld, (oS HO648.out), (oS HO651.out), (oS HO655.out), (oS HO658.out), (oS HO_494001.out), (oS HO_494002.out), (oS HO_495001.out), (oS HO_495002.out), (oS HO_552001.out), (oS HO_552002.out), (dK BK493.out), (dK BK494.out), (dK BK551.out), (dK BK660.out), GW660.out, GE660.out, NB493_660.out, NB660_493.out, NB494_660.out, NB660_494.out, NB551_660.out, NB660_551.out, eB⟩)
         ·skip
          refine box_step ?hg (N := 31) ?hd (cs := #[.bool false, .slice none 0 0, .slice none 0 0]) (t := 25) ?hr ?_; (case hd => rfl); (case hg => rfl); (case hr => first | (go_simp; done) | (go_simp; rfl))
          intro gb660 hg w417 hbox hb
          replace HO_494001 := oB HO_494001.out hb
          replace HO_494002 := oB HO_494002.out hb
          replace HO_495001 := oB HO_495001.out hb
          replace HO_495002 := oB HO_495002.out hb
          replace HO_552001 := oB HO_552001.out hb
          replace HO_552002 := oB HO_552002.out hb
          replace HO648 := oB HO648.out hb
          replace HO651 := oB HO651.out hb
          have BK660 := aM (hbox)
          have GW660 : Aside0 (w.heap.size ≤ gb660) := gE hg
          have GE660 : Aside0 (w.heap.size ≤ gb660) := gE hg
          replace HB := hS HB.out hb
          have NB493_660 := nL hg BK493.out
          have NB660_493 := nG hg BK493.out
          replace BK493 := bB BK493.out hb
          have NB494_660 := nL hg BK494.out
          have NB660_494 := nG hg BK494.out
          replace BK494 := bB BK494.out hb
          have NB551_660 := nL hg BK551.out
          have NB660_551 := nG hg BK551.out
          replace BK551 := bB BK551.out hb
          clear hb hbox hg
          obtain ⟨Ao418, co418, eo418⟩ := Kd.R_slice HO648.out
          (first | subst eo418 | (injection eo418 with f1_ f2_ f3_; have f4_ := f1_.symm; have f5_ := f3_.symm; clear f1_ f2_ f3_; subst f4_; subst f5_))
          obtain ⟨Ao419, co419, eo419⟩ := Kd.R_slice HO651.out
          (first | subst eo419 | (injection eo419 with f1_ f2_ f3_; have f4_ := f1_.symm; have f5_ := f3_.symm; clear f1_ f2_ f3_; subst f4_; subst f5_))
          refine hK.out _ _ (cz3 BK493.out) (fun hHeld => ?_)
          clear hK K
          refine norm_ (a' := ?_) ?_ ?_
          rotate_left
          ·show Act.put _ (some 31) _ = _
           simp only [Act.put, List.setIfInBounds_toArray, List.set_cons_zero, List.set_cons_succ, i64_w, i32_w]
           rfl
          refine one_ (i := 2) (N := some 237) #[true, true, true, false, false, false, true, false, false] rfl rfl (one_of HT_.out (by kernel_rfl)) (by decide) (fun K hK => ?_)
          refine goes_ Try.func9 (by kernel_rfl) rfl #[.agg #[.bool t471, .slice Ao31 t472.length co31, .slice Ao32 t475.length co32], .agg #[.bool t645, .slice Ao418 t646.length co418, .slice Ao419 t649.length co419]] (by rfl) rfl rfl dA ?_
          with_reducible refine (plumblaw05_mul.calls kj300 t471 _ _ t472 _ _ t475 t645 _ _ t646 _ _ t649 t652 t653 t656 t659 _ ?side1 (Kd.R_reads' HO_494001.out).2.1 ?side3 (Kd.R_reads' HO_494002.out).2.1 ?side5 (Kd.R_reads' HO648.out).2.1 ?side7 (Kd.R_reads' HO651.out).2.1 A411.out).mono ?_
          (case side1 => exact dC (Kd.R_reads' HO_494001.out).2.2)
          (case side3 => exact dC (Kd.R_reads' HO_494002.out).2.2)
          (case side5 => exact dC (Kd.R_reads' HO648.out).2.2)
          (case side7 => exact dC (Kd.R_reads' HO651.out).2.2)
          rintro e w420 ⟨v654, v657, rfl, ho0, ho1, hb⟩
          refine ⟨_, rfl, ?_⟩
          have HO655 := aM (Kd.R_lower (nW (nW (nW (nW (nW (nW (nW (nW ho0 HO_494001.out) HO_494002.out) HO_495001.out) HO_495002.out) HO_552001.out) HO_552002.out) HO648.out) HO651.out) (below_size eB))
          have HO658 := aM (Kd.R_lower (nW (nW (nW (nW (nW (nW (nW (nW ho1 HO_494001.out) HO_494002.out) HO_495001.out) HO_495002.out) HO_552001.out) HO_552002.out) HO648.out) HO651.out) (below_size eB))
          replace HO_494001 := tT HO_494001.out hb ho0 ho1
          replace HO_494002 := tT HO_494002.out hb ho0 ho1
          replace HO_495001 := tT HO_495001.out hb ho0 ho1
          replace HO_495002 := tT HO_495002.out hb ho0 ho1
          replace HO_552001 := tT HO_552001.out hb ho0 ho1
          replace HO_552002 := tT HO_552002.out hb ho0 ho1
          replace HO648 := tT HO648.out hb ho0 ho1
          replace HO651 := tT HO651.out hb ho0 ho1
          replace BK493 := bB BK493.out hb
          replace BK494 := bB BK494.out hb
          replace BK551 := bB BK551.out hb
          replace BK660 := bB BK660.out hb
          replace HB := hS HB.out hb
          (try clear hb)
          (try clear hb2)
          (try clear hk)
          (try clear hi)
          (try clear ho0)
          (try clear ho1)
          refine hK.out _ _ (cz3 BK493.out) (fun hHeld => ?_)
          clear hK K
          refine norm_ (a' := ?_) ?_ ?_
          rotate_left
          ·show Act.put _ (some 237) _ = _
           simp only [Act.put, List.setIfInBounds_toArray, List.set_cons_zero, List.set_cons_succ, i64_w, i32_w]
           rfl
          refine pP 3 (some 234) ?_
          refine pP 4 (some 238) ?_
          refine pP 5 (some 239) ?_
          exact norm_ (by simp only [putAll, Act.put, List.setIfInBounds_toArray, List.set_cons_zero, List.set_cons_succ]) (hCont (.slice Ao418 t646.length co418, .slice Ao419 t649.length co419, v654, v657, gb660) _ ⟨hHeld, (oS HO648.out), (oS HO651.out), (oS HO655.out), (oS HO658.out), (oS HO_494001.out), (oS HO_494002.out), (oS HO_495001.out), (oS HO_495002.out), (oS HO_552001.out), (oS HO_552002.out), (dK BK493.out), (dK BK494.out), (dK BK551.out), (dK BK660.out), GW660.out, GE660.out, NB493_660.out, NB660_493.out, NB494_660.out, NB660_494.out, NB551_660.out, NB660_551.out, eB⟩)
        ·skip
         refine box_step ?hg (N := 31) ?hd (cs := #[.bool false, .slice none 0 0, .slice none 0 0]) (t := 25) ?hr ?_; (case hd => rfl); (case hg => rfl); (case hr => first | (go_simp; done) | (go_simp; rfl))
         intro gb660 hg w416 hbox hb
         replace HO_494001 := oB HO_494001.out hb
         replace HO_494002 := oB HO_494002.out hb
         replace HO_495001 := oB HO_495001.out hb
         replace HO_495002 := oB HO_495002.out hb
         replace HO_552001 := oB HO_552001.out hb
         replace HO_552002 := oB HO_552002.out hb
         have BK660 := aM (hbox)
         have GW660 : Aside0 (w.heap.size ≤ gb660) := gE hg
         have GE660 : Aside0 (w.heap.size ≤ gb660) := gE hg
         replace HB := hS HB.out hb
         have NB493_660 := nL hg BK493.out
         have NB660_493 := nG hg BK493.out
         replace BK493 := bB BK493.out hb
         have NB494_660 := nL hg BK494.out
         have NB660_494 := nG hg BK494.out
         replace BK494 := bB BK494.out hb
         have NB551_660 := nL hg BK551.out
         have NB660_551 := nG hg BK551.out
         replace BK551 := bB BK551.out hb
         clear hb hbox hg
         refine hK.out _ _ (cz3 BK493.out) (fun hHeld => ?_)
         clear hK K
         refine norm_ (a' := ?_) ?_ ?_
         rotate_left
         ·show Act.put _ (some 31) _ = _
          simp only [Act.put, List.setIfInBounds_toArray, List.set_cons_zero, List.set_cons_succ, i64_w, i32_w]
          rfl
         refine one_ (i := 1) (N := some 236) #[true, true, false, false, false, false, true, false, false] rfl rfl (one_of HT_.out (by kernel_rfl)) (by decide) (fun K hK => ?_)
         refine goes_ Try.func11 (by kernel_rfl) rfl #[.int .i64 1] (by rfl) rfl rfl dA ?_
         with_reducible refine (rat_Int.calls 1 t645 t646 t649 _ A410.out).mono ?_
         rintro e w417 ⟨v647, v650, rfl, ho0, ho1, hb⟩
         refine ⟨_, rfl, ?_⟩
         have HO648 := aM (Kd.R_lower (nW (nW (nW (nW (nW (nW ho0 HO_494001.out) HO_494002.out) HO_495001.out) HO_495002.out) HO_552001.out) HO_552002.out) (below_size eB))
         have HO651 := aM (Kd.R_lower (nW (nW (nW (nW (nW (nW ho1 HO_494001.out) HO_494002.out) HO_495001.out) HO_495002.out) HO_552001.out) HO_552002.out) (below_size eB))
         replace HO_494001 := tT HO_494001.out hb ho0 ho1
         replace HO_494002 := tT HO_494002.out hb ho0 ho1
         replace HO_495001 := tT HO_495001.out hb ho0 ho1
         replace HO_495002 := tT HO_495002.out hb ho0 ho1
         replace HO_552001 := tT HO_552001.out hb ho0 ho1
         replace HO_552002 := tT HO_552002.out hb ho0 ho1
         replace BK493 := bB BK493.out hb
         replace BK494 := bB BK494.out hb
         replace BK551 := bB BK551.out hb
         replace BK660 := bB BK660.out hb
         replace HB := hS HB.out hb
         (try clear hb)
         (try clear hb2)
         (try clear hk)
         (try clear hi)
         (try clear ho0)
         (try clear ho1)
         obtain ⟨Ao418, co418, eo418⟩ := Kd.R_slice HO648.out
         (first | subst eo418 | (injection eo418 with f1_ f2_ f3_; have f4_ := f1_.symm; have f5_ := f3_.symm; clear f1_ f2_ f3_; subst f4_; subst f5_))
         obtain ⟨Ao419, co419, eo419⟩ := Kd.R_slice HO651.out
         (first | subst eo419 | (injection eo419 with f1_ f2_ f3_; have f4_ := f1_.symm; have f5_ := f3_.symm; clear f1_ f2_ f3_; subst f4_; subst f5_))
         refine hK.out _ _ (cz3 BK493.out) (fun hHeld => ?_)
         clear hK K
         refine norm_ (a' := ?_) ?_ ?_
         rotate_left
         ·show Act.put _ (some 236) _ = _
          simp only [Act.put, List.setIfInBounds_toArray, List.set_cons_zero, List.set_cons_succ, i64_w, i32_w]
          rfl
         refine one_ (i := 2) (N := some 237) #[true, true, true, false, false, false, true, false, false] rfl rfl (one_of HT_.out (by kernel_rfl)) (by decide) (fun K hK => ?_)
         refine goes_ Try.func9 (by kernel_rfl) rfl #[.agg #[.bool t471, .slice Ao31 t472.length co31, .slice Ao32 t475.length co32], .agg #[.bool t645, .slice Ao418 t646.length co418, .slice Ao419 t649.length co419]] (by rfl) rfl rfl dA ?_
         with_reducible refine (plumblaw05_mul.calls kj300 t471 _ _ t472 _ _ t475 t645 _ _ t646 _ _ t649 t652 t653 t656 t659 _ ?side1 (Kd.R_reads' HO_494001.out).2.1 ?side3 (Kd.R_reads' HO_494002.out).2.1 ?side5 (Kd.R_reads' HO648.out).2.1 ?side7 (Kd.R_reads' HO651.out).2.1 A411.out).mono ?_
         (case side1 => exact dC (Kd.R_reads' HO_494001.out).2.2)
         (case side3 => exact dC (Kd.R_reads' HO_494002.out).2.2)
         (case side5 => exact dC (Kd.R_reads' HO648.out).2.2)
         (case side7 => exact dC (Kd.R_reads' HO651.out).2.2)
         rintro e w420 ⟨v654, v657, rfl, ho0, ho1, hb⟩
         refine ⟨_, rfl, ?_⟩
         have HO655 := aM (Kd.R_lower (nW (nW (nW (nW (nW (nW (nW (nW ho0 HO_494001.out) HO_494002.out) HO_495001.out) HO_495002.out) HO_552001.out) HO_552002.out) HO648.out) HO651.out) (below_size eB))
         have HO658 := aM (Kd.R_lower (nW (nW (nW (nW (nW (nW (nW (nW ho1 HO_494001.out) HO_494002.out) HO_495001.out) HO_495002.out) HO_552001.out) HO_552002.out) HO648.out) HO651.out) (below_size eB))
         replace HO_494001 := tT HO_494001.out hb ho0 ho1
         replace HO_494002 := tT HO_494002.out hb ho0 ho1
         replace HO_495001 := tT HO_495001.out hb ho0 ho1
         replace HO_495002 := tT HO_495002.out hb ho0 ho1
         replace HO_552001 := tT HO_552001.out hb ho0 ho1
         replace HO_552002 := tT HO_552002.out hb ho0 ho1
         replace HO648 := tT HO648.out hb ho0 ho1
         replace HO651 := tT HO651.out hb ho0 ho1
         replace BK493 := bB BK493.out hb
         replace BK494 := bB BK494.out hb
         replace BK551 := bB BK551.out hb
         replace BK660 := bB BK660.out hb
         replace HB := hS HB.out hb
         (try clear hb)
         (try clear hb2)
         (try clear hk)
         (try clear hi)
         (try clear ho0)
         (try clear ho1)
         refine hK.out _ _ (cz3 BK493.out) (fun hHeld => ?_)
         clear hK K
         refine norm_ (a' := ?_) ?_ ?_
         rotate_left
         ·show Act.put _ (some 237) _ = _
          simp only [Act.put, List.setIfInBounds_toArray, List.set_cons_zero, List.set_cons_succ, i64_w, i32_w]
          rfl
         refine pP 3 (some 234) ?_
         refine pP 4 (some 238) ?_
         refine pP 5 (some 239) ?_
         exact norm_ (by simp only [putAll, Act.put, List.setIfInBounds_toArray, List.set_cons_zero, List.set_cons_succ]) (hCont (.slice Ao418 t646.length co418, .slice Ao419 t649.length co419, v654, v657, gb660) _ ⟨hHeld, (oS HO648.out), (oS HO651.out), (oS HO655.out), (oS HO658.out), (oS HO_494001.out), (oS HO_494002.out), (oS HO_495001.out), (oS HO_495002.out), (oS HO_552001.out), (oS HO_552002.out), (dK BK493.out), (dK BK494.out), (dK BK551.out), (dK BK660.out), GW660.out, GE660.out, NB493_660.out, NB660_493.out, NB494_660.out, NB660_494.out, NB551_660.out, NB660_551.out, eB⟩)
       rintro ⟨v647, v650, v654, v657, gb660⟩ w421 ⟨hS_, h0_, h1_, h2_, h3_, h4_, h5_, h6_, h7_, h8_, h9_, h10_, h11_, h12_, h13_, h14_, h15_, h16_, h17_, h18_, h19_, h20_, h21_, h22_⟩
       (try dsimp only at h0_ h1_ h2_ h3_ h4_ h5_ h6_ h7_ h8_ h9_ h10_ h11_ h12_ h13_ h14_ h15_ h16_ h17_ h18_ h19_ h20_ h21_ h22_)
       replace HO648 := aM h0_
       replace HO651 := aM h1_
       replace HO655 := aM h2_
       replace HO658 := aM h3_
       replace HO_494001 := aM h4_
       replace HO_494002 := aM h5_
       replace HO_495001 := aM h6_
       replace HO_495002 := aM h7_
       replace HO_552001 := aM h8_
       replace HO_552002 := aM h9_
       replace BK493 := aM h10_
       replace BK494 := aM h11_
       replace BK551 := aM h12_
       replace BK660 := aM h13_
       replace GW660 := aM h14_
       replace GE660 := aM h15_
       replace NB493_660 := aM h16_
       replace NB660_493 := aM h17_
       replace NB494_660 := aM h18_
       replace NB660_494 := aM h19_
       replace NB551_660 := aM h20_
       replace NB660_551 := aM h21_
       replace HB := aM h22_
       clear h0_ h1_ h2_ h3_ h4_ h5_ h6_ h7_ h8_ h9_ h10_ h11_ h12_ h13_ h14_ h15_ h16_ h17_ h18_ h19_ h20_ h21_ h22_
       have hHeld : w421.cell? ⟨gb493, 0, none⟩ = some (.bool t471) ∧ w421.cell? ⟨gb493, 1, none⟩ = some (.slice Ao31 t472.length co31) ∧ w421.cell? ⟨gb493, 2, none⟩ = some (.slice Ao32 t475.length co32) := hS_
       obtain ⟨Ao423, co423, eo423⟩ := Kd.R_slice HO655.out
       (first | subst eo423 | (injection eo423 with f1_ f2_ f3_; have f4_ := f1_.symm; have f5_ := f3_.symm; clear f1_ f2_ f3_; subst f4_; subst f5_))
       obtain ⟨Ao425, co425, eo425⟩ := Kd.R_slice HO658.out
       (first | subst eo425 | (injection eo425 with f1_ f2_ f3_; have f4_ := f1_.symm; have f5_ := f3_.symm; clear f1_ f2_ f3_; subst f4_; subst f5_))
       refine norm_ (a' := ?_) ?_ ?_
       rotate_left
       ·simp only [putAll, Act.put, List.setIfInBounds_toArray, List.set_cons_zero, List.set_cons_succ]
        rfl
       refine one_ (i := 7) (N := none) #[true, true, true, true, true, true, true, true, false] rfl rfl (one_of HT_.out (by kernel_rfl)) (by decide) (fun K hK => ?_)
       have hs422 : w421.cell? ⟨gb660, 0, none⟩ = some (.bool false) := (blk_cell BK660.out 0).trans rfl
       have hfs422 := blk_frozen BK660.out 0
       have hns422_0 := NB493_660.out
       have hns422_1 := NB494_660.out
       have hns422_2 := NB551_660.out
       have hms422_0 := NB660_493.out
       have hms422_1 := NB660_494.out
       have hms422_2 := NB660_551.out
       have hs424 : w421.cell? ⟨gb660, 1, none⟩ = some (.slice none 0 0) := (blk_cell BK660.out 1).trans rfl
       have hfs424 := blk_frozen BK660.out 1
       have hns424_0 := NB493_660.out
       have hns424_1 := NB494_660.out
       have hns424_2 := NB551_660.out
       have hms424_0 := NB660_493.out
       have hms424_1 := NB660_494.out
       have hms424_2 := NB660_551.out
       have hs426 : w421.cell? ⟨gb660, 2, none⟩ = some (.slice none 0 0) := (blk_cell BK660.out 2).trans rfl
       have hfs426 := blk_frozen BK660.out 2
       have hns426_0 := NB493_660.out
       have hns426_1 := NB494_660.out
       have hns426_2 := NB551_660.out
       have hms426_0 := NB660_493.out
       have hms426_1 := NB660_494.out
       have hms426_2 := NB660_551.out
       refine skip_ (w1 := ?_) (by rfl) rfl ?_ ?_
       rotate_left
       ·go_simp
        rfl
       refine hK.out _ _ ⟨((cell_far (p := ⟨gb660, _, none⟩) NB493_660.out _).trans (((cell_far (p := ⟨gb660, _, none⟩) NB493_660.out _).trans (((cell_far (p := ⟨gb660, _, none⟩) NB493_660.out _).trans (hHeld.1)))))), ((cell_far (p := ⟨gb660, _, none⟩) NB493_660.out _).trans (((cell_far (p := ⟨gb660, _, none⟩) NB493_660.out _).trans (((cell_far (p := ⟨gb660, _, none⟩) NB493_660.out _).trans (hHeld.2.1)))))), ((cell_far (p := ⟨gb660, _, none⟩) NB493_660.out _).trans (((cell_far (p := ⟨gb660, _, none⟩) NB493_660.out _).trans (((cell_far (p := ⟨gb660, _, none⟩) NB493_660.out _).trans (hHeld.2.2))))))⟩ (fun hHeld => ?_)
       clear hK K
       refine pP 8 (some 12) ?_
       refine done_ (done_of HT_.out (by kernel_rfl)) ?_
       try go_wp2
       obtain ⟨w427, hw_⟩ : ∃ W, W = (((w421.setCell ⟨gb660, 0, none⟩ (.bool t652)).setCell ⟨gb660, 1, none⟩ (.slice Ao423 t653.length co423)).setCell ⟨gb660, 2, none⟩ (.slice Ao425 t656.length co425)) := ⟨_, rfl⟩
       have mR0_ : ∀ (ok : Nat → Prop) v xs, Kd.R (Kd.int .u64) 44 w421 w.heap.size ok v xs → Aside0 (Kd.R (Kd.int .u64) 44 w427 w.heap.size ok v xs) := by rw [hw_]; exact fun _ _ _ x => ⟨oR x BK660.out⟩
       have mB1_ : ∀ (g : Nat) (o : Obj), w421.heap[g]? = some o → g ≠ gb660 → Aside0 (w427.heap[g]? = some o) := by rw [hw_]; exact fun _ _ x y => ⟨Eq.trans (Below.heap_setCell _ ⟨gb660, _, none⟩ _ _ y) (Eq.trans (Below.heap_setCell _ ⟨gb660, _, none⟩ _ _ y) (Eq.trans (Below.heap_setCell _ ⟨gb660, _, none⟩ _ _ y) x))⟩
       replace HO_494001 := mR0_ _ _ _ HO_494001.out
       replace HO_494002 := mR0_ _ _ _ HO_494002.out
       replace HO_495001 := mR0_ _ _ _ HO_495001.out
       replace HO_495002 := mR0_ _ _ _ HO_495002.out
       replace HO_552001 := mR0_ _ _ _ HO_552001.out
       replace HO_552002 := mR0_ _ _ _ HO_552002.out
       replace HO648 := mR0_ _ _ _ HO648.out
       replace HO651 := mR0_ _ _ _ HO651.out
       replace HO655 := mR0_ _ _ _ HO655.out
       replace HO658 := mR0_ _ _ _ HO658.out
       replace BK493 := mB1_ _ _ BK493.out NB493_660.out
       replace BK494 := mB1_ _ _ BK494.out NB494_660.out
       replace BK551 := mB1_ _ _ BK551.out NB551_660.out
       replace BK660 : Aside0 (w427.heap[gb660]? = some (.cells #[.bool t652, .slice Ao423 t653.length co423, .slice Ao425 t656.length co425] 25 (0, 0))) := by rw [hw_]; exact ⟨dP BK660.out⟩
       replace HB : Aside0 (Below w.heap.size w w427) := by rw [hw_]; exact ⟨eB⟩
       rw [← hw_]
       clear hw_ mR0_ mB1_
       replace HO_494001 := aM (Kd.R_drew HO_494001.out)
       replace HO_494002 := aM (Kd.R_drew HO_494002.out)
       replace HO_495001 := aM (Kd.R_drew HO_495001.out)
       replace HO_495002 := aM (Kd.R_drew HO_495002.out)
       replace HO_552001 := aM (Kd.R_drew HO_552001.out)
       replace HO_552002 := aM (Kd.R_drew HO_552002.out)
       replace HO648 := aM (Kd.R_drew HO648.out)
       replace HO651 := aM (Kd.R_drew HO651.out)
       replace HO655 := aM (Kd.R_drew HO655.out)
       replace HO658 := aM (Kd.R_drew HO658.out)
       replace BK493 := aM (blk_drew BK493.out)
       replace BK494 := aM (blk_drew BK494.out)
       replace BK551 := aM (blk_drew BK551.out)
       replace BK660 := aM (blk_drew BK660.out)
       replace HB := aM (below_drew1 HB.out)
       refine start_ (n := 9) (S := fun w' => w'.cell? ⟨gb493, 0, none⟩ = some (.bool t471) ∧ w'.cell? ⟨gb493, 1, none⟩ = some (.slice Ao31 t472.length co31) ∧ w'.cell? ⟨gb493, 2, none⟩ = some (.slice Ao32 t475.length co32)) (ds := []) #[false, false, false, false, false, false, false, false, false] (by kernel_rfl) rfl rfl (cz3 BK493.out) (fun hHeld => ?_); refine with_tabW plumblaw05_RatField.tab26 plumblaw05_RatField.bits26 (fun HT_ HW_ => ?_)
       generalize w427.drew = w428 at HO_494001 HO_494002 HO_495001 HO_495002 HO_552001 HO_552002 HO648 HO651 HO655 HO658 BK493 BK494 BK551 BK660 HB hHeld ⊢
       refine pH3 0 (some 241) hHeld ?_
       refine join_ (σ := Value × Value × Value × Value × Nat) 2 #[true, true, true, true, true, true, true, false, false] (fun s_ => [(242, .agg #[.bool t661, s_.1, s_.2.1]), (243, .tuple #[.agg #[.bool t668, s_.2.2.1, s_.2.2.2.1], .bool t675]), (32, .pointer (some ⟨s_.2.2.2.2, 0, none⟩)), (240, .tuple #[.agg #[.bool t668, s_.2.2.1, s_.2.2.2.1], .bool t675]), (244, .agg #[.bool t668, s_.2.2.1, s_.2.2.2.1]), (245, .bool t675)]) (fun s_ w' => (w'.cell? ⟨gb493, 0, none⟩ = some (.bool t471) ∧ w'.cell? ⟨gb493, 1, none⟩ = some (.slice Ao31 t472.length co31) ∧ w'.cell? ⟨gb493, 2, none⟩ = some (.slice Ao32 t475.length co32)) ∧ (Kd.R (Kd.int .u64) 44 w' w.heap.size (fun k_ => some k_ ≠ (v650 : Value).ownBlock ∧ oN Ao423 t653 co423 k_ ∧ oN Ao425 t656 co425 k_ ∧ some k_ ≠ (s_.1 : Value).ownBlock ∧ some k_ ≠ (s_.2.1 : Value).ownBlock ∧ some k_ ≠ (s_.2.2.1 : Value).ownBlock ∧ some k_ ≠ (s_.2.2.2.1 : Value).ownBlock ∧ oN Ao31 t472 co31 k_ ∧ oN Ao32 t475 co32 k_ ∧ oN Ao38 t479 co38 k_ ∧ oN Ao39 t482 co39 k_ ∧ oN Ao190 t544 co190 k_ ∧ oN Ao191 t547 co191 k_) v647 t646) ∧ (Kd.R (Kd.int .u64) 44 w' w.heap.size (fun k_ => some k_ ≠ (v647 : Value).ownBlock ∧ oN Ao423 t653 co423 k_ ∧ oN Ao425 t656 co425 k_ ∧ some k_ ≠ (s_.1 : Value).ownBlock ∧ some k_ ≠ (s_.2.1 : Value).ownBlock ∧ some k_ ≠ (s_.2.2.1 : Value).ownBlock ∧ some k_ ≠ (s_.2.2.2.1 : Value).ownBlock ∧ oN Ao31 t472 co31 k_ ∧ oN Ao32 t475 co32 k_ ∧ oN Ao38 t479 co38 k_ ∧ oN Ao39 t482 co39 k_ ∧ oN Ao190 t544 co190 k_ ∧ oN Ao191 t547 co191 k_) v650 t649) ∧ (Kd.R (Kd.int .u64) 44 w' w.heap.size (fun k_ => some k_ ≠ (v647 : Value).ownBlock ∧ some k_ ≠ (v650 : Value).ownBlock ∧ oN Ao425 t656 co425 k_ ∧ some k_ ≠ (s_.1 : Value).ownBlock ∧ some k_ ≠ (s_.2.1 : Value).ownBlock ∧ some k_ ≠ (s_.2.2.1 : Value).ownBlock ∧ some k_ ≠ (s_.2.2.2.1 : Value).ownBlock ∧ oN Ao31 t472 co31 k_ ∧ oN Ao32 t475 co32 k_ ∧ oN Ao38 t479 co38 k_ ∧ oN Ao39 t482 co39 k_ ∧ oN Ao190 t544 co190 k_ ∧ oN Ao191 t547 co191 k_) (.slice Ao423 t653.length co423) t653) ∧ (Kd.R (Kd.int .u64) 44 w' w.heap.size (fun k_ => some k_ ≠ (v647 : Value).ownBlock ∧ some k_ ≠ (v650 : Value).ownBlock ∧ oN Ao423 t653 co423 k_ ∧ some k_ ≠ (s_.1 : Value).ownBlock ∧ some k_ ≠ (s_.2.1 : Value).ownBlock ∧ some k_ ≠ (s_.2.2.1 : Value).ownBlock ∧ some k_ ≠ (s_.2.2.2.1 : Value).ownBlock ∧ oN Ao31 t472 co31 k_ ∧ oN Ao32 t475 co32 k_ ∧ oN Ao38 t479 co38 k_ ∧ oN Ao39 t482 co39 k_ ∧ oN Ao190 t544 co190 k_ ∧ oN Ao191 t547 co191 k_) (.slice Ao425 t656.length co425) t656) ∧ (Kd.R (Kd.int .u64) 44 w' w.heap.size (fun k_ => some k_ ≠ (v647 : Value).ownBlock ∧ some k_ ≠ (v650 : Value).ownBlock ∧ oN Ao423 t653 co423 k_ ∧ oN Ao425 t656 co425 k_ ∧ some k_ ≠ (s_.2.1 : Value).ownBlock ∧ some k_ ≠ (s_.2.2.1 : Value).ownBlock ∧ some k_ ≠ (s_.2.2.2.1 : Value).ownBlock ∧ oN Ao31 t472 co31 k_ ∧ oN Ao32 t475 co32 k_ ∧ oN Ao38 t479 co38 k_ ∧ oN Ao39 t482 co39 k_ ∧ oN Ao190 t544 co190 k_ ∧ oN Ao191 t547 co191 k_) s_.1 t662) ∧ (Kd.R (Kd.int .u64) 44 w' w.heap.size (fun k_ => some k_ ≠ (v647 : Value).ownBlock ∧ some k_ ≠ (v650 : Value).ownBlock ∧ oN Ao423 t653 co423 k_ ∧ oN Ao425 t656 co425 k_ ∧ some k_ ≠ (s_.1 : Value).ownBlock ∧ some k_ ≠ (s_.2.2.1 : Value).ownBlock ∧ some k_ ≠ (s_.2.2.2.1 : Value).ownBlock ∧ oN Ao31 t472 co31 k_ ∧ oN Ao32 t475 co32 k_ ∧ oN Ao38 t479 co38 k_ ∧ oN Ao39 t482 co39 k_ ∧ oN Ao190 t544 co190 k_ ∧ oN Ao191 t547 co191 k_) s_.2.1 t665) ∧ (Kd.R (Kd.int .u64) 44 w' w.heap.size (fun k_ => some k_ ≠ (v647 : Value).ownBlock ∧ some k_ ≠ (v650 : Value).ownBlock ∧ oN Ao423 t653 co423 k_ ∧ oN Ao425 t656 co425 k_ ∧ some k_ ≠ (s_.1 : Value).ownBlock ∧ some k_ ≠ (s_.2.1 : Value).ownBlock ∧ some k_ ≠ (s_.2.2.2.1 : Value).ownBlock ∧ oN Ao31 t472 co31 k_ ∧ oN Ao32 t475 co32 k_ ∧ oN Ao38 t479 co38 k_ ∧ oN Ao39 t482 co39 k_ ∧ oN Ao190 t544 co190 k_ ∧ oN Ao191 t547 co191 k_) s_.2.2.1 t669) ∧ (Kd.R (Kd.int .u64) 44 w' w.heap.size (fun k_ => some k_ ≠ (v647 : Value).ownBlock ∧ some k_ ≠ (v650 : Value).ownBlock ∧ oN Ao423 t653 co423 k_ ∧ oN Ao425 t656 co425 k_ ∧ some k_ ≠ (s_.1 : Value).ownBlock ∧ some k_ ≠ (s_.2.1 : Value).ownBlock ∧ some k_ ≠ (s_.2.2.1 : Value).ownBlock ∧ oN Ao31 t472 co31 k_ ∧ oN Ao32 t475 co32 k_ ∧ oN Ao38 t479 co38 k_ ∧ oN Ao39 t482 co39 k_ ∧ oN Ao190 t544 co190 k_ ∧ oN Ao191 t547 co191 k_) s_.2.2.2.1 t672) ∧ (Kd.R (Kd.int .u64) 44 w' w.heap.size (fun k_ => some k_ ≠ (v647 : Value).ownBlock ∧ some k_ ≠ (v650 : Value).ownBlock ∧ oN Ao423 t653 co423 k_ ∧ oN Ao425 t656 co425 k_ ∧ some k_ ≠ (s_.1 : Value).ownBlock ∧ some k_ ≠ (s_.2.1 : Value).ownBlock ∧ some k_ ≠ (s_.2.2.1 : Value).ownBlock ∧ some k_ ≠ (s_.2.2.2.1 : Value).ownBlock ∧ oN Ao32 t475 co32 k_ ∧ oN Ao38 t479 co38 k_ ∧ oN Ao39 t482 co39 k_ ∧ oN Ao190 t544 co190 k_ ∧ oN Ao191 t547 co191 k_) (.slice Ao31 t472.length co31) t472) ∧ (Kd.R (Kd.int .u64) 44 w' w.heap.size (fun k_ => some k_ ≠ (v647 : Value).ownBlock ∧ some k_ ≠ (v650 : Value).ownBlock ∧ oN Ao423 t653 co423 k_ ∧ oN Ao425 t656 co425 k_ ∧ some k_ ≠ (s_.1 : Value).ownBlock ∧ some k_ ≠ (s_.2.1 : Value).ownBlock ∧ some k_ ≠ (s_.2.2.1 : Value).ownBlock ∧ some k_ ≠ (s_.2.2.2.1 : Value).ownBlock ∧ oN Ao31 t472 co31 k_ ∧ oN Ao38 t479 co38 k_ ∧ oN Ao39 t482 co39 k_ ∧ oN Ao190 t544 co190 k_ ∧ oN Ao191 t547 co191 k_) (.slice Ao32 t475.length co32) t475) ∧ (Kd.R (Kd.int .u64) 44 w' w.heap.size (fun k_ => some k_ ≠ (v647 : Value).ownBlock ∧ some k_ ≠ (v650 : Value).ownBlock ∧ oN Ao423 t653 co423 k_ ∧ oN Ao425 t656 co425 k_ ∧ some k_ ≠ (s_.1 : Value).ownBlock ∧ some k_ ≠ (s_.2.1 : Value).ownBlock ∧ some k_ ≠ (s_.2.2.1 : Value).ownBlock ∧ some k_ ≠ (s_.2.2.2.1 : Value).ownBlock ∧ oN Ao31 t472 co31 k_ ∧ oN Ao32 t475 co32 k_ ∧ oN Ao39 t482 co39 k_ ∧ oN Ao190 t544 co190 k_ ∧ oN Ao191 t547 co191 k_) (.slice Ao38 t479.length co38) t479) ∧ (Kd.R (Kd.int .u64) 44 w' w.heap.size (fun k_ => some k_ ≠ (v647 : Value).ownBlock ∧ some k_ ≠ (v650 : Value).ownBlock ∧ oN Ao423 t653 co423 k_ ∧ oN Ao425 t656 co425 k_ ∧ some k_ ≠ (s_.1 : Value).ownBlock ∧ some k_ ≠ (s_.2.1 : Value).ownBlock ∧ some k_ ≠ (s_.2.2.1 : Value).ownBlock ∧ some k_ ≠ (s_.2.2.2.1 : Value).ownBlock ∧ oN Ao31 t472 co31 k_ ∧ oN Ao32 t475 co32 k_ ∧ oN Ao38 t479 co38 k_ ∧ oN Ao190 t544 co190 k_ ∧ oN Ao191 t547 co191 k_) (.slice Ao39 t482.length co39) t482) ∧ (Kd.R (Kd.int .u64) 44 w' w.heap.size (fun k_ => some k_ ≠ (v647 : Value).ownBlock ∧ some k_ ≠ (v650 : Value).ownBlock ∧ oN Ao423 t653 co423 k_ ∧ oN Ao425 t656 co425 k_ ∧ some k_ ≠ (s_.1 : Value).ownBlock ∧ some k_ ≠ (s_.2.1 : Value).ownBlock ∧ some k_ ≠ (s_.2.2.1 : Value).ownBlock ∧ some k_ ≠ (s_.2.2.2.1 : Value).ownBlock ∧ oN Ao31 t472 co31 k_ ∧ oN Ao32 t475 co32 k_ ∧ oN Ao38 t479 co38 k_ ∧ oN Ao39 t482 co39 k_ ∧ oN Ao191 t547 co191 k_) (.slice Ao190 t544.length co190) t544) ∧ (Kd.R (Kd.int .u64) 44 w' w.heap.size (fun k_ => some k_ ≠ (v647 : Value).ownBlock ∧ some k_ ≠ (v650 : Value).ownBlock ∧ oN Ao423 t653 co423 k_ ∧ oN Ao425 t656 co425 k_ ∧ some k_ ≠ (s_.1 : Value).ownBlock ∧ some k_ ≠ (s_.2.1 : Value).ownBlock ∧ some k_ ≠ (s_.2.2.1 : Value).ownBlock ∧ some k_ ≠ (s_.2.2.2.1 : Value).ownBlock ∧ oN Ao31 t472 co31 k_ ∧ oN Ao32 t475 co32 k_ ∧ oN Ao38 t479 co38 k_ ∧ oN Ao39 t482 co39 k_ ∧ oN Ao190 t544 co190 k_) (.slice Ao191 t547.length co191) t547) ∧ (w'.heap[gb493]? = some (.cells #[.bool t471, .slice Ao31 t472.length co31, .slice Ao32 t475.length co32] 25 (0, 0))) ∧ (w'.heap[gb494]? = some (.cells #[.bool t478, .slice Ao38 t479.length co38, .slice Ao39 t482.length co39] 25 (0, 0))) ∧ (w'.heap[gb551]? = some (.cells #[.bool t543, .slice Ao190 t544.length co190, .slice Ao191 t547.length co191] 25 (0, 0))) ∧ (w'.heap[gb660]? = some (.cells #[.bool t652, .slice Ao423 t653.length co423, .slice Ao425 t656.length co425] 25 (0, 0))) ∧ (w'.heap[s_.2.2.2.2]? = some (.cells #[.bool false, .slice none 0 0, .slice none 0 0] 25 (0, 0))) ∧ (w.heap.size ≤ s_.2.2.2.2) ∧ (w.heap.size ≤ s_.2.2.2.2) ∧ (gb493 ≠ s_.2.2.2.2) ∧ (s_.2.2.2.2 ≠ gb493) ∧ (gb494 ≠ s_.2.2.2.2) ∧ (s_.2.2.2.2 ≠ gb494) ∧ (gb551 ≠ s_.2.2.2.2) ∧ (s_.2.2.2.2 ≠ gb551) ∧ (gb660 ≠ s_.2.2.2.2) ∧ (s_.2.2.2.2 ≠ gb660) ∧ (Below w.heap.size w w')) ?_ ?_
       rotate_left
       ·intro hCont
        refine two_ (i := 1) (j := 6) (Ni := some 242) (Nj := some 32) #[true, true, false, false, false, false, false, false, false] #[true, false, false, false, false, false, true, false, false] rfl rfl rfl rfl (two_of HT_.out (by kernel_rfl)) (by decide) (by decide) (fun K hK => ?_) (fun K hK => ?_)
        ·skip
         refine goes_ Try.func11 (by kernel_rfl) rfl #[.int .i64 0] (by rfl) rfl rfl dA ?_
         with_reducible refine (rat_Int.calls 0 t661 t662 t665 _ A412.out).mono ?_
         rintro e w429 ⟨v663, v666, rfl, ho0, ho1, hb⟩
         refine ⟨_, rfl, ?_⟩
         have HO664 := aM (Kd.R_lower (nW (nW (nW (nW (nW (nW (nW (nW (nW (nW ho0 HO_494001.out) HO_494002.out) HO_495001.out) HO_495002.out) HO_552001.out) HO_552002.out) HO648.out) HO651.out) HO655.out) HO658.out) (below_size eB))
         have HO667 := aM (Kd.R_lower (nW (nW (nW (nW (nW (nW (nW (nW (nW (nW ho1 HO_494001.out) HO_494002.out) HO_495001.out) HO_495002.out) HO_552001.out) HO_552002.out) HO648.out) HO651.out) HO655.out) HO658.out) (below_size eB))
         replace HO_494001 := tT HO_494001.out hb ho0 ho1
         replace HO_494002 := tT HO_494002.out hb ho0 ho1
         replace HO_495001 := tT HO_495001.out hb ho0 ho1
         replace HO_495002 := tT HO_495002.out hb ho0 ho1
         replace HO_552001 := tT HO_552001.out hb ho0 ho1
         replace HO_552002 := tT HO_552002.out hb ho0 ho1
         replace HO648 := tT HO648.out hb ho0 ho1
         replace HO651 := tT HO651.out hb ho0 ho1
         replace HO655 := tT HO655.out hb ho0 ho1
         replace HO658 := tT HO658.out hb ho0 ho1
         replace BK493 := bB BK493.out hb
         replace BK494 := bB BK494.out hb
         replace BK551 := bB BK551.out hb
         replace BK660 := bB BK660.out hb
         replace HB := hS HB.out hb
         (try clear hb)
         (try clear hb2)
         (try clear hk)
         (try clear hi)
         (try clear ho0)
         (try clear ho1)
         obtain ⟨Ao430, co430, eo430⟩ := Kd.R_slice HO664.out
         (first | subst eo430 | (injection eo430 with f1_ f2_ f3_; have f4_ := f1_.symm; have f5_ := f3_.symm; clear f1_ f2_ f3_; subst f4_; subst f5_))
         obtain ⟨Ao431, co431, eo431⟩ := Kd.R_slice HO667.out
         (first | subst eo431 | (injection eo431 with f1_ f2_ f3_; have f4_ := f1_.symm; have f5_ := f3_.symm; clear f1_ f2_ f3_; subst f4_; subst f5_))
         refine hK.out _ _ (cz3 BK493.out) (fun hHeld => ?_)
         clear hK K
         refine norm_ (a' := ?_) ?_ ?_
         rotate_left
         ·show Act.put _ (some 242) _ = _
          simp only [Act.put, List.setIfInBounds_toArray, List.set_cons_zero, List.set_cons_succ, i64_w, i32_w]
          rfl
         refine two_ (i := 2) (j := 6) (Ni := some 243) (Nj := some 32) #[true, true, true, false, false, false, false, false, false] #[true, true, false, false, false, false, true, false, false] rfl rfl rfl rfl (two_of HT_.out (by kernel_rfl)) (by decide) (by decide) (fun K hK => ?_) (fun K hK => ?_)
         ·skip
          refine goes_ Try.func7 (by kernel_rfl) rfl #[.agg #[.bool t471, .slice Ao31 t472.length co31, .slice Ao32 t475.length co32], .agg #[.bool t661, .slice Ao430 t662.length co430, .slice Ao431 t665.length co431]] (by rfl) rfl rfl dA ?_
          with_reducible refine (plumblaw05_add.calls kj300 t471 _ _ t472 _ _ t475 t661 _ _ t662 _ _ t665 t668 t669 t672 t675 _ ?side1 (Kd.R_reads' HO_494001.out).2.1 ?side3 (Kd.R_reads' HO_494002.out).2.1 ?side5 (Kd.R_reads' HO664.out).2.1 ?side7 (Kd.R_reads' HO667.out).2.1 A413.out).mono ?_
          (case side1 => exact dC (Kd.R_reads' HO_494001.out).2.2)
          (case side3 => exact dC (Kd.R_reads' HO_494002.out).2.2)
          (case side5 => exact dC (Kd.R_reads' HO664.out).2.2)
          (case side7 => exact dC (Kd.R_reads' HO667.out).2.2)
          rintro e w432 ⟨v670, v673, rfl, ho0, ho1, hb⟩
          refine ⟨_, rfl, ?_⟩
          have HO671 := aM (Kd.R_lower (nW (nW (nW (nW (nW (nW (nW (nW (nW (nW (nW (nW ho0 HO_494001.out) HO_494002.out) HO_495001.out) HO_495002.out) HO_552001.out) HO_552002.out) HO648.out) HO651.out) HO655.out) HO658.out) HO664.out) HO667.out) (below_size eB))
          have HO674 := aM (Kd.R_lower (nW (nW (nW (nW (nW (nW (nW (nW (nW (nW (nW (nW ho1 HO_494001.out) HO_494002.out) HO_495001.out) HO_495002.out) HO_552001.out) HO_552002.out) HO648.out) HO651.out) HO655.out) HO658.out) HO664.out) HO667.out) (below_size eB))
          replace HO_494001 := tT HO_494001.out hb ho0 ho1
          replace HO_494002 := tT HO_494002.out hb ho0 ho1
          replace HO_495001 := tT HO_495001.out hb ho0 ho1
          replace HO_495002 := tT HO_495002.out hb ho0 ho1
          replace HO_552001 := tT HO_552001.out hb ho0 ho1
          replace HO_552002 := tT HO_552002.out hb ho0 ho1
          replace HO648 := tT HO648.out hb ho0 ho1
          replace HO651 := tT HO651.out hb ho0 ho1
          replace HO655 := tT HO655.out hb ho0 ho1
          replace HO658 := tT HO658.out hb ho0 ho1
          replace HO664 := tT HO664.out hb ho0 ho1
          replace HO667 := tT HO667.out hb ho0 ho1
          replace BK493 := bB BK493.out hb
          replace BK494 := bB BK494.out hb
          replace BK551 := bB BK551.out hb
          replace BK660 := bB BK660.out hb
          replace HB := hS HB.out hb
          (try clear hb)
          (try clear hb2)
          (try clear hk)
          (try clear hi)
          (try clear ho0)
          (try clear ho1)
          refine hK.out _ _ (cz3 BK493.out) (fun hHeld => ?_)
          clear hK K
          refine norm_ (a' := ?_) ?_ ?_
          rotate_left
          ·show Act.put _ (some 243) _ = _
           simp only [Act.put, List.setIfInBounds_toArray, List.set_cons_zero, List.set_cons_succ, i64_w, i32_w]
           rfl
          refine pP 3 (some 240) ?_
          refine pP 4 (some 244) ?_
          refine pP 5 (some 245) ?_
          refine one_ (i := 6) (N := some 32) #[true, true, true, true, true, true, true, false, false] rfl rfl (one_of HT_.out (by kernel_rfl)) (by decide) (fun K hK => ?_)
          refine box_step ?hg (N := 32) ?hd (cs := #[.bool false, .slice none 0 0, .slice none 0 0]) (t := 25) ?hr ?_; (case hd => rfl); (case hg => rfl); (case hr => first | (go_simp; done) | (go_simp; rfl))
          intro gb676 hg w433 hbox hb
          replace HO_494001 := oB HO_494001.out hb
          replace HO_494002 := oB HO_494002.out hb
          replace HO_495001 := oB HO_495001.out hb
          replace HO_495002 := oB HO_495002.out hb
          replace HO_552001 := oB HO_552001.out hb
          replace HO_552002 := oB HO_552002.out hb
          replace HO648 := oB HO648.out hb
          replace HO651 := oB HO651.out hb
          replace HO655 := oB HO655.out hb
          replace HO658 := oB HO658.out hb
          replace HO664 := oB HO664.out hb
          replace HO667 := oB HO667.out hb
          replace HO671 := oB HO671.out hb
          replace HO674 := oB HO674.out hb
          have BK676 := aM (hbox)
          have GW676 : Aside0 (w.heap.size ≤ gb676) := gE hg
          have GE676 : Aside0 (w.heap.size ≤ gb676) := gE hg
          replace HB := hS HB.out hb
          have NB493_676 := nL hg BK493.out
          have NB676_493 := nG hg BK493.out
          replace BK493 := bB BK493.out hb
          have NB494_676 := nL hg BK494.out
          have NB676_494 := nG hg BK494.out
          replace BK494 := bB BK494.out hb
          have NB551_676 := nL hg BK551.out
          have NB676_551 := nG hg BK551.out
          replace BK551 := bB BK551.out hb
          have NB660_676 := nL hg BK660.out
          have NB676_660 := nG hg BK660.out
          replace BK660 := bB BK660.out hb
          clear hb hbox hg
          refine hK.out _ _ (cz3 BK493.out) (fun hHeld => ?_)
          clear hK K
          refine norm_ (a' := ?_) ?_ ?_
          rotate_left
          ·show Act.put _ (some 32) _ = _
           simp only [Act.put, List.setIfInBounds_toArray, List.set_cons_zero, List.set_cons_succ, i64_w, i32_w]
           rfl
          exact norm_ (by simp only [putAll, Act.put, List.setIfInBounds_toArray, List.set_cons_zero, List.set_cons_succ]) (hCont (.slice Ao430 t662.length co430, .slice Ao431 t665.length co431, v670, v673, gb676) _ ⟨hHeld, (oS HO648.out), (oS HO651.out), (oS HO655.out), (oS HO658.out), (oS HO664.out), (oS HO667.out), (oS HO671.out), (oS HO674.out), (oS HO_494001.out), (oS HO_494002.out), (oS HO_495001.out), (oS HO_495002.out), (oS HO_552001.out), (oS HO_552002.out), (dK BK493.out), (dK BK494.out), (dK BK551.out), (dK BK660.out), (dK BK676.out), GW676.out, GE676.out, NB493_676.out, NB676_493.out, NB494_676.out, NB676_494.out, NB551_676.out, NB676_551.out, NB660_676.out, NB676_660.out, eB⟩)
         ·skip
          refine box_step ?hg (N := 32) ?hd (cs := #[.bool false, .slice none 0 0, .slice none 0 0]) (t := 25) ?hr ?_; (case hd => rfl); (case hg => rfl); (case hr => first | (go_simp; done) | (go_simp; rfl))
          intro gb676 hg w430 hbox hb
          replace HO_494001 := oB HO_494001.out hb
          replace HO_494002 := oB HO_494002.out hb
          replace HO_495001 := oB HO_495001.out hb
          replace HO_495002 := oB HO_495002.out hb
          replace HO_552001 := oB HO_552001.out hb
          replace HO_552002 := oB HO_552002.out hb
          replace HO648 := oB HO648.out hb
          replace HO651 := oB HO651.out hb
          replace HO655 := oB HO655.out hb
          replace HO658 := oB HO658.out hb
          replace HO664 := oB HO664.out hb
          replace HO667 := oB HO667.out hb
          have BK676 := aM (hbox)
          have GW676 : Aside0 (w.heap.size ≤ gb676) := gE hg
          have GE676 : Aside0 (w.heap.size ≤ gb676) := gE hg
          replace HB := hS HB.out hb
          have NB493_676 := nL hg BK493.out
          have NB676_493 := nG hg BK493.out
          replace BK493 := bB BK493.out hb
          have NB494_676 := nL hg BK494.out
          have NB676_494 := nG hg BK494.out
          replace BK494 := bB BK494.out hb
          have NB551_676 := nL hg BK551.out
          have NB676_551 := nG hg BK551.out
          replace BK551 := bB BK551.out hb
          have NB660_676 := nL hg BK660.out
          have NB676_660 := nG hg BK660.out
          replace BK660 := bB BK660.out hb
          clear hb hbox hg
          obtain ⟨Ao431, co431, eo431⟩ := Kd.R_slice HO664.out
          (first | subst eo431 | (injection eo431 with f1_ f2_ f3_; have f4_ := f1_.symm; have f5_ := f3_.symm; clear f1_ f2_ f3_; subst f4_; subst f5_))
          obtain ⟨Ao432, co432, eo432⟩ := Kd.R_slice HO667.out
          (first | subst eo432 | (injection eo432 with f1_ f2_ f3_; have f4_ := f1_.symm; have f5_ := f3_.symm; clear f1_ f2_ f3_; subst f4_; subst f5_))
          refine hK.out _ _ (cz3 BK493.out) (fun hHeld => ?_)
          clear hK K
          refine norm_ (a' := ?_) ?_ ?_
          rotate_left
          ·show Act.put _ (some 32) _ = _
           simp only [Act.put, List.setIfInBounds_toArray, List.set_cons_zero, List.set_cons_succ, i64_w, i32_w]
           rfl
          refine one_ (i := 2) (N := some 243) #[true, true, true, false, false, false, true, false, false] rfl rfl (one_of HT_.out (by kernel_rfl)) (by decide) (fun K hK => ?_)
          refine goes_ Try.func7 (by kernel_rfl) rfl #[.agg #[.bool t471, .slice Ao31 t472.length co31, .slice Ao32 t475.length co32], .agg #[.bool t661, .slice Ao431 t662.length co431, .slice Ao432 t665.length co432]] (by rfl) rfl rfl dA ?_
          with_reducible refine (plumblaw05_add.calls kj300 t471 _ _ t472 _ _ t475 t661 _ _ t662 _ _ t665 t668 t669 t672 t675 _ ?side1 (Kd.R_reads' HO_494001.out).2.1 ?side3 (Kd.R_reads' HO_494002.out).2.1 ?side5 (Kd.R_reads' HO664.out).2.1 ?side7 (Kd.R_reads' HO667.out).2.1 A413.out).mono ?_
          (case side1 => exact dC (Kd.R_reads' HO_494001.out).2.2)
          (case side3 => exact dC (Kd.R_reads' HO_494002.out).2.2)
          (case side5 => exact dC (Kd.R_reads' HO664.out).2.2)
          (case side7 => exact dC (Kd.R_reads' HO667.out).2.2)
          rintro e w433 ⟨v670, v673, rfl, ho0, ho1, hb⟩
          refine ⟨_, rfl, ?_⟩
          have HO671 := aM (Kd.R_lower (nW (nW (nW (nW (nW (nW (nW (nW (nW (nW (nW (nW ho0 HO_494001.out) HO_494002.out) HO_495001.out) HO_495002.out) HO_552001.out) HO_552002.out) HO648.out) HO651.out) HO655.out) HO658.out) HO664.out) HO667.out) (below_size eB))
          have HO674 := aM (Kd.R_lower (nW (nW (nW (nW (nW (nW (nW (nW (nW (nW (nW (nW ho1 HO_494001.out) HO_494002.out) HO_495001.out) HO_495002.out) HO_552001.out) HO_552002.out) HO648.out) HO651.out) HO655.out) HO658.out) HO664.out) HO667.out) (below_size eB))
          replace HO_494001 := tT HO_494001.out hb ho0 ho1
          replace HO_494002 := tT HO_494002.out hb ho0 ho1
          replace HO_495001 := tT HO_495001.out hb ho0 ho1
          replace HO_495002 := tT HO_495002.out hb ho0 ho1
          replace HO_552001 := tT HO_552001.out hb ho0 ho1
          replace HO_552002 := tT HO_552002.out hb ho0 ho1
          replace HO648 := tT HO648.out hb ho0 ho1
          replace HO651 := tT HO651.out hb ho0 ho1
          replace HO655 := tT HO655.out hb ho0 ho1
          replace HO658 := tT HO658.out hb ho0 ho1
          replace HO664 := tT HO664.out hb ho0 ho1
          replace HO667 := tT HO667.out hb ho0 ho1
          replace BK493 := bB BK493.out hb
          replace BK494 := bB BK494.out hb
          replace BK551 := bB BK551.out hb
          replace BK660 := bB BK660.out hb
          replace BK676 := bB BK676.out hb
          replace HB := hS HB.out hb
          (try clear hb)
          (try clear hb2)
          (try clear hk)
          (try clear hi)
          (try clear ho0)
          (try clear ho1)
          refine hK.out _ _ (cz3 BK493.out) (fun hHeld => ?_)
          clear hK K
          refine norm_ (a' := ?_) ?_ ?_
          rotate_left
          ·show Act.put _ (some 243) _ = _
           simp only [Act.put, List.setIfInBounds_toArray, List.set_cons_zero, List.set_cons_succ, i64_w, i32_w]
           rfl
          refine pP 3 (some 240) ?_
          refine pP 4 (some 244) ?_
          refine pP 5 (some 245) ?_
          exact norm_ (by simp only [putAll, Act.put, List.setIfInBounds_toArray, List.set_cons_zero, List.set_cons_succ]) (hCont (.slice Ao431 t662.length co431, .slice Ao432 t665.length co432, v670, v673, gb676) _ ⟨hHeld, (oS HO648.out), (oS HO651.out), (oS HO655.out), (oS HO658.out), (oS HO664.out), (oS HO667.out), (oS HO671.out), (oS HO674.out), (oS HO_494001.out), (oS HO_494002.out), (oS HO_495001.out), (oS HO_495002.out), (oS HO_552001.out), (oS HO_552002.out), (dK BK493.out), (dK BK494.out), (dK BK551.out), (dK BK660.out), (dK BK676.out), GW676.out, GE676.out, NB493_676.out, NB676_493.out, NB494_676.out, NB676_494.out, NB551_676.out, NB676_551.out, NB660_676.out, NB676_660.out, eB⟩)
        ·skip
         refine box_step ?hg (N := 32) ?hd (cs := #[.bool false, .slice none 0 0, .slice none 0 0]) (t := 25) ?hr ?_; (case hd => rfl); (case hg => rfl); (case hr => first | (go_simp; done) | (go_simp; rfl))
         intro gb676 hg w429 hbox hb
         replace HO_494001 := oB HO_494001.out hb
         replace HO_494002 := oB HO_494002.out hb
         replace HO_495001 := oB HO_495001.out hb
         replace HO_495002 := oB HO_495002.out hb
         replace HO_552001 := oB HO_552001.out hb
         replace HO_552002 := oB HO_552002.out hb
         replace HO648 := oB HO648.out hb
         replace HO651 := oB HO651.out hb
         replace HO655 := oB HO655.out hb
         replace HO658 := oB HO658.out hb
         have BK676 := aM (hbox)
         have GW676 : Aside0 (w.heap.size ≤ gb676) := gE hg
         have GE676 : Aside0 (w.heap.size ≤ gb676) := gE hg
         replace HB := hS HB.out hb
         have NB493_676 := nL hg BK493.out
         have NB676_493 := nG hg BK493.out
         replace BK493 := bB BK493.out hb
         have NB494_676 := nL hg BK494.out
         have NB676_494 := nG hg BK494.out
         replace BK494 := bB BK494.out hb
         have NB551_676 := nL hg BK551.out
         have NB676_551 := nG hg BK551.out
         replace BK551 := bB BK551.out hb
         have NB660_676 := nL hg BK660.out
         have NB676_660 := nG hg BK660.out
         replace BK660 := bB BK660.out hb
         clear hb hbox hg
         refine hK.out _ _ (cz3 BK493.out) (fun hHeld => ?_)
         clear hK K
         refine norm_ (a' := ?_) ?_ ?_
         rotate_left
         ·show Act.put _ (some 32) _ = _
          simp only [Act.put, List.setIfInBounds_toArray, List.set_cons_zero, List.set_cons_succ, i64_w, i32_w]
          rfl
         refine one_ (i := 1) (N := some 242) #[true, true, false, false, false, false, true, false, false] rfl rfl (one_of HT_.out (by kernel_rfl)) (by decide) (fun K hK => ?_)
         refine goes_ Try.func11 (by kernel_rfl) rfl #[.int .i64 0] (by rfl) rfl rfl dA ?_
         with_reducible refine (rat_Int.calls 0 t661 t662 t665 _ A412.out).mono ?_
         rintro e w430 ⟨v663, v666, rfl, ho0, ho1, hb⟩
         refine ⟨_, rfl, ?_⟩
         have HO664 := aM (Kd.R_lower (nW (nW (nW (nW (nW (nW (nW (nW (nW (nW ho0 HO_494001.out) HO_494002.out) HO_495001.out) HO_495002.out) HO_552001.out) HO_552002.out) HO648.out) HO651.out) HO655.out) HO658.out) (below_size eB))
         have HO667 := aM (Kd.R_lower (nW (nW (nW (nW (nW (nW (nW (nW (nW (nW ho1 HO_494001.out) HO_494002.out) HO_495001.out) HO_495002.out) HO_552001.out) HO_552002.out) HO648.out) HO651.out) HO655.out) HO658.out) (below_size eB))
         replace HO_494001 := tT HO_494001.out hb ho0 ho1
         replace HO_494002 := tT HO_494002.out hb ho0 ho1
         replace HO_495001 := tT HO_495001.out hb ho0 ho1
         replace HO_495002 := tT HO_495002.out hb ho0 ho1
         replace HO_552001 := tT HO_552001.out hb ho0 ho1
         replace HO_552002 := tT HO_552002.out hb ho0 ho1
         replace HO648 := tT HO648.out hb ho0 ho1
         replace HO651 := tT HO651.out hb ho0 ho1
         replace HO655 := tT HO655.out hb ho0 ho1
         replace HO658 := tT HO658.out hb ho0 ho1
         replace BK493 := bB BK493.out hb
         replace BK494 := bB BK494.out hb
         replace BK551 := bB BK551.out hb
         replace BK660 := bB BK660.out hb
         replace BK676 := bB BK676.out hb
         replace HB := hS HB.out hb
         (try clear hb)
         (try clear hb2)
         (try clear hk)
         (try clear hi)
         (try clear ho0)
         (try clear ho1)
         obtain ⟨Ao431, co431, eo431⟩ := Kd.R_slice HO664.out
         (first | subst eo431 | (injection eo431 with f1_ f2_ f3_; have f4_ := f1_.symm; have f5_ := f3_.symm; clear f1_ f2_ f3_; subst f4_; subst f5_))
         obtain ⟨Ao432, co432, eo432⟩ := Kd.R_slice HO667.out
         (first | subst eo432 | (injection eo432 with f1_ f2_ f3_; have f4_ := f1_.symm; have f5_ := f3_.symm; clear f1_ f2_ f3_; subst f4_; subst f5_))
         refine hK.out _ _ (cz3 BK493.out) (fun hHeld => ?_)
         clear hK K
         refine norm_ (a' := ?_) ?_ ?_
         rotate_left
         ·show Act.put _ (some 242) _ = _
          simp only [Act.put, List.setIfInBounds_toArray, List.set_cons_zero, List.set_cons_succ, i64_w, i32_w]
          rfl
         refine one_ (i := 2) (N := some 243) #[true, true, true, false, false, false, true, false, false] rfl rfl (one_of HT_.out (by kernel_rfl)) (by decide) (fun K hK => ?_)
         refine goes_ Try.func7 (by kernel_rfl) rfl #[.agg #[.bool t471, .slice Ao31 t472.length co31, .slice Ao32 t475.length co32], .agg #[.bool t661, .slice Ao431 t662.length co431, .slice Ao432 t665.length co432]] (by rfl) rfl rfl dA ?_
         with_reducible refine (plumblaw05_add.calls kj300 t471 _ _ t472 _ _ t475 t661 _ _ t662 _ _ t665 t668 t669 t672 t675 _ ?side1 (Kd.R_reads' HO_494001.out).2.1 ?side3 (Kd.R_reads' HO_494002.out).2.1 ?side5 (Kd.R_reads' HO664.out).2.1 ?side7 (Kd.R_reads' HO667.out).2.1 A413.out).mono ?_
         (case side1 => exact dC (Kd.R_reads' HO_494001.out).2.2)
         (case side3 => exact dC (Kd.R_reads' HO_494002.out).2.2)
         (case side5 => exact dC (Kd.R_reads' HO664.out).2.2)
         (case side7 => exact dC (Kd.R_reads' HO667.out).2.2)
         rintro e w433 ⟨v670, v673, rfl, ho0, ho1, hb⟩
         refine ⟨_, rfl, ?_⟩
         have HO671 := aM (Kd.R_lower (nW (nW (nW (nW (nW (nW (nW (nW (nW (nW (nW (nW ho0 HO_494001.out) HO_494002.out) HO_495001.out) HO_495002.out) HO_552001.out) HO_552002.out) HO648.out) HO651.out) HO655.out) HO658.out) HO664.out) HO667.out) (below_size eB))
         have HO674 := aM (Kd.R_lower (nW (nW (nW (nW (nW (nW (nW (nW (nW (nW (nW (nW ho1 HO_494001.out) HO_494002.out) HO_495001.out) HO_495002.out) HO_552001.out) HO_552002.out) HO648.out) HO651.out) HO655.out) HO658.out) HO664.out) HO667.out) (below_size eB))
         replace HO_494001 := tT HO_494001.out hb ho0 ho1
         replace HO_494002 := tT HO_494002.out hb ho0 ho1
         replace HO_495001 := tT HO_495001.out hb ho0 ho1
         replace HO_495002 := tT HO_495002.out hb ho0 ho1
         replace HO_552001 := tT HO_552001.out hb ho0 ho1
         replace HO_552002 := tT HO_552002.out hb ho0 ho1
         replace HO648 := tT HO648.out hb ho0 ho1
         replace HO651 := tT HO651.out hb ho0 ho1
         replace HO655 := tT HO655.out hb ho0 ho1
         replace HO658 := tT HO658.out hb ho0 ho1
         replace HO664 := tT HO664.out hb ho0 ho1
         replace HO667 := tT HO667.out hb ho0 ho1
         replace BK493 := bB BK493.out hb
         replace BK494 := bB BK494.out hb
         replace BK551 := bB BK551.out hb
         replace BK660 := bB BK660.out hb
         replace BK676 := bB BK676.out hb
         replace HB := hS HB.out hb
         (try clear hb)
         (try clear hb2)
         (try clear hk)
         (try clear hi)
         (try clear ho0)
         (try clear ho1)
         refine hK.out _ _ (cz3 BK493.out) (fun hHeld => ?_)
         clear hK K
         refine norm_ (a' := ?_) ?_ ?_
         rotate_left
         ·show Act.put _ (some 243) _ = _
          simp only [Act.put, List.setIfInBounds_toArray, List.set_cons_zero, List.set_cons_succ, i64_w, i32_w]
          rfl
         refine pP 3 (some 240) ?_
         refine pP 4 (some 244) ?_
         refine pP 5 (some 245) ?_
         exact norm_ (by simp only [putAll, Act.put, List.setIfInBounds_toArray, List.set_cons_zero, List.set_cons_succ]) (hCont (.slice Ao431 t662.length co431, .slice Ao432 t665.length co432, v670, v673, gb676) _ ⟨hHeld, (oS HO648.out), (oS HO651.out), (oS HO655.out), (oS HO658.out), (oS HO664.out), (oS HO667.out), (oS HO671.out), (oS HO674.out), (oS HO_494001.out), (oS HO_494002.out), (oS HO_495001.out), (oS HO_495002.out), (oS HO_552001.out), (oS HO_552002.out), (dK BK493.out), (dK BK494.out), (dK BK551.out), (dK BK660.out), (dK BK676.out), GW676.out, GE676.out, NB493_676.out, NB676_493.out, NB494_676.out, NB676_494.out, NB551_676.out, NB676_551.out, NB660_676.out, NB676_660.out, eB⟩)
       rintro ⟨v663, v666, v670, v673, gb676⟩ w434 ⟨hS_, h0_, h1_, h2_, h3_, h4_, h5_, h6_, h7_, h8_, h9_, h10_, h11_, h12_, h13_, h14_, h15_, h16_, h17_, h18_, h19_, h20_, h21_, h22_, h23_, h24_, h25_, h26_, h27_, h28_, h29_⟩
       (try dsimp only at h0_ h1_ h2_ h3_ h4_ h5_ h6_ h7_ h8_ h9_ h10_ h11_ h12_ h13_ h14_ h15_ h16_ h17_ h18_ h19_ h20_ h21_ h22_ h23_ h24_ h25_ h26_ h27_ h28_ h29_)
       replace HO648 := aM h0_
       replace HO651 := aM h1_
       replace HO655 := aM h2_
       replace HO658 := aM h3_
       replace HO664 := aM h4_
       replace HO667 := aM h5_
       replace HO671 := aM h6_
       replace HO674 := aM h7_
       replace HO_494001 := aM h8_
       replace HO_494002 := aM h9_
       replace HO_495001 := aM h10_
       replace HO_495002 := aM h11_
       replace HO_552001 := aM h12_
       replace HO_552002 := aM h13_
       replace BK493 := aM h14_
       replace BK494 := aM h15_
       replace BK551 := aM h16_
       replace BK660 := aM h17_
       replace BK676 := aM h18_
       replace GW676 := aM h19_
       replace GE676 := aM h20_
       replace NB493_676 := aM h21_
       replace NB676_493 := aM h22_
       replace NB494_676 := aM h23_
       replace NB676_494 := aM h24_
       replace NB551_676 := aM h25_
       replace NB676_551 := aM h26_
       replace NB660_676 := aM h27_
       replace NB676_660 := aM h28_
       replace HB := aM h29_
       clear h0_ h1_ h2_ h3_ h4_ h5_ h6_ h7_ h8_ h9_ h10_ h11_ h12_ h13_ h14_ h15_ h16_ h17_ h18_ h19_ h20_ h21_ h22_ h23_ h24_ h25_ h26_ h27_ h28_ h29_
       have hHeld : w434.cell? ⟨gb493, 0, none⟩ = some (.bool t471) ∧ w434.cell? ⟨gb493, 1, none⟩ = some (.slice Ao31 t472.length co31) ∧ w434.cell? ⟨gb493, 2, none⟩ = some (.slice Ao32 t475.length co32) := hS_
       obtain ⟨Ao436, co436, eo436⟩ := Kd.R_slice HO671.out
       (first | subst eo436 | (injection eo436 with f1_ f2_ f3_; have f4_ := f1_.symm; have f5_ := f3_.symm; clear f1_ f2_ f3_; subst f4_; subst f5_))
       obtain ⟨Ao438, co438, eo438⟩ := Kd.R_slice HO674.out
       (first | subst eo438 | (injection eo438 with f1_ f2_ f3_; have f4_ := f1_.symm; have f5_ := f3_.symm; clear f1_ f2_ f3_; subst f4_; subst f5_))
       refine norm_ (a' := ?_) ?_ ?_
       rotate_left
       ·simp only [putAll, Act.put, List.setIfInBounds_toArray, List.set_cons_zero, List.set_cons_succ]
        rfl
       refine one_ (i := 7) (N := none) #[true, true, true, true, true, true, true, true, false] rfl rfl (one_of HT_.out (by kernel_rfl)) (by decide) (fun K hK => ?_)
       have hs435 : w434.cell? ⟨gb676, 0, none⟩ = some (.bool false) := (blk_cell BK676.out 0).trans rfl
       have hfs435 := blk_frozen BK676.out 0
       have hns435_0 := NB493_676.out
       have hns435_1 := NB494_676.out
       have hns435_2 := NB551_676.out
       have hns435_3 := NB660_676.out
       have hms435_0 := NB676_493.out
       have hms435_1 := NB676_494.out
       have hms435_2 := NB676_551.out
       have hms435_3 := NB676_660.out
       have hs437 : w434.cell? ⟨gb676, 1, none⟩ = some (.slice none 0 0) := (blk_cell BK676.out 1).trans rfl
       have hfs437 := blk_frozen BK676.out 1
       have hns437_0 := NB493_676.out
       have hns437_1 := NB494_676.out
       have hns437_2 := NB551_676.out
       have hns437_3 := NB660_676.out
       have hms437_0 := NB676_493.out
       have hms437_1 := NB676_494.out
       have hms437_2 := NB676_551.out
       have hms437_3 := NB676_660.out
       have hs439 : w434.cell? ⟨gb676, 2, none⟩ = some (.slice none 0 0) := (blk_cell BK676.out 2).trans rfl
       have hfs439 := blk_frozen BK676.out 2
       have hns439_0 := NB493_676.out
       have hns439_1 := NB494_676.out
       have hns439_2 := NB551_676.out
       have hns439_3 := NB660_676.out
       have hms439_0 := NB676_493.out
       have hms439_1 := NB676_494.out
       have hms439_2 := NB676_551.out
       have hms439_3 := NB676_660.out
       refine skip_ (w1 := ?_) (by rfl) rfl ?_ ?_
       rotate_left
       ·go_simp
        rfl
       refine hK.out _ _ ⟨((cell_far (p := ⟨gb676, _, none⟩) NB493_676.out _).trans (((cell_far (p := ⟨gb676, _, none⟩) NB493_676.out _).trans (((cell_far (p := ⟨gb676, _, none⟩) NB493_676.out _).trans (hHeld.1)))))), ((cell_far (p := ⟨gb676, _, none⟩) NB493_676.out _).trans (((cell_far (p := ⟨gb676, _, none⟩) NB493_676.out _).trans (((cell_far (p := ⟨gb676, _, none⟩) NB493_676.out _).trans (hHeld.2.1)))))), ((cell_far (p := ⟨gb676, _, none⟩) NB493_676.out _).trans (((cell_far (p := ⟨gb676, _, none⟩) NB493_676.out _).trans (((cell_far (p := ⟨gb676, _, none⟩) NB493_676.out _).trans (hHeld.2.2))))))⟩ (fun hHeld => ?_)
       clear hK K
       refine pP 8 (some 14) ?_
       refine done_ (done_of HT_.out (by kernel_rfl)) ?_
       go_upto_region 27 with (fail)
       go_cut [263] (fun v263 wc => ∃ (kq : Nat) (x263_413 : Bool), v263 = .bool x263_413 ∧ Aside0 (plumblaw05_RatField.j3 kq x263_413 t471 t472 t475 t478 t479 t482 t543 t544 t547 = some r) ∧ Aside0 (kq ≤ kj300) ∧ Aside0 (Kd.R (Kd.int .u64) 44 wc w.heap.size (fun k_ => oN Ao32 t475 co32 k_ ∧ oN Ao38 t479 co38 k_ ∧ oN Ao39 t482 co39 k_ ∧ oN Ao190 t544 co190 k_ ∧ oN Ao191 t547 co191 k_) (.slice Ao31 t472.length co31) t472) ∧ Aside0 (Kd.R (Kd.int .u64) 44 wc w.heap.size (fun k_ => oN Ao31 t472 co31 k_ ∧ oN Ao38 t479 co38 k_ ∧ oN Ao39 t482 co39 k_ ∧ oN Ao190 t544 co190 k_ ∧ oN Ao191 t547 co191 k_) (.slice Ao32 t475.length co32) t475) ∧ Aside0 (Kd.R (Kd.int .u64) 44 wc w.heap.size (fun k_ => oN Ao31 t472 co31 k_ ∧ oN Ao32 t475 co32 k_ ∧ oN Ao39 t482 co39 k_ ∧ oN Ao190 t544 co190 k_ ∧ oN Ao191 t547 co191 k_) (.slice Ao38 t479.length co38) t479) ∧ Aside0 (Kd.R (Kd.int .u64) 44 wc w.heap.size (fun k_ => oN Ao31 t472 co31 k_ ∧ oN Ao32 t475 co32 k_ ∧ oN Ao38 t479 co38 k_ ∧ oN Ao190 t544 co190 k_ ∧ oN Ao191 t547 co191 k_) (.slice Ao39 t482.length co39) t482) ∧ Aside0 (Kd.R (Kd.int .u64) 44 wc w.heap.size (fun k_ => oN Ao31 t472 co31 k_ ∧ oN Ao32 t475 co32 k_ ∧ oN Ao38 t479 co38 k_ ∧ oN Ao39 t482 co39 k_ ∧ oN Ao191 t547 co191 k_) (.slice Ao190 t544.length co190) t544) ∧ Aside0 (Kd.R (Kd.int .u64) 44 wc w.heap.size (fun k_ => oN Ao31 t472 co31 k_ ∧ oN Ao32 t475 co32 k_ ∧ oN Ao38 t479 co38 k_ ∧ oN Ao39 t482 co39 k_ ∧ oN Ao190 t544 co190 k_) (.slice Ao191 t547.length co191) t547) ∧ Aside0 (wc.heap[gb493]? = some (.cells #[.bool t471, (.slice Ao31 t472.length co31), (.slice Ao32 t475.length co32)] 25 (0, 0))) ∧ Aside0 (wc.heap[gb494]? = some (.cells #[.bool t478, (.slice Ao38 t479.length co38), (.slice Ao39 t482.length co39)] 25 (0, 0))) ∧ Aside0 (wc.heap[gb551]? = some (.cells #[.bool t543, (.slice Ao190 t544.length co190), (.slice Ao191 t547.length co191)] 25 (0, 0))) ∧ Aside0 (Below w.heap.size w wc))
       case first =>
        as_aux_lemma =>
        have H := HC414.out
        clear HC414
        replace H := nO H
        obtain ⟨rfl, H⟩ := H
        (try dsimp only at H)
        replace H := nO H
        obtain ⟨rfl, H⟩ := H
        (try dsimp only at H)
        replace H := oA H
        obtain ⟨t677, A442, H⟩ := H
        (try dsimp only at H)
        replace H := nO H
        obtain ⟨rfl, H⟩ := H
        (try dsimp only at H)
        replace H := oA H
        obtain ⟨t678, A444, H⟩ := H
        (try dsimp only at H)
        have H' := aM H
        clear H
        have hnb445 := NB660_493.out
        have hnc445 := NB493_660.out
        have hnb446 := NB660_494.out
        have hnc446 := NB494_660.out
        have hnb447 := NB660_551.out
        have hnc447 := NB551_660.out
        have hnb448 := NB660_676.out
        have hnc448 := NB676_660.out
        obtain ⟨hcz449_0, hcz449_1, hcz449_2⟩ := cz3 BK660.out
        obtain ⟨hfz449_0, hfz449_1, hfz449_2⟩ := fz3 BK660.out
        have hnb450 := NB493_494.out
        have hnc450 := NB494_493.out
        have hnb451 := NB493_551.out
        have hnc451 := NB551_493.out
        have hnb452 := NB493_676.out
        have hnc452 := NB676_493.out
        obtain ⟨hcz453_0, hcz453_1, hcz453_2⟩ := cz3 BK493.out
        obtain ⟨hfz453_0, hfz453_1, hfz453_2⟩ := fz3 BK493.out
        go_wp2_with (first | (go_at_call 8; (with_reducible refine (plumblaw05_one.calls kj300 t652 _ _ t653 _ _ t656 t471 _ _ t472 _ _ t475 true _ ?side1 (Kd.R_reads' HO655.out).2.1 ?side3 (Kd.R_reads' HO658.out).2.1 ?side5 ?side6 ?side7 ?side8 A442.out).mono ?_); (case side1 => refine (Kd.R_reads' (e := 44) (base := w.heap.size) (ok := fun k_ => (some k_ ≠ (v647 : Value).ownBlock ∧ (some k_ ≠ (v650 : Value).ownBlock ∧ (oN Ao425 t656 co425 k_ ∧ (some k_ ≠ (v663 : Value).ownBlock ∧ (some k_ ≠ (v666 : Value).ownBlock ∧ (oN Ao436 t669 co436 k_ ∧ (oN Ao438 t672 co438 k_ ∧ (oN Ao31 t472 co31 k_ ∧ (oN Ao32 t475 co32 k_ ∧ (oN Ao38 t479 co38 k_ ∧ (oN Ao39 t482 co39 k_ ∧ (oN Ao190 t544 co190 k_ ∧ oN Ao191 t547 co191 k_))))))))))))) (n := t653.length) (c := co423) ?_).2.2; exact (oR HO655.out BK676.out)); (case side3 => refine (Kd.R_reads' (e := 44) (base := w.heap.size) (ok := fun k_ => (some k_ ≠ (v647 : Value).ownBlock ∧ (some k_ ≠ (v650 : Value).ownBlock ∧ (oN Ao423 t653 co423 k_ ∧ (some k_ ≠ (v663 : Value).ownBlock ∧ (some k_ ≠ (v666 : Value).ownBlock ∧ (oN Ao436 t669 co436 k_ ∧ (oN Ao438 t672 co438 k_ ∧ (oN Ao31 t472 co31 k_ ∧ (oN Ao32 t475 co32 k_ ∧ (oN Ao38 t479 co38 k_ ∧ (oN Ao39 t482 co39 k_ ∧ (oN Ao190 t544 co190 k_ ∧ oN Ao191 t547 co191 k_))))))))))))) (n := t656.length) (c := co425) ?_).2.2; exact (oR HO658.out BK676.out)); (case side5 => refine (Kd.R_reads' (e := 44) (base := w.heap.size) (ok := fun k_ => (some k_ ≠ (v647 : Value).ownBlock ∧ (some k_ ≠ (v650 : Value).ownBlock ∧ (oN Ao423 t653 co423 k_ ∧ (oN Ao425 t656 co425 k_ ∧ (some k_ ≠ (v663 : Value).ownBlock ∧ (some k_ ≠ (v666 : Value).ownBlock ∧ (oN Ao436 t669 co436 k_ ∧ (oN Ao438 t672 co438 k_ ∧ (oN Ao32 t475 co32 k_ ∧ (oN Ao38 t479 co38 k_ ∧ (oN Ao39 t482 co39 k_ ∧ (oN Ao190 t544 co190 k_ ∧ oN Ao191 t547 co191 k_))))))))))))) (n := t472.length) (c := co31) ?_).2.2; exact (oR HO_494001.out BK676.out)); (case side6 => exact (Kd.R_reads' HO_494001.out).2.1); (case side7 => refine (Kd.R_reads' (e := 44) (base := w.heap.size) (ok := fun k_ => (some k_ ≠ (v647 : Value).ownBlock ∧ (some k_ ≠ (v650 : Value).ownBlock ∧ (oN Ao423 t653 co423 k_ ∧ (oN Ao425 t656 co425 k_ ∧ (some k_ ≠ (v663 : Value).ownBlock ∧ (some k_ ≠ (v666 : Value).ownBlock ∧ (oN Ao436 t669 co436 k_ ∧ (oN Ao438 t672 co438 k_ ∧ (oN Ao31 t472 co31 k_ ∧ (oN Ao38 t479 co38 k_ ∧ (oN Ao39 t482 co39 k_ ∧ (oN Ao190 t544 co190 k_ ∧ oN Ao191 t547 co191 k_))))))))))))) (n := t475.length) (c := co32) ?_).2.2; exact (oR HO_494002.out BK676.out)); (case side8 => exact (Kd.R_reads' HO_494002.out).2.1); rintro e w454 ⟨rfl, hb⟩; replace HO_494001 := oX HO_494001.out BK676.out hb; replace HO_494002 := oX HO_494002.out BK676.out hb; replace HO_495001 := oX HO_495001.out BK676.out hb; replace HO_495002 := oX HO_495002.out BK676.out hb; replace HO_552001 := oX HO_552001.out BK676.out hb; replace HO_552002 := oX HO_552002.out BK676.out hb; replace HO648 := oX HO648.out BK676.out hb; replace HO651 := oX HO651.out BK676.out hb; replace HO655 := oX HO655.out BK676.out hb; replace HO658 := oX HO658.out BK676.out hb; replace HO664 := oX HO664.out BK676.out hb; replace HO667 := oX HO667.out BK676.out hb; replace HO671 := oX HO671.out BK676.out hb; replace HO674 := oX HO674.out BK676.out hb; replace BK493 := bU1 BK493.out NB493_676.out hb; replace BK494 := bU1 BK494.out NB494_676.out hb; replace BK551 := bU1 BK551.out NB551_676.out hb; replace BK660 := bU1 BK660.out NB660_676.out hb; replace BK676 := aM (blk_below (g := gb676) (o := .cells #[.bool t668, .slice Ao436 t669.length co436, .slice Ao438 t672.length co438] 25 (0, 0)) (dP BK676.out) hb); replace HB := hS HB.out hb; (try clear hb); have hnb455 := NB676_494.out; have hnc455 := NB494_676.out; have hnb456 := NB676_551.out; have hnc456 := NB551_676.out; obtain ⟨hcz457_0, hcz457_1, hcz457_2⟩ := cz3 BK676.out; obtain ⟨hfz457_0, hfz457_1, hfz457_2⟩ := fz3 BK676.out; obtain ⟨hcz458_0, hcz458_1, hcz458_2⟩ := cz3 BK493.out; obtain ⟨hfz458_0, hfz458_1, hfz458_2⟩ := fz3 BK493.out) | (go_at_call 8; (with_reducible refine (plumblaw05_one.calls kj300 t668 _ _ t669 _ _ t672 t471 _ _ t472 _ _ t475 t678 _ ?side1 (Kd.R_reads' HO671.out).2.1 ?side3 (Kd.R_reads' HO674.out).2.1 ?side5 (Kd.R_reads' HO_494001.out).2.1 ?side7 (Kd.R_reads' HO_494002.out).2.1 A444.out).mono ?_); (case side1 => exact dC (Kd.R_reads' HO671.out).2.2); (case side3 => exact dC (Kd.R_reads' HO674.out).2.2); (case side5 => exact dC (Kd.R_reads' HO_494001.out).2.2); (case side7 => exact dC (Kd.R_reads' HO_494002.out).2.2); rintro e w459 ⟨rfl, hb⟩; replace HO_494001 := oB HO_494001.out hb; replace HO_494002 := oB HO_494002.out hb; replace HO_495001 := oB HO_495001.out hb; replace HO_495002 := oB HO_495002.out hb; replace HO_552001 := oB HO_552001.out hb; replace HO_552002 := oB HO_552002.out hb; replace HO648 := oB HO648.out hb; replace HO651 := oB HO651.out hb; replace HO655 := oB HO655.out hb; replace HO658 := oB HO658.out hb; replace HO664 := oB HO664.out hb; replace HO667 := oB HO667.out hb; replace HO671 := oB HO671.out hb; replace HO674 := oB HO674.out hb; replace BK493 := bB BK493.out hb; replace BK494 := bB BK494.out hb; replace BK551 := bB BK551.out hb; replace BK660 := bB BK660.out hb; replace BK676 := bB BK676.out hb; replace HB := hS HB.out hb; (try clear hb)))
        go_meet
        case rel => exact ⟨_, (!t678), dF, H', ⟨by have := HJ10.out; have := HJ171.out; have := HJ300.out; first | omega | exact Nat.le_refl _⟩, ⟨oS HO_494001.out⟩, ⟨oS HO_494002.out⟩, ⟨oS HO_495001.out⟩, ⟨oS HO_495002.out⟩, ⟨oS HO_552001.out⟩, ⟨oS HO_552002.out⟩, ⟨dK BK493.out⟩, ⟨dK BK494.out⟩, ⟨dK BK551.out⟩, ⟨eB⟩⟩
       case rest =>
        as_aux_lemma =>
        clear HC414
        try clear HO_494001 HO_494002 HO_495001 HO_495002 HO_552001 HO_552002
        try clear BK493 BK494 BK551 A410 A411 A412
        try clear A413 HO648 HO651 HO655 HO658 BK660
        try clear GW660 GE660 NB493_660 NB660_493 NB494_660 NB660_494
        try clear NB551_660 NB660_551 HO664 HO667 HO671 HO674
        try clear BK676 GW676 GE676 NB493_676 NB676_493 NB494_676
        try clear NB676_494 NB551_676 NB676_551 NB660_676 NB676_660
        obtain ⟨kq, x263_413, rfl, HA, HJ413, HO_494001, HO_494002, HO_495001, HO_495002, HO_552001, HO_552002, BK493, BK494, BK551, HB⟩ := hcut
        cases kq with
        | zero => exact absurd HA.out (by simp [plumblaw05_RatField.j3])
        | succ kj413 =>
         have H := HA.out
         clear HA
         simp only [plumblaw05_RatField.j3] at H
         replace H := nR H
         obtain ⟨rfl, H⟩ := H
         (try dsimp only at H)
         replace H := oA H
         obtain ⟨t679, A461, H⟩ := H
         (try dsimp only at H)
         by_cases c462 : t679 = 0
         ·rw [if_pos c462] at H
          obtain ⟨c462b0, c462b1⟩ := bT c462
          clear c462
          replace H := oA H
          obtain ⟨⟨t680, t681, t684, t687⟩, A463, H⟩ := H
          (try dsimp only at H)
          obtain rfl := Option.some.inj H
          have hnb464 := NB494_493.out
          have hnc464 := NB493_494.out
          have hnb465 := NB494_551.out
          have hnc465 := NB551_494.out
          obtain ⟨hcz466_0, hcz466_1, hcz466_2⟩ := cz3 BK494.out
          obtain ⟨hfz466_0, hfz466_1, hfz466_2⟩ := fz3 BK494.out
          go_wp2_with (first | ((with_reducible refine gate_callee (f := 12) rfl ?_); refine gL (some 265) Try.func12 #[.agg #[.bool t478, .slice Ao38 t479.length co38, .slice Ao39 t482.length co39]] ?_; (with_reducible refine (rat_Sign.calls kj413 t478 _ _ t479 _ _ t482 t679 _ ?side1 (Kd.R_reads' HO_495001.out).2.1 ?side3 (Kd.R_reads' HO_495002.out).2.1 A461.out).mono ?_); (case side1 => exact dC (Kd.R_reads' HO_495001.out).2.2); (case side3 => exact dC (Kd.R_reads' HO_495002.out).2.2); rintro e w467 ⟨rfl, hb⟩; refine ⟨_, rfl, ?_⟩; replace HO_494001 := oB HO_494001.out hb; replace HO_494002 := oB HO_494002.out hb; replace HO_495001 := oB HO_495001.out hb; replace HO_495002 := oB HO_495002.out hb; replace HO_552001 := oB HO_552001.out hb; replace HO_552002 := oB HO_552002.out hb; replace BK493 := bB BK493.out hb; replace BK494 := bB BK494.out hb; replace BK551 := bB BK551.out hb; replace HB := hS HB.out hb; (try clear hb); have hnb468 := NB493_551.out; have hnc468 := NB551_493.out; obtain ⟨hcz469_0, hcz469_1, hcz469_2⟩ := cz3 BK493.out; obtain ⟨hfz469_0, hfz469_1, hfz469_2⟩ := fz3 BK493.out; obtain ⟨hcz470_0, hcz470_1, hcz470_2⟩ := cz3 BK494.out; obtain ⟨hfz470_0, hfz470_1, hfz470_2⟩ := fz3 BK494.out) | ((with_reducible refine gate_callee (f := 13) rfl ?_); refine gL (some 270) Try.func13 #[.agg #[.bool t471, .slice Ao31 t472.length co31, .slice Ao32 t475.length co32], .agg #[.bool t478, .slice Ao38 t479.length co38, .slice Ao39 t482.length co39]] ?_; (with_reducible refine (rat_Div.calls kj413 t471 _ _ t472 _ _ t475 t478 _ _ t479 _ _ t482 t680 t681 t684 t687 _ ?side1 (Kd.R_reads' HO_494001.out).2.1 ?side3 (Kd.R_reads' HO_494002.out).2.1 ?side5 (Kd.R_reads' HO_495001.out).2.1 ?side7 (Kd.R_reads' HO_495002.out).2.1 A463.out).mono ?_); (case side1 => exact dC (Kd.R_reads' HO_494001.out).2.2); (case side3 => exact dC (Kd.R_reads' HO_494002.out).2.2); (case side5 => exact dC (Kd.R_reads' HO_495001.out).2.2); (case side7 => exact dC (Kd.R_reads' HO_495002.out).2.2); rintro e w471 ⟨v682, v685, rfl, ho0, ho1, hb⟩; refine ⟨_, rfl, ?_⟩; have HO683 := aM (Kd.R_lower (nW (nW (nW (nW (nW (nW ho0 HO_494001.out) HO_494002.out) HO_495001.out) HO_495002.out) HO_552001.out) HO_552002.out) (below_size eB)); have HO686 := aM (Kd.R_lower (nW (nW (nW (nW (nW (nW ho1 HO_494001.out) HO_494002.out) HO_495001.out) HO_495002.out) HO_552001.out) HO_552002.out) (below_size eB)); replace HO_494001 := tT HO_494001.out hb ho0 ho1; replace HO_494002 := tT HO_494002.out hb ho0 ho1; replace HO_495001 := tT HO_495001.out hb ho0 ho1; replace HO_495002 := tT HO_495002.out hb ho0 ho1; replace HO_552001 := tT HO_552001.out hb ho0 ho1; replace HO_552002 := tT HO_552002.out hb ho0 ho1; replace BK493 := bB BK493.out hb; replace BK494 := bB BK494.out hb; replace BK551 := bB BK551.out hb; replace HB := hS HB.out hb; (try clear hb); (try clear ho0); (try clear ho1)) | ((with_reducible refine gate_dst (N := 33) rfl ?_); refine bE 33 #[.bool false, .slice none 0 0, .slice none 0 0] 25 ?_; intro gb688 hg w472 hbox hb; replace HO_494001 := oB HO_494001.out hb; replace HO_494002 := oB HO_494002.out hb; replace HO_495001 := oB HO_495001.out hb; replace HO_495002 := oB HO_495002.out hb; replace HO_552001 := oB HO_552001.out hb; replace HO_552002 := oB HO_552002.out hb; replace HO683 := oB HO683.out hb; replace HO686 := oB HO686.out hb; have BK688 := aM (hbox); have GW688 : Aside0 (w.heap.size ≤ gb688) := gE hg; have GE688 : Aside0 (w.heap.size ≤ gb688) := gE hg; replace HB := hS HB.out hb; have NB493_688 := nL hg BK493.out; have NB688_493 := nG hg BK493.out; replace BK493 := bB BK493.out hb; have NB494_688 := nL hg BK494.out; have NB688_494 := nG hg BK494.out; replace BK494 := bB BK494.out hb; have NB551_688 := nL hg BK551.out; have NB688_551 := nG hg BK551.out; replace BK551 := bB BK551.out hb; clear hb hbox hg; have hnb473 := NB688_493.out; have hnc473 := NB493_688.out; have hnb474 := NB688_494.out; have hnc474 := NB494_688.out; have hnb475 := NB688_551.out; have hnc475 := NB551_688.out; obtain ⟨hcz476_0, hcz476_1, hcz476_2⟩ := cz3 BK688.out; obtain ⟨hfz476_0, hfz476_1, hfz476_2⟩ := fz3 BK688.out; obtain ⟨Ao477, co477, rfl⟩ := Kd.R_slice HO683.out; obtain ⟨Ao478, co478, rfl⟩ := Kd.R_slice HO686.out))
          go_ret
          exact ⟨dE, eB⟩
         ·rw [if_neg c462] at H
          obtain ⟨c462b0, c462b1⟩ := bF c462
          replace H := oA H
          obtain ⟨⟨t689, t690, t693, t696⟩, A479, H⟩ := H
          (try dsimp only at H)
          replace H := oA H
          obtain ⟨⟨t698, t699, t702, t705⟩, A480, H⟩ := H
          (try dsimp only at H)
          replace H := nO H
          obtain ⟨rfl, H⟩ := H
          (try dsimp only at H)
          replace H := nO H
          obtain ⟨rfl, H⟩ := H
          (try dsimp only at H)
          replace H := oA H
          obtain ⟨t707, A483, H⟩ := H
          (try dsimp only at H)
          replace H := nO H
          obtain ⟨rfl, H⟩ := H
          (try dsimp only at H)
          replace H := oA H
          obtain ⟨⟨t708, t709, t712⟩, A485, H⟩ := H
          (try dsimp only at H)
          replace H := oA H
          obtain ⟨t715, A486, H⟩ := H
          (try dsimp only at H)
          obtain rfl := Option.some.inj H
          have hnb487 := NB494_493.out
          have hnc487 := NB493_494.out
          have hnb488 := NB494_551.out
          have hnc488 := NB551_494.out
          obtain ⟨hcz489_0, hcz489_1, hcz489_2⟩ := cz3 BK494.out
          obtain ⟨hfz489_0, hfz489_1, hfz489_2⟩ := fz3 BK494.out
          try go_wp2_with (first | ((with_reducible refine gate_callee (f := 12) rfl ?_); refine gL (some 265) Try.func12 #[.agg #[.bool t478, .slice Ao38 t479.length co38, .slice Ao39 t482.length co39]] ?_; (with_reducible refine (rat_Sign.calls kj413 t478 _ _ t479 _ _ t482 t679 _ ?side1 (Kd.R_reads' HO_495001.out).2.1 ?side3 (Kd.R_reads' HO_495002.out).2.1 A461.out).mono ?_); (case side1 => exact dC (Kd.R_reads' HO_495001.out).2.2); (case side3 => exact dC (Kd.R_reads' HO_495002.out).2.2); rintro e w490 ⟨rfl, hb⟩; refine ⟨_, rfl, ?_⟩; replace HO_494001 := oB HO_494001.out hb; replace HO_494002 := oB HO_494002.out hb; replace HO_495001 := oB HO_495001.out hb; replace HO_495002 := oB HO_495002.out hb; replace HO_552001 := oB HO_552001.out hb; replace HO_552002 := oB HO_552002.out hb; replace BK493 := bB BK493.out hb; replace BK494 := bB BK494.out hb; replace BK551 := bB BK551.out hb; replace HB := hS HB.out hb; (try clear hb); have hnb491 := NB551_493.out; have hnc491 := NB493_551.out; obtain ⟨hcz492_0, hcz492_1, hcz492_2⟩ := cz3 BK551.out; obtain ⟨hfz492_0, hfz492_1, hfz492_2⟩ := fz3 BK551.out; obtain ⟨hcz493_0, hcz493_1, hcz493_2⟩ := cz3 BK494.out; obtain ⟨hfz493_0, hfz493_1, hfz493_2⟩ := fz3 BK494.out) | ((with_reducible refine gate_callee (f := 14) rfl ?_); refine gL (some 278) Try.func14 #[.agg #[.bool t543, .slice Ao190 t544.length co190, .slice Ao191 t547.length co191], .agg #[.bool t478, .slice Ao38 t479.length co38, .slice Ao39 t482.length co39]] ?_; (with_reducible refine (plumblaw05_div.calls kj413 t543 _ _ t544 _ _ t547 t478 _ _ t479 _ _ t482 t689 t690 t693 true _ ?side1 (Kd.R_reads' HO_552001.out).2.1 ?side3 (Kd.R_reads' HO_552002.out).2.1 ?side5 (Kd.R_reads' HO_495001.out).2.1 ?side7 (Kd.R_reads' HO_495002.out).2.1 A479.out).mono ?_); (case side1 => exact dC (Kd.R_reads' HO_552001.out).2.2); (case side3 => exact dC (Kd.R_reads' HO_552002.out).2.2); (case side5 => exact dC (Kd.R_reads' HO_495001.out).2.2); (case side7 => exact dC (Kd.R_reads' HO_495002.out).2.2); rintro e w494 ⟨v691, v694, rfl, ho0, ho1, hb⟩; refine ⟨_, rfl, ?_⟩; have HO692 := aM (Kd.R_lower (nW (nW (nW (nW (nW (nW ho0 HO_494001.out) HO_494002.out) HO_495001.out) HO_495002.out) HO_552001.out) HO_552002.out) (below_size eB)); have HO695 := aM (Kd.R_lower (nW (nW (nW (nW (nW (nW ho1 HO_494001.out) HO_494002.out) HO_495001.out) HO_495002.out) HO_552001.out) HO_552002.out) (below_size eB)); replace HO_494001 := tT HO_494001.out hb ho0 ho1; replace HO_494002 := tT HO_494002.out hb ho0 ho1; replace HO_495001 := tT HO_495001.out hb ho0 ho1; replace HO_495002 := tT HO_495002.out hb ho0 ho1; replace HO_552001 := tT HO_552001.out hb ho0 ho1; replace HO_552002 := tT HO_552002.out hb ho0 ho1; replace BK493 := bB BK493.out hb; replace BK494 := bB BK494.out hb; replace BK551 := bB BK551.out hb; replace HB := hS HB.out hb; (try clear hb); (try clear ho0); (try clear ho1)) | ((with_reducible refine gate_dst (N := 35) rfl ?_); refine bE 35 #[.bool false, .slice none 0 0, .slice none 0 0] 25 ?_; intro gb697 hg w495 hbox hb; replace HO_494001 := oB HO_494001.out hb; replace HO_494002 := oB HO_494002.out hb; replace HO_495001 := oB HO_495001.out hb; replace HO_495002 := oB HO_495002.out hb; replace HO_552001 := oB HO_552001.out hb; replace HO_552002 := oB HO_552002.out hb; replace HO692 := oB HO692.out hb; replace HO695 := oB HO695.out hb; have BK697 := aM (hbox); have GW697 : Aside0 (w.heap.size ≤ gb697) := gE hg; have GE697 : Aside0 (w.heap.size ≤ gb697) := gE hg; replace HB := hS HB.out hb; have NB493_697 := nL hg BK493.out; have NB697_493 := nG hg BK493.out; replace BK493 := bB BK493.out hb; have NB494_697 := nL hg BK494.out; have NB697_494 := nG hg BK494.out; replace BK494 := bB BK494.out hb; have NB551_697 := nL hg BK551.out; have NB697_551 := nG hg BK551.out; replace BK551 := bB BK551.out hb; clear hb hbox hg; have hnb496 := NB697_493.out; have hnc496 := NB493_697.out; have hnb497 := NB697_494.out; have hnc497 := NB494_697.out; have hnb498 := NB697_551.out; have hnc498 := NB551_697.out; obtain ⟨hcz499_0, hcz499_1, hcz499_2⟩ := cz3 BK697.out; obtain ⟨hfz499_0, hfz499_1, hfz499_2⟩ := fz3 BK697.out; obtain ⟨Ao500, co500, rfl⟩ := Kd.R_slice HO692.out; obtain ⟨Ao501, co501, rfl⟩ := Kd.R_slice HO695.out; obtain ⟨hcz502_0, hcz502_1, hcz502_2⟩ := cz3 BK494.out; obtain ⟨hfz502_0, hfz502_1, hfz502_2⟩ := fz3 BK494.out) | ((with_reducible refine gate_callee (f := 14) rfl ?_); refine gL (some 284) Try.func14 #[.agg #[.bool t478, .slice Ao38 t479.length co38, .slice Ao39 t482.length co39], .agg #[.bool t478, .slice Ao38 t479.length co38, .slice Ao39 t482.length co39]] ?_; (with_reducible refine (plumblaw05_div.calls kj413 t478 _ _ t479 _ _ t482 t478 _ _ t479 _ _ t482 t698 t699 t702 true _ ?side1 (Kd.R_reads' HO_495001.out).2.1 ?side3 (Kd.R_reads' HO_495002.out).2.1 ?side5 (Kd.R_reads' HO_495001.out).2.1 ?side7 (Kd.R_reads' HO_495002.out).2.1 A480.out).mono ?_); (case side1 => refine (Kd.R_reads' (e := 44) (base := w.heap.size) (ok := fun k_ => (((oN Ao31 t472 co31 k_ ∧ (oN Ao32 t475 co32 k_ ∧ (oN Ao39 t482 co39 k_ ∧ (oN Ao190 t544 co190 k_ ∧ oN Ao191 t547 co191 k_)))) ∧ oN Ao500 t690 co500 k_) ∧ oN Ao501 t693 co501 k_)) (n := t479.length) (c := co38) ?_).2.2; exact (oR HO_495001.out BK697.out)); (case side3 => refine (Kd.R_reads' (e := 44) (base := w.heap.size) (ok := fun k_ => (((oN Ao31 t472 co31 k_ ∧ (oN Ao32 t475 co32 k_ ∧ (oN Ao38 t479 co38 k_ ∧ (oN Ao190 t544 co190 k_ ∧ oN Ao191 t547 co191 k_)))) ∧ oN Ao500 t690 co500 k_) ∧ oN Ao501 t693 co501 k_)) (n := t482.length) (c := co39) ?_).2.2; exact (oR HO_495002.out BK697.out)); (case side5 => refine (Kd.R_reads' (e := 44) (base := w.heap.size) (ok := fun k_ => (((oN Ao31 t472 co31 k_ ∧ (oN Ao32 t475 co32 k_ ∧ (oN Ao39 t482 co39 k_ ∧ (oN Ao190 t544 co190 k_ ∧ oN Ao191 t547 co191 k_)))) ∧ oN Ao500 t690 co500 k_) ∧ oN Ao501 t693 co501 k_)) (n := t479.length) (c := co38) ?_).2.2; exact (oR HO_495001.out BK697.out)); (case side7 => refine (Kd.R_reads' (e := 44) (base := w.heap.size) (ok := fun k_ => (((oN Ao31 t472 co31 k_ ∧ (oN Ao32 t475 co32 k_ ∧ (oN Ao38 t479 co38 k_ ∧ (oN Ao190 t544 co190 k_ ∧ oN Ao191 t547 co191 k_)))) ∧ oN Ao500 t690 co500 k_) ∧ oN Ao501 t693 co501 k_)) (n := t482.length) (c := co39) ?_).2.2; exact (oR HO_495002.out BK697.out)); rintro e w503 ⟨v700, v703, rfl, ho0, ho1, hb⟩; refine ⟨_, rfl, ?_⟩; have HO701 := aM (Kd.R_lower (nV (nV (nV (nV (nV (nV (nV (nV ho0 HO_494001.out BK697.out) HO_494002.out BK697.out) HO_495001.out BK697.out) HO_495002.out BK697.out) HO_552001.out BK697.out) HO_552002.out BK697.out) HO692.out BK697.out) HO695.out BK697.out) (below_size eB)); have HO704 := aM (Kd.R_lower (nV (nV (nV (nV (nV (nV (nV (nV ho1 HO_494001.out BK697.out) HO_494002.out BK697.out) HO_495001.out BK697.out) HO_495002.out BK697.out) HO_552001.out BK697.out) HO_552002.out BK697.out) HO692.out BK697.out) HO695.out BK697.out) (below_size eB)); replace HO_494001 := tX HO_494001.out BK697.out hb ho0 ho1; replace HO_494002 := tX HO_494002.out BK697.out hb ho0 ho1; replace HO_495001 := tX HO_495001.out BK697.out hb ho0 ho1; replace HO_495002 := tX HO_495002.out BK697.out hb ho0 ho1; replace HO_552001 := tX HO_552001.out BK697.out hb ho0 ho1; replace HO_552002 := tX HO_552002.out BK697.out hb ho0 ho1; replace HO692 := tX HO692.out BK697.out hb ho0 ho1; replace HO695 := tX HO695.out BK697.out hb ho0 ho1; replace BK493 := bU1 BK493.out NB493_697.out hb; replace BK494 := bU1 BK494.out NB494_697.out hb; replace BK551 := bU1 BK551.out NB551_697.out hb; replace BK697 := aM (blk_below (g := gb697) (o := .cells #[.bool t689, .slice Ao500 t690.length co500, .slice Ao501 t693.length co501] 25 (0, 0)) (dP BK697.out) hb); replace HB := hS HB.out hb; (try clear hb); (try clear ho0); (try clear ho1)) | ((with_reducible refine gate_dst (N := 36) rfl ?_); refine bE 36 #[.bool false, .slice none 0 0, .slice none 0 0] 25 ?_; intro gb706 hg w504 hbox hb; replace HO_494001 := oB HO_494001.out hb; replace HO_494002 := oB HO_494002.out hb; replace HO_495001 := oB HO_495001.out hb; replace HO_495002 := oB HO_495002.out hb; replace HO_552001 := oB HO_552001.out hb; replace HO_552002 := oB HO_552002.out hb; replace HO692 := oB HO692.out hb; replace HO695 := oB HO695.out hb; replace HO701 := oB HO701.out hb; replace HO704 := oB HO704.out hb; have BK706 := aM (hbox); have GW706 : Aside0 (w.heap.size ≤ gb706) := gE hg; have GE706 : Aside0 (w.heap.size ≤ gb706) := gE hg; replace HB := hS HB.out hb; have NB493_706 := nL hg BK493.out; have NB706_493 := nG hg BK493.out; replace BK493 := bB BK493.out hb; have NB494_706 := nL hg BK494.out; have NB706_494 := nG hg BK494.out; replace BK494 := bB BK494.out hb; have NB551_706 := nL hg BK551.out; have NB706_551 := nG hg BK551.out; replace BK551 := bB BK551.out hb; have NB697_706 := nL hg BK697.out; have NB706_697 := nG hg BK697.out; replace BK697 := bB BK697.out hb; clear hb hbox hg; have hnb505 := NB706_493.out; have hnc505 := NB493_706.out; have hnb506 := NB706_494.out; have hnc506 := NB494_706.out; have hnb507 := NB706_551.out; have hnc507 := NB551_706.out; have hnb508 := NB706_697.out; have hnc508 := NB697_706.out; obtain ⟨hcz509_0, hcz509_1, hcz509_2⟩ := cz3 BK706.out; obtain ⟨hfz509_0, hfz509_1, hfz509_2⟩ := fz3 BK706.out; obtain ⟨Ao510, co510, rfl⟩ := Kd.R_slice HO701.out; obtain ⟨Ao511, co511, rfl⟩ := Kd.R_slice HO704.out))
          obtain ⟨w512, hw_⟩ : ∃ W, W = (((w504.setCell ⟨gb706, 0, none⟩ (.bool t698)).setCell ⟨gb706, 1, none⟩ (.slice Ao510 t699.length co510)).setCell ⟨gb706, 2, none⟩ (.slice Ao511 t702.length co511)) := ⟨_, rfl⟩
          have mR0_ : ∀ (ok : Nat → Prop) v xs, Kd.R (Kd.int .u64) 44 w504 w.heap.size ok v xs → Aside0 (Kd.R (Kd.int .u64) 44 w512 w.heap.size ok v xs) := by rw [hw_]; exact fun _ _ _ x => ⟨oR x BK706.out⟩
          have mB1_ : ∀ (g : Nat) (o : Obj), w504.heap[g]? = some o → g ≠ gb706 → Aside0 (w512.heap[g]? = some o) := by rw [hw_]; exact fun _ _ x y => ⟨Eq.trans (Below.heap_setCell _ ⟨gb706, _, none⟩ _ _ y) (Eq.trans (Below.heap_setCell _ ⟨gb706, _, none⟩ _ _ y) (Eq.trans (Below.heap_setCell _ ⟨gb706, _, none⟩ _ _ y) x))⟩
          replace HO_494001 := mR0_ _ _ _ HO_494001.out
          replace HO_494002 := mR0_ _ _ _ HO_494002.out
          replace HO_495001 := mR0_ _ _ _ HO_495001.out
          replace HO_495002 := mR0_ _ _ _ HO_495002.out
          replace HO_552001 := mR0_ _ _ _ HO_552001.out
          replace HO_552002 := mR0_ _ _ _ HO_552002.out
          replace HO692 := mR0_ _ _ _ HO692.out
          replace HO695 := mR0_ _ _ _ HO695.out
          replace HO701 := mR0_ _ _ _ HO701.out
          replace HO704 := mR0_ _ _ _ HO704.out
          replace BK493 := mB1_ _ _ BK493.out NB493_706.out
          replace BK494 := mB1_ _ _ BK494.out NB494_706.out
          replace BK551 := mB1_ _ _ BK551.out NB551_706.out
          replace BK697 := mB1_ _ _ BK697.out NB697_706.out
          replace BK706 : Aside0 (w512.heap[gb706]? = some (.cells #[.bool t698, .slice Ao510 t699.length co510, .slice Ao511 t702.length co511] 25 (0, 0))) := by rw [hw_]; exact ⟨dP BK706.out⟩
          replace HB : Aside0 (Below w.heap.size w w512) := by rw [hw_]; exact ⟨eB⟩
          rw [← hw_]
          clear hw_ mR0_ mB1_
          replace HO_494001 := aM (Kd.R_drew HO_494001.out)
          replace HO_494002 := aM (Kd.R_drew HO_494002.out)
          replace HO_495001 := aM (Kd.R_drew HO_495001.out)
          replace HO_495002 := aM (Kd.R_drew HO_495002.out)
          replace HO_552001 := aM (Kd.R_drew HO_552001.out)
          replace HO_552002 := aM (Kd.R_drew HO_552002.out)
          replace HO692 := aM (Kd.R_drew HO692.out)
          replace HO695 := aM (Kd.R_drew HO695.out)
          replace HO701 := aM (Kd.R_drew HO701.out)
          replace HO704 := aM (Kd.R_drew HO704.out)
          replace BK493 := aM (blk_drew BK493.out)
          replace BK494 := aM (blk_drew BK494.out)
          replace BK551 := aM (blk_drew BK551.out)
          replace BK697 := aM (blk_drew BK697.out)
          replace BK706 := aM (blk_drew BK706.out)
          replace HB := aM (below_drew1 HB.out)
          refine start_ (n := 15) (S := fun w' => w'.cell? ⟨gb697, 0, none⟩ = some (.bool t689) ∧ w'.cell? ⟨gb697, 1, none⟩ = some (.slice Ao500 t690.length co500) ∧ w'.cell? ⟨gb697, 2, none⟩ = some (.slice Ao501 t693.length co501) ∧ w'.cell? ⟨gb493, 0, none⟩ = some (.bool t471) ∧ w'.cell? ⟨gb493, 1, none⟩ = some (.slice Ao31 t472.length co31) ∧ w'.cell? ⟨gb493, 2, none⟩ = some (.slice Ao32 t475.length co32) ∧ w'.cell? ⟨gb706, 0, none⟩ = some (.bool t698) ∧ w'.cell? ⟨gb706, 1, none⟩ = some (.slice Ao510 t699.length co510) ∧ w'.cell? ⟨gb706, 2, none⟩ = some (.slice Ao511 t702.length co511)) (ds := []) #[false, false, false, false, false, false, false, false, false, false, false, false, false, false, false] (by kernel_rfl) rfl rfl ⟨(blk_cell BK697.out 0).trans rfl, (blk_cell BK697.out 1).trans rfl, (blk_cell BK697.out 2).trans rfl, (blk_cell BK493.out 0).trans rfl, (blk_cell BK493.out 1).trans rfl, (blk_cell BK493.out 2).trans rfl, (blk_cell BK706.out 0).trans rfl, (blk_cell BK706.out 1).trans rfl, (blk_cell BK706.out 2).trans rfl⟩ (fun hHeld => ?_); refine with_tabW plumblaw05_RatField.tab34 plumblaw05_RatField.bits34 (fun HT_ HW_ => ?_)
          generalize w512.drew = w513 at HO_494001 HO_494002 HO_495001 HO_495002 HO_552001 HO_552002 HO692 HO695 HO701 HO704 BK493 BK494 BK551 BK697 BK706 HB hHeld ⊢
          refine pP 0 (some 287) ?_
          refine pP 1 (some 288) ?_
          refine pP 2 (some 289) ?_
          refine pP 3 (some 290) ?_
          refine pP 4 (some 291) ?_
          refine pH9 5 (some 292) hHeld ?_
          refine pH9 6 (some 293) hHeld ?_
          refine one_ (i := 7) (N := some 294) #[true, true, true, true, true, true, true, true, false, false, false, false, false, false, false] rfl rfl (one_of HT_.out (by kernel_rfl)) (by decide) (fun K hK => ?_)
          refine goes_ Try.func8 (by kernel_rfl) rfl #[.agg #[.bool t689, .slice Ao500 t690.length co500, .slice Ao501 t693.length co501], .agg #[.bool t471, .slice Ao31 t472.length co31, .slice Ao32 t475.length co32]] (by rfl) rfl rfl dA ?_
          with_reducible refine (plumblaw05_one.calls kj413 t689 _ _ t690 _ _ t693 t471 _ _ t472 _ _ t475 true _ ?side1 (Kd.R_reads' HO692.out).2.1 ?side3 (Kd.R_reads' HO695.out).2.1 ?side5 (Kd.R_reads' HO_494001.out).2.1 ?side7 (Kd.R_reads' HO_494002.out).2.1 A483.out).mono ?_
          (case side1 => exact dC (Kd.R_reads' HO692.out).2.2)
          (case side3 => exact dC (Kd.R_reads' HO695.out).2.2)
          (case side5 => exact dC (Kd.R_reads' HO_494001.out).2.2)
          (case side7 => exact dC (Kd.R_reads' HO_494002.out).2.2)
          rintro e w514 ⟨rfl, hb⟩
          refine ⟨_, rfl, ?_⟩
          replace HO_494001 := oB HO_494001.out hb
          replace HO_494002 := oB HO_494002.out hb
          replace HO_495001 := oB HO_495001.out hb
          replace HO_495002 := oB HO_495002.out hb
          replace HO_552001 := oB HO_552001.out hb
          replace HO_552002 := oB HO_552002.out hb
          replace HO692 := oB HO692.out hb
          replace HO695 := oB HO695.out hb
          replace HO701 := oB HO701.out hb
          replace HO704 := oB HO704.out hb
          replace BK493 := bB BK493.out hb
          replace BK494 := bB BK494.out hb
          replace BK551 := bB BK551.out hb
          replace BK697 := bB BK697.out hb
          replace BK706 := bB BK706.out hb
          replace HB := hS HB.out hb
          (try clear hb)
          (try clear hb2)
          (try clear hk)
          (try clear hi)
          refine hK.out _ _ ⟨(blk_cell BK697.out 0).trans rfl, (blk_cell BK697.out 1).trans rfl, (blk_cell BK697.out 2).trans rfl, (blk_cell BK493.out 0).trans rfl, (blk_cell BK493.out 1).trans rfl, (blk_cell BK493.out 2).trans rfl, (blk_cell BK706.out 0).trans rfl, (blk_cell BK706.out 1).trans rfl, (blk_cell BK706.out 2).trans rfl⟩ (fun hHeld => ?_)
          clear hK K
          refine norm_ (a' := ?_) ?_ ?_
          rotate_left
          ·show Act.put _ (some 294) _ = _
           simp only [Act.put, List.setIfInBounds_toArray, List.set_cons_zero, List.set_cons_succ, i64_w, i32_w]
           rfl
          refine pP 8 (some 295) ?_
          refine pP 9 (some 296) ?_
          refine pH9 10 (some 297) hHeld ?_
          refine one_ (i := 11) (N := some 298) #[true, true, true, true, true, true, true, true, true, true, true, true, false, false, false] rfl rfl (one_of HT_.out (by kernel_rfl)) (by decide) (fun K hK => ?_)
          refine goes_ Try.func11 (by kernel_rfl) rfl #[.int .i64 1] (by rfl) rfl rfl dA ?_
          with_reducible refine (rat_Int.calls 1 t708 t709 t712 _ A485.out).mono ?_
          rintro e w515 ⟨v710, v713, rfl, ho0, ho1, hb⟩
          refine ⟨_, rfl, ?_⟩
          have HO711 := aM (Kd.R_lower (nW (nW (nW (nW (nW (nW (nW (nW (nW (nW ho0 HO_494001.out) HO_494002.out) HO_495001.out) HO_495002.out) HO_552001.out) HO_552002.out) HO692.out) HO695.out) HO701.out) HO704.out) (below_size eB))
          have HO714 := aM (Kd.R_lower (nW (nW (nW (nW (nW (nW (nW (nW (nW (nW ho1 HO_494001.out) HO_494002.out) HO_495001.out) HO_495002.out) HO_552001.out) HO_552002.out) HO692.out) HO695.out) HO701.out) HO704.out) (below_size eB))
          replace HO_494001 := tT HO_494001.out hb ho0 ho1
          replace HO_494002 := tT HO_494002.out hb ho0 ho1
          replace HO_495001 := tT HO_495001.out hb ho0 ho1
          replace HO_495002 := tT HO_495002.out hb ho0 ho1
          replace HO_552001 := tT HO_552001.out hb ho0 ho1
          replace HO_552002 := tT HO_552002.out hb ho0 ho1
          replace HO692 := tT HO692.out hb ho0 ho1
          replace HO695 := tT HO695.out hb ho0 ho1
          replace HO701 := tT HO701.out hb ho0 ho1
          replace HO704 := tT HO704.out hb ho0 ho1
          replace BK493 := bB BK493.out hb
          replace BK494 := bB BK494.out hb
          replace BK551 := bB BK551.out hb
          replace BK697 := bB BK697.out hb
          replace BK706 := bB BK706.out hb
          replace HB := hS HB.out hb
          (try clear hb)
          (try clear hb2)
          (try clear hk)
          (try clear hi)
          (try clear ho0)
          (try clear ho1)
          obtain ⟨Ao516, co516, eo516⟩ := Kd.R_slice HO711.out
          (first | subst eo516 | (injection eo516 with f1_ f2_ f3_; have f4_ := f1_.symm; have f5_ := f3_.symm; clear f1_ f2_ f3_; subst f4_; subst f5_))
          obtain ⟨Ao517, co517, eo517⟩ := Kd.R_slice HO714.out
          (first | subst eo517 | (injection eo517 with f1_ f2_ f3_; have f4_ := f1_.symm; have f5_ := f3_.symm; clear f1_ f2_ f3_; subst f4_; subst f5_))
          refine hK.out _ _ ⟨(blk_cell BK697.out 0).trans rfl, (blk_cell BK697.out 1).trans rfl, (blk_cell BK697.out 2).trans rfl, (blk_cell BK493.out 0).trans rfl, (blk_cell BK493.out 1).trans rfl, (blk_cell BK493.out 2).trans rfl, (blk_cell BK706.out 0).trans rfl, (blk_cell BK706.out 1).trans rfl, (blk_cell BK706.out 2).trans rfl⟩ (fun hHeld => ?_)
          clear hK K
          refine norm_ (a' := ?_) ?_ ?_
          rotate_left
          ·show Act.put _ (some 298) _ = _
           simp only [Act.put, List.setIfInBounds_toArray, List.set_cons_zero, List.set_cons_succ, i64_w, i32_w]
           rfl
          refine one_ (i := 12) (N := some 299) #[true, true, true, true, true, true, true, true, true, true, true, true, true, false, false] rfl rfl (one_of HT_.out (by kernel_rfl)) (by decide) (fun K hK => ?_)
          refine goes_ Try.func8 (by kernel_rfl) rfl #[.agg #[.bool t698, .slice Ao510 t699.length co510, .slice Ao511 t702.length co511], .agg #[.bool t708, .slice Ao516 t709.length co516, .slice Ao517 t712.length co517]] (by rfl) rfl rfl dA ?_
          with_reducible refine (plumblaw05_one.calls kj413 t698 _ _ t699 _ _ t702 t708 _ _ t709 _ _ t712 t715 _ ?side1 (Kd.R_reads' HO701.out).2.1 ?side3 (Kd.R_reads' HO704.out).2.1 ?side5 (Kd.R_reads' HO711.out).2.1 ?side7 (Kd.R_reads' HO714.out).2.1 A486.out).mono ?_
          (case side1 => exact dC (Kd.R_reads' HO701.out).2.2)
          (case side3 => exact dC (Kd.R_reads' HO704.out).2.2)
          (case side5 => exact dC (Kd.R_reads' HO711.out).2.2)
          (case side7 => exact dC (Kd.R_reads' HO714.out).2.2)
          rintro e w518 ⟨rfl, hb⟩
          refine ⟨_, rfl, ?_⟩
          replace HO_494001 := oB HO_494001.out hb
          replace HO_494002 := oB HO_494002.out hb
          replace HO_495001 := oB HO_495001.out hb
          replace HO_495002 := oB HO_495002.out hb
          replace HO_552001 := oB HO_552001.out hb
          replace HO_552002 := oB HO_552002.out hb
          replace HO692 := oB HO692.out hb
          replace HO695 := oB HO695.out hb
          replace HO701 := oB HO701.out hb
          replace HO704 := oB HO704.out hb
          replace HO711 := oB HO711.out hb
          replace HO714 := oB HO714.out hb
          replace BK493 := bB BK493.out hb
          replace BK494 := bB BK494.out hb
          replace BK551 := bB BK551.out hb
          replace BK697 := bB BK697.out hb
          replace BK706 := bB BK706.out hb
          replace HB := hS HB.out hb
          (try clear hb)
          (try clear hb2)
          (try clear hk)
          (try clear hi)
          refine hK.out _ _ ⟨(blk_cell BK697.out 0).trans rfl, (blk_cell BK697.out 1).trans rfl, (blk_cell BK697.out 2).trans rfl, (blk_cell BK493.out 0).trans rfl, (blk_cell BK493.out 1).trans rfl, (blk_cell BK493.out 2).trans rfl, (blk_cell BK706.out 0).trans rfl, (blk_cell BK706.out 1).trans rfl, (blk_cell BK706.out 2).trans rfl⟩ (fun hHeld => ?_)
          clear hK K
          refine norm_ (a' := ?_) ?_ ?_
          rotate_left
          ·show Act.put _ (some 299) _ = _
           simp only [Act.put, List.setIfInBounds_toArray, List.set_cons_zero, List.set_cons_succ, i64_w, i32_w]
           rfl
          refine pP 13 (some 300) ?_
          refine pP 14 (some 6) ?_
          refine done_ (done_of HT_.out (by kernel_rfl)) ?_
          try go_wp2
          go_ret
          exact ⟨dE, eB⟩
end Go.Proofs.Ytiogfeeaepkkmaa.PA
