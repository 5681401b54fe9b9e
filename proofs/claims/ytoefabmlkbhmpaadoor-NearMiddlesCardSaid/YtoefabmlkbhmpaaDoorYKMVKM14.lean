/- A part of the proof (14). -/
import Derived.Test.YtoefabmlkbhmpaaDoorYKMVKM2
import Derived.Test.YtoefabmlkbhmpaaDoorYKMVKM11
import Derived.Test.YtoefabmlkbhmpaaDoorYKMVKM13
import Derived.Test.YtoefabmlkbhmpaaDoorYKMVKM9
namespace Go.Proofs.YtoefabmlkbhmpaaDoor.PA
open Go.RowKit Go.Proofs.YtoefabmlkbhmpaaDoorW.PrintWords Go.Proofs.YtoefabmlkbhmpaaDoorW.PrintLast Go.Proofs.YtoefabmlkbhmpaaDoorW.PrintMore
attribute [local go_sem] max2_int min2_int max_two min_two max_three min_three max_four min_four
set_option linter.unusedVariables false
set_option linter.unusedSimpArgs false
def near_Mid.f (k : Nat) (a0 : Int) : Option (Bool × List Int × List Int × Int) := (near_Value.f k a0).bind fun bt455 => (if bt455.2.2.2 = 0 then ((f64_Next.f k a0).bind fun bt464 => (if bt464.2 = 0 then ((near_Value.f k bt464.1).bind fun bt466 => ((rat_Add.f k bt455.1 bt455.2.1 bt455.2.2.1 bt466.1 bt466.2.1 bt466.2.2.1).bind fun bt475 => ((rat_Int.f 2).bind fun bt484 => ((rat_Div.f k bt475.1 bt475.2.1 bt475.2.2.1 bt484.1 bt484.2.1 bt484.2.2).bind fun bt491 => (some (bt491.1, bt491.2.1, bt491.2.2.1, bt491.2.2.2)))))) else (some (false, ([] : List Int), ([] : List Int), 62)))) else (some (false, ([] : List Int), ([] : List Int), bt455.2.2.2)))
set_option maxHeartbeats 8000000 in
set_option maxRecDepth 100000 in
theorem near_Mid.calls (k : Nat) (a0 : Int) (r1 : Bool) (r2 : List Int) (r3 : List Int) (r4 : Int) (w : World) (h : near_Mid.f k a0 = some (r1, r2, r3, r4)) :
  Calls Tryd.prog 35 #[.int .u64 a0] w fun e w' => ∃ v1_ v2_ : Value, e = .returned (.tuple #[.agg #[.bool r1, v1_, v2_], .int .i64 r4]) ∧ Kd.R (Kd.int .u64) 26 w' w.heap.size (fun k_ => some k_ ≠ (v2_ : Value).ownBlock) v1_ r2 ∧ Kd.R (Kd.int .u64) 26 w' w.heap.size (fun k_ => some k_ ≠ (v1_ : Value).ownBlock) v2_ r3 ∧ Below w.heap.size w w' := by
 have hu46 := Tryd.underlying46
 have HB := aM (Below.refl w.heap.size w)
 have H := h
 clear h
 unfold near_Mid.f at H
 replace H := oA H
 obtain ⟨⟨t455, t456, t459, t462⟩, A2, H⟩ := H
 (try dsimp only at H)
 by_cases c3 : t462 = 0
 ·rw [if_pos c3] at H
  obtain ⟨c3b0, c3b1⟩ := bT c3
  clear c3
  replace H := oA H
  obtain ⟨⟨t464, t465⟩, A4, H⟩ := H
  (try dsimp only at H)
  by_cases c5 : t465 = 0
  ·rw [if_pos c5] at H
   obtain ⟨c5b0, c5b1⟩ := bT c5
   clear c5
   replace H := oA H
   obtain ⟨⟨t466, t467, t470, t473⟩, A6, H⟩ := H
   (try dsimp only at H)
   replace H := oA H
   obtain ⟨⟨t475, t476, t479, t482⟩, A7, H⟩ := H
   (try dsimp only at H)
   replace H := oA H
   obtain ⟨⟨t484, t485, t488⟩, A8, H⟩ := H
   (try dsimp only at H)
   replace H := oA H
   obtain ⟨⟨t491, t492, t495, t498⟩, A9, H⟩ := H
   (try dsimp only at H)
   simp only [Option.some.injEq, Prod.mk.injEq] at H
   obtain ⟨rfl, rfl, rfl, rfl⟩ := H
   go_enter Tryd.func35, Tryd.ntmps35
   try go_wp2_with (first | ((with_reducible refine gate_dst (N := 2) rfl ?_); refine bE 2 #[.bool false, .slice none 0 0, .slice none 0 0] 46 ?_; intro gb454 hg w10 hbox hb; have BK454 := aM (hbox); have GE454 : Aside0 (w.heap.size ≤ gb454) := gE hg; replace HB := hS HB.out hb; clear hb hbox hg) | ((with_reducible refine gate_callee (f := 33) rfl ?_); refine gL (some 13) Tryd.func33 #[.int .u64 a0] ?_; (with_reducible refine (near_Value.calls k a0 t455 t456 t459 t462 _ A2.out).mono ?_); rintro e w11 ⟨v457, v460, rfl, ho0, ho1, hb⟩; refine ⟨_, rfl, ?_⟩; have HO458 := aM (Kd.R_lower ho0 (below_size eB)); have HO461 := aM (Kd.R_lower ho1 (below_size eB)); replace BK454 := bB BK454.out hb; replace HB := hS HB.out hb; (try clear hb); (try clear ho0); (try clear ho1)) | ((with_reducible refine gate_dst (N := 4) rfl ?_); refine bE 4 #[.bool false, .slice none 0 0, .slice none 0 0] 46 ?_; intro gb463 hg w12 hbox hb; replace HO458 := oB HO458.out hb; replace HO461 := oB HO461.out hb; have BK463 := aM (hbox); have GE463 : Aside0 (w.heap.size ≤ gb463) := gE hg; replace HB := hS HB.out hb; have NB454_463 := nL hg BK454.out; have NB463_454 := nG hg BK454.out; replace BK454 := bB BK454.out hb; clear hb hbox hg; have hnb13 := NB463_454.out; have hnc13 := NB454_463.out; obtain ⟨hcz14_0, hcz14_1, hcz14_2⟩ := cz3 BK463.out; obtain ⟨hfz14_0, hfz14_1, hfz14_2⟩ := fz3 BK463.out; obtain ⟨Ao15, co15, rfl⟩ := Kd.R_slice HO458.out; obtain ⟨Ao16, co16, rfl⟩ := Kd.R_slice HO461.out) | ((with_reducible refine gate_callee (f := 68) rfl ?_); refine gL (some 22) Tryd.func68 #[.int .u64 a0] ?_; (with_reducible refine (f64_Next.calls k a0 t464 t465 _ A4.out).mono ?_); rintro e w' ⟨rfl, ⟨nd, rfl⟩⟩; refine ⟨_, rfl, ?_⟩) | ((with_reducible refine gate_callee (f := 33) rfl ?_); refine gL (some 30) Tryd.func33 #[.int .u64 t464] ?_; (with_reducible refine (near_Value.calls k t464 t466 t467 t470 t473 _ A6.out).mono ?_); rintro e w17 ⟨v468, v471, rfl, ho0, ho1, hb⟩; refine ⟨_, rfl, ?_⟩; have HO469 := aM (Kd.R_lower (Kd.R_new' (Kd.R_new' ho0 (Kd.R_lt (oR HO458.out BK463.out))) (Kd.R_lt (oR HO461.out BK463.out))) (below_size eB)); have HO472 := aM (Kd.R_lower (Kd.R_new' (Kd.R_new' ho1 (Kd.R_lt (oR HO458.out BK463.out))) (Kd.R_lt (oR HO461.out BK463.out))) (below_size eB)); replace HO458 := aM (Kd.R_mono (Kd.R_told (Kd.R_told (Kd.R_old (oR HO458.out BK463.out) hb) (Kd.R_base ho0)) (Kd.R_base ho1)) (fun _ h_ => h_.1)); replace HO461 := aM (Kd.R_mono (Kd.R_told (Kd.R_told (Kd.R_old (oR HO461.out BK463.out) hb) (Kd.R_base ho0)) (Kd.R_base ho1)) (fun _ h_ => h_.1)); replace BK454 := aM (blk_below (g := gb454) (o := .cells #[.bool false, .slice none 0 0, .slice none 0 0] 46 (0, 0)) (dQ1 BK454.out NB454_463.out) hb); replace BK463 := aM (blk_below (g := gb463) (o := .cells #[.bool t455, .slice Ao15 t456.length co15, .slice Ao16 t459.length co16] 46 (0, 0)) (dP BK463.out) hb); replace HB := hS HB.out hb; (try clear hb); (try clear ho0); (try clear ho1)) | ((with_reducible refine gate_dst (N := 7) rfl ?_); refine bE 7 #[.bool false, .slice none 0 0, .slice none 0 0] 46 ?_; intro gb474 hg w18 hbox hb; replace HO458 := oB HO458.out hb; replace HO461 := oB HO461.out hb; replace HO469 := oB HO469.out hb; replace HO472 := oB HO472.out hb; have BK474 := aM (hbox); have GE474 : Aside0 (w.heap.size ≤ gb474) := gE hg; replace HB := hS HB.out hb; have NB454_474 := nL hg BK454.out; have NB474_454 := nG hg BK454.out; replace BK454 := bB BK454.out hb; have NB463_474 := nL hg BK463.out; have NB474_463 := nG hg BK463.out; replace BK463 := bB BK463.out hb; clear hb hbox hg; have hnb19 := NB474_454.out; have hnc19 := NB454_474.out; have hnb20 := NB474_463.out; have hnc20 := NB463_474.out; obtain ⟨hcz21_0, hcz21_1, hcz21_2⟩ := cz3 BK474.out; obtain ⟨hfz21_0, hfz21_1, hfz21_2⟩ := fz3 BK474.out; obtain ⟨Ao22, co22, rfl⟩ := Kd.R_slice HO469.out; obtain ⟨Ao23, co23, rfl⟩ := Kd.R_slice HO472.out; obtain ⟨hcz24_0, hcz24_1, hcz24_2⟩ := cz3 BK463.out; obtain ⟨hfz24_0, hfz24_1, hfz24_2⟩ := fz3 BK463.out) | ((with_reducible refine gate_callee (f := 36) rfl ?_); refine gL (some 36) Tryd.func36 #[.agg #[.bool t455, .slice Ao15 t456.length co15, .slice Ao16 t459.length co16], .agg #[.bool t466, .slice Ao22 t467.length co22, .slice Ao23 t470.length co23]] ?_; (with_reducible refine (rat_Add.calls k t455 _ _ t456 _ _ t459 t466 _ _ t467 _ _ t470 t475 t476 t479 t482 _ ?side1 (Kd.R_reads' HO458.out).2.1 ?side3 (Kd.R_reads' HO461.out).2.1 ?side5 (Kd.R_reads' HO469.out).2.1 ?side7 (Kd.R_reads' HO472.out).2.1 A7.out).mono ?_); (case side1 => refine (Kd.R_reads' (e := 26) (base := w.heap.size) (ok := fun k_ => ((oN Ao16 t459 co16 k_ ∧ oN Ao22 t467 co22 k_) ∧ oN Ao23 t470 co23 k_)) (n := t456.length) (c := co15) ?_).2.2; exact (oR HO458.out BK474.out)); (case side3 => refine (Kd.R_reads' (e := 26) (base := w.heap.size) (ok := fun k_ => ((oN Ao15 t456 co15 k_ ∧ oN Ao22 t467 co22 k_) ∧ oN Ao23 t470 co23 k_)) (n := t459.length) (c := co16) ?_).2.2; exact (oR HO461.out BK474.out)); (case side5 => refine (Kd.R_reads' (e := 26) (base := w.heap.size) (ok := fun k_ => ((oN Ao23 t470 co23 k_ ∧ oN Ao15 t456 co15 k_) ∧ oN Ao16 t459 co16 k_)) (n := t467.length) (c := co22) ?_).2.2; exact (oR HO469.out BK474.out)); (case side7 => refine (Kd.R_reads' (e := 26) (base := w.heap.size) (ok := fun k_ => ((oN Ao22 t467 co22 k_ ∧ oN Ao15 t456 co15 k_) ∧ oN Ao16 t459 co16 k_)) (n := t470.length) (c := co23) ?_).2.2; exact (oR HO472.out BK474.out)); rintro e w25 ⟨v477, v480, rfl, ho0, ho1, hb⟩; refine ⟨_, rfl, ?_⟩; have HO478 := aM (Kd.R_lower (Kd.R_new' (Kd.R_new' (Kd.R_new' (Kd.R_new' ho0 (Kd.R_lt (oR HO458.out BK474.out))) (Kd.R_lt (oR HO461.out BK474.out))) (Kd.R_lt (oR HO469.out BK474.out))) (Kd.R_lt (oR HO472.out BK474.out))) (below_size eB)); have HO481 := aM (Kd.R_lower (Kd.R_new' (Kd.R_new' (Kd.R_new' (Kd.R_new' ho1 (Kd.R_lt (oR HO458.out BK474.out))) (Kd.R_lt (oR HO461.out BK474.out))) (Kd.R_lt (oR HO469.out BK474.out))) (Kd.R_lt (oR HO472.out BK474.out))) (below_size eB)); replace HO458 := aM (Kd.R_mono (Kd.R_told (Kd.R_told (Kd.R_old (oR HO458.out BK474.out) hb) (Kd.R_base ho0)) (Kd.R_base ho1)) (fun _ h_ => h_.1)); replace HO461 := aM (Kd.R_mono (Kd.R_told (Kd.R_told (Kd.R_old (oR HO461.out BK474.out) hb) (Kd.R_base ho0)) (Kd.R_base ho1)) (fun _ h_ => h_.1)); replace HO469 := aM (Kd.R_mono (Kd.R_told (Kd.R_told (Kd.R_old (oR HO469.out BK474.out) hb) (Kd.R_base ho0)) (Kd.R_base ho1)) (fun _ h_ => h_.1)); replace HO472 := aM (Kd.R_mono (Kd.R_told (Kd.R_told (Kd.R_old (oR HO472.out BK474.out) hb) (Kd.R_base ho0)) (Kd.R_base ho1)) (fun _ h_ => h_.1)); replace BK454 := aM (blk_below (g := gb454) (o := .cells #[.bool false, .slice none 0 0, .slice none 0 0] 46 (0, 0)) (dQ1 BK454.out NB454_474.out) hb); replace BK463 := aM (blk_below (g := gb463) (o := .cells #[.bool t455, .slice Ao15 t456.length co15, .slice Ao16 t459.length co16] 46 (0, 0)) (dQ1 BK463.out NB463_474.out) hb); replace BK474 := aM (blk_below (g := gb474) (o := .cells #[.bool t466, .slice Ao22 t467.length co22, .slice Ao23 t470.length co23] 46 (0, 0)) (dP BK474.out) hb); replace HB := hS HB.out hb; (try clear hb); (try clear ho0); (try clear ho1)) | ((with_reducible refine gate_dst (N := 9) rfl ?_); refine bE 9 #[.bool false, .slice none 0 0, .slice none 0 0] 46 ?_; intro gb483 hg w26 hbox hb; replace HO458 := oB HO458.out hb; replace HO461 := oB HO461.out hb; replace HO469 := oB HO469.out hb; replace HO472 := oB HO472.out hb; replace HO478 := oB HO478.out hb; replace HO481 := oB HO481.out hb; have BK483 := aM (hbox); have GE483 : Aside0 (w.heap.size ≤ gb483) := gE hg; replace HB := hS HB.out hb; have NB454_483 := nL hg BK454.out; have NB483_454 := nG hg BK454.out; replace BK454 := bB BK454.out hb; have NB463_483 := nL hg BK463.out; have NB483_463 := nG hg BK463.out; replace BK463 := bB BK463.out hb; have NB474_483 := nL hg BK474.out; have NB483_474 := nG hg BK474.out; replace BK474 := bB BK474.out hb; clear hb hbox hg; have hnb27 := NB483_454.out; have hnc27 := NB454_483.out; have hnb28 := NB483_463.out; have hnc28 := NB463_483.out; have hnb29 := NB483_474.out; have hnc29 := NB474_483.out; obtain ⟨hcz30_0, hcz30_1, hcz30_2⟩ := cz3 BK483.out; obtain ⟨hfz30_0, hfz30_1, hfz30_2⟩ := fz3 BK483.out; obtain ⟨Ao31, co31, rfl⟩ := Kd.R_slice HO478.out; obtain ⟨Ao32, co32, rfl⟩ := Kd.R_slice HO481.out))
   have n0_ : Aside0 (Kd.R (Kd.int .u64) 26 (((w26.setCell ⟨gb483, 0, none⟩ (.bool t475)).setCell ⟨gb483, 1, none⟩ (.slice Ao31 t476.length co31)).setCell ⟨gb483, 2, none⟩ (.slice Ao32 t479.length co32)) w.heap.size (fun k_ => oN Ao16 t459 co16 k_ ∧ oN Ao22 t467 co22 k_ ∧ oN Ao23 t470 co23 k_ ∧ oN Ao31 t476 co31 k_ ∧ oN Ao32 t479 co32 k_) (.slice Ao15 t456.length co15) t456) := ⟨by (with_reducible repeat (first | apply Kd.R_alloc | apply Kd.R_drewN | apply Kd.R_drew)); exact Kd.R_mono (Kd.R_far (p := ⟨gb483, 2, none⟩) (Kd.R_far (p := ⟨gb483, 1, none⟩) (Kd.R_far (p := ⟨gb483, 0, none⟩) (Kd.R_types HO458.out BK483.out (by decide)) (fun _ hk => hk.2) (.bool t475)) (fun _ hk => hk.2) (.slice Ao31 t476.length co31)) (fun _ hk => hk.2) (.slice Ao32 t479.length co32)) (fun _ hk => ⟨hk.1.1.1.1.1, ⟨hk.1.1.1.1.2, ⟨hk.1.1.1.2, ⟨hk.1.1.2, hk.1.2⟩⟩⟩⟩)⟩
   have n1_ : Aside0 (Kd.R (Kd.int .u64) 26 (((w26.setCell ⟨gb483, 0, none⟩ (.bool t475)).setCell ⟨gb483, 1, none⟩ (.slice Ao31 t476.length co31)).setCell ⟨gb483, 2, none⟩ (.slice Ao32 t479.length co32)) w.heap.size (fun k_ => oN Ao15 t456 co15 k_ ∧ oN Ao22 t467 co22 k_ ∧ oN Ao23 t470 co23 k_ ∧ oN Ao31 t476 co31 k_ ∧ oN Ao32 t479 co32 k_) (.slice Ao16 t459.length co16) t459) := ⟨by (with_reducible repeat (first | apply Kd.R_alloc | apply Kd.R_drewN | apply Kd.R_drew)); exact Kd.R_mono (Kd.R_far (p := ⟨gb483, 2, none⟩) (Kd.R_far (p := ⟨gb483, 1, none⟩) (Kd.R_far (p := ⟨gb483, 0, none⟩) (Kd.R_types HO461.out BK483.out (by decide)) (fun _ hk => hk.2) (.bool t475)) (fun _ hk => hk.2) (.slice Ao31 t476.length co31)) (fun _ hk => hk.2) (.slice Ao32 t479.length co32)) (fun _ hk => ⟨hk.1.1.1.1.1, ⟨hk.1.1.1.1.2, ⟨hk.1.1.1.2, ⟨hk.1.1.2, hk.1.2⟩⟩⟩⟩)⟩
   have n2_ : Aside0 (Kd.R (Kd.int .u64) 26 (((w26.setCell ⟨gb483, 0, none⟩ (.bool t475)).setCell ⟨gb483, 1, none⟩ (.slice Ao31 t476.length co31)).setCell ⟨gb483, 2, none⟩ (.slice Ao32 t479.length co32)) w.heap.size (fun k_ => oN Ao15 t456 co15 k_ ∧ oN Ao16 t459 co16 k_ ∧ oN Ao23 t470 co23 k_ ∧ oN Ao31 t476 co31 k_ ∧ oN Ao32 t479 co32 k_) (.slice Ao22 t467.length co22) t467) := ⟨by (with_reducible repeat (first | apply Kd.R_alloc | apply Kd.R_drewN | apply Kd.R_drew)); exact Kd.R_mono (Kd.R_far (p := ⟨gb483, 2, none⟩) (Kd.R_far (p := ⟨gb483, 1, none⟩) (Kd.R_far (p := ⟨gb483, 0, none⟩) (Kd.R_types HO469.out BK483.out (by decide)) (fun _ hk => hk.2) (.bool t475)) (fun _ hk => hk.2) (.slice Ao31 t476.length co31)) (fun _ hk => hk.2) (.slice Ao32 t479.length co32)) (fun _ hk => ⟨hk.1.1.1.1.2, ⟨hk.1.1.1.2, ⟨hk.1.1.1.1.1, ⟨hk.1.1.2, hk.1.2⟩⟩⟩⟩)⟩
   have n3_ : Aside0 (Kd.R (Kd.int .u64) 26 (((w26.setCell ⟨gb483, 0, none⟩ (.bool t475)).setCell ⟨gb483, 1, none⟩ (.slice Ao31 t476.length co31)).setCell ⟨gb483, 2, none⟩ (.slice Ao32 t479.length co32)) w.heap.size (fun k_ => oN Ao15 t456 co15 k_ ∧ oN Ao16 t459 co16 k_ ∧ oN Ao22 t467 co22 k_ ∧ oN Ao31 t476 co31 k_ ∧ oN Ao32 t479 co32 k_) (.slice Ao23 t470.length co23) t470) := ⟨by (with_reducible repeat (first | apply Kd.R_alloc | apply Kd.R_drewN | apply Kd.R_drew)); exact Kd.R_mono (Kd.R_far (p := ⟨gb483, 2, none⟩) (Kd.R_far (p := ⟨gb483, 1, none⟩) (Kd.R_far (p := ⟨gb483, 0, none⟩) (Kd.R_types HO472.out BK483.out (by decide)) (fun _ hk => hk.2) (.bool t475)) (fun _ hk => hk.2) (.slice Ao31 t476.length co31)) (fun _ hk => hk.2) (.slice Ao32 t479.length co32)) (fun _ hk => ⟨hk.1.1.1.1.2, ⟨hk.1.1.1.2, ⟨hk.1.1.1.1.1, ⟨hk.1.1.2, hk.1.2⟩⟩⟩⟩)⟩
   have n4_ : Aside0 (Kd.R (Kd.int .u64) 26 (((w26.setCell ⟨gb483, 0, none⟩ (.bool t475)).setCell ⟨gb483, 1, none⟩ (.slice Ao31 t476.length co31)).setCell ⟨gb483, 2, none⟩ (.slice Ao32 t479.length co32)) w.heap.size (fun k_ => oN Ao15 t456 co15 k_ ∧ oN Ao16 t459 co16 k_ ∧ oN Ao22 t467 co22 k_ ∧ oN Ao23 t470 co23 k_ ∧ oN Ao32 t479 co32 k_) (.slice Ao31 t476.length co31) t476) := ⟨by (with_reducible repeat (first | apply Kd.R_alloc | apply Kd.R_drewN | apply Kd.R_drew)); exact Kd.R_mono (Kd.R_far (p := ⟨gb483, 2, none⟩) (Kd.R_far (p := ⟨gb483, 1, none⟩) (Kd.R_far (p := ⟨gb483, 0, none⟩) (Kd.R_types HO478.out BK483.out (by decide)) (fun _ hk => hk.2) (.bool t475)) (fun _ hk => hk.2) (.slice Ao31 t476.length co31)) (fun _ hk => hk.2) (.slice Ao32 t479.length co32)) (fun _ hk => ⟨hk.1.1.1.1.2, ⟨hk.1.1.1.2, ⟨hk.1.1.2, ⟨hk.1.2, hk.1.1.1.1.1⟩⟩⟩⟩)⟩
   have n5_ : Aside0 (Kd.R (Kd.int .u64) 26 (((w26.setCell ⟨gb483, 0, none⟩ (.bool t475)).setCell ⟨gb483, 1, none⟩ (.slice Ao31 t476.length co31)).setCell ⟨gb483, 2, none⟩ (.slice Ao32 t479.length co32)) w.heap.size (fun k_ => oN Ao15 t456 co15 k_ ∧ oN Ao16 t459 co16 k_ ∧ oN Ao22 t467 co22 k_ ∧ oN Ao23 t470 co23 k_ ∧ oN Ao31 t476 co31 k_) (.slice Ao32 t479.length co32) t479) := ⟨by (with_reducible repeat (first | apply Kd.R_alloc | apply Kd.R_drewN | apply Kd.R_drew)); exact Kd.R_mono (Kd.R_far (p := ⟨gb483, 2, none⟩) (Kd.R_far (p := ⟨gb483, 1, none⟩) (Kd.R_far (p := ⟨gb483, 0, none⟩) (Kd.R_types HO481.out BK483.out (by decide)) (fun _ hk => hk.2) (.bool t475)) (fun _ hk => hk.2) (.slice Ao31 t476.length co31)) (fun _ hk => hk.2) (.slice Ao32 t479.length co32)) (fun _ hk => ⟨hk.1.1.1.1.2, ⟨hk.1.1.1.2, ⟨hk.1.1.2, ⟨hk.1.2, hk.1.1.1.1.1⟩⟩⟩⟩)⟩
   have n6_ : Aside0 ((((w26.setCell ⟨gb483, 0, none⟩ (.bool t475)).setCell ⟨gb483, 1, none⟩ (.slice Ao31 t476.length co31)).setCell ⟨gb483, 2, none⟩ (.slice Ao32 t479.length co32)).heap[gb454]? = some (.cells #[.bool false, .slice none 0 0, .slice none 0 0] 46 (0, 0))) := ⟨dQ1 BK454.out NB454_483.out⟩
   have n7_ : Aside0 ((((w26.setCell ⟨gb483, 0, none⟩ (.bool t475)).setCell ⟨gb483, 1, none⟩ (.slice Ao31 t476.length co31)).setCell ⟨gb483, 2, none⟩ (.slice Ao32 t479.length co32)).heap[gb463]? = some (.cells #[.bool t455, .slice Ao15 t456.length co15, .slice Ao16 t459.length co16] 46 (0, 0))) := ⟨dQ1 BK463.out NB463_483.out⟩
   have n8_ : Aside0 ((((w26.setCell ⟨gb483, 0, none⟩ (.bool t475)).setCell ⟨gb483, 1, none⟩ (.slice Ao31 t476.length co31)).setCell ⟨gb483, 2, none⟩ (.slice Ao32 t479.length co32)).heap[gb474]? = some (.cells #[.bool t466, .slice Ao22 t467.length co22, .slice Ao23 t470.length co23] 46 (0, 0))) := ⟨dQ1 BK474.out NB474_483.out⟩
   have n9_ : Aside0 ((((w26.setCell ⟨gb483, 0, none⟩ (.bool t475)).setCell ⟨gb483, 1, none⟩ (.slice Ao31 t476.length co31)).setCell ⟨gb483, 2, none⟩ (.slice Ao32 t479.length co32)).heap[gb483]? = some (.cells #[.bool t475, .slice Ao31 t476.length co31, .slice Ao32 t479.length co32] 46 (0, 0))) := ⟨dP BK483.out⟩
   have n10_ : Aside0 (Below w.heap.size w (((w26.setCell ⟨gb483, 0, none⟩ (.bool t475)).setCell ⟨gb483, 1, none⟩ (.slice Ao31 t476.length co31)).setCell ⟨gb483, 2, none⟩ (.slice Ao32 t479.length co32))) := ⟨eB⟩
   (try clear HO458)
   (try clear HO461)
   (try clear HO469)
   (try clear HO472)
   (try clear HO478)
   (try clear HO481)
   (try clear BK454)
   (try clear BK463)
   (try clear BK474)
   (try clear BK483)
   (try clear HB)
   generalize (((w26.setCell ⟨gb483, 0, none⟩ (.bool t475)).setCell ⟨gb483, 1, none⟩ (.slice Ao31 t476.length co31)).setCell ⟨gb483, 2, none⟩ (.slice Ao32 t479.length co32)) = w33 at n0_ n1_ n2_ n3_ n4_ n5_ n6_ n7_ n8_ n9_ n10_ ⊢
   have HO458 := n0_
   have HO461 := n1_
   have HO469 := n2_
   have HO472 := n3_
   have HO478 := n4_
   have HO481 := n5_
   have BK454 := n6_
   have BK463 := n7_
   have BK474 := n8_
   have BK483 := n9_
   have HB := n10_
   clear n0_ n1_ n2_ n3_ n4_ n5_ n6_ n7_ n8_ n9_ n10_
   replace HO458 := aM (Kd.R_drew HO458.out)
   replace HO461 := aM (Kd.R_drew HO461.out)
   replace HO469 := aM (Kd.R_drew HO469.out)
   replace HO472 := aM (Kd.R_drew HO472.out)
   replace HO478 := aM (Kd.R_drew HO478.out)
   replace HO481 := aM (Kd.R_drew HO481.out)
   replace BK454 := aM (blk_drew BK454.out)
   replace BK463 := aM (blk_drew BK463.out)
   replace BK474 := aM (blk_drew BK474.out)
   replace BK483 := aM (blk_drew BK483.out)
   replace HB := aM (below_drew1 HB.out)
   refine start_ (n := 7) (S := fun w' => w'.cell? ⟨gb483, 0, none⟩ = some (.bool t475) ∧ w'.cell? ⟨gb483, 1, none⟩ = some (.slice Ao31 t476.length co31) ∧ w'.cell? ⟨gb483, 2, none⟩ = some (.slice Ao32 t479.length co32)) (ds := []) #[false, false, false, false, false, false, false] (by kernel_rfl) rfl rfl (cz3 BK483.out) (fun hHeld => ?_)
   generalize w33.drew = w34 at HO458 HO461 HO469 HO472 HO478 HO481 BK454 BK463 BK474 BK483 HB hHeld ⊢
   refine take_ (i := 0) (N := some 39) (v := ?_) (a' := ?_) #[true, false, false, false, false, false, false] rfl rfl (by kernel_rfl) (fun _ _ _ h => h) (Or.inl ⟨by rfl, ?_⟩) hHeld ?_ ?_
   rotate_left
   ·rintro w' ⟨s0, s1, s2⟩
    go_simp
    with_reducible rfl
   rotate_left
   ·simp only [Act.put, List.setIfInBounds_toArray, List.set_cons_zero, List.set_cons_succ, i64_w, i32_w]
    rfl
   refine one_ (i := 1) (N := some 40) #[true, true, false, false, false, false, false] rfl rfl (by kernel_rfl) (by decide) (fun K hK => ?_)
   refine goes_ Tryd.func70 (by kernel_rfl) rfl #[.int .i64 2] (by rfl) rfl rfl dA ?_
   with_reducible refine (rat_Int.calls 2 t484 t485 t488 _ A8.out).mono ?_
   rintro e w35 ⟨v486, v489, rfl, ho0, ho1, hb⟩
   refine ⟨_, rfl, ?_⟩
   have HO487 := aM (Kd.R_lower (Kd.R_new' (Kd.R_new' (Kd.R_new' (Kd.R_new' (Kd.R_new' (Kd.R_new' ho0 (Kd.R_lt (dR HO458.out))) (Kd.R_lt (dR HO461.out))) (Kd.R_lt (dR HO469.out))) (Kd.R_lt (dR HO472.out))) (Kd.R_lt (dR HO478.out))) (Kd.R_lt (dR HO481.out))) (below_size eB))
   have HO490 := aM (Kd.R_lower (Kd.R_new' (Kd.R_new' (Kd.R_new' (Kd.R_new' (Kd.R_new' (Kd.R_new' ho1 (Kd.R_lt (dR HO458.out))) (Kd.R_lt (dR HO461.out))) (Kd.R_lt (dR HO469.out))) (Kd.R_lt (dR HO472.out))) (Kd.R_lt (dR HO478.out))) (Kd.R_lt (dR HO481.out))) (below_size eB))
   replace HO458 := aM (Kd.R_mono (Kd.R_told (Kd.R_told (Kd.R_old (dR HO458.out) hb) (Kd.R_base ho0)) (Kd.R_base ho1)) (fun _ h_ => h_.1))
   replace HO461 := aM (Kd.R_mono (Kd.R_told (Kd.R_told (Kd.R_old (dR HO461.out) hb) (Kd.R_base ho0)) (Kd.R_base ho1)) (fun _ h_ => h_.1))
   replace HO469 := aM (Kd.R_mono (Kd.R_told (Kd.R_told (Kd.R_old (dR HO469.out) hb) (Kd.R_base ho0)) (Kd.R_base ho1)) (fun _ h_ => h_.1))
   replace HO472 := aM (Kd.R_mono (Kd.R_told (Kd.R_told (Kd.R_old (dR HO472.out) hb) (Kd.R_base ho0)) (Kd.R_base ho1)) (fun _ h_ => h_.1))
   replace HO478 := aM (Kd.R_mono (Kd.R_told (Kd.R_told (Kd.R_old (dR HO478.out) hb) (Kd.R_base ho0)) (Kd.R_base ho1)) (fun _ h_ => h_.1))
   replace HO481 := aM (Kd.R_mono (Kd.R_told (Kd.R_told (Kd.R_old (dR HO481.out) hb) (Kd.R_base ho0)) (Kd.R_base ho1)) (fun _ h_ => h_.1))
   replace BK454 := bB BK454.out hb
   replace BK463 := bB BK463.out hb
   replace BK474 := bB BK474.out hb
   replace BK483 := bB BK483.out hb
   replace HB := hS HB.out hb
   (try clear hb)
   (try clear hb2)
   (try clear hk)
   (try clear hi)
   (try clear ho0)
   (try clear ho1)
   obtain ⟨Ao36, co36, eo36⟩ := Kd.R_slice HO487.out
   (first | subst eo36 | (injection eo36 with f1_ f2_ f3_; have f4_ := f1_.symm; have f5_ := f3_.symm; clear f1_ f2_ f3_; subst f4_; subst f5_))
   obtain ⟨Ao37, co37, eo37⟩ := Kd.R_slice HO490.out
   (first | subst eo37 | (injection eo37 with f1_ f2_ f3_; have f4_ := f1_.symm; have f5_ := f3_.symm; clear f1_ f2_ f3_; subst f4_; subst f5_))
   refine hK.out _ _ (cz3 BK483.out) (fun hHeld => ?_)
   clear hK K
   refine norm_ (a' := ?_) ?_ ?_
   rotate_left
   ·show Act.put _ (some 40) _ = _
    simp only [Act.put, List.setIfInBounds_toArray, List.set_cons_zero, List.set_cons_succ, i64_w, i32_w]
    rfl
   refine one_ (i := 2) (N := some 41) #[true, true, true, false, false, false, false] rfl rfl (by kernel_rfl) (by decide) (fun K hK => ?_)
   refine goes_ Tryd.func69 (by kernel_rfl) rfl #[.agg #[.bool t475, .slice Ao31 t476.length co31, .slice Ao32 t479.length co32], .agg #[.bool t484, .slice Ao36 t485.length co36, .slice Ao37 t488.length co37]] (by rfl) rfl rfl dA ?_
   with_reducible refine (rat_Div.calls k t475 _ _ t476 _ _ t479 t484 _ _ t485 _ _ t488 t491 t492 t495 t498 _ ?side1 (Kd.R_reads' HO478.out).2.1 ?side3 (Kd.R_reads' HO481.out).2.1 ?side5 (Kd.R_reads' HO487.out).2.1 ?side7 (Kd.R_reads' HO490.out).2.1 A9.out).mono ?_
   (case side1 => exact dC (Kd.R_reads' HO478.out).2.2)
   (case side3 => exact dC (Kd.R_reads' HO481.out).2.2)
   (case side5 => exact dC (Kd.R_reads' HO487.out).2.2)
   (case side7 => exact dC (Kd.R_reads' HO490.out).2.2)
   rintro e w38 ⟨v493, v496, rfl, ho0, ho1, hb⟩
   refine ⟨_, rfl, ?_⟩
   have HO494 := aM (Kd.R_lower (Kd.R_new' (Kd.R_new' (Kd.R_new' (Kd.R_new' (Kd.R_new' (Kd.R_new' (Kd.R_new' (Kd.R_new' ho0 (Kd.R_lt (dR HO458.out))) (Kd.R_lt (dR HO461.out))) (Kd.R_lt (dR HO469.out))) (Kd.R_lt (dR HO472.out))) (Kd.R_lt (dR HO478.out))) (Kd.R_lt (dR HO481.out))) (Kd.R_lt (dR HO487.out))) (Kd.R_lt (dR HO490.out))) (below_size eB))
   have HO497 := aM (Kd.R_lower (Kd.R_new' (Kd.R_new' (Kd.R_new' (Kd.R_new' (Kd.R_new' (Kd.R_new' (Kd.R_new' (Kd.R_new' ho1 (Kd.R_lt (dR HO458.out))) (Kd.R_lt (dR HO461.out))) (Kd.R_lt (dR HO469.out))) (Kd.R_lt (dR HO472.out))) (Kd.R_lt (dR HO478.out))) (Kd.R_lt (dR HO481.out))) (Kd.R_lt (dR HO487.out))) (Kd.R_lt (dR HO490.out))) (below_size eB))
   replace HO458 := aM (Kd.R_mono (Kd.R_told (Kd.R_told (Kd.R_old (dR HO458.out) hb) (Kd.R_base ho0)) (Kd.R_base ho1)) (fun _ h_ => h_.1))
   replace HO461 := aM (Kd.R_mono (Kd.R_told (Kd.R_told (Kd.R_old (dR HO461.out) hb) (Kd.R_base ho0)) (Kd.R_base ho1)) (fun _ h_ => h_.1))
   replace HO469 := aM (Kd.R_mono (Kd.R_told (Kd.R_told (Kd.R_old (dR HO469.out) hb) (Kd.R_base ho0)) (Kd.R_base ho1)) (fun _ h_ => h_.1))
   replace HO472 := aM (Kd.R_mono (Kd.R_told (Kd.R_told (Kd.R_old (dR HO472.out) hb) (Kd.R_base ho0)) (Kd.R_base ho1)) (fun _ h_ => h_.1))
   replace HO478 := aM (Kd.R_mono (Kd.R_told (Kd.R_told (Kd.R_old (dR HO478.out) hb) (Kd.R_base ho0)) (Kd.R_base ho1)) (fun _ h_ => h_.1))
   replace HO481 := aM (Kd.R_mono (Kd.R_told (Kd.R_told (Kd.R_old (dR HO481.out) hb) (Kd.R_base ho0)) (Kd.R_base ho1)) (fun _ h_ => h_.1))
   replace HO487 := aM (Kd.R_mono (Kd.R_told (Kd.R_told (Kd.R_old (dR HO487.out) hb) (Kd.R_base ho0)) (Kd.R_base ho1)) (fun _ h_ => h_.1))
   replace HO490 := aM (Kd.R_mono (Kd.R_told (Kd.R_told (Kd.R_old (dR HO490.out) hb) (Kd.R_base ho0)) (Kd.R_base ho1)) (fun _ h_ => h_.1))
   replace BK454 := bB BK454.out hb
   replace BK463 := bB BK463.out hb
   replace BK474 := bB BK474.out hb
   replace BK483 := bB BK483.out hb
   replace HB := hS HB.out hb
   (try clear hb)
   (try clear hb2)
   (try clear hk)
   (try clear hi)
   (try clear ho0)
   (try clear ho1)
   obtain ⟨Ao40, co40, eo40⟩ := Kd.R_slice HO494.out
   (first | subst eo40 | (injection eo40 with f1_ f2_ f3_; have f4_ := f1_.symm; have f5_ := f3_.symm; clear f1_ f2_ f3_; subst f4_; subst f5_))
   obtain ⟨Ao42, co42, eo42⟩ := Kd.R_slice HO497.out
   (first | subst eo42 | (injection eo42 with f1_ f2_ f3_; have f4_ := f1_.symm; have f5_ := f3_.symm; clear f1_ f2_ f3_; subst f4_; subst f5_))
   refine hK.out _ _ (cz3 BK483.out) (fun hHeld => ?_)
   clear hK K
   refine norm_ (a' := ?_) ?_ ?_
   rotate_left
   ·show Act.put _ (some 41) _ = _
    simp only [Act.put, List.setIfInBounds_toArray, List.set_cons_zero, List.set_cons_succ, i64_w, i32_w]
    rfl
   refine pure_ (i := 3) (N := some 42) (v := ?_) (a' := ?_) #[true, true, true, true, false, false, false] rfl rfl (by kernel_rfl) (fun _ _ _ h => h) (Or.inl ⟨by rfl, ?_⟩) ?_ ?_
   rotate_left
   ·intro w'
    go_simp
    with_reducible rfl
   rotate_left
   ·simp only [Act.put, List.setIfInBounds_toArray, List.set_cons_zero, List.set_cons_succ, i64_w, i32_w]
    rfl
   refine pure_ (i := 4) (N := some 43) (v := ?_) (a' := ?_) #[true, true, true, true, true, false, false] rfl rfl (by kernel_rfl) (fun _ _ _ h => h) (Or.inl ⟨by rfl, ?_⟩) ?_ ?_
   rotate_left
   ·intro w'
    go_simp
    with_reducible rfl
   rotate_left
   ·simp only [Act.put, List.setIfInBounds_toArray, List.set_cons_zero, List.set_cons_succ, i64_w, i32_w]
    rfl
   refine one_ (i := 5) (N := none) #[true, true, true, true, true, true, false] rfl rfl (by kernel_rfl) (by decide) (fun K hK => ?_)
   have hs39 : w38.cell? ⟨gb454, 0, none⟩ = some (.bool false) := (blk_cell BK454.out 0).trans rfl
   have hfs39 := blk_frozen BK454.out 0
   have hns39_1 := NB463_454.out
   have hns39_2 := NB474_454.out
   have hns39_3 := NB483_454.out
   have hms39_1 := NB454_463.out
   have hms39_2 := NB454_474.out
   have hms39_3 := NB454_483.out
   have hs41 : w38.cell? ⟨gb454, 1, none⟩ = some (.slice none 0 0) := (blk_cell BK454.out 1).trans rfl
   have hfs41 := blk_frozen BK454.out 1
   have hns41_1 := NB463_454.out
   have hns41_2 := NB474_454.out
   have hns41_3 := NB483_454.out
   have hms41_1 := NB454_463.out
   have hms41_2 := NB454_474.out
   have hms41_3 := NB454_483.out
   have hs43 : w38.cell? ⟨gb454, 2, none⟩ = some (.slice none 0 0) := (blk_cell BK454.out 2).trans rfl
   have hfs43 := blk_frozen BK454.out 2
   have hns43_1 := NB463_454.out
   have hns43_2 := NB474_454.out
   have hns43_3 := NB483_454.out
   have hms43_1 := NB454_463.out
   have hms43_2 := NB454_474.out
   have hms43_3 := NB454_483.out
   refine skip_ (w1 := ?_) (by rfl) rfl ?_ ?_
   rotate_left
   ·go_simp
    rfl
   refine hK.out _ _ ⟨((cell_far (p := ⟨gb454, _, none⟩) NB483_454.out _).trans (((cell_far (p := ⟨gb454, _, none⟩) NB483_454.out _).trans (((cell_far (p := ⟨gb454, _, none⟩) NB483_454.out _).trans (hHeld.1)))))), ((cell_far (p := ⟨gb454, _, none⟩) NB483_454.out _).trans (((cell_far (p := ⟨gb454, _, none⟩) NB483_454.out _).trans (((cell_far (p := ⟨gb454, _, none⟩) NB483_454.out _).trans (hHeld.2.1)))))), ((cell_far (p := ⟨gb454, _, none⟩) NB483_454.out _).trans (((cell_far (p := ⟨gb454, _, none⟩) NB483_454.out _).trans (((cell_far (p := ⟨gb454, _, none⟩) NB483_454.out _).trans (hHeld.2.2))))))⟩ (fun hHeld => ?_)
   clear hK K
   refine pure_ (i := 6) (N := some 3) (v := ?_) (a' := ?_) #[true, true, true, true, true, true, true] rfl rfl (by kernel_rfl) (fun _ _ _ h => h) (Or.inl ⟨by rfl, ?_⟩) ?_ ?_
   rotate_left
   ·intro w'
    go_simp
    with_reducible rfl
   rotate_left
   ·simp only [Act.put, List.setIfInBounds_toArray, List.set_cons_zero, List.set_cons_succ, i64_w, i32_w]
    rfl
   refine done_ (by kernel_rfl) ?_
   try go_wp2
   refine bodyPost_ret (results_ct rfl _ _ gb454 46 #[.bool t491, .slice Ao40 t492.length co40, .slice Ao42 t495.length co42] (0, 0) _ rfl (dP BK454.out) Tryd.underlying46 rfl (by kernel_rfl)) rfl ?_
   exact ⟨_, _, dE, by (with_reducible repeat (first | apply Kd.R_alloc | apply Kd.R_drewN | apply Kd.R_drew)); exact Kd.R_mono (Kd.R_far (p := ⟨gb454, 2, none⟩) (Kd.R_far (p := ⟨gb454, 1, none⟩) (Kd.R_far (p := ⟨gb454, 0, none⟩) (Kd.R_types HO494.out BK454.out (by decide)) (fun _ hk => hk.2) (.bool t491)) (fun _ hk => hk.2) (.slice Ao40 t492.length co40)) (fun _ hk => hk.2) (.slice Ao42 t495.length co42)) (fun _ hk => hk.1.1.1.1.1.1.1.1.1), by (with_reducible repeat (first | apply Kd.R_alloc | apply Kd.R_drewN | apply Kd.R_drew)); exact Kd.R_mono (Kd.R_far (p := ⟨gb454, 2, none⟩) (Kd.R_far (p := ⟨gb454, 1, none⟩) (Kd.R_far (p := ⟨gb454, 0, none⟩) (Kd.R_types HO497.out BK454.out (by decide)) (fun _ hk => hk.2) (.bool t491)) (fun _ hk => hk.2) (.slice Ao40 t492.length co40)) (fun _ hk => hk.2) (.slice Ao42 t495.length co42)) (fun _ hk => hk.1.1.1.1.1.1.1.1.1), eB⟩
  ·rw [if_neg c5] at H
   obtain ⟨c5b0, c5b1⟩ := bF c5
   simp only [Option.some.injEq, Prod.mk.injEq] at H
   obtain ⟨rfl, rfl, rfl, rfl⟩ := H
   go_enter Tryd.func35, Tryd.ntmps35
   go_wp2_with (first | ((with_reducible refine gate_dst (N := 2) rfl ?_); refine bE 2 #[.bool false, .slice none 0 0, .slice none 0 0] 46 ?_; intro gb454 hg w44 hbox hb; have BK454 := aM (hbox); have GE454 : Aside0 (w.heap.size ≤ gb454) := gE hg; replace HB := hS HB.out hb; clear hb hbox hg) | ((with_reducible refine gate_callee (f := 33) rfl ?_); refine gL (some 13) Tryd.func33 #[.int .u64 a0] ?_; (with_reducible refine (near_Value.calls k a0 t455 t456 t459 t462 _ A2.out).mono ?_); rintro e w45 ⟨v457, v460, rfl, ho0, ho1, hb⟩; refine ⟨_, rfl, ?_⟩; have HO458 := aM (Kd.R_lower ho0 (below_size eB)); have HO461 := aM (Kd.R_lower ho1 (below_size eB)); replace BK454 := bB BK454.out hb; replace HB := hS HB.out hb; (try clear hb); (try clear ho0); (try clear ho1)) | ((with_reducible refine gate_dst (N := 4) rfl ?_); refine bE 4 #[.bool false, .slice none 0 0, .slice none 0 0] 46 ?_; intro gb463 hg w46 hbox hb; replace HO458 := oB HO458.out hb; replace HO461 := oB HO461.out hb; have BK463 := aM (hbox); have GE463 : Aside0 (w.heap.size ≤ gb463) := gE hg; replace HB := hS HB.out hb; have NB454_463 := nL hg BK454.out; have NB463_454 := nG hg BK454.out; replace BK454 := bB BK454.out hb; clear hb hbox hg; have hnb47 := NB463_454.out; have hnc47 := NB454_463.out; obtain ⟨hcz48_0, hcz48_1, hcz48_2⟩ := cz3 BK463.out; obtain ⟨hfz48_0, hfz48_1, hfz48_2⟩ := fz3 BK463.out; obtain ⟨Ao49, co49, rfl⟩ := Kd.R_slice HO458.out; obtain ⟨Ao50, co50, rfl⟩ := Kd.R_slice HO461.out) | ((with_reducible refine gate_callee (f := 68) rfl ?_); refine gL (some 22) Tryd.func68 #[.int .u64 a0] ?_; (with_reducible refine (f64_Next.calls k a0 t464 t465 _ A4.out).mono ?_); rintro e w' ⟨rfl, ⟨nd, rfl⟩⟩; refine ⟨_, rfl, ?_⟩; obtain ⟨hcz51_0, hcz51_1, hcz51_2⟩ := cz3 BK454.out; obtain ⟨hfz51_0, hfz51_1, hfz51_2⟩ := fz3 BK454.out))
   refine bodyPost_ret (results_ct rfl _ _ gb454 46 #[.bool false, .slice none 0 0, .slice none 0 0] (0, 0) _ rfl (dQ1 BK454.out NB454_463.out) Tryd.underlying46 rfl (by kernel_rfl)) rfl ?_
   exact ⟨_, _, dE, by first | exact Kd.R_nil _ _ _ _ _ | exact Kd.N_nil _ _ _ _ _ | exact Kd.V_nil _ _ _ _ _ | exact Kd.Q_nil _ _ _ _ _ | exact Kd.S_nil _ _ _ _ _, by first | exact Kd.R_nil _ _ _ _ _ | exact Kd.N_nil _ _ _ _ _ | exact Kd.V_nil _ _ _ _ _ | exact Kd.Q_nil _ _ _ _ _ | exact Kd.S_nil _ _ _ _ _, eB⟩
 ·rw [if_neg c3] at H
  obtain ⟨c3b0, c3b1⟩ := bF c3
  simp only [Option.some.injEq, Prod.mk.injEq] at H
  obtain ⟨rfl, rfl, rfl, rfl⟩ := H
  go_enter Tryd.func35, Tryd.ntmps35
  go_wp2_with (first | ((with_reducible refine gate_dst (N := 2) rfl ?_); refine bE 2 #[.bool false, .slice none 0 0, .slice none 0 0] 46 ?_; intro gb454 hg w52 hbox hb; have BK454 := aM (hbox); have GE454 : Aside0 (w.heap.size ≤ gb454) := gE hg; replace HB := hS HB.out hb; clear hb hbox hg) | ((with_reducible refine gate_callee (f := 33) rfl ?_); refine gL (some 13) Tryd.func33 #[.int .u64 a0] ?_; (with_reducible refine (near_Value.calls k a0 t455 t456 t459 t462 _ A2.out).mono ?_); rintro e w53 ⟨v457, v460, rfl, ho0, ho1, hb⟩; refine ⟨_, rfl, ?_⟩; have HO458 := aM (Kd.R_lower ho0 (below_size eB)); have HO461 := aM (Kd.R_lower ho1 (below_size eB)); replace BK454 := bB BK454.out hb; replace HB := hS HB.out hb; (try clear hb); (try clear ho0); (try clear ho1)) | ((with_reducible refine gate_dst (N := 4) rfl ?_); refine bE 4 #[.bool false, .slice none 0 0, .slice none 0 0] 46 ?_; intro gb463 hg w54 hbox hb; replace HO458 := oB HO458.out hb; replace HO461 := oB HO461.out hb; have BK463 := aM (hbox); have GE463 : Aside0 (w.heap.size ≤ gb463) := gE hg; replace HB := hS HB.out hb; have NB454_463 := nL hg BK454.out; have NB463_454 := nG hg BK454.out; replace BK454 := bB BK454.out hb; clear hb hbox hg; have hnb55 := NB463_454.out; have hnc55 := NB454_463.out; obtain ⟨hcz56_0, hcz56_1, hcz56_2⟩ := cz3 BK463.out; obtain ⟨hfz56_0, hfz56_1, hfz56_2⟩ := fz3 BK463.out; obtain ⟨Ao57, co57, rfl⟩ := Kd.R_slice HO458.out; obtain ⟨Ao58, co58, rfl⟩ := Kd.R_slice HO461.out; obtain ⟨hcz59_0, hcz59_1, hcz59_2⟩ := cz3 BK454.out; obtain ⟨hfz59_0, hfz59_1, hfz59_2⟩ := fz3 BK454.out))
  refine bodyPost_ret (results_ct rfl _ _ gb454 46 #[.bool false, .slice none 0 0, .slice none 0 0] (0, 0) _ rfl (dQ1 BK454.out NB454_463.out) Tryd.underlying46 rfl (by kernel_rfl)) rfl ?_
  exact ⟨_, _, dE, by first | exact Kd.R_nil _ _ _ _ _ | exact Kd.N_nil _ _ _ _ _ | exact Kd.V_nil _ _ _ _ _ | exact Kd.Q_nil _ _ _ _ _ | exact Kd.S_nil _ _ _ _ _, by first | exact Kd.R_nil _ _ _ _ _ | exact Kd.N_nil _ _ _ _ _ | exact Kd.V_nil _ _ _ _ _ | exact Kd.Q_nil _ _ _ _ _ | exact Kd.S_nil _ _ _ _ _, eB⟩
def rat_turned.f (a0_0 : Bool) (l0_1 : List Int) (l0_2 : List Int) : Option (Bool) := if a0_0 = true then (some false) else (some (decide ((l0_1.length : Int) > 0)))
set_option maxHeartbeats 8000000 in
set_option maxRecDepth 100000 in
theorem rat_turned.calls (a0_0 : Bool) (A0_1 : Option Addr) (c0_1 : Nat) (l0_1 : List Int) (A0_2 : Option Addr) (c0_2 : Nat) (l0_2 : List Int) (r : Bool) (w : World) (hr0_1 : Kd.C (Kd.int .u64) w A0_1 l0_1.length l0_1) (hc0_1 : l0_1.length ≤ c0_1) (hr0_2 : Kd.C (Kd.int .u64) w A0_2 l0_2.length l0_2) (hc0_2 : l0_2.length ≤ c0_2) (h : rat_turned.f a0_0 l0_1 l0_2 = some r) :
  Calls Tryd.prog 79 #[.agg #[.bool a0_0, .slice A0_1 l0_1.length c0_1, .slice A0_2 l0_2.length c0_2]] w fun e w' => e = .returned (.agg #[.bool r, .slice A0_1 l0_1.length c0_1, .slice A0_2 l0_2.length c0_2]) ∧ Below w.heap.size w w' := by
 have hu46 := Tryd.underlying46
 have HR0_1 := aM hr0_1
 have HC0_1 := aM hc0_1
 clear hr0_1 hc0_1
 have HR0_2 := aM hr0_2
 have HC0_2 := aM hc0_2
 clear hr0_2 hc0_2
 have HB := aM (Below.refl w.heap.size w)
 have H := h
 clear h
 unfold rat_turned.f at H
 by_cases c2 : a0_0 = true
 ·subst c2
  rw [if_pos rfl] at H
  (try dsimp only at H)
  obtain rfl := Option.some.inj H
  go_enter Tryd.func79, Tryd.ntmps79
  go_wp2_with (first | ((with_reducible refine gate_dst (N := 1) rfl ?_); (try (refine gate_guard (by rfl) ?_; dsimp only)); refine bE 1 #[.bool true, .slice A0_1 l0_1.length c0_1, .slice A0_2 l0_2.length c0_2] 46 ?_; intro gb267 hg w3 hbox hb; have BK267 := aM (hbox); have GE267 : Aside0 (w.heap.size ≤ gb267) := gE hg; replace HB := hS HB.out hb; clear hb hbox hg) | ((with_reducible refine gate_dst (N := 2) rfl ?_); refine bE 2 #[.bool false, .slice none 0 0, .slice none 0 0] 46 ?_; intro gbR hg wR hbox hb; have BKR := aM (hbox); have GER : Aside0 (w.heap.size ≤ gbR) := gE hg; replace HB := hS HB.out hb; have NB267_R := nL hg BK267.out; have NBR_267 := nG hg BK267.out; replace BK267 := bB BK267.out hb; clear hb hbox hg; have hnR1 := NB267_R.out; have hnR2 := NBR_267.out; have hcA0 : wR.cell? ⟨gb267, 0, none⟩ = some (.bool true) := (blk_cell BK267.out 0).trans rfl; have hfA0 := blk_frozen BK267.out 0; have hcA1 : wR.cell? ⟨gb267, 1, none⟩ = some (.slice A0_1 l0_1.length c0_1) := (blk_cell BK267.out 1).trans rfl; have hfA1 := blk_frozen BK267.out 1; have hcA2 : wR.cell? ⟨gb267, 2, none⟩ = some (.slice A0_2 l0_2.length c0_2) := (blk_cell BK267.out 2).trans rfl; have hfA2 := blk_frozen BK267.out 2; have hcR0 : wR.cell? ⟨gbR, 0, none⟩ = some (.bool false) := (blk_cell BKR.out 0).trans rfl; have hfR0 := blk_frozen BKR.out 0; have hcR1 : wR.cell? ⟨gbR, 1, none⟩ = some (.slice none 0 0) := (blk_cell BKR.out 1).trans rfl; have hfR1 := blk_frozen BKR.out 1; have hcR2 : wR.cell? ⟨gbR, 2, none⟩ = some (.slice none 0 0) := (blk_cell BKR.out 2).trans rfl; have hfR2 := blk_frozen BKR.out 2; skip))
  refine bodyPost_ret (results_cell_row rfl _ _ gbR 46 #[.bool (false), .slice A0_1 l0_1.length c0_1, .slice A0_2 l0_2.length c0_2] (0, 0) _ rfl (dQ1 BKR.out NBR_267.out) Tryd.underlying46 rfl (by kernel_rfl)) rfl ?_
  exact ⟨by first | rfl | (simp; done) | (simp [errW_none, errW_some] <;> rfl) | (simp [*, errW_none, errW_some] <;> rfl), eB⟩
 ·replace c2 := Bool.eq_false_iff.mpr c2
  subst c2
  rw [if_neg (show ¬ (false = true) by decide)] at H
  (try dsimp only at H)
  obtain rfl := Option.some.inj H
  go_enter Tryd.func79, Tryd.ntmps79
  go_wp2_with (first | ((with_reducible refine gate_dst (N := 1) rfl ?_); (try (refine gate_guard (by rfl) ?_; dsimp only)); refine bE 1 #[.bool false, .slice A0_1 l0_1.length c0_1, .slice A0_2 l0_2.length c0_2] 46 ?_; intro gb267 hg w5 hbox hb; have BK267 := aM (hbox); have GE267 : Aside0 (w.heap.size ≤ gb267) := gE hg; replace HB := hS HB.out hb; clear hb hbox hg) | ((with_reducible refine gate_dst (N := 2) rfl ?_); refine bE 2 #[.bool false, .slice none 0 0, .slice none 0 0] 46 ?_; intro gbR hg wR hbox hb; have BKR := aM (hbox); have GER : Aside0 (w.heap.size ≤ gbR) := gE hg; replace HB := hS HB.out hb; have NB267_R := nL hg BK267.out; have NBR_267 := nG hg BK267.out; replace BK267 := bB BK267.out hb; clear hb hbox hg; have hnR1 := NB267_R.out; have hnR2 := NBR_267.out; have hcA0 : wR.cell? ⟨gb267, 0, none⟩ = some (.bool false) := (blk_cell BK267.out 0).trans rfl; have hfA0 := blk_frozen BK267.out 0; have hcA1 : wR.cell? ⟨gb267, 1, none⟩ = some (.slice A0_1 l0_1.length c0_1) := (blk_cell BK267.out 1).trans rfl; have hfA1 := blk_frozen BK267.out 1; have hcA2 : wR.cell? ⟨gb267, 2, none⟩ = some (.slice A0_2 l0_2.length c0_2) := (blk_cell BK267.out 2).trans rfl; have hfA2 := blk_frozen BK267.out 2; have hcR0 : wR.cell? ⟨gbR, 0, none⟩ = some (.bool false) := (blk_cell BKR.out 0).trans rfl; have hfR0 := blk_frozen BKR.out 0; have hcR1 : wR.cell? ⟨gbR, 1, none⟩ = some (.slice none 0 0) := (blk_cell BKR.out 1).trans rfl; have hfR1 := blk_frozen BKR.out 1; have hcR2 : wR.cell? ⟨gbR, 2, none⟩ = some (.slice none 0 0) := (blk_cell BKR.out 2).trans rfl; have hfR2 := blk_frozen BKR.out 2; skip))
  refine bodyPost_ret (results_cell_row rfl _ _ gbR 46 #[.bool (decide (0 < l0_1.length)), .slice A0_1 l0_1.length c0_1, .slice A0_2 l0_2.length c0_2] (0, 0) _ rfl (dQ1 BKR.out NBR_267.out) Tryd.underlying46 rfl (by kernel_rfl)) rfl ?_
  exact ⟨by first | rfl | (simp; done) | (simp [errW_none, errW_some] <;> rfl) | (simp [*, errW_none, errW_some] <;> rfl), eB⟩
def rat_Sub.f (k : Nat) (a0_0 : Bool) (l0_1 : List Int) (l0_2 : List Int) (a1_0 : Bool) (l1_1 : List Int) (l1_2 : List Int) : Option (Bool × List Int × List Int × Int) := (rat_Check.f k a1_0 l1_1 l1_2).bind fun t271 => (if t271 = 0 then ((rat_turned.f a1_0 l1_1 l1_2).bind fun t272 => ((rat_Add.f k a0_0 l0_1 l0_2 t272 l1_1 l1_2).bind fun bt273 => (some (bt273.1, bt273.2.1, bt273.2.2.1, bt273.2.2.2)))) else (some (false, ([] : List Int), ([] : List Int), 51)))
def rat_Sub.T3 : Bool × List (List Nat × List Nat) := (true, [([], []), ([], []), ([1], [1]), ([0, 2, 2], [0, 2]), ([3], [3]), ([3], [3]), ([4, 3, 0, 1, 2, 3, 4, 5], [4]), ([5, 6, 0, 1, 2, 3, 4, 5, 6], [5])])
def rat_Sub.B3 : List Nat := [0, 0, 2, 7, 15, 15, 63, 127]
theorem rat_Sub.tab3 : rtab .any (opsOf Tryd.f39 3) = rat_Sub.T3 := by kernel_rfl
theorem rat_Sub.bits3 : waitsOk rat_Sub.T3.2 rat_Sub.B3 = true := by kernel_rfl
set_option maxHeartbeats 8000000 in
set_option maxRecDepth 100000 in
theorem rat_Sub.calls (k : Nat) (a0_0 : Bool) (A0_1 : Option Addr) (c0_1 : Nat) (l0_1 : List Int) (A0_2 : Option Addr) (c0_2 : Nat) (l0_2 : List Int) (a1_0 : Bool) (A1_1 : Option Addr) (c1_1 : Nat) (l1_1 : List Int) (A1_2 : Option Addr) (c1_2 : Nat) (l1_2 : List Int) (r1 : Bool) (r2 : List Int) (r3 : List Int) (r4 : Int) (w : World) (hr0_1 : Kd.C (Kd.int .u64) w A0_1 l0_1.length l0_1) (hc0_1 : l0_1.length ≤ c0_1) (hr0_2 : Kd.C (Kd.int .u64) w A0_2 l0_2.length l0_2) (hc0_2 : l0_2.length ≤ c0_2) (hr1_1 : Kd.C (Kd.int .u64) w A1_1 l1_1.length l1_1) (hc1_1 : l1_1.length ≤ c1_1) (hr1_2 : Kd.C (Kd.int .u64) w A1_2 l1_2.length l1_2) (hc1_2 : l1_2.length ≤ c1_2) (h : rat_Sub.f k a0_0 l0_1 l0_2 a1_0 l1_1 l1_2 = some (r1, r2, r3, r4)) :
  Calls Tryd.prog 39 #[.agg #[.bool a0_0, .slice A0_1 l0_1.length c0_1, .slice A0_2 l0_2.length c0_2], .agg #[.bool a1_0, .slice A1_1 l1_1.length c1_1, .slice A1_2 l1_2.length c1_2]] w fun e w' => ∃ v1_ v2_ : Value, e = .returned (.tuple #[.agg #[.bool r1, v1_, v2_], .int .i64 r4]) ∧ Kd.R (Kd.int .u64) 26 w' w.heap.size (fun k_ => some k_ ≠ (v2_ : Value).ownBlock) v1_ r2 ∧ Kd.R (Kd.int .u64) 26 w' w.heap.size (fun k_ => some k_ ≠ (v1_ : Value).ownBlock) v2_ r3 ∧ Below w.heap.size w w' := by
 have hu46 := Tryd.underlying46
 have HR0_1 := aM hr0_1
 have HC0_1 := aM hc0_1
 clear hr0_1 hc0_1
 have HR0_2 := aM hr0_2
 have HC0_2 := aM hc0_2
 clear hr0_2 hc0_2
 have HR1_1 := aM hr1_1
 have HC1_1 := aM hc1_1
 clear hr1_1 hc1_1
 have HR1_2 := aM hr1_2
 have HC1_2 := aM hc1_2
 clear hr1_2 hc1_2
 have HB := aM (Below.refl w.heap.size w)
 have H := h
 clear h
 unfold rat_Sub.f at H
 replace H := oA H
 obtain ⟨t271, A3, H⟩ := H
 (try dsimp only at H)
 by_cases c4 : t271 = 0
 ·rw [if_pos c4] at H
  obtain ⟨c4b0, c4b1⟩ := bT c4
  clear c4
  replace H := oA H
  obtain ⟨t272, A5, H⟩ := H
  (try dsimp only at H)
  replace H := oA H
  obtain ⟨⟨t273, t274, t277, t280⟩, A6, H⟩ := H
  (try dsimp only at H)
  simp only [Option.some.injEq, Prod.mk.injEq] at H
  obtain ⟨rfl, rfl, rfl, rfl⟩ := H
  go_enter Tryd.func39, Tryd.ntmps39
  try go_wp2_with (first | ((with_reducible refine gate_dst (N := 2) rfl ?_); refine bE 2 #[.bool a0_0, .slice A0_1 l0_1.length c0_1, .slice A0_2 l0_2.length c0_2] 46 ?_; intro gb268 hg w7 hbox hb; have BK268 := aM (hbox); have GE268 : Aside0 (w.heap.size ≤ gb268) := gE hg; replace HB := hS HB.out hb; clear hb hbox hg) | ((with_reducible refine gate_dst (N := 3) rfl ?_); refine bE 3 #[.bool a1_0, .slice A1_1 l1_1.length c1_1, .slice A1_2 l1_2.length c1_2] 46 ?_; intro gb269 hg w8 hbox hb; have BK269 := aM (hbox); have GE269 : Aside0 (w.heap.size ≤ gb269) := gE hg; replace HB := hS HB.out hb; have NB268_269 := nL hg BK268.out; have NB269_268 := nG hg BK268.out; replace BK268 := bB BK268.out hb; clear hb hbox hg) | ((with_reducible refine gate_dst (N := 4) rfl ?_); refine bE 4 #[.bool false, .slice none 0 0, .slice none 0 0] 46 ?_; intro gb270 hg w9 hbox hb; have BK270 := aM (hbox); have GE270 : Aside0 (w.heap.size ≤ gb270) := gE hg; replace HB := hS HB.out hb; have NB268_270 := nL hg BK268.out; have NB270_268 := nG hg BK268.out; replace BK268 := bB BK268.out hb; have NB269_270 := nL hg BK269.out; have NB270_269 := nG hg BK269.out; replace BK269 := bB BK269.out hb; clear hb hbox hg; have hnb10 := NB269_268.out; have hnc10 := NB268_269.out; have hnb11 := NB269_270.out; have hnc11 := NB270_269.out; obtain ⟨hcz12_0, hcz12_1, hcz12_2⟩ := cz3 BK269.out; obtain ⟨hfz12_0, hfz12_1, hfz12_2⟩ := fz3 BK269.out) | ((with_reducible refine gate_callee (f := 64) rfl ?_); refine gL (some 7) Tryd.func64 #[.agg #[.bool a1_0, .slice A1_1 l1_1.length c1_1, .slice A1_2 l1_2.length c1_2]] ?_; (with_reducible refine (rat_Check.calls k a1_0 _ _ l1_1 _ _ l1_2 t271 _ ?side1 HC1_1.out ?side3 HC1_2.out A3.out).mono ?_); (case side1 => exact dC (Kd.C_below HR1_1.out HB.out)); (case side3 => exact dC (Kd.C_below HR1_2.out HB.out)); rintro e w13 ⟨rfl, hb⟩; refine ⟨_, rfl, ?_⟩; replace BK268 := bB BK268.out hb; replace BK269 := bB BK269.out hb; replace BK270 := bB BK270.out hb; replace HB := hS HB.out hb; (try clear hb)))
  replace BK268 := aM (blk_drew BK268.out)
  replace BK269 := aM (blk_drew BK269.out)
  replace BK270 := aM (blk_drew BK270.out)
  replace HB := aM (below_drew1 HB.out)
  refine start_ (n := 8) (S := fun w' => w'.cell? ⟨gb268, 0, none⟩ = some (.bool a0_0) ∧ w'.cell? ⟨gb268, 1, none⟩ = some (.slice A0_1 l0_1.length c0_1) ∧ w'.cell? ⟨gb268, 2, none⟩ = some (.slice A0_2 l0_2.length c0_2) ∧ w'.cell? ⟨gb269, 0, none⟩ = some (.bool a1_0) ∧ w'.cell? ⟨gb269, 1, none⟩ = some (.slice A1_1 l1_1.length c1_1) ∧ w'.cell? ⟨gb269, 2, none⟩ = some (.slice A1_2 l1_2.length c1_2)) (ds := []) #[false, false, false, false, false, false, false, false] (by kernel_rfl) rfl rfl ⟨(blk_cell BK268.out 0).trans rfl, (blk_cell BK268.out 1).trans rfl, (blk_cell BK268.out 2).trans rfl, (blk_cell BK269.out 0).trans rfl, (blk_cell BK269.out 1).trans rfl, (blk_cell BK269.out 2).trans rfl⟩ (fun hHeld => ?_); refine with_tabW rat_Sub.tab3 rat_Sub.bits3 (fun HT_ HW_ => ?_)
  generalize w13.drew = w14 at BK268 BK269 BK270 HB hHeld ⊢
  refine pH6 0 (some 10) hHeld ?_
  refine pH6 1 (some 11) hHeld ?_
  refine one_ (i := 2) (N := some 12) #[true, true, true, false, false, false, false, false] rfl rfl (one_of HT_.out (by kernel_rfl)) (by decide) (fun K hK => ?_)
  refine goes_ Tryd.func79 (by kernel_rfl) rfl #[.agg #[.bool a1_0, .slice A1_1 l1_1.length c1_1, .slice A1_2 l1_2.length c1_2]] (by rfl) rfl rfl dA ?_
  with_reducible refine (rat_turned.calls a1_0 _ _ l1_1 _ _ l1_2 t272 _ ?side1 HC1_1.out ?side3 HC1_2.out A5.out).mono ?_
  (case side1 => exact dC (Kd.C_below HR1_1.out HB.out))
  (case side3 => exact dC (Kd.C_below HR1_2.out HB.out))
  rintro e w15 ⟨rfl, hb⟩
  refine ⟨_, rfl, ?_⟩
  replace BK268 := bB BK268.out hb
  replace BK269 := bB BK269.out hb
  replace BK270 := bB BK270.out hb
  replace HB := hS HB.out hb
  (try clear hb)
  (try clear hb2)
  (try clear hk)
  (try clear hi)
  refine hK.out _ _ ⟨(blk_cell BK268.out 0).trans rfl, (blk_cell BK268.out 1).trans rfl, (blk_cell BK268.out 2).trans rfl, (blk_cell BK269.out 0).trans rfl, (blk_cell BK269.out 1).trans rfl, (blk_cell BK269.out 2).trans rfl⟩ (fun hHeld => ?_)
  clear hK K
  refine norm_ (a' := ?_) ?_ ?_
  rotate_left
  ·show Act.put _ (some 12) _ = _
   simp only [Act.put, List.setIfInBounds_toArray, List.set_cons_zero, List.set_cons_succ, i64_w, i32_w]
   rfl
  refine one_ (i := 3) (N := some 13) #[true, true, true, true, false, false, false, false] rfl rfl (one_of HT_.out (by kernel_rfl)) (by decide) (fun K hK => ?_)
  refine goes_ Tryd.func36 (by kernel_rfl) rfl #[.agg #[.bool a0_0, .slice A0_1 l0_1.length c0_1, .slice A0_2 l0_2.length c0_2], .agg #[.bool t272, .slice A1_1 l1_1.length c1_1, .slice A1_2 l1_2.length c1_2]] (by rfl) rfl rfl dA ?_
  with_reducible refine (rat_Add.calls k a0_0 _ _ l0_1 _ _ l0_2 t272 _ _ l1_1 _ _ l1_2 t273 t274 t277 t280 _ ?side1 HC0_1.out ?side3 HC0_2.out ?side5 HC1_1.out ?side7 HC1_2.out A6.out).mono ?_
  (case side1 => exact dC (Kd.C_below HR0_1.out HB.out))
  (case side3 => exact dC (Kd.C_below HR0_2.out HB.out))
  (case side5 => exact dC (Kd.C_below HR1_1.out HB.out))
  (case side7 => exact dC (Kd.C_below HR1_2.out HB.out))
  rintro e w16 ⟨v275, v278, rfl, ho0, ho1, hb⟩
  refine ⟨_, rfl, ?_⟩
  have HO276 := aM (Kd.R_lower ho0 (below_size eB))
  have HO279 := aM (Kd.R_lower ho1 (below_size eB))
  replace BK268 := bB BK268.out hb
  replace BK269 := bB BK269.out hb
  replace BK270 := bB BK270.out hb
  replace HB := hS HB.out hb
  (try clear hb)
  (try clear hb2)
  (try clear hk)
  (try clear hi)
  (try clear ho0)
  (try clear ho1)
  obtain ⟨Ao18, co18, eo18⟩ := Kd.R_slice HO276.out
  (first | subst eo18 | (injection eo18 with f1_ f2_ f3_; have f4_ := f1_.symm; have f5_ := f3_.symm; clear f1_ f2_ f3_; subst f4_; subst f5_))
  obtain ⟨Ao20, co20, eo20⟩ := Kd.R_slice HO279.out
  (first | subst eo20 | (injection eo20 with f1_ f2_ f3_; have f4_ := f1_.symm; have f5_ := f3_.symm; clear f1_ f2_ f3_; subst f4_; subst f5_))
  refine hK.out _ _ ⟨(blk_cell BK268.out 0).trans rfl, (blk_cell BK268.out 1).trans rfl, (blk_cell BK268.out 2).trans rfl, (blk_cell BK269.out 0).trans rfl, (blk_cell BK269.out 1).trans rfl, (blk_cell BK269.out 2).trans rfl⟩ (fun hHeld => ?_)
  clear hK K
  refine norm_ (a' := ?_) ?_ ?_
  rotate_left
  ·show Act.put _ (some 13) _ = _
   simp only [Act.put, List.setIfInBounds_toArray, List.set_cons_zero, List.set_cons_succ, i64_w, i32_w]
   rfl
  refine pP 4 (some 14) ?_
  refine pP 5 (some 15) ?_
  refine one_ (i := 6) (N := none) #[true, true, true, true, true, true, true, false] rfl rfl (one_of HT_.out (by kernel_rfl)) (by decide) (fun K hK => ?_)
  have hs17 : w16.cell? ⟨gb270, 0, none⟩ = some (.bool false) := (blk_cell BK270.out 0).trans rfl
  have hfs17 := blk_frozen BK270.out 0
  have hns17_0 := NB268_270.out
  have hns17_1 := NB269_270.out
  have hms17_0 := NB270_268.out
  have hms17_1 := NB270_269.out
  have hs19 : w16.cell? ⟨gb270, 1, none⟩ = some (.slice none 0 0) := (blk_cell BK270.out 1).trans rfl
  have hfs19 := blk_frozen BK270.out 1
  have hns19_0 := NB268_270.out
  have hns19_1 := NB269_270.out
  have hms19_0 := NB270_268.out
  have hms19_1 := NB270_269.out
  have hs21 : w16.cell? ⟨gb270, 2, none⟩ = some (.slice none 0 0) := (blk_cell BK270.out 2).trans rfl
  have hfs21 := blk_frozen BK270.out 2
  have hns21_0 := NB268_270.out
  have hns21_1 := NB269_270.out
  have hms21_0 := NB270_268.out
  have hms21_1 := NB270_269.out
  refine skip_ (w1 := ?_) (by rfl) rfl ?_ ?_
  rotate_left
  ·go_simp
   rfl
  refine hK.out _ _ ⟨((cell_far (p := ⟨gb270, _, none⟩) NB268_270.out _).trans (((cell_far (p := ⟨gb270, _, none⟩) NB268_270.out _).trans (((cell_far (p := ⟨gb270, _, none⟩) NB268_270.out _).trans (hHeld.1)))))), ((cell_far (p := ⟨gb270, _, none⟩) NB268_270.out _).trans (((cell_far (p := ⟨gb270, _, none⟩) NB268_270.out _).trans (((cell_far (p := ⟨gb270, _, none⟩) NB268_270.out _).trans (hHeld.2.1)))))), ((cell_far (p := ⟨gb270, _, none⟩) NB268_270.out _).trans (((cell_far (p := ⟨gb270, _, none⟩) NB268_270.out _).trans (((cell_far (p := ⟨gb270, _, none⟩) NB268_270.out _).trans (hHeld.2.2.1)))))), ((cell_far (p := ⟨gb270, _, none⟩) NB269_270.out _).trans (((cell_far (p := ⟨gb270, _, none⟩) NB269_270.out _).trans (((cell_far (p := ⟨gb270, _, none⟩) NB269_270.out _).trans (hHeld.2.2.2.1)))))), ((cell_far (p := ⟨gb270, _, none⟩) NB269_270.out _).trans (((cell_far (p := ⟨gb270, _, none⟩) NB269_270.out _).trans (((cell_far (p := ⟨gb270, _, none⟩) NB269_270.out _).trans (hHeld.2.2.2.2.1)))))), ((cell_far (p := ⟨gb270, _, none⟩) NB269_270.out _).trans (((cell_far (p := ⟨gb270, _, none⟩) NB269_270.out _).trans (((cell_far (p := ⟨gb270, _, none⟩) NB269_270.out _).trans (hHeld.2.2.2.2.2))))))⟩ (fun hHeld => ?_)
  clear hK K
  refine pP 7 (some 5) ?_
  refine done_ (done_of HT_.out (by kernel_rfl)) ?_
  try go_wp2
  refine bodyPost_ret (results_ct rfl _ _ gb270 46 #[.bool t273, .slice Ao18 t274.length co18, .slice Ao20 t277.length co20] (0, 0) _ rfl (dP BK270.out) Tryd.underlying46 rfl (by kernel_rfl)) rfl ?_
  exact ⟨_, _, dE, oR HO276.out BK270.out, oR HO279.out BK270.out, eB⟩
 ·rw [if_neg c4] at H
  obtain ⟨c4b0, c4b1⟩ := bF c4
  simp only [Option.some.injEq, Prod.mk.injEq] at H
  obtain ⟨rfl, rfl, rfl, rfl⟩ := H
  go_enter Tryd.func39, Tryd.ntmps39
  go_wp2_with (first | ((with_reducible refine gate_dst (N := 2) rfl ?_); refine bE 2 #[.bool a0_0, .slice A0_1 l0_1.length c0_1, .slice A0_2 l0_2.length c0_2] 46 ?_; intro gb268 hg w22 hbox hb; have BK268 := aM (hbox); have GE268 : Aside0 (w.heap.size ≤ gb268) := gE hg; replace HB := hS HB.out hb; clear hb hbox hg) | ((with_reducible refine gate_dst (N := 3) rfl ?_); refine bE 3 #[.bool a1_0, .slice A1_1 l1_1.length c1_1, .slice A1_2 l1_2.length c1_2] 46 ?_; intro gb269 hg w23 hbox hb; have BK269 := aM (hbox); have GE269 : Aside0 (w.heap.size ≤ gb269) := gE hg; replace HB := hS HB.out hb; have NB268_269 := nL hg BK268.out; have NB269_268 := nG hg BK268.out; replace BK268 := bB BK268.out hb; clear hb hbox hg) | ((with_reducible refine gate_dst (N := 4) rfl ?_); refine bE 4 #[.bool false, .slice none 0 0, .slice none 0 0] 46 ?_; intro gb270 hg w24 hbox hb; have BK270 := aM (hbox); have GE270 : Aside0 (w.heap.size ≤ gb270) := gE hg; replace HB := hS HB.out hb; have NB268_270 := nL hg BK268.out; have NB270_268 := nG hg BK268.out; replace BK268 := bB BK268.out hb; have NB269_270 := nL hg BK269.out; have NB270_269 := nG hg BK269.out; replace BK269 := bB BK269.out hb; clear hb hbox hg; have hnb25 := NB269_268.out; have hnc25 := NB268_269.out; have hnb26 := NB269_270.out; have hnc26 := NB270_269.out; obtain ⟨hcz27_0, hcz27_1, hcz27_2⟩ := cz3 BK269.out; obtain ⟨hfz27_0, hfz27_1, hfz27_2⟩ := fz3 BK269.out) | ((with_reducible refine gate_callee (f := 64) rfl ?_); refine gL (some 7) Tryd.func64 #[.agg #[.bool a1_0, .slice A1_1 l1_1.length c1_1, .slice A1_2 l1_2.length c1_2]] ?_; (with_reducible refine (rat_Check.calls k a1_0 _ _ l1_1 _ _ l1_2 t271 _ ?side1 HC1_1.out ?side3 HC1_2.out A3.out).mono ?_); (case side1 => exact dC (Kd.C_below HR1_1.out HB.out)); (case side3 => exact dC (Kd.C_below HR1_2.out HB.out)); rintro e w28 ⟨rfl, hb⟩; refine ⟨_, rfl, ?_⟩; replace BK268 := bB BK268.out hb; replace BK269 := bB BK269.out hb; replace BK270 := bB BK270.out hb; replace HB := hS HB.out hb; (try clear hb); have hnb29 := NB270_268.out; have hnc29 := NB268_270.out; obtain ⟨hcz30_0, hcz30_1, hcz30_2⟩ := cz3 BK270.out; obtain ⟨hfz30_0, hfz30_1, hfz30_2⟩ := fz3 BK270.out))
  refine bodyPost_ret (results_ct rfl _ _ gb270 46 #[.bool false, .slice none 0 0, .slice none 0 0] (0, 0) _ rfl (dP BK270.out) Tryd.underlying46 rfl (by kernel_rfl)) rfl ?_
  exact ⟨_, _, dE, by first | exact Kd.R_nil _ _ _ _ _ | exact Kd.N_nil _ _ _ _ _ | exact Kd.V_nil _ _ _ _ _ | exact Kd.Q_nil _ _ _ _ _ | exact Kd.S_nil _ _ _ _ _, by first | exact Kd.R_nil _ _ _ _ _ | exact Kd.N_nil _ _ _ _ _ | exact Kd.V_nil _ _ _ _ _ | exact Kd.Q_nil _ _ _ _ _ | exact Kd.S_nil _ _ _ _ _, eB⟩
end Go.Proofs.YtoefabmlkbhmpaaDoor.PA
