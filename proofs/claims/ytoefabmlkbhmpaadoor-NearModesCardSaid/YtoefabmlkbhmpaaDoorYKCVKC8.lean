/- A part of the proof (8). -/
import Derived.Test.YtoefabmlkbhmpaaDoorYKCVKC2
import Derived.Test.YtoefabmlkbhmpaaDoorYKCVKC4
import Derived.Test.YtoefabmlkbhmpaaDoorYKCVKC7
namespace Go.Proofs.YtoefabmlkbhmpaaDoor.PA
open Go.RowKit Go.Proofs.YtoefabmlkbhmpaaDoorW.PrintWords Go.Proofs.YtoefabmlkbhmpaaDoorW.PrintLast Go.Proofs.YtoefabmlkbhmpaaDoorW.PrintMore
attribute [local go_sem] max2_int min2_int max_two min_two max_three min_three max_four min_four
set_option linter.unusedVariables false
set_option linter.unusedSimpArgs false
def plumblaw07_exact.f (k : Nat) (a0_0 : Bool) (l0_1 : List Int) (l0_2 : List Int) : Option (Bool × List Int × List Int × Bool × List Int × List Int × Bool) := (plumblaw07_bounded.f k l0_1 60).bind fun t274 => ((plumblaw07_bounded.f k l0_2 60).bind fun t277 => ((nat_Cmp.f k t277 ([] : List Int)).bind fun t280 => (if t280 = 0 then ((some (([1] : List Int) : List Int)).bind fun y281 => ((rat_New.f k a0_0 t274 y281).bind fun bt284 => ((plumblaw07_num.f bt284.2.2.2).bind fun t293 => (some (a0_0, t274, y281, bt284.1, bt284.2.1, bt284.2.2.1, (t293 == 0)))))) else ((rat_New.f k a0_0 t274 t277).bind fun bt294 => ((plumblaw07_num.f bt294.2.2.2).bind fun t303 => (some (a0_0, t274, t277, bt294.1, bt294.2.1, bt294.2.2.1, (t303 == 0))))))))
def plumblaw07_exact.T6 : Bool × List (List Nat × List Nat) := (true, [([], []), ([], []), ([], []), ([2], [2]), ([3], [3]), ([0, 3, 0], [0]), ([1, 5, 0, 1, 5], [1]), ([4, 6, 0, 1, 2, 3, 4, 5, 6], [4])])
def plumblaw07_exact.B6 : List Nat := [0, 0, 0, 4, 12, 13, 47, 127]
theorem plumblaw07_exact.tab6 : rtab .any (opsOf Tryd.f23 6) = plumblaw07_exact.T6 := by kernel_rfl
theorem plumblaw07_exact.bits6 : waitsOk plumblaw07_exact.T6.2 plumblaw07_exact.B6 = true := by kernel_rfl
set_option maxHeartbeats 8000000 in
set_option maxRecDepth 100000 in
theorem plumblaw07_exact.calls (k : Nat) (a0_0 : Bool) (A0_1 : Option Addr) (c0_1 : Nat) (l0_1 : List Int) (A0_2 : Option Addr) (c0_2 : Nat) (l0_2 : List Int) (r1 : Bool) (r2 : List Int) (r3 : List Int) (r4 : Bool) (r5 : List Int) (r6 : List Int) (r7 : Bool) (w : World) (hr0_1 : Kd.C (Kd.int .u64) w A0_1 l0_1.length l0_1) (hc0_1 : l0_1.length ≤ c0_1) (hr0_2 : Kd.C (Kd.int .u64) w A0_2 l0_2.length l0_2) (hc0_2 : l0_2.length ≤ c0_2) (h : plumblaw07_exact.f k a0_0 l0_1 l0_2 = some (r1, r2, r3, r4, r5, r6, r7)) :
  Calls Tryd.prog 23 #[.agg #[.bool a0_0, .slice A0_1 l0_1.length c0_1, .slice A0_2 l0_2.length c0_2]] w fun e w' => ∃ v1_ v2_ v4_ v5_ : Value, e = .returned (.tuple #[.agg #[.bool r1, v1_, v2_], .agg #[.bool r4, v4_, v5_], .bool r7]) ∧ Kd.R (Kd.int .u64) 26 w' w.heap.size (fun k_ => some k_ ≠ (v2_ : Value).ownBlock ∧ some k_ ≠ (v4_ : Value).ownBlock ∧ some k_ ≠ (v5_ : Value).ownBlock) v1_ r2 ∧ Kd.R (Kd.int .u64) 26 w' w.heap.size (fun k_ => some k_ ≠ (v1_ : Value).ownBlock ∧ some k_ ≠ (v4_ : Value).ownBlock ∧ some k_ ≠ (v5_ : Value).ownBlock) v2_ r3 ∧ Kd.R (Kd.int .u64) 26 w' w.heap.size (fun k_ => some k_ ≠ (v1_ : Value).ownBlock ∧ some k_ ≠ (v2_ : Value).ownBlock ∧ some k_ ≠ (v5_ : Value).ownBlock) v4_ r5 ∧ Kd.R (Kd.int .u64) 26 w' w.heap.size (fun k_ => some k_ ≠ (v1_ : Value).ownBlock ∧ some k_ ≠ (v2_ : Value).ownBlock ∧ some k_ ≠ (v4_ : Value).ownBlock) v5_ r6 ∧ Below w.heap.size w w' := by
 have hu36 := Tryd.underlying36
 have hu46 := Tryd.underlying46
 have HR0_1 := aM hr0_1
 have HC0_1 := aM hc0_1
 clear hr0_1 hc0_1
 have HR0_2 := aM hr0_2
 have HC0_2 := aM hc0_2
 clear hr0_2 hc0_2
 have HB := aM (Below.refl w.heap.size w)
 have H := h
 clear h
 unfold plumblaw07_exact.f at H
 replace H := obe H
 obtain ⟨t274, A20, H⟩ := H
 (try dsimp only at H)
 have A2 := aM A20
 clear A20
 replace H := obe H
 obtain ⟨t277, A30, H⟩ := H
 (try dsimp only at H)
 have A3 := aM A30
 clear A30
 replace H := obe H
 obtain ⟨t280, A40, H⟩ := H
 (try dsimp only at H)
 have A4 := aM A40
 clear A40
 by_cases c5 : t280 = 0
 ·rw [if_pos c5] at H
  have c5b0 : (t280 == 0) = true := beq_iff_eq.mpr c5
  have c5b1 : (t280 != 0) = false := bne_eq_false_iff_eq.mpr c5
  clear c5
  obtain ⟨y281, hy281⟩ : ∃ y_ : List Int, y_ = (([1] : List Int)) := ⟨_, rfl⟩
  replace H : ((rat_New.f k a0_0 t274 y281).bind fun bt284 => ((plumblaw07_num.f bt284.2.2.2).bind fun t293 => (some (a0_0, t274, y281, bt284.1, bt284.2.1, bt284.2.2.1, (t293 == 0))))) = some (r1, r2, r3, r4, r5, r6, r7) := by first | (rw [hy281]; with_reducible exact H) | (have H2_ := (Option.bind_some _ _).symm.trans H; rw [hy281]; with_reducible exact H2_) | (have H2_ := (Option.bind_some _ _).symm.trans H; with_reducible exact H2_) | with_reducible exact H | (rw [hy281]; exact H) | exact H
  have Ny281 := aM hy281
  clear hy281
  replace H := obe H
  obtain ⟨⟨t284, t285, t288, t291⟩, A60, H⟩ := H
  (try dsimp only at H)
  have A6 := aM A60
  clear A60
  replace H := obe H
  obtain ⟨t293, A70, H⟩ := H
  (try dsimp only at H)
  have A7 := aM A70
  clear A70
  simp only [Option.some.injEq, Prod.mk.injEq] at H
  obtain ⟨rfl, rfl, rfl, rfl, rfl, rfl, rfl⟩ := H
  go_enter Tryd.func23, Tryd.ntmps23
  try go_wp2_with (first | ((with_reducible refine gate_dst (N := 1) rfl ?_); refine bE 1 #[.bool a0_0, .slice A0_1 l0_1.length c0_1, .slice A0_2 l0_2.length c0_2] 36 ?_; intro gb271 hg w8 hbox hb; have BK271 := aM (hbox); have GE271 : Aside0 (w.heap.size ≤ gb271) := gE hg; replace HB := hS HB.out hb; clear hb hbox hg) | ((with_reducible refine gate_dst (N := 2) rfl ?_); refine bE 2 #[.bool false, .slice none 0 0, .slice none 0 0] 36 ?_; intro gb272 hg w9 hbox hb; have BK272 := aM (hbox); have GE272 : Aside0 (w.heap.size ≤ gb272) := gE hg; replace HB := hS HB.out hb; have NB271_272 := nL hg BK271.out; have NB272_271 := nG hg BK271.out; replace BK271 := bB BK271.out hb; clear hb hbox hg) | ((with_reducible refine gate_dst (N := 3) rfl ?_); refine bE 3 #[.bool false, .slice none 0 0, .slice none 0 0] 46 ?_; intro gb273 hg w10 hbox hb; have BK273 := aM (hbox); have GE273 : Aside0 (w.heap.size ≤ gb273) := gE hg; replace HB := hS HB.out hb; have NB271_273 := nL hg BK271.out; have NB273_271 := nG hg BK271.out; replace BK271 := bB BK271.out hb; have NB272_273 := nL hg BK272.out; have NB273_272 := nG hg BK272.out; replace BK272 := bB BK272.out hb; clear hb hbox hg; have hnb11 := NB271_272.out; have hnc11 := NB272_271.out; have hnb12 := NB271_273.out; have hnc12 := NB273_271.out; obtain ⟨hcz13_0, hcz13_1, hcz13_2⟩ := cz3 BK271.out; obtain ⟨hfz13_0, hfz13_1, hfz13_2⟩ := fz3 BK271.out) | ((with_reducible refine gate_callee (f := 20) rfl ?_); refine gL (some 9) Tryd.func20 #[.slice A0_1 l0_1.length c0_1, .int .i64 60] ?_; (with_reducible refine (plumblaw07_bounded.calls k _ _ l0_1 60 t274 _ ?side1 HC0_1.out A2.out).mono ?_); (case side1 => exact dC (Kd.C_below HR0_1.out HB.out)); rintro e w14 ⟨v275, rfl, ho0, hb⟩; refine ⟨_, rfl, ?_⟩; have HO276 := aM (Kd.R_lower ho0 (below_size eB)); replace BK271 := bB BK271.out hb; replace BK272 := bB BK272.out hb; replace BK273 := bB BK273.out hb; replace HB := hS HB.out hb; (try clear hb); (try clear ho0); obtain ⟨Ao15, co15, rfl⟩ := Kd.R_slice HO276.out; obtain ⟨hcz16_0, hcz16_1, hcz16_2⟩ := cz3 BK271.out; obtain ⟨hfz16_0, hfz16_1, hfz16_2⟩ := fz3 BK271.out) | ((with_reducible refine gate_callee (f := 20) rfl ?_); refine gL (some 13) Tryd.func20 #[.slice A0_2 l0_2.length c0_2, .int .i64 60] ?_; (with_reducible refine (plumblaw07_bounded.calls k _ _ l0_2 60 t277 _ ?side1 HC0_2.out A3.out).mono ?_); (case side1 => exact Kd.C_below HR0_2.out eB); rintro e w17 ⟨v278, rfl, ho0, hb⟩; refine ⟨_, rfl, ?_⟩; have HO279 := aM (Kd.R_lower (Kd.R_new' ho0 (Kd.R_lt (by (with_reducible repeat (first | apply Kd.R_alloc | apply Kd.R_drewN | apply Kd.R_drew)); exact (rX HO276.out BK271.out)))) (below_size eB)); replace HO276 := aM (Kd.R_elder' (by (with_reducible repeat (first | apply Kd.R_alloc | apply Kd.R_drewN | apply Kd.R_drew)); exact (rX HO276.out BK271.out)) (Kd.R_base ho0) hb); replace BK271 := aM (blk_below (g := gb271) (o := .cells #[.bool a0_0, .slice Ao15 t274.length co15, .slice A0_2 l0_2.length c0_2] 36 (0, 0)) (dP BK271.out) hb); replace BK272 := aM (blk_below (g := gb272) (o := .cells #[.bool false, .slice none 0 0, .slice none 0 0] 36 (0, 0)) (dQ1 BK272.out NB272_271.out) hb); replace BK273 := aM (blk_below (g := gb273) (o := .cells #[.bool false, .slice none 0 0, .slice none 0 0] 46 (0, 0)) (dQ1 BK273.out NB273_271.out) hb); replace HB := hS HB.out hb; (try clear hb); (try clear ho0); obtain ⟨Ao18, co18, rfl⟩ := Kd.R_slice HO279.out; obtain ⟨hcz19_0, hcz19_1, hcz19_2⟩ := cz3 BK271.out; obtain ⟨hfz19_0, hfz19_1, hfz19_2⟩ := fz3 BK271.out) | ((with_reducible refine gate_callee (f := 58) rfl ?_); refine gL (some 17) Tryd.func58 #[.slice Ao18 t277.length co18, .slice none 0 0] ?_; (refine (nat_Cmp.calls k _ _ t277 _ _ ([] : List Int) t280 _ ?side1 (Kd.R_reads' HO279.out).2.1 ?side3 ?side4 A4.out).mono ?_); (case side1 => refine (Kd.R_reads' (e := 26) (base := w.heap.size) (ok := fun k_ => (True ∧ some k_ ≠ (.slice Ao15 t274.length co15 : Value).ownBlock)) (n := t277.length) (c := co18) ?_).2.2; exact (by (with_reducible repeat (first | apply Kd.R_alloc | apply Kd.R_drewN | apply Kd.R_drew)); exact (rX HO279.out BK271.out))); (case side3 => exact Kd.C_nil _ _); (case side4 => exact Nat.le_refl _); rintro e w' ⟨rfl, ⟨nd, rfl⟩⟩; refine ⟨_, rfl, ?_⟩) | ((with_reducible refine gate_dst (N := 19) rfl ?_); refine Kd.R_lit (Kd.int .u64) _ 26 ?hg (N := 19) ?hd (xs := ([1] : List Int)) (inner := [.int .u64 1]) (ok := fun _ => True) (okp := fun _ => True) ?hr ?hp (fun _ hk => hk) trivial (Below.refl _ _) (Nat.le_refl _) (by simp) ?_; (case hd => rfl); (case hg => rfl); (case hr => first | (go_simp; done) | (go_simp; rfl)); (case hp => exact (Reps.one (show Kd.M (Kd.int .u64) _ _ _ 1 [.int .u64 1] from rfl) (Reps.none _ _))); intro v282 w20 ho21 hb hg_ hnew_; clear hg_ hnew_; (first | rw [← Ny281.out] at ho21 | (simp only [Int.reduceToNat] at ho21; rw [← Ny281.out] at ho21)); have HO283 := aM (Kd.R_lower (Kd.R_new' (Kd.R_new' ho21 (Kd.R_lt (by (with_reducible repeat (first | apply Kd.R_alloc | apply Kd.R_drewN | apply Kd.R_drew)); exact (rX HO276.out BK271.out)))) (Kd.R_lt (by (with_reducible repeat (first | apply Kd.R_alloc | apply Kd.R_drewN | apply Kd.R_drew)); exact (rX HO279.out BK271.out)))) (below_size eB)); replace HO276 := aM (Kd.R_elder' (by (with_reducible repeat (first | apply Kd.R_alloc | apply Kd.R_drewN | apply Kd.R_drew)); exact (rX HO276.out BK271.out)) (Kd.R_base ho21) hb); replace HO279 := aM (Kd.R_elder' (by (with_reducible repeat (first | apply Kd.R_alloc | apply Kd.R_drewN | apply Kd.R_drew)); exact (rX HO279.out BK271.out)) (Kd.R_base ho21) hb); replace BK271 := aM (blk_below (g := gb271) (o := .cells #[.bool a0_0, .slice Ao15 t274.length co15, .slice Ao18 t277.length co18] 36 (0, 0)) (dP BK271.out) hb); replace BK272 := aM (blk_below (g := gb272) (o := .cells #[.bool false, .slice none 0 0, .slice none 0 0] 36 (0, 0)) (dQ1 BK272.out NB272_271.out) hb); replace BK273 := aM (blk_below (g := gb273) (o := .cells #[.bool false, .slice none 0 0, .slice none 0 0] 46 (0, 0)) (dQ1 BK273.out NB273_271.out) hb); replace HB := hS HB.out hb; clear hb ho21; obtain ⟨Ao22, co22, rfl⟩ := Kd.R_slice HO283.out; obtain ⟨hcz23_0, hcz23_1, hcz23_2⟩ := cz3 BK271.out; obtain ⟨hfz23_0, hfz23_1, hfz23_2⟩ := fz3 BK271.out) | ((with_reducible refine gate_callee (f := 59) rfl ?_); refine gL (some 28) Tryd.func59 #[.bool a0_0, .slice Ao15 t274.length co15, .slice Ao22 y281.length co22] ?_; (with_reducible refine (rat_New.calls k a0_0 _ _ t274 _ _ y281 t284 t285 t288 t291 _ ?side1 (Kd.R_reads' HO276.out).2.1 ?side3 (Kd.R_reads' HO283.out).2.1 A6.out).mono ?_); (case side1 => refine (Kd.R_reads' (e := 26) (base := w.heap.size) (ok := fun k_ => ((True ∧ some k_ ≠ (.slice Ao18 t277.length co18 : Value).ownBlock) ∧ some k_ ≠ (.slice Ao22 y281.length co22 : Value).ownBlock)) (n := t274.length) (c := co15) ?_).2.2; exact (by (with_reducible repeat (first | apply Kd.R_alloc | apply Kd.R_drewN | apply Kd.R_drew)); exact (rX HO276.out BK271.out))); (case side3 => refine (Kd.R_reads' (e := 26) (base := w.heap.size) (ok := fun k_ => ((True ∧ some k_ ≠ (.slice Ao15 t274.length co15 : Value).ownBlock) ∧ some k_ ≠ (.slice Ao18 t277.length co18 : Value).ownBlock)) (n := y281.length) (c := co22) ?_).2.2; exact (by (with_reducible repeat (first | apply Kd.R_alloc | apply Kd.R_drewN | apply Kd.R_drew)); exact (rX HO283.out BK271.out))); rintro e w24 ⟨v286, v289, rfl, ho0, ho1, hb⟩; refine ⟨_, rfl, ?_⟩; have HO287 := aM (Kd.R_lower (Kd.R_new' (Kd.R_new' (Kd.R_new' ho0 (Kd.R_lt (by (with_reducible repeat (first | apply Kd.R_alloc | apply Kd.R_drewN | apply Kd.R_drew)); exact (rX HO276.out BK271.out)))) (Kd.R_lt (by (with_reducible repeat (first | apply Kd.R_alloc | apply Kd.R_drewN | apply Kd.R_drew)); exact (rX HO279.out BK271.out)))) (Kd.R_lt (by (with_reducible repeat (first | apply Kd.R_alloc | apply Kd.R_drewN | apply Kd.R_drew)); exact (rX HO283.out BK271.out)))) (below_size eB)); have HO290 := aM (Kd.R_lower (Kd.R_new' (Kd.R_new' (Kd.R_new' ho1 (Kd.R_lt (by (with_reducible repeat (first | apply Kd.R_alloc | apply Kd.R_drewN | apply Kd.R_drew)); exact (rX HO276.out BK271.out)))) (Kd.R_lt (by (with_reducible repeat (first | apply Kd.R_alloc | apply Kd.R_drewN | apply Kd.R_drew)); exact (rX HO279.out BK271.out)))) (Kd.R_lt (by (with_reducible repeat (first | apply Kd.R_alloc | apply Kd.R_drewN | apply Kd.R_drew)); exact (rX HO283.out BK271.out)))) (below_size eB)); replace HO276 := aM (Kd.R_mono (Kd.R_told (Kd.R_told (Kd.R_old (by (with_reducible repeat (first | apply Kd.R_alloc | apply Kd.R_drewN | apply Kd.R_drew)); exact (rX HO276.out BK271.out)) hb) (Kd.R_base ho0)) (Kd.R_base ho1)) (fun _ h_ => h_.1)); replace HO279 := aM (Kd.R_mono (Kd.R_told (Kd.R_told (Kd.R_old (by (with_reducible repeat (first | apply Kd.R_alloc | apply Kd.R_drewN | apply Kd.R_drew)); exact (rX HO279.out BK271.out)) hb) (Kd.R_base ho0)) (Kd.R_base ho1)) (fun _ h_ => h_.1)); replace HO283 := aM (Kd.R_mono (Kd.R_told (Kd.R_told (Kd.R_old (by (with_reducible repeat (first | apply Kd.R_alloc | apply Kd.R_drewN | apply Kd.R_drew)); exact (rX HO283.out BK271.out)) hb) (Kd.R_base ho0)) (Kd.R_base ho1)) (fun _ h_ => h_.1)); replace BK271 := aM (blk_below (g := gb271) (o := .cells #[.bool a0_0, .slice Ao15 t274.length co15, .slice Ao22 y281.length co22] 36 (0, 0)) (dP BK271.out) hb); replace BK272 := aM (blk_below (g := gb272) (o := .cells #[.bool false, .slice none 0 0, .slice none 0 0] 36 (0, 0)) (dQ1 BK272.out NB272_271.out) hb); replace BK273 := aM (blk_below (g := gb273) (o := .cells #[.bool false, .slice none 0 0, .slice none 0 0] 46 (0, 0)) (dQ1 BK273.out NB273_271.out) hb); replace HB := hS HB.out hb; (try clear hb); (try clear ho0); (try clear ho1)) | ((with_reducible refine gate_dst (N := 5) rfl ?_); refine bE 5 #[.bool false, .slice none 0 0, .slice none 0 0] 46 ?_; intro gb292 hg w25 hbox hb; replace HO276 := oB HO276.out hb; replace HO279 := oB HO279.out hb; replace HO283 := oB HO283.out hb; replace HO287 := oB HO287.out hb; replace HO290 := oB HO290.out hb; have BK292 := aM (hbox); have GE292 : Aside0 (w.heap.size ≤ gb292) := gE hg; replace HB := hS HB.out hb; have NB271_292 := nL hg BK271.out; have NB292_271 := nG hg BK271.out; replace BK271 := bB BK271.out hb; have NB272_292 := nL hg BK272.out; have NB292_272 := nG hg BK272.out; replace BK272 := bB BK272.out hb; have NB273_292 := nL hg BK273.out; have NB292_273 := nG hg BK273.out; replace BK273 := bB BK273.out hb; clear hb hbox hg; have hnb26 := NB292_271.out; have hnc26 := NB271_292.out; have hnb27 := NB292_272.out; have hnc27 := NB272_292.out; have hnb28 := NB292_273.out; have hnc28 := NB273_292.out; obtain ⟨hcz29_0, hcz29_1, hcz29_2⟩ := cz3 BK292.out; obtain ⟨hfz29_0, hfz29_1, hfz29_2⟩ := fz3 BK292.out; obtain ⟨Ao30, co30, rfl⟩ := Kd.R_slice HO287.out; obtain ⟨Ao31, co31, rfl⟩ := Kd.R_slice HO290.out))
  have n0_ : Aside0 (Kd.R (Kd.int .u64) 26 (((w25.setCell ⟨gb292, 0, none⟩ (.bool t284)).setCell ⟨gb292, 1, none⟩ (.slice Ao30 t285.length co30)).setCell ⟨gb292, 2, none⟩ (.slice Ao31 t288.length co31)) w.heap.size (fun k_ => some k_ ≠ (.slice Ao18 t277.length co18 : Value).ownBlock ∧ some k_ ≠ (.slice Ao22 y281.length co22 : Value).ownBlock ∧ some k_ ≠ (.slice Ao30 t285.length co30 : Value).ownBlock ∧ some k_ ≠ (.slice Ao31 t288.length co31 : Value).ownBlock) (.slice Ao15 t274.length co15) t274) := ⟨by (with_reducible repeat (first | apply Kd.R_alloc | apply Kd.R_drewN | apply Kd.R_drew)); exact Kd.R_mono (Kd.R_far (p := ⟨gb292, 2, none⟩) (Kd.R_far (p := ⟨gb292, 1, none⟩) (Kd.R_far (p := ⟨gb292, 0, none⟩) (Kd.R_types HO276.out BK292.out (by decide)) (fun _ hk => hk.2) (.bool t284)) (fun _ hk => hk.2) (.slice Ao30 t285.length co30)) (fun _ hk => hk.2) (.slice Ao31 t288.length co31)) (fun _ hk => ⟨hk.1.1.1.1.2, ⟨hk.1.1.1.2, ⟨hk.1.1.2, hk.1.2⟩⟩⟩)⟩
  have n1_ : Aside0 (Kd.R (Kd.int .u64) 26 (((w25.setCell ⟨gb292, 0, none⟩ (.bool t284)).setCell ⟨gb292, 1, none⟩ (.slice Ao30 t285.length co30)).setCell ⟨gb292, 2, none⟩ (.slice Ao31 t288.length co31)) w.heap.size (fun k_ => some k_ ≠ (.slice Ao15 t274.length co15 : Value).ownBlock ∧ some k_ ≠ (.slice Ao22 y281.length co22 : Value).ownBlock ∧ some k_ ≠ (.slice Ao30 t285.length co30 : Value).ownBlock ∧ some k_ ≠ (.slice Ao31 t288.length co31 : Value).ownBlock) (.slice Ao18 t277.length co18) t277) := ⟨by (with_reducible repeat (first | apply Kd.R_alloc | apply Kd.R_drewN | apply Kd.R_drew)); exact Kd.R_mono (Kd.R_far (p := ⟨gb292, 2, none⟩) (Kd.R_far (p := ⟨gb292, 1, none⟩) (Kd.R_far (p := ⟨gb292, 0, none⟩) (Kd.R_types HO279.out BK292.out (by decide)) (fun _ hk => hk.2) (.bool t284)) (fun _ hk => hk.2) (.slice Ao30 t285.length co30)) (fun _ hk => hk.2) (.slice Ao31 t288.length co31)) (fun _ hk => ⟨hk.1.1.1.1.2, ⟨hk.1.1.1.2, ⟨hk.1.1.2, hk.1.2⟩⟩⟩)⟩
  have n2_ : Aside0 (Kd.R (Kd.int .u64) 26 (((w25.setCell ⟨gb292, 0, none⟩ (.bool t284)).setCell ⟨gb292, 1, none⟩ (.slice Ao30 t285.length co30)).setCell ⟨gb292, 2, none⟩ (.slice Ao31 t288.length co31)) w.heap.size (fun k_ => some k_ ≠ (.slice Ao15 t274.length co15 : Value).ownBlock ∧ some k_ ≠ (.slice Ao18 t277.length co18 : Value).ownBlock ∧ some k_ ≠ (.slice Ao30 t285.length co30 : Value).ownBlock ∧ some k_ ≠ (.slice Ao31 t288.length co31 : Value).ownBlock) (.slice Ao22 y281.length co22) y281) := ⟨by (with_reducible repeat (first | apply Kd.R_alloc | apply Kd.R_drewN | apply Kd.R_drew)); exact Kd.R_mono (Kd.R_far (p := ⟨gb292, 2, none⟩) (Kd.R_far (p := ⟨gb292, 1, none⟩) (Kd.R_far (p := ⟨gb292, 0, none⟩) (Kd.R_types HO283.out BK292.out (by decide)) (fun _ hk => hk.2) (.bool t284)) (fun _ hk => hk.2) (.slice Ao30 t285.length co30)) (fun _ hk => hk.2) (.slice Ao31 t288.length co31)) (fun _ hk => ⟨hk.1.1.1.1.2, ⟨hk.1.1.1.2, ⟨hk.1.1.2, hk.1.2⟩⟩⟩)⟩
  have n3_ : Aside0 (Kd.R (Kd.int .u64) 26 (((w25.setCell ⟨gb292, 0, none⟩ (.bool t284)).setCell ⟨gb292, 1, none⟩ (.slice Ao30 t285.length co30)).setCell ⟨gb292, 2, none⟩ (.slice Ao31 t288.length co31)) w.heap.size (fun k_ => some k_ ≠ (.slice Ao15 t274.length co15 : Value).ownBlock ∧ some k_ ≠ (.slice Ao18 t277.length co18 : Value).ownBlock ∧ some k_ ≠ (.slice Ao22 y281.length co22 : Value).ownBlock ∧ some k_ ≠ (.slice Ao31 t288.length co31 : Value).ownBlock) (.slice Ao30 t285.length co30) t285) := ⟨by (with_reducible repeat (first | apply Kd.R_alloc | apply Kd.R_drewN | apply Kd.R_drew)); exact Kd.R_mono (Kd.R_far (p := ⟨gb292, 2, none⟩) (Kd.R_far (p := ⟨gb292, 1, none⟩) (Kd.R_far (p := ⟨gb292, 0, none⟩) (Kd.R_types HO287.out BK292.out (by decide)) (fun _ hk => hk.2) (.bool t284)) (fun _ hk => hk.2) (.slice Ao30 t285.length co30)) (fun _ hk => hk.2) (.slice Ao31 t288.length co31)) (fun _ hk => ⟨hk.1.1.1.2, ⟨hk.1.1.2, ⟨hk.1.2, hk.1.1.1.1⟩⟩⟩)⟩
  have n4_ : Aside0 (Kd.R (Kd.int .u64) 26 (((w25.setCell ⟨gb292, 0, none⟩ (.bool t284)).setCell ⟨gb292, 1, none⟩ (.slice Ao30 t285.length co30)).setCell ⟨gb292, 2, none⟩ (.slice Ao31 t288.length co31)) w.heap.size (fun k_ => some k_ ≠ (.slice Ao15 t274.length co15 : Value).ownBlock ∧ some k_ ≠ (.slice Ao18 t277.length co18 : Value).ownBlock ∧ some k_ ≠ (.slice Ao22 y281.length co22 : Value).ownBlock ∧ some k_ ≠ (.slice Ao30 t285.length co30 : Value).ownBlock) (.slice Ao31 t288.length co31) t288) := ⟨by (with_reducible repeat (first | apply Kd.R_alloc | apply Kd.R_drewN | apply Kd.R_drew)); exact Kd.R_mono (Kd.R_far (p := ⟨gb292, 2, none⟩) (Kd.R_far (p := ⟨gb292, 1, none⟩) (Kd.R_far (p := ⟨gb292, 0, none⟩) (Kd.R_types HO290.out BK292.out (by decide)) (fun _ hk => hk.2) (.bool t284)) (fun _ hk => hk.2) (.slice Ao30 t285.length co30)) (fun _ hk => hk.2) (.slice Ao31 t288.length co31)) (fun _ hk => ⟨hk.1.1.1.2, ⟨hk.1.1.2, ⟨hk.1.2, hk.1.1.1.1⟩⟩⟩)⟩
  have n5_ : Aside0 ((((w25.setCell ⟨gb292, 0, none⟩ (.bool t284)).setCell ⟨gb292, 1, none⟩ (.slice Ao30 t285.length co30)).setCell ⟨gb292, 2, none⟩ (.slice Ao31 t288.length co31)).heap[gb271]? = some (.cells #[.bool a0_0, .slice Ao15 t274.length co15, .slice Ao22 y281.length co22] 36 (0, 0))) := ⟨dQ1 BK271.out NB271_292.out⟩
  have n6_ : Aside0 ((((w25.setCell ⟨gb292, 0, none⟩ (.bool t284)).setCell ⟨gb292, 1, none⟩ (.slice Ao30 t285.length co30)).setCell ⟨gb292, 2, none⟩ (.slice Ao31 t288.length co31)).heap[gb272]? = some (.cells #[.bool false, .slice none 0 0, .slice none 0 0] 36 (0, 0))) := ⟨dQ1 BK272.out NB272_292.out⟩
  have n7_ : Aside0 ((((w25.setCell ⟨gb292, 0, none⟩ (.bool t284)).setCell ⟨gb292, 1, none⟩ (.slice Ao30 t285.length co30)).setCell ⟨gb292, 2, none⟩ (.slice Ao31 t288.length co31)).heap[gb273]? = some (.cells #[.bool false, .slice none 0 0, .slice none 0 0] 46 (0, 0))) := ⟨dQ1 BK273.out NB273_292.out⟩
  have n8_ : Aside0 ((((w25.setCell ⟨gb292, 0, none⟩ (.bool t284)).setCell ⟨gb292, 1, none⟩ (.slice Ao30 t285.length co30)).setCell ⟨gb292, 2, none⟩ (.slice Ao31 t288.length co31)).heap[gb292]? = some (.cells #[.bool t284, .slice Ao30 t285.length co30, .slice Ao31 t288.length co31] 46 (0, 0))) := ⟨dP BK292.out⟩
  have n9_ : Aside0 (Below w.heap.size w (((w25.setCell ⟨gb292, 0, none⟩ (.bool t284)).setCell ⟨gb292, 1, none⟩ (.slice Ao30 t285.length co30)).setCell ⟨gb292, 2, none⟩ (.slice Ao31 t288.length co31))) := ⟨eB⟩
  (try clear HO276)
  (try clear HO279)
  (try clear HO283)
  (try clear HO287)
  (try clear HO290)
  (try clear BK271)
  (try clear BK272)
  (try clear BK273)
  (try clear BK292)
  (try clear HB)
  generalize (((w25.setCell ⟨gb292, 0, none⟩ (.bool t284)).setCell ⟨gb292, 1, none⟩ (.slice Ao30 t285.length co30)).setCell ⟨gb292, 2, none⟩ (.slice Ao31 t288.length co31)) = w32 at n0_ n1_ n2_ n3_ n4_ n5_ n6_ n7_ n8_ n9_ ⊢
  have HO276 := n0_
  have HO279 := n1_
  have HO283 := n2_
  have HO287 := n3_
  have HO290 := n4_
  have BK271 := n5_
  have BK272 := n6_
  have BK273 := n7_
  have BK292 := n8_
  have HB := n9_
  clear n0_ n1_ n2_ n3_ n4_ n5_ n6_ n7_ n8_ n9_
  replace HO276 := aM (Kd.R_drew HO276.out)
  replace HO279 := aM (Kd.R_drew HO279.out)
  replace HO283 := aM (Kd.R_drew HO283.out)
  replace HO287 := aM (Kd.R_drew HO287.out)
  replace HO290 := aM (Kd.R_drew HO290.out)
  replace BK271 := aM (blk_drew BK271.out)
  replace BK272 := aM (blk_drew BK272.out)
  replace BK273 := aM (blk_drew BK273.out)
  replace BK292 := aM (blk_drew BK292.out)
  replace HB := aM (below_drew1 HB.out)
  refine start_ (n := 8) (S := fun w' => w'.cell? ⟨gb271, 0, none⟩ = some (.bool a0_0) ∧ w'.cell? ⟨gb271, 1, none⟩ = some (.slice Ao15 t274.length co15) ∧ w'.cell? ⟨gb271, 2, none⟩ = some (.slice Ao22 y281.length co22) ∧ w'.cell? ⟨gb292, 0, none⟩ = some (.bool t284) ∧ w'.cell? ⟨gb292, 1, none⟩ = some (.slice Ao30 t285.length co30) ∧ w'.cell? ⟨gb292, 2, none⟩ = some (.slice Ao31 t288.length co31)) (ds := []) #[false, false, false, false, false, false, false, false] (by kernel_rfl) rfl rfl ⟨(blk_cell BK271.out 0).trans rfl, (blk_cell BK271.out 1).trans rfl, (blk_cell BK271.out 2).trans rfl, (blk_cell BK292.out 0).trans rfl, (blk_cell BK292.out 1).trans rfl, (blk_cell BK292.out 2).trans rfl⟩ (fun hHeld => ?_); refine with_tabW plumblaw07_exact.tab6 plumblaw07_exact.bits6 (fun HT_ HW_ => ?_)
  generalize w32.drew = w33 at HO276 HO279 HO283 HO287 HO290 BK271 BK272 BK273 BK292 HB hHeld ⊢
  refine pP 2 (some 33) ?_
  refine pH6 0 (some 31) hHeld ?_
  refine pH6 1 (some 32) hHeld ?_
  refine one_ (i := 3) (N := some 34) #[true, true, true, true, false, false, false, false] rfl rfl (one_of HT_.out (by kernel_rfl)) (by decide) (fun K hK => ?_)
  refine goes_ Tryd.func15 (by kernel_rfl) rfl #[.int .i64 t291] (by rfl) rfl rfl dA ?_
  with_reducible refine (plumblaw07_num.calls t291 t293 _ A7.out).mono ?_
  rintro e w' ⟨rfl, ⟨nd, rfl⟩⟩
  refine ⟨_, rfl, ?_⟩
  refine hK.out _ _ ⟨(blk_cell BK271.out 0).trans rfl, (blk_cell BK271.out 1).trans rfl, (blk_cell BK271.out 2).trans rfl, (blk_cell BK292.out 0).trans rfl, (blk_cell BK292.out 1).trans rfl, (blk_cell BK292.out 2).trans rfl⟩ (fun hHeld => ?_)
  clear hK K
  refine norm_ (a' := ?_) ?_ ?_
  rotate_left
  ·show Act.put _ (some 34) _ = _
   simp only [Act.put, List.setIfInBounds_toArray, List.set_cons_zero, List.set_cons_succ, i64_w, i32_w]
   rfl
  refine pP 4 (some 35) ?_
  refine one_ (i := 5) (N := none) #[true, true, true, true, true, true, false, false] rfl rfl (one_of HT_.out (by kernel_rfl)) (by decide) (fun K hK => ?_)
  have hs34 : w33.cell? ⟨gb272, 0, none⟩ = some (.bool false) := (blk_cell BK272.out 0).trans rfl
  have hfs34 := blk_frozen BK272.out 0
  have hns34_0 := NB271_272.out
  have hns34_2 := NB273_272.out
  have hns34_3 := NB292_272.out
  have hms34_0 := NB272_271.out
  have hms34_2 := NB272_273.out
  have hms34_3 := NB272_292.out
  have hs35 : w33.cell? ⟨gb272, 1, none⟩ = some (.slice none 0 0) := (blk_cell BK272.out 1).trans rfl
  have hfs35 := blk_frozen BK272.out 1
  have hns35_0 := NB271_272.out
  have hns35_2 := NB273_272.out
  have hns35_3 := NB292_272.out
  have hms35_0 := NB272_271.out
  have hms35_2 := NB272_273.out
  have hms35_3 := NB272_292.out
  have hs36 : w33.cell? ⟨gb272, 2, none⟩ = some (.slice none 0 0) := (blk_cell BK272.out 2).trans rfl
  have hfs36 := blk_frozen BK272.out 2
  have hns36_0 := NB271_272.out
  have hns36_2 := NB273_272.out
  have hns36_3 := NB292_272.out
  have hms36_0 := NB272_271.out
  have hms36_2 := NB272_273.out
  have hms36_3 := NB272_292.out
  refine skip_ (w1 := ?_) (by rfl) rfl ?_ ?_
  rotate_left
  ·go_simp
   rfl
  refine hK.out _ _ ⟨((cell_far (p := ⟨gb272, _, none⟩) NB271_272.out _).trans (((cell_far (p := ⟨gb272, _, none⟩) NB271_272.out _).trans (((cell_far (p := ⟨gb272, _, none⟩) NB271_272.out _).trans (hHeld.1)))))), ((cell_far (p := ⟨gb272, _, none⟩) NB271_272.out _).trans (((cell_far (p := ⟨gb272, _, none⟩) NB271_272.out _).trans (((cell_far (p := ⟨gb272, _, none⟩) NB271_272.out _).trans (hHeld.2.1)))))), ((cell_far (p := ⟨gb272, _, none⟩) NB271_272.out _).trans (((cell_far (p := ⟨gb272, _, none⟩) NB271_272.out _).trans (((cell_far (p := ⟨gb272, _, none⟩) NB271_272.out _).trans (hHeld.2.2.1)))))), ((cell_far (p := ⟨gb272, _, none⟩) NB292_272.out _).trans (((cell_far (p := ⟨gb272, _, none⟩) NB292_272.out _).trans (((cell_far (p := ⟨gb272, _, none⟩) NB292_272.out _).trans (hHeld.2.2.2.1)))))), ((cell_far (p := ⟨gb272, _, none⟩) NB292_272.out _).trans (((cell_far (p := ⟨gb272, _, none⟩) NB292_272.out _).trans (((cell_far (p := ⟨gb272, _, none⟩) NB292_272.out _).trans (hHeld.2.2.2.2.1)))))), ((cell_far (p := ⟨gb272, _, none⟩) NB292_272.out _).trans (((cell_far (p := ⟨gb272, _, none⟩) NB292_272.out _).trans (((cell_far (p := ⟨gb272, _, none⟩) NB292_272.out _).trans (hHeld.2.2.2.2.2))))))⟩ (fun hHeld => ?_)
  clear hK K
  refine one_ (i := 6) (N := none) #[true, true, true, true, true, true, true, false] rfl rfl (one_of HT_.out (by kernel_rfl)) (by decide) (fun K hK => ?_)
  have hs37 : w33.cell? ⟨gb273, 0, none⟩ = some (.bool false) := (blk_cell BK273.out 0).trans rfl
  have hfs37 := blk_frozen BK273.out 0
  have hns37_0 := NB271_273.out
  have hns37_1 := NB272_273.out
  have hns37_3 := NB292_273.out
  have hms37_0 := NB273_271.out
  have hms37_1 := NB273_272.out
  have hms37_3 := NB273_292.out
  have hs38 : w33.cell? ⟨gb273, 1, none⟩ = some (.slice none 0 0) := (blk_cell BK273.out 1).trans rfl
  have hfs38 := blk_frozen BK273.out 1
  have hns38_0 := NB271_273.out
  have hns38_1 := NB272_273.out
  have hns38_3 := NB292_273.out
  have hms38_0 := NB273_271.out
  have hms38_1 := NB273_272.out
  have hms38_3 := NB273_292.out
  have hs39 : w33.cell? ⟨gb273, 2, none⟩ = some (.slice none 0 0) := (blk_cell BK273.out 2).trans rfl
  have hfs39 := blk_frozen BK273.out 2
  have hns39_0 := NB271_273.out
  have hns39_1 := NB272_273.out
  have hns39_3 := NB292_273.out
  have hms39_0 := NB273_271.out
  have hms39_1 := NB273_272.out
  have hms39_3 := NB273_292.out
  refine skip_ (w1 := ?_) (by rfl) rfl ?_ ?_
  rotate_left
  ·go_simp
   rfl
  refine hK.out _ _ ⟨((cell_far (p := ⟨gb273, _, none⟩) NB271_273.out _).trans (((cell_far (p := ⟨gb273, _, none⟩) NB271_273.out _).trans (((cell_far (p := ⟨gb273, _, none⟩) NB271_273.out _).trans (hHeld.1)))))), ((cell_far (p := ⟨gb273, _, none⟩) NB271_273.out _).trans (((cell_far (p := ⟨gb273, _, none⟩) NB271_273.out _).trans (((cell_far (p := ⟨gb273, _, none⟩) NB271_273.out _).trans (hHeld.2.1)))))), ((cell_far (p := ⟨gb273, _, none⟩) NB271_273.out _).trans (((cell_far (p := ⟨gb273, _, none⟩) NB271_273.out _).trans (((cell_far (p := ⟨gb273, _, none⟩) NB271_273.out _).trans (hHeld.2.2.1)))))), ((cell_far (p := ⟨gb273, _, none⟩) NB292_273.out _).trans (((cell_far (p := ⟨gb273, _, none⟩) NB292_273.out _).trans (((cell_far (p := ⟨gb273, _, none⟩) NB292_273.out _).trans (hHeld.2.2.2.1)))))), ((cell_far (p := ⟨gb273, _, none⟩) NB292_273.out _).trans (((cell_far (p := ⟨gb273, _, none⟩) NB292_273.out _).trans (((cell_far (p := ⟨gb273, _, none⟩) NB292_273.out _).trans (hHeld.2.2.2.2.1)))))), ((cell_far (p := ⟨gb273, _, none⟩) NB292_273.out _).trans (((cell_far (p := ⟨gb273, _, none⟩) NB292_273.out _).trans (((cell_far (p := ⟨gb273, _, none⟩) NB292_273.out _).trans (hHeld.2.2.2.2.2))))))⟩ (fun hHeld => ?_)
  clear hK K
  refine pP 7 (some 4) ?_
  refine done_ (done_of HT_.out (by kernel_rfl)) ?_
  try go_wp2
  refine bodyPost_ret (results_list (rs := [.cell 2 36, .cell 3 46, .tmp 4]) rfl (by simp) (.cell gb272 36 #[.bool a0_0, .slice Ao15 t274.length co15, .slice Ao22 y281.length co22] (0, 0) _ rfl (dQ1 BK272.out NB272_273.out) Tryd.underlying36 rfl (by kernel_rfl) (.cell gb273 46 #[.bool t284, .slice Ao30 t285.length co30, .slice Ao31 t288.length co31] (0, 0) _ rfl (dQ1 BK273.out NB273_272.out) Tryd.underlying46 rfl (by kernel_rfl) (.tmp .nil)))) rfl ?_
  exact ⟨_, _, _, _, dE, by (with_reducible repeat (first | apply Kd.R_alloc | apply Kd.R_drewN | apply Kd.R_drew)); exact Kd.R_mono (Kd.R_far (p := ⟨gb273, 2, none⟩) (Kd.R_far (p := ⟨gb273, 1, none⟩) (Kd.R_far (p := ⟨gb273, 0, none⟩) (Kd.R_far (p := ⟨gb272, 2, none⟩) (Kd.R_far (p := ⟨gb272, 1, none⟩) (Kd.R_far (p := ⟨gb272, 0, none⟩) (Kd.R_types (Kd.R_types HO276.out BK272.out (by decide)) BK273.out (by decide)) (fun _ hk => hk.1.2) (.bool a0_0)) (fun _ hk => hk.1.2) (.slice Ao15 t274.length co15)) (fun _ hk => hk.1.2) (.slice Ao22 y281.length co22)) (fun _ hk => hk.2) (.bool t284)) (fun _ hk => hk.2) (.slice Ao30 t285.length co30)) (fun _ hk => hk.2) (.slice Ao31 t288.length co31)) (fun _ hk => ⟨hk.1.1.2.1, ⟨hk.1.1.2.2.1, hk.1.1.2.2.2⟩⟩), by (with_reducible repeat (first | apply Kd.R_alloc | apply Kd.R_drewN | apply Kd.R_drew)); exact Kd.R_mono (Kd.R_far (p := ⟨gb273, 2, none⟩) (Kd.R_far (p := ⟨gb273, 1, none⟩) (Kd.R_far (p := ⟨gb273, 0, none⟩) (Kd.R_far (p := ⟨gb272, 2, none⟩) (Kd.R_far (p := ⟨gb272, 1, none⟩) (Kd.R_far (p := ⟨gb272, 0, none⟩) (Kd.R_types (Kd.R_types HO283.out BK272.out (by decide)) BK273.out (by decide)) (fun _ hk => hk.1.2) (.bool a0_0)) (fun _ hk => hk.1.2) (.slice Ao15 t274.length co15)) (fun _ hk => hk.1.2) (.slice Ao22 y281.length co22)) (fun _ hk => hk.2) (.bool t284)) (fun _ hk => hk.2) (.slice Ao30 t285.length co30)) (fun _ hk => hk.2) (.slice Ao31 t288.length co31)) (fun _ hk => ⟨hk.1.1.1, ⟨hk.1.1.2.2.1, hk.1.1.2.2.2⟩⟩), by (with_reducible repeat (first | apply Kd.R_alloc | apply Kd.R_drewN | apply Kd.R_drew)); exact Kd.R_mono (Kd.R_far (p := ⟨gb273, 2, none⟩) (Kd.R_far (p := ⟨gb273, 1, none⟩) (Kd.R_far (p := ⟨gb273, 0, none⟩) (Kd.R_far (p := ⟨gb272, 2, none⟩) (Kd.R_far (p := ⟨gb272, 1, none⟩) (Kd.R_far (p := ⟨gb272, 0, none⟩) (Kd.R_types (Kd.R_types HO287.out BK272.out (by decide)) BK273.out (by decide)) (fun _ hk => hk.1.2) (.bool a0_0)) (fun _ hk => hk.1.2) (.slice Ao15 t274.length co15)) (fun _ hk => hk.1.2) (.slice Ao22 y281.length co22)) (fun _ hk => hk.2) (.bool t284)) (fun _ hk => hk.2) (.slice Ao30 t285.length co30)) (fun _ hk => hk.2) (.slice Ao31 t288.length co31)) (fun _ hk => ⟨hk.1.1.1, ⟨hk.1.1.2.2.1, hk.1.1.2.2.2⟩⟩), by (with_reducible repeat (first | apply Kd.R_alloc | apply Kd.R_drewN | apply Kd.R_drew)); exact Kd.R_mono (Kd.R_far (p := ⟨gb273, 2, none⟩) (Kd.R_far (p := ⟨gb273, 1, none⟩) (Kd.R_far (p := ⟨gb273, 0, none⟩) (Kd.R_far (p := ⟨gb272, 2, none⟩) (Kd.R_far (p := ⟨gb272, 1, none⟩) (Kd.R_far (p := ⟨gb272, 0, none⟩) (Kd.R_types (Kd.R_types HO290.out BK272.out (by decide)) BK273.out (by decide)) (fun _ hk => hk.1.2) (.bool a0_0)) (fun _ hk => hk.1.2) (.slice Ao15 t274.length co15)) (fun _ hk => hk.1.2) (.slice Ao22 y281.length co22)) (fun _ hk => hk.2) (.bool t284)) (fun _ hk => hk.2) (.slice Ao30 t285.length co30)) (fun _ hk => hk.2) (.slice Ao31 t288.length co31)) (fun _ hk => ⟨hk.1.1.1, ⟨hk.1.1.2.2.1, hk.1.1.2.2.2⟩⟩), eB⟩
 ·rw [if_neg c5] at H
  have c5b0 : (t280 == 0) = false := beq_eq_false_iff_ne.mpr c5
  have c5b1 : (t280 != 0) = true := bne_iff_ne.mpr c5
  replace H := obe H
  obtain ⟨⟨t294, t295, t298, t301⟩, A400, H⟩ := H
  (try dsimp only at H)
  have A40 := aM A400
  clear A400
  replace H := obe H
  obtain ⟨t303, A410, H⟩ := H
  (try dsimp only at H)
  have A41 := aM A410
  clear A410
  simp only [Option.some.injEq, Prod.mk.injEq] at H
  obtain ⟨rfl, rfl, rfl, rfl, rfl, rfl, rfl⟩ := H
  go_enter Tryd.func23, Tryd.ntmps23
  try go_wp2_with (first | ((with_reducible refine gate_dst (N := 1) rfl ?_); refine bE 1 #[.bool a0_0, .slice A0_1 l0_1.length c0_1, .slice A0_2 l0_2.length c0_2] 36 ?_; intro gb271 hg w42 hbox hb; have BK271 := aM (hbox); have GE271 : Aside0 (w.heap.size ≤ gb271) := gE hg; replace HB := hS HB.out hb; clear hb hbox hg) | ((with_reducible refine gate_dst (N := 2) rfl ?_); refine bE 2 #[.bool false, .slice none 0 0, .slice none 0 0] 36 ?_; intro gb272 hg w43 hbox hb; have BK272 := aM (hbox); have GE272 : Aside0 (w.heap.size ≤ gb272) := gE hg; replace HB := hS HB.out hb; have NB271_272 := nL hg BK271.out; have NB272_271 := nG hg BK271.out; replace BK271 := bB BK271.out hb; clear hb hbox hg) | ((with_reducible refine gate_dst (N := 3) rfl ?_); refine bE 3 #[.bool false, .slice none 0 0, .slice none 0 0] 46 ?_; intro gb273 hg w44 hbox hb; have BK273 := aM (hbox); have GE273 : Aside0 (w.heap.size ≤ gb273) := gE hg; replace HB := hS HB.out hb; have NB271_273 := nL hg BK271.out; have NB273_271 := nG hg BK271.out; replace BK271 := bB BK271.out hb; have NB272_273 := nL hg BK272.out; have NB273_272 := nG hg BK272.out; replace BK272 := bB BK272.out hb; clear hb hbox hg; have hnb45 := NB271_272.out; have hnc45 := NB272_271.out; have hnb46 := NB271_273.out; have hnc46 := NB273_271.out; obtain ⟨hcz47_0, hcz47_1, hcz47_2⟩ := cz3 BK271.out; obtain ⟨hfz47_0, hfz47_1, hfz47_2⟩ := fz3 BK271.out) | ((with_reducible refine gate_callee (f := 20) rfl ?_); refine gL (some 9) Tryd.func20 #[.slice A0_1 l0_1.length c0_1, .int .i64 60] ?_; (with_reducible refine (plumblaw07_bounded.calls k _ _ l0_1 60 t274 _ ?side1 HC0_1.out A2.out).mono ?_); (case side1 => exact dC (Kd.C_below HR0_1.out HB.out)); rintro e w48 ⟨v275, rfl, ho0, hb⟩; refine ⟨_, rfl, ?_⟩; have HO276 := aM (Kd.R_lower ho0 (below_size eB)); replace BK271 := bB BK271.out hb; replace BK272 := bB BK272.out hb; replace BK273 := bB BK273.out hb; replace HB := hS HB.out hb; (try clear hb); (try clear ho0); obtain ⟨Ao49, co49, rfl⟩ := Kd.R_slice HO276.out; obtain ⟨hcz50_0, hcz50_1, hcz50_2⟩ := cz3 BK271.out; obtain ⟨hfz50_0, hfz50_1, hfz50_2⟩ := fz3 BK271.out) | ((with_reducible refine gate_callee (f := 20) rfl ?_); refine gL (some 13) Tryd.func20 #[.slice A0_2 l0_2.length c0_2, .int .i64 60] ?_; (with_reducible refine (plumblaw07_bounded.calls k _ _ l0_2 60 t277 _ ?side1 HC0_2.out A3.out).mono ?_); (case side1 => exact Kd.C_below HR0_2.out eB); rintro e w51 ⟨v278, rfl, ho0, hb⟩; refine ⟨_, rfl, ?_⟩; have HO279 := aM (Kd.R_lower (Kd.R_new' ho0 (Kd.R_lt (by (with_reducible repeat (first | apply Kd.R_alloc | apply Kd.R_drewN | apply Kd.R_drew)); exact (rX HO276.out BK271.out)))) (below_size eB)); replace HO276 := aM (Kd.R_elder' (by (with_reducible repeat (first | apply Kd.R_alloc | apply Kd.R_drewN | apply Kd.R_drew)); exact (rX HO276.out BK271.out)) (Kd.R_base ho0) hb); replace BK271 := aM (blk_below (g := gb271) (o := .cells #[.bool a0_0, .slice Ao49 t274.length co49, .slice A0_2 l0_2.length c0_2] 36 (0, 0)) (dP BK271.out) hb); replace BK272 := aM (blk_below (g := gb272) (o := .cells #[.bool false, .slice none 0 0, .slice none 0 0] 36 (0, 0)) (dQ1 BK272.out NB272_271.out) hb); replace BK273 := aM (blk_below (g := gb273) (o := .cells #[.bool false, .slice none 0 0, .slice none 0 0] 46 (0, 0)) (dQ1 BK273.out NB273_271.out) hb); replace HB := hS HB.out hb; (try clear hb); (try clear ho0); obtain ⟨Ao52, co52, rfl⟩ := Kd.R_slice HO279.out; obtain ⟨hcz53_0, hcz53_1, hcz53_2⟩ := cz3 BK271.out; obtain ⟨hfz53_0, hfz53_1, hfz53_2⟩ := fz3 BK271.out) | ((with_reducible refine gate_callee (f := 58) rfl ?_); refine gL (some 17) Tryd.func58 #[.slice Ao52 t277.length co52, .slice none 0 0] ?_; (refine (nat_Cmp.calls k _ _ t277 _ _ ([] : List Int) t280 _ ?side1 (Kd.R_reads' HO279.out).2.1 ?side3 ?side4 A4.out).mono ?_); (case side1 => refine (Kd.R_reads' (e := 26) (base := w.heap.size) (ok := fun k_ => (True ∧ some k_ ≠ (.slice Ao49 t274.length co49 : Value).ownBlock)) (n := t277.length) (c := co52) ?_).2.2; exact (by (with_reducible repeat (first | apply Kd.R_alloc | apply Kd.R_drewN | apply Kd.R_drew)); exact (rX HO279.out BK271.out))); (case side3 => exact Kd.C_nil _ _); (case side4 => exact Nat.le_refl _); rintro e w' ⟨rfl, ⟨nd, rfl⟩⟩; refine ⟨_, rfl, ?_⟩) | ((with_reducible refine gate_callee (f := 59) rfl ?_); refine gL (some 28) Tryd.func59 #[.bool a0_0, .slice Ao49 t274.length co49, .slice Ao52 t277.length co52] ?_; (with_reducible refine (rat_New.calls k a0_0 _ _ t274 _ _ t277 t294 t295 t298 t301 _ ?side1 (Kd.R_reads' HO276.out).2.1 ?side3 (Kd.R_reads' HO279.out).2.1 A40.out).mono ?_); (case side1 => refine (Kd.R_reads' (e := 26) (base := w.heap.size) (ok := fun k_ => (True ∧ some k_ ≠ (.slice Ao52 t277.length co52 : Value).ownBlock)) (n := t274.length) (c := co49) ?_).2.2; exact (by (with_reducible repeat (first | apply Kd.R_alloc | apply Kd.R_drewN | apply Kd.R_drew)); exact (rX HO276.out BK271.out))); (case side3 => refine (Kd.R_reads' (e := 26) (base := w.heap.size) (ok := fun k_ => (True ∧ some k_ ≠ (.slice Ao49 t274.length co49 : Value).ownBlock)) (n := t277.length) (c := co52) ?_).2.2; exact (by (with_reducible repeat (first | apply Kd.R_alloc | apply Kd.R_drewN | apply Kd.R_drew)); exact (rX HO279.out BK271.out))); rintro e w54 ⟨v296, v299, rfl, ho0, ho1, hb⟩; refine ⟨_, rfl, ?_⟩; have HO297 := aM (Kd.R_lower (Kd.R_new' (Kd.R_new' ho0 (Kd.R_lt (by (with_reducible repeat (first | apply Kd.R_alloc | apply Kd.R_drewN | apply Kd.R_drew)); exact (rX HO276.out BK271.out)))) (Kd.R_lt (by (with_reducible repeat (first | apply Kd.R_alloc | apply Kd.R_drewN | apply Kd.R_drew)); exact (rX HO279.out BK271.out)))) (below_size eB)); have HO300 := aM (Kd.R_lower (Kd.R_new' (Kd.R_new' ho1 (Kd.R_lt (by (with_reducible repeat (first | apply Kd.R_alloc | apply Kd.R_drewN | apply Kd.R_drew)); exact (rX HO276.out BK271.out)))) (Kd.R_lt (by (with_reducible repeat (first | apply Kd.R_alloc | apply Kd.R_drewN | apply Kd.R_drew)); exact (rX HO279.out BK271.out)))) (below_size eB)); replace HO276 := aM (Kd.R_mono (Kd.R_told (Kd.R_told (Kd.R_old (by (with_reducible repeat (first | apply Kd.R_alloc | apply Kd.R_drewN | apply Kd.R_drew)); exact (rX HO276.out BK271.out)) hb) (Kd.R_base ho0)) (Kd.R_base ho1)) (fun _ h_ => h_.1)); replace HO279 := aM (Kd.R_mono (Kd.R_told (Kd.R_told (Kd.R_old (by (with_reducible repeat (first | apply Kd.R_alloc | apply Kd.R_drewN | apply Kd.R_drew)); exact (rX HO279.out BK271.out)) hb) (Kd.R_base ho0)) (Kd.R_base ho1)) (fun _ h_ => h_.1)); replace BK271 := aM (blk_below (g := gb271) (o := .cells #[.bool a0_0, .slice Ao49 t274.length co49, .slice Ao52 t277.length co52] 36 (0, 0)) (dP BK271.out) hb); replace BK272 := aM (blk_below (g := gb272) (o := .cells #[.bool false, .slice none 0 0, .slice none 0 0] 36 (0, 0)) (dQ1 BK272.out NB272_271.out) hb); replace BK273 := aM (blk_below (g := gb273) (o := .cells #[.bool false, .slice none 0 0, .slice none 0 0] 46 (0, 0)) (dQ1 BK273.out NB273_271.out) hb); replace HB := hS HB.out hb; (try clear hb); (try clear ho0); (try clear ho1)) | ((with_reducible refine gate_dst (N := 5) rfl ?_); refine bE 5 #[.bool false, .slice none 0 0, .slice none 0 0] 46 ?_; intro gb302 hg w55 hbox hb; replace HO276 := oB HO276.out hb; replace HO279 := oB HO279.out hb; replace HO297 := oB HO297.out hb; replace HO300 := oB HO300.out hb; have BK302 := aM (hbox); have GE302 : Aside0 (w.heap.size ≤ gb302) := gE hg; replace HB := hS HB.out hb; have NB271_302 := nL hg BK271.out; have NB302_271 := nG hg BK271.out; replace BK271 := bB BK271.out hb; have NB272_302 := nL hg BK272.out; have NB302_272 := nG hg BK272.out; replace BK272 := bB BK272.out hb; have NB273_302 := nL hg BK273.out; have NB302_273 := nG hg BK273.out; replace BK273 := bB BK273.out hb; clear hb hbox hg; have hnb56 := NB302_271.out; have hnc56 := NB271_302.out; have hnb57 := NB302_272.out; have hnc57 := NB272_302.out; have hnb58 := NB302_273.out; have hnc58 := NB273_302.out; obtain ⟨hcz59_0, hcz59_1, hcz59_2⟩ := cz3 BK302.out; obtain ⟨hfz59_0, hfz59_1, hfz59_2⟩ := fz3 BK302.out; obtain ⟨Ao60, co60, rfl⟩ := Kd.R_slice HO297.out; obtain ⟨Ao61, co61, rfl⟩ := Kd.R_slice HO300.out))
  have n0_ : Aside0 (Kd.R (Kd.int .u64) 26 (((w55.setCell ⟨gb302, 0, none⟩ (.bool t294)).setCell ⟨gb302, 1, none⟩ (.slice Ao60 t295.length co60)).setCell ⟨gb302, 2, none⟩ (.slice Ao61 t298.length co61)) w.heap.size (fun k_ => some k_ ≠ (.slice Ao52 t277.length co52 : Value).ownBlock ∧ some k_ ≠ (.slice Ao60 t295.length co60 : Value).ownBlock ∧ some k_ ≠ (.slice Ao61 t298.length co61 : Value).ownBlock) (.slice Ao49 t274.length co49) t274) := ⟨by (with_reducible repeat (first | apply Kd.R_alloc | apply Kd.R_drewN | apply Kd.R_drew)); exact Kd.R_mono (Kd.R_far (p := ⟨gb302, 2, none⟩) (Kd.R_far (p := ⟨gb302, 1, none⟩) (Kd.R_far (p := ⟨gb302, 0, none⟩) (Kd.R_types HO276.out BK302.out (by decide)) (fun _ hk => hk.2) (.bool t294)) (fun _ hk => hk.2) (.slice Ao60 t295.length co60)) (fun _ hk => hk.2) (.slice Ao61 t298.length co61)) (fun _ hk => ⟨hk.1.1.1.2, ⟨hk.1.1.2, hk.1.2⟩⟩)⟩
  have n1_ : Aside0 (Kd.R (Kd.int .u64) 26 (((w55.setCell ⟨gb302, 0, none⟩ (.bool t294)).setCell ⟨gb302, 1, none⟩ (.slice Ao60 t295.length co60)).setCell ⟨gb302, 2, none⟩ (.slice Ao61 t298.length co61)) w.heap.size (fun k_ => some k_ ≠ (.slice Ao49 t274.length co49 : Value).ownBlock ∧ some k_ ≠ (.slice Ao60 t295.length co60 : Value).ownBlock ∧ some k_ ≠ (.slice Ao61 t298.length co61 : Value).ownBlock) (.slice Ao52 t277.length co52) t277) := ⟨by (with_reducible repeat (first | apply Kd.R_alloc | apply Kd.R_drewN | apply Kd.R_drew)); exact Kd.R_mono (Kd.R_far (p := ⟨gb302, 2, none⟩) (Kd.R_far (p := ⟨gb302, 1, none⟩) (Kd.R_far (p := ⟨gb302, 0, none⟩) (Kd.R_types HO279.out BK302.out (by decide)) (fun _ hk => hk.2) (.bool t294)) (fun _ hk => hk.2) (.slice Ao60 t295.length co60)) (fun _ hk => hk.2) (.slice Ao61 t298.length co61)) (fun _ hk => ⟨hk.1.1.1.2, ⟨hk.1.1.2, hk.1.2⟩⟩)⟩
  have n2_ : Aside0 (Kd.R (Kd.int .u64) 26 (((w55.setCell ⟨gb302, 0, none⟩ (.bool t294)).setCell ⟨gb302, 1, none⟩ (.slice Ao60 t295.length co60)).setCell ⟨gb302, 2, none⟩ (.slice Ao61 t298.length co61)) w.heap.size (fun k_ => some k_ ≠ (.slice Ao49 t274.length co49 : Value).ownBlock ∧ some k_ ≠ (.slice Ao52 t277.length co52 : Value).ownBlock ∧ some k_ ≠ (.slice Ao61 t298.length co61 : Value).ownBlock) (.slice Ao60 t295.length co60) t295) := ⟨by (with_reducible repeat (first | apply Kd.R_alloc | apply Kd.R_drewN | apply Kd.R_drew)); exact Kd.R_mono (Kd.R_far (p := ⟨gb302, 2, none⟩) (Kd.R_far (p := ⟨gb302, 1, none⟩) (Kd.R_far (p := ⟨gb302, 0, none⟩) (Kd.R_types HO297.out BK302.out (by decide)) (fun _ hk => hk.2) (.bool t294)) (fun _ hk => hk.2) (.slice Ao60 t295.length co60)) (fun _ hk => hk.2) (.slice Ao61 t298.length co61)) (fun _ hk => ⟨hk.1.1.2, ⟨hk.1.2, hk.1.1.1⟩⟩)⟩
  have n3_ : Aside0 (Kd.R (Kd.int .u64) 26 (((w55.setCell ⟨gb302, 0, none⟩ (.bool t294)).setCell ⟨gb302, 1, none⟩ (.slice Ao60 t295.length co60)).setCell ⟨gb302, 2, none⟩ (.slice Ao61 t298.length co61)) w.heap.size (fun k_ => some k_ ≠ (.slice Ao49 t274.length co49 : Value).ownBlock ∧ some k_ ≠ (.slice Ao52 t277.length co52 : Value).ownBlock ∧ some k_ ≠ (.slice Ao60 t295.length co60 : Value).ownBlock) (.slice Ao61 t298.length co61) t298) := ⟨by (with_reducible repeat (first | apply Kd.R_alloc | apply Kd.R_drewN | apply Kd.R_drew)); exact Kd.R_mono (Kd.R_far (p := ⟨gb302, 2, none⟩) (Kd.R_far (p := ⟨gb302, 1, none⟩) (Kd.R_far (p := ⟨gb302, 0, none⟩) (Kd.R_types HO300.out BK302.out (by decide)) (fun _ hk => hk.2) (.bool t294)) (fun _ hk => hk.2) (.slice Ao60 t295.length co60)) (fun _ hk => hk.2) (.slice Ao61 t298.length co61)) (fun _ hk => ⟨hk.1.1.2, ⟨hk.1.2, hk.1.1.1⟩⟩)⟩
  have n4_ : Aside0 ((((w55.setCell ⟨gb302, 0, none⟩ (.bool t294)).setCell ⟨gb302, 1, none⟩ (.slice Ao60 t295.length co60)).setCell ⟨gb302, 2, none⟩ (.slice Ao61 t298.length co61)).heap[gb271]? = some (.cells #[.bool a0_0, .slice Ao49 t274.length co49, .slice Ao52 t277.length co52] 36 (0, 0))) := ⟨dQ1 BK271.out NB271_302.out⟩
  have n5_ : Aside0 ((((w55.setCell ⟨gb302, 0, none⟩ (.bool t294)).setCell ⟨gb302, 1, none⟩ (.slice Ao60 t295.length co60)).setCell ⟨gb302, 2, none⟩ (.slice Ao61 t298.length co61)).heap[gb272]? = some (.cells #[.bool false, .slice none 0 0, .slice none 0 0] 36 (0, 0))) := ⟨dQ1 BK272.out NB272_302.out⟩
  have n6_ : Aside0 ((((w55.setCell ⟨gb302, 0, none⟩ (.bool t294)).setCell ⟨gb302, 1, none⟩ (.slice Ao60 t295.length co60)).setCell ⟨gb302, 2, none⟩ (.slice Ao61 t298.length co61)).heap[gb273]? = some (.cells #[.bool false, .slice none 0 0, .slice none 0 0] 46 (0, 0))) := ⟨dQ1 BK273.out NB273_302.out⟩
  have n7_ : Aside0 ((((w55.setCell ⟨gb302, 0, none⟩ (.bool t294)).setCell ⟨gb302, 1, none⟩ (.slice Ao60 t295.length co60)).setCell ⟨gb302, 2, none⟩ (.slice Ao61 t298.length co61)).heap[gb302]? = some (.cells #[.bool t294, .slice Ao60 t295.length co60, .slice Ao61 t298.length co61] 46 (0, 0))) := ⟨dP BK302.out⟩
  have n8_ : Aside0 (Below w.heap.size w (((w55.setCell ⟨gb302, 0, none⟩ (.bool t294)).setCell ⟨gb302, 1, none⟩ (.slice Ao60 t295.length co60)).setCell ⟨gb302, 2, none⟩ (.slice Ao61 t298.length co61))) := ⟨eB⟩
  (try clear HO276)
  (try clear HO279)
  (try clear HO297)
  (try clear HO300)
  (try clear BK271)
  (try clear BK272)
  (try clear BK273)
  (try clear BK302)
  (try clear HB)
  generalize (((w55.setCell ⟨gb302, 0, none⟩ (.bool t294)).setCell ⟨gb302, 1, none⟩ (.slice Ao60 t295.length co60)).setCell ⟨gb302, 2, none⟩ (.slice Ao61 t298.length co61)) = w62 at n0_ n1_ n2_ n3_ n4_ n5_ n6_ n7_ n8_ ⊢
  have HO276 := n0_
  have HO279 := n1_
  have HO297 := n2_
  have HO300 := n3_
  have BK271 := n4_
  have BK272 := n5_
  have BK273 := n6_
  have BK302 := n7_
  have HB := n8_
  clear n0_ n1_ n2_ n3_ n4_ n5_ n6_ n7_ n8_
  replace HO276 := aM (Kd.R_drew HO276.out)
  replace HO279 := aM (Kd.R_drew HO279.out)
  replace HO297 := aM (Kd.R_drew HO297.out)
  replace HO300 := aM (Kd.R_drew HO300.out)
  replace BK271 := aM (blk_drew BK271.out)
  replace BK272 := aM (blk_drew BK272.out)
  replace BK273 := aM (blk_drew BK273.out)
  replace BK302 := aM (blk_drew BK302.out)
  replace HB := aM (below_drew1 HB.out)
  refine start_ (n := 8) (S := fun w' => w'.cell? ⟨gb271, 0, none⟩ = some (.bool a0_0) ∧ w'.cell? ⟨gb271, 1, none⟩ = some (.slice Ao49 t274.length co49) ∧ w'.cell? ⟨gb271, 2, none⟩ = some (.slice Ao52 t277.length co52) ∧ w'.cell? ⟨gb302, 0, none⟩ = some (.bool t294) ∧ w'.cell? ⟨gb302, 1, none⟩ = some (.slice Ao60 t295.length co60) ∧ w'.cell? ⟨gb302, 2, none⟩ = some (.slice Ao61 t298.length co61)) (ds := []) #[false, false, false, false, false, false, false, false] (by kernel_rfl) rfl rfl ⟨(blk_cell BK271.out 0).trans rfl, (blk_cell BK271.out 1).trans rfl, (blk_cell BK271.out 2).trans rfl, (blk_cell BK302.out 0).trans rfl, (blk_cell BK302.out 1).trans rfl, (blk_cell BK302.out 2).trans rfl⟩ (fun hHeld => ?_); refine with_tabW plumblaw07_exact.tab6 plumblaw07_exact.bits6 (fun HT_ HW_ => ?_)
  generalize w62.drew = w63 at HO276 HO279 HO297 HO300 BK271 BK272 BK273 BK302 HB hHeld ⊢
  refine pP 2 (some 33) ?_
  refine pH6 0 (some 31) hHeld ?_
  refine pH6 1 (some 32) hHeld ?_
  refine one_ (i := 3) (N := some 34) #[true, true, true, true, false, false, false, false] rfl rfl (one_of HT_.out (by kernel_rfl)) (by decide) (fun K hK => ?_)
  refine goes_ Tryd.func15 (by kernel_rfl) rfl #[.int .i64 t301] (by rfl) rfl rfl dA ?_
  with_reducible refine (plumblaw07_num.calls t301 t303 _ A41.out).mono ?_
  rintro e w' ⟨rfl, ⟨nd, rfl⟩⟩
  refine ⟨_, rfl, ?_⟩
  refine hK.out _ _ ⟨(blk_cell BK271.out 0).trans rfl, (blk_cell BK271.out 1).trans rfl, (blk_cell BK271.out 2).trans rfl, (blk_cell BK302.out 0).trans rfl, (blk_cell BK302.out 1).trans rfl, (blk_cell BK302.out 2).trans rfl⟩ (fun hHeld => ?_)
  clear hK K
  refine norm_ (a' := ?_) ?_ ?_
  rotate_left
  ·show Act.put _ (some 34) _ = _
   simp only [Act.put, List.setIfInBounds_toArray, List.set_cons_zero, List.set_cons_succ, i64_w, i32_w]
   rfl
  refine pP 4 (some 35) ?_
  refine one_ (i := 5) (N := none) #[true, true, true, true, true, true, false, false] rfl rfl (one_of HT_.out (by kernel_rfl)) (by decide) (fun K hK => ?_)
  have hs64 : w63.cell? ⟨gb272, 0, none⟩ = some (.bool false) := (blk_cell BK272.out 0).trans rfl
  have hfs64 := blk_frozen BK272.out 0
  have hns64_0 := NB271_272.out
  have hns64_2 := NB273_272.out
  have hns64_3 := NB302_272.out
  have hms64_0 := NB272_271.out
  have hms64_2 := NB272_273.out
  have hms64_3 := NB272_302.out
  have hs65 : w63.cell? ⟨gb272, 1, none⟩ = some (.slice none 0 0) := (blk_cell BK272.out 1).trans rfl
  have hfs65 := blk_frozen BK272.out 1
  have hns65_0 := NB271_272.out
  have hns65_2 := NB273_272.out
  have hns65_3 := NB302_272.out
  have hms65_0 := NB272_271.out
  have hms65_2 := NB272_273.out
  have hms65_3 := NB272_302.out
  have hs66 : w63.cell? ⟨gb272, 2, none⟩ = some (.slice none 0 0) := (blk_cell BK272.out 2).trans rfl
  have hfs66 := blk_frozen BK272.out 2
  have hns66_0 := NB271_272.out
  have hns66_2 := NB273_272.out
  have hns66_3 := NB302_272.out
  have hms66_0 := NB272_271.out
  have hms66_2 := NB272_273.out
  have hms66_3 := NB272_302.out
  refine skip_ (w1 := ?_) (by rfl) rfl ?_ ?_
  rotate_left
  ·go_simp
   rfl
  refine hK.out _ _ ⟨((cell_far (p := ⟨gb272, _, none⟩) NB271_272.out _).trans (((cell_far (p := ⟨gb272, _, none⟩) NB271_272.out _).trans (((cell_far (p := ⟨gb272, _, none⟩) NB271_272.out _).trans (hHeld.1)))))), ((cell_far (p := ⟨gb272, _, none⟩) NB271_272.out _).trans (((cell_far (p := ⟨gb272, _, none⟩) NB271_272.out _).trans (((cell_far (p := ⟨gb272, _, none⟩) NB271_272.out _).trans (hHeld.2.1)))))), ((cell_far (p := ⟨gb272, _, none⟩) NB271_272.out _).trans (((cell_far (p := ⟨gb272, _, none⟩) NB271_272.out _).trans (((cell_far (p := ⟨gb272, _, none⟩) NB271_272.out _).trans (hHeld.2.2.1)))))), ((cell_far (p := ⟨gb272, _, none⟩) NB302_272.out _).trans (((cell_far (p := ⟨gb272, _, none⟩) NB302_272.out _).trans (((cell_far (p := ⟨gb272, _, none⟩) NB302_272.out _).trans (hHeld.2.2.2.1)))))), ((cell_far (p := ⟨gb272, _, none⟩) NB302_272.out _).trans (((cell_far (p := ⟨gb272, _, none⟩) NB302_272.out _).trans (((cell_far (p := ⟨gb272, _, none⟩) NB302_272.out _).trans (hHeld.2.2.2.2.1)))))), ((cell_far (p := ⟨gb272, _, none⟩) NB302_272.out _).trans (((cell_far (p := ⟨gb272, _, none⟩) NB302_272.out _).trans (((cell_far (p := ⟨gb272, _, none⟩) NB302_272.out _).trans (hHeld.2.2.2.2.2))))))⟩ (fun hHeld => ?_)
  clear hK K
  refine one_ (i := 6) (N := none) #[true, true, true, true, true, true, true, false] rfl rfl (one_of HT_.out (by kernel_rfl)) (by decide) (fun K hK => ?_)
  have hs67 : w63.cell? ⟨gb273, 0, none⟩ = some (.bool false) := (blk_cell BK273.out 0).trans rfl
  have hfs67 := blk_frozen BK273.out 0
  have hns67_0 := NB271_273.out
  have hns67_1 := NB272_273.out
  have hns67_3 := NB302_273.out
  have hms67_0 := NB273_271.out
  have hms67_1 := NB273_272.out
  have hms67_3 := NB273_302.out
  have hs68 : w63.cell? ⟨gb273, 1, none⟩ = some (.slice none 0 0) := (blk_cell BK273.out 1).trans rfl
  have hfs68 := blk_frozen BK273.out 1
  have hns68_0 := NB271_273.out
  have hns68_1 := NB272_273.out
  have hns68_3 := NB302_273.out
  have hms68_0 := NB273_271.out
  have hms68_1 := NB273_272.out
  have hms68_3 := NB273_302.out
  have hs69 : w63.cell? ⟨gb273, 2, none⟩ = some (.slice none 0 0) := (blk_cell BK273.out 2).trans rfl
  have hfs69 := blk_frozen BK273.out 2
  have hns69_0 := NB271_273.out
  have hns69_1 := NB272_273.out
  have hns69_3 := NB302_273.out
  have hms69_0 := NB273_271.out
  have hms69_1 := NB273_272.out
  have hms69_3 := NB273_302.out
  refine skip_ (w1 := ?_) (by rfl) rfl ?_ ?_
  rotate_left
  ·go_simp
   rfl
  refine hK.out _ _ ⟨((cell_far (p := ⟨gb273, _, none⟩) NB271_273.out _).trans (((cell_far (p := ⟨gb273, _, none⟩) NB271_273.out _).trans (((cell_far (p := ⟨gb273, _, none⟩) NB271_273.out _).trans (hHeld.1)))))), ((cell_far (p := ⟨gb273, _, none⟩) NB271_273.out _).trans (((cell_far (p := ⟨gb273, _, none⟩) NB271_273.out _).trans (((cell_far (p := ⟨gb273, _, none⟩) NB271_273.out _).trans (hHeld.2.1)))))), ((cell_far (p := ⟨gb273, _, none⟩) NB271_273.out _).trans (((cell_far (p := ⟨gb273, _, none⟩) NB271_273.out _).trans (((cell_far (p := ⟨gb273, _, none⟩) NB271_273.out _).trans (hHeld.2.2.1)))))), ((cell_far (p := ⟨gb273, _, none⟩) NB302_273.out _).trans (((cell_far (p := ⟨gb273, _, none⟩) NB302_273.out _).trans (((cell_far (p := ⟨gb273, _, none⟩) NB302_273.out _).trans (hHeld.2.2.2.1)))))), ((cell_far (p := ⟨gb273, _, none⟩) NB302_273.out _).trans (((cell_far (p := ⟨gb273, _, none⟩) NB302_273.out _).trans (((cell_far (p := ⟨gb273, _, none⟩) NB302_273.out _).trans (hHeld.2.2.2.2.1)))))), ((cell_far (p := ⟨gb273, _, none⟩) NB302_273.out _).trans (((cell_far (p := ⟨gb273, _, none⟩) NB302_273.out _).trans (((cell_far (p := ⟨gb273, _, none⟩) NB302_273.out _).trans (hHeld.2.2.2.2.2))))))⟩ (fun hHeld => ?_)
  clear hK K
  refine pP 7 (some 4) ?_
  refine done_ (done_of HT_.out (by kernel_rfl)) ?_
  try go_wp2
  refine bodyPost_ret (results_list (rs := [.cell 2 36, .cell 3 46, .tmp 4]) rfl (by simp) (.cell gb272 36 #[.bool a0_0, .slice Ao49 t274.length co49, .slice Ao52 t277.length co52] (0, 0) _ rfl (dQ1 BK272.out NB272_273.out) Tryd.underlying36 rfl (by kernel_rfl) (.cell gb273 46 #[.bool t294, .slice Ao60 t295.length co60, .slice Ao61 t298.length co61] (0, 0) _ rfl (dQ1 BK273.out NB273_272.out) Tryd.underlying46 rfl (by kernel_rfl) (.tmp .nil)))) rfl ?_
  exact ⟨_, _, _, _, dE, by (with_reducible repeat (first | apply Kd.R_alloc | apply Kd.R_drewN | apply Kd.R_drew)); exact Kd.R_mono (Kd.R_far (p := ⟨gb273, 2, none⟩) (Kd.R_far (p := ⟨gb273, 1, none⟩) (Kd.R_far (p := ⟨gb273, 0, none⟩) (Kd.R_far (p := ⟨gb272, 2, none⟩) (Kd.R_far (p := ⟨gb272, 1, none⟩) (Kd.R_far (p := ⟨gb272, 0, none⟩) (Kd.R_types (Kd.R_types HO276.out BK272.out (by decide)) BK273.out (by decide)) (fun _ hk => hk.1.2) (.bool a0_0)) (fun _ hk => hk.1.2) (.slice Ao49 t274.length co49)) (fun _ hk => hk.1.2) (.slice Ao52 t277.length co52)) (fun _ hk => hk.2) (.bool t294)) (fun _ hk => hk.2) (.slice Ao60 t295.length co60)) (fun _ hk => hk.2) (.slice Ao61 t298.length co61)) (fun _ hk => ⟨hk.1.1.1, ⟨hk.1.1.2.1, hk.1.1.2.2⟩⟩), by (with_reducible repeat (first | apply Kd.R_alloc | apply Kd.R_drewN | apply Kd.R_drew)); exact Kd.R_mono (Kd.R_far (p := ⟨gb273, 2, none⟩) (Kd.R_far (p := ⟨gb273, 1, none⟩) (Kd.R_far (p := ⟨gb273, 0, none⟩) (Kd.R_far (p := ⟨gb272, 2, none⟩) (Kd.R_far (p := ⟨gb272, 1, none⟩) (Kd.R_far (p := ⟨gb272, 0, none⟩) (Kd.R_types (Kd.R_types HO279.out BK272.out (by decide)) BK273.out (by decide)) (fun _ hk => hk.1.2) (.bool a0_0)) (fun _ hk => hk.1.2) (.slice Ao49 t274.length co49)) (fun _ hk => hk.1.2) (.slice Ao52 t277.length co52)) (fun _ hk => hk.2) (.bool t294)) (fun _ hk => hk.2) (.slice Ao60 t295.length co60)) (fun _ hk => hk.2) (.slice Ao61 t298.length co61)) (fun _ hk => ⟨hk.1.1.1, ⟨hk.1.1.2.1, hk.1.1.2.2⟩⟩), by (with_reducible repeat (first | apply Kd.R_alloc | apply Kd.R_drewN | apply Kd.R_drew)); exact Kd.R_mono (Kd.R_far (p := ⟨gb273, 2, none⟩) (Kd.R_far (p := ⟨gb273, 1, none⟩) (Kd.R_far (p := ⟨gb273, 0, none⟩) (Kd.R_far (p := ⟨gb272, 2, none⟩) (Kd.R_far (p := ⟨gb272, 1, none⟩) (Kd.R_far (p := ⟨gb272, 0, none⟩) (Kd.R_types (Kd.R_types HO297.out BK272.out (by decide)) BK273.out (by decide)) (fun _ hk => hk.1.2) (.bool a0_0)) (fun _ hk => hk.1.2) (.slice Ao49 t274.length co49)) (fun _ hk => hk.1.2) (.slice Ao52 t277.length co52)) (fun _ hk => hk.2) (.bool t294)) (fun _ hk => hk.2) (.slice Ao60 t295.length co60)) (fun _ hk => hk.2) (.slice Ao61 t298.length co61)) (fun _ hk => ⟨hk.1.1.1, ⟨hk.1.1.2.1, hk.1.1.2.2⟩⟩), by (with_reducible repeat (first | apply Kd.R_alloc | apply Kd.R_drewN | apply Kd.R_drew)); exact Kd.R_mono (Kd.R_far (p := ⟨gb273, 2, none⟩) (Kd.R_far (p := ⟨gb273, 1, none⟩) (Kd.R_far (p := ⟨gb273, 0, none⟩) (Kd.R_far (p := ⟨gb272, 2, none⟩) (Kd.R_far (p := ⟨gb272, 1, none⟩) (Kd.R_far (p := ⟨gb272, 0, none⟩) (Kd.R_types (Kd.R_types HO300.out BK272.out (by decide)) BK273.out (by decide)) (fun _ hk => hk.1.2) (.bool a0_0)) (fun _ hk => hk.1.2) (.slice Ao49 t274.length co49)) (fun _ hk => hk.1.2) (.slice Ao52 t277.length co52)) (fun _ hk => hk.2) (.bool t294)) (fun _ hk => hk.2) (.slice Ao60 t295.length co60)) (fun _ hk => hk.2) (.slice Ao61 t298.length co61)) (fun _ hk => ⟨hk.1.1.1, ⟨hk.1.1.2.1, hk.1.1.2.2⟩⟩), eB⟩
def nat_bound.f (k : Nat) (l0 : List Int) : Option (List Int × Int) := (nat_size.f k l0).bind fun t304 => (if t304 ≤ 4096 then (if 0 ≤ t304 then (if t304 ≤ (l0.length : Int) then (some ((l0.take (t304 : Int).toNat), 0)) else (none)) else (none)) else (some (([] : List Int), 21)))
set_option maxHeartbeats 8000000 in
set_option maxRecDepth 100000 in
theorem nat_bound.calls (k : Nat) (P0_ : Nat → Prop) (u9000_ : Value) (l0 : List Int) (r1 : List Int) (r2 : Int) (w0 w : World) (hB : Below w0.heap.size w0 w) (ho0 : Kd.R (Kd.int .u64) 26 w w0.heap.size P0_ u9000_ l0) (h : nat_bound.f k l0 = some (r1, r2)) :
  Calls Tryd.prog 56 #[u9000_] w fun e w' => ∃ v0_ : Value, e = .returned (.tuple #[v0_, .int .i64 r2]) ∧ Kd.R (Kd.int .u64) 26 w' w0.heap.size (fun k_ => (P0_ k_ ∨ w.heap.size ≤ k_)) v0_ r1 ∧ Below w0.heap.size w0 w' ∧ Kept w w' (fun k_ => P0_ k_) := by
 have HO0 := aM (show Kd.R (Kd.int .u64) 26 w w0.heap.size (fun k_ => (P0_ k_ ∨ w.heap.size ≤ k_)) u9000_ l0 from Kd.R_mono ho0 (fun k_ hk => (.inl hk)))
 have HK := aM (Kept.refl w (fun k_ => P0_ k_))
 have HW0 := aM hB.size
 have HB := aM hB
 clear hB
 have H := h
 clear h
 unfold nat_bound.f at H
 replace H := obe H
 obtain ⟨t304, A20, H⟩ := H
 (try dsimp only at H)
 have A2 := aM A20
 clear A20
 by_cases c3 : t304 ≤ 4096
 ·rw [if_pos c3] at H
  have c3b0 : decide (t304 ≤ 4096) = true := decide_eq_true c3
  clear c3
  by_cases c4 : (0 : Int) ≤ t304
  ·rw [if_pos c4] at H
   have c4b0 := eq_true c4
   have c4b1 : decide (0 ≤ t304) = true := decide_eq_true c4
   clear c4
   by_cases c5 : t304 ≤ (l0.length : Int)
   ·rw [if_pos c5] at H
    have c5b0 := eq_true c5
    have c5b1 : decide (t304 ≤ (l0.length : Int)) = true := decide_eq_true c5
    clear c5
    obtain ⟨y305, hy305⟩ : ∃ y_ : List Int, y_ = (l0.take (t304 : Int).toNat) := ⟨_, rfl⟩
    replace H : (some (y305, 0)) = some (r1, r2) := by first | (rw [hy305]; with_reducible exact H) | (have H2_ := (Option.bind_some _ _).symm.trans H; rw [hy305]; with_reducible exact H2_) | (have H2_ := (Option.bind_some _ _).symm.trans H; with_reducible exact H2_) | with_reducible exact H | (rw [hy305]; exact H) | exact H
    have Ny305 := aM hy305
    clear hy305
    simp only [Option.some.injEq, Prod.mk.injEq] at H
    obtain ⟨rfl, rfl⟩ := H
    obtain ⟨Ao6, co6, rfl⟩ := Kd.R_slice HO0.out
    go_enter Tryd.func56, Tryd.ntmps56
    go_wp2_with (first | ((with_reducible refine gate_callee (f := 54) rfl ?_); refine gL (some 6) Tryd.func54 #[.slice Ao6 l0.length co6] ?_; (with_reducible refine (nat_size.calls k _ _ l0 t304 _ ?side1 (Kd.R_reads' HO0.out).2.1 A2.out).mono ?_); (case side1 => exact dC (Kd.R_reads' HO0.out).2.2); rintro e w' ⟨rfl, ⟨nd, rfl⟩⟩; refine ⟨_, rfl, ?_⟩; have q7 : (t304 : Int) ≤ ((l0.length : Int) : Int) := of_decide_eq_true dS; obtain ⟨i07, hi07, _, hsz7, _⟩ := info_parts info26; have hcut7 := cut_to3 (P := Tryd.prog) 22 26 .i64 .i64 Tryd.underlying22 hi07 Ao6 l0.length co6 t304 (of_decide_eq_true dS) q7 (Kd.R_reads' HO0.out).2.1; have hr7 := Kd.R_take3 (m := (t304 : Int).toNat) HO0.out (by omega); have hy7 : y305.length = (t304 : Int).toNat := (by rw [Ny305.out, List.length_take]; omega); rw [← Ny305.out] at hr7; rw [← hy7] at hr7 hcut7; clear hy7 hi07 hsz7 HO0; have HO307 := aM hr7; clear hr7; replace q7 := eq_true q7))
    go_ret2
    exact ⟨_, dE, dR HO307.out, dB, by repeat (first | (with_reducible first | exact HK.out | apply Kept.alloc | apply Kept.drewN | apply Kept.drew) | exact HK.out)⟩
   ·rw [if_neg c5] at H
    exact absurd H (by simp)
  ·rw [if_neg c4] at H
   exact absurd H (by simp)
 ·rw [if_neg c3] at H
  have c3b0 : decide (t304 ≤ 4096) = false := decide_eq_false c3
  clear c3
  simp only [Option.some.injEq, Prod.mk.injEq] at H
  obtain ⟨rfl, rfl⟩ := H
  obtain ⟨Ao8, co8, rfl⟩ := Kd.R_slice HO0.out
  go_enter Tryd.func56, Tryd.ntmps56
  go_wp2_with (first | ((with_reducible refine gate_callee (f := 54) rfl ?_); refine gL (some 6) Tryd.func54 #[.slice Ao8 l0.length co8] ?_; (with_reducible refine (nat_size.calls k _ _ l0 t304 _ ?side1 (Kd.R_reads' HO0.out).2.1 A2.out).mono ?_); (case side1 => exact dC (Kd.R_reads' HO0.out).2.2); rintro e w' ⟨rfl, ⟨nd, rfl⟩⟩; refine ⟨_, rfl, ?_⟩))
  go_ret2
  exact ⟨_, dE, by first | exact Kd.R_nil _ _ _ _ _ | exact Kd.N_nil _ _ _ _ _ | exact Kd.V_nil _ _ _ _ _ | exact Kd.Q_nil _ _ _ _ _ | exact Kd.S_nil _ _ _ _ _, dB, by repeat (first | (with_reducible first | exact HK.out | apply Kept.alloc | apply Kept.drewN | apply Kept.drew) | exact HK.out)⟩
end Go.Proofs.YtoefabmlkbhmpaaDoor.PA
