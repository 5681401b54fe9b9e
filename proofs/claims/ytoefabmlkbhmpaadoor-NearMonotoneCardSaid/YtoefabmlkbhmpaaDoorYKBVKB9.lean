/- A part of the proof (9). -/
import Derived.Test.YtoefabmlkbhmpaaDoorYKBVKB2
import Derived.Test.YtoefabmlkbhmpaaDoorYKBVKB3
import Derived.Test.YtoefabmlkbhmpaaDoorYKBVKB4
import Derived.Test.YtoefabmlkbhmpaaDoorYKBVKB8
namespace Go.Proofs.YtoefabmlkbhmpaaDoor.PA
open Go.RowKit Go.Proofs.YtoefabmlkbhmpaaDoorW.PrintWords Go.Proofs.YtoefabmlkbhmpaaDoorW.PrintLast Go.Proofs.YtoefabmlkbhmpaaDoorW.PrintMore
attribute [local go_sem] max2_int min2_int max_two min_two max_three min_three max_four min_four
set_option linter.unusedVariables false
set_option linter.unusedSimpArgs false
def plumblaw07_exact.f (k : Nat) (a0_0 : Bool) (l0_1 : List Int) (l0_2 : List Int) : Option (Bool × List Int × List Int × Bool × List Int × List Int × Bool) := (plumblaw07_bounded.f k l0_1 60).bind fun t319 => ((plumblaw07_bounded.f k l0_2 60).bind fun t322 => ((nat_Cmp.f k t322 ([] : List Int)).bind fun t325 => (if t325 = 0 then ((some (([1] : List Int) : List Int)).bind fun y326 => ((rat_New.f k a0_0 t319 y326).bind fun bt329 => ((plumblaw07_num.f bt329.2.2.2).bind fun t338 => (some (a0_0, t319, y326, bt329.1, bt329.2.1, bt329.2.2.1, (t338 == 0)))))) else ((rat_New.f k a0_0 t319 t322).bind fun bt339 => ((plumblaw07_num.f bt339.2.2.2).bind fun t348 => (some (a0_0, t319, t322, bt339.1, bt339.2.1, bt339.2.2.1, (t348 == 0))))))))
def plumblaw07_exact.T6 : Bool × List (List Nat × List Nat) := (true, [([], []), ([], []), ([], []), ([2], [2]), ([3], [3]), ([0, 3, 0], [0]), ([1, 5, 0, 1, 5], [1]), ([4, 6, 0, 1, 2, 3, 4, 5, 6], [4])])
def plumblaw07_exact.B6 : List Nat := [0, 0, 0, 4, 12, 13, 47, 127]
theorem plumblaw07_exact.tab6 : rtab .any (opsOf Tryd.f23 6) = plumblaw07_exact.T6 := by kernel_rfl
theorem plumblaw07_exact.bits6 : waitsOk plumblaw07_exact.T6.2 plumblaw07_exact.B6 = true := by kernel_rfl
set_option maxHeartbeats 8000000 in
set_option maxRecDepth 100000 in
theorem plumblaw07_exact.calls (k : Nat) (a0_0 : Bool) (A0_1 : Option Addr) (c0_1 : Nat) (l0_1 : List Int) (A0_2 : Option Addr) (c0_2 : Nat) (l0_2 : List Int) (r1 : Bool) (r2 : List Int) (r3 : List Int) (r4 : Bool) (r5 : List Int) (r6 : List Int) (r7 : Bool) (w : World) (hr0_1 : Kd.C (Kd.int .u64) w A0_1 l0_1.length l0_1) (hc0_1 : l0_1.length ≤ c0_1) (hr0_2 : Kd.C (Kd.int .u64) w A0_2 l0_2.length l0_2) (hc0_2 : l0_2.length ≤ c0_2) (h : plumblaw07_exact.f k a0_0 l0_1 l0_2 = some (r1, r2, r3, r4, r5, r6, r7)) :
  Calls Tryd.prog 23 #[.agg #[.bool a0_0, .slice A0_1 l0_1.length c0_1, .slice A0_2 l0_2.length c0_2]] w fun e w' => ∃ v1_ v2_ v4_ v5_ : Value, e = .returned (.tuple #[.agg #[.bool r1, v1_, v2_], .agg #[.bool r4, v4_, v5_], .bool r7]) ∧ Kd.R (Kd.int .u64) 26 w' w.heap.size (fun k_ => some k_ ≠ (v2_ : Value).ownBlock ∧ some k_ ≠ (v4_ : Value).ownBlock ∧ some k_ ≠ (v5_ : Value).ownBlock) v1_ r2 ∧ Kd.R (Kd.int .u64) 26 w' w.heap.size (fun k_ => some k_ ≠ (v1_ : Value).ownBlock ∧ some k_ ≠ (v4_ : Value).ownBlock ∧ some k_ ≠ (v5_ : Value).ownBlock) v2_ r3 ∧ Kd.R (Kd.int .u64) 26 w' w.heap.size (fun k_ => some k_ ≠ (v1_ : Value).ownBlock ∧ some k_ ≠ (v2_ : Value).ownBlock ∧ some k_ ≠ (v5_ : Value).ownBlock) v4_ r5 ∧ Kd.R (Kd.int .u64) 26 w' w.heap.size (fun k_ => some k_ ≠ (v1_ : Value).ownBlock ∧ some k_ ≠ (v2_ : Value).ownBlock ∧ some k_ ≠ (v4_ : Value).ownBlock) v5_ r6 ∧ Below w.heap.size w w' := by
 have hu36 := Tryd.underlying36
 have hu46 := Tryd.underlying46
 have HR0_1 := Aside0.mk hr0_1
 have HC0_1 := Aside0.mk hc0_1
 clear hr0_1 hc0_1
 have HR0_2 := Aside0.mk hr0_2
 have HC0_2 := Aside0.mk hc0_2
 clear hr0_2 hc0_2
 have HB := Aside0.mk (Below.refl w.heap.size w)
 have H := h
 clear h
 unfold plumblaw07_exact.f at H
 replace H := obe H
 obtain ⟨t319, A20, H⟩ := H
 (try dsimp only at H)
 have A2 := Aside0.mk A20
 clear A20
 replace H := obe H
 obtain ⟨t322, A30, H⟩ := H
 (try dsimp only at H)
 have A3 := Aside0.mk A30
 clear A30
 replace H := obe H
 obtain ⟨t325, A40, H⟩ := H
 (try dsimp only at H)
 have A4 := Aside0.mk A40
 clear A40
 by_cases c5 : t325 = 0
 ·rw [if_pos c5] at H
  have c5b0 : (t325 == 0) = true := beq_iff_eq.mpr c5
  have c5b1 : (t325 != 0) = false := bne_eq_false_iff_eq.mpr c5
  clear c5
  obtain ⟨y326, hy326⟩ : ∃ y_ : List Int, y_ = (([1] : List Int)) := ⟨_, rfl⟩
  replace H : ((rat_New.f k a0_0 t319 y326).bind fun bt329 => ((plumblaw07_num.f bt329.2.2.2).bind fun t338 => (some (a0_0, t319, y326, bt329.1, bt329.2.1, bt329.2.2.1, (t338 == 0))))) = some (r1, r2, r3, r4, r5, r6, r7) := by first | (rw [hy326]; with_reducible exact H) | (have H2_ := (Option.bind_some _ _).symm.trans H; rw [hy326]; with_reducible exact H2_) | (have H2_ := (Option.bind_some _ _).symm.trans H; with_reducible exact H2_) | with_reducible exact H | (rw [hy326]; exact H) | exact H
  have Ny326 := Aside0.mk hy326
  clear hy326
  replace H := obe H
  obtain ⟨⟨t329, t330, t333, t336⟩, A60, H⟩ := H
  (try dsimp only at H)
  have A6 := Aside0.mk A60
  clear A60
  replace H := obe H
  obtain ⟨t338, A70, H⟩ := H
  (try dsimp only at H)
  have A7 := Aside0.mk A70
  clear A70
  simp only [Option.some.injEq, Prod.mk.injEq] at H
  obtain ⟨rfl, rfl, rfl, rfl, rfl, rfl, rfl⟩ := H
  go_enter Tryd.func23, Tryd.ntmps23
  try go_wp2_with (first | ((with_reducible refine gate_dst (N := 1) rfl ?_); refine bE 1 #[.bool a0_0, .slice A0_1 l0_1.length c0_1, .slice A0_2 l0_2.length c0_2] 36 ?_; intro gb316 hg w8 hbox hb; have BK316 := Aside0.mk (hbox); have GE316 : Aside0 (w.heap.size ≤ gb316) := gE hg; replace HB := hS HB.out hb; clear hb hbox hg) | ((with_reducible refine gate_dst (N := 2) rfl ?_); refine bE 2 #[.bool false, .slice none 0 0, .slice none 0 0] 36 ?_; intro gb317 hg w9 hbox hb; have BK317 := Aside0.mk (hbox); have GE317 : Aside0 (w.heap.size ≤ gb317) := gE hg; replace HB := hS HB.out hb; have NB316_317 := nL hg BK316.out; have NB317_316 := nG hg BK316.out; replace BK316 := bB BK316.out hb; clear hb hbox hg) | ((with_reducible refine gate_dst (N := 3) rfl ?_); refine bE 3 #[.bool false, .slice none 0 0, .slice none 0 0] 46 ?_; intro gb318 hg w10 hbox hb; have BK318 := Aside0.mk (hbox); have GE318 : Aside0 (w.heap.size ≤ gb318) := gE hg; replace HB := hS HB.out hb; have NB316_318 := nL hg BK316.out; have NB318_316 := nG hg BK316.out; replace BK316 := bB BK316.out hb; have NB317_318 := nL hg BK317.out; have NB318_317 := nG hg BK317.out; replace BK317 := bB BK317.out hb; clear hb hbox hg; have hnb11 := NB316_317.out; have hnc11 := NB317_316.out; have hnb12 := NB316_318.out; have hnc12 := NB318_316.out; obtain ⟨hcz13_0, hcz13_1, hcz13_2⟩ := cz3 BK316.out; obtain ⟨hfz13_0, hfz13_1, hfz13_2⟩ := fz3 BK316.out) | ((with_reducible refine gate_callee (f := 20) rfl ?_); refine gL (some 9) Tryd.func20 #[.slice A0_1 l0_1.length c0_1, .int .i64 60] ?_; (with_reducible refine (plumblaw07_bounded.calls k _ _ l0_1 60 t319 _ ?side1 HC0_1.out A2.out).mono ?_); (case side1 => exact dC (Kd.C_below HR0_1.out HB.out)); rintro e w14 ⟨v320, rfl, ho0, hb⟩; refine ⟨_, rfl, ?_⟩; have HO321 := Aside0.mk (Kd.R_lower ho0 (below_size eB)); replace BK316 := bB BK316.out hb; replace BK317 := bB BK317.out hb; replace BK318 := bB BK318.out hb; replace HB := hS HB.out hb; (try clear hb); (try clear ho0); obtain ⟨Ao15, co15, rfl⟩ := Kd.R_slice HO321.out; obtain ⟨hcz16_0, hcz16_1, hcz16_2⟩ := cz3 BK316.out; obtain ⟨hfz16_0, hfz16_1, hfz16_2⟩ := fz3 BK316.out) | ((with_reducible refine gate_callee (f := 20) rfl ?_); refine gL (some 13) Tryd.func20 #[.slice A0_2 l0_2.length c0_2, .int .i64 60] ?_; (with_reducible refine (plumblaw07_bounded.calls k _ _ l0_2 60 t322 _ ?side1 HC0_2.out A3.out).mono ?_); (case side1 => exact Kd.C_below HR0_2.out eB); rintro e w17 ⟨v323, rfl, ho0, hb⟩; refine ⟨_, rfl, ?_⟩; have HO324 := Aside0.mk (Kd.R_lower (Kd.R_new' ho0 (Kd.R_lt (by (with_reducible repeat (first | apply Kd.R_alloc | apply Kd.R_drewN | apply Kd.R_drew)); exact (Kd.R_mono (Kd.R_far (p := ⟨gb316, 1, none⟩) (Kd.R_types HO321.out BK316.out (by decide)) (fun _ hk => hk.2) (.slice Ao15 t319.length co15)) (fun _ h_ => h_.1))))) (below_size eB)); replace HO321 := Aside0.mk (Kd.R_elder' (by (with_reducible repeat (first | apply Kd.R_alloc | apply Kd.R_drewN | apply Kd.R_drew)); exact (Kd.R_mono (Kd.R_far (p := ⟨gb316, 1, none⟩) (Kd.R_types HO321.out BK316.out (by decide)) (fun _ hk => hk.2) (.slice Ao15 t319.length co15)) (fun _ h_ => h_.1))) (Kd.R_base ho0) hb); replace BK316 := Aside0.mk (blk_below (g := gb316) (o := .cells #[.bool a0_0, .slice Ao15 t319.length co15, .slice A0_2 l0_2.length c0_2] 36 (0, 0)) (dP BK316.out) hb); replace BK317 := Aside0.mk (blk_below (g := gb317) (o := .cells #[.bool false, .slice none 0 0, .slice none 0 0] 36 (0, 0)) (by (with_reducible repeat (first | refine blk_drewN ?_ _ | refine blk_drew ?_ | refine blk_alloc ?_ _)); refine blk_far ?_ NB317_316.out _; (with_reducible repeat (first | refine blk_drewN ?_ _ | refine blk_drew ?_ | refine blk_alloc ?_ _)); exact BK317.out) hb); replace BK318 := Aside0.mk (blk_below (g := gb318) (o := .cells #[.bool false, .slice none 0 0, .slice none 0 0] 46 (0, 0)) (by (with_reducible repeat (first | refine blk_drewN ?_ _ | refine blk_drew ?_ | refine blk_alloc ?_ _)); refine blk_far ?_ NB318_316.out _; (with_reducible repeat (first | refine blk_drewN ?_ _ | refine blk_drew ?_ | refine blk_alloc ?_ _)); exact BK318.out) hb); replace HB := hS HB.out hb; (try clear hb); (try clear ho0); obtain ⟨Ao18, co18, rfl⟩ := Kd.R_slice HO324.out; obtain ⟨hcz19_0, hcz19_1, hcz19_2⟩ := cz3 BK316.out; obtain ⟨hfz19_0, hfz19_1, hfz19_2⟩ := fz3 BK316.out) | ((with_reducible refine gate_callee (f := 58) rfl ?_); refine gL (some 17) Tryd.func58 #[.slice Ao18 t322.length co18, .slice none 0 0] ?_; (refine (nat_Cmp.calls k _ _ t322 _ _ ([] : List Int) t325 _ ?side1 (Kd.R_reads' HO324.out).2.1 ?side3 ?side4 A4.out).mono ?_); (case side1 => refine (Kd.R_reads' (e := 26) (base := w.heap.size) (ok := fun k_ => (True ∧ some k_ ≠ (.slice Ao15 t319.length co15 : Value).ownBlock)) (n := t322.length) (c := co18) ?_).2.2; exact (by (with_reducible repeat (first | apply Kd.R_alloc | apply Kd.R_drewN | apply Kd.R_drew)); exact (Kd.R_mono (Kd.R_far (p := ⟨gb316, 2, none⟩) (Kd.R_types HO324.out BK316.out (by decide)) (fun _ hk => hk.2) (.slice Ao18 t322.length co18)) (fun _ h_ => h_.1)))); (case side3 => exact Kd.C_nil _ _); (case side4 => exact Nat.le_refl _); rintro e w' ⟨rfl, ⟨nd, rfl⟩⟩; refine ⟨_, rfl, ?_⟩) | ((with_reducible refine gate_dst (N := 19) rfl ?_); refine Kd.R_lit (Kd.int .u64) _ 26 ?hg (N := 19) ?hd (xs := ([1] : List Int)) (inner := [.int .u64 1]) (ok := fun _ => True) (okp := fun _ => True) ?hr ?hp (fun _ hk => hk) trivial (Below.refl _ _) (Nat.le_refl _) (by simp) ?_; (case hd => rfl); (case hg => rfl); (case hr => first | (go_simp; done) | (go_simp; rfl)); (case hp => exact (Reps.one (show Kd.M (Kd.int .u64) _ _ _ 1 [.int .u64 1] from rfl) (Reps.none _ _))); intro v327 w20 ho21 hb hg_ hnew_; clear hg_ hnew_; (first | rw [← Ny326.out] at ho21 | (simp only [Int.reduceToNat] at ho21; rw [← Ny326.out] at ho21)); have HO328 := Aside0.mk (Kd.R_lower (Kd.R_new' (Kd.R_new' ho21 (Kd.R_lt (by (with_reducible repeat (first | apply Kd.R_alloc | apply Kd.R_drewN | apply Kd.R_drew)); exact (Kd.R_mono (Kd.R_far (p := ⟨gb316, 2, none⟩) (Kd.R_types HO321.out BK316.out (by decide)) (fun _ hk => hk.2) (.slice Ao18 t322.length co18)) (fun _ h_ => h_.1))))) (Kd.R_lt (by (with_reducible repeat (first | apply Kd.R_alloc | apply Kd.R_drewN | apply Kd.R_drew)); exact (Kd.R_mono (Kd.R_far (p := ⟨gb316, 2, none⟩) (Kd.R_types HO324.out BK316.out (by decide)) (fun _ hk => hk.2) (.slice Ao18 t322.length co18)) (fun _ h_ => h_.1))))) (below_size eB)); replace HO321 := Aside0.mk (Kd.R_elder' (by (with_reducible repeat (first | apply Kd.R_alloc | apply Kd.R_drewN | apply Kd.R_drew)); exact (Kd.R_mono (Kd.R_far (p := ⟨gb316, 2, none⟩) (Kd.R_types HO321.out BK316.out (by decide)) (fun _ hk => hk.2) (.slice Ao18 t322.length co18)) (fun _ h_ => h_.1))) (Kd.R_base ho21) hb); replace HO324 := Aside0.mk (Kd.R_elder' (by (with_reducible repeat (first | apply Kd.R_alloc | apply Kd.R_drewN | apply Kd.R_drew)); exact (Kd.R_mono (Kd.R_far (p := ⟨gb316, 2, none⟩) (Kd.R_types HO324.out BK316.out (by decide)) (fun _ hk => hk.2) (.slice Ao18 t322.length co18)) (fun _ h_ => h_.1))) (Kd.R_base ho21) hb); replace BK316 := Aside0.mk (blk_below (g := gb316) (o := .cells #[.bool a0_0, .slice Ao15 t319.length co15, .slice Ao18 t322.length co18] 36 (0, 0)) (dP BK316.out) hb); replace BK317 := Aside0.mk (blk_below (g := gb317) (o := .cells #[.bool false, .slice none 0 0, .slice none 0 0] 36 (0, 0)) (by (with_reducible repeat (first | refine blk_drewN ?_ _ | refine blk_drew ?_ | refine blk_alloc ?_ _)); refine blk_far ?_ NB317_316.out _; (with_reducible repeat (first | refine blk_drewN ?_ _ | refine blk_drew ?_ | refine blk_alloc ?_ _)); exact BK317.out) hb); replace BK318 := Aside0.mk (blk_below (g := gb318) (o := .cells #[.bool false, .slice none 0 0, .slice none 0 0] 46 (0, 0)) (by (with_reducible repeat (first | refine blk_drewN ?_ _ | refine blk_drew ?_ | refine blk_alloc ?_ _)); refine blk_far ?_ NB318_316.out _; (with_reducible repeat (first | refine blk_drewN ?_ _ | refine blk_drew ?_ | refine blk_alloc ?_ _)); exact BK318.out) hb); replace HB := hS HB.out hb; clear hb ho21; obtain ⟨Ao22, co22, rfl⟩ := Kd.R_slice HO328.out; obtain ⟨hcz23_0, hcz23_1, hcz23_2⟩ := cz3 BK316.out; obtain ⟨hfz23_0, hfz23_1, hfz23_2⟩ := fz3 BK316.out) | ((with_reducible refine gate_callee (f := 59) rfl ?_); refine gL (some 28) Tryd.func59 #[.bool a0_0, .slice Ao15 t319.length co15, .slice Ao22 y326.length co22] ?_; (with_reducible refine (rat_New.calls k a0_0 _ _ t319 _ _ y326 t329 t330 t333 t336 _ ?side1 (Kd.R_reads' HO321.out).2.1 ?side3 (Kd.R_reads' HO328.out).2.1 A6.out).mono ?_); (case side1 => refine (Kd.R_reads' (e := 26) (base := w.heap.size) (ok := fun k_ => ((True ∧ some k_ ≠ (.slice Ao18 t322.length co18 : Value).ownBlock) ∧ some k_ ≠ (.slice Ao22 y326.length co22 : Value).ownBlock)) (n := t319.length) (c := co15) ?_).2.2; exact (by (with_reducible repeat (first | apply Kd.R_alloc | apply Kd.R_drewN | apply Kd.R_drew)); exact (Kd.R_mono (Kd.R_far (p := ⟨gb316, 2, none⟩) (Kd.R_types HO321.out BK316.out (by decide)) (fun _ hk => hk.2) (.slice Ao22 y326.length co22)) (fun _ h_ => h_.1)))); (case side3 => refine (Kd.R_reads' (e := 26) (base := w.heap.size) (ok := fun k_ => ((True ∧ some k_ ≠ (.slice Ao15 t319.length co15 : Value).ownBlock) ∧ some k_ ≠ (.slice Ao18 t322.length co18 : Value).ownBlock)) (n := y326.length) (c := co22) ?_).2.2; exact (by (with_reducible repeat (first | apply Kd.R_alloc | apply Kd.R_drewN | apply Kd.R_drew)); exact (Kd.R_mono (Kd.R_far (p := ⟨gb316, 2, none⟩) (Kd.R_types HO328.out BK316.out (by decide)) (fun _ hk => hk.2) (.slice Ao22 y326.length co22)) (fun _ h_ => h_.1)))); rintro e w24 ⟨v331, v334, rfl, ho0, ho1, hb⟩; refine ⟨_, rfl, ?_⟩; have HO332 := Aside0.mk (Kd.R_lower (Kd.R_new' (Kd.R_new' (Kd.R_new' ho0 (Kd.R_lt (by (with_reducible repeat (first | apply Kd.R_alloc | apply Kd.R_drewN | apply Kd.R_drew)); exact (Kd.R_mono (Kd.R_far (p := ⟨gb316, 2, none⟩) (Kd.R_types HO321.out BK316.out (by decide)) (fun _ hk => hk.2) (.slice Ao22 y326.length co22)) (fun _ h_ => h_.1))))) (Kd.R_lt (by (with_reducible repeat (first | apply Kd.R_alloc | apply Kd.R_drewN | apply Kd.R_drew)); exact (Kd.R_mono (Kd.R_far (p := ⟨gb316, 2, none⟩) (Kd.R_types HO324.out BK316.out (by decide)) (fun _ hk => hk.2) (.slice Ao22 y326.length co22)) (fun _ h_ => h_.1))))) (Kd.R_lt (by (with_reducible repeat (first | apply Kd.R_alloc | apply Kd.R_drewN | apply Kd.R_drew)); exact (Kd.R_mono (Kd.R_far (p := ⟨gb316, 2, none⟩) (Kd.R_types HO328.out BK316.out (by decide)) (fun _ hk => hk.2) (.slice Ao22 y326.length co22)) (fun _ h_ => h_.1))))) (below_size eB)); have HO335 := Aside0.mk (Kd.R_lower (Kd.R_new' (Kd.R_new' (Kd.R_new' ho1 (Kd.R_lt (by (with_reducible repeat (first | apply Kd.R_alloc | apply Kd.R_drewN | apply Kd.R_drew)); exact (Kd.R_mono (Kd.R_far (p := ⟨gb316, 2, none⟩) (Kd.R_types HO321.out BK316.out (by decide)) (fun _ hk => hk.2) (.slice Ao22 y326.length co22)) (fun _ h_ => h_.1))))) (Kd.R_lt (by (with_reducible repeat (first | apply Kd.R_alloc | apply Kd.R_drewN | apply Kd.R_drew)); exact (Kd.R_mono (Kd.R_far (p := ⟨gb316, 2, none⟩) (Kd.R_types HO324.out BK316.out (by decide)) (fun _ hk => hk.2) (.slice Ao22 y326.length co22)) (fun _ h_ => h_.1))))) (Kd.R_lt (by (with_reducible repeat (first | apply Kd.R_alloc | apply Kd.R_drewN | apply Kd.R_drew)); exact (Kd.R_mono (Kd.R_far (p := ⟨gb316, 2, none⟩) (Kd.R_types HO328.out BK316.out (by decide)) (fun _ hk => hk.2) (.slice Ao22 y326.length co22)) (fun _ h_ => h_.1))))) (below_size eB)); replace HO321 := Aside0.mk (Kd.R_mono (Kd.R_told (Kd.R_told (Kd.R_old (by (with_reducible repeat (first | apply Kd.R_alloc | apply Kd.R_drewN | apply Kd.R_drew)); exact (Kd.R_mono (Kd.R_far (p := ⟨gb316, 2, none⟩) (Kd.R_types HO321.out BK316.out (by decide)) (fun _ hk => hk.2) (.slice Ao22 y326.length co22)) (fun _ h_ => h_.1))) hb) (Kd.R_base ho0)) (Kd.R_base ho1)) (fun _ h_ => h_.1)); replace HO324 := Aside0.mk (Kd.R_mono (Kd.R_told (Kd.R_told (Kd.R_old (by (with_reducible repeat (first | apply Kd.R_alloc | apply Kd.R_drewN | apply Kd.R_drew)); exact (Kd.R_mono (Kd.R_far (p := ⟨gb316, 2, none⟩) (Kd.R_types HO324.out BK316.out (by decide)) (fun _ hk => hk.2) (.slice Ao22 y326.length co22)) (fun _ h_ => h_.1))) hb) (Kd.R_base ho0)) (Kd.R_base ho1)) (fun _ h_ => h_.1)); replace HO328 := Aside0.mk (Kd.R_mono (Kd.R_told (Kd.R_told (Kd.R_old (by (with_reducible repeat (first | apply Kd.R_alloc | apply Kd.R_drewN | apply Kd.R_drew)); exact (Kd.R_mono (Kd.R_far (p := ⟨gb316, 2, none⟩) (Kd.R_types HO328.out BK316.out (by decide)) (fun _ hk => hk.2) (.slice Ao22 y326.length co22)) (fun _ h_ => h_.1))) hb) (Kd.R_base ho0)) (Kd.R_base ho1)) (fun _ h_ => h_.1)); replace BK316 := Aside0.mk (blk_below (g := gb316) (o := .cells #[.bool a0_0, .slice Ao15 t319.length co15, .slice Ao22 y326.length co22] 36 (0, 0)) (dP BK316.out) hb); replace BK317 := Aside0.mk (blk_below (g := gb317) (o := .cells #[.bool false, .slice none 0 0, .slice none 0 0] 36 (0, 0)) (by (with_reducible repeat (first | refine blk_drewN ?_ _ | refine blk_drew ?_ | refine blk_alloc ?_ _)); refine blk_far ?_ NB317_316.out _; (with_reducible repeat (first | refine blk_drewN ?_ _ | refine blk_drew ?_ | refine blk_alloc ?_ _)); exact BK317.out) hb); replace BK318 := Aside0.mk (blk_below (g := gb318) (o := .cells #[.bool false, .slice none 0 0, .slice none 0 0] 46 (0, 0)) (by (with_reducible repeat (first | refine blk_drewN ?_ _ | refine blk_drew ?_ | refine blk_alloc ?_ _)); refine blk_far ?_ NB318_316.out _; (with_reducible repeat (first | refine blk_drewN ?_ _ | refine blk_drew ?_ | refine blk_alloc ?_ _)); exact BK318.out) hb); replace HB := hS HB.out hb; (try clear hb); (try clear ho0); (try clear ho1)) | ((with_reducible refine gate_dst (N := 5) rfl ?_); refine bE 5 #[.bool false, .slice none 0 0, .slice none 0 0] 46 ?_; intro gb337 hg w25 hbox hb; replace HO321 := oB HO321.out hb; replace HO324 := oB HO324.out hb; replace HO328 := oB HO328.out hb; replace HO332 := oB HO332.out hb; replace HO335 := oB HO335.out hb; have BK337 := Aside0.mk (hbox); have GE337 : Aside0 (w.heap.size ≤ gb337) := gE hg; replace HB := hS HB.out hb; have NB316_337 := nL hg BK316.out; have NB337_316 := nG hg BK316.out; replace BK316 := bB BK316.out hb; have NB317_337 := nL hg BK317.out; have NB337_317 := nG hg BK317.out; replace BK317 := bB BK317.out hb; have NB318_337 := nL hg BK318.out; have NB337_318 := nG hg BK318.out; replace BK318 := bB BK318.out hb; clear hb hbox hg; have hnb26 := NB337_316.out; have hnc26 := NB316_337.out; have hnb27 := NB337_317.out; have hnc27 := NB317_337.out; have hnb28 := NB337_318.out; have hnc28 := NB318_337.out; obtain ⟨hcz29_0, hcz29_1, hcz29_2⟩ := cz3 BK337.out; obtain ⟨hfz29_0, hfz29_1, hfz29_2⟩ := fz3 BK337.out; obtain ⟨Ao30, co30, rfl⟩ := Kd.R_slice HO332.out; obtain ⟨Ao31, co31, rfl⟩ := Kd.R_slice HO335.out))
  have n0_ : Aside0 (Kd.R (Kd.int .u64) 26 (((w25.setCell ⟨gb337, 0, none⟩ (.bool t329)).setCell ⟨gb337, 1, none⟩ (.slice Ao30 t330.length co30)).setCell ⟨gb337, 2, none⟩ (.slice Ao31 t333.length co31)) w.heap.size (fun k_ => some k_ ≠ (.slice Ao18 t322.length co18 : Value).ownBlock ∧ some k_ ≠ (.slice Ao22 y326.length co22 : Value).ownBlock ∧ some k_ ≠ (.slice Ao30 t330.length co30 : Value).ownBlock ∧ some k_ ≠ (.slice Ao31 t333.length co31 : Value).ownBlock) (.slice Ao15 t319.length co15) t319) := ⟨by (with_reducible repeat (first | apply Kd.R_alloc | apply Kd.R_drewN | apply Kd.R_drew)); exact Kd.R_mono (Kd.R_far (p := ⟨gb337, 2, none⟩) (Kd.R_far (p := ⟨gb337, 1, none⟩) (Kd.R_far (p := ⟨gb337, 0, none⟩) (Kd.R_types HO321.out BK337.out (by decide)) (fun _ hk => hk.2) (.bool t329)) (fun _ hk => hk.2) (.slice Ao30 t330.length co30)) (fun _ hk => hk.2) (.slice Ao31 t333.length co31)) (fun _ hk => ⟨hk.1.1.1.1.2, ⟨hk.1.1.1.2, ⟨hk.1.1.2, hk.1.2⟩⟩⟩)⟩
  have n1_ : Aside0 (Kd.R (Kd.int .u64) 26 (((w25.setCell ⟨gb337, 0, none⟩ (.bool t329)).setCell ⟨gb337, 1, none⟩ (.slice Ao30 t330.length co30)).setCell ⟨gb337, 2, none⟩ (.slice Ao31 t333.length co31)) w.heap.size (fun k_ => some k_ ≠ (.slice Ao15 t319.length co15 : Value).ownBlock ∧ some k_ ≠ (.slice Ao22 y326.length co22 : Value).ownBlock ∧ some k_ ≠ (.slice Ao30 t330.length co30 : Value).ownBlock ∧ some k_ ≠ (.slice Ao31 t333.length co31 : Value).ownBlock) (.slice Ao18 t322.length co18) t322) := ⟨by (with_reducible repeat (first | apply Kd.R_alloc | apply Kd.R_drewN | apply Kd.R_drew)); exact Kd.R_mono (Kd.R_far (p := ⟨gb337, 2, none⟩) (Kd.R_far (p := ⟨gb337, 1, none⟩) (Kd.R_far (p := ⟨gb337, 0, none⟩) (Kd.R_types HO324.out BK337.out (by decide)) (fun _ hk => hk.2) (.bool t329)) (fun _ hk => hk.2) (.slice Ao30 t330.length co30)) (fun _ hk => hk.2) (.slice Ao31 t333.length co31)) (fun _ hk => ⟨hk.1.1.1.1.2, ⟨hk.1.1.1.2, ⟨hk.1.1.2, hk.1.2⟩⟩⟩)⟩
  have n2_ : Aside0 (Kd.R (Kd.int .u64) 26 (((w25.setCell ⟨gb337, 0, none⟩ (.bool t329)).setCell ⟨gb337, 1, none⟩ (.slice Ao30 t330.length co30)).setCell ⟨gb337, 2, none⟩ (.slice Ao31 t333.length co31)) w.heap.size (fun k_ => some k_ ≠ (.slice Ao15 t319.length co15 : Value).ownBlock ∧ some k_ ≠ (.slice Ao18 t322.length co18 : Value).ownBlock ∧ some k_ ≠ (.slice Ao30 t330.length co30 : Value).ownBlock ∧ some k_ ≠ (.slice Ao31 t333.length co31 : Value).ownBlock) (.slice Ao22 y326.length co22) y326) := ⟨by (with_reducible repeat (first | apply Kd.R_alloc | apply Kd.R_drewN | apply Kd.R_drew)); exact Kd.R_mono (Kd.R_far (p := ⟨gb337, 2, none⟩) (Kd.R_far (p := ⟨gb337, 1, none⟩) (Kd.R_far (p := ⟨gb337, 0, none⟩) (Kd.R_types HO328.out BK337.out (by decide)) (fun _ hk => hk.2) (.bool t329)) (fun _ hk => hk.2) (.slice Ao30 t330.length co30)) (fun _ hk => hk.2) (.slice Ao31 t333.length co31)) (fun _ hk => ⟨hk.1.1.1.1.2, ⟨hk.1.1.1.2, ⟨hk.1.1.2, hk.1.2⟩⟩⟩)⟩
  have n3_ : Aside0 (Kd.R (Kd.int .u64) 26 (((w25.setCell ⟨gb337, 0, none⟩ (.bool t329)).setCell ⟨gb337, 1, none⟩ (.slice Ao30 t330.length co30)).setCell ⟨gb337, 2, none⟩ (.slice Ao31 t333.length co31)) w.heap.size (fun k_ => some k_ ≠ (.slice Ao15 t319.length co15 : Value).ownBlock ∧ some k_ ≠ (.slice Ao18 t322.length co18 : Value).ownBlock ∧ some k_ ≠ (.slice Ao22 y326.length co22 : Value).ownBlock ∧ some k_ ≠ (.slice Ao31 t333.length co31 : Value).ownBlock) (.slice Ao30 t330.length co30) t330) := ⟨by (with_reducible repeat (first | apply Kd.R_alloc | apply Kd.R_drewN | apply Kd.R_drew)); exact Kd.R_mono (Kd.R_far (p := ⟨gb337, 2, none⟩) (Kd.R_far (p := ⟨gb337, 1, none⟩) (Kd.R_far (p := ⟨gb337, 0, none⟩) (Kd.R_types HO332.out BK337.out (by decide)) (fun _ hk => hk.2) (.bool t329)) (fun _ hk => hk.2) (.slice Ao30 t330.length co30)) (fun _ hk => hk.2) (.slice Ao31 t333.length co31)) (fun _ hk => ⟨hk.1.1.1.2, ⟨hk.1.1.2, ⟨hk.1.2, hk.1.1.1.1⟩⟩⟩)⟩
  have n4_ : Aside0 (Kd.R (Kd.int .u64) 26 (((w25.setCell ⟨gb337, 0, none⟩ (.bool t329)).setCell ⟨gb337, 1, none⟩ (.slice Ao30 t330.length co30)).setCell ⟨gb337, 2, none⟩ (.slice Ao31 t333.length co31)) w.heap.size (fun k_ => some k_ ≠ (.slice Ao15 t319.length co15 : Value).ownBlock ∧ some k_ ≠ (.slice Ao18 t322.length co18 : Value).ownBlock ∧ some k_ ≠ (.slice Ao22 y326.length co22 : Value).ownBlock ∧ some k_ ≠ (.slice Ao30 t330.length co30 : Value).ownBlock) (.slice Ao31 t333.length co31) t333) := ⟨by (with_reducible repeat (first | apply Kd.R_alloc | apply Kd.R_drewN | apply Kd.R_drew)); exact Kd.R_mono (Kd.R_far (p := ⟨gb337, 2, none⟩) (Kd.R_far (p := ⟨gb337, 1, none⟩) (Kd.R_far (p := ⟨gb337, 0, none⟩) (Kd.R_types HO335.out BK337.out (by decide)) (fun _ hk => hk.2) (.bool t329)) (fun _ hk => hk.2) (.slice Ao30 t330.length co30)) (fun _ hk => hk.2) (.slice Ao31 t333.length co31)) (fun _ hk => ⟨hk.1.1.1.2, ⟨hk.1.1.2, ⟨hk.1.2, hk.1.1.1.1⟩⟩⟩)⟩
  have n5_ : Aside0 ((((w25.setCell ⟨gb337, 0, none⟩ (.bool t329)).setCell ⟨gb337, 1, none⟩ (.slice Ao30 t330.length co30)).setCell ⟨gb337, 2, none⟩ (.slice Ao31 t333.length co31)).heap[gb316]? = some (.cells #[.bool a0_0, .slice Ao15 t319.length co15, .slice Ao22 y326.length co22] 36 (0, 0))) := ⟨by (with_reducible repeat (first | refine blk_drewN ?_ _ | refine blk_drew ?_ | refine blk_alloc ?_ _)); refine blk_far ?_ NB316_337.out _; (with_reducible repeat (first | refine blk_drewN ?_ _ | refine blk_drew ?_ | refine blk_alloc ?_ _)); refine blk_far ?_ NB316_337.out _; (with_reducible repeat (first | refine blk_drewN ?_ _ | refine blk_drew ?_ | refine blk_alloc ?_ _)); refine blk_far ?_ NB316_337.out _; (with_reducible repeat (first | refine blk_drewN ?_ _ | refine blk_drew ?_ | refine blk_alloc ?_ _)); exact BK316.out⟩
  have n6_ : Aside0 ((((w25.setCell ⟨gb337, 0, none⟩ (.bool t329)).setCell ⟨gb337, 1, none⟩ (.slice Ao30 t330.length co30)).setCell ⟨gb337, 2, none⟩ (.slice Ao31 t333.length co31)).heap[gb317]? = some (.cells #[.bool false, .slice none 0 0, .slice none 0 0] 36 (0, 0))) := ⟨by (with_reducible repeat (first | refine blk_drewN ?_ _ | refine blk_drew ?_ | refine blk_alloc ?_ _)); refine blk_far ?_ NB317_337.out _; (with_reducible repeat (first | refine blk_drewN ?_ _ | refine blk_drew ?_ | refine blk_alloc ?_ _)); refine blk_far ?_ NB317_337.out _; (with_reducible repeat (first | refine blk_drewN ?_ _ | refine blk_drew ?_ | refine blk_alloc ?_ _)); refine blk_far ?_ NB317_337.out _; (with_reducible repeat (first | refine blk_drewN ?_ _ | refine blk_drew ?_ | refine blk_alloc ?_ _)); exact BK317.out⟩
  have n7_ : Aside0 ((((w25.setCell ⟨gb337, 0, none⟩ (.bool t329)).setCell ⟨gb337, 1, none⟩ (.slice Ao30 t330.length co30)).setCell ⟨gb337, 2, none⟩ (.slice Ao31 t333.length co31)).heap[gb318]? = some (.cells #[.bool false, .slice none 0 0, .slice none 0 0] 46 (0, 0))) := ⟨by (with_reducible repeat (first | refine blk_drewN ?_ _ | refine blk_drew ?_ | refine blk_alloc ?_ _)); refine blk_far ?_ NB318_337.out _; (with_reducible repeat (first | refine blk_drewN ?_ _ | refine blk_drew ?_ | refine blk_alloc ?_ _)); refine blk_far ?_ NB318_337.out _; (with_reducible repeat (first | refine blk_drewN ?_ _ | refine blk_drew ?_ | refine blk_alloc ?_ _)); refine blk_far ?_ NB318_337.out _; (with_reducible repeat (first | refine blk_drewN ?_ _ | refine blk_drew ?_ | refine blk_alloc ?_ _)); exact BK318.out⟩
  have n8_ : Aside0 ((((w25.setCell ⟨gb337, 0, none⟩ (.bool t329)).setCell ⟨gb337, 1, none⟩ (.slice Ao30 t330.length co30)).setCell ⟨gb337, 2, none⟩ (.slice Ao31 t333.length co31)).heap[gb337]? = some (.cells #[.bool t329, .slice Ao30 t330.length co30, .slice Ao31 t333.length co31] 46 (0, 0))) := ⟨dP BK337.out⟩
  have n9_ : Aside0 (Below w.heap.size w (((w25.setCell ⟨gb337, 0, none⟩ (.bool t329)).setCell ⟨gb337, 1, none⟩ (.slice Ao30 t330.length co30)).setCell ⟨gb337, 2, none⟩ (.slice Ao31 t333.length co31))) := ⟨eB⟩
  (try clear HO321)
  (try clear HO324)
  (try clear HO328)
  (try clear HO332)
  (try clear HO335)
  (try clear BK316)
  (try clear BK317)
  (try clear BK318)
  (try clear BK337)
  (try clear HB)
  generalize (((w25.setCell ⟨gb337, 0, none⟩ (.bool t329)).setCell ⟨gb337, 1, none⟩ (.slice Ao30 t330.length co30)).setCell ⟨gb337, 2, none⟩ (.slice Ao31 t333.length co31)) = w32 at n0_ n1_ n2_ n3_ n4_ n5_ n6_ n7_ n8_ n9_ ⊢
  have HO321 := n0_
  have HO324 := n1_
  have HO328 := n2_
  have HO332 := n3_
  have HO335 := n4_
  have BK316 := n5_
  have BK317 := n6_
  have BK318 := n7_
  have BK337 := n8_
  have HB := n9_
  clear n0_ n1_ n2_ n3_ n4_ n5_ n6_ n7_ n8_ n9_
  replace HO321 := Aside0.mk (Kd.R_drew HO321.out)
  replace HO324 := Aside0.mk (Kd.R_drew HO324.out)
  replace HO328 := Aside0.mk (Kd.R_drew HO328.out)
  replace HO332 := Aside0.mk (Kd.R_drew HO332.out)
  replace HO335 := Aside0.mk (Kd.R_drew HO335.out)
  replace BK316 := Aside0.mk (blk_drew BK316.out)
  replace BK317 := Aside0.mk (blk_drew BK317.out)
  replace BK318 := Aside0.mk (blk_drew BK318.out)
  replace BK337 := Aside0.mk (blk_drew BK337.out)
  replace HB := Aside0.mk (below_drew1 HB.out)
  refine start_ (n := 8) (S := fun w' => w'.cell? ⟨gb316, 0, none⟩ = some (.bool a0_0) ∧ w'.cell? ⟨gb316, 1, none⟩ = some (.slice Ao15 t319.length co15) ∧ w'.cell? ⟨gb316, 2, none⟩ = some (.slice Ao22 y326.length co22) ∧ w'.cell? ⟨gb337, 0, none⟩ = some (.bool t329) ∧ w'.cell? ⟨gb337, 1, none⟩ = some (.slice Ao30 t330.length co30) ∧ w'.cell? ⟨gb337, 2, none⟩ = some (.slice Ao31 t333.length co31)) (ds := []) #[false, false, false, false, false, false, false, false] (by kernel_rfl) rfl rfl ⟨(blk_cell BK316.out 0).trans rfl, (blk_cell BK316.out 1).trans rfl, (blk_cell BK316.out 2).trans rfl, (blk_cell BK337.out 0).trans rfl, (blk_cell BK337.out 1).trans rfl, (blk_cell BK337.out 2).trans rfl⟩ (fun hHeld => ?_); refine with_tabW plumblaw07_exact.tab6 plumblaw07_exact.bits6 (fun HT_ HW_ => ?_)
  generalize w32.drew = w33 at HO321 HO324 HO328 HO332 HO335 BK316 BK317 BK318 BK337 HB hHeld ⊢
  refine pP 2 (some 33) ?_
  refine pH6 0 (some 31) hHeld ?_
  refine pH6 1 (some 32) hHeld ?_
  refine one_ (i := 3) (N := some 34) #[true, true, true, true, false, false, false, false] rfl rfl (one_of HT_.out (by kernel_rfl)) (by decide) (fun K hK => ?_)
  refine goes_ Tryd.func15 (by kernel_rfl) rfl #[.int .i64 t336] (by rfl) rfl rfl dA ?_
  with_reducible refine (plumblaw07_num.calls t336 t338 _ A7.out).mono ?_
  rintro e w' ⟨rfl, ⟨nd, rfl⟩⟩
  refine ⟨_, rfl, ?_⟩
  refine hK.out _ _ ⟨(blk_cell BK316.out 0).trans rfl, (blk_cell BK316.out 1).trans rfl, (blk_cell BK316.out 2).trans rfl, (blk_cell BK337.out 0).trans rfl, (blk_cell BK337.out 1).trans rfl, (blk_cell BK337.out 2).trans rfl⟩ (fun hHeld => ?_)
  clear hK K
  refine norm_ (a' := ?_) ?_ ?_
  rotate_left
  ·show Act.put _ (some 34) _ = _
   simp only [Act.put, List.setIfInBounds_toArray, List.set_cons_zero, List.set_cons_succ, i64_w, i32_w]
   rfl
  refine pP 4 (some 35) ?_
  refine one_ (i := 5) (N := none) #[true, true, true, true, true, true, false, false] rfl rfl (one_of HT_.out (by kernel_rfl)) (by decide) (fun K hK => ?_)
  have hs34 : w33.cell? ⟨gb317, 0, none⟩ = some (.bool false) := (blk_cell BK317.out 0).trans rfl
  have hfs34 := blk_frozen BK317.out 0
  have hns34_0 := NB316_317.out
  have hns34_2 := NB318_317.out
  have hns34_3 := NB337_317.out
  have hms34_0 := NB317_316.out
  have hms34_2 := NB317_318.out
  have hms34_3 := NB317_337.out
  have hs35 : w33.cell? ⟨gb317, 1, none⟩ = some (.slice none 0 0) := (blk_cell BK317.out 1).trans rfl
  have hfs35 := blk_frozen BK317.out 1
  have hns35_0 := NB316_317.out
  have hns35_2 := NB318_317.out
  have hns35_3 := NB337_317.out
  have hms35_0 := NB317_316.out
  have hms35_2 := NB317_318.out
  have hms35_3 := NB317_337.out
  have hs36 : w33.cell? ⟨gb317, 2, none⟩ = some (.slice none 0 0) := (blk_cell BK317.out 2).trans rfl
  have hfs36 := blk_frozen BK317.out 2
  have hns36_0 := NB316_317.out
  have hns36_2 := NB318_317.out
  have hns36_3 := NB337_317.out
  have hms36_0 := NB317_316.out
  have hms36_2 := NB317_318.out
  have hms36_3 := NB317_337.out
  refine skip_ (w1 := ?_) (by rfl) rfl ?_ ?_
  rotate_left
  ·go_simp
   rfl
  refine hK.out _ _ ⟨((cell_far (p := ⟨gb317, _, none⟩) NB316_317.out _).trans (((cell_far (p := ⟨gb317, _, none⟩) NB316_317.out _).trans (((cell_far (p := ⟨gb317, _, none⟩) NB316_317.out _).trans (hHeld.1)))))), ((cell_far (p := ⟨gb317, _, none⟩) NB316_317.out _).trans (((cell_far (p := ⟨gb317, _, none⟩) NB316_317.out _).trans (((cell_far (p := ⟨gb317, _, none⟩) NB316_317.out _).trans (hHeld.2.1)))))), ((cell_far (p := ⟨gb317, _, none⟩) NB316_317.out _).trans (((cell_far (p := ⟨gb317, _, none⟩) NB316_317.out _).trans (((cell_far (p := ⟨gb317, _, none⟩) NB316_317.out _).trans (hHeld.2.2.1)))))), ((cell_far (p := ⟨gb317, _, none⟩) NB337_317.out _).trans (((cell_far (p := ⟨gb317, _, none⟩) NB337_317.out _).trans (((cell_far (p := ⟨gb317, _, none⟩) NB337_317.out _).trans (hHeld.2.2.2.1)))))), ((cell_far (p := ⟨gb317, _, none⟩) NB337_317.out _).trans (((cell_far (p := ⟨gb317, _, none⟩) NB337_317.out _).trans (((cell_far (p := ⟨gb317, _, none⟩) NB337_317.out _).trans (hHeld.2.2.2.2.1)))))), ((cell_far (p := ⟨gb317, _, none⟩) NB337_317.out _).trans (((cell_far (p := ⟨gb317, _, none⟩) NB337_317.out _).trans (((cell_far (p := ⟨gb317, _, none⟩) NB337_317.out _).trans (hHeld.2.2.2.2.2))))))⟩ (fun hHeld => ?_)
  clear hK K
  refine one_ (i := 6) (N := none) #[true, true, true, true, true, true, true, false] rfl rfl (one_of HT_.out (by kernel_rfl)) (by decide) (fun K hK => ?_)
  have hs37 : w33.cell? ⟨gb318, 0, none⟩ = some (.bool false) := (blk_cell BK318.out 0).trans rfl
  have hfs37 := blk_frozen BK318.out 0
  have hns37_0 := NB316_318.out
  have hns37_1 := NB317_318.out
  have hns37_3 := NB337_318.out
  have hms37_0 := NB318_316.out
  have hms37_1 := NB318_317.out
  have hms37_3 := NB318_337.out
  have hs38 : w33.cell? ⟨gb318, 1, none⟩ = some (.slice none 0 0) := (blk_cell BK318.out 1).trans rfl
  have hfs38 := blk_frozen BK318.out 1
  have hns38_0 := NB316_318.out
  have hns38_1 := NB317_318.out
  have hns38_3 := NB337_318.out
  have hms38_0 := NB318_316.out
  have hms38_1 := NB318_317.out
  have hms38_3 := NB318_337.out
  have hs39 : w33.cell? ⟨gb318, 2, none⟩ = some (.slice none 0 0) := (blk_cell BK318.out 2).trans rfl
  have hfs39 := blk_frozen BK318.out 2
  have hns39_0 := NB316_318.out
  have hns39_1 := NB317_318.out
  have hns39_3 := NB337_318.out
  have hms39_0 := NB318_316.out
  have hms39_1 := NB318_317.out
  have hms39_3 := NB318_337.out
  refine skip_ (w1 := ?_) (by rfl) rfl ?_ ?_
  rotate_left
  ·go_simp
   rfl
  refine hK.out _ _ ⟨((cell_far (p := ⟨gb318, _, none⟩) NB316_318.out _).trans (((cell_far (p := ⟨gb318, _, none⟩) NB316_318.out _).trans (((cell_far (p := ⟨gb318, _, none⟩) NB316_318.out _).trans (hHeld.1)))))), ((cell_far (p := ⟨gb318, _, none⟩) NB316_318.out _).trans (((cell_far (p := ⟨gb318, _, none⟩) NB316_318.out _).trans (((cell_far (p := ⟨gb318, _, none⟩) NB316_318.out _).trans (hHeld.2.1)))))), ((cell_far (p := ⟨gb318, _, none⟩) NB316_318.out _).trans (((cell_far (p := ⟨gb318, _, none⟩) NB316_318.out _).trans (((cell_far (p := ⟨gb318, _, none⟩) NB316_318.out _).trans (hHeld.2.2.1)))))), ((cell_far (p := ⟨gb318, _, none⟩) NB337_318.out _).trans (((cell_far (p := ⟨gb318, _, none⟩) NB337_318.out _).trans (((cell_far (p := ⟨gb318, _, none⟩) NB337_318.out _).trans (hHeld.2.2.2.1)))))), ((cell_far (p := ⟨gb318, _, none⟩) NB337_318.out _).trans (((cell_far (p := ⟨gb318, _, none⟩) NB337_318.out _).trans (((cell_far (p := ⟨gb318, _, none⟩) NB337_318.out _).trans (hHeld.2.2.2.2.1)))))), ((cell_far (p := ⟨gb318, _, none⟩) NB337_318.out _).trans (((cell_far (p := ⟨gb318, _, none⟩) NB337_318.out _).trans (((cell_far (p := ⟨gb318, _, none⟩) NB337_318.out _).trans (hHeld.2.2.2.2.2))))))⟩ (fun hHeld => ?_)
  clear hK K
  refine pP 7 (some 4) ?_
  refine done_ (done_of HT_.out (by kernel_rfl)) ?_
  try go_wp2
  refine bodyPost_ret (results_list (rs := [.cell 2 36, .cell 3 46, .tmp 4]) rfl (by simp) (.cell gb317 36 #[.bool a0_0, .slice Ao15 t319.length co15, .slice Ao22 y326.length co22] (0, 0) _ rfl (by (with_reducible repeat (first | refine blk_drewN ?_ _ | refine blk_drew ?_ | refine blk_alloc ?_ _)); refine blk_far ?_ NB317_318.out _; (with_reducible repeat (first | refine blk_drewN ?_ _ | refine blk_drew ?_ | refine blk_alloc ?_ _)); refine blk_far ?_ NB317_318.out _; (with_reducible repeat (first | refine blk_drewN ?_ _ | refine blk_drew ?_ | refine blk_alloc ?_ _)); refine blk_far ?_ NB317_318.out _; (with_reducible repeat (first | refine blk_drewN ?_ _ | refine blk_drew ?_ | refine blk_alloc ?_ _)); refine blk_put (cs := #[.bool a0_0, .slice Ao15 t319.length co15, .slice none 0 0]) ?_ 2 _ rfl; (with_reducible repeat (first | refine blk_drewN ?_ _ | refine blk_drew ?_ | refine blk_alloc ?_ _)); refine blk_put (cs := #[.bool a0_0, .slice none 0 0, .slice none 0 0]) ?_ 1 _ rfl; (with_reducible repeat (first | refine blk_drewN ?_ _ | refine blk_drew ?_ | refine blk_alloc ?_ _)); refine blk_put (cs := #[.bool false, .slice none 0 0, .slice none 0 0]) ?_ 0 _ rfl; (with_reducible repeat (first | refine blk_drewN ?_ _ | refine blk_drew ?_ | refine blk_alloc ?_ _)); exact BK317.out) Tryd.underlying36 rfl (by kernel_rfl) (.cell gb318 46 #[.bool t329, .slice Ao30 t330.length co30, .slice Ao31 t333.length co31] (0, 0) _ rfl (by (with_reducible repeat (first | refine blk_drewN ?_ _ | refine blk_drew ?_ | refine blk_alloc ?_ _)); refine blk_put (cs := #[.bool t329, .slice Ao30 t330.length co30, .slice none 0 0]) ?_ 2 _ rfl; (with_reducible repeat (first | refine blk_drewN ?_ _ | refine blk_drew ?_ | refine blk_alloc ?_ _)); refine blk_put (cs := #[.bool t329, .slice none 0 0, .slice none 0 0]) ?_ 1 _ rfl; (with_reducible repeat (first | refine blk_drewN ?_ _ | refine blk_drew ?_ | refine blk_alloc ?_ _)); refine blk_put (cs := #[.bool false, .slice none 0 0, .slice none 0 0]) ?_ 0 _ rfl; (with_reducible repeat (first | refine blk_drewN ?_ _ | refine blk_drew ?_ | refine blk_alloc ?_ _)); refine blk_far ?_ NB318_317.out _; (with_reducible repeat (first | refine blk_drewN ?_ _ | refine blk_drew ?_ | refine blk_alloc ?_ _)); refine blk_far ?_ NB318_317.out _; (with_reducible repeat (first | refine blk_drewN ?_ _ | refine blk_drew ?_ | refine blk_alloc ?_ _)); refine blk_far ?_ NB318_317.out _; (with_reducible repeat (first | refine blk_drewN ?_ _ | refine blk_drew ?_ | refine blk_alloc ?_ _)); exact BK318.out) Tryd.underlying46 rfl (by kernel_rfl) (.tmp .nil)))) rfl ?_
  exact ⟨_, _, _, _, dE, by (with_reducible repeat (first | apply Kd.R_alloc | apply Kd.R_drewN | apply Kd.R_drew)); exact Kd.R_mono (Kd.R_far (p := ⟨gb318, 2, none⟩) (Kd.R_far (p := ⟨gb318, 1, none⟩) (Kd.R_far (p := ⟨gb318, 0, none⟩) (Kd.R_far (p := ⟨gb317, 2, none⟩) (Kd.R_far (p := ⟨gb317, 1, none⟩) (Kd.R_far (p := ⟨gb317, 0, none⟩) (Kd.R_types (Kd.R_types HO321.out BK317.out (by decide)) BK318.out (by decide)) (fun _ hk => hk.1.2) (.bool a0_0)) (fun _ hk => hk.1.2) (.slice Ao15 t319.length co15)) (fun _ hk => hk.1.2) (.slice Ao22 y326.length co22)) (fun _ hk => hk.2) (.bool t329)) (fun _ hk => hk.2) (.slice Ao30 t330.length co30)) (fun _ hk => hk.2) (.slice Ao31 t333.length co31)) (fun _ hk => ⟨hk.1.1.2.1, ⟨hk.1.1.2.2.1, hk.1.1.2.2.2⟩⟩), by (with_reducible repeat (first | apply Kd.R_alloc | apply Kd.R_drewN | apply Kd.R_drew)); exact Kd.R_mono (Kd.R_far (p := ⟨gb318, 2, none⟩) (Kd.R_far (p := ⟨gb318, 1, none⟩) (Kd.R_far (p := ⟨gb318, 0, none⟩) (Kd.R_far (p := ⟨gb317, 2, none⟩) (Kd.R_far (p := ⟨gb317, 1, none⟩) (Kd.R_far (p := ⟨gb317, 0, none⟩) (Kd.R_types (Kd.R_types HO328.out BK317.out (by decide)) BK318.out (by decide)) (fun _ hk => hk.1.2) (.bool a0_0)) (fun _ hk => hk.1.2) (.slice Ao15 t319.length co15)) (fun _ hk => hk.1.2) (.slice Ao22 y326.length co22)) (fun _ hk => hk.2) (.bool t329)) (fun _ hk => hk.2) (.slice Ao30 t330.length co30)) (fun _ hk => hk.2) (.slice Ao31 t333.length co31)) (fun _ hk => ⟨hk.1.1.1, ⟨hk.1.1.2.2.1, hk.1.1.2.2.2⟩⟩), by (with_reducible repeat (first | apply Kd.R_alloc | apply Kd.R_drewN | apply Kd.R_drew)); exact Kd.R_mono (Kd.R_far (p := ⟨gb318, 2, none⟩) (Kd.R_far (p := ⟨gb318, 1, none⟩) (Kd.R_far (p := ⟨gb318, 0, none⟩) (Kd.R_far (p := ⟨gb317, 2, none⟩) (Kd.R_far (p := ⟨gb317, 1, none⟩) (Kd.R_far (p := ⟨gb317, 0, none⟩) (Kd.R_types (Kd.R_types HO332.out BK317.out (by decide)) BK318.out (by decide)) (fun _ hk => hk.1.2) (.bool a0_0)) (fun _ hk => hk.1.2) (.slice Ao15 t319.length co15)) (fun _ hk => hk.1.2) (.slice Ao22 y326.length co22)) (fun _ hk => hk.2) (.bool t329)) (fun _ hk => hk.2) (.slice Ao30 t330.length co30)) (fun _ hk => hk.2) (.slice Ao31 t333.length co31)) (fun _ hk => ⟨hk.1.1.1, ⟨hk.1.1.2.2.1, hk.1.1.2.2.2⟩⟩), by (with_reducible repeat (first | apply Kd.R_alloc | apply Kd.R_drewN | apply Kd.R_drew)); exact Kd.R_mono (Kd.R_far (p := ⟨gb318, 2, none⟩) (Kd.R_far (p := ⟨gb318, 1, none⟩) (Kd.R_far (p := ⟨gb318, 0, none⟩) (Kd.R_far (p := ⟨gb317, 2, none⟩) (Kd.R_far (p := ⟨gb317, 1, none⟩) (Kd.R_far (p := ⟨gb317, 0, none⟩) (Kd.R_types (Kd.R_types HO335.out BK317.out (by decide)) BK318.out (by decide)) (fun _ hk => hk.1.2) (.bool a0_0)) (fun _ hk => hk.1.2) (.slice Ao15 t319.length co15)) (fun _ hk => hk.1.2) (.slice Ao22 y326.length co22)) (fun _ hk => hk.2) (.bool t329)) (fun _ hk => hk.2) (.slice Ao30 t330.length co30)) (fun _ hk => hk.2) (.slice Ao31 t333.length co31)) (fun _ hk => ⟨hk.1.1.1, ⟨hk.1.1.2.2.1, hk.1.1.2.2.2⟩⟩), eB⟩
 ·rw [if_neg c5] at H
  have c5b0 : (t325 == 0) = false := beq_eq_false_iff_ne.mpr c5
  have c5b1 : (t325 != 0) = true := bne_iff_ne.mpr c5
  replace H := obe H
  obtain ⟨⟨t339, t340, t343, t346⟩, A400, H⟩ := H
  (try dsimp only at H)
  have A40 := Aside0.mk A400
  clear A400
  replace H := obe H
  obtain ⟨t348, A410, H⟩ := H
  (try dsimp only at H)
  have A41 := Aside0.mk A410
  clear A410
  simp only [Option.some.injEq, Prod.mk.injEq] at H
  obtain ⟨rfl, rfl, rfl, rfl, rfl, rfl, rfl⟩ := H
  go_enter Tryd.func23, Tryd.ntmps23
  try go_wp2_with (first | ((with_reducible refine gate_dst (N := 1) rfl ?_); refine bE 1 #[.bool a0_0, .slice A0_1 l0_1.length c0_1, .slice A0_2 l0_2.length c0_2] 36 ?_; intro gb316 hg w42 hbox hb; have BK316 := Aside0.mk (hbox); have GE316 : Aside0 (w.heap.size ≤ gb316) := gE hg; replace HB := hS HB.out hb; clear hb hbox hg) | ((with_reducible refine gate_dst (N := 2) rfl ?_); refine bE 2 #[.bool false, .slice none 0 0, .slice none 0 0] 36 ?_; intro gb317 hg w43 hbox hb; have BK317 := Aside0.mk (hbox); have GE317 : Aside0 (w.heap.size ≤ gb317) := gE hg; replace HB := hS HB.out hb; have NB316_317 := nL hg BK316.out; have NB317_316 := nG hg BK316.out; replace BK316 := bB BK316.out hb; clear hb hbox hg) | ((with_reducible refine gate_dst (N := 3) rfl ?_); refine bE 3 #[.bool false, .slice none 0 0, .slice none 0 0] 46 ?_; intro gb318 hg w44 hbox hb; have BK318 := Aside0.mk (hbox); have GE318 : Aside0 (w.heap.size ≤ gb318) := gE hg; replace HB := hS HB.out hb; have NB316_318 := nL hg BK316.out; have NB318_316 := nG hg BK316.out; replace BK316 := bB BK316.out hb; have NB317_318 := nL hg BK317.out; have NB318_317 := nG hg BK317.out; replace BK317 := bB BK317.out hb; clear hb hbox hg; have hnb45 := NB316_317.out; have hnc45 := NB317_316.out; have hnb46 := NB316_318.out; have hnc46 := NB318_316.out; obtain ⟨hcz47_0, hcz47_1, hcz47_2⟩ := cz3 BK316.out; obtain ⟨hfz47_0, hfz47_1, hfz47_2⟩ := fz3 BK316.out) | ((with_reducible refine gate_callee (f := 20) rfl ?_); refine gL (some 9) Tryd.func20 #[.slice A0_1 l0_1.length c0_1, .int .i64 60] ?_; (with_reducible refine (plumblaw07_bounded.calls k _ _ l0_1 60 t319 _ ?side1 HC0_1.out A2.out).mono ?_); (case side1 => exact dC (Kd.C_below HR0_1.out HB.out)); rintro e w48 ⟨v320, rfl, ho0, hb⟩; refine ⟨_, rfl, ?_⟩; have HO321 := Aside0.mk (Kd.R_lower ho0 (below_size eB)); replace BK316 := bB BK316.out hb; replace BK317 := bB BK317.out hb; replace BK318 := bB BK318.out hb; replace HB := hS HB.out hb; (try clear hb); (try clear ho0); obtain ⟨Ao49, co49, rfl⟩ := Kd.R_slice HO321.out; obtain ⟨hcz50_0, hcz50_1, hcz50_2⟩ := cz3 BK316.out; obtain ⟨hfz50_0, hfz50_1, hfz50_2⟩ := fz3 BK316.out) | ((with_reducible refine gate_callee (f := 20) rfl ?_); refine gL (some 13) Tryd.func20 #[.slice A0_2 l0_2.length c0_2, .int .i64 60] ?_; (with_reducible refine (plumblaw07_bounded.calls k _ _ l0_2 60 t322 _ ?side1 HC0_2.out A3.out).mono ?_); (case side1 => exact Kd.C_below HR0_2.out eB); rintro e w51 ⟨v323, rfl, ho0, hb⟩; refine ⟨_, rfl, ?_⟩; have HO324 := Aside0.mk (Kd.R_lower (Kd.R_new' ho0 (Kd.R_lt (by (with_reducible repeat (first | apply Kd.R_alloc | apply Kd.R_drewN | apply Kd.R_drew)); exact (Kd.R_mono (Kd.R_far (p := ⟨gb316, 1, none⟩) (Kd.R_types HO321.out BK316.out (by decide)) (fun _ hk => hk.2) (.slice Ao49 t319.length co49)) (fun _ h_ => h_.1))))) (below_size eB)); replace HO321 := Aside0.mk (Kd.R_elder' (by (with_reducible repeat (first | apply Kd.R_alloc | apply Kd.R_drewN | apply Kd.R_drew)); exact (Kd.R_mono (Kd.R_far (p := ⟨gb316, 1, none⟩) (Kd.R_types HO321.out BK316.out (by decide)) (fun _ hk => hk.2) (.slice Ao49 t319.length co49)) (fun _ h_ => h_.1))) (Kd.R_base ho0) hb); replace BK316 := Aside0.mk (blk_below (g := gb316) (o := .cells #[.bool a0_0, .slice Ao49 t319.length co49, .slice A0_2 l0_2.length c0_2] 36 (0, 0)) (dP BK316.out) hb); replace BK317 := Aside0.mk (blk_below (g := gb317) (o := .cells #[.bool false, .slice none 0 0, .slice none 0 0] 36 (0, 0)) (by (with_reducible repeat (first | refine blk_drewN ?_ _ | refine blk_drew ?_ | refine blk_alloc ?_ _)); refine blk_far ?_ NB317_316.out _; (with_reducible repeat (first | refine blk_drewN ?_ _ | refine blk_drew ?_ | refine blk_alloc ?_ _)); exact BK317.out) hb); replace BK318 := Aside0.mk (blk_below (g := gb318) (o := .cells #[.bool false, .slice none 0 0, .slice none 0 0] 46 (0, 0)) (by (with_reducible repeat (first | refine blk_drewN ?_ _ | refine blk_drew ?_ | refine blk_alloc ?_ _)); refine blk_far ?_ NB318_316.out _; (with_reducible repeat (first | refine blk_drewN ?_ _ | refine blk_drew ?_ | refine blk_alloc ?_ _)); exact BK318.out) hb); replace HB := hS HB.out hb; (try clear hb); (try clear ho0); obtain ⟨Ao52, co52, rfl⟩ := Kd.R_slice HO324.out; obtain ⟨hcz53_0, hcz53_1, hcz53_2⟩ := cz3 BK316.out; obtain ⟨hfz53_0, hfz53_1, hfz53_2⟩ := fz3 BK316.out) | ((with_reducible refine gate_callee (f := 58) rfl ?_); refine gL (some 17) Tryd.func58 #[.slice Ao52 t322.length co52, .slice none 0 0] ?_; (refine (nat_Cmp.calls k _ _ t322 _ _ ([] : List Int) t325 _ ?side1 (Kd.R_reads' HO324.out).2.1 ?side3 ?side4 A4.out).mono ?_); (case side1 => refine (Kd.R_reads' (e := 26) (base := w.heap.size) (ok := fun k_ => (True ∧ some k_ ≠ (.slice Ao49 t319.length co49 : Value).ownBlock)) (n := t322.length) (c := co52) ?_).2.2; exact (by (with_reducible repeat (first | apply Kd.R_alloc | apply Kd.R_drewN | apply Kd.R_drew)); exact (Kd.R_mono (Kd.R_far (p := ⟨gb316, 2, none⟩) (Kd.R_types HO324.out BK316.out (by decide)) (fun _ hk => hk.2) (.slice Ao52 t322.length co52)) (fun _ h_ => h_.1)))); (case side3 => exact Kd.C_nil _ _); (case side4 => exact Nat.le_refl _); rintro e w' ⟨rfl, ⟨nd, rfl⟩⟩; refine ⟨_, rfl, ?_⟩) | ((with_reducible refine gate_callee (f := 59) rfl ?_); refine gL (some 28) Tryd.func59 #[.bool a0_0, .slice Ao49 t319.length co49, .slice Ao52 t322.length co52] ?_; (with_reducible refine (rat_New.calls k a0_0 _ _ t319 _ _ t322 t339 t340 t343 t346 _ ?side1 (Kd.R_reads' HO321.out).2.1 ?side3 (Kd.R_reads' HO324.out).2.1 A40.out).mono ?_); (case side1 => refine (Kd.R_reads' (e := 26) (base := w.heap.size) (ok := fun k_ => (True ∧ some k_ ≠ (.slice Ao52 t322.length co52 : Value).ownBlock)) (n := t319.length) (c := co49) ?_).2.2; exact (by (with_reducible repeat (first | apply Kd.R_alloc | apply Kd.R_drewN | apply Kd.R_drew)); exact (Kd.R_mono (Kd.R_far (p := ⟨gb316, 2, none⟩) (Kd.R_types HO321.out BK316.out (by decide)) (fun _ hk => hk.2) (.slice Ao52 t322.length co52)) (fun _ h_ => h_.1)))); (case side3 => refine (Kd.R_reads' (e := 26) (base := w.heap.size) (ok := fun k_ => (True ∧ some k_ ≠ (.slice Ao49 t319.length co49 : Value).ownBlock)) (n := t322.length) (c := co52) ?_).2.2; exact (by (with_reducible repeat (first | apply Kd.R_alloc | apply Kd.R_drewN | apply Kd.R_drew)); exact (Kd.R_mono (Kd.R_far (p := ⟨gb316, 2, none⟩) (Kd.R_types HO324.out BK316.out (by decide)) (fun _ hk => hk.2) (.slice Ao52 t322.length co52)) (fun _ h_ => h_.1)))); rintro e w54 ⟨v341, v344, rfl, ho0, ho1, hb⟩; refine ⟨_, rfl, ?_⟩; have HO342 := Aside0.mk (Kd.R_lower (Kd.R_new' (Kd.R_new' ho0 (Kd.R_lt (by (with_reducible repeat (first | apply Kd.R_alloc | apply Kd.R_drewN | apply Kd.R_drew)); exact (Kd.R_mono (Kd.R_far (p := ⟨gb316, 2, none⟩) (Kd.R_types HO321.out BK316.out (by decide)) (fun _ hk => hk.2) (.slice Ao52 t322.length co52)) (fun _ h_ => h_.1))))) (Kd.R_lt (by (with_reducible repeat (first | apply Kd.R_alloc | apply Kd.R_drewN | apply Kd.R_drew)); exact (Kd.R_mono (Kd.R_far (p := ⟨gb316, 2, none⟩) (Kd.R_types HO324.out BK316.out (by decide)) (fun _ hk => hk.2) (.slice Ao52 t322.length co52)) (fun _ h_ => h_.1))))) (below_size eB)); have HO345 := Aside0.mk (Kd.R_lower (Kd.R_new' (Kd.R_new' ho1 (Kd.R_lt (by (with_reducible repeat (first | apply Kd.R_alloc | apply Kd.R_drewN | apply Kd.R_drew)); exact (Kd.R_mono (Kd.R_far (p := ⟨gb316, 2, none⟩) (Kd.R_types HO321.out BK316.out (by decide)) (fun _ hk => hk.2) (.slice Ao52 t322.length co52)) (fun _ h_ => h_.1))))) (Kd.R_lt (by (with_reducible repeat (first | apply Kd.R_alloc | apply Kd.R_drewN | apply Kd.R_drew)); exact (Kd.R_mono (Kd.R_far (p := ⟨gb316, 2, none⟩) (Kd.R_types HO324.out BK316.out (by decide)) (fun _ hk => hk.2) (.slice Ao52 t322.length co52)) (fun _ h_ => h_.1))))) (below_size eB)); replace HO321 := Aside0.mk (Kd.R_mono (Kd.R_told (Kd.R_told (Kd.R_old (by (with_reducible repeat (first | apply Kd.R_alloc | apply Kd.R_drewN | apply Kd.R_drew)); exact (Kd.R_mono (Kd.R_far (p := ⟨gb316, 2, none⟩) (Kd.R_types HO321.out BK316.out (by decide)) (fun _ hk => hk.2) (.slice Ao52 t322.length co52)) (fun _ h_ => h_.1))) hb) (Kd.R_base ho0)) (Kd.R_base ho1)) (fun _ h_ => h_.1)); replace HO324 := Aside0.mk (Kd.R_mono (Kd.R_told (Kd.R_told (Kd.R_old (by (with_reducible repeat (first | apply Kd.R_alloc | apply Kd.R_drewN | apply Kd.R_drew)); exact (Kd.R_mono (Kd.R_far (p := ⟨gb316, 2, none⟩) (Kd.R_types HO324.out BK316.out (by decide)) (fun _ hk => hk.2) (.slice Ao52 t322.length co52)) (fun _ h_ => h_.1))) hb) (Kd.R_base ho0)) (Kd.R_base ho1)) (fun _ h_ => h_.1)); replace BK316 := Aside0.mk (blk_below (g := gb316) (o := .cells #[.bool a0_0, .slice Ao49 t319.length co49, .slice Ao52 t322.length co52] 36 (0, 0)) (dP BK316.out) hb); replace BK317 := Aside0.mk (blk_below (g := gb317) (o := .cells #[.bool false, .slice none 0 0, .slice none 0 0] 36 (0, 0)) (by (with_reducible repeat (first | refine blk_drewN ?_ _ | refine blk_drew ?_ | refine blk_alloc ?_ _)); refine blk_far ?_ NB317_316.out _; (with_reducible repeat (first | refine blk_drewN ?_ _ | refine blk_drew ?_ | refine blk_alloc ?_ _)); exact BK317.out) hb); replace BK318 := Aside0.mk (blk_below (g := gb318) (o := .cells #[.bool false, .slice none 0 0, .slice none 0 0] 46 (0, 0)) (by (with_reducible repeat (first | refine blk_drewN ?_ _ | refine blk_drew ?_ | refine blk_alloc ?_ _)); refine blk_far ?_ NB318_316.out _; (with_reducible repeat (first | refine blk_drewN ?_ _ | refine blk_drew ?_ | refine blk_alloc ?_ _)); exact BK318.out) hb); replace HB := hS HB.out hb; (try clear hb); (try clear ho0); (try clear ho1)) | ((with_reducible refine gate_dst (N := 5) rfl ?_); refine bE 5 #[.bool false, .slice none 0 0, .slice none 0 0] 46 ?_; intro gb347 hg w55 hbox hb; replace HO321 := oB HO321.out hb; replace HO324 := oB HO324.out hb; replace HO342 := oB HO342.out hb; replace HO345 := oB HO345.out hb; have BK347 := Aside0.mk (hbox); have GE347 : Aside0 (w.heap.size ≤ gb347) := gE hg; replace HB := hS HB.out hb; have NB316_347 := nL hg BK316.out; have NB347_316 := nG hg BK316.out; replace BK316 := bB BK316.out hb; have NB317_347 := nL hg BK317.out; have NB347_317 := nG hg BK317.out; replace BK317 := bB BK317.out hb; have NB318_347 := nL hg BK318.out; have NB347_318 := nG hg BK318.out; replace BK318 := bB BK318.out hb; clear hb hbox hg; have hnb56 := NB347_316.out; have hnc56 := NB316_347.out; have hnb57 := NB347_317.out; have hnc57 := NB317_347.out; have hnb58 := NB347_318.out; have hnc58 := NB318_347.out; obtain ⟨hcz59_0, hcz59_1, hcz59_2⟩ := cz3 BK347.out; obtain ⟨hfz59_0, hfz59_1, hfz59_2⟩ := fz3 BK347.out; obtain ⟨Ao60, co60, rfl⟩ := Kd.R_slice HO342.out; obtain ⟨Ao61, co61, rfl⟩ := Kd.R_slice HO345.out))
  have n0_ : Aside0 (Kd.R (Kd.int .u64) 26 (((w55.setCell ⟨gb347, 0, none⟩ (.bool t339)).setCell ⟨gb347, 1, none⟩ (.slice Ao60 t340.length co60)).setCell ⟨gb347, 2, none⟩ (.slice Ao61 t343.length co61)) w.heap.size (fun k_ => some k_ ≠ (.slice Ao52 t322.length co52 : Value).ownBlock ∧ some k_ ≠ (.slice Ao60 t340.length co60 : Value).ownBlock ∧ some k_ ≠ (.slice Ao61 t343.length co61 : Value).ownBlock) (.slice Ao49 t319.length co49) t319) := ⟨by (with_reducible repeat (first | apply Kd.R_alloc | apply Kd.R_drewN | apply Kd.R_drew)); exact Kd.R_mono (Kd.R_far (p := ⟨gb347, 2, none⟩) (Kd.R_far (p := ⟨gb347, 1, none⟩) (Kd.R_far (p := ⟨gb347, 0, none⟩) (Kd.R_types HO321.out BK347.out (by decide)) (fun _ hk => hk.2) (.bool t339)) (fun _ hk => hk.2) (.slice Ao60 t340.length co60)) (fun _ hk => hk.2) (.slice Ao61 t343.length co61)) (fun _ hk => ⟨hk.1.1.1.2, ⟨hk.1.1.2, hk.1.2⟩⟩)⟩
  have n1_ : Aside0 (Kd.R (Kd.int .u64) 26 (((w55.setCell ⟨gb347, 0, none⟩ (.bool t339)).setCell ⟨gb347, 1, none⟩ (.slice Ao60 t340.length co60)).setCell ⟨gb347, 2, none⟩ (.slice Ao61 t343.length co61)) w.heap.size (fun k_ => some k_ ≠ (.slice Ao49 t319.length co49 : Value).ownBlock ∧ some k_ ≠ (.slice Ao60 t340.length co60 : Value).ownBlock ∧ some k_ ≠ (.slice Ao61 t343.length co61 : Value).ownBlock) (.slice Ao52 t322.length co52) t322) := ⟨by (with_reducible repeat (first | apply Kd.R_alloc | apply Kd.R_drewN | apply Kd.R_drew)); exact Kd.R_mono (Kd.R_far (p := ⟨gb347, 2, none⟩) (Kd.R_far (p := ⟨gb347, 1, none⟩) (Kd.R_far (p := ⟨gb347, 0, none⟩) (Kd.R_types HO324.out BK347.out (by decide)) (fun _ hk => hk.2) (.bool t339)) (fun _ hk => hk.2) (.slice Ao60 t340.length co60)) (fun _ hk => hk.2) (.slice Ao61 t343.length co61)) (fun _ hk => ⟨hk.1.1.1.2, ⟨hk.1.1.2, hk.1.2⟩⟩)⟩
  have n2_ : Aside0 (Kd.R (Kd.int .u64) 26 (((w55.setCell ⟨gb347, 0, none⟩ (.bool t339)).setCell ⟨gb347, 1, none⟩ (.slice Ao60 t340.length co60)).setCell ⟨gb347, 2, none⟩ (.slice Ao61 t343.length co61)) w.heap.size (fun k_ => some k_ ≠ (.slice Ao49 t319.length co49 : Value).ownBlock ∧ some k_ ≠ (.slice Ao52 t322.length co52 : Value).ownBlock ∧ some k_ ≠ (.slice Ao61 t343.length co61 : Value).ownBlock) (.slice Ao60 t340.length co60) t340) := ⟨by (with_reducible repeat (first | apply Kd.R_alloc | apply Kd.R_drewN | apply Kd.R_drew)); exact Kd.R_mono (Kd.R_far (p := ⟨gb347, 2, none⟩) (Kd.R_far (p := ⟨gb347, 1, none⟩) (Kd.R_far (p := ⟨gb347, 0, none⟩) (Kd.R_types HO342.out BK347.out (by decide)) (fun _ hk => hk.2) (.bool t339)) (fun _ hk => hk.2) (.slice Ao60 t340.length co60)) (fun _ hk => hk.2) (.slice Ao61 t343.length co61)) (fun _ hk => ⟨hk.1.1.2, ⟨hk.1.2, hk.1.1.1⟩⟩)⟩
  have n3_ : Aside0 (Kd.R (Kd.int .u64) 26 (((w55.setCell ⟨gb347, 0, none⟩ (.bool t339)).setCell ⟨gb347, 1, none⟩ (.slice Ao60 t340.length co60)).setCell ⟨gb347, 2, none⟩ (.slice Ao61 t343.length co61)) w.heap.size (fun k_ => some k_ ≠ (.slice Ao49 t319.length co49 : Value).ownBlock ∧ some k_ ≠ (.slice Ao52 t322.length co52 : Value).ownBlock ∧ some k_ ≠ (.slice Ao60 t340.length co60 : Value).ownBlock) (.slice Ao61 t343.length co61) t343) := ⟨by (with_reducible repeat (first | apply Kd.R_alloc | apply Kd.R_drewN | apply Kd.R_drew)); exact Kd.R_mono (Kd.R_far (p := ⟨gb347, 2, none⟩) (Kd.R_far (p := ⟨gb347, 1, none⟩) (Kd.R_far (p := ⟨gb347, 0, none⟩) (Kd.R_types HO345.out BK347.out (by decide)) (fun _ hk => hk.2) (.bool t339)) (fun _ hk => hk.2) (.slice Ao60 t340.length co60)) (fun _ hk => hk.2) (.slice Ao61 t343.length co61)) (fun _ hk => ⟨hk.1.1.2, ⟨hk.1.2, hk.1.1.1⟩⟩)⟩
  have n4_ : Aside0 ((((w55.setCell ⟨gb347, 0, none⟩ (.bool t339)).setCell ⟨gb347, 1, none⟩ (.slice Ao60 t340.length co60)).setCell ⟨gb347, 2, none⟩ (.slice Ao61 t343.length co61)).heap[gb316]? = some (.cells #[.bool a0_0, .slice Ao49 t319.length co49, .slice Ao52 t322.length co52] 36 (0, 0))) := ⟨by (with_reducible repeat (first | refine blk_drewN ?_ _ | refine blk_drew ?_ | refine blk_alloc ?_ _)); refine blk_far ?_ NB316_347.out _; (with_reducible repeat (first | refine blk_drewN ?_ _ | refine blk_drew ?_ | refine blk_alloc ?_ _)); refine blk_far ?_ NB316_347.out _; (with_reducible repeat (first | refine blk_drewN ?_ _ | refine blk_drew ?_ | refine blk_alloc ?_ _)); refine blk_far ?_ NB316_347.out _; (with_reducible repeat (first | refine blk_drewN ?_ _ | refine blk_drew ?_ | refine blk_alloc ?_ _)); exact BK316.out⟩
  have n5_ : Aside0 ((((w55.setCell ⟨gb347, 0, none⟩ (.bool t339)).setCell ⟨gb347, 1, none⟩ (.slice Ao60 t340.length co60)).setCell ⟨gb347, 2, none⟩ (.slice Ao61 t343.length co61)).heap[gb317]? = some (.cells #[.bool false, .slice none 0 0, .slice none 0 0] 36 (0, 0))) := ⟨by (with_reducible repeat (first | refine blk_drewN ?_ _ | refine blk_drew ?_ | refine blk_alloc ?_ _)); refine blk_far ?_ NB317_347.out _; (with_reducible repeat (first | refine blk_drewN ?_ _ | refine blk_drew ?_ | refine blk_alloc ?_ _)); refine blk_far ?_ NB317_347.out _; (with_reducible repeat (first | refine blk_drewN ?_ _ | refine blk_drew ?_ | refine blk_alloc ?_ _)); refine blk_far ?_ NB317_347.out _; (with_reducible repeat (first | refine blk_drewN ?_ _ | refine blk_drew ?_ | refine blk_alloc ?_ _)); exact BK317.out⟩
  have n6_ : Aside0 ((((w55.setCell ⟨gb347, 0, none⟩ (.bool t339)).setCell ⟨gb347, 1, none⟩ (.slice Ao60 t340.length co60)).setCell ⟨gb347, 2, none⟩ (.slice Ao61 t343.length co61)).heap[gb318]? = some (.cells #[.bool false, .slice none 0 0, .slice none 0 0] 46 (0, 0))) := ⟨by (with_reducible repeat (first | refine blk_drewN ?_ _ | refine blk_drew ?_ | refine blk_alloc ?_ _)); refine blk_far ?_ NB318_347.out _; (with_reducible repeat (first | refine blk_drewN ?_ _ | refine blk_drew ?_ | refine blk_alloc ?_ _)); refine blk_far ?_ NB318_347.out _; (with_reducible repeat (first | refine blk_drewN ?_ _ | refine blk_drew ?_ | refine blk_alloc ?_ _)); refine blk_far ?_ NB318_347.out _; (with_reducible repeat (first | refine blk_drewN ?_ _ | refine blk_drew ?_ | refine blk_alloc ?_ _)); exact BK318.out⟩
  have n7_ : Aside0 ((((w55.setCell ⟨gb347, 0, none⟩ (.bool t339)).setCell ⟨gb347, 1, none⟩ (.slice Ao60 t340.length co60)).setCell ⟨gb347, 2, none⟩ (.slice Ao61 t343.length co61)).heap[gb347]? = some (.cells #[.bool t339, .slice Ao60 t340.length co60, .slice Ao61 t343.length co61] 46 (0, 0))) := ⟨dP BK347.out⟩
  have n8_ : Aside0 (Below w.heap.size w (((w55.setCell ⟨gb347, 0, none⟩ (.bool t339)).setCell ⟨gb347, 1, none⟩ (.slice Ao60 t340.length co60)).setCell ⟨gb347, 2, none⟩ (.slice Ao61 t343.length co61))) := ⟨eB⟩
  (try clear HO321)
  (try clear HO324)
  (try clear HO342)
  (try clear HO345)
  (try clear BK316)
  (try clear BK317)
  (try clear BK318)
  (try clear BK347)
  (try clear HB)
  generalize (((w55.setCell ⟨gb347, 0, none⟩ (.bool t339)).setCell ⟨gb347, 1, none⟩ (.slice Ao60 t340.length co60)).setCell ⟨gb347, 2, none⟩ (.slice Ao61 t343.length co61)) = w62 at n0_ n1_ n2_ n3_ n4_ n5_ n6_ n7_ n8_ ⊢
  have HO321 := n0_
  have HO324 := n1_
  have HO342 := n2_
  have HO345 := n3_
  have BK316 := n4_
  have BK317 := n5_
  have BK318 := n6_
  have BK347 := n7_
  have HB := n8_
  clear n0_ n1_ n2_ n3_ n4_ n5_ n6_ n7_ n8_
  replace HO321 := Aside0.mk (Kd.R_drew HO321.out)
  replace HO324 := Aside0.mk (Kd.R_drew HO324.out)
  replace HO342 := Aside0.mk (Kd.R_drew HO342.out)
  replace HO345 := Aside0.mk (Kd.R_drew HO345.out)
  replace BK316 := Aside0.mk (blk_drew BK316.out)
  replace BK317 := Aside0.mk (blk_drew BK317.out)
  replace BK318 := Aside0.mk (blk_drew BK318.out)
  replace BK347 := Aside0.mk (blk_drew BK347.out)
  replace HB := Aside0.mk (below_drew1 HB.out)
  refine start_ (n := 8) (S := fun w' => w'.cell? ⟨gb316, 0, none⟩ = some (.bool a0_0) ∧ w'.cell? ⟨gb316, 1, none⟩ = some (.slice Ao49 t319.length co49) ∧ w'.cell? ⟨gb316, 2, none⟩ = some (.slice Ao52 t322.length co52) ∧ w'.cell? ⟨gb347, 0, none⟩ = some (.bool t339) ∧ w'.cell? ⟨gb347, 1, none⟩ = some (.slice Ao60 t340.length co60) ∧ w'.cell? ⟨gb347, 2, none⟩ = some (.slice Ao61 t343.length co61)) (ds := []) #[false, false, false, false, false, false, false, false] (by kernel_rfl) rfl rfl ⟨(blk_cell BK316.out 0).trans rfl, (blk_cell BK316.out 1).trans rfl, (blk_cell BK316.out 2).trans rfl, (blk_cell BK347.out 0).trans rfl, (blk_cell BK347.out 1).trans rfl, (blk_cell BK347.out 2).trans rfl⟩ (fun hHeld => ?_); refine with_tabW plumblaw07_exact.tab6 plumblaw07_exact.bits6 (fun HT_ HW_ => ?_)
  generalize w62.drew = w63 at HO321 HO324 HO342 HO345 BK316 BK317 BK318 BK347 HB hHeld ⊢
  refine pP 2 (some 33) ?_
  refine pH6 0 (some 31) hHeld ?_
  refine pH6 1 (some 32) hHeld ?_
  refine one_ (i := 3) (N := some 34) #[true, true, true, true, false, false, false, false] rfl rfl (one_of HT_.out (by kernel_rfl)) (by decide) (fun K hK => ?_)
  refine goes_ Tryd.func15 (by kernel_rfl) rfl #[.int .i64 t346] (by rfl) rfl rfl dA ?_
  with_reducible refine (plumblaw07_num.calls t346 t348 _ A41.out).mono ?_
  rintro e w' ⟨rfl, ⟨nd, rfl⟩⟩
  refine ⟨_, rfl, ?_⟩
  refine hK.out _ _ ⟨(blk_cell BK316.out 0).trans rfl, (blk_cell BK316.out 1).trans rfl, (blk_cell BK316.out 2).trans rfl, (blk_cell BK347.out 0).trans rfl, (blk_cell BK347.out 1).trans rfl, (blk_cell BK347.out 2).trans rfl⟩ (fun hHeld => ?_)
  clear hK K
  refine norm_ (a' := ?_) ?_ ?_
  rotate_left
  ·show Act.put _ (some 34) _ = _
   simp only [Act.put, List.setIfInBounds_toArray, List.set_cons_zero, List.set_cons_succ, i64_w, i32_w]
   rfl
  refine pP 4 (some 35) ?_
  refine one_ (i := 5) (N := none) #[true, true, true, true, true, true, false, false] rfl rfl (one_of HT_.out (by kernel_rfl)) (by decide) (fun K hK => ?_)
  have hs64 : w63.cell? ⟨gb317, 0, none⟩ = some (.bool false) := (blk_cell BK317.out 0).trans rfl
  have hfs64 := blk_frozen BK317.out 0
  have hns64_0 := NB316_317.out
  have hns64_2 := NB318_317.out
  have hns64_3 := NB347_317.out
  have hms64_0 := NB317_316.out
  have hms64_2 := NB317_318.out
  have hms64_3 := NB317_347.out
  have hs65 : w63.cell? ⟨gb317, 1, none⟩ = some (.slice none 0 0) := (blk_cell BK317.out 1).trans rfl
  have hfs65 := blk_frozen BK317.out 1
  have hns65_0 := NB316_317.out
  have hns65_2 := NB318_317.out
  have hns65_3 := NB347_317.out
  have hms65_0 := NB317_316.out
  have hms65_2 := NB317_318.out
  have hms65_3 := NB317_347.out
  have hs66 : w63.cell? ⟨gb317, 2, none⟩ = some (.slice none 0 0) := (blk_cell BK317.out 2).trans rfl
  have hfs66 := blk_frozen BK317.out 2
  have hns66_0 := NB316_317.out
  have hns66_2 := NB318_317.out
  have hns66_3 := NB347_317.out
  have hms66_0 := NB317_316.out
  have hms66_2 := NB317_318.out
  have hms66_3 := NB317_347.out
  refine skip_ (w1 := ?_) (by rfl) rfl ?_ ?_
  rotate_left
  ·go_simp
   rfl
  refine hK.out _ _ ⟨((cell_far (p := ⟨gb317, _, none⟩) NB316_317.out _).trans (((cell_far (p := ⟨gb317, _, none⟩) NB316_317.out _).trans (((cell_far (p := ⟨gb317, _, none⟩) NB316_317.out _).trans (hHeld.1)))))), ((cell_far (p := ⟨gb317, _, none⟩) NB316_317.out _).trans (((cell_far (p := ⟨gb317, _, none⟩) NB316_317.out _).trans (((cell_far (p := ⟨gb317, _, none⟩) NB316_317.out _).trans (hHeld.2.1)))))), ((cell_far (p := ⟨gb317, _, none⟩) NB316_317.out _).trans (((cell_far (p := ⟨gb317, _, none⟩) NB316_317.out _).trans (((cell_far (p := ⟨gb317, _, none⟩) NB316_317.out _).trans (hHeld.2.2.1)))))), ((cell_far (p := ⟨gb317, _, none⟩) NB347_317.out _).trans (((cell_far (p := ⟨gb317, _, none⟩) NB347_317.out _).trans (((cell_far (p := ⟨gb317, _, none⟩) NB347_317.out _).trans (hHeld.2.2.2.1)))))), ((cell_far (p := ⟨gb317, _, none⟩) NB347_317.out _).trans (((cell_far (p := ⟨gb317, _, none⟩) NB347_317.out _).trans (((cell_far (p := ⟨gb317, _, none⟩) NB347_317.out _).trans (hHeld.2.2.2.2.1)))))), ((cell_far (p := ⟨gb317, _, none⟩) NB347_317.out _).trans (((cell_far (p := ⟨gb317, _, none⟩) NB347_317.out _).trans (((cell_far (p := ⟨gb317, _, none⟩) NB347_317.out _).trans (hHeld.2.2.2.2.2))))))⟩ (fun hHeld => ?_)
  clear hK K
  refine one_ (i := 6) (N := none) #[true, true, true, true, true, true, true, false] rfl rfl (one_of HT_.out (by kernel_rfl)) (by decide) (fun K hK => ?_)
  have hs67 : w63.cell? ⟨gb318, 0, none⟩ = some (.bool false) := (blk_cell BK318.out 0).trans rfl
  have hfs67 := blk_frozen BK318.out 0
  have hns67_0 := NB316_318.out
  have hns67_1 := NB317_318.out
  have hns67_3 := NB347_318.out
  have hms67_0 := NB318_316.out
  have hms67_1 := NB318_317.out
  have hms67_3 := NB318_347.out
  have hs68 : w63.cell? ⟨gb318, 1, none⟩ = some (.slice none 0 0) := (blk_cell BK318.out 1).trans rfl
  have hfs68 := blk_frozen BK318.out 1
  have hns68_0 := NB316_318.out
  have hns68_1 := NB317_318.out
  have hns68_3 := NB347_318.out
  have hms68_0 := NB318_316.out
  have hms68_1 := NB318_317.out
  have hms68_3 := NB318_347.out
  have hs69 : w63.cell? ⟨gb318, 2, none⟩ = some (.slice none 0 0) := (blk_cell BK318.out 2).trans rfl
  have hfs69 := blk_frozen BK318.out 2
  have hns69_0 := NB316_318.out
  have hns69_1 := NB317_318.out
  have hns69_3 := NB347_318.out
  have hms69_0 := NB318_316.out
  have hms69_1 := NB318_317.out
  have hms69_3 := NB318_347.out
  refine skip_ (w1 := ?_) (by rfl) rfl ?_ ?_
  rotate_left
  ·go_simp
   rfl
  refine hK.out _ _ ⟨((cell_far (p := ⟨gb318, _, none⟩) NB316_318.out _).trans (((cell_far (p := ⟨gb318, _, none⟩) NB316_318.out _).trans (((cell_far (p := ⟨gb318, _, none⟩) NB316_318.out _).trans (hHeld.1)))))), ((cell_far (p := ⟨gb318, _, none⟩) NB316_318.out _).trans (((cell_far (p := ⟨gb318, _, none⟩) NB316_318.out _).trans (((cell_far (p := ⟨gb318, _, none⟩) NB316_318.out _).trans (hHeld.2.1)))))), ((cell_far (p := ⟨gb318, _, none⟩) NB316_318.out _).trans (((cell_far (p := ⟨gb318, _, none⟩) NB316_318.out _).trans (((cell_far (p := ⟨gb318, _, none⟩) NB316_318.out _).trans (hHeld.2.2.1)))))), ((cell_far (p := ⟨gb318, _, none⟩) NB347_318.out _).trans (((cell_far (p := ⟨gb318, _, none⟩) NB347_318.out _).trans (((cell_far (p := ⟨gb318, _, none⟩) NB347_318.out _).trans (hHeld.2.2.2.1)))))), ((cell_far (p := ⟨gb318, _, none⟩) NB347_318.out _).trans (((cell_far (p := ⟨gb318, _, none⟩) NB347_318.out _).trans (((cell_far (p := ⟨gb318, _, none⟩) NB347_318.out _).trans (hHeld.2.2.2.2.1)))))), ((cell_far (p := ⟨gb318, _, none⟩) NB347_318.out _).trans (((cell_far (p := ⟨gb318, _, none⟩) NB347_318.out _).trans (((cell_far (p := ⟨gb318, _, none⟩) NB347_318.out _).trans (hHeld.2.2.2.2.2))))))⟩ (fun hHeld => ?_)
  clear hK K
  refine pP 7 (some 4) ?_
  refine done_ (done_of HT_.out (by kernel_rfl)) ?_
  try go_wp2
  refine bodyPost_ret (results_list (rs := [.cell 2 36, .cell 3 46, .tmp 4]) rfl (by simp) (.cell gb317 36 #[.bool a0_0, .slice Ao49 t319.length co49, .slice Ao52 t322.length co52] (0, 0) _ rfl (by (with_reducible repeat (first | refine blk_drewN ?_ _ | refine blk_drew ?_ | refine blk_alloc ?_ _)); refine blk_far ?_ NB317_318.out _; (with_reducible repeat (first | refine blk_drewN ?_ _ | refine blk_drew ?_ | refine blk_alloc ?_ _)); refine blk_far ?_ NB317_318.out _; (with_reducible repeat (first | refine blk_drewN ?_ _ | refine blk_drew ?_ | refine blk_alloc ?_ _)); refine blk_far ?_ NB317_318.out _; (with_reducible repeat (first | refine blk_drewN ?_ _ | refine blk_drew ?_ | refine blk_alloc ?_ _)); refine blk_put (cs := #[.bool a0_0, .slice Ao49 t319.length co49, .slice none 0 0]) ?_ 2 _ rfl; (with_reducible repeat (first | refine blk_drewN ?_ _ | refine blk_drew ?_ | refine blk_alloc ?_ _)); refine blk_put (cs := #[.bool a0_0, .slice none 0 0, .slice none 0 0]) ?_ 1 _ rfl; (with_reducible repeat (first | refine blk_drewN ?_ _ | refine blk_drew ?_ | refine blk_alloc ?_ _)); refine blk_put (cs := #[.bool false, .slice none 0 0, .slice none 0 0]) ?_ 0 _ rfl; (with_reducible repeat (first | refine blk_drewN ?_ _ | refine blk_drew ?_ | refine blk_alloc ?_ _)); exact BK317.out) Tryd.underlying36 rfl (by kernel_rfl) (.cell gb318 46 #[.bool t339, .slice Ao60 t340.length co60, .slice Ao61 t343.length co61] (0, 0) _ rfl (by (with_reducible repeat (first | refine blk_drewN ?_ _ | refine blk_drew ?_ | refine blk_alloc ?_ _)); refine blk_put (cs := #[.bool t339, .slice Ao60 t340.length co60, .slice none 0 0]) ?_ 2 _ rfl; (with_reducible repeat (first | refine blk_drewN ?_ _ | refine blk_drew ?_ | refine blk_alloc ?_ _)); refine blk_put (cs := #[.bool t339, .slice none 0 0, .slice none 0 0]) ?_ 1 _ rfl; (with_reducible repeat (first | refine blk_drewN ?_ _ | refine blk_drew ?_ | refine blk_alloc ?_ _)); refine blk_put (cs := #[.bool false, .slice none 0 0, .slice none 0 0]) ?_ 0 _ rfl; (with_reducible repeat (first | refine blk_drewN ?_ _ | refine blk_drew ?_ | refine blk_alloc ?_ _)); refine blk_far ?_ NB318_317.out _; (with_reducible repeat (first | refine blk_drewN ?_ _ | refine blk_drew ?_ | refine blk_alloc ?_ _)); refine blk_far ?_ NB318_317.out _; (with_reducible repeat (first | refine blk_drewN ?_ _ | refine blk_drew ?_ | refine blk_alloc ?_ _)); refine blk_far ?_ NB318_317.out _; (with_reducible repeat (first | refine blk_drewN ?_ _ | refine blk_drew ?_ | refine blk_alloc ?_ _)); exact BK318.out) Tryd.underlying46 rfl (by kernel_rfl) (.tmp .nil)))) rfl ?_
  exact ⟨_, _, _, _, dE, by (with_reducible repeat (first | apply Kd.R_alloc | apply Kd.R_drewN | apply Kd.R_drew)); exact Kd.R_mono (Kd.R_far (p := ⟨gb318, 2, none⟩) (Kd.R_far (p := ⟨gb318, 1, none⟩) (Kd.R_far (p := ⟨gb318, 0, none⟩) (Kd.R_far (p := ⟨gb317, 2, none⟩) (Kd.R_far (p := ⟨gb317, 1, none⟩) (Kd.R_far (p := ⟨gb317, 0, none⟩) (Kd.R_types (Kd.R_types HO321.out BK317.out (by decide)) BK318.out (by decide)) (fun _ hk => hk.1.2) (.bool a0_0)) (fun _ hk => hk.1.2) (.slice Ao49 t319.length co49)) (fun _ hk => hk.1.2) (.slice Ao52 t322.length co52)) (fun _ hk => hk.2) (.bool t339)) (fun _ hk => hk.2) (.slice Ao60 t340.length co60)) (fun _ hk => hk.2) (.slice Ao61 t343.length co61)) (fun _ hk => ⟨hk.1.1.1, ⟨hk.1.1.2.1, hk.1.1.2.2⟩⟩), by (with_reducible repeat (first | apply Kd.R_alloc | apply Kd.R_drewN | apply Kd.R_drew)); exact Kd.R_mono (Kd.R_far (p := ⟨gb318, 2, none⟩) (Kd.R_far (p := ⟨gb318, 1, none⟩) (Kd.R_far (p := ⟨gb318, 0, none⟩) (Kd.R_far (p := ⟨gb317, 2, none⟩) (Kd.R_far (p := ⟨gb317, 1, none⟩) (Kd.R_far (p := ⟨gb317, 0, none⟩) (Kd.R_types (Kd.R_types HO324.out BK317.out (by decide)) BK318.out (by decide)) (fun _ hk => hk.1.2) (.bool a0_0)) (fun _ hk => hk.1.2) (.slice Ao49 t319.length co49)) (fun _ hk => hk.1.2) (.slice Ao52 t322.length co52)) (fun _ hk => hk.2) (.bool t339)) (fun _ hk => hk.2) (.slice Ao60 t340.length co60)) (fun _ hk => hk.2) (.slice Ao61 t343.length co61)) (fun _ hk => ⟨hk.1.1.1, ⟨hk.1.1.2.1, hk.1.1.2.2⟩⟩), by (with_reducible repeat (first | apply Kd.R_alloc | apply Kd.R_drewN | apply Kd.R_drew)); exact Kd.R_mono (Kd.R_far (p := ⟨gb318, 2, none⟩) (Kd.R_far (p := ⟨gb318, 1, none⟩) (Kd.R_far (p := ⟨gb318, 0, none⟩) (Kd.R_far (p := ⟨gb317, 2, none⟩) (Kd.R_far (p := ⟨gb317, 1, none⟩) (Kd.R_far (p := ⟨gb317, 0, none⟩) (Kd.R_types (Kd.R_types HO342.out BK317.out (by decide)) BK318.out (by decide)) (fun _ hk => hk.1.2) (.bool a0_0)) (fun _ hk => hk.1.2) (.slice Ao49 t319.length co49)) (fun _ hk => hk.1.2) (.slice Ao52 t322.length co52)) (fun _ hk => hk.2) (.bool t339)) (fun _ hk => hk.2) (.slice Ao60 t340.length co60)) (fun _ hk => hk.2) (.slice Ao61 t343.length co61)) (fun _ hk => ⟨hk.1.1.1, ⟨hk.1.1.2.1, hk.1.1.2.2⟩⟩), by (with_reducible repeat (first | apply Kd.R_alloc | apply Kd.R_drewN | apply Kd.R_drew)); exact Kd.R_mono (Kd.R_far (p := ⟨gb318, 2, none⟩) (Kd.R_far (p := ⟨gb318, 1, none⟩) (Kd.R_far (p := ⟨gb318, 0, none⟩) (Kd.R_far (p := ⟨gb317, 2, none⟩) (Kd.R_far (p := ⟨gb317, 1, none⟩) (Kd.R_far (p := ⟨gb317, 0, none⟩) (Kd.R_types (Kd.R_types HO345.out BK317.out (by decide)) BK318.out (by decide)) (fun _ hk => hk.1.2) (.bool a0_0)) (fun _ hk => hk.1.2) (.slice Ao49 t319.length co49)) (fun _ hk => hk.1.2) (.slice Ao52 t322.length co52)) (fun _ hk => hk.2) (.bool t339)) (fun _ hk => hk.2) (.slice Ao60 t340.length co60)) (fun _ hk => hk.2) (.slice Ao61 t343.length co61)) (fun _ hk => ⟨hk.1.1.1, ⟨hk.1.1.2.1, hk.1.1.2.2⟩⟩), eB⟩
def rat_normal.f (l0 : List Int) : Option (Bool) := if (l0.length : Int) ≤ 4096 then (if (l0.length : Int) = 0 then (some true) else (if 0 ≤ (wrap64 ((l0.length : Int) - 1)) then (if (wrap64 ((l0.length : Int) - 1)) < (l0.length : Int) then (some ((rd l0 (wrap64 ((l0.length : Int) - 1))) != 0)) else (none)) else (none))) else (some false)
set_option maxHeartbeats 8000000 in
set_option maxRecDepth 100000 in
theorem rat_normal.calls (A0 : Option Addr) (c0 : Nat) (l0 : List Int) (r : Bool) (w : World) (hr0 : Kd.C (Kd.int .u64) w A0 l0.length l0) (hc0 : l0.length ≤ c0) (h : rat_normal.f l0 = some r) :
  Calls Tryd.prog 96 #[.slice A0 l0.length c0] w fun e w' => e = .returned (.bool r) ∧ Drawn0 w w' := by
 have HR0 := Aside0.mk hr0
 have HC0 := Aside0.mk hc0
 clear hr0 hc0
 have H := h
 clear h
 unfold rat_normal.f at H
 by_cases c2 : (l0.length : Int) ≤ 4096
 ·rw [if_pos c2] at H
  have c2b0 : decide ((l0.length : Int) ≤ 4096) = true := decide_eq_true c2
  have c2b1 : decide (l0.length ≤ 4096) = true := decide_eq_true (by omega)
  clear c2
  by_cases c3 : (l0.length : Int) = 0
  ·rw [if_pos c3] at H
   have c3b0 : ((l0.length : Int) == 0) = true := beq_iff_eq.mpr c3
   have c3b1 : ((l0.length : Int) != 0) = false := bne_eq_false_iff_eq.mpr c3
   clear c3
   obtain rfl := Option.some.inj H
   go_enter Tryd.func96, Tryd.ntmps96
   go_wp2
   go_ret
   exact ⟨by first | rfl | (simp; done) | (simp [*]; done), by repeat (first | exact Drawn0.refl _ | apply Drawn0.step)⟩
  ·rw [if_neg c3] at H
   have c3b0 : ((l0.length : Int) == 0) = false := beq_eq_false_iff_ne.mpr c3
   have c3b1 : ((l0.length : Int) != 0) = true := bne_iff_ne.mpr c3
   have c3b2 : ¬ (l0 = []) := fun h_ => c3 (by rw [h_]; rfl)
   obtain ⟨ji4, hji4⟩ : ∃ j_ : Int, (wrap64 ((l0.length : Int) - 1)) = j_ := ⟨_, rfl⟩
   first | rw [hji4] at H | simp only [hji4] at H
   have hji4w : (IntKind.i64.wrap ((l0.length : Int) - 1)) = ji4 := (i64_w _).trans hji4
   by_cases c5 : (0 : Int) ≤ (ji4)
   ·rw [if_pos c5] at H
    have c5b0 : decide (0 ≤ (ji4)) = true := decide_eq_true c5
    clear c5
    by_cases c6 : (ji4) < (l0.length : Int)
    ·rw [if_pos c6] at H
     have c6b0 : decide ((ji4) < (l0.length : Int)) = true := decide_eq_true c6
     clear c6
     obtain rfl := Option.some.inj H
     have p502 : 0 ≤ ((ji4) : Int) := of_decide_eq_true dS
     have q502 : (ji4) < (l0.length : Int) := of_decide_eq_true dS
     obtain ⟨ad502, e502, hx502_0⟩ := Kd.at_int HR0.out (ji4) p502 q502
     cases e502
     replace p502 := eq_true p502
     replace q502 := eq_true q502
     go_enter Tryd.func96, Tryd.ntmps96
     go_wp2
     go_ret
     exact ⟨by first | rfl | (simp; done) | (simp only [← hji4] <;> (first | rfl | simp)) | (simp [*]; done), by repeat (first | exact Drawn0.refl _ | apply Drawn0.step)⟩
    ·rw [if_neg c6] at H
     exact absurd H (by simp)
   ·rw [if_neg c5] at H
    exact absurd H (by simp)
 ·rw [if_neg c2] at H
  have c2b0 : decide ((l0.length : Int) ≤ 4096) = false := decide_eq_false c2
  have c2b1 : decide (l0.length ≤ 4096) = false := decide_eq_false (by omega)
  clear c2
  obtain rfl := Option.some.inj H
  go_enter Tryd.func96, Tryd.ntmps96
  go_wp2
  go_ret
  exact ⟨by first | rfl | (simp; done) | (simp [*]; done), by repeat (first | exact Drawn0.refl _ | apply Drawn0.step)⟩
def rat_Check.j0 : Nat → Bool → Bool → List Int → List Int → Option (Int)
 | 0, _, _, _, _ => none
 | k + 1, x30, x504000, x504001, x504002 => if x30 = true then (some 51) else ((quot_Gcd.f k x504001 x504002).bind fun t506 => ((nat_Word.f k t506).bind fun bt509 => (if bt509.2 = true then (if bt509.1 = 1 then (some 0) else (some 51)) else (some 51))))
def rat_Check.f (k : Nat) (a0_0 : Bool) (l0_1 : List Int) (l0_2 : List Int) : Option (Int) := (rat_normal.f l0_1).bind fun t504 => (if t504 = true then ((rat_normal.f l0_2).bind fun t505 => (if t505 = true then (if (l0_2.length : Int) = 0 then (rat_Check.j0 k true a0_0 l0_1 l0_2) else (if a0_0 = true then (rat_Check.j0 k ((l0_1.length : Int) == 0) a0_0 l0_1 l0_2) else (rat_Check.j0 k false a0_0 l0_1 l0_2))) else (rat_Check.j0 k true a0_0 l0_1 l0_2))) else (rat_Check.j0 k true a0_0 l0_1 l0_2))
set_option maxHeartbeats 8000000 in
set_option maxRecDepth 100000 in
theorem rat_Check.calls (k : Nat) (a0_0 : Bool) (A0_1 : Option Addr) (c0_1 : Nat) (l0_1 : List Int) (A0_2 : Option Addr) (c0_2 : Nat) (l0_2 : List Int) (r : Int) (w : World) (hr0_1 : Kd.C (Kd.int .u64) w A0_1 l0_1.length l0_1) (hc0_1 : l0_1.length ≤ c0_1) (hr0_2 : Kd.C (Kd.int .u64) w A0_2 l0_2.length l0_2) (hc0_2 : l0_2.length ≤ c0_2) (h : rat_Check.f k a0_0 l0_1 l0_2 = some r) :
  Calls Tryd.prog 64 #[.agg #[.bool a0_0, .slice A0_1 l0_1.length c0_1, .slice A0_2 l0_2.length c0_2]] w fun e w' => e = .returned (.int .i64 r) ∧ Below w.heap.size w w' := by
 have hu46 := Tryd.underlying46
 have HR0_1 := Aside0.mk hr0_1
 have HC0_1 := Aside0.mk hc0_1
 clear hr0_1 hc0_1
 have HR0_2 := Aside0.mk hr0_2
 have HC0_2 := Aside0.mk hc0_2
 clear hr0_2 hc0_2
 have HB := Aside0.mk (Below.refl w.heap.size w)
 have H := h
 clear h
 unfold rat_Check.f at H
 have HC2 := Aside0.mk H
 clear H
 go_enter Tryd.func64, Tryd.ntmps64
 go_upto_region 1 with (first | ((with_reducible refine gate_dst (N := 1) rfl ?_); (try (refine gate_guard (by rfl) ?_; dsimp only)); refine bE 1 #[.bool a0_0, .slice A0_1 l0_1.length c0_1, .slice A0_2 l0_2.length c0_2] 46 ?_; intro gb503 hg w3 hbox hb; have BK503 := Aside0.mk (hbox); have GE503 : Aside0 (w.heap.size ≤ gb503) := gE hg; replace HB := hS HB.out hb; clear hb hbox hg))
 (try simp only [Act.put, List.setIfInBounds_toArray, List.set_cons_zero, List.set_cons_succ])
 go_cut [30] (fun v30 wc => ∃ (kq : Nat) (x30_1 : Bool), v30 = .bool x30_1 ∧ Aside0 (rat_Check.j0 kq x30_1 a0_0 l0_1 l0_2 = some r) ∧ Aside0 (kq ≤ k) ∧ Aside0 (wc.heap[gb503]? = some (.cells #[.bool a0_0, (.slice A0_1 l0_1.length c0_1), (.slice A0_2 l0_2.length c0_2)] 46 (0, 0))) ∧ Aside0 (Below w.heap.size w wc))
 case first =>
  have H := HC2.out
  clear HC2
  replace H := obe H
  obtain ⟨t504, A40, H⟩ := H
  (try dsimp only at H)
  have A4 := Aside0.mk A40
  clear A40
  by_cases c5 : t504 = true
  ·subst c5
   rw [if_pos rfl] at H
   (try dsimp only at H)
   replace H := obe H
   obtain ⟨t505, A60, H⟩ := H
   (try dsimp only at H)
   have A6 := Aside0.mk A60
   clear A60
   by_cases c7 : t505 = true
   ·subst c7
    rw [if_pos rfl] at H
    (try dsimp only at H)
    by_cases c8 : (l0_2.length : Int) = 0
    ·rw [if_pos c8] at H
     have c8b0 : ((l0_2.length : Int) == 0) = true := beq_iff_eq.mpr c8
     have c8b1 : ((l0_2.length : Int) != 0) = false := bne_eq_false_iff_eq.mpr c8
     clear c8
     (first | rw [c8b0] | (simp only [i64_w, i32_w]; rw [c8b0]) | skip)
     have H' := Aside0.mk H
     clear H
     obtain ⟨hcz9_0, hcz9_1, hcz9_2⟩ := cz3 BK503.out
     obtain ⟨hfz9_0, hfz9_1, hfz9_2⟩ := fz3 BK503.out
     go_wp2_with (first | ((with_reducible refine gate_callee (f := 96) rfl ?_); refine gL (some 7) Tryd.func96 #[.slice A0_1 l0_1.length c0_1] ?_; (with_reducible refine (rat_normal.calls _ _ l0_1 true _ ?side1 HC0_1.out A4.out).mono ?_); (case side1 => exact dC (Kd.C_below HR0_1.out HB.out)); rintro e w' ⟨rfl, ⟨nd, rfl⟩⟩; refine ⟨_, rfl, ?_⟩) | (go_at_call 96; (with_reducible refine (rat_normal.calls _ _ l0_2 true _ ?side1 HC0_2.out A6.out).mono ?_); (case side1 => exact dC (Kd.C_below HR0_2.out eB)); rintro e w' ⟨rfl, ⟨nd, rfl⟩⟩))
     go_meet
     case rel => exact ⟨_, (true), dF, H', ⟨dN⟩, ⟨dK BK503.out⟩, ⟨dG GE503.out⟩⟩
    ·rw [if_neg c8] at H
     have c8b0 : ((l0_2.length : Int) == 0) = false := beq_eq_false_iff_ne.mpr c8
     have c8b1 : ((l0_2.length : Int) != 0) = true := bne_iff_ne.mpr c8
     have c8b2 : ¬ (l0_2 = []) := fun h_ => c8 (by rw [h_]; rfl)
     (first | rw [c8b0] | (simp only [i64_w, i32_w]; rw [c8b0]) | skip)
     by_cases c10 : a0_0 = true
     ·subst c10
      rw [if_pos rfl] at H
      (try dsimp only at H)
      have H' := Aside0.mk H
      clear H
      obtain ⟨hcz11_0, hcz11_1, hcz11_2⟩ := cz3 BK503.out
      obtain ⟨hfz11_0, hfz11_1, hfz11_2⟩ := fz3 BK503.out
      go_wp2_with (first | ((with_reducible refine gate_callee (f := 96) rfl ?_); refine gL (some 7) Tryd.func96 #[.slice A0_1 l0_1.length c0_1] ?_; (with_reducible refine (rat_normal.calls _ _ l0_1 true _ ?side1 HC0_1.out A4.out).mono ?_); (case side1 => exact dC (Kd.C_below HR0_1.out HB.out)); rintro e w' ⟨rfl, ⟨nd, rfl⟩⟩; refine ⟨_, rfl, ?_⟩) | (go_at_call 96; (with_reducible refine (rat_normal.calls _ _ l0_2 true _ ?side1 HC0_2.out A6.out).mono ?_); (case side1 => exact dC (Kd.C_below HR0_2.out eB)); rintro e w' ⟨rfl, ⟨nd, rfl⟩⟩))
      go_meet
      case rel => exact ⟨_, (((l0_1.length : Int) == 0)), dF, H', ⟨dN⟩, ⟨dK BK503.out⟩, ⟨dG GE503.out⟩⟩
     ·replace c10 := Bool.eq_false_iff.mpr c10
      subst c10
      rw [if_neg (show ¬ (false = true) by decide)] at H
      (try dsimp only at H)
      have H' := Aside0.mk H
      clear H
      obtain ⟨hcz12_0, hcz12_1, hcz12_2⟩ := cz3 BK503.out
      obtain ⟨hfz12_0, hfz12_1, hfz12_2⟩ := fz3 BK503.out
      go_wp2_with (first | ((with_reducible refine gate_callee (f := 96) rfl ?_); refine gL (some 7) Tryd.func96 #[.slice A0_1 l0_1.length c0_1] ?_; (with_reducible refine (rat_normal.calls _ _ l0_1 true _ ?side1 HC0_1.out A4.out).mono ?_); (case side1 => exact dC (Kd.C_below HR0_1.out HB.out)); rintro e w' ⟨rfl, ⟨nd, rfl⟩⟩; refine ⟨_, rfl, ?_⟩) | (go_at_call 96; (with_reducible refine (rat_normal.calls _ _ l0_2 true _ ?side1 HC0_2.out A6.out).mono ?_); (case side1 => exact dC (Kd.C_below HR0_2.out eB)); rintro e w' ⟨rfl, ⟨nd, rfl⟩⟩))
      go_meet
      case rel => exact ⟨_, (false), dF, H', ⟨dN⟩, ⟨dK BK503.out⟩, ⟨dG GE503.out⟩⟩
   ·replace c7 := Bool.eq_false_iff.mpr c7
    subst c7
    rw [if_neg (show ¬ (false = true) by decide)] at H
    (try dsimp only at H)
    have H' := Aside0.mk H
    clear H
    obtain ⟨hcz13_0, hcz13_1, hcz13_2⟩ := cz3 BK503.out
    obtain ⟨hfz13_0, hfz13_1, hfz13_2⟩ := fz3 BK503.out
    go_wp2_with (first | ((with_reducible refine gate_callee (f := 96) rfl ?_); refine gL (some 7) Tryd.func96 #[.slice A0_1 l0_1.length c0_1] ?_; (with_reducible refine (rat_normal.calls _ _ l0_1 true _ ?side1 HC0_1.out A4.out).mono ?_); (case side1 => exact dC (Kd.C_below HR0_1.out HB.out)); rintro e w' ⟨rfl, ⟨nd, rfl⟩⟩; refine ⟨_, rfl, ?_⟩) | (go_at_call 96; (with_reducible refine (rat_normal.calls _ _ l0_2 false _ ?side1 HC0_2.out A6.out).mono ?_); (case side1 => exact dC (Kd.C_below HR0_2.out eB)); rintro e w' ⟨rfl, ⟨nd, rfl⟩⟩))
    go_meet
    case rel => exact ⟨_, (true), dF, H', ⟨dN⟩, ⟨dK BK503.out⟩, ⟨dG GE503.out⟩⟩
  ·replace c5 := Bool.eq_false_iff.mpr c5
   subst c5
   rw [if_neg (show ¬ (false = true) by decide)] at H
   (try dsimp only at H)
   have H' := Aside0.mk H
   clear H
   obtain ⟨hcz14_0, hcz14_1, hcz14_2⟩ := cz3 BK503.out
   obtain ⟨hfz14_0, hfz14_1, hfz14_2⟩ := fz3 BK503.out
   go_wp2_with (first | ((with_reducible refine gate_callee (f := 96) rfl ?_); refine gL (some 7) Tryd.func96 #[.slice A0_1 l0_1.length c0_1] ?_; (with_reducible refine (rat_normal.calls _ _ l0_1 false _ ?side1 HC0_1.out A4.out).mono ?_); (case side1 => exact dC (Kd.C_below HR0_1.out HB.out)); rintro e w' ⟨rfl, ⟨nd, rfl⟩⟩; refine ⟨_, rfl, ?_⟩))
   go_meet
   case rel => exact ⟨_, (true), dF, H', ⟨dN⟩, ⟨dK BK503.out⟩, ⟨dG GE503.out⟩⟩
 case rest =>
  clear HC2
  obtain ⟨kq, x30_1, rfl, HA, HJ1, BK503, HB⟩ := hcut
  cases kq with
  | zero => exact absurd HA.out (by simp [rat_Check.j0])
  | succ kj1 =>
   have H := HA.out
   clear HA
   simp only [rat_Check.j0] at H
   by_cases c15 : x30_1 = true
   ·subst c15
    rw [if_pos rfl] at H
    (try dsimp only at H)
    obtain rfl := Option.some.inj H
    go_wp2
    go_ret
    exact ⟨dE, dG GE503.out⟩
   ·replace c15 := Bool.eq_false_iff.mpr c15
    subst c15
    rw [if_neg (show ¬ (false = true) by decide)] at H
    (try dsimp only at H)
    replace H := obe H
    obtain ⟨t506, A160, H⟩ := H
    (try dsimp only at H)
    have A16 := Aside0.mk A160
    clear A160
    replace H := obe H
    obtain ⟨⟨t509, t510⟩, A170, H⟩ := H
    (try dsimp only at H)
    have A17 := Aside0.mk A170
    clear A170
    by_cases c18 : t510 = true
    ·subst c18
     rw [if_pos rfl] at H
     (try dsimp only at H)
     by_cases c19 : t509 = 1
     ·rw [if_pos c19] at H
      have c19b0 : (t509 == 1) = true := beq_iff_eq.mpr c19
      have c19b1 : (t509 != 1) = false := bne_eq_false_iff_eq.mpr c19
      clear c19
      obtain rfl := Option.some.inj H
      obtain ⟨hcz20_0, hcz20_1, hcz20_2⟩ := cz3 BK503.out
      obtain ⟨hfz20_0, hfz20_1, hfz20_2⟩ := fz3 BK503.out
      go_wp2_with (first | ((with_reducible refine gate_callee (f := 97) rfl ?_); refine gL (some 36) Tryd.func97 #[.slice A0_1 l0_1.length c0_1, .slice A0_2 l0_2.length c0_2] ?_; (with_reducible refine (quot_Gcd.calls kj1 _ _ l0_1 _ _ l0_2 t506 _ ?side1 HC0_1.out ?side3 HC0_2.out A16.out).mono ?_); (case side1 => exact dC (Kd.C_below HR0_1.out HB.out)); (case side3 => exact dC (Kd.C_below HR0_2.out HB.out)); rintro e w21 ⟨v507, rfl, ho0, hb⟩; refine ⟨_, rfl, ?_⟩; have HO508 := Aside0.mk (Kd.R_lower ho0 (below_size eB)); replace BK503 := bB BK503.out hb; replace HB := hS HB.out hb; (try clear hb); (try clear ho0); obtain ⟨Ao22, co22, rfl⟩ := Kd.R_slice HO508.out) | ((with_reducible refine gate_callee (f := 45) rfl ?_); refine gL (some 37) Tryd.func45 #[.slice Ao22 t506.length co22] ?_; (with_reducible refine (nat_Word.calls kj1 _ _ t506 t509 true _ ?side1 (Kd.R_reads' HO508.out).2.1 A17.out).mono ?_); (case side1 => exact dC (Kd.R_reads' HO508.out).2.2); rintro e w' ⟨rfl, ⟨nd, rfl⟩⟩; refine ⟨_, rfl, ?_⟩))
      go_ret
      exact ⟨dE, dG GE503.out⟩
     ·rw [if_neg c19] at H
      have c19b0 : (t509 == 1) = false := beq_eq_false_iff_ne.mpr c19
      have c19b1 : (t509 != 1) = true := bne_iff_ne.mpr c19
      obtain rfl := Option.some.inj H
      obtain ⟨hcz23_0, hcz23_1, hcz23_2⟩ := cz3 BK503.out
      obtain ⟨hfz23_0, hfz23_1, hfz23_2⟩ := fz3 BK503.out
      go_wp2_with (first | ((with_reducible refine gate_callee (f := 97) rfl ?_); refine gL (some 36) Tryd.func97 #[.slice A0_1 l0_1.length c0_1, .slice A0_2 l0_2.length c0_2] ?_; (with_reducible refine (quot_Gcd.calls kj1 _ _ l0_1 _ _ l0_2 t506 _ ?side1 HC0_1.out ?side3 HC0_2.out A16.out).mono ?_); (case side1 => exact dC (Kd.C_below HR0_1.out HB.out)); (case side3 => exact dC (Kd.C_below HR0_2.out HB.out)); rintro e w24 ⟨v507, rfl, ho0, hb⟩; refine ⟨_, rfl, ?_⟩; have HO508 := Aside0.mk (Kd.R_lower ho0 (below_size eB)); replace BK503 := bB BK503.out hb; replace HB := hS HB.out hb; (try clear hb); (try clear ho0); obtain ⟨Ao25, co25, rfl⟩ := Kd.R_slice HO508.out) | ((with_reducible refine gate_callee (f := 45) rfl ?_); refine gL (some 37) Tryd.func45 #[.slice Ao25 t506.length co25] ?_; (with_reducible refine (nat_Word.calls kj1 _ _ t506 t509 true _ ?side1 (Kd.R_reads' HO508.out).2.1 A17.out).mono ?_); (case side1 => exact dC (Kd.R_reads' HO508.out).2.2); rintro e w' ⟨rfl, ⟨nd, rfl⟩⟩; refine ⟨_, rfl, ?_⟩))
      go_ret
      exact ⟨dE, dG GE503.out⟩
    ·replace c18 := Bool.eq_false_iff.mpr c18
     subst c18
     rw [if_neg (show ¬ (false = true) by decide)] at H
     (try dsimp only at H)
     obtain rfl := Option.some.inj H
     obtain ⟨hcz26_0, hcz26_1, hcz26_2⟩ := cz3 BK503.out
     obtain ⟨hfz26_0, hfz26_1, hfz26_2⟩ := fz3 BK503.out
     go_wp2_with (first | ((with_reducible refine gate_callee (f := 97) rfl ?_); refine gL (some 36) Tryd.func97 #[.slice A0_1 l0_1.length c0_1, .slice A0_2 l0_2.length c0_2] ?_; (with_reducible refine (quot_Gcd.calls kj1 _ _ l0_1 _ _ l0_2 t506 _ ?side1 HC0_1.out ?side3 HC0_2.out A16.out).mono ?_); (case side1 => exact dC (Kd.C_below HR0_1.out HB.out)); (case side3 => exact dC (Kd.C_below HR0_2.out HB.out)); rintro e w27 ⟨v507, rfl, ho0, hb⟩; refine ⟨_, rfl, ?_⟩; have HO508 := Aside0.mk (Kd.R_lower ho0 (below_size eB)); replace BK503 := bB BK503.out hb; replace HB := hS HB.out hb; (try clear hb); (try clear ho0); obtain ⟨Ao28, co28, rfl⟩ := Kd.R_slice HO508.out) | ((with_reducible refine gate_callee (f := 45) rfl ?_); refine gL (some 37) Tryd.func45 #[.slice Ao28 t506.length co28] ?_; (with_reducible refine (nat_Word.calls kj1 _ _ t506 t509 false _ ?side1 (Kd.R_reads' HO508.out).2.1 A17.out).mono ?_); (case side1 => exact dC (Kd.R_reads' HO508.out).2.2); rintro e w' ⟨rfl, ⟨nd, rfl⟩⟩; refine ⟨_, rfl, ?_⟩))
     go_ret
     exact ⟨dE, dG GE503.out⟩
end Go.Proofs.YtoefabmlkbhmpaaDoor.PA
