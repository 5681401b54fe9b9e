/- A part of the proof (7). -/
import Derived.Test.YtmdmgbllpgkpeaaUKR2
import Derived.Test.YtmdmgbllpgkpeaaUKR6
import Derived.Test.YtmdmgbllpgkpeaaUKR3
namespace Go.Proofs.Ytmdmgbllpgkpeaa.PA
open Go.RowKit Go.Proofs.YtmdmgbllpgkpeaaW.PrintWords Go.Proofs.YtmdmgbllpgkpeaaW.PrintLast Go.Proofs.YtmdmgbllpgkpeaaW.PrintMore
attribute [local go_sem] max2_int min2_int max_two min_two max_three min_three max_four min_four   -- for this text's walks alone
set_option linter.unusedVariables false
set_option linter.unusedSimpArgs false

/-! ### plumblaw05_Part_made: function 11 -/
def plumblaw05_Part_made.f (k : Nat) (a0_0 : Bool) (l0_1 : List Int) (l0_2 : List Int) : Option (Bool × List Int × List Int × Bool) := (plumblaw05_Part_whole.f k a0_0 l0_1 l0_2).bind fun bt260 => ((rat_New.f k a0_0 bt260.1 bt260.2).bind fun bt266 => (if bt266.2.2.2 = 0 then ((rat_Check.f k bt266.1 bt266.2.1 bt266.2.2.1).bind fun t275 => (some (bt266.1, bt266.2.1, bt266.2.2.1, (t275 == 0)))) else (some (bt266.1, bt266.2.1, bt266.2.2.1, false))))
def plumblaw05_Part_made.T3 : Bool × List (List Nat × List Nat) := (true, [([], []), ([], []), ([1], [1]), ([2], [2]), ([3], [3]), ([4, 3, 3], [3, 4]), ([5, 3], [3, 5]), ([3, 6], [3, 6]), ([0, 5, 0], [0]), ([7, 8, 0, 1, 2, 3, 4, 5, 6, 7, 8], [7])])
def plumblaw05_Part_made.B3 : List Nat := [0, 0, 2, 6, 14, 30, 62, 126, 63, 511]
theorem plumblaw05_Part_made.tab3 : rtab .any (opsOf Try.f11 3) = plumblaw05_Part_made.T3 := by kernel_rfl
theorem plumblaw05_Part_made.bits3 : waitsOk plumblaw05_Part_made.T3.2 plumblaw05_Part_made.B3 = true := by kernel_rfl
set_option maxHeartbeats 8000000 in
set_option maxRecDepth 100000 in
theorem plumblaw05_Part_made.calls (k : Nat) (a0_0 : Bool) (A0_1 : Option Addr) (c0_1 : Nat) (l0_1 : List Int) (A0_2 : Option Addr) (c0_2 : Nat) (l0_2 : List Int) (r1 : Bool) (r2 : List Int) (r3 : List Int) (r4 : Bool) (w : World) (hr0_1 : Kd.C (Kd.int .u64) w A0_1 l0_1.length l0_1) (hc0_1 : l0_1.length ≤ c0_1) (hr0_2 : Kd.C (Kd.int .u64) w A0_2 l0_2.length l0_2) (hc0_2 : l0_2.length ≤ c0_2) (h : plumblaw05_Part_made.f k a0_0 l0_1 l0_2 = some (r1, r2, r3, r4)) :
  Calls Try.prog 11 #[.agg #[.bool a0_0, .slice A0_1 l0_1.length c0_1, .slice A0_2 l0_2.length c0_2]] w fun e w' => ∃ v1_ v2_ : Value, e = .returned (.tuple #[.agg #[.bool r1, v1_, v2_], .bool r4]) ∧ Kd.R (Kd.int .u64) 25 w' w.heap.size (fun k_ => some k_ ≠ (v2_ : Value).ownBlock) v1_ r2 ∧ Kd.R (Kd.int .u64) 25 w' w.heap.size (fun k_ => some k_ ≠ (v1_ : Value).ownBlock) v2_ r3 ∧ Below w.heap.size w w' := by
 have hu24 := Try.underlying24
 have hu28 := Try.underlying28
 have HR0_1 := Aside0.mk hr0_1
 have HC0_1 := Aside0.mk hc0_1
 clear hr0_1 hc0_1
 have HR0_2 := Aside0.mk hr0_2
 have HC0_2 := Aside0.mk hc0_2
 clear hr0_2 hc0_2
 have HB := Aside0.mk (Below.refl w.heap.size w)
 have H : ((plumblaw05_Part_whole.f k a0_0 l0_1 l0_2).bind fun bt260 => ((rat_New.f k a0_0 bt260.1 bt260.2).bind fun bt266 => (if bt266.2.2.2 = 0 then ((rat_Check.f k bt266.1 bt266.2.1 bt266.2.2.1).bind fun t275 => (some (bt266.1, bt266.2.1, bt266.2.2.1, (t275 == 0)))) else (some (bt266.1, bt266.2.1, bt266.2.2.1, false))))) = some (r1, r2, r3, r4) := h
 clear h
 replace H := obe H
 obtain ⟨⟨t260, t263⟩, A20, H⟩ := H
 (try dsimp only at H)
 have A2 := Aside0.mk A20
 clear A20
 replace H := obe H
 obtain ⟨⟨t266, t267, t270, t273⟩, A30, H⟩ := H
 (try dsimp only at H)
 have A3 := Aside0.mk A30
 clear A30
 by_cases c4 : t273 = 0
 ·rw [if_pos c4] at H
  have c4b0 : (t273 == 0) = true := beq_iff_eq.mpr c4
  have c4b1 : (t273 != 0) = false := bne_eq_false_iff_eq.mpr c4
  clear c4
  replace H := obe H
  obtain ⟨t275, A50, H⟩ := H
  (try dsimp only at H)
  have A5 := Aside0.mk A50
  clear A50
  simp only [Option.some.injEq, Prod.mk.injEq] at H
  obtain ⟨rfl, rfl, rfl, rfl⟩ := H
  go_enter Try.func11, Try.ntmps11
  try go_wp2_with (first | ((with_reducible refine gate_dst (N := 1) rfl ?_); refine box_event ?hg (N := 1) ?hd (cs := #[.bool a0_0, .slice A0_1 l0_1.length c0_1, .slice A0_2 l0_2.length c0_2]) (t := 24) ?hr ?_; (case hd => rfl); (case hg => rfl); (case hr => first | (go_simp; done) | (go_simp; rfl)); intro gb258 hg w6 hbox hb; have BK258 := Aside0.mk (hbox); have GW258 := Aside0.mk ((by rw [hg]; exact (below_size dB) : w.heap.size ≤ gb258)); have GE258 := Aside0.mk ((by rw [hg]; exact (below_size dB) : w.heap.size ≤ gb258)); replace HB := Aside0.mk (below_step dB hb); clear hb hbox hg) | ((with_reducible refine gate_dst (N := 2) rfl ?_); refine box_event ?hg (N := 2) ?hd (cs := #[.bool false, .slice none 0 0, .slice none 0 0]) (t := 28) ?hr ?_; (case hd => rfl); (case hg => rfl); (case hr => first | (go_simp; done) | (go_simp; rfl)); intro gb259 hg w7 hbox hb; have BK259 := Aside0.mk (hbox); have GW259 := Aside0.mk ((by rw [hg]; exact (below_size (dG GE258.out)) : w.heap.size ≤ gb259)); have GE259 := Aside0.mk ((by rw [hg]; exact (below_size (dG GE258.out)) : w.heap.size ≤ gb259)); replace HB := Aside0.mk (below_step (dG GE258.out) hb); have NB258_259 := Aside0.mk ((by rw [hg]; exact Nat.ne_of_lt (blk_lt (g := gb258) (o := .cells #[.bool a0_0, .slice A0_1 l0_1.length c0_1, .slice A0_2 l0_2.length c0_2] 24 (0, 0)) (dK BK258.out)) : gb258 ≠ gb259)); have NB259_258 := Aside0.mk ((by rw [hg]; exact Nat.ne_of_gt (blk_lt (g := gb258) (o := .cells #[.bool a0_0, .slice A0_1 l0_1.length c0_1, .slice A0_2 l0_2.length c0_2] 24 (0, 0)) (dK BK258.out)) : gb259 ≠ gb258)); replace BK258 := Aside0.mk (blk_below (g := gb258) (o := .cells #[.bool a0_0, .slice A0_1 l0_1.length c0_1, .slice A0_2 l0_2.length c0_2] 24 (0, 0)) (dK BK258.out) hb); clear hb hbox hg; have hnb8 := NB258_259.out; have hnc8 := NB259_258.out; obtain ⟨hcz9_0, hcz9_1, hcz9_2⟩ := cz3 BK258.out; obtain ⟨hfz9_0, hfz9_1, hfz9_2⟩ := fz3 BK258.out) | ((with_reducible refine gate_callee (f := 10) rfl ?_); refine gL (some 10) Try.func10 #[.agg #[.bool a0_0, .slice A0_1 l0_1.length c0_1, .slice A0_2 l0_2.length c0_2]] ?_; (with_reducible refine (plumblaw05_Part_whole.calls k a0_0 _ _ l0_1 _ _ l0_2 t260 t263 _ ?side1 ?side2 ?side3 ?side4 A2.out).mono ?_); (case side1 => exact dC (Kd.C_below HR0_1.out HB.out)); (case side2 => exact HC0_1.out); (case side3 => exact dC (Kd.C_below HR0_2.out HB.out)); (case side4 => exact HC0_2.out); rintro e w10 ⟨v261, v264, rfl, ho0, ho1, hb⟩; refine ⟨_, rfl, ?_⟩; have HO262 := Aside0.mk (Kd.R_lower ho0 (below_size (by repeat (first | (with_reducible first | exact HB.out | apply below_alloc | apply pw_below_drewN | apply below_drew1 | refine below_set ?_ GE258.out | refine below_set ?_ GE259.out) | exact HB.out)))); have HO265 := Aside0.mk (Kd.R_lower ho1 (below_size (by repeat (first | (with_reducible first | exact HB.out | apply below_alloc | apply pw_below_drewN | apply below_drew1 | refine below_set ?_ GE258.out | refine below_set ?_ GE259.out) | exact HB.out)))); replace BK258 := Aside0.mk (blk_below (g := gb258) (o := .cells #[.bool a0_0, .slice A0_1 l0_1.length c0_1, .slice A0_2 l0_2.length c0_2] 24 (0, 0)) (dK BK258.out) hb); replace BK259 := Aside0.mk (blk_below (g := gb259) (o := .cells #[.bool false, .slice none 0 0, .slice none 0 0] 28 (0, 0)) (dK BK259.out) hb); replace HB := Aside0.mk (below_step (by repeat (first | (with_reducible first | exact HB.out | apply below_alloc | apply pw_below_drewN | apply below_drew1 | refine below_set ?_ GE258.out | refine below_set ?_ GE259.out) | exact HB.out)) hb); (try clear hb); (try clear ho0); (try clear ho1); obtain ⟨hcz11_0, hcz11_1, hcz11_2⟩ := cz3 BK258.out; obtain ⟨hfz11_0, hfz11_1, hfz11_2⟩ := fz3 BK258.out; obtain ⟨Ao12, co12, eo12⟩ := Kd.R_slice HO262.out; subst eo12; obtain ⟨Ao13, co13, eo13⟩ := Kd.R_slice HO265.out; subst eo13) | ((with_reducible refine gate_callee (f := 16) rfl ?_); refine gL (some 18) Try.func16 #[.bool a0_0, .slice Ao12 t260.length co12, .slice Ao13 t263.length co13] ?_; (with_reducible refine (rat_New.calls k a0_0 _ _ t260 _ _ t263 t266 t267 t270 t273 _ ?side1 ?side2 ?side3 ?side4 A3.out).mono ?_); (case side1 => exact dC (Kd.R_reads' HO262.out).2.2); (case side2 => exact (Kd.R_reads' HO262.out).2.1); (case side3 => exact dC (Kd.R_reads' HO265.out).2.2); (case side4 => exact (Kd.R_reads' HO265.out).2.1); rintro e w14 ⟨v268, v271, rfl, ho0, ho1, hb⟩; refine ⟨_, rfl, ?_⟩; have HO269 := Aside0.mk (Kd.R_lower (Kd.R_new' (Kd.R_new' ho0 (Kd.R_lt (dR HO262.out))) (Kd.R_lt (dR HO265.out))) (below_size (by repeat (first | (with_reducible first | exact HB.out | apply below_alloc | apply pw_below_drewN | apply below_drew1 | refine below_set ?_ GE258.out | refine below_set ?_ GE259.out) | exact HB.out)))); have HO272 := Aside0.mk (Kd.R_lower (Kd.R_new' (Kd.R_new' ho1 (Kd.R_lt (dR HO262.out))) (Kd.R_lt (dR HO265.out))) (below_size (by repeat (first | (with_reducible first | exact HB.out | apply below_alloc | apply pw_below_drewN | apply below_drew1 | refine below_set ?_ GE258.out | refine below_set ?_ GE259.out) | exact HB.out)))); replace HO262 := Aside0.mk (Kd.R_mono (Kd.R_told (Kd.R_told (Kd.R_old (dR HO262.out) hb) (Kd.R_base ho0)) (Kd.R_base ho1)) (fun _ h_ => h_.1)); replace HO265 := Aside0.mk (Kd.R_mono (Kd.R_told (Kd.R_told (Kd.R_old (dR HO265.out) hb) (Kd.R_base ho0)) (Kd.R_base ho1)) (fun _ h_ => h_.1)); replace BK258 := Aside0.mk (blk_below (g := gb258) (o := .cells #[.bool a0_0, .slice A0_1 l0_1.length c0_1, .slice A0_2 l0_2.length c0_2] 24 (0, 0)) (dK BK258.out) hb); replace BK259 := Aside0.mk (blk_below (g := gb259) (o := .cells #[.bool false, .slice none 0 0, .slice none 0 0] 28 (0, 0)) (dK BK259.out) hb); replace HB := Aside0.mk (below_step (by repeat (first | (with_reducible first | exact HB.out | apply below_alloc | apply pw_below_drewN | apply below_drew1 | refine below_set ?_ GE258.out | refine below_set ?_ GE259.out) | exact HB.out)) hb); (try clear hb); (try clear ho0); (try clear ho1)) | ((with_reducible refine gate_dst (N := 6) rfl ?_); refine box_event ?hg (N := 6) ?hd (cs := #[.bool false, .slice none 0 0, .slice none 0 0]) (t := 28) ?hr ?_; (case hd => rfl); (case hg => rfl); (case hr => first | (go_simp; done) | (go_simp; rfl)); intro gb274 hg w15 hbox hb; replace HO262 := Aside0.mk (Kd.R_below (dR HO262.out) hb); replace HO265 := Aside0.mk (Kd.R_below (dR HO265.out) hb); replace HO269 := Aside0.mk (Kd.R_below (dR HO269.out) hb); replace HO272 := Aside0.mk (Kd.R_below (dR HO272.out) hb); have BK274 := Aside0.mk (hbox); have GW274 := Aside0.mk ((by rw [hg]; exact (below_size (by repeat (first | (with_reducible first | exact HB.out | apply below_alloc | apply pw_below_drewN | apply below_drew1 | refine below_set ?_ GE258.out | refine below_set ?_ GE259.out) | exact HB.out))) : w.heap.size ≤ gb274)); have GE274 := Aside0.mk ((by rw [hg]; exact (below_size (by repeat (first | (with_reducible first | exact HB.out | apply below_alloc | apply pw_below_drewN | apply below_drew1 | refine below_set ?_ GE258.out | refine below_set ?_ GE259.out) | exact HB.out))) : w.heap.size ≤ gb274)); replace HB := Aside0.mk (below_step (by repeat (first | (with_reducible first | exact HB.out | apply below_alloc | apply pw_below_drewN | apply below_drew1 | refine below_set ?_ GE258.out | refine below_set ?_ GE259.out) | exact HB.out)) hb); have NB258_274 := Aside0.mk ((by rw [hg]; exact Nat.ne_of_lt (blk_lt (g := gb258) (o := .cells #[.bool a0_0, .slice A0_1 l0_1.length c0_1, .slice A0_2 l0_2.length c0_2] 24 (0, 0)) (dK BK258.out)) : gb258 ≠ gb274)); have NB274_258 := Aside0.mk ((by rw [hg]; exact Nat.ne_of_gt (blk_lt (g := gb258) (o := .cells #[.bool a0_0, .slice A0_1 l0_1.length c0_1, .slice A0_2 l0_2.length c0_2] 24 (0, 0)) (dK BK258.out)) : gb274 ≠ gb258)); replace BK258 := Aside0.mk (blk_below (g := gb258) (o := .cells #[.bool a0_0, .slice A0_1 l0_1.length c0_1, .slice A0_2 l0_2.length c0_2] 24 (0, 0)) (dK BK258.out) hb); have NB259_274 := Aside0.mk ((by rw [hg]; exact Nat.ne_of_lt (blk_lt (g := gb259) (o := .cells #[.bool false, .slice none 0 0, .slice none 0 0] 28 (0, 0)) (dK BK259.out)) : gb259 ≠ gb274)); have NB274_259 := Aside0.mk ((by rw [hg]; exact Nat.ne_of_gt (blk_lt (g := gb259) (o := .cells #[.bool false, .slice none 0 0, .slice none 0 0] 28 (0, 0)) (dK BK259.out)) : gb274 ≠ gb259)); replace BK259 := Aside0.mk (blk_below (g := gb259) (o := .cells #[.bool false, .slice none 0 0, .slice none 0 0] 28 (0, 0)) (dK BK259.out) hb); clear hb hbox hg; have hnb16 := NB274_258.out; have hnc16 := NB258_274.out; have hnb17 := NB274_259.out; have hnc17 := NB259_274.out; obtain ⟨hcz18_0, hcz18_1, hcz18_2⟩ := cz3 BK274.out; obtain ⟨hfz18_0, hfz18_1, hfz18_2⟩ := fz3 BK274.out; obtain ⟨Ao19, co19, eo19⟩ := Kd.R_slice HO269.out; subst eo19; obtain ⟨Ao20, co20, eo20⟩ := Kd.R_slice HO272.out; subst eo20))
  have n0_ : Aside0 (Kd.R (Kd.int .u64) 25 (((w15.setCell ⟨gb274, 0, none⟩ (.bool t266)).setCell ⟨gb274, 1, none⟩ (.slice Ao19 t267.length co19)).setCell ⟨gb274, 2, none⟩ (.slice Ao20 t270.length co20)) w.heap.size (fun k_ => some k_ ≠ (.slice Ao13 t263.length co13 : Value).ownBlock ∧ some k_ ≠ (.slice Ao19 t267.length co19 : Value).ownBlock ∧ some k_ ≠ (.slice Ao20 t270.length co20 : Value).ownBlock) (.slice Ao12 t260.length co12) t260) := ⟨by (with_reducible repeat (first | apply Kd.R_alloc | apply Kd.R_drewN | apply Kd.R_drew)); exact Kd.R_mono (Kd.R_far (p := ⟨gb274, 2, none⟩) (Kd.R_far (p := ⟨gb274, 1, none⟩) (Kd.R_far (p := ⟨gb274, 0, none⟩) (Kd.R_types HO262.out BK274.out (by decide)) (fun _ hk => hk.2) (.bool t266)) (fun _ hk => hk.2) (.slice Ao19 t267.length co19)) (fun _ hk => hk.2) (.slice Ao20 t270.length co20)) (fun _ hk => ⟨hk.1.1.1, ⟨hk.1.1.2, hk.1.2⟩⟩)⟩
  have n1_ : Aside0 (Kd.R (Kd.int .u64) 25 (((w15.setCell ⟨gb274, 0, none⟩ (.bool t266)).setCell ⟨gb274, 1, none⟩ (.slice Ao19 t267.length co19)).setCell ⟨gb274, 2, none⟩ (.slice Ao20 t270.length co20)) w.heap.size (fun k_ => some k_ ≠ (.slice Ao12 t260.length co12 : Value).ownBlock ∧ some k_ ≠ (.slice Ao19 t267.length co19 : Value).ownBlock ∧ some k_ ≠ (.slice Ao20 t270.length co20 : Value).ownBlock) (.slice Ao13 t263.length co13) t263) := ⟨by (with_reducible repeat (first | apply Kd.R_alloc | apply Kd.R_drewN | apply Kd.R_drew)); exact Kd.R_mono (Kd.R_far (p := ⟨gb274, 2, none⟩) (Kd.R_far (p := ⟨gb274, 1, none⟩) (Kd.R_far (p := ⟨gb274, 0, none⟩) (Kd.R_types HO265.out BK274.out (by decide)) (fun _ hk => hk.2) (.bool t266)) (fun _ hk => hk.2) (.slice Ao19 t267.length co19)) (fun _ hk => hk.2) (.slice Ao20 t270.length co20)) (fun _ hk => ⟨hk.1.1.1, ⟨hk.1.1.2, hk.1.2⟩⟩)⟩
  have n2_ : Aside0 (Kd.R (Kd.int .u64) 25 (((w15.setCell ⟨gb274, 0, none⟩ (.bool t266)).setCell ⟨gb274, 1, none⟩ (.slice Ao19 t267.length co19)).setCell ⟨gb274, 2, none⟩ (.slice Ao20 t270.length co20)) w.heap.size (fun k_ => some k_ ≠ (.slice Ao12 t260.length co12 : Value).ownBlock ∧ some k_ ≠ (.slice Ao13 t263.length co13 : Value).ownBlock ∧ some k_ ≠ (.slice Ao20 t270.length co20 : Value).ownBlock) (.slice Ao19 t267.length co19) t267) := ⟨by (with_reducible repeat (first | apply Kd.R_alloc | apply Kd.R_drewN | apply Kd.R_drew)); exact Kd.R_mono (Kd.R_far (p := ⟨gb274, 2, none⟩) (Kd.R_far (p := ⟨gb274, 1, none⟩) (Kd.R_far (p := ⟨gb274, 0, none⟩) (Kd.R_types HO269.out BK274.out (by decide)) (fun _ hk => hk.2) (.bool t266)) (fun _ hk => hk.2) (.slice Ao19 t267.length co19)) (fun _ hk => hk.2) (.slice Ao20 t270.length co20)) (fun _ hk => ⟨hk.1.1.2, ⟨hk.1.2, hk.1.1.1⟩⟩)⟩
  have n3_ : Aside0 (Kd.R (Kd.int .u64) 25 (((w15.setCell ⟨gb274, 0, none⟩ (.bool t266)).setCell ⟨gb274, 1, none⟩ (.slice Ao19 t267.length co19)).setCell ⟨gb274, 2, none⟩ (.slice Ao20 t270.length co20)) w.heap.size (fun k_ => some k_ ≠ (.slice Ao12 t260.length co12 : Value).ownBlock ∧ some k_ ≠ (.slice Ao13 t263.length co13 : Value).ownBlock ∧ some k_ ≠ (.slice Ao19 t267.length co19 : Value).ownBlock) (.slice Ao20 t270.length co20) t270) := ⟨by (with_reducible repeat (first | apply Kd.R_alloc | apply Kd.R_drewN | apply Kd.R_drew)); exact Kd.R_mono (Kd.R_far (p := ⟨gb274, 2, none⟩) (Kd.R_far (p := ⟨gb274, 1, none⟩) (Kd.R_far (p := ⟨gb274, 0, none⟩) (Kd.R_types HO272.out BK274.out (by decide)) (fun _ hk => hk.2) (.bool t266)) (fun _ hk => hk.2) (.slice Ao19 t267.length co19)) (fun _ hk => hk.2) (.slice Ao20 t270.length co20)) (fun _ hk => ⟨hk.1.1.2, ⟨hk.1.2, hk.1.1.1⟩⟩)⟩
  have n4_ : Aside0 ((((w15.setCell ⟨gb274, 0, none⟩ (.bool t266)).setCell ⟨gb274, 1, none⟩ (.slice Ao19 t267.length co19)).setCell ⟨gb274, 2, none⟩ (.slice Ao20 t270.length co20)).heap[gb258]? = some (.cells #[.bool a0_0, .slice A0_1 l0_1.length c0_1, .slice A0_2 l0_2.length c0_2] 24 (0, 0))) := ⟨by (with_reducible repeat (first | refine blk_drewN ?_ _ | refine blk_drew ?_ | refine blk_alloc ?_ _)); refine blk_far ?_ NB258_274.out _; (with_reducible repeat (first | refine blk_drewN ?_ _ | refine blk_drew ?_ | refine blk_alloc ?_ _)); refine blk_far ?_ NB258_274.out _; (with_reducible repeat (first | refine blk_drewN ?_ _ | refine blk_drew ?_ | refine blk_alloc ?_ _)); refine blk_far ?_ NB258_274.out _; (with_reducible repeat (first | refine blk_drewN ?_ _ | refine blk_drew ?_ | refine blk_alloc ?_ _)); exact BK258.out⟩
  have n5_ : Aside0 ((((w15.setCell ⟨gb274, 0, none⟩ (.bool t266)).setCell ⟨gb274, 1, none⟩ (.slice Ao19 t267.length co19)).setCell ⟨gb274, 2, none⟩ (.slice Ao20 t270.length co20)).heap[gb259]? = some (.cells #[.bool false, .slice none 0 0, .slice none 0 0] 28 (0, 0))) := ⟨by (with_reducible repeat (first | refine blk_drewN ?_ _ | refine blk_drew ?_ | refine blk_alloc ?_ _)); refine blk_far ?_ NB259_274.out _; (with_reducible repeat (first | refine blk_drewN ?_ _ | refine blk_drew ?_ | refine blk_alloc ?_ _)); refine blk_far ?_ NB259_274.out _; (with_reducible repeat (first | refine blk_drewN ?_ _ | refine blk_drew ?_ | refine blk_alloc ?_ _)); refine blk_far ?_ NB259_274.out _; (with_reducible repeat (first | refine blk_drewN ?_ _ | refine blk_drew ?_ | refine blk_alloc ?_ _)); exact BK259.out⟩
  have n6_ : Aside0 ((((w15.setCell ⟨gb274, 0, none⟩ (.bool t266)).setCell ⟨gb274, 1, none⟩ (.slice Ao19 t267.length co19)).setCell ⟨gb274, 2, none⟩ (.slice Ao20 t270.length co20)).heap[gb274]? = some (.cells #[.bool t266, .slice Ao19 t267.length co19, .slice Ao20 t270.length co20] 28 (0, 0))) := ⟨dP BK274.out⟩
  have n7_ : Aside0 (Below w.heap.size w (((w15.setCell ⟨gb274, 0, none⟩ (.bool t266)).setCell ⟨gb274, 1, none⟩ (.slice Ao19 t267.length co19)).setCell ⟨gb274, 2, none⟩ (.slice Ao20 t270.length co20))) := ⟨by repeat (first | (with_reducible first | exact HB.out | apply below_alloc | apply pw_below_drewN | apply below_drew1 | refine below_set ?_ GE258.out | refine below_set ?_ GE259.out | refine below_set ?_ GE274.out) | exact HB.out)⟩
  (try clear HO262)
  (try clear HO265)
  (try clear HO269)
  (try clear HO272)
  (try clear BK258)
  (try clear BK259)
  (try clear BK274)
  (try clear HB)
  generalize (((w15.setCell ⟨gb274, 0, none⟩ (.bool t266)).setCell ⟨gb274, 1, none⟩ (.slice Ao19 t267.length co19)).setCell ⟨gb274, 2, none⟩ (.slice Ao20 t270.length co20)) = w21 at n0_ n1_ n2_ n3_ n4_ n5_ n6_ n7_ ⊢
  have HO262 := n0_
  have HO265 := n1_
  have HO269 := n2_
  have HO272 := n3_
  have BK258 := n4_
  have BK259 := n5_
  have BK274 := n6_
  have HB := n7_
  clear n0_ n1_ n2_ n3_ n4_ n5_ n6_ n7_
  replace HO262 := Aside0.mk (Kd.R_drew HO262.out)
  replace HO265 := Aside0.mk (Kd.R_drew HO265.out)
  replace HO269 := Aside0.mk (Kd.R_drew HO269.out)
  replace HO272 := Aside0.mk (Kd.R_drew HO272.out)
  replace BK258 := Aside0.mk (blk_drew BK258.out)
  replace BK259 := Aside0.mk (blk_drew BK259.out)
  replace BK274 := Aside0.mk (blk_drew BK274.out)
  replace HB := Aside0.mk (below_drew1 HB.out)
  refine start_ (n := 10) (S := fun w' => w'.cell? ⟨gb274, 0, none⟩ = some (.bool t266) ∧ w'.cell? ⟨gb274, 1, none⟩ = some (.slice Ao19 t267.length co19) ∧ w'.cell? ⟨gb274, 2, none⟩ = some (.slice Ao20 t270.length co20)) (ds := []) #[false, false, false, false, false, false, false, false, false, false] (by kernel_rfl) rfl rfl (cz3 BK274.out) (fun hHeld => ?_); refine with_tabW plumblaw05_Part_made.tab3 plumblaw05_Part_made.bits3 (fun HT_ HW_ => ?_)
  generalize w21.drew = w22 at HO262 HO265 HO269 HO272 BK258 BK259 BK274 HB hHeld ⊢
  refine pP 1 (some 22) ?_
  refine pP 2 (some 23) ?_
  refine pP 3 (some 24) ?_
  refine pH3 0 (some 21) hHeld ?_
  refine pH3 4 (some 25) hHeld ?_
  refine one_ (i := 5) (N := some 26) #[true, true, true, true, true, true, false, false, false, false] rfl rfl (one_of HT_.out (by kernel_rfl)) (by decide) (fun K hK => ?_)
  refine goes_ Try.func28 (by kernel_rfl) rfl #[.agg #[.bool t266, .slice Ao19 t267.length co19, .slice Ao20 t270.length co20]] (by rfl) rfl rfl dA ?_
  with_reducible refine (rat_Check.calls k t266 _ _ t267 _ _ t270 t275 _ ?side1 ?side2 ?side3 ?side4 A5.out).mono ?_
  (case side1 => exact dC (Kd.R_reads' HO269.out).2.2)
  (case side2 => exact (Kd.R_reads' HO269.out).2.1)
  (case side3 => exact dC (Kd.R_reads' HO272.out).2.2)
  (case side4 => exact (Kd.R_reads' HO272.out).2.1)
  rintro e w23 ⟨rfl, hb⟩
  refine ⟨_, rfl, ?_⟩
  replace HO262 := Aside0.mk (Kd.R_below (dR HO262.out) hb)
  replace HO265 := Aside0.mk (Kd.R_below (dR HO265.out) hb)
  replace HO269 := Aside0.mk (Kd.R_below (dR HO269.out) hb)
  replace HO272 := Aside0.mk (Kd.R_below (dR HO272.out) hb)
  replace BK258 := Aside0.mk (blk_below (g := gb258) (o := .cells #[.bool a0_0, .slice A0_1 l0_1.length c0_1, .slice A0_2 l0_2.length c0_2] 24 (0, 0)) (dK BK258.out) hb)
  replace BK259 := Aside0.mk (blk_below (g := gb259) (o := .cells #[.bool false, .slice none 0 0, .slice none 0 0] 28 (0, 0)) (dK BK259.out) hb)
  replace BK274 := Aside0.mk (blk_below (g := gb274) (o := .cells #[.bool t266, .slice Ao19 t267.length co19, .slice Ao20 t270.length co20] 28 (0, 0)) (dK BK274.out) hb)
  replace HB := Aside0.mk (below_step (by repeat (first | (with_reducible first | exact HB.out | apply below_alloc | apply pw_below_drewN | apply below_drew1 | refine below_set ?_ GE258.out | refine below_set ?_ GE259.out | refine below_set ?_ GE274.out) | exact HB.out)) hb)
  (try clear hb)
  (try clear hb2)
  (try clear hk)
  (try clear hi)
  refine hK.out _ _ (cz3 BK274.out) (fun hHeld => ?_)
  clear hK K
  refine norm_ (a' := ?_) ?_ ?_
  rotate_left
  ·show Act.put _ (some 26) _ = _
   simp only [Act.put, List.setIfInBounds_toArray, List.set_cons_zero, List.set_cons_succ, i64_w, i32_w]
   rfl
  refine pP 6 (some 27) ?_
  refine pP 7 (some 28) ?_
  refine one_ (i := 8) (N := none) #[true, true, true, true, true, true, true, true, true, false] rfl rfl (one_of HT_.out (by kernel_rfl)) (by decide) (fun K hK => ?_)
  have hs24 : w23.cell? ⟨gb259, 0, none⟩ = some (.bool false) := (blk_cell BK259.out 0).trans rfl
  have hfs24 := blk_frozen BK259.out 0
  have hns24_0 := NB258_259.out
  have hns24_2 := NB274_259.out
  have hms24_0 := NB259_258.out
  have hms24_2 := NB259_274.out
  have hs25 : w23.cell? ⟨gb259, 1, none⟩ = some (.slice none 0 0) := (blk_cell BK259.out 1).trans rfl
  have hfs25 := blk_frozen BK259.out 1
  have hns25_0 := NB258_259.out
  have hns25_2 := NB274_259.out
  have hms25_0 := NB259_258.out
  have hms25_2 := NB259_274.out
  have hs26 : w23.cell? ⟨gb259, 2, none⟩ = some (.slice none 0 0) := (blk_cell BK259.out 2).trans rfl
  have hfs26 := blk_frozen BK259.out 2
  have hns26_0 := NB258_259.out
  have hns26_2 := NB274_259.out
  have hms26_0 := NB259_258.out
  have hms26_2 := NB259_274.out
  refine skip_ (w1 := ?_) (by rfl) rfl ?_ ?_
  rotate_left
  ·go_simp
   rfl
  refine hK.out _ _ ⟨((cell_far (p := ⟨gb259, _, none⟩) NB274_259.out _).trans (((cell_far (p := ⟨gb259, _, none⟩) NB274_259.out _).trans (((cell_far (p := ⟨gb259, _, none⟩) NB274_259.out _).trans (hHeld.1)))))), ((cell_far (p := ⟨gb259, _, none⟩) NB274_259.out _).trans (((cell_far (p := ⟨gb259, _, none⟩) NB274_259.out _).trans (((cell_far (p := ⟨gb259, _, none⟩) NB274_259.out _).trans (hHeld.2.1)))))), ((cell_far (p := ⟨gb259, _, none⟩) NB274_259.out _).trans (((cell_far (p := ⟨gb259, _, none⟩) NB274_259.out _).trans (((cell_far (p := ⟨gb259, _, none⟩) NB274_259.out _).trans (hHeld.2.2))))))⟩ (fun hHeld => ?_)
  clear hK K
  refine pP 9 (some 3) ?_
  refine done_ (done_of HT_.out (by kernel_rfl)) ?_
  try go_wp2
  refine bodyPost_ret (results_ct rfl _ _ gb259 28 #[.bool t266, .slice Ao19 t267.length co19, .slice Ao20 t270.length co20] (0, 0) _ rfl (dP BK259.out) Try.underlying28 rfl (by kernel_rfl)) rfl ?_
  exact ⟨_, _, dE, by (with_reducible repeat (first | apply Kd.R_alloc | apply Kd.R_drewN | apply Kd.R_drew)); exact Kd.R_mono (Kd.R_far (p := ⟨gb259, 2, none⟩) (Kd.R_far (p := ⟨gb259, 1, none⟩) (Kd.R_far (p := ⟨gb259, 0, none⟩) (Kd.R_types HO269.out BK259.out (by decide)) (fun _ hk => hk.2) (.bool t266)) (fun _ hk => hk.2) (.slice Ao19 t267.length co19)) (fun _ hk => hk.2) (.slice Ao20 t270.length co20)) (fun _ hk => hk.1.2.2), by (with_reducible repeat (first | apply Kd.R_alloc | apply Kd.R_drewN | apply Kd.R_drew)); exact Kd.R_mono (Kd.R_far (p := ⟨gb259, 2, none⟩) (Kd.R_far (p := ⟨gb259, 1, none⟩) (Kd.R_far (p := ⟨gb259, 0, none⟩) (Kd.R_types HO272.out BK259.out (by decide)) (fun _ hk => hk.2) (.bool t266)) (fun _ hk => hk.2) (.slice Ao19 t267.length co19)) (fun _ hk => hk.2) (.slice Ao20 t270.length co20)) (fun _ hk => hk.1.2.2), by repeat (first | (with_reducible first | exact HB.out | apply below_alloc | apply pw_below_drewN | apply below_drew1 | refine below_set ?_ GE258.out | refine below_set ?_ GE259.out | refine below_set ?_ GE274.out) | exact HB.out)⟩
 ·rw [if_neg c4] at H
  have c4b0 : (t273 == 0) = false := beq_eq_false_iff_ne.mpr c4
  have c4b1 : (t273 != 0) = true := bne_iff_ne.mpr c4
  simp only [Option.some.injEq, Prod.mk.injEq] at H
  obtain ⟨rfl, rfl, rfl, rfl⟩ := H
  go_enter Try.func11, Try.ntmps11
  try go_wp2_with (first | ((with_reducible refine gate_dst (N := 1) rfl ?_); refine box_event ?hg (N := 1) ?hd (cs := #[.bool a0_0, .slice A0_1 l0_1.length c0_1, .slice A0_2 l0_2.length c0_2]) (t := 24) ?hr ?_; (case hd => rfl); (case hg => rfl); (case hr => first | (go_simp; done) | (go_simp; rfl)); intro gb258 hg w27 hbox hb; have BK258 := Aside0.mk (hbox); have GW258 := Aside0.mk ((by rw [hg]; exact (below_size dB) : w.heap.size ≤ gb258)); have GE258 := Aside0.mk ((by rw [hg]; exact (below_size dB) : w.heap.size ≤ gb258)); replace HB := Aside0.mk (below_step dB hb); clear hb hbox hg) | ((with_reducible refine gate_dst (N := 2) rfl ?_); refine box_event ?hg (N := 2) ?hd (cs := #[.bool false, .slice none 0 0, .slice none 0 0]) (t := 28) ?hr ?_; (case hd => rfl); (case hg => rfl); (case hr => first | (go_simp; done) | (go_simp; rfl)); intro gb259 hg w28 hbox hb; have BK259 := Aside0.mk (hbox); have GW259 := Aside0.mk ((by rw [hg]; exact (below_size (dG GE258.out)) : w.heap.size ≤ gb259)); have GE259 := Aside0.mk ((by rw [hg]; exact (below_size (dG GE258.out)) : w.heap.size ≤ gb259)); replace HB := Aside0.mk (below_step (dG GE258.out) hb); have NB258_259 := Aside0.mk ((by rw [hg]; exact Nat.ne_of_lt (blk_lt (g := gb258) (o := .cells #[.bool a0_0, .slice A0_1 l0_1.length c0_1, .slice A0_2 l0_2.length c0_2] 24 (0, 0)) (dK BK258.out)) : gb258 ≠ gb259)); have NB259_258 := Aside0.mk ((by rw [hg]; exact Nat.ne_of_gt (blk_lt (g := gb258) (o := .cells #[.bool a0_0, .slice A0_1 l0_1.length c0_1, .slice A0_2 l0_2.length c0_2] 24 (0, 0)) (dK BK258.out)) : gb259 ≠ gb258)); replace BK258 := Aside0.mk (blk_below (g := gb258) (o := .cells #[.bool a0_0, .slice A0_1 l0_1.length c0_1, .slice A0_2 l0_2.length c0_2] 24 (0, 0)) (dK BK258.out) hb); clear hb hbox hg; have hnb29 := NB258_259.out; have hnc29 := NB259_258.out; obtain ⟨hcz30_0, hcz30_1, hcz30_2⟩ := cz3 BK258.out; obtain ⟨hfz30_0, hfz30_1, hfz30_2⟩ := fz3 BK258.out) | ((with_reducible refine gate_callee (f := 10) rfl ?_); refine gL (some 10) Try.func10 #[.agg #[.bool a0_0, .slice A0_1 l0_1.length c0_1, .slice A0_2 l0_2.length c0_2]] ?_; (with_reducible refine (plumblaw05_Part_whole.calls k a0_0 _ _ l0_1 _ _ l0_2 t260 t263 _ ?side1 ?side2 ?side3 ?side4 A2.out).mono ?_); (case side1 => exact dC (Kd.C_below HR0_1.out HB.out)); (case side2 => exact HC0_1.out); (case side3 => exact dC (Kd.C_below HR0_2.out HB.out)); (case side4 => exact HC0_2.out); rintro e w31 ⟨v261, v264, rfl, ho0, ho1, hb⟩; refine ⟨_, rfl, ?_⟩; have HO262 := Aside0.mk (Kd.R_lower ho0 (below_size (by repeat (first | (with_reducible first | exact HB.out | apply below_alloc | apply pw_below_drewN | apply below_drew1 | refine below_set ?_ GE258.out | refine below_set ?_ GE259.out) | exact HB.out)))); have HO265 := Aside0.mk (Kd.R_lower ho1 (below_size (by repeat (first | (with_reducible first | exact HB.out | apply below_alloc | apply pw_below_drewN | apply below_drew1 | refine below_set ?_ GE258.out | refine below_set ?_ GE259.out) | exact HB.out)))); replace BK258 := Aside0.mk (blk_below (g := gb258) (o := .cells #[.bool a0_0, .slice A0_1 l0_1.length c0_1, .slice A0_2 l0_2.length c0_2] 24 (0, 0)) (dK BK258.out) hb); replace BK259 := Aside0.mk (blk_below (g := gb259) (o := .cells #[.bool false, .slice none 0 0, .slice none 0 0] 28 (0, 0)) (dK BK259.out) hb); replace HB := Aside0.mk (below_step (by repeat (first | (with_reducible first | exact HB.out | apply below_alloc | apply pw_below_drewN | apply below_drew1 | refine below_set ?_ GE258.out | refine below_set ?_ GE259.out) | exact HB.out)) hb); (try clear hb); (try clear ho0); (try clear ho1); obtain ⟨hcz32_0, hcz32_1, hcz32_2⟩ := cz3 BK258.out; obtain ⟨hfz32_0, hfz32_1, hfz32_2⟩ := fz3 BK258.out; obtain ⟨Ao33, co33, eo33⟩ := Kd.R_slice HO262.out; subst eo33; obtain ⟨Ao34, co34, eo34⟩ := Kd.R_slice HO265.out; subst eo34) | ((with_reducible refine gate_callee (f := 16) rfl ?_); refine gL (some 18) Try.func16 #[.bool a0_0, .slice Ao33 t260.length co33, .slice Ao34 t263.length co34] ?_; (with_reducible refine (rat_New.calls k a0_0 _ _ t260 _ _ t263 t266 t267 t270 t273 _ ?side1 ?side2 ?side3 ?side4 A3.out).mono ?_); (case side1 => exact dC (Kd.R_reads' HO262.out).2.2); (case side2 => exact (Kd.R_reads' HO262.out).2.1); (case side3 => exact dC (Kd.R_reads' HO265.out).2.2); (case side4 => exact (Kd.R_reads' HO265.out).2.1); rintro e w35 ⟨v268, v271, rfl, ho0, ho1, hb⟩; refine ⟨_, rfl, ?_⟩; have HO269 := Aside0.mk (Kd.R_lower (Kd.R_new' (Kd.R_new' ho0 (Kd.R_lt (dR HO262.out))) (Kd.R_lt (dR HO265.out))) (below_size (by repeat (first | (with_reducible first | exact HB.out | apply below_alloc | apply pw_below_drewN | apply below_drew1 | refine below_set ?_ GE258.out | refine below_set ?_ GE259.out) | exact HB.out)))); have HO272 := Aside0.mk (Kd.R_lower (Kd.R_new' (Kd.R_new' ho1 (Kd.R_lt (dR HO262.out))) (Kd.R_lt (dR HO265.out))) (below_size (by repeat (first | (with_reducible first | exact HB.out | apply below_alloc | apply pw_below_drewN | apply below_drew1 | refine below_set ?_ GE258.out | refine below_set ?_ GE259.out) | exact HB.out)))); replace HO262 := Aside0.mk (Kd.R_mono (Kd.R_told (Kd.R_told (Kd.R_old (dR HO262.out) hb) (Kd.R_base ho0)) (Kd.R_base ho1)) (fun _ h_ => h_.1)); replace HO265 := Aside0.mk (Kd.R_mono (Kd.R_told (Kd.R_told (Kd.R_old (dR HO265.out) hb) (Kd.R_base ho0)) (Kd.R_base ho1)) (fun _ h_ => h_.1)); replace BK258 := Aside0.mk (blk_below (g := gb258) (o := .cells #[.bool a0_0, .slice A0_1 l0_1.length c0_1, .slice A0_2 l0_2.length c0_2] 24 (0, 0)) (dK BK258.out) hb); replace BK259 := Aside0.mk (blk_below (g := gb259) (o := .cells #[.bool false, .slice none 0 0, .slice none 0 0] 28 (0, 0)) (dK BK259.out) hb); replace HB := Aside0.mk (below_step (by repeat (first | (with_reducible first | exact HB.out | apply below_alloc | apply pw_below_drewN | apply below_drew1 | refine below_set ?_ GE258.out | refine below_set ?_ GE259.out) | exact HB.out)) hb); (try clear hb); (try clear ho0); (try clear ho1)) | ((with_reducible refine gate_dst (N := 6) rfl ?_); refine box_event ?hg (N := 6) ?hd (cs := #[.bool false, .slice none 0 0, .slice none 0 0]) (t := 28) ?hr ?_; (case hd => rfl); (case hg => rfl); (case hr => first | (go_simp; done) | (go_simp; rfl)); intro gb274 hg w36 hbox hb; replace HO262 := Aside0.mk (Kd.R_below (dR HO262.out) hb); replace HO265 := Aside0.mk (Kd.R_below (dR HO265.out) hb); replace HO269 := Aside0.mk (Kd.R_below (dR HO269.out) hb); replace HO272 := Aside0.mk (Kd.R_below (dR HO272.out) hb); have BK274 := Aside0.mk (hbox); have GW274 := Aside0.mk ((by rw [hg]; exact (below_size (by repeat (first | (with_reducible first | exact HB.out | apply below_alloc | apply pw_below_drewN | apply below_drew1 | refine below_set ?_ GE258.out | refine below_set ?_ GE259.out) | exact HB.out))) : w.heap.size ≤ gb274)); have GE274 := Aside0.mk ((by rw [hg]; exact (below_size (by repeat (first | (with_reducible first | exact HB.out | apply below_alloc | apply pw_below_drewN | apply below_drew1 | refine below_set ?_ GE258.out | refine below_set ?_ GE259.out) | exact HB.out))) : w.heap.size ≤ gb274)); replace HB := Aside0.mk (below_step (by repeat (first | (with_reducible first | exact HB.out | apply below_alloc | apply pw_below_drewN | apply below_drew1 | refine below_set ?_ GE258.out | refine below_set ?_ GE259.out) | exact HB.out)) hb); have NB258_274 := Aside0.mk ((by rw [hg]; exact Nat.ne_of_lt (blk_lt (g := gb258) (o := .cells #[.bool a0_0, .slice A0_1 l0_1.length c0_1, .slice A0_2 l0_2.length c0_2] 24 (0, 0)) (dK BK258.out)) : gb258 ≠ gb274)); have NB274_258 := Aside0.mk ((by rw [hg]; exact Nat.ne_of_gt (blk_lt (g := gb258) (o := .cells #[.bool a0_0, .slice A0_1 l0_1.length c0_1, .slice A0_2 l0_2.length c0_2] 24 (0, 0)) (dK BK258.out)) : gb274 ≠ gb258)); replace BK258 := Aside0.mk (blk_below (g := gb258) (o := .cells #[.bool a0_0, .slice A0_1 l0_1.length c0_1, .slice A0_2 l0_2.length c0_2] 24 (0, 0)) (dK BK258.out) hb); have NB259_274 := Aside0.mk ((by rw [hg]; exact Nat.ne_of_lt (blk_lt (g := gb259) (o := .cells #[.bool false, .slice none 0 0, .slice none 0 0] 28 (0, 0)) (dK BK259.out)) : gb259 ≠ gb274)); have NB274_259 := Aside0.mk ((by rw [hg]; exact Nat.ne_of_gt (blk_lt (g := gb259) (o := .cells #[.bool false, .slice none 0 0, .slice none 0 0] 28 (0, 0)) (dK BK259.out)) : gb274 ≠ gb259)); replace BK259 := Aside0.mk (blk_below (g := gb259) (o := .cells #[.bool false, .slice none 0 0, .slice none 0 0] 28 (0, 0)) (dK BK259.out) hb); clear hb hbox hg; have hnb37 := NB274_258.out; have hnc37 := NB258_274.out; have hnb38 := NB274_259.out; have hnc38 := NB259_274.out; obtain ⟨hcz39_0, hcz39_1, hcz39_2⟩ := cz3 BK274.out; obtain ⟨hfz39_0, hfz39_1, hfz39_2⟩ := fz3 BK274.out; obtain ⟨Ao40, co40, eo40⟩ := Kd.R_slice HO269.out; subst eo40; obtain ⟨Ao41, co41, eo41⟩ := Kd.R_slice HO272.out; subst eo41))
  have n0_ : Aside0 (Kd.R (Kd.int .u64) 25 (((w36.setCell ⟨gb274, 0, none⟩ (.bool t266)).setCell ⟨gb274, 1, none⟩ (.slice Ao40 t267.length co40)).setCell ⟨gb274, 2, none⟩ (.slice Ao41 t270.length co41)) w.heap.size (fun k_ => some k_ ≠ (.slice Ao34 t263.length co34 : Value).ownBlock ∧ some k_ ≠ (.slice Ao40 t267.length co40 : Value).ownBlock ∧ some k_ ≠ (.slice Ao41 t270.length co41 : Value).ownBlock) (.slice Ao33 t260.length co33) t260) := ⟨by (with_reducible repeat (first | apply Kd.R_alloc | apply Kd.R_drewN | apply Kd.R_drew)); exact Kd.R_mono (Kd.R_far (p := ⟨gb274, 2, none⟩) (Kd.R_far (p := ⟨gb274, 1, none⟩) (Kd.R_far (p := ⟨gb274, 0, none⟩) (Kd.R_types HO262.out BK274.out (by decide)) (fun _ hk => hk.2) (.bool t266)) (fun _ hk => hk.2) (.slice Ao40 t267.length co40)) (fun _ hk => hk.2) (.slice Ao41 t270.length co41)) (fun _ hk => ⟨hk.1.1.1, ⟨hk.1.1.2, hk.1.2⟩⟩)⟩
  have n1_ : Aside0 (Kd.R (Kd.int .u64) 25 (((w36.setCell ⟨gb274, 0, none⟩ (.bool t266)).setCell ⟨gb274, 1, none⟩ (.slice Ao40 t267.length co40)).setCell ⟨gb274, 2, none⟩ (.slice Ao41 t270.length co41)) w.heap.size (fun k_ => some k_ ≠ (.slice Ao33 t260.length co33 : Value).ownBlock ∧ some k_ ≠ (.slice Ao40 t267.length co40 : Value).ownBlock ∧ some k_ ≠ (.slice Ao41 t270.length co41 : Value).ownBlock) (.slice Ao34 t263.length co34) t263) := ⟨by (with_reducible repeat (first | apply Kd.R_alloc | apply Kd.R_drewN | apply Kd.R_drew)); exact Kd.R_mono (Kd.R_far (p := ⟨gb274, 2, none⟩) (Kd.R_far (p := ⟨gb274, 1, none⟩) (Kd.R_far (p := ⟨gb274, 0, none⟩) (Kd.R_types HO265.out BK274.out (by decide)) (fun _ hk => hk.2) (.bool t266)) (fun _ hk => hk.2) (.slice Ao40 t267.length co40)) (fun _ hk => hk.2) (.slice Ao41 t270.length co41)) (fun _ hk => ⟨hk.1.1.1, ⟨hk.1.1.2, hk.1.2⟩⟩)⟩
  have n2_ : Aside0 (Kd.R (Kd.int .u64) 25 (((w36.setCell ⟨gb274, 0, none⟩ (.bool t266)).setCell ⟨gb274, 1, none⟩ (.slice Ao40 t267.length co40)).setCell ⟨gb274, 2, none⟩ (.slice Ao41 t270.length co41)) w.heap.size (fun k_ => some k_ ≠ (.slice Ao33 t260.length co33 : Value).ownBlock ∧ some k_ ≠ (.slice Ao34 t263.length co34 : Value).ownBlock ∧ some k_ ≠ (.slice Ao41 t270.length co41 : Value).ownBlock) (.slice Ao40 t267.length co40) t267) := ⟨by (with_reducible repeat (first | apply Kd.R_alloc | apply Kd.R_drewN | apply Kd.R_drew)); exact Kd.R_mono (Kd.R_far (p := ⟨gb274, 2, none⟩) (Kd.R_far (p := ⟨gb274, 1, none⟩) (Kd.R_far (p := ⟨gb274, 0, none⟩) (Kd.R_types HO269.out BK274.out (by decide)) (fun _ hk => hk.2) (.bool t266)) (fun _ hk => hk.2) (.slice Ao40 t267.length co40)) (fun _ hk => hk.2) (.slice Ao41 t270.length co41)) (fun _ hk => ⟨hk.1.1.2, ⟨hk.1.2, hk.1.1.1⟩⟩)⟩
  have n3_ : Aside0 (Kd.R (Kd.int .u64) 25 (((w36.setCell ⟨gb274, 0, none⟩ (.bool t266)).setCell ⟨gb274, 1, none⟩ (.slice Ao40 t267.length co40)).setCell ⟨gb274, 2, none⟩ (.slice Ao41 t270.length co41)) w.heap.size (fun k_ => some k_ ≠ (.slice Ao33 t260.length co33 : Value).ownBlock ∧ some k_ ≠ (.slice Ao34 t263.length co34 : Value).ownBlock ∧ some k_ ≠ (.slice Ao40 t267.length co40 : Value).ownBlock) (.slice Ao41 t270.length co41) t270) := ⟨by (with_reducible repeat (first | apply Kd.R_alloc | apply Kd.R_drewN | apply Kd.R_drew)); exact Kd.R_mono (Kd.R_far (p := ⟨gb274, 2, none⟩) (Kd.R_far (p := ⟨gb274, 1, none⟩) (Kd.R_far (p := ⟨gb274, 0, none⟩) (Kd.R_types HO272.out BK274.out (by decide)) (fun _ hk => hk.2) (.bool t266)) (fun _ hk => hk.2) (.slice Ao40 t267.length co40)) (fun _ hk => hk.2) (.slice Ao41 t270.length co41)) (fun _ hk => ⟨hk.1.1.2, ⟨hk.1.2, hk.1.1.1⟩⟩)⟩
  have n4_ : Aside0 ((((w36.setCell ⟨gb274, 0, none⟩ (.bool t266)).setCell ⟨gb274, 1, none⟩ (.slice Ao40 t267.length co40)).setCell ⟨gb274, 2, none⟩ (.slice Ao41 t270.length co41)).heap[gb258]? = some (.cells #[.bool a0_0, .slice A0_1 l0_1.length c0_1, .slice A0_2 l0_2.length c0_2] 24 (0, 0))) := ⟨by (with_reducible repeat (first | refine blk_drewN ?_ _ | refine blk_drew ?_ | refine blk_alloc ?_ _)); refine blk_far ?_ NB258_274.out _; (with_reducible repeat (first | refine blk_drewN ?_ _ | refine blk_drew ?_ | refine blk_alloc ?_ _)); refine blk_far ?_ NB258_274.out _; (with_reducible repeat (first | refine blk_drewN ?_ _ | refine blk_drew ?_ | refine blk_alloc ?_ _)); refine blk_far ?_ NB258_274.out _; (with_reducible repeat (first | refine blk_drewN ?_ _ | refine blk_drew ?_ | refine blk_alloc ?_ _)); exact BK258.out⟩
  have n5_ : Aside0 ((((w36.setCell ⟨gb274, 0, none⟩ (.bool t266)).setCell ⟨gb274, 1, none⟩ (.slice Ao40 t267.length co40)).setCell ⟨gb274, 2, none⟩ (.slice Ao41 t270.length co41)).heap[gb259]? = some (.cells #[.bool false, .slice none 0 0, .slice none 0 0] 28 (0, 0))) := ⟨by (with_reducible repeat (first | refine blk_drewN ?_ _ | refine blk_drew ?_ | refine blk_alloc ?_ _)); refine blk_far ?_ NB259_274.out _; (with_reducible repeat (first | refine blk_drewN ?_ _ | refine blk_drew ?_ | refine blk_alloc ?_ _)); refine blk_far ?_ NB259_274.out _; (with_reducible repeat (first | refine blk_drewN ?_ _ | refine blk_drew ?_ | refine blk_alloc ?_ _)); refine blk_far ?_ NB259_274.out _; (with_reducible repeat (first | refine blk_drewN ?_ _ | refine blk_drew ?_ | refine blk_alloc ?_ _)); exact BK259.out⟩
  have n6_ : Aside0 ((((w36.setCell ⟨gb274, 0, none⟩ (.bool t266)).setCell ⟨gb274, 1, none⟩ (.slice Ao40 t267.length co40)).setCell ⟨gb274, 2, none⟩ (.slice Ao41 t270.length co41)).heap[gb274]? = some (.cells #[.bool t266, .slice Ao40 t267.length co40, .slice Ao41 t270.length co41] 28 (0, 0))) := ⟨dP BK274.out⟩
  have n7_ : Aside0 (Below w.heap.size w (((w36.setCell ⟨gb274, 0, none⟩ (.bool t266)).setCell ⟨gb274, 1, none⟩ (.slice Ao40 t267.length co40)).setCell ⟨gb274, 2, none⟩ (.slice Ao41 t270.length co41))) := ⟨by repeat (first | (with_reducible first | exact HB.out | apply below_alloc | apply pw_below_drewN | apply below_drew1 | refine below_set ?_ GE258.out | refine below_set ?_ GE259.out | refine below_set ?_ GE274.out) | exact HB.out)⟩
  (try clear HO262)
  (try clear HO265)
  (try clear HO269)
  (try clear HO272)
  (try clear BK258)
  (try clear BK259)
  (try clear BK274)
  (try clear HB)
  generalize (((w36.setCell ⟨gb274, 0, none⟩ (.bool t266)).setCell ⟨gb274, 1, none⟩ (.slice Ao40 t267.length co40)).setCell ⟨gb274, 2, none⟩ (.slice Ao41 t270.length co41)) = w42 at n0_ n1_ n2_ n3_ n4_ n5_ n6_ n7_ ⊢
  have HO262 := n0_
  have HO265 := n1_
  have HO269 := n2_
  have HO272 := n3_
  have BK258 := n4_
  have BK259 := n5_
  have BK274 := n6_
  have HB := n7_
  clear n0_ n1_ n2_ n3_ n4_ n5_ n6_ n7_
  replace HO262 := Aside0.mk (Kd.R_drew HO262.out)
  replace HO265 := Aside0.mk (Kd.R_drew HO265.out)
  replace HO269 := Aside0.mk (Kd.R_drew HO269.out)
  replace HO272 := Aside0.mk (Kd.R_drew HO272.out)
  replace BK258 := Aside0.mk (blk_drew BK258.out)
  replace BK259 := Aside0.mk (blk_drew BK259.out)
  replace BK274 := Aside0.mk (blk_drew BK274.out)
  replace HB := Aside0.mk (below_drew1 HB.out)
  refine start_ (n := 10) (S := fun w' => w'.cell? ⟨gb274, 0, none⟩ = some (.bool t266) ∧ w'.cell? ⟨gb274, 1, none⟩ = some (.slice Ao40 t267.length co40) ∧ w'.cell? ⟨gb274, 2, none⟩ = some (.slice Ao41 t270.length co41)) (ds := []) #[false, false, false, false, false, false, false, false, false, false] (by kernel_rfl) rfl rfl (cz3 BK274.out) (fun hHeld => ?_); refine with_tabW plumblaw05_Part_made.tab3 plumblaw05_Part_made.bits3 (fun HT_ HW_ => ?_)
  generalize w42.drew = w43 at HO262 HO265 HO269 HO272 BK258 BK259 BK274 HB hHeld ⊢
  refine pP 1 (some 22) ?_
  refine pP 2 (some 23) ?_
  refine pP 3 (some 24) ?_
  refine pure_ (i := 4) (N := some 25) (v := undef) (a' := ?_) #[false, true, true, true, true, false, false, false, false, false] rfl rfl dT (fun _ _ _ h => h) (Or.inr ⟨by rfl, rfl⟩) ?_ ?_
  rotate_left
  ·simp only [Act.put, List.setIfInBounds_toArray, List.set_cons_zero, List.set_cons_succ, i64_w, i32_w]
   rfl
  refine pure_ (i := 5) (N := some 26) (v := undef) (a' := ?_) #[false, true, true, true, true, true, false, false, false, false] rfl rfl dT (fun _ _ _ h => h) (Or.inr ⟨by rfl, rfl⟩) ?_ ?_
  rotate_left
  ·simp only [Act.put, List.setIfInBounds_toArray, List.set_cons_zero, List.set_cons_succ, i64_w, i32_w]
   rfl
  refine pure_ (i := 6) (N := some 27) (v := undef) (a' := ?_) #[false, true, true, true, true, true, true, false, false, false] rfl rfl dT (fun _ _ _ h => h) (Or.inr ⟨by rfl, rfl⟩) ?_ ?_
  rotate_left
  ·simp only [Act.put, List.setIfInBounds_toArray, List.set_cons_zero, List.set_cons_succ, i64_w, i32_w]
   rfl
  refine pP 7 (some 28) ?_
  refine pH3 0 (some 21) hHeld ?_
  refine one_ (i := 8) (N := none) #[true, true, true, true, true, true, true, true, true, false] rfl rfl (one_of HT_.out (by kernel_rfl)) (by decide) (fun K hK => ?_)
  have hs44 : w43.cell? ⟨gb259, 0, none⟩ = some (.bool false) := (blk_cell BK259.out 0).trans rfl
  have hfs44 := blk_frozen BK259.out 0
  have hns44_0 := NB258_259.out
  have hns44_2 := NB274_259.out
  have hms44_0 := NB259_258.out
  have hms44_2 := NB259_274.out
  have hs45 : w43.cell? ⟨gb259, 1, none⟩ = some (.slice none 0 0) := (blk_cell BK259.out 1).trans rfl
  have hfs45 := blk_frozen BK259.out 1
  have hns45_0 := NB258_259.out
  have hns45_2 := NB274_259.out
  have hms45_0 := NB259_258.out
  have hms45_2 := NB259_274.out
  have hs46 : w43.cell? ⟨gb259, 2, none⟩ = some (.slice none 0 0) := (blk_cell BK259.out 2).trans rfl
  have hfs46 := blk_frozen BK259.out 2
  have hns46_0 := NB258_259.out
  have hns46_2 := NB274_259.out
  have hms46_0 := NB259_258.out
  have hms46_2 := NB259_274.out
  refine skip_ (w1 := ?_) (by rfl) rfl ?_ ?_
  rotate_left
  ·go_simp
   rfl
  refine hK.out _ _ ⟨((cell_far (p := ⟨gb259, _, none⟩) NB274_259.out _).trans (((cell_far (p := ⟨gb259, _, none⟩) NB274_259.out _).trans (((cell_far (p := ⟨gb259, _, none⟩) NB274_259.out _).trans (hHeld.1)))))), ((cell_far (p := ⟨gb259, _, none⟩) NB274_259.out _).trans (((cell_far (p := ⟨gb259, _, none⟩) NB274_259.out _).trans (((cell_far (p := ⟨gb259, _, none⟩) NB274_259.out _).trans (hHeld.2.1)))))), ((cell_far (p := ⟨gb259, _, none⟩) NB274_259.out _).trans (((cell_far (p := ⟨gb259, _, none⟩) NB274_259.out _).trans (((cell_far (p := ⟨gb259, _, none⟩) NB274_259.out _).trans (hHeld.2.2))))))⟩ (fun hHeld => ?_)
  clear hK K
  refine pP 9 (some 3) ?_
  refine done_ (done_of HT_.out (by kernel_rfl)) ?_
  try go_wp2
  refine bodyPost_ret (results_ct rfl _ _ gb259 28 #[.bool t266, .slice Ao40 t267.length co40, .slice Ao41 t270.length co41] (0, 0) _ rfl (dP BK259.out) Try.underlying28 rfl (by kernel_rfl)) rfl ?_
  exact ⟨_, _, dE, by (with_reducible repeat (first | apply Kd.R_alloc | apply Kd.R_drewN | apply Kd.R_drew)); exact Kd.R_mono (Kd.R_far (p := ⟨gb259, 2, none⟩) (Kd.R_far (p := ⟨gb259, 1, none⟩) (Kd.R_far (p := ⟨gb259, 0, none⟩) (Kd.R_types HO269.out BK259.out (by decide)) (fun _ hk => hk.2) (.bool t266)) (fun _ hk => hk.2) (.slice Ao40 t267.length co40)) (fun _ hk => hk.2) (.slice Ao41 t270.length co41)) (fun _ hk => hk.1.2.2), by (with_reducible repeat (first | apply Kd.R_alloc | apply Kd.R_drewN | apply Kd.R_drew)); exact Kd.R_mono (Kd.R_far (p := ⟨gb259, 2, none⟩) (Kd.R_far (p := ⟨gb259, 1, none⟩) (Kd.R_far (p := ⟨gb259, 0, none⟩) (Kd.R_types HO272.out BK259.out (by decide)) (fun _ hk => hk.2) (.bool t266)) (fun _ hk => hk.2) (.slice Ao40 t267.length co40)) (fun _ hk => hk.2) (.slice Ao41 t270.length co41)) (fun _ hk => hk.1.2.2), by repeat (first | (with_reducible first | exact HB.out | apply below_alloc | apply pw_below_drewN | apply below_drew1 | refine below_set ?_ GE258.out | refine below_set ?_ GE259.out | refine below_set ?_ GE274.out) | exact HB.out)⟩

end Go.Proofs.Ytmdmgbllpgkpeaa.PA

namespace Go.Proofs.Ytmdmgbllpgkpeaa.PA
open Go.RowKit Go.Proofs.YtmdmgbllpgkpeaaW.PrintWords Go.Proofs.YtmdmgbllpgkpeaaW.PrintLast Go.Proofs.YtmdmgbllpgkpeaaW.PrintMore
attribute [local go_sem] max2_int min2_int max_two min_two max_three min_three max_four min_four   -- for this text's walks alone
set_option linter.unusedVariables false
set_option linter.unusedSimpArgs false

/-! ### plumblaw05_same: function 15 -/
def plumblaw05_same.l0 : Nat → List Int → List Int → Int → Option (Bool)
 | 0, _, _, _ => none
 | k + 1, x0, x1, x5 => if x5 < (x0.length : Int) then (if 0 ≤ x5 then (if x5 < (x1.length : Int) then (if (rd x0 x5) = (rd x1 x5) then (plumblaw05_same.l0 k x0 x1 (wrap64 (x5 + 1))) else (some false)) else (none)) else (none)) else (some true)
def plumblaw05_same.f (k : Nat) (l0 : List Int) (l1 : List Int) : Option (Bool) := if (l0.length : Int) = (l1.length : Int) then (plumblaw05_same.l0 k l0 l1 0) else (some false)
theorem plumblaw05_same.mono_l : ∀ k, (∀ y0 y1 y2, LeO (plumblaw05_same.l0 k y0 y1 y2) (plumblaw05_same.l0 (k + 1) y0 y1 y2))
 | 0 => fun _ _ _ r h => by simp [plumblaw05_same.l0] at h
 | k + 1 => by
  have ih0 := plumblaw05_same.mono_l k
  ·intro y0 y1 y2
   unfold plumblaw05_same.l0
   exact mX
theorem plumblaw05_same.mono : ∀ a0 a1 k, LeO (plumblaw05_same.f k a0 a1) (plumblaw05_same.f (k + 1) a0 a1) := by
 intro a0 a1 k
 have ih0 := plumblaw05_same.mono_l k
 unfold plumblaw05_same.f
 exact mX
set_option maxHeartbeats 8000000 in
set_option maxRecDepth 100000 in
theorem plumblaw05_same.calls (k : Nat) (A0 : Option Addr) (c0 : Nat) (l0 : List Int) (A1 : Option Addr) (c1 : Nat) (l1 : List Int) (r : Bool) (w : World) (hr0 : Kd.C (Kd.int .u64) w A0 l0.length l0) (hc0 : l0.length ≤ c0) (hr1 : Kd.C (Kd.int .u64) w A1 l1.length l1) (hc1 : l1.length ≤ c1) (h : plumblaw05_same.f k l0 l1 = some r) :
  Calls Try.prog 15 #[.slice A0 l0.length c0, .slice A1 l1.length c1] w fun e w' => e = .returned (.bool r) ∧ Drawn0 w w' := by
 have HR0 := Aside0.mk hr0
 have HC0 := Aside0.mk hc0
 clear hr0 hc0
 have HR1 := Aside0.mk hr1
 have HC1 := Aside0.mk hc1
 clear hr1 hc1
 have H : (if (l0.length : Int) = (l1.length : Int) then (plumblaw05_same.l0 k l0 l1 0) else (some false)) = some r := h
 clear h
 by_cases c3 : (l0.length : Int) = (l1.length : Int)
 ·rw [if_pos c3] at H
  have c3b0 : ((l0.length : Int) == (l1.length : Int)) = true := beq_iff_eq.mpr c3
  have c3b1 : ((l0.length : Int) != (l1.length : Int)) = false := bne_eq_false_iff_eq.mpr c3
  have c3b2 : (l0.length == l1.length) = true := by first | simpa using c3 | (simp at c3 ⊢; omega)
  clear c3
  have H' := Aside0.mk H
  clear H
  go_enter Try.func15, Try.ntmps15
  go_wp2
  repeat (go_quiet (fail); try go_wp2)
  go_loopg [5] k (fun kq v5 w' => ∃ (x5_1 : Int), v5 = .int .i64 x5_1 ∧ Aside0 (plumblaw05_same.l0 kq l0 l1 x5_1 = some r) ∧ Aside0 (kq ≤ k) ∧ Drawn0 w w')
  case atStart => exact ⟨(0), dF, H', ⟨Nat.le_refl _⟩, by repeat (first | exact Drawn0.refl _ | apply Drawn0.step)⟩
  case round =>
   clear H'
   try clear c1
   try clear c3
   try clear c3b0
   try clear c3b1
   try clear c3b2
   obtain ⟨x5_1, rfl, HA, HK1, ⟨m1, rfl⟩⟩ := hrel
   cases gk with
   | zero => exact absurd HA.out (by simp [plumblaw05_same.l0])
   | succ k1 =>
    have H := HA.out
    clear HA
    simp only [plumblaw05_same.l0] at H
    by_cases c4 : x5_1 < (l0.length : Int)
    ·rw [if_pos c4] at H
     have c4b0 : decide (x5_1 < (l0.length : Int)) = true := decide_eq_true c4
     clear c4
     by_cases c5 : (0 : Int) ≤ x5_1
     ·rw [if_pos c5] at H
      have c5b0 : decide (0 ≤ x5_1) = true := decide_eq_true c5
      clear c5
      by_cases c6 : x5_1 < (l1.length : Int)
      ·rw [if_pos c6] at H
       have c6b0 : decide (x5_1 < (l1.length : Int)) = true := decide_eq_true c6
       clear c6
       by_cases c7 : (rd l0 x5_1) = (rd l1 x5_1)
       ·rw [if_pos c7] at H
        have c7b0 : ((rd l0 x5_1) == (rd l1 x5_1)) = true := beq_iff_eq.mpr c7
        have c7b1 : ((rd l0 x5_1) != (rd l1 x5_1)) = false := bne_eq_false_iff_eq.mpr c7
        clear c7
        have H' := Aside0.mk H
        clear H
        have p276 : 0 ≤ (x5_1 : Int) := of_decide_eq_true dS
        have q276 : x5_1 < (l0.length : Int) := of_decide_eq_true dS
        obtain ⟨ad276, e276, hx276_0⟩ := Kd.at_int HR0.out x5_1 p276 q276
        cases e276
        replace p276 := eq_true p276
        replace q276 := eq_true q276
        have p277 : 0 ≤ (x5_1 : Int) := of_decide_eq_true dS
        have q277 : x5_1 < (l1.length : Int) := of_decide_eq_true dS
        obtain ⟨ad277, e277, hx277_0⟩ := Kd.at_int HR1.out x5_1 p277 q277
        cases e277
        replace p277 := eq_true p277
        replace q277 := eq_true q277
        go_wp2
        repeat (go_quiet (fail); try go_wp2)
        go_roundg k1
        case measure => have := HK1.out; omega
        case rel => exact ⟨(wrap64 (x5_1 + 1)), dF, H', ⟨by have := HK1.out; omega⟩, by repeat (first | exact Drawn0.refl _ | apply Drawn0.step)⟩
       ·rw [if_neg c7] at H
        have c7b0 : ((rd l0 x5_1) == (rd l1 x5_1)) = false := beq_eq_false_iff_ne.mpr c7
        have c7b1 : ((rd l0 x5_1) != (rd l1 x5_1)) = true := bne_iff_ne.mpr c7
        obtain rfl := Option.some.inj H
        have p276 : 0 ≤ (x5_1 : Int) := of_decide_eq_true dS
        have q276 : x5_1 < (l0.length : Int) := of_decide_eq_true dS
        obtain ⟨ad276, e276, hx276_0⟩ := Kd.at_int HR0.out x5_1 p276 q276
        cases e276
        replace p276 := eq_true p276
        replace q276 := eq_true q276
        have p277 : 0 ≤ (x5_1 : Int) := of_decide_eq_true dS
        have q277 : x5_1 < (l1.length : Int) := of_decide_eq_true dS
        obtain ⟨ad277, e277, hx277_0⟩ := Kd.at_int HR1.out x5_1 p277 q277
        cases e277
        replace p277 := eq_true p277
        replace q277 := eq_true q277
        go_wp2
        repeat (go_quiet (fail); try go_wp2)
        go_ret
        exact ⟨by first | rfl | (simp; done) | (simp [*]; done), by repeat (first | exact Drawn0.refl _ | apply Drawn0.step)⟩
      ·rw [if_neg c6] at H
       exact absurd H (by simp)
     ·rw [if_neg c5] at H
      exact absurd H (by simp)
    ·rw [if_neg c4] at H
     have c4b0 : decide (x5_1 < (l0.length : Int)) = false := decide_eq_false c4
     clear c4
     obtain rfl := Option.some.inj H
     go_wp2
     repeat (go_quiet (fail); try go_wp2)
     go_ret
     exact ⟨by first | rfl | (simp; done) | (simp [*]; done), by repeat (first | exact Drawn0.refl _ | apply Drawn0.step)⟩
 ·rw [if_neg c3] at H
  have c3b0 : ((l0.length : Int) == (l1.length : Int)) = false := beq_eq_false_iff_ne.mpr c3
  have c3b1 : ((l0.length : Int) != (l1.length : Int)) = true := bne_iff_ne.mpr c3
  have c3b2 : (l0.length == l1.length) = false := by first | simpa using c3 | (simp at c3 ⊢; omega)
  obtain rfl := Option.some.inj H
  go_enter Try.func15, Try.ntmps15
  go_wp2
  repeat (go_quiet (fail); try go_wp2)
  go_ret
  exact ⟨by first | rfl | (simp; done) | (simp [*]; done), by repeat (first | exact Drawn0.refl _ | apply Drawn0.step)⟩

-- NOT PRINTED: function 90 (rat_reckoned_1)

/-! ### rat_reckoned: function 57 (by hand) -/
theorem goesG_ {P : Program} {ops : Array Oper} {Q : Exit → Act → World → Prop} {rest : List Oper} {oi : Oper} {a : Act} {w : World} (N : Option Tmp) (hd : oi.dst = N) (hg : oi.guard = none) {f : FuncId} {xs : Array Operand} {ts : Array TypeId} {op0 : Operand} {cap : Array Value} (args : Array Value)
  (hent : (callFunc f args).run P w = .ok (.enter f args) w) (hop : oi.op = .call { callee := .value op0, args := xs, argTypes := ts }) (hv : a.eval op0 = .func (.func f) #[] cap) (hargs : xs.map a.eval ++ cap = args)
  (h : Calls P f args w fun e w' => ∃ v, e = .returned v ∧ wpList P ops Q rest (a.put N v) w') : wpList P ops Q (oi :: rest) a w := by
 refine wpList_plain hg fun K hK => ?_
 have hrun : (execOp a.eval oi).run P w = .ok (.enter f args) w := by
  unfold execOp
  simp [hop, resolve, Deferred.ofValue, invoke, hv, hargs, hent]
 unfold Oper.wp
 rw [hrun, Oper.upon_enter]
 refine h.mono fun e w'' hh => ?_
 obtain ⟨v, rfl, hk⟩ := hh
 subst hd
 exact hK _ _ hk
theorem run_loadVarE (w : World) (g : Nat) (v : Value) (hg : w.heap[g]? = some (.cells #[v] 32 (0, 0))) : (loadVar 32 ⟨g, 0, none⟩).run Try.prog w = .ok v w := by
 have hc : w.cell? ⟨g, 0, none⟩ = some v := (blk_cell hg 0).trans rfl
 simp [loadVar, go_sem, hc]
theorem results_cs {fn : Func} {p p' : Tmp} (h : fn.results = #[.cell p 28, .cell p' 32]) (tmps : Array Value) (w : World) (g g' : Nat) (cs : Array Value) (v : Value)
  (hp : tmps.getD p undef = .pointer (some ⟨g, 0, none⟩)) (hg : w.heap[g]? = some (.cells cs 28 (0, 0))) (hi : cs.size = 3)
  (hp' : tmps.getD p' undef = .pointer (some ⟨g', 0, none⟩)) (hg' : w.heap[g']? = some (.cells #[v] 32 (0, 0))) :
  (results fn tmps).run Try.prog w = .ok (.tuple #[.agg cs, v]) w := by
 have h1 : tmps[p]?.getD undef = .pointer (some ⟨g, 0, none⟩) := by simpa using hp
 have h2 : tmps[p']?.getD undef = .pointer (some ⟨g', 0, none⟩) := by simpa using hp'
 have hi' : (Try.prog.info? 28).map (·.size) = some cs.size := by rw [hi]; kernel_rfl
 simp [results, h, h1, h2, asAddr, run_loadVar_row w g 28 28 cs (0, 0) _ hg Try.underlying28 rfl hi', run_loadVarE w g' v hg']
/-- the deferred closure of rat.reckoned, where nothing panicked -/
theorem rat_idle (p q : Addr) (w : World) :
  CallsD Try.prog 90 #[.pointer (some p), .pointer (some q)] .returning w fun e u' w' => e = .returned (.tuple #[]) ∧ u' = .returning ∧ w' = w := by
 refine callsD_of_wpS Try.func90 rfl fun c₀ cs hu => ?_
 apply wpS_seq
 apply wpS_region
 simp [wpOpsS, go_sem, recoverD, hu, Try.ntmps90, Exit.thenS]
 apply wpS_seq
 apply wpS_region
 simp [wpOpsS, go_sem, Exit.thenS]
 refine wpS_cond (t := false) (by simp [Act.eval, Array.replicate]) ?_
 simp only [Bool.false_eq_true, if_false]
 refine wpS_of_wp (wp_skip ?_)
 cases c₀
 simp_all [bodyPostS, results, Try.results90]
def rat_reckoned.f (k : Nat) (a0_0 : Bool) (l0_1 l0_2 : List Int) (a1_0 : Bool) (l1_1 l1_2 : List Int) (fr : Option (Bool × List Int × List Int)) : Option (Bool × List Int × List Int × Int) :=
 (rat_Check.f k a0_0 l0_1 l0_2).bind fun t0 => (if t0 = 0 then ((rat_Check.f k a1_0 l1_1 l1_2).bind fun t1 => (if t1 = 0 then (fr.bind fun b => some (b.1, b.2.1, b.2.2, 0)) else some (false, [], [], 51))) else some (false, [], [], 51))
set_option maxHeartbeats 8000000 in
set_option maxRecDepth 100000 in
theorem rat_reckoned.calls {fno : FuncId} {cap : Array Value} (hent : ∀ (args : Array Value) (w : World), (callFunc fno args).run Try.prog w = .ok (.enter fno args) w) (k : Nat) (a0_0 : Bool) (A0_1 : Option Addr) (c0_1 : Nat) (l0_1 : List Int) (A0_2 : Option Addr) (c0_2 : Nat) (l0_2 : List Int) (a1_0 : Bool) (A1_1 : Option Addr) (c1_1 : Nat) (l1_1 : List Int) (A1_2 : Option Addr) (c1_2 : Nat) (l1_2 : List Int) (fr : Option (Bool × List Int × List Int)) (r1 : Bool) (r2 r3 : List Int) (r4 : Int) (w : World) (hr0_1 : Kd.C (Kd.int .u64) w A0_1 l0_1.length l0_1) (hc0_1 : l0_1.length ≤ c0_1) (hr0_2 : Kd.C (Kd.int .u64) w A0_2 l0_2.length l0_2) (hc0_2 : l0_2.length ≤ c0_2) (hr1_1 : Kd.C (Kd.int .u64) w A1_1 l1_1.length l1_1) (hc1_1 : l1_1.length ≤ c1_1) (hr1_2 : Kd.C (Kd.int .u64) w A1_2 l1_2.length l1_2) (hc1_2 : l1_2.length ≤ c1_2)
  (hcall : ∀ (w1 : World) (x1 : Bool) (x2 x3 : List Int), Below w.heap.size w w1 → fr = some (x1, x2, x3) → Calls Try.prog fno cap w1 fun e w' => ∃ v1_ v2_ : Value, e = .returned (.agg #[.bool x1, v1_, v2_]) ∧ Kd.R (Kd.int .u64) 25 w' w1.heap.size (fun k_ => some k_ ≠ (v2_ : Value).ownBlock) v1_ x2 ∧ Kd.R (Kd.int .u64) 25 w' w1.heap.size (fun k_ => some k_ ≠ (v1_ : Value).ownBlock) v2_ x3 ∧ Below w1.heap.size w1 w')
  (h : rat_reckoned.f k a0_0 l0_1 l0_2 a1_0 l1_1 l1_2 fr = some (r1, r2, r3, r4)) :
  Calls Try.prog 57 #[.agg #[.bool a0_0, .slice A0_1 l0_1.length c0_1, .slice A0_2 l0_2.length c0_2], .agg #[.bool a1_0, .slice A1_1 l1_1.length c1_1, .slice A1_2 l1_2.length c1_2], .func (.func fno) #[] cap] w fun e w' => ∃ v1_ v2_ : Value, e = .returned (.tuple #[.agg #[.bool r1, v1_, v2_], .int .i64 r4]) ∧ Kd.R (Kd.int .u64) 25 w' w.heap.size (fun k_ => some k_ ≠ (v2_ : Value).ownBlock) v1_ r2 ∧ Kd.R (Kd.int .u64) 25 w' w.heap.size (fun k_ => some k_ ≠ (v1_ : Value).ownBlock) v2_ r3 ∧ Below w.heap.size w w' := by
 have hmf : ∀ (fn : Fn) (first cap : Array Value) (w : World), (Instr.makeFunc fn first cap).run Try.prog w = .ok (.func fn first cap) w := fun _ _ _ _ => rfl
 have hu46 := Try.underlying28
 have HR0_1 := Aside0.mk hr0_1
 have HC0_1 := Aside0.mk hc0_1
 clear hr0_1 hc0_1
 have HR0_2 := Aside0.mk hr0_2
 have HC0_2 := Aside0.mk hc0_2
 clear hr0_2 hc0_2
 have HR1_1 := Aside0.mk hr1_1
 have HC1_1 := Aside0.mk hc1_1
 clear hr1_1 hc1_1
 have HR1_2 := Aside0.mk hr1_2
 have HC1_2 := Aside0.mk hc1_2
 clear hr1_2 hc1_2
 have HB := Aside0.mk (Below.refl w.heap.size w)
 unfold rat_reckoned.f at h
 obtain ⟨t0, T00, h⟩ := Option.bind_eq_some_iff.mp h
 have T0 := Aside0.mk T00
 clear T00
 by_cases q0 : t0 = 0
 ·rw [if_pos q0] at h
  obtain ⟨t1, T10, h⟩ := Option.bind_eq_some_iff.mp h
  have T1 := Aside0.mk T10
  clear T10
  by_cases q1 : t1 = 0
  ·rw [if_pos q1] at h
   obtain ⟨⟨x1, x2, x3⟩, FR0, h⟩ := Option.bind_eq_some_iff.mp h
   have FR := Aside0.mk FR0
   clear FR0
   simp only [Option.some.injEq, Prod.mk.injEq] at h
   obtain ⟨rfl, rfl, rfl, rfl⟩ := h
   subst q0 q1
   go_enter_defers Try.func57, Try.ntmps57
   go_wp2_with (first | ((with_reducible refine gate_dst (N := 3) rfl ?_); refine box_event ?hg (N := 3) ?hd (cs := #[.bool a0_0, .slice A0_1 l0_1.length c0_1, .slice A0_2 l0_2.length c0_2]) (t := 28) ?hr ?_; (case hd => rfl); (case hg => rfl); (case hr => first | (go_simp; done) | (go_simp; rfl)); intro gA hg wA hbox hb; have BKA := Aside0.mk (hbox); have GEA := Aside0.mk ((by rw [hg]; exact (below_size dB) : w.heap.size ≤ gA)); replace HB := Aside0.mk (below_step dB hb); clear hb hbox hg) | ((with_reducible refine gate_dst (N := 4) rfl ?_); refine box_event ?hg (N := 4) ?hd (cs := #[.bool a1_0, .slice A1_1 l1_1.length c1_1, .slice A1_2 l1_2.length c1_2]) (t := 28) ?hr ?_; (case hd => rfl); (case hg => rfl); (case hr => first | (go_simp; done) | (go_simp; rfl)); intro gB hg wB hbox hb; have BKB := Aside0.mk (hbox); have GEB := Aside0.mk ((by rw [hg]; exact (below_size (by repeat (first | (with_reducible first | exact HB.out | apply below_alloc | apply pw_below_drewN | apply below_drew1 | refine below_set ?_ GEA.out) | exact HB.out))) : w.heap.size ≤ gB)); replace HB := Aside0.mk (below_step (by repeat (first | (with_reducible first | exact HB.out | apply below_alloc | apply pw_below_drewN | apply below_drew1 | refine below_set ?_ GEA.out) | exact HB.out)) hb); have NBAB := Aside0.mk ((by rw [hg]; exact Nat.ne_of_lt (blk_lt (g := gA) (o := .cells #[.bool a0_0, .slice A0_1 l0_1.length c0_1, .slice A0_2 l0_2.length c0_2] 28 (0, 0)) (dK BKA.out)) : gA ≠ gB)); have NBBA := Aside0.mk ((by rw [hg]; exact Nat.ne_of_gt (blk_lt (g := gA) (o := .cells #[.bool a0_0, .slice A0_1 l0_1.length c0_1, .slice A0_2 l0_2.length c0_2] 28 (0, 0)) (dK BKA.out)) : gB ≠ gA)); replace BKA := Aside0.mk (blk_below (g := gA) (o := .cells #[.bool a0_0, .slice A0_1 l0_1.length c0_1, .slice A0_2 l0_2.length c0_2] 28 (0, 0)) (dK BKA.out) hb); clear hb hbox hg) | ((with_reducible refine gate_dst (N := 6) rfl ?_); refine box_event ?hg (N := 6) ?hd (cs := #[.bool false, .slice none 0 0, .slice none 0 0]) (t := 28) ?hr ?_; (case hd => rfl); (case hg => rfl); (case hr => first | (go_simp; done) | (go_simp; rfl)); intro gR hg wR hbox hb; have BKR := Aside0.mk (hbox); have GER := Aside0.mk ((by rw [hg]; exact (below_size (by repeat (first | (with_reducible first | exact HB.out | apply below_alloc | apply pw_below_drewN | apply below_drew1 | refine below_set ?_ GEA.out | refine below_set ?_ GEB.out) | exact HB.out))) : w.heap.size ≤ gR)); replace HB := Aside0.mk (below_step (by repeat (first | (with_reducible first | exact HB.out | apply below_alloc | apply pw_below_drewN | apply below_drew1 | refine below_set ?_ GEA.out | refine below_set ?_ GEB.out) | exact HB.out)) hb); have NBAR := Aside0.mk ((by rw [hg]; exact Nat.ne_of_lt (blk_lt (g := gA) (o := .cells #[.bool a0_0, .slice A0_1 l0_1.length c0_1, .slice A0_2 l0_2.length c0_2] 28 (0, 0)) (dK BKA.out)) : gA ≠ gR)); have NBRA := Aside0.mk ((by rw [hg]; exact Nat.ne_of_gt (blk_lt (g := gA) (o := .cells #[.bool a0_0, .slice A0_1 l0_1.length c0_1, .slice A0_2 l0_2.length c0_2] 28 (0, 0)) (dK BKA.out)) : gR ≠ gA)); replace BKA := Aside0.mk (blk_below (g := gA) (o := .cells #[.bool a0_0, .slice A0_1 l0_1.length c0_1, .slice A0_2 l0_2.length c0_2] 28 (0, 0)) (dK BKA.out) hb); have NBBR := Aside0.mk ((by rw [hg]; exact Nat.ne_of_lt (blk_lt (g := gB) (o := .cells #[.bool a1_0, .slice A1_1 l1_1.length c1_1, .slice A1_2 l1_2.length c1_2] 28 (0, 0)) (dK BKB.out)) : gB ≠ gR)); have NBRB := Aside0.mk ((by rw [hg]; exact Nat.ne_of_gt (blk_lt (g := gB) (o := .cells #[.bool a1_0, .slice A1_1 l1_1.length c1_1, .slice A1_2 l1_2.length c1_2] 28 (0, 0)) (dK BKB.out)) : gR ≠ gB)); replace BKB := Aside0.mk (blk_below (g := gB) (o := .cells #[.bool a1_0, .slice A1_1 l1_1.length c1_1, .slice A1_2 l1_2.length c1_2] 28 (0, 0)) (dK BKB.out) hb); clear hb hbox hg) | ((with_reducible refine gate_dst (N := 7) rfl ?_); refine box_event ?hg (N := 7) ?hd (cs := #[.int .i64 0]) (t := 32) ?hr ?_; (case hd => rfl); (case hg => rfl); (case hr => first | (go_simp; done) | (go_simp; rfl)); intro gE hg wE hbox hb; have BKE := Aside0.mk (hbox); have GEE := Aside0.mk ((by rw [hg]; exact (below_size (by repeat (first | (with_reducible first | exact HB.out | apply below_alloc | apply pw_below_drewN | apply below_drew1 | refine below_set ?_ GEA.out | refine below_set ?_ GEB.out | refine below_set ?_ GER.out) | exact HB.out))) : w.heap.size ≤ gE)); replace HB := Aside0.mk (below_step (by repeat (first | (with_reducible first | exact HB.out | apply below_alloc | apply pw_below_drewN | apply below_drew1 | refine below_set ?_ GEA.out | refine below_set ?_ GEB.out | refine below_set ?_ GER.out) | exact HB.out)) hb); have NBAE := Aside0.mk ((by rw [hg]; exact Nat.ne_of_lt (blk_lt (g := gA) (o := .cells #[.bool a0_0, .slice A0_1 l0_1.length c0_1, .slice A0_2 l0_2.length c0_2] 28 (0, 0)) (dK BKA.out)) : gA ≠ gE)); have NBEA := Aside0.mk ((by rw [hg]; exact Nat.ne_of_gt (blk_lt (g := gA) (o := .cells #[.bool a0_0, .slice A0_1 l0_1.length c0_1, .slice A0_2 l0_2.length c0_2] 28 (0, 0)) (dK BKA.out)) : gE ≠ gA)); replace BKA := Aside0.mk (blk_below (g := gA) (o := .cells #[.bool a0_0, .slice A0_1 l0_1.length c0_1, .slice A0_2 l0_2.length c0_2] 28 (0, 0)) (dK BKA.out) hb); have NBBE := Aside0.mk ((by rw [hg]; exact Nat.ne_of_lt (blk_lt (g := gB) (o := .cells #[.bool a1_0, .slice A1_1 l1_1.length c1_1, .slice A1_2 l1_2.length c1_2] 28 (0, 0)) (dK BKB.out)) : gB ≠ gE)); have NBEB := Aside0.mk ((by rw [hg]; exact Nat.ne_of_gt (blk_lt (g := gB) (o := .cells #[.bool a1_0, .slice A1_1 l1_1.length c1_1, .slice A1_2 l1_2.length c1_2] 28 (0, 0)) (dK BKB.out)) : gE ≠ gB)); replace BKB := Aside0.mk (blk_below (g := gB) (o := .cells #[.bool a1_0, .slice A1_1 l1_1.length c1_1, .slice A1_2 l1_2.length c1_2] 28 (0, 0)) (dK BKB.out) hb); have NBRE := Aside0.mk ((by rw [hg]; exact Nat.ne_of_lt (blk_lt (g := gR) (o := .cells #[.bool false, .slice none 0 0, .slice none 0 0] 28 (0, 0)) (dK BKR.out)) : gR ≠ gE)); have NBER := Aside0.mk ((by rw [hg]; exact Nat.ne_of_gt (blk_lt (g := gR) (o := .cells #[.bool false, .slice none 0 0, .slice none 0 0] 28 (0, 0)) (dK BKR.out)) : gE ≠ gR)); replace BKR := Aside0.mk (blk_below (g := gR) (o := .cells #[.bool false, .slice none 0 0, .slice none 0 0] 28 (0, 0)) (dK BKR.out) hb); clear hb hbox hg; have hnAB := NBAB.out; have hnAR := NBAR.out; have hnAE := NBAE.out; have hnBA := NBBA.out; have hnBR := NBBR.out; have hnBE := NBBE.out; have hnRA := NBRA.out; have hnRB := NBRB.out; have hnRE := NBRE.out; have hnEA := NBEA.out; have hnEB := NBEB.out; have hnER := NBER.out; have hcA0_wE : wE.cell? ⟨gA, 0, none⟩ = some (.bool a0_0) := (blk_cell BKA.out 0).trans rfl; have hfA0_wE := blk_frozen BKA.out 0; have hcA1_wE : wE.cell? ⟨gA, 1, none⟩ = some (.slice A0_1 l0_1.length c0_1) := (blk_cell BKA.out 1).trans rfl; have hfA1_wE := blk_frozen BKA.out 1; have hcA2_wE : wE.cell? ⟨gA, 2, none⟩ = some (.slice A0_2 l0_2.length c0_2) := (blk_cell BKA.out 2).trans rfl; have hfA2_wE := blk_frozen BKA.out 2; skip) | ((with_reducible refine gate_callee (f := 28) rfl ?_); refine goesL_ (some 9) rfl rfl Try.func28 (by kernel_rfl) rfl #[.agg #[.bool a0_0, .slice A0_1 l0_1.length c0_1, .slice A0_2 l0_2.length c0_2]] rfl (by (try simp only [List.map_toArray, List.map_cons, List.map_nil]); first | done | rfl) ?_; (with_reducible refine (rat_Check.calls k a0_0 _ _ l0_1 _ _ l0_2 0 _ ?side1 ?side2 ?side3 ?side4 T0.out).mono ?_); (case side1 => exact dC (Kd.C_below HR0_1.out HB.out)); (case side2 => exact HC0_1.out); (case side3 => exact dC (Kd.C_below HR0_2.out HB.out)); (case side4 => exact HC0_2.out); rintro e wc0 ⟨rfl, hb⟩; refine ⟨_, rfl, ?_⟩; replace BKA := Aside0.mk (blk_below (g := gA) (o := .cells #[.bool a0_0, .slice A0_1 l0_1.length c0_1, .slice A0_2 l0_2.length c0_2] 28 (0, 0)) (dK BKA.out) hb); replace BKB := Aside0.mk (blk_below (g := gB) (o := .cells #[.bool a1_0, .slice A1_1 l1_1.length c1_1, .slice A1_2 l1_2.length c1_2] 28 (0, 0)) (dK BKB.out) hb); replace BKR := Aside0.mk (blk_below (g := gR) (o := .cells #[.bool false, .slice none 0 0, .slice none 0 0] 28 (0, 0)) (dK BKR.out) hb); replace BKE := Aside0.mk (blk_below (g := gE) (o := .cells #[.int .i64 0] 32 (0, 0)) (dK BKE.out) hb); replace HB := Aside0.mk (below_step (by repeat (first | (with_reducible first | exact HB.out | apply below_alloc | apply pw_below_drewN | apply below_drew1 | refine below_set ?_ GEA.out | refine below_set ?_ GEB.out | refine below_set ?_ GER.out | refine below_set ?_ GEE.out) | exact HB.out)) hb); (try clear hb); have hcB0_wc0 : wc0.cell? ⟨gB, 0, none⟩ = some (.bool a1_0) := (blk_cell BKB.out 0).trans rfl; have hfB0_wc0 := blk_frozen BKB.out 0; have hcB1_wc0 : wc0.cell? ⟨gB, 1, none⟩ = some (.slice A1_1 l1_1.length c1_1) := (blk_cell BKB.out 1).trans rfl; have hfB1_wc0 := blk_frozen BKB.out 1; have hcB2_wc0 : wc0.cell? ⟨gB, 2, none⟩ = some (.slice A1_2 l1_2.length c1_2) := (blk_cell BKB.out 2).trans rfl; have hfB2_wc0 := blk_frozen BKB.out 2; skip) | (go_at_call 28; (with_reducible refine (rat_Check.calls k a1_0 _ _ l1_1 _ _ l1_2 0 _ ?side1 ?side2 ?side3 ?side4 T1.out).mono ?_); (case side1 => exact dC (Kd.C_below HR1_1.out HB.out)); (case side2 => exact HC1_1.out); (case side3 => exact dC (Kd.C_below HR1_2.out HB.out)); (case side4 => exact HC1_2.out); rintro e wc1 ⟨rfl, hb⟩; replace BKA := Aside0.mk (blk_below (g := gA) (o := .cells #[.bool a0_0, .slice A0_1 l0_1.length c0_1, .slice A0_2 l0_2.length c0_2] 28 (0, 0)) (dK BKA.out) hb); replace BKB := Aside0.mk (blk_below (g := gB) (o := .cells #[.bool a1_0, .slice A1_1 l1_1.length c1_1, .slice A1_2 l1_2.length c1_2] 28 (0, 0)) (dK BKB.out) hb); replace BKR := Aside0.mk (blk_below (g := gR) (o := .cells #[.bool false, .slice none 0 0, .slice none 0 0] 28 (0, 0)) (dK BKR.out) hb); replace BKE := Aside0.mk (blk_below (g := gE) (o := .cells #[.int .i64 0] 32 (0, 0)) (dK BKE.out) hb); replace HB := Aside0.mk (below_step (by repeat (first | (with_reducible first | exact HB.out | apply below_alloc | apply pw_below_drewN | apply below_drew1 | refine below_set ?_ GEA.out | refine below_set ?_ GEB.out | refine below_set ?_ GER.out | refine below_set ?_ GEE.out) | exact HB.out)) hb); (try clear hb); have hcR0_wc1 : wc1.cell? ⟨gR, 0, none⟩ = some (.bool false) := (blk_cell BKR.out 0).trans rfl; have hfR0_wc1 := blk_frozen BKR.out 0; have hcR1_wc1 : wc1.cell? ⟨gR, 1, none⟩ = some (.slice none 0 0) := (blk_cell BKR.out 1).trans rfl; have hfR1_wc1 := blk_frozen BKR.out 1; have hcR2_wc1 : wc1.cell? ⟨gR, 2, none⟩ = some (.slice none 0 0) := (blk_cell BKR.out 2).trans rfl; have hfR2_wc1 := blk_frozen BKR.out 2; have hcE0_wc1 : wc1.cell? ⟨gE, 0, none⟩ = some (.int .i64 0) := (blk_cell BKE.out 0).trans rfl; have hfE0_wc1 := blk_frozen BKE.out 0; skip) | ((with_reducible refine gate_dst (N := 19) rfl ?_); refine goesG_ (some 19) rfl rfl (f := fno) cap (hent _ _) rfl (by first | rfl | (go_simp; done)) (by simp) ?_; (with_reducible refine (hcall _ x1 x2 x3 (by repeat (first | (with_reducible first | exact HB.out | apply below_alloc | apply pw_below_drewN | apply below_drew1 | refine below_set ?_ GEA.out | refine below_set ?_ GEB.out | refine below_set ?_ GER.out | refine below_set ?_ GEE.out) | exact HB.out)) FR.out).mono ?_); rintro e wf ⟨v1, v2, rfl, ho0, ho1, hb⟩; refine ⟨_, rfl, ?_⟩; replace BKA := Aside0.mk (blk_below (g := gA) (o := .cells #[.bool a0_0, .slice A0_1 l0_1.length c0_1, .slice A0_2 l0_2.length c0_2] 28 (0, 0)) (dK BKA.out) hb); replace BKB := Aside0.mk (blk_below (g := gB) (o := .cells #[.bool a1_0, .slice A1_1 l1_1.length c1_1, .slice A1_2 l1_2.length c1_2] 28 (0, 0)) (dK BKB.out) hb); replace BKR := Aside0.mk (blk_below (g := gR) (o := .cells #[.bool false, .slice none 0 0, .slice none 0 0] 28 (0, 0)) (dK BKR.out) hb); replace BKE := Aside0.mk (blk_below (g := gE) (o := .cells #[.int .i64 0] 32 (0, 0)) (dK BKE.out) hb); have HO1 := Aside0.mk (Kd.R_lower ho0 (below_size (by repeat (first | (with_reducible first | exact HB.out | apply below_alloc | apply pw_below_drewN | apply below_drew1 | refine below_set ?_ GEA.out | refine below_set ?_ GEB.out | refine below_set ?_ GER.out | refine below_set ?_ GEE.out) | exact HB.out)))); have HO2 := Aside0.mk (Kd.R_lower ho1 (below_size (by repeat (first | (with_reducible first | exact HB.out | apply below_alloc | apply pw_below_drewN | apply below_drew1 | refine below_set ?_ GEA.out | refine below_set ?_ GEB.out | refine below_set ?_ GER.out | refine below_set ?_ GEE.out) | exact HB.out)))); replace HB := Aside0.mk (below_step (by repeat (first | (with_reducible first | exact HB.out | apply below_alloc | apply pw_below_drewN | apply below_drew1 | refine below_set ?_ GEA.out | refine below_set ?_ GEB.out | refine below_set ?_ GER.out | refine below_set ?_ GEE.out) | exact HB.out)) hb); (try clear hb); (try clear ho0); (try clear ho1); have hcR0_wf : wf.cell? ⟨gR, 0, none⟩ = some (.bool false) := (blk_cell BKR.out 0).trans rfl; have hfR0_wf := blk_frozen BKR.out 0; have hcR1_wf : wf.cell? ⟨gR, 1, none⟩ = some (.slice none 0 0) := (blk_cell BKR.out 1).trans rfl; have hfR1_wf := blk_frozen BKR.out 1; have hcR2_wf : wf.cell? ⟨gR, 2, none⟩ = some (.slice none 0 0) := (blk_cell BKR.out 2).trans rfl; have hfR2_wf := blk_frozen BKR.out 2; have hcE0_wf : wf.cell? ⟨gE, 0, none⟩ = some (.int .i64 0) := (blk_cell BKE.out 0).trans rfl; have hfE0_wf := blk_frozen BKE.out 0; obtain ⟨Ao1, co1, eo1⟩ := Kd.R_slice HO1.out; subst eo1; obtain ⟨Ao2, co2, eo2⟩ := Kd.R_slice HO2.out; subst eo2))
   refine leaves_cons (f := 90) (args := #[.pointer (some ⟨gR, 0, none⟩), .pointer (some ⟨gE, 0, none⟩)]) (by simp) (by simp [go_sem]) ?_
   refine (rat_idle _ _ _).mono ?_
   rintro e u' w'' ⟨rfl, rfl, rfl⟩
   refine ⟨_, results_cs (p := 6) (p' := 7) rfl _ _ gR gE #[.bool x1, .slice Ao1 x2.length co1, .slice Ao2 x3.length co2] (.int .i64 0) rfl (by (with_reducible repeat (first | refine blk_drewN ?_ _ | refine blk_drew ?_ | refine blk_alloc ?_ _)); refine blk_far ?_ NBRE.out _; (with_reducible repeat (first | refine blk_drewN ?_ _ | refine blk_drew ?_ | refine blk_alloc ?_ _)); refine blk_put (cs := #[.bool x1, .slice Ao1 x2.length co1, .slice none 0 0]) ?_ 2 _ rfl; (with_reducible repeat (first | refine blk_drewN ?_ _ | refine blk_drew ?_ | refine blk_alloc ?_ _)); refine blk_put (cs := #[.bool x1, .slice none 0 0, .slice none 0 0]) ?_ 1 _ rfl; (with_reducible repeat (first | refine blk_drewN ?_ _ | refine blk_drew ?_ | refine blk_alloc ?_ _)); refine blk_put (cs := #[.bool false, .slice none 0 0, .slice none 0 0]) ?_ 0 _ rfl; (with_reducible repeat (first | refine blk_drewN ?_ _ | refine blk_drew ?_ | refine blk_alloc ?_ _)); exact BKR.out) rfl rfl (by (with_reducible repeat (first | refine blk_drewN ?_ _ | refine blk_drew ?_ | refine blk_alloc ?_ _)); refine blk_put (cs := #[.int .i64 0]) ?_ 0 _ rfl; (with_reducible repeat (first | refine blk_drewN ?_ _ | refine blk_drew ?_ | refine blk_alloc ?_ _)); refine blk_far ?_ NBER.out _; (with_reducible repeat (first | refine blk_drewN ?_ _ | refine blk_drew ?_ | refine blk_alloc ?_ _)); refine blk_far ?_ NBER.out _; (with_reducible repeat (first | refine blk_drewN ?_ _ | refine blk_drew ?_ | refine blk_alloc ?_ _)); refine blk_far ?_ NBER.out _; (with_reducible repeat (first | refine blk_drewN ?_ _ | refine blk_drew ?_ | refine blk_alloc ?_ _)); exact BKE.out), ?_⟩
   exact ⟨_, _, rfl, (by (with_reducible repeat (first | apply Kd.R_alloc | apply Kd.R_drewN | apply Kd.R_drew)); exact Kd.R_mono (Kd.R_far (p := ⟨gE, 0, none⟩) (Kd.R_far (p := ⟨gR, 2, none⟩) (Kd.R_far (p := ⟨gR, 1, none⟩) (Kd.R_far (p := ⟨gR, 0, none⟩) (Kd.R_types (Kd.R_types HO1.out BKR.out (by decide)) BKE.out (by decide)) (fun _ hk => hk.1.2) (.bool x1)) (fun _ hk => hk.1.2) (.slice Ao1 x2.length co1)) (fun _ hk => hk.1.2) (.slice Ao2 x3.length co2)) (fun _ hk => hk.2) (.int .i64 0)) (fun _ hk => hk.1.1)), (by (with_reducible repeat (first | apply Kd.R_alloc | apply Kd.R_drewN | apply Kd.R_drew)); exact Kd.R_mono (Kd.R_far (p := ⟨gE, 0, none⟩) (Kd.R_far (p := ⟨gR, 2, none⟩) (Kd.R_far (p := ⟨gR, 1, none⟩) (Kd.R_far (p := ⟨gR, 0, none⟩) (Kd.R_types (Kd.R_types HO2.out BKR.out (by decide)) BKE.out (by decide)) (fun _ hk => hk.1.2) (.bool x1)) (fun _ hk => hk.1.2) (.slice Ao1 x2.length co1)) (fun _ hk => hk.1.2) (.slice Ao2 x3.length co2)) (fun _ hk => hk.2) (.int .i64 0)) (fun _ hk => hk.1.1)), by repeat (first | (with_reducible first | exact HB.out | apply below_alloc | apply pw_below_drewN | apply below_drew1 | refine below_set ?_ GEA.out | refine below_set ?_ GEB.out | refine below_set ?_ GER.out | refine below_set ?_ GEE.out) | exact HB.out)⟩
  ·rw [if_neg q1] at h
   have q1b : (t1 == 0) = false := beq_eq_false_iff_ne.mpr q1
   have q1c : (t1 != 0) = true := bne_iff_ne.mpr q1
   simp only [Option.some.injEq, Prod.mk.injEq] at h
   obtain ⟨rfl, rfl, rfl, rfl⟩ := h
   subst q0
   go_enter_defers Try.func57, Try.ntmps57
   go_wp2_with (first | ((with_reducible refine gate_dst (N := 3) rfl ?_); refine box_event ?hg (N := 3) ?hd (cs := #[.bool a0_0, .slice A0_1 l0_1.length c0_1, .slice A0_2 l0_2.length c0_2]) (t := 28) ?hr ?_; (case hd => rfl); (case hg => rfl); (case hr => first | (go_simp; done) | (go_simp; rfl)); intro gA hg wA hbox hb; have BKA := Aside0.mk (hbox); have GEA := Aside0.mk ((by rw [hg]; exact (below_size dB) : w.heap.size ≤ gA)); replace HB := Aside0.mk (below_step dB hb); clear hb hbox hg) | ((with_reducible refine gate_dst (N := 4) rfl ?_); refine box_event ?hg (N := 4) ?hd (cs := #[.bool a1_0, .slice A1_1 l1_1.length c1_1, .slice A1_2 l1_2.length c1_2]) (t := 28) ?hr ?_; (case hd => rfl); (case hg => rfl); (case hr => first | (go_simp; done) | (go_simp; rfl)); intro gB hg wB hbox hb; have BKB := Aside0.mk (hbox); have GEB := Aside0.mk ((by rw [hg]; exact (below_size (by repeat (first | (with_reducible first | exact HB.out | apply below_alloc | apply pw_below_drewN | apply below_drew1 | refine below_set ?_ GEA.out) | exact HB.out))) : w.heap.size ≤ gB)); replace HB := Aside0.mk (below_step (by repeat (first | (with_reducible first | exact HB.out | apply below_alloc | apply pw_below_drewN | apply below_drew1 | refine below_set ?_ GEA.out) | exact HB.out)) hb); have NBAB := Aside0.mk ((by rw [hg]; exact Nat.ne_of_lt (blk_lt (g := gA) (o := .cells #[.bool a0_0, .slice A0_1 l0_1.length c0_1, .slice A0_2 l0_2.length c0_2] 28 (0, 0)) (dK BKA.out)) : gA ≠ gB)); have NBBA := Aside0.mk ((by rw [hg]; exact Nat.ne_of_gt (blk_lt (g := gA) (o := .cells #[.bool a0_0, .slice A0_1 l0_1.length c0_1, .slice A0_2 l0_2.length c0_2] 28 (0, 0)) (dK BKA.out)) : gB ≠ gA)); replace BKA := Aside0.mk (blk_below (g := gA) (o := .cells #[.bool a0_0, .slice A0_1 l0_1.length c0_1, .slice A0_2 l0_2.length c0_2] 28 (0, 0)) (dK BKA.out) hb); clear hb hbox hg) | ((with_reducible refine gate_dst (N := 6) rfl ?_); refine box_event ?hg (N := 6) ?hd (cs := #[.bool false, .slice none 0 0, .slice none 0 0]) (t := 28) ?hr ?_; (case hd => rfl); (case hg => rfl); (case hr => first | (go_simp; done) | (go_simp; rfl)); intro gR hg wR hbox hb; have BKR := Aside0.mk (hbox); have GER := Aside0.mk ((by rw [hg]; exact (below_size (by repeat (first | (with_reducible first | exact HB.out | apply below_alloc | apply pw_below_drewN | apply below_drew1 | refine below_set ?_ GEA.out | refine below_set ?_ GEB.out) | exact HB.out))) : w.heap.size ≤ gR)); replace HB := Aside0.mk (below_step (by repeat (first | (with_reducible first | exact HB.out | apply below_alloc | apply pw_below_drewN | apply below_drew1 | refine below_set ?_ GEA.out | refine below_set ?_ GEB.out) | exact HB.out)) hb); have NBAR := Aside0.mk ((by rw [hg]; exact Nat.ne_of_lt (blk_lt (g := gA) (o := .cells #[.bool a0_0, .slice A0_1 l0_1.length c0_1, .slice A0_2 l0_2.length c0_2] 28 (0, 0)) (dK BKA.out)) : gA ≠ gR)); have NBRA := Aside0.mk ((by rw [hg]; exact Nat.ne_of_gt (blk_lt (g := gA) (o := .cells #[.bool a0_0, .slice A0_1 l0_1.length c0_1, .slice A0_2 l0_2.length c0_2] 28 (0, 0)) (dK BKA.out)) : gR ≠ gA)); replace BKA := Aside0.mk (blk_below (g := gA) (o := .cells #[.bool a0_0, .slice A0_1 l0_1.length c0_1, .slice A0_2 l0_2.length c0_2] 28 (0, 0)) (dK BKA.out) hb); have NBBR := Aside0.mk ((by rw [hg]; exact Nat.ne_of_lt (blk_lt (g := gB) (o := .cells #[.bool a1_0, .slice A1_1 l1_1.length c1_1, .slice A1_2 l1_2.length c1_2] 28 (0, 0)) (dK BKB.out)) : gB ≠ gR)); have NBRB := Aside0.mk ((by rw [hg]; exact Nat.ne_of_gt (blk_lt (g := gB) (o := .cells #[.bool a1_0, .slice A1_1 l1_1.length c1_1, .slice A1_2 l1_2.length c1_2] 28 (0, 0)) (dK BKB.out)) : gR ≠ gB)); replace BKB := Aside0.mk (blk_below (g := gB) (o := .cells #[.bool a1_0, .slice A1_1 l1_1.length c1_1, .slice A1_2 l1_2.length c1_2] 28 (0, 0)) (dK BKB.out) hb); clear hb hbox hg) | ((with_reducible refine gate_dst (N := 7) rfl ?_); refine box_event ?hg (N := 7) ?hd (cs := #[.int .i64 0]) (t := 32) ?hr ?_; (case hd => rfl); (case hg => rfl); (case hr => first | (go_simp; done) | (go_simp; rfl)); intro gE hg wE hbox hb; have BKE := Aside0.mk (hbox); have GEE := Aside0.mk ((by rw [hg]; exact (below_size (by repeat (first | (with_reducible first | exact HB.out | apply below_alloc | apply pw_below_drewN | apply below_drew1 | refine below_set ?_ GEA.out | refine below_set ?_ GEB.out | refine below_set ?_ GER.out) | exact HB.out))) : w.heap.size ≤ gE)); replace HB := Aside0.mk (below_step (by repeat (first | (with_reducible first | exact HB.out | apply below_alloc | apply pw_below_drewN | apply below_drew1 | refine below_set ?_ GEA.out | refine below_set ?_ GEB.out | refine below_set ?_ GER.out) | exact HB.out)) hb); have NBAE := Aside0.mk ((by rw [hg]; exact Nat.ne_of_lt (blk_lt (g := gA) (o := .cells #[.bool a0_0, .slice A0_1 l0_1.length c0_1, .slice A0_2 l0_2.length c0_2] 28 (0, 0)) (dK BKA.out)) : gA ≠ gE)); have NBEA := Aside0.mk ((by rw [hg]; exact Nat.ne_of_gt (blk_lt (g := gA) (o := .cells #[.bool a0_0, .slice A0_1 l0_1.length c0_1, .slice A0_2 l0_2.length c0_2] 28 (0, 0)) (dK BKA.out)) : gE ≠ gA)); replace BKA := Aside0.mk (blk_below (g := gA) (o := .cells #[.bool a0_0, .slice A0_1 l0_1.length c0_1, .slice A0_2 l0_2.length c0_2] 28 (0, 0)) (dK BKA.out) hb); have NBBE := Aside0.mk ((by rw [hg]; exact Nat.ne_of_lt (blk_lt (g := gB) (o := .cells #[.bool a1_0, .slice A1_1 l1_1.length c1_1, .slice A1_2 l1_2.length c1_2] 28 (0, 0)) (dK BKB.out)) : gB ≠ gE)); have NBEB := Aside0.mk ((by rw [hg]; exact Nat.ne_of_gt (blk_lt (g := gB) (o := .cells #[.bool a1_0, .slice A1_1 l1_1.length c1_1, .slice A1_2 l1_2.length c1_2] 28 (0, 0)) (dK BKB.out)) : gE ≠ gB)); replace BKB := Aside0.mk (blk_below (g := gB) (o := .cells #[.bool a1_0, .slice A1_1 l1_1.length c1_1, .slice A1_2 l1_2.length c1_2] 28 (0, 0)) (dK BKB.out) hb); have NBRE := Aside0.mk ((by rw [hg]; exact Nat.ne_of_lt (blk_lt (g := gR) (o := .cells #[.bool false, .slice none 0 0, .slice none 0 0] 28 (0, 0)) (dK BKR.out)) : gR ≠ gE)); have NBER := Aside0.mk ((by rw [hg]; exact Nat.ne_of_gt (blk_lt (g := gR) (o := .cells #[.bool false, .slice none 0 0, .slice none 0 0] 28 (0, 0)) (dK BKR.out)) : gE ≠ gR)); replace BKR := Aside0.mk (blk_below (g := gR) (o := .cells #[.bool false, .slice none 0 0, .slice none 0 0] 28 (0, 0)) (dK BKR.out) hb); clear hb hbox hg; have hnAB := NBAB.out; have hnAR := NBAR.out; have hnAE := NBAE.out; have hnBA := NBBA.out; have hnBR := NBBR.out; have hnBE := NBBE.out; have hnRA := NBRA.out; have hnRB := NBRB.out; have hnRE := NBRE.out; have hnEA := NBEA.out; have hnEB := NBEB.out; have hnER := NBER.out; have hcA0_wE : wE.cell? ⟨gA, 0, none⟩ = some (.bool a0_0) := (blk_cell BKA.out 0).trans rfl; have hfA0_wE := blk_frozen BKA.out 0; have hcA1_wE : wE.cell? ⟨gA, 1, none⟩ = some (.slice A0_1 l0_1.length c0_1) := (blk_cell BKA.out 1).trans rfl; have hfA1_wE := blk_frozen BKA.out 1; have hcA2_wE : wE.cell? ⟨gA, 2, none⟩ = some (.slice A0_2 l0_2.length c0_2) := (blk_cell BKA.out 2).trans rfl; have hfA2_wE := blk_frozen BKA.out 2; skip) | ((with_reducible refine gate_callee (f := 28) rfl ?_); refine goesL_ (some 9) rfl rfl Try.func28 (by kernel_rfl) rfl #[.agg #[.bool a0_0, .slice A0_1 l0_1.length c0_1, .slice A0_2 l0_2.length c0_2]] rfl (by (try simp only [List.map_toArray, List.map_cons, List.map_nil]); first | done | rfl) ?_; (with_reducible refine (rat_Check.calls k a0_0 _ _ l0_1 _ _ l0_2 0 _ ?side1 ?side2 ?side3 ?side4 T0.out).mono ?_); (case side1 => exact dC (Kd.C_below HR0_1.out HB.out)); (case side2 => exact HC0_1.out); (case side3 => exact dC (Kd.C_below HR0_2.out HB.out)); (case side4 => exact HC0_2.out); rintro e wc0 ⟨rfl, hb⟩; refine ⟨_, rfl, ?_⟩; replace BKA := Aside0.mk (blk_below (g := gA) (o := .cells #[.bool a0_0, .slice A0_1 l0_1.length c0_1, .slice A0_2 l0_2.length c0_2] 28 (0, 0)) (dK BKA.out) hb); replace BKB := Aside0.mk (blk_below (g := gB) (o := .cells #[.bool a1_0, .slice A1_1 l1_1.length c1_1, .slice A1_2 l1_2.length c1_2] 28 (0, 0)) (dK BKB.out) hb); replace BKR := Aside0.mk (blk_below (g := gR) (o := .cells #[.bool false, .slice none 0 0, .slice none 0 0] 28 (0, 0)) (dK BKR.out) hb); replace BKE := Aside0.mk (blk_below (g := gE) (o := .cells #[.int .i64 0] 32 (0, 0)) (dK BKE.out) hb); replace HB := Aside0.mk (below_step (by repeat (first | (with_reducible first | exact HB.out | apply below_alloc | apply pw_below_drewN | apply below_drew1 | refine below_set ?_ GEA.out | refine below_set ?_ GEB.out | refine below_set ?_ GER.out | refine below_set ?_ GEE.out) | exact HB.out)) hb); (try clear hb); have hcB0_wc0 : wc0.cell? ⟨gB, 0, none⟩ = some (.bool a1_0) := (blk_cell BKB.out 0).trans rfl; have hfB0_wc0 := blk_frozen BKB.out 0; have hcB1_wc0 : wc0.cell? ⟨gB, 1, none⟩ = some (.slice A1_1 l1_1.length c1_1) := (blk_cell BKB.out 1).trans rfl; have hfB1_wc0 := blk_frozen BKB.out 1; have hcB2_wc0 : wc0.cell? ⟨gB, 2, none⟩ = some (.slice A1_2 l1_2.length c1_2) := (blk_cell BKB.out 2).trans rfl; have hfB2_wc0 := blk_frozen BKB.out 2; skip) | (go_at_call 28; (with_reducible refine (rat_Check.calls k a1_0 _ _ l1_1 _ _ l1_2 t1 _ ?side1 ?side2 ?side3 ?side4 T1.out).mono ?_); (case side1 => exact dC (Kd.C_below HR1_1.out HB.out)); (case side2 => exact HC1_1.out); (case side3 => exact dC (Kd.C_below HR1_2.out HB.out)); (case side4 => exact HC1_2.out); rintro e wc1 ⟨rfl, hb⟩; replace BKA := Aside0.mk (blk_below (g := gA) (o := .cells #[.bool a0_0, .slice A0_1 l0_1.length c0_1, .slice A0_2 l0_2.length c0_2] 28 (0, 0)) (dK BKA.out) hb); replace BKB := Aside0.mk (blk_below (g := gB) (o := .cells #[.bool a1_0, .slice A1_1 l1_1.length c1_1, .slice A1_2 l1_2.length c1_2] 28 (0, 0)) (dK BKB.out) hb); replace BKR := Aside0.mk (blk_below (g := gR) (o := .cells #[.bool false, .slice none 0 0, .slice none 0 0] 28 (0, 0)) (dK BKR.out) hb); replace BKE := Aside0.mk (blk_below (g := gE) (o := .cells #[.int .i64 0] 32 (0, 0)) (dK BKE.out) hb); replace HB := Aside0.mk (below_step (by repeat (first | (with_reducible first | exact HB.out | apply below_alloc | apply pw_below_drewN | apply below_drew1 | refine below_set ?_ GEA.out | refine below_set ?_ GEB.out | refine below_set ?_ GER.out | refine below_set ?_ GEE.out) | exact HB.out)) hb); (try clear hb); have hcR0_wc1 : wc1.cell? ⟨gR, 0, none⟩ = some (.bool false) := (blk_cell BKR.out 0).trans rfl; have hfR0_wc1 := blk_frozen BKR.out 0; have hcR1_wc1 : wc1.cell? ⟨gR, 1, none⟩ = some (.slice none 0 0) := (blk_cell BKR.out 1).trans rfl; have hfR1_wc1 := blk_frozen BKR.out 1; have hcR2_wc1 : wc1.cell? ⟨gR, 2, none⟩ = some (.slice none 0 0) := (blk_cell BKR.out 2).trans rfl; have hfR2_wc1 := blk_frozen BKR.out 2; have hcE0_wc1 : wc1.cell? ⟨gE, 0, none⟩ = some (.int .i64 0) := (blk_cell BKE.out 0).trans rfl; have hfE0_wc1 := blk_frozen BKE.out 0; skip))
   refine ⟨_, results_cs (p := 6) (p' := 7) rfl _ _ gR gE #[.bool false, .slice none 0 0, .slice none 0 0] (.int .i64 51) rfl (by (with_reducible repeat (first | refine blk_drewN ?_ _ | refine blk_drew ?_ | refine blk_alloc ?_ _)); refine blk_far ?_ NBRE.out _; (with_reducible repeat (first | refine blk_drewN ?_ _ | refine blk_drew ?_ | refine blk_alloc ?_ _)); refine blk_put (cs := #[.bool false, .slice none 0 0, .slice none 0 0]) ?_ 2 _ rfl; (with_reducible repeat (first | refine blk_drewN ?_ _ | refine blk_drew ?_ | refine blk_alloc ?_ _)); refine blk_put (cs := #[.bool false, .slice none 0 0, .slice none 0 0]) ?_ 1 _ rfl; (with_reducible repeat (first | refine blk_drewN ?_ _ | refine blk_drew ?_ | refine blk_alloc ?_ _)); refine blk_put (cs := #[.bool false, .slice none 0 0, .slice none 0 0]) ?_ 0 _ rfl; (with_reducible repeat (first | refine blk_drewN ?_ _ | refine blk_drew ?_ | refine blk_alloc ?_ _)); exact BKR.out) rfl rfl (by (with_reducible repeat (first | refine blk_drewN ?_ _ | refine blk_drew ?_ | refine blk_alloc ?_ _)); refine blk_put (cs := #[.int .i64 0]) ?_ 0 _ rfl; (with_reducible repeat (first | refine blk_drewN ?_ _ | refine blk_drew ?_ | refine blk_alloc ?_ _)); refine blk_far ?_ NBER.out _; (with_reducible repeat (first | refine blk_drewN ?_ _ | refine blk_drew ?_ | refine blk_alloc ?_ _)); refine blk_far ?_ NBER.out _; (with_reducible repeat (first | refine blk_drewN ?_ _ | refine blk_drew ?_ | refine blk_alloc ?_ _)); refine blk_far ?_ NBER.out _; (with_reducible repeat (first | refine blk_drewN ?_ _ | refine blk_drew ?_ | refine blk_alloc ?_ _)); exact BKE.out), ?_⟩
   exact ⟨_, _, rfl, Kd.R_nil _ _ _ _ _, Kd.R_nil _ _ _ _ _, by repeat (first | (with_reducible first | exact HB.out | apply below_alloc | apply pw_below_drewN | apply below_drew1 | refine below_set ?_ GEA.out | refine below_set ?_ GEB.out | refine below_set ?_ GER.out | refine below_set ?_ GEE.out) | exact HB.out)⟩
 ·rw [if_neg q0] at h
  have q0b : (t0 == 0) = false := beq_eq_false_iff_ne.mpr q0
  have q0c : (t0 != 0) = true := bne_iff_ne.mpr q0
  simp only [Option.some.injEq, Prod.mk.injEq] at h
  obtain ⟨rfl, rfl, rfl, rfl⟩ := h
  go_enter_defers Try.func57, Try.ntmps57
  go_wp2_with (first | ((with_reducible refine gate_dst (N := 3) rfl ?_); refine box_event ?hg (N := 3) ?hd (cs := #[.bool a0_0, .slice A0_1 l0_1.length c0_1, .slice A0_2 l0_2.length c0_2]) (t := 28) ?hr ?_; (case hd => rfl); (case hg => rfl); (case hr => first | (go_simp; done) | (go_simp; rfl)); intro gA hg wA hbox hb; have BKA := Aside0.mk (hbox); have GEA := Aside0.mk ((by rw [hg]; exact (below_size dB) : w.heap.size ≤ gA)); replace HB := Aside0.mk (below_step dB hb); clear hb hbox hg) | ((with_reducible refine gate_dst (N := 4) rfl ?_); refine box_event ?hg (N := 4) ?hd (cs := #[.bool a1_0, .slice A1_1 l1_1.length c1_1, .slice A1_2 l1_2.length c1_2]) (t := 28) ?hr ?_; (case hd => rfl); (case hg => rfl); (case hr => first | (go_simp; done) | (go_simp; rfl)); intro gB hg wB hbox hb; have BKB := Aside0.mk (hbox); have GEB := Aside0.mk ((by rw [hg]; exact (below_size (by repeat (first | (with_reducible first | exact HB.out | apply below_alloc | apply pw_below_drewN | apply below_drew1 | refine below_set ?_ GEA.out) | exact HB.out))) : w.heap.size ≤ gB)); replace HB := Aside0.mk (below_step (by repeat (first | (with_reducible first | exact HB.out | apply below_alloc | apply pw_below_drewN | apply below_drew1 | refine below_set ?_ GEA.out) | exact HB.out)) hb); have NBAB := Aside0.mk ((by rw [hg]; exact Nat.ne_of_lt (blk_lt (g := gA) (o := .cells #[.bool a0_0, .slice A0_1 l0_1.length c0_1, .slice A0_2 l0_2.length c0_2] 28 (0, 0)) (dK BKA.out)) : gA ≠ gB)); have NBBA := Aside0.mk ((by rw [hg]; exact Nat.ne_of_gt (blk_lt (g := gA) (o := .cells #[.bool a0_0, .slice A0_1 l0_1.length c0_1, .slice A0_2 l0_2.length c0_2] 28 (0, 0)) (dK BKA.out)) : gB ≠ gA)); replace BKA := Aside0.mk (blk_below (g := gA) (o := .cells #[.bool a0_0, .slice A0_1 l0_1.length c0_1, .slice A0_2 l0_2.length c0_2] 28 (0, 0)) (dK BKA.out) hb); clear hb hbox hg) | ((with_reducible refine gate_dst (N := 6) rfl ?_); refine box_event ?hg (N := 6) ?hd (cs := #[.bool false, .slice none 0 0, .slice none 0 0]) (t := 28) ?hr ?_; (case hd => rfl); (case hg => rfl); (case hr => first | (go_simp; done) | (go_simp; rfl)); intro gR hg wR hbox hb; have BKR := Aside0.mk (hbox); have GER := Aside0.mk ((by rw [hg]; exact (below_size (by repeat (first | (with_reducible first | exact HB.out | apply below_alloc | apply pw_below_drewN | apply below_drew1 | refine below_set ?_ GEA.out | refine below_set ?_ GEB.out) | exact HB.out))) : w.heap.size ≤ gR)); replace HB := Aside0.mk (below_step (by repeat (first | (with_reducible first | exact HB.out | apply below_alloc | apply pw_below_drewN | apply below_drew1 | refine below_set ?_ GEA.out | refine below_set ?_ GEB.out) | exact HB.out)) hb); have NBAR := Aside0.mk ((by rw [hg]; exact Nat.ne_of_lt (blk_lt (g := gA) (o := .cells #[.bool a0_0, .slice A0_1 l0_1.length c0_1, .slice A0_2 l0_2.length c0_2] 28 (0, 0)) (dK BKA.out)) : gA ≠ gR)); have NBRA := Aside0.mk ((by rw [hg]; exact Nat.ne_of_gt (blk_lt (g := gA) (o := .cells #[.bool a0_0, .slice A0_1 l0_1.length c0_1, .slice A0_2 l0_2.length c0_2] 28 (0, 0)) (dK BKA.out)) : gR ≠ gA)); replace BKA := Aside0.mk (blk_below (g := gA) (o := .cells #[.bool a0_0, .slice A0_1 l0_1.length c0_1, .slice A0_2 l0_2.length c0_2] 28 (0, 0)) (dK BKA.out) hb); have NBBR := Aside0.mk ((by rw [hg]; exact Nat.ne_of_lt (blk_lt (g := gB) (o := .cells #[.bool a1_0, .slice A1_1 l1_1.length c1_1, .slice A1_2 l1_2.length c1_2] 28 (0, 0)) (dK BKB.out)) : gB ≠ gR)); have NBRB := Aside0.mk ((by rw [hg]; exact Nat.ne_of_gt (blk_lt (g := gB) (o := .cells #[.bool a1_0, .slice A1_1 l1_1.length c1_1, .slice A1_2 l1_2.length c1_2] 28 (0, 0)) (dK BKB.out)) : gR ≠ gB)); replace BKB := Aside0.mk (blk_below (g := gB) (o := .cells #[.bool a1_0, .slice A1_1 l1_1.length c1_1, .slice A1_2 l1_2.length c1_2] 28 (0, 0)) (dK BKB.out) hb); clear hb hbox hg) | ((with_reducible refine gate_dst (N := 7) rfl ?_); refine box_event ?hg (N := 7) ?hd (cs := #[.int .i64 0]) (t := 32) ?hr ?_; (case hd => rfl); (case hg => rfl); (case hr => first | (go_simp; done) | (go_simp; rfl)); intro gE hg wE hbox hb; have BKE := Aside0.mk (hbox); have GEE := Aside0.mk ((by rw [hg]; exact (below_size (by repeat (first | (with_reducible first | exact HB.out | apply below_alloc | apply pw_below_drewN | apply below_drew1 | refine below_set ?_ GEA.out | refine below_set ?_ GEB.out | refine below_set ?_ GER.out) | exact HB.out))) : w.heap.size ≤ gE)); replace HB := Aside0.mk (below_step (by repeat (first | (with_reducible first | exact HB.out | apply below_alloc | apply pw_below_drewN | apply below_drew1 | refine below_set ?_ GEA.out | refine below_set ?_ GEB.out | refine below_set ?_ GER.out) | exact HB.out)) hb); have NBAE := Aside0.mk ((by rw [hg]; exact Nat.ne_of_lt (blk_lt (g := gA) (o := .cells #[.bool a0_0, .slice A0_1 l0_1.length c0_1, .slice A0_2 l0_2.length c0_2] 28 (0, 0)) (dK BKA.out)) : gA ≠ gE)); have NBEA := Aside0.mk ((by rw [hg]; exact Nat.ne_of_gt (blk_lt (g := gA) (o := .cells #[.bool a0_0, .slice A0_1 l0_1.length c0_1, .slice A0_2 l0_2.length c0_2] 28 (0, 0)) (dK BKA.out)) : gE ≠ gA)); replace BKA := Aside0.mk (blk_below (g := gA) (o := .cells #[.bool a0_0, .slice A0_1 l0_1.length c0_1, .slice A0_2 l0_2.length c0_2] 28 (0, 0)) (dK BKA.out) hb); have NBBE := Aside0.mk ((by rw [hg]; exact Nat.ne_of_lt (blk_lt (g := gB) (o := .cells #[.bool a1_0, .slice A1_1 l1_1.length c1_1, .slice A1_2 l1_2.length c1_2] 28 (0, 0)) (dK BKB.out)) : gB ≠ gE)); have NBEB := Aside0.mk ((by rw [hg]; exact Nat.ne_of_gt (blk_lt (g := gB) (o := .cells #[.bool a1_0, .slice A1_1 l1_1.length c1_1, .slice A1_2 l1_2.length c1_2] 28 (0, 0)) (dK BKB.out)) : gE ≠ gB)); replace BKB := Aside0.mk (blk_below (g := gB) (o := .cells #[.bool a1_0, .slice A1_1 l1_1.length c1_1, .slice A1_2 l1_2.length c1_2] 28 (0, 0)) (dK BKB.out) hb); have NBRE := Aside0.mk ((by rw [hg]; exact Nat.ne_of_lt (blk_lt (g := gR) (o := .cells #[.bool false, .slice none 0 0, .slice none 0 0] 28 (0, 0)) (dK BKR.out)) : gR ≠ gE)); have NBER := Aside0.mk ((by rw [hg]; exact Nat.ne_of_gt (blk_lt (g := gR) (o := .cells #[.bool false, .slice none 0 0, .slice none 0 0] 28 (0, 0)) (dK BKR.out)) : gE ≠ gR)); replace BKR := Aside0.mk (blk_below (g := gR) (o := .cells #[.bool false, .slice none 0 0, .slice none 0 0] 28 (0, 0)) (dK BKR.out) hb); clear hb hbox hg; have hnAB := NBAB.out; have hnAR := NBAR.out; have hnAE := NBAE.out; have hnBA := NBBA.out; have hnBR := NBBR.out; have hnBE := NBBE.out; have hnRA := NBRA.out; have hnRB := NBRB.out; have hnRE := NBRE.out; have hnEA := NBEA.out; have hnEB := NBEB.out; have hnER := NBER.out; have hcA0_wE : wE.cell? ⟨gA, 0, none⟩ = some (.bool a0_0) := (blk_cell BKA.out 0).trans rfl; have hfA0_wE := blk_frozen BKA.out 0; have hcA1_wE : wE.cell? ⟨gA, 1, none⟩ = some (.slice A0_1 l0_1.length c0_1) := (blk_cell BKA.out 1).trans rfl; have hfA1_wE := blk_frozen BKA.out 1; have hcA2_wE : wE.cell? ⟨gA, 2, none⟩ = some (.slice A0_2 l0_2.length c0_2) := (blk_cell BKA.out 2).trans rfl; have hfA2_wE := blk_frozen BKA.out 2; skip) | ((with_reducible refine gate_callee (f := 28) rfl ?_); refine goesL_ (some 9) rfl rfl Try.func28 (by kernel_rfl) rfl #[.agg #[.bool a0_0, .slice A0_1 l0_1.length c0_1, .slice A0_2 l0_2.length c0_2]] rfl (by (try simp only [List.map_toArray, List.map_cons, List.map_nil]); first | done | rfl) ?_; (with_reducible refine (rat_Check.calls k a0_0 _ _ l0_1 _ _ l0_2 t0 _ ?side1 ?side2 ?side3 ?side4 T0.out).mono ?_); (case side1 => exact dC (Kd.C_below HR0_1.out HB.out)); (case side2 => exact HC0_1.out); (case side3 => exact dC (Kd.C_below HR0_2.out HB.out)); (case side4 => exact HC0_2.out); rintro e wc0 ⟨rfl, hb⟩; refine ⟨_, rfl, ?_⟩; replace BKA := Aside0.mk (blk_below (g := gA) (o := .cells #[.bool a0_0, .slice A0_1 l0_1.length c0_1, .slice A0_2 l0_2.length c0_2] 28 (0, 0)) (dK BKA.out) hb); replace BKB := Aside0.mk (blk_below (g := gB) (o := .cells #[.bool a1_0, .slice A1_1 l1_1.length c1_1, .slice A1_2 l1_2.length c1_2] 28 (0, 0)) (dK BKB.out) hb); replace BKR := Aside0.mk (blk_below (g := gR) (o := .cells #[.bool false, .slice none 0 0, .slice none 0 0] 28 (0, 0)) (dK BKR.out) hb); replace BKE := Aside0.mk (blk_below (g := gE) (o := .cells #[.int .i64 0] 32 (0, 0)) (dK BKE.out) hb); replace HB := Aside0.mk (below_step (by repeat (first | (with_reducible first | exact HB.out | apply below_alloc | apply pw_below_drewN | apply below_drew1 | refine below_set ?_ GEA.out | refine below_set ?_ GEB.out | refine below_set ?_ GER.out | refine below_set ?_ GEE.out) | exact HB.out)) hb); (try clear hb); have hcB0_wc0 : wc0.cell? ⟨gB, 0, none⟩ = some (.bool a1_0) := (blk_cell BKB.out 0).trans rfl; have hfB0_wc0 := blk_frozen BKB.out 0; have hcB1_wc0 : wc0.cell? ⟨gB, 1, none⟩ = some (.slice A1_1 l1_1.length c1_1) := (blk_cell BKB.out 1).trans rfl; have hfB1_wc0 := blk_frozen BKB.out 1; have hcB2_wc0 : wc0.cell? ⟨gB, 2, none⟩ = some (.slice A1_2 l1_2.length c1_2) := (blk_cell BKB.out 2).trans rfl; have hfB2_wc0 := blk_frozen BKB.out 2; have hcR0_wc0 : wc0.cell? ⟨gR, 0, none⟩ = some (.bool false) := (blk_cell BKR.out 0).trans rfl; have hfR0_wc0 := blk_frozen BKR.out 0; have hcR1_wc0 : wc0.cell? ⟨gR, 1, none⟩ = some (.slice none 0 0) := (blk_cell BKR.out 1).trans rfl; have hfR1_wc0 := blk_frozen BKR.out 1; have hcR2_wc0 : wc0.cell? ⟨gR, 2, none⟩ = some (.slice none 0 0) := (blk_cell BKR.out 2).trans rfl; have hfR2_wc0 := blk_frozen BKR.out 2; have hcE0_wc0 : wc0.cell? ⟨gE, 0, none⟩ = some (.int .i64 0) := (blk_cell BKE.out 0).trans rfl; have hfE0_wc0 := blk_frozen BKE.out 0; skip))
  refine ⟨_, results_cs (p := 6) (p' := 7) rfl _ _ gR gE #[.bool false, .slice none 0 0, .slice none 0 0] (.int .i64 51) rfl (by (with_reducible repeat (first | refine blk_drewN ?_ _ | refine blk_drew ?_ | refine blk_alloc ?_ _)); refine blk_far ?_ NBRE.out _; (with_reducible repeat (first | refine blk_drewN ?_ _ | refine blk_drew ?_ | refine blk_alloc ?_ _)); refine blk_put (cs := #[.bool false, .slice none 0 0, .slice none 0 0]) ?_ 2 _ rfl; (with_reducible repeat (first | refine blk_drewN ?_ _ | refine blk_drew ?_ | refine blk_alloc ?_ _)); refine blk_put (cs := #[.bool false, .slice none 0 0, .slice none 0 0]) ?_ 1 _ rfl; (with_reducible repeat (first | refine blk_drewN ?_ _ | refine blk_drew ?_ | refine blk_alloc ?_ _)); refine blk_put (cs := #[.bool false, .slice none 0 0, .slice none 0 0]) ?_ 0 _ rfl; (with_reducible repeat (first | refine blk_drewN ?_ _ | refine blk_drew ?_ | refine blk_alloc ?_ _)); exact BKR.out) rfl rfl (by (with_reducible repeat (first | refine blk_drewN ?_ _ | refine blk_drew ?_ | refine blk_alloc ?_ _)); refine blk_put (cs := #[.int .i64 0]) ?_ 0 _ rfl; (with_reducible repeat (first | refine blk_drewN ?_ _ | refine blk_drew ?_ | refine blk_alloc ?_ _)); refine blk_far ?_ NBER.out _; (with_reducible repeat (first | refine blk_drewN ?_ _ | refine blk_drew ?_ | refine blk_alloc ?_ _)); refine blk_far ?_ NBER.out _; (with_reducible repeat (first | refine blk_drewN ?_ _ | refine blk_drew ?_ | refine blk_alloc ?_ _)); refine blk_far ?_ NBER.out _; (with_reducible repeat (first | refine blk_drewN ?_ _ | refine blk_drew ?_ | refine blk_alloc ?_ _)); exact BKE.out), ?_⟩
  exact ⟨_, _, rfl, Kd.R_nil _ _ _ _ _, Kd.R_nil _ _ _ _ _, by repeat (first | (with_reducible first | exact HB.out | apply below_alloc | apply pw_below_drewN | apply below_drew1 | refine below_set ?_ GEA.out | refine below_set ?_ GEB.out | refine below_set ?_ GER.out | refine below_set ?_ GEE.out) | exact HB.out)⟩


/-! ### nat_Bits: function 42 -/
def nat_Bits.f (k : Nat) (l0 : List Int) : Option (Int) := (nat_size.f k l0).bind fun t278 => (if t278 = 0 then (some 0) else (if 0 ≤ (wrap64 (t278 - 1)) then (if (wrap64 (t278 - 1)) < (l0.length : Int) then ((wide_Len.f k (rd l0 (wrap64 (t278 - 1)))).bind fun t280 => (some (wrap64 ((wrap64 (64 * (wrap64 (t278 - 1)))) + t280)))) else (none)) else (none)))
theorem nat_Bits.mono : ∀ a0 k, LeO (nat_Bits.f k a0) (nat_Bits.f (k + 1) a0) := by
 intro a0 k
 unfold nat_Bits.f
 have m0_ := nat_size.mono
 have m1_ := wide_Len.mono
 exact mX
set_option maxHeartbeats 8000000 in
set_option maxRecDepth 100000 in
theorem nat_Bits.calls (k : Nat) (A0 : Option Addr) (c0 : Nat) (l0 : List Int) (r : Int) (w : World) (hr0 : Kd.C (Kd.int .u64) w A0 l0.length l0) (hc0 : l0.length ≤ c0) (h : nat_Bits.f k l0 = some r) :
  Calls Try.prog 42 #[.slice A0 l0.length c0] w fun e w' => e = .returned (.int .i64 r) ∧ Drawn0 w w' := by
 have HR0 := Aside0.mk hr0
 have HC0 := Aside0.mk hc0
 clear hr0 hc0
 have H : ((nat_size.f k l0).bind fun t278 => (if t278 = 0 then (some 0) else (if 0 ≤ (wrap64 (t278 - 1)) then (if (wrap64 (t278 - 1)) < (l0.length : Int) then ((wide_Len.f k (rd l0 (wrap64 (t278 - 1)))).bind fun t280 => (some (wrap64 ((wrap64 (64 * (wrap64 (t278 - 1)))) + t280)))) else (none)) else (none)))) = some r := h
 clear h
 replace H := obe H
 obtain ⟨t278, A20, H⟩ := H
 (try dsimp only at H)
 have A2 := Aside0.mk A20
 clear A20
 by_cases c3 : t278 = 0
 ·rw [if_pos c3] at H
  have c3b0 : (t278 == 0) = true := beq_iff_eq.mpr c3
  have c3b1 : (t278 != 0) = false := bne_eq_false_iff_eq.mpr c3
  clear c3
  obtain rfl := Option.some.inj H
  go_enter Try.func42, Try.ntmps42
  go_wp2_with (first | ((with_reducible refine gate_callee (f := 47) rfl ?_); refine gL (some 5) Try.func47 #[.slice A0 l0.length c0] ?_; (with_reducible refine (nat_size.calls k _ _ l0 t278 _ ?side1 ?side2 A2.out).mono ?_); (case side1 => exact dC HR0.out); (case side2 => exact HC0.out); rintro e w' ⟨rfl, ⟨nd, rfl⟩⟩; refine ⟨_, rfl, ?_⟩))
  go_ret
  exact ⟨by first | rfl | (simp; done) | (simp [*]; done), by repeat (first | exact Drawn0.refl _ | apply Drawn0.step)⟩
 ·rw [if_neg c3] at H
  have c3b0 : (t278 == 0) = false := beq_eq_false_iff_ne.mpr c3
  have c3b1 : (t278 != 0) = true := bne_iff_ne.mpr c3
  obtain ⟨ji4, hji4⟩ : ∃ j_ : Int, (wrap64 (t278 - 1)) = j_ := ⟨_, rfl⟩
  first | rw [hji4] at H | simp only [hji4] at H
  (try rw [hji4] at A2)
  have hji4w : (IntKind.i64.wrap (t278 - 1)) = ji4 := (i64_w _).trans hji4
  by_cases c5 : (0 : Int) ≤ (ji4)
  ·rw [if_pos c5] at H
   have c5b0 : decide (0 ≤ (ji4)) = true := decide_eq_true c5
   clear c5
   by_cases c6 : (ji4) < (l0.length : Int)
   ·rw [if_pos c6] at H
    have c6b0 : decide ((ji4) < (l0.length : Int)) = true := decide_eq_true c6
    clear c6
    replace H := obe H
    obtain ⟨t280, A70, H⟩ := H
    (try dsimp only at H)
    have A7 := Aside0.mk A70
    clear A70
    obtain rfl := Option.some.inj H
    go_enter Try.func42, Try.ntmps42
    go_wp2_with (first | ((with_reducible refine gate_callee (f := 47) rfl ?_); refine gL (some 5) Try.func47 #[.slice A0 l0.length c0] ?_; (with_reducible refine (nat_size.calls k _ _ l0 t278 _ ?side1 ?side2 A2.out).mono ?_); (case side1 => exact dC HR0.out); (case side2 => exact HC0.out); rintro e w' ⟨rfl, ⟨nd, rfl⟩⟩; refine ⟨_, rfl, ?_⟩; have p279 : 0 ≤ ((ji4) : Int) := of_decide_eq_true dS; have q279 : (ji4) < (l0.length : Int) := of_decide_eq_true dS; obtain ⟨ad279, e279, hx279_0⟩ := Kd.at_int HR0.out (ji4) p279 q279; cases e279; replace p279 := eq_true p279; replace q279 := eq_true q279) | ((with_reducible refine gate_callee (f := 83) rfl ?_); refine goesL_ (some 16) rfl rfl Try.func83 (by kernel_rfl) rfl #[.int .u64 (rd l0 (ji4))] rfl (by (try simp only [List.map_toArray, List.map_cons, List.map_nil]); first | done | (simp only [hji4]; rfl) | rfl | (simp only [List.length_drop, List.length_take]; rfl)) ?_; (with_reducible refine (wide_Len.calls k (rd l0 (ji4)) t280 _ A7.out).mono ?_); rintro e w' ⟨rfl, ⟨nd, rfl⟩⟩; refine ⟨_, rfl, ?_⟩))
    go_ret
    exact ⟨by first | rfl | (simp; done) | (simp only [← hji4] <;> (first | rfl | simp)) | (simp [*]; done), by repeat (first | exact Drawn0.refl _ | apply Drawn0.step)⟩
   ·rw [if_neg c6] at H
    exact absurd H (by simp)
  ·rw [if_neg c5] at H
   exact absurd H (by simp)

end Go.Proofs.Ytmdmgbllpgkpeaa.PA

namespace Go.Proofs.Ytmdmgbllpgkpeaa.PA
open Go.RowKit Go.Proofs.YtmdmgbllpgkpeaaW.PrintWords Go.Proofs.YtmdmgbllpgkpeaaW.PrintLast Go.Proofs.YtmdmgbllpgkpeaaW.PrintMore
attribute [local go_sem] max2_int min2_int max_two min_two max_three min_three max_four min_four   -- for this text's walks alone
set_option linter.unusedVariables false
set_option linter.unusedSimpArgs false

/-! ### nat_bound: function 50 -/
def nat_bound.f (k : Nat) (l0 : List Int) : Option (List Int × Int) := (nat_size.f k l0).bind fun t281 => (if t281 ≤ 4096 then (if 0 ≤ t281 then (if t281 ≤ (l0.length : Int) then (some ((l0.take (t281 : Int).toNat), 0)) else (none)) else (none)) else (some (([] : List Int), 21)))
theorem nat_bound.mono : ∀ a0 k, LeO (nat_bound.f k a0) (nat_bound.f (k + 1) a0) := by
 intro a0 k
 unfold nat_bound.f
 have m0_ := nat_size.mono
 exact mX
set_option maxHeartbeats 8000000 in
set_option maxRecDepth 100000 in
theorem nat_bound.calls (k : Nat) (P0_ : Nat → Prop) (u9000_ : Value) (l0 : List Int) (r1 : List Int) (r2 : Int) (w0 w : World) (hB : Below w0.heap.size w0 w) (ho0 : Kd.R (Kd.int .u64) 25 w w0.heap.size P0_ u9000_ l0) (h : nat_bound.f k l0 = some (r1, r2)) :
  Calls Try.prog 50 #[u9000_] w fun e w' => ∃ v0_ : Value, e = .returned (.tuple #[v0_, .int .i64 r2]) ∧ Kd.R (Kd.int .u64) 25 w' w0.heap.size (fun k_ => (P0_ k_ ∨ w.heap.size ≤ k_)) v0_ r1 ∧ Below w0.heap.size w0 w' ∧ Kept w w' (fun k_ => P0_ k_) := by
 have HO0 := Aside0.mk (show Kd.R (Kd.int .u64) 25 w w0.heap.size (fun k_ => (P0_ k_ ∨ w.heap.size ≤ k_)) u9000_ l0 from Kd.R_mono ho0 (fun k_ hk => (.inl hk)))
 have HK := Aside0.mk (Kept.refl w (fun k_ => P0_ k_))
 have HW0 := Aside0.mk hB.size
 have HB := Aside0.mk hB
 clear hB
 have H : ((nat_size.f k l0).bind fun t281 => (if t281 ≤ 4096 then (if 0 ≤ t281 then (if t281 ≤ (l0.length : Int) then (some ((l0.take (t281 : Int).toNat), 0)) else (none)) else (none)) else (some (([] : List Int), 21)))) = some (r1, r2) := h
 clear h
 replace H := obe H
 obtain ⟨t281, A20, H⟩ := H
 (try dsimp only at H)
 have A2 := Aside0.mk A20
 clear A20
 by_cases c3 : t281 ≤ 4096
 ·rw [if_pos c3] at H
  have c3b0 : decide (t281 ≤ 4096) = true := decide_eq_true c3
  clear c3
  by_cases c4 : (0 : Int) ≤ t281
  ·rw [if_pos c4] at H
   have c4b0 := eq_true c4
   have c4b1 : decide (0 ≤ t281) = true := decide_eq_true c4
   clear c4
   by_cases c5 : t281 ≤ (l0.length : Int)
   ·rw [if_pos c5] at H
    have c5b0 := eq_true c5
    have c5b1 : decide (t281 ≤ (l0.length : Int)) = true := decide_eq_true c5
    clear c5
    obtain ⟨y282, hy282⟩ : ∃ y_ : List Int, y_ = (l0.take (t281 : Int).toNat) := ⟨_, rfl⟩
    replace H : (some (y282, 0)) = some (r1, r2) := by first | (rw [hy282]; with_reducible exact H) | (have H2_ := (Option.bind_some _ _).symm.trans H; rw [hy282]; with_reducible exact H2_) | (have H2_ := (Option.bind_some _ _).symm.trans H; with_reducible exact H2_) | with_reducible exact H | (rw [hy282]; exact H) | exact H
    have Ny282 := Aside0.mk hy282
    clear hy282
    simp only [Option.some.injEq, Prod.mk.injEq] at H
    obtain ⟨rfl, rfl⟩ := H
    obtain ⟨Ao6, co6, eo6⟩ := Kd.R_slice HO0.out
    subst eo6
    go_enter Try.func50, Try.ntmps50
    go_wp2_with (first | ((with_reducible refine gate_callee (f := 47) rfl ?_); refine gL (some 6) Try.func47 #[.slice Ao6 l0.length co6] ?_; (with_reducible refine (nat_size.calls k _ _ l0 t281 _ ?side1 ?side2 A2.out).mono ?_); (case side1 => exact dC (Kd.R_reads' HO0.out).2.2); (case side2 => exact (Kd.R_reads' HO0.out).2.1); rintro e w' ⟨rfl, ⟨nd, rfl⟩⟩; refine ⟨_, rfl, ?_⟩; have q7 : (t281 : Int) ≤ ((l0.length : Int) : Int) := of_decide_eq_true dS; obtain ⟨i07, hi07, _, hsz7, _⟩ := info_parts info25; have hcut7 := cut_to3 (P := Try.prog) 22 25 .i64 .i64 Try.underlying22 hi07 Ao6 l0.length co6 t281 (of_decide_eq_true dS) q7 (Kd.R_reads' HO0.out).2.1; have hr7 := Kd.R_take3 (m := (t281 : Int).toNat) HO0.out (by omega); have hy7 : y282.length = (t281 : Int).toNat := (by rw [Ny282.out, List.length_take]; omega); rw [← Ny282.out] at hr7; rw [← hy7] at hr7 hcut7; clear hy7 hi07 hsz7 HO0; have HO284 := Aside0.mk hr7; clear hr7; replace q7 := eq_true q7))
    go_ret2
    exact ⟨_, dE, dR HO284.out, dB, by repeat (first | (with_reducible first | exact HK.out | apply Kept.alloc | apply Kept.drewN | apply Kept.drew) | exact HK.out)⟩
   ·rw [if_neg c5] at H
    exact absurd H (by simp)
  ·rw [if_neg c4] at H
   exact absurd H (by simp)
 ·rw [if_neg c3] at H
  have c3b0 : decide (t281 ≤ 4096) = false := decide_eq_false c3
  clear c3
  simp only [Option.some.injEq, Prod.mk.injEq] at H
  obtain ⟨rfl, rfl⟩ := H
  obtain ⟨Ao8, co8, eo8⟩ := Kd.R_slice HO0.out
  subst eo8
  go_enter Try.func50, Try.ntmps50
  go_wp2_with (first | ((with_reducible refine gate_callee (f := 47) rfl ?_); refine gL (some 6) Try.func47 #[.slice Ao8 l0.length co8] ?_; (with_reducible refine (nat_size.calls k _ _ l0 t281 _ ?side1 ?side2 A2.out).mono ?_); (case side1 => exact dC (Kd.R_reads' HO0.out).2.2); (case side2 => exact (Kd.R_reads' HO0.out).2.1); rintro e w' ⟨rfl, ⟨nd, rfl⟩⟩; refine ⟨_, rfl, ?_⟩))
  go_ret2
  exact ⟨_, dE, by first | exact Kd.R_nil _ _ _ _ _ | exact Kd.N_nil _ _ _ _ _ | exact Kd.V_nil _ _ _ _ _ | exact Kd.Q_nil _ _ _ _ _ | exact Kd.S_nil _ _ _ _ _, dB, by repeat (first | (with_reducible first | exact HK.out | apply Kept.alloc | apply Kept.drewN | apply Kept.drew) | exact HK.out)⟩

end Go.Proofs.Ytmdmgbllpgkpeaa.PA
