/- A part of the proof (10). -/
import Derived.Test.YtiogfeeaepkkmaaYKFVKF2
import Derived.Test.YtiogfeeaepkkmaaYKFVKF6
import Derived.Test.YtiogfeeaepkkmaaYKFVKF7
import Derived.Test.YtiogfeeaepkkmaaYKFVKF9
namespace Go.Proofs.Ytiogfeeaepkkmaa.PA
open Go.RowKit Go.Proofs.YtiogfeeaepkkmaaW.PrintWords Go.Proofs.YtiogfeeaepkkmaaW.PrintLast Go.Proofs.YtiogfeeaepkkmaaW.PrintMore
attribute [local go_sem] max2_int min2_int max_two min_two max_three min_three max_four min_four
set_option linter.unusedVariables false
set_option linter.unusedSimpArgs false
def plumblaw05_alive.f (k : Nat)  : Option (Bool) := (rat_New.f k false (([1] : List Int)) (([2] : List Int))).bind fun bt322 => ((rat_New.f k false (([2] : List Int)) (([6] : List Int))).bind fun bt337 => ((rat_Add.f k bt322.1 bt322.2.1 bt322.2.2.1 bt337.1 bt337.2.1 bt337.2.2.1).bind fun bt346 => (if bt322.2.2.2 = 0 then (if bt337.2.2.2 = 0 then (if bt346.2.2.2 = 0 then (if bt346.1 = true then (none) else ((plumblaw05_same.f k bt346.2.1 (([5] : List Int))).bind fun t358 => (if t358 = true then ((plumblaw05_same.f k bt346.2.2.1 (([6] : List Int))).bind fun t362 => (some t362)) else (none)))) else (none)) else (none)) else (none))))
theorem plumblaw05_alive.mono : ∀ k, LeO (plumblaw05_alive.f k ) (plumblaw05_alive.f (k + 1) ) := by
 intro  k
 unfold plumblaw05_alive.f
 have m0_ := plumblaw05_same.mono
 have m1_ := rat_Add.mono
 have m2_ := rat_New.mono
 exact mX
set_option maxHeartbeats 8000000 in
set_option maxRecDepth 100000 in
theorem plumblaw05_alive.calls (k : Nat)  (r : Bool) (w : World) (h : plumblaw05_alive.f k  = some r) :
  Calls Try.prog 17 #[] w fun e w' => e = .returned (.bool r) ∧ Below w.heap.size w w' := by
 have hu25 := Try.underlying25
 have HB := aM (Below.refl w.heap.size w)
 have H := h
 clear h
 unfold plumblaw05_alive.f at H
 obtain ⟨y316, hy316⟩ : ∃ y_ : List Int, y_ = (([1] : List Int)) := ⟨_, rfl⟩
 replace H : ((rat_New.f k false y316 (([2] : List Int))).bind fun bt322 => ((rat_New.f k false (([2] : List Int)) (([6] : List Int))).bind fun bt337 => ((rat_Add.f k bt322.1 bt322.2.1 bt322.2.2.1 bt337.1 bt337.2.1 bt337.2.2.1).bind fun bt346 => (if bt322.2.2.2 = 0 then (if bt337.2.2.2 = 0 then (if bt346.2.2.2 = 0 then (if bt346.1 = true then (none) else ((plumblaw05_same.f k bt346.2.1 (([5] : List Int))).bind fun t358 => (if t358 = true then ((plumblaw05_same.f k bt346.2.2.1 (([6] : List Int))).bind fun t362 => (some t362)) else (none)))) else (none)) else (none)) else (none))))) = some r := by first | (rw [hy316]; with_reducible exact H) | (have H2_ := (Option.bind_some _ _).symm.trans H; rw [hy316]; with_reducible exact H2_) | (have H2_ := (Option.bind_some _ _).symm.trans H; with_reducible exact H2_) | with_reducible exact H | (rw [hy316]; exact H) | exact H
 have Ny316 := aM hy316
 clear hy316
 obtain ⟨y319, hy319⟩ : ∃ y_ : List Int, y_ = (([2] : List Int)) := ⟨_, rfl⟩
 replace H : ((rat_New.f k false y316 y319).bind fun bt322 => ((rat_New.f k false (([2] : List Int)) (([6] : List Int))).bind fun bt337 => ((rat_Add.f k bt322.1 bt322.2.1 bt322.2.2.1 bt337.1 bt337.2.1 bt337.2.2.1).bind fun bt346 => (if bt322.2.2.2 = 0 then (if bt337.2.2.2 = 0 then (if bt346.2.2.2 = 0 then (if bt346.1 = true then (none) else ((plumblaw05_same.f k bt346.2.1 (([5] : List Int))).bind fun t358 => (if t358 = true then ((plumblaw05_same.f k bt346.2.2.1 (([6] : List Int))).bind fun t362 => (some t362)) else (none)))) else (none)) else (none)) else (none))))) = some r := by first | (rw [hy319]; with_reducible exact H) | (have H2_ := (Option.bind_some _ _).symm.trans H; rw [hy319]; with_reducible exact H2_) | (have H2_ := (Option.bind_some _ _).symm.trans H; with_reducible exact H2_) | with_reducible exact H | (rw [hy319]; exact H) | exact H
 have Ny319 := aM hy319
 clear hy319
 replace H := oA H
 obtain ⟨⟨t322, t323, t326, t329⟩, A1, H⟩ := H
 (try dsimp only at H)
 obtain ⟨y331, hy331⟩ : ∃ y_ : List Int, y_ = (([2] : List Int)) := ⟨_, rfl⟩
 replace H : ((rat_New.f k false y331 (([6] : List Int))).bind fun bt337 => ((rat_Add.f k t322 t323 t326 bt337.1 bt337.2.1 bt337.2.2.1).bind fun bt346 => (if t329 = 0 then (if bt337.2.2.2 = 0 then (if bt346.2.2.2 = 0 then (if bt346.1 = true then (none) else ((plumblaw05_same.f k bt346.2.1 (([5] : List Int))).bind fun t358 => (if t358 = true then ((plumblaw05_same.f k bt346.2.2.1 (([6] : List Int))).bind fun t362 => (some t362)) else (none)))) else (none)) else (none)) else (none)))) = some r := by first | (rw [hy331]; with_reducible exact H) | (have H2_ := (Option.bind_some _ _).symm.trans H; rw [hy331]; with_reducible exact H2_) | (have H2_ := (Option.bind_some _ _).symm.trans H; with_reducible exact H2_) | with_reducible exact H | (rw [hy331]; exact H) | exact H
 have Ny331 := aM hy331
 clear hy331
 obtain ⟨y334, hy334⟩ : ∃ y_ : List Int, y_ = (([6] : List Int)) := ⟨_, rfl⟩
 replace H : ((rat_New.f k false y331 y334).bind fun bt337 => ((rat_Add.f k t322 t323 t326 bt337.1 bt337.2.1 bt337.2.2.1).bind fun bt346 => (if t329 = 0 then (if bt337.2.2.2 = 0 then (if bt346.2.2.2 = 0 then (if bt346.1 = true then (none) else ((plumblaw05_same.f k bt346.2.1 (([5] : List Int))).bind fun t358 => (if t358 = true then ((plumblaw05_same.f k bt346.2.2.1 (([6] : List Int))).bind fun t362 => (some t362)) else (none)))) else (none)) else (none)) else (none)))) = some r := by first | (rw [hy334]; with_reducible exact H) | (have H2_ := (Option.bind_some _ _).symm.trans H; rw [hy334]; with_reducible exact H2_) | (have H2_ := (Option.bind_some _ _).symm.trans H; with_reducible exact H2_) | with_reducible exact H | (rw [hy334]; exact H) | exact H
 have Ny334 := aM hy334
 clear hy334
 replace H := oA H
 obtain ⟨⟨t337, t338, t341, t344⟩, A2, H⟩ := H
 (try dsimp only at H)
 replace H := oA H
 obtain ⟨⟨t346, t347, t350, t353⟩, A3, H⟩ := H
 (try dsimp only at H)
 replace H := nO H
 obtain ⟨c4, H⟩ := H
 obtain ⟨c4b0, c4b1⟩ := bT c4
 clear c4
 replace H := nO H
 obtain ⟨c5, H⟩ := H
 obtain ⟨c5b0, c5b1⟩ := bT c5
 clear c5
 replace H := nO H
 obtain ⟨c6, H⟩ := H
 obtain ⟨c6b0, c6b1⟩ := bT c6
 clear c6
 replace H := nR H
 obtain ⟨rfl, H⟩ := H
 (try dsimp only at H)
 obtain ⟨y355, hy355⟩ : ∃ y_ : List Int, y_ = (([5] : List Int)) := ⟨_, rfl⟩
 replace H : ((plumblaw05_same.f k t347 y355).bind fun t358 => (if t358 = true then ((plumblaw05_same.f k t350 (([6] : List Int))).bind fun t362 => (some t362)) else (none))) = some r := by first | (rw [hy355]; with_reducible exact H) | (have H2_ := (Option.bind_some _ _).symm.trans H; rw [hy355]; with_reducible exact H2_) | (have H2_ := (Option.bind_some _ _).symm.trans H; with_reducible exact H2_) | with_reducible exact H | (rw [hy355]; exact H) | exact H
 have Ny355 := aM hy355
 clear hy355
 replace H := oA H
 obtain ⟨t358, A8, H⟩ := H
 (try dsimp only at H)
 replace H := nO H
 obtain ⟨rfl, H⟩ := H
 (try dsimp only at H)
 obtain ⟨y359, hy359⟩ : ∃ y_ : List Int, y_ = (([6] : List Int)) := ⟨_, rfl⟩
 replace H : ((plumblaw05_same.f k t350 y359).bind fun t362 => (some t362)) = some r := by first | (rw [hy359]; with_reducible exact H) | (have H2_ := (Option.bind_some _ _).symm.trans H; rw [hy359]; with_reducible exact H2_) | (have H2_ := (Option.bind_some _ _).symm.trans H; with_reducible exact H2_) | with_reducible exact H | (rw [hy359]; exact H) | exact H
 have Ny359 := aM hy359
 clear hy359
 replace H := oA H
 obtain ⟨t362, A10, H⟩ := H
 (try dsimp only at H)
 obtain rfl := Option.some.inj H
 go_enter Try.func17, Try.ntmps17
 go_wp2_with (first | ((with_reducible refine gate_dst (N := 8) rfl ?_); (try (refine gate_guard (by rfl) ?_; dsimp only)); refine Kd.R_lit (Kd.int .u64) _ 44 ?hg (N := 8) ?hd (xs := ([1] : List Int)) (inner := [.int .u64 1]) (ok := fun _ => True) (okp := fun _ => True) ?hr ?hp (fun _ hk => hk) trivial (Below.refl _ _) (Nat.le_refl _) (by simp) ?_; (case hd => rfl); (case hg => rfl); (case hr => first | (go_simp; done) | (go_simp; rfl)); (case hp => exact (Reps.one (show Kd.M (Kd.int .u64) _ _ _ 1 [.int .u64 1] from rfl) (Reps.none _ _))); intro v317 w11 ho12 hb hg_ hnew_; clear hg_ hnew_; (first | rw [← Ny316.out] at ho12 | (simp only [Int.reduceToNat] at ho12; rw [← Ny316.out] at ho12)); have HO318 := aM (Kd.R_lower ho12 (below_size dB)); replace HB := hS HB.out hb; clear hb ho12) | ((with_reducible refine gate_dst (N := 9) rfl ?_); (try (refine gate_guard (by rfl) ?_; dsimp only)); refine Kd.R_lit (Kd.int .u64) _ 44 ?hg (N := 9) ?hd (xs := ([2] : List Int)) (inner := [.int .u64 2]) (ok := fun _ => True) (okp := fun _ => True) ?hr ?hp (fun _ hk => hk) trivial (Below.refl _ _) (Nat.le_refl _) (by simp) ?_; (case hd => rfl); (case hg => rfl); (case hr => first | (go_simp; done) | (go_simp; rfl)); (case hp => exact (Reps.one (show Kd.M (Kd.int .u64) _ _ _ 2 [.int .u64 2] from rfl) (Reps.none _ _))); intro v320 w13 ho14 hb hg_ hnew_; clear hg_ hnew_; (first | rw [← Ny319.out] at ho14 | (simp only [Int.reduceToNat] at ho14; rw [← Ny319.out] at ho14)); have HO321 := aM (Kd.R_lower (Kd.R_new' ho14 (Kd.R_lt (dR HO318.out))) (below_size dB)); replace HO318 := oE HO318.out ho14 hb; replace HB := hS HB.out hb; clear hb ho14; obtain ⟨Ao15, co15, rfl⟩ := Kd.R_slice HO318.out; obtain ⟨Ao16, co16, rfl⟩ := Kd.R_slice HO321.out) | ((with_reducible refine gate_callee (f := 34) rfl ?_); refine gL (some 10) Try.func34 #[.bool false, .slice Ao15 y316.length co15, .slice Ao16 y319.length co16] ?_; (with_reducible refine (rat_New.calls k false _ _ y316 _ _ y319 t322 t323 t326 t329 _ ?side1 (Kd.R_reads' HO318.out).2.1 ?side3 (Kd.R_reads' HO321.out).2.1 A1.out).mono ?_); (case side1 => exact dC (Kd.R_reads' HO318.out).2.2); (case side3 => exact dC (Kd.R_reads' HO321.out).2.2); rintro e w17 ⟨v324, v327, rfl, ho0, ho1, hb⟩; refine ⟨_, rfl, ?_⟩; have HO325 := aM (Kd.R_lower (Kd.R_new' (Kd.R_new' ho0 (Kd.R_lt (dR HO318.out))) (Kd.R_lt (dR HO321.out))) (below_size dB)); have HO328 := aM (Kd.R_lower (Kd.R_new' (Kd.R_new' ho1 (Kd.R_lt (dR HO318.out))) (Kd.R_lt (dR HO321.out))) (below_size dB)); replace HO318 := aM (Kd.R_mono (Kd.R_told (Kd.R_told (Kd.R_old (dR HO318.out) hb) (Kd.R_base ho0)) (Kd.R_base ho1)) (fun _ h_ => h_.1)); replace HO321 := aM (Kd.R_mono (Kd.R_told (Kd.R_told (Kd.R_old (dR HO321.out) hb) (Kd.R_base ho0)) (Kd.R_base ho1)) (fun _ h_ => h_.1)); replace HB := hS HB.out hb; (try clear hb); (try clear ho0); (try clear ho1)) | ((with_reducible refine gate_dst (N := 1) rfl ?_); (try (refine gate_guard (by rfl) ?_; dsimp only)); refine bE 1 #[.bool false, .slice none 0 0, .slice none 0 0] 25 ?_; intro gb330 hg w18 hbox hb; replace HO318 := oB HO318.out hb; replace HO321 := oB HO321.out hb; replace HO325 := oB HO325.out hb; replace HO328 := oB HO328.out hb; have BK330 := aM (hbox); have GE330 : Aside0 (w.heap.size ≤ gb330) := gE hg; replace HB := hS HB.out hb; clear hb hbox hg; obtain ⟨hcz19_0, hcz19_1, hcz19_2⟩ := cz3 BK330.out; obtain ⟨hfz19_0, hfz19_1, hfz19_2⟩ := fz3 BK330.out; obtain ⟨Ao20, co20, rfl⟩ := Kd.R_slice HO325.out; obtain ⟨Ao21, co21, rfl⟩ := Kd.R_slice HO328.out) | ((with_reducible refine gate_dst (N := 14) rfl ?_); (try (refine gate_guard (by rfl) ?_; dsimp only)); refine Kd.R_lit (Kd.int .u64) _ 44 ?hg (N := 14) ?hd (xs := ([2] : List Int)) (inner := [.int .u64 2]) (ok := fun _ => True) (okp := fun _ => True) ?hr ?hp (fun _ hk => hk) trivial (Below.refl _ _) (Nat.le_refl _) (by simp) ?_; (case hd => rfl); (case hg => rfl); (case hr => first | (go_simp; done) | (go_simp; rfl)); (case hp => exact (Reps.one (show Kd.M (Kd.int .u64) _ _ _ 2 [.int .u64 2] from rfl) (Reps.none _ _))); intro v332 w22 ho23 hb hg_ hnew_; clear hg_ hnew_; (first | rw [← Ny331.out] at ho23 | (simp only [Int.reduceToNat] at ho23; rw [← Ny331.out] at ho23)); have HO333 := aM (Kd.R_lower (Kd.R_new' (Kd.R_new' (Kd.R_new' (Kd.R_new' ho23 (Kd.R_lt (oR HO318.out BK330.out))) (Kd.R_lt (oR HO321.out BK330.out))) (Kd.R_lt (oR HO325.out BK330.out))) (Kd.R_lt (oR HO328.out BK330.out))) (below_size eB)); replace HO318 := aM (Kd.R_elder' (oR HO318.out BK330.out) (Kd.R_base ho23) hb); replace HO321 := aM (Kd.R_elder' (oR HO321.out BK330.out) (Kd.R_base ho23) hb); replace HO325 := aM (Kd.R_elder' (oR HO325.out BK330.out) (Kd.R_base ho23) hb); replace HO328 := aM (Kd.R_elder' (oR HO328.out BK330.out) (Kd.R_base ho23) hb); replace BK330 := aM (blk_below (g := gb330) (o := .cells #[.bool t322, .slice Ao20 t323.length co20, .slice Ao21 t326.length co21] 25 (0, 0)) (dP BK330.out) hb); replace HB := hS HB.out hb; clear hb ho23) | ((with_reducible refine gate_dst (N := 15) rfl ?_); (try (refine gate_guard (by rfl) ?_; dsimp only)); refine Kd.R_lit (Kd.int .u64) _ 44 ?hg (N := 15) ?hd (xs := ([6] : List Int)) (inner := [.int .u64 6]) (ok := fun _ => True) (okp := fun _ => True) ?hr ?hp (fun _ hk => hk) trivial (Below.refl _ _) (Nat.le_refl _) (by simp) ?_; (case hd => rfl); (case hg => rfl); (case hr => first | (go_simp; done) | (go_simp; rfl)); (case hp => exact (Reps.one (show Kd.M (Kd.int .u64) _ _ _ 6 [.int .u64 6] from rfl) (Reps.none _ _))); intro v335 w24 ho25 hb hg_ hnew_; clear hg_ hnew_; (first | rw [← Ny334.out] at ho25 | (simp only [Int.reduceToNat] at ho25; rw [← Ny334.out] at ho25)); have HO336 := aM (Kd.R_lower (Kd.R_new' (Kd.R_new' (Kd.R_new' (Kd.R_new' (Kd.R_new' ho25 (Kd.R_lt (dR HO318.out))) (Kd.R_lt (dR HO321.out))) (Kd.R_lt (dR HO325.out))) (Kd.R_lt (dR HO328.out))) (Kd.R_lt (dR HO333.out))) (below_size eB)); replace HO318 := oE HO318.out ho25 hb; replace HO321 := oE HO321.out ho25 hb; replace HO325 := oE HO325.out ho25 hb; replace HO328 := oE HO328.out ho25 hb; replace HO333 := oE HO333.out ho25 hb; replace BK330 := bB BK330.out hb; replace HB := hS HB.out hb; clear hb ho25; obtain ⟨Ao26, co26, rfl⟩ := Kd.R_slice HO333.out; obtain ⟨Ao27, co27, rfl⟩ := Kd.R_slice HO336.out) | ((with_reducible refine gate_callee (f := 34) rfl ?_); refine gL (some 16) Try.func34 #[.bool false, .slice Ao26 y331.length co26, .slice Ao27 y334.length co27] ?_; (with_reducible refine (rat_New.calls k false _ _ y331 _ _ y334 t337 t338 t341 t344 _ ?side1 (Kd.R_reads' HO333.out).2.1 ?side3 (Kd.R_reads' HO336.out).2.1 A2.out).mono ?_); (case side1 => exact dC (Kd.R_reads' HO333.out).2.2); (case side3 => exact dC (Kd.R_reads' HO336.out).2.2); rintro e w28 ⟨v339, v342, rfl, ho0, ho1, hb⟩; refine ⟨_, rfl, ?_⟩; have HO340 := aM (Kd.R_lower (Kd.R_new' (Kd.R_new' (Kd.R_new' (Kd.R_new' (Kd.R_new' (Kd.R_new' ho0 (Kd.R_lt (dR HO318.out))) (Kd.R_lt (dR HO321.out))) (Kd.R_lt (dR HO325.out))) (Kd.R_lt (dR HO328.out))) (Kd.R_lt (dR HO333.out))) (Kd.R_lt (dR HO336.out))) (below_size eB)); have HO343 := aM (Kd.R_lower (Kd.R_new' (Kd.R_new' (Kd.R_new' (Kd.R_new' (Kd.R_new' (Kd.R_new' ho1 (Kd.R_lt (dR HO318.out))) (Kd.R_lt (dR HO321.out))) (Kd.R_lt (dR HO325.out))) (Kd.R_lt (dR HO328.out))) (Kd.R_lt (dR HO333.out))) (Kd.R_lt (dR HO336.out))) (below_size eB)); replace HO318 := aM (Kd.R_mono (Kd.R_told (Kd.R_told (Kd.R_old (dR HO318.out) hb) (Kd.R_base ho0)) (Kd.R_base ho1)) (fun _ h_ => h_.1)); replace HO321 := aM (Kd.R_mono (Kd.R_told (Kd.R_told (Kd.R_old (dR HO321.out) hb) (Kd.R_base ho0)) (Kd.R_base ho1)) (fun _ h_ => h_.1)); replace HO325 := aM (Kd.R_mono (Kd.R_told (Kd.R_told (Kd.R_old (dR HO325.out) hb) (Kd.R_base ho0)) (Kd.R_base ho1)) (fun _ h_ => h_.1)); replace HO328 := aM (Kd.R_mono (Kd.R_told (Kd.R_told (Kd.R_old (dR HO328.out) hb) (Kd.R_base ho0)) (Kd.R_base ho1)) (fun _ h_ => h_.1)); replace HO333 := aM (Kd.R_mono (Kd.R_told (Kd.R_told (Kd.R_old (dR HO333.out) hb) (Kd.R_base ho0)) (Kd.R_base ho1)) (fun _ h_ => h_.1)); replace HO336 := aM (Kd.R_mono (Kd.R_told (Kd.R_told (Kd.R_old (dR HO336.out) hb) (Kd.R_base ho0)) (Kd.R_base ho1)) (fun _ h_ => h_.1)); replace BK330 := bB BK330.out hb; replace HB := hS HB.out hb; (try clear hb); (try clear ho0); (try clear ho1)) | ((with_reducible refine gate_dst (N := 3) rfl ?_); (try (refine gate_guard (by rfl) ?_; dsimp only)); refine bE 3 #[.bool false, .slice none 0 0, .slice none 0 0] 25 ?_; intro gb345 hg w29 hbox hb; replace HO318 := oB HO318.out hb; replace HO321 := oB HO321.out hb; replace HO325 := oB HO325.out hb; replace HO328 := oB HO328.out hb; replace HO333 := oB HO333.out hb; replace HO336 := oB HO336.out hb; replace HO340 := oB HO340.out hb; replace HO343 := oB HO343.out hb; have BK345 := aM (hbox); have GE345 : Aside0 (w.heap.size ≤ gb345) := gE hg; replace HB := hS HB.out hb; have NB330_345 := nL hg BK330.out; have NB345_330 := nG hg BK330.out; replace BK330 := bB BK330.out hb; clear hb hbox hg; have hnb30 := NB345_330.out; have hnc30 := NB330_345.out; obtain ⟨hcz31_0, hcz31_1, hcz31_2⟩ := cz3 BK345.out; obtain ⟨hfz31_0, hfz31_1, hfz31_2⟩ := fz3 BK345.out; obtain ⟨Ao32, co32, rfl⟩ := Kd.R_slice HO340.out; obtain ⟨Ao33, co33, rfl⟩ := Kd.R_slice HO343.out; obtain ⟨hcz34_0, hcz34_1, hcz34_2⟩ := cz3 BK330.out; obtain ⟨hfz34_0, hfz34_1, hfz34_2⟩ := fz3 BK330.out) | ((with_reducible refine gate_callee (f := 21) rfl ?_); refine gL (some 22) Try.func21 #[.agg #[.bool t322, .slice Ao20 t323.length co20, .slice Ao21 t326.length co21], .agg #[.bool t337, .slice Ao32 t338.length co32, .slice Ao33 t341.length co33]] ?_; (with_reducible refine (rat_Add.calls k t322 _ _ t323 _ _ t326 t337 _ _ t338 _ _ t341 false t347 t350 t353 _ ?side1 (Kd.R_reads' HO325.out).2.1 ?side3 (Kd.R_reads' HO328.out).2.1 ?side5 (Kd.R_reads' HO340.out).2.1 ?side7 (Kd.R_reads' HO343.out).2.1 A3.out).mono ?_); (case side1 => refine (Kd.R_reads' (e := 44) (base := w.heap.size) (ok := fun k_ => ((((((oN Ao21 t326 co21 k_ ∧ oN Ao15 y316 co15 k_) ∧ oN Ao16 y319 co16 k_) ∧ oN Ao26 y331 co26 k_) ∧ oN Ao27 y334 co27 k_) ∧ oN Ao32 t338 co32 k_) ∧ oN Ao33 t341 co33 k_)) (n := t323.length) (c := co20) ?_).2.2; exact (oR HO325.out BK345.out)); (case side3 => refine (Kd.R_reads' (e := 44) (base := w.heap.size) (ok := fun k_ => ((((((oN Ao20 t323 co20 k_ ∧ oN Ao15 y316 co15 k_) ∧ oN Ao16 y319 co16 k_) ∧ oN Ao26 y331 co26 k_) ∧ oN Ao27 y334 co27 k_) ∧ oN Ao32 t338 co32 k_) ∧ oN Ao33 t341 co33 k_)) (n := t326.length) (c := co21) ?_).2.2; exact (oR HO328.out BK345.out)); (case side5 => refine (Kd.R_reads' (e := 44) (base := w.heap.size) (ok := fun k_ => ((((((oN Ao33 t341 co33 k_ ∧ oN Ao15 y316 co15 k_) ∧ oN Ao16 y319 co16 k_) ∧ oN Ao20 t323 co20 k_) ∧ oN Ao21 t326 co21 k_) ∧ oN Ao26 y331 co26 k_) ∧ oN Ao27 y334 co27 k_)) (n := t338.length) (c := co32) ?_).2.2; exact (oR HO340.out BK345.out)); (case side7 => refine (Kd.R_reads' (e := 44) (base := w.heap.size) (ok := fun k_ => ((((((oN Ao32 t338 co32 k_ ∧ oN Ao15 y316 co15 k_) ∧ oN Ao16 y319 co16 k_) ∧ oN Ao20 t323 co20 k_) ∧ oN Ao21 t326 co21 k_) ∧ oN Ao26 y331 co26 k_) ∧ oN Ao27 y334 co27 k_)) (n := t341.length) (c := co33) ?_).2.2; exact (oR HO343.out BK345.out)); rintro e w35 ⟨v348, v351, rfl, ho0, ho1, hb⟩; refine ⟨_, rfl, ?_⟩; have HO349 := aM (Kd.R_lower (Kd.R_new' (Kd.R_new' (Kd.R_new' (Kd.R_new' (Kd.R_new' (Kd.R_new' (Kd.R_new' (Kd.R_new' ho0 (Kd.R_lt (oR HO318.out BK345.out))) (Kd.R_lt (oR HO321.out BK345.out))) (Kd.R_lt (oR HO325.out BK345.out))) (Kd.R_lt (oR HO328.out BK345.out))) (Kd.R_lt (oR HO333.out BK345.out))) (Kd.R_lt (oR HO336.out BK345.out))) (Kd.R_lt (oR HO340.out BK345.out))) (Kd.R_lt (oR HO343.out BK345.out))) (below_size eB)); have HO352 := aM (Kd.R_lower (Kd.R_new' (Kd.R_new' (Kd.R_new' (Kd.R_new' (Kd.R_new' (Kd.R_new' (Kd.R_new' (Kd.R_new' ho1 (Kd.R_lt (oR HO318.out BK345.out))) (Kd.R_lt (oR HO321.out BK345.out))) (Kd.R_lt (oR HO325.out BK345.out))) (Kd.R_lt (oR HO328.out BK345.out))) (Kd.R_lt (oR HO333.out BK345.out))) (Kd.R_lt (oR HO336.out BK345.out))) (Kd.R_lt (oR HO340.out BK345.out))) (Kd.R_lt (oR HO343.out BK345.out))) (below_size eB)); replace HO318 := aM (Kd.R_mono (Kd.R_told (Kd.R_told (Kd.R_old (oR HO318.out BK345.out) hb) (Kd.R_base ho0)) (Kd.R_base ho1)) (fun _ h_ => h_.1)); replace HO321 := aM (Kd.R_mono (Kd.R_told (Kd.R_told (Kd.R_old (oR HO321.out BK345.out) hb) (Kd.R_base ho0)) (Kd.R_base ho1)) (fun _ h_ => h_.1)); replace HO325 := aM (Kd.R_mono (Kd.R_told (Kd.R_told (Kd.R_old (oR HO325.out BK345.out) hb) (Kd.R_base ho0)) (Kd.R_base ho1)) (fun _ h_ => h_.1)); replace HO328 := aM (Kd.R_mono (Kd.R_told (Kd.R_told (Kd.R_old (oR HO328.out BK345.out) hb) (Kd.R_base ho0)) (Kd.R_base ho1)) (fun _ h_ => h_.1)); replace HO333 := aM (Kd.R_mono (Kd.R_told (Kd.R_told (Kd.R_old (oR HO333.out BK345.out) hb) (Kd.R_base ho0)) (Kd.R_base ho1)) (fun _ h_ => h_.1)); replace HO336 := aM (Kd.R_mono (Kd.R_told (Kd.R_told (Kd.R_old (oR HO336.out BK345.out) hb) (Kd.R_base ho0)) (Kd.R_base ho1)) (fun _ h_ => h_.1)); replace HO340 := aM (Kd.R_mono (Kd.R_told (Kd.R_told (Kd.R_old (oR HO340.out BK345.out) hb) (Kd.R_base ho0)) (Kd.R_base ho1)) (fun _ h_ => h_.1)); replace HO343 := aM (Kd.R_mono (Kd.R_told (Kd.R_told (Kd.R_old (oR HO343.out BK345.out) hb) (Kd.R_base ho0)) (Kd.R_base ho1)) (fun _ h_ => h_.1)); replace BK330 := aM (blk_below (g := gb330) (o := .cells #[.bool t322, .slice Ao20 t323.length co20, .slice Ao21 t326.length co21] 25 (0, 0)) (dQ1 BK330.out NB330_345.out) hb); replace BK345 := aM (blk_below (g := gb345) (o := .cells #[.bool t337, .slice Ao32 t338.length co32, .slice Ao33 t341.length co33] 25 (0, 0)) (dP BK345.out) hb); replace HB := hS HB.out hb; (try clear hb); (try clear ho0); (try clear ho1)) | ((with_reducible refine gate_dst (N := 5) rfl ?_); (try (refine gate_guard (by rfl) ?_; dsimp only)); refine bE 5 #[.bool false, .slice none 0 0, .slice none 0 0] 25 ?_; intro gb354 hg w36 hbox hb; replace HO318 := oB HO318.out hb; replace HO321 := oB HO321.out hb; replace HO325 := oB HO325.out hb; replace HO328 := oB HO328.out hb; replace HO333 := oB HO333.out hb; replace HO336 := oB HO336.out hb; replace HO340 := oB HO340.out hb; replace HO343 := oB HO343.out hb; replace HO349 := oB HO349.out hb; replace HO352 := oB HO352.out hb; have BK354 := aM (hbox); have GE354 : Aside0 (w.heap.size ≤ gb354) := gE hg; replace HB := hS HB.out hb; have NB330_354 := nL hg BK330.out; have NB354_330 := nG hg BK330.out; replace BK330 := bB BK330.out hb; have NB345_354 := nL hg BK345.out; have NB354_345 := nG hg BK345.out; replace BK345 := bB BK345.out hb; clear hb hbox hg; have hnb37 := NB354_330.out; have hnc37 := NB330_354.out; have hnb38 := NB354_345.out; have hnc38 := NB345_354.out; obtain ⟨hcz39_0, hcz39_1, hcz39_2⟩ := cz3 BK354.out; obtain ⟨hfz39_0, hfz39_1, hfz39_2⟩ := fz3 BK354.out; obtain ⟨Ao40, co40, rfl⟩ := Kd.R_slice HO349.out; obtain ⟨Ao41, co41, rfl⟩ := Kd.R_slice HO352.out) | ((with_reducible refine gate_dst (N := 43) rfl ?_); (try (refine gate_guard (by rfl) ?_; dsimp only)); refine Kd.R_lit (Kd.int .u64) _ 44 ?hg (N := 43) ?hd (xs := ([5] : List Int)) (inner := [.int .u64 5]) (ok := fun _ => True) (okp := fun _ => True) ?hr ?hp (fun _ hk => hk) trivial (Below.refl _ _) (Nat.le_refl _) (by simp) ?_; (case hd => rfl); (case hg => rfl); (case hr => first | (go_simp; done) | (go_simp; rfl)); (case hp => exact (Reps.one (show Kd.M (Kd.int .u64) _ _ _ 5 [.int .u64 5] from rfl) (Reps.none _ _))); intro v356 w42 ho43 hb hg_ hnew_; clear hg_ hnew_; (first | rw [← Ny355.out] at ho43 | (simp only [Int.reduceToNat] at ho43; rw [← Ny355.out] at ho43)); have HO357 := aM (Kd.R_lower (Kd.R_new' (Kd.R_new' (Kd.R_new' (Kd.R_new' (Kd.R_new' (Kd.R_new' (Kd.R_new' (Kd.R_new' (Kd.R_new' (Kd.R_new' ho43 (Kd.R_lt (oR HO318.out BK354.out))) (Kd.R_lt (oR HO321.out BK354.out))) (Kd.R_lt (oR HO325.out BK354.out))) (Kd.R_lt (oR HO328.out BK354.out))) (Kd.R_lt (oR HO333.out BK354.out))) (Kd.R_lt (oR HO336.out BK354.out))) (Kd.R_lt (oR HO340.out BK354.out))) (Kd.R_lt (oR HO343.out BK354.out))) (Kd.R_lt (oR HO349.out BK354.out))) (Kd.R_lt (oR HO352.out BK354.out))) (below_size eB)); replace HO318 := aM (Kd.R_elder' (oR HO318.out BK354.out) (Kd.R_base ho43) hb); replace HO321 := aM (Kd.R_elder' (oR HO321.out BK354.out) (Kd.R_base ho43) hb); replace HO325 := aM (Kd.R_elder' (oR HO325.out BK354.out) (Kd.R_base ho43) hb); replace HO328 := aM (Kd.R_elder' (oR HO328.out BK354.out) (Kd.R_base ho43) hb); replace HO333 := aM (Kd.R_elder' (oR HO333.out BK354.out) (Kd.R_base ho43) hb); replace HO336 := aM (Kd.R_elder' (oR HO336.out BK354.out) (Kd.R_base ho43) hb); replace HO340 := aM (Kd.R_elder' (oR HO340.out BK354.out) (Kd.R_base ho43) hb); replace HO343 := aM (Kd.R_elder' (oR HO343.out BK354.out) (Kd.R_base ho43) hb); replace HO349 := aM (Kd.R_elder' (oR HO349.out BK354.out) (Kd.R_base ho43) hb); replace HO352 := aM (Kd.R_elder' (oR HO352.out BK354.out) (Kd.R_base ho43) hb); replace BK330 := aM (blk_below (g := gb330) (o := .cells #[.bool t322, .slice Ao20 t323.length co20, .slice Ao21 t326.length co21] 25 (0, 0)) (dQ1 BK330.out NB330_354.out) hb); replace BK345 := aM (blk_below (g := gb345) (o := .cells #[.bool t337, .slice Ao32 t338.length co32, .slice Ao33 t341.length co33] 25 (0, 0)) (dQ1 BK345.out NB345_354.out) hb); replace BK354 := aM (blk_below (g := gb354) (o := .cells #[.bool false, .slice Ao40 t347.length co40, .slice Ao41 t350.length co41] 25 (0, 0)) (dP BK354.out) hb); replace HB := hS HB.out hb; clear hb ho43; obtain ⟨Ao44, co44, rfl⟩ := Kd.R_slice HO357.out) | (go_at_call 20; (with_reducible refine (plumblaw05_same.calls k _ _ t347 _ _ y355 true _ ?side1 (Kd.R_reads' HO349.out).2.1 ?side3 (Kd.R_reads' HO357.out).2.1 A8.out).mono ?_); (case side1 => exact dC (Kd.R_reads' HO349.out).2.2); (case side3 => exact dC (Kd.R_reads' HO357.out).2.2); rintro e w' ⟨rfl, ⟨nd, rfl⟩⟩; obtain ⟨hcz45_0, hcz45_1, hcz45_2⟩ := cz3 BK354.out; obtain ⟨hfz45_0, hfz45_1, hfz45_2⟩ := fz3 BK354.out) | ((with_reducible refine gate_dst (N := 49) rfl ?_); (try (refine gate_guard (by rfl) ?_; dsimp only)); refine Kd.R_lit (Kd.int .u64) _ 44 ?hg (N := 49) ?hd (xs := ([6] : List Int)) (inner := [.int .u64 6]) (ok := fun _ => True) (okp := fun _ => True) ?hr ?hp (fun _ hk => hk) trivial (Below.refl _ _) (Nat.le_refl _) (by simp) ?_; (case hd => rfl); (case hg => rfl); (case hr => first | (go_simp; done) | (go_simp; rfl)); (case hp => exact (Reps.one (show Kd.M (Kd.int .u64) _ _ _ 6 [.int .u64 6] from rfl) (Reps.none _ _))); intro v360 w46 ho47 hb hg_ hnew_; clear hg_ hnew_; (first | rw [← Ny359.out] at ho47 | (simp only [Int.reduceToNat] at ho47; rw [← Ny359.out] at ho47)); have HO361 := aM (Kd.R_lower (Kd.R_new' (Kd.R_new' (Kd.R_new' (Kd.R_new' (Kd.R_new' (Kd.R_new' (Kd.R_new' (Kd.R_new' (Kd.R_new' (Kd.R_new' (Kd.R_new' ho47 (Kd.R_lt (dR HO318.out))) (Kd.R_lt (dR HO321.out))) (Kd.R_lt (dR HO325.out))) (Kd.R_lt (dR HO328.out))) (Kd.R_lt (dR HO333.out))) (Kd.R_lt (dR HO336.out))) (Kd.R_lt (dR HO340.out))) (Kd.R_lt (dR HO343.out))) (Kd.R_lt (dR HO349.out))) (Kd.R_lt (dR HO352.out))) (Kd.R_lt (dR HO357.out))) (below_size eB)); replace HO318 := oE HO318.out ho47 hb; replace HO321 := oE HO321.out ho47 hb; replace HO325 := oE HO325.out ho47 hb; replace HO328 := oE HO328.out ho47 hb; replace HO333 := oE HO333.out ho47 hb; replace HO336 := oE HO336.out ho47 hb; replace HO340 := oE HO340.out ho47 hb; replace HO343 := oE HO343.out ho47 hb; replace HO349 := oE HO349.out ho47 hb; replace HO352 := oE HO352.out ho47 hb; replace HO357 := oE HO357.out ho47 hb; replace BK330 := bB BK330.out hb; replace BK345 := bB BK345.out hb; replace BK354 := bB BK354.out hb; replace HB := hS HB.out hb; clear hb ho47; obtain ⟨Ao48, co48, rfl⟩ := Kd.R_slice HO361.out) | (go_at_call 20; (with_reducible refine (plumblaw05_same.calls k _ _ t350 _ _ y359 t362 _ ?side1 (Kd.R_reads' HO352.out).2.1 ?side3 (Kd.R_reads' HO361.out).2.1 A10.out).mono ?_); (case side1 => exact dC (Kd.R_reads' HO352.out).2.2); (case side3 => exact dC (Kd.R_reads' HO361.out).2.2); rintro e w' ⟨rfl, ⟨nd, rfl⟩⟩))
 go_ret
 exact ⟨dE, eB⟩
def plumblaw05_add.f (k : Nat) (a0_0 : Bool) (l0_1 : List Int) (l0_2 : List Int) (a1_0 : Bool) (l1_1 : List Int) (l1_2 : List Int) : Option (Bool × List Int × List Int × Bool) := (rat_Add.f k a0_0 l0_1 l0_2 a1_0 l1_1 l1_2).bind fun bt400 => (if bt400.2.2.2 = 0 then ((rat_Check.f k bt400.1 bt400.2.1 bt400.2.2.1).bind fun t409 => (some (bt400.1, bt400.2.1, bt400.2.2.1, (t409 == 0)))) else (none))
def plumblaw05_add.T2 : Bool × List (List Nat × List Nat) := (true, [([], []), ([], []), ([1], [1]), ([2], [2]), ([3], [3]), ([4, 3, 3], [3, 4]), ([5, 3], [3, 5]), ([3, 6], [3, 6]), ([0, 5, 0], [0]), ([7, 8, 0, 1, 2, 3, 4, 5, 6, 7, 8], [7])])
def plumblaw05_add.B2 : List Nat := [0, 0, 2, 6, 14, 30, 62, 126, 63, 511]
theorem plumblaw05_add.tab2 : rtab .any (opsOf Try.f7 2) = plumblaw05_add.T2 := by kernel_rfl
theorem plumblaw05_add.bits2 : waitsOk plumblaw05_add.T2.2 plumblaw05_add.B2 = true := by kernel_rfl
set_option maxHeartbeats 8000000 in
set_option maxRecDepth 100000 in
theorem plumblaw05_add.calls (k : Nat) (a0_0 : Bool) (A0_1 : Option Addr) (c0_1 : Nat) (l0_1 : List Int) (A0_2 : Option Addr) (c0_2 : Nat) (l0_2 : List Int) (a1_0 : Bool) (A1_1 : Option Addr) (c1_1 : Nat) (l1_1 : List Int) (A1_2 : Option Addr) (c1_2 : Nat) (l1_2 : List Int) (r1 : Bool) (r2 : List Int) (r3 : List Int) (r4 : Bool) (w : World) (hr0_1 : Kd.C (Kd.int .u64) w A0_1 l0_1.length l0_1) (hc0_1 : l0_1.length ≤ c0_1) (hr0_2 : Kd.C (Kd.int .u64) w A0_2 l0_2.length l0_2) (hc0_2 : l0_2.length ≤ c0_2) (hr1_1 : Kd.C (Kd.int .u64) w A1_1 l1_1.length l1_1) (hc1_1 : l1_1.length ≤ c1_1) (hr1_2 : Kd.C (Kd.int .u64) w A1_2 l1_2.length l1_2) (hc1_2 : l1_2.length ≤ c1_2) (h : plumblaw05_add.f k a0_0 l0_1 l0_2 a1_0 l1_1 l1_2 = some (r1, r2, r3, r4)) :
  Calls Try.prog 7 #[.agg #[.bool a0_0, .slice A0_1 l0_1.length c0_1, .slice A0_2 l0_2.length c0_2], .agg #[.bool a1_0, .slice A1_1 l1_1.length c1_1, .slice A1_2 l1_2.length c1_2]] w fun e w' => ∃ v1_ v2_ : Value, e = .returned (.tuple #[.agg #[.bool r1, v1_, v2_], .bool r4]) ∧ Kd.R (Kd.int .u64) 44 w' w.heap.size (fun k_ => some k_ ≠ (v2_ : Value).ownBlock) v1_ r2 ∧ Kd.R (Kd.int .u64) 44 w' w.heap.size (fun k_ => some k_ ≠ (v1_ : Value).ownBlock) v2_ r3 ∧ Below w.heap.size w w' := by
 have hu25 := Try.underlying25
 have HR0_1 := aM hr0_1
 have HC0_1 := aM hc0_1
 clear hr0_1 hc0_1
 have HR0_2 := aM hr0_2
 have HC0_2 := aM hc0_2
 clear hr0_2 hc0_2
 have HR1_1 := aM hr1_1
 have HC1_1 := aM hc1_1
 clear hr1_1 hc1_1
 have HR1_2 := aM hr1_2
 have HC1_2 := aM hc1_2
 clear hr1_2 hc1_2
 have HB := aM (Below.refl w.heap.size w)
 have H := h
 clear h
 unfold plumblaw05_add.f at H
 replace H := oA H
 obtain ⟨⟨t400, t401, t404, t407⟩, A3, H⟩ := H
 (try dsimp only at H)
 replace H := nO H
 obtain ⟨c4, H⟩ := H
 obtain ⟨c4b0, c4b1⟩ := bT c4
 clear c4
 replace H := oA H
 obtain ⟨t409, A5, H⟩ := H
 (try dsimp only at H)
 simp only [Option.some.injEq, Prod.mk.injEq] at H
 obtain ⟨rfl, rfl, rfl, rfl⟩ := H
 go_enter Try.func7, Try.ntmps7
 try go_wp2_with (first | ((with_reducible refine gate_dst (N := 2) rfl ?_); refine bE 2 #[.bool a0_0, .slice A0_1 l0_1.length c0_1, .slice A0_2 l0_2.length c0_2] 25 ?_; intro gb397 hg w6 hbox hb; have BK397 := aM (hbox); have GE397 : Aside0 (w.heap.size ≤ gb397) := gE hg; replace HB := hS HB.out hb; clear hb hbox hg) | ((with_reducible refine gate_dst (N := 3) rfl ?_); refine bE 3 #[.bool a1_0, .slice A1_1 l1_1.length c1_1, .slice A1_2 l1_2.length c1_2] 25 ?_; intro gb398 hg w7 hbox hb; have BK398 := aM (hbox); have GE398 : Aside0 (w.heap.size ≤ gb398) := gE hg; replace HB := hS HB.out hb; have NB397_398 := nL hg BK397.out; have NB398_397 := nG hg BK397.out; replace BK397 := bB BK397.out hb; clear hb hbox hg) | ((with_reducible refine gate_dst (N := 4) rfl ?_); refine bE 4 #[.bool false, .slice none 0 0, .slice none 0 0] 25 ?_; intro gb399 hg w8 hbox hb; have BK399 := aM (hbox); have GE399 : Aside0 (w.heap.size ≤ gb399) := gE hg; replace HB := hS HB.out hb; have NB397_399 := nL hg BK397.out; have NB399_397 := nG hg BK397.out; replace BK397 := bB BK397.out hb; have NB398_399 := nL hg BK398.out; have NB399_398 := nG hg BK398.out; replace BK398 := bB BK398.out hb; clear hb hbox hg; have hnb9 := NB397_398.out; have hnc9 := NB398_397.out; have hnb10 := NB397_399.out; have hnc10 := NB399_397.out; obtain ⟨hcz11_0, hcz11_1, hcz11_2⟩ := cz3 BK397.out; obtain ⟨hfz11_0, hfz11_1, hfz11_2⟩ := fz3 BK397.out; have hnb12 := NB398_399.out; have hnc12 := NB399_398.out; obtain ⟨hcz13_0, hcz13_1, hcz13_2⟩ := cz3 BK398.out; obtain ⟨hfz13_0, hfz13_1, hfz13_2⟩ := fz3 BK398.out) | ((with_reducible refine gate_callee (f := 21) rfl ?_); refine gL (some 11) Try.func21 #[.agg #[.bool a0_0, .slice A0_1 l0_1.length c0_1, .slice A0_2 l0_2.length c0_2], .agg #[.bool a1_0, .slice A1_1 l1_1.length c1_1, .slice A1_2 l1_2.length c1_2]] ?_; (with_reducible refine (rat_Add.calls k a0_0 _ _ l0_1 _ _ l0_2 a1_0 _ _ l1_1 _ _ l1_2 t400 t401 t404 t407 _ ?side1 HC0_1.out ?side3 HC0_2.out ?side5 HC1_1.out ?side7 HC1_2.out A3.out).mono ?_); (case side1 => exact dC (Kd.C_below HR0_1.out HB.out)); (case side3 => exact dC (Kd.C_below HR0_2.out HB.out)); (case side5 => exact dC (Kd.C_below HR1_1.out HB.out)); (case side7 => exact dC (Kd.C_below HR1_2.out HB.out)); rintro e w14 ⟨v402, v405, rfl, ho0, ho1, hb⟩; refine ⟨_, rfl, ?_⟩; have HO403 := aM (Kd.R_lower ho0 (below_size eB)); have HO406 := aM (Kd.R_lower ho1 (below_size eB)); replace BK397 := bB BK397.out hb; replace BK398 := bB BK398.out hb; replace BK399 := bB BK399.out hb; replace HB := hS HB.out hb; (try clear hb); (try clear ho0); (try clear ho1)) | ((with_reducible refine gate_dst (N := 6) rfl ?_); refine bE 6 #[.bool false, .slice none 0 0, .slice none 0 0] 25 ?_; intro gb408 hg w15 hbox hb; replace HO403 := oB HO403.out hb; replace HO406 := oB HO406.out hb; have BK408 := aM (hbox); have GE408 : Aside0 (w.heap.size ≤ gb408) := gE hg; replace HB := hS HB.out hb; have NB397_408 := nL hg BK397.out; have NB408_397 := nG hg BK397.out; replace BK397 := bB BK397.out hb; have NB398_408 := nL hg BK398.out; have NB408_398 := nG hg BK398.out; replace BK398 := bB BK398.out hb; have NB399_408 := nL hg BK399.out; have NB408_399 := nG hg BK399.out; replace BK399 := bB BK399.out hb; clear hb hbox hg; have hnb16 := NB408_397.out; have hnc16 := NB397_408.out; have hnb17 := NB408_398.out; have hnc17 := NB398_408.out; have hnb18 := NB408_399.out; have hnc18 := NB399_408.out; obtain ⟨hcz19_0, hcz19_1, hcz19_2⟩ := cz3 BK408.out; obtain ⟨hfz19_0, hfz19_1, hfz19_2⟩ := fz3 BK408.out; obtain ⟨Ao20, co20, rfl⟩ := Kd.R_slice HO403.out; obtain ⟨Ao21, co21, rfl⟩ := Kd.R_slice HO406.out))
 have n0_ : Aside0 (Kd.R (Kd.int .u64) 44 (((w15.setCell ⟨gb408, 0, none⟩ (.bool t400)).setCell ⟨gb408, 1, none⟩ (.slice Ao20 t401.length co20)).setCell ⟨gb408, 2, none⟩ (.slice Ao21 t404.length co21)) w.heap.size (fun k_ => oN Ao21 t404 co21 k_) (.slice Ao20 t401.length co20) t401) := ⟨oR HO403.out BK408.out⟩
 have n1_ : Aside0 (Kd.R (Kd.int .u64) 44 (((w15.setCell ⟨gb408, 0, none⟩ (.bool t400)).setCell ⟨gb408, 1, none⟩ (.slice Ao20 t401.length co20)).setCell ⟨gb408, 2, none⟩ (.slice Ao21 t404.length co21)) w.heap.size (fun k_ => oN Ao20 t401 co20 k_) (.slice Ao21 t404.length co21) t404) := ⟨oR HO406.out BK408.out⟩
 have n2_ : Aside0 ((((w15.setCell ⟨gb408, 0, none⟩ (.bool t400)).setCell ⟨gb408, 1, none⟩ (.slice Ao20 t401.length co20)).setCell ⟨gb408, 2, none⟩ (.slice Ao21 t404.length co21)).heap[gb397]? = some (.cells #[.bool a0_0, .slice A0_1 l0_1.length c0_1, .slice A0_2 l0_2.length c0_2] 25 (0, 0))) := ⟨dQ1 BK397.out NB397_408.out⟩
 have n3_ : Aside0 ((((w15.setCell ⟨gb408, 0, none⟩ (.bool t400)).setCell ⟨gb408, 1, none⟩ (.slice Ao20 t401.length co20)).setCell ⟨gb408, 2, none⟩ (.slice Ao21 t404.length co21)).heap[gb398]? = some (.cells #[.bool a1_0, .slice A1_1 l1_1.length c1_1, .slice A1_2 l1_2.length c1_2] 25 (0, 0))) := ⟨dQ1 BK398.out NB398_408.out⟩
 have n4_ : Aside0 ((((w15.setCell ⟨gb408, 0, none⟩ (.bool t400)).setCell ⟨gb408, 1, none⟩ (.slice Ao20 t401.length co20)).setCell ⟨gb408, 2, none⟩ (.slice Ao21 t404.length co21)).heap[gb399]? = some (.cells #[.bool false, .slice none 0 0, .slice none 0 0] 25 (0, 0))) := ⟨dQ1 BK399.out NB399_408.out⟩
 have n5_ : Aside0 ((((w15.setCell ⟨gb408, 0, none⟩ (.bool t400)).setCell ⟨gb408, 1, none⟩ (.slice Ao20 t401.length co20)).setCell ⟨gb408, 2, none⟩ (.slice Ao21 t404.length co21)).heap[gb408]? = some (.cells #[.bool t400, .slice Ao20 t401.length co20, .slice Ao21 t404.length co21] 25 (0, 0))) := ⟨dP BK408.out⟩
 have n6_ : Aside0 (Below w.heap.size w (((w15.setCell ⟨gb408, 0, none⟩ (.bool t400)).setCell ⟨gb408, 1, none⟩ (.slice Ao20 t401.length co20)).setCell ⟨gb408, 2, none⟩ (.slice Ao21 t404.length co21))) := ⟨eB⟩
 (try clear HO403)
 (try clear HO406)
 (try clear BK397)
 (try clear BK398)
 (try clear BK399)
 (try clear BK408)
 (try clear HB)
 generalize (((w15.setCell ⟨gb408, 0, none⟩ (.bool t400)).setCell ⟨gb408, 1, none⟩ (.slice Ao20 t401.length co20)).setCell ⟨gb408, 2, none⟩ (.slice Ao21 t404.length co21)) = w22 at n0_ n1_ n2_ n3_ n4_ n5_ n6_ ⊢
 have HO403 := n0_
 have HO406 := n1_
 have BK397 := n2_
 have BK398 := n3_
 have BK399 := n4_
 have BK408 := n5_
 have HB := n6_
 clear n0_ n1_ n2_ n3_ n4_ n5_ n6_
 replace HO403 := aM (Kd.R_drew HO403.out)
 replace HO406 := aM (Kd.R_drew HO406.out)
 replace BK397 := aM (blk_drew BK397.out)
 replace BK398 := aM (blk_drew BK398.out)
 replace BK399 := aM (blk_drew BK399.out)
 replace BK408 := aM (blk_drew BK408.out)
 replace HB := aM (below_drew1 HB.out)
 refine start_ (n := 10) (S := fun w' => w'.cell? ⟨gb408, 0, none⟩ = some (.bool t400) ∧ w'.cell? ⟨gb408, 1, none⟩ = some (.slice Ao20 t401.length co20) ∧ w'.cell? ⟨gb408, 2, none⟩ = some (.slice Ao21 t404.length co21)) (ds := []) #[false, false, false, false, false, false, false, false, false, false] (by kernel_rfl) rfl rfl (cz3 BK408.out) (fun hHeld => ?_); refine with_tabW plumblaw05_add.tab2 plumblaw05_add.bits2 (fun HT_ HW_ => ?_)
 generalize w22.drew = w23 at HO403 HO406 BK397 BK398 BK399 BK408 HB hHeld ⊢
 refine pP 1 (some 15) ?_
 refine pP 2 (some 16) ?_
 refine pP 3 (some 17) ?_
 refine pH3 0 (some 14) hHeld ?_
 refine pH3 4 (some 18) hHeld ?_
 refine one_ (i := 5) (N := some 19) #[true, true, true, true, true, true, false, false, false, false] rfl rfl (one_of HT_.out (by kernel_rfl)) (by decide) (fun K hK => ?_)
 refine goes_ Try.func19 (by kernel_rfl) rfl #[.agg #[.bool t400, .slice Ao20 t401.length co20, .slice Ao21 t404.length co21]] (by rfl) rfl rfl dA ?_
 with_reducible refine (rat_Check.calls k t400 _ _ t401 _ _ t404 t409 _ ?side1 (Kd.R_reads' HO403.out).2.1 ?side3 (Kd.R_reads' HO406.out).2.1 A5.out).mono ?_
 (case side1 => exact dC (Kd.R_reads' HO403.out).2.2)
 (case side3 => exact dC (Kd.R_reads' HO406.out).2.2)
 rintro e w24 ⟨rfl, hb⟩
 refine ⟨_, rfl, ?_⟩
 replace HO403 := oB HO403.out hb
 replace HO406 := oB HO406.out hb
 replace BK397 := bB BK397.out hb
 replace BK398 := bB BK398.out hb
 replace BK399 := bB BK399.out hb
 replace BK408 := bB BK408.out hb
 replace HB := hS HB.out hb
 (try clear hb)
 (try clear hb2)
 (try clear hk)
 (try clear hi)
 refine hK.out _ _ (cz3 BK408.out) (fun hHeld => ?_)
 clear hK K
 refine norm_ (a' := ?_) ?_ ?_
 rotate_left
 ·show Act.put _ (some 19) _ = _
  simp only [Act.put, List.setIfInBounds_toArray, List.set_cons_zero, List.set_cons_succ, i64_w, i32_w]
  rfl
 refine pP 6 (some 20) ?_
 refine pP 7 (some 21) ?_
 refine one_ (i := 8) (N := none) #[true, true, true, true, true, true, true, true, true, false] rfl rfl (one_of HT_.out (by kernel_rfl)) (by decide) (fun K hK => ?_)
 have hs25 : w24.cell? ⟨gb399, 0, none⟩ = some (.bool false) := (blk_cell BK399.out 0).trans rfl
 have hfs25 := blk_frozen BK399.out 0
 have hns25_0 := NB397_399.out
 have hns25_1 := NB398_399.out
 have hns25_3 := NB408_399.out
 have hms25_0 := NB399_397.out
 have hms25_1 := NB399_398.out
 have hms25_3 := NB399_408.out
 have hs26 : w24.cell? ⟨gb399, 1, none⟩ = some (.slice none 0 0) := (blk_cell BK399.out 1).trans rfl
 have hfs26 := blk_frozen BK399.out 1
 have hns26_0 := NB397_399.out
 have hns26_1 := NB398_399.out
 have hns26_3 := NB408_399.out
 have hms26_0 := NB399_397.out
 have hms26_1 := NB399_398.out
 have hms26_3 := NB399_408.out
 have hs27 : w24.cell? ⟨gb399, 2, none⟩ = some (.slice none 0 0) := (blk_cell BK399.out 2).trans rfl
 have hfs27 := blk_frozen BK399.out 2
 have hns27_0 := NB397_399.out
 have hns27_1 := NB398_399.out
 have hns27_3 := NB408_399.out
 have hms27_0 := NB399_397.out
 have hms27_1 := NB399_398.out
 have hms27_3 := NB399_408.out
 refine skip_ (w1 := ?_) (by rfl) rfl ?_ ?_
 rotate_left
 ·go_simp
  rfl
 refine hK.out _ _ ⟨((cell_far (p := ⟨gb399, _, none⟩) NB408_399.out _).trans (((cell_far (p := ⟨gb399, _, none⟩) NB408_399.out _).trans (((cell_far (p := ⟨gb399, _, none⟩) NB408_399.out _).trans (hHeld.1)))))), ((cell_far (p := ⟨gb399, _, none⟩) NB408_399.out _).trans (((cell_far (p := ⟨gb399, _, none⟩) NB408_399.out _).trans (((cell_far (p := ⟨gb399, _, none⟩) NB408_399.out _).trans (hHeld.2.1)))))), ((cell_far (p := ⟨gb399, _, none⟩) NB408_399.out _).trans (((cell_far (p := ⟨gb399, _, none⟩) NB408_399.out _).trans (((cell_far (p := ⟨gb399, _, none⟩) NB408_399.out _).trans (hHeld.2.2))))))⟩ (fun hHeld => ?_)
 clear hK K
 refine pP 9 (some 5) ?_
 refine done_ (done_of HT_.out (by kernel_rfl)) ?_
 try go_wp2
 refine bodyPost_ret (results_ct rfl _ _ gb399 25 #[.bool t400, .slice Ao20 t401.length co20, .slice Ao21 t404.length co21] (0, 0) _ rfl (dP BK399.out) Try.underlying25 rfl (by kernel_rfl)) rfl ?_
 exact ⟨_, _, dE, oR HO403.out BK399.out, oR HO406.out BK399.out, eB⟩
def plumblaw05_one.f (k : Nat) (a0_0 : Bool) (l0_1 : List Int) (l0_2 : List Int) (a1_0 : Bool) (l1_1 : List Int) (l1_2 : List Int) : Option (Bool) := if (a0_0 == a1_0) = true then ((plumblaw05_same.f k l0_1 l1_1).bind fun t412 => (if t412 = true then ((plumblaw05_same.f k l0_2 l1_2).bind fun t413 => (some t413)) else (some false))) else (some false)
set_option maxHeartbeats 8000000 in
set_option maxRecDepth 100000 in
theorem plumblaw05_one.calls (k : Nat) (a0_0 : Bool) (A0_1 : Option Addr) (c0_1 : Nat) (l0_1 : List Int) (A0_2 : Option Addr) (c0_2 : Nat) (l0_2 : List Int) (a1_0 : Bool) (A1_1 : Option Addr) (c1_1 : Nat) (l1_1 : List Int) (A1_2 : Option Addr) (c1_2 : Nat) (l1_2 : List Int) (r : Bool) (w : World) (hr0_1 : Kd.C (Kd.int .u64) w A0_1 l0_1.length l0_1) (hc0_1 : l0_1.length ≤ c0_1) (hr0_2 : Kd.C (Kd.int .u64) w A0_2 l0_2.length l0_2) (hc0_2 : l0_2.length ≤ c0_2) (hr1_1 : Kd.C (Kd.int .u64) w A1_1 l1_1.length l1_1) (hc1_1 : l1_1.length ≤ c1_1) (hr1_2 : Kd.C (Kd.int .u64) w A1_2 l1_2.length l1_2) (hc1_2 : l1_2.length ≤ c1_2) (h : plumblaw05_one.f k a0_0 l0_1 l0_2 a1_0 l1_1 l1_2 = some r) :
  Calls Try.prog 8 #[.agg #[.bool a0_0, .slice A0_1 l0_1.length c0_1, .slice A0_2 l0_2.length c0_2], .agg #[.bool a1_0, .slice A1_1 l1_1.length c1_1, .slice A1_2 l1_2.length c1_2]] w fun e w' => e = .returned (.bool r) ∧ Below w.heap.size w w' := by
 have hu25 := Try.underlying25
 have HR0_1 := aM hr0_1
 have HC0_1 := aM hc0_1
 clear hr0_1 hc0_1
 have HR0_2 := aM hr0_2
 have HC0_2 := aM hc0_2
 clear hr0_2 hc0_2
 have HR1_1 := aM hr1_1
 have HC1_1 := aM hc1_1
 clear hr1_1 hc1_1
 have HR1_2 := aM hr1_2
 have HC1_2 := aM hc1_2
 clear hr1_2 hc1_2
 have HB := aM (Below.refl w.heap.size w)
 have H := h
 clear h
 unfold plumblaw05_one.f at H
 by_cases c3 : (a0_0 == a1_0) = true
 ·rw [if_pos c3] at H
  have c3b0 : (a0_0 == a1_0) = true := c3
  (try (have c3b1 : decide (a0_0 = a1_0) = true := by simpa using c3))
  (try (have c3b2 : (a0_0 == a1_0) = true := by simpa using c3))
  clear c3
  replace H := oA H
  obtain ⟨t412, A4, H⟩ := H
  (try dsimp only at H)
  by_cases c5 : t412 = true
  ·subst c5
   rw [if_pos rfl] at H
   (try dsimp only at H)
   replace H := oA H
   obtain ⟨t413, A6, H⟩ := H
   (try dsimp only at H)
   obtain rfl := Option.some.inj H
   go_enter Try.func8, Try.ntmps8
   go_wp2_with (first | ((with_reducible refine gate_dst (N := 2) rfl ?_); refine bE 2 #[.bool a0_0, .slice A0_1 l0_1.length c0_1, .slice A0_2 l0_2.length c0_2] 25 ?_; intro gb410 hg w7 hbox hb; have BK410 := aM (hbox); have GE410 : Aside0 (w.heap.size ≤ gb410) := gE hg; replace HB := hS HB.out hb; clear hb hbox hg) | ((with_reducible refine gate_dst (N := 3) rfl ?_); refine bE 3 #[.bool a1_0, .slice A1_1 l1_1.length c1_1, .slice A1_2 l1_2.length c1_2] 25 ?_; intro gb411 hg w8 hbox hb; have BK411 := aM (hbox); have GE411 : Aside0 (w.heap.size ≤ gb411) := gE hg; replace HB := hS HB.out hb; have NB410_411 := nL hg BK410.out; have NB411_410 := nG hg BK410.out; replace BK410 := bB BK410.out hb; clear hb hbox hg; have hnb9 := NB410_411.out; have hnc9 := NB411_410.out; obtain ⟨hcz10_0, hcz10_1, hcz10_2⟩ := cz3 BK410.out; obtain ⟨hfz10_0, hfz10_1, hfz10_2⟩ := fz3 BK410.out; obtain ⟨hcz11_0, hcz11_1, hcz11_2⟩ := cz3 BK411.out; obtain ⟨hfz11_0, hfz11_1, hfz11_2⟩ := fz3 BK411.out) | (go_at_call 20; (with_reducible refine (plumblaw05_same.calls k _ _ l0_1 _ _ l1_1 true _ ?side1 HC0_1.out ?side3 HC1_1.out A4.out).mono ?_); (case side1 => exact dC (Kd.C_below HR0_1.out HB.out)); (case side3 => exact dC (Kd.C_below HR1_1.out HB.out)); rintro e w' ⟨rfl, ⟨nd, rfl⟩⟩) | (go_at_call 20; (with_reducible refine (plumblaw05_same.calls k _ _ l0_2 _ _ l1_2 t413 _ ?side1 HC0_2.out ?side3 HC1_2.out A6.out).mono ?_); (case side1 => repeat (first | exact (Kd.C_below HR0_2.out eB) | (with_reducible refine Kd.C_alloc ?_ _) | (with_reducible refine Kd.C_drewN ?_ _) | (with_reducible refine Kd.C_drew ?_))); (case side3 => repeat (first | exact (Kd.C_below HR1_2.out eB) | (with_reducible refine Kd.C_alloc ?_ _) | (with_reducible refine Kd.C_drewN ?_ _) | (with_reducible refine Kd.C_drew ?_))); rintro e w' ⟨rfl, ⟨nd, rfl⟩⟩))
   go_ret
   exact ⟨dE, eB⟩
  ·replace c5 := Bool.eq_false_iff.mpr c5
   subst c5
   rw [if_neg (show ¬ (false = true) by decide)] at H
   (try dsimp only at H)
   obtain rfl := Option.some.inj H
   go_enter Try.func8, Try.ntmps8
   go_wp2_with (first | ((with_reducible refine gate_dst (N := 2) rfl ?_); refine bE 2 #[.bool a0_0, .slice A0_1 l0_1.length c0_1, .slice A0_2 l0_2.length c0_2] 25 ?_; intro gb410 hg w12 hbox hb; have BK410 := aM (hbox); have GE410 : Aside0 (w.heap.size ≤ gb410) := gE hg; replace HB := hS HB.out hb; clear hb hbox hg) | ((with_reducible refine gate_dst (N := 3) rfl ?_); refine bE 3 #[.bool a1_0, .slice A1_1 l1_1.length c1_1, .slice A1_2 l1_2.length c1_2] 25 ?_; intro gb411 hg w13 hbox hb; have BK411 := aM (hbox); have GE411 : Aside0 (w.heap.size ≤ gb411) := gE hg; replace HB := hS HB.out hb; have NB410_411 := nL hg BK410.out; have NB411_410 := nG hg BK410.out; replace BK410 := bB BK410.out hb; clear hb hbox hg; have hnb14 := NB410_411.out; have hnc14 := NB411_410.out; obtain ⟨hcz15_0, hcz15_1, hcz15_2⟩ := cz3 BK410.out; obtain ⟨hfz15_0, hfz15_1, hfz15_2⟩ := fz3 BK410.out; obtain ⟨hcz16_0, hcz16_1, hcz16_2⟩ := cz3 BK411.out; obtain ⟨hfz16_0, hfz16_1, hfz16_2⟩ := fz3 BK411.out) | (go_at_call 20; (with_reducible refine (plumblaw05_same.calls k _ _ l0_1 _ _ l1_1 false _ ?side1 HC0_1.out ?side3 HC1_1.out A4.out).mono ?_); (case side1 => exact dC (Kd.C_below HR0_1.out HB.out)); (case side3 => exact dC (Kd.C_below HR1_1.out HB.out)); rintro e w' ⟨rfl, ⟨nd, rfl⟩⟩))
   go_ret
   exact ⟨dE, eB⟩
 ·rw [if_neg c3] at H
  have c3b0 : (a0_0 == a1_0) = false := by simpa using c3
  (try (have c3b1 : decide (a0_0 = a1_0) = false := by simpa using c3))
  (try (have c3b2 : (a0_0 == a1_0) = false := by simpa using c3))
  (try (have c3b3 : ¬ (a0_0 = a1_0) := by simpa using c3))
  clear c3
  obtain rfl := Option.some.inj H
  go_enter Try.func8, Try.ntmps8
  go_wp2_with (first | ((with_reducible refine gate_dst (N := 2) rfl ?_); refine bE 2 #[.bool a0_0, .slice A0_1 l0_1.length c0_1, .slice A0_2 l0_2.length c0_2] 25 ?_; intro gb410 hg w17 hbox hb; have BK410 := aM (hbox); have GE410 : Aside0 (w.heap.size ≤ gb410) := gE hg; replace HB := hS HB.out hb; clear hb hbox hg) | ((with_reducible refine gate_dst (N := 3) rfl ?_); refine bE 3 #[.bool a1_0, .slice A1_1 l1_1.length c1_1, .slice A1_2 l1_2.length c1_2] 25 ?_; intro gb411 hg w18 hbox hb; have BK411 := aM (hbox); have GE411 : Aside0 (w.heap.size ≤ gb411) := gE hg; replace HB := hS HB.out hb; have NB410_411 := nL hg BK410.out; have NB411_410 := nG hg BK410.out; replace BK410 := bB BK410.out hb; clear hb hbox hg; have hnb19 := NB410_411.out; have hnc19 := NB411_410.out; obtain ⟨hcz20_0, hcz20_1, hcz20_2⟩ := cz3 BK410.out; obtain ⟨hfz20_0, hfz20_1, hfz20_2⟩ := fz3 BK410.out; obtain ⟨hcz21_0, hcz21_1, hcz21_2⟩ := cz3 BK411.out; obtain ⟨hfz21_0, hfz21_1, hfz21_2⟩ := fz3 BK411.out))
  go_ret
  exact ⟨dE, eB⟩
def rat_SignC1.f (a0 : Int) : Option (Bool) := some (a0 != 0)
set_option maxHeartbeats 8000000 in
set_option maxRecDepth 100000 in
theorem rat_SignC1.calls (a0 : Int) (r : Bool) (w : World) (h : rat_SignC1.f a0 = some r) :
  Calls Try.prog 26 #[.int .u64 a0] w fun e w' => e = .returned (.bool r) ∧ Drawn0 w w' := by
 have H := h
 clear h
 unfold rat_SignC1.f at H
 obtain rfl := Option.some.inj H
 go_enter Try.func26, Try.ntmps26
 go_wp2
 go_ret
 exact ⟨dF, dD⟩
def slices_IndexFunc_uint64_uint64.l0 : Nat → List Int → Int → Int → Option (Int)
 | 0, _, _, _ => none
 | k + 1, x0, x7, x8 => if x8 < x7 then (if 0 ≤ x8 then (if x8 < (x0.length : Int) then ((rat_SignC1.f (rd x0 x8)).bind fun t102 => (if t102 = true then (some x8) else (slices_IndexFunc_uint64_uint64.l0 k x0 x7 (wrap64 (x8 + 1))))) else (none)) else (none)) else (some (-1))
def slices_IndexFunc_uint64_uint64.f (k : Nat) (l0 : List Int) : Option (Int) := slices_IndexFunc_uint64_uint64.l0 k l0 (l0.length : Int) 0
set_option maxHeartbeats 8000000 in
set_option maxRecDepth 100000 in
theorem slices_IndexFunc_uint64_uint64.calls (k : Nat) (A0 : Option Addr) (c0 : Nat) (l0 : List Int) (r : Int) (w : World) (hr0 : Kd.C (Kd.int .u64) w A0 l0.length l0) (hc0 : l0.length ≤ c0) (h : slices_IndexFunc_uint64_uint64.f k l0 = some r) :
  Calls Try.prog 47 #[.slice A0 l0.length c0, .func (.func 26) #[] #[]] w fun e w' => e = .returned (.int .i64 r) ∧ Drawn0 w w' := by
 have HR0 := aM hr0
 have HC0 := aM hc0
 clear hr0 hc0
 have H := h
 clear h
 unfold slices_IndexFunc_uint64_uint64.f at H
 have H' := aM H
 clear H
 go_enter Try.func47, Try.ntmps47
 go_wp2
 go_loopg [8] k (fun kq v8 w' => ∃ (x8_1 : Int), v8 = .int .i64 x8_1 ∧ Aside0 (slices_IndexFunc_uint64_uint64.l0 kq l0 (l0.length : Int) x8_1 = some r) ∧ Aside0 (kq ≤ k) ∧ Drawn0 w w')
 case atStart => exact ⟨(0), dF, H', ⟨Nat.le_refl _⟩, dD⟩
 case round =>
  clear H'
  obtain ⟨x8_1, rfl, HA, HK1, ⟨m1, rfl⟩⟩ := hrel
  cases gk with
  | zero => exact absurd HA.out (by simp [slices_IndexFunc_uint64_uint64.l0])
  | succ k1 =>
   have H := HA.out
   clear HA
   simp only [slices_IndexFunc_uint64_uint64.l0] at H
   by_cases c2 : x8_1 < (l0.length : Int)
   ·rw [if_pos c2] at H
    have c2b0 := decide_eq_true c2
    clear c2
    replace H := nO H
    obtain ⟨c3, H⟩ := H
    have c3b0 : decide (0 ≤ x8_1) = true := decide_eq_true c3
    clear c3
    replace H := nO H
    obtain ⟨c4, H⟩ := H
    have c4b0 := decide_eq_true c4
    clear c4
    replace H := oA H
    obtain ⟨t102, A5, H⟩ := H
    (try dsimp only at H)
    by_cases c6 : t102 = true
    ·subst c6
     rw [if_pos rfl] at H
     (try dsimp only at H)
     obtain rfl := Option.some.inj H
     have p101 : 0 ≤ (x8_1 : Int) := of_decide_eq_true dS
     have q101 : x8_1 < (l0.length : Int) := of_decide_eq_true dS
     obtain ⟨ad101, e101, hx101_0⟩ := Kd.at_int HR0.out x8_1 p101 q101
     cases e101
     replace p101 := eq_true p101
     replace q101 := eq_true q101
     go_wp2_with (first | ((with_reducible refine gate_dst (N := 16) rfl ?_); refine goesF_ (some 16) rfl rfl Try.func26 (by kernel_rfl) rfl #[.int .u64 (rd l0 x8_1)] rfl (by first | rfl | (go_simp; done)) dA ?_; (with_reducible refine (rat_SignC1.calls (rd l0 x8_1) true _ A5.out).mono ?_); rintro e w' ⟨rfl, ⟨nd, rfl⟩⟩; refine ⟨_, rfl, ?_⟩))
     go_ret
     exact ⟨dF, dD⟩
    ·replace c6 := Bool.eq_false_iff.mpr c6
     subst c6
     rw [if_neg (show ¬ (false = true) by decide)] at H
     (try dsimp only at H)
     have H' := aM H
     clear H
     have p101 : 0 ≤ (x8_1 : Int) := of_decide_eq_true dS
     have q101 : x8_1 < (l0.length : Int) := of_decide_eq_true dS
     obtain ⟨ad101, e101, hx101_0⟩ := Kd.at_int HR0.out x8_1 p101 q101
     cases e101
     replace p101 := eq_true p101
     replace q101 := eq_true q101
     go_wp2_with (first | ((with_reducible refine gate_dst (N := 16) rfl ?_); refine goesF_ (some 16) rfl rfl Try.func26 (by kernel_rfl) rfl #[.int .u64 (rd l0 x8_1)] rfl (by first | rfl | (go_simp; done)) dA ?_; (with_reducible refine (rat_SignC1.calls (rd l0 x8_1) false _ A5.out).mono ?_); rintro e w' ⟨rfl, ⟨nd, rfl⟩⟩; refine ⟨_, rfl, ?_⟩))
     go_roundg k1
     case measure => have := HK1.out; omega
     case rel => exact ⟨(wrap64 (x8_1 + 1)), dF, H', ⟨by have := HK1.out; omega⟩, dD⟩
   ·rw [if_neg c2] at H
    have c2b0 := decide_eq_false c2
    clear c2
    obtain rfl := Option.some.inj H
    go_wp2
    go_ret
    exact ⟨dF, dD⟩
def slices_ContainsFunc_uint64_uint64.f (k : Nat) (l0 : List Int) : Option (Bool) := (slices_IndexFunc_uint64_uint64.f k l0).bind fun t103 => (some (decide (t103 ≥ 0)))
set_option maxHeartbeats 8000000 in
set_option maxRecDepth 100000 in
theorem slices_ContainsFunc_uint64_uint64.calls (k : Nat) (A0 : Option Addr) (c0 : Nat) (l0 : List Int) (r : Bool) (w : World) (hr0 : Kd.C (Kd.int .u64) w A0 l0.length l0) (hc0 : l0.length ≤ c0) (h : slices_ContainsFunc_uint64_uint64.f k l0 = some r) :
  Calls Try.prog 25 #[.slice A0 l0.length c0, .func (.func 26) #[] #[]] w fun e w' => e = .returned (.bool r) ∧ Drawn0 w w' := by
 have HR0 := aM hr0
 have HC0 := aM hc0
 clear hr0 hc0
 have H := h
 clear h
 unfold slices_ContainsFunc_uint64_uint64.f at H
 replace H := oA H
 obtain ⟨t103, A2, H⟩ := H
 (try dsimp only at H)
 obtain rfl := Option.some.inj H
 go_enter Try.func25, Try.ntmps25
 go_wp2_with (first | ((with_reducible refine gate_callee (f := 47) rfl ?_); refine gL (some 7) Try.func47 #[.slice A0 l0.length c0, .func (.func 26) #[] #[]] ?_; (with_reducible refine (slices_IndexFunc_uint64_uint64.calls k _ _ l0 t103 _ ?side1 HC0.out A2.out).mono ?_); (case side1 => exact dC HR0.out); rintro e w' ⟨rfl, ⟨nd, rfl⟩⟩; refine ⟨_, rfl, ?_⟩))
 go_ret
 exact ⟨dF, dD⟩
def rat_Sign.f (k : Nat) (a0_0 : Bool) (l0_1 : List Int) (l0_2 : List Int) : Option (Int) := (slices_ContainsFunc_uint64_uint64.f k l0_1).bind fun t105 => (if t105 = true then (if a0_0 = true then (some (-1)) else (some 1)) else (some 0))
set_option maxHeartbeats 8000000 in
set_option maxRecDepth 100000 in
theorem rat_Sign.calls (k : Nat) (a0_0 : Bool) (A0_1 : Option Addr) (c0_1 : Nat) (l0_1 : List Int) (A0_2 : Option Addr) (c0_2 : Nat) (l0_2 : List Int) (r : Int) (w : World) (hr0_1 : Kd.C (Kd.int .u64) w A0_1 l0_1.length l0_1) (hc0_1 : l0_1.length ≤ c0_1) (hr0_2 : Kd.C (Kd.int .u64) w A0_2 l0_2.length l0_2) (hc0_2 : l0_2.length ≤ c0_2) (h : rat_Sign.f k a0_0 l0_1 l0_2 = some r) :
  Calls Try.prog 12 #[.agg #[.bool a0_0, .slice A0_1 l0_1.length c0_1, .slice A0_2 l0_2.length c0_2]] w fun e w' => e = .returned (.int .i64 r) ∧ Below w.heap.size w w' := by
 have hu46 := Try.underlying25
 have HR0_1 := aM hr0_1
 have HC0_1 := aM hc0_1
 clear hr0_1 hc0_1
 have HR0_2 := aM hr0_2
 have HC0_2 := aM hc0_2
 clear hr0_2 hc0_2
 have HB := aM (Below.refl w.heap.size w)
 have H := h
 clear h
 unfold rat_Sign.f at H
 replace H := oA H
 obtain ⟨t105, A2, H⟩ := H
 (try dsimp only at H)
 by_cases c3 : t105 = true
 ·subst c3
  rw [if_pos rfl] at H
  (try dsimp only at H)
  by_cases c4 : a0_0 = true
  ·subst c4
   rw [if_pos rfl] at H
   (try dsimp only at H)
   obtain rfl := Option.some.inj H
   go_enter Try.func12, Try.ntmps12
   go_wp2_with (first | ((with_reducible refine gate_dst (N := 1) rfl ?_); refine bE 1 #[.bool true, .slice A0_1 l0_1.length c0_1, .slice A0_2 l0_2.length c0_2] 25 ?_; intro gb104 hg w5 hbox hb; have BK104 := aM (hbox); have GE104 : Aside0 (w.heap.size ≤ gb104) := gE hg; replace HB := hS HB.out hb; clear hb hbox hg; obtain ⟨hcz6_0, hcz6_1, hcz6_2⟩ := cz3 BK104.out; obtain ⟨hfz6_0, hfz6_1, hfz6_2⟩ := fz3 BK104.out) | ((with_reducible refine gate_callee (f := 25) rfl ?_); refine gL (some 5) Try.func25 #[.slice A0_1 l0_1.length c0_1, .func (.func 26) #[] #[]] ?_; (with_reducible refine (slices_ContainsFunc_uint64_uint64.calls k _ _ l0_1 true _ ?side1 HC0_1.out A2.out).mono ?_); (case side1 => exact dC (Kd.C_below HR0_1.out HB.out)); rintro e w' ⟨rfl, ⟨nd, rfl⟩⟩; refine ⟨_, rfl, ?_⟩))
   go_ret
   exact ⟨dE, dG GE104.out⟩
  ·replace c4 := Bool.eq_false_iff.mpr c4
   subst c4
   rw [if_neg (show ¬ (false = true) by decide)] at H
   (try dsimp only at H)
   obtain rfl := Option.some.inj H
   go_enter Try.func12, Try.ntmps12
   go_wp2_with (first | ((with_reducible refine gate_dst (N := 1) rfl ?_); refine bE 1 #[.bool false, .slice A0_1 l0_1.length c0_1, .slice A0_2 l0_2.length c0_2] 25 ?_; intro gb104 hg w7 hbox hb; have BK104 := aM (hbox); have GE104 : Aside0 (w.heap.size ≤ gb104) := gE hg; replace HB := hS HB.out hb; clear hb hbox hg; obtain ⟨hcz8_0, hcz8_1, hcz8_2⟩ := cz3 BK104.out; obtain ⟨hfz8_0, hfz8_1, hfz8_2⟩ := fz3 BK104.out) | ((with_reducible refine gate_callee (f := 25) rfl ?_); refine gL (some 5) Try.func25 #[.slice A0_1 l0_1.length c0_1, .func (.func 26) #[] #[]] ?_; (with_reducible refine (slices_ContainsFunc_uint64_uint64.calls k _ _ l0_1 true _ ?side1 HC0_1.out A2.out).mono ?_); (case side1 => exact dC (Kd.C_below HR0_1.out HB.out)); rintro e w' ⟨rfl, ⟨nd, rfl⟩⟩; refine ⟨_, rfl, ?_⟩))
   go_ret
   exact ⟨dE, dG GE104.out⟩
 ·replace c3 := Bool.eq_false_iff.mpr c3
  subst c3
  rw [if_neg (show ¬ (false = true) by decide)] at H
  (try dsimp only at H)
  obtain rfl := Option.some.inj H
  go_enter Try.func12, Try.ntmps12
  go_wp2_with (first | ((with_reducible refine gate_dst (N := 1) rfl ?_); refine bE 1 #[.bool a0_0, .slice A0_1 l0_1.length c0_1, .slice A0_2 l0_2.length c0_2] 25 ?_; intro gb104 hg w9 hbox hb; have BK104 := aM (hbox); have GE104 : Aside0 (w.heap.size ≤ gb104) := gE hg; replace HB := hS HB.out hb; clear hb hbox hg; obtain ⟨hcz10_0, hcz10_1, hcz10_2⟩ := cz3 BK104.out; obtain ⟨hfz10_0, hfz10_1, hfz10_2⟩ := fz3 BK104.out) | ((with_reducible refine gate_callee (f := 25) rfl ?_); refine gL (some 5) Try.func25 #[.slice A0_1 l0_1.length c0_1, .func (.func 26) #[] #[]] ?_; (with_reducible refine (slices_ContainsFunc_uint64_uint64.calls k _ _ l0_1 false _ ?side1 HC0_1.out A2.out).mono ?_); (case side1 => exact dC (Kd.C_below HR0_1.out HB.out)); rintro e w' ⟨rfl, ⟨nd, rfl⟩⟩; refine ⟨_, rfl, ?_⟩))
  go_ret
  exact ⟨dE, dG GE104.out⟩
end Go.Proofs.Ytiogfeeaepkkmaa.PA
