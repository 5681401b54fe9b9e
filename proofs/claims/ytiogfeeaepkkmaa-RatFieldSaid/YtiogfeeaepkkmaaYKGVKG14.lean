/- A part of the proof (14). -/
import Derived.Test.YtiogfeeaepkkmaaYKGVKG2
import Derived.Test.YtiogfeeaepkkmaaYKGVKG6
import Derived.Test.YtiogfeeaepkkmaaYKGVKG7
namespace Go.Proofs.Ytiogfeeaepkkmaa.PA
open Go.RowKit Go.Proofs.YtiogfeeaepkkmaaW.PrintWords Go.Proofs.YtiogfeeaepkkmaaW.PrintLast Go.Proofs.YtiogfeeaepkkmaaW.PrintMore
attribute [local go_sem] max2_int min2_int max_two min_two max_three min_three max_four min_four
set_option linter.unusedVariables false
set_option linter.unusedSimpArgs false
def rat_DivC1.f (k : Nat) (a0_0 : Bool) (l0_1 : List Int) (l0_2 : List Int) (a1_0 : Bool) (l1_1 : List Int) (l1_2 : List Int) : Option (Bool × List Int × List Int) := (rat_mul.f k l0_1 l1_2).bind fun t246 => ((rat_mul.f k l0_2 l1_1).bind fun t249 => ((rat_lowest.f k (a0_0 != a1_0) t246 t249).bind fun bt252 => (some (bt252.1, bt252.2.1, bt252.2.2))))
def rat_DivC1.T1 : Bool × List (List Nat × List Nat) := (true, [([], []), ([0], [0]), ([], []), ([2], [2]), ([1, 3], [1, 3]), ([], []), ([5], [5]), ([], []), ([7], [7]), ([6, 8], [6, 8]), ([], []), ([10], [10]), ([], []), ([12], [12]), ([11, 13, 9], [11, 13]), ([4, 9, 14, 14], [4, 9, 14]), ([15, 15, 0, 1, 2, 3, 4, 5, 6, 7, 8, 9, 10, 11, 12, 13, 14, 15], [15])])
def rat_DivC1.B1 : List Nat := [0, 1, 0, 4, 15, 0, 32, 0, 128, 480, 0, 1024, 0, 4096, 16352, 32767, 65535]
theorem rat_DivC1.tab1 : rtab .any (opsOf Try.f28 1) = rat_DivC1.T1 := by kernel_rfl
theorem rat_DivC1.bits1 : waitsOk rat_DivC1.T1.2 rat_DivC1.B1 = true := by kernel_rfl
set_option maxHeartbeats 8000000 in
set_option maxRecDepth 100000 in
theorem rat_DivC1.calls (k : Nat) (a0_0 : Bool) (A0_1 : Option Addr) (c0_1 : Nat) (l0_1 : List Int) (A0_2 : Option Addr) (c0_2 : Nat) (l0_2 : List Int) (a1_0 : Bool) (A1_1 : Option Addr) (c1_1 : Nat) (l1_1 : List Int) (A1_2 : Option Addr) (c1_2 : Nat) (l1_2 : List Int) (r1 : Bool) (r2 : List Int) (r3 : List Int) (w : World) (gb243 gb244 : Nat) (bka_ : w.heap[gb243]? = some (.cells #[.bool a0_0, .slice A0_1 l0_1.length c0_1, .slice A0_2 l0_2.length c0_2] 25 (0, 0))) (bkb_ : w.heap[gb244]? = some (.cells #[.bool a1_0, .slice A1_1 l1_1.length c1_1, .slice A1_2 l1_2.length c1_2] 25 (0, 0))) (nab_ : gb243 ≠ gb244) (hr0_1 : Kd.C (Kd.int .u64) w A0_1 l0_1.length l0_1) (hc0_1 : l0_1.length ≤ c0_1) (hr0_2 : Kd.C (Kd.int .u64) w A0_2 l0_2.length l0_2) (hc0_2 : l0_2.length ≤ c0_2) (hr1_1 : Kd.C (Kd.int .u64) w A1_1 l1_1.length l1_1) (hc1_1 : l1_1.length ≤ c1_1) (hr1_2 : Kd.C (Kd.int .u64) w A1_2 l1_2.length l1_2) (hc1_2 : l1_2.length ≤ c1_2) (h : rat_DivC1.f k a0_0 l0_1 l0_2 a1_0 l1_1 l1_2 = some (r1, r2, r3)) :
  Calls Try.prog 28 #[.pointer (some ⟨gb243, 0, none⟩), .pointer (some ⟨gb244, 0, none⟩)] w fun e w' => ∃ v1_ v2_ : Value, e = .returned (.agg #[.bool r1, v1_, v2_]) ∧ Kd.R (Kd.int .u64) 44 w' w.heap.size (fun k_ => some k_ ≠ (v2_ : Value).ownBlock) v1_ r2 ∧ Kd.R (Kd.int .u64) 44 w' w.heap.size (fun k_ => some k_ ≠ (v1_ : Value).ownBlock) v2_ r3 ∧ Below w.heap.size w w' := by
 have hu46 := Try.underlying25
 have HR0_1 := aM hr0_1
 have HC0_1 := aM hc0_1
 clear hr0_1 hc0_1
 have HR0_2 := aM hr0_2
 have HC0_2 := aM hc0_2
 clear hr0_2 hc0_2
 have HR1_1 := aM hr1_1
 have HC1_1 := aM hc1_1
 clear hr1_1 hc1_1
 have HR1_2 := aM hr1_2
 have HC1_2 := aM hc1_2
 clear hr1_2 hc1_2
 have HB := aM (Below.refl w.heap.size w)
 have BK243 := aM bka_
 have BK244 := aM bkb_
 have NB243_244 := aM nab_
 have NB244_243 := aM nab_.symm
 clear bka_ bkb_ nab_
 have H := h
 clear h
 unfold rat_DivC1.f at H
 replace H := oA H
 obtain ⟨t246, A3, H⟩ := H
 (try dsimp only at H)
 replace H := oA H
 obtain ⟨t249, A4, H⟩ := H
 (try dsimp only at H)
 replace H := oA H
 obtain ⟨⟨t252, t253, t256⟩, A5, H⟩ := H
 (try dsimp only at H)
 simp only [Option.some.injEq, Prod.mk.injEq] at H
 obtain ⟨rfl, rfl, rfl⟩ := H
 go_enter Try.func28, Try.ntmps28
 try go_wp2_with (first | ((with_reducible refine gate_dst (N := 2) rfl ?_); refine bE 2 #[.bool false, .slice none 0 0, .slice none 0 0] 25 ?_; intro gb245 hg w8 hbox hb; have BK245 := aM (hbox); have GE245 : Aside0 (w.heap.size ≤ gb245) := gE hg; replace HB := hS HB.out hb; have NB243_245 := nL hg BK243.out; have NB245_243 := nG hg BK243.out; replace BK243 := bB BK243.out hb; have NB244_245 := nL hg BK244.out; have NB245_244 := nG hg BK244.out; replace BK244 := bB BK244.out hb; clear hb hbox hg))
 replace BK243 := aM (blk_drew BK243.out)
 replace BK244 := aM (blk_drew BK244.out)
 replace BK245 := aM (blk_drew BK245.out)
 replace HB := aM (below_drew1 HB.out)
 refine start_ (n := 17) (S := fun w' => w'.cell? ⟨gb243, 0, none⟩ = some (.bool a0_0) ∧ w'.cell? ⟨gb243, 1, none⟩ = some (.slice A0_1 l0_1.length c0_1) ∧ w'.cell? ⟨gb243, 2, none⟩ = some (.slice A0_2 l0_2.length c0_2) ∧ w'.cell? ⟨gb244, 0, none⟩ = some (.bool a1_0) ∧ w'.cell? ⟨gb244, 1, none⟩ = some (.slice A1_1 l1_1.length c1_1) ∧ w'.cell? ⟨gb244, 2, none⟩ = some (.slice A1_2 l1_2.length c1_2)) (ds := []) #[false, false, false, false, false, false, false, false, false, false, false, false, false, false, false, false, false] (by kernel_rfl) rfl rfl ⟨(blk_cell BK243.out 0).trans rfl, (blk_cell BK243.out 1).trans rfl, (blk_cell BK243.out 2).trans rfl, (blk_cell BK244.out 0).trans rfl, (blk_cell BK244.out 1).trans rfl, (blk_cell BK244.out 2).trans rfl⟩ (fun hHeld => ?_); refine with_tabW rat_DivC1.tab1 rat_DivC1.bits1 (fun HT_ HW_ => ?_)
 generalize w8.drew = w9 at BK243 BK244 BK245 HB hHeld ⊢
 refine pP 0 (some 3) ?_
 refine pP 2 (some 5) ?_
 refine pP 5 (some 8) ?_
 refine pP 7 (some 10) ?_
 refine pP 10 (some 13) ?_
 refine pP 12 (some 15) ?_
 refine pH6 1 (some 4) hHeld ?_
 refine pH6 3 (some 6) hHeld ?_
 refine pP 4 (some 7) ?_
 refine pH6 6 (some 9) hHeld ?_
 refine pH6 8 (some 11) hHeld ?_
 refine pH6 11 (some 14) hHeld ?_
 refine pH6 13 (some 16) hHeld ?_
 refine one_ (i := 9) (N := some 12) #[true, true, true, true, true, true, true, true, true, true, true, true, true, true, false, false, false] rfl rfl (one_of HT_.out (by kernel_rfl)) (by decide) (fun K hK => ?_)
 refine goes_ Try.func30 (by kernel_rfl) rfl #[.slice A0_1 l0_1.length c0_1, .slice A1_2 l1_2.length c1_2] (by rfl) rfl rfl dA ?_
 with_reducible refine (rat_mul.calls k _ _ l0_1 _ _ l1_2 t246 _ ?side1 HC0_1.out ?side3 HC1_2.out A3.out).mono ?_
 (case side1 => exact dC (Kd.C_below HR0_1.out HB.out))
 (case side3 => exact dC (Kd.C_below HR1_2.out HB.out))
 rintro e w10 ⟨v247, rfl, ho0, hb⟩
 refine ⟨_, rfl, ?_⟩
 have HO248 := aM (Kd.R_lower ho0 (below_size eB))
 replace BK243 := bB BK243.out hb
 replace BK244 := bB BK244.out hb
 replace BK245 := bB BK245.out hb
 replace HB := hS HB.out hb
 (try clear hb)
 (try clear hb2)
 (try clear hk)
 (try clear hi)
 (try clear ho0)
 refine hK.out _ _ ⟨(blk_cell BK243.out 0).trans rfl, (blk_cell BK243.out 1).trans rfl, (blk_cell BK243.out 2).trans rfl, (blk_cell BK244.out 0).trans rfl, (blk_cell BK244.out 1).trans rfl, (blk_cell BK244.out 2).trans rfl⟩ (fun hHeld => ?_)
 clear hK K
 refine norm_ (a' := ?_) ?_ ?_
 rotate_left
 ·show Act.put _ (some 12) _ = _
  simp only [Act.put, List.setIfInBounds_toArray, List.set_cons_zero, List.set_cons_succ, i64_w, i32_w]
  rfl
 refine one_ (i := 14) (N := some 17) #[true, true, true, true, true, true, true, true, true, true, true, true, true, true, true, false, false] rfl rfl (one_of HT_.out (by kernel_rfl)) (by decide) (fun K hK => ?_)
 refine goes_ Try.func30 (by kernel_rfl) rfl #[.slice A0_2 l0_2.length c0_2, .slice A1_1 l1_1.length c1_1] (by rfl) rfl rfl dA ?_
 with_reducible refine (rat_mul.calls k _ _ l0_2 _ _ l1_1 t249 _ ?side1 HC0_2.out ?side3 HC1_1.out A4.out).mono ?_
 (case side1 => exact dC (Kd.C_below HR0_2.out HB.out))
 (case side3 => exact dC (Kd.C_below HR1_1.out HB.out))
 rintro e w11 ⟨v250, rfl, ho0, hb⟩
 refine ⟨_, rfl, ?_⟩
 have HO251 := aM (Kd.R_lower (nW ho0 HO248.out) (below_size eB))
 replace HO248 := oE HO248.out ho0 hb
 replace BK243 := bB BK243.out hb
 replace BK244 := bB BK244.out hb
 replace BK245 := bB BK245.out hb
 replace HB := hS HB.out hb
 (try clear hb)
 (try clear hb2)
 (try clear hk)
 (try clear hi)
 (try clear ho0)
 obtain ⟨Ao12, co12, eo12⟩ := Kd.R_slice HO248.out
 (first | subst eo12 | (injection eo12 with f1_ f2_ f3_; have f4_ := f1_.symm; have f5_ := f3_.symm; clear f1_ f2_ f3_; subst f4_; subst f5_))
 obtain ⟨Ao13, co13, eo13⟩ := Kd.R_slice HO251.out
 (first | subst eo13 | (injection eo13 with f1_ f2_ f3_; have f4_ := f1_.symm; have f5_ := f3_.symm; clear f1_ f2_ f3_; subst f4_; subst f5_))
 refine hK.out _ _ ⟨(blk_cell BK243.out 0).trans rfl, (blk_cell BK243.out 1).trans rfl, (blk_cell BK243.out 2).trans rfl, (blk_cell BK244.out 0).trans rfl, (blk_cell BK244.out 1).trans rfl, (blk_cell BK244.out 2).trans rfl⟩ (fun hHeld => ?_)
 clear hK K
 refine norm_ (a' := ?_) ?_ ?_
 rotate_left
 ·show Act.put _ (some 17) _ = _
  simp only [Act.put, List.setIfInBounds_toArray, List.set_cons_zero, List.set_cons_succ, i64_w, i32_w]
  rfl
 refine one_ (i := 15) (N := some 18) #[true, true, true, true, true, true, true, true, true, true, true, true, true, true, true, true, false] rfl rfl (one_of HT_.out (by kernel_rfl)) (by decide) (fun K hK => ?_)
 refine goes_ Try.func29 (by kernel_rfl) rfl #[.bool (a0_0 != a1_0), .slice Ao12 t246.length co12, .slice Ao13 t249.length co13] (by rfl) rfl rfl dA ?_
 with_reducible refine (rat_lowest.calls k (a0_0 != a1_0) _ _ t246 _ _ t249 t252 t253 t256 _ ?side1 (Kd.R_reads' HO248.out).2.1 ?side3 (Kd.R_reads' HO251.out).2.1 A5.out).mono ?_
 (case side1 => exact dC (Kd.R_reads' HO248.out).2.2)
 (case side3 => exact dC (Kd.R_reads' HO251.out).2.2)
 rintro e w14 ⟨v254, v257, rfl, ho0, ho1, hb⟩
 refine ⟨_, rfl, ?_⟩
 have HO255 := aM (Kd.R_lower (nW (nW ho0 HO248.out) HO251.out) (below_size eB))
 have HO258 := aM (Kd.R_lower (nW (nW ho1 HO248.out) HO251.out) (below_size eB))
 replace HO248 := tT HO248.out hb ho0 ho1
 replace HO251 := tT HO251.out hb ho0 ho1
 replace BK243 := bB BK243.out hb
 replace BK244 := bB BK244.out hb
 replace BK245 := bB BK245.out hb
 replace HB := hS HB.out hb
 (try clear hb)
 (try clear hb2)
 (try clear hk)
 (try clear hi)
 (try clear ho0)
 (try clear ho1)
 obtain ⟨Ao16, co16, eo16⟩ := Kd.R_slice HO255.out
 (first | subst eo16 | (injection eo16 with f1_ f2_ f3_; have f4_ := f1_.symm; have f5_ := f3_.symm; clear f1_ f2_ f3_; subst f4_; subst f5_))
 obtain ⟨Ao18, co18, eo18⟩ := Kd.R_slice HO258.out
 (first | subst eo18 | (injection eo18 with f1_ f2_ f3_; have f4_ := f1_.symm; have f5_ := f3_.symm; clear f1_ f2_ f3_; subst f4_; subst f5_))
 refine hK.out _ _ ⟨(blk_cell BK243.out 0).trans rfl, (blk_cell BK243.out 1).trans rfl, (blk_cell BK243.out 2).trans rfl, (blk_cell BK244.out 0).trans rfl, (blk_cell BK244.out 1).trans rfl, (blk_cell BK244.out 2).trans rfl⟩ (fun hHeld => ?_)
 clear hK K
 refine norm_ (a' := ?_) ?_ ?_
 rotate_left
 ·show Act.put _ (some 18) _ = _
  simp only [Act.put, List.setIfInBounds_toArray, List.set_cons_zero, List.set_cons_succ, i64_w, i32_w]
  rfl
 refine one_ (i := 16) (N := none) #[true, true, true, true, true, true, true, true, true, true, true, true, true, true, true, true, true] rfl rfl (one_of HT_.out (by kernel_rfl)) (by decide) (fun K hK => ?_)
 have hs15 : w14.cell? ⟨gb245, 0, none⟩ = some (.bool false) := (blk_cell BK245.out 0).trans rfl
 have hfs15 := blk_frozen BK245.out 0
 have hns15_0 := NB243_245.out
 have hns15_1 := NB244_245.out
 have hms15_0 := NB245_243.out
 have hms15_1 := NB245_244.out
 have hs17 : w14.cell? ⟨gb245, 1, none⟩ = some (.slice none 0 0) := (blk_cell BK245.out 1).trans rfl
 have hfs17 := blk_frozen BK245.out 1
 have hns17_0 := NB243_245.out
 have hns17_1 := NB244_245.out
 have hms17_0 := NB245_243.out
 have hms17_1 := NB245_244.out
 have hs19 : w14.cell? ⟨gb245, 2, none⟩ = some (.slice none 0 0) := (blk_cell BK245.out 2).trans rfl
 have hfs19 := blk_frozen BK245.out 2
 have hns19_0 := NB243_245.out
 have hns19_1 := NB244_245.out
 have hms19_0 := NB245_243.out
 have hms19_1 := NB245_244.out
 refine skip_ (w1 := ?_) (by rfl) rfl ?_ ?_
 rotate_left
 ·go_simp
  rfl
 refine hK.out _ _ ⟨((cell_far (p := ⟨gb245, _, none⟩) NB243_245.out _).trans (((cell_far (p := ⟨gb245, _, none⟩) NB243_245.out _).trans (((cell_far (p := ⟨gb245, _, none⟩) NB243_245.out _).trans (hHeld.1)))))), ((cell_far (p := ⟨gb245, _, none⟩) NB243_245.out _).trans (((cell_far (p := ⟨gb245, _, none⟩) NB243_245.out _).trans (((cell_far (p := ⟨gb245, _, none⟩) NB243_245.out _).trans (hHeld.2.1)))))), ((cell_far (p := ⟨gb245, _, none⟩) NB243_245.out _).trans (((cell_far (p := ⟨gb245, _, none⟩) NB243_245.out _).trans (((cell_far (p := ⟨gb245, _, none⟩) NB243_245.out _).trans (hHeld.2.2.1)))))), ((cell_far (p := ⟨gb245, _, none⟩) NB244_245.out _).trans (((cell_far (p := ⟨gb245, _, none⟩) NB244_245.out _).trans (((cell_far (p := ⟨gb245, _, none⟩) NB244_245.out _).trans (hHeld.2.2.2.1)))))), ((cell_far (p := ⟨gb245, _, none⟩) NB244_245.out _).trans (((cell_far (p := ⟨gb245, _, none⟩) NB244_245.out _).trans (((cell_far (p := ⟨gb245, _, none⟩) NB244_245.out _).trans (hHeld.2.2.2.2.1)))))), ((cell_far (p := ⟨gb245, _, none⟩) NB244_245.out _).trans (((cell_far (p := ⟨gb245, _, none⟩) NB244_245.out _).trans (((cell_far (p := ⟨gb245, _, none⟩) NB244_245.out _).trans (hHeld.2.2.2.2.2))))))⟩ (fun hHeld => ?_)
 clear hK K
 refine done_ (done_of HT_.out (by kernel_rfl)) ?_
 try go_wp2
 refine bodyPost_ret (results_cell_row rfl _ _ gb245 25 #[.bool t252, .slice Ao16 t253.length co16, .slice Ao18 t256.length co18] (0, 0) _ rfl (dP BK245.out) Try.underlying25 rfl (by kernel_rfl)) rfl ?_
 exact ⟨_, _, dE, by (with_reducible repeat (first | apply Kd.R_alloc | apply Kd.R_drewN | apply Kd.R_drew)); exact Kd.R_mono (Kd.R_far (p := ⟨gb245, 2, none⟩) (Kd.R_far (p := ⟨gb245, 1, none⟩) (Kd.R_far (p := ⟨gb245, 0, none⟩) (Kd.R_types HO255.out BK245.out (by decide)) (fun _ hk => hk.2) (.bool t252)) (fun _ hk => hk.2) (.slice Ao16 t253.length co16)) (fun _ hk => hk.2) (.slice Ao18 t256.length co18)) (fun _ hk => hk.1.1.1), by (with_reducible repeat (first | apply Kd.R_alloc | apply Kd.R_drewN | apply Kd.R_drew)); exact Kd.R_mono (Kd.R_far (p := ⟨gb245, 2, none⟩) (Kd.R_far (p := ⟨gb245, 1, none⟩) (Kd.R_far (p := ⟨gb245, 0, none⟩) (Kd.R_types HO258.out BK245.out (by decide)) (fun _ hk => hk.2) (.bool t252)) (fun _ hk => hk.2) (.slice Ao16 t253.length co16)) (fun _ hk => hk.2) (.slice Ao18 t256.length co18)) (fun _ hk => hk.1.1.1), dG GE245.out⟩
def rat_reckonedDiv.f (k : Nat) (a0_0 : Bool) (l0_1 l0_2 : List Int) (a1_0 : Bool) (l1_1 l1_2 : List Int) : Option (Bool × List Int × List Int × Int) := rat_reckoned.f k a0_0 l0_1 l0_2 a1_0 l1_1 l1_2 (rat_DivC1.f k a0_0 l0_1 l0_2 a1_0 l1_1 l1_2)
theorem rat_reckonedDiv.calls (k : Nat) (a0_0 : Bool) (A0_1 : Option Addr) (c0_1 : Nat) (l0_1 : List Int) (A0_2 : Option Addr) (c0_2 : Nat) (l0_2 : List Int) (a1_0 : Bool) (A1_1 : Option Addr) (c1_1 : Nat) (l1_1 : List Int) (A1_2 : Option Addr) (c1_2 : Nat) (l1_2 : List Int) (r1 : Bool) (r2 r3 : List Int) (r4 : Int) (w : World) (ga gb : Nat) (bka : w.heap[ga]? = some (.cells #[.bool a0_0, .slice A0_1 l0_1.length c0_1, .slice A0_2 l0_2.length c0_2] 25 (0, 0))) (bkb : w.heap[gb]? = some (.cells #[.bool a1_0, .slice A1_1 l1_1.length c1_1, .slice A1_2 l1_2.length c1_2] 25 (0, 0))) (nab : ga ≠ gb) (hr0_1 : Kd.C (Kd.int .u64) w A0_1 l0_1.length l0_1) (hc0_1 : l0_1.length ≤ c0_1) (hr0_2 : Kd.C (Kd.int .u64) w A0_2 l0_2.length l0_2) (hc0_2 : l0_2.length ≤ c0_2) (hr1_1 : Kd.C (Kd.int .u64) w A1_1 l1_1.length l1_1) (hc1_1 : l1_1.length ≤ c1_1) (hr1_2 : Kd.C (Kd.int .u64) w A1_2 l1_2.length l1_2) (hc1_2 : l1_2.length ≤ c1_2) (h : rat_reckonedDiv.f k a0_0 l0_1 l0_2 a1_0 l1_1 l1_2 = some (r1, r2, r3, r4)) :
  Calls Try.prog 27 #[.agg #[.bool a0_0, .slice A0_1 l0_1.length c0_1, .slice A0_2 l0_2.length c0_2], .agg #[.bool a1_0, .slice A1_1 l1_1.length c1_1, .slice A1_2 l1_2.length c1_2], .func (.func 28) #[] #[.pointer (some ⟨ga, 0, none⟩), .pointer (some ⟨gb, 0, none⟩)]] w fun e w' => ∃ v1_ v2_ : Value, e = .returned (.tuple #[.agg #[.bool r1, v1_, v2_], .int .i64 r4]) ∧ Kd.R (Kd.int .u64) 44 w' w.heap.size (fun k_ => some k_ ≠ (v2_ : Value).ownBlock) v1_ r2 ∧ Kd.R (Kd.int .u64) 44 w' w.heap.size (fun k_ => some k_ ≠ (v1_ : Value).ownBlock) v2_ r3 ∧ Below w.heap.size w w' := by
 refine rat_reckoned.calls (fun args w => enters_ Try.func28 (by kernel_rfl) rfl args w) k a0_0 _ _ l0_1 _ _ l0_2 a1_0 _ _ l1_1 _ _ l1_2 _ r1 r2 r3 r4 w hr0_1 hc0_1 hr0_2 hc0_2 hr1_1 hc1_1 hr1_2 hc1_2 (fun w1 x1 x2 x3 hb hx => ?_) h
 have la := blk_lt bka
 have lb := blk_lt bkb
 exact rat_DivC1.calls k a0_0 _ _ l0_1 _ _ l0_2 a1_0 _ _ l1_1 _ _ l1_2 x1 x2 x3 w1 ga gb (blk_below bka hb) (blk_below bkb hb) nab (Kd.C_below hr0_1 hb) hc0_1 (Kd.C_below hr0_2 hb) hc0_2 (Kd.C_below hr1_1 hb) hc1_1 (Kd.C_below hr1_2 hb) hc1_2 hx
def rat_Div.f (k : Nat) (a0_0 : Bool) (l0_1 : List Int) (l0_2 : List Int) (a1_0 : Bool) (l1_1 : List Int) (l1_2 : List Int) : Option (Bool × List Int × List Int × Int) := (rat_Check.f k a0_0 l0_1 l0_2).bind fun t274 => (if t274 = 0 then ((rat_Check.f k a1_0 l1_1 l1_2).bind fun t275 => (if t275 = 0 then (if (l1_1.length : Int) = 0 then (some (false, ([] : List Int), ([] : List Int), 50)) else ((rat_reckonedDiv.f k a0_0 l0_1 l0_2 a1_0 l1_1 l1_2).bind fun bt276 => (some (bt276.1, bt276.2.1, bt276.2.2.1, bt276.2.2.2)))) else (none))) else (none))
set_option maxHeartbeats 8000000 in
set_option maxRecDepth 100000 in
theorem rat_Div.calls (k : Nat) (a0_0 : Bool) (A0_1 : Option Addr) (c0_1 : Nat) (l0_1 : List Int) (A0_2 : Option Addr) (c0_2 : Nat) (l0_2 : List Int) (a1_0 : Bool) (A1_1 : Option Addr) (c1_1 : Nat) (l1_1 : List Int) (A1_2 : Option Addr) (c1_2 : Nat) (l1_2 : List Int) (r1 : Bool) (r2 : List Int) (r3 : List Int) (r4 : Int) (w : World) (hr0_1 : Kd.C (Kd.int .u64) w A0_1 l0_1.length l0_1) (hc0_1 : l0_1.length ≤ c0_1) (hr0_2 : Kd.C (Kd.int .u64) w A0_2 l0_2.length l0_2) (hc0_2 : l0_2.length ≤ c0_2) (hr1_1 : Kd.C (Kd.int .u64) w A1_1 l1_1.length l1_1) (hc1_1 : l1_1.length ≤ c1_1) (hr1_2 : Kd.C (Kd.int .u64) w A1_2 l1_2.length l1_2) (hc1_2 : l1_2.length ≤ c1_2) (h : rat_Div.f k a0_0 l0_1 l0_2 a1_0 l1_1 l1_2 = some (r1, r2, r3, r4)) :
  Calls Try.prog 13 #[.agg #[.bool a0_0, .slice A0_1 l0_1.length c0_1, .slice A0_2 l0_2.length c0_2], .agg #[.bool a1_0, .slice A1_1 l1_1.length c1_1, .slice A1_2 l1_2.length c1_2]] w fun e w' => ∃ v1_ v2_ : Value, e = .returned (.tuple #[.agg #[.bool r1, v1_, v2_], .int .i64 r4]) ∧ Kd.R (Kd.int .u64) 44 w' w.heap.size (fun k_ => some k_ ≠ (v2_ : Value).ownBlock) v1_ r2 ∧ Kd.R (Kd.int .u64) 44 w' w.heap.size (fun k_ => some k_ ≠ (v1_ : Value).ownBlock) v2_ r3 ∧ Below w.heap.size w w' := by
 have hmf : ∀ (fn : Fn) (first cap : Array Value) (w : World), (Instr.makeFunc fn first cap).run Try.prog w = .ok (.func fn first cap) w := fun _ _ _ _ => rfl
 have hu46 := Try.underlying25
 have HR0_1 := aM hr0_1
 have HC0_1 := aM hc0_1
 clear hr0_1 hc0_1
 have HR0_2 := aM hr0_2
 have HC0_2 := aM hc0_2
 clear hr0_2 hc0_2
 have HR1_1 := aM hr1_1
 have HC1_1 := aM hc1_1
 clear hr1_1 hc1_1
 have HR1_2 := aM hr1_2
 have HC1_2 := aM hc1_2
 clear hr1_2 hc1_2
 have HB := aM (Below.refl w.heap.size w)
 have H := h
 clear h
 unfold rat_Div.f at H
 replace H := oA H
 obtain ⟨t274, A3, H⟩ := H
 (try dsimp only at H)
 replace H := nO H
 obtain ⟨c4, H⟩ := H
 obtain ⟨c4b0, c4b1⟩ := bT c4
 clear c4
 replace H := oA H
 obtain ⟨t275, A5, H⟩ := H
 (try dsimp only at H)
 replace H := nO H
 obtain ⟨c6, H⟩ := H
 obtain ⟨c6b0, c6b1⟩ := bT c6
 clear c6
 by_cases c7 : (l1_1.length : Int) = 0
 ·rw [if_pos c7] at H
  obtain ⟨c7b0, c7b1⟩ := bT c7
  clear c7
  simp only [Option.some.injEq, Prod.mk.injEq] at H
  obtain ⟨rfl, rfl, rfl, rfl⟩ := H
  go_enter Try.func13, Try.ntmps13
  go_wp2_with (first | ((with_reducible refine gate_dst (N := 2) rfl ?_); (try (refine gate_guard (by rfl) ?_; dsimp only)); refine bE 2 #[.bool a0_0, .slice A0_1 l0_1.length c0_1, .slice A0_2 l0_2.length c0_2] 25 ?_; intro gb271 hg w8 hbox hb; have BK271 := aM (hbox); have GE271 : Aside0 (w.heap.size ≤ gb271) := gE hg; replace HB := hS HB.out hb; clear hb hbox hg) | ((with_reducible refine gate_dst (N := 3) rfl ?_); (try (refine gate_guard (by rfl) ?_; dsimp only)); refine bE 3 #[.bool a1_0, .slice A1_1 l1_1.length c1_1, .slice A1_2 l1_2.length c1_2] 25 ?_; intro gb272 hg w9 hbox hb; have BK272 := aM (hbox); have GE272 : Aside0 (w.heap.size ≤ gb272) := gE hg; replace HB := hS HB.out hb; have NB271_272 := nL hg BK271.out; have NB272_271 := nG hg BK271.out; replace BK271 := bB BK271.out hb; clear hb hbox hg) | ((with_reducible refine gate_dst (N := 4) rfl ?_); (try (refine gate_guard (by rfl) ?_; dsimp only)); refine bE 4 #[.bool false, .slice none 0 0, .slice none 0 0] 25 ?_; intro gb273 hg w10 hbox hb; have BK273 := aM (hbox); have GE273 : Aside0 (w.heap.size ≤ gb273) := gE hg; replace HB := hS HB.out hb; have NB271_273 := nL hg BK271.out; have NB273_271 := nG hg BK271.out; replace BK271 := bB BK271.out hb; have NB272_273 := nL hg BK272.out; have NB273_272 := nG hg BK272.out; replace BK272 := bB BK272.out hb; clear hb hbox hg; have hnb11 := NB271_272.out; have hnc11 := NB272_271.out; have hnb12 := NB271_273.out; have hnc12 := NB273_271.out; obtain ⟨hcz13_0, hcz13_1, hcz13_2⟩ := cz3 BK271.out; obtain ⟨hfz13_0, hfz13_1, hfz13_2⟩ := fz3 BK271.out) | ((with_reducible refine gate_callee (f := 19) rfl ?_); refine gL (some 7) Try.func19 #[.agg #[.bool a0_0, .slice A0_1 l0_1.length c0_1, .slice A0_2 l0_2.length c0_2]] ?_; (with_reducible refine (rat_Check.calls k a0_0 _ _ l0_1 _ _ l0_2 t274 _ ?side1 HC0_1.out ?side3 HC0_2.out A3.out).mono ?_); (case side1 => exact dC (Kd.C_below HR0_1.out HB.out)); (case side3 => exact dC (Kd.C_below HR0_2.out HB.out)); rintro e w14 ⟨rfl, hb⟩; refine ⟨_, rfl, ?_⟩; replace BK271 := bB BK271.out hb; replace BK272 := bB BK272.out hb; replace BK273 := bB BK273.out hb; replace HB := hS HB.out hb; (try clear hb); have hnb15 := NB272_273.out; have hnc15 := NB273_272.out; obtain ⟨hcz16_0, hcz16_1, hcz16_2⟩ := cz3 BK272.out; obtain ⟨hfz16_0, hfz16_1, hfz16_2⟩ := fz3 BK272.out) | (go_at_call 19; (with_reducible refine (rat_Check.calls k a1_0 _ _ l1_1 _ _ l1_2 t275 _ ?side1 HC1_1.out ?side3 HC1_2.out A5.out).mono ?_); (case side1 => exact dC (Kd.C_below HR1_1.out HB.out)); (case side3 => exact dC (Kd.C_below HR1_2.out HB.out)); rintro e w17 ⟨rfl, hb⟩; replace BK271 := bB BK271.out hb; replace BK272 := bB BK272.out hb; replace BK273 := bB BK273.out hb; replace HB := hS HB.out hb; (try clear hb); obtain ⟨hcz18_0, hcz18_1, hcz18_2⟩ := cz3 BK272.out; obtain ⟨hfz18_0, hfz18_1, hfz18_2⟩ := fz3 BK272.out; obtain ⟨hcz19_0, hcz19_1, hcz19_2⟩ := cz3 BK273.out; obtain ⟨hfz19_0, hfz19_1, hfz19_2⟩ := fz3 BK273.out))
  refine bodyPost_ret (results_ct rfl _ _ gb273 25 #[.bool false, .slice none 0 0, .slice none 0 0] (0, 0) _ rfl (dP BK273.out) Try.underlying25 rfl (by kernel_rfl)) rfl ?_
  exact ⟨_, _, dE, by first | exact Kd.R_nil _ _ _ _ _ | exact Kd.N_nil _ _ _ _ _ | exact Kd.V_nil _ _ _ _ _ | exact Kd.Q_nil _ _ _ _ _ | exact Kd.S_nil _ _ _ _ _, by first | exact Kd.R_nil _ _ _ _ _ | exact Kd.N_nil _ _ _ _ _ | exact Kd.V_nil _ _ _ _ _ | exact Kd.Q_nil _ _ _ _ _ | exact Kd.S_nil _ _ _ _ _, eB⟩
 ·rw [if_neg c7] at H
  obtain ⟨c7b0, c7b1⟩ := bF c7
  have c7b2 : ¬ (l1_1 = []) := fun h_ => c7 (by rw [h_]; rfl)
  replace H := oA H
  obtain ⟨⟨t276, t277, t280, t283⟩, A20, H⟩ := H
  (try dsimp only at H)
  simp only [Option.some.injEq, Prod.mk.injEq] at H
  obtain ⟨rfl, rfl, rfl, rfl⟩ := H
  go_enter Try.func13, Try.ntmps13
  go_wp2_with (first | ((with_reducible refine gate_dst (N := 2) rfl ?_); (try (refine gate_guard (by rfl) ?_; dsimp only)); refine bE 2 #[.bool a0_0, .slice A0_1 l0_1.length c0_1, .slice A0_2 l0_2.length c0_2] 25 ?_; intro gb271 hg w21 hbox hb; have BK271 := aM (hbox); have GE271 : Aside0 (w.heap.size ≤ gb271) := gE hg; replace HB := hS HB.out hb; clear hb hbox hg) | ((with_reducible refine gate_dst (N := 3) rfl ?_); (try (refine gate_guard (by rfl) ?_; dsimp only)); refine bE 3 #[.bool a1_0, .slice A1_1 l1_1.length c1_1, .slice A1_2 l1_2.length c1_2] 25 ?_; intro gb272 hg w22 hbox hb; have BK272 := aM (hbox); have GE272 : Aside0 (w.heap.size ≤ gb272) := gE hg; replace HB := hS HB.out hb; have NB271_272 := nL hg BK271.out; have NB272_271 := nG hg BK271.out; replace BK271 := bB BK271.out hb; clear hb hbox hg) | ((with_reducible refine gate_dst (N := 4) rfl ?_); (try (refine gate_guard (by rfl) ?_; dsimp only)); refine bE 4 #[.bool false, .slice none 0 0, .slice none 0 0] 25 ?_; intro gb273 hg w23 hbox hb; have BK273 := aM (hbox); have GE273 : Aside0 (w.heap.size ≤ gb273) := gE hg; replace HB := hS HB.out hb; have NB271_273 := nL hg BK271.out; have NB273_271 := nG hg BK271.out; replace BK271 := bB BK271.out hb; have NB272_273 := nL hg BK272.out; have NB273_272 := nG hg BK272.out; replace BK272 := bB BK272.out hb; clear hb hbox hg; have hnb24 := NB271_272.out; have hnc24 := NB272_271.out; have hnb25 := NB271_273.out; have hnc25 := NB273_271.out; obtain ⟨hcz26_0, hcz26_1, hcz26_2⟩ := cz3 BK271.out; obtain ⟨hfz26_0, hfz26_1, hfz26_2⟩ := fz3 BK271.out) | ((with_reducible refine gate_callee (f := 19) rfl ?_); refine gL (some 7) Try.func19 #[.agg #[.bool a0_0, .slice A0_1 l0_1.length c0_1, .slice A0_2 l0_2.length c0_2]] ?_; (with_reducible refine (rat_Check.calls k a0_0 _ _ l0_1 _ _ l0_2 t274 _ ?side1 HC0_1.out ?side3 HC0_2.out A3.out).mono ?_); (case side1 => exact dC (Kd.C_below HR0_1.out HB.out)); (case side3 => exact dC (Kd.C_below HR0_2.out HB.out)); rintro e w27 ⟨rfl, hb⟩; refine ⟨_, rfl, ?_⟩; replace BK271 := bB BK271.out hb; replace BK272 := bB BK272.out hb; replace BK273 := bB BK273.out hb; replace HB := hS HB.out hb; (try clear hb); have hnb28 := NB272_273.out; have hnc28 := NB273_272.out; obtain ⟨hcz29_0, hcz29_1, hcz29_2⟩ := cz3 BK272.out; obtain ⟨hfz29_0, hfz29_1, hfz29_2⟩ := fz3 BK272.out) | (go_at_call 19; (with_reducible refine (rat_Check.calls k a1_0 _ _ l1_1 _ _ l1_2 t275 _ ?side1 HC1_1.out ?side3 HC1_2.out A5.out).mono ?_); (case side1 => exact dC (Kd.C_below HR1_1.out HB.out)); (case side3 => exact dC (Kd.C_below HR1_2.out HB.out)); rintro e w30 ⟨rfl, hb⟩; replace BK271 := bB BK271.out hb; replace BK272 := bB BK272.out hb; replace BK273 := bB BK273.out hb; replace HB := hS HB.out hb; (try clear hb); obtain ⟨hcz31_0, hcz31_1, hcz31_2⟩ := cz3 BK272.out; obtain ⟨hfz31_0, hfz31_1, hfz31_2⟩ := fz3 BK272.out; obtain ⟨hcz32_0, hcz32_1, hcz32_2⟩ := cz3 BK271.out; obtain ⟨hfz32_0, hfz32_1, hfz32_2⟩ := fz3 BK271.out) | ((with_reducible refine gate_callee (f := 27) rfl ?_); refine gL (some 24) Try.func27 #[.agg #[.bool a0_0, .slice A0_1 l0_1.length c0_1, .slice A0_2 l0_2.length c0_2], .agg #[.bool a1_0, .slice A1_1 l1_1.length c1_1, .slice A1_2 l1_2.length c1_2], .func (.func 28) #[] #[.pointer (some ⟨gb271, 0, none⟩), .pointer (some ⟨gb272, 0, none⟩)]] ?_; (with_reducible refine (rat_reckonedDiv.calls k a0_0 _ _ l0_1 _ _ l0_2 a1_0 _ _ l1_1 _ _ l1_2 t276 t277 t280 t283 _ gb271 gb272 ?bka ?bkb NB271_272.out ?side1 HC0_1.out ?side3 HC0_2.out ?side5 HC1_1.out ?side7 HC1_2.out A20.out).mono ?_); (case bka => (with_reducible repeat (first | refine blk_drewN ?_ _ | refine blk_drew ?_ | refine blk_alloc ?_ _)); exact BK271.out); (case bkb => (with_reducible repeat (first | refine blk_drewN ?_ _ | refine blk_drew ?_ | refine blk_alloc ?_ _)); exact BK272.out); (case side1 => exact dC (Kd.C_below HR0_1.out HB.out)); (case side3 => exact dC (Kd.C_below HR0_2.out HB.out)); (case side5 => exact dC (Kd.C_below HR1_1.out HB.out)); (case side7 => exact dC (Kd.C_below HR1_2.out HB.out)); rintro e w33 ⟨v278, v281, rfl, ho0, ho1, hb⟩; refine ⟨_, rfl, ?_⟩; have HO279 := aM (Kd.R_lower ho0 (below_size eB)); have HO282 := aM (Kd.R_lower ho1 (below_size eB)); replace BK271 := bB BK271.out hb; replace BK272 := bB BK272.out hb; replace BK273 := bB BK273.out hb; replace HB := hS HB.out hb; (try clear hb); (try clear ho0); (try clear ho1); obtain ⟨hcz34_0, hcz34_1, hcz34_2⟩ := cz3 BK273.out; obtain ⟨hfz34_0, hfz34_1, hfz34_2⟩ := fz3 BK273.out; obtain ⟨Ao35, co35, rfl⟩ := Kd.R_slice HO279.out; obtain ⟨Ao36, co36, rfl⟩ := Kd.R_slice HO282.out))
  refine bodyPost_ret (results_ct rfl _ _ gb273 25 #[.bool t276, .slice Ao35 t277.length co35, .slice Ao36 t280.length co36] (0, 0) _ rfl (dP BK273.out) Try.underlying25 rfl (by kernel_rfl)) rfl ?_
  exact ⟨_, _, dE, oR HO279.out BK273.out, oR HO282.out BK273.out, eB⟩
def plumblaw05_div.f (k : Nat) (a0_0 : Bool) (l0_1 : List Int) (l0_2 : List Int) (a1_0 : Bool) (l1_1 : List Int) (l1_2 : List Int) : Option (Bool × List Int × List Int × Bool) := (rat_Div.f k a0_0 l0_1 l0_2 a1_0 l1_1 l1_2).bind fun bt458 => (if bt458.2.2.2 = 0 then ((rat_Check.f k bt458.1 bt458.2.1 bt458.2.2.1).bind fun t467 => (some (bt458.1, bt458.2.1, bt458.2.2.1, (t467 == 0)))) else (none))
def plumblaw05_div.T2 : Bool × List (List Nat × List Nat) := (true, [([], []), ([], []), ([1], [1]), ([2], [2]), ([3], [3]), ([4, 3, 3], [3, 4]), ([5, 3], [3, 5]), ([3, 6], [3, 6]), ([0, 5, 0], [0]), ([7, 8, 0, 1, 2, 3, 4, 5, 6, 7, 8], [7])])
def plumblaw05_div.B2 : List Nat := [0, 0, 2, 6, 14, 30, 62, 126, 63, 511]
theorem plumblaw05_div.tab2 : rtab .any (opsOf Try.f14 2) = plumblaw05_div.T2 := by kernel_rfl
theorem plumblaw05_div.bits2 : waitsOk plumblaw05_div.T2.2 plumblaw05_div.B2 = true := by kernel_rfl
set_option maxHeartbeats 8000000 in
set_option maxRecDepth 100000 in
theorem plumblaw05_div.calls (k : Nat) (a0_0 : Bool) (A0_1 : Option Addr) (c0_1 : Nat) (l0_1 : List Int) (A0_2 : Option Addr) (c0_2 : Nat) (l0_2 : List Int) (a1_0 : Bool) (A1_1 : Option Addr) (c1_1 : Nat) (l1_1 : List Int) (A1_2 : Option Addr) (c1_2 : Nat) (l1_2 : List Int) (r1 : Bool) (r2 : List Int) (r3 : List Int) (r4 : Bool) (w : World) (hr0_1 : Kd.C (Kd.int .u64) w A0_1 l0_1.length l0_1) (hc0_1 : l0_1.length ≤ c0_1) (hr0_2 : Kd.C (Kd.int .u64) w A0_2 l0_2.length l0_2) (hc0_2 : l0_2.length ≤ c0_2) (hr1_1 : Kd.C (Kd.int .u64) w A1_1 l1_1.length l1_1) (hc1_1 : l1_1.length ≤ c1_1) (hr1_2 : Kd.C (Kd.int .u64) w A1_2 l1_2.length l1_2) (hc1_2 : l1_2.length ≤ c1_2) (h : plumblaw05_div.f k a0_0 l0_1 l0_2 a1_0 l1_1 l1_2 = some (r1, r2, r3, r4)) :
  Calls Try.prog 14 #[.agg #[.bool a0_0, .slice A0_1 l0_1.length c0_1, .slice A0_2 l0_2.length c0_2], .agg #[.bool a1_0, .slice A1_1 l1_1.length c1_1, .slice A1_2 l1_2.length c1_2]] w fun e w' => ∃ v1_ v2_ : Value, e = .returned (.tuple #[.agg #[.bool r1, v1_, v2_], .bool r4]) ∧ Kd.R (Kd.int .u64) 44 w' w.heap.size (fun k_ => some k_ ≠ (v2_ : Value).ownBlock) v1_ r2 ∧ Kd.R (Kd.int .u64) 44 w' w.heap.size (fun k_ => some k_ ≠ (v1_ : Value).ownBlock) v2_ r3 ∧ Below w.heap.size w w' := by
 have hu25 := Try.underlying25
 have HR0_1 := aM hr0_1
 have HC0_1 := aM hc0_1
 clear hr0_1 hc0_1
 have HR0_2 := aM hr0_2
 have HC0_2 := aM hc0_2
 clear hr0_2 hc0_2
 have HR1_1 := aM hr1_1
 have HC1_1 := aM hc1_1
 clear hr1_1 hc1_1
 have HR1_2 := aM hr1_2
 have HC1_2 := aM hc1_2
 clear hr1_2 hc1_2
 have HB := aM (Below.refl w.heap.size w)
 have H := h
 clear h
 unfold plumblaw05_div.f at H
 replace H := oA H
 obtain ⟨⟨t458, t459, t462, t465⟩, A3, H⟩ := H
 (try dsimp only at H)
 replace H := nO H
 obtain ⟨c4, H⟩ := H
 obtain ⟨c4b0, c4b1⟩ := bT c4
 clear c4
 replace H := oA H
 obtain ⟨t467, A5, H⟩ := H
 (try dsimp only at H)
 simp only [Option.some.injEq, Prod.mk.injEq] at H
 obtain ⟨rfl, rfl, rfl, rfl⟩ := H
 go_enter Try.func14, Try.ntmps14
 try go_wp2_with (first | ((with_reducible refine gate_dst (N := 2) rfl ?_); refine bE 2 #[.bool a0_0, .slice A0_1 l0_1.length c0_1, .slice A0_2 l0_2.length c0_2] 25 ?_; intro gb455 hg w6 hbox hb; have BK455 := aM (hbox); have GE455 : Aside0 (w.heap.size ≤ gb455) := gE hg; replace HB := hS HB.out hb; clear hb hbox hg) | ((with_reducible refine gate_dst (N := 3) rfl ?_); refine bE 3 #[.bool a1_0, .slice A1_1 l1_1.length c1_1, .slice A1_2 l1_2.length c1_2] 25 ?_; intro gb456 hg w7 hbox hb; have BK456 := aM (hbox); have GE456 : Aside0 (w.heap.size ≤ gb456) := gE hg; replace HB := hS HB.out hb; have NB455_456 := nL hg BK455.out; have NB456_455 := nG hg BK455.out; replace BK455 := bB BK455.out hb; clear hb hbox hg) | ((with_reducible refine gate_dst (N := 4) rfl ?_); refine bE 4 #[.bool false, .slice none 0 0, .slice none 0 0] 25 ?_; intro gb457 hg w8 hbox hb; have BK457 := aM (hbox); have GE457 : Aside0 (w.heap.size ≤ gb457) := gE hg; replace HB := hS HB.out hb; have NB455_457 := nL hg BK455.out; have NB457_455 := nG hg BK455.out; replace BK455 := bB BK455.out hb; have NB456_457 := nL hg BK456.out; have NB457_456 := nG hg BK456.out; replace BK456 := bB BK456.out hb; clear hb hbox hg; have hnb9 := NB455_456.out; have hnc9 := NB456_455.out; have hnb10 := NB455_457.out; have hnc10 := NB457_455.out; obtain ⟨hcz11_0, hcz11_1, hcz11_2⟩ := cz3 BK455.out; obtain ⟨hfz11_0, hfz11_1, hfz11_2⟩ := fz3 BK455.out; have hnb12 := NB456_457.out; have hnc12 := NB457_456.out; obtain ⟨hcz13_0, hcz13_1, hcz13_2⟩ := cz3 BK456.out; obtain ⟨hfz13_0, hfz13_1, hfz13_2⟩ := fz3 BK456.out) | ((with_reducible refine gate_callee (f := 13) rfl ?_); refine gL (some 11) Try.func13 #[.agg #[.bool a0_0, .slice A0_1 l0_1.length c0_1, .slice A0_2 l0_2.length c0_2], .agg #[.bool a1_0, .slice A1_1 l1_1.length c1_1, .slice A1_2 l1_2.length c1_2]] ?_; (with_reducible refine (rat_Div.calls k a0_0 _ _ l0_1 _ _ l0_2 a1_0 _ _ l1_1 _ _ l1_2 t458 t459 t462 t465 _ ?side1 HC0_1.out ?side3 HC0_2.out ?side5 HC1_1.out ?side7 HC1_2.out A3.out).mono ?_); (case side1 => exact dC (Kd.C_below HR0_1.out HB.out)); (case side3 => exact dC (Kd.C_below HR0_2.out HB.out)); (case side5 => exact dC (Kd.C_below HR1_1.out HB.out)); (case side7 => exact dC (Kd.C_below HR1_2.out HB.out)); rintro e w14 ⟨v460, v463, rfl, ho0, ho1, hb⟩; refine ⟨_, rfl, ?_⟩; have HO461 := aM (Kd.R_lower ho0 (below_size eB)); have HO464 := aM (Kd.R_lower ho1 (below_size eB)); replace BK455 := bB BK455.out hb; replace BK456 := bB BK456.out hb; replace BK457 := bB BK457.out hb; replace HB := hS HB.out hb; (try clear hb); (try clear ho0); (try clear ho1)) | ((with_reducible refine gate_dst (N := 6) rfl ?_); refine bE 6 #[.bool false, .slice none 0 0, .slice none 0 0] 25 ?_; intro gb466 hg w15 hbox hb; replace HO461 := oB HO461.out hb; replace HO464 := oB HO464.out hb; have BK466 := aM (hbox); have GE466 : Aside0 (w.heap.size ≤ gb466) := gE hg; replace HB := hS HB.out hb; have NB455_466 := nL hg BK455.out; have NB466_455 := nG hg BK455.out; replace BK455 := bB BK455.out hb; have NB456_466 := nL hg BK456.out; have NB466_456 := nG hg BK456.out; replace BK456 := bB BK456.out hb; have NB457_466 := nL hg BK457.out; have NB466_457 := nG hg BK457.out; replace BK457 := bB BK457.out hb; clear hb hbox hg; have hnb16 := NB466_455.out; have hnc16 := NB455_466.out; have hnb17 := NB466_456.out; have hnc17 := NB456_466.out; have hnb18 := NB466_457.out; have hnc18 := NB457_466.out; obtain ⟨hcz19_0, hcz19_1, hcz19_2⟩ := cz3 BK466.out; obtain ⟨hfz19_0, hfz19_1, hfz19_2⟩ := fz3 BK466.out; obtain ⟨Ao20, co20, rfl⟩ := Kd.R_slice HO461.out; obtain ⟨Ao21, co21, rfl⟩ := Kd.R_slice HO464.out))
 have n0_ : Aside0 (Kd.R (Kd.int .u64) 44 (((w15.setCell ⟨gb466, 0, none⟩ (.bool t458)).setCell ⟨gb466, 1, none⟩ (.slice Ao20 t459.length co20)).setCell ⟨gb466, 2, none⟩ (.slice Ao21 t462.length co21)) w.heap.size (fun k_ => oN Ao21 t462 co21 k_) (.slice Ao20 t459.length co20) t459) := ⟨oR HO461.out BK466.out⟩
 have n1_ : Aside0 (Kd.R (Kd.int .u64) 44 (((w15.setCell ⟨gb466, 0, none⟩ (.bool t458)).setCell ⟨gb466, 1, none⟩ (.slice Ao20 t459.length co20)).setCell ⟨gb466, 2, none⟩ (.slice Ao21 t462.length co21)) w.heap.size (fun k_ => oN Ao20 t459 co20 k_) (.slice Ao21 t462.length co21) t462) := ⟨oR HO464.out BK466.out⟩
 have n2_ : Aside0 ((((w15.setCell ⟨gb466, 0, none⟩ (.bool t458)).setCell ⟨gb466, 1, none⟩ (.slice Ao20 t459.length co20)).setCell ⟨gb466, 2, none⟩ (.slice Ao21 t462.length co21)).heap[gb455]? = some (.cells #[.bool a0_0, .slice A0_1 l0_1.length c0_1, .slice A0_2 l0_2.length c0_2] 25 (0, 0))) := ⟨dU1 BK455.out NB455_466.out⟩
 have n3_ : Aside0 ((((w15.setCell ⟨gb466, 0, none⟩ (.bool t458)).setCell ⟨gb466, 1, none⟩ (.slice Ao20 t459.length co20)).setCell ⟨gb466, 2, none⟩ (.slice Ao21 t462.length co21)).heap[gb456]? = some (.cells #[.bool a1_0, .slice A1_1 l1_1.length c1_1, .slice A1_2 l1_2.length c1_2] 25 (0, 0))) := ⟨dU1 BK456.out NB456_466.out⟩
 have n4_ : Aside0 ((((w15.setCell ⟨gb466, 0, none⟩ (.bool t458)).setCell ⟨gb466, 1, none⟩ (.slice Ao20 t459.length co20)).setCell ⟨gb466, 2, none⟩ (.slice Ao21 t462.length co21)).heap[gb457]? = some (.cells #[.bool false, .slice none 0 0, .slice none 0 0] 25 (0, 0))) := ⟨dU1 BK457.out NB457_466.out⟩
 have n5_ : Aside0 ((((w15.setCell ⟨gb466, 0, none⟩ (.bool t458)).setCell ⟨gb466, 1, none⟩ (.slice Ao20 t459.length co20)).setCell ⟨gb466, 2, none⟩ (.slice Ao21 t462.length co21)).heap[gb466]? = some (.cells #[.bool t458, .slice Ao20 t459.length co20, .slice Ao21 t462.length co21] 25 (0, 0))) := ⟨dP BK466.out⟩
 have n6_ : Aside0 (Below w.heap.size w (((w15.setCell ⟨gb466, 0, none⟩ (.bool t458)).setCell ⟨gb466, 1, none⟩ (.slice Ao20 t459.length co20)).setCell ⟨gb466, 2, none⟩ (.slice Ao21 t462.length co21))) := ⟨eB⟩
 (try clear HO461)
 (try clear HO464)
 (try clear BK455)
 (try clear BK456)
 (try clear BK457)
 (try clear BK466)
 (try clear HB)
 generalize (((w15.setCell ⟨gb466, 0, none⟩ (.bool t458)).setCell ⟨gb466, 1, none⟩ (.slice Ao20 t459.length co20)).setCell ⟨gb466, 2, none⟩ (.slice Ao21 t462.length co21)) = w22 at n0_ n1_ n2_ n3_ n4_ n5_ n6_ ⊢
 have HO461 := n0_
 have HO464 := n1_
 have BK455 := n2_
 have BK456 := n3_
 have BK457 := n4_
 have BK466 := n5_
 have HB := n6_
 clear n0_ n1_ n2_ n3_ n4_ n5_ n6_
 replace HO461 := aM (Kd.R_drew HO461.out)
 replace HO464 := aM (Kd.R_drew HO464.out)
 replace BK455 := aM (blk_drew BK455.out)
 replace BK456 := aM (blk_drew BK456.out)
 replace BK457 := aM (blk_drew BK457.out)
 replace BK466 := aM (blk_drew BK466.out)
 replace HB := aM (below_drew1 HB.out)
 refine start_ (n := 10) (S := fun w' => w'.cell? ⟨gb466, 0, none⟩ = some (.bool t458) ∧ w'.cell? ⟨gb466, 1, none⟩ = some (.slice Ao20 t459.length co20) ∧ w'.cell? ⟨gb466, 2, none⟩ = some (.slice Ao21 t462.length co21)) (ds := []) #[false, false, false, false, false, false, false, false, false, false] (by kernel_rfl) rfl rfl (cz3 BK466.out) (fun hHeld => ?_); refine with_tabW plumblaw05_div.tab2 plumblaw05_div.bits2 (fun HT_ HW_ => ?_)
 generalize w22.drew = w23 at HO461 HO464 BK455 BK456 BK457 BK466 HB hHeld ⊢
 refine pP 1 (some 15) ?_
 refine pP 2 (some 16) ?_
 refine pP 3 (some 17) ?_
 refine pH3 0 (some 14) hHeld ?_
 refine pH3 4 (some 18) hHeld ?_
 refine one_ (i := 5) (N := some 19) #[true, true, true, true, true, true, false, false, false, false] rfl rfl (one_of HT_.out (by kernel_rfl)) (by decide) (fun K hK => ?_)
 refine goes_ Try.func19 (by kernel_rfl) rfl #[.agg #[.bool t458, .slice Ao20 t459.length co20, .slice Ao21 t462.length co21]] (by rfl) rfl rfl dA ?_
 with_reducible refine (rat_Check.calls k t458 _ _ t459 _ _ t462 t467 _ ?side1 (Kd.R_reads' HO461.out).2.1 ?side3 (Kd.R_reads' HO464.out).2.1 A5.out).mono ?_
 (case side1 => exact dC (Kd.R_reads' HO461.out).2.2)
 (case side3 => exact dC (Kd.R_reads' HO464.out).2.2)
 rintro e w24 ⟨rfl, hb⟩
 refine ⟨_, rfl, ?_⟩
 replace HO461 := oB HO461.out hb
 replace HO464 := oB HO464.out hb
 replace BK455 := bB BK455.out hb
 replace BK456 := bB BK456.out hb
 replace BK457 := bB BK457.out hb
 replace BK466 := bB BK466.out hb
 replace HB := hS HB.out hb
 (try clear hb)
 (try clear hb2)
 (try clear hk)
 (try clear hi)
 refine hK.out _ _ (cz3 BK466.out) (fun hHeld => ?_)
 clear hK K
 refine norm_ (a' := ?_) ?_ ?_
 rotate_left
 ·show Act.put _ (some 19) _ = _
  simp only [Act.put, List.setIfInBounds_toArray, List.set_cons_zero, List.set_cons_succ, i64_w, i32_w]
  rfl
 refine pP 6 (some 20) ?_
 refine pP 7 (some 21) ?_
 refine one_ (i := 8) (N := none) #[true, true, true, true, true, true, true, true, true, false] rfl rfl (one_of HT_.out (by kernel_rfl)) (by decide) (fun K hK => ?_)
 have hs25 : w24.cell? ⟨gb457, 0, none⟩ = some (.bool false) := (blk_cell BK457.out 0).trans rfl
 have hfs25 := blk_frozen BK457.out 0
 have hns25_0 := NB455_457.out
 have hns25_1 := NB456_457.out
 have hns25_3 := NB466_457.out
 have hms25_0 := NB457_455.out
 have hms25_1 := NB457_456.out
 have hms25_3 := NB457_466.out
 have hs26 : w24.cell? ⟨gb457, 1, none⟩ = some (.slice none 0 0) := (blk_cell BK457.out 1).trans rfl
 have hfs26 := blk_frozen BK457.out 1
 have hns26_0 := NB455_457.out
 have hns26_1 := NB456_457.out
 have hns26_3 := NB466_457.out
 have hms26_0 := NB457_455.out
 have hms26_1 := NB457_456.out
 have hms26_3 := NB457_466.out
 have hs27 : w24.cell? ⟨gb457, 2, none⟩ = some (.slice none 0 0) := (blk_cell BK457.out 2).trans rfl
 have hfs27 := blk_frozen BK457.out 2
 have hns27_0 := NB455_457.out
 have hns27_1 := NB456_457.out
 have hns27_3 := NB466_457.out
 have hms27_0 := NB457_455.out
 have hms27_1 := NB457_456.out
 have hms27_3 := NB457_466.out
 refine skip_ (w1 := ?_) (by rfl) rfl ?_ ?_
 rotate_left
 ·go_simp
  rfl
 refine hK.out _ _ ⟨((cell_far (p := ⟨gb457, _, none⟩) NB466_457.out _).trans (((cell_far (p := ⟨gb457, _, none⟩) NB466_457.out _).trans (((cell_far (p := ⟨gb457, _, none⟩) NB466_457.out _).trans (hHeld.1)))))), ((cell_far (p := ⟨gb457, _, none⟩) NB466_457.out _).trans (((cell_far (p := ⟨gb457, _, none⟩) NB466_457.out _).trans (((cell_far (p := ⟨gb457, _, none⟩) NB466_457.out _).trans (hHeld.2.1)))))), ((cell_far (p := ⟨gb457, _, none⟩) NB466_457.out _).trans (((cell_far (p := ⟨gb457, _, none⟩) NB466_457.out _).trans (((cell_far (p := ⟨gb457, _, none⟩) NB466_457.out _).trans (hHeld.2.2))))))⟩ (fun hHeld => ?_)
 clear hK K
 refine pP 9 (some 5) ?_
 refine done_ (done_of HT_.out (by kernel_rfl)) ?_
 try go_wp2
 refine bodyPost_ret (results_ct rfl _ _ gb457 25 #[.bool t458, .slice Ao20 t459.length co20, .slice Ao21 t462.length co21] (0, 0) _ rfl (dP BK457.out) Try.underlying25 rfl (by kernel_rfl)) rfl ?_
 exact ⟨_, _, dE, oR HO461.out BK457.out, oR HO464.out BK457.out, eB⟩
end Go.Proofs.Ytiogfeeaepkkmaa.PA
