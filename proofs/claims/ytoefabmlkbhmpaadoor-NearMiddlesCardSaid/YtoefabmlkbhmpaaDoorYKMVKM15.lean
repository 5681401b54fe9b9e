/- A part of the proof (15). -/
import Derived.Test.YtoefabmlkbhmpaaDoorYKMVKM2
import Derived.Test.YtoefabmlkbhmpaaDoorYKMVKM8
import Derived.Test.YtoefabmlkbhmpaaDoorYKMVKM9
namespace Go.Proofs.YtoefabmlkbhmpaaDoor.PA
open Go.RowKit Go.Proofs.YtoefabmlkbhmpaaDoorW.PrintWords Go.Proofs.YtoefabmlkbhmpaaDoorW.PrintLast Go.Proofs.YtoefabmlkbhmpaaDoorW.PrintMore
attribute [local go_sem] max2_int min2_int max_two min_two max_three min_three max_four min_four
set_option linter.unusedVariables false
set_option linter.unusedSimpArgs false
def rat_MulC1.f (k : Nat) (a0_0 : Bool) (l0_1 : List Int) (l0_2 : List Int) (a1_0 : Bool) (l1_1 : List Int) (l1_2 : List Int) : Option (Bool × List Int × List Int) := (rat_mul.f k l0_1 l1_1).bind fun t246 => ((rat_mul.f k l0_2 l1_2).bind fun t249 => ((rat_lowest.f k (a0_0 != a1_0) t246 t249).bind fun bt252 => (some (bt252.1, bt252.2.1, bt252.2.2))))
def rat_MulC1.T1 : Bool × List (List Nat × List Nat) := (true, [([], []), ([0], [0]), ([], []), ([2], [2]), ([1, 3], [1, 3]), ([], []), ([5], [5]), ([], []), ([7], [7]), ([6, 8], [6, 8]), ([], []), ([10], [10]), ([], []), ([12], [12]), ([11, 13, 9], [11, 13]), ([4, 9, 14, 14], [4, 9, 14]), ([15, 15, 0, 1, 2, 3, 4, 5, 6, 7, 8, 9, 10, 11, 12, 13, 14, 15], [15])])
def rat_MulC1.B1 : List Nat := [0, 1, 0, 4, 15, 0, 32, 0, 128, 480, 0, 1024, 0, 4096, 16352, 32767, 65535]
theorem rat_MulC1.tab1 : rtab .any (opsOf Tryd.f80 1) = rat_MulC1.T1 := by kernel_rfl
theorem rat_MulC1.bits1 : waitsOk rat_MulC1.T1.2 rat_MulC1.B1 = true := by kernel_rfl
set_option maxHeartbeats 8000000 in
set_option maxRecDepth 100000 in
theorem rat_MulC1.calls (k : Nat) (a0_0 : Bool) (A0_1 : Option Addr) (c0_1 : Nat) (l0_1 : List Int) (A0_2 : Option Addr) (c0_2 : Nat) (l0_2 : List Int) (a1_0 : Bool) (A1_1 : Option Addr) (c1_1 : Nat) (l1_1 : List Int) (A1_2 : Option Addr) (c1_2 : Nat) (l1_2 : List Int) (r1 : Bool) (r2 : List Int) (r3 : List Int) (w : World) (gb243 gb244 : Nat) (bka_ : w.heap[gb243]? = some (.cells #[.bool a0_0, .slice A0_1 l0_1.length c0_1, .slice A0_2 l0_2.length c0_2] 46 (0, 0))) (bkb_ : w.heap[gb244]? = some (.cells #[.bool a1_0, .slice A1_1 l1_1.length c1_1, .slice A1_2 l1_2.length c1_2] 46 (0, 0))) (nab_ : gb243 ≠ gb244) (hr0_1 : Kd.C (Kd.int .u64) w A0_1 l0_1.length l0_1) (hc0_1 : l0_1.length ≤ c0_1) (hr0_2 : Kd.C (Kd.int .u64) w A0_2 l0_2.length l0_2) (hc0_2 : l0_2.length ≤ c0_2) (hr1_1 : Kd.C (Kd.int .u64) w A1_1 l1_1.length l1_1) (hc1_1 : l1_1.length ≤ c1_1) (hr1_2 : Kd.C (Kd.int .u64) w A1_2 l1_2.length l1_2) (hc1_2 : l1_2.length ≤ c1_2) (h : rat_MulC1.f k a0_0 l0_1 l0_2 a1_0 l1_1 l1_2 = some (r1, r2, r3)) :
  Calls Tryd.prog 80 #[.pointer (some ⟨gb243, 0, none⟩), .pointer (some ⟨gb244, 0, none⟩)] w fun e w' => ∃ v1_ v2_ : Value, e = .returned (.agg #[.bool r1, v1_, v2_]) ∧ Kd.R (Kd.int .u64) 26 w' w.heap.size (fun k_ => some k_ ≠ (v2_ : Value).ownBlock) v1_ r2 ∧ Kd.R (Kd.int .u64) 26 w' w.heap.size (fun k_ => some k_ ≠ (v1_ : Value).ownBlock) v2_ r3 ∧ Below w.heap.size w w' := by
 have hu46 := Tryd.underlying46
 have HR0_1 := aM hr0_1
 have HC0_1 := aM hc0_1
 clear hr0_1 hc0_1
 have HR0_2 := aM hr0_2
 have HC0_2 := aM hc0_2
 clear hr0_2 hc0_2
 have HR1_1 := aM hr1_1
 have HC1_1 := aM hc1_1
 clear hr1_1 hc1_1
 have HR1_2 := aM hr1_2
 have HC1_2 := aM hc1_2
 clear hr1_2 hc1_2
 have HB := aM (Below.refl w.heap.size w)
 have BK243 := aM bka_
 have BK244 := aM bkb_
 have NB243_244 := aM nab_
 have NB244_243 := aM nab_.symm
 clear bka_ bkb_ nab_
 have H := h
 clear h
 unfold rat_MulC1.f at H
 replace H := oA H
 obtain ⟨t246, A3, H⟩ := H
 (try dsimp only at H)
 replace H := oA H
 obtain ⟨t249, A4, H⟩ := H
 (try dsimp only at H)
 replace H := oA H
 obtain ⟨⟨t252, t253, t256⟩, A5, H⟩ := H
 (try dsimp only at H)
 simp only [Option.some.injEq, Prod.mk.injEq] at H
 obtain ⟨rfl, rfl, rfl⟩ := H
 go_enter Tryd.func80, Tryd.ntmps80
 try go_wp2_with (first | ((with_reducible refine gate_dst (N := 2) rfl ?_); refine bE 2 #[.bool false, .slice none 0 0, .slice none 0 0] 46 ?_; intro gb245 hg w8 hbox hb; have BK245 := aM (hbox); have GE245 : Aside0 (w.heap.size ≤ gb245) := gE hg; replace HB := hS HB.out hb; have NB243_245 := nL hg BK243.out; have NB245_243 := nG hg BK243.out; replace BK243 := bB BK243.out hb; have NB244_245 := nL hg BK244.out; have NB245_244 := nG hg BK244.out; replace BK244 := bB BK244.out hb; clear hb hbox hg))
 replace BK243 := aM (blk_drew BK243.out)
 replace BK244 := aM (blk_drew BK244.out)
 replace BK245 := aM (blk_drew BK245.out)
 replace HB := aM (below_drew1 HB.out)
 refine start_ (n := 17) (S := fun w' => w'.cell? ⟨gb243, 0, none⟩ = some (.bool a0_0) ∧ w'.cell? ⟨gb243, 1, none⟩ = some (.slice A0_1 l0_1.length c0_1) ∧ w'.cell? ⟨gb243, 2, none⟩ = some (.slice A0_2 l0_2.length c0_2) ∧ w'.cell? ⟨gb244, 0, none⟩ = some (.bool a1_0) ∧ w'.cell? ⟨gb244, 1, none⟩ = some (.slice A1_1 l1_1.length c1_1) ∧ w'.cell? ⟨gb244, 2, none⟩ = some (.slice A1_2 l1_2.length c1_2)) (ds := []) #[false, false, false, false, false, false, false, false, false, false, false, false, false, false, false, false, false] (by kernel_rfl) rfl rfl ⟨(blk_cell BK243.out 0).trans rfl, (blk_cell BK243.out 1).trans rfl, (blk_cell BK243.out 2).trans rfl, (blk_cell BK244.out 0).trans rfl, (blk_cell BK244.out 1).trans rfl, (blk_cell BK244.out 2).trans rfl⟩ (fun hHeld => ?_); refine with_tabW rat_MulC1.tab1 rat_MulC1.bits1 (fun HT_ HW_ => ?_)
 generalize w8.drew = w9 at BK243 BK244 BK245 HB hHeld ⊢
 refine pP 0 (some 3) ?_
 refine pP 2 (some 5) ?_
 refine pP 5 (some 8) ?_
 refine pP 7 (some 10) ?_
 refine pP 10 (some 13) ?_
 refine pP 12 (some 15) ?_
 refine pH6 1 (some 4) hHeld ?_
 refine pH6 3 (some 6) hHeld ?_
 refine pP 4 (some 7) ?_
 refine pH6 6 (some 9) hHeld ?_
 refine pH6 8 (some 11) hHeld ?_
 refine pH6 11 (some 14) hHeld ?_
 refine pH6 13 (some 16) hHeld ?_
 refine one_ (i := 9) (N := some 12) #[true, true, true, true, true, true, true, true, true, true, true, true, true, true, false, false, false] rfl rfl (one_of HT_.out (by kernel_rfl)) (by decide) (fun K hK => ?_)
 refine goes_ Tryd.func73 (by kernel_rfl) rfl #[.slice A0_1 l0_1.length c0_1, .slice A1_1 l1_1.length c1_1] (by rfl) rfl rfl dA ?_
 with_reducible refine (rat_mul.calls k _ _ l0_1 _ _ l1_1 t246 _ ?side1 HC0_1.out ?side3 HC1_1.out A3.out).mono ?_
 (case side1 => exact dC (Kd.C_below HR0_1.out HB.out))
 (case side3 => exact dC (Kd.C_below HR1_1.out HB.out))
 rintro e w10 ⟨v247, rfl, ho0, hb⟩
 refine ⟨_, rfl, ?_⟩
 have HO248 := aM (Kd.R_lower ho0 (below_size eB))
 replace BK243 := bB BK243.out hb
 replace BK244 := bB BK244.out hb
 replace BK245 := bB BK245.out hb
 replace HB := hS HB.out hb
 (try clear hb)
 (try clear hb2)
 (try clear hk)
 (try clear hi)
 (try clear ho0)
 refine hK.out _ _ ⟨(blk_cell BK243.out 0).trans rfl, (blk_cell BK243.out 1).trans rfl, (blk_cell BK243.out 2).trans rfl, (blk_cell BK244.out 0).trans rfl, (blk_cell BK244.out 1).trans rfl, (blk_cell BK244.out 2).trans rfl⟩ (fun hHeld => ?_)
 clear hK K
 refine norm_ (a' := ?_) ?_ ?_
 rotate_left
 ·show Act.put _ (some 12) _ = _
  simp only [Act.put, List.setIfInBounds_toArray, List.set_cons_zero, List.set_cons_succ, i64_w, i32_w]
  rfl
 refine one_ (i := 14) (N := some 17) #[true, true, true, true, true, true, true, true, true, true, true, true, true, true, true, false, false] rfl rfl (one_of HT_.out (by kernel_rfl)) (by decide) (fun K hK => ?_)
 refine goes_ Tryd.func73 (by kernel_rfl) rfl #[.slice A0_2 l0_2.length c0_2, .slice A1_2 l1_2.length c1_2] (by rfl) rfl rfl dA ?_
 with_reducible refine (rat_mul.calls k _ _ l0_2 _ _ l1_2 t249 _ ?side1 HC0_2.out ?side3 HC1_2.out A4.out).mono ?_
 (case side1 => exact dC (Kd.C_below HR0_2.out HB.out))
 (case side3 => exact dC (Kd.C_below HR1_2.out HB.out))
 rintro e w11 ⟨v250, rfl, ho0, hb⟩
 refine ⟨_, rfl, ?_⟩
 have HO251 := aM (Kd.R_lower (Kd.R_new' ho0 (Kd.R_lt (dR HO248.out))) (below_size eB))
 replace HO248 := oE HO248.out ho0 hb
 replace BK243 := bB BK243.out hb
 replace BK244 := bB BK244.out hb
 replace BK245 := bB BK245.out hb
 replace HB := hS HB.out hb
 (try clear hb)
 (try clear hb2)
 (try clear hk)
 (try clear hi)
 (try clear ho0)
 obtain ⟨Ao12, co12, eo12⟩ := Kd.R_slice HO248.out
 (first | subst eo12 | (injection eo12 with f1_ f2_ f3_; have f4_ := f1_.symm; have f5_ := f3_.symm; clear f1_ f2_ f3_; subst f4_; subst f5_))
 obtain ⟨Ao13, co13, eo13⟩ := Kd.R_slice HO251.out
 (first | subst eo13 | (injection eo13 with f1_ f2_ f3_; have f4_ := f1_.symm; have f5_ := f3_.symm; clear f1_ f2_ f3_; subst f4_; subst f5_))
 refine hK.out _ _ ⟨(blk_cell BK243.out 0).trans rfl, (blk_cell BK243.out 1).trans rfl, (blk_cell BK243.out 2).trans rfl, (blk_cell BK244.out 0).trans rfl, (blk_cell BK244.out 1).trans rfl, (blk_cell BK244.out 2).trans rfl⟩ (fun hHeld => ?_)
 clear hK K
 refine norm_ (a' := ?_) ?_ ?_
 rotate_left
 ·show Act.put _ (some 17) _ = _
  simp only [Act.put, List.setIfInBounds_toArray, List.set_cons_zero, List.set_cons_succ, i64_w, i32_w]
  rfl
 refine one_ (i := 15) (N := some 18) #[true, true, true, true, true, true, true, true, true, true, true, true, true, true, true, true, false] rfl rfl (one_of HT_.out (by kernel_rfl)) (by decide) (fun K hK => ?_)
 refine goes_ Tryd.func74 (by kernel_rfl) rfl #[.bool (a0_0 != a1_0), .slice Ao12 t246.length co12, .slice Ao13 t249.length co13] (by rfl) rfl rfl dA ?_
 with_reducible refine (rat_lowest.calls k (a0_0 != a1_0) _ _ t246 _ _ t249 t252 t253 t256 _ ?side1 (Kd.R_reads' HO248.out).2.1 ?side3 (Kd.R_reads' HO251.out).2.1 A5.out).mono ?_
 (case side1 => exact dC (Kd.R_reads' HO248.out).2.2)
 (case side3 => exact dC (Kd.R_reads' HO251.out).2.2)
 rintro e w14 ⟨v254, v257, rfl, ho0, ho1, hb⟩
 refine ⟨_, rfl, ?_⟩
 have HO255 := aM (Kd.R_lower (Kd.R_new' (Kd.R_new' ho0 (Kd.R_lt (dR HO248.out))) (Kd.R_lt (dR HO251.out))) (below_size eB))
 have HO258 := aM (Kd.R_lower (Kd.R_new' (Kd.R_new' ho1 (Kd.R_lt (dR HO248.out))) (Kd.R_lt (dR HO251.out))) (below_size eB))
 replace HO248 := aM (Kd.R_mono (Kd.R_told (Kd.R_told (Kd.R_old (dR HO248.out) hb) (Kd.R_base ho0)) (Kd.R_base ho1)) (fun _ h_ => h_.1))
 replace HO251 := aM (Kd.R_mono (Kd.R_told (Kd.R_told (Kd.R_old (dR HO251.out) hb) (Kd.R_base ho0)) (Kd.R_base ho1)) (fun _ h_ => h_.1))
 replace BK243 := bB BK243.out hb
 replace BK244 := bB BK244.out hb
 replace BK245 := bB BK245.out hb
 replace HB := hS HB.out hb
 (try clear hb)
 (try clear hb2)
 (try clear hk)
 (try clear hi)
 (try clear ho0)
 (try clear ho1)
 obtain ⟨Ao16, co16, eo16⟩ := Kd.R_slice HO255.out
 (first | subst eo16 | (injection eo16 with f1_ f2_ f3_; have f4_ := f1_.symm; have f5_ := f3_.symm; clear f1_ f2_ f3_; subst f4_; subst f5_))
 obtain ⟨Ao18, co18, eo18⟩ := Kd.R_slice HO258.out
 (first | subst eo18 | (injection eo18 with f1_ f2_ f3_; have f4_ := f1_.symm; have f5_ := f3_.symm; clear f1_ f2_ f3_; subst f4_; subst f5_))
 refine hK.out _ _ ⟨(blk_cell BK243.out 0).trans rfl, (blk_cell BK243.out 1).trans rfl, (blk_cell BK243.out 2).trans rfl, (blk_cell BK244.out 0).trans rfl, (blk_cell BK244.out 1).trans rfl, (blk_cell BK244.out 2).trans rfl⟩ (fun hHeld => ?_)
 clear hK K
 refine norm_ (a' := ?_) ?_ ?_
 rotate_left
 ·show Act.put _ (some 18) _ = _
  simp only [Act.put, List.setIfInBounds_toArray, List.set_cons_zero, List.set_cons_succ, i64_w, i32_w]
  rfl
 refine one_ (i := 16) (N := none) #[true, true, true, true, true, true, true, true, true, true, true, true, true, true, true, true, true] rfl rfl (one_of HT_.out (by kernel_rfl)) (by decide) (fun K hK => ?_)
 have hs15 : w14.cell? ⟨gb245, 0, none⟩ = some (.bool false) := (blk_cell BK245.out 0).trans rfl
 have hfs15 := blk_frozen BK245.out 0
 have hns15_0 := NB243_245.out
 have hns15_1 := NB244_245.out
 have hms15_0 := NB245_243.out
 have hms15_1 := NB245_244.out
 have hs17 : w14.cell? ⟨gb245, 1, none⟩ = some (.slice none 0 0) := (blk_cell BK245.out 1).trans rfl
 have hfs17 := blk_frozen BK245.out 1
 have hns17_0 := NB243_245.out
 have hns17_1 := NB244_245.out
 have hms17_0 := NB245_243.out
 have hms17_1 := NB245_244.out
 have hs19 : w14.cell? ⟨gb245, 2, none⟩ = some (.slice none 0 0) := (blk_cell BK245.out 2).trans rfl
 have hfs19 := blk_frozen BK245.out 2
 have hns19_0 := NB243_245.out
 have hns19_1 := NB244_245.out
 have hms19_0 := NB245_243.out
 have hms19_1 := NB245_244.out
 refine skip_ (w1 := ?_) (by rfl) rfl ?_ ?_
 rotate_left
 ·go_simp
  rfl
 refine hK.out _ _ ⟨((cell_far (p := ⟨gb245, _, none⟩) NB243_245.out _).trans (((cell_far (p := ⟨gb245, _, none⟩) NB243_245.out _).trans (((cell_far (p := ⟨gb245, _, none⟩) NB243_245.out _).trans (hHeld.1)))))), ((cell_far (p := ⟨gb245, _, none⟩) NB243_245.out _).trans (((cell_far (p := ⟨gb245, _, none⟩) NB243_245.out _).trans (((cell_far (p := ⟨gb245, _, none⟩) NB243_245.out _).trans (hHeld.2.1)))))), ((cell_far (p := ⟨gb245, _, none⟩) NB243_245.out _).trans (((cell_far (p := ⟨gb245, _, none⟩) NB243_245.out _).trans (((cell_far (p := ⟨gb245, _, none⟩) NB243_245.out _).trans (hHeld.2.2.1)))))), ((cell_far (p := ⟨gb245, _, none⟩) NB244_245.out _).trans (((cell_far (p := ⟨gb245, _, none⟩) NB244_245.out _).trans (((cell_far (p := ⟨gb245, _, none⟩) NB244_245.out _).trans (hHeld.2.2.2.1)))))), ((cell_far (p := ⟨gb245, _, none⟩) NB244_245.out _).trans (((cell_far (p := ⟨gb245, _, none⟩) NB244_245.out _).trans (((cell_far (p := ⟨gb245, _, none⟩) NB244_245.out _).trans (hHeld.2.2.2.2.1)))))), ((cell_far (p := ⟨gb245, _, none⟩) NB244_245.out _).trans (((cell_far (p := ⟨gb245, _, none⟩) NB244_245.out _).trans (((cell_far (p := ⟨gb245, _, none⟩) NB244_245.out _).trans (hHeld.2.2.2.2.2))))))⟩ (fun hHeld => ?_)
 clear hK K
 refine done_ (done_of HT_.out (by kernel_rfl)) ?_
 try go_wp2
 refine bodyPost_ret (results_cell_row rfl _ _ gb245 46 #[.bool t252, .slice Ao16 t253.length co16, .slice Ao18 t256.length co18] (0, 0) _ rfl (dP BK245.out) Tryd.underlying46 rfl (by kernel_rfl)) rfl ?_
 exact ⟨_, _, dE, by (with_reducible repeat (first | apply Kd.R_alloc | apply Kd.R_drewN | apply Kd.R_drew)); exact Kd.R_mono (Kd.R_far (p := ⟨gb245, 2, none⟩) (Kd.R_far (p := ⟨gb245, 1, none⟩) (Kd.R_far (p := ⟨gb245, 0, none⟩) (Kd.R_types HO255.out BK245.out (by decide)) (fun _ hk => hk.2) (.bool t252)) (fun _ hk => hk.2) (.slice Ao16 t253.length co16)) (fun _ hk => hk.2) (.slice Ao18 t256.length co18)) (fun _ hk => hk.1.1.1), by (with_reducible repeat (first | apply Kd.R_alloc | apply Kd.R_drewN | apply Kd.R_drew)); exact Kd.R_mono (Kd.R_far (p := ⟨gb245, 2, none⟩) (Kd.R_far (p := ⟨gb245, 1, none⟩) (Kd.R_far (p := ⟨gb245, 0, none⟩) (Kd.R_types HO258.out BK245.out (by decide)) (fun _ hk => hk.2) (.bool t252)) (fun _ hk => hk.2) (.slice Ao16 t253.length co16)) (fun _ hk => hk.2) (.slice Ao18 t256.length co18)) (fun _ hk => hk.1.1.1), dG GE245.out⟩
def rat_reckonedMul.f (k : Nat) (a0_0 : Bool) (l0_1 l0_2 : List Int) (a1_0 : Bool) (l1_1 l1_2 : List Int) : Option (Bool × List Int × List Int × Int) := rat_reckoned.f k a0_0 l0_1 l0_2 a1_0 l1_1 l1_2 (rat_MulC1.f k a0_0 l0_1 l0_2 a1_0 l1_1 l1_2)
theorem rat_reckonedMul.calls (k : Nat) (a0_0 : Bool) (A0_1 : Option Addr) (c0_1 : Nat) (l0_1 : List Int) (A0_2 : Option Addr) (c0_2 : Nat) (l0_2 : List Int) (a1_0 : Bool) (A1_1 : Option Addr) (c1_1 : Nat) (l1_1 : List Int) (A1_2 : Option Addr) (c1_2 : Nat) (l1_2 : List Int) (r1 : Bool) (r2 r3 : List Int) (r4 : Int) (w : World) (ga gb : Nat) (bka : w.heap[ga]? = some (.cells #[.bool a0_0, .slice A0_1 l0_1.length c0_1, .slice A0_2 l0_2.length c0_2] 46 (0, 0))) (bkb : w.heap[gb]? = some (.cells #[.bool a1_0, .slice A1_1 l1_1.length c1_1, .slice A1_2 l1_2.length c1_2] 46 (0, 0))) (nab : ga ≠ gb) (hr0_1 : Kd.C (Kd.int .u64) w A0_1 l0_1.length l0_1) (hc0_1 : l0_1.length ≤ c0_1) (hr0_2 : Kd.C (Kd.int .u64) w A0_2 l0_2.length l0_2) (hc0_2 : l0_2.length ≤ c0_2) (hr1_1 : Kd.C (Kd.int .u64) w A1_1 l1_1.length l1_1) (hc1_1 : l1_1.length ≤ c1_1) (hr1_2 : Kd.C (Kd.int .u64) w A1_2 l1_2.length l1_2) (hc1_2 : l1_2.length ≤ c1_2) (h : rat_reckonedMul.f k a0_0 l0_1 l0_2 a1_0 l1_1 l1_2 = some (r1, r2, r3, r4)) :
  Calls Tryd.prog 71 #[.agg #[.bool a0_0, .slice A0_1 l0_1.length c0_1, .slice A0_2 l0_2.length c0_2], .agg #[.bool a1_0, .slice A1_1 l1_1.length c1_1, .slice A1_2 l1_2.length c1_2], .func (.func 80) #[] #[.pointer (some ⟨ga, 0, none⟩), .pointer (some ⟨gb, 0, none⟩)]] w fun e w' => ∃ v1_ v2_ : Value, e = .returned (.tuple #[.agg #[.bool r1, v1_, v2_], .int .i64 r4]) ∧ Kd.R (Kd.int .u64) 26 w' w.heap.size (fun k_ => some k_ ≠ (v2_ : Value).ownBlock) v1_ r2 ∧ Kd.R (Kd.int .u64) 26 w' w.heap.size (fun k_ => some k_ ≠ (v1_ : Value).ownBlock) v2_ r3 ∧ Below w.heap.size w w' := by
 refine rat_reckoned.calls (fun args w => enters_ Tryd.func80 (by kernel_rfl) rfl args w) k a0_0 _ _ l0_1 _ _ l0_2 a1_0 _ _ l1_1 _ _ l1_2 _ r1 r2 r3 r4 w hr0_1 hc0_1 hr0_2 hc0_2 hr1_1 hc1_1 hr1_2 hc1_2 (fun w1 x1 x2 x3 hb hx => ?_) h
 have la := blk_lt bka
 have lb := blk_lt bkb
 exact rat_MulC1.calls k a0_0 _ _ l0_1 _ _ l0_2 a1_0 _ _ l1_1 _ _ l1_2 x1 x2 x3 w1 ga gb (blk_below bka hb) (blk_below bkb hb) nab (Kd.C_below hr0_1 hb) hc0_1 (Kd.C_below hr0_2 hb) hc0_2 (Kd.C_below hr1_1 hb) hc1_1 (Kd.C_below hr1_2 hb) hc1_2 hx
def rat_Mul.f (k : Nat) (a0_0 : Bool) (l0_1 : List Int) (l0_2 : List Int) (a1_0 : Bool) (l1_1 : List Int) (l1_2 : List Int) : Option (Bool × List Int × List Int × Int) := (rat_reckonedMul.f k a0_0 l0_1 l0_2 a1_0 l1_1 l1_2).bind fun bt274 => (some (bt274.1, bt274.2.1, bt274.2.2.1, bt274.2.2.2))
set_option maxHeartbeats 8000000 in
set_option maxRecDepth 100000 in
theorem rat_Mul.calls (k : Nat) (a0_0 : Bool) (A0_1 : Option Addr) (c0_1 : Nat) (l0_1 : List Int) (A0_2 : Option Addr) (c0_2 : Nat) (l0_2 : List Int) (a1_0 : Bool) (A1_1 : Option Addr) (c1_1 : Nat) (l1_1 : List Int) (A1_2 : Option Addr) (c1_2 : Nat) (l1_2 : List Int) (r1 : Bool) (r2 : List Int) (r3 : List Int) (r4 : Int) (w : World) (hr0_1 : Kd.C (Kd.int .u64) w A0_1 l0_1.length l0_1) (hc0_1 : l0_1.length ≤ c0_1) (hr0_2 : Kd.C (Kd.int .u64) w A0_2 l0_2.length l0_2) (hc0_2 : l0_2.length ≤ c0_2) (hr1_1 : Kd.C (Kd.int .u64) w A1_1 l1_1.length l1_1) (hc1_1 : l1_1.length ≤ c1_1) (hr1_2 : Kd.C (Kd.int .u64) w A1_2 l1_2.length l1_2) (hc1_2 : l1_2.length ≤ c1_2) (h : rat_Mul.f k a0_0 l0_1 l0_2 a1_0 l1_1 l1_2 = some (r1, r2, r3, r4)) :
  Calls Tryd.prog 40 #[.agg #[.bool a0_0, .slice A0_1 l0_1.length c0_1, .slice A0_2 l0_2.length c0_2], .agg #[.bool a1_0, .slice A1_1 l1_1.length c1_1, .slice A1_2 l1_2.length c1_2]] w fun e w' => ∃ v1_ v2_ : Value, e = .returned (.tuple #[.agg #[.bool r1, v1_, v2_], .int .i64 r4]) ∧ Kd.R (Kd.int .u64) 26 w' w.heap.size (fun k_ => some k_ ≠ (v2_ : Value).ownBlock) v1_ r2 ∧ Kd.R (Kd.int .u64) 26 w' w.heap.size (fun k_ => some k_ ≠ (v1_ : Value).ownBlock) v2_ r3 ∧ Below w.heap.size w w' := by
 have hmf : ∀ (fn : Fn) (first cap : Array Value) (w : World), (Instr.makeFunc fn first cap).run Tryd.prog w = .ok (.func fn first cap) w := fun _ _ _ _ => rfl
 have hu46 := Tryd.underlying46
 have HR0_1 := aM hr0_1
 have HC0_1 := aM hc0_1
 clear hr0_1 hc0_1
 have HR0_2 := aM hr0_2
 have HC0_2 := aM hc0_2
 clear hr0_2 hc0_2
 have HR1_1 := aM hr1_1
 have HC1_1 := aM hc1_1
 clear hr1_1 hc1_1
 have HR1_2 := aM hr1_2
 have HC1_2 := aM hc1_2
 clear hr1_2 hc1_2
 have HB := aM (Below.refl w.heap.size w)
 have H := h
 clear h
 unfold rat_Mul.f at H
 replace H := oA H
 obtain ⟨⟨t274, t275, t278, t281⟩, A3, H⟩ := H
 (try dsimp only at H)
 simp only [Option.some.injEq, Prod.mk.injEq] at H
 obtain ⟨rfl, rfl, rfl, rfl⟩ := H
 go_enter Tryd.func40, Tryd.ntmps40
 go_wp2_with (first | ((with_reducible refine gate_dst (N := 2) rfl ?_); refine bE 2 #[.bool a0_0, .slice A0_1 l0_1.length c0_1, .slice A0_2 l0_2.length c0_2] 46 ?_; intro gb271 hg w4 hbox hb; have BK271 := aM (hbox); have GE271 : Aside0 (w.heap.size ≤ gb271) := gE hg; replace HB := hS HB.out hb; clear hb hbox hg) | ((with_reducible refine gate_dst (N := 3) rfl ?_); refine bE 3 #[.bool a1_0, .slice A1_1 l1_1.length c1_1, .slice A1_2 l1_2.length c1_2] 46 ?_; intro gb272 hg w5 hbox hb; have BK272 := aM (hbox); have GE272 : Aside0 (w.heap.size ≤ gb272) := gE hg; replace HB := hS HB.out hb; have NB271_272 := nL hg BK271.out; have NB272_271 := nG hg BK271.out; replace BK271 := bB BK271.out hb; clear hb hbox hg) | ((with_reducible refine gate_dst (N := 4) rfl ?_); refine bE 4 #[.bool false, .slice none 0 0, .slice none 0 0] 46 ?_; intro gb273 hg w6 hbox hb; have BK273 := aM (hbox); have GE273 : Aside0 (w.heap.size ≤ gb273) := gE hg; replace HB := hS HB.out hb; have NB271_273 := nL hg BK271.out; have NB273_271 := nG hg BK271.out; replace BK271 := bB BK271.out hb; have NB272_273 := nL hg BK272.out; have NB273_272 := nG hg BK272.out; replace BK272 := bB BK272.out hb; clear hb hbox hg; have hnb7 := NB271_272.out; have hnc7 := NB272_271.out; have hnb8 := NB271_273.out; have hnc8 := NB273_271.out; obtain ⟨hcz9_0, hcz9_1, hcz9_2⟩ := cz3 BK271.out; obtain ⟨hfz9_0, hfz9_1, hfz9_2⟩ := fz3 BK271.out; have hnb10 := NB272_273.out; have hnc10 := NB273_272.out; obtain ⟨hcz11_0, hcz11_1, hcz11_2⟩ := cz3 BK272.out; obtain ⟨hfz11_0, hfz11_1, hfz11_2⟩ := fz3 BK272.out) | ((with_reducible refine gate_callee (f := 71) rfl ?_); refine gL (some 9) Tryd.func71 #[.agg #[.bool a0_0, .slice A0_1 l0_1.length c0_1, .slice A0_2 l0_2.length c0_2], .agg #[.bool a1_0, .slice A1_1 l1_1.length c1_1, .slice A1_2 l1_2.length c1_2], .func (.func 80) #[] #[.pointer (some ⟨gb271, 0, none⟩), .pointer (some ⟨gb272, 0, none⟩)]] ?_; (with_reducible refine (rat_reckonedMul.calls k a0_0 _ _ l0_1 _ _ l0_2 a1_0 _ _ l1_1 _ _ l1_2 t274 t275 t278 t281 _ gb271 gb272 ?bka ?bkb NB271_272.out ?side1 HC0_1.out ?side3 HC0_2.out ?side5 HC1_1.out ?side7 HC1_2.out A3.out).mono ?_); (case bka => (with_reducible repeat (first | refine blk_drewN ?_ _ | refine blk_drew ?_ | refine blk_alloc ?_ _)); exact BK271.out); (case bkb => (with_reducible repeat (first | refine blk_drewN ?_ _ | refine blk_drew ?_ | refine blk_alloc ?_ _)); exact BK272.out); (case side1 => exact dC (Kd.C_below HR0_1.out HB.out)); (case side3 => exact dC (Kd.C_below HR0_2.out HB.out)); (case side5 => exact dC (Kd.C_below HR1_1.out HB.out)); (case side7 => exact dC (Kd.C_below HR1_2.out HB.out)); rintro e w12 ⟨v276, v279, rfl, ho0, ho1, hb⟩; refine ⟨_, rfl, ?_⟩; have HO277 := aM (Kd.R_lower ho0 (below_size eB)); have HO280 := aM (Kd.R_lower ho1 (below_size eB)); replace BK271 := bB BK271.out hb; replace BK272 := bB BK272.out hb; replace BK273 := bB BK273.out hb; replace HB := hS HB.out hb; (try clear hb); (try clear ho0); (try clear ho1); obtain ⟨hcz13_0, hcz13_1, hcz13_2⟩ := cz3 BK273.out; obtain ⟨hfz13_0, hfz13_1, hfz13_2⟩ := fz3 BK273.out; obtain ⟨Ao14, co14, rfl⟩ := Kd.R_slice HO277.out; obtain ⟨Ao15, co15, rfl⟩ := Kd.R_slice HO280.out))
 refine bodyPost_ret (results_ct rfl _ _ gb273 46 #[.bool t274, .slice Ao14 t275.length co14, .slice Ao15 t278.length co15] (0, 0) _ rfl (dP BK273.out) Tryd.underlying46 rfl (by kernel_rfl)) rfl ?_
 exact ⟨_, _, dE, oR HO277.out BK273.out, oR HO280.out BK273.out, eB⟩
def plumblaw07_alike.f (a0 : Int) (a1 : Int) : Option (Bool) := if a0 = a1 then (some true) else (if (Go.bits .andNot .u64 a0 9223372036854775808) = 0 then (some ((Go.bits .andNot .u64 a1 9223372036854775808) == 0)) else (some false))
set_option maxHeartbeats 8000000 in
set_option maxRecDepth 100000 in
theorem plumblaw07_alike.calls (a0 : Int) (a1 : Int) (r : Bool) (w : World) (h : plumblaw07_alike.f a0 a1 = some r) :
  Calls Tryd.prog 41 #[.int .u64 a0, .int .u64 a1] w fun e w' => e = .returned (.bool r) ∧ Drawn0 w w' := by
 have H := h
 clear h
 unfold plumblaw07_alike.f at H
 by_cases c3 : a0 = a1
 ·rw [if_pos c3] at H
  obtain ⟨c3b0, c3b1⟩ := bT c3
  clear c3
  obtain rfl := Option.some.inj H
  go_enter Tryd.func41, Tryd.ntmps41
  go_wp2
  go_ret
  exact ⟨dF, dD⟩
 ·rw [if_neg c3] at H
  obtain ⟨c3b0, c3b1⟩ := bF c3
  by_cases c4 : (Go.bits .andNot .u64 a0 9223372036854775808) = 0
  ·rw [if_pos c4] at H
   obtain ⟨c4b0, c4b1⟩ := bT c4
   clear c4
   obtain rfl := Option.some.inj H
   go_enter Tryd.func41, Tryd.ntmps41
   go_wp2
   go_ret
   exact ⟨dF, dD⟩
  ·rw [if_neg c4] at H
   obtain ⟨c4b0, c4b1⟩ := bF c4
   obtain rfl := Option.some.inj H
   go_enter Tryd.func41, Tryd.ntmps41
   go_wp2
   go_ret
   exact ⟨dF, dD⟩
end Go.Proofs.YtoefabmlkbhmpaaDoor.PA
