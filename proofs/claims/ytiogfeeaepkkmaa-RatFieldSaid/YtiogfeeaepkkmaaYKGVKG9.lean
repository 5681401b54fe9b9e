/- A part of the proof (9). -/
import Derived.Test.YtiogfeeaepkkmaaYKGVKG2
import Derived.Test.YtiogfeeaepkkmaaYKGVKG6
import Derived.Test.YtiogfeeaepkkmaaYKGVKG7
import Derived.Test.YtiogfeeaepkkmaaYKGVKG8
namespace Go.Proofs.Ytiogfeeaepkkmaa.PA
open Go.RowKit Go.Proofs.YtiogfeeaepkkmaaW.PrintWords Go.Proofs.YtiogfeeaepkkmaaW.PrintLast Go.Proofs.YtiogfeeaepkkmaaW.PrintMore
attribute [local go_sem] max2_int min2_int max_two min_two max_three min_three max_four min_four
set_option linter.unusedVariables false
set_option linter.unusedSimpArgs false
def rat_AddC1.j0 : Nat → List Int → List Int → List Int → Bool → Bool → List Int → List Int → Bool → List Int → List Int → Option (Bool × List Int × List Int)
 | 0, _, _, _, _, _, _, _, _, _, _ => none
 | k + 1, x3, x4, x5, x35, x410000, x410001, x410002, x411000, x411001, x411002 => if x35 = true then (if x410000 = true then ((nat_Add.f k x3 x4).bind fun bt421 => ((rat_fits.f bt421.1 bt421.2).bind fun t425 => ((rat_lowest.f k true t425 x5).bind fun bt428 => (some (bt428.1, bt428.2.1, bt428.2.2))))) else ((nat_Add.f k x3 x4).bind fun bt435 => ((rat_fits.f bt435.1 bt435.2).bind fun t439 => ((rat_lowest.f k x411000 t439 x5).bind fun bt442 => (some (bt442.1, bt442.2.1, bt442.2.2)))))) else ((nat_Cmp.f k x3 x4).bind fun t449 => (if t449 < 0 then ((nat_Sub.f k x4 x3).bind fun bt450 => ((rat_fits.f bt450.1 bt450.2).bind fun t454 => ((rat_lowest.f k x411000 t454 x5).bind fun bt457 => (some (bt457.1, bt457.2.1, bt457.2.2))))) else ((nat_Sub.f k x3 x4).bind fun bt464 => ((rat_fits.f bt464.1 bt464.2).bind fun t468 => ((rat_lowest.f k x410000 t468 x5).bind fun bt471 => (some (bt471.1, bt471.2.1, bt471.2.2)))))))
def rat_AddC1.f (k : Nat) (a0_0 : Bool) (l0_1 : List Int) (l0_2 : List Int) (a1_0 : Bool) (l1_1 : List Int) (l1_2 : List Int) : Option (Bool × List Int × List Int) := (rat_mul.f k l0_1 l1_2).bind fun t412 => ((rat_mul.f k l1_1 l0_2).bind fun t415 => ((rat_mul.f k l0_2 l1_2).bind fun t418 => (if (a0_0 == a1_0) = true then (rat_AddC1.j0 k t412 t415 t418 true a0_0 l0_1 l0_2 a1_0 l1_1 l1_2) else (if (t412.length : Int) = 0 then (rat_AddC1.j0 k t412 t415 t418 true a0_0 l0_1 l0_2 a1_0 l1_1 l1_2) else (rat_AddC1.j0 k t412 t415 t418 ((t415.length : Int) == 0) a0_0 l0_1 l0_2 a1_0 l1_1 l1_2)))))
theorem rat_AddC1.mono_l : ∀ k, (∀ y0 y1 y2 y3 y4 y5 y6 y7 y8 y9, LeO (rat_AddC1.j0 k y0 y1 y2 y3 y4 y5 y6 y7 y8 y9) (rat_AddC1.j0 (k + 1) y0 y1 y2 y3 y4 y5 y6 y7 y8 y9))
 | 0 => fun _ _ _ _ _ _ _ _ _ _ r h => by simp [rat_AddC1.j0] at h
 | k + 1 => by
  have ih0 := rat_AddC1.mono_l k
  ·intro y0 y1 y2 y3 y4 y5 y6 y7 y8 y9
   unfold rat_AddC1.j0
   have m0_ := nat_Add.mono
   have m1_ := nat_Cmp.mono
   have m2_ := nat_Sub.mono
   have m3_ := rat_lowest.mono
   have m4_ := rat_mul.mono
   exact mX
theorem rat_AddC1.mono : ∀ a0 a1 a2 a3 a4 a5 k, LeO (rat_AddC1.f k a0 a1 a2 a3 a4 a5) (rat_AddC1.f (k + 1) a0 a1 a2 a3 a4 a5) := by
 intro a0 a1 a2 a3 a4 a5 k
 have ih0 := rat_AddC1.mono_l k
 unfold rat_AddC1.f
 have m0_ := nat_Add.mono
 have m1_ := nat_Cmp.mono
 have m2_ := nat_Sub.mono
 have m3_ := rat_lowest.mono
 have m4_ := rat_mul.mono
 exact mX
def rat_AddC1.T1 : Bool × List (List Nat × List Nat) := (true, [([], []), ([0], [0]), ([], []), ([2], [2]), ([1, 3], [1, 3]), ([], []), ([5], [5]), ([], []), ([7], [7]), ([6, 8, 4], [6, 8]), ([], []), ([10], [10]), ([], []), ([12], [12]), ([11, 13, 9], [11, 13]), ([4, 14, 0, 1, 2, 3, 4], [4]), ([9, 15, 0, 1, 2, 3, 4, 5, 6, 7, 8, 9, 15], [9]), ([14, 16, 0, 1, 2, 3, 4, 5, 6, 7, 8, 9, 10, 11, 12, 13, 14, 15, 16], [14])])
def rat_AddC1.B1 : List Nat := [0, 1, 0, 4, 15, 0, 32, 0, 128, 511, 0, 1024, 0, 4096, 16383, 32767, 65535, 131071]
theorem rat_AddC1.tab1 : rtab .any (opsOf Try.f42 1) = rat_AddC1.T1 := by kernel_rfl
theorem rat_AddC1.bits1 : waitsOk rat_AddC1.T1.2 rat_AddC1.B1 = true := by kernel_rfl
def rat_AddC1.T3 : Bool × List (List Nat × List Nat) := (true, [([], []), ([0], [0]), ([1], [1]), ([2], [2]), ([3, 2], [2, 3]), ([2, 4], [2, 4]), ([], []), ([], []), ([6, 7, 2], [6, 7]), ([8], [8]), ([8], [8]), ([9, 10, 8], [9, 10]), ([], []), ([5, 11, 12, 11], [5, 11, 12]), ([13, 13, 0, 1, 2, 3, 4, 5, 6, 7, 8, 9, 10, 11, 12, 13], [13])])
def rat_AddC1.B3 : List Nat := [0, 1, 3, 7, 15, 31, 0, 0, 199, 455, 455, 1991, 0, 8191, 16383]
theorem rat_AddC1.tab3 : rtab .any (opsOf Try.f42 3) = rat_AddC1.T3 := by kernel_rfl
theorem rat_AddC1.bits3 : waitsOk rat_AddC1.T3.2 rat_AddC1.B3 = true := by kernel_rfl
def rat_AddC1.T5 : Bool × List (List Nat × List Nat) := (true, [([], []), ([0], [0]), ([], []), ([], []), ([2, 3], [2, 3]), ([4], [4]), ([4], [4]), ([5, 6, 4], [5, 6]), ([], []), ([1, 7, 8, 7], [1, 7, 8]), ([9, 9, 0, 1, 2, 3, 4, 5, 6, 7, 8, 9], [9])])
def rat_AddC1.B5 : List Nat := [0, 1, 0, 0, 12, 28, 28, 124, 0, 511, 1023]
theorem rat_AddC1.tab5 : rtab .any (opsOf Try.f42 5) = rat_AddC1.T5 := by kernel_rfl
theorem rat_AddC1.bits5 : waitsOk rat_AddC1.T5.2 rat_AddC1.B5 = true := by kernel_rfl
def rat_AddC1.T6 : Bool × List (List Nat × List Nat) := (true, [([], []), ([0], [0]), ([], []), ([], []), ([2, 3], [2, 3]), ([4], [4]), ([4], [4]), ([5, 6, 4], [5, 6]), ([], []), ([1, 7, 8, 7], [1, 7, 8]), ([9, 9, 0, 1, 2, 3, 4, 5, 6, 7, 8, 9], [9])])
def rat_AddC1.B6 : List Nat := [0, 1, 0, 0, 12, 28, 28, 124, 0, 511, 1023]
theorem rat_AddC1.tab6 : rtab .any (opsOf Try.f42 6) = rat_AddC1.T6 := by kernel_rfl
theorem rat_AddC1.bits6 : waitsOk rat_AddC1.T6.2 rat_AddC1.B6 = true := by kernel_rfl
set_option maxHeartbeats 8000000 in
set_option maxRecDepth 100000 in
theorem rat_AddC1.calls (k : Nat) (a0_0 : Bool) (A0_1 : Option Addr) (c0_1 : Nat) (l0_1 : List Int) (A0_2 : Option Addr) (c0_2 : Nat) (l0_2 : List Int) (a1_0 : Bool) (A1_1 : Option Addr) (c1_1 : Nat) (l1_1 : List Int) (A1_2 : Option Addr) (c1_2 : Nat) (l1_2 : List Int) (r1 : Bool) (r2 : List Int) (r3 : List Int) (w : World) (gb409 gb410 : Nat) (bka_ : w.heap[gb409]? = some (.cells #[.bool a0_0, .slice A0_1 l0_1.length c0_1, .slice A0_2 l0_2.length c0_2] 25 (0, 0))) (bkb_ : w.heap[gb410]? = some (.cells #[.bool a1_0, .slice A1_1 l1_1.length c1_1, .slice A1_2 l1_2.length c1_2] 25 (0, 0))) (nab_ : gb409 ≠ gb410) (hr0_1 : Kd.C (Kd.int .u64) w A0_1 l0_1.length l0_1) (hc0_1 : l0_1.length ≤ c0_1) (hr0_2 : Kd.C (Kd.int .u64) w A0_2 l0_2.length l0_2) (hc0_2 : l0_2.length ≤ c0_2) (hr1_1 : Kd.C (Kd.int .u64) w A1_1 l1_1.length l1_1) (hc1_1 : l1_1.length ≤ c1_1) (hr1_2 : Kd.C (Kd.int .u64) w A1_2 l1_2.length l1_2) (hc1_2 : l1_2.length ≤ c1_2) (h : rat_AddC1.f k a0_0 l0_1 l0_2 a1_0 l1_1 l1_2 = some (r1, r2, r3)) :
  Calls Try.prog 42 #[.pointer (some ⟨gb409, 0, none⟩), .pointer (some ⟨gb410, 0, none⟩)] w fun e w' => ∃ v1_ v2_ : Value, e = .returned (.agg #[.bool r1, v1_, v2_]) ∧ Kd.R (Kd.int .u64) 44 w' w.heap.size (fun k_ => some k_ ≠ (v2_ : Value).ownBlock) v1_ r2 ∧ Kd.R (Kd.int .u64) 44 w' w.heap.size (fun k_ => some k_ ≠ (v1_ : Value).ownBlock) v2_ r3 ∧ Below w.heap.size w w' := by
 have hu46 := Try.underlying25
 have HR0_1 := aM hr0_1
 have HC0_1 := aM hc0_1
 clear hr0_1 hc0_1
 have HR0_2 := aM hr0_2
 have HC0_2 := aM hc0_2
 clear hr0_2 hc0_2
 have HR1_1 := aM hr1_1
 have HC1_1 := aM hc1_1
 clear hr1_1 hc1_1
 have HR1_2 := aM hr1_2
 have HC1_2 := aM hc1_2
 clear hr1_2 hc1_2
 have HB := aM (Below.refl w.heap.size w)
 have BK409 := aM bka_
 have BK410 := aM bkb_
 have NB409_410 := aM nab_
 have NB410_409 := aM nab_.symm
 clear bka_ bkb_ nab_
 have H := h
 clear h
 unfold rat_AddC1.f at H
 replace H := oA H
 obtain ⟨t412, A3, H⟩ := H
 (try dsimp only at H)
 replace H := oA H
 obtain ⟨t415, A4, H⟩ := H
 (try dsimp only at H)
 replace H := oA H
 obtain ⟨t418, A5, H⟩ := H
 (try dsimp only at H)
 have HC6 := aM H
 clear H
 go_enter Try.func42, Try.ntmps42
 try go_wp2_with (first | ((with_reducible refine gate_dst (N := 2) rfl ?_); (try (refine gate_guard (by rfl) ?_; dsimp only)); refine bE 2 #[.bool false, .slice none 0 0, .slice none 0 0] 25 ?_; intro gb411 hg w9 hbox hb; have BK411 := aM (hbox); have GE411 : Aside0 (w.heap.size ≤ gb411) := gE hg; replace HB := hS HB.out hb; have NB409_411 := nL hg BK409.out; have NB411_409 := nG hg BK409.out; replace BK409 := bB BK409.out hb; have NB410_411 := nL hg BK410.out; have NB411_410 := nG hg BK410.out; replace BK410 := bB BK410.out hb; clear hb hbox hg))
 replace BK409 := aM (blk_drew BK409.out)
 replace BK410 := aM (blk_drew BK410.out)
 replace BK411 := aM (blk_drew BK411.out)
 replace HB := aM (below_drew1 HB.out)
 refine start_ (n := 18) (S := fun w' => w'.cell? ⟨gb409, 0, none⟩ = some (.bool a0_0) ∧ w'.cell? ⟨gb409, 1, none⟩ = some (.slice A0_1 l0_1.length c0_1) ∧ w'.cell? ⟨gb409, 2, none⟩ = some (.slice A0_2 l0_2.length c0_2) ∧ w'.cell? ⟨gb410, 0, none⟩ = some (.bool a1_0) ∧ w'.cell? ⟨gb410, 1, none⟩ = some (.slice A1_1 l1_1.length c1_1) ∧ w'.cell? ⟨gb410, 2, none⟩ = some (.slice A1_2 l1_2.length c1_2)) (ds := []) #[false, false, false, false, false, false, false, false, false, false, false, false, false, false, false, false, false, false] (by kernel_rfl) rfl rfl ⟨(blk_cell BK409.out 0).trans rfl, (blk_cell BK409.out 1).trans rfl, (blk_cell BK409.out 2).trans rfl, (blk_cell BK410.out 0).trans rfl, (blk_cell BK410.out 1).trans rfl, (blk_cell BK410.out 2).trans rfl⟩ (fun hHeld => ?_); refine with_tabW rat_AddC1.tab1 rat_AddC1.bits1 (fun HT_ HW_ => ?_)
 generalize w9.drew = w10 at BK409 BK410 BK411 HB hHeld ⊢
 refine pP 0 (some 6) ?_
 refine pP 2 (some 8) ?_
 refine pP 5 (some 11) ?_
 refine pP 7 (some 13) ?_
 refine pP 10 (some 16) ?_
 refine pP 12 (some 18) ?_
 refine pH6 1 (some 7) hHeld ?_
 refine pH6 3 (some 9) hHeld ?_
 refine pH6 6 (some 12) hHeld ?_
 refine pH6 8 (some 14) hHeld ?_
 refine pH6 11 (some 17) hHeld ?_
 refine pH6 13 (some 19) hHeld ?_
 refine one_ (i := 4) (N := some 10) #[true, true, true, true, true, true, true, true, true, false, true, true, true, true, false, false, false, false] rfl rfl (one_of HT_.out (by kernel_rfl)) (by decide) (fun K hK => ?_)
 refine goes_ Try.func30 (by kernel_rfl) rfl #[.slice A0_1 l0_1.length c0_1, .slice A1_2 l1_2.length c1_2] (by rfl) rfl rfl dA ?_
 with_reducible refine (rat_mul.calls k _ _ l0_1 _ _ l1_2 t412 _ ?side1 HC0_1.out ?side3 HC1_2.out A3.out).mono ?_
 (case side1 => exact dC (Kd.C_below HR0_1.out HB.out))
 (case side3 => exact dC (Kd.C_below HR1_2.out HB.out))
 rintro e w11 ⟨v413, rfl, ho0, hb⟩
 refine ⟨_, rfl, ?_⟩
 have HO414 := aM (Kd.R_lower ho0 (below_size eB))
 replace BK409 := bB BK409.out hb
 replace BK410 := bB BK410.out hb
 replace BK411 := bB BK411.out hb
 replace HB := hS HB.out hb
 (try clear hb)
 (try clear hb2)
 (try clear hk)
 (try clear hi)
 (try clear ho0)
 refine hK.out _ _ ⟨(blk_cell BK409.out 0).trans rfl, (blk_cell BK409.out 1).trans rfl, (blk_cell BK409.out 2).trans rfl, (blk_cell BK410.out 0).trans rfl, (blk_cell BK410.out 1).trans rfl, (blk_cell BK410.out 2).trans rfl⟩ (fun hHeld => ?_)
 clear hK K
 refine norm_ (a' := ?_) ?_ ?_
 rotate_left
 ·show Act.put _ (some 10) _ = _
  simp only [Act.put, List.setIfInBounds_toArray, List.set_cons_zero, List.set_cons_succ, i64_w, i32_w]
  rfl
 refine one_ (i := 9) (N := some 15) #[true, true, true, true, true, true, true, true, true, true, true, true, true, true, false, false, false, false] rfl rfl (one_of HT_.out (by kernel_rfl)) (by decide) (fun K hK => ?_)
 refine goes_ Try.func30 (by kernel_rfl) rfl #[.slice A1_1 l1_1.length c1_1, .slice A0_2 l0_2.length c0_2] (by rfl) rfl rfl dA ?_
 with_reducible refine (rat_mul.calls k _ _ l1_1 _ _ l0_2 t415 _ ?side1 HC1_1.out ?side3 HC0_2.out A4.out).mono ?_
 (case side1 => exact dC (Kd.C_below HR1_1.out HB.out))
 (case side3 => exact dC (Kd.C_below HR0_2.out HB.out))
 rintro e w12 ⟨v416, rfl, ho0, hb⟩
 refine ⟨_, rfl, ?_⟩
 have HO417 := aM (Kd.R_lower (nW ho0 HO414.out) (below_size eB))
 replace HO414 := oE HO414.out ho0 hb
 replace BK409 := bB BK409.out hb
 replace BK410 := bB BK410.out hb
 replace BK411 := bB BK411.out hb
 replace HB := hS HB.out hb
 (try clear hb)
 (try clear hb2)
 (try clear hk)
 (try clear hi)
 (try clear ho0)
 refine hK.out _ _ ⟨(blk_cell BK409.out 0).trans rfl, (blk_cell BK409.out 1).trans rfl, (blk_cell BK409.out 2).trans rfl, (blk_cell BK410.out 0).trans rfl, (blk_cell BK410.out 1).trans rfl, (blk_cell BK410.out 2).trans rfl⟩ (fun hHeld => ?_)
 clear hK K
 refine norm_ (a' := ?_) ?_ ?_
 rotate_left
 ·show Act.put _ (some 15) _ = _
  simp only [Act.put, List.setIfInBounds_toArray, List.set_cons_zero, List.set_cons_succ, i64_w, i32_w]
  rfl
 refine one_ (i := 14) (N := some 20) #[true, true, true, true, true, true, true, true, true, true, true, true, true, true, true, false, false, false] rfl rfl (one_of HT_.out (by kernel_rfl)) (by decide) (fun K hK => ?_)
 refine goes_ Try.func30 (by kernel_rfl) rfl #[.slice A0_2 l0_2.length c0_2, .slice A1_2 l1_2.length c1_2] (by rfl) rfl rfl dA ?_
 with_reducible refine (rat_mul.calls k _ _ l0_2 _ _ l1_2 t418 _ ?side1 HC0_2.out ?side3 HC1_2.out A5.out).mono ?_
 (case side1 => exact dC (Kd.C_below HR0_2.out HB.out))
 (case side3 => exact dC (Kd.C_below HR1_2.out HB.out))
 rintro e w13 ⟨v419, rfl, ho0, hb⟩
 refine ⟨_, rfl, ?_⟩
 have HO420 := aM (Kd.R_lower (nW (nW ho0 HO414.out) HO417.out) (below_size eB))
 replace HO414 := oE HO414.out ho0 hb
 replace HO417 := oE HO417.out ho0 hb
 replace BK409 := bB BK409.out hb
 replace BK410 := bB BK410.out hb
 replace BK411 := bB BK411.out hb
 replace HB := hS HB.out hb
 (try clear hb)
 (try clear hb2)
 (try clear hk)
 (try clear hi)
 (try clear ho0)
 refine hK.out _ _ ⟨(blk_cell BK409.out 0).trans rfl, (blk_cell BK409.out 1).trans rfl, (blk_cell BK409.out 2).trans rfl, (blk_cell BK410.out 0).trans rfl, (blk_cell BK410.out 1).trans rfl, (blk_cell BK410.out 2).trans rfl⟩ (fun hHeld => ?_)
 clear hK K
 refine norm_ (a' := ?_) ?_ ?_
 rotate_left
 ·show Act.put _ (some 20) _ = _
  simp only [Act.put, List.setIfInBounds_toArray, List.set_cons_zero, List.set_cons_succ, i64_w, i32_w]
  rfl
 refine pP 15 (some 3) ?_
 refine pP 16 (some 4) ?_
 refine pP 17 (some 5) ?_
 refine done_ (done_of HT_.out (by kernel_rfl)) ?_
 go_upto_region 2 with (fail)
 go_cut [35] (fun v35 wc => ∃ (kq : Nat) (x35_5 : Bool), v35 = .bool x35_5 ∧ Aside0 (rat_AddC1.j0 kq t412 t415 t418 x35_5 a0_0 l0_1 l0_2 a1_0 l1_1 l1_2 = some (r1, r2, r3)) ∧ Aside0 (kq ≤ k) ∧ Aside0 (Kd.R (Kd.int .u64) 44 wc w.heap.size (fun k_ => some k_ ≠ (v416 : Value).ownBlock ∧ some k_ ≠ (v419 : Value).ownBlock) v413 t412) ∧ Aside0 (Kd.R (Kd.int .u64) 44 wc w.heap.size (fun k_ => some k_ ≠ (v413 : Value).ownBlock ∧ some k_ ≠ (v419 : Value).ownBlock) v416 t415) ∧ Aside0 (Kd.R (Kd.int .u64) 44 wc w.heap.size (fun k_ => some k_ ≠ (v413 : Value).ownBlock ∧ some k_ ≠ (v416 : Value).ownBlock) v419 t418) ∧ Aside0 (wc.heap[gb409]? = some (.cells #[.bool a0_0, (.slice A0_1 l0_1.length c0_1), (.slice A0_2 l0_2.length c0_2)] 25 (0, 0))) ∧ Aside0 (wc.heap[gb410]? = some (.cells #[.bool a1_0, (.slice A1_1 l1_1.length c1_1), (.slice A1_2 l1_2.length c1_2)] 25 (0, 0))) ∧ Aside0 (wc.heap[gb411]? = some (.cells #[.bool false, (.slice none 0 0), (.slice none 0 0)] 25 (0, 0))) ∧ Aside0 (Below w.heap.size w wc))
 case first =>
  have H := HC6.out
  clear HC6
  by_cases c14 : (a0_0 == a1_0) = true
  ·rw [if_pos c14] at H
   have c14b0 : (a0_0 == a1_0) = true := c14
   (try (have c14b1 : decide (a0_0 = a1_0) = true := by simpa using c14))
   (try (have c14b2 : (a0_0 == a1_0) = true := by simpa using c14))
   clear c14
   (first | rw [c14b0] | (simp only [i64_w, i32_w]; rw [c14b0]) | rw [c14b1] | skip)
   have H' := aM H
   clear H
   have hnb15 := NB409_410.out
   have hnc15 := NB410_409.out
   have hnb16 := NB409_411.out
   have hnc16 := NB411_409.out
   obtain ⟨hcz17_0, hcz17_1, hcz17_2⟩ := cz3 BK409.out
   obtain ⟨hfz17_0, hfz17_1, hfz17_2⟩ := fz3 BK409.out
   have hnb18 := NB410_411.out
   have hnc18 := NB411_410.out
   obtain ⟨hcz19_0, hcz19_1, hcz19_2⟩ := cz3 BK410.out
   obtain ⟨hfz19_0, hfz19_1, hfz19_2⟩ := fz3 BK410.out
   go_wp2
   go_meet
   case rel => exact ⟨_, (true), dF, H', ⟨dN⟩, ⟨oS HO414.out⟩, ⟨oS HO417.out⟩, ⟨oS HO420.out⟩, ⟨dK BK409.out⟩, ⟨dK BK410.out⟩, ⟨dK BK411.out⟩, ⟨dG GE411.out⟩⟩
  ·rw [if_neg c14] at H
   have c14b0 : (a0_0 == a1_0) = false := by simpa using c14
   (try (have c14b1 : decide (a0_0 = a1_0) = false := by simpa using c14))
   (try (have c14b2 : (a0_0 == a1_0) = false := by simpa using c14))
   (try (have c14b3 : ¬ (a0_0 = a1_0) := by simpa using c14))
   clear c14
   (first | rw [c14b0] | (simp only [i64_w, i32_w]; rw [c14b0]) | rw [c14b1] | skip)
   by_cases c20 : (t412.length : Int) = 0
   ·rw [if_pos c20] at H
    obtain ⟨c20b0, c20b1⟩ := bT c20
    clear c20
    have H' := aM H
    clear H
    have hnb21 := NB409_410.out
    have hnc21 := NB410_409.out
    have hnb22 := NB409_411.out
    have hnc22 := NB411_409.out
    obtain ⟨hcz23_0, hcz23_1, hcz23_2⟩ := cz3 BK409.out
    obtain ⟨hfz23_0, hfz23_1, hfz23_2⟩ := fz3 BK409.out
    have hnb24 := NB410_411.out
    have hnc24 := NB411_410.out
    obtain ⟨hcz25_0, hcz25_1, hcz25_2⟩ := cz3 BK410.out
    obtain ⟨hfz25_0, hfz25_1, hfz25_2⟩ := fz3 BK410.out
    obtain ⟨Ao26, co26, rfl⟩ := Kd.R_slice HO414.out
    go_wp2
    go_meet
    case rel => exact ⟨_, (true), dF, H', ⟨dN⟩, ⟨oS HO414.out⟩, ⟨oS HO417.out⟩, ⟨oS HO420.out⟩, ⟨dK BK409.out⟩, ⟨dK BK410.out⟩, ⟨dK BK411.out⟩, ⟨dG GE411.out⟩⟩
   ·rw [if_neg c20] at H
    obtain ⟨c20b0, c20b1⟩ := bF c20
    have c20b2 : ¬ (t412 = []) := fun h_ => c20 (by rw [h_]; rfl)
    have H' := aM H
    clear H
    have hnb27 := NB409_410.out
    have hnc27 := NB410_409.out
    have hnb28 := NB409_411.out
    have hnc28 := NB411_409.out
    obtain ⟨hcz29_0, hcz29_1, hcz29_2⟩ := cz3 BK409.out
    obtain ⟨hfz29_0, hfz29_1, hfz29_2⟩ := fz3 BK409.out
    have hnb30 := NB410_411.out
    have hnc30 := NB411_410.out
    obtain ⟨hcz31_0, hcz31_1, hcz31_2⟩ := cz3 BK410.out
    obtain ⟨hfz31_0, hfz31_1, hfz31_2⟩ := fz3 BK410.out
    obtain ⟨Ao32, co32, rfl⟩ := Kd.R_slice HO414.out
    obtain ⟨Ao33, co33, rfl⟩ := Kd.R_slice HO417.out
    go_wp2
    go_meet
    case rel => exact ⟨_, (((t415.length : Int) == 0)), dF, H', ⟨dN⟩, ⟨oS HO414.out⟩, ⟨oS HO417.out⟩, ⟨oS HO420.out⟩, ⟨dK BK409.out⟩, ⟨dK BK410.out⟩, ⟨dK BK411.out⟩, ⟨dG GE411.out⟩⟩
 case rest =>
  clear HC6
  obtain ⟨kq, x35_5, rfl, HA, HJ5, HO_3, HO_4, HO_5, BK409, BK410, BK411, HB⟩ := hcut
  cases kq with
  | zero => exact absurd HA.out (by simp [rat_AddC1.j0])
  | succ kj5 =>
   have H := HA.out
   clear HA
   simp only [rat_AddC1.j0] at H
   by_cases c34 : x35_5 = true
   ·subst c34
    rw [if_pos rfl] at H
    (try dsimp only at H)
    by_cases c35 : a0_0 = true
    ·subst c35
     rw [if_pos rfl] at H
     (try dsimp only at H)
     replace H := oA H
     obtain ⟨⟨t421, t422⟩, A36, H⟩ := H
     (try dsimp only at H)
     replace H := oA H
     obtain ⟨t425, A37, H⟩ := H
     (try dsimp only at H)
     replace H := oA H
     obtain ⟨⟨t428, t429, t432⟩, A38, H⟩ := H
     (try dsimp only at H)
     simp only [Option.some.injEq, Prod.mk.injEq] at H
     obtain ⟨rfl, rfl, rfl⟩ := H
     try go_wp2
     replace HO_3 := aM (Kd.R_drew HO_3.out)
     replace HO_4 := aM (Kd.R_drew HO_4.out)
     replace HO_5 := aM (Kd.R_drew HO_5.out)
     replace BK409 := aM (blk_drew BK409.out)
     replace BK410 := aM (blk_drew BK410.out)
     replace BK411 := aM (blk_drew BK411.out)
     replace HB := aM (below_drew1 HB.out)
     obtain ⟨Ao40, co40, eo40⟩ := Kd.R_slice HO_3.out
     (first | subst eo40 | (injection eo40 with f1_ f2_ f3_; have f4_ := f1_.symm; have f5_ := f3_.symm; clear f1_ f2_ f3_; subst f4_; subst f5_))
     obtain ⟨Ao41, co41, eo41⟩ := Kd.R_slice HO_4.out
     (first | subst eo41 | (injection eo41 with f1_ f2_ f3_; have f4_ := f1_.symm; have f5_ := f3_.symm; clear f1_ f2_ f3_; subst f4_; subst f5_))
     refine start_ (n := 15) (S := fun w' => w'.cell? ⟨gb409, 0, none⟩ = some (.bool true) ∧ w'.cell? ⟨gb409, 1, none⟩ = some (.slice A0_1 l0_1.length c0_1) ∧ w'.cell? ⟨gb409, 2, none⟩ = some (.slice A0_2 l0_2.length c0_2)) (ds := []) #[false, false, false, false, false, false, false, false, false, false, false, false, false, false, false] (by kernel_rfl) rfl rfl (cz3 BK409.out) (fun hHeld => ?_); refine with_tabW rat_AddC1.tab3 rat_AddC1.bits3 (fun HT_ HW_ => ?_)
     generalize wc.drew = w39 at HO_3 HO_4 HO_5 BK409 BK410 BK411 HB hHeld ⊢
     refine pP 0 (some 36) ?_
     refine pP 6 (some 42) ?_
     refine pP 7 (some 43) ?_
     refine pP 12 (some 48) ?_
     refine pH3 1 (some 37) hHeld ?_
     refine pP 2 (some 38) ?_
     refine pure_ (i := 3) (N := some 39) (v := undef) (a' := ?_) #[true, true, true, true, false, false, true, true, false, false, false, false, true, false, false] rfl rfl dT (fun _ _ _ h => h) (Or.inr ⟨by rfl, rfl⟩) ?_ ?_
     rotate_left
     ·simp only [Act.put, List.setIfInBounds_toArray, List.set_cons_zero, List.set_cons_succ, i64_w, i32_w]
      rfl
     refine pure_ (i := 4) (N := some 40) (v := undef) (a' := ?_) #[true, true, true, true, true, false, true, true, false, false, false, false, true, false, false] rfl rfl dT (fun _ _ _ h => h) (Or.inr ⟨by rfl, rfl⟩) ?_ ?_
     rotate_left
     ·simp only [Act.put, List.setIfInBounds_toArray, List.set_cons_zero, List.set_cons_succ, i64_w, i32_w]
      rfl
     refine pP 5 (some 41) ?_
     refine one_ (i := 8) (N := some 44) #[true, true, true, true, true, true, true, true, true, false, false, false, true, false, false] rfl rfl (one_of HT_.out (by kernel_rfl)) (by decide) (fun K hK => ?_)
     refine goes_ Try.func38 (by kernel_rfl) rfl #[.slice Ao40 t412.length co40, .slice Ao41 t415.length co41] (by rfl) rfl rfl dA ?_
     with_reducible refine (nat_Add.calls kj5 _ _ t412 _ _ t415 t421 t422 _ ?side1 (Kd.R_reads' HO_3.out).2.1 ?side3 (Kd.R_reads' HO_4.out).2.1 A36.out).mono ?_
     (case side1 => exact dC (Kd.R_reads' HO_3.out).2.2)
     (case side3 => exact dC (Kd.R_reads' HO_4.out).2.2)
     rintro e w42 ⟨v423, rfl, ho0, hb⟩
     refine ⟨_, rfl, ?_⟩
     have HO424 := aM (Kd.R_lower (nW (nW (nW ho0 HO_3.out) HO_4.out) HO_5.out) (below_size eB))
     replace HO_3 := oE HO_3.out ho0 hb
     replace HO_4 := oE HO_4.out ho0 hb
     replace HO_5 := oE HO_5.out ho0 hb
     replace BK409 := bB BK409.out hb
     replace BK410 := bB BK410.out hb
     replace BK411 := bB BK411.out hb
     replace HB := hS HB.out hb
     (try clear hb)
     (try clear hb2)
     (try clear hk)
     (try clear hi)
     (try clear ho0)
     obtain ⟨Ao43, co43, eo43⟩ := Kd.R_slice HO424.out
     (first | subst eo43 | (injection eo43 with f1_ f2_ f3_; have f4_ := f1_.symm; have f5_ := f3_.symm; clear f1_ f2_ f3_; subst f4_; subst f5_))
     refine hK.out _ _ (cz3 BK409.out) (fun hHeld => ?_)
     clear hK K
     refine norm_ (a' := ?_) ?_ ?_
     rotate_left
     ·show Act.put _ (some 44) _ = _
      simp only [Act.put, List.setIfInBounds_toArray, List.set_cons_zero, List.set_cons_succ, i64_w, i32_w]
      rfl
     refine pP 9 (some 45) ?_
     refine pP 10 (some 46) ?_
     refine one_ (i := 11) (N := some 47) #[true, true, true, true, true, true, true, true, true, true, true, true, true, false, false] rfl rfl (one_of HT_.out (by kernel_rfl)) (by decide) (fun K hK => ?_)
     refine goes_ Try.func37 (by kernel_rfl) rfl #[.slice Ao43 t421.length co43, .int .i64 t422] (by rfl) rfl rfl dA ?_
     with_reducible refine (rat_fits.calls (fun k_ => some k_ = (.slice Ao43 t421.length co43 : Value).ownBlock) (.slice Ao43 t421.length co43) t421 t422 t425 w _ ?side1 ?side2 A37.out).mono ?_
     (case side1 => repeat (first | (with_reducible first | exact HB.out | apply below_alloc | apply pw_below_drewN | apply below_drew1 | refine below_set ?_ GE411.out) | exact HB.out))
     (case side2 => exact Kd.R_tight rfl HO424.out)
     rintro e w44 ⟨v426, rfl, ho0, hb, hkp⟩
     refine ⟨_, rfl, ?_⟩
     replace BK409 := aM (blk_kept (dK BK409.out) hkp (fun hs_ => (fun e_ => (Kd.R_ne HO424.out BK409.out (by decide)) e_) hs_))
     replace BK410 := aM (blk_kept (dK BK410.out) hkp (fun hs_ => (fun e_ => (Kd.R_ne HO424.out BK410.out (by decide)) e_) hs_))
     replace BK411 := aM (blk_kept (dK BK411.out) hkp (fun hs_ => (fun e_ => (Kd.R_ne HO424.out BK411.out (by decide)) e_) hs_))
     have HO427 := aM (Kd.R_mono (ok' := fun k_ => oN Ao40 t412 co40 k_ ∧ oN Ao41 t415 co41 k_ ∧ some k_ ≠ (v419 : Value).ownBlock) ho0 (fun k_ hk_ => ⟨Or.elim hk_ (fun hs_ => fun e_ => (((HO_3.out).1 k_ e_.symm).2) hs_) (fun hn_ => (Kd.fresh' (Kd.R_lt (dR HO_3.out)) k_ hn_)), Or.elim hk_ (fun hs_ => fun e_ => (((HO_4.out).1 k_ e_.symm).2) hs_) (fun hn_ => (Kd.fresh' (Kd.R_lt (dR HO_4.out)) k_ hn_)), Or.elim hk_ (fun hs_ => fun e_ => (((HO_5.out).1 k_ e_.symm).2) hs_) (fun hn_ => (Kd.fresh' (Kd.R_lt (dR HO_5.out)) k_ hn_))⟩))
     replace HO_3 := aM (Kd.R_mono (ok' := fun k_ => oN Ao41 t415 co41 k_ ∧ some k_ ≠ (v419 : Value).ownBlock ∧ some k_ ≠ (v426 : Value).ownBlock) (Kd.R_keptB (HO_3.out) hkp (fun k_ hk_ hs_ => (hk_.2) hs_)) (fun k_ hk_ => ⟨hk_.1.1.1, hk_.1.1.2, fun e_ => Or.elim (ho0.1 k_ e_.symm) (fun hs_ => hk_.2.1 hs_) (fun hn_ => Nat.not_le.2 hk_.2.2 hn_)⟩))
     replace HO_4 := aM (Kd.R_mono (ok' := fun k_ => oN Ao40 t412 co40 k_ ∧ some k_ ≠ (v419 : Value).ownBlock ∧ some k_ ≠ (v426 : Value).ownBlock) (Kd.R_keptB (HO_4.out) hkp (fun k_ hk_ hs_ => (hk_.2) hs_)) (fun k_ hk_ => ⟨hk_.1.1.1, hk_.1.1.2, fun e_ => Or.elim (ho0.1 k_ e_.symm) (fun hs_ => hk_.2.1 hs_) (fun hn_ => Nat.not_le.2 hk_.2.2 hn_)⟩))
     replace HO_5 := aM (Kd.R_mono (ok' := fun k_ => oN Ao40 t412 co40 k_ ∧ oN Ao41 t415 co41 k_ ∧ some k_ ≠ (v426 : Value).ownBlock) (Kd.R_keptB (HO_5.out) hkp (fun k_ hk_ hs_ => (hk_.2) hs_)) (fun k_ hk_ => ⟨hk_.1.1.1, hk_.1.1.2, fun e_ => Or.elim (ho0.1 k_ e_.symm) (fun hs_ => hk_.2.1 hs_) (fun hn_ => Nat.not_le.2 hk_.2.2 hn_)⟩))
     replace HB := aM (hb)
     clear HO424
     (try clear hb)
     (try clear hkp)
     (try clear ho0)
     obtain ⟨Ao45, co45, eo45⟩ := Kd.R_slice HO427.out
     (first | subst eo45 | (injection eo45 with f1_ f2_ f3_; have f4_ := f1_.symm; have f5_ := f3_.symm; clear f1_ f2_ f3_; subst f4_; subst f5_))
     obtain ⟨Ao46, co46, eo46⟩ := Kd.R_slice HO_5.out
     (first | subst eo46 | (injection eo46 with f1_ f2_ f3_; have f4_ := f1_.symm; have f5_ := f3_.symm; clear f1_ f2_ f3_; subst f4_; subst f5_))
     refine hK.out _ _ (cz3 BK409.out) (fun hHeld => ?_)
     clear hK K
     refine norm_ (a' := ?_) ?_ ?_
     rotate_left
     ·show Act.put _ (some 47) _ = _
      simp only [Act.put, List.setIfInBounds_toArray, List.set_cons_zero, List.set_cons_succ, i64_w, i32_w]
      rfl
     refine one_ (i := 13) (N := some 49) #[true, true, true, true, true, true, true, true, true, true, true, true, true, true, false] rfl rfl (one_of HT_.out (by kernel_rfl)) (by decide) (fun K hK => ?_)
     refine goes_ Try.func29 (by kernel_rfl) rfl #[.bool true, .slice Ao45 t425.length co45, .slice Ao46 t418.length co46] (by rfl) rfl rfl dA ?_
     with_reducible refine (rat_lowest.calls kj5 true _ _ t425 _ _ t418 t428 t429 t432 _ ?side1 (Kd.R_reads' HO427.out).2.1 ?side3 (Kd.R_reads' HO_5.out).2.1 A38.out).mono ?_
     (case side1 => exact dC (Kd.R_reads' HO427.out).2.2)
     (case side3 => exact dC (Kd.R_reads' HO_5.out).2.2)
     rintro e w47 ⟨v430, v433, rfl, ho0, ho1, hb⟩
     refine ⟨_, rfl, ?_⟩
     have HO431 := aM (Kd.R_lower (nW (nW (nW (nW ho0 HO_3.out) HO_4.out) HO_5.out) HO427.out) (below_size eB))
     have HO434 := aM (Kd.R_lower (nW (nW (nW (nW ho1 HO_3.out) HO_4.out) HO_5.out) HO427.out) (below_size eB))
     replace HO_3 := tT HO_3.out hb ho0 ho1
     replace HO_4 := tT HO_4.out hb ho0 ho1
     replace HO_5 := tT HO_5.out hb ho0 ho1
     replace HO427 := tT HO427.out hb ho0 ho1
     replace BK409 := bB BK409.out hb
     replace BK410 := bB BK410.out hb
     replace BK411 := bB BK411.out hb
     replace HB := hS HB.out hb
     (try clear hb)
     (try clear hb2)
     (try clear hk)
     (try clear hi)
     (try clear ho0)
     (try clear ho1)
     obtain ⟨Ao49, co49, eo49⟩ := Kd.R_slice HO431.out
     (first | subst eo49 | (injection eo49 with f1_ f2_ f3_; have f4_ := f1_.symm; have f5_ := f3_.symm; clear f1_ f2_ f3_; subst f4_; subst f5_))
     obtain ⟨Ao51, co51, eo51⟩ := Kd.R_slice HO434.out
     (first | subst eo51 | (injection eo51 with f1_ f2_ f3_; have f4_ := f1_.symm; have f5_ := f3_.symm; clear f1_ f2_ f3_; subst f4_; subst f5_))
     refine hK.out _ _ (cz3 BK409.out) (fun hHeld => ?_)
     clear hK K
     refine norm_ (a' := ?_) ?_ ?_
     rotate_left
     ·show Act.put _ (some 49) _ = _
      simp only [Act.put, List.setIfInBounds_toArray, List.set_cons_zero, List.set_cons_succ, i64_w, i32_w]
      rfl
     refine one_ (i := 14) (N := none) #[true, true, true, true, true, true, true, true, true, true, true, true, true, true, true] rfl rfl (one_of HT_.out (by kernel_rfl)) (by decide) (fun K hK => ?_)
     have hs48 : w47.cell? ⟨gb411, 0, none⟩ = some (.bool false) := (blk_cell BK411.out 0).trans rfl
     have hfs48 := blk_frozen BK411.out 0
     have hns48_0 := NB409_411.out
     have hns48_1 := NB410_411.out
     have hms48_0 := NB411_409.out
     have hms48_1 := NB411_410.out
     have hs50 : w47.cell? ⟨gb411, 1, none⟩ = some (.slice none 0 0) := (blk_cell BK411.out 1).trans rfl
     have hfs50 := blk_frozen BK411.out 1
     have hns50_0 := NB409_411.out
     have hns50_1 := NB410_411.out
     have hms50_0 := NB411_409.out
     have hms50_1 := NB411_410.out
     have hs52 : w47.cell? ⟨gb411, 2, none⟩ = some (.slice none 0 0) := (blk_cell BK411.out 2).trans rfl
     have hfs52 := blk_frozen BK411.out 2
     have hns52_0 := NB409_411.out
     have hns52_1 := NB410_411.out
     have hms52_0 := NB411_409.out
     have hms52_1 := NB411_410.out
     refine skip_ (w1 := ?_) (by rfl) rfl ?_ ?_
     rotate_left
     ·go_simp
      rfl
     refine hK.out _ _ ⟨((cell_far (p := ⟨gb411, _, none⟩) NB409_411.out _).trans (((cell_far (p := ⟨gb411, _, none⟩) NB409_411.out _).trans (((cell_far (p := ⟨gb411, _, none⟩) NB409_411.out _).trans (hHeld.1)))))), ((cell_far (p := ⟨gb411, _, none⟩) NB409_411.out _).trans (((cell_far (p := ⟨gb411, _, none⟩) NB409_411.out _).trans (((cell_far (p := ⟨gb411, _, none⟩) NB409_411.out _).trans (hHeld.2.1)))))), ((cell_far (p := ⟨gb411, _, none⟩) NB409_411.out _).trans (((cell_far (p := ⟨gb411, _, none⟩) NB409_411.out _).trans (((cell_far (p := ⟨gb411, _, none⟩) NB409_411.out _).trans (hHeld.2.2))))))⟩ (fun hHeld => ?_)
     clear hK K
     refine done_ (done_of HT_.out (by kernel_rfl)) ?_
     try go_wp2
     refine bodyPost_ret (results_cell_row rfl _ _ gb411 25 #[.bool t428, .slice Ao49 t429.length co49, .slice Ao51 t432.length co51] (0, 0) _ rfl (dP BK411.out) Try.underlying25 rfl (by kernel_rfl)) rfl ?_
     exact ⟨_, _, dE, by (with_reducible repeat (first | apply Kd.R_alloc | apply Kd.R_drewN | apply Kd.R_drew)); exact Kd.R_mono (Kd.R_far (p := ⟨gb411, 2, none⟩) (Kd.R_far (p := ⟨gb411, 1, none⟩) (Kd.R_far (p := ⟨gb411, 0, none⟩) (Kd.R_types HO431.out BK411.out (by decide)) (fun _ hk => hk.2) (.bool t428)) (fun _ hk => hk.2) (.slice Ao49 t429.length co49)) (fun _ hk => hk.2) (.slice Ao51 t432.length co51)) (fun _ hk => hk.1.1.1.1.1), by (with_reducible repeat (first | apply Kd.R_alloc | apply Kd.R_drewN | apply Kd.R_drew)); exact Kd.R_mono (Kd.R_far (p := ⟨gb411, 2, none⟩) (Kd.R_far (p := ⟨gb411, 1, none⟩) (Kd.R_far (p := ⟨gb411, 0, none⟩) (Kd.R_types HO434.out BK411.out (by decide)) (fun _ hk => hk.2) (.bool t428)) (fun _ hk => hk.2) (.slice Ao49 t429.length co49)) (fun _ hk => hk.2) (.slice Ao51 t432.length co51)) (fun _ hk => hk.1.1.1.1.1), dG GE411.out⟩
    ·replace c35 := Bool.eq_false_iff.mpr c35
     subst c35
     rw [if_neg (show ¬ (false = true) by decide)] at H
     (try dsimp only at H)
     replace H := oA H
     obtain ⟨⟨t435, t436⟩, A53, H⟩ := H
     (try dsimp only at H)
     replace H := oA H
     obtain ⟨t439, A54, H⟩ := H
     (try dsimp only at H)
     replace H := oA H
     obtain ⟨⟨t442, t443, t446⟩, A55, H⟩ := H
     (try dsimp only at H)
     simp only [Option.some.injEq, Prod.mk.injEq] at H
     obtain ⟨rfl, rfl, rfl⟩ := H
     try go_wp2
     replace HO_3 := aM (Kd.R_drew HO_3.out)
     replace HO_4 := aM (Kd.R_drew HO_4.out)
     replace HO_5 := aM (Kd.R_drew HO_5.out)
     replace BK409 := aM (blk_drew BK409.out)
     replace BK410 := aM (blk_drew BK410.out)
     replace BK411 := aM (blk_drew BK411.out)
     replace HB := aM (below_drew1 HB.out)
     obtain ⟨Ao57, co57, eo57⟩ := Kd.R_slice HO_3.out
     (first | subst eo57 | (injection eo57 with f1_ f2_ f3_; have f4_ := f1_.symm; have f5_ := f3_.symm; clear f1_ f2_ f3_; subst f4_; subst f5_))
     obtain ⟨Ao58, co58, eo58⟩ := Kd.R_slice HO_4.out
     (first | subst eo58 | (injection eo58 with f1_ f2_ f3_; have f4_ := f1_.symm; have f5_ := f3_.symm; clear f1_ f2_ f3_; subst f4_; subst f5_))
     refine start_ (n := 15) (S := fun w' => w'.cell? ⟨gb409, 0, none⟩ = some (.bool false) ∧ w'.cell? ⟨gb409, 1, none⟩ = some (.slice A0_1 l0_1.length c0_1) ∧ w'.cell? ⟨gb409, 2, none⟩ = some (.slice A0_2 l0_2.length c0_2) ∧ w'.cell? ⟨gb410, 0, none⟩ = some (.bool a1_0) ∧ w'.cell? ⟨gb410, 1, none⟩ = some (.slice A1_1 l1_1.length c1_1) ∧ w'.cell? ⟨gb410, 2, none⟩ = some (.slice A1_2 l1_2.length c1_2)) (ds := []) #[false, false, false, false, false, false, false, false, false, false, false, false, false, false, false] (by kernel_rfl) rfl rfl ⟨(blk_cell BK409.out 0).trans rfl, (blk_cell BK409.out 1).trans rfl, (blk_cell BK409.out 2).trans rfl, (blk_cell BK410.out 0).trans rfl, (blk_cell BK410.out 1).trans rfl, (blk_cell BK410.out 2).trans rfl⟩ (fun hHeld => ?_); refine with_tabW rat_AddC1.tab3 rat_AddC1.bits3 (fun HT_ HW_ => ?_)
     generalize wc.drew = w56 at HO_3 HO_4 HO_5 BK409 BK410 BK411 HB hHeld ⊢
     refine pP 0 (some 36) ?_
     refine pP 6 (some 42) ?_
     refine pP 7 (some 43) ?_
     refine pP 12 (some 48) ?_
     refine pH6 1 (some 37) hHeld ?_
     refine pP 2 (some 38) ?_
     refine pP 3 (some 39) ?_
     refine pH6 4 (some 40) hHeld ?_
     refine pP 5 (some 41) ?_
     refine one_ (i := 8) (N := some 44) #[true, true, true, true, true, true, true, true, true, false, false, false, true, false, false] rfl rfl (one_of HT_.out (by kernel_rfl)) (by decide) (fun K hK => ?_)
     refine goes_ Try.func38 (by kernel_rfl) rfl #[.slice Ao57 t412.length co57, .slice Ao58 t415.length co58] (by rfl) rfl rfl dA ?_
     with_reducible refine (nat_Add.calls kj5 _ _ t412 _ _ t415 t435 t436 _ ?side1 (Kd.R_reads' HO_3.out).2.1 ?side3 (Kd.R_reads' HO_4.out).2.1 A53.out).mono ?_
     (case side1 => exact dC (Kd.R_reads' HO_3.out).2.2)
     (case side3 => exact dC (Kd.R_reads' HO_4.out).2.2)
     rintro e w59 ⟨v437, rfl, ho0, hb⟩
     refine ⟨_, rfl, ?_⟩
     have HO438 := aM (Kd.R_lower (nW (nW (nW ho0 HO_3.out) HO_4.out) HO_5.out) (below_size eB))
     replace HO_3 := oE HO_3.out ho0 hb
     replace HO_4 := oE HO_4.out ho0 hb
     replace HO_5 := oE HO_5.out ho0 hb
     replace BK409 := bB BK409.out hb
     replace BK410 := bB BK410.out hb
     replace BK411 := bB BK411.out hb
     replace HB := hS HB.out hb
     (try clear hb)
     (try clear hb2)
     (try clear hk)
     (try clear hi)
     (try clear ho0)
     obtain ⟨Ao60, co60, eo60⟩ := Kd.R_slice HO438.out
     (first | subst eo60 | (injection eo60 with f1_ f2_ f3_; have f4_ := f1_.symm; have f5_ := f3_.symm; clear f1_ f2_ f3_; subst f4_; subst f5_))
     refine hK.out _ _ ⟨(blk_cell BK409.out 0).trans rfl, (blk_cell BK409.out 1).trans rfl, (blk_cell BK409.out 2).trans rfl, (blk_cell BK410.out 0).trans rfl, (blk_cell BK410.out 1).trans rfl, (blk_cell BK410.out 2).trans rfl⟩ (fun hHeld => ?_)
     clear hK K
     refine norm_ (a' := ?_) ?_ ?_
     rotate_left
     ·show Act.put _ (some 44) _ = _
      simp only [Act.put, List.setIfInBounds_toArray, List.set_cons_zero, List.set_cons_succ, i64_w, i32_w]
      rfl
     refine pP 9 (some 45) ?_
     refine pP 10 (some 46) ?_
     refine one_ (i := 11) (N := some 47) #[true, true, true, true, true, true, true, true, true, true, true, true, true, false, false] rfl rfl (one_of HT_.out (by kernel_rfl)) (by decide) (fun K hK => ?_)
     refine goes_ Try.func37 (by kernel_rfl) rfl #[.slice Ao60 t435.length co60, .int .i64 t436] (by rfl) rfl rfl dA ?_
     with_reducible refine (rat_fits.calls (fun k_ => some k_ = (.slice Ao60 t435.length co60 : Value).ownBlock) (.slice Ao60 t435.length co60) t435 t436 t439 w _ ?side1 ?side2 A54.out).mono ?_
     (case side1 => repeat (first | (with_reducible first | exact HB.out | apply below_alloc | apply pw_below_drewN | apply below_drew1 | refine below_set ?_ GE411.out) | exact HB.out))
     (case side2 => exact Kd.R_tight rfl HO438.out)
     rintro e w61 ⟨v440, rfl, ho0, hb, hkp⟩
     refine ⟨_, rfl, ?_⟩
     replace BK409 := aM (blk_kept (dK BK409.out) hkp (fun hs_ => (fun e_ => (Kd.R_ne HO438.out BK409.out (by decide)) e_) hs_))
     replace BK410 := aM (blk_kept (dK BK410.out) hkp (fun hs_ => (fun e_ => (Kd.R_ne HO438.out BK410.out (by decide)) e_) hs_))
     replace BK411 := aM (blk_kept (dK BK411.out) hkp (fun hs_ => (fun e_ => (Kd.R_ne HO438.out BK411.out (by decide)) e_) hs_))
     have HO441 := aM (Kd.R_mono (ok' := fun k_ => oN Ao57 t412 co57 k_ ∧ oN Ao58 t415 co58 k_ ∧ some k_ ≠ (v419 : Value).ownBlock) ho0 (fun k_ hk_ => ⟨Or.elim hk_ (fun hs_ => fun e_ => (((HO_3.out).1 k_ e_.symm).2) hs_) (fun hn_ => (Kd.fresh' (Kd.R_lt (dR HO_3.out)) k_ hn_)), Or.elim hk_ (fun hs_ => fun e_ => (((HO_4.out).1 k_ e_.symm).2) hs_) (fun hn_ => (Kd.fresh' (Kd.R_lt (dR HO_4.out)) k_ hn_)), Or.elim hk_ (fun hs_ => fun e_ => (((HO_5.out).1 k_ e_.symm).2) hs_) (fun hn_ => (Kd.fresh' (Kd.R_lt (dR HO_5.out)) k_ hn_))⟩))
     replace HO_3 := aM (Kd.R_mono (ok' := fun k_ => oN Ao58 t415 co58 k_ ∧ some k_ ≠ (v419 : Value).ownBlock ∧ some k_ ≠ (v440 : Value).ownBlock) (Kd.R_keptB (HO_3.out) hkp (fun k_ hk_ hs_ => (hk_.2) hs_)) (fun k_ hk_ => ⟨hk_.1.1.1, hk_.1.1.2, fun e_ => Or.elim (ho0.1 k_ e_.symm) (fun hs_ => hk_.2.1 hs_) (fun hn_ => Nat.not_le.2 hk_.2.2 hn_)⟩))
     replace HO_4 := aM (Kd.R_mono (ok' := fun k_ => oN Ao57 t412 co57 k_ ∧ some k_ ≠ (v419 : Value).ownBlock ∧ some k_ ≠ (v440 : Value).ownBlock) (Kd.R_keptB (HO_4.out) hkp (fun k_ hk_ hs_ => (hk_.2) hs_)) (fun k_ hk_ => ⟨hk_.1.1.1, hk_.1.1.2, fun e_ => Or.elim (ho0.1 k_ e_.symm) (fun hs_ => hk_.2.1 hs_) (fun hn_ => Nat.not_le.2 hk_.2.2 hn_)⟩))
     replace HO_5 := aM (Kd.R_mono (ok' := fun k_ => oN Ao57 t412 co57 k_ ∧ oN Ao58 t415 co58 k_ ∧ some k_ ≠ (v440 : Value).ownBlock) (Kd.R_keptB (HO_5.out) hkp (fun k_ hk_ hs_ => (hk_.2) hs_)) (fun k_ hk_ => ⟨hk_.1.1.1, hk_.1.1.2, fun e_ => Or.elim (ho0.1 k_ e_.symm) (fun hs_ => hk_.2.1 hs_) (fun hn_ => Nat.not_le.2 hk_.2.2 hn_)⟩))
     replace HB := aM (hb)
     clear HO438
     (try clear hb)
     (try clear hkp)
     (try clear ho0)
     obtain ⟨Ao62, co62, eo62⟩ := Kd.R_slice HO441.out
     (first | subst eo62 | (injection eo62 with f1_ f2_ f3_; have f4_ := f1_.symm; have f5_ := f3_.symm; clear f1_ f2_ f3_; subst f4_; subst f5_))
     obtain ⟨Ao63, co63, eo63⟩ := Kd.R_slice HO_5.out
     (first | subst eo63 | (injection eo63 with f1_ f2_ f3_; have f4_ := f1_.symm; have f5_ := f3_.symm; clear f1_ f2_ f3_; subst f4_; subst f5_))
     refine hK.out _ _ ⟨(blk_cell BK409.out 0).trans rfl, (blk_cell BK409.out 1).trans rfl, (blk_cell BK409.out 2).trans rfl, (blk_cell BK410.out 0).trans rfl, (blk_cell BK410.out 1).trans rfl, (blk_cell BK410.out 2).trans rfl⟩ (fun hHeld => ?_)
     clear hK K
     refine norm_ (a' := ?_) ?_ ?_
     rotate_left
     ·show Act.put _ (some 47) _ = _
      simp only [Act.put, List.setIfInBounds_toArray, List.set_cons_zero, List.set_cons_succ, i64_w, i32_w]
      rfl
     refine one_ (i := 13) (N := some 49) #[true, true, true, true, true, true, true, true, true, true, true, true, true, true, false] rfl rfl (one_of HT_.out (by kernel_rfl)) (by decide) (fun K hK => ?_)
     refine goes_ Try.func29 (by kernel_rfl) rfl #[.bool a1_0, .slice Ao62 t439.length co62, .slice Ao63 t418.length co63] (by rfl) rfl rfl dA ?_
     with_reducible refine (rat_lowest.calls kj5 a1_0 _ _ t439 _ _ t418 t442 t443 t446 _ ?side1 (Kd.R_reads' HO441.out).2.1 ?side3 (Kd.R_reads' HO_5.out).2.1 A55.out).mono ?_
     (case side1 => exact dC (Kd.R_reads' HO441.out).2.2)
     (case side3 => exact dC (Kd.R_reads' HO_5.out).2.2)
     rintro e w64 ⟨v444, v447, rfl, ho0, ho1, hb⟩
     refine ⟨_, rfl, ?_⟩
     have HO445 := aM (Kd.R_lower (nW (nW (nW (nW ho0 HO_3.out) HO_4.out) HO_5.out) HO441.out) (below_size eB))
     have HO448 := aM (Kd.R_lower (nW (nW (nW (nW ho1 HO_3.out) HO_4.out) HO_5.out) HO441.out) (below_size eB))
     replace HO_3 := tT HO_3.out hb ho0 ho1
     replace HO_4 := tT HO_4.out hb ho0 ho1
     replace HO_5 := tT HO_5.out hb ho0 ho1
     replace HO441 := tT HO441.out hb ho0 ho1
     replace BK409 := bB BK409.out hb
     replace BK410 := bB BK410.out hb
     replace BK411 := bB BK411.out hb
     replace HB := hS HB.out hb
     (try clear hb)
     (try clear hb2)
     (try clear hk)
     (try clear hi)
     (try clear ho0)
     (try clear ho1)
     obtain ⟨Ao66, co66, eo66⟩ := Kd.R_slice HO445.out
     (first | subst eo66 | (injection eo66 with f1_ f2_ f3_; have f4_ := f1_.symm; have f5_ := f3_.symm; clear f1_ f2_ f3_; subst f4_; subst f5_))
     obtain ⟨Ao68, co68, eo68⟩ := Kd.R_slice HO448.out
     (first | subst eo68 | (injection eo68 with f1_ f2_ f3_; have f4_ := f1_.symm; have f5_ := f3_.symm; clear f1_ f2_ f3_; subst f4_; subst f5_))
     refine hK.out _ _ ⟨(blk_cell BK409.out 0).trans rfl, (blk_cell BK409.out 1).trans rfl, (blk_cell BK409.out 2).trans rfl, (blk_cell BK410.out 0).trans rfl, (blk_cell BK410.out 1).trans rfl, (blk_cell BK410.out 2).trans rfl⟩ (fun hHeld => ?_)
     clear hK K
     refine norm_ (a' := ?_) ?_ ?_
     rotate_left
     ·show Act.put _ (some 49) _ = _
      simp only [Act.put, List.setIfInBounds_toArray, List.set_cons_zero, List.set_cons_succ, i64_w, i32_w]
      rfl
     refine one_ (i := 14) (N := none) #[true, true, true, true, true, true, true, true, true, true, true, true, true, true, true] rfl rfl (one_of HT_.out (by kernel_rfl)) (by decide) (fun K hK => ?_)
     have hs65 : w64.cell? ⟨gb411, 0, none⟩ = some (.bool false) := (blk_cell BK411.out 0).trans rfl
     have hfs65 := blk_frozen BK411.out 0
     have hns65_0 := NB409_411.out
     have hns65_1 := NB410_411.out
     have hms65_0 := NB411_409.out
     have hms65_1 := NB411_410.out
     have hs67 : w64.cell? ⟨gb411, 1, none⟩ = some (.slice none 0 0) := (blk_cell BK411.out 1).trans rfl
     have hfs67 := blk_frozen BK411.out 1
     have hns67_0 := NB409_411.out
     have hns67_1 := NB410_411.out
     have hms67_0 := NB411_409.out
     have hms67_1 := NB411_410.out
     have hs69 : w64.cell? ⟨gb411, 2, none⟩ = some (.slice none 0 0) := (blk_cell BK411.out 2).trans rfl
     have hfs69 := blk_frozen BK411.out 2
     have hns69_0 := NB409_411.out
     have hns69_1 := NB410_411.out
     have hms69_0 := NB411_409.out
     have hms69_1 := NB411_410.out
     refine skip_ (w1 := ?_) (by rfl) rfl ?_ ?_
     rotate_left
     ·go_simp
      rfl
     refine hK.out _ _ ⟨((cell_far (p := ⟨gb411, _, none⟩) NB409_411.out _).trans (((cell_far (p := ⟨gb411, _, none⟩) NB409_411.out _).trans (((cell_far (p := ⟨gb411, _, none⟩) NB409_411.out _).trans (hHeld.1)))))), ((cell_far (p := ⟨gb411, _, none⟩) NB409_411.out _).trans (((cell_far (p := ⟨gb411, _, none⟩) NB409_411.out _).trans (((cell_far (p := ⟨gb411, _, none⟩) NB409_411.out _).trans (hHeld.2.1)))))), ((cell_far (p := ⟨gb411, _, none⟩) NB409_411.out _).trans (((cell_far (p := ⟨gb411, _, none⟩) NB409_411.out _).trans (((cell_far (p := ⟨gb411, _, none⟩) NB409_411.out _).trans (hHeld.2.2.1)))))), ((cell_far (p := ⟨gb411, _, none⟩) NB410_411.out _).trans (((cell_far (p := ⟨gb411, _, none⟩) NB410_411.out _).trans (((cell_far (p := ⟨gb411, _, none⟩) NB410_411.out _).trans (hHeld.2.2.2.1)))))), ((cell_far (p := ⟨gb411, _, none⟩) NB410_411.out _).trans (((cell_far (p := ⟨gb411, _, none⟩) NB410_411.out _).trans (((cell_far (p := ⟨gb411, _, none⟩) NB410_411.out _).trans (hHeld.2.2.2.2.1)))))), ((cell_far (p := ⟨gb411, _, none⟩) NB410_411.out _).trans (((cell_far (p := ⟨gb411, _, none⟩) NB410_411.out _).trans (((cell_far (p := ⟨gb411, _, none⟩) NB410_411.out _).trans (hHeld.2.2.2.2.2))))))⟩ (fun hHeld => ?_)
     clear hK K
     refine done_ (done_of HT_.out (by kernel_rfl)) ?_
     try go_wp2
     refine bodyPost_ret (results_cell_row rfl _ _ gb411 25 #[.bool t442, .slice Ao66 t443.length co66, .slice Ao68 t446.length co68] (0, 0) _ rfl (dP BK411.out) Try.underlying25 rfl (by kernel_rfl)) rfl ?_
     exact ⟨_, _, dE, by (with_reducible repeat (first | apply Kd.R_alloc | apply Kd.R_drewN | apply Kd.R_drew)); exact Kd.R_mono (Kd.R_far (p := ⟨gb411, 2, none⟩) (Kd.R_far (p := ⟨gb411, 1, none⟩) (Kd.R_far (p := ⟨gb411, 0, none⟩) (Kd.R_types HO445.out BK411.out (by decide)) (fun _ hk => hk.2) (.bool t442)) (fun _ hk => hk.2) (.slice Ao66 t443.length co66)) (fun _ hk => hk.2) (.slice Ao68 t446.length co68)) (fun _ hk => hk.1.1.1.1.1), by (with_reducible repeat (first | apply Kd.R_alloc | apply Kd.R_drewN | apply Kd.R_drew)); exact Kd.R_mono (Kd.R_far (p := ⟨gb411, 2, none⟩) (Kd.R_far (p := ⟨gb411, 1, none⟩) (Kd.R_far (p := ⟨gb411, 0, none⟩) (Kd.R_types HO448.out BK411.out (by decide)) (fun _ hk => hk.2) (.bool t442)) (fun _ hk => hk.2) (.slice Ao66 t443.length co66)) (fun _ hk => hk.2) (.slice Ao68 t446.length co68)) (fun _ hk => hk.1.1.1.1.1), dG GE411.out⟩
   ·replace c34 := Bool.eq_false_iff.mpr c34
    subst c34
    rw [if_neg (show ¬ (false = true) by decide)] at H
    (try dsimp only at H)
    replace H := oA H
    obtain ⟨t449, A70, H⟩ := H
    (try dsimp only at H)
    by_cases c71 : t449 < 0
    ·rw [if_pos c71] at H
     have c71b0 := decide_eq_true c71
     clear c71
     replace H := oA H
     obtain ⟨⟨t450, t451⟩, A72, H⟩ := H
     (try dsimp only at H)
     replace H := oA H
     obtain ⟨t454, A73, H⟩ := H
     (try dsimp only at H)
     replace H := oA H
     obtain ⟨⟨t457, t458, t461⟩, A74, H⟩ := H
     (try dsimp only at H)
     simp only [Option.some.injEq, Prod.mk.injEq] at H
     obtain ⟨rfl, rfl, rfl⟩ := H
     obtain ⟨Ao75, co75, rfl⟩ := Kd.R_slice HO_3.out
     obtain ⟨Ao76, co76, rfl⟩ := Kd.R_slice HO_4.out
     try go_wp2_with (first | ((with_reducible refine gate_callee (f := 32) rfl ?_); refine gL (some 52) Try.func32 #[.slice Ao75 t412.length co75, .slice Ao76 t415.length co76] ?_; (with_reducible refine (nat_Cmp.calls kj5 _ _ t412 _ _ t415 t449 _ ?side1 (Kd.R_reads' HO_3.out).2.1 ?side3 (Kd.R_reads' HO_4.out).2.1 A70.out).mono ?_); (case side1 => exact dC (Kd.R_reads' HO_3.out).2.2); (case side3 => exact dC (Kd.R_reads' HO_4.out).2.2); rintro e w' ⟨rfl, ⟨nd, rfl⟩⟩; refine ⟨_, rfl, ?_⟩; (try (rw [drewN_self wc]; generalize hq_ : World.drewN wc _ = wc; have n0_ : Aside0 (Kd.R (Kd.int .u64) 44 wc w.heap.size (fun k_ => oN Ao76 t415 co76 k_ ∧ some k_ ≠ (v419 : Value).ownBlock) (.slice Ao75 t412.length co75) t412) := ⟨by rw [← hq_]; exact (dR HO_3.out)⟩; have n1_ : Aside0 (Kd.R (Kd.int .u64) 44 wc w.heap.size (fun k_ => oN Ao75 t412 co75 k_ ∧ some k_ ≠ (v419 : Value).ownBlock) (.slice Ao76 t415.length co76) t415) := ⟨by rw [← hq_]; exact (dR HO_4.out)⟩; have n2_ : Aside0 (Kd.R (Kd.int .u64) 44 wc w.heap.size (fun k_ => oN Ao75 t412 co75 k_ ∧ oN Ao76 t415 co76 k_) v419 t418) := ⟨by rw [← hq_]; exact (dR HO_5.out)⟩; have n3_ : Aside0 (wc.heap[gb409]? = some (.cells #[.bool a0_0, .slice A0_1 l0_1.length c0_1, .slice A0_2 l0_2.length c0_2] 25 (0, 0))) := ⟨by rw [← hq_]; exact (dK BK409.out)⟩; have n4_ : Aside0 (wc.heap[gb410]? = some (.cells #[.bool a1_0, .slice A1_1 l1_1.length c1_1, .slice A1_2 l1_2.length c1_2] 25 (0, 0))) := ⟨by rw [← hq_]; exact (dK BK410.out)⟩; have n5_ : Aside0 (wc.heap[gb411]? = some (.cells #[.bool false, .slice none 0 0, .slice none 0 0] 25 (0, 0))) := ⟨by rw [← hq_]; exact (dK BK411.out)⟩; have n6_ : Aside0 (Below w.heap.size w wc) := ⟨by rw [← hq_]; exact eB⟩; clear HO_3 HO_4 HO_5 BK409 BK410 BK411 HB hq_; have HO_3 := n0_; have HO_4 := n1_; have HO_5 := n2_; have BK409 := n3_; have BK410 := n4_; have BK411 := n5_; have HB := n6_; clear n0_ n1_ n2_ n3_ n4_ n5_ n6_))))
     replace HO_3 := aM (Kd.R_drew HO_3.out)
     replace HO_4 := aM (Kd.R_drew HO_4.out)
     replace HO_5 := aM (Kd.R_drew HO_5.out)
     replace BK409 := aM (blk_drew BK409.out)
     replace BK410 := aM (blk_drew BK410.out)
     replace BK411 := aM (blk_drew BK411.out)
     replace HB := aM (below_drew1 HB.out)
     refine start_ (n := 11) (S := fun w' => w'.cell? ⟨gb410, 0, none⟩ = some (.bool a1_0) ∧ w'.cell? ⟨gb410, 1, none⟩ = some (.slice A1_1 l1_1.length c1_1) ∧ w'.cell? ⟨gb410, 2, none⟩ = some (.slice A1_2 l1_2.length c1_2)) (ds := []) #[false, false, false, false, false, false, false, false, false, false, false] (by kernel_rfl) rfl rfl (cz3 BK410.out) (fun hHeld => ?_); refine with_tabW rat_AddC1.tab5 rat_AddC1.bits5 (fun HT_ HW_ => ?_)
     generalize wc.drew = w77 at HO_3 HO_4 HO_5 BK409 BK410 BK411 HB hHeld ⊢
     refine pP 0 (some 54) ?_
     refine pP 2 (some 56) ?_
     refine pP 3 (some 57) ?_
     refine pP 8 (some 62) ?_
     refine pH3 1 (some 55) hHeld ?_
     refine one_ (i := 4) (N := some 58) #[true, true, true, true, true, false, false, false, true, false, false] rfl rfl (one_of HT_.out (by kernel_rfl)) (by decide) (fun K hK => ?_)
     refine goes_ Try.func43 (by kernel_rfl) rfl #[.slice Ao76 t415.length co76, .slice Ao75 t412.length co75] (by rfl) rfl rfl dA ?_
     with_reducible refine (nat_Sub.calls kj5 _ _ t415 _ _ t412 t450 t451 _ ?side1 (Kd.R_reads' HO_4.out).2.1 ?side3 (Kd.R_reads' HO_3.out).2.1 A72.out).mono ?_
     (case side1 => exact dC (Kd.R_reads' HO_4.out).2.2)
     (case side3 => exact dC (Kd.R_reads' HO_3.out).2.2)
     rintro e w78 ⟨v452, rfl, ho0, hb⟩
     refine ⟨_, rfl, ?_⟩
     have HO453 := aM (Kd.R_lower (nW (nW (nW ho0 HO_3.out) HO_4.out) HO_5.out) (below_size eB))
     replace HO_3 := oE HO_3.out ho0 hb
     replace HO_4 := oE HO_4.out ho0 hb
     replace HO_5 := oE HO_5.out ho0 hb
     replace BK409 := bB BK409.out hb
     replace BK410 := bB BK410.out hb
     replace BK411 := bB BK411.out hb
     replace HB := hS HB.out hb
     (try clear hb)
     (try clear hb2)
     (try clear hk)
     (try clear hi)
     (try clear ho0)
     obtain ⟨Ao79, co79, eo79⟩ := Kd.R_slice HO453.out
     (first | subst eo79 | (injection eo79 with f1_ f2_ f3_; have f4_ := f1_.symm; have f5_ := f3_.symm; clear f1_ f2_ f3_; subst f4_; subst f5_))
     refine hK.out _ _ (cz3 BK410.out) (fun hHeld => ?_)
     clear hK K
     refine norm_ (a' := ?_) ?_ ?_
     rotate_left
     ·show Act.put _ (some 58) _ = _
      simp only [Act.put, List.setIfInBounds_toArray, List.set_cons_zero, List.set_cons_succ, i64_w, i32_w]
      rfl
     refine pP 5 (some 59) ?_
     refine pP 6 (some 60) ?_
     refine one_ (i := 7) (N := some 61) #[true, true, true, true, true, true, true, true, true, false, false] rfl rfl (one_of HT_.out (by kernel_rfl)) (by decide) (fun K hK => ?_)
     refine goes_ Try.func37 (by kernel_rfl) rfl #[.slice Ao79 t450.length co79, .int .i64 t451] (by rfl) rfl rfl dA ?_
     with_reducible refine (rat_fits.calls (fun k_ => some k_ = (.slice Ao79 t450.length co79 : Value).ownBlock) (.slice Ao79 t450.length co79) t450 t451 t454 w _ ?side1 ?side2 A73.out).mono ?_
     (case side1 => repeat (first | (with_reducible first | exact HB.out | apply below_alloc | apply pw_below_drewN | apply below_drew1 | refine below_set ?_ GE411.out) | exact HB.out))
     (case side2 => exact Kd.R_tight rfl HO453.out)
     rintro e w80 ⟨v455, rfl, ho0, hb, hkp⟩
     refine ⟨_, rfl, ?_⟩
     replace BK409 := aM (blk_kept (dK BK409.out) hkp (fun hs_ => (fun e_ => (Kd.R_ne HO453.out BK409.out (by decide)) e_) hs_))
     replace BK410 := aM (blk_kept (dK BK410.out) hkp (fun hs_ => (fun e_ => (Kd.R_ne HO453.out BK410.out (by decide)) e_) hs_))
     replace BK411 := aM (blk_kept (dK BK411.out) hkp (fun hs_ => (fun e_ => (Kd.R_ne HO453.out BK411.out (by decide)) e_) hs_))
     have HO456 := aM (Kd.R_mono (ok' := fun k_ => oN Ao75 t412 co75 k_ ∧ oN Ao76 t415 co76 k_ ∧ some k_ ≠ (v419 : Value).ownBlock) ho0 (fun k_ hk_ => ⟨Or.elim hk_ (fun hs_ => fun e_ => (((HO_3.out).1 k_ e_.symm).2) hs_) (fun hn_ => (Kd.fresh' (Kd.R_lt (dR HO_3.out)) k_ hn_)), Or.elim hk_ (fun hs_ => fun e_ => (((HO_4.out).1 k_ e_.symm).2) hs_) (fun hn_ => (Kd.fresh' (Kd.R_lt (dR HO_4.out)) k_ hn_)), Or.elim hk_ (fun hs_ => fun e_ => (((HO_5.out).1 k_ e_.symm).2) hs_) (fun hn_ => (Kd.fresh' (Kd.R_lt (dR HO_5.out)) k_ hn_))⟩))
     replace HO_3 := aM (Kd.R_mono (ok' := fun k_ => oN Ao76 t415 co76 k_ ∧ some k_ ≠ (v419 : Value).ownBlock ∧ some k_ ≠ (v455 : Value).ownBlock) (Kd.R_keptB (HO_3.out) hkp (fun k_ hk_ hs_ => (hk_.2) hs_)) (fun k_ hk_ => ⟨hk_.1.1.1, hk_.1.1.2, fun e_ => Or.elim (ho0.1 k_ e_.symm) (fun hs_ => hk_.2.1 hs_) (fun hn_ => Nat.not_le.2 hk_.2.2 hn_)⟩))
     replace HO_4 := aM (Kd.R_mono (ok' := fun k_ => oN Ao75 t412 co75 k_ ∧ some k_ ≠ (v419 : Value).ownBlock ∧ some k_ ≠ (v455 : Value).ownBlock) (Kd.R_keptB (HO_4.out) hkp (fun k_ hk_ hs_ => (hk_.2) hs_)) (fun k_ hk_ => ⟨hk_.1.1.1, hk_.1.1.2, fun e_ => Or.elim (ho0.1 k_ e_.symm) (fun hs_ => hk_.2.1 hs_) (fun hn_ => Nat.not_le.2 hk_.2.2 hn_)⟩))
     replace HO_5 := aM (Kd.R_mono (ok' := fun k_ => oN Ao75 t412 co75 k_ ∧ oN Ao76 t415 co76 k_ ∧ some k_ ≠ (v455 : Value).ownBlock) (Kd.R_keptB (HO_5.out) hkp (fun k_ hk_ hs_ => (hk_.2) hs_)) (fun k_ hk_ => ⟨hk_.1.1.1, hk_.1.1.2, fun e_ => Or.elim (ho0.1 k_ e_.symm) (fun hs_ => hk_.2.1 hs_) (fun hn_ => Nat.not_le.2 hk_.2.2 hn_)⟩))
     replace HB := aM (hb)
     clear HO453
     (try clear hb)
     (try clear hkp)
     (try clear ho0)
     obtain ⟨Ao81, co81, eo81⟩ := Kd.R_slice HO456.out
     (first | subst eo81 | (injection eo81 with f1_ f2_ f3_; have f4_ := f1_.symm; have f5_ := f3_.symm; clear f1_ f2_ f3_; subst f4_; subst f5_))
     obtain ⟨Ao82, co82, eo82⟩ := Kd.R_slice HO_5.out
     (first | subst eo82 | (injection eo82 with f1_ f2_ f3_; have f4_ := f1_.symm; have f5_ := f3_.symm; clear f1_ f2_ f3_; subst f4_; subst f5_))
     refine hK.out _ _ (cz3 BK410.out) (fun hHeld => ?_)
     clear hK K
     refine norm_ (a' := ?_) ?_ ?_
     rotate_left
     ·show Act.put _ (some 61) _ = _
      simp only [Act.put, List.setIfInBounds_toArray, List.set_cons_zero, List.set_cons_succ, i64_w, i32_w]
      rfl
     refine one_ (i := 9) (N := some 63) #[true, true, true, true, true, true, true, true, true, true, false] rfl rfl (one_of HT_.out (by kernel_rfl)) (by decide) (fun K hK => ?_)
     refine goes_ Try.func29 (by kernel_rfl) rfl #[.bool a1_0, .slice Ao81 t454.length co81, .slice Ao82 t418.length co82] (by rfl) rfl rfl dA ?_
     with_reducible refine (rat_lowest.calls kj5 a1_0 _ _ t454 _ _ t418 t457 t458 t461 _ ?side1 (Kd.R_reads' HO456.out).2.1 ?side3 (Kd.R_reads' HO_5.out).2.1 A74.out).mono ?_
     (case side1 => exact dC (Kd.R_reads' HO456.out).2.2)
     (case side3 => exact dC (Kd.R_reads' HO_5.out).2.2)
     rintro e w83 ⟨v459, v462, rfl, ho0, ho1, hb⟩
     refine ⟨_, rfl, ?_⟩
     have HO460 := aM (Kd.R_lower (nW (nW (nW (nW ho0 HO_3.out) HO_4.out) HO_5.out) HO456.out) (below_size eB))
     have HO463 := aM (Kd.R_lower (nW (nW (nW (nW ho1 HO_3.out) HO_4.out) HO_5.out) HO456.out) (below_size eB))
     replace HO_3 := tT HO_3.out hb ho0 ho1
     replace HO_4 := tT HO_4.out hb ho0 ho1
     replace HO_5 := tT HO_5.out hb ho0 ho1
     replace HO456 := tT HO456.out hb ho0 ho1
     replace BK409 := bB BK409.out hb
     replace BK410 := bB BK410.out hb
     replace BK411 := bB BK411.out hb
     replace HB := hS HB.out hb
     (try clear hb)
     (try clear hb2)
     (try clear hk)
     (try clear hi)
     (try clear ho0)
     (try clear ho1)
     obtain ⟨Ao85, co85, eo85⟩ := Kd.R_slice HO460.out
     (first | subst eo85 | (injection eo85 with f1_ f2_ f3_; have f4_ := f1_.symm; have f5_ := f3_.symm; clear f1_ f2_ f3_; subst f4_; subst f5_))
     obtain ⟨Ao87, co87, eo87⟩ := Kd.R_slice HO463.out
     (first | subst eo87 | (injection eo87 with f1_ f2_ f3_; have f4_ := f1_.symm; have f5_ := f3_.symm; clear f1_ f2_ f3_; subst f4_; subst f5_))
     refine hK.out _ _ (cz3 BK410.out) (fun hHeld => ?_)
     clear hK K
     refine norm_ (a' := ?_) ?_ ?_
     rotate_left
     ·show Act.put _ (some 63) _ = _
      simp only [Act.put, List.setIfInBounds_toArray, List.set_cons_zero, List.set_cons_succ, i64_w, i32_w]
      rfl
     refine one_ (i := 10) (N := none) #[true, true, true, true, true, true, true, true, true, true, true] rfl rfl (one_of HT_.out (by kernel_rfl)) (by decide) (fun K hK => ?_)
     have hs84 : w83.cell? ⟨gb411, 0, none⟩ = some (.bool false) := (blk_cell BK411.out 0).trans rfl
     have hfs84 := blk_frozen BK411.out 0
     have hns84_0 := NB409_411.out
     have hns84_1 := NB410_411.out
     have hms84_0 := NB411_409.out
     have hms84_1 := NB411_410.out
     have hs86 : w83.cell? ⟨gb411, 1, none⟩ = some (.slice none 0 0) := (blk_cell BK411.out 1).trans rfl
     have hfs86 := blk_frozen BK411.out 1
     have hns86_0 := NB409_411.out
     have hns86_1 := NB410_411.out
     have hms86_0 := NB411_409.out
     have hms86_1 := NB411_410.out
     have hs88 : w83.cell? ⟨gb411, 2, none⟩ = some (.slice none 0 0) := (blk_cell BK411.out 2).trans rfl
     have hfs88 := blk_frozen BK411.out 2
     have hns88_0 := NB409_411.out
     have hns88_1 := NB410_411.out
     have hms88_0 := NB411_409.out
     have hms88_1 := NB411_410.out
     refine skip_ (w1 := ?_) (by rfl) rfl ?_ ?_
     rotate_left
     ·go_simp
      rfl
     refine hK.out _ _ ⟨((cell_far (p := ⟨gb411, _, none⟩) NB410_411.out _).trans (((cell_far (p := ⟨gb411, _, none⟩) NB410_411.out _).trans (((cell_far (p := ⟨gb411, _, none⟩) NB410_411.out _).trans (hHeld.1)))))), ((cell_far (p := ⟨gb411, _, none⟩) NB410_411.out _).trans (((cell_far (p := ⟨gb411, _, none⟩) NB410_411.out _).trans (((cell_far (p := ⟨gb411, _, none⟩) NB410_411.out _).trans (hHeld.2.1)))))), ((cell_far (p := ⟨gb411, _, none⟩) NB410_411.out _).trans (((cell_far (p := ⟨gb411, _, none⟩) NB410_411.out _).trans (((cell_far (p := ⟨gb411, _, none⟩) NB410_411.out _).trans (hHeld.2.2))))))⟩ (fun hHeld => ?_)
     clear hK K
     refine done_ (done_of HT_.out (by kernel_rfl)) ?_
     try go_wp2
     refine bodyPost_ret (results_cell_row rfl _ _ gb411 25 #[.bool t457, .slice Ao85 t458.length co85, .slice Ao87 t461.length co87] (0, 0) _ rfl (dP BK411.out) Try.underlying25 rfl (by kernel_rfl)) rfl ?_
     exact ⟨_, _, dE, by (with_reducible repeat (first | apply Kd.R_alloc | apply Kd.R_drewN | apply Kd.R_drew)); exact Kd.R_mono (Kd.R_far (p := ⟨gb411, 2, none⟩) (Kd.R_far (p := ⟨gb411, 1, none⟩) (Kd.R_far (p := ⟨gb411, 0, none⟩) (Kd.R_types HO460.out BK411.out (by decide)) (fun _ hk => hk.2) (.bool t457)) (fun _ hk => hk.2) (.slice Ao85 t458.length co85)) (fun _ hk => hk.2) (.slice Ao87 t461.length co87)) (fun _ hk => hk.1.1.1.1.1), by (with_reducible repeat (first | apply Kd.R_alloc | apply Kd.R_drewN | apply Kd.R_drew)); exact Kd.R_mono (Kd.R_far (p := ⟨gb411, 2, none⟩) (Kd.R_far (p := ⟨gb411, 1, none⟩) (Kd.R_far (p := ⟨gb411, 0, none⟩) (Kd.R_types HO463.out BK411.out (by decide)) (fun _ hk => hk.2) (.bool t457)) (fun _ hk => hk.2) (.slice Ao85 t458.length co85)) (fun _ hk => hk.2) (.slice Ao87 t461.length co87)) (fun _ hk => hk.1.1.1.1.1), dG GE411.out⟩
    ·rw [if_neg c71] at H
     have c71b0 := decide_eq_false c71
     clear c71
     replace H := oA H
     obtain ⟨⟨t464, t465⟩, A89, H⟩ := H
     (try dsimp only at H)
     replace H := oA H
     obtain ⟨t468, A90, H⟩ := H
     (try dsimp only at H)
     replace H := oA H
     obtain ⟨⟨t471, t472, t475⟩, A91, H⟩ := H
     (try dsimp only at H)
     simp only [Option.some.injEq, Prod.mk.injEq] at H
     obtain ⟨rfl, rfl, rfl⟩ := H
     obtain ⟨Ao92, co92, rfl⟩ := Kd.R_slice HO_3.out
     obtain ⟨Ao93, co93, rfl⟩ := Kd.R_slice HO_4.out
     try go_wp2_with (first | ((with_reducible refine gate_callee (f := 32) rfl ?_); refine gL (some 52) Try.func32 #[.slice Ao92 t412.length co92, .slice Ao93 t415.length co93] ?_; (with_reducible refine (nat_Cmp.calls kj5 _ _ t412 _ _ t415 t449 _ ?side1 (Kd.R_reads' HO_3.out).2.1 ?side3 (Kd.R_reads' HO_4.out).2.1 A70.out).mono ?_); (case side1 => exact dC (Kd.R_reads' HO_3.out).2.2); (case side3 => exact dC (Kd.R_reads' HO_4.out).2.2); rintro e w' ⟨rfl, ⟨nd, rfl⟩⟩; refine ⟨_, rfl, ?_⟩; (try (rw [drewN_self wc]; generalize hq_ : World.drewN wc _ = wc; have n0_ : Aside0 (Kd.R (Kd.int .u64) 44 wc w.heap.size (fun k_ => oN Ao93 t415 co93 k_ ∧ some k_ ≠ (v419 : Value).ownBlock) (.slice Ao92 t412.length co92) t412) := ⟨by rw [← hq_]; exact (dR HO_3.out)⟩; have n1_ : Aside0 (Kd.R (Kd.int .u64) 44 wc w.heap.size (fun k_ => oN Ao92 t412 co92 k_ ∧ some k_ ≠ (v419 : Value).ownBlock) (.slice Ao93 t415.length co93) t415) := ⟨by rw [← hq_]; exact (dR HO_4.out)⟩; have n2_ : Aside0 (Kd.R (Kd.int .u64) 44 wc w.heap.size (fun k_ => oN Ao92 t412 co92 k_ ∧ oN Ao93 t415 co93 k_) v419 t418) := ⟨by rw [← hq_]; exact (dR HO_5.out)⟩; have n3_ : Aside0 (wc.heap[gb409]? = some (.cells #[.bool a0_0, .slice A0_1 l0_1.length c0_1, .slice A0_2 l0_2.length c0_2] 25 (0, 0))) := ⟨by rw [← hq_]; exact (dK BK409.out)⟩; have n4_ : Aside0 (wc.heap[gb410]? = some (.cells #[.bool a1_0, .slice A1_1 l1_1.length c1_1, .slice A1_2 l1_2.length c1_2] 25 (0, 0))) := ⟨by rw [← hq_]; exact (dK BK410.out)⟩; have n5_ : Aside0 (wc.heap[gb411]? = some (.cells #[.bool false, .slice none 0 0, .slice none 0 0] 25 (0, 0))) := ⟨by rw [← hq_]; exact (dK BK411.out)⟩; have n6_ : Aside0 (Below w.heap.size w wc) := ⟨by rw [← hq_]; exact eB⟩; clear HO_3 HO_4 HO_5 BK409 BK410 BK411 HB hq_; have HO_3 := n0_; have HO_4 := n1_; have HO_5 := n2_; have BK409 := n3_; have BK410 := n4_; have BK411 := n5_; have HB := n6_; clear n0_ n1_ n2_ n3_ n4_ n5_ n6_))))
     replace HO_3 := aM (Kd.R_drew HO_3.out)
     replace HO_4 := aM (Kd.R_drew HO_4.out)
     replace HO_5 := aM (Kd.R_drew HO_5.out)
     replace BK409 := aM (blk_drew BK409.out)
     replace BK410 := aM (blk_drew BK410.out)
     replace BK411 := aM (blk_drew BK411.out)
     replace HB := aM (below_drew1 HB.out)
     refine start_ (n := 11) (S := fun w' => w'.cell? ⟨gb409, 0, none⟩ = some (.bool a0_0) ∧ w'.cell? ⟨gb409, 1, none⟩ = some (.slice A0_1 l0_1.length c0_1) ∧ w'.cell? ⟨gb409, 2, none⟩ = some (.slice A0_2 l0_2.length c0_2)) (ds := []) #[false, false, false, false, false, false, false, false, false, false, false] (by kernel_rfl) rfl rfl (cz3 BK409.out) (fun hHeld => ?_); refine with_tabW rat_AddC1.tab6 rat_AddC1.bits6 (fun HT_ HW_ => ?_)
     generalize wc.drew = w94 at HO_3 HO_4 HO_5 BK409 BK410 BK411 HB hHeld ⊢
     refine pP 0 (some 64) ?_
     refine pP 2 (some 66) ?_
     refine pP 3 (some 67) ?_
     refine pP 8 (some 72) ?_
     refine pH3 1 (some 65) hHeld ?_
     refine one_ (i := 4) (N := some 68) #[true, true, true, true, true, false, false, false, true, false, false] rfl rfl (one_of HT_.out (by kernel_rfl)) (by decide) (fun K hK => ?_)
     refine goes_ Try.func43 (by kernel_rfl) rfl #[.slice Ao92 t412.length co92, .slice Ao93 t415.length co93] (by rfl) rfl rfl dA ?_
     with_reducible refine (nat_Sub.calls kj5 _ _ t412 _ _ t415 t464 t465 _ ?side1 (Kd.R_reads' HO_3.out).2.1 ?side3 (Kd.R_reads' HO_4.out).2.1 A89.out).mono ?_
     (case side1 => exact dC (Kd.R_reads' HO_3.out).2.2)
     (case side3 => exact dC (Kd.R_reads' HO_4.out).2.2)
     rintro e w95 ⟨v466, rfl, ho0, hb⟩
     refine ⟨_, rfl, ?_⟩
     have HO467 := aM (Kd.R_lower (nW (nW (nW ho0 HO_3.out) HO_4.out) HO_5.out) (below_size eB))
     replace HO_3 := oE HO_3.out ho0 hb
     replace HO_4 := oE HO_4.out ho0 hb
     replace HO_5 := oE HO_5.out ho0 hb
     replace BK409 := bB BK409.out hb
     replace BK410 := bB BK410.out hb
     replace BK411 := bB BK411.out hb
     replace HB := hS HB.out hb
     (try clear hb)
     (try clear hb2)
     (try clear hk)
     (try clear hi)
     (try clear ho0)
     obtain ⟨Ao96, co96, eo96⟩ := Kd.R_slice HO467.out
     (first | subst eo96 | (injection eo96 with f1_ f2_ f3_; have f4_ := f1_.symm; have f5_ := f3_.symm; clear f1_ f2_ f3_; subst f4_; subst f5_))
     refine hK.out _ _ (cz3 BK409.out) (fun hHeld => ?_)
     clear hK K
     refine norm_ (a' := ?_) ?_ ?_
     rotate_left
     ·show Act.put _ (some 68) _ = _
      simp only [Act.put, List.setIfInBounds_toArray, List.set_cons_zero, List.set_cons_succ, i64_w, i32_w]
      rfl
     refine pP 5 (some 69) ?_
     refine pP 6 (some 70) ?_
     refine one_ (i := 7) (N := some 71) #[true, true, true, true, true, true, true, true, true, false, false] rfl rfl (one_of HT_.out (by kernel_rfl)) (by decide) (fun K hK => ?_)
     refine goes_ Try.func37 (by kernel_rfl) rfl #[.slice Ao96 t464.length co96, .int .i64 t465] (by rfl) rfl rfl dA ?_
     with_reducible refine (rat_fits.calls (fun k_ => some k_ = (.slice Ao96 t464.length co96 : Value).ownBlock) (.slice Ao96 t464.length co96) t464 t465 t468 w _ ?side1 ?side2 A90.out).mono ?_
     (case side1 => repeat (first | (with_reducible first | exact HB.out | apply below_alloc | apply pw_below_drewN | apply below_drew1 | refine below_set ?_ GE411.out) | exact HB.out))
     (case side2 => exact Kd.R_tight rfl HO467.out)
     rintro e w97 ⟨v469, rfl, ho0, hb, hkp⟩
     refine ⟨_, rfl, ?_⟩
     replace BK409 := aM (blk_kept (dK BK409.out) hkp (fun hs_ => (fun e_ => (Kd.R_ne HO467.out BK409.out (by decide)) e_) hs_))
     replace BK410 := aM (blk_kept (dK BK410.out) hkp (fun hs_ => (fun e_ => (Kd.R_ne HO467.out BK410.out (by decide)) e_) hs_))
     replace BK411 := aM (blk_kept (dK BK411.out) hkp (fun hs_ => (fun e_ => (Kd.R_ne HO467.out BK411.out (by decide)) e_) hs_))
     have HO470 := aM (Kd.R_mono (ok' := fun k_ => oN Ao92 t412 co92 k_ ∧ oN Ao93 t415 co93 k_ ∧ some k_ ≠ (v419 : Value).ownBlock) ho0 (fun k_ hk_ => ⟨Or.elim hk_ (fun hs_ => fun e_ => (((HO_3.out).1 k_ e_.symm).2) hs_) (fun hn_ => (Kd.fresh' (Kd.R_lt (dR HO_3.out)) k_ hn_)), Or.elim hk_ (fun hs_ => fun e_ => (((HO_4.out).1 k_ e_.symm).2) hs_) (fun hn_ => (Kd.fresh' (Kd.R_lt (dR HO_4.out)) k_ hn_)), Or.elim hk_ (fun hs_ => fun e_ => (((HO_5.out).1 k_ e_.symm).2) hs_) (fun hn_ => (Kd.fresh' (Kd.R_lt (dR HO_5.out)) k_ hn_))⟩))
     replace HO_3 := aM (Kd.R_mono (ok' := fun k_ => oN Ao93 t415 co93 k_ ∧ some k_ ≠ (v419 : Value).ownBlock ∧ some k_ ≠ (v469 : Value).ownBlock) (Kd.R_keptB (HO_3.out) hkp (fun k_ hk_ hs_ => (hk_.2) hs_)) (fun k_ hk_ => ⟨hk_.1.1.1, hk_.1.1.2, fun e_ => Or.elim (ho0.1 k_ e_.symm) (fun hs_ => hk_.2.1 hs_) (fun hn_ => Nat.not_le.2 hk_.2.2 hn_)⟩))
     replace HO_4 := aM (Kd.R_mono (ok' := fun k_ => oN Ao92 t412 co92 k_ ∧ some k_ ≠ (v419 : Value).ownBlock ∧ some k_ ≠ (v469 : Value).ownBlock) (Kd.R_keptB (HO_4.out) hkp (fun k_ hk_ hs_ => (hk_.2) hs_)) (fun k_ hk_ => ⟨hk_.1.1.1, hk_.1.1.2, fun e_ => Or.elim (ho0.1 k_ e_.symm) (fun hs_ => hk_.2.1 hs_) (fun hn_ => Nat.not_le.2 hk_.2.2 hn_)⟩))
     replace HO_5 := aM (Kd.R_mono (ok' := fun k_ => oN Ao92 t412 co92 k_ ∧ oN Ao93 t415 co93 k_ ∧ some k_ ≠ (v469 : Value).ownBlock) (Kd.R_keptB (HO_5.out) hkp (fun k_ hk_ hs_ => (hk_.2) hs_)) (fun k_ hk_ => ⟨hk_.1.1.1, hk_.1.1.2, fun e_ => Or.elim (ho0.1 k_ e_.symm) (fun hs_ => hk_.2.1 hs_) (fun hn_ => Nat.not_le.2 hk_.2.2 hn_)⟩))
     replace HB := aM (hb)
     clear HO467
     (try clear hb)
     (try clear hkp)
     (try clear ho0)
     obtain ⟨Ao98, co98, eo98⟩ := Kd.R_slice HO470.out
     (first | subst eo98 | (injection eo98 with f1_ f2_ f3_; have f4_ := f1_.symm; have f5_ := f3_.symm; clear f1_ f2_ f3_; subst f4_; subst f5_))
     obtain ⟨Ao99, co99, eo99⟩ := Kd.R_slice HO_5.out
     (first | subst eo99 | (injection eo99 with f1_ f2_ f3_; have f4_ := f1_.symm; have f5_ := f3_.symm; clear f1_ f2_ f3_; subst f4_; subst f5_))
     refine hK.out _ _ (cz3 BK409.out) (fun hHeld => ?_)
     clear hK K
     refine norm_ (a' := ?_) ?_ ?_
     rotate_left
     ·show Act.put _ (some 71) _ = _
      simp only [Act.put, List.setIfInBounds_toArray, List.set_cons_zero, List.set_cons_succ, i64_w, i32_w]
      rfl
     refine one_ (i := 9) (N := some 73) #[true, true, true, true, true, true, true, true, true, true, false] rfl rfl (one_of HT_.out (by kernel_rfl)) (by decide) (fun K hK => ?_)
     refine goes_ Try.func29 (by kernel_rfl) rfl #[.bool a0_0, .slice Ao98 t468.length co98, .slice Ao99 t418.length co99] (by rfl) rfl rfl dA ?_
     with_reducible refine (rat_lowest.calls kj5 a0_0 _ _ t468 _ _ t418 t471 t472 t475 _ ?side1 (Kd.R_reads' HO470.out).2.1 ?side3 (Kd.R_reads' HO_5.out).2.1 A91.out).mono ?_
     (case side1 => exact dC (Kd.R_reads' HO470.out).2.2)
     (case side3 => exact dC (Kd.R_reads' HO_5.out).2.2)
     rintro e w100 ⟨v473, v476, rfl, ho0, ho1, hb⟩
     refine ⟨_, rfl, ?_⟩
     have HO474 := aM (Kd.R_lower (nW (nW (nW (nW ho0 HO_3.out) HO_4.out) HO_5.out) HO470.out) (below_size eB))
     have HO477 := aM (Kd.R_lower (nW (nW (nW (nW ho1 HO_3.out) HO_4.out) HO_5.out) HO470.out) (below_size eB))
     replace HO_3 := tT HO_3.out hb ho0 ho1
     replace HO_4 := tT HO_4.out hb ho0 ho1
     replace HO_5 := tT HO_5.out hb ho0 ho1
     replace HO470 := tT HO470.out hb ho0 ho1
     replace BK409 := bB BK409.out hb
     replace BK410 := bB BK410.out hb
     replace BK411 := bB BK411.out hb
     replace HB := hS HB.out hb
     (try clear hb)
     (try clear hb2)
     (try clear hk)
     (try clear hi)
     (try clear ho0)
     (try clear ho1)
     obtain ⟨Ao102, co102, eo102⟩ := Kd.R_slice HO474.out
     (first | subst eo102 | (injection eo102 with f1_ f2_ f3_; have f4_ := f1_.symm; have f5_ := f3_.symm; clear f1_ f2_ f3_; subst f4_; subst f5_))
     obtain ⟨Ao104, co104, eo104⟩ := Kd.R_slice HO477.out
     (first | subst eo104 | (injection eo104 with f1_ f2_ f3_; have f4_ := f1_.symm; have f5_ := f3_.symm; clear f1_ f2_ f3_; subst f4_; subst f5_))
     refine hK.out _ _ (cz3 BK409.out) (fun hHeld => ?_)
     clear hK K
     refine norm_ (a' := ?_) ?_ ?_
     rotate_left
     ·show Act.put _ (some 73) _ = _
      simp only [Act.put, List.setIfInBounds_toArray, List.set_cons_zero, List.set_cons_succ, i64_w, i32_w]
      rfl
     refine one_ (i := 10) (N := none) #[true, true, true, true, true, true, true, true, true, true, true] rfl rfl (one_of HT_.out (by kernel_rfl)) (by decide) (fun K hK => ?_)
     have hs101 : w100.cell? ⟨gb411, 0, none⟩ = some (.bool false) := (blk_cell BK411.out 0).trans rfl
     have hfs101 := blk_frozen BK411.out 0
     have hns101_0 := NB409_411.out
     have hns101_1 := NB410_411.out
     have hms101_0 := NB411_409.out
     have hms101_1 := NB411_410.out
     have hs103 : w100.cell? ⟨gb411, 1, none⟩ = some (.slice none 0 0) := (blk_cell BK411.out 1).trans rfl
     have hfs103 := blk_frozen BK411.out 1
     have hns103_0 := NB409_411.out
     have hns103_1 := NB410_411.out
     have hms103_0 := NB411_409.out
     have hms103_1 := NB411_410.out
     have hs105 : w100.cell? ⟨gb411, 2, none⟩ = some (.slice none 0 0) := (blk_cell BK411.out 2).trans rfl
     have hfs105 := blk_frozen BK411.out 2
     have hns105_0 := NB409_411.out
     have hns105_1 := NB410_411.out
     have hms105_0 := NB411_409.out
     have hms105_1 := NB411_410.out
     refine skip_ (w1 := ?_) (by rfl) rfl ?_ ?_
     rotate_left
     ·go_simp
      rfl
     refine hK.out _ _ ⟨((cell_far (p := ⟨gb411, _, none⟩) NB409_411.out _).trans (((cell_far (p := ⟨gb411, _, none⟩) NB409_411.out _).trans (((cell_far (p := ⟨gb411, _, none⟩) NB409_411.out _).trans (hHeld.1)))))), ((cell_far (p := ⟨gb411, _, none⟩) NB409_411.out _).trans (((cell_far (p := ⟨gb411, _, none⟩) NB409_411.out _).trans (((cell_far (p := ⟨gb411, _, none⟩) NB409_411.out _).trans (hHeld.2.1)))))), ((cell_far (p := ⟨gb411, _, none⟩) NB409_411.out _).trans (((cell_far (p := ⟨gb411, _, none⟩) NB409_411.out _).trans (((cell_far (p := ⟨gb411, _, none⟩) NB409_411.out _).trans (hHeld.2.2))))))⟩ (fun hHeld => ?_)
     clear hK K
     refine done_ (done_of HT_.out (by kernel_rfl)) ?_
     try go_wp2
     refine bodyPost_ret (results_cell_row rfl _ _ gb411 25 #[.bool t471, .slice Ao102 t472.length co102, .slice Ao104 t475.length co104] (0, 0) _ rfl (dP BK411.out) Try.underlying25 rfl (by kernel_rfl)) rfl ?_
     exact ⟨_, _, dE, by (with_reducible repeat (first | apply Kd.R_alloc | apply Kd.R_drewN | apply Kd.R_drew)); exact Kd.R_mono (Kd.R_far (p := ⟨gb411, 2, none⟩) (Kd.R_far (p := ⟨gb411, 1, none⟩) (Kd.R_far (p := ⟨gb411, 0, none⟩) (Kd.R_types HO474.out BK411.out (by decide)) (fun _ hk => hk.2) (.bool t471)) (fun _ hk => hk.2) (.slice Ao102 t472.length co102)) (fun _ hk => hk.2) (.slice Ao104 t475.length co104)) (fun _ hk => hk.1.1.1.1.1), by (with_reducible repeat (first | apply Kd.R_alloc | apply Kd.R_drewN | apply Kd.R_drew)); exact Kd.R_mono (Kd.R_far (p := ⟨gb411, 2, none⟩) (Kd.R_far (p := ⟨gb411, 1, none⟩) (Kd.R_far (p := ⟨gb411, 0, none⟩) (Kd.R_types HO477.out BK411.out (by decide)) (fun _ hk => hk.2) (.bool t471)) (fun _ hk => hk.2) (.slice Ao102 t472.length co102)) (fun _ hk => hk.2) (.slice Ao104 t475.length co104)) (fun _ hk => hk.1.1.1.1.1), dG GE411.out⟩
def rat_reckonedAdd.f (k : Nat) (a0_0 : Bool) (l0_1 l0_2 : List Int) (a1_0 : Bool) (l1_1 l1_2 : List Int) : Option (Bool × List Int × List Int × Int) := rat_reckoned.f k a0_0 l0_1 l0_2 a1_0 l1_1 l1_2 (rat_AddC1.f k a0_0 l0_1 l0_2 a1_0 l1_1 l1_2)
theorem rat_reckonedAdd.mono : ∀ a0 a1 a2 a3 a4 a5 k, LeO (rat_reckonedAdd.f k a0 a1 a2 a3 a4 a5) (rat_reckonedAdd.f (k + 1) a0 a1 a2 a3 a4 a5) := by
 intro a0 a1 a2 a3 a4 a5 k
 unfold rat_reckonedAdd.f rat_reckoned.f
 have m0_ := rat_AddC1.mono
 have m1_ := rat_Check.mono
 exact mX
theorem rat_reckonedAdd.calls (k : Nat) (a0_0 : Bool) (A0_1 : Option Addr) (c0_1 : Nat) (l0_1 : List Int) (A0_2 : Option Addr) (c0_2 : Nat) (l0_2 : List Int) (a1_0 : Bool) (A1_1 : Option Addr) (c1_1 : Nat) (l1_1 : List Int) (A1_2 : Option Addr) (c1_2 : Nat) (l1_2 : List Int) (r1 : Bool) (r2 r3 : List Int) (r4 : Int) (w : World) (ga gb : Nat) (bka : w.heap[ga]? = some (.cells #[.bool a0_0, .slice A0_1 l0_1.length c0_1, .slice A0_2 l0_2.length c0_2] 25 (0, 0))) (bkb : w.heap[gb]? = some (.cells #[.bool a1_0, .slice A1_1 l1_1.length c1_1, .slice A1_2 l1_2.length c1_2] 25 (0, 0))) (nab : ga ≠ gb) (hr0_1 : Kd.C (Kd.int .u64) w A0_1 l0_1.length l0_1) (hc0_1 : l0_1.length ≤ c0_1) (hr0_2 : Kd.C (Kd.int .u64) w A0_2 l0_2.length l0_2) (hc0_2 : l0_2.length ≤ c0_2) (hr1_1 : Kd.C (Kd.int .u64) w A1_1 l1_1.length l1_1) (hc1_1 : l1_1.length ≤ c1_1) (hr1_2 : Kd.C (Kd.int .u64) w A1_2 l1_2.length l1_2) (hc1_2 : l1_2.length ≤ c1_2) (h : rat_reckonedAdd.f k a0_0 l0_1 l0_2 a1_0 l1_1 l1_2 = some (r1, r2, r3, r4)) :
  Calls Try.prog 27 #[.agg #[.bool a0_0, .slice A0_1 l0_1.length c0_1, .slice A0_2 l0_2.length c0_2], .agg #[.bool a1_0, .slice A1_1 l1_1.length c1_1, .slice A1_2 l1_2.length c1_2], .func (.func 42) #[] #[.pointer (some ⟨ga, 0, none⟩), .pointer (some ⟨gb, 0, none⟩)]] w fun e w' => ∃ v1_ v2_ : Value, e = .returned (.tuple #[.agg #[.bool r1, v1_, v2_], .int .i64 r4]) ∧ Kd.R (Kd.int .u64) 44 w' w.heap.size (fun k_ => some k_ ≠ (v2_ : Value).ownBlock) v1_ r2 ∧ Kd.R (Kd.int .u64) 44 w' w.heap.size (fun k_ => some k_ ≠ (v1_ : Value).ownBlock) v2_ r3 ∧ Below w.heap.size w w' := by
 refine rat_reckoned.calls (fun args w => enters_ Try.func42 (by kernel_rfl) rfl args w) k a0_0 _ _ l0_1 _ _ l0_2 a1_0 _ _ l1_1 _ _ l1_2 _ r1 r2 r3 r4 w hr0_1 hc0_1 hr0_2 hc0_2 hr1_1 hc1_1 hr1_2 hc1_2 (fun w1 x1 x2 x3 hb hx => ?_) h
 have la := blk_lt bka
 have lb := blk_lt bkb
 exact rat_AddC1.calls k a0_0 _ _ l0_1 _ _ l0_2 a1_0 _ _ l1_1 _ _ l1_2 x1 x2 x3 w1 ga gb (blk_below bka hb) (blk_below bkb hb) nab (Kd.C_below hr0_1 hb) hc0_1 (Kd.C_below hr0_2 hb) hc0_2 (Kd.C_below hr1_1 hb) hc1_1 (Kd.C_below hr1_2 hb) hc1_2 hx
def rat_Add.f (k : Nat) (a0_0 : Bool) (l0_1 : List Int) (l0_2 : List Int) (a1_0 : Bool) (l1_1 : List Int) (l1_2 : List Int) : Option (Bool × List Int × List Int × Int) := (rat_reckonedAdd.f k a0_0 l0_1 l0_2 a1_0 l1_1 l1_2).bind fun bt497 => (some (bt497.1, bt497.2.1, bt497.2.2.1, bt497.2.2.2))
theorem rat_Add.mono : ∀ a0 a1 a2 a3 a4 a5 k, LeO (rat_Add.f k a0 a1 a2 a3 a4 a5) (rat_Add.f (k + 1) a0 a1 a2 a3 a4 a5) := by
 intro a0 a1 a2 a3 a4 a5 k
 unfold rat_Add.f
 have m0_ := rat_reckonedAdd.mono
 exact mX
set_option maxHeartbeats 8000000 in
set_option maxRecDepth 100000 in
theorem rat_Add.calls (k : Nat) (a0_0 : Bool) (A0_1 : Option Addr) (c0_1 : Nat) (l0_1 : List Int) (A0_2 : Option Addr) (c0_2 : Nat) (l0_2 : List Int) (a1_0 : Bool) (A1_1 : Option Addr) (c1_1 : Nat) (l1_1 : List Int) (A1_2 : Option Addr) (c1_2 : Nat) (l1_2 : List Int) (r1 : Bool) (r2 : List Int) (r3 : List Int) (r4 : Int) (w : World) (hr0_1 : Kd.C (Kd.int .u64) w A0_1 l0_1.length l0_1) (hc0_1 : l0_1.length ≤ c0_1) (hr0_2 : Kd.C (Kd.int .u64) w A0_2 l0_2.length l0_2) (hc0_2 : l0_2.length ≤ c0_2) (hr1_1 : Kd.C (Kd.int .u64) w A1_1 l1_1.length l1_1) (hc1_1 : l1_1.length ≤ c1_1) (hr1_2 : Kd.C (Kd.int .u64) w A1_2 l1_2.length l1_2) (hc1_2 : l1_2.length ≤ c1_2) (h : rat_Add.f k a0_0 l0_1 l0_2 a1_0 l1_1 l1_2 = some (r1, r2, r3, r4)) :
  Calls Try.prog 21 #[.agg #[.bool a0_0, .slice A0_1 l0_1.length c0_1, .slice A0_2 l0_2.length c0_2], .agg #[.bool a1_0, .slice A1_1 l1_1.length c1_1, .slice A1_2 l1_2.length c1_2]] w fun e w' => ∃ v1_ v2_ : Value, e = .returned (.tuple #[.agg #[.bool r1, v1_, v2_], .int .i64 r4]) ∧ Kd.R (Kd.int .u64) 44 w' w.heap.size (fun k_ => some k_ ≠ (v2_ : Value).ownBlock) v1_ r2 ∧ Kd.R (Kd.int .u64) 44 w' w.heap.size (fun k_ => some k_ ≠ (v1_ : Value).ownBlock) v2_ r3 ∧ Below w.heap.size w w' := by
 have hmf : ∀ (fn : Fn) (first cap : Array Value) (w : World), (Instr.makeFunc fn first cap).run Try.prog w = .ok (.func fn first cap) w := fun _ _ _ _ => rfl
 have hu46 := Try.underlying25
 have HR0_1 := aM hr0_1
 have HC0_1 := aM hc0_1
 clear hr0_1 hc0_1
 have HR0_2 := aM hr0_2
 have HC0_2 := aM hc0_2
 clear hr0_2 hc0_2
 have HR1_1 := aM hr1_1
 have HC1_1 := aM hc1_1
 clear hr1_1 hc1_1
 have HR1_2 := aM hr1_2
 have HC1_2 := aM hc1_2
 clear hr1_2 hc1_2
 have HB := aM (Below.refl w.heap.size w)
 have H := h
 clear h
 unfold rat_Add.f at H
 replace H := oA H
 obtain ⟨⟨t497, t498, t501, t504⟩, A3, H⟩ := H
 (try dsimp only at H)
 simp only [Option.some.injEq, Prod.mk.injEq] at H
 obtain ⟨rfl, rfl, rfl, rfl⟩ := H
 go_enter Try.func21, Try.ntmps21
 go_wp2_with (first | ((with_reducible refine gate_dst (N := 2) rfl ?_); refine bE 2 #[.bool a0_0, .slice A0_1 l0_1.length c0_1, .slice A0_2 l0_2.length c0_2] 25 ?_; intro gb494 hg w4 hbox hb; have BK494 := aM (hbox); have GE494 : Aside0 (w.heap.size ≤ gb494) := gE hg; replace HB := hS HB.out hb; clear hb hbox hg) | ((with_reducible refine gate_dst (N := 3) rfl ?_); refine bE 3 #[.bool a1_0, .slice A1_1 l1_1.length c1_1, .slice A1_2 l1_2.length c1_2] 25 ?_; intro gb495 hg w5 hbox hb; have BK495 := aM (hbox); have GE495 : Aside0 (w.heap.size ≤ gb495) := gE hg; replace HB := hS HB.out hb; have NB494_495 := nL hg BK494.out; have NB495_494 := nG hg BK494.out; replace BK494 := bB BK494.out hb; clear hb hbox hg) | ((with_reducible refine gate_dst (N := 4) rfl ?_); refine bE 4 #[.bool false, .slice none 0 0, .slice none 0 0] 25 ?_; intro gb496 hg w6 hbox hb; have BK496 := aM (hbox); have GE496 : Aside0 (w.heap.size ≤ gb496) := gE hg; replace HB := hS HB.out hb; have NB494_496 := nL hg BK494.out; have NB496_494 := nG hg BK494.out; replace BK494 := bB BK494.out hb; have NB495_496 := nL hg BK495.out; have NB496_495 := nG hg BK495.out; replace BK495 := bB BK495.out hb; clear hb hbox hg; have hnb7 := NB494_495.out; have hnc7 := NB495_494.out; have hnb8 := NB494_496.out; have hnc8 := NB496_494.out; obtain ⟨hcz9_0, hcz9_1, hcz9_2⟩ := cz3 BK494.out; obtain ⟨hfz9_0, hfz9_1, hfz9_2⟩ := fz3 BK494.out; have hnb10 := NB495_496.out; have hnc10 := NB496_495.out; obtain ⟨hcz11_0, hcz11_1, hcz11_2⟩ := cz3 BK495.out; obtain ⟨hfz11_0, hfz11_1, hfz11_2⟩ := fz3 BK495.out) | ((with_reducible refine gate_callee (f := 27) rfl ?_); refine gL (some 9) Try.func27 #[.agg #[.bool a0_0, .slice A0_1 l0_1.length c0_1, .slice A0_2 l0_2.length c0_2], .agg #[.bool a1_0, .slice A1_1 l1_1.length c1_1, .slice A1_2 l1_2.length c1_2], .func (.func 42) #[] #[.pointer (some ⟨gb494, 0, none⟩), .pointer (some ⟨gb495, 0, none⟩)]] ?_; (with_reducible refine (rat_reckonedAdd.calls k a0_0 _ _ l0_1 _ _ l0_2 a1_0 _ _ l1_1 _ _ l1_2 t497 t498 t501 t504 _ gb494 gb495 ?bka ?bkb NB494_495.out ?side1 HC0_1.out ?side3 HC0_2.out ?side5 HC1_1.out ?side7 HC1_2.out A3.out).mono ?_); (case bka => (with_reducible repeat (first | refine blk_drewN ?_ _ | refine blk_drew ?_ | refine blk_alloc ?_ _)); exact BK494.out); (case bkb => (with_reducible repeat (first | refine blk_drewN ?_ _ | refine blk_drew ?_ | refine blk_alloc ?_ _)); exact BK495.out); (case side1 => exact dC (Kd.C_below HR0_1.out HB.out)); (case side3 => exact dC (Kd.C_below HR0_2.out HB.out)); (case side5 => exact dC (Kd.C_below HR1_1.out HB.out)); (case side7 => exact dC (Kd.C_below HR1_2.out HB.out)); rintro e w12 ⟨v499, v502, rfl, ho0, ho1, hb⟩; refine ⟨_, rfl, ?_⟩; have HO500 := aM (Kd.R_lower ho0 (below_size eB)); have HO503 := aM (Kd.R_lower ho1 (below_size eB)); replace BK494 := bB BK494.out hb; replace BK495 := bB BK495.out hb; replace BK496 := bB BK496.out hb; replace HB := hS HB.out hb; (try clear hb); (try clear ho0); (try clear ho1); obtain ⟨hcz13_0, hcz13_1, hcz13_2⟩ := cz3 BK496.out; obtain ⟨hfz13_0, hfz13_1, hfz13_2⟩ := fz3 BK496.out; obtain ⟨Ao14, co14, rfl⟩ := Kd.R_slice HO500.out; obtain ⟨Ao15, co15, rfl⟩ := Kd.R_slice HO503.out))
 refine bodyPost_ret (results_ct rfl _ _ gb496 25 #[.bool t497, .slice Ao14 t498.length co14, .slice Ao15 t501.length co15] (0, 0) _ rfl (dP BK496.out) Try.underlying25 rfl (by kernel_rfl)) rfl ?_
 exact ⟨_, _, dE, oR HO500.out BK496.out, oR HO503.out BK496.out, eB⟩
end Go.Proofs.Ytiogfeeaepkkmaa.PA
