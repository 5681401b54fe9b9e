/- A part of the proof (14). -/
import Derived.Test.YtiogfeeaepkkmaaYKOVKO2
import Derived.Test.YtiogfeeaepkkmaaYKOVKO6
import Derived.Test.YtiogfeeaepkkmaaYKOVKO7
import Derived.Test.YtiogfeeaepkkmaaYKOVKO13
namespace Go.Proofs.Ytiogfeeaepkkmaa.PA
open Go.RowKit Go.Proofs.YtiogfeeaepkkmaaW.PrintWords Go.Proofs.YtiogfeeaepkkmaaW.PrintLast Go.Proofs.YtiogfeeaepkkmaaW.PrintMore
attribute [local go_sem] max2_int min2_int max_two min_two max_three min_three max_four min_four
set_option linter.unusedVariables false
set_option linter.unusedSimpArgs false
theorem below_sz {w Y : World} {g : Nat} {v : Value} (h : Below (w.setCell ⟨g, 0, none⟩ v).heap.size (w.setCell ⟨g, 0, none⟩ v) Y) : Below w.heap.size (w.setCell ⟨g, 0, none⟩ v) Y := by
 rw [World.size_setCell] at h
 exact h
theorem below_put {w W : World} {g : Nat} {v : Value} (h : Below w.heap.size w W) : Below (w.setCell ⟨g, 0, none⟩ v).heap.size (w.setCell ⟨g, 0, none⟩ v) (W.setCell ⟨g, 0, none⟩ v) := by
 refine ⟨h.os, h.tape, h.output, ?_, fun k hk => ?_⟩
 ·rw [World.size_setCell, World.size_setCell]; exact h.size
 ·rw [World.size_setCell] at hk
  have hb := h.block k hk
  by_cases e : k = g
  ·subst e
   simp only [World.setCell, Array.getElem?_modify, if_true, hb]
  ·rw [Below.heap_setCell _ _ _ _ e, Below.heap_setCell _ _ _ _ e]; exact hb
theorem setCell_twice (w : World) (g : Nat) (v v' : Value) : (w.setCell ⟨g, 0, none⟩ v).setCell ⟨g, 0, none⟩ v' = w.setCell ⟨g, 0, none⟩ v' := by
 simp only [World.setCell]
 congr 1
 apply Array.ext_getElem?
 intro i
 simp only [Array.getElem?_modify]
 by_cases e : g = i
 ·subst e
  rw [if_pos rfl, if_pos rfl, if_pos rfl]
  cases w.heap[g]? with
  | none => rfl
  | some o => cases o <;> simp
 ·rw [if_neg e, if_neg e, if_neg e]
theorem below_put2 {w W : World} {g : Nat} {v v' : Value} (h : Below (w.setCell ⟨g, 0, none⟩ v).heap.size (w.setCell ⟨g, 0, none⟩ v) W) : Below (w.setCell ⟨g, 0, none⟩ v').heap.size (w.setCell ⟨g, 0, none⟩ v') (W.setCell ⟨g, 0, none⟩ v') := by
 have := below_put (g := g) (v := v') h
 rwa [setCell_twice] at this
def rat_CmpC1.f (k : Nat) (a0_0 : Bool) (l0_1 : List Int) (l0_2 : List Int) (a1_0 : Bool) (l1_1 : List Int) (l1_2 : List Int) : Option Int := (rat_Sign.f k a0_0 l0_1 l0_2).bind fun t124 => ((rat_Sign.f k a1_0 l1_1 l1_2).bind fun t125 => (if t124 < t125 then (some (-1)) else (if t124 > t125 then (some 1) else ((rat_mul.f k l0_1 l1_2).bind fun t126 => ((rat_mul.f k l1_1 l0_2).bind fun t129 => ((nat_Cmp.f k t126 t129).bind fun t132 => (if t124 < 0 then (some (wrap64 (-t132))) else (some t132))))))))
def rat_CmpC1.T2 : Bool × List (List Nat × List Nat) := (true, [([], []), ([0], [0]), ([], []), ([2], [2]), ([1, 3], [1, 3]), ([], []), ([5], [5]), ([], []), ([7], [7]), ([6, 8, 4], [6, 8]), ([4, 9, 0, 1, 2, 3, 4], [4]), ([9, 10, 0, 1, 2, 3, 4, 5, 6, 7, 8, 9, 10], [9])])
def rat_CmpC1.B2 : List Nat := [0, 1, 0, 4, 15, 0, 32, 0, 128, 511, 1023, 2047]
theorem rat_CmpC1.tab2 : rtab .any (opsOf Try.f31 2) = rat_CmpC1.T2 := by kernel_rfl
theorem rat_CmpC1.bits2 : waitsOk rat_CmpC1.T2.2 rat_CmpC1.B2 = true := by kernel_rfl
set_option maxHeartbeats 8000000 in
set_option maxRecDepth 100000 in
theorem rat_CmpC1.calls (k : Nat) (a0_0 : Bool) (A0_1 : Option Addr) (c0_1 : Nat) (l0_1 : List Int) (A0_2 : Option Addr) (c0_2 : Nat) (l0_2 : List Int) (a1_0 : Bool) (A1_1 : Option Addr) (c1_1 : Nat) (l1_1 : List Int) (A1_2 : Option Addr) (c1_2 : Nat) (l1_2 : List Int) (r4 : Int) (w : World) (gb121 gb122 gO : Nat) (bka_ : w.heap[gb121]? = some (.cells #[.bool a0_0, .slice A0_1 l0_1.length c0_1, .slice A0_2 l0_2.length c0_2] 25 (0, 0))) (bkb_ : w.heap[gb122]? = some (.cells #[.bool a1_0, .slice A1_1 l1_1.length c1_1, .slice A1_2 l1_2.length c1_2] 25 (0, 0))) (bkO_ : w.heap[gO]? = some (.cells #[.int .i64 0] 3 (0, 0))) (nab_ : gb121 ≠ gb122) (hr0_1 : Kd.C (Kd.int .u64) w A0_1 l0_1.length l0_1) (hc0_1 : l0_1.length ≤ c0_1) (hr0_2 : Kd.C (Kd.int .u64) w A0_2 l0_2.length l0_2) (hc0_2 : l0_2.length ≤ c0_2) (hr1_1 : Kd.C (Kd.int .u64) w A1_1 l1_1.length l1_1) (hc1_1 : l1_1.length ≤ c1_1) (hr1_2 : Kd.C (Kd.int .u64) w A1_2 l1_2.length l1_2) (hc1_2 : l1_2.length ≤ c1_2) (h : rat_CmpC1.f k a0_0 l0_1 l0_2 a1_0 l1_1 l1_2 = some r4) :
  Calls Try.prog 31 #[.pointer (some ⟨gb121, 0, none⟩), .pointer (some ⟨gb122, 0, none⟩), .pointer (some ⟨gO, 0, none⟩)] w fun e w' => e = .returned (.agg #[.bool false, .slice none 0 0, .slice none 0 0]) ∧ Below (w.setCell ⟨gO, 0, none⟩ (.int .i64 r4)).heap.size (w.setCell ⟨gO, 0, none⟩ (.int .i64 r4)) w' := by
 have hu46 := Try.underlying25
 have HR0_1 := aM hr0_1
 have HC0_1 := aM hc0_1
 clear hr0_1 hc0_1
 have HR0_2 := aM hr0_2
 have HC0_2 := aM hc0_2
 clear hr0_2 hc0_2
 have HR1_1 := aM hr1_1
 have HC1_1 := aM hc1_1
 clear hr1_1 hc1_1
 have HR1_2 := aM hr1_2
 have HC1_2 := aM hc1_2
 clear hr1_2 hc1_2
 have HB := aM (Below.refl w.heap.size w)
 have BK121 := aM bka_
 have BK122 := aM bkb_
 have NB121_122 := aM nab_
 have NB122_121 := aM nab_.symm
 have BKO := aM bkO_
 clear bka_ bkb_ nab_ bkO_
 have H := h
 clear h
 unfold rat_CmpC1.f at H
 replace H := oA H
 obtain ⟨t124, A3, H⟩ := H
 (try dsimp only at H)
 replace H := oA H
 obtain ⟨t125, A4, H⟩ := H
 (try dsimp only at H)
 go_enter Try.func31, Try.ntmps31
 try go_wp2_with (first | ((with_reducible refine gate_dst (N := 3) rfl ?_); refine bE 3 #[.bool false, .slice none 0 0, .slice none 0 0] 25 ?_; intro gb123 hg w8 hbox hb; have BK123 := aM (hbox); have GE123 : Aside0 (w.heap.size ≤ gb123) := gE hg; replace HB := hS HB.out hb; have NB121_123 := nL hg BK121.out; have NB123_121 := nG hg BK121.out; replace BK121 := bB BK121.out hb; have NB122_123 := nL hg BK122.out; have NB123_122 := nG hg BK122.out; replace BK122 := bB BK122.out hb; clear hb hbox hg))
 replace BK121 := aM (blk_drew BK121.out)
 replace BK122 := aM (blk_drew BK122.out)
 replace BK123 := aM (blk_drew BK123.out)
 replace HB := aM (below_drew1 HB.out)
 refine start_ (n := 6) (S := fun w' => w'.cell? ⟨gb121, 0, none⟩ = some (.bool a0_0) ∧ w'.cell? ⟨gb121, 1, none⟩ = some (.slice A0_1 l0_1.length c0_1) ∧ w'.cell? ⟨gb121, 2, none⟩ = some (.slice A0_2 l0_2.length c0_2) ∧ w'.cell? ⟨gb122, 0, none⟩ = some (.bool a1_0) ∧ w'.cell? ⟨gb122, 1, none⟩ = some (.slice A1_1 l1_1.length c1_1) ∧ w'.cell? ⟨gb122, 2, none⟩ = some (.slice A1_2 l1_2.length c1_2)) (ds := []) #[false, false, false, false, false, false] (by kernel_rfl) rfl rfl ⟨(blk_cell BK121.out 0).trans rfl, (blk_cell BK121.out 1).trans rfl, (blk_cell BK121.out 2).trans rfl, (blk_cell BK122.out 0).trans rfl, (blk_cell BK122.out 1).trans rfl, (blk_cell BK122.out 2).trans rfl⟩ (fun hHeld => ?_)
 generalize w8.drew = w9 at BK121 BK122 BK123 HB hHeld ⊢
 refine take_ (i := 0) (N := some 8) (v := ?_) (a' := ?_) #[true, false, false, false, false, false] rfl rfl (by kernel_rfl) (fun _ _ _ h => h) (Or.inl ⟨by rfl, ?_⟩) hHeld ?_ ?_
 rotate_left
 ·rintro w' ⟨s0, s1, s2, s3, s4, s5⟩
  go_simp
  with_reducible rfl
 rotate_left
 ·simp only [Act.put, List.setIfInBounds_toArray, List.set_cons_zero, List.set_cons_succ, i64_w, i32_w]
  rfl
 refine take_ (i := 2) (N := some 10) (v := ?_) (a' := ?_) #[true, false, true, false, false, false] rfl rfl (by kernel_rfl) (fun _ _ _ h => h) (Or.inl ⟨by rfl, ?_⟩) hHeld ?_ ?_
 rotate_left
 ·rintro w' ⟨s0, s1, s2, s3, s4, s5⟩
  go_simp
  with_reducible rfl
 rotate_left
 ·simp only [Act.put, List.setIfInBounds_toArray, List.set_cons_zero, List.set_cons_succ, i64_w, i32_w]
  rfl
 refine one_ (i := 1) (N := some 9) #[true, true, true, false, false, false] rfl rfl (by kernel_rfl) (by decide) (fun K hK => ?_)
 refine goes_ Try.func12 (by kernel_rfl) rfl #[.agg #[.bool a0_0, .slice A0_1 l0_1.length c0_1, .slice A0_2 l0_2.length c0_2]] (by rfl) rfl rfl dA ?_
 with_reducible refine (rat_Sign.calls k a0_0 _ _ l0_1 _ _ l0_2 t124 _ ?side1 HC0_1.out ?side3 HC0_2.out A3.out).mono ?_
 (case side1 => exact dC (Kd.C_below HR0_1.out HB.out))
 (case side3 => exact dC (Kd.C_below HR0_2.out HB.out))
 rintro e w10 ⟨rfl, hb⟩
 refine ⟨_, rfl, ?_⟩
 replace BK121 := bB BK121.out hb
 replace BK122 := bB BK122.out hb
 replace BK123 := bB BK123.out hb
 replace HB := hS HB.out hb
 (try clear hb)
 (try clear hb2)
 (try clear hk)
 (try clear hi)
 refine hK.out _ _ ⟨(blk_cell BK121.out 0).trans rfl, (blk_cell BK121.out 1).trans rfl, (blk_cell BK121.out 2).trans rfl, (blk_cell BK122.out 0).trans rfl, (blk_cell BK122.out 1).trans rfl, (blk_cell BK122.out 2).trans rfl⟩ (fun hHeld => ?_)
 clear hK K
 refine norm_ (a' := ?_) ?_ ?_
 rotate_left
 ·show Act.put _ (some 9) _ = _
  simp only [Act.put, List.setIfInBounds_toArray, List.set_cons_zero, List.set_cons_succ, i64_w, i32_w]
  rfl
 refine one_ (i := 3) (N := some 11) #[true, true, true, true, false, false] rfl rfl (by kernel_rfl) (by decide) (fun K hK => ?_)
 refine goes_ Try.func12 (by kernel_rfl) rfl #[.agg #[.bool a1_0, .slice A1_1 l1_1.length c1_1, .slice A1_2 l1_2.length c1_2]] (by rfl) rfl rfl dA ?_
 with_reducible refine (rat_Sign.calls k a1_0 _ _ l1_1 _ _ l1_2 t125 _ ?side1 HC1_1.out ?side3 HC1_2.out A4.out).mono ?_
 (case side1 => exact dC (Kd.C_below HR1_1.out HB.out))
 (case side3 => exact dC (Kd.C_below HR1_2.out HB.out))
 rintro e w11 ⟨rfl, hb⟩
 refine ⟨_, rfl, ?_⟩
 replace BK121 := bB BK121.out hb
 replace BK122 := bB BK122.out hb
 replace BK123 := bB BK123.out hb
 replace HB := hS HB.out hb
 (try clear hb)
 (try clear hb2)
 (try clear hk)
 (try clear hi)
 refine hK.out _ _ ⟨(blk_cell BK121.out 0).trans rfl, (blk_cell BK121.out 1).trans rfl, (blk_cell BK121.out 2).trans rfl, (blk_cell BK122.out 0).trans rfl, (blk_cell BK122.out 1).trans rfl, (blk_cell BK122.out 2).trans rfl⟩ (fun hHeld => ?_)
 clear hK K
 refine norm_ (a' := ?_) ?_ ?_
 rotate_left
 ·show Act.put _ (some 11) _ = _
  simp only [Act.put, List.setIfInBounds_toArray, List.set_cons_zero, List.set_cons_succ, i64_w, i32_w]
  rfl
 refine pure_ (i := 4) (N := some 4) (v := ?_) (a' := ?_) #[true, true, true, true, true, false] rfl rfl (by kernel_rfl) (fun _ _ _ h => h) (Or.inl ⟨by rfl, ?_⟩) ?_ ?_
 rotate_left
 ·intro w'
  go_simp
  with_reducible rfl
 rotate_left
 ·simp only [Act.put, List.setIfInBounds_toArray, List.set_cons_zero, List.set_cons_succ, i64_w, i32_w]
  rfl
 refine pure_ (i := 5) (N := some 5) (v := ?_) (a' := ?_) #[true, true, true, true, true, true] rfl rfl (by kernel_rfl) (fun _ _ _ h => h) (Or.inl ⟨by rfl, ?_⟩) ?_ ?_
 rotate_left
 ·intro w'
  go_simp
  with_reducible rfl
 rotate_left
 ·simp only [Act.put, List.setIfInBounds_toArray, List.set_cons_zero, List.set_cons_succ, i64_w, i32_w]
  rfl
 refine done_ (by kernel_rfl) ?_
 by_cases c5 : t124 < t125
 ·rw [if_pos c5] at H
  have c5b0 := decide_eq_true c5
  clear c5
  obtain rfl := Option.some.inj H
  have hnb12 := NB123_121.out
  have hnc12 := NB121_123.out
  have hnb13 := NB123_122.out
  have hnc13 := NB122_123.out
  obtain ⟨hcz14_0, hcz14_1, hcz14_2⟩ := cz3 BK123.out
  obtain ⟨hfz14_0, hfz14_1, hfz14_2⟩ := fz3 BK123.out
  have hnO_ := (Nat.ne_of_lt (Nat.lt_of_lt_of_le (blk_lt BKO.out) GE123.out) : gO ≠ gb123)
  have hnP_ := (Nat.ne_of_gt (Nat.lt_of_lt_of_le (blk_lt BKO.out) GE123.out) : gb123 ≠ gO)
  have hcO_ : w11.cell? ⟨gO, 0, none⟩ = some (.int .i64 0) := (blk_cell (blk_below BKO.out HB.out) 0).trans rfl
  have hfO_ := blk_frozen (blk_below BKO.out HB.out) 0
  try go_wp2
  refine bodyPost_ret (results_cell_row rfl _ _ gb123 25 #[.bool false, .slice none 0 0, .slice none 0 0] (0, 0) _ rfl (by (with_reducible repeat (first | refine blk_drewN ?_ _ | refine blk_drew ?_ | refine blk_alloc ?_ _)); refine blk_put (cs := #[.bool false, .slice none 0 0, .slice none 0 0]) ?_ 2 _ rfl; (with_reducible repeat (first | refine blk_drewN ?_ _ | refine blk_drew ?_ | refine blk_alloc ?_ _)); refine blk_put (cs := #[.bool false, .slice none 0 0, .slice none 0 0]) ?_ 1 _ rfl; (with_reducible repeat (first | refine blk_drewN ?_ _ | refine blk_drew ?_ | refine blk_alloc ?_ _)); refine blk_put (cs := #[.bool false, .slice none 0 0, .slice none 0 0]) ?_ 0 _ rfl; (with_reducible repeat (first | refine blk_drewN ?_ _ | refine blk_drew ?_ | refine blk_alloc ?_ _)); (repeat (refine blk_far ?_ (show gb123 ≠ gO from hnP_) _; (with_reducible repeat (first | refine blk_drewN ?_ _ | refine blk_drew ?_ | refine blk_alloc ?_ _)))); exact BK123.out) Try.underlying25 rfl (by kernel_rfl)) rfl ?_
  have geO_ : ∀ v, (w.setCell ⟨gO, 0, none⟩ v).heap.size ≤ gb123 := fun v => by rw [World.size_setCell]; exact GE123.out
  exact ⟨by first | rfl | (simp; done) | (simp [*]; done), by (try refine below_sz ?_); repeat (first | (with_reducible exact below_put HB.out) | (with_reducible exact below_put2 (below_put HB.out)) | (with_reducible first | apply below_alloc | apply pw_below_drewN | apply below_drew1 | refine below_set ?_ (geO_ _)) | exact below_put HB.out | exact below_put2 (below_put HB.out))⟩
 ·rw [if_neg c5] at H
  have c5b0 := decide_eq_false c5
  clear c5
  by_cases c15 : t124 > t125
  ·rw [if_pos c15] at H
   have c15b0 : decide (t125 < t124) = true := decide_eq_true c15
   clear c15
   obtain rfl := Option.some.inj H
   have hnb22 := NB123_121.out
   have hnc22 := NB121_123.out
   have hnb23 := NB123_122.out
   have hnc23 := NB122_123.out
   obtain ⟨hcz24_0, hcz24_1, hcz24_2⟩ := cz3 BK123.out
   obtain ⟨hfz24_0, hfz24_1, hfz24_2⟩ := fz3 BK123.out
   have hnO_ := (Nat.ne_of_lt (Nat.lt_of_lt_of_le (blk_lt BKO.out) GE123.out) : gO ≠ gb123)
   have hnP_ := (Nat.ne_of_gt (Nat.lt_of_lt_of_le (blk_lt BKO.out) GE123.out) : gb123 ≠ gO)
   have hcO_ : w11.cell? ⟨gO, 0, none⟩ = some (.int .i64 0) := (blk_cell (blk_below BKO.out HB.out) 0).trans rfl
   have hfO_ := blk_frozen (blk_below BKO.out HB.out) 0
   try go_wp2
   refine bodyPost_ret (results_cell_row rfl _ _ gb123 25 #[.bool false, .slice none 0 0, .slice none 0 0] (0, 0) _ rfl (by (with_reducible repeat (first | refine blk_drewN ?_ _ | refine blk_drew ?_ | refine blk_alloc ?_ _)); refine blk_put (cs := #[.bool false, .slice none 0 0, .slice none 0 0]) ?_ 2 _ rfl; (with_reducible repeat (first | refine blk_drewN ?_ _ | refine blk_drew ?_ | refine blk_alloc ?_ _)); refine blk_put (cs := #[.bool false, .slice none 0 0, .slice none 0 0]) ?_ 1 _ rfl; (with_reducible repeat (first | refine blk_drewN ?_ _ | refine blk_drew ?_ | refine blk_alloc ?_ _)); refine blk_put (cs := #[.bool false, .slice none 0 0, .slice none 0 0]) ?_ 0 _ rfl; (with_reducible repeat (first | refine blk_drewN ?_ _ | refine blk_drew ?_ | refine blk_alloc ?_ _)); (repeat (refine blk_far ?_ (show gb123 ≠ gO from hnP_) _; (with_reducible repeat (first | refine blk_drewN ?_ _ | refine blk_drew ?_ | refine blk_alloc ?_ _)))); exact BK123.out) Try.underlying25 rfl (by kernel_rfl)) rfl ?_
   have geO_ : ∀ v, (w.setCell ⟨gO, 0, none⟩ v).heap.size ≤ gb123 := fun v => by rw [World.size_setCell]; exact GE123.out
   exact ⟨by first | rfl | (simp; done) | (simp [*]; done), by (try refine below_sz ?_); repeat (first | (with_reducible exact below_put HB.out) | (with_reducible exact below_put2 (below_put HB.out)) | (with_reducible first | apply below_alloc | apply pw_below_drewN | apply below_drew1 | refine below_set ?_ (geO_ _)) | exact below_put HB.out | exact below_put2 (below_put HB.out))⟩
  ·rw [if_neg c15] at H
   have c15b0 : decide (t125 < t124) = false := decide_eq_false c15
   clear c15
   replace H := oA H
   obtain ⟨t126, A25, H⟩ := H
   (try dsimp only at H)
   replace H := oA H
   obtain ⟨t129, A26, H⟩ := H
   (try dsimp only at H)
   replace H := oA H
   obtain ⟨t132, A27, H⟩ := H
   (try dsimp only at H)
   try go_wp2
   replace BK121 := aM (blk_drew BK121.out)
   replace BK122 := aM (blk_drew BK122.out)
   replace BK123 := aM (blk_drew BK123.out)
   replace HB := aM (below_drew1 HB.out)
   refine start_ (n := 12) (S := fun w' => w'.cell? ⟨gb121, 0, none⟩ = some (.bool a0_0) ∧ w'.cell? ⟨gb121, 1, none⟩ = some (.slice A0_1 l0_1.length c0_1) ∧ w'.cell? ⟨gb121, 2, none⟩ = some (.slice A0_2 l0_2.length c0_2) ∧ w'.cell? ⟨gb122, 0, none⟩ = some (.bool a1_0) ∧ w'.cell? ⟨gb122, 1, none⟩ = some (.slice A1_1 l1_1.length c1_1) ∧ w'.cell? ⟨gb122, 2, none⟩ = some (.slice A1_2 l1_2.length c1_2)) (ds := []) #[false, false, false, false, false, false, false, false, false, false, false, false] (by kernel_rfl) rfl rfl ⟨(blk_cell BK121.out 0).trans rfl, (blk_cell BK121.out 1).trans rfl, (blk_cell BK121.out 2).trans rfl, (blk_cell BK122.out 0).trans rfl, (blk_cell BK122.out 1).trans rfl, (blk_cell BK122.out 2).trans rfl⟩ (fun hHeld => ?_); refine with_tabW rat_CmpC1.tab2 rat_CmpC1.bits2 (fun HT_ HW_ => ?_)
   generalize w11.drew = w35 at BK121 BK122 BK123 HB hHeld ⊢
   refine pP 0 (some 12) ?_
   refine pP 2 (some 14) ?_
   refine pP 5 (some 17) ?_
   refine pP 7 (some 19) ?_
   refine pH6 1 (some 13) hHeld ?_
   refine pH6 3 (some 15) hHeld ?_
   refine pH6 6 (some 18) hHeld ?_
   refine pH6 8 (some 20) hHeld ?_
   refine one_ (i := 4) (N := some 16) #[true, true, true, true, true, true, true, true, true, false, false, false] rfl rfl (one_of HT_.out (by kernel_rfl)) (by decide) (fun K hK => ?_)
   refine goes_ Try.func30 (by kernel_rfl) rfl #[.slice A0_1 l0_1.length c0_1, .slice A1_2 l1_2.length c1_2] (by rfl) rfl rfl dA ?_
   with_reducible refine (rat_mul.calls k _ _ l0_1 _ _ l1_2 t126 _ ?side1 HC0_1.out ?side3 HC1_2.out A25.out).mono ?_
   (case side1 => exact dC (Kd.C_below HR0_1.out HB.out))
   (case side3 => exact dC (Kd.C_below HR1_2.out HB.out))
   rintro e w36 ⟨v127, rfl, ho0, hb⟩
   refine ⟨_, rfl, ?_⟩
   have HO128 := aM (Kd.R_lower ho0 (below_size eB))
   replace BK121 := bB BK121.out hb
   replace BK122 := bB BK122.out hb
   replace BK123 := bB BK123.out hb
   replace HB := hS HB.out hb
   (try clear hb)
   (try clear hb2)
   (try clear hk)
   (try clear hi)
   (try clear ho0)
   refine hK.out _ _ ⟨(blk_cell BK121.out 0).trans rfl, (blk_cell BK121.out 1).trans rfl, (blk_cell BK121.out 2).trans rfl, (blk_cell BK122.out 0).trans rfl, (blk_cell BK122.out 1).trans rfl, (blk_cell BK122.out 2).trans rfl⟩ (fun hHeld => ?_)
   clear hK K
   refine norm_ (a' := ?_) ?_ ?_
   rotate_left
   ·show Act.put _ (some 16) _ = _
    simp only [Act.put, List.setIfInBounds_toArray, List.set_cons_zero, List.set_cons_succ, i64_w, i32_w]
    rfl
   refine one_ (i := 9) (N := some 21) #[true, true, true, true, true, true, true, true, true, true, false, false] rfl rfl (one_of HT_.out (by kernel_rfl)) (by decide) (fun K hK => ?_)
   refine goes_ Try.func30 (by kernel_rfl) rfl #[.slice A1_1 l1_1.length c1_1, .slice A0_2 l0_2.length c0_2] (by rfl) rfl rfl dA ?_
   with_reducible refine (rat_mul.calls k _ _ l1_1 _ _ l0_2 t129 _ ?side1 HC1_1.out ?side3 HC0_2.out A26.out).mono ?_
   (case side1 => exact dC (Kd.C_below HR1_1.out HB.out))
   (case side3 => exact dC (Kd.C_below HR0_2.out HB.out))
   rintro e w37 ⟨v130, rfl, ho0, hb⟩
   refine ⟨_, rfl, ?_⟩
   have HO131 := aM (Kd.R_lower (Kd.R_new' ho0 (Kd.R_lt (dR HO128.out))) (below_size eB))
   replace HO128 := oE HO128.out ho0 hb
   replace BK121 := bB BK121.out hb
   replace BK122 := bB BK122.out hb
   replace BK123 := bB BK123.out hb
   replace HB := hS HB.out hb
   (try clear hb)
   (try clear hb2)
   (try clear hk)
   (try clear hi)
   (try clear ho0)
   refine hK.out _ _ ⟨(blk_cell BK121.out 0).trans rfl, (blk_cell BK121.out 1).trans rfl, (blk_cell BK121.out 2).trans rfl, (blk_cell BK122.out 0).trans rfl, (blk_cell BK122.out 1).trans rfl, (blk_cell BK122.out 2).trans rfl⟩ (fun hHeld => ?_)
   clear hK K
   refine norm_ (a' := ?_) ?_ ?_
   rotate_left
   ·show Act.put _ (some 21) _ = _
    simp only [Act.put, List.setIfInBounds_toArray, List.set_cons_zero, List.set_cons_succ, i64_w, i32_w]
    rfl
   refine pP 10 (some 6) ?_
   refine pP 11 (some 7) ?_
   refine done_ (done_of HT_.out (by kernel_rfl)) ?_
   by_cases c28 : t124 < 0
   ·rw [if_pos c28] at H
    have c28b0 := decide_eq_true c28
    clear c28
    obtain rfl := Option.some.inj H
    obtain ⟨Ao38, co38, rfl⟩ := Kd.R_slice HO128.out
    obtain ⟨Ao39, co39, rfl⟩ := Kd.R_slice HO131.out
    try go_wp2_with (first | ((with_reducible refine gate_callee (f := 32) rfl ?_); refine gL (some 24) Try.func32 #[.slice Ao38 t126.length co38, .slice Ao39 t129.length co39] ?_; (with_reducible refine (nat_Cmp.calls k _ _ t126 _ _ t129 t132 _ ?side1 (Kd.R_reads' HO128.out).2.1 ?side3 (Kd.R_reads' HO131.out).2.1 A27.out).mono ?_); (case side1 => exact dC (Kd.R_reads' HO128.out).2.2); (case side3 => exact dC (Kd.R_reads' HO131.out).2.2); rintro e w' ⟨rfl, ⟨nd, rfl⟩⟩; refine ⟨_, rfl, ?_⟩; (try (rw [drewN_self w37]; generalize hq_ : World.drewN w37 _ = w37; have n0_ : Aside0 (Kd.R (Kd.int .u64) 44 w37 w.heap.size (fun k_ => oN Ao39 t129 co39 k_) (.slice Ao38 t126.length co38) t126) := ⟨by rw [← hq_]; exact (oM HO128.out (fun _ hk => hk.2))⟩; have n1_ : Aside0 (Kd.R (Kd.int .u64) 44 w37 w.heap.size (fun k_ => oN Ao38 t126 co38 k_) (.slice Ao39 t129.length co39) t129) := ⟨by rw [← hq_]; exact (oM HO131.out (fun _ hk => hk.2))⟩; have n2_ : Aside0 (w37.heap[gb121]? = some (.cells #[.bool a0_0, .slice A0_1 l0_1.length c0_1, .slice A0_2 l0_2.length c0_2] 25 (0, 0))) := ⟨by rw [← hq_]; exact (dK BK121.out)⟩; have n3_ : Aside0 (w37.heap[gb122]? = some (.cells #[.bool a1_0, .slice A1_1 l1_1.length c1_1, .slice A1_2 l1_2.length c1_2] 25 (0, 0))) := ⟨by rw [← hq_]; exact (dK BK122.out)⟩; have n4_ : Aside0 (w37.heap[gb123]? = some (.cells #[.bool false, .slice none 0 0, .slice none 0 0] 25 (0, 0))) := ⟨by rw [← hq_]; exact (dK BK123.out)⟩; have n5_ : Aside0 (Below w.heap.size w w37) := ⟨by rw [← hq_]; exact eB⟩; clear HO128 HO131 BK121 BK122 BK123 HB hq_; have HO128 := n0_; have HO131 := n1_; have BK121 := n2_; have BK122 := n3_; have BK123 := n4_; have HB := n5_; clear n0_ n1_ n2_ n3_ n4_ n5_)); have hnb40 := NB123_121.out; have hnc40 := NB121_123.out; have hnb41 := NB123_122.out; have hnc41 := NB122_123.out; have hnO_ := (Nat.ne_of_lt (Nat.lt_of_lt_of_le (blk_lt BKO.out) GE123.out) : gO ≠ gb123); have hnP_ := (Nat.ne_of_gt (Nat.lt_of_lt_of_le (blk_lt BKO.out) GE123.out) : gb123 ≠ gO); have hcO_ : w37.cell? ⟨gO, 0, none⟩ = some (.int .i64 0) := (blk_cell (blk_below BKO.out HB.out) 0).trans rfl; have hfO_ := blk_frozen (blk_below BKO.out HB.out) 0; obtain ⟨hcz42_0, hcz42_1, hcz42_2⟩ := cz3 BK123.out; obtain ⟨hfz42_0, hfz42_1, hfz42_2⟩ := fz3 BK123.out))
    refine bodyPost_ret (results_cell_row rfl _ _ gb123 25 #[.bool false, .slice none 0 0, .slice none 0 0] (0, 0) _ rfl (by (with_reducible repeat (first | refine blk_drewN ?_ _ | refine blk_drew ?_ | refine blk_alloc ?_ _)); refine blk_put (cs := #[.bool false, .slice none 0 0, .slice none 0 0]) ?_ 2 _ rfl; (with_reducible repeat (first | refine blk_drewN ?_ _ | refine blk_drew ?_ | refine blk_alloc ?_ _)); refine blk_put (cs := #[.bool false, .slice none 0 0, .slice none 0 0]) ?_ 1 _ rfl; (with_reducible repeat (first | refine blk_drewN ?_ _ | refine blk_drew ?_ | refine blk_alloc ?_ _)); refine blk_put (cs := #[.bool false, .slice none 0 0, .slice none 0 0]) ?_ 0 _ rfl; (with_reducible repeat (first | refine blk_drewN ?_ _ | refine blk_drew ?_ | refine blk_alloc ?_ _)); (repeat (refine blk_far ?_ (show gb123 ≠ gO from hnP_) _; (with_reducible repeat (first | refine blk_drewN ?_ _ | refine blk_drew ?_ | refine blk_alloc ?_ _)))); exact BK123.out) Try.underlying25 rfl (by kernel_rfl)) rfl ?_
    have geO_ : ∀ v, (w.setCell ⟨gO, 0, none⟩ v).heap.size ≤ gb123 := fun v => by rw [World.size_setCell]; exact GE123.out
    exact ⟨by first | rfl | (simp; done) | (simp [*]; done), by (try refine below_sz ?_); repeat (first | (with_reducible exact below_put HB.out) | (with_reducible exact below_put2 (below_put HB.out)) | (with_reducible first | apply below_alloc | apply pw_below_drewN | apply below_drew1 | refine below_set ?_ (geO_ _)) | exact below_put HB.out | exact below_put2 (below_put HB.out))⟩
   ·rw [if_neg c28] at H
    have c28b0 := decide_eq_false c28
    clear c28
    obtain rfl := Option.some.inj H
    obtain ⟨Ao52, co52, rfl⟩ := Kd.R_slice HO128.out
    obtain ⟨Ao53, co53, rfl⟩ := Kd.R_slice HO131.out
    try go_wp2_with (first | ((with_reducible refine gate_callee (f := 32) rfl ?_); refine gL (some 24) Try.func32 #[.slice Ao52 t126.length co52, .slice Ao53 t129.length co53] ?_; (with_reducible refine (nat_Cmp.calls k _ _ t126 _ _ t129 t132 _ ?side1 (Kd.R_reads' HO128.out).2.1 ?side3 (Kd.R_reads' HO131.out).2.1 A27.out).mono ?_); (case side1 => exact dC (Kd.R_reads' HO128.out).2.2); (case side3 => exact dC (Kd.R_reads' HO131.out).2.2); rintro e w' ⟨rfl, ⟨nd, rfl⟩⟩; refine ⟨_, rfl, ?_⟩; (try (rw [drewN_self w37]; generalize hq_ : World.drewN w37 _ = w37; have n0_ : Aside0 (Kd.R (Kd.int .u64) 44 w37 w.heap.size (fun k_ => oN Ao53 t129 co53 k_) (.slice Ao52 t126.length co52) t126) := ⟨by rw [← hq_]; exact (oM HO128.out (fun _ hk => hk.2))⟩; have n1_ : Aside0 (Kd.R (Kd.int .u64) 44 w37 w.heap.size (fun k_ => oN Ao52 t126 co52 k_) (.slice Ao53 t129.length co53) t129) := ⟨by rw [← hq_]; exact (oM HO131.out (fun _ hk => hk.2))⟩; have n2_ : Aside0 (w37.heap[gb121]? = some (.cells #[.bool a0_0, .slice A0_1 l0_1.length c0_1, .slice A0_2 l0_2.length c0_2] 25 (0, 0))) := ⟨by rw [← hq_]; exact (dK BK121.out)⟩; have n3_ : Aside0 (w37.heap[gb122]? = some (.cells #[.bool a1_0, .slice A1_1 l1_1.length c1_1, .slice A1_2 l1_2.length c1_2] 25 (0, 0))) := ⟨by rw [← hq_]; exact (dK BK122.out)⟩; have n4_ : Aside0 (w37.heap[gb123]? = some (.cells #[.bool false, .slice none 0 0, .slice none 0 0] 25 (0, 0))) := ⟨by rw [← hq_]; exact (dK BK123.out)⟩; have n5_ : Aside0 (Below w.heap.size w w37) := ⟨by rw [← hq_]; exact eB⟩; clear HO128 HO131 BK121 BK122 BK123 HB hq_; have HO128 := n0_; have HO131 := n1_; have BK121 := n2_; have BK122 := n3_; have BK123 := n4_; have HB := n5_; clear n0_ n1_ n2_ n3_ n4_ n5_)); have hnb54 := NB123_121.out; have hnc54 := NB121_123.out; have hnb55 := NB123_122.out; have hnc55 := NB122_123.out; have hnO_ := (Nat.ne_of_lt (Nat.lt_of_lt_of_le (blk_lt BKO.out) GE123.out) : gO ≠ gb123); have hnP_ := (Nat.ne_of_gt (Nat.lt_of_lt_of_le (blk_lt BKO.out) GE123.out) : gb123 ≠ gO); have hcO_ : w37.cell? ⟨gO, 0, none⟩ = some (.int .i64 0) := (blk_cell (blk_below BKO.out HB.out) 0).trans rfl; have hfO_ := blk_frozen (blk_below BKO.out HB.out) 0; obtain ⟨hcz56_0, hcz56_1, hcz56_2⟩ := cz3 BK123.out; obtain ⟨hfz56_0, hfz56_1, hfz56_2⟩ := fz3 BK123.out))
    refine bodyPost_ret (results_cell_row rfl _ _ gb123 25 #[.bool false, .slice none 0 0, .slice none 0 0] (0, 0) _ rfl (by (with_reducible repeat (first | refine blk_drewN ?_ _ | refine blk_drew ?_ | refine blk_alloc ?_ _)); refine blk_put (cs := #[.bool false, .slice none 0 0, .slice none 0 0]) ?_ 2 _ rfl; (with_reducible repeat (first | refine blk_drewN ?_ _ | refine blk_drew ?_ | refine blk_alloc ?_ _)); refine blk_put (cs := #[.bool false, .slice none 0 0, .slice none 0 0]) ?_ 1 _ rfl; (with_reducible repeat (first | refine blk_drewN ?_ _ | refine blk_drew ?_ | refine blk_alloc ?_ _)); refine blk_put (cs := #[.bool false, .slice none 0 0, .slice none 0 0]) ?_ 0 _ rfl; (with_reducible repeat (first | refine blk_drewN ?_ _ | refine blk_drew ?_ | refine blk_alloc ?_ _)); (repeat (refine blk_far ?_ (show gb123 ≠ gO from hnP_) _; (with_reducible repeat (first | refine blk_drewN ?_ _ | refine blk_drew ?_ | refine blk_alloc ?_ _)))); exact BK123.out) Try.underlying25 rfl (by kernel_rfl)) rfl ?_
    have geO_ : ∀ v, (w.setCell ⟨gO, 0, none⟩ v).heap.size ≤ gb123 := fun v => by rw [World.size_setCell]; exact GE123.out
    exact ⟨by first | rfl | (simp; done) | (simp [*]; done), by (try refine below_sz ?_); repeat (first | (with_reducible exact below_put HB.out) | (with_reducible exact below_put2 (below_put HB.out)) | (with_reducible first | apply below_alloc | apply pw_below_drewN | apply below_drew1 | refine below_set ?_ (geO_ _)) | exact below_put HB.out | exact below_put2 (below_put HB.out))⟩
def rat_reckonedO.f (k : Nat) (a0_0 : Bool) (l0_1 l0_2 : List Int) (a1_0 : Bool) (l1_1 l1_2 : List Int) (fr : Option Int) : Option (Int × Int) :=
 (rat_Check.f k a0_0 l0_1 l0_2).bind fun t0 => (if t0 = 0 then ((rat_Check.f k a1_0 l1_1 l1_2).bind fun t1 => (if t1 = 0 then (fr.bind fun o => some (o, 0)) else none)) else none)
set_option maxHeartbeats 8000000 in
set_option maxRecDepth 100000 in
theorem rat_reckonedO.calls {fno : FuncId} {cap : Array Value} (hent : ∀ (args : Array Value) (w : World), (callFunc fno args).run Try.prog w = .ok (.enter fno args) w) (k : Nat) (a0_0 : Bool) (A0_1 : Option Addr) (c0_1 : Nat) (l0_1 : List Int) (A0_2 : Option Addr) (c0_2 : Nat) (l0_2 : List Int) (a1_0 : Bool) (A1_1 : Option Addr) (c1_1 : Nat) (l1_1 : List Int) (A1_2 : Option Addr) (c1_2 : Nat) (l1_2 : List Int) (fr : Option Int) (r1 r4 : Int) (u w : World) (gO : Nat) (hbu : Below u.heap.size u w) (hgO : u.heap.size ≤ gO) (bkO : w.heap[gO]? = some (.cells #[.int .i64 0] 3 (0, 0))) (hr0_1 : Kd.C (Kd.int .u64) w A0_1 l0_1.length l0_1) (hc0_1 : l0_1.length ≤ c0_1) (hr0_2 : Kd.C (Kd.int .u64) w A0_2 l0_2.length l0_2) (hc0_2 : l0_2.length ≤ c0_2) (hr1_1 : Kd.C (Kd.int .u64) w A1_1 l1_1.length l1_1) (hc1_1 : l1_1.length ≤ c1_1) (hr1_2 : Kd.C (Kd.int .u64) w A1_2 l1_2.length l1_2) (hc1_2 : l1_2.length ≤ c1_2)
  (hcall : ∀ (w1 : World) (x1 : Int), Below w.heap.size w w1 → fr = some x1 → Calls Try.prog fno cap w1 fun e w' => e = .returned (.agg #[.bool false, .slice none 0 0, .slice none 0 0]) ∧ Below (w1.setCell ⟨gO, 0, none⟩ (.int .i64 x1)).heap.size (w1.setCell ⟨gO, 0, none⟩ (.int .i64 x1)) w')
  (h : rat_reckonedO.f k a0_0 l0_1 l0_2 a1_0 l1_1 l1_2 fr = some (r1, r4)) :
  Calls Try.prog 27 #[.agg #[.bool a0_0, .slice A0_1 l0_1.length c0_1, .slice A0_2 l0_2.length c0_2], .agg #[.bool a1_0, .slice A1_1 l1_1.length c1_1, .slice A1_2 l1_2.length c1_2], .func (.func fno) #[] cap] w fun e w' => e = .returned (.tuple #[.agg #[.bool false, .slice none 0 0, .slice none 0 0], .int .i64 r4]) ∧ w'.heap[gO]? = some (.cells #[.int .i64 r1] 3 (0, 0)) ∧ Below u.heap.size u w' := by
 have hmf : ∀ (fn : Fn) (first cap : Array Value) (w : World), (Instr.makeFunc fn first cap).run Try.prog w = .ok (.func fn first cap) w := fun _ _ _ _ => rfl
 have hu46 := Try.underlying25
 have HR0_1 := aM hr0_1
 have HC0_1 := aM hc0_1
 clear hr0_1 hc0_1
 have HR0_2 := aM hr0_2
 have HC0_2 := aM hc0_2
 clear hr0_2 hc0_2
 have HR1_1 := aM hr1_1
 have HC1_1 := aM hc1_1
 clear hr1_1 hc1_1
 have HR1_2 := aM hr1_2
 have HC1_2 := aM hc1_2
 clear hr1_2 hc1_2
 have HB := aM (Below.refl w.heap.size w)
 unfold rat_reckonedO.f at h
 obtain ⟨t0, T00, h⟩ := Option.bind_eq_some_iff.mp h
 have T0 := aM T00
 clear T00
 by_cases q0 : t0 = 0
 ·rw [if_pos q0] at h
  obtain ⟨t1, T10, h⟩ := Option.bind_eq_some_iff.mp h
  have T1 := aM T10
  clear T10
  by_cases q1 : t1 = 0
  ·rw [if_pos q1] at h
   obtain ⟨x1, FR0, h⟩ := Option.bind_eq_some_iff.mp h
   have FR := aM FR0
   clear FR0
   simp only [Option.some.injEq, Prod.mk.injEq] at h
   obtain ⟨rfl, rfl⟩ := h
   subst q0 q1
   go_enter_defers Try.func27, Try.ntmps27
   go_wp2_with (first | ((with_reducible refine gate_dst (N := 3) rfl ?_); refine bE 3 #[.bool a0_0, .slice A0_1 l0_1.length c0_1, .slice A0_2 l0_2.length c0_2] 25 ?_; intro gA hg wA hbox hb; have BKA := aM (hbox); have GEA : Aside0 (w.heap.size ≤ gA) := Go.Proofs.YtiogfeeaepkkmaaW.PrintWords.gE hg; replace HB := hS HB.out hb; clear hb hbox hg) | ((with_reducible refine gate_dst (N := 4) rfl ?_); refine bE 4 #[.bool a1_0, .slice A1_1 l1_1.length c1_1, .slice A1_2 l1_2.length c1_2] 25 ?_; intro gB hg wB hbox hb; have BKB := aM (hbox); have GEB : Aside0 (w.heap.size ≤ gB) := Go.Proofs.YtiogfeeaepkkmaaW.PrintWords.gE hg; replace HB := hS HB.out hb; have NBAB := nL hg BKA.out; have NBBA := nG hg BKA.out; replace BKA := bB BKA.out hb; clear hb hbox hg) | ((with_reducible refine gate_dst (N := 6) rfl ?_); refine bE 6 #[.bool false, .slice none 0 0, .slice none 0 0] 25 ?_; intro gR hg wR hbox hb; have BKR := aM (hbox); have GER : Aside0 (w.heap.size ≤ gR) := Go.Proofs.YtiogfeeaepkkmaaW.PrintWords.gE hg; replace HB := hS HB.out hb; have NBAR := nL hg BKA.out; have NBRA := nG hg BKA.out; replace BKA := bB BKA.out hb; have NBBR := nL hg BKB.out; have NBRB := nG hg BKB.out; replace BKB := bB BKB.out hb; clear hb hbox hg) | ((with_reducible refine gate_dst (N := 7) rfl ?_); refine bE 7 #[.int .i64 0] 33 ?_; intro gE hg wE hbox hb; have BKE := aM (hbox); have GEE : Aside0 (w.heap.size ≤ gE) := Go.Proofs.YtiogfeeaepkkmaaW.PrintWords.gE hg; replace HB := hS HB.out hb; have NBAE := nL hg BKA.out; have NBEA := nG hg BKA.out; replace BKA := bB BKA.out hb; have NBBE := nL hg BKB.out; have NBEB := nG hg BKB.out; replace BKB := bB BKB.out hb; have NBRE := nL hg BKR.out; have NBER := nG hg BKR.out; replace BKR := bB BKR.out hb; clear hb hbox hg; have hnAB := NBAB.out; have hnAR := NBAR.out; have hnAE := NBAE.out; have hnBA := NBBA.out; have hnBR := NBBR.out; have hnBE := NBBE.out; have hnRA := NBRA.out; have hnRB := NBRB.out; have hnRE := NBRE.out; have hnEA := NBEA.out; have hnEB := NBEB.out; have hnER := NBER.out; have hcA0_wE : wE.cell? ⟨gA, 0, none⟩ = some (.bool a0_0) := (blk_cell BKA.out 0).trans rfl; have hfA0_wE := blk_frozen BKA.out 0; have hcA1_wE : wE.cell? ⟨gA, 1, none⟩ = some (.slice A0_1 l0_1.length c0_1) := (blk_cell BKA.out 1).trans rfl; have hfA1_wE := blk_frozen BKA.out 1; have hcA2_wE : wE.cell? ⟨gA, 2, none⟩ = some (.slice A0_2 l0_2.length c0_2) := (blk_cell BKA.out 2).trans rfl; have hfA2_wE := blk_frozen BKA.out 2; skip) | ((with_reducible refine gate_callee (f := 19) rfl ?_); refine goesL_ (some 9) rfl rfl Try.func19 (by kernel_rfl) rfl #[.agg #[.bool a0_0, .slice A0_1 l0_1.length c0_1, .slice A0_2 l0_2.length c0_2]] rfl (by (try simp only [List.map_toArray, List.map_cons, List.map_nil]); first | done | rfl) ?_; (with_reducible refine (rat_Check.calls k a0_0 _ _ l0_1 _ _ l0_2 0 _ ?side1 HC0_1.out ?side3 HC0_2.out T0.out).mono ?_); (case side1 => exact dC (Kd.C_below HR0_1.out HB.out)); (case side3 => exact dC (Kd.C_below HR0_2.out HB.out)); rintro e wc0 ⟨rfl, hb⟩; refine ⟨_, rfl, ?_⟩; replace BKA := bB BKA.out hb; replace BKB := bB BKB.out hb; replace BKR := bB BKR.out hb; replace BKE := bB BKE.out hb; replace HB := hS HB.out hb; (try clear hb); have hcB0_wc0 : wc0.cell? ⟨gB, 0, none⟩ = some (.bool a1_0) := (blk_cell BKB.out 0).trans rfl; have hfB0_wc0 := blk_frozen BKB.out 0; have hcB1_wc0 : wc0.cell? ⟨gB, 1, none⟩ = some (.slice A1_1 l1_1.length c1_1) := (blk_cell BKB.out 1).trans rfl; have hfB1_wc0 := blk_frozen BKB.out 1; have hcB2_wc0 : wc0.cell? ⟨gB, 2, none⟩ = some (.slice A1_2 l1_2.length c1_2) := (blk_cell BKB.out 2).trans rfl; have hfB2_wc0 := blk_frozen BKB.out 2; skip) | (go_at_call 19; (with_reducible refine (rat_Check.calls k a1_0 _ _ l1_1 _ _ l1_2 0 _ ?side1 HC1_1.out ?side3 HC1_2.out T1.out).mono ?_); (case side1 => exact dC (Kd.C_below HR1_1.out HB.out)); (case side3 => exact dC (Kd.C_below HR1_2.out HB.out)); rintro e wc1 ⟨rfl, hb⟩; replace BKA := bB BKA.out hb; replace BKB := bB BKB.out hb; replace BKR := bB BKR.out hb; replace BKE := bB BKE.out hb; replace HB := hS HB.out hb; (try clear hb); have hcR0_wc1 : wc1.cell? ⟨gR, 0, none⟩ = some (.bool false) := (blk_cell BKR.out 0).trans rfl; have hfR0_wc1 := blk_frozen BKR.out 0; have hcR1_wc1 : wc1.cell? ⟨gR, 1, none⟩ = some (.slice none 0 0) := (blk_cell BKR.out 1).trans rfl; have hfR1_wc1 := blk_frozen BKR.out 1; have hcR2_wc1 : wc1.cell? ⟨gR, 2, none⟩ = some (.slice none 0 0) := (blk_cell BKR.out 2).trans rfl; have hfR2_wc1 := blk_frozen BKR.out 2; have hcE0_wc1 : wc1.cell? ⟨gE, 0, none⟩ = some (.int .i64 0) := (blk_cell BKE.out 0).trans rfl; have hfE0_wc1 := blk_frozen BKE.out 0; skip) | ((with_reducible refine gate_dst (N := 19) rfl ?_); refine goesG_ (some 19) rfl rfl (f := fno) cap (hent _ _) rfl (by first | rfl | (go_simp; done)) (by simp) ?_; (with_reducible refine (hcall _ x1 eB FR.out).mono ?_); rintro e wf ⟨rfl, hb⟩; refine ⟨_, rfl, ?_⟩; replace BKA := aM (blk_below (g := gA) (o := .cells #[.bool a0_0, .slice A0_1 l0_1.length c0_1, .slice A0_2 l0_2.length c0_2] 25 (0, 0)) (blk_far (dK BKA.out) (Nat.ne_of_gt (Nat.lt_of_lt_of_le (blk_lt bkO) GEA.out) : gA ≠ gO) _) hb); replace BKB := aM (blk_below (g := gB) (o := .cells #[.bool a1_0, .slice A1_1 l1_1.length c1_1, .slice A1_2 l1_2.length c1_2] 25 (0, 0)) (blk_far (dK BKB.out) (Nat.ne_of_gt (Nat.lt_of_lt_of_le (blk_lt bkO) GEB.out) : gB ≠ gO) _) hb); replace BKR := aM (blk_below (g := gR) (o := .cells #[.bool false, .slice none 0 0, .slice none 0 0] 25 (0, 0)) (blk_far (dK BKR.out) (Nat.ne_of_gt (Nat.lt_of_lt_of_le (blk_lt bkO) GER.out) : gR ≠ gO) _) hb); replace BKE := aM (blk_below (g := gE) (o := .cells #[.int .i64 0] 33 (0, 0)) (blk_far (dK BKE.out) (Nat.ne_of_gt (Nat.lt_of_lt_of_le (blk_lt bkO) GEE.out) : gE ≠ gO) _) hb); have BKO := aM (blk_below (g := gO) (blk_put (cs := #[.int .i64 0]) (cs' := #[.int .i64 x1]) (blk_below bkO eB) 0 _ rfl) hb); replace HB := aM (below_step (below_set (below_then hbu hbu.size eB) hgO) hb); have GUA := aM (Nat.le_trans hbu.size GEA.out); have GUB := aM (Nat.le_trans hbu.size GEB.out); have GUR := aM (Nat.le_trans hbu.size GER.out); have GUE := aM (Nat.le_trans hbu.size GEE.out); have NBOA := aM (Nat.ne_of_lt (Nat.lt_of_lt_of_le (blk_lt bkO) GEA.out) : gO ≠ gA); have NBOB := aM (Nat.ne_of_lt (Nat.lt_of_lt_of_le (blk_lt bkO) GEB.out) : gO ≠ gB); have NBOR := aM (Nat.ne_of_lt (Nat.lt_of_lt_of_le (blk_lt bkO) GER.out) : gO ≠ gR); have NBOE := aM (Nat.ne_of_lt (Nat.lt_of_lt_of_le (blk_lt bkO) GEE.out) : gO ≠ gE); (try clear hb); have hcR0_wf : wf.cell? ⟨gR, 0, none⟩ = some (.bool false) := (blk_cell BKR.out 0).trans rfl; have hfR0_wf := blk_frozen BKR.out 0; have hcR1_wf : wf.cell? ⟨gR, 1, none⟩ = some (.slice none 0 0) := (blk_cell BKR.out 1).trans rfl; have hfR1_wf := blk_frozen BKR.out 1; have hcR2_wf : wf.cell? ⟨gR, 2, none⟩ = some (.slice none 0 0) := (blk_cell BKR.out 2).trans rfl; have hfR2_wf := blk_frozen BKR.out 2; have hcE0_wf : wf.cell? ⟨gE, 0, none⟩ = some (.int .i64 0) := (blk_cell BKE.out 0).trans rfl; have hfE0_wf := blk_frozen BKE.out 0; skip))
   refine leaves_cons (f := 48) (args := #[.pointer (some ⟨gR, 0, none⟩), .pointer (some ⟨gE, 0, none⟩)]) (by simp) (by simp [go_sem]) ?_
   refine (rat_idle _ _ _).mono ?_
   rintro e u' w'' ⟨rfl, rfl, rfl⟩
   refine ⟨_, results_cs (p := 6) (p' := 7) rfl _ _ gR gE #[.bool false, .slice none 0 0, .slice none 0 0] (.int .i64 0) rfl (dQ1 BKR.out NBRE.out) rfl rfl (dQ1 BKE.out NBER.out), ?_⟩
   exact ⟨rfl, (dQ2 BKO.out NBOE.out NBOR.out), eB⟩
  ·rw [if_neg q1] at h
   exact absurd h (by simp)
 ·rw [if_neg q0] at h
  exact absurd h (by simp)
def rat_reckonedCmp.f (k : Nat) (a0_0 : Bool) (l0_1 l0_2 : List Int) (a1_0 : Bool) (l1_1 l1_2 : List Int) : Option (Int × Int) := rat_reckonedO.f k a0_0 l0_1 l0_2 a1_0 l1_1 l1_2 (rat_CmpC1.f k a0_0 l0_1 l0_2 a1_0 l1_1 l1_2)
theorem rat_reckonedCmp.calls (k : Nat) (a0_0 : Bool) (A0_1 : Option Addr) (c0_1 : Nat) (l0_1 : List Int) (A0_2 : Option Addr) (c0_2 : Nat) (l0_2 : List Int) (a1_0 : Bool) (A1_1 : Option Addr) (c1_1 : Nat) (l1_1 : List Int) (A1_2 : Option Addr) (c1_2 : Nat) (l1_2 : List Int) (r1 r4 : Int) (u w : World) (ga gb gO : Nat) (bka : w.heap[ga]? = some (.cells #[.bool a0_0, .slice A0_1 l0_1.length c0_1, .slice A0_2 l0_2.length c0_2] 25 (0, 0))) (bkb : w.heap[gb]? = some (.cells #[.bool a1_0, .slice A1_1 l1_1.length c1_1, .slice A1_2 l1_2.length c1_2] 25 (0, 0))) (nab : ga ≠ gb) (hbu : Below u.heap.size u w) (hgO : u.heap.size ≤ gO) (bkO : w.heap[gO]? = some (.cells #[.int .i64 0] 3 (0, 0))) (hr0_1 : Kd.C (Kd.int .u64) w A0_1 l0_1.length l0_1) (hc0_1 : l0_1.length ≤ c0_1) (hr0_2 : Kd.C (Kd.int .u64) w A0_2 l0_2.length l0_2) (hc0_2 : l0_2.length ≤ c0_2) (hr1_1 : Kd.C (Kd.int .u64) w A1_1 l1_1.length l1_1) (hc1_1 : l1_1.length ≤ c1_1) (hr1_2 : Kd.C (Kd.int .u64) w A1_2 l1_2.length l1_2) (hc1_2 : l1_2.length ≤ c1_2) (h : rat_reckonedCmp.f k a0_0 l0_1 l0_2 a1_0 l1_1 l1_2 = some (r1, r4)) :
  Calls Try.prog 27 #[.agg #[.bool a0_0, .slice A0_1 l0_1.length c0_1, .slice A0_2 l0_2.length c0_2], .agg #[.bool a1_0, .slice A1_1 l1_1.length c1_1, .slice A1_2 l1_2.length c1_2], .func (.func 31) #[] #[.pointer (some ⟨ga, 0, none⟩), .pointer (some ⟨gb, 0, none⟩), .pointer (some ⟨gO, 0, none⟩)]] w fun e w' => e = .returned (.tuple #[.agg #[.bool false, .slice none 0 0, .slice none 0 0], .int .i64 r4]) ∧ w'.heap[gO]? = some (.cells #[.int .i64 r1] 3 (0, 0)) ∧ Below u.heap.size u w' := by
 refine rat_reckonedO.calls (fun args w => enters_ Try.func31 (by kernel_rfl) rfl args w) k a0_0 _ _ l0_1 _ _ l0_2 a1_0 _ _ l1_1 _ _ l1_2 _ r1 r4 u w gO hbu hgO bkO hr0_1 hc0_1 hr0_2 hc0_2 hr1_1 hc1_1 hr1_2 hc1_2 (fun w1 x1 hb hx => ?_) h
 exact rat_CmpC1.calls k a0_0 _ _ l0_1 _ _ l0_2 a1_0 _ _ l1_1 _ _ l1_2 x1 w1 ga gb gO (blk_below bka hb) (blk_below bkb hb) (blk_below bkO hb) nab (Kd.C_below hr0_1 hb) hc0_1 (Kd.C_below hr0_2 hb) hc0_2 (Kd.C_below hr1_1 hb) hc1_1 (Kd.C_below hr1_2 hb) hc1_2 hx
def rat_Cmp.f (k : Nat) (a0_0 : Bool) (l0_1 l0_2 : List Int) (a1_0 : Bool) (l1_1 l1_2 : List Int) : Option (Int × Int) := (rat_reckonedCmp.f k a0_0 l0_1 l0_2 a1_0 l1_1 l1_2).bind fun b => (if b.2 = 0 then some (b.1, 0) else none)
set_option maxHeartbeats 8000000 in
set_option maxRecDepth 100000 in
theorem rat_Cmp.calls (k : Nat) (a0_0 : Bool) (A0_1 : Option Addr) (c0_1 : Nat) (l0_1 : List Int) (A0_2 : Option Addr) (c0_2 : Nat) (l0_2 : List Int) (a1_0 : Bool) (A1_1 : Option Addr) (c1_1 : Nat) (l1_1 : List Int) (A1_2 : Option Addr) (c1_2 : Nat) (l1_2 : List Int) (r1 : Int) (r2 : Int) (w : World) (hr0_1 : Kd.C (Kd.int .u64) w A0_1 l0_1.length l0_1) (hc0_1 : l0_1.length ≤ c0_1) (hr0_2 : Kd.C (Kd.int .u64) w A0_2 l0_2.length l0_2) (hc0_2 : l0_2.length ≤ c0_2) (hr1_1 : Kd.C (Kd.int .u64) w A1_1 l1_1.length l1_1) (hc1_1 : l1_1.length ≤ c1_1) (hr1_2 : Kd.C (Kd.int .u64) w A1_2 l1_2.length l1_2) (hc1_2 : l1_2.length ≤ c1_2) (h : rat_Cmp.f k a0_0 l0_1 l0_2 a1_0 l1_1 l1_2 = some (r1, r2)) :
  Calls Try.prog 15 #[.agg #[.bool a0_0, .slice A0_1 l0_1.length c0_1, .slice A0_2 l0_2.length c0_2], .agg #[.bool a1_0, .slice A1_1 l1_1.length c1_1, .slice A1_2 l1_2.length c1_2]] w fun e w' => e = .returned (.tuple #[.int .i64 r1, .int .i64 r2]) ∧ Below w.heap.size w w' := by
 have hmf : ∀ (fn : Fn) (first cap : Array Value) (w : World), (Instr.makeFunc fn first cap).run Try.prog w = .ok (.func fn first cap) w := fun _ _ _ _ => rfl
 have hu46 := Try.underlying25
 have HR0_1 := aM hr0_1
 have HC0_1 := aM hc0_1
 clear hr0_1 hc0_1
 have HR0_2 := aM hr0_2
 have HC0_2 := aM hc0_2
 clear hr0_2 hc0_2
 have HR1_1 := aM hr1_1
 have HC1_1 := aM hc1_1
 clear hr1_1 hc1_1
 have HR1_2 := aM hr1_2
 have HC1_2 := aM hc1_2
 clear hr1_2 hc1_2
 have HB := aM (Below.refl w.heap.size w)
 unfold rat_Cmp.f at h
 obtain ⟨⟨y1, y4⟩, T0, h⟩ := Option.bind_eq_some_iff.mp h
 have T := aM T0
 clear T0
 replace h : (if y4 = 0 then some (y1, (0 : Int)) else none) = some (r1, r2) := h
 by_cases q0 : y4 = 0
 ·rw [if_pos q0] at h
  simp only [Option.some.injEq, Prod.mk.injEq] at h
  obtain ⟨rfl, rfl⟩ := h
  subst q0
  go_enter Try.func15, Try.ntmps15
  go_wp2_with (first | ((with_reducible refine gate_dst (N := 2) rfl ?_); refine bE 2 #[.bool a0_0, .slice A0_1 l0_1.length c0_1, .slice A0_2 l0_2.length c0_2] 25 ?_; intro gA hg wA hbox hb; have BKA := aM (hbox); have GEA : Aside0 (w.heap.size ≤ gA) := gE hg; replace HB := hS HB.out hb; clear hb hbox hg) | ((with_reducible refine gate_dst (N := 3) rfl ?_); refine bE 3 #[.bool a1_0, .slice A1_1 l1_1.length c1_1, .slice A1_2 l1_2.length c1_2] 25 ?_; intro gB hg wB hbox hb; have BKB := aM (hbox); have GEB : Aside0 (w.heap.size ≤ gB) := gE hg; replace HB := hS HB.out hb; have NBAB := nL hg BKA.out; have NBBA := nG hg BKA.out; replace BKA := bB BKA.out hb; clear hb hbox hg) | ((with_reducible refine gate_dst (N := 6) rfl ?_); refine bE 6 #[.int .i64 0] 3 ?_; intro gO hg wO hbox hb; have BKO := aM (hbox); have GEO : Aside0 (w.heap.size ≤ gO) := gE hg; replace HB := hS HB.out hb; have NBAO := nL hg BKA.out; have NBOA := nG hg BKA.out; replace BKA := bB BKA.out hb; have NBBO := nL hg BKB.out; have NBOB := nG hg BKB.out; replace BKB := bB BKB.out hb; clear hb hbox hg; have hnAB := NBAB.out; have hnAO := NBAO.out; have hnBA := NBBA.out; have hnBO := NBBO.out; have hnOA := NBOA.out; have hnOB := NBOB.out; have hcA0_wO : wO.cell? ⟨gA, 0, none⟩ = some (.bool a0_0) := (blk_cell BKA.out 0).trans rfl; have hfA0_wO := blk_frozen BKA.out 0; have hcA1_wO : wO.cell? ⟨gA, 1, none⟩ = some (.slice A0_1 l0_1.length c0_1) := (blk_cell BKA.out 1).trans rfl; have hfA1_wO := blk_frozen BKA.out 1; have hcA2_wO : wO.cell? ⟨gA, 2, none⟩ = some (.slice A0_2 l0_2.length c0_2) := (blk_cell BKA.out 2).trans rfl; have hfA2_wO := blk_frozen BKA.out 2; have hcB0_wO : wO.cell? ⟨gB, 0, none⟩ = some (.bool a1_0) := (blk_cell BKB.out 0).trans rfl; have hfB0_wO := blk_frozen BKB.out 0; have hcB1_wO : wO.cell? ⟨gB, 1, none⟩ = some (.slice A1_1 l1_1.length c1_1) := (blk_cell BKB.out 1).trans rfl; have hfB1_wO := blk_frozen BKB.out 1; have hcB2_wO : wO.cell? ⟨gB, 2, none⟩ = some (.slice A1_2 l1_2.length c1_2) := (blk_cell BKB.out 2).trans rfl; have hfB2_wO := blk_frozen BKB.out 2; have hcO0_wO : wO.cell? ⟨gO, 0, none⟩ = some (.int .i64 0) := (blk_cell BKO.out 0).trans rfl; have hfO0_wO := blk_frozen BKO.out 0; skip) | ((with_reducible refine gate_callee (f := 27) rfl ?_); refine goesL_ (some 13) rfl rfl Try.func27 (by kernel_rfl) rfl #[.agg #[.bool a0_0, .slice A0_1 l0_1.length c0_1, .slice A0_2 l0_2.length c0_2], .agg #[.bool a1_0, .slice A1_1 l1_1.length c1_1, .slice A1_2 l1_2.length c1_2], .func (.func 31) #[] #[.pointer (some ⟨gA, 0, none⟩), .pointer (some ⟨gB, 0, none⟩), .pointer (some ⟨gO, 0, none⟩)]] rfl (by (try simp only [List.map_toArray, List.map_cons, List.map_nil]); first | done | rfl) ?_; (with_reducible refine (rat_reckonedCmp.calls k a0_0 _ _ l0_1 _ _ l0_2 a1_0 _ _ l1_1 _ _ l1_2 y1 _ w _ gA gB gO ?bka ?bkb NBAB.out ?hbu GEO.out ?bko ?side1 HC0_1.out ?side3 HC0_2.out ?side5 HC1_1.out ?side7 HC1_2.out T.out).mono ?_); (case bka => (with_reducible repeat (first | refine blk_drewN ?_ _ | refine blk_drew ?_ | refine blk_alloc ?_ _)); refine blk_far ?_ NBAO.out _; (with_reducible repeat (first | refine blk_drewN ?_ _ | refine blk_drew ?_ | refine blk_alloc ?_ _)); exact BKA.out); (case bkb => (with_reducible repeat (first | refine blk_drewN ?_ _ | refine blk_drew ?_ | refine blk_alloc ?_ _)); refine blk_far ?_ NBBO.out _; (with_reducible repeat (first | refine blk_drewN ?_ _ | refine blk_drew ?_ | refine blk_alloc ?_ _)); exact BKB.out); (case hbu => repeat (first | (with_reducible first | exact HB.out | apply below_alloc | apply pw_below_drewN | apply below_drew1 | refine below_set ?_ GEA.out | refine below_set ?_ GEB.out | refine below_set ?_ GEO.out) | exact HB.out)); (case bko => (with_reducible repeat (first | refine blk_drewN ?_ _ | refine blk_drew ?_ | refine blk_alloc ?_ _)); refine blk_put (cs := #[.int .i64 0]) ?_ 0 _ rfl; (with_reducible repeat (first | refine blk_drewN ?_ _ | refine blk_drew ?_ | refine blk_alloc ?_ _)); exact BKO.out); (case side1 => exact Kd.C_below HR0_1.out eB); (case side3 => exact Kd.C_below HR0_2.out eB); (case side5 => exact Kd.C_below HR1_1.out eB); (case side7 => exact Kd.C_below HR1_2.out eB); rintro e wc ⟨rfl, hbo, hb⟩; refine ⟨_, rfl, ?_⟩; clear BKA BKB BKO HB; have BKO := aM hbo; have HB := aM hb; clear hb hbo; skip) | ((with_reducible refine gate_dst (N := 7) rfl ?_); refine bE 7 #[.bool false, .slice none 0 0, .slice none 0 0] 25 ?_; intro gX hg wX hbox hb; have BKX := aM (hbox); have GEX : Aside0 (w.heap.size ≤ gX) := gE hg; replace HB := hS HB.out hb; have NBOX := nL hg BKO.out; have NBXO := nG hg BKO.out; replace BKO := bB BKO.out hb; clear hb hbox hg; have hnOX := NBOX.out; have hnXO := NBXO.out; have hcO0_wX : wX.cell? ⟨gO, 0, none⟩ = some (.int .i64 y1) := (blk_cell BKO.out 0).trans rfl; have hfO0_wX := blk_frozen BKO.out 0; have hcX0_wX : wX.cell? ⟨gX, 0, none⟩ = some (.bool false) := (blk_cell BKX.out 0).trans rfl; have hfX0_wX := blk_frozen BKX.out 0; have hcX1_wX : wX.cell? ⟨gX, 1, none⟩ = some (.slice none 0 0) := (blk_cell BKX.out 1).trans rfl; have hfX1_wX := blk_frozen BKX.out 1; have hcX2_wX : wX.cell? ⟨gX, 2, none⟩ = some (.slice none 0 0) := (blk_cell BKX.out 2).trans rfl; have hfX2_wX := blk_frozen BKX.out 2; skip))
  go_ret2
  exact ⟨by first | rfl | (simp; done) | (simp [*]; done), eB⟩
 ·rw [if_neg q0] at h
  exact absurd h (by simp)
end Go.Proofs.Ytiogfeeaepkkmaa.PA
