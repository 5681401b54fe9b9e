/- A part of the proof (11). -/
import Derived.Test.YtmdmgbllpgkpeaaUKR2
import Derived.Test.YtmdmgbllpgkpeaaUKR6
import Derived.Test.YtmdmgbllpgkpeaaUKR7
import Derived.Test.YtmdmgbllpgkpeaaUKR8
import Derived.Test.YtmdmgbllpgkpeaaUKR10
namespace Go.Proofs.Ytmdmgbllpgkpeaa.PA
open Go.RowKit Go.Proofs.YtmdmgbllpgkpeaaW.PrintWords Go.Proofs.YtmdmgbllpgkpeaaW.PrintLast Go.Proofs.YtmdmgbllpgkpeaaW.PrintMore
attribute [local go_sem] max2_int min2_int max_two min_two max_three min_three max_four min_four   -- for this text's walks alone
set_option linter.unusedVariables false
set_option linter.unusedSimpArgs false

/-! ### plumblaw05_RatLowest: function 3 -/
mutual
def plumblaw05_RatLowest.j0 : Nat → Int → Int → List Int → List Int → Bool → Bool → List Int → List Int → Bool → List Int → List Int → Option (Bool)
 | 0, _, _, _, _, _, _, _, _, _, _, _ => none
 | k + 1, x1, x2, x7, x8, x38, x381000, x381001, x381002, x396000, x396001, x396002 => if x38 = true then (none) else ((nat_Mul.f k x7 x396002).bind fun bt397 => ((nat_Mul.f k x396001 x8).bind fun bt401 => ((quot_Gcd.f k x396001 x396002).bind fun t405 => (if bt397.2 = 0 then (if bt401.2 = 0 then ((plumblaw05_same.f k bt397.1 bt401.1).bind fun t408 => (if t408 = true then ((plumblaw05_same.f k t405 (([1] : List Int))).bind fun t412 => (if t412 = true then (if x396000 = true then (if (x396001.length : Int) = 0 then (plumblaw05_RatLowest.j1 k x1 x2 x7 x8 true x381000 x381001 x381002 x396000 x396001 x396002) else (if x381000 = true then (plumblaw05_RatLowest.j1 k x1 x2 x7 x8 ((decide ((x396001.length : Int) > 0)) != x396000) x381000 x381001 x381002 x396000 x396001 x396002) else (plumblaw05_RatLowest.j1 k x1 x2 x7 x8 (false != x396000) x381000 x381001 x381002 x396000 x396001 x396002))) else (if x381000 = true then (plumblaw05_RatLowest.j1 k x1 x2 x7 x8 ((decide ((x396001.length : Int) > 0)) != x396000) x381000 x381001 x381002 x396000 x396001 x396002) else (plumblaw05_RatLowest.j1 k x1 x2 x7 x8 (false != x396000) x381000 x381001 x381002 x396000 x396001 x396002))) else (plumblaw05_RatLowest.j1 k x1 x2 x7 x8 true x381000 x381001 x381002 x396000 x396001 x396002))) else (plumblaw05_RatLowest.j1 k x1 x2 x7 x8 true x381000 x381001 x381002 x396000 x396001 x396002))) else (plumblaw05_RatLowest.j1 k x1 x2 x7 x8 true x381000 x381001 x381002 x396000 x396001 x396002)) else (plumblaw05_RatLowest.j1 k x1 x2 x7 x8 true x381000 x381001 x381002 x396000 x396001 x396002)))))
def plumblaw05_RatLowest.j1 : Nat → Int → Int → List Int → List Int → Bool → Bool → List Int → List Int → Bool → List Int → List Int → Option (Bool)
 | 0, _, _, _, _, _, _, _, _, _, _, _ => none
 | k + 1, x1, x2, x7, x8, x98, x381000, x381001, x381002, x396000, x396001, x396002 => if x98 = true then (none) else (if x1 = 0 then (plumblaw05_RatLowest.j2 k 1 x2 x7 x8 x381000 x381001 x381002 x396000 x396001 x396002) else (plumblaw05_RatLowest.j2 k x1 x2 x7 x8 x381000 x381001 x381002 x396000 x396001 x396002))
def plumblaw05_RatLowest.j2 : Nat → Int → Int → List Int → List Int → Bool → List Int → List Int → Bool → List Int → List Int → Option (Bool)
 | 0, _, _, _, _, _, _, _, _, _, _ => none
 | k + 1, x1, x2, x7, x8, x381000, x381001, x381002, x396000, x396001, x396002 => (nat_Mul.f k x7 (([x1] : List Int))).bind fun bt416 => ((nat_Mul.f k x8 (([x1, 0] : List Int))).bind fun bt423 => ((rat_New.f k x381000 bt416.1 bt423.1).bind fun bt427 => (if x2 < 0 then (plumblaw05_RatLowest.j3 k x2 bt416.2 bt423.2 bt427.2.2.2 (IntKind.u64.wrap (-(IntKind.u64.wrap (x2)))) x396000 x396001 x396002 bt427.1 bt427.2.1 bt427.2.2.1) else (plumblaw05_RatLowest.j3 k x2 bt416.2 bt423.2 bt427.2.2.2 (IntKind.u64.wrap (x2)) x396000 x396001 x396002 bt427.1 bt427.2.1 bt427.2.2.1))))
def plumblaw05_RatLowest.j3 : Nat → Int → Int → Int → Int → Int → Bool → List Int → List Int → Bool → List Int → List Int → Option (Bool)
 | 0, _, _, _, _, _, _, _, _, _, _, _ => none
 | k + 1, x2, x12, x14, x19, x20, x396000, x396001, x396002, x436000, x436001, x436002 => (rat_New.f k (decide (x2 < 0)) (([x20, 0] : List Int)) (([1] : List Int))).bind fun bt442 => (if x12 = 0 then (if x14 = 0 then (if x19 = 0 then (if bt442.2.2.2 = 0 then ((plumblaw05_one.f k x436000 x436001 x436002 x396000 x396001 x396002).bind fun t451 => (if t451 = true then ((rat_Int.f x2).bind fun bt452 => ((plumblaw05_one.f k bt442.1 bt442.2.1 bt442.2.2.1 bt452.1 bt452.2.1 bt452.2.2).bind fun t459 => (some t459))) else (none))) else (none)) else (none)) else (none)) else (none))
end
def plumblaw05_RatLowest.f (k : Nat) (a0_0 : Bool) (l0_1 : List Int) (l0_2 : List Int) (a1 : Int) (a2 : Int) : Option (Bool) := (plumblaw05_Part_whole.f k a0_0 l0_1 l0_2).bind fun bt381 => ((plumblaw05_Part_made.f k a0_0 l0_1 l0_2).bind fun bt387 => (if bt387.2.2.2 = true then ((plumblaw05_alive.f k).bind fun t396 => (plumblaw05_RatLowest.j0 k a1 a2 bt381.1 bt381.2 (!t396) a0_0 l0_1 l0_2 bt387.1 bt387.2.1 bt387.2.2.1)) else (plumblaw05_RatLowest.j0 k a1 a2 bt381.1 bt381.2 true a0_0 l0_1 l0_2 bt387.1 bt387.2.1 bt387.2.2.1)))
def plumblaw05_RatLowest.T19 : Bool × List (List Nat × List Nat) := (true, [([], []), ([0], [0]), ([1], [1]), ([2], [2]), ([3, 2], [2, 3]), ([2, 4], [2, 4]), ([5, 2], [5]), ([6], [6]), ([7, 6], [6, 7]), ([6, 8], [6, 8]), ([9, 6], [9]), ([10], [10]), ([11, 10], [10, 11]), ([10, 12], [10, 12]), ([13, 10], [13]), ([14], [14]), ([14], [14]), ([15, 16, 14, 14], [14, 15, 16]), ([14, 17], [14, 17]), ([18, 17], [18]), ([19], [19]), ([19], [19]), ([21, 19, 19], [19, 21]), ([20, 22, 22, 19], [19, 20, 22]), ([19, 23], [19, 23]), ([24, 23, 0, 1, 2, 3, 4, 5, 6, 7, 8, 9, 10, 11, 12, 13, 14, 15, 16, 17, 18, 19, 20, 21, 22, 23, 24], [24])])
def plumblaw05_RatLowest.B19 : List Nat := [0, 1, 3, 7, 15, 31, 63, 127, 255, 511, 1023, 2047, 4095, 8191, 16383, 32767, 32767, 131071, 262143, 524287, 1048575, 1048575, 3145727, 8388607, 16777215, 33554431]
theorem plumblaw05_RatLowest.tab19 : rtab .any (opsOf Try.f3 19) = plumblaw05_RatLowest.T19 := by kernel_rfl
theorem plumblaw05_RatLowest.bits19 : waitsOk plumblaw05_RatLowest.T19.2 plumblaw05_RatLowest.B19 = true := by kernel_rfl
set_option maxHeartbeats 8000000 in
set_option maxRecDepth 100000 in
theorem plumblaw05_RatLowest.calls (k : Nat) (a0_0 : Bool) (A0_1 : Option Addr) (c0_1 : Nat) (l0_1 : List Int) (A0_2 : Option Addr) (c0_2 : Nat) (l0_2 : List Int) (a1 : Int) (a2 : Int) (r : Bool) (w : World) (hr0_1 : Kd.C (Kd.int .u64) w A0_1 l0_1.length l0_1) (hc0_1 : l0_1.length ≤ c0_1) (hr0_2 : Kd.C (Kd.int .u64) w A0_2 l0_2.length l0_2) (hc0_2 : l0_2.length ≤ c0_2) (h : plumblaw05_RatLowest.f k a0_0 l0_1 l0_2 a1 a2 = some r) :
  Calls Try.prog 3 #[.agg #[.bool a0_0, .slice A0_1 l0_1.length c0_1, .slice A0_2 l0_2.length c0_2], .int .u64 a1, .int .i64 a2] w fun e w' => e = .returned (.bool r) ∧ Below w.heap.size w w' := by
 have hu24 := Try.underlying24
 have hu28 := Try.underlying28
 have HR0_1 := Aside0.mk hr0_1
 have HC0_1 := Aside0.mk hc0_1
 clear hr0_1 hc0_1
 have HR0_2 := Aside0.mk hr0_2
 have HC0_2 := Aside0.mk hc0_2
 clear hr0_2 hc0_2
 have HB := Aside0.mk (Below.refl w.heap.size w)
 have H : ((plumblaw05_Part_whole.f k a0_0 l0_1 l0_2).bind fun bt381 => ((plumblaw05_Part_made.f k a0_0 l0_1 l0_2).bind fun bt387 => (if bt387.2.2.2 = true then ((plumblaw05_alive.f k).bind fun t396 => (plumblaw05_RatLowest.j0 k a1 a2 bt381.1 bt381.2 (!t396) a0_0 l0_1 l0_2 bt387.1 bt387.2.1 bt387.2.2.1)) else (plumblaw05_RatLowest.j0 k a1 a2 bt381.1 bt381.2 true a0_0 l0_1 l0_2 bt387.1 bt387.2.1 bt387.2.2.1)))) = some r := h
 clear h
 replace H := obe H
 obtain ⟨⟨t381, t384⟩, A40, H⟩ := H
 (try dsimp only at H)
 have A4 := Aside0.mk A40
 clear A40
 replace H := obe H
 obtain ⟨⟨t387, t388, t391, t394⟩, A50, H⟩ := H
 (try dsimp only at H)
 have A5 := Aside0.mk A50
 clear A50
 have HC6 := Aside0.mk H
 clear H
 go_enter Try.func3, Try.ntmps3
 go_upto_region 3 with (first | ((with_reducible refine gate_dst (N := 3) rfl ?_); (try (refine gate_guard (by rfl) ?_; dsimp only)); refine box_event ?hg (N := 3) ?hd (cs := #[.bool a0_0, .slice A0_1 l0_1.length c0_1, .slice A0_2 l0_2.length c0_2]) (t := 24) ?hr ?_; (case hd => rfl); (case hg => rfl); (case hr => first | (go_simp; done) | (go_simp; rfl)); intro gb380 hg w7 hbox hb; have BK380 := Aside0.mk (hbox); have GW380 := Aside0.mk ((by rw [hg]; exact (below_size dB) : w.heap.size ≤ gb380)); have GE380 := Aside0.mk ((by rw [hg]; exact (below_size dB) : w.heap.size ≤ gb380)); replace HB := Aside0.mk (below_step dB hb); clear hb hbox hg; obtain ⟨hcz8_0, hcz8_1, hcz8_2⟩ := cz3 BK380.out; obtain ⟨hfz8_0, hfz8_1, hfz8_2⟩ := fz3 BK380.out) | ((with_reducible refine gate_callee (f := 10) rfl ?_); refine gL (some 25) Try.func10 #[.agg #[.bool a0_0, .slice A0_1 l0_1.length c0_1, .slice A0_2 l0_2.length c0_2]] ?_; (with_reducible refine (plumblaw05_Part_whole.calls k a0_0 _ _ l0_1 _ _ l0_2 t381 t384 _ ?side1 ?side2 ?side3 ?side4 A4.out).mono ?_); (case side1 => exact dC (Kd.C_below HR0_1.out HB.out)); (case side2 => exact HC0_1.out); (case side3 => exact dC (Kd.C_below HR0_2.out HB.out)); (case side4 => exact HC0_2.out); rintro e w9 ⟨v382, v385, rfl, ho0, ho1, hb⟩; refine ⟨_, rfl, ?_⟩; have HO383 := Aside0.mk (Kd.R_lower ho0 (below_size (dG GE380.out))); have HO386 := Aside0.mk (Kd.R_lower ho1 (below_size (dG GE380.out))); replace BK380 := Aside0.mk (blk_below (g := gb380) (o := .cells #[.bool a0_0, .slice A0_1 l0_1.length c0_1, .slice A0_2 l0_2.length c0_2] 24 (0, 0)) (dK BK380.out) hb); replace HB := Aside0.mk (below_step (dG GE380.out) hb); (try clear hb); (try clear ho0); (try clear ho1); obtain ⟨hcz10_0, hcz10_1, hcz10_2⟩ := cz3 BK380.out; obtain ⟨hfz10_0, hfz10_1, hfz10_2⟩ := fz3 BK380.out) | ((with_reducible refine gate_callee (f := 11) rfl ?_); refine gL (some 30) Try.func11 #[.agg #[.bool a0_0, .slice A0_1 l0_1.length c0_1, .slice A0_2 l0_2.length c0_2]] ?_; (with_reducible refine (plumblaw05_Part_made.calls k a0_0 _ _ l0_1 _ _ l0_2 t387 t388 t391 t394 _ ?side1 ?side2 ?side3 ?side4 A5.out).mono ?_); (case side1 => exact dC (Kd.C_below HR0_1.out HB.out)); (case side2 => exact HC0_1.out); (case side3 => exact dC (Kd.C_below HR0_2.out HB.out)); (case side4 => exact HC0_2.out); rintro e w11 ⟨v389, v392, rfl, ho0, ho1, hb⟩; refine ⟨_, rfl, ?_⟩; have HO390 := Aside0.mk (Kd.R_lower (Kd.R_new' (Kd.R_new' ho0 (Kd.R_lt (dR HO383.out))) (Kd.R_lt (dR HO386.out))) (below_size (dG GE380.out))); have HO393 := Aside0.mk (Kd.R_lower (Kd.R_new' (Kd.R_new' ho1 (Kd.R_lt (dR HO383.out))) (Kd.R_lt (dR HO386.out))) (below_size (dG GE380.out))); replace HO383 := Aside0.mk (Kd.R_mono (Kd.R_told (Kd.R_told (Kd.R_old (dR HO383.out) hb) (Kd.R_base ho0)) (Kd.R_base ho1)) (fun _ h_ => h_.1)); replace HO386 := Aside0.mk (Kd.R_mono (Kd.R_told (Kd.R_told (Kd.R_old (dR HO386.out) hb) (Kd.R_base ho0)) (Kd.R_base ho1)) (fun _ h_ => h_.1)); replace BK380 := Aside0.mk (blk_below (g := gb380) (o := .cells #[.bool a0_0, .slice A0_1 l0_1.length c0_1, .slice A0_2 l0_2.length c0_2] 24 (0, 0)) (dK BK380.out) hb); replace HB := Aside0.mk (below_step (dG GE380.out) hb); (try clear hb); (try clear ho0); (try clear ho1)) | ((with_reducible refine gate_dst (N := 9) rfl ?_); (try (refine gate_guard (by rfl) ?_; dsimp only)); refine box_event ?hg (N := 9) ?hd (cs := #[.bool false, .slice none 0 0, .slice none 0 0]) (t := 28) ?hr ?_; (case hd => rfl); (case hg => rfl); (case hr => first | (go_simp; done) | (go_simp; rfl)); intro gb395 hg w12 hbox hb; replace HO383 := Aside0.mk (Kd.R_below (dR HO383.out) hb); replace HO386 := Aside0.mk (Kd.R_below (dR HO386.out) hb); replace HO390 := Aside0.mk (Kd.R_below (dR HO390.out) hb); replace HO393 := Aside0.mk (Kd.R_below (dR HO393.out) hb); have BK395 := Aside0.mk (hbox); have GW395 := Aside0.mk ((by rw [hg]; exact (below_size (dG GE380.out)) : w.heap.size ≤ gb395)); have GE395 := Aside0.mk ((by rw [hg]; exact (below_size (dG GE380.out)) : w.heap.size ≤ gb395)); replace HB := Aside0.mk (below_step (dG GE380.out) hb); have NB380_395 := Aside0.mk ((by rw [hg]; exact Nat.ne_of_lt (blk_lt (g := gb380) (o := .cells #[.bool a0_0, .slice A0_1 l0_1.length c0_1, .slice A0_2 l0_2.length c0_2] 24 (0, 0)) (dK BK380.out)) : gb380 ≠ gb395)); have NB395_380 := Aside0.mk ((by rw [hg]; exact Nat.ne_of_gt (blk_lt (g := gb380) (o := .cells #[.bool a0_0, .slice A0_1 l0_1.length c0_1, .slice A0_2 l0_2.length c0_2] 24 (0, 0)) (dK BK380.out)) : gb395 ≠ gb380)); replace BK380 := Aside0.mk (blk_below (g := gb380) (o := .cells #[.bool a0_0, .slice A0_1 l0_1.length c0_1, .slice A0_2 l0_2.length c0_2] 24 (0, 0)) (dK BK380.out) hb); clear hb hbox hg; have hnb13 := NB395_380.out; have hnc13 := NB380_395.out; obtain ⟨hcz14_0, hcz14_1, hcz14_2⟩ := cz3 BK395.out; obtain ⟨hfz14_0, hfz14_1, hfz14_2⟩ := fz3 BK395.out; obtain ⟨Ao15, co15, eo15⟩ := Kd.R_slice HO390.out; subst eo15; obtain ⟨Ao16, co16, eo16⟩ := Kd.R_slice HO393.out; subst eo16))
 (try simp only [Act.put, List.setIfInBounds_toArray, List.set_cons_zero, List.set_cons_succ])
 go_cut [38] (fun v38 wc => ∃ (kq : Nat) (x38_5 : Bool), v38 = .bool x38_5 ∧ Aside0 (plumblaw05_RatLowest.j0 kq a1 a2 t381 t384 x38_5 a0_0 l0_1 l0_2 t387 t388 t391 = some r) ∧ Aside0 (kq ≤ k) ∧ Aside0 (Kd.R (Kd.int .u64) 25 wc w.heap.size (fun k_ => some k_ ≠ (v385 : Value).ownBlock ∧ some k_ ≠ ((.slice Ao15 t388.length co15) : Value).ownBlock ∧ some k_ ≠ ((.slice Ao16 t391.length co16) : Value).ownBlock) v382 t381) ∧ Aside0 (Kd.R (Kd.int .u64) 25 wc w.heap.size (fun k_ => some k_ ≠ (v382 : Value).ownBlock ∧ some k_ ≠ ((.slice Ao15 t388.length co15) : Value).ownBlock ∧ some k_ ≠ ((.slice Ao16 t391.length co16) : Value).ownBlock) v385 t384) ∧ Aside0 (Kd.R (Kd.int .u64) 25 wc w.heap.size (fun k_ => some k_ ≠ (v382 : Value).ownBlock ∧ some k_ ≠ (v385 : Value).ownBlock ∧ some k_ ≠ ((.slice Ao16 t391.length co16) : Value).ownBlock) (.slice Ao15 t388.length co15) t388) ∧ Aside0 (Kd.R (Kd.int .u64) 25 wc w.heap.size (fun k_ => some k_ ≠ (v382 : Value).ownBlock ∧ some k_ ≠ (v385 : Value).ownBlock ∧ some k_ ≠ ((.slice Ao15 t388.length co15) : Value).ownBlock) (.slice Ao16 t391.length co16) t391) ∧ Aside0 (wc.heap[gb380]? = some (.cells #[.bool a0_0, (.slice A0_1 l0_1.length c0_1), (.slice A0_2 l0_2.length c0_2)] 24 (0, 0))) ∧ Aside0 (wc.heap[gb395]? = some (.cells #[.bool t387, (.slice Ao15 t388.length co15), (.slice Ao16 t391.length co16)] 28 (0, 0))) ∧ Aside0 (Below w.heap.size w wc))
 case first =>
  have H := HC6.out
  clear HC6
  by_cases c17 : t394 = true
  ·subst c17
   have H1 : ((plumblaw05_alive.f k).bind fun t396 => (plumblaw05_RatLowest.j0 k a1 a2 t381 t384 (!t396) a0_0 l0_1 l0_2 t387 t388 t391)) = some r := by rw [if_pos rfl] at H; exact H
   clear H
   have H := H1
   clear H1
   replace H := obe H
   obtain ⟨t396, A180, H⟩ := H
   (try dsimp only at H)
   have A18 := Aside0.mk A180
   clear A180
   have H' := Aside0.mk H
   clear H
   go_wp2_with (first | (go_at_call 12; (with_reducible refine (plumblaw05_alive.calls k  t396 _ A18.out).mono ?_); rintro e w19 ⟨rfl, hb⟩; replace HO383 := Aside0.mk (Kd.R_below (by (with_reducible repeat (first | apply Kd.R_alloc | apply Kd.R_drewN | apply Kd.R_drew)); exact (Kd.R_mono (Kd.R_far (p := ⟨gb395, 2, none⟩) (Kd.R_far (p := ⟨gb395, 1, none⟩) (Kd.R_far (p := ⟨gb395, 0, none⟩) (Kd.R_types HO383.out BK395.out (by decide)) (fun _ hk => hk.2) (.bool t387)) (fun _ hk => hk.2) (.slice Ao15 t388.length co15)) (fun _ hk => hk.2) (.slice Ao16 t391.length co16)) (fun _ h_ => h_.1))) hb); replace HO386 := Aside0.mk (Kd.R_below (by (with_reducible repeat (first | apply Kd.R_alloc | apply Kd.R_drewN | apply Kd.R_drew)); exact (Kd.R_mono (Kd.R_far (p := ⟨gb395, 2, none⟩) (Kd.R_far (p := ⟨gb395, 1, none⟩) (Kd.R_far (p := ⟨gb395, 0, none⟩) (Kd.R_types HO386.out BK395.out (by decide)) (fun _ hk => hk.2) (.bool t387)) (fun _ hk => hk.2) (.slice Ao15 t388.length co15)) (fun _ hk => hk.2) (.slice Ao16 t391.length co16)) (fun _ h_ => h_.1))) hb); replace HO390 := Aside0.mk (Kd.R_below (by (with_reducible repeat (first | apply Kd.R_alloc | apply Kd.R_drewN | apply Kd.R_drew)); exact (Kd.R_mono (Kd.R_far (p := ⟨gb395, 2, none⟩) (Kd.R_far (p := ⟨gb395, 1, none⟩) (Kd.R_far (p := ⟨gb395, 0, none⟩) (Kd.R_types HO390.out BK395.out (by decide)) (fun _ hk => hk.2) (.bool t387)) (fun _ hk => hk.2) (.slice Ao15 t388.length co15)) (fun _ hk => hk.2) (.slice Ao16 t391.length co16)) (fun _ h_ => h_.1))) hb); replace HO393 := Aside0.mk (Kd.R_below (by (with_reducible repeat (first | apply Kd.R_alloc | apply Kd.R_drewN | apply Kd.R_drew)); exact (Kd.R_mono (Kd.R_far (p := ⟨gb395, 2, none⟩) (Kd.R_far (p := ⟨gb395, 1, none⟩) (Kd.R_far (p := ⟨gb395, 0, none⟩) (Kd.R_types HO393.out BK395.out (by decide)) (fun _ hk => hk.2) (.bool t387)) (fun _ hk => hk.2) (.slice Ao15 t388.length co15)) (fun _ hk => hk.2) (.slice Ao16 t391.length co16)) (fun _ h_ => h_.1))) hb); replace BK380 := Aside0.mk (blk_below (g := gb380) (o := .cells #[.bool a0_0, .slice A0_1 l0_1.length c0_1, .slice A0_2 l0_2.length c0_2] 24 (0, 0)) (by (with_reducible repeat (first | refine blk_drewN ?_ _ | refine blk_drew ?_ | refine blk_alloc ?_ _)); refine blk_far ?_ NB380_395.out _; (with_reducible repeat (first | refine blk_drewN ?_ _ | refine blk_drew ?_ | refine blk_alloc ?_ _)); refine blk_far ?_ NB380_395.out _; (with_reducible repeat (first | refine blk_drewN ?_ _ | refine blk_drew ?_ | refine blk_alloc ?_ _)); refine blk_far ?_ NB380_395.out _; (with_reducible repeat (first | refine blk_drewN ?_ _ | refine blk_drew ?_ | refine blk_alloc ?_ _)); exact BK380.out) hb); replace BK395 := Aside0.mk (blk_below (g := gb395) (o := .cells #[.bool t387, .slice Ao15 t388.length co15, .slice Ao16 t391.length co16] 28 (0, 0)) (dP BK395.out) hb); replace HB := Aside0.mk (below_step (by repeat (first | (with_reducible first | exact HB.out | apply below_alloc | apply pw_below_drewN | apply below_drew1 | refine below_set ?_ GE380.out | refine below_set ?_ GE395.out) | exact HB.out)) hb); (try clear hb)))
   go_meet
   case rel => exact ⟨_, (!t396), dF, H', ⟨dN⟩, ⟨by (with_reducible repeat (first | apply Kd.R_alloc | apply Kd.R_drewN | apply Kd.R_drew)); exact Kd.R_mono HO383.out (fun _ hk => ⟨hk.1.1, ⟨hk.1.2, hk.2⟩⟩)⟩, ⟨by (with_reducible repeat (first | apply Kd.R_alloc | apply Kd.R_drewN | apply Kd.R_drew)); exact Kd.R_mono HO386.out (fun _ hk => ⟨hk.1.1, ⟨hk.1.2, hk.2⟩⟩)⟩, ⟨by (with_reducible repeat (first | apply Kd.R_alloc | apply Kd.R_drewN | apply Kd.R_drew)); exact Kd.R_mono HO390.out (fun _ hk => ⟨hk.1.2, ⟨hk.2, hk.1.1⟩⟩)⟩, ⟨by (with_reducible repeat (first | apply Kd.R_alloc | apply Kd.R_drewN | apply Kd.R_drew)); exact Kd.R_mono HO393.out (fun _ hk => ⟨hk.1.2, ⟨hk.2, hk.1.1⟩⟩)⟩, ⟨dK BK380.out⟩, ⟨dK BK395.out⟩, ⟨by repeat (first | (with_reducible first | exact HB.out | apply below_alloc | apply pw_below_drewN | apply below_drew1 | refine below_set ?_ GE380.out | refine below_set ?_ GE395.out) | exact HB.out)⟩⟩
  ·replace c17 := Bool.eq_false_iff.mpr c17
   subst c17
   have H1 : (plumblaw05_RatLowest.j0 k a1 a2 t381 t384 true a0_0 l0_1 l0_2 t387 t388 t391) = some r := by rw [if_neg (show ¬ (false = true) by decide)] at H; exact H
   clear H
   have H := H1
   clear H1
   have H' := Aside0.mk H
   clear H
   go_wp2
   go_meet
   case rel => exact ⟨_, (true), dF, H', ⟨dN⟩, ⟨by (with_reducible repeat (first | apply Kd.R_alloc | apply Kd.R_drewN | apply Kd.R_drew)); exact Kd.R_mono (Kd.R_far (p := ⟨gb395, 2, none⟩) (Kd.R_far (p := ⟨gb395, 1, none⟩) (Kd.R_far (p := ⟨gb395, 0, none⟩) (Kd.R_types HO383.out BK395.out (by decide)) (fun _ hk => hk.2) (.bool t387)) (fun _ hk => hk.2) (.slice Ao15 t388.length co15)) (fun _ hk => hk.2) (.slice Ao16 t391.length co16)) (fun _ hk => ⟨hk.1.1.1, ⟨hk.1.1.2, hk.1.2⟩⟩)⟩, ⟨by (with_reducible repeat (first | apply Kd.R_alloc | apply Kd.R_drewN | apply Kd.R_drew)); exact Kd.R_mono (Kd.R_far (p := ⟨gb395, 2, none⟩) (Kd.R_far (p := ⟨gb395, 1, none⟩) (Kd.R_far (p := ⟨gb395, 0, none⟩) (Kd.R_types HO386.out BK395.out (by decide)) (fun _ hk => hk.2) (.bool t387)) (fun _ hk => hk.2) (.slice Ao15 t388.length co15)) (fun _ hk => hk.2) (.slice Ao16 t391.length co16)) (fun _ hk => ⟨hk.1.1.1, ⟨hk.1.1.2, hk.1.2⟩⟩)⟩, ⟨by (with_reducible repeat (first | apply Kd.R_alloc | apply Kd.R_drewN | apply Kd.R_drew)); exact Kd.R_mono (Kd.R_far (p := ⟨gb395, 2, none⟩) (Kd.R_far (p := ⟨gb395, 1, none⟩) (Kd.R_far (p := ⟨gb395, 0, none⟩) (Kd.R_types HO390.out BK395.out (by decide)) (fun _ hk => hk.2) (.bool t387)) (fun _ hk => hk.2) (.slice Ao15 t388.length co15)) (fun _ hk => hk.2) (.slice Ao16 t391.length co16)) (fun _ hk => ⟨hk.1.1.2, ⟨hk.1.2, hk.1.1.1⟩⟩)⟩, ⟨by (with_reducible repeat (first | apply Kd.R_alloc | apply Kd.R_drewN | apply Kd.R_drew)); exact Kd.R_mono (Kd.R_far (p := ⟨gb395, 2, none⟩) (Kd.R_far (p := ⟨gb395, 1, none⟩) (Kd.R_far (p := ⟨gb395, 0, none⟩) (Kd.R_types HO393.out BK395.out (by decide)) (fun _ hk => hk.2) (.bool t387)) (fun _ hk => hk.2) (.slice Ao15 t388.length co15)) (fun _ hk => hk.2) (.slice Ao16 t391.length co16)) (fun _ hk => ⟨hk.1.1.2, ⟨hk.1.2, hk.1.1.1⟩⟩)⟩, ⟨by (with_reducible repeat (first | refine blk_drewN ?_ _ | refine blk_drew ?_ | refine blk_alloc ?_ _)); refine blk_far ?_ NB380_395.out _; (with_reducible repeat (first | refine blk_drewN ?_ _ | refine blk_drew ?_ | refine blk_alloc ?_ _)); refine blk_far ?_ NB380_395.out _; (with_reducible repeat (first | refine blk_drewN ?_ _ | refine blk_drew ?_ | refine blk_alloc ?_ _)); refine blk_far ?_ NB380_395.out _; (with_reducible repeat (first | refine blk_drewN ?_ _ | refine blk_drew ?_ | refine blk_alloc ?_ _)); exact BK380.out⟩, ⟨dP BK395.out⟩, ⟨by repeat (first | (with_reducible first | exact HB.out | apply below_alloc | apply pw_below_drewN | apply below_drew1 | refine below_set ?_ GE380.out | refine below_set ?_ GE395.out) | exact HB.out)⟩⟩
 case rest =>
  clear HC6
  try clear hcz10_0
  try clear hcz10_1
  try clear hcz10_2
  try clear hcz14_0
  try clear hcz14_1
  try clear hcz14_2
  try clear hcz8_0
  try clear hcz8_1
  try clear hcz8_2
  try clear hfz10_0
  try clear hfz10_1
  try clear hfz10_2
  try clear hfz14_0
  try clear hfz14_1
  try clear hfz14_2
  try clear hfz8_0
  try clear hfz8_1
  try clear hfz8_2
  obtain ⟨kq, x38_5, rfl, HA, HJ5, HO_7, HO_8, HO_396001, HO_396002, BK380, BK395, HB⟩ := hcut
  cases kq with
  | zero => exact absurd HA.out (by simp [plumblaw05_RatLowest.j0])
  | succ kj5 =>
   have H := HA.out
   clear HA
   simp only [plumblaw05_RatLowest.j0] at H
   by_cases c20 : x38_5 = true
   ·subst c20
    have H1 : (none) = some r := by rw [if_pos rfl] at H; exact H
    clear H
    have H := H1
    clear H1
    exact absurd H (by simp)
   ·replace c20 := Bool.eq_false_iff.mpr c20
    subst c20
    have H1 : ((nat_Mul.f kj5 t381 t391).bind fun bt397 => ((nat_Mul.f kj5 t388 t384).bind fun bt401 => ((quot_Gcd.f kj5 t388 t391).bind fun t405 => (if bt397.2 = 0 then (if bt401.2 = 0 then ((plumblaw05_same.f kj5 bt397.1 bt401.1).bind fun t408 => (if t408 = true then ((plumblaw05_same.f kj5 t405 (([1] : List Int))).bind fun t412 => (if t412 = true then (if t387 = true then (if (t388.length : Int) = 0 then (plumblaw05_RatLowest.j1 kj5 a1 a2 t381 t384 true a0_0 l0_1 l0_2 t387 t388 t391) else (if a0_0 = true then (plumblaw05_RatLowest.j1 kj5 a1 a2 t381 t384 ((decide ((t388.length : Int) > 0)) != t387) a0_0 l0_1 l0_2 t387 t388 t391) else (plumblaw05_RatLowest.j1 kj5 a1 a2 t381 t384 (false != t387) a0_0 l0_1 l0_2 t387 t388 t391))) else (if a0_0 = true then (plumblaw05_RatLowest.j1 kj5 a1 a2 t381 t384 ((decide ((t388.length : Int) > 0)) != t387) a0_0 l0_1 l0_2 t387 t388 t391) else (plumblaw05_RatLowest.j1 kj5 a1 a2 t381 t384 (false != t387) a0_0 l0_1 l0_2 t387 t388 t391))) else (plumblaw05_RatLowest.j1 kj5 a1 a2 t381 t384 true a0_0 l0_1 l0_2 t387 t388 t391))) else (plumblaw05_RatLowest.j1 kj5 a1 a2 t381 t384 true a0_0 l0_1 l0_2 t387 t388 t391))) else (plumblaw05_RatLowest.j1 kj5 a1 a2 t381 t384 true a0_0 l0_1 l0_2 t387 t388 t391)) else (plumblaw05_RatLowest.j1 kj5 a1 a2 t381 t384 true a0_0 l0_1 l0_2 t387 t388 t391))))) = some r := by rw [if_neg (show ¬ (false = true) by decide)] at H; exact H
    clear H
    have H := H1
    clear H1
    replace H := obe H
    obtain ⟨⟨t397, t398⟩, A210, H⟩ := H
    (try dsimp only at H)
    have A21 := Aside0.mk A210
    clear A210
    replace H := obe H
    obtain ⟨⟨t401, t402⟩, A220, H⟩ := H
    (try dsimp only at H)
    have A22 := Aside0.mk A220
    clear A220
    replace H := obe H
    obtain ⟨t405, A230, H⟩ := H
    (try dsimp only at H)
    have A23 := Aside0.mk A230
    clear A230
    have HC24 := Aside0.mk H
    clear H
    have hnb25 := NB395_380.out
    have hnc25 := NB380_395.out
    obtain ⟨hcz26_0, hcz26_1, hcz26_2⟩ := cz3 BK395.out
    obtain ⟨hfz26_0, hfz26_1, hfz26_2⟩ := fz3 BK395.out
    obtain ⟨Ao27, co27, eo27⟩ := Kd.R_slice HO_7.out
    subst eo27
    go_upto_region 8 with (first | ((with_reducible refine gate_callee (f := 13) rfl ?_); refine gL (some 43) Try.func13 #[.slice Ao27 t381.length co27, .slice Ao16 t391.length co16] ?_; (with_reducible refine (nat_Mul.calls kj5 _ _ t381 _ _ t391 t397 t398 _ ?side1 ?side2 ?side3 ?side4 A21.out).mono ?_); (case side1 => exact dC (Kd.R_reads' HO_7.out).2.2); (case side2 => exact (Kd.R_reads' HO_7.out).2.1); (case side3 => exact dC (Kd.R_reads' HO_396002.out).2.2); (case side4 => exact (Kd.R_reads' HO_396002.out).2.1); rintro e w28 ⟨v399, rfl, ho0, hb⟩; refine ⟨_, rfl, ?_⟩; have HO400 := Aside0.mk (Kd.R_lower (Kd.R_new' (Kd.R_new' (Kd.R_new' (Kd.R_new' ho0 (Kd.R_lt (dR HO_7.out))) (Kd.R_lt (dR HO_8.out))) (Kd.R_lt (dR HO_396001.out))) (Kd.R_lt (dR HO_396002.out))) (below_size (by repeat (first | (with_reducible first | exact HB.out | apply below_alloc | apply pw_below_drewN | apply below_drew1 | refine below_set ?_ GE380.out | refine below_set ?_ GE395.out) | exact HB.out)))); replace HO_7 := Aside0.mk (Kd.R_elder' (dR HO_7.out) (Kd.R_base ho0) hb); replace HO_8 := Aside0.mk (Kd.R_elder' (dR HO_8.out) (Kd.R_base ho0) hb); replace HO_396001 := Aside0.mk (Kd.R_elder' (dR HO_396001.out) (Kd.R_base ho0) hb); replace HO_396002 := Aside0.mk (Kd.R_elder' (dR HO_396002.out) (Kd.R_base ho0) hb); replace BK380 := Aside0.mk (blk_below (g := gb380) (o := .cells #[.bool a0_0, .slice A0_1 l0_1.length c0_1, .slice A0_2 l0_2.length c0_2] 24 (0, 0)) (dK BK380.out) hb); replace BK395 := Aside0.mk (blk_below (g := gb395) (o := .cells #[.bool t387, .slice Ao15 t388.length co15, .slice Ao16 t391.length co16] 28 (0, 0)) (dK BK395.out) hb); replace HB := Aside0.mk (below_step (by repeat (first | (with_reducible first | exact HB.out | apply below_alloc | apply pw_below_drewN | apply below_drew1 | refine below_set ?_ GE380.out | refine below_set ?_ GE395.out) | exact HB.out)) hb); (try clear hb); (try clear ho0); obtain ⟨hcz29_0, hcz29_1, hcz29_2⟩ := cz3 BK395.out; obtain ⟨hfz29_0, hfz29_1, hfz29_2⟩ := fz3 BK395.out; obtain ⟨Ao30, co30, eo30⟩ := Kd.R_slice HO_8.out; subst eo30) | ((with_reducible refine gate_callee (f := 13) rfl ?_); refine gL (some 50) Try.func13 #[.slice Ao15 t388.length co15, .slice Ao30 t384.length co30] ?_; (with_reducible refine (nat_Mul.calls kj5 _ _ t388 _ _ t384 t401 t402 _ ?side1 ?side2 ?side3 ?side4 A22.out).mono ?_); (case side1 => exact dC (Kd.R_reads' HO_396001.out).2.2); (case side2 => exact (Kd.R_reads' HO_396001.out).2.1); (case side3 => exact dC (Kd.R_reads' HO_8.out).2.2); (case side4 => exact (Kd.R_reads' HO_8.out).2.1); rintro e w31 ⟨v403, rfl, ho0, hb⟩; refine ⟨_, rfl, ?_⟩; have HO404 := Aside0.mk (Kd.R_lower (Kd.R_new' (Kd.R_new' (Kd.R_new' (Kd.R_new' (Kd.R_new' ho0 (Kd.R_lt (dR HO_7.out))) (Kd.R_lt (dR HO_8.out))) (Kd.R_lt (dR HO_396001.out))) (Kd.R_lt (dR HO_396002.out))) (Kd.R_lt (dR HO400.out))) (below_size (by repeat (first | (with_reducible first | exact HB.out | apply below_alloc | apply pw_below_drewN | apply below_drew1 | refine below_set ?_ GE380.out | refine below_set ?_ GE395.out) | exact HB.out)))); replace HO_7 := Aside0.mk (Kd.R_elder' (dR HO_7.out) (Kd.R_base ho0) hb); replace HO_8 := Aside0.mk (Kd.R_elder' (dR HO_8.out) (Kd.R_base ho0) hb); replace HO_396001 := Aside0.mk (Kd.R_elder' (dR HO_396001.out) (Kd.R_base ho0) hb); replace HO_396002 := Aside0.mk (Kd.R_elder' (dR HO_396002.out) (Kd.R_base ho0) hb); replace HO400 := Aside0.mk (Kd.R_elder' (dR HO400.out) (Kd.R_base ho0) hb); replace BK380 := Aside0.mk (blk_below (g := gb380) (o := .cells #[.bool a0_0, .slice A0_1 l0_1.length c0_1, .slice A0_2 l0_2.length c0_2] 24 (0, 0)) (dK BK380.out) hb); replace BK395 := Aside0.mk (blk_below (g := gb395) (o := .cells #[.bool t387, .slice Ao15 t388.length co15, .slice Ao16 t391.length co16] 28 (0, 0)) (dK BK395.out) hb); replace HB := Aside0.mk (below_step (by repeat (first | (with_reducible first | exact HB.out | apply below_alloc | apply pw_below_drewN | apply below_drew1 | refine below_set ?_ GE380.out | refine below_set ?_ GE395.out) | exact HB.out)) hb); (try clear hb); (try clear ho0); obtain ⟨hcz32_0, hcz32_1, hcz32_2⟩ := cz3 BK395.out; obtain ⟨hfz32_0, hfz32_1, hfz32_2⟩ := fz3 BK395.out) | ((with_reducible refine gate_callee (f := 14) rfl ?_); refine gL (some 57) Try.func14 #[.slice Ao15 t388.length co15, .slice Ao16 t391.length co16] ?_; (with_reducible refine (quot_Gcd.calls kj5 _ _ t388 _ _ t391 t405 _ ?side1 ?side2 ?side3 ?side4 A23.out).mono ?_); (case side1 => exact dC (Kd.R_reads' HO_396001.out).2.2); (case side2 => exact (Kd.R_reads' HO_396001.out).2.1); (case side3 => exact dC (Kd.R_reads' HO_396002.out).2.2); (case side4 => exact (Kd.R_reads' HO_396002.out).2.1); rintro e w33 ⟨v406, rfl, ho0, hb⟩; refine ⟨_, rfl, ?_⟩; have HO407 := Aside0.mk (Kd.R_lower (Kd.R_new' (Kd.R_new' (Kd.R_new' (Kd.R_new' (Kd.R_new' (Kd.R_new' ho0 (Kd.R_lt (dR HO_7.out))) (Kd.R_lt (dR HO_8.out))) (Kd.R_lt (dR HO_396001.out))) (Kd.R_lt (dR HO_396002.out))) (Kd.R_lt (dR HO400.out))) (Kd.R_lt (dR HO404.out))) (below_size (by repeat (first | (with_reducible first | exact HB.out | apply below_alloc | apply pw_below_drewN | apply below_drew1 | refine below_set ?_ GE380.out | refine below_set ?_ GE395.out) | exact HB.out)))); replace HO_7 := Aside0.mk (Kd.R_elder' (dR HO_7.out) (Kd.R_base ho0) hb); replace HO_8 := Aside0.mk (Kd.R_elder' (dR HO_8.out) (Kd.R_base ho0) hb); replace HO_396001 := Aside0.mk (Kd.R_elder' (dR HO_396001.out) (Kd.R_base ho0) hb); replace HO_396002 := Aside0.mk (Kd.R_elder' (dR HO_396002.out) (Kd.R_base ho0) hb); replace HO400 := Aside0.mk (Kd.R_elder' (dR HO400.out) (Kd.R_base ho0) hb); replace HO404 := Aside0.mk (Kd.R_elder' (dR HO404.out) (Kd.R_base ho0) hb); replace BK380 := Aside0.mk (blk_below (g := gb380) (o := .cells #[.bool a0_0, .slice A0_1 l0_1.length c0_1, .slice A0_2 l0_2.length c0_2] 24 (0, 0)) (dK BK380.out) hb); replace BK395 := Aside0.mk (blk_below (g := gb395) (o := .cells #[.bool t387, .slice Ao15 t388.length co15, .slice Ao16 t391.length co16] 28 (0, 0)) (dK BK395.out) hb); replace HB := Aside0.mk (below_step (by repeat (first | (with_reducible first | exact HB.out | apply below_alloc | apply pw_below_drewN | apply below_drew1 | refine below_set ?_ GE380.out | refine below_set ?_ GE395.out) | exact HB.out)) hb); (try clear hb); (try clear ho0)))
    (try simp only [Act.put, List.setIfInBounds_toArray, List.set_cons_zero, List.set_cons_succ])
    go_cut [98] (fun v98 wc => ∃ (kq : Nat) (x98_23 : Bool), v98 = .bool x98_23 ∧ Aside0 (plumblaw05_RatLowest.j1 kq a1 a2 t381 t384 x98_23 a0_0 l0_1 l0_2 t387 t388 t391 = some r) ∧ Aside0 (kq ≤ kj5) ∧ Aside0 (Kd.R (Kd.int .u64) 25 wc w.heap.size (fun k_ => some k_ ≠ ((.slice Ao30 t384.length co30) : Value).ownBlock ∧ some k_ ≠ ((.slice Ao15 t388.length co15) : Value).ownBlock ∧ some k_ ≠ ((.slice Ao16 t391.length co16) : Value).ownBlock) (.slice Ao27 t381.length co27) t381) ∧ Aside0 (Kd.R (Kd.int .u64) 25 wc w.heap.size (fun k_ => some k_ ≠ ((.slice Ao27 t381.length co27) : Value).ownBlock ∧ some k_ ≠ ((.slice Ao15 t388.length co15) : Value).ownBlock ∧ some k_ ≠ ((.slice Ao16 t391.length co16) : Value).ownBlock) (.slice Ao30 t384.length co30) t384) ∧ Aside0 (Kd.R (Kd.int .u64) 25 wc w.heap.size (fun k_ => some k_ ≠ ((.slice Ao27 t381.length co27) : Value).ownBlock ∧ some k_ ≠ ((.slice Ao30 t384.length co30) : Value).ownBlock ∧ some k_ ≠ ((.slice Ao16 t391.length co16) : Value).ownBlock) (.slice Ao15 t388.length co15) t388) ∧ Aside0 (Kd.R (Kd.int .u64) 25 wc w.heap.size (fun k_ => some k_ ≠ ((.slice Ao27 t381.length co27) : Value).ownBlock ∧ some k_ ≠ ((.slice Ao30 t384.length co30) : Value).ownBlock ∧ some k_ ≠ ((.slice Ao15 t388.length co15) : Value).ownBlock) (.slice Ao16 t391.length co16) t391) ∧ Aside0 (wc.heap[gb380]? = some (.cells #[.bool a0_0, (.slice A0_1 l0_1.length c0_1), (.slice A0_2 l0_2.length c0_2)] 24 (0, 0))) ∧ Aside0 (wc.heap[gb395]? = some (.cells #[.bool t387, (.slice Ao15 t388.length co15), (.slice Ao16 t391.length co16)] 28 (0, 0))) ∧ Aside0 (Below w.heap.size w wc))
    case first =>
     have H := HC24.out
     clear HC24
     by_cases c34 : t398 = 0
     ·rw [if_pos c34] at H
      have c34b0 : (t398 == 0) = true := beq_iff_eq.mpr c34
      have c34b1 : (t398 != 0) = false := bne_eq_false_iff_eq.mpr c34
      clear c34
      (first | rw [c34b0] | (simp only [i64_w, i32_w]; rw [c34b0]) | skip)
      by_cases c35 : t402 = 0
      ·rw [if_pos c35] at H
       have c35b0 : (t402 == 0) = true := beq_iff_eq.mpr c35
       have c35b1 : (t402 != 0) = false := bne_eq_false_iff_eq.mpr c35
       clear c35
       replace H := obe H
       obtain ⟨t408, A360, H⟩ := H
       (try dsimp only at H)
       have A36 := Aside0.mk A360
       clear A360
       by_cases c37 : t408 = true
       ·subst c37
        have H1 : ((plumblaw05_same.f kj5 t405 (([1] : List Int))).bind fun t412 => (if t412 = true then (if t387 = true then (if (t388.length : Int) = 0 then (plumblaw05_RatLowest.j1 kj5 a1 a2 t381 t384 true a0_0 l0_1 l0_2 t387 t388 t391) else (if a0_0 = true then (plumblaw05_RatLowest.j1 kj5 a1 a2 t381 t384 ((decide ((t388.length : Int) > 0)) != t387) a0_0 l0_1 l0_2 t387 t388 t391) else (plumblaw05_RatLowest.j1 kj5 a1 a2 t381 t384 (false != t387) a0_0 l0_1 l0_2 t387 t388 t391))) else (if a0_0 = true then (plumblaw05_RatLowest.j1 kj5 a1 a2 t381 t384 ((decide ((t388.length : Int) > 0)) != t387) a0_0 l0_1 l0_2 t387 t388 t391) else (plumblaw05_RatLowest.j1 kj5 a1 a2 t381 t384 (false != t387) a0_0 l0_1 l0_2 t387 t388 t391))) else (plumblaw05_RatLowest.j1 kj5 a1 a2 t381 t384 true a0_0 l0_1 l0_2 t387 t388 t391))) = some r := by rw [if_pos rfl] at H; exact H
        clear H
        have H := H1
        clear H1
        obtain ⟨y409, hy409⟩ : ∃ y_ : List Int, y_ = (([1] : List Int)) := ⟨_, rfl⟩
        replace H : ((plumblaw05_same.f kj5 t405 y409).bind fun t412 => (if t412 = true then (if t387 = true then (if (t388.length : Int) = 0 then (plumblaw05_RatLowest.j1 kj5 a1 a2 t381 t384 true a0_0 l0_1 l0_2 t387 t388 t391) else (if a0_0 = true then (plumblaw05_RatLowest.j1 kj5 a1 a2 t381 t384 ((decide ((t388.length : Int) > 0)) != t387) a0_0 l0_1 l0_2 t387 t388 t391) else (plumblaw05_RatLowest.j1 kj5 a1 a2 t381 t384 (false != t387) a0_0 l0_1 l0_2 t387 t388 t391))) else (if a0_0 = true then (plumblaw05_RatLowest.j1 kj5 a1 a2 t381 t384 ((decide ((t388.length : Int) > 0)) != t387) a0_0 l0_1 l0_2 t387 t388 t391) else (plumblaw05_RatLowest.j1 kj5 a1 a2 t381 t384 (false != t387) a0_0 l0_1 l0_2 t387 t388 t391))) else (plumblaw05_RatLowest.j1 kj5 a1 a2 t381 t384 true a0_0 l0_1 l0_2 t387 t388 t391))) = some r := by first | (rw [hy409]; with_reducible exact H) | (have H2_ := (Option.bind_some _ _).symm.trans H; rw [hy409]; with_reducible exact H2_) | (have H2_ := (Option.bind_some _ _).symm.trans H; with_reducible exact H2_) | with_reducible exact H | (rw [hy409]; exact H) | exact H
        have Ny409 := Aside0.mk hy409
        clear hy409
        replace H := obe H
        obtain ⟨t412, A380, H⟩ := H
        (try dsimp only at H)
        have A38 := Aside0.mk A380
        clear A380
        by_cases c39 : t412 = true
        ·subst c39
         have H1 : (if t387 = true then (if (t388.length : Int) = 0 then (plumblaw05_RatLowest.j1 kj5 a1 a2 t381 t384 true a0_0 l0_1 l0_2 t387 t388 t391) else (if a0_0 = true then (plumblaw05_RatLowest.j1 kj5 a1 a2 t381 t384 ((decide ((t388.length : Int) > 0)) != t387) a0_0 l0_1 l0_2 t387 t388 t391) else (plumblaw05_RatLowest.j1 kj5 a1 a2 t381 t384 (false != t387) a0_0 l0_1 l0_2 t387 t388 t391))) else (if a0_0 = true then (plumblaw05_RatLowest.j1 kj5 a1 a2 t381 t384 ((decide ((t388.length : Int) > 0)) != t387) a0_0 l0_1 l0_2 t387 t388 t391) else (plumblaw05_RatLowest.j1 kj5 a1 a2 t381 t384 (false != t387) a0_0 l0_1 l0_2 t387 t388 t391))) = some r := by rw [if_pos rfl] at H; exact H
         clear H
         have H := H1
         clear H1
         by_cases c40 : t387 = true
         ·subst c40
          have H1 : (if (t388.length : Int) = 0 then (plumblaw05_RatLowest.j1 kj5 a1 a2 t381 t384 true a0_0 l0_1 l0_2 true t388 t391) else (if a0_0 = true then (plumblaw05_RatLowest.j1 kj5 a1 a2 t381 t384 ((decide ((t388.length : Int) > 0)) != true) a0_0 l0_1 l0_2 true t388 t391) else (plumblaw05_RatLowest.j1 kj5 a1 a2 t381 t384 (false != true) a0_0 l0_1 l0_2 true t388 t391))) = some r := by rw [if_pos rfl] at H; exact H
          clear H
          have H := H1
          clear H1
          by_cases c41 : (t388.length : Int) = 0
          ·rw [if_pos c41] at H
           have c41b0 : ((t388.length : Int) == 0) = true := beq_iff_eq.mpr c41
           have c41b1 : ((t388.length : Int) != 0) = false := bne_eq_false_iff_eq.mpr c41
           clear c41
           have H' := Aside0.mk H
           clear H
           obtain ⟨Ao42, co42, eo42⟩ := Kd.R_slice HO400.out
           subst eo42
           obtain ⟨Ao43, co43, eo43⟩ := Kd.R_slice HO404.out
           subst eo43
           go_wp2_with (first | (go_at_call 15; (with_reducible refine (plumblaw05_same.calls kj5 _ _ t397 _ _ t401 true _ ?side1 ?side2 ?side3 ?side4 A36.out).mono ?_); (case side1 => exact dC (Kd.R_reads' HO400.out).2.2); (case side2 => exact (Kd.R_reads' HO400.out).2.1); (case side3 => exact dC (Kd.R_reads' HO404.out).2.2); (case side4 => exact (Kd.R_reads' HO404.out).2.1); rintro e w' ⟨rfl, ⟨nd, rfl⟩⟩) | ((with_reducible refine gate_dst (N := 72) rfl ?_); (try (refine gate_guard (by rfl) ?_; dsimp only)); refine Kd.R_lit (Kd.int .u64) _ 25 ?hg (N := 72) ?hd (xs := ([1] : List Int)) (inner := [.int .u64 1]) (ok := fun _ => True) (okp := fun _ => True) ?hr ?hp (fun _ hk => hk) trivial (Below.refl _ _) (Nat.le_refl _) (by simp) ?_; (case hd => rfl); (case hg => rfl); (case hr => first | (go_simp; done) | (go_simp; rfl)); (case hp => exact (Reps.one (show Kd.M (Kd.int .u64) _ _ _ 1 [.int .u64 1] from rfl) (Reps.none _ _))); intro v410 w44 ho45 hb hg_ hnew_; clear hg_ hnew_; (first | rw [← Ny409.out] at ho45 | (simp only [Int.reduceToNat] at ho45; rw [← Ny409.out] at ho45)); have HO411 := Aside0.mk (Kd.R_lower (Kd.R_new' (Kd.R_new' (Kd.R_new' (Kd.R_new' (Kd.R_new' (Kd.R_new' (Kd.R_new' ho45 (Kd.R_lt (dR HO_7.out))) (Kd.R_lt (dR HO_8.out))) (Kd.R_lt (dR HO_396001.out))) (Kd.R_lt (dR HO_396002.out))) (Kd.R_lt (dR HO400.out))) (Kd.R_lt (dR HO404.out))) (Kd.R_lt (dR HO407.out))) (below_size (by repeat (first | (with_reducible first | exact HB.out | apply below_alloc | apply pw_below_drewN | apply below_drew1 | refine below_set ?_ GE380.out | refine below_set ?_ GE395.out) | exact HB.out)))); replace HO_7 := Aside0.mk (Kd.R_elder' (dR HO_7.out) (Kd.R_base ho45) hb); replace HO_8 := Aside0.mk (Kd.R_elder' (dR HO_8.out) (Kd.R_base ho45) hb); replace HO_396001 := Aside0.mk (Kd.R_elder' (dR HO_396001.out) (Kd.R_base ho45) hb); replace HO_396002 := Aside0.mk (Kd.R_elder' (dR HO_396002.out) (Kd.R_base ho45) hb); replace HO400 := Aside0.mk (Kd.R_elder' (dR HO400.out) (Kd.R_base ho45) hb); replace HO404 := Aside0.mk (Kd.R_elder' (dR HO404.out) (Kd.R_base ho45) hb); replace HO407 := Aside0.mk (Kd.R_elder' (dR HO407.out) (Kd.R_base ho45) hb); replace BK380 := Aside0.mk (blk_below (g := gb380) (o := .cells #[.bool a0_0, .slice A0_1 l0_1.length c0_1, .slice A0_2 l0_2.length c0_2] 24 (0, 0)) (dK BK380.out) hb); replace BK395 := Aside0.mk (blk_below (g := gb395) (o := .cells #[.bool true, .slice Ao15 t388.length co15, .slice Ao16 t391.length co16] 28 (0, 0)) (dK BK395.out) hb); replace HB := Aside0.mk (below_step (by repeat (first | (with_reducible first | exact HB.out | apply below_alloc | apply pw_below_drewN | apply below_drew1 | refine below_set ?_ GE380.out | refine below_set ?_ GE395.out) | exact HB.out)) hb); clear hb ho45; obtain ⟨Ao46, co46, eo46⟩ := Kd.R_slice HO407.out; subst eo46; obtain ⟨Ao47, co47, eo47⟩ := Kd.R_slice HO411.out; subst eo47) | (go_at_call 15; (with_reducible refine (plumblaw05_same.calls kj5 _ _ t405 _ _ y409 true _ ?side1 ?side2 ?side3 ?side4 A38.out).mono ?_); (case side1 => exact dC (Kd.R_reads' HO407.out).2.2); (case side2 => exact (Kd.R_reads' HO407.out).2.1); (case side3 => exact dC (Kd.R_reads' HO411.out).2.2); (case side4 => exact (Kd.R_reads' HO411.out).2.1); rintro e w' ⟨rfl, ⟨nd, rfl⟩⟩; have hnb48 := NB395_380.out; have hnc48 := NB380_395.out; obtain ⟨hcz49_0, hcz49_1, hcz49_2⟩ := cz3 BK395.out; obtain ⟨hfz49_0, hfz49_1, hfz49_2⟩ := fz3 BK395.out))
           go_meet
           case rel => exact ⟨_, (true), dF, H', ⟨by have := HJ5.out; first | omega | exact Nat.le_refl _⟩, ⟨by (with_reducible repeat (first | apply Kd.R_alloc | apply Kd.R_drewN | apply Kd.R_drew)); exact Kd.R_mono HO_7.out (fun _ hk => ⟨hk.1.1.1.1.1, ⟨hk.1.1.1.1.2.1, hk.1.1.1.1.2.2⟩⟩)⟩, ⟨by (with_reducible repeat (first | apply Kd.R_alloc | apply Kd.R_drewN | apply Kd.R_drew)); exact Kd.R_mono HO_8.out (fun _ hk => ⟨hk.1.1.1.1.1, ⟨hk.1.1.1.1.2.1, hk.1.1.1.1.2.2⟩⟩)⟩, ⟨by (with_reducible repeat (first | apply Kd.R_alloc | apply Kd.R_drewN | apply Kd.R_drew)); exact Kd.R_mono HO_396001.out (fun _ hk => ⟨hk.1.1.1.1.1, ⟨hk.1.1.1.1.2.1, hk.1.1.1.1.2.2⟩⟩)⟩, ⟨by (with_reducible repeat (first | apply Kd.R_alloc | apply Kd.R_drewN | apply Kd.R_drew)); exact Kd.R_mono HO_396002.out (fun _ hk => ⟨hk.1.1.1.1.1, ⟨hk.1.1.1.1.2.1, hk.1.1.1.1.2.2⟩⟩)⟩, ⟨dK BK380.out⟩, ⟨dK BK395.out⟩, ⟨by repeat (first | (with_reducible first | exact HB.out | apply below_alloc | apply pw_below_drewN | apply below_drew1 | refine below_set ?_ GE380.out | refine below_set ?_ GE395.out) | exact HB.out)⟩⟩
          ·rw [if_neg c41] at H
           have c41b0 : ((t388.length : Int) == 0) = false := beq_eq_false_iff_ne.mpr c41
           have c41b1 : ((t388.length : Int) != 0) = true := bne_iff_ne.mpr c41
           have c41b2 : ¬ (t388 = []) := fun h_ => c41 (by rw [h_]; rfl)
           by_cases c50 : a0_0 = true
           ·subst c50
            have H1 : (plumblaw05_RatLowest.j1 kj5 a1 a2 t381 t384 ((decide ((t388.length : Int) > 0)) != true) true l0_1 l0_2 true t388 t391) = some r := by rw [if_pos rfl] at H; exact H
            clear H
            have H := H1
            clear H1
            have H' := Aside0.mk H
            clear H
            obtain ⟨Ao51, co51, eo51⟩ := Kd.R_slice HO400.out
            subst eo51
            obtain ⟨Ao52, co52, eo52⟩ := Kd.R_slice HO404.out
            subst eo52
            go_wp2_with (first | (go_at_call 15; (with_reducible refine (plumblaw05_same.calls kj5 _ _ t397 _ _ t401 true _ ?side1 ?side2 ?side3 ?side4 A36.out).mono ?_); (case side1 => exact dC (Kd.R_reads' HO400.out).2.2); (case side2 => exact (Kd.R_reads' HO400.out).2.1); (case side3 => exact dC (Kd.R_reads' HO404.out).2.2); (case side4 => exact (Kd.R_reads' HO404.out).2.1); rintro e w' ⟨rfl, ⟨nd, rfl⟩⟩) | ((with_reducible refine gate_dst (N := 72) rfl ?_); (try (refine gate_guard (by rfl) ?_; dsimp only)); refine Kd.R_lit (Kd.int .u64) _ 25 ?hg (N := 72) ?hd (xs := ([1] : List Int)) (inner := [.int .u64 1]) (ok := fun _ => True) (okp := fun _ => True) ?hr ?hp (fun _ hk => hk) trivial (Below.refl _ _) (Nat.le_refl _) (by simp) ?_; (case hd => rfl); (case hg => rfl); (case hr => first | (go_simp; done) | (go_simp; rfl)); (case hp => exact (Reps.one (show Kd.M (Kd.int .u64) _ _ _ 1 [.int .u64 1] from rfl) (Reps.none _ _))); intro v410 w53 ho54 hb hg_ hnew_; clear hg_ hnew_; (first | rw [← Ny409.out] at ho54 | (simp only [Int.reduceToNat] at ho54; rw [← Ny409.out] at ho54)); have HO411 := Aside0.mk (Kd.R_lower (Kd.R_new' (Kd.R_new' (Kd.R_new' (Kd.R_new' (Kd.R_new' (Kd.R_new' (Kd.R_new' ho54 (Kd.R_lt (dR HO_7.out))) (Kd.R_lt (dR HO_8.out))) (Kd.R_lt (dR HO_396001.out))) (Kd.R_lt (dR HO_396002.out))) (Kd.R_lt (dR HO400.out))) (Kd.R_lt (dR HO404.out))) (Kd.R_lt (dR HO407.out))) (below_size (by repeat (first | (with_reducible first | exact HB.out | apply below_alloc | apply pw_below_drewN | apply below_drew1 | refine below_set ?_ GE380.out | refine below_set ?_ GE395.out) | exact HB.out)))); replace HO_7 := Aside0.mk (Kd.R_elder' (dR HO_7.out) (Kd.R_base ho54) hb); replace HO_8 := Aside0.mk (Kd.R_elder' (dR HO_8.out) (Kd.R_base ho54) hb); replace HO_396001 := Aside0.mk (Kd.R_elder' (dR HO_396001.out) (Kd.R_base ho54) hb); replace HO_396002 := Aside0.mk (Kd.R_elder' (dR HO_396002.out) (Kd.R_base ho54) hb); replace HO400 := Aside0.mk (Kd.R_elder' (dR HO400.out) (Kd.R_base ho54) hb); replace HO404 := Aside0.mk (Kd.R_elder' (dR HO404.out) (Kd.R_base ho54) hb); replace HO407 := Aside0.mk (Kd.R_elder' (dR HO407.out) (Kd.R_base ho54) hb); replace BK380 := Aside0.mk (blk_below (g := gb380) (o := .cells #[.bool true, .slice A0_1 l0_1.length c0_1, .slice A0_2 l0_2.length c0_2] 24 (0, 0)) (dK BK380.out) hb); replace BK395 := Aside0.mk (blk_below (g := gb395) (o := .cells #[.bool true, .slice Ao15 t388.length co15, .slice Ao16 t391.length co16] 28 (0, 0)) (dK BK395.out) hb); replace HB := Aside0.mk (below_step (by repeat (first | (with_reducible first | exact HB.out | apply below_alloc | apply pw_below_drewN | apply below_drew1 | refine below_set ?_ GE380.out | refine below_set ?_ GE395.out) | exact HB.out)) hb); clear hb ho54; obtain ⟨Ao55, co55, eo55⟩ := Kd.R_slice HO407.out; subst eo55; obtain ⟨Ao56, co56, eo56⟩ := Kd.R_slice HO411.out; subst eo56) | (go_at_call 15; (with_reducible refine (plumblaw05_same.calls kj5 _ _ t405 _ _ y409 true _ ?side1 ?side2 ?side3 ?side4 A38.out).mono ?_); (case side1 => exact dC (Kd.R_reads' HO407.out).2.2); (case side2 => exact (Kd.R_reads' HO407.out).2.1); (case side3 => exact dC (Kd.R_reads' HO411.out).2.2); (case side4 => exact (Kd.R_reads' HO411.out).2.1); rintro e w' ⟨rfl, ⟨nd, rfl⟩⟩; have hnb57 := NB395_380.out; have hnc57 := NB380_395.out; obtain ⟨hcz58_0, hcz58_1, hcz58_2⟩ := cz3 BK395.out; obtain ⟨hfz58_0, hfz58_1, hfz58_2⟩ := fz3 BK395.out; obtain ⟨hcz59_0, hcz59_1, hcz59_2⟩ := cz3 BK380.out; obtain ⟨hfz59_0, hfz59_1, hfz59_2⟩ := fz3 BK380.out))
            go_meet
            case rel => exact ⟨_, (((decide ((t388.length : Int) > 0)) != true)), dF, H', ⟨by have := HJ5.out; first | omega | exact Nat.le_refl _⟩, ⟨by (with_reducible repeat (first | apply Kd.R_alloc | apply Kd.R_drewN | apply Kd.R_drew)); exact Kd.R_mono HO_7.out (fun _ hk => ⟨hk.1.1.1.1.1, ⟨hk.1.1.1.1.2.1, hk.1.1.1.1.2.2⟩⟩)⟩, ⟨by (with_reducible repeat (first | apply Kd.R_alloc | apply Kd.R_drewN | apply Kd.R_drew)); exact Kd.R_mono HO_8.out (fun _ hk => ⟨hk.1.1.1.1.1, ⟨hk.1.1.1.1.2.1, hk.1.1.1.1.2.2⟩⟩)⟩, ⟨by (with_reducible repeat (first | apply Kd.R_alloc | apply Kd.R_drewN | apply Kd.R_drew)); exact Kd.R_mono HO_396001.out (fun _ hk => ⟨hk.1.1.1.1.1, ⟨hk.1.1.1.1.2.1, hk.1.1.1.1.2.2⟩⟩)⟩, ⟨by (with_reducible repeat (first | apply Kd.R_alloc | apply Kd.R_drewN | apply Kd.R_drew)); exact Kd.R_mono HO_396002.out (fun _ hk => ⟨hk.1.1.1.1.1, ⟨hk.1.1.1.1.2.1, hk.1.1.1.1.2.2⟩⟩)⟩, ⟨dK BK380.out⟩, ⟨dK BK395.out⟩, ⟨by repeat (first | (with_reducible first | exact HB.out | apply below_alloc | apply pw_below_drewN | apply below_drew1 | refine below_set ?_ GE380.out | refine below_set ?_ GE395.out) | exact HB.out)⟩⟩
           ·replace c50 := Bool.eq_false_iff.mpr c50
            subst c50
            have H1 : (plumblaw05_RatLowest.j1 kj5 a1 a2 t381 t384 (false != true) false l0_1 l0_2 true t388 t391) = some r := by rw [if_neg (show ¬ (false = true) by decide)] at H; exact H
            clear H
            have H := H1
            clear H1
            have H' := Aside0.mk H
            clear H
            obtain ⟨Ao60, co60, eo60⟩ := Kd.R_slice HO400.out
            subst eo60
            obtain ⟨Ao61, co61, eo61⟩ := Kd.R_slice HO404.out
            subst eo61
            go_wp2_with (first | (go_at_call 15; (with_reducible refine (plumblaw05_same.calls kj5 _ _ t397 _ _ t401 true _ ?side1 ?side2 ?side3 ?side4 A36.out).mono ?_); (case side1 => exact dC (Kd.R_reads' HO400.out).2.2); (case side2 => exact (Kd.R_reads' HO400.out).2.1); (case side3 => exact dC (Kd.R_reads' HO404.out).2.2); (case side4 => exact (Kd.R_reads' HO404.out).2.1); rintro e w' ⟨rfl, ⟨nd, rfl⟩⟩) | ((with_reducible refine gate_dst (N := 72) rfl ?_); (try (refine gate_guard (by rfl) ?_; dsimp only)); refine Kd.R_lit (Kd.int .u64) _ 25 ?hg (N := 72) ?hd (xs := ([1] : List Int)) (inner := [.int .u64 1]) (ok := fun _ => True) (okp := fun _ => True) ?hr ?hp (fun _ hk => hk) trivial (Below.refl _ _) (Nat.le_refl _) (by simp) ?_; (case hd => rfl); (case hg => rfl); (case hr => first | (go_simp; done) | (go_simp; rfl)); (case hp => exact (Reps.one (show Kd.M (Kd.int .u64) _ _ _ 1 [.int .u64 1] from rfl) (Reps.none _ _))); intro v410 w62 ho63 hb hg_ hnew_; clear hg_ hnew_; (first | rw [← Ny409.out] at ho63 | (simp only [Int.reduceToNat] at ho63; rw [← Ny409.out] at ho63)); have HO411 := Aside0.mk (Kd.R_lower (Kd.R_new' (Kd.R_new' (Kd.R_new' (Kd.R_new' (Kd.R_new' (Kd.R_new' (Kd.R_new' ho63 (Kd.R_lt (dR HO_7.out))) (Kd.R_lt (dR HO_8.out))) (Kd.R_lt (dR HO_396001.out))) (Kd.R_lt (dR HO_396002.out))) (Kd.R_lt (dR HO400.out))) (Kd.R_lt (dR HO404.out))) (Kd.R_lt (dR HO407.out))) (below_size (by repeat (first | (with_reducible first | exact HB.out | apply below_alloc | apply pw_below_drewN | apply below_drew1 | refine below_set ?_ GE380.out | refine below_set ?_ GE395.out) | exact HB.out)))); replace HO_7 := Aside0.mk (Kd.R_elder' (dR HO_7.out) (Kd.R_base ho63) hb); replace HO_8 := Aside0.mk (Kd.R_elder' (dR HO_8.out) (Kd.R_base ho63) hb); replace HO_396001 := Aside0.mk (Kd.R_elder' (dR HO_396001.out) (Kd.R_base ho63) hb); replace HO_396002 := Aside0.mk (Kd.R_elder' (dR HO_396002.out) (Kd.R_base ho63) hb); replace HO400 := Aside0.mk (Kd.R_elder' (dR HO400.out) (Kd.R_base ho63) hb); replace HO404 := Aside0.mk (Kd.R_elder' (dR HO404.out) (Kd.R_base ho63) hb); replace HO407 := Aside0.mk (Kd.R_elder' (dR HO407.out) (Kd.R_base ho63) hb); replace BK380 := Aside0.mk (blk_below (g := gb380) (o := .cells #[.bool false, .slice A0_1 l0_1.length c0_1, .slice A0_2 l0_2.length c0_2] 24 (0, 0)) (dK BK380.out) hb); replace BK395 := Aside0.mk (blk_below (g := gb395) (o := .cells #[.bool true, .slice Ao15 t388.length co15, .slice Ao16 t391.length co16] 28 (0, 0)) (dK BK395.out) hb); replace HB := Aside0.mk (below_step (by repeat (first | (with_reducible first | exact HB.out | apply below_alloc | apply pw_below_drewN | apply below_drew1 | refine below_set ?_ GE380.out | refine below_set ?_ GE395.out) | exact HB.out)) hb); clear hb ho63; obtain ⟨Ao64, co64, eo64⟩ := Kd.R_slice HO407.out; subst eo64; obtain ⟨Ao65, co65, eo65⟩ := Kd.R_slice HO411.out; subst eo65) | (go_at_call 15; (with_reducible refine (plumblaw05_same.calls kj5 _ _ t405 _ _ y409 true _ ?side1 ?side2 ?side3 ?side4 A38.out).mono ?_); (case side1 => exact dC (Kd.R_reads' HO407.out).2.2); (case side2 => exact (Kd.R_reads' HO407.out).2.1); (case side3 => exact dC (Kd.R_reads' HO411.out).2.2); (case side4 => exact (Kd.R_reads' HO411.out).2.1); rintro e w' ⟨rfl, ⟨nd, rfl⟩⟩; have hnb66 := NB395_380.out; have hnc66 := NB380_395.out; obtain ⟨hcz67_0, hcz67_1, hcz67_2⟩ := cz3 BK395.out; obtain ⟨hfz67_0, hfz67_1, hfz67_2⟩ := fz3 BK395.out; obtain ⟨hcz68_0, hcz68_1, hcz68_2⟩ := cz3 BK380.out; obtain ⟨hfz68_0, hfz68_1, hfz68_2⟩ := fz3 BK380.out))
            go_meet
            case rel => exact ⟨_, ((false != true)), dF, H', ⟨by have := HJ5.out; first | omega | exact Nat.le_refl _⟩, ⟨by (with_reducible repeat (first | apply Kd.R_alloc | apply Kd.R_drewN | apply Kd.R_drew)); exact Kd.R_mono HO_7.out (fun _ hk => ⟨hk.1.1.1.1.1, ⟨hk.1.1.1.1.2.1, hk.1.1.1.1.2.2⟩⟩)⟩, ⟨by (with_reducible repeat (first | apply Kd.R_alloc | apply Kd.R_drewN | apply Kd.R_drew)); exact Kd.R_mono HO_8.out (fun _ hk => ⟨hk.1.1.1.1.1, ⟨hk.1.1.1.1.2.1, hk.1.1.1.1.2.2⟩⟩)⟩, ⟨by (with_reducible repeat (first | apply Kd.R_alloc | apply Kd.R_drewN | apply Kd.R_drew)); exact Kd.R_mono HO_396001.out (fun _ hk => ⟨hk.1.1.1.1.1, ⟨hk.1.1.1.1.2.1, hk.1.1.1.1.2.2⟩⟩)⟩, ⟨by (with_reducible repeat (first | apply Kd.R_alloc | apply Kd.R_drewN | apply Kd.R_drew)); exact Kd.R_mono HO_396002.out (fun _ hk => ⟨hk.1.1.1.1.1, ⟨hk.1.1.1.1.2.1, hk.1.1.1.1.2.2⟩⟩)⟩, ⟨dK BK380.out⟩, ⟨dK BK395.out⟩, ⟨by repeat (first | (with_reducible first | exact HB.out | apply below_alloc | apply pw_below_drewN | apply below_drew1 | refine below_set ?_ GE380.out | refine below_set ?_ GE395.out) | exact HB.out)⟩⟩
         ·replace c40 := Bool.eq_false_iff.mpr c40
          subst c40
          have H1 : (if a0_0 = true then (plumblaw05_RatLowest.j1 kj5 a1 a2 t381 t384 ((decide ((t388.length : Int) > 0)) != false) a0_0 l0_1 l0_2 false t388 t391) else (plumblaw05_RatLowest.j1 kj5 a1 a2 t381 t384 (false != false) a0_0 l0_1 l0_2 false t388 t391)) = some r := by rw [if_neg (show ¬ (false = true) by decide)] at H; exact H
          clear H
          have H := H1
          clear H1
          by_cases c69 : a0_0 = true
          ·subst c69
           have H1 : (plumblaw05_RatLowest.j1 kj5 a1 a2 t381 t384 ((decide ((t388.length : Int) > 0)) != false) true l0_1 l0_2 false t388 t391) = some r := by rw [if_pos rfl] at H; exact H
           clear H
           have H := H1
           clear H1
           have H' := Aside0.mk H
           clear H
           obtain ⟨Ao70, co70, eo70⟩ := Kd.R_slice HO400.out
           subst eo70
           obtain ⟨Ao71, co71, eo71⟩ := Kd.R_slice HO404.out
           subst eo71
           go_wp2_with (first | (go_at_call 15; (with_reducible refine (plumblaw05_same.calls kj5 _ _ t397 _ _ t401 true _ ?side1 ?side2 ?side3 ?side4 A36.out).mono ?_); (case side1 => exact dC (Kd.R_reads' HO400.out).2.2); (case side2 => exact (Kd.R_reads' HO400.out).2.1); (case side3 => exact dC (Kd.R_reads' HO404.out).2.2); (case side4 => exact (Kd.R_reads' HO404.out).2.1); rintro e w' ⟨rfl, ⟨nd, rfl⟩⟩) | ((with_reducible refine gate_dst (N := 72) rfl ?_); (try (refine gate_guard (by rfl) ?_; dsimp only)); refine Kd.R_lit (Kd.int .u64) _ 25 ?hg (N := 72) ?hd (xs := ([1] : List Int)) (inner := [.int .u64 1]) (ok := fun _ => True) (okp := fun _ => True) ?hr ?hp (fun _ hk => hk) trivial (Below.refl _ _) (Nat.le_refl _) (by simp) ?_; (case hd => rfl); (case hg => rfl); (case hr => first | (go_simp; done) | (go_simp; rfl)); (case hp => exact (Reps.one (show Kd.M (Kd.int .u64) _ _ _ 1 [.int .u64 1] from rfl) (Reps.none _ _))); intro v410 w72 ho73 hb hg_ hnew_; clear hg_ hnew_; (first | rw [← Ny409.out] at ho73 | (simp only [Int.reduceToNat] at ho73; rw [← Ny409.out] at ho73)); have HO411 := Aside0.mk (Kd.R_lower (Kd.R_new' (Kd.R_new' (Kd.R_new' (Kd.R_new' (Kd.R_new' (Kd.R_new' (Kd.R_new' ho73 (Kd.R_lt (dR HO_7.out))) (Kd.R_lt (dR HO_8.out))) (Kd.R_lt (dR HO_396001.out))) (Kd.R_lt (dR HO_396002.out))) (Kd.R_lt (dR HO400.out))) (Kd.R_lt (dR HO404.out))) (Kd.R_lt (dR HO407.out))) (below_size (by repeat (first | (with_reducible first | exact HB.out | apply below_alloc | apply pw_below_drewN | apply below_drew1 | refine below_set ?_ GE380.out | refine below_set ?_ GE395.out) | exact HB.out)))); replace HO_7 := Aside0.mk (Kd.R_elder' (dR HO_7.out) (Kd.R_base ho73) hb); replace HO_8 := Aside0.mk (Kd.R_elder' (dR HO_8.out) (Kd.R_base ho73) hb); replace HO_396001 := Aside0.mk (Kd.R_elder' (dR HO_396001.out) (Kd.R_base ho73) hb); replace HO_396002 := Aside0.mk (Kd.R_elder' (dR HO_396002.out) (Kd.R_base ho73) hb); replace HO400 := Aside0.mk (Kd.R_elder' (dR HO400.out) (Kd.R_base ho73) hb); replace HO404 := Aside0.mk (Kd.R_elder' (dR HO404.out) (Kd.R_base ho73) hb); replace HO407 := Aside0.mk (Kd.R_elder' (dR HO407.out) (Kd.R_base ho73) hb); replace BK380 := Aside0.mk (blk_below (g := gb380) (o := .cells #[.bool true, .slice A0_1 l0_1.length c0_1, .slice A0_2 l0_2.length c0_2] 24 (0, 0)) (dK BK380.out) hb); replace BK395 := Aside0.mk (blk_below (g := gb395) (o := .cells #[.bool false, .slice Ao15 t388.length co15, .slice Ao16 t391.length co16] 28 (0, 0)) (dK BK395.out) hb); replace HB := Aside0.mk (below_step (by repeat (first | (with_reducible first | exact HB.out | apply below_alloc | apply pw_below_drewN | apply below_drew1 | refine below_set ?_ GE380.out | refine below_set ?_ GE395.out) | exact HB.out)) hb); clear hb ho73; obtain ⟨Ao74, co74, eo74⟩ := Kd.R_slice HO407.out; subst eo74; obtain ⟨Ao75, co75, eo75⟩ := Kd.R_slice HO411.out; subst eo75) | (go_at_call 15; (with_reducible refine (plumblaw05_same.calls kj5 _ _ t405 _ _ y409 true _ ?side1 ?side2 ?side3 ?side4 A38.out).mono ?_); (case side1 => exact dC (Kd.R_reads' HO407.out).2.2); (case side2 => exact (Kd.R_reads' HO407.out).2.1); (case side3 => exact dC (Kd.R_reads' HO411.out).2.2); (case side4 => exact (Kd.R_reads' HO411.out).2.1); rintro e w' ⟨rfl, ⟨nd, rfl⟩⟩; have hnb76 := NB395_380.out; have hnc76 := NB380_395.out; obtain ⟨hcz77_0, hcz77_1, hcz77_2⟩ := cz3 BK395.out; obtain ⟨hfz77_0, hfz77_1, hfz77_2⟩ := fz3 BK395.out; obtain ⟨hcz78_0, hcz78_1, hcz78_2⟩ := cz3 BK380.out; obtain ⟨hfz78_0, hfz78_1, hfz78_2⟩ := fz3 BK380.out))
           go_meet
           case rel => exact ⟨_, (((decide ((t388.length : Int) > 0)) != false)), dF, H', ⟨by have := HJ5.out; first | omega | exact Nat.le_refl _⟩, ⟨by (with_reducible repeat (first | apply Kd.R_alloc | apply Kd.R_drewN | apply Kd.R_drew)); exact Kd.R_mono HO_7.out (fun _ hk => ⟨hk.1.1.1.1.1, ⟨hk.1.1.1.1.2.1, hk.1.1.1.1.2.2⟩⟩)⟩, ⟨by (with_reducible repeat (first | apply Kd.R_alloc | apply Kd.R_drewN | apply Kd.R_drew)); exact Kd.R_mono HO_8.out (fun _ hk => ⟨hk.1.1.1.1.1, ⟨hk.1.1.1.1.2.1, hk.1.1.1.1.2.2⟩⟩)⟩, ⟨by (with_reducible repeat (first | apply Kd.R_alloc | apply Kd.R_drewN | apply Kd.R_drew)); exact Kd.R_mono HO_396001.out (fun _ hk => ⟨hk.1.1.1.1.1, ⟨hk.1.1.1.1.2.1, hk.1.1.1.1.2.2⟩⟩)⟩, ⟨by (with_reducible repeat (first | apply Kd.R_alloc | apply Kd.R_drewN | apply Kd.R_drew)); exact Kd.R_mono HO_396002.out (fun _ hk => ⟨hk.1.1.1.1.1, ⟨hk.1.1.1.1.2.1, hk.1.1.1.1.2.2⟩⟩)⟩, ⟨dK BK380.out⟩, ⟨dK BK395.out⟩, ⟨by repeat (first | (with_reducible first | exact HB.out | apply below_alloc | apply pw_below_drewN | apply below_drew1 | refine below_set ?_ GE380.out | refine below_set ?_ GE395.out) | exact HB.out)⟩⟩
          ·replace c69 := Bool.eq_false_iff.mpr c69
           subst c69
           have H1 : (plumblaw05_RatLowest.j1 kj5 a1 a2 t381 t384 (false != false) false l0_1 l0_2 false t388 t391) = some r := by rw [if_neg (show ¬ (false = true) by decide)] at H; exact H
           clear H
           have H := H1
           clear H1
           have H' := Aside0.mk H
           clear H
           obtain ⟨Ao79, co79, eo79⟩ := Kd.R_slice HO400.out
           subst eo79
           obtain ⟨Ao80, co80, eo80⟩ := Kd.R_slice HO404.out
           subst eo80
           go_wp2_with (first | (go_at_call 15; (with_reducible refine (plumblaw05_same.calls kj5 _ _ t397 _ _ t401 true _ ?side1 ?side2 ?side3 ?side4 A36.out).mono ?_); (case side1 => exact dC (Kd.R_reads' HO400.out).2.2); (case side2 => exact (Kd.R_reads' HO400.out).2.1); (case side3 => exact dC (Kd.R_reads' HO404.out).2.2); (case side4 => exact (Kd.R_reads' HO404.out).2.1); rintro e w' ⟨rfl, ⟨nd, rfl⟩⟩) | ((with_reducible refine gate_dst (N := 72) rfl ?_); (try (refine gate_guard (by rfl) ?_; dsimp only)); refine Kd.R_lit (Kd.int .u64) _ 25 ?hg (N := 72) ?hd (xs := ([1] : List Int)) (inner := [.int .u64 1]) (ok := fun _ => True) (okp := fun _ => True) ?hr ?hp (fun _ hk => hk) trivial (Below.refl _ _) (Nat.le_refl _) (by simp) ?_; (case hd => rfl); (case hg => rfl); (case hr => first | (go_simp; done) | (go_simp; rfl)); (case hp => exact (Reps.one (show Kd.M (Kd.int .u64) _ _ _ 1 [.int .u64 1] from rfl) (Reps.none _ _))); intro v410 w81 ho82 hb hg_ hnew_; clear hg_ hnew_; (first | rw [← Ny409.out] at ho82 | (simp only [Int.reduceToNat] at ho82; rw [← Ny409.out] at ho82)); have HO411 := Aside0.mk (Kd.R_lower (Kd.R_new' (Kd.R_new' (Kd.R_new' (Kd.R_new' (Kd.R_new' (Kd.R_new' (Kd.R_new' ho82 (Kd.R_lt (dR HO_7.out))) (Kd.R_lt (dR HO_8.out))) (Kd.R_lt (dR HO_396001.out))) (Kd.R_lt (dR HO_396002.out))) (Kd.R_lt (dR HO400.out))) (Kd.R_lt (dR HO404.out))) (Kd.R_lt (dR HO407.out))) (below_size (by repeat (first | (with_reducible first | exact HB.out | apply below_alloc | apply pw_below_drewN | apply below_drew1 | refine below_set ?_ GE380.out | refine below_set ?_ GE395.out) | exact HB.out)))); replace HO_7 := Aside0.mk (Kd.R_elder' (dR HO_7.out) (Kd.R_base ho82) hb); replace HO_8 := Aside0.mk (Kd.R_elder' (dR HO_8.out) (Kd.R_base ho82) hb); replace HO_396001 := Aside0.mk (Kd.R_elder' (dR HO_396001.out) (Kd.R_base ho82) hb); replace HO_396002 := Aside0.mk (Kd.R_elder' (dR HO_396002.out) (Kd.R_base ho82) hb); replace HO400 := Aside0.mk (Kd.R_elder' (dR HO400.out) (Kd.R_base ho82) hb); replace HO404 := Aside0.mk (Kd.R_elder' (dR HO404.out) (Kd.R_base ho82) hb); replace HO407 := Aside0.mk (Kd.R_elder' (dR HO407.out) (Kd.R_base ho82) hb); replace BK380 := Aside0.mk (blk_below (g := gb380) (o := .cells #[.bool false, .slice A0_1 l0_1.length c0_1, .slice A0_2 l0_2.length c0_2] 24 (0, 0)) (dK BK380.out) hb); replace BK395 := Aside0.mk (blk_below (g := gb395) (o := .cells #[.bool false, .slice Ao15 t388.length co15, .slice Ao16 t391.length co16] 28 (0, 0)) (dK BK395.out) hb); replace HB := Aside0.mk (below_step (by repeat (first | (with_reducible first | exact HB.out | apply below_alloc | apply pw_below_drewN | apply below_drew1 | refine below_set ?_ GE380.out | refine below_set ?_ GE395.out) | exact HB.out)) hb); clear hb ho82; obtain ⟨Ao83, co83, eo83⟩ := Kd.R_slice HO407.out; subst eo83; obtain ⟨Ao84, co84, eo84⟩ := Kd.R_slice HO411.out; subst eo84) | (go_at_call 15; (with_reducible refine (plumblaw05_same.calls kj5 _ _ t405 _ _ y409 true _ ?side1 ?side2 ?side3 ?side4 A38.out).mono ?_); (case side1 => exact dC (Kd.R_reads' HO407.out).2.2); (case side2 => exact (Kd.R_reads' HO407.out).2.1); (case side3 => exact dC (Kd.R_reads' HO411.out).2.2); (case side4 => exact (Kd.R_reads' HO411.out).2.1); rintro e w' ⟨rfl, ⟨nd, rfl⟩⟩; have hnb85 := NB395_380.out; have hnc85 := NB380_395.out; obtain ⟨hcz86_0, hcz86_1, hcz86_2⟩ := cz3 BK395.out; obtain ⟨hfz86_0, hfz86_1, hfz86_2⟩ := fz3 BK395.out; obtain ⟨hcz87_0, hcz87_1, hcz87_2⟩ := cz3 BK380.out; obtain ⟨hfz87_0, hfz87_1, hfz87_2⟩ := fz3 BK380.out))
           go_meet
           case rel => exact ⟨_, ((false != false)), dF, H', ⟨by have := HJ5.out; first | omega | exact Nat.le_refl _⟩, ⟨by (with_reducible repeat (first | apply Kd.R_alloc | apply Kd.R_drewN | apply Kd.R_drew)); exact Kd.R_mono HO_7.out (fun _ hk => ⟨hk.1.1.1.1.1, ⟨hk.1.1.1.1.2.1, hk.1.1.1.1.2.2⟩⟩)⟩, ⟨by (with_reducible repeat (first | apply Kd.R_alloc | apply Kd.R_drewN | apply Kd.R_drew)); exact Kd.R_mono HO_8.out (fun _ hk => ⟨hk.1.1.1.1.1, ⟨hk.1.1.1.1.2.1, hk.1.1.1.1.2.2⟩⟩)⟩, ⟨by (with_reducible repeat (first | apply Kd.R_alloc | apply Kd.R_drewN | apply Kd.R_drew)); exact Kd.R_mono HO_396001.out (fun _ hk => ⟨hk.1.1.1.1.1, ⟨hk.1.1.1.1.2.1, hk.1.1.1.1.2.2⟩⟩)⟩, ⟨by (with_reducible repeat (first | apply Kd.R_alloc | apply Kd.R_drewN | apply Kd.R_drew)); exact Kd.R_mono HO_396002.out (fun _ hk => ⟨hk.1.1.1.1.1, ⟨hk.1.1.1.1.2.1, hk.1.1.1.1.2.2⟩⟩)⟩, ⟨dK BK380.out⟩, ⟨dK BK395.out⟩, ⟨by repeat (first | (with_reducible first | exact HB.out | apply below_alloc | apply pw_below_drewN | apply below_drew1 | refine below_set ?_ GE380.out | refine below_set ?_ GE395.out) | exact HB.out)⟩⟩
        ·replace c39 := Bool.eq_false_iff.mpr c39
         subst c39
         have H1 : (plumblaw05_RatLowest.j1 kj5 a1 a2 t381 t384 true a0_0 l0_1 l0_2 t387 t388 t391) = some r := by rw [if_neg (show ¬ (false = true) by decide)] at H; exact H
         clear H
         have H := H1
         clear H1
         have H' := Aside0.mk H
         clear H
         obtain ⟨Ao88, co88, eo88⟩ := Kd.R_slice HO400.out
         subst eo88
         obtain ⟨Ao89, co89, eo89⟩ := Kd.R_slice HO404.out
         subst eo89
         go_wp2_with (first | (go_at_call 15; (with_reducible refine (plumblaw05_same.calls kj5 _ _ t397 _ _ t401 true _ ?side1 ?side2 ?side3 ?side4 A36.out).mono ?_); (case side1 => exact dC (Kd.R_reads' HO400.out).2.2); (case side2 => exact (Kd.R_reads' HO400.out).2.1); (case side3 => exact dC (Kd.R_reads' HO404.out).2.2); (case side4 => exact (Kd.R_reads' HO404.out).2.1); rintro e w' ⟨rfl, ⟨nd, rfl⟩⟩) | ((with_reducible refine gate_dst (N := 72) rfl ?_); (try (refine gate_guard (by rfl) ?_; dsimp only)); refine Kd.R_lit (Kd.int .u64) _ 25 ?hg (N := 72) ?hd (xs := ([1] : List Int)) (inner := [.int .u64 1]) (ok := fun _ => True) (okp := fun _ => True) ?hr ?hp (fun _ hk => hk) trivial (Below.refl _ _) (Nat.le_refl _) (by simp) ?_; (case hd => rfl); (case hg => rfl); (case hr => first | (go_simp; done) | (go_simp; rfl)); (case hp => exact (Reps.one (show Kd.M (Kd.int .u64) _ _ _ 1 [.int .u64 1] from rfl) (Reps.none _ _))); intro v410 w90 ho91 hb hg_ hnew_; clear hg_ hnew_; (first | rw [← Ny409.out] at ho91 | (simp only [Int.reduceToNat] at ho91; rw [← Ny409.out] at ho91)); have HO411 := Aside0.mk (Kd.R_lower (Kd.R_new' (Kd.R_new' (Kd.R_new' (Kd.R_new' (Kd.R_new' (Kd.R_new' (Kd.R_new' ho91 (Kd.R_lt (dR HO_7.out))) (Kd.R_lt (dR HO_8.out))) (Kd.R_lt (dR HO_396001.out))) (Kd.R_lt (dR HO_396002.out))) (Kd.R_lt (dR HO400.out))) (Kd.R_lt (dR HO404.out))) (Kd.R_lt (dR HO407.out))) (below_size (by repeat (first | (with_reducible first | exact HB.out | apply below_alloc | apply pw_below_drewN | apply below_drew1 | refine below_set ?_ GE380.out | refine below_set ?_ GE395.out) | exact HB.out)))); replace HO_7 := Aside0.mk (Kd.R_elder' (dR HO_7.out) (Kd.R_base ho91) hb); replace HO_8 := Aside0.mk (Kd.R_elder' (dR HO_8.out) (Kd.R_base ho91) hb); replace HO_396001 := Aside0.mk (Kd.R_elder' (dR HO_396001.out) (Kd.R_base ho91) hb); replace HO_396002 := Aside0.mk (Kd.R_elder' (dR HO_396002.out) (Kd.R_base ho91) hb); replace HO400 := Aside0.mk (Kd.R_elder' (dR HO400.out) (Kd.R_base ho91) hb); replace HO404 := Aside0.mk (Kd.R_elder' (dR HO404.out) (Kd.R_base ho91) hb); replace HO407 := Aside0.mk (Kd.R_elder' (dR HO407.out) (Kd.R_base ho91) hb); replace BK380 := Aside0.mk (blk_below (g := gb380) (o := .cells #[.bool a0_0, .slice A0_1 l0_1.length c0_1, .slice A0_2 l0_2.length c0_2] 24 (0, 0)) (dK BK380.out) hb); replace BK395 := Aside0.mk (blk_below (g := gb395) (o := .cells #[.bool t387, .slice Ao15 t388.length co15, .slice Ao16 t391.length co16] 28 (0, 0)) (dK BK395.out) hb); replace HB := Aside0.mk (below_step (by repeat (first | (with_reducible first | exact HB.out | apply below_alloc | apply pw_below_drewN | apply below_drew1 | refine below_set ?_ GE380.out | refine below_set ?_ GE395.out) | exact HB.out)) hb); clear hb ho91; obtain ⟨Ao92, co92, eo92⟩ := Kd.R_slice HO407.out; subst eo92; obtain ⟨Ao93, co93, eo93⟩ := Kd.R_slice HO411.out; subst eo93) | (go_at_call 15; (with_reducible refine (plumblaw05_same.calls kj5 _ _ t405 _ _ y409 false _ ?side1 ?side2 ?side3 ?side4 A38.out).mono ?_); (case side1 => exact dC (Kd.R_reads' HO407.out).2.2); (case side2 => exact (Kd.R_reads' HO407.out).2.1); (case side3 => exact dC (Kd.R_reads' HO411.out).2.2); (case side4 => exact (Kd.R_reads' HO411.out).2.1); rintro e w' ⟨rfl, ⟨nd, rfl⟩⟩))
         go_meet
         case rel => exact ⟨_, (true), dF, H', ⟨by have := HJ5.out; first | omega | exact Nat.le_refl _⟩, ⟨by (with_reducible repeat (first | apply Kd.R_alloc | apply Kd.R_drewN | apply Kd.R_drew)); exact Kd.R_mono HO_7.out (fun _ hk => ⟨hk.1.1.1.1.1, ⟨hk.1.1.1.1.2.1, hk.1.1.1.1.2.2⟩⟩)⟩, ⟨by (with_reducible repeat (first | apply Kd.R_alloc | apply Kd.R_drewN | apply Kd.R_drew)); exact Kd.R_mono HO_8.out (fun _ hk => ⟨hk.1.1.1.1.1, ⟨hk.1.1.1.1.2.1, hk.1.1.1.1.2.2⟩⟩)⟩, ⟨by (with_reducible repeat (first | apply Kd.R_alloc | apply Kd.R_drewN | apply Kd.R_drew)); exact Kd.R_mono HO_396001.out (fun _ hk => ⟨hk.1.1.1.1.1, ⟨hk.1.1.1.1.2.1, hk.1.1.1.1.2.2⟩⟩)⟩, ⟨by (with_reducible repeat (first | apply Kd.R_alloc | apply Kd.R_drewN | apply Kd.R_drew)); exact Kd.R_mono HO_396002.out (fun _ hk => ⟨hk.1.1.1.1.1, ⟨hk.1.1.1.1.2.1, hk.1.1.1.1.2.2⟩⟩)⟩, ⟨dK BK380.out⟩, ⟨dK BK395.out⟩, ⟨by repeat (first | (with_reducible first | exact HB.out | apply below_alloc | apply pw_below_drewN | apply below_drew1 | refine below_set ?_ GE380.out | refine below_set ?_ GE395.out) | exact HB.out)⟩⟩
       ·replace c37 := Bool.eq_false_iff.mpr c37
        subst c37
        have H1 : (plumblaw05_RatLowest.j1 kj5 a1 a2 t381 t384 true a0_0 l0_1 l0_2 t387 t388 t391) = some r := by rw [if_neg (show ¬ (false = true) by decide)] at H; exact H
        clear H
        have H := H1
        clear H1
        have H' := Aside0.mk H
        clear H
        obtain ⟨Ao94, co94, eo94⟩ := Kd.R_slice HO400.out
        subst eo94
        obtain ⟨Ao95, co95, eo95⟩ := Kd.R_slice HO404.out
        subst eo95
        go_wp2_with (first | (go_at_call 15; (with_reducible refine (plumblaw05_same.calls kj5 _ _ t397 _ _ t401 false _ ?side1 ?side2 ?side3 ?side4 A36.out).mono ?_); (case side1 => exact dC (Kd.R_reads' HO400.out).2.2); (case side2 => exact (Kd.R_reads' HO400.out).2.1); (case side3 => exact dC (Kd.R_reads' HO404.out).2.2); (case side4 => exact (Kd.R_reads' HO404.out).2.1); rintro e w' ⟨rfl, ⟨nd, rfl⟩⟩))
        go_meet
        case rel => exact ⟨_, (true), dF, H', ⟨by have := HJ5.out; first | omega | exact Nat.le_refl _⟩, ⟨by (with_reducible repeat (first | apply Kd.R_alloc | apply Kd.R_drewN | apply Kd.R_drew)); exact Kd.R_mono HO_7.out (fun _ hk => ⟨hk.1.1.1.1, ⟨hk.1.1.1.2.1, hk.1.1.1.2.2⟩⟩)⟩, ⟨by (with_reducible repeat (first | apply Kd.R_alloc | apply Kd.R_drewN | apply Kd.R_drew)); exact Kd.R_mono HO_8.out (fun _ hk => ⟨hk.1.1.1.1, ⟨hk.1.1.1.2.1, hk.1.1.1.2.2⟩⟩)⟩, ⟨by (with_reducible repeat (first | apply Kd.R_alloc | apply Kd.R_drewN | apply Kd.R_drew)); exact Kd.R_mono HO_396001.out (fun _ hk => ⟨hk.1.1.1.1, ⟨hk.1.1.1.2.1, hk.1.1.1.2.2⟩⟩)⟩, ⟨by (with_reducible repeat (first | apply Kd.R_alloc | apply Kd.R_drewN | apply Kd.R_drew)); exact Kd.R_mono HO_396002.out (fun _ hk => ⟨hk.1.1.1.1, ⟨hk.1.1.1.2.1, hk.1.1.1.2.2⟩⟩)⟩, ⟨dK BK380.out⟩, ⟨dK BK395.out⟩, ⟨by repeat (first | (with_reducible first | exact HB.out | apply below_alloc | apply pw_below_drewN | apply below_drew1 | refine below_set ?_ GE380.out | refine below_set ?_ GE395.out) | exact HB.out)⟩⟩
      ·rw [if_neg c35] at H
       have c35b0 : (t402 == 0) = false := beq_eq_false_iff_ne.mpr c35
       have c35b1 : (t402 != 0) = true := bne_iff_ne.mpr c35
       have H' := Aside0.mk H
       clear H
       go_wp2
       go_meet
       case rel => exact ⟨_, (true), dF, H', ⟨by have := HJ5.out; first | omega | exact Nat.le_refl _⟩, ⟨by (with_reducible repeat (first | apply Kd.R_alloc | apply Kd.R_drewN | apply Kd.R_drew)); exact Kd.R_mono HO_7.out (fun _ hk => ⟨hk.1.1.1.1, ⟨hk.1.1.1.2.1, hk.1.1.1.2.2⟩⟩)⟩, ⟨by (with_reducible repeat (first | apply Kd.R_alloc | apply Kd.R_drewN | apply Kd.R_drew)); exact Kd.R_mono HO_8.out (fun _ hk => ⟨hk.1.1.1.1, ⟨hk.1.1.1.2.1, hk.1.1.1.2.2⟩⟩)⟩, ⟨by (with_reducible repeat (first | apply Kd.R_alloc | apply Kd.R_drewN | apply Kd.R_drew)); exact Kd.R_mono HO_396001.out (fun _ hk => ⟨hk.1.1.1.1, ⟨hk.1.1.1.2.1, hk.1.1.1.2.2⟩⟩)⟩, ⟨by (with_reducible repeat (first | apply Kd.R_alloc | apply Kd.R_drewN | apply Kd.R_drew)); exact Kd.R_mono HO_396002.out (fun _ hk => ⟨hk.1.1.1.1, ⟨hk.1.1.1.2.1, hk.1.1.1.2.2⟩⟩)⟩, ⟨dK BK380.out⟩, ⟨dK BK395.out⟩, ⟨by repeat (first | (with_reducible first | exact HB.out | apply below_alloc | apply pw_below_drewN | apply below_drew1 | refine below_set ?_ GE380.out | refine below_set ?_ GE395.out) | exact HB.out)⟩⟩
     ·rw [if_neg c34] at H
      have c34b0 : (t398 == 0) = false := beq_eq_false_iff_ne.mpr c34
      have c34b1 : (t398 != 0) = true := bne_iff_ne.mpr c34
      (first | rw [c34b0] | (simp only [i64_w, i32_w]; rw [c34b0]) | skip)
      have H' := Aside0.mk H
      clear H
      go_wp2
      go_meet
      case rel => exact ⟨_, (true), dF, H', ⟨by have := HJ5.out; first | omega | exact Nat.le_refl _⟩, ⟨by (with_reducible repeat (first | apply Kd.R_alloc | apply Kd.R_drewN | apply Kd.R_drew)); exact Kd.R_mono HO_7.out (fun _ hk => ⟨hk.1.1.1.1, ⟨hk.1.1.1.2.1, hk.1.1.1.2.2⟩⟩)⟩, ⟨by (with_reducible repeat (first | apply Kd.R_alloc | apply Kd.R_drewN | apply Kd.R_drew)); exact Kd.R_mono HO_8.out (fun _ hk => ⟨hk.1.1.1.1, ⟨hk.1.1.1.2.1, hk.1.1.1.2.2⟩⟩)⟩, ⟨by (with_reducible repeat (first | apply Kd.R_alloc | apply Kd.R_drewN | apply Kd.R_drew)); exact Kd.R_mono HO_396001.out (fun _ hk => ⟨hk.1.1.1.1, ⟨hk.1.1.1.2.1, hk.1.1.1.2.2⟩⟩)⟩, ⟨by (with_reducible repeat (first | apply Kd.R_alloc | apply Kd.R_drewN | apply Kd.R_drew)); exact Kd.R_mono HO_396002.out (fun _ hk => ⟨hk.1.1.1.1, ⟨hk.1.1.1.2.1, hk.1.1.1.2.2⟩⟩)⟩, ⟨dK BK380.out⟩, ⟨dK BK395.out⟩, ⟨by repeat (first | (with_reducible first | exact HB.out | apply below_alloc | apply pw_below_drewN | apply below_drew1 | refine below_set ?_ GE380.out | refine below_set ?_ GE395.out) | exact HB.out)⟩⟩
    case rest =>
     clear HC24
     try clear c20
     try clear hcz10_0
     try clear hcz10_1
     try clear hcz10_2
     try clear hcz14_0
     try clear hcz14_1
     try clear hcz14_2
     try clear hcz26_0
     try clear hcz26_1
     try clear hcz26_2
     try clear hcz29_0
     try clear hcz29_1
     try clear hcz29_2
     try clear hcz32_0
     try clear hcz32_1
     try clear hcz32_2
     try clear hcz8_0
     try clear hcz8_1
     try clear hcz8_2
     try clear hfz10_0
     try clear hfz10_1
     try clear hfz10_2
     try clear hfz14_0
     try clear hfz14_1
     try clear hfz14_2
     try clear hfz26_0
     try clear hfz26_1
     try clear hfz26_2
     try clear hfz29_0
     try clear hfz29_1
     try clear hfz29_2
     try clear hfz32_0
     try clear hfz32_1
     try clear hfz32_2
     try clear hfz8_0
     try clear hfz8_1
     try clear hfz8_2
     obtain ⟨kq, x98_23, rfl, HA, HJ23, HO_7, HO_8, HO_396001, HO_396002, BK380, BK395, HB⟩ := hcut
     cases kq with
     | zero => exact absurd HA.out (by simp [plumblaw05_RatLowest.j1])
     | succ kj23 =>
      have H := HA.out
      clear HA
      simp only [plumblaw05_RatLowest.j1] at H
      by_cases c96 : x98_23 = true
      ·subst c96
       have H1 : (none) = some r := by rw [if_pos rfl] at H; exact H
       clear H
       have H := H1
       clear H1
       exact absurd H (by simp)
      ·replace c96 := Bool.eq_false_iff.mpr c96
       subst c96
       have H1 : (if a1 = 0 then (plumblaw05_RatLowest.j2 kj23 1 a2 t381 t384 a0_0 l0_1 l0_2 t387 t388 t391) else (plumblaw05_RatLowest.j2 kj23 a1 a2 t381 t384 a0_0 l0_1 l0_2 t387 t388 t391)) = some r := by rw [if_neg (show ¬ (false = true) by decide)] at H; exact H
       clear H
       have H := H1
       clear H1
       have HC97 := Aside0.mk H
       clear H
       go_upto_if 100 with (fail)
       go_cut [1] (fun v1 wc => ∃ (kq : Nat) (x1_96 : Int), v1 = .int .u64 x1_96 ∧ Aside0 (plumblaw05_RatLowest.j2 kq x1_96 a2 t381 t384 a0_0 l0_1 l0_2 t387 t388 t391 = some r) ∧ Aside0 (kq ≤ kj23) ∧ Aside0 (Kd.R (Kd.int .u64) 25 wc w.heap.size (fun k_ => some k_ ≠ ((.slice Ao30 t384.length co30) : Value).ownBlock ∧ some k_ ≠ ((.slice Ao15 t388.length co15) : Value).ownBlock ∧ some k_ ≠ ((.slice Ao16 t391.length co16) : Value).ownBlock) (.slice Ao27 t381.length co27) t381) ∧ Aside0 (Kd.R (Kd.int .u64) 25 wc w.heap.size (fun k_ => some k_ ≠ ((.slice Ao27 t381.length co27) : Value).ownBlock ∧ some k_ ≠ ((.slice Ao15 t388.length co15) : Value).ownBlock ∧ some k_ ≠ ((.slice Ao16 t391.length co16) : Value).ownBlock) (.slice Ao30 t384.length co30) t384) ∧ Aside0 (Kd.R (Kd.int .u64) 25 wc w.heap.size (fun k_ => some k_ ≠ ((.slice Ao27 t381.length co27) : Value).ownBlock ∧ some k_ ≠ ((.slice Ao30 t384.length co30) : Value).ownBlock ∧ some k_ ≠ ((.slice Ao16 t391.length co16) : Value).ownBlock) (.slice Ao15 t388.length co15) t388) ∧ Aside0 (Kd.R (Kd.int .u64) 25 wc w.heap.size (fun k_ => some k_ ≠ ((.slice Ao27 t381.length co27) : Value).ownBlock ∧ some k_ ≠ ((.slice Ao30 t384.length co30) : Value).ownBlock ∧ some k_ ≠ ((.slice Ao15 t388.length co15) : Value).ownBlock) (.slice Ao16 t391.length co16) t391) ∧ Aside0 (wc.heap[gb380]? = some (.cells #[.bool a0_0, (.slice A0_1 l0_1.length c0_1), (.slice A0_2 l0_2.length c0_2)] 24 (0, 0))) ∧ Aside0 (wc.heap[gb395]? = some (.cells #[.bool t387, (.slice Ao15 t388.length co15), (.slice Ao16 t391.length co16)] 28 (0, 0))) ∧ Aside0 (Below w.heap.size w wc))
       case first =>
        have H := HC97.out
        clear HC97
        by_cases c98 : a1 = 0
        ·rw [if_pos c98] at H
         have c98b0 : (a1 == 0) = true := beq_iff_eq.mpr c98
         have c98b1 : (a1 != 0) = false := bne_eq_false_iff_eq.mpr c98
         clear c98
         (first | rw [c98b0] | (simp only [i64_w, i32_w]; rw [c98b0]) | skip)
         have H' := Aside0.mk H
         clear H
         go_wp2
         go_meet
         case rel => exact ⟨_, (1), dF, H', ⟨by have := HJ5.out; have := HJ23.out; first | omega | exact Nat.le_refl _⟩, ⟨dR HO_7.out⟩, ⟨dR HO_8.out⟩, ⟨dR HO_396001.out⟩, ⟨dR HO_396002.out⟩, ⟨dK BK380.out⟩, ⟨dK BK395.out⟩, ⟨by repeat (first | (with_reducible first | exact HB.out | apply below_alloc | apply pw_below_drewN | apply below_drew1 | refine below_set ?_ GE380.out | refine below_set ?_ GE395.out) | exact HB.out)⟩⟩
        ·rw [if_neg c98] at H
         have c98b0 : (a1 == 0) = false := beq_eq_false_iff_ne.mpr c98
         have c98b1 : (a1 != 0) = true := bne_iff_ne.mpr c98
         (first | rw [c98b0] | (simp only [i64_w, i32_w]; rw [c98b0]) | skip)
         have H' := Aside0.mk H
         clear H
         go_wp2
         go_meet
         case rel => exact ⟨_, (a1), dF, H', ⟨by have := HJ5.out; have := HJ23.out; first | omega | exact Nat.le_refl _⟩, ⟨dR HO_7.out⟩, ⟨dR HO_8.out⟩, ⟨dR HO_396001.out⟩, ⟨dR HO_396002.out⟩, ⟨dK BK380.out⟩, ⟨dK BK395.out⟩, ⟨by repeat (first | (with_reducible first | exact HB.out | apply below_alloc | apply pw_below_drewN | apply below_drew1 | refine below_set ?_ GE380.out | refine below_set ?_ GE395.out) | exact HB.out)⟩⟩
       case rest =>
        clear HC97
        try clear c20
        try clear c96
        try clear hcz10_0
        try clear hcz10_1
        try clear hcz10_2
        try clear hcz14_0
        try clear hcz14_1
        try clear hcz14_2
        try clear hcz26_0
        try clear hcz26_1
        try clear hcz26_2
        try clear hcz29_0
        try clear hcz29_1
        try clear hcz29_2
        try clear hcz32_0
        try clear hcz32_1
        try clear hcz32_2
        try clear hcz8_0
        try clear hcz8_1
        try clear hcz8_2
        try clear hfz10_0
        try clear hfz10_1
        try clear hfz10_2
        try clear hfz14_0
        try clear hfz14_1
        try clear hfz14_2
        try clear hfz26_0
        try clear hfz26_1
        try clear hfz26_2
        try clear hfz29_0
        try clear hfz29_1
        try clear hfz29_2
        try clear hfz32_0
        try clear hfz32_1
        try clear hfz32_2
        try clear hfz8_0
        try clear hfz8_1
        try clear hfz8_2
        obtain ⟨kq, x1_96, rfl, HA, HJ96, HO_7, HO_8, HO_396001, HO_396002, BK380, BK395, HB⟩ := hcut
        cases kq with
        | zero => exact absurd HA.out (by simp [plumblaw05_RatLowest.j2])
        | succ kj96 =>
         have H := HA.out
         clear HA
         simp only [plumblaw05_RatLowest.j2] at H
         obtain ⟨y413, hy413⟩ : ∃ y_ : List Int, y_ = (([x1_96] : List Int)) := ⟨_, rfl⟩
         replace H : ((nat_Mul.f kj96 t381 y413).bind fun bt416 => ((nat_Mul.f kj96 t384 (([x1_96, 0] : List Int))).bind fun bt423 => ((rat_New.f kj96 a0_0 bt416.1 bt423.1).bind fun bt427 => (if a2 < 0 then (plumblaw05_RatLowest.j3 kj96 a2 bt416.2 bt423.2 bt427.2.2.2 (IntKind.u64.wrap (-(IntKind.u64.wrap (a2)))) t387 t388 t391 bt427.1 bt427.2.1 bt427.2.2.1) else (plumblaw05_RatLowest.j3 kj96 a2 bt416.2 bt423.2 bt427.2.2.2 (IntKind.u64.wrap (a2)) t387 t388 t391 bt427.1 bt427.2.1 bt427.2.2.1))))) = some r := by first | (rw [hy413]; with_reducible exact H) | (have H2_ := (Option.bind_some _ _).symm.trans H; rw [hy413]; with_reducible exact H2_) | (have H2_ := (Option.bind_some _ _).symm.trans H; with_reducible exact H2_) | with_reducible exact H | (rw [hy413]; exact H) | exact H
         have Ny413 := Aside0.mk hy413
         clear hy413
         replace H := obe H
         obtain ⟨⟨t416, t417⟩, A990, H⟩ := H
         (try dsimp only at H)
         have A99 := Aside0.mk A990
         clear A990
         obtain ⟨y420, hy420⟩ : ∃ y_ : List Int, y_ = (([x1_96, 0] : List Int)) := ⟨_, rfl⟩
         replace H : ((nat_Mul.f kj96 t384 y420).bind fun bt423 => ((rat_New.f kj96 a0_0 t416 bt423.1).bind fun bt427 => (if a2 < 0 then (plumblaw05_RatLowest.j3 kj96 a2 t417 bt423.2 bt427.2.2.2 (IntKind.u64.wrap (-(IntKind.u64.wrap (a2)))) t387 t388 t391 bt427.1 bt427.2.1 bt427.2.2.1) else (plumblaw05_RatLowest.j3 kj96 a2 t417 bt423.2 bt427.2.2.2 (IntKind.u64.wrap (a2)) t387 t388 t391 bt427.1 bt427.2.1 bt427.2.2.1)))) = some r := by first | (rw [hy420]; with_reducible exact H) | (have H2_ := (Option.bind_some _ _).symm.trans H; rw [hy420]; with_reducible exact H2_) | (have H2_ := (Option.bind_some _ _).symm.trans H; with_reducible exact H2_) | with_reducible exact H | (rw [hy420]; exact H) | exact H
         have Ny420 := Aside0.mk hy420
         clear hy420
         replace H := obe H
         obtain ⟨⟨t423, t424⟩, A1000, H⟩ := H
         (try dsimp only at H)
         have A100 := Aside0.mk A1000
         clear A1000
         replace H := obe H
         obtain ⟨⟨t427, t428, t431, t434⟩, A1010, H⟩ := H
         (try dsimp only at H)
         have A101 := Aside0.mk A1010
         clear A1010
         have HC102 := Aside0.mk H
         clear H
         go_upto_if 126 with (first | ((with_reducible refine gate_dst (N := 104) rfl ?_); (try (refine gate_guard (by rfl) ?_; dsimp only)); refine Kd.R_lit (Kd.int .u64) _ 25 ?hg (N := 104) ?hd (xs := ([x1_96] : List Int)) (inner := [.int .u64 x1_96]) (ok := fun _ => True) (okp := fun _ => True) ?hr ?hp (fun _ hk => hk) trivial (Below.refl _ _) (Nat.le_refl _) (by simp) ?_; (case hd => rfl); (case hg => rfl); (case hr => first | (go_simp; done) | (go_simp; rfl)); (case hp => exact (Reps.one (show Kd.M (Kd.int .u64) _ _ _ x1_96 [.int .u64 x1_96] from rfl) (Reps.none _ _))); intro v414 w103 ho104 hb hg_ hnew_; clear hg_ hnew_; (first | rw [← Ny413.out] at ho104 | (simp only [Int.reduceToNat] at ho104; rw [← Ny413.out] at ho104)); have HO415 := Aside0.mk (Kd.R_lower (Kd.R_new' (Kd.R_new' (Kd.R_new' (Kd.R_new' ho104 (Kd.R_lt (dR HO_7.out))) (Kd.R_lt (dR HO_8.out))) (Kd.R_lt (dR HO_396001.out))) (Kd.R_lt (dR HO_396002.out))) (below_size (by repeat (first | (with_reducible first | exact HB.out | apply below_alloc | apply pw_below_drewN | apply below_drew1 | refine below_set ?_ GE380.out | refine below_set ?_ GE395.out) | exact HB.out)))); replace HO_7 := Aside0.mk (Kd.R_elder' (dR HO_7.out) (Kd.R_base ho104) hb); replace HO_8 := Aside0.mk (Kd.R_elder' (dR HO_8.out) (Kd.R_base ho104) hb); replace HO_396001 := Aside0.mk (Kd.R_elder' (dR HO_396001.out) (Kd.R_base ho104) hb); replace HO_396002 := Aside0.mk (Kd.R_elder' (dR HO_396002.out) (Kd.R_base ho104) hb); replace BK380 := Aside0.mk (blk_below (g := gb380) (o := .cells #[.bool a0_0, .slice A0_1 l0_1.length c0_1, .slice A0_2 l0_2.length c0_2] 24 (0, 0)) (dK BK380.out) hb); replace BK395 := Aside0.mk (blk_below (g := gb395) (o := .cells #[.bool t387, .slice Ao15 t388.length co15, .slice Ao16 t391.length co16] 28 (0, 0)) (dK BK395.out) hb); replace HB := Aside0.mk (below_step (by repeat (first | (with_reducible first | exact HB.out | apply below_alloc | apply pw_below_drewN | apply below_drew1 | refine below_set ?_ GE380.out | refine below_set ?_ GE395.out) | exact HB.out)) hb); clear hb ho104; obtain ⟨Ao105, co105, eo105⟩ := Kd.R_slice HO415.out; subst eo105) | ((with_reducible refine gate_callee (f := 13) rfl ?_); refine gL (some 105) Try.func13 #[.slice Ao27 t381.length co27, .slice Ao105 y413.length co105] ?_; (with_reducible refine (nat_Mul.calls kj96 _ _ t381 _ _ y413 t416 t417 _ ?side1 ?side2 ?side3 ?side4 A99.out).mono ?_); (case side1 => exact dC (Kd.R_reads' HO_7.out).2.2); (case side2 => exact (Kd.R_reads' HO_7.out).2.1); (case side3 => exact dC (Kd.R_reads' HO415.out).2.2); (case side4 => exact (Kd.R_reads' HO415.out).2.1); rintro e w106 ⟨v418, rfl, ho0, hb⟩; refine ⟨_, rfl, ?_⟩; have HO419 := Aside0.mk (Kd.R_lower (Kd.R_new' (Kd.R_new' (Kd.R_new' (Kd.R_new' (Kd.R_new' ho0 (Kd.R_lt (dR HO_7.out))) (Kd.R_lt (dR HO_8.out))) (Kd.R_lt (dR HO_396001.out))) (Kd.R_lt (dR HO_396002.out))) (Kd.R_lt (dR HO415.out))) (below_size (by repeat (first | (with_reducible first | exact HB.out | apply below_alloc | apply pw_below_drewN | apply below_drew1 | refine below_set ?_ GE380.out | refine below_set ?_ GE395.out) | exact HB.out)))); replace HO_7 := Aside0.mk (Kd.R_elder' (dR HO_7.out) (Kd.R_base ho0) hb); replace HO_8 := Aside0.mk (Kd.R_elder' (dR HO_8.out) (Kd.R_base ho0) hb); replace HO_396001 := Aside0.mk (Kd.R_elder' (dR HO_396001.out) (Kd.R_base ho0) hb); replace HO_396002 := Aside0.mk (Kd.R_elder' (dR HO_396002.out) (Kd.R_base ho0) hb); replace HO415 := Aside0.mk (Kd.R_elder' (dR HO415.out) (Kd.R_base ho0) hb); replace BK380 := Aside0.mk (blk_below (g := gb380) (o := .cells #[.bool a0_0, .slice A0_1 l0_1.length c0_1, .slice A0_2 l0_2.length c0_2] 24 (0, 0)) (dK BK380.out) hb); replace BK395 := Aside0.mk (blk_below (g := gb395) (o := .cells #[.bool t387, .slice Ao15 t388.length co15, .slice Ao16 t391.length co16] 28 (0, 0)) (dK BK395.out) hb); replace HB := Aside0.mk (below_step (by repeat (first | (with_reducible first | exact HB.out | apply below_alloc | apply pw_below_drewN | apply below_drew1 | refine below_set ?_ GE380.out | refine below_set ?_ GE395.out) | exact HB.out)) hb); (try clear hb); (try clear ho0)) | ((with_reducible refine gate_dst (N := 111) rfl ?_); (try (refine gate_guard (by rfl) ?_; dsimp only)); refine Kd.R_lit (Kd.int .u64) _ 25 ?hg (N := 111) ?hd (xs := ([x1_96, 0] : List Int)) (inner := [.int .u64 x1_96, .int .u64 0]) (ok := fun _ => True) (okp := fun _ => True) ?hr ?hp (fun _ hk => hk) trivial (Below.refl _ _) (Nat.le_refl _) (by simp) ?_; (case hd => rfl); (case hg => rfl); (case hr => first | (go_simp; done) | (go_simp; rfl)); (case hp => exact (Reps.one (show Kd.M (Kd.int .u64) _ _ _ x1_96 [.int .u64 x1_96] from rfl) (Reps.one (show Kd.M (Kd.int .u64) _ _ _ 0 [.int .u64 0] from rfl) (Reps.none _ _)))); intro v421 w107 ho108 hb hg_ hnew_; clear hg_ hnew_; (first | rw [← Ny420.out] at ho108 | (simp only [Int.reduceToNat] at ho108; rw [← Ny420.out] at ho108)); have HO422 := Aside0.mk (Kd.R_lower (Kd.R_new' (Kd.R_new' (Kd.R_new' (Kd.R_new' (Kd.R_new' (Kd.R_new' ho108 (Kd.R_lt (dR HO_7.out))) (Kd.R_lt (dR HO_8.out))) (Kd.R_lt (dR HO_396001.out))) (Kd.R_lt (dR HO_396002.out))) (Kd.R_lt (dR HO415.out))) (Kd.R_lt (dR HO419.out))) (below_size (by repeat (first | (with_reducible first | exact HB.out | apply below_alloc | apply pw_below_drewN | apply below_drew1 | refine below_set ?_ GE380.out | refine below_set ?_ GE395.out) | exact HB.out)))); replace HO_7 := Aside0.mk (Kd.R_elder' (dR HO_7.out) (Kd.R_base ho108) hb); replace HO_8 := Aside0.mk (Kd.R_elder' (dR HO_8.out) (Kd.R_base ho108) hb); replace HO_396001 := Aside0.mk (Kd.R_elder' (dR HO_396001.out) (Kd.R_base ho108) hb); replace HO_396002 := Aside0.mk (Kd.R_elder' (dR HO_396002.out) (Kd.R_base ho108) hb); replace HO415 := Aside0.mk (Kd.R_elder' (dR HO415.out) (Kd.R_base ho108) hb); replace HO419 := Aside0.mk (Kd.R_elder' (dR HO419.out) (Kd.R_base ho108) hb); replace BK380 := Aside0.mk (blk_below (g := gb380) (o := .cells #[.bool a0_0, .slice A0_1 l0_1.length c0_1, .slice A0_2 l0_2.length c0_2] 24 (0, 0)) (dK BK380.out) hb); replace BK395 := Aside0.mk (blk_below (g := gb395) (o := .cells #[.bool t387, .slice Ao15 t388.length co15, .slice Ao16 t391.length co16] 28 (0, 0)) (dK BK395.out) hb); replace HB := Aside0.mk (below_step (by repeat (first | (with_reducible first | exact HB.out | apply below_alloc | apply pw_below_drewN | apply below_drew1 | refine below_set ?_ GE380.out | refine below_set ?_ GE395.out) | exact HB.out)) hb); clear hb ho108; obtain ⟨Ao109, co109, eo109⟩ := Kd.R_slice HO422.out; subst eo109) | ((with_reducible refine gate_callee (f := 13) rfl ?_); refine gL (some 112) Try.func13 #[.slice Ao30 t384.length co30, .slice Ao109 y420.length co109] ?_; (with_reducible refine (nat_Mul.calls kj96 _ _ t384 _ _ y420 t423 t424 _ ?side1 ?side2 ?side3 ?side4 A100.out).mono ?_); (case side1 => exact dC (Kd.R_reads' HO_8.out).2.2); (case side2 => exact (Kd.R_reads' HO_8.out).2.1); (case side3 => exact dC (Kd.R_reads' HO422.out).2.2); (case side4 => exact (Kd.R_reads' HO422.out).2.1); rintro e w110 ⟨v425, rfl, ho0, hb⟩; refine ⟨_, rfl, ?_⟩; have HO426 := Aside0.mk (Kd.R_lower (Kd.R_new' (Kd.R_new' (Kd.R_new' (Kd.R_new' (Kd.R_new' (Kd.R_new' (Kd.R_new' ho0 (Kd.R_lt (dR HO_7.out))) (Kd.R_lt (dR HO_8.out))) (Kd.R_lt (dR HO_396001.out))) (Kd.R_lt (dR HO_396002.out))) (Kd.R_lt (dR HO415.out))) (Kd.R_lt (dR HO419.out))) (Kd.R_lt (dR HO422.out))) (below_size (by repeat (first | (with_reducible first | exact HB.out | apply below_alloc | apply pw_below_drewN | apply below_drew1 | refine below_set ?_ GE380.out | refine below_set ?_ GE395.out) | exact HB.out)))); replace HO_7 := Aside0.mk (Kd.R_elder' (dR HO_7.out) (Kd.R_base ho0) hb); replace HO_8 := Aside0.mk (Kd.R_elder' (dR HO_8.out) (Kd.R_base ho0) hb); replace HO_396001 := Aside0.mk (Kd.R_elder' (dR HO_396001.out) (Kd.R_base ho0) hb); replace HO_396002 := Aside0.mk (Kd.R_elder' (dR HO_396002.out) (Kd.R_base ho0) hb); replace HO415 := Aside0.mk (Kd.R_elder' (dR HO415.out) (Kd.R_base ho0) hb); replace HO419 := Aside0.mk (Kd.R_elder' (dR HO419.out) (Kd.R_base ho0) hb); replace HO422 := Aside0.mk (Kd.R_elder' (dR HO422.out) (Kd.R_base ho0) hb); replace BK380 := Aside0.mk (blk_below (g := gb380) (o := .cells #[.bool a0_0, .slice A0_1 l0_1.length c0_1, .slice A0_2 l0_2.length c0_2] 24 (0, 0)) (dK BK380.out) hb); replace BK395 := Aside0.mk (blk_below (g := gb395) (o := .cells #[.bool t387, .slice Ao15 t388.length co15, .slice Ao16 t391.length co16] 28 (0, 0)) (dK BK395.out) hb); replace HB := Aside0.mk (below_step (by repeat (first | (with_reducible first | exact HB.out | apply below_alloc | apply pw_below_drewN | apply below_drew1 | refine below_set ?_ GE380.out | refine below_set ?_ GE395.out) | exact HB.out)) hb); (try clear hb); (try clear ho0); have hnb111 := NB380_395.out; have hnc111 := NB395_380.out; obtain ⟨hcz112_0, hcz112_1, hcz112_2⟩ := cz3 BK380.out; obtain ⟨hfz112_0, hfz112_1, hfz112_2⟩ := fz3 BK380.out; obtain ⟨Ao113, co113, eo113⟩ := Kd.R_slice HO419.out; subst eo113; obtain ⟨Ao114, co114, eo114⟩ := Kd.R_slice HO426.out; subst eo114) | ((with_reducible refine gate_callee (f := 16) rfl ?_); refine gL (some 120) Try.func16 #[.bool a0_0, .slice Ao113 t416.length co113, .slice Ao114 t423.length co114] ?_; (with_reducible refine (rat_New.calls kj96 a0_0 _ _ t416 _ _ t423 t427 t428 t431 t434 _ ?side1 ?side2 ?side3 ?side4 A101.out).mono ?_); (case side1 => exact dC (Kd.R_reads' HO419.out).2.2); (case side2 => exact (Kd.R_reads' HO419.out).2.1); (case side3 => exact dC (Kd.R_reads' HO426.out).2.2); (case side4 => exact (Kd.R_reads' HO426.out).2.1); rintro e w115 ⟨v429, v432, rfl, ho0, ho1, hb⟩; refine ⟨_, rfl, ?_⟩; have HO430 := Aside0.mk (Kd.R_lower (Kd.R_new' (Kd.R_new' (Kd.R_new' (Kd.R_new' (Kd.R_new' (Kd.R_new' (Kd.R_new' (Kd.R_new' ho0 (Kd.R_lt (dR HO_7.out))) (Kd.R_lt (dR HO_8.out))) (Kd.R_lt (dR HO_396001.out))) (Kd.R_lt (dR HO_396002.out))) (Kd.R_lt (dR HO415.out))) (Kd.R_lt (dR HO419.out))) (Kd.R_lt (dR HO422.out))) (Kd.R_lt (dR HO426.out))) (below_size (by repeat (first | (with_reducible first | exact HB.out | apply below_alloc | apply pw_below_drewN | apply below_drew1 | refine below_set ?_ GE380.out | refine below_set ?_ GE395.out) | exact HB.out)))); have HO433 := Aside0.mk (Kd.R_lower (Kd.R_new' (Kd.R_new' (Kd.R_new' (Kd.R_new' (Kd.R_new' (Kd.R_new' (Kd.R_new' (Kd.R_new' ho1 (Kd.R_lt (dR HO_7.out))) (Kd.R_lt (dR HO_8.out))) (Kd.R_lt (dR HO_396001.out))) (Kd.R_lt (dR HO_396002.out))) (Kd.R_lt (dR HO415.out))) (Kd.R_lt (dR HO419.out))) (Kd.R_lt (dR HO422.out))) (Kd.R_lt (dR HO426.out))) (below_size (by repeat (first | (with_reducible first | exact HB.out | apply below_alloc | apply pw_below_drewN | apply below_drew1 | refine below_set ?_ GE380.out | refine below_set ?_ GE395.out) | exact HB.out)))); replace HO_7 := Aside0.mk (Kd.R_mono (Kd.R_told (Kd.R_told (Kd.R_old (dR HO_7.out) hb) (Kd.R_base ho0)) (Kd.R_base ho1)) (fun _ h_ => h_.1)); replace HO_8 := Aside0.mk (Kd.R_mono (Kd.R_told (Kd.R_told (Kd.R_old (dR HO_8.out) hb) (Kd.R_base ho0)) (Kd.R_base ho1)) (fun _ h_ => h_.1)); replace HO_396001 := Aside0.mk (Kd.R_mono (Kd.R_told (Kd.R_told (Kd.R_old (dR HO_396001.out) hb) (Kd.R_base ho0)) (Kd.R_base ho1)) (fun _ h_ => h_.1)); replace HO_396002 := Aside0.mk (Kd.R_mono (Kd.R_told (Kd.R_told (Kd.R_old (dR HO_396002.out) hb) (Kd.R_base ho0)) (Kd.R_base ho1)) (fun _ h_ => h_.1)); replace HO415 := Aside0.mk (Kd.R_mono (Kd.R_told (Kd.R_told (Kd.R_old (dR HO415.out) hb) (Kd.R_base ho0)) (Kd.R_base ho1)) (fun _ h_ => h_.1)); replace HO419 := Aside0.mk (Kd.R_mono (Kd.R_told (Kd.R_told (Kd.R_old (dR HO419.out) hb) (Kd.R_base ho0)) (Kd.R_base ho1)) (fun _ h_ => h_.1)); replace HO422 := Aside0.mk (Kd.R_mono (Kd.R_told (Kd.R_told (Kd.R_old (dR HO422.out) hb) (Kd.R_base ho0)) (Kd.R_base ho1)) (fun _ h_ => h_.1)); replace HO426 := Aside0.mk (Kd.R_mono (Kd.R_told (Kd.R_told (Kd.R_old (dR HO426.out) hb) (Kd.R_base ho0)) (Kd.R_base ho1)) (fun _ h_ => h_.1)); replace BK380 := Aside0.mk (blk_below (g := gb380) (o := .cells #[.bool a0_0, .slice A0_1 l0_1.length c0_1, .slice A0_2 l0_2.length c0_2] 24 (0, 0)) (dK BK380.out) hb); replace BK395 := Aside0.mk (blk_below (g := gb395) (o := .cells #[.bool t387, .slice Ao15 t388.length co15, .slice Ao16 t391.length co16] 28 (0, 0)) (dK BK395.out) hb); replace HB := Aside0.mk (below_step (by repeat (first | (with_reducible first | exact HB.out | apply below_alloc | apply pw_below_drewN | apply below_drew1 | refine below_set ?_ GE380.out | refine below_set ?_ GE395.out) | exact HB.out)) hb); (try clear hb); (try clear ho0); (try clear ho1)) | ((with_reducible refine gate_dst (N := 18) rfl ?_); (try (refine gate_guard (by rfl) ?_; dsimp only)); refine box_event ?hg (N := 18) ?hd (cs := #[.bool false, .slice none 0 0, .slice none 0 0]) (t := 28) ?hr ?_; (case hd => rfl); (case hg => rfl); (case hr => first | (go_simp; done) | (go_simp; rfl)); intro gb435 hg w116 hbox hb; replace HO_7 := Aside0.mk (Kd.R_below (dR HO_7.out) hb); replace HO_8 := Aside0.mk (Kd.R_below (dR HO_8.out) hb); replace HO_396001 := Aside0.mk (Kd.R_below (dR HO_396001.out) hb); replace HO_396002 := Aside0.mk (Kd.R_below (dR HO_396002.out) hb); replace HO415 := Aside0.mk (Kd.R_below (dR HO415.out) hb); replace HO419 := Aside0.mk (Kd.R_below (dR HO419.out) hb); replace HO422 := Aside0.mk (Kd.R_below (dR HO422.out) hb); replace HO426 := Aside0.mk (Kd.R_below (dR HO426.out) hb); replace HO430 := Aside0.mk (Kd.R_below (dR HO430.out) hb); replace HO433 := Aside0.mk (Kd.R_below (dR HO433.out) hb); have BK435 := Aside0.mk (hbox); have GW435 := Aside0.mk ((by rw [hg]; exact (below_size (by repeat (first | (with_reducible first | exact HB.out | apply below_alloc | apply pw_below_drewN | apply below_drew1 | refine below_set ?_ GE380.out | refine below_set ?_ GE395.out) | exact HB.out))) : w.heap.size ≤ gb435)); have GE435 := Aside0.mk ((by rw [hg]; exact (below_size (by repeat (first | (with_reducible first | exact HB.out | apply below_alloc | apply pw_below_drewN | apply below_drew1 | refine below_set ?_ GE380.out | refine below_set ?_ GE395.out) | exact HB.out))) : w.heap.size ≤ gb435)); replace HB := Aside0.mk (below_step (by repeat (first | (with_reducible first | exact HB.out | apply below_alloc | apply pw_below_drewN | apply below_drew1 | refine below_set ?_ GE380.out | refine below_set ?_ GE395.out) | exact HB.out)) hb); have NB380_435 := Aside0.mk ((by rw [hg]; exact Nat.ne_of_lt (blk_lt (g := gb380) (o := .cells #[.bool a0_0, .slice A0_1 l0_1.length c0_1, .slice A0_2 l0_2.length c0_2] 24 (0, 0)) (dK BK380.out)) : gb380 ≠ gb435)); have NB435_380 := Aside0.mk ((by rw [hg]; exact Nat.ne_of_gt (blk_lt (g := gb380) (o := .cells #[.bool a0_0, .slice A0_1 l0_1.length c0_1, .slice A0_2 l0_2.length c0_2] 24 (0, 0)) (dK BK380.out)) : gb435 ≠ gb380)); replace BK380 := Aside0.mk (blk_below (g := gb380) (o := .cells #[.bool a0_0, .slice A0_1 l0_1.length c0_1, .slice A0_2 l0_2.length c0_2] 24 (0, 0)) (dK BK380.out) hb); have NB395_435 := Aside0.mk ((by rw [hg]; exact Nat.ne_of_lt (blk_lt (g := gb395) (o := .cells #[.bool t387, .slice Ao15 t388.length co15, .slice Ao16 t391.length co16] 28 (0, 0)) (dK BK395.out)) : gb395 ≠ gb435)); have NB435_395 := Aside0.mk ((by rw [hg]; exact Nat.ne_of_gt (blk_lt (g := gb395) (o := .cells #[.bool t387, .slice Ao15 t388.length co15, .slice Ao16 t391.length co16] 28 (0, 0)) (dK BK395.out)) : gb435 ≠ gb395)); replace BK395 := Aside0.mk (blk_below (g := gb395) (o := .cells #[.bool t387, .slice Ao15 t388.length co15, .slice Ao16 t391.length co16] 28 (0, 0)) (dK BK395.out) hb); clear hb hbox hg; have hnb117 := NB435_380.out; have hnc117 := NB380_435.out; have hnb118 := NB435_395.out; have hnc118 := NB395_435.out; obtain ⟨hcz119_0, hcz119_1, hcz119_2⟩ := cz3 BK435.out; obtain ⟨hfz119_0, hfz119_1, hfz119_2⟩ := fz3 BK435.out; obtain ⟨Ao120, co120, eo120⟩ := Kd.R_slice HO430.out; subst eo120; obtain ⟨Ao121, co121, eo121⟩ := Kd.R_slice HO433.out; subst eo121))
         (try simp only [Act.put, List.setIfInBounds_toArray, List.set_cons_zero, List.set_cons_succ])
         go_cut [20] (fun v20 wc => ∃ (kq : Nat) (x20_101 : Int), v20 = .int .u64 x20_101 ∧ Aside0 (plumblaw05_RatLowest.j3 kq a2 t417 t424 t434 x20_101 t387 t388 t391 t427 t428 t431 = some r) ∧ Aside0 (kq ≤ kj96) ∧ Aside0 (Kd.R (Kd.int .u64) 25 wc w.heap.size (fun k_ => some k_ ≠ ((.slice Ao16 t391.length co16) : Value).ownBlock ∧ some k_ ≠ ((.slice Ao120 t428.length co120) : Value).ownBlock ∧ some k_ ≠ ((.slice Ao121 t431.length co121) : Value).ownBlock) (.slice Ao15 t388.length co15) t388) ∧ Aside0 (Kd.R (Kd.int .u64) 25 wc w.heap.size (fun k_ => some k_ ≠ ((.slice Ao15 t388.length co15) : Value).ownBlock ∧ some k_ ≠ ((.slice Ao120 t428.length co120) : Value).ownBlock ∧ some k_ ≠ ((.slice Ao121 t431.length co121) : Value).ownBlock) (.slice Ao16 t391.length co16) t391) ∧ Aside0 (Kd.R (Kd.int .u64) 25 wc w.heap.size (fun k_ => some k_ ≠ ((.slice Ao15 t388.length co15) : Value).ownBlock ∧ some k_ ≠ ((.slice Ao16 t391.length co16) : Value).ownBlock ∧ some k_ ≠ ((.slice Ao121 t431.length co121) : Value).ownBlock) (.slice Ao120 t428.length co120) t428) ∧ Aside0 (Kd.R (Kd.int .u64) 25 wc w.heap.size (fun k_ => some k_ ≠ ((.slice Ao15 t388.length co15) : Value).ownBlock ∧ some k_ ≠ ((.slice Ao16 t391.length co16) : Value).ownBlock ∧ some k_ ≠ ((.slice Ao120 t428.length co120) : Value).ownBlock) (.slice Ao121 t431.length co121) t431) ∧ Aside0 (wc.heap[gb380]? = some (.cells #[.bool a0_0, (.slice A0_1 l0_1.length c0_1), (.slice A0_2 l0_2.length c0_2)] 24 (0, 0))) ∧ Aside0 (wc.heap[gb395]? = some (.cells #[.bool t387, (.slice Ao15 t388.length co15), (.slice Ao16 t391.length co16)] 28 (0, 0))) ∧ Aside0 (wc.heap[gb435]? = some (.cells #[.bool t427, (.slice Ao120 t428.length co120), (.slice Ao121 t431.length co121)] 28 (0, 0))) ∧ Aside0 (Below w.heap.size w wc))
         case first =>
          have H := HC102.out
          clear HC102
          by_cases c122 : a2 < 0
          ·rw [if_pos c122] at H
           have c122b0 : decide (a2 < 0) = true := decide_eq_true c122
           clear c122
           (first | rw [c122b0] | (simp only [i64_w, i32_w]; rw [c122b0]) | skip)
           have H' := Aside0.mk H
           clear H
           go_wp2
           go_meet
           case rel => exact ⟨_, (IntKind.u64.wrap (-(IntKind.u64.wrap (a2)))), dF, H', ⟨by have := HJ5.out; have := HJ23.out; have := HJ96.out; first | omega | exact Nat.le_refl _⟩, ⟨by (with_reducible repeat (first | apply Kd.R_alloc | apply Kd.R_drewN | apply Kd.R_drew)); exact Kd.R_mono (Kd.R_far (p := ⟨gb435, 2, none⟩) (Kd.R_far (p := ⟨gb435, 1, none⟩) (Kd.R_far (p := ⟨gb435, 0, none⟩) (Kd.R_types HO_396001.out BK435.out (by decide)) (fun _ hk => hk.2) (.bool t427)) (fun _ hk => hk.2) (.slice Ao120 t428.length co120)) (fun _ hk => hk.2) (.slice Ao121 t431.length co121)) (fun _ hk => ⟨hk.1.1.1.1.1.1.1.2.2, ⟨hk.1.1.2, hk.1.2⟩⟩)⟩, ⟨by (with_reducible repeat (first | apply Kd.R_alloc | apply Kd.R_drewN | apply Kd.R_drew)); exact Kd.R_mono (Kd.R_far (p := ⟨gb435, 2, none⟩) (Kd.R_far (p := ⟨gb435, 1, none⟩) (Kd.R_far (p := ⟨gb435, 0, none⟩) (Kd.R_types HO_396002.out BK435.out (by decide)) (fun _ hk => hk.2) (.bool t427)) (fun _ hk => hk.2) (.slice Ao120 t428.length co120)) (fun _ hk => hk.2) (.slice Ao121 t431.length co121)) (fun _ hk => ⟨hk.1.1.1.1.1.1.1.2.2, ⟨hk.1.1.2, hk.1.2⟩⟩)⟩, ⟨by (with_reducible repeat (first | apply Kd.R_alloc | apply Kd.R_drewN | apply Kd.R_drew)); exact Kd.R_mono (Kd.R_far (p := ⟨gb435, 2, none⟩) (Kd.R_far (p := ⟨gb435, 1, none⟩) (Kd.R_far (p := ⟨gb435, 0, none⟩) (Kd.R_types HO430.out BK435.out (by decide)) (fun _ hk => hk.2) (.bool t427)) (fun _ hk => hk.2) (.slice Ao120 t428.length co120)) (fun _ hk => hk.2) (.slice Ao121 t431.length co121)) (fun _ hk => ⟨hk.1.1.1.1.1.1.2, ⟨hk.1.1.1.1.1.2, hk.1.1.1.1.1.1.1.1.1⟩⟩)⟩, ⟨by (with_reducible repeat (first | apply Kd.R_alloc | apply Kd.R_drewN | apply Kd.R_drew)); exact Kd.R_mono (Kd.R_far (p := ⟨gb435, 2, none⟩) (Kd.R_far (p := ⟨gb435, 1, none⟩) (Kd.R_far (p := ⟨gb435, 0, none⟩) (Kd.R_types HO433.out BK435.out (by decide)) (fun _ hk => hk.2) (.bool t427)) (fun _ hk => hk.2) (.slice Ao120 t428.length co120)) (fun _ hk => hk.2) (.slice Ao121 t431.length co121)) (fun _ hk => ⟨hk.1.1.1.1.1.1.2, ⟨hk.1.1.1.1.1.2, hk.1.1.1.1.1.1.1.1.1⟩⟩)⟩, ⟨by (with_reducible repeat (first | refine blk_drewN ?_ _ | refine blk_drew ?_ | refine blk_alloc ?_ _)); refine blk_far ?_ NB380_435.out _; (with_reducible repeat (first | refine blk_drewN ?_ _ | refine blk_drew ?_ | refine blk_alloc ?_ _)); refine blk_far ?_ NB380_435.out _; (with_reducible repeat (first | refine blk_drewN ?_ _ | refine blk_drew ?_ | refine blk_alloc ?_ _)); refine blk_far ?_ NB380_435.out _; (with_reducible repeat (first | refine blk_drewN ?_ _ | refine blk_drew ?_ | refine blk_alloc ?_ _)); exact BK380.out⟩, ⟨by (with_reducible repeat (first | refine blk_drewN ?_ _ | refine blk_drew ?_ | refine blk_alloc ?_ _)); refine blk_far ?_ NB395_435.out _; (with_reducible repeat (first | refine blk_drewN ?_ _ | refine blk_drew ?_ | refine blk_alloc ?_ _)); refine blk_far ?_ NB395_435.out _; (with_reducible repeat (first | refine blk_drewN ?_ _ | refine blk_drew ?_ | refine blk_alloc ?_ _)); refine blk_far ?_ NB395_435.out _; (with_reducible repeat (first | refine blk_drewN ?_ _ | refine blk_drew ?_ | refine blk_alloc ?_ _)); exact BK395.out⟩, ⟨dP BK435.out⟩, ⟨by repeat (first | (with_reducible first | exact HB.out | apply below_alloc | apply pw_below_drewN | apply below_drew1 | refine below_set ?_ GE380.out | refine below_set ?_ GE395.out | refine below_set ?_ GE435.out) | exact HB.out)⟩⟩
          ·rw [if_neg c122] at H
           have c122b0 : decide (a2 < 0) = false := decide_eq_false c122
           clear c122
           (first | rw [c122b0] | (simp only [i64_w, i32_w]; rw [c122b0]) | skip)
           have H' := Aside0.mk H
           clear H
           go_wp2
           go_meet
           case rel => exact ⟨_, (IntKind.u64.wrap (a2)), dF, H', ⟨by have := HJ5.out; have := HJ23.out; have := HJ96.out; first | omega | exact Nat.le_refl _⟩, ⟨by (with_reducible repeat (first | apply Kd.R_alloc | apply Kd.R_drewN | apply Kd.R_drew)); exact Kd.R_mono (Kd.R_far (p := ⟨gb435, 2, none⟩) (Kd.R_far (p := ⟨gb435, 1, none⟩) (Kd.R_far (p := ⟨gb435, 0, none⟩) (Kd.R_types HO_396001.out BK435.out (by decide)) (fun _ hk => hk.2) (.bool t427)) (fun _ hk => hk.2) (.slice Ao120 t428.length co120)) (fun _ hk => hk.2) (.slice Ao121 t431.length co121)) (fun _ hk => ⟨hk.1.1.1.1.1.1.1.2.2, ⟨hk.1.1.2, hk.1.2⟩⟩)⟩, ⟨by (with_reducible repeat (first | apply Kd.R_alloc | apply Kd.R_drewN | apply Kd.R_drew)); exact Kd.R_mono (Kd.R_far (p := ⟨gb435, 2, none⟩) (Kd.R_far (p := ⟨gb435, 1, none⟩) (Kd.R_far (p := ⟨gb435, 0, none⟩) (Kd.R_types HO_396002.out BK435.out (by decide)) (fun _ hk => hk.2) (.bool t427)) (fun _ hk => hk.2) (.slice Ao120 t428.length co120)) (fun _ hk => hk.2) (.slice Ao121 t431.length co121)) (fun _ hk => ⟨hk.1.1.1.1.1.1.1.2.2, ⟨hk.1.1.2, hk.1.2⟩⟩)⟩, ⟨by (with_reducible repeat (first | apply Kd.R_alloc | apply Kd.R_drewN | apply Kd.R_drew)); exact Kd.R_mono (Kd.R_far (p := ⟨gb435, 2, none⟩) (Kd.R_far (p := ⟨gb435, 1, none⟩) (Kd.R_far (p := ⟨gb435, 0, none⟩) (Kd.R_types HO430.out BK435.out (by decide)) (fun _ hk => hk.2) (.bool t427)) (fun _ hk => hk.2) (.slice Ao120 t428.length co120)) (fun _ hk => hk.2) (.slice Ao121 t431.length co121)) (fun _ hk => ⟨hk.1.1.1.1.1.1.2, ⟨hk.1.1.1.1.1.2, hk.1.1.1.1.1.1.1.1.1⟩⟩)⟩, ⟨by (with_reducible repeat (first | apply Kd.R_alloc | apply Kd.R_drewN | apply Kd.R_drew)); exact Kd.R_mono (Kd.R_far (p := ⟨gb435, 2, none⟩) (Kd.R_far (p := ⟨gb435, 1, none⟩) (Kd.R_far (p := ⟨gb435, 0, none⟩) (Kd.R_types HO433.out BK435.out (by decide)) (fun _ hk => hk.2) (.bool t427)) (fun _ hk => hk.2) (.slice Ao120 t428.length co120)) (fun _ hk => hk.2) (.slice Ao121 t431.length co121)) (fun _ hk => ⟨hk.1.1.1.1.1.1.2, ⟨hk.1.1.1.1.1.2, hk.1.1.1.1.1.1.1.1.1⟩⟩)⟩, ⟨by (with_reducible repeat (first | refine blk_drewN ?_ _ | refine blk_drew ?_ | refine blk_alloc ?_ _)); refine blk_far ?_ NB380_435.out _; (with_reducible repeat (first | refine blk_drewN ?_ _ | refine blk_drew ?_ | refine blk_alloc ?_ _)); refine blk_far ?_ NB380_435.out _; (with_reducible repeat (first | refine blk_drewN ?_ _ | refine blk_drew ?_ | refine blk_alloc ?_ _)); refine blk_far ?_ NB380_435.out _; (with_reducible repeat (first | refine blk_drewN ?_ _ | refine blk_drew ?_ | refine blk_alloc ?_ _)); exact BK380.out⟩, ⟨by (with_reducible repeat (first | refine blk_drewN ?_ _ | refine blk_drew ?_ | refine blk_alloc ?_ _)); refine blk_far ?_ NB395_435.out _; (with_reducible repeat (first | refine blk_drewN ?_ _ | refine blk_drew ?_ | refine blk_alloc ?_ _)); refine blk_far ?_ NB395_435.out _; (with_reducible repeat (first | refine blk_drewN ?_ _ | refine blk_drew ?_ | refine blk_alloc ?_ _)); refine blk_far ?_ NB395_435.out _; (with_reducible repeat (first | refine blk_drewN ?_ _ | refine blk_drew ?_ | refine blk_alloc ?_ _)); exact BK395.out⟩, ⟨dP BK435.out⟩, ⟨by repeat (first | (with_reducible first | exact HB.out | apply below_alloc | apply pw_below_drewN | apply below_drew1 | refine below_set ?_ GE380.out | refine below_set ?_ GE395.out | refine below_set ?_ GE435.out) | exact HB.out)⟩⟩
         case rest =>
          clear HC102
          try clear c20
          try clear c96
          try clear hcz10_0
          try clear hcz10_1
          try clear hcz10_2
          try clear hcz112_0
          try clear hcz112_1
          try clear hcz112_2
          try clear hcz119_0
          try clear hcz119_1
          try clear hcz119_2
          try clear hcz14_0
          try clear hcz14_1
          try clear hcz14_2
          try clear hcz26_0
          try clear hcz26_1
          try clear hcz26_2
          try clear hcz29_0
          try clear hcz29_1
          try clear hcz29_2
          try clear hcz32_0
          try clear hcz32_1
          try clear hcz32_2
          try clear hcz8_0
          try clear hcz8_1
          try clear hcz8_2
          try clear hfz10_0
          try clear hfz10_1
          try clear hfz10_2
          try clear hfz112_0
          try clear hfz112_1
          try clear hfz112_2
          try clear hfz119_0
          try clear hfz119_1
          try clear hfz119_2
          try clear hfz14_0
          try clear hfz14_1
          try clear hfz14_2
          try clear hfz26_0
          try clear hfz26_1
          try clear hfz26_2
          try clear hfz29_0
          try clear hfz29_1
          try clear hfz29_2
          try clear hfz32_0
          try clear hfz32_1
          try clear hfz32_2
          try clear hfz8_0
          try clear hfz8_1
          try clear hfz8_2
          obtain ⟨kq, x20_101, rfl, HA, HJ101, HO_396001, HO_396002, HO_436001, HO_436002, BK380, BK395, BK435, HB⟩ := hcut
          cases kq with
          | zero => exact absurd HA.out (by simp [plumblaw05_RatLowest.j3])
          | succ kj101 =>
           have H := HA.out
           clear HA
           simp only [plumblaw05_RatLowest.j3] at H
           obtain ⟨y436, hy436⟩ : ∃ y_ : List Int, y_ = (([x20_101, 0] : List Int)) := ⟨_, rfl⟩
           replace H : ((rat_New.f kj101 (decide (a2 < 0)) y436 (([1] : List Int))).bind fun bt442 => (if t417 = 0 then (if t424 = 0 then (if t434 = 0 then (if bt442.2.2.2 = 0 then ((plumblaw05_one.f kj101 t427 t428 t431 t387 t388 t391).bind fun t451 => (if t451 = true then ((rat_Int.f a2).bind fun bt452 => ((plumblaw05_one.f kj101 bt442.1 bt442.2.1 bt442.2.2.1 bt452.1 bt452.2.1 bt452.2.2).bind fun t459 => (some t459))) else (none))) else (none)) else (none)) else (none)) else (none))) = some r := by first | (rw [hy436]; with_reducible exact H) | (have H2_ := (Option.bind_some _ _).symm.trans H; rw [hy436]; with_reducible exact H2_) | (have H2_ := (Option.bind_some _ _).symm.trans H; with_reducible exact H2_) | with_reducible exact H | (rw [hy436]; exact H) | exact H
           have Ny436 := Aside0.mk hy436
           clear hy436
           obtain ⟨y439, hy439⟩ : ∃ y_ : List Int, y_ = (([1] : List Int)) := ⟨_, rfl⟩
           replace H : ((rat_New.f kj101 (decide (a2 < 0)) y436 y439).bind fun bt442 => (if t417 = 0 then (if t424 = 0 then (if t434 = 0 then (if bt442.2.2.2 = 0 then ((plumblaw05_one.f kj101 t427 t428 t431 t387 t388 t391).bind fun t451 => (if t451 = true then ((rat_Int.f a2).bind fun bt452 => ((plumblaw05_one.f kj101 bt442.1 bt442.2.1 bt442.2.2.1 bt452.1 bt452.2.1 bt452.2.2).bind fun t459 => (some t459))) else (none))) else (none)) else (none)) else (none)) else (none))) = some r := by first | (rw [hy439]; with_reducible exact H) | (have H2_ := (Option.bind_some _ _).symm.trans H; rw [hy439]; with_reducible exact H2_) | (have H2_ := (Option.bind_some _ _).symm.trans H; with_reducible exact H2_) | with_reducible exact H | (rw [hy439]; exact H) | exact H
           have Ny439 := Aside0.mk hy439
           clear hy439
           replace H := obe H
           obtain ⟨⟨t442, t443, t446, t449⟩, A1230, H⟩ := H
           (try dsimp only at H)
           have A123 := Aside0.mk A1230
           clear A1230
           by_cases c124 : t417 = 0
           ·rw [if_pos c124] at H
            have c124b0 : (t417 == 0) = true := beq_iff_eq.mpr c124
            have c124b1 : (t417 != 0) = false := bne_eq_false_iff_eq.mpr c124
            clear c124
            by_cases c125 : t424 = 0
            ·rw [if_pos c125] at H
             have c125b0 : (t424 == 0) = true := beq_iff_eq.mpr c125
             have c125b1 : (t424 != 0) = false := bne_eq_false_iff_eq.mpr c125
             clear c125
             by_cases c126 : t434 = 0
             ·rw [if_pos c126] at H
              have c126b0 : (t434 == 0) = true := beq_iff_eq.mpr c126
              have c126b1 : (t434 != 0) = false := bne_eq_false_iff_eq.mpr c126
              clear c126
              by_cases c127 : t449 = 0
              ·rw [if_pos c127] at H
               have c127b0 : (t449 == 0) = true := beq_iff_eq.mpr c127
               have c127b1 : (t449 != 0) = false := bne_eq_false_iff_eq.mpr c127
               clear c127
               replace H := obe H
               obtain ⟨t451, A1280, H⟩ := H
               (try dsimp only at H)
               have A128 := Aside0.mk A1280
               clear A1280
               by_cases c129 : t451 = true
               ·subst c129
                have H1 : ((rat_Int.f a2).bind fun bt452 => ((plumblaw05_one.f kj101 t442 t443 t446 bt452.1 bt452.2.1 bt452.2.2).bind fun t459 => (some t459))) = some r := by rw [if_pos rfl] at H; exact H
                clear H
                have H := H1
                clear H1
                replace H := obe H
                obtain ⟨⟨t452, t453, t456⟩, A1300, H⟩ := H
                (try dsimp only at H)
                have A130 := Aside0.mk A1300
                clear A1300
                replace H := obe H
                obtain ⟨t459, A1310, H⟩ := H
                (try dsimp only at H)
                have A131 := Aside0.mk A1310
                clear A1310
                obtain rfl := Option.some.inj H
                try go_wp2_with (first | ((with_reducible refine gate_dst (N := 133) rfl ?_); (try (refine gate_guard (by rfl) ?_; dsimp only)); refine Kd.R_lit (Kd.int .u64) _ 25 ?hg (N := 133) ?hd (xs := ([x20_101, 0] : List Int)) (inner := [.int .u64 x20_101, .int .u64 0]) (ok := fun _ => True) (okp := fun _ => True) ?hr ?hp (fun _ hk => hk) trivial (Below.refl _ _) (Nat.le_refl _) (by simp) ?_; (case hd => rfl); (case hg => rfl); (case hr => first | (go_simp; done) | (go_simp; rfl)); (case hp => exact (Reps.one (show Kd.M (Kd.int .u64) _ _ _ x20_101 [.int .u64 x20_101] from rfl) (Reps.one (show Kd.M (Kd.int .u64) _ _ _ 0 [.int .u64 0] from rfl) (Reps.none _ _)))); intro v437 w132 ho133 hb hg_ hnew_; clear hg_ hnew_; (first | rw [← Ny436.out] at ho133 | (simp only [Int.reduceToNat] at ho133; rw [← Ny436.out] at ho133)); have HO438 := Aside0.mk (Kd.R_lower (Kd.R_new' (Kd.R_new' (Kd.R_new' (Kd.R_new' ho133 (Kd.R_lt (dR HO_396001.out))) (Kd.R_lt (dR HO_396002.out))) (Kd.R_lt (dR HO_436001.out))) (Kd.R_lt (dR HO_436002.out))) (below_size (by repeat (first | (with_reducible first | exact HB.out | apply below_alloc | apply pw_below_drewN | apply below_drew1 | refine below_set ?_ GE380.out | refine below_set ?_ GE395.out | refine below_set ?_ GE435.out) | exact HB.out)))); replace HO_396001 := Aside0.mk (Kd.R_elder' (dR HO_396001.out) (Kd.R_base ho133) hb); replace HO_396002 := Aside0.mk (Kd.R_elder' (dR HO_396002.out) (Kd.R_base ho133) hb); replace HO_436001 := Aside0.mk (Kd.R_elder' (dR HO_436001.out) (Kd.R_base ho133) hb); replace HO_436002 := Aside0.mk (Kd.R_elder' (dR HO_436002.out) (Kd.R_base ho133) hb); replace BK380 := Aside0.mk (blk_below (g := gb380) (o := .cells #[.bool a0_0, .slice A0_1 l0_1.length c0_1, .slice A0_2 l0_2.length c0_2] 24 (0, 0)) (dK BK380.out) hb); replace BK395 := Aside0.mk (blk_below (g := gb395) (o := .cells #[.bool t387, .slice Ao15 t388.length co15, .slice Ao16 t391.length co16] 28 (0, 0)) (dK BK395.out) hb); replace BK435 := Aside0.mk (blk_below (g := gb435) (o := .cells #[.bool t427, .slice Ao120 t428.length co120, .slice Ao121 t431.length co121] 28 (0, 0)) (dK BK435.out) hb); replace HB := Aside0.mk (below_step (by repeat (first | (with_reducible first | exact HB.out | apply below_alloc | apply pw_below_drewN | apply below_drew1 | refine below_set ?_ GE380.out | refine below_set ?_ GE395.out | refine below_set ?_ GE435.out) | exact HB.out)) hb); clear hb ho133) | ((with_reducible refine gate_dst (N := 134) rfl ?_); (try (refine gate_guard (by rfl) ?_; dsimp only)); refine Kd.R_lit (Kd.int .u64) _ 25 ?hg (N := 134) ?hd (xs := ([1] : List Int)) (inner := [.int .u64 1]) (ok := fun _ => True) (okp := fun _ => True) ?hr ?hp (fun _ hk => hk) trivial (Below.refl _ _) (Nat.le_refl _) (by simp) ?_; (case hd => rfl); (case hg => rfl); (case hr => first | (go_simp; done) | (go_simp; rfl)); (case hp => exact (Reps.one (show Kd.M (Kd.int .u64) _ _ _ 1 [.int .u64 1] from rfl) (Reps.none _ _))); intro v440 w134 ho135 hb hg_ hnew_; clear hg_ hnew_; (first | rw [← Ny439.out] at ho135 | (simp only [Int.reduceToNat] at ho135; rw [← Ny439.out] at ho135)); have HO441 := Aside0.mk (Kd.R_lower (Kd.R_new' (Kd.R_new' (Kd.R_new' (Kd.R_new' (Kd.R_new' ho135 (Kd.R_lt (dR HO_396001.out))) (Kd.R_lt (dR HO_396002.out))) (Kd.R_lt (dR HO_436001.out))) (Kd.R_lt (dR HO_436002.out))) (Kd.R_lt (dR HO438.out))) (below_size (by repeat (first | (with_reducible first | exact HB.out | apply below_alloc | apply pw_below_drewN | apply below_drew1 | refine below_set ?_ GE380.out | refine below_set ?_ GE395.out | refine below_set ?_ GE435.out) | exact HB.out)))); replace HO_396001 := Aside0.mk (Kd.R_elder' (dR HO_396001.out) (Kd.R_base ho135) hb); replace HO_396002 := Aside0.mk (Kd.R_elder' (dR HO_396002.out) (Kd.R_base ho135) hb); replace HO_436001 := Aside0.mk (Kd.R_elder' (dR HO_436001.out) (Kd.R_base ho135) hb); replace HO_436002 := Aside0.mk (Kd.R_elder' (dR HO_436002.out) (Kd.R_base ho135) hb); replace HO438 := Aside0.mk (Kd.R_elder' (dR HO438.out) (Kd.R_base ho135) hb); replace BK380 := Aside0.mk (blk_below (g := gb380) (o := .cells #[.bool a0_0, .slice A0_1 l0_1.length c0_1, .slice A0_2 l0_2.length c0_2] 24 (0, 0)) (dK BK380.out) hb); replace BK395 := Aside0.mk (blk_below (g := gb395) (o := .cells #[.bool t387, .slice Ao15 t388.length co15, .slice Ao16 t391.length co16] 28 (0, 0)) (dK BK395.out) hb); replace BK435 := Aside0.mk (blk_below (g := gb435) (o := .cells #[.bool t427, .slice Ao120 t428.length co120, .slice Ao121 t431.length co121] 28 (0, 0)) (dK BK435.out) hb); replace HB := Aside0.mk (below_step (by repeat (first | (with_reducible first | exact HB.out | apply below_alloc | apply pw_below_drewN | apply below_drew1 | refine below_set ?_ GE380.out | refine below_set ?_ GE395.out | refine below_set ?_ GE435.out) | exact HB.out)) hb); clear hb ho135; obtain ⟨Ao136, co136, eo136⟩ := Kd.R_slice HO438.out; subst eo136; obtain ⟨Ao137, co137, eo137⟩ := Kd.R_slice HO441.out; subst eo137) | ((with_reducible refine gate_callee (f := 16) rfl ?_); refine gL (some 135) Try.func16 #[.bool (decide (a2 < 0)), .slice Ao136 y436.length co136, .slice Ao137 y439.length co137] ?_; (with_reducible refine (rat_New.calls kj101 (decide (a2 < 0)) _ _ y436 _ _ y439 t442 t443 t446 t449 _ ?side1 ?side2 ?side3 ?side4 A123.out).mono ?_); (case side1 => exact dC (Kd.R_reads' HO438.out).2.2); (case side2 => exact (Kd.R_reads' HO438.out).2.1); (case side3 => exact dC (Kd.R_reads' HO441.out).2.2); (case side4 => exact (Kd.R_reads' HO441.out).2.1); rintro e w138 ⟨v444, v447, rfl, ho0, ho1, hb⟩; refine ⟨_, rfl, ?_⟩; have HO445 := Aside0.mk (Kd.R_lower (Kd.R_new' (Kd.R_new' (Kd.R_new' (Kd.R_new' (Kd.R_new' (Kd.R_new' ho0 (Kd.R_lt (dR HO_396001.out))) (Kd.R_lt (dR HO_396002.out))) (Kd.R_lt (dR HO_436001.out))) (Kd.R_lt (dR HO_436002.out))) (Kd.R_lt (dR HO438.out))) (Kd.R_lt (dR HO441.out))) (below_size (by repeat (first | (with_reducible first | exact HB.out | apply below_alloc | apply pw_below_drewN | apply below_drew1 | refine below_set ?_ GE380.out | refine below_set ?_ GE395.out | refine below_set ?_ GE435.out) | exact HB.out)))); have HO448 := Aside0.mk (Kd.R_lower (Kd.R_new' (Kd.R_new' (Kd.R_new' (Kd.R_new' (Kd.R_new' (Kd.R_new' ho1 (Kd.R_lt (dR HO_396001.out))) (Kd.R_lt (dR HO_396002.out))) (Kd.R_lt (dR HO_436001.out))) (Kd.R_lt (dR HO_436002.out))) (Kd.R_lt (dR HO438.out))) (Kd.R_lt (dR HO441.out))) (below_size (by repeat (first | (with_reducible first | exact HB.out | apply below_alloc | apply pw_below_drewN | apply below_drew1 | refine below_set ?_ GE380.out | refine below_set ?_ GE395.out | refine below_set ?_ GE435.out) | exact HB.out)))); replace HO_396001 := Aside0.mk (Kd.R_mono (Kd.R_told (Kd.R_told (Kd.R_old (dR HO_396001.out) hb) (Kd.R_base ho0)) (Kd.R_base ho1)) (fun _ h_ => h_.1)); replace HO_396002 := Aside0.mk (Kd.R_mono (Kd.R_told (Kd.R_told (Kd.R_old (dR HO_396002.out) hb) (Kd.R_base ho0)) (Kd.R_base ho1)) (fun _ h_ => h_.1)); replace HO_436001 := Aside0.mk (Kd.R_mono (Kd.R_told (Kd.R_told (Kd.R_old (dR HO_436001.out) hb) (Kd.R_base ho0)) (Kd.R_base ho1)) (fun _ h_ => h_.1)); replace HO_436002 := Aside0.mk (Kd.R_mono (Kd.R_told (Kd.R_told (Kd.R_old (dR HO_436002.out) hb) (Kd.R_base ho0)) (Kd.R_base ho1)) (fun _ h_ => h_.1)); replace HO438 := Aside0.mk (Kd.R_mono (Kd.R_told (Kd.R_told (Kd.R_old (dR HO438.out) hb) (Kd.R_base ho0)) (Kd.R_base ho1)) (fun _ h_ => h_.1)); replace HO441 := Aside0.mk (Kd.R_mono (Kd.R_told (Kd.R_told (Kd.R_old (dR HO441.out) hb) (Kd.R_base ho0)) (Kd.R_base ho1)) (fun _ h_ => h_.1)); replace BK380 := Aside0.mk (blk_below (g := gb380) (o := .cells #[.bool a0_0, .slice A0_1 l0_1.length c0_1, .slice A0_2 l0_2.length c0_2] 24 (0, 0)) (dK BK380.out) hb); replace BK395 := Aside0.mk (blk_below (g := gb395) (o := .cells #[.bool t387, .slice Ao15 t388.length co15, .slice Ao16 t391.length co16] 28 (0, 0)) (dK BK395.out) hb); replace BK435 := Aside0.mk (blk_below (g := gb435) (o := .cells #[.bool t427, .slice Ao120 t428.length co120, .slice Ao121 t431.length co121] 28 (0, 0)) (dK BK435.out) hb); replace HB := Aside0.mk (below_step (by repeat (first | (with_reducible first | exact HB.out | apply below_alloc | apply pw_below_drewN | apply below_drew1 | refine below_set ?_ GE380.out | refine below_set ?_ GE395.out | refine below_set ?_ GE435.out) | exact HB.out)) hb); (try clear hb); (try clear ho0); (try clear ho1)) | ((with_reducible refine gate_dst (N := 21) rfl ?_); (try (refine gate_guard (by rfl) ?_; dsimp only)); refine box_event ?hg (N := 21) ?hd (cs := #[.bool false, .slice none 0 0, .slice none 0 0]) (t := 28) ?hr ?_; (case hd => rfl); (case hg => rfl); (case hr => first | (go_simp; done) | (go_simp; rfl)); intro gb450 hg w139 hbox hb; replace HO_396001 := Aside0.mk (Kd.R_below (dR HO_396001.out) hb); replace HO_396002 := Aside0.mk (Kd.R_below (dR HO_396002.out) hb); replace HO_436001 := Aside0.mk (Kd.R_below (dR HO_436001.out) hb); replace HO_436002 := Aside0.mk (Kd.R_below (dR HO_436002.out) hb); replace HO438 := Aside0.mk (Kd.R_below (dR HO438.out) hb); replace HO441 := Aside0.mk (Kd.R_below (dR HO441.out) hb); replace HO445 := Aside0.mk (Kd.R_below (dR HO445.out) hb); replace HO448 := Aside0.mk (Kd.R_below (dR HO448.out) hb); have BK450 := Aside0.mk (hbox); have GW450 := Aside0.mk ((by rw [hg]; exact (below_size (by repeat (first | (with_reducible first | exact HB.out | apply below_alloc | apply pw_below_drewN | apply below_drew1 | refine below_set ?_ GE380.out | refine below_set ?_ GE395.out | refine below_set ?_ GE435.out) | exact HB.out))) : w.heap.size ≤ gb450)); have GE450 := Aside0.mk ((by rw [hg]; exact (below_size (by repeat (first | (with_reducible first | exact HB.out | apply below_alloc | apply pw_below_drewN | apply below_drew1 | refine below_set ?_ GE380.out | refine below_set ?_ GE395.out | refine below_set ?_ GE435.out) | exact HB.out))) : w.heap.size ≤ gb450)); replace HB := Aside0.mk (below_step (by repeat (first | (with_reducible first | exact HB.out | apply below_alloc | apply pw_below_drewN | apply below_drew1 | refine below_set ?_ GE380.out | refine below_set ?_ GE395.out | refine below_set ?_ GE435.out) | exact HB.out)) hb); have NB380_450 := Aside0.mk ((by rw [hg]; exact Nat.ne_of_lt (blk_lt (g := gb380) (o := .cells #[.bool a0_0, .slice A0_1 l0_1.length c0_1, .slice A0_2 l0_2.length c0_2] 24 (0, 0)) (dK BK380.out)) : gb380 ≠ gb450)); have NB450_380 := Aside0.mk ((by rw [hg]; exact Nat.ne_of_gt (blk_lt (g := gb380) (o := .cells #[.bool a0_0, .slice A0_1 l0_1.length c0_1, .slice A0_2 l0_2.length c0_2] 24 (0, 0)) (dK BK380.out)) : gb450 ≠ gb380)); replace BK380 := Aside0.mk (blk_below (g := gb380) (o := .cells #[.bool a0_0, .slice A0_1 l0_1.length c0_1, .slice A0_2 l0_2.length c0_2] 24 (0, 0)) (dK BK380.out) hb); have NB395_450 := Aside0.mk ((by rw [hg]; exact Nat.ne_of_lt (blk_lt (g := gb395) (o := .cells #[.bool t387, .slice Ao15 t388.length co15, .slice Ao16 t391.length co16] 28 (0, 0)) (dK BK395.out)) : gb395 ≠ gb450)); have NB450_395 := Aside0.mk ((by rw [hg]; exact Nat.ne_of_gt (blk_lt (g := gb395) (o := .cells #[.bool t387, .slice Ao15 t388.length co15, .slice Ao16 t391.length co16] 28 (0, 0)) (dK BK395.out)) : gb450 ≠ gb395)); replace BK395 := Aside0.mk (blk_below (g := gb395) (o := .cells #[.bool t387, .slice Ao15 t388.length co15, .slice Ao16 t391.length co16] 28 (0, 0)) (dK BK395.out) hb); have NB435_450 := Aside0.mk ((by rw [hg]; exact Nat.ne_of_lt (blk_lt (g := gb435) (o := .cells #[.bool t427, .slice Ao120 t428.length co120, .slice Ao121 t431.length co121] 28 (0, 0)) (dK BK435.out)) : gb435 ≠ gb450)); have NB450_435 := Aside0.mk ((by rw [hg]; exact Nat.ne_of_gt (blk_lt (g := gb435) (o := .cells #[.bool t427, .slice Ao120 t428.length co120, .slice Ao121 t431.length co121] 28 (0, 0)) (dK BK435.out)) : gb450 ≠ gb435)); replace BK435 := Aside0.mk (blk_below (g := gb435) (o := .cells #[.bool t427, .slice Ao120 t428.length co120, .slice Ao121 t431.length co121] 28 (0, 0)) (dK BK435.out) hb); clear hb hbox hg; have hnb140 := NB450_380.out; have hnc140 := NB380_450.out; have hnb141 := NB450_395.out; have hnc141 := NB395_450.out; have hnb142 := NB450_435.out; have hnc142 := NB435_450.out; obtain ⟨hcz143_0, hcz143_1, hcz143_2⟩ := cz3 BK450.out; obtain ⟨hfz143_0, hfz143_1, hfz143_2⟩ := fz3 BK450.out; obtain ⟨Ao144, co144, eo144⟩ := Kd.R_slice HO445.out; subst eo144; obtain ⟨Ao145, co145, eo145⟩ := Kd.R_slice HO448.out; subst eo145))
                have n0_ : Aside0 (Kd.R (Kd.int .u64) 25 (((w139.setCell ⟨gb450, 0, none⟩ (.bool t442)).setCell ⟨gb450, 1, none⟩ (.slice Ao144 t443.length co144)).setCell ⟨gb450, 2, none⟩ (.slice Ao145 t446.length co145)) w.heap.size (fun k_ => some k_ ≠ (.slice Ao16 t391.length co16 : Value).ownBlock ∧ some k_ ≠ (.slice Ao120 t428.length co120 : Value).ownBlock ∧ some k_ ≠ (.slice Ao121 t431.length co121 : Value).ownBlock ∧ some k_ ≠ (.slice Ao136 y436.length co136 : Value).ownBlock ∧ some k_ ≠ (.slice Ao137 y439.length co137 : Value).ownBlock ∧ some k_ ≠ (.slice Ao144 t443.length co144 : Value).ownBlock ∧ some k_ ≠ (.slice Ao145 t446.length co145 : Value).ownBlock) (.slice Ao15 t388.length co15) t388) := ⟨by (with_reducible repeat (first | apply Kd.R_alloc | apply Kd.R_drewN | apply Kd.R_drew)); exact Kd.R_mono (Kd.R_far (p := ⟨gb450, 2, none⟩) (Kd.R_far (p := ⟨gb450, 1, none⟩) (Kd.R_far (p := ⟨gb450, 0, none⟩) (Kd.R_types HO_396001.out BK450.out (by decide)) (fun _ hk => hk.2) (.bool t442)) (fun _ hk => hk.2) (.slice Ao144 t443.length co144)) (fun _ hk => hk.2) (.slice Ao145 t446.length co145)) (fun _ hk => ⟨hk.1.1.1.1.1.1, ⟨hk.1.1.1.1.1.2.1, ⟨hk.1.1.1.1.1.2.2, ⟨hk.1.1.1.1.2, ⟨hk.1.1.1.2, ⟨hk.1.1.2, hk.1.2⟩⟩⟩⟩⟩⟩)⟩
                have n1_ : Aside0 (Kd.R (Kd.int .u64) 25 (((w139.setCell ⟨gb450, 0, none⟩ (.bool t442)).setCell ⟨gb450, 1, none⟩ (.slice Ao144 t443.length co144)).setCell ⟨gb450, 2, none⟩ (.slice Ao145 t446.length co145)) w.heap.size (fun k_ => some k_ ≠ (.slice Ao15 t388.length co15 : Value).ownBlock ∧ some k_ ≠ (.slice Ao120 t428.length co120 : Value).ownBlock ∧ some k_ ≠ (.slice Ao121 t431.length co121 : Value).ownBlock ∧ some k_ ≠ (.slice Ao136 y436.length co136 : Value).ownBlock ∧ some k_ ≠ (.slice Ao137 y439.length co137 : Value).ownBlock ∧ some k_ ≠ (.slice Ao144 t443.length co144 : Value).ownBlock ∧ some k_ ≠ (.slice Ao145 t446.length co145 : Value).ownBlock) (.slice Ao16 t391.length co16) t391) := ⟨by (with_reducible repeat (first | apply Kd.R_alloc | apply Kd.R_drewN | apply Kd.R_drew)); exact Kd.R_mono (Kd.R_far (p := ⟨gb450, 2, none⟩) (Kd.R_far (p := ⟨gb450, 1, none⟩) (Kd.R_far (p := ⟨gb450, 0, none⟩) (Kd.R_types HO_396002.out BK450.out (by decide)) (fun _ hk => hk.2) (.bool t442)) (fun _ hk => hk.2) (.slice Ao144 t443.length co144)) (fun _ hk => hk.2) (.slice Ao145 t446.length co145)) (fun _ hk => ⟨hk.1.1.1.1.1.1, ⟨hk.1.1.1.1.1.2.1, ⟨hk.1.1.1.1.1.2.2, ⟨hk.1.1.1.1.2, ⟨hk.1.1.1.2, ⟨hk.1.1.2, hk.1.2⟩⟩⟩⟩⟩⟩)⟩
                have n2_ : Aside0 (Kd.R (Kd.int .u64) 25 (((w139.setCell ⟨gb450, 0, none⟩ (.bool t442)).setCell ⟨gb450, 1, none⟩ (.slice Ao144 t443.length co144)).setCell ⟨gb450, 2, none⟩ (.slice Ao145 t446.length co145)) w.heap.size (fun k_ => some k_ ≠ (.slice Ao15 t388.length co15 : Value).ownBlock ∧ some k_ ≠ (.slice Ao16 t391.length co16 : Value).ownBlock ∧ some k_ ≠ (.slice Ao121 t431.length co121 : Value).ownBlock ∧ some k_ ≠ (.slice Ao136 y436.length co136 : Value).ownBlock ∧ some k_ ≠ (.slice Ao137 y439.length co137 : Value).ownBlock ∧ some k_ ≠ (.slice Ao144 t443.length co144 : Value).ownBlock ∧ some k_ ≠ (.slice Ao145 t446.length co145 : Value).ownBlock) (.slice Ao120 t428.length co120) t428) := ⟨by (with_reducible repeat (first | apply Kd.R_alloc | apply Kd.R_drewN | apply Kd.R_drew)); exact Kd.R_mono (Kd.R_far (p := ⟨gb450, 2, none⟩) (Kd.R_far (p := ⟨gb450, 1, none⟩) (Kd.R_far (p := ⟨gb450, 0, none⟩) (Kd.R_types HO_436001.out BK450.out (by decide)) (fun _ hk => hk.2) (.bool t442)) (fun _ hk => hk.2) (.slice Ao144 t443.length co144)) (fun _ hk => hk.2) (.slice Ao145 t446.length co145)) (fun _ hk => ⟨hk.1.1.1.1.1.1, ⟨hk.1.1.1.1.1.2.1, ⟨hk.1.1.1.1.1.2.2, ⟨hk.1.1.1.1.2, ⟨hk.1.1.1.2, ⟨hk.1.1.2, hk.1.2⟩⟩⟩⟩⟩⟩)⟩
                have n3_ : Aside0 (Kd.R (Kd.int .u64) 25 (((w139.setCell ⟨gb450, 0, none⟩ (.bool t442)).setCell ⟨gb450, 1, none⟩ (.slice Ao144 t443.length co144)).setCell ⟨gb450, 2, none⟩ (.slice Ao145 t446.length co145)) w.heap.size (fun k_ => some k_ ≠ (.slice Ao15 t388.length co15 : Value).ownBlock ∧ some k_ ≠ (.slice Ao16 t391.length co16 : Value).ownBlock ∧ some k_ ≠ (.slice Ao120 t428.length co120 : Value).ownBlock ∧ some k_ ≠ (.slice Ao136 y436.length co136 : Value).ownBlock ∧ some k_ ≠ (.slice Ao137 y439.length co137 : Value).ownBlock ∧ some k_ ≠ (.slice Ao144 t443.length co144 : Value).ownBlock ∧ some k_ ≠ (.slice Ao145 t446.length co145 : Value).ownBlock) (.slice Ao121 t431.length co121) t431) := ⟨by (with_reducible repeat (first | apply Kd.R_alloc | apply Kd.R_drewN | apply Kd.R_drew)); exact Kd.R_mono (Kd.R_far (p := ⟨gb450, 2, none⟩) (Kd.R_far (p := ⟨gb450, 1, none⟩) (Kd.R_far (p := ⟨gb450, 0, none⟩) (Kd.R_types HO_436002.out BK450.out (by decide)) (fun _ hk => hk.2) (.bool t442)) (fun _ hk => hk.2) (.slice Ao144 t443.length co144)) (fun _ hk => hk.2) (.slice Ao145 t446.length co145)) (fun _ hk => ⟨hk.1.1.1.1.1.1, ⟨hk.1.1.1.1.1.2.1, ⟨hk.1.1.1.1.1.2.2, ⟨hk.1.1.1.1.2, ⟨hk.1.1.1.2, ⟨hk.1.1.2, hk.1.2⟩⟩⟩⟩⟩⟩)⟩
                have n4_ : Aside0 (Kd.R (Kd.int .u64) 25 (((w139.setCell ⟨gb450, 0, none⟩ (.bool t442)).setCell ⟨gb450, 1, none⟩ (.slice Ao144 t443.length co144)).setCell ⟨gb450, 2, none⟩ (.slice Ao145 t446.length co145)) w.heap.size (fun k_ => some k_ ≠ (.slice Ao15 t388.length co15 : Value).ownBlock ∧ some k_ ≠ (.slice Ao16 t391.length co16 : Value).ownBlock ∧ some k_ ≠ (.slice Ao120 t428.length co120 : Value).ownBlock ∧ some k_ ≠ (.slice Ao121 t431.length co121 : Value).ownBlock ∧ some k_ ≠ (.slice Ao137 y439.length co137 : Value).ownBlock ∧ some k_ ≠ (.slice Ao144 t443.length co144 : Value).ownBlock ∧ some k_ ≠ (.slice Ao145 t446.length co145 : Value).ownBlock) (.slice Ao136 y436.length co136) y436) := ⟨by (with_reducible repeat (first | apply Kd.R_alloc | apply Kd.R_drewN | apply Kd.R_drew)); exact Kd.R_mono (Kd.R_far (p := ⟨gb450, 2, none⟩) (Kd.R_far (p := ⟨gb450, 1, none⟩) (Kd.R_far (p := ⟨gb450, 0, none⟩) (Kd.R_types HO438.out BK450.out (by decide)) (fun _ hk => hk.2) (.bool t442)) (fun _ hk => hk.2) (.slice Ao144 t443.length co144)) (fun _ hk => hk.2) (.slice Ao145 t446.length co145)) (fun _ hk => ⟨hk.1.1.1.1.1.1.1.2, ⟨hk.1.1.1.1.1.1.2, ⟨hk.1.1.1.1.1.2, ⟨hk.1.1.1.1.2, ⟨hk.1.1.1.2, ⟨hk.1.1.2, hk.1.2⟩⟩⟩⟩⟩⟩)⟩
                have n5_ : Aside0 (Kd.R (Kd.int .u64) 25 (((w139.setCell ⟨gb450, 0, none⟩ (.bool t442)).setCell ⟨gb450, 1, none⟩ (.slice Ao144 t443.length co144)).setCell ⟨gb450, 2, none⟩ (.slice Ao145 t446.length co145)) w.heap.size (fun k_ => some k_ ≠ (.slice Ao15 t388.length co15 : Value).ownBlock ∧ some k_ ≠ (.slice Ao16 t391.length co16 : Value).ownBlock ∧ some k_ ≠ (.slice Ao120 t428.length co120 : Value).ownBlock ∧ some k_ ≠ (.slice Ao121 t431.length co121 : Value).ownBlock ∧ some k_ ≠ (.slice Ao136 y436.length co136 : Value).ownBlock ∧ some k_ ≠ (.slice Ao144 t443.length co144 : Value).ownBlock ∧ some k_ ≠ (.slice Ao145 t446.length co145 : Value).ownBlock) (.slice Ao137 y439.length co137) y439) := ⟨by (with_reducible repeat (first | apply Kd.R_alloc | apply Kd.R_drewN | apply Kd.R_drew)); exact Kd.R_mono (Kd.R_far (p := ⟨gb450, 2, none⟩) (Kd.R_far (p := ⟨gb450, 1, none⟩) (Kd.R_far (p := ⟨gb450, 0, none⟩) (Kd.R_types HO441.out BK450.out (by decide)) (fun _ hk => hk.2) (.bool t442)) (fun _ hk => hk.2) (.slice Ao144 t443.length co144)) (fun _ hk => hk.2) (.slice Ao145 t446.length co145)) (fun _ hk => ⟨hk.1.1.1.1.1.1.1.2, ⟨hk.1.1.1.1.1.1.2, ⟨hk.1.1.1.1.1.2, ⟨hk.1.1.1.1.2, ⟨hk.1.1.1.2, ⟨hk.1.1.2, hk.1.2⟩⟩⟩⟩⟩⟩)⟩
                have n6_ : Aside0 (Kd.R (Kd.int .u64) 25 (((w139.setCell ⟨gb450, 0, none⟩ (.bool t442)).setCell ⟨gb450, 1, none⟩ (.slice Ao144 t443.length co144)).setCell ⟨gb450, 2, none⟩ (.slice Ao145 t446.length co145)) w.heap.size (fun k_ => some k_ ≠ (.slice Ao15 t388.length co15 : Value).ownBlock ∧ some k_ ≠ (.slice Ao16 t391.length co16 : Value).ownBlock ∧ some k_ ≠ (.slice Ao120 t428.length co120 : Value).ownBlock ∧ some k_ ≠ (.slice Ao121 t431.length co121 : Value).ownBlock ∧ some k_ ≠ (.slice Ao136 y436.length co136 : Value).ownBlock ∧ some k_ ≠ (.slice Ao137 y439.length co137 : Value).ownBlock ∧ some k_ ≠ (.slice Ao145 t446.length co145 : Value).ownBlock) (.slice Ao144 t443.length co144) t443) := ⟨by (with_reducible repeat (first | apply Kd.R_alloc | apply Kd.R_drewN | apply Kd.R_drew)); exact Kd.R_mono (Kd.R_far (p := ⟨gb450, 2, none⟩) (Kd.R_far (p := ⟨gb450, 1, none⟩) (Kd.R_far (p := ⟨gb450, 0, none⟩) (Kd.R_types HO445.out BK450.out (by decide)) (fun _ hk => hk.2) (.bool t442)) (fun _ hk => hk.2) (.slice Ao144 t443.length co144)) (fun _ hk => hk.2) (.slice Ao145 t446.length co145)) (fun _ hk => ⟨hk.1.1.1.1.1.1.2, ⟨hk.1.1.1.1.1.2, ⟨hk.1.1.1.1.2, ⟨hk.1.1.1.2, ⟨hk.1.1.2, ⟨hk.1.2, hk.1.1.1.1.1.1.1⟩⟩⟩⟩⟩⟩)⟩
                have n7_ : Aside0 (Kd.R (Kd.int .u64) 25 (((w139.setCell ⟨gb450, 0, none⟩ (.bool t442)).setCell ⟨gb450, 1, none⟩ (.slice Ao144 t443.length co144)).setCell ⟨gb450, 2, none⟩ (.slice Ao145 t446.length co145)) w.heap.size (fun k_ => some k_ ≠ (.slice Ao15 t388.length co15 : Value).ownBlock ∧ some k_ ≠ (.slice Ao16 t391.length co16 : Value).ownBlock ∧ some k_ ≠ (.slice Ao120 t428.length co120 : Value).ownBlock ∧ some k_ ≠ (.slice Ao121 t431.length co121 : Value).ownBlock ∧ some k_ ≠ (.slice Ao136 y436.length co136 : Value).ownBlock ∧ some k_ ≠ (.slice Ao137 y439.length co137 : Value).ownBlock ∧ some k_ ≠ (.slice Ao144 t443.length co144 : Value).ownBlock) (.slice Ao145 t446.length co145) t446) := ⟨by (with_reducible repeat (first | apply Kd.R_alloc | apply Kd.R_drewN | apply Kd.R_drew)); exact Kd.R_mono (Kd.R_far (p := ⟨gb450, 2, none⟩) (Kd.R_far (p := ⟨gb450, 1, none⟩) (Kd.R_far (p := ⟨gb450, 0, none⟩) (Kd.R_types HO448.out BK450.out (by decide)) (fun _ hk => hk.2) (.bool t442)) (fun _ hk => hk.2) (.slice Ao144 t443.length co144)) (fun _ hk => hk.2) (.slice Ao145 t446.length co145)) (fun _ hk => ⟨hk.1.1.1.1.1.1.2, ⟨hk.1.1.1.1.1.2, ⟨hk.1.1.1.1.2, ⟨hk.1.1.1.2, ⟨hk.1.1.2, ⟨hk.1.2, hk.1.1.1.1.1.1.1⟩⟩⟩⟩⟩⟩)⟩
                have n8_ : Aside0 ((((w139.setCell ⟨gb450, 0, none⟩ (.bool t442)).setCell ⟨gb450, 1, none⟩ (.slice Ao144 t443.length co144)).setCell ⟨gb450, 2, none⟩ (.slice Ao145 t446.length co145)).heap[gb380]? = some (.cells #[.bool a0_0, .slice A0_1 l0_1.length c0_1, .slice A0_2 l0_2.length c0_2] 24 (0, 0))) := ⟨by (with_reducible repeat (first | refine blk_drewN ?_ _ | refine blk_drew ?_ | refine blk_alloc ?_ _)); refine blk_far ?_ NB380_450.out _; (with_reducible repeat (first | refine blk_drewN ?_ _ | refine blk_drew ?_ | refine blk_alloc ?_ _)); refine blk_far ?_ NB380_450.out _; (with_reducible repeat (first | refine blk_drewN ?_ _ | refine blk_drew ?_ | refine blk_alloc ?_ _)); refine blk_far ?_ NB380_450.out _; (with_reducible repeat (first | refine blk_drewN ?_ _ | refine blk_drew ?_ | refine blk_alloc ?_ _)); exact BK380.out⟩
                have n9_ : Aside0 ((((w139.setCell ⟨gb450, 0, none⟩ (.bool t442)).setCell ⟨gb450, 1, none⟩ (.slice Ao144 t443.length co144)).setCell ⟨gb450, 2, none⟩ (.slice Ao145 t446.length co145)).heap[gb395]? = some (.cells #[.bool t387, .slice Ao15 t388.length co15, .slice Ao16 t391.length co16] 28 (0, 0))) := ⟨by (with_reducible repeat (first | refine blk_drewN ?_ _ | refine blk_drew ?_ | refine blk_alloc ?_ _)); refine blk_far ?_ NB395_450.out _; (with_reducible repeat (first | refine blk_drewN ?_ _ | refine blk_drew ?_ | refine blk_alloc ?_ _)); refine blk_far ?_ NB395_450.out _; (with_reducible repeat (first | refine blk_drewN ?_ _ | refine blk_drew ?_ | refine blk_alloc ?_ _)); refine blk_far ?_ NB395_450.out _; (with_reducible repeat (first | refine blk_drewN ?_ _ | refine blk_drew ?_ | refine blk_alloc ?_ _)); exact BK395.out⟩
                have n10_ : Aside0 ((((w139.setCell ⟨gb450, 0, none⟩ (.bool t442)).setCell ⟨gb450, 1, none⟩ (.slice Ao144 t443.length co144)).setCell ⟨gb450, 2, none⟩ (.slice Ao145 t446.length co145)).heap[gb435]? = some (.cells #[.bool t427, .slice Ao120 t428.length co120, .slice Ao121 t431.length co121] 28 (0, 0))) := ⟨by (with_reducible repeat (first | refine blk_drewN ?_ _ | refine blk_drew ?_ | refine blk_alloc ?_ _)); refine blk_far ?_ NB435_450.out _; (with_reducible repeat (first | refine blk_drewN ?_ _ | refine blk_drew ?_ | refine blk_alloc ?_ _)); refine blk_far ?_ NB435_450.out _; (with_reducible repeat (first | refine blk_drewN ?_ _ | refine blk_drew ?_ | refine blk_alloc ?_ _)); refine blk_far ?_ NB435_450.out _; (with_reducible repeat (first | refine blk_drewN ?_ _ | refine blk_drew ?_ | refine blk_alloc ?_ _)); exact BK435.out⟩
                have n11_ : Aside0 ((((w139.setCell ⟨gb450, 0, none⟩ (.bool t442)).setCell ⟨gb450, 1, none⟩ (.slice Ao144 t443.length co144)).setCell ⟨gb450, 2, none⟩ (.slice Ao145 t446.length co145)).heap[gb450]? = some (.cells #[.bool t442, .slice Ao144 t443.length co144, .slice Ao145 t446.length co145] 28 (0, 0))) := ⟨dP BK450.out⟩
                have n12_ : Aside0 (Below w.heap.size w (((w139.setCell ⟨gb450, 0, none⟩ (.bool t442)).setCell ⟨gb450, 1, none⟩ (.slice Ao144 t443.length co144)).setCell ⟨gb450, 2, none⟩ (.slice Ao145 t446.length co145))) := ⟨by repeat (first | (with_reducible first | exact HB.out | apply below_alloc | apply pw_below_drewN | apply below_drew1 | refine below_set ?_ GE380.out | refine below_set ?_ GE395.out | refine below_set ?_ GE435.out | refine below_set ?_ GE450.out) | exact HB.out)⟩
                (try clear HO_396001)
                (try clear HO_396002)
                (try clear HO_436001)
                (try clear HO_436002)
                (try clear HO438)
                (try clear HO441)
                (try clear HO445)
                (try clear HO448)
                (try clear BK380)
                (try clear BK395)
                (try clear BK435)
                (try clear BK450)
                (try clear HB)
                generalize (((w139.setCell ⟨gb450, 0, none⟩ (.bool t442)).setCell ⟨gb450, 1, none⟩ (.slice Ao144 t443.length co144)).setCell ⟨gb450, 2, none⟩ (.slice Ao145 t446.length co145)) = w146 at n0_ n1_ n2_ n3_ n4_ n5_ n6_ n7_ n8_ n9_ n10_ n11_ n12_ ⊢
                have HO_396001 := n0_
                have HO_396002 := n1_
                have HO_436001 := n2_
                have HO_436002 := n3_
                have HO438 := n4_
                have HO441 := n5_
                have HO445 := n6_
                have HO448 := n7_
                have BK380 := n8_
                have BK395 := n9_
                have BK435 := n10_
                have BK450 := n11_
                have HB := n12_
                clear n0_ n1_ n2_ n3_ n4_ n5_ n6_ n7_ n8_ n9_ n10_ n11_ n12_
                replace HO_396001 := Aside0.mk (Kd.R_drew HO_396001.out)
                replace HO_396002 := Aside0.mk (Kd.R_drew HO_396002.out)
                replace HO_436001 := Aside0.mk (Kd.R_drew HO_436001.out)
                replace HO_436002 := Aside0.mk (Kd.R_drew HO_436002.out)
                replace HO438 := Aside0.mk (Kd.R_drew HO438.out)
                replace HO441 := Aside0.mk (Kd.R_drew HO441.out)
                replace HO445 := Aside0.mk (Kd.R_drew HO445.out)
                replace HO448 := Aside0.mk (Kd.R_drew HO448.out)
                replace BK380 := Aside0.mk (blk_drew BK380.out)
                replace BK395 := Aside0.mk (blk_drew BK395.out)
                replace BK435 := Aside0.mk (blk_drew BK435.out)
                replace BK450 := Aside0.mk (blk_drew BK450.out)
                replace HB := Aside0.mk (below_drew1 HB.out)
                refine start_ (n := 26) (S := fun w' => w'.cell? ⟨gb435, 0, none⟩ = some (.bool t427) ∧ w'.cell? ⟨gb435, 1, none⟩ = some (.slice Ao120 t428.length co120) ∧ w'.cell? ⟨gb435, 2, none⟩ = some (.slice Ao121 t431.length co121) ∧ w'.cell? ⟨gb395, 0, none⟩ = some (.bool t387) ∧ w'.cell? ⟨gb395, 1, none⟩ = some (.slice Ao15 t388.length co15) ∧ w'.cell? ⟨gb395, 2, none⟩ = some (.slice Ao16 t391.length co16) ∧ w'.cell? ⟨gb450, 0, none⟩ = some (.bool t442) ∧ w'.cell? ⟨gb450, 1, none⟩ = some (.slice Ao144 t443.length co144) ∧ w'.cell? ⟨gb450, 2, none⟩ = some (.slice Ao145 t446.length co145)) (ds := []) #[false, false, false, false, false, false, false, false, false, false, false, false, false, false, false, false, false, false, false, false, false, false, false, false, false, false] (by kernel_rfl) rfl rfl ⟨(blk_cell BK435.out 0).trans rfl, (blk_cell BK435.out 1).trans rfl, (blk_cell BK435.out 2).trans rfl, (blk_cell BK395.out 0).trans rfl, (blk_cell BK395.out 1).trans rfl, (blk_cell BK395.out 2).trans rfl, (blk_cell BK450.out 0).trans rfl, (blk_cell BK450.out 1).trans rfl, (blk_cell BK450.out 2).trans rfl⟩ (fun hHeld => ?_); refine with_tabW plumblaw05_RatLowest.tab19 plumblaw05_RatLowest.bits19 (fun HT_ HW_ => ?_)
                generalize w146.drew = w147 at HO_396001 HO_396002 HO_436001 HO_436002 HO438 HO441 HO445 HO448 BK380 BK395 BK435 BK450 HB hHeld ⊢
                refine pP 0 (some 138) ?_
                refine pP 1 (some 139) ?_
                refine pP 2 (some 140) ?_
                refine pP 3 (some 141) ?_
                refine pP 4 (some 142) ?_
                refine pP 5 (some 143) ?_
                refine pP 6 (some 144) ?_
                refine pP 7 (some 145) ?_
                refine pP 8 (some 146) ?_
                refine pP 9 (some 147) ?_
                refine pP 10 (some 148) ?_
                refine pP 11 (some 149) ?_
                refine pP 12 (some 150) ?_
                refine pP 13 (some 151) ?_
                refine pP 14 (some 152) ?_
                refine pH9 15 (some 153) hHeld ?_
                refine pH9 16 (some 154) hHeld ?_
                refine one_ (i := 17) (N := some 155) #[true, true, true, true, true, true, true, true, true, true, true, true, true, true, true, true, true, true, false, false, false, false, false, false, false, false] rfl rfl (one_of HT_.out (by kernel_rfl)) (by decide) (fun K hK => ?_)
                refine goes_ Try.func17 (by kernel_rfl) rfl #[.agg #[.bool t427, .slice Ao120 t428.length co120, .slice Ao121 t431.length co121], .agg #[.bool t387, .slice Ao15 t388.length co15, .slice Ao16 t391.length co16]] (by rfl) rfl rfl dA ?_
                with_reducible refine (plumblaw05_one.calls kj101 t427 _ _ t428 _ _ t431 t387 _ _ t388 _ _ t391 true _ ?side1 ?side2 ?side3 ?side4 ?side5 ?side6 ?side7 ?side8 A128.out).mono ?_
                (case side1 => exact dC (Kd.R_reads' HO_436001.out).2.2)
                (case side2 => exact (Kd.R_reads' HO_436001.out).2.1)
                (case side3 => exact dC (Kd.R_reads' HO_436002.out).2.2)
                (case side4 => exact (Kd.R_reads' HO_436002.out).2.1)
                (case side5 => exact dC (Kd.R_reads' HO_396001.out).2.2)
                (case side6 => exact (Kd.R_reads' HO_396001.out).2.1)
                (case side7 => exact dC (Kd.R_reads' HO_396002.out).2.2)
                (case side8 => exact (Kd.R_reads' HO_396002.out).2.1)
                rintro e w148 ⟨rfl, hb⟩
                refine ⟨_, rfl, ?_⟩
                replace HO_396001 := Aside0.mk (Kd.R_below (dR HO_396001.out) hb)
                replace HO_396002 := Aside0.mk (Kd.R_below (dR HO_396002.out) hb)
                replace HO_436001 := Aside0.mk (Kd.R_below (dR HO_436001.out) hb)
                replace HO_436002 := Aside0.mk (Kd.R_below (dR HO_436002.out) hb)
                replace HO438 := Aside0.mk (Kd.R_below (dR HO438.out) hb)
                replace HO441 := Aside0.mk (Kd.R_below (dR HO441.out) hb)
                replace HO445 := Aside0.mk (Kd.R_below (dR HO445.out) hb)
                replace HO448 := Aside0.mk (Kd.R_below (dR HO448.out) hb)
                replace BK380 := Aside0.mk (blk_below (g := gb380) (o := .cells #[.bool a0_0, .slice A0_1 l0_1.length c0_1, .slice A0_2 l0_2.length c0_2] 24 (0, 0)) (dK BK380.out) hb)
                replace BK395 := Aside0.mk (blk_below (g := gb395) (o := .cells #[.bool t387, .slice Ao15 t388.length co15, .slice Ao16 t391.length co16] 28 (0, 0)) (dK BK395.out) hb)
                replace BK435 := Aside0.mk (blk_below (g := gb435) (o := .cells #[.bool t427, .slice Ao120 t428.length co120, .slice Ao121 t431.length co121] 28 (0, 0)) (dK BK435.out) hb)
                replace BK450 := Aside0.mk (blk_below (g := gb450) (o := .cells #[.bool t442, .slice Ao144 t443.length co144, .slice Ao145 t446.length co145] 28 (0, 0)) (dK BK450.out) hb)
                replace HB := Aside0.mk (below_step (by repeat (first | (with_reducible first | exact HB.out | apply below_alloc | apply pw_below_drewN | apply below_drew1 | refine below_set ?_ GE380.out | refine below_set ?_ GE395.out | refine below_set ?_ GE435.out | refine below_set ?_ GE450.out) | exact HB.out)) hb)
                (try clear hb)
                (try clear hb2)
                (try clear hk)
                (try clear hi)
                refine hK.out _ _ ⟨(blk_cell BK435.out 0).trans rfl, (blk_cell BK435.out 1).trans rfl, (blk_cell BK435.out 2).trans rfl, (blk_cell BK395.out 0).trans rfl, (blk_cell BK395.out 1).trans rfl, (blk_cell BK395.out 2).trans rfl, (blk_cell BK450.out 0).trans rfl, (blk_cell BK450.out 1).trans rfl, (blk_cell BK450.out 2).trans rfl⟩ (fun hHeld => ?_)
                clear hK K
                refine norm_ (a' := ?_) ?_ ?_
                rotate_left
                ·show Act.put _ (some 155) _ = _
                 simp only [Act.put, List.setIfInBounds_toArray, List.set_cons_zero, List.set_cons_succ, i64_w, i32_w]
                 rfl
                refine pP 18 (some 156) ?_
                refine pP 19 (some 157) ?_
                refine pP 21 (some 159) ?_
                refine pH9 20 (some 158) hHeld ?_
                refine one_ (i := 22) (N := some 160) #[true, true, true, true, true, true, true, true, true, true, true, true, true, true, true, true, true, true, true, true, true, true, true, false, false, false] rfl rfl (one_of HT_.out (by kernel_rfl)) (by decide) (fun K hK => ?_)
                refine goes_ Try.func18 (by kernel_rfl) rfl #[.int .i64 a2] (by rfl) rfl rfl dA ?_
                with_reducible refine (rat_Int.calls a2 t452 t453 t456 _ A130.out).mono ?_
                rintro e w149 ⟨v454, v457, rfl, ho0, ho1, hb⟩
                refine ⟨_, rfl, ?_⟩
                have HO455 := Aside0.mk (Kd.R_lower (Kd.R_new' (Kd.R_new' (Kd.R_new' (Kd.R_new' (Kd.R_new' (Kd.R_new' (Kd.R_new' (Kd.R_new' ho0 (Kd.R_lt (dR HO_396001.out))) (Kd.R_lt (dR HO_396002.out))) (Kd.R_lt (dR HO_436001.out))) (Kd.R_lt (dR HO_436002.out))) (Kd.R_lt (dR HO438.out))) (Kd.R_lt (dR HO441.out))) (Kd.R_lt (dR HO445.out))) (Kd.R_lt (dR HO448.out))) (below_size (by repeat (first | (with_reducible first | exact HB.out | apply below_alloc | apply pw_below_drewN | apply below_drew1 | refine below_set ?_ GE380.out | refine below_set ?_ GE395.out | refine below_set ?_ GE435.out | refine below_set ?_ GE450.out) | exact HB.out))))
                have HO458 := Aside0.mk (Kd.R_lower (Kd.R_new' (Kd.R_new' (Kd.R_new' (Kd.R_new' (Kd.R_new' (Kd.R_new' (Kd.R_new' (Kd.R_new' ho1 (Kd.R_lt (dR HO_396001.out))) (Kd.R_lt (dR HO_396002.out))) (Kd.R_lt (dR HO_436001.out))) (Kd.R_lt (dR HO_436002.out))) (Kd.R_lt (dR HO438.out))) (Kd.R_lt (dR HO441.out))) (Kd.R_lt (dR HO445.out))) (Kd.R_lt (dR HO448.out))) (below_size (by repeat (first | (with_reducible first | exact HB.out | apply below_alloc | apply pw_below_drewN | apply below_drew1 | refine below_set ?_ GE380.out | refine below_set ?_ GE395.out | refine below_set ?_ GE435.out | refine below_set ?_ GE450.out) | exact HB.out))))
                replace HO_396001 := Aside0.mk (Kd.R_mono (Kd.R_told (Kd.R_told (Kd.R_old (dR HO_396001.out) hb) (Kd.R_base ho0)) (Kd.R_base ho1)) (fun _ h_ => h_.1))
                replace HO_396002 := Aside0.mk (Kd.R_mono (Kd.R_told (Kd.R_told (Kd.R_old (dR HO_396002.out) hb) (Kd.R_base ho0)) (Kd.R_base ho1)) (fun _ h_ => h_.1))
                replace HO_436001 := Aside0.mk (Kd.R_mono (Kd.R_told (Kd.R_told (Kd.R_old (dR HO_436001.out) hb) (Kd.R_base ho0)) (Kd.R_base ho1)) (fun _ h_ => h_.1))
                replace HO_436002 := Aside0.mk (Kd.R_mono (Kd.R_told (Kd.R_told (Kd.R_old (dR HO_436002.out) hb) (Kd.R_base ho0)) (Kd.R_base ho1)) (fun _ h_ => h_.1))
                replace HO438 := Aside0.mk (Kd.R_mono (Kd.R_told (Kd.R_told (Kd.R_old (dR HO438.out) hb) (Kd.R_base ho0)) (Kd.R_base ho1)) (fun _ h_ => h_.1))
                replace HO441 := Aside0.mk (Kd.R_mono (Kd.R_told (Kd.R_told (Kd.R_old (dR HO441.out) hb) (Kd.R_base ho0)) (Kd.R_base ho1)) (fun _ h_ => h_.1))
                replace HO445 := Aside0.mk (Kd.R_mono (Kd.R_told (Kd.R_told (Kd.R_old (dR HO445.out) hb) (Kd.R_base ho0)) (Kd.R_base ho1)) (fun _ h_ => h_.1))
                replace HO448 := Aside0.mk (Kd.R_mono (Kd.R_told (Kd.R_told (Kd.R_old (dR HO448.out) hb) (Kd.R_base ho0)) (Kd.R_base ho1)) (fun _ h_ => h_.1))
                replace BK380 := Aside0.mk (blk_below (g := gb380) (o := .cells #[.bool a0_0, .slice A0_1 l0_1.length c0_1, .slice A0_2 l0_2.length c0_2] 24 (0, 0)) (dK BK380.out) hb)
                replace BK395 := Aside0.mk (blk_below (g := gb395) (o := .cells #[.bool t387, .slice Ao15 t388.length co15, .slice Ao16 t391.length co16] 28 (0, 0)) (dK BK395.out) hb)
                replace BK435 := Aside0.mk (blk_below (g := gb435) (o := .cells #[.bool t427, .slice Ao120 t428.length co120, .slice Ao121 t431.length co121] 28 (0, 0)) (dK BK435.out) hb)
                replace BK450 := Aside0.mk (blk_below (g := gb450) (o := .cells #[.bool t442, .slice Ao144 t443.length co144, .slice Ao145 t446.length co145] 28 (0, 0)) (dK BK450.out) hb)
                replace HB := Aside0.mk (below_step (by repeat (first | (with_reducible first | exact HB.out | apply below_alloc | apply pw_below_drewN | apply below_drew1 | refine below_set ?_ GE380.out | refine below_set ?_ GE395.out | refine below_set ?_ GE435.out | refine below_set ?_ GE450.out) | exact HB.out)) hb)
                (try clear hb)
                (try clear hb2)
                (try clear hk)
                (try clear hi)
                (try clear ho0)
                (try clear ho1)
                obtain ⟨Ao150, co150, eo150⟩ := Kd.R_slice HO455.out
                (first | subst eo150 | (injection eo150 with f1_ f2_ f3_; have f4_ := f1_.symm; have f5_ := f3_.symm; clear f1_ f2_ f3_; subst f4_; subst f5_))
                obtain ⟨Ao151, co151, eo151⟩ := Kd.R_slice HO458.out
                (first | subst eo151 | (injection eo151 with f1_ f2_ f3_; have f4_ := f1_.symm; have f5_ := f3_.symm; clear f1_ f2_ f3_; subst f4_; subst f5_))
                refine hK.out _ _ ⟨(blk_cell BK435.out 0).trans rfl, (blk_cell BK435.out 1).trans rfl, (blk_cell BK435.out 2).trans rfl, (blk_cell BK395.out 0).trans rfl, (blk_cell BK395.out 1).trans rfl, (blk_cell BK395.out 2).trans rfl, (blk_cell BK450.out 0).trans rfl, (blk_cell BK450.out 1).trans rfl, (blk_cell BK450.out 2).trans rfl⟩ (fun hHeld => ?_)
                clear hK K
                refine norm_ (a' := ?_) ?_ ?_
                rotate_left
                ·show Act.put _ (some 160) _ = _
                 simp only [Act.put, List.setIfInBounds_toArray, List.set_cons_zero, List.set_cons_succ, i64_w, i32_w]
                 rfl
                refine one_ (i := 23) (N := some 161) #[true, true, true, true, true, true, true, true, true, true, true, true, true, true, true, true, true, true, true, true, true, true, true, true, false, false] rfl rfl (one_of HT_.out (by kernel_rfl)) (by decide) (fun K hK => ?_)
                refine goes_ Try.func17 (by kernel_rfl) rfl #[.agg #[.bool t442, .slice Ao144 t443.length co144, .slice Ao145 t446.length co145], .agg #[.bool t452, .slice Ao150 t453.length co150, .slice Ao151 t456.length co151]] (by rfl) rfl rfl dA ?_
                with_reducible refine (plumblaw05_one.calls kj101 t442 _ _ t443 _ _ t446 t452 _ _ t453 _ _ t456 t459 _ ?side1 ?side2 ?side3 ?side4 ?side5 ?side6 ?side7 ?side8 A131.out).mono ?_
                (case side1 => exact dC (Kd.R_reads' HO445.out).2.2)
                (case side2 => exact (Kd.R_reads' HO445.out).2.1)
                (case side3 => exact dC (Kd.R_reads' HO448.out).2.2)
                (case side4 => exact (Kd.R_reads' HO448.out).2.1)
                (case side5 => exact dC (Kd.R_reads' HO455.out).2.2)
                (case side6 => exact (Kd.R_reads' HO455.out).2.1)
                (case side7 => exact dC (Kd.R_reads' HO458.out).2.2)
                (case side8 => exact (Kd.R_reads' HO458.out).2.1)
                rintro e w152 ⟨rfl, hb⟩
                refine ⟨_, rfl, ?_⟩
                replace HO_396001 := Aside0.mk (Kd.R_below (dR HO_396001.out) hb)
                replace HO_396002 := Aside0.mk (Kd.R_below (dR HO_396002.out) hb)
                replace HO_436001 := Aside0.mk (Kd.R_below (dR HO_436001.out) hb)
                replace HO_436002 := Aside0.mk (Kd.R_below (dR HO_436002.out) hb)
                replace HO438 := Aside0.mk (Kd.R_below (dR HO438.out) hb)
                replace HO441 := Aside0.mk (Kd.R_below (dR HO441.out) hb)
                replace HO445 := Aside0.mk (Kd.R_below (dR HO445.out) hb)
                replace HO448 := Aside0.mk (Kd.R_below (dR HO448.out) hb)
                replace HO455 := Aside0.mk (Kd.R_below (dR HO455.out) hb)
                replace HO458 := Aside0.mk (Kd.R_below (dR HO458.out) hb)
                replace BK380 := Aside0.mk (blk_below (g := gb380) (o := .cells #[.bool a0_0, .slice A0_1 l0_1.length c0_1, .slice A0_2 l0_2.length c0_2] 24 (0, 0)) (dK BK380.out) hb)
                replace BK395 := Aside0.mk (blk_below (g := gb395) (o := .cells #[.bool t387, .slice Ao15 t388.length co15, .slice Ao16 t391.length co16] 28 (0, 0)) (dK BK395.out) hb)
                replace BK435 := Aside0.mk (blk_below (g := gb435) (o := .cells #[.bool t427, .slice Ao120 t428.length co120, .slice Ao121 t431.length co121] 28 (0, 0)) (dK BK435.out) hb)
                replace BK450 := Aside0.mk (blk_below (g := gb450) (o := .cells #[.bool t442, .slice Ao144 t443.length co144, .slice Ao145 t446.length co145] 28 (0, 0)) (dK BK450.out) hb)
                replace HB := Aside0.mk (below_step (by repeat (first | (with_reducible first | exact HB.out | apply below_alloc | apply pw_below_drewN | apply below_drew1 | refine below_set ?_ GE380.out | refine below_set ?_ GE395.out | refine below_set ?_ GE435.out | refine below_set ?_ GE450.out) | exact HB.out)) hb)
                (try clear hb)
                (try clear hb2)
                (try clear hk)
                (try clear hi)
                refine hK.out _ _ ⟨(blk_cell BK435.out 0).trans rfl, (blk_cell BK435.out 1).trans rfl, (blk_cell BK435.out 2).trans rfl, (blk_cell BK395.out 0).trans rfl, (blk_cell BK395.out 1).trans rfl, (blk_cell BK395.out 2).trans rfl, (blk_cell BK450.out 0).trans rfl, (blk_cell BK450.out 1).trans rfl, (blk_cell BK450.out 2).trans rfl⟩ (fun hHeld => ?_)
                clear hK K
                refine norm_ (a' := ?_) ?_ ?_
                rotate_left
                ·show Act.put _ (some 161) _ = _
                 simp only [Act.put, List.setIfInBounds_toArray, List.set_cons_zero, List.set_cons_succ, i64_w, i32_w]
                 rfl
                refine pP 24 (some 162) ?_
                refine pP 25 (some 6) ?_
                refine done_ (done_of HT_.out (by kernel_rfl)) ?_
                try go_wp2
                go_ret
                exact ⟨dE, by repeat (first | (with_reducible first | exact HB.out | apply below_alloc | apply pw_below_drewN | apply below_drew1 | refine below_set ?_ GE380.out | refine below_set ?_ GE395.out | refine below_set ?_ GE435.out | refine below_set ?_ GE450.out) | exact HB.out)⟩
               ·replace c129 := Bool.eq_false_iff.mpr c129
                subst c129
                have H1 : (none) = some r := by rw [if_neg (show ¬ (false = true) by decide)] at H; exact H
                clear H
                have H := H1
                clear H1
                exact absurd H (by simp)
              ·rw [if_neg c127] at H
               have c127b0 : (t449 == 0) = false := beq_eq_false_iff_ne.mpr c127
               have c127b1 : (t449 != 0) = true := bne_iff_ne.mpr c127
               exact absurd H (by simp)
             ·rw [if_neg c126] at H
              have c126b0 : (t434 == 0) = false := beq_eq_false_iff_ne.mpr c126
              have c126b1 : (t434 != 0) = true := bne_iff_ne.mpr c126
              exact absurd H (by simp)
            ·rw [if_neg c125] at H
             have c125b0 : (t424 == 0) = false := beq_eq_false_iff_ne.mpr c125
             have c125b1 : (t424 != 0) = true := bne_iff_ne.mpr c125
             exact absurd H (by simp)
           ·rw [if_neg c124] at H
            have c124b0 : (t417 == 0) = false := beq_eq_false_iff_ne.mpr c124
            have c124b1 : (t417 != 0) = true := bne_iff_ne.mpr c124
            exact absurd H (by simp)

end Go.Proofs.Ytmdmgbllpgkpeaa.PA
