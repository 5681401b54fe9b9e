/- A part of the proof (13). -/
import Derived.Test.YtiogfeeaepkkmaaYKGVKG2
import Derived.Test.YtiogfeeaepkkmaaYKGVKG6
import Derived.Test.YtiogfeeaepkkmaaYKGVKG12
namespace Go.Proofs.Ytiogfeeaepkkmaa.PA
open Go.RowKit Go.Proofs.YtiogfeeaepkkmaaW.PrintWords Go.Proofs.YtiogfeeaepkkmaaW.PrintLast Go.Proofs.YtiogfeeaepkkmaaW.PrintMore
attribute [local go_sem] max2_int min2_int max_two min_two max_three min_three max_four min_four
set_option linter.unusedVariables false
set_option linter.unusedSimpArgs false
def plumblaw05_mul.f (k : Nat) (a0_0 : Bool) (l0_1 : List Int) (l0_2 : List Int) (a1_0 : Bool) (l1_1 : List Int) (l1_2 : List Int) : Option (Bool × List Int × List Int × Bool) := (rat_Mul.f k a0_0 l0_1 l0_2 a1_0 l1_1 l1_2).bind fun bt417 => (if bt417.2.2.2 = 0 then ((rat_Check.f k bt417.1 bt417.2.1 bt417.2.2.1).bind fun t426 => (some (bt417.1, bt417.2.1, bt417.2.2.1, (t426 == 0)))) else (none))
def plumblaw05_mul.T2 : Bool × List (List Nat × List Nat) := (true, [([], []), ([], []), ([1], [1]), ([2], [2]), ([3], [3]), ([4, 3, 3], [3, 4]), ([5, 3], [3, 5]), ([3, 6], [3, 6]), ([0, 5, 0], [0]), ([7, 8, 0, 1, 2, 3, 4, 5, 6, 7, 8], [7])])
def plumblaw05_mul.B2 : List Nat := [0, 0, 2, 6, 14, 30, 62, 126, 63, 511]
theorem plumblaw05_mul.tab2 : rtab .any (opsOf Try.f9 2) = plumblaw05_mul.T2 := by kernel_rfl
theorem plumblaw05_mul.bits2 : waitsOk plumblaw05_mul.T2.2 plumblaw05_mul.B2 = true := by kernel_rfl
set_option maxHeartbeats 8000000 in
set_option maxRecDepth 100000 in
theorem plumblaw05_mul.calls (k : Nat) (a0_0 : Bool) (A0_1 : Option Addr) (c0_1 : Nat) (l0_1 : List Int) (A0_2 : Option Addr) (c0_2 : Nat) (l0_2 : List Int) (a1_0 : Bool) (A1_1 : Option Addr) (c1_1 : Nat) (l1_1 : List Int) (A1_2 : Option Addr) (c1_2 : Nat) (l1_2 : List Int) (r1 : Bool) (r2 : List Int) (r3 : List Int) (r4 : Bool) (w : World) (hr0_1 : Kd.C (Kd.int .u64) w A0_1 l0_1.length l0_1) (hc0_1 : l0_1.length ≤ c0_1) (hr0_2 : Kd.C (Kd.int .u64) w A0_2 l0_2.length l0_2) (hc0_2 : l0_2.length ≤ c0_2) (hr1_1 : Kd.C (Kd.int .u64) w A1_1 l1_1.length l1_1) (hc1_1 : l1_1.length ≤ c1_1) (hr1_2 : Kd.C (Kd.int .u64) w A1_2 l1_2.length l1_2) (hc1_2 : l1_2.length ≤ c1_2) (h : plumblaw05_mul.f k a0_0 l0_1 l0_2 a1_0 l1_1 l1_2 = some (r1, r2, r3, r4)) :
  Calls Try.prog 9 #[.agg #[.bool a0_0, .slice A0_1 l0_1.length c0_1, .slice A0_2 l0_2.length c0_2], .agg #[.bool a1_0, .slice A1_1 l1_1.length c1_1, .slice A1_2 l1_2.length c1_2]] w fun e w' => ∃ v1_ v2_ : Value, e = .returned (.tuple #[.agg #[.bool r1, v1_, v2_], .bool r4]) ∧ Kd.R (Kd.int .u64) 44 w' w.heap.size (fun k_ => some k_ ≠ (v2_ : Value).ownBlock) v1_ r2 ∧ Kd.R (Kd.int .u64) 44 w' w.heap.size (fun k_ => some k_ ≠ (v1_ : Value).ownBlock) v2_ r3 ∧ Below w.heap.size w w' := by
 have hu25 := Try.underlying25
 have HR0_1 := aM hr0_1
 have HC0_1 := aM hc0_1
 clear hr0_1 hc0_1
 have HR0_2 := aM hr0_2
 have HC0_2 := aM hc0_2
 clear hr0_2 hc0_2
 have HR1_1 := aM hr1_1
 have HC1_1 := aM hc1_1
 clear hr1_1 hc1_1
 have HR1_2 := aM hr1_2
 have HC1_2 := aM hc1_2
 clear hr1_2 hc1_2
 have HB := aM (Below.refl w.heap.size w)
 have H := h
 clear h
 unfold plumblaw05_mul.f at H
 replace H := oA H
 obtain ⟨⟨t417, t418, t421, t424⟩, A3, H⟩ := H
 (try dsimp only at H)
 replace H := nO H
 obtain ⟨c4, H⟩ := H
 obtain ⟨c4b0, c4b1⟩ := bT c4
 clear c4
 replace H := oA H
 obtain ⟨t426, A5, H⟩ := H
 (try dsimp only at H)
 simp only [Option.some.injEq, Prod.mk.injEq] at H
 obtain ⟨rfl, rfl, rfl, rfl⟩ := H
 go_enter Try.func9, Try.ntmps9
 try go_wp2_with (first | ((with_reducible refine gate_dst (N := 2) rfl ?_); refine bE 2 #[.bool a0_0, .slice A0_1 l0_1.length c0_1, .slice A0_2 l0_2.length c0_2] 25 ?_; intro gb414 hg w6 hbox hb; have BK414 := aM (hbox); have GE414 : Aside0 (w.heap.size ≤ gb414) := gE hg; replace HB := hS HB.out hb; clear hb hbox hg) | ((with_reducible refine gate_dst (N := 3) rfl ?_); refine bE 3 #[.bool a1_0, .slice A1_1 l1_1.length c1_1, .slice A1_2 l1_2.length c1_2] 25 ?_; intro gb415 hg w7 hbox hb; have BK415 := aM (hbox); have GE415 : Aside0 (w.heap.size ≤ gb415) := gE hg; replace HB := hS HB.out hb; have NB414_415 := nL hg BK414.out; have NB415_414 := nG hg BK414.out; replace BK414 := bB BK414.out hb; clear hb hbox hg) | ((with_reducible refine gate_dst (N := 4) rfl ?_); refine bE 4 #[.bool false, .slice none 0 0, .slice none 0 0] 25 ?_; intro gb416 hg w8 hbox hb; have BK416 := aM (hbox); have GE416 : Aside0 (w.heap.size ≤ gb416) := gE hg; replace HB := hS HB.out hb; have NB414_416 := nL hg BK414.out; have NB416_414 := nG hg BK414.out; replace BK414 := bB BK414.out hb; have NB415_416 := nL hg BK415.out; have NB416_415 := nG hg BK415.out; replace BK415 := bB BK415.out hb; clear hb hbox hg; have hnb9 := NB414_415.out; have hnc9 := NB415_414.out; have hnb10 := NB414_416.out; have hnc10 := NB416_414.out; obtain ⟨hcz11_0, hcz11_1, hcz11_2⟩ := cz3 BK414.out; obtain ⟨hfz11_0, hfz11_1, hfz11_2⟩ := fz3 BK414.out; have hnb12 := NB415_416.out; have hnc12 := NB416_415.out; obtain ⟨hcz13_0, hcz13_1, hcz13_2⟩ := cz3 BK415.out; obtain ⟨hfz13_0, hfz13_1, hfz13_2⟩ := fz3 BK415.out) | ((with_reducible refine gate_callee (f := 22) rfl ?_); refine gL (some 11) Try.func22 #[.agg #[.bool a0_0, .slice A0_1 l0_1.length c0_1, .slice A0_2 l0_2.length c0_2], .agg #[.bool a1_0, .slice A1_1 l1_1.length c1_1, .slice A1_2 l1_2.length c1_2]] ?_; (with_reducible refine (rat_Mul.calls k a0_0 _ _ l0_1 _ _ l0_2 a1_0 _ _ l1_1 _ _ l1_2 t417 t418 t421 t424 _ ?side1 HC0_1.out ?side3 HC0_2.out ?side5 HC1_1.out ?side7 HC1_2.out A3.out).mono ?_); (case side1 => exact dC (Kd.C_below HR0_1.out HB.out)); (case side3 => exact dC (Kd.C_below HR0_2.out HB.out)); (case side5 => exact dC (Kd.C_below HR1_1.out HB.out)); (case side7 => exact dC (Kd.C_below HR1_2.out HB.out)); rintro e w14 ⟨v419, v422, rfl, ho0, ho1, hb⟩; refine ⟨_, rfl, ?_⟩; have HO420 := aM (Kd.R_lower ho0 (below_size eB)); have HO423 := aM (Kd.R_lower ho1 (below_size eB)); replace BK414 := bB BK414.out hb; replace BK415 := bB BK415.out hb; replace BK416 := bB BK416.out hb; replace HB := hS HB.out hb; (try clear hb); (try clear ho0); (try clear ho1)) | ((with_reducible refine gate_dst (N := 6) rfl ?_); refine bE 6 #[.bool false, .slice none 0 0, .slice none 0 0] 25 ?_; intro gb425 hg w15 hbox hb; replace HO420 := oB HO420.out hb; replace HO423 := oB HO423.out hb; have BK425 := aM (hbox); have GE425 : Aside0 (w.heap.size ≤ gb425) := gE hg; replace HB := hS HB.out hb; have NB414_425 := nL hg BK414.out; have NB425_414 := nG hg BK414.out; replace BK414 := bB BK414.out hb; have NB415_425 := nL hg BK415.out; have NB425_415 := nG hg BK415.out; replace BK415 := bB BK415.out hb; have NB416_425 := nL hg BK416.out; have NB425_416 := nG hg BK416.out; replace BK416 := bB BK416.out hb; clear hb hbox hg; have hnb16 := NB425_414.out; have hnc16 := NB414_425.out; have hnb17 := NB425_415.out; have hnc17 := NB415_425.out; have hnb18 := NB425_416.out; have hnc18 := NB416_425.out; obtain ⟨hcz19_0, hcz19_1, hcz19_2⟩ := cz3 BK425.out; obtain ⟨hfz19_0, hfz19_1, hfz19_2⟩ := fz3 BK425.out; obtain ⟨Ao20, co20, rfl⟩ := Kd.R_slice HO420.out; obtain ⟨Ao21, co21, rfl⟩ := Kd.R_slice HO423.out))
 have n0_ : Aside0 (Kd.R (Kd.int .u64) 44 (((w15.setCell ⟨gb425, 0, none⟩ (.bool t417)).setCell ⟨gb425, 1, none⟩ (.slice Ao20 t418.length co20)).setCell ⟨gb425, 2, none⟩ (.slice Ao21 t421.length co21)) w.heap.size (fun k_ => oN Ao21 t421 co21 k_) (.slice Ao20 t418.length co20) t418) := ⟨oR HO420.out BK425.out⟩
 have n1_ : Aside0 (Kd.R (Kd.int .u64) 44 (((w15.setCell ⟨gb425, 0, none⟩ (.bool t417)).setCell ⟨gb425, 1, none⟩ (.slice Ao20 t418.length co20)).setCell ⟨gb425, 2, none⟩ (.slice Ao21 t421.length co21)) w.heap.size (fun k_ => oN Ao20 t418 co20 k_) (.slice Ao21 t421.length co21) t421) := ⟨oR HO423.out BK425.out⟩
 have n2_ : Aside0 ((((w15.setCell ⟨gb425, 0, none⟩ (.bool t417)).setCell ⟨gb425, 1, none⟩ (.slice Ao20 t418.length co20)).setCell ⟨gb425, 2, none⟩ (.slice Ao21 t421.length co21)).heap[gb414]? = some (.cells #[.bool a0_0, .slice A0_1 l0_1.length c0_1, .slice A0_2 l0_2.length c0_2] 25 (0, 0))) := ⟨dU1 BK414.out NB414_425.out⟩
 have n3_ : Aside0 ((((w15.setCell ⟨gb425, 0, none⟩ (.bool t417)).setCell ⟨gb425, 1, none⟩ (.slice Ao20 t418.length co20)).setCell ⟨gb425, 2, none⟩ (.slice Ao21 t421.length co21)).heap[gb415]? = some (.cells #[.bool a1_0, .slice A1_1 l1_1.length c1_1, .slice A1_2 l1_2.length c1_2] 25 (0, 0))) := ⟨dU1 BK415.out NB415_425.out⟩
 have n4_ : Aside0 ((((w15.setCell ⟨gb425, 0, none⟩ (.bool t417)).setCell ⟨gb425, 1, none⟩ (.slice Ao20 t418.length co20)).setCell ⟨gb425, 2, none⟩ (.slice Ao21 t421.length co21)).heap[gb416]? = some (.cells #[.bool false, .slice none 0 0, .slice none 0 0] 25 (0, 0))) := ⟨dU1 BK416.out NB416_425.out⟩
 have n5_ : Aside0 ((((w15.setCell ⟨gb425, 0, none⟩ (.bool t417)).setCell ⟨gb425, 1, none⟩ (.slice Ao20 t418.length co20)).setCell ⟨gb425, 2, none⟩ (.slice Ao21 t421.length co21)).heap[gb425]? = some (.cells #[.bool t417, .slice Ao20 t418.length co20, .slice Ao21 t421.length co21] 25 (0, 0))) := ⟨dP BK425.out⟩
 have n6_ : Aside0 (Below w.heap.size w (((w15.setCell ⟨gb425, 0, none⟩ (.bool t417)).setCell ⟨gb425, 1, none⟩ (.slice Ao20 t418.length co20)).setCell ⟨gb425, 2, none⟩ (.slice Ao21 t421.length co21))) := ⟨eB⟩
 (try clear HO420)
 (try clear HO423)
 (try clear BK414)
 (try clear BK415)
 (try clear BK416)
 (try clear BK425)
 (try clear HB)
 generalize (((w15.setCell ⟨gb425, 0, none⟩ (.bool t417)).setCell ⟨gb425, 1, none⟩ (.slice Ao20 t418.length co20)).setCell ⟨gb425, 2, none⟩ (.slice Ao21 t421.length co21)) = w22 at n0_ n1_ n2_ n3_ n4_ n5_ n6_ ⊢
 have HO420 := n0_
 have HO423 := n1_
 have BK414 := n2_
 have BK415 := n3_
 have BK416 := n4_
 have BK425 := n5_
 have HB := n6_
 clear n0_ n1_ n2_ n3_ n4_ n5_ n6_
 replace HO420 := aM (Kd.R_drew HO420.out)
 replace HO423 := aM (Kd.R_drew HO423.out)
 replace BK414 := aM (blk_drew BK414.out)
 replace BK415 := aM (blk_drew BK415.out)
 replace BK416 := aM (blk_drew BK416.out)
 replace BK425 := aM (blk_drew BK425.out)
 replace HB := aM (below_drew1 HB.out)
 refine start_ (n := 10) (S := fun w' => w'.cell? ⟨gb425, 0, none⟩ = some (.bool t417) ∧ w'.cell? ⟨gb425, 1, none⟩ = some (.slice Ao20 t418.length co20) ∧ w'.cell? ⟨gb425, 2, none⟩ = some (.slice Ao21 t421.length co21)) (ds := []) #[false, false, false, false, false, false, false, false, false, false] (by kernel_rfl) rfl rfl (cz3 BK425.out) (fun hHeld => ?_); refine with_tabW plumblaw05_mul.tab2 plumblaw05_mul.bits2 (fun HT_ HW_ => ?_)
 generalize w22.drew = w23 at HO420 HO423 BK414 BK415 BK416 BK425 HB hHeld ⊢
 refine pP 1 (some 15) ?_
 refine pP 2 (some 16) ?_
 refine pP 3 (some 17) ?_
 refine pH3 0 (some 14) hHeld ?_
 refine pH3 4 (some 18) hHeld ?_
 refine one_ (i := 5) (N := some 19) #[true, true, true, true, true, true, false, false, false, false] rfl rfl (one_of HT_.out (by kernel_rfl)) (by decide) (fun K hK => ?_)
 refine goes_ Try.func19 (by kernel_rfl) rfl #[.agg #[.bool t417, .slice Ao20 t418.length co20, .slice Ao21 t421.length co21]] (by rfl) rfl rfl dA ?_
 with_reducible refine (rat_Check.calls k t417 _ _ t418 _ _ t421 t426 _ ?side1 (Kd.R_reads' HO420.out).2.1 ?side3 (Kd.R_reads' HO423.out).2.1 A5.out).mono ?_
 (case side1 => exact dC (Kd.R_reads' HO420.out).2.2)
 (case side3 => exact dC (Kd.R_reads' HO423.out).2.2)
 rintro e w24 ⟨rfl, hb⟩
 refine ⟨_, rfl, ?_⟩
 replace HO420 := oB HO420.out hb
 replace HO423 := oB HO423.out hb
 replace BK414 := bB BK414.out hb
 replace BK415 := bB BK415.out hb
 replace BK416 := bB BK416.out hb
 replace BK425 := bB BK425.out hb
 replace HB := hS HB.out hb
 (try clear hb)
 (try clear hb2)
 (try clear hk)
 (try clear hi)
 refine hK.out _ _ (cz3 BK425.out) (fun hHeld => ?_)
 clear hK K
 refine norm_ (a' := ?_) ?_ ?_
 rotate_left
 ·show Act.put _ (some 19) _ = _
  simp only [Act.put, List.setIfInBounds_toArray, List.set_cons_zero, List.set_cons_succ, i64_w, i32_w]
  rfl
 refine pP 6 (some 20) ?_
 refine pP 7 (some 21) ?_
 refine one_ (i := 8) (N := none) #[true, true, true, true, true, true, true, true, true, false] rfl rfl (one_of HT_.out (by kernel_rfl)) (by decide) (fun K hK => ?_)
 have hs25 : w24.cell? ⟨gb416, 0, none⟩ = some (.bool false) := (blk_cell BK416.out 0).trans rfl
 have hfs25 := blk_frozen BK416.out 0
 have hns25_0 := NB414_416.out
 have hns25_1 := NB415_416.out
 have hns25_3 := NB425_416.out
 have hms25_0 := NB416_414.out
 have hms25_1 := NB416_415.out
 have hms25_3 := NB416_425.out
 have hs26 : w24.cell? ⟨gb416, 1, none⟩ = some (.slice none 0 0) := (blk_cell BK416.out 1).trans rfl
 have hfs26 := blk_frozen BK416.out 1
 have hns26_0 := NB414_416.out
 have hns26_1 := NB415_416.out
 have hns26_3 := NB425_416.out
 have hms26_0 := NB416_414.out
 have hms26_1 := NB416_415.out
 have hms26_3 := NB416_425.out
 have hs27 : w24.cell? ⟨gb416, 2, none⟩ = some (.slice none 0 0) := (blk_cell BK416.out 2).trans rfl
 have hfs27 := blk_frozen BK416.out 2
 have hns27_0 := NB414_416.out
 have hns27_1 := NB415_416.out
 have hns27_3 := NB425_416.out
 have hms27_0 := NB416_414.out
 have hms27_1 := NB416_415.out
 have hms27_3 := NB416_425.out
 refine skip_ (w1 := ?_) (by rfl) rfl ?_ ?_
 rotate_left
 ·go_simp
  rfl
 refine hK.out _ _ ⟨((cell_far (p := ⟨gb416, _, none⟩) NB425_416.out _).trans (((cell_far (p := ⟨gb416, _, none⟩) NB425_416.out _).trans (((cell_far (p := ⟨gb416, _, none⟩) NB425_416.out _).trans (hHeld.1)))))), ((cell_far (p := ⟨gb416, _, none⟩) NB425_416.out _).trans (((cell_far (p := ⟨gb416, _, none⟩) NB425_416.out _).trans (((cell_far (p := ⟨gb416, _, none⟩) NB425_416.out _).trans (hHeld.2.1)))))), ((cell_far (p := ⟨gb416, _, none⟩) NB425_416.out _).trans (((cell_far (p := ⟨gb416, _, none⟩) NB425_416.out _).trans (((cell_far (p := ⟨gb416, _, none⟩) NB425_416.out _).trans (hHeld.2.2))))))⟩ (fun hHeld => ?_)
 clear hK K
 refine pP 9 (some 5) ?_
 refine done_ (done_of HT_.out (by kernel_rfl)) ?_
 try go_wp2
 refine bodyPost_ret (results_ct rfl _ _ gb416 25 #[.bool t417, .slice Ao20 t418.length co20, .slice Ao21 t421.length co21] (0, 0) _ rfl (dP BK416.out) Try.underlying25 rfl (by kernel_rfl)) rfl ?_
 exact ⟨_, _, dE, oR HO420.out BK416.out, oR HO423.out BK416.out, eB⟩
def plumblaw05_sub.f (k : Nat) (a0_0 : Bool) (l0_1 : List Int) (l0_2 : List Int) (a1_0 : Bool) (l1_1 : List Int) (l1_2 : List Int) : Option (Bool × List Int × List Int × Bool) := (rat_Sub.f k a0_0 l0_1 l0_2 a1_0 l1_1 l1_2).bind fun bt432 => (if bt432.2.2.2 = 0 then ((rat_Check.f k bt432.1 bt432.2.1 bt432.2.2.1).bind fun t441 => (some (bt432.1, bt432.2.1, bt432.2.2.1, (t441 == 0)))) else (none))
def plumblaw05_sub.T2 : Bool × List (List Nat × List Nat) := (true, [([], []), ([], []), ([1], [1]), ([2], [2]), ([3], [3]), ([4, 3, 3], [3, 4]), ([5, 3], [3, 5]), ([3, 6], [3, 6]), ([0, 5, 0], [0]), ([7, 8, 0, 1, 2, 3, 4, 5, 6, 7, 8], [7])])
def plumblaw05_sub.B2 : List Nat := [0, 0, 2, 6, 14, 30, 62, 126, 63, 511]
theorem plumblaw05_sub.tab2 : rtab .any (opsOf Try.f10 2) = plumblaw05_sub.T2 := by kernel_rfl
theorem plumblaw05_sub.bits2 : waitsOk plumblaw05_sub.T2.2 plumblaw05_sub.B2 = true := by kernel_rfl
set_option maxHeartbeats 8000000 in
set_option maxRecDepth 100000 in
theorem plumblaw05_sub.calls (k : Nat) (a0_0 : Bool) (A0_1 : Option Addr) (c0_1 : Nat) (l0_1 : List Int) (A0_2 : Option Addr) (c0_2 : Nat) (l0_2 : List Int) (a1_0 : Bool) (A1_1 : Option Addr) (c1_1 : Nat) (l1_1 : List Int) (A1_2 : Option Addr) (c1_2 : Nat) (l1_2 : List Int) (r1 : Bool) (r2 : List Int) (r3 : List Int) (r4 : Bool) (w : World) (hr0_1 : Kd.C (Kd.int .u64) w A0_1 l0_1.length l0_1) (hc0_1 : l0_1.length ≤ c0_1) (hr0_2 : Kd.C (Kd.int .u64) w A0_2 l0_2.length l0_2) (hc0_2 : l0_2.length ≤ c0_2) (hr1_1 : Kd.C (Kd.int .u64) w A1_1 l1_1.length l1_1) (hc1_1 : l1_1.length ≤ c1_1) (hr1_2 : Kd.C (Kd.int .u64) w A1_2 l1_2.length l1_2) (hc1_2 : l1_2.length ≤ c1_2) (h : plumblaw05_sub.f k a0_0 l0_1 l0_2 a1_0 l1_1 l1_2 = some (r1, r2, r3, r4)) :
  Calls Try.prog 10 #[.agg #[.bool a0_0, .slice A0_1 l0_1.length c0_1, .slice A0_2 l0_2.length c0_2], .agg #[.bool a1_0, .slice A1_1 l1_1.length c1_1, .slice A1_2 l1_2.length c1_2]] w fun e w' => ∃ v1_ v2_ : Value, e = .returned (.tuple #[.agg #[.bool r1, v1_, v2_], .bool r4]) ∧ Kd.R (Kd.int .u64) 44 w' w.heap.size (fun k_ => some k_ ≠ (v2_ : Value).ownBlock) v1_ r2 ∧ Kd.R (Kd.int .u64) 44 w' w.heap.size (fun k_ => some k_ ≠ (v1_ : Value).ownBlock) v2_ r3 ∧ Below w.heap.size w w' := by
 have hu25 := Try.underlying25
 have HR0_1 := aM hr0_1
 have HC0_1 := aM hc0_1
 clear hr0_1 hc0_1
 have HR0_2 := aM hr0_2
 have HC0_2 := aM hc0_2
 clear hr0_2 hc0_2
 have HR1_1 := aM hr1_1
 have HC1_1 := aM hc1_1
 clear hr1_1 hc1_1
 have HR1_2 := aM hr1_2
 have HC1_2 := aM hc1_2
 clear hr1_2 hc1_2
 have HB := aM (Below.refl w.heap.size w)
 have H := h
 clear h
 unfold plumblaw05_sub.f at H
 replace H := oA H
 obtain ⟨⟨t432, t433, t436, t439⟩, A3, H⟩ := H
 (try dsimp only at H)
 replace H := nO H
 obtain ⟨c4, H⟩ := H
 obtain ⟨c4b0, c4b1⟩ := bT c4
 clear c4
 replace H := oA H
 obtain ⟨t441, A5, H⟩ := H
 (try dsimp only at H)
 simp only [Option.some.injEq, Prod.mk.injEq] at H
 obtain ⟨rfl, rfl, rfl, rfl⟩ := H
 go_enter Try.func10, Try.ntmps10
 try go_wp2_with (first | ((with_reducible refine gate_dst (N := 2) rfl ?_); refine bE 2 #[.bool a0_0, .slice A0_1 l0_1.length c0_1, .slice A0_2 l0_2.length c0_2] 25 ?_; intro gb429 hg w6 hbox hb; have BK429 := aM (hbox); have GE429 : Aside0 (w.heap.size ≤ gb429) := gE hg; replace HB := hS HB.out hb; clear hb hbox hg) | ((with_reducible refine gate_dst (N := 3) rfl ?_); refine bE 3 #[.bool a1_0, .slice A1_1 l1_1.length c1_1, .slice A1_2 l1_2.length c1_2] 25 ?_; intro gb430 hg w7 hbox hb; have BK430 := aM (hbox); have GE430 : Aside0 (w.heap.size ≤ gb430) := gE hg; replace HB := hS HB.out hb; have NB429_430 := nL hg BK429.out; have NB430_429 := nG hg BK429.out; replace BK429 := bB BK429.out hb; clear hb hbox hg) | ((with_reducible refine gate_dst (N := 4) rfl ?_); refine bE 4 #[.bool false, .slice none 0 0, .slice none 0 0] 25 ?_; intro gb431 hg w8 hbox hb; have BK431 := aM (hbox); have GE431 : Aside0 (w.heap.size ≤ gb431) := gE hg; replace HB := hS HB.out hb; have NB429_431 := nL hg BK429.out; have NB431_429 := nG hg BK429.out; replace BK429 := bB BK429.out hb; have NB430_431 := nL hg BK430.out; have NB431_430 := nG hg BK430.out; replace BK430 := bB BK430.out hb; clear hb hbox hg; have hnb9 := NB429_430.out; have hnc9 := NB430_429.out; have hnb10 := NB429_431.out; have hnc10 := NB431_429.out; obtain ⟨hcz11_0, hcz11_1, hcz11_2⟩ := cz3 BK429.out; obtain ⟨hfz11_0, hfz11_1, hfz11_2⟩ := fz3 BK429.out; have hnb12 := NB430_431.out; have hnc12 := NB431_430.out; obtain ⟨hcz13_0, hcz13_1, hcz13_2⟩ := cz3 BK430.out; obtain ⟨hfz13_0, hfz13_1, hfz13_2⟩ := fz3 BK430.out) | ((with_reducible refine gate_callee (f := 23) rfl ?_); refine gL (some 11) Try.func23 #[.agg #[.bool a0_0, .slice A0_1 l0_1.length c0_1, .slice A0_2 l0_2.length c0_2], .agg #[.bool a1_0, .slice A1_1 l1_1.length c1_1, .slice A1_2 l1_2.length c1_2]] ?_; (with_reducible refine (rat_Sub.calls k a0_0 _ _ l0_1 _ _ l0_2 a1_0 _ _ l1_1 _ _ l1_2 t432 t433 t436 t439 _ ?side1 HC0_1.out ?side3 HC0_2.out ?side5 HC1_1.out ?side7 HC1_2.out A3.out).mono ?_); (case side1 => exact dC (Kd.C_below HR0_1.out HB.out)); (case side3 => exact dC (Kd.C_below HR0_2.out HB.out)); (case side5 => exact dC (Kd.C_below HR1_1.out HB.out)); (case side7 => exact dC (Kd.C_below HR1_2.out HB.out)); rintro e w14 ⟨v434, v437, rfl, ho0, ho1, hb⟩; refine ⟨_, rfl, ?_⟩; have HO435 := aM (Kd.R_lower ho0 (below_size eB)); have HO438 := aM (Kd.R_lower ho1 (below_size eB)); replace BK429 := bB BK429.out hb; replace BK430 := bB BK430.out hb; replace BK431 := bB BK431.out hb; replace HB := hS HB.out hb; (try clear hb); (try clear ho0); (try clear ho1)) | ((with_reducible refine gate_dst (N := 6) rfl ?_); refine bE 6 #[.bool false, .slice none 0 0, .slice none 0 0] 25 ?_; intro gb440 hg w15 hbox hb; replace HO435 := oB HO435.out hb; replace HO438 := oB HO438.out hb; have BK440 := aM (hbox); have GE440 : Aside0 (w.heap.size ≤ gb440) := gE hg; replace HB := hS HB.out hb; have NB429_440 := nL hg BK429.out; have NB440_429 := nG hg BK429.out; replace BK429 := bB BK429.out hb; have NB430_440 := nL hg BK430.out; have NB440_430 := nG hg BK430.out; replace BK430 := bB BK430.out hb; have NB431_440 := nL hg BK431.out; have NB440_431 := nG hg BK431.out; replace BK431 := bB BK431.out hb; clear hb hbox hg; have hnb16 := NB440_429.out; have hnc16 := NB429_440.out; have hnb17 := NB440_430.out; have hnc17 := NB430_440.out; have hnb18 := NB440_431.out; have hnc18 := NB431_440.out; obtain ⟨hcz19_0, hcz19_1, hcz19_2⟩ := cz3 BK440.out; obtain ⟨hfz19_0, hfz19_1, hfz19_2⟩ := fz3 BK440.out; obtain ⟨Ao20, co20, rfl⟩ := Kd.R_slice HO435.out; obtain ⟨Ao21, co21, rfl⟩ := Kd.R_slice HO438.out))
 have n0_ : Aside0 (Kd.R (Kd.int .u64) 44 (((w15.setCell ⟨gb440, 0, none⟩ (.bool t432)).setCell ⟨gb440, 1, none⟩ (.slice Ao20 t433.length co20)).setCell ⟨gb440, 2, none⟩ (.slice Ao21 t436.length co21)) w.heap.size (fun k_ => oN Ao21 t436 co21 k_) (.slice Ao20 t433.length co20) t433) := ⟨oR HO435.out BK440.out⟩
 have n1_ : Aside0 (Kd.R (Kd.int .u64) 44 (((w15.setCell ⟨gb440, 0, none⟩ (.bool t432)).setCell ⟨gb440, 1, none⟩ (.slice Ao20 t433.length co20)).setCell ⟨gb440, 2, none⟩ (.slice Ao21 t436.length co21)) w.heap.size (fun k_ => oN Ao20 t433 co20 k_) (.slice Ao21 t436.length co21) t436) := ⟨oR HO438.out BK440.out⟩
 have n2_ : Aside0 ((((w15.setCell ⟨gb440, 0, none⟩ (.bool t432)).setCell ⟨gb440, 1, none⟩ (.slice Ao20 t433.length co20)).setCell ⟨gb440, 2, none⟩ (.slice Ao21 t436.length co21)).heap[gb429]? = some (.cells #[.bool a0_0, .slice A0_1 l0_1.length c0_1, .slice A0_2 l0_2.length c0_2] 25 (0, 0))) := ⟨dU1 BK429.out NB429_440.out⟩
 have n3_ : Aside0 ((((w15.setCell ⟨gb440, 0, none⟩ (.bool t432)).setCell ⟨gb440, 1, none⟩ (.slice Ao20 t433.length co20)).setCell ⟨gb440, 2, none⟩ (.slice Ao21 t436.length co21)).heap[gb430]? = some (.cells #[.bool a1_0, .slice A1_1 l1_1.length c1_1, .slice A1_2 l1_2.length c1_2] 25 (0, 0))) := ⟨dU1 BK430.out NB430_440.out⟩
 have n4_ : Aside0 ((((w15.setCell ⟨gb440, 0, none⟩ (.bool t432)).setCell ⟨gb440, 1, none⟩ (.slice Ao20 t433.length co20)).setCell ⟨gb440, 2, none⟩ (.slice Ao21 t436.length co21)).heap[gb431]? = some (.cells #[.bool false, .slice none 0 0, .slice none 0 0] 25 (0, 0))) := ⟨dU1 BK431.out NB431_440.out⟩
 have n5_ : Aside0 ((((w15.setCell ⟨gb440, 0, none⟩ (.bool t432)).setCell ⟨gb440, 1, none⟩ (.slice Ao20 t433.length co20)).setCell ⟨gb440, 2, none⟩ (.slice Ao21 t436.length co21)).heap[gb440]? = some (.cells #[.bool t432, .slice Ao20 t433.length co20, .slice Ao21 t436.length co21] 25 (0, 0))) := ⟨dP BK440.out⟩
 have n6_ : Aside0 (Below w.heap.size w (((w15.setCell ⟨gb440, 0, none⟩ (.bool t432)).setCell ⟨gb440, 1, none⟩ (.slice Ao20 t433.length co20)).setCell ⟨gb440, 2, none⟩ (.slice Ao21 t436.length co21))) := ⟨eB⟩
 (try clear HO435)
 (try clear HO438)
 (try clear BK429)
 (try clear BK430)
 (try clear BK431)
 (try clear BK440)
 (try clear HB)
 generalize (((w15.setCell ⟨gb440, 0, none⟩ (.bool t432)).setCell ⟨gb440, 1, none⟩ (.slice Ao20 t433.length co20)).setCell ⟨gb440, 2, none⟩ (.slice Ao21 t436.length co21)) = w22 at n0_ n1_ n2_ n3_ n4_ n5_ n6_ ⊢
 have HO435 := n0_
 have HO438 := n1_
 have BK429 := n2_
 have BK430 := n3_
 have BK431 := n4_
 have BK440 := n5_
 have HB := n6_
 clear n0_ n1_ n2_ n3_ n4_ n5_ n6_
 replace HO435 := aM (Kd.R_drew HO435.out)
 replace HO438 := aM (Kd.R_drew HO438.out)
 replace BK429 := aM (blk_drew BK429.out)
 replace BK430 := aM (blk_drew BK430.out)
 replace BK431 := aM (blk_drew BK431.out)
 replace BK440 := aM (blk_drew BK440.out)
 replace HB := aM (below_drew1 HB.out)
 refine start_ (n := 10) (S := fun w' => w'.cell? ⟨gb440, 0, none⟩ = some (.bool t432) ∧ w'.cell? ⟨gb440, 1, none⟩ = some (.slice Ao20 t433.length co20) ∧ w'.cell? ⟨gb440, 2, none⟩ = some (.slice Ao21 t436.length co21)) (ds := []) #[false, false, false, false, false, false, false, false, false, false] (by kernel_rfl) rfl rfl (cz3 BK440.out) (fun hHeld => ?_); refine with_tabW plumblaw05_sub.tab2 plumblaw05_sub.bits2 (fun HT_ HW_ => ?_)
 generalize w22.drew = w23 at HO435 HO438 BK429 BK430 BK431 BK440 HB hHeld ⊢
 refine pP 1 (some 15) ?_
 refine pP 2 (some 16) ?_
 refine pP 3 (some 17) ?_
 refine pH3 0 (some 14) hHeld ?_
 refine pH3 4 (some 18) hHeld ?_
 refine one_ (i := 5) (N := some 19) #[true, true, true, true, true, true, false, false, false, false] rfl rfl (one_of HT_.out (by kernel_rfl)) (by decide) (fun K hK => ?_)
 refine goes_ Try.func19 (by kernel_rfl) rfl #[.agg #[.bool t432, .slice Ao20 t433.length co20, .slice Ao21 t436.length co21]] (by rfl) rfl rfl dA ?_
 with_reducible refine (rat_Check.calls k t432 _ _ t433 _ _ t436 t441 _ ?side1 (Kd.R_reads' HO435.out).2.1 ?side3 (Kd.R_reads' HO438.out).2.1 A5.out).mono ?_
 (case side1 => exact dC (Kd.R_reads' HO435.out).2.2)
 (case side3 => exact dC (Kd.R_reads' HO438.out).2.2)
 rintro e w24 ⟨rfl, hb⟩
 refine ⟨_, rfl, ?_⟩
 replace HO435 := oB HO435.out hb
 replace HO438 := oB HO438.out hb
 replace BK429 := bB BK429.out hb
 replace BK430 := bB BK430.out hb
 replace BK431 := bB BK431.out hb
 replace BK440 := bB BK440.out hb
 replace HB := hS HB.out hb
 (try clear hb)
 (try clear hb2)
 (try clear hk)
 (try clear hi)
 refine hK.out _ _ (cz3 BK440.out) (fun hHeld => ?_)
 clear hK K
 refine norm_ (a' := ?_) ?_ ?_
 rotate_left
 ·show Act.put _ (some 19) _ = _
  simp only [Act.put, List.setIfInBounds_toArray, List.set_cons_zero, List.set_cons_succ, i64_w, i32_w]
  rfl
 refine pP 6 (some 20) ?_
 refine pP 7 (some 21) ?_
 refine one_ (i := 8) (N := none) #[true, true, true, true, true, true, true, true, true, false] rfl rfl (one_of HT_.out (by kernel_rfl)) (by decide) (fun K hK => ?_)
 have hs25 : w24.cell? ⟨gb431, 0, none⟩ = some (.bool false) := (blk_cell BK431.out 0).trans rfl
 have hfs25 := blk_frozen BK431.out 0
 have hns25_0 := NB429_431.out
 have hns25_1 := NB430_431.out
 have hns25_3 := NB440_431.out
 have hms25_0 := NB431_429.out
 have hms25_1 := NB431_430.out
 have hms25_3 := NB431_440.out
 have hs26 : w24.cell? ⟨gb431, 1, none⟩ = some (.slice none 0 0) := (blk_cell BK431.out 1).trans rfl
 have hfs26 := blk_frozen BK431.out 1
 have hns26_0 := NB429_431.out
 have hns26_1 := NB430_431.out
 have hns26_3 := NB440_431.out
 have hms26_0 := NB431_429.out
 have hms26_1 := NB431_430.out
 have hms26_3 := NB431_440.out
 have hs27 : w24.cell? ⟨gb431, 2, none⟩ = some (.slice none 0 0) := (blk_cell BK431.out 2).trans rfl
 have hfs27 := blk_frozen BK431.out 2
 have hns27_0 := NB429_431.out
 have hns27_1 := NB430_431.out
 have hns27_3 := NB440_431.out
 have hms27_0 := NB431_429.out
 have hms27_1 := NB431_430.out
 have hms27_3 := NB431_440.out
 refine skip_ (w1 := ?_) (by rfl) rfl ?_ ?_
 rotate_left
 ·go_simp
  rfl
 refine hK.out _ _ ⟨((cell_far (p := ⟨gb431, _, none⟩) NB440_431.out _).trans (((cell_far (p := ⟨gb431, _, none⟩) NB440_431.out _).trans (((cell_far (p := ⟨gb431, _, none⟩) NB440_431.out _).trans (hHeld.1)))))), ((cell_far (p := ⟨gb431, _, none⟩) NB440_431.out _).trans (((cell_far (p := ⟨gb431, _, none⟩) NB440_431.out _).trans (((cell_far (p := ⟨gb431, _, none⟩) NB440_431.out _).trans (hHeld.2.1)))))), ((cell_far (p := ⟨gb431, _, none⟩) NB440_431.out _).trans (((cell_far (p := ⟨gb431, _, none⟩) NB440_431.out _).trans (((cell_far (p := ⟨gb431, _, none⟩) NB440_431.out _).trans (hHeld.2.2))))))⟩ (fun hHeld => ?_)
 clear hK K
 refine pP 9 (some 5) ?_
 refine done_ (done_of HT_.out (by kernel_rfl)) ?_
 try go_wp2
 refine bodyPost_ret (results_ct rfl _ _ gb431 25 #[.bool t432, .slice Ao20 t433.length co20, .slice Ao21 t436.length co21] (0, 0) _ rfl (dP BK431.out) Try.underlying25 rfl (by kernel_rfl)) rfl ?_
 exact ⟨_, _, dE, oR HO435.out BK431.out, oR HO438.out BK431.out, eB⟩
def rat_Int.f (a0 : Int) : Option (Bool × List Int × List Int) := if a0 < 0 then ((nat_From.f (IntKind.u64.wrap (-(IntKind.u64.wrap (a0))))).bind fun t443 => ((nat_From.f 1).bind fun t446 => (some (true, t443, t446)))) else ((nat_From.f (IntKind.u64.wrap (a0))).bind fun t449 => ((nat_From.f 1).bind fun t452 => (some (false, t449, t452))))
set_option maxHeartbeats 8000000 in
set_option maxRecDepth 100000 in
theorem rat_Int.calls (a0 : Int) (r1 : Bool) (r2 : List Int) (r3 : List Int) (w : World) (h : rat_Int.f a0 = some (r1, r2, r3)) :
  Calls Try.prog 11 #[.int .i64 a0] w fun e w' => ∃ v1_ v2_ : Value, e = .returned (.agg #[.bool r1, v1_, v2_]) ∧ Kd.R (Kd.int .u64) 44 w' w.heap.size (fun k_ => some k_ ≠ (v2_ : Value).ownBlock) v1_ r2 ∧ Kd.R (Kd.int .u64) 44 w' w.heap.size (fun k_ => some k_ ≠ (v1_ : Value).ownBlock) v2_ r3 ∧ Below w.heap.size w w' := by
 have hu25 := Try.underlying25
 have HB := aM (Below.refl w.heap.size w)
 have H := h
 clear h
 unfold rat_Int.f at H
 by_cases c2 : a0 < 0
 ·rw [if_pos c2] at H
  have c2b0 := decide_eq_true c2
  clear c2
  replace H := oA H
  obtain ⟨t443, A3, H⟩ := H
  (try dsimp only at H)
  replace H := oA H
  obtain ⟨t446, A4, H⟩ := H
  (try dsimp only at H)
  simp only [Option.some.injEq, Prod.mk.injEq] at H
  obtain ⟨rfl, rfl, rfl⟩ := H
  go_enter Try.func11, Try.ntmps11
  go_wp2_with (first | ((with_reducible refine gate_dst (N := 2) rfl ?_); refine bE 2 #[.bool false, .slice none 0 0, .slice none 0 0] 25 ?_; intro gb442 hg w5 hbox hb; have BK442 := aM (hbox); have GE442 : Aside0 (w.heap.size ≤ gb442) := gE hg; replace HB := hS HB.out hb; clear hb hbox hg) | ((with_reducible refine gate_callee (f := 24) rfl ?_); refine gL (some 8) Try.func24 #[.int .u64 (IntKind.u64.wrap (-(IntKind.u64.wrap (a0))))] ?_; (with_reducible refine (nat_From.calls (IntKind.u64.wrap (-(IntKind.u64.wrap (a0)))) t443 _ A3.out).mono ?_); rintro e w6 ⟨v444, rfl, ho0, hb⟩; refine ⟨_, rfl, ?_⟩; have HO445 := aM (Kd.R_lower ho0 (below_size eB)); replace BK442 := bB BK442.out hb; replace HB := hS HB.out hb; (try clear hb); (try clear ho0)) | ((with_reducible refine gate_callee (f := 24) rfl ?_); refine gL (some 9) Try.func24 #[.int .u64 1] ?_; (with_reducible refine (nat_From.calls 1 t446 _ A4.out).mono ?_); rintro e w7 ⟨v447, rfl, ho0, hb⟩; refine ⟨_, rfl, ?_⟩; have HO448 := aM (Kd.R_lower (nW ho0 HO445.out) (below_size eB)); replace HO445 := oE HO445.out ho0 hb; replace BK442 := bB BK442.out hb; replace HB := hS HB.out hb; (try clear hb); (try clear ho0); obtain ⟨Ao8, co8, rfl⟩ := Kd.R_slice HO448.out; obtain ⟨Ao9, co9, rfl⟩ := Kd.R_slice HO445.out; obtain ⟨hcz10_0, hcz10_1, hcz10_2⟩ := cz3 BK442.out; obtain ⟨hfz10_0, hfz10_1, hfz10_2⟩ := fz3 BK442.out))
  refine bodyPost_ret (results_cell_row rfl _ _ gb442 25 #[.bool true, .slice Ao9 t443.length co9, .slice Ao8 t446.length co8] (0, 0) _ rfl (dP BK442.out) Try.underlying25 rfl (by kernel_rfl)) rfl ?_
  exact ⟨_, _, dE, by (with_reducible repeat (first | apply Kd.R_alloc | apply Kd.R_drewN | apply Kd.R_drew)); exact Kd.R_mono (Kd.R_far (p := ⟨gb442, 2, none⟩) (Kd.R_far (p := ⟨gb442, 1, none⟩) (Kd.R_far (p := ⟨gb442, 0, none⟩) (Kd.R_types HO445.out BK442.out (by decide)) (fun _ hk => hk.2) (.bool true)) (fun _ hk => hk.2) (.slice Ao9 t443.length co9)) (fun _ hk => hk.2) (.slice Ao8 t446.length co8)) (fun _ hk => hk.1.2), by (with_reducible repeat (first | apply Kd.R_alloc | apply Kd.R_drewN | apply Kd.R_drew)); exact Kd.R_mono (Kd.R_far (p := ⟨gb442, 2, none⟩) (Kd.R_far (p := ⟨gb442, 1, none⟩) (Kd.R_far (p := ⟨gb442, 0, none⟩) (Kd.R_types HO448.out BK442.out (by decide)) (fun _ hk => hk.2) (.bool true)) (fun _ hk => hk.2) (.slice Ao9 t443.length co9)) (fun _ hk => hk.2) (.slice Ao8 t446.length co8)) (fun _ hk => hk.1.2), dG GE442.out⟩
 ·rw [if_neg c2] at H
  have c2b0 := decide_eq_false c2
  clear c2
  replace H := oA H
  obtain ⟨t449, A11, H⟩ := H
  (try dsimp only at H)
  replace H := oA H
  obtain ⟨t452, A12, H⟩ := H
  (try dsimp only at H)
  simp only [Option.some.injEq, Prod.mk.injEq] at H
  obtain ⟨rfl, rfl, rfl⟩ := H
  go_enter Try.func11, Try.ntmps11
  go_wp2_with (first | ((with_reducible refine gate_dst (N := 2) rfl ?_); refine bE 2 #[.bool false, .slice none 0 0, .slice none 0 0] 25 ?_; intro gb442 hg w13 hbox hb; have BK442 := aM (hbox); have GE442 : Aside0 (w.heap.size ≤ gb442) := gE hg; replace HB := hS HB.out hb; clear hb hbox hg) | ((with_reducible refine gate_callee (f := 24) rfl ?_); refine gL (some 13) Try.func24 #[.int .u64 (IntKind.u64.wrap (a0))] ?_; (with_reducible refine (nat_From.calls (IntKind.u64.wrap (a0)) t449 _ A11.out).mono ?_); rintro e w14 ⟨v450, rfl, ho0, hb⟩; refine ⟨_, rfl, ?_⟩; have HO451 := aM (Kd.R_lower ho0 (below_size eB)); replace BK442 := bB BK442.out hb; replace HB := hS HB.out hb; (try clear hb); (try clear ho0)) | ((with_reducible refine gate_callee (f := 24) rfl ?_); refine gL (some 14) Try.func24 #[.int .u64 1] ?_; (with_reducible refine (nat_From.calls 1 t452 _ A12.out).mono ?_); rintro e w15 ⟨v453, rfl, ho0, hb⟩; refine ⟨_, rfl, ?_⟩; have HO454 := aM (Kd.R_lower (nW ho0 HO451.out) (below_size eB)); replace HO451 := oE HO451.out ho0 hb; replace BK442 := bB BK442.out hb; replace HB := hS HB.out hb; (try clear hb); (try clear ho0); obtain ⟨Ao16, co16, rfl⟩ := Kd.R_slice HO454.out; obtain ⟨Ao17, co17, rfl⟩ := Kd.R_slice HO451.out; obtain ⟨hcz18_0, hcz18_1, hcz18_2⟩ := cz3 BK442.out; obtain ⟨hfz18_0, hfz18_1, hfz18_2⟩ := fz3 BK442.out))
  refine bodyPost_ret (results_cell_row rfl _ _ gb442 25 #[.bool false, .slice Ao17 t449.length co17, .slice Ao16 t452.length co16] (0, 0) _ rfl (dP BK442.out) Try.underlying25 rfl (by kernel_rfl)) rfl ?_
  exact ⟨_, _, dE, by (with_reducible repeat (first | apply Kd.R_alloc | apply Kd.R_drewN | apply Kd.R_drew)); exact Kd.R_mono (Kd.R_far (p := ⟨gb442, 2, none⟩) (Kd.R_far (p := ⟨gb442, 1, none⟩) (Kd.R_far (p := ⟨gb442, 0, none⟩) (Kd.R_types HO451.out BK442.out (by decide)) (fun _ hk => hk.2) (.bool false)) (fun _ hk => hk.2) (.slice Ao17 t449.length co17)) (fun _ hk => hk.2) (.slice Ao16 t452.length co16)) (fun _ hk => hk.1.2), by (with_reducible repeat (first | apply Kd.R_alloc | apply Kd.R_drewN | apply Kd.R_drew)); exact Kd.R_mono (Kd.R_far (p := ⟨gb442, 2, none⟩) (Kd.R_far (p := ⟨gb442, 1, none⟩) (Kd.R_far (p := ⟨gb442, 0, none⟩) (Kd.R_types HO454.out BK442.out (by decide)) (fun _ hk => hk.2) (.bool false)) (fun _ hk => hk.2) (.slice Ao17 t449.length co17)) (fun _ hk => hk.2) (.slice Ao16 t452.length co16)) (fun _ hk => hk.1.2), dG GE442.out⟩
def rat_SignC1.f (a0 : Int) : Option (Bool) := some (a0 != 0)
set_option maxHeartbeats 8000000 in
set_option maxRecDepth 100000 in
theorem rat_SignC1.calls (a0 : Int) (r : Bool) (w : World) (h : rat_SignC1.f a0 = some r) :
  Calls Try.prog 26 #[.int .u64 a0] w fun e w' => e = .returned (.bool r) ∧ Drawn0 w w' := by
 have H := h
 clear h
 unfold rat_SignC1.f at H
 obtain rfl := Option.some.inj H
 go_enter Try.func26, Try.ntmps26
 go_wp2
 go_ret
 exact ⟨dF, dD⟩
def slices_IndexFunc_uint64_uint64.l0 : Nat → List Int → Int → Int → Option (Int)
 | 0, _, _, _ => none
 | k + 1, x0, x7, x8 => if x8 < x7 then (if 0 ≤ x8 then (if x8 < (x0.length : Int) then ((rat_SignC1.f (rd x0 x8)).bind fun t102 => (if t102 = true then (some x8) else (slices_IndexFunc_uint64_uint64.l0 k x0 x7 (wrap64 (x8 + 1))))) else (none)) else (none)) else (some (-1))
def slices_IndexFunc_uint64_uint64.f (k : Nat) (l0 : List Int) : Option (Int) := slices_IndexFunc_uint64_uint64.l0 k l0 (l0.length : Int) 0
set_option maxHeartbeats 8000000 in
set_option maxRecDepth 100000 in
theorem slices_IndexFunc_uint64_uint64.calls (k : Nat) (A0 : Option Addr) (c0 : Nat) (l0 : List Int) (r : Int) (w : World) (hr0 : Kd.C (Kd.int .u64) w A0 l0.length l0) (hc0 : l0.length ≤ c0) (h : slices_IndexFunc_uint64_uint64.f k l0 = some r) :
  Calls Try.prog 47 #[.slice A0 l0.length c0, .func (.func 26) #[] #[]] w fun e w' => e = .returned (.int .i64 r) ∧ Drawn0 w w' := by
 have HR0 := aM hr0
 have HC0 := aM hc0
 clear hr0 hc0
 have H := h
 clear h
 unfold slices_IndexFunc_uint64_uint64.f at H
 have H' := aM H
 clear H
 go_enter Try.func47, Try.ntmps47
 go_wp2
 go_loopg [8] k (fun kq v8 w' => ∃ (x8_1 : Int), v8 = .int .i64 x8_1 ∧ Aside0 (slices_IndexFunc_uint64_uint64.l0 kq l0 (l0.length : Int) x8_1 = some r) ∧ Aside0 (kq ≤ k) ∧ Drawn0 w w')
 case atStart => exact ⟨(0), dF, H', ⟨Nat.le_refl _⟩, dD⟩
 case round =>
  clear H'
  obtain ⟨x8_1, rfl, HA, HK1, ⟨m1, rfl⟩⟩ := hrel
  cases gk with
  | zero => exact absurd HA.out (by simp [slices_IndexFunc_uint64_uint64.l0])
  | succ k1 =>
   have H := HA.out
   clear HA
   simp only [slices_IndexFunc_uint64_uint64.l0] at H
   by_cases c2 : x8_1 < (l0.length : Int)
   ·rw [if_pos c2] at H
    have c2b0 := decide_eq_true c2
    clear c2
    replace H := nO H
    obtain ⟨c3, H⟩ := H
    have c3b0 : decide (0 ≤ x8_1) = true := decide_eq_true c3
    clear c3
    replace H := nO H
    obtain ⟨c4, H⟩ := H
    have c4b0 := decide_eq_true c4
    clear c4
    replace H := oA H
    obtain ⟨t102, A5, H⟩ := H
    (try dsimp only at H)
    by_cases c6 : t102 = true
    ·subst c6
     rw [if_pos rfl] at H
     (try dsimp only at H)
     obtain rfl := Option.some.inj H
     have p101 : 0 ≤ (x8_1 : Int) := of_decide_eq_true dS
     have q101 : x8_1 < (l0.length : Int) := of_decide_eq_true dS
     obtain ⟨ad101, e101, hx101_0⟩ := Kd.at_int HR0.out x8_1 p101 q101
     cases e101
     replace p101 := eq_true p101
     replace q101 := eq_true q101
     go_wp2_with (first | ((with_reducible refine gate_dst (N := 16) rfl ?_); refine goesF_ (some 16) rfl rfl Try.func26 (by kernel_rfl) rfl #[.int .u64 (rd l0 x8_1)] rfl (by first | rfl | (go_simp; done)) dA ?_; (with_reducible refine (rat_SignC1.calls (rd l0 x8_1) true _ A5.out).mono ?_); rintro e w' ⟨rfl, ⟨nd, rfl⟩⟩; refine ⟨_, rfl, ?_⟩))
     go_ret
     exact ⟨dF, dD⟩
    ·replace c6 := Bool.eq_false_iff.mpr c6
     subst c6
     rw [if_neg (show ¬ (false = true) by decide)] at H
     (try dsimp only at H)
     have H' := aM H
     clear H
     have p101 : 0 ≤ (x8_1 : Int) := of_decide_eq_true dS
     have q101 : x8_1 < (l0.length : Int) := of_decide_eq_true dS
     obtain ⟨ad101, e101, hx101_0⟩ := Kd.at_int HR0.out x8_1 p101 q101
     cases e101
     replace p101 := eq_true p101
     replace q101 := eq_true q101
     go_wp2_with (first | ((with_reducible refine gate_dst (N := 16) rfl ?_); refine goesF_ (some 16) rfl rfl Try.func26 (by kernel_rfl) rfl #[.int .u64 (rd l0 x8_1)] rfl (by first | rfl | (go_simp; done)) dA ?_; (with_reducible refine (rat_SignC1.calls (rd l0 x8_1) false _ A5.out).mono ?_); rintro e w' ⟨rfl, ⟨nd, rfl⟩⟩; refine ⟨_, rfl, ?_⟩))
     go_roundg k1
     case measure => have := HK1.out; omega
     case rel => exact ⟨(wrap64 (x8_1 + 1)), dF, H', ⟨by have := HK1.out; omega⟩, dD⟩
   ·rw [if_neg c2] at H
    have c2b0 := decide_eq_false c2
    clear c2
    obtain rfl := Option.some.inj H
    go_wp2
    go_ret
    exact ⟨dF, dD⟩
def slices_ContainsFunc_uint64_uint64.f (k : Nat) (l0 : List Int) : Option (Bool) := (slices_IndexFunc_uint64_uint64.f k l0).bind fun t103 => (some (decide (t103 ≥ 0)))
set_option maxHeartbeats 8000000 in
set_option maxRecDepth 100000 in
theorem slices_ContainsFunc_uint64_uint64.calls (k : Nat) (A0 : Option Addr) (c0 : Nat) (l0 : List Int) (r : Bool) (w : World) (hr0 : Kd.C (Kd.int .u64) w A0 l0.length l0) (hc0 : l0.length ≤ c0) (h : slices_ContainsFunc_uint64_uint64.f k l0 = some r) :
  Calls Try.prog 25 #[.slice A0 l0.length c0, .func (.func 26) #[] #[]] w fun e w' => e = .returned (.bool r) ∧ Drawn0 w w' := by
 have HR0 := aM hr0
 have HC0 := aM hc0
 clear hr0 hc0
 have H := h
 clear h
 unfold slices_ContainsFunc_uint64_uint64.f at H
 replace H := oA H
 obtain ⟨t103, A2, H⟩ := H
 (try dsimp only at H)
 obtain rfl := Option.some.inj H
 go_enter Try.func25, Try.ntmps25
 go_wp2_with (first | ((with_reducible refine gate_callee (f := 47) rfl ?_); refine gL (some 7) Try.func47 #[.slice A0 l0.length c0, .func (.func 26) #[] #[]] ?_; (with_reducible refine (slices_IndexFunc_uint64_uint64.calls k _ _ l0 t103 _ ?side1 HC0.out A2.out).mono ?_); (case side1 => exact dC HR0.out); rintro e w' ⟨rfl, ⟨nd, rfl⟩⟩; refine ⟨_, rfl, ?_⟩))
 go_ret
 exact ⟨dF, dD⟩
def rat_Sign.f (k : Nat) (a0_0 : Bool) (l0_1 : List Int) (l0_2 : List Int) : Option (Int) := (slices_ContainsFunc_uint64_uint64.f k l0_1).bind fun t105 => (if t105 = true then (if a0_0 = true then (some (-1)) else (some 1)) else (some 0))
set_option maxHeartbeats 8000000 in
set_option maxRecDepth 100000 in
theorem rat_Sign.calls (k : Nat) (a0_0 : Bool) (A0_1 : Option Addr) (c0_1 : Nat) (l0_1 : List Int) (A0_2 : Option Addr) (c0_2 : Nat) (l0_2 : List Int) (r : Int) (w : World) (hr0_1 : Kd.C (Kd.int .u64) w A0_1 l0_1.length l0_1) (hc0_1 : l0_1.length ≤ c0_1) (hr0_2 : Kd.C (Kd.int .u64) w A0_2 l0_2.length l0_2) (hc0_2 : l0_2.length ≤ c0_2) (h : rat_Sign.f k a0_0 l0_1 l0_2 = some r) :
  Calls Try.prog 12 #[.agg #[.bool a0_0, .slice A0_1 l0_1.length c0_1, .slice A0_2 l0_2.length c0_2]] w fun e w' => e = .returned (.int .i64 r) ∧ Below w.heap.size w w' := by
 have hu46 := Try.underlying25
 have HR0_1 := aM hr0_1
 have HC0_1 := aM hc0_1
 clear hr0_1 hc0_1
 have HR0_2 := aM hr0_2
 have HC0_2 := aM hc0_2
 clear hr0_2 hc0_2
 have HB := aM (Below.refl w.heap.size w)
 have H := h
 clear h
 unfold rat_Sign.f at H
 replace H := oA H
 obtain ⟨t105, A2, H⟩ := H
 (try dsimp only at H)
 by_cases c3 : t105 = true
 ·subst c3
  rw [if_pos rfl] at H
  (try dsimp only at H)
  by_cases c4 : a0_0 = true
  ·subst c4
   rw [if_pos rfl] at H
   (try dsimp only at H)
   obtain rfl := Option.some.inj H
   go_enter Try.func12, Try.ntmps12
   go_wp2_with (first | ((with_reducible refine gate_dst (N := 1) rfl ?_); refine bE 1 #[.bool true, .slice A0_1 l0_1.length c0_1, .slice A0_2 l0_2.length c0_2] 25 ?_; intro gb104 hg w5 hbox hb; have BK104 := aM (hbox); have GE104 : Aside0 (w.heap.size ≤ gb104) := gE hg; replace HB := hS HB.out hb; clear hb hbox hg; obtain ⟨hcz6_0, hcz6_1, hcz6_2⟩ := cz3 BK104.out; obtain ⟨hfz6_0, hfz6_1, hfz6_2⟩ := fz3 BK104.out) | ((with_reducible refine gate_callee (f := 25) rfl ?_); refine gL (some 5) Try.func25 #[.slice A0_1 l0_1.length c0_1, .func (.func 26) #[] #[]] ?_; (with_reducible refine (slices_ContainsFunc_uint64_uint64.calls k _ _ l0_1 true _ ?side1 HC0_1.out A2.out).mono ?_); (case side1 => exact dC (Kd.C_below HR0_1.out HB.out)); rintro e w' ⟨rfl, ⟨nd, rfl⟩⟩; refine ⟨_, rfl, ?_⟩))
   go_ret
   exact ⟨dE, dG GE104.out⟩
  ·replace c4 := Bool.eq_false_iff.mpr c4
   subst c4
   rw [if_neg (show ¬ (false = true) by decide)] at H
   (try dsimp only at H)
   obtain rfl := Option.some.inj H
   go_enter Try.func12, Try.ntmps12
   go_wp2_with (first | ((with_reducible refine gate_dst (N := 1) rfl ?_); refine bE 1 #[.bool false, .slice A0_1 l0_1.length c0_1, .slice A0_2 l0_2.length c0_2] 25 ?_; intro gb104 hg w7 hbox hb; have BK104 := aM (hbox); have GE104 : Aside0 (w.heap.size ≤ gb104) := gE hg; replace HB := hS HB.out hb; clear hb hbox hg; obtain ⟨hcz8_0, hcz8_1, hcz8_2⟩ := cz3 BK104.out; obtain ⟨hfz8_0, hfz8_1, hfz8_2⟩ := fz3 BK104.out) | ((with_reducible refine gate_callee (f := 25) rfl ?_); refine gL (some 5) Try.func25 #[.slice A0_1 l0_1.length c0_1, .func (.func 26) #[] #[]] ?_; (with_reducible refine (slices_ContainsFunc_uint64_uint64.calls k _ _ l0_1 true _ ?side1 HC0_1.out A2.out).mono ?_); (case side1 => exact dC (Kd.C_below HR0_1.out HB.out)); rintro e w' ⟨rfl, ⟨nd, rfl⟩⟩; refine ⟨_, rfl, ?_⟩))
   go_ret
   exact ⟨dE, dG GE104.out⟩
 ·replace c3 := Bool.eq_false_iff.mpr c3
  subst c3
  rw [if_neg (show ¬ (false = true) by decide)] at H
  (try dsimp only at H)
  obtain rfl := Option.some.inj H
  go_enter Try.func12, Try.ntmps12
  go_wp2_with (first | ((with_reducible refine gate_dst (N := 1) rfl ?_); refine bE 1 #[.bool a0_0, .slice A0_1 l0_1.length c0_1, .slice A0_2 l0_2.length c0_2] 25 ?_; intro gb104 hg w9 hbox hb; have BK104 := aM (hbox); have GE104 : Aside0 (w.heap.size ≤ gb104) := gE hg; replace HB := hS HB.out hb; clear hb hbox hg; obtain ⟨hcz10_0, hcz10_1, hcz10_2⟩ := cz3 BK104.out; obtain ⟨hfz10_0, hfz10_1, hfz10_2⟩ := fz3 BK104.out) | ((with_reducible refine gate_callee (f := 25) rfl ?_); refine gL (some 5) Try.func25 #[.slice A0_1 l0_1.length c0_1, .func (.func 26) #[] #[]] ?_; (with_reducible refine (slices_ContainsFunc_uint64_uint64.calls k _ _ l0_1 false _ ?side1 HC0_1.out A2.out).mono ?_); (case side1 => exact dC (Kd.C_below HR0_1.out HB.out)); rintro e w' ⟨rfl, ⟨nd, rfl⟩⟩; refine ⟨_, rfl, ?_⟩))
  go_ret
  exact ⟨dE, dG GE104.out⟩
end Go.Proofs.Ytiogfeeaepkkmaa.PA
