/- A part of the proof (12). -/
import Derived.Test.YtiogfeeaepkkmaaYKGVKG2
import Derived.Test.YtiogfeeaepkkmaaYKGVKG6
import Derived.Test.YtiogfeeaepkkmaaYKGVKG7
import Derived.Test.YtiogfeeaepkkmaaYKGVKG9
namespace Go.Proofs.Ytiogfeeaepkkmaa.PA
open Go.RowKit Go.Proofs.YtiogfeeaepkkmaaW.PrintWords Go.Proofs.YtiogfeeaepkkmaaW.PrintLast Go.Proofs.YtiogfeeaepkkmaaW.PrintMore
attribute [local go_sem] max2_int min2_int max_two min_two max_three min_three max_four min_four
set_option linter.unusedVariables false
set_option linter.unusedSimpArgs false
def plumblaw05_add.f (k : Nat) (a0_0 : Bool) (l0_1 : List Int) (l0_2 : List Int) (a1_0 : Bool) (l1_1 : List Int) (l1_2 : List Int) : Option (Bool × List Int × List Int × Bool) := (rat_Add.f k a0_0 l0_1 l0_2 a1_0 l1_1 l1_2).bind fun bt400 => (if bt400.2.2.2 = 0 then ((rat_Check.f k bt400.1 bt400.2.1 bt400.2.2.1).bind fun t409 => (some (bt400.1, bt400.2.1, bt400.2.2.1, (t409 == 0)))) else (none))
def plumblaw05_add.T2 : Bool × List (List Nat × List Nat) := (true, [([], []), ([], []), ([1], [1]), ([2], [2]), ([3], [3]), ([4, 3, 3], [3, 4]), ([5, 3], [3, 5]), ([3, 6], [3, 6]), ([0, 5, 0], [0]), ([7, 8, 0, 1, 2, 3, 4, 5, 6, 7, 8], [7])])
def plumblaw05_add.B2 : List Nat := [0, 0, 2, 6, 14, 30, 62, 126, 63, 511]
theorem plumblaw05_add.tab2 : rtab .any (opsOf Try.f7 2) = plumblaw05_add.T2 := by kernel_rfl
theorem plumblaw05_add.bits2 : waitsOk plumblaw05_add.T2.2 plumblaw05_add.B2 = true := by kernel_rfl
set_option maxHeartbeats 8000000 in
set_option maxRecDepth 100000 in
theorem plumblaw05_add.calls (k : Nat) (a0_0 : Bool) (A0_1 : Option Addr) (c0_1 : Nat) (l0_1 : List Int) (A0_2 : Option Addr) (c0_2 : Nat) (l0_2 : List Int) (a1_0 : Bool) (A1_1 : Option Addr) (c1_1 : Nat) (l1_1 : List Int) (A1_2 : Option Addr) (c1_2 : Nat) (l1_2 : List Int) (r1 : Bool) (r2 : List Int) (r3 : List Int) (r4 : Bool) (w : World) (hr0_1 : Kd.C (Kd.int .u64) w A0_1 l0_1.length l0_1) (hc0_1 : l0_1.length ≤ c0_1) (hr0_2 : Kd.C (Kd.int .u64) w A0_2 l0_2.length l0_2) (hc0_2 : l0_2.length ≤ c0_2) (hr1_1 : Kd.C (Kd.int .u64) w A1_1 l1_1.length l1_1) (hc1_1 : l1_1.length ≤ c1_1) (hr1_2 : Kd.C (Kd.int .u64) w A1_2 l1_2.length l1_2) (hc1_2 : l1_2.length ≤ c1_2) (h : plumblaw05_add.f k a0_0 l0_1 l0_2 a1_0 l1_1 l1_2 = some (r1, r2, r3, r4)) :
  Calls Try.prog 7 #[.agg #[.bool a0_0, .slice A0_1 l0_1.length c0_1, .slice A0_2 l0_2.length c0_2], .agg #[.bool a1_0, .slice A1_1 l1_1.length c1_1, .slice A1_2 l1_2.length c1_2]] w fun e w' => ∃ v1_ v2_ : Value, e = .returned (.tuple #[.agg #[.bool r1, v1_, v2_], .bool r4]) ∧ Kd.R (Kd.int .u64) 44 w' w.heap.size (fun k_ => some k_ ≠ (v2_ : Value).ownBlock) v1_ r2 ∧ Kd.R (Kd.int .u64) 44 w' w.heap.size (fun k_ => some k_ ≠ (v1_ : Value).ownBlock) v2_ r3 ∧ Below w.heap.size w w' := by
 have hu25 := Try.underlying25
 have HR0_1 := aM hr0_1
 have HC0_1 := aM hc0_1
 clear hr0_1 hc0_1
 have HR0_2 := aM hr0_2
 have HC0_2 := aM hc0_2
 clear hr0_2 hc0_2
 have HR1_1 := aM hr1_1
 have HC1_1 := aM hc1_1
 clear hr1_1 hc1_1
 have HR1_2 := aM hr1_2
 have HC1_2 := aM hc1_2
 clear hr1_2 hc1_2
 have HB := aM (Below.refl w.heap.size w)
 have H := h
 clear h
 unfold plumblaw05_add.f at H
 replace H := oA H
 obtain ⟨⟨t400, t401, t404, t407⟩, A3, H⟩ := H
 (try dsimp only at H)
 replace H := nO H
 obtain ⟨c4, H⟩ := H
 obtain ⟨c4b0, c4b1⟩ := bT c4
 clear c4
 replace H := oA H
 obtain ⟨t409, A5, H⟩ := H
 (try dsimp only at H)
 simp only [Option.some.injEq, Prod.mk.injEq] at H
 obtain ⟨rfl, rfl, rfl, rfl⟩ := H
 go_enter Try.func7, Try.ntmps7
 try go_wp2_with (first | ((with_reducible refine gate_dst (N := 2) rfl ?_); refine bE 2 #[.bool a0_0, .slice A0_1 l0_1.length c0_1, .slice A0_2 l0_2.length c0_2] 25 ?_; intro gb397 hg w6 hbox hb; have BK397 := aM (hbox); have GE397 : Aside0 (w.heap.size ≤ gb397) := gE hg; replace HB := hS HB.out hb; clear hb hbox hg) | ((with_reducible refine gate_dst (N := 3) rfl ?_); refine bE 3 #[.bool a1_0, .slice A1_1 l1_1.length c1_1, .slice A1_2 l1_2.length c1_2] 25 ?_; intro gb398 hg w7 hbox hb; have BK398 := aM (hbox); have GE398 : Aside0 (w.heap.size ≤ gb398) := gE hg; replace HB := hS HB.out hb; have NB397_398 := nL hg BK397.out; have NB398_397 := nG hg BK397.out; replace BK397 := bB BK397.out hb; clear hb hbox hg) | ((with_reducible refine gate_dst (N := 4) rfl ?_); refine bE 4 #[.bool false, .slice none 0 0, .slice none 0 0] 25 ?_; intro gb399 hg w8 hbox hb; have BK399 := aM (hbox); have GE399 : Aside0 (w.heap.size ≤ gb399) := gE hg; replace HB := hS HB.out hb; have NB397_399 := nL hg BK397.out; have NB399_397 := nG hg BK397.out; replace BK397 := bB BK397.out hb; have NB398_399 := nL hg BK398.out; have NB399_398 := nG hg BK398.out; replace BK398 := bB BK398.out hb; clear hb hbox hg; have hnb9 := NB397_398.out; have hnc9 := NB398_397.out; have hnb10 := NB397_399.out; have hnc10 := NB399_397.out; obtain ⟨hcz11_0, hcz11_1, hcz11_2⟩ := cz3 BK397.out; obtain ⟨hfz11_0, hfz11_1, hfz11_2⟩ := fz3 BK397.out; have hnb12 := NB398_399.out; have hnc12 := NB399_398.out; obtain ⟨hcz13_0, hcz13_1, hcz13_2⟩ := cz3 BK398.out; obtain ⟨hfz13_0, hfz13_1, hfz13_2⟩ := fz3 BK398.out) | ((with_reducible refine gate_callee (f := 21) rfl ?_); refine gL (some 11) Try.func21 #[.agg #[.bool a0_0, .slice A0_1 l0_1.length c0_1, .slice A0_2 l0_2.length c0_2], .agg #[.bool a1_0, .slice A1_1 l1_1.length c1_1, .slice A1_2 l1_2.length c1_2]] ?_; (with_reducible refine (rat_Add.calls k a0_0 _ _ l0_1 _ _ l0_2 a1_0 _ _ l1_1 _ _ l1_2 t400 t401 t404 t407 _ ?side1 HC0_1.out ?side3 HC0_2.out ?side5 HC1_1.out ?side7 HC1_2.out A3.out).mono ?_); (case side1 => exact dC (Kd.C_below HR0_1.out HB.out)); (case side3 => exact dC (Kd.C_below HR0_2.out HB.out)); (case side5 => exact dC (Kd.C_below HR1_1.out HB.out)); (case side7 => exact dC (Kd.C_below HR1_2.out HB.out)); rintro e w14 ⟨v402, v405, rfl, ho0, ho1, hb⟩; refine ⟨_, rfl, ?_⟩; have HO403 := aM (Kd.R_lower ho0 (below_size eB)); have HO406 := aM (Kd.R_lower ho1 (below_size eB)); replace BK397 := bB BK397.out hb; replace BK398 := bB BK398.out hb; replace BK399 := bB BK399.out hb; replace HB := hS HB.out hb; (try clear hb); (try clear ho0); (try clear ho1)) | ((with_reducible refine gate_dst (N := 6) rfl ?_); refine bE 6 #[.bool false, .slice none 0 0, .slice none 0 0] 25 ?_; intro gb408 hg w15 hbox hb; replace HO403 := oB HO403.out hb; replace HO406 := oB HO406.out hb; have BK408 := aM (hbox); have GE408 : Aside0 (w.heap.size ≤ gb408) := gE hg; replace HB := hS HB.out hb; have NB397_408 := nL hg BK397.out; have NB408_397 := nG hg BK397.out; replace BK397 := bB BK397.out hb; have NB398_408 := nL hg BK398.out; have NB408_398 := nG hg BK398.out; replace BK398 := bB BK398.out hb; have NB399_408 := nL hg BK399.out; have NB408_399 := nG hg BK399.out; replace BK399 := bB BK399.out hb; clear hb hbox hg; have hnb16 := NB408_397.out; have hnc16 := NB397_408.out; have hnb17 := NB408_398.out; have hnc17 := NB398_408.out; have hnb18 := NB408_399.out; have hnc18 := NB399_408.out; obtain ⟨hcz19_0, hcz19_1, hcz19_2⟩ := cz3 BK408.out; obtain ⟨hfz19_0, hfz19_1, hfz19_2⟩ := fz3 BK408.out; obtain ⟨Ao20, co20, rfl⟩ := Kd.R_slice HO403.out; obtain ⟨Ao21, co21, rfl⟩ := Kd.R_slice HO406.out))
 have n0_ : Aside0 (Kd.R (Kd.int .u64) 44 (((w15.setCell ⟨gb408, 0, none⟩ (.bool t400)).setCell ⟨gb408, 1, none⟩ (.slice Ao20 t401.length co20)).setCell ⟨gb408, 2, none⟩ (.slice Ao21 t404.length co21)) w.heap.size (fun k_ => oN Ao21 t404 co21 k_) (.slice Ao20 t401.length co20) t401) := ⟨oR HO403.out BK408.out⟩
 have n1_ : Aside0 (Kd.R (Kd.int .u64) 44 (((w15.setCell ⟨gb408, 0, none⟩ (.bool t400)).setCell ⟨gb408, 1, none⟩ (.slice Ao20 t401.length co20)).setCell ⟨gb408, 2, none⟩ (.slice Ao21 t404.length co21)) w.heap.size (fun k_ => oN Ao20 t401 co20 k_) (.slice Ao21 t404.length co21) t404) := ⟨oR HO406.out BK408.out⟩
 have n2_ : Aside0 ((((w15.setCell ⟨gb408, 0, none⟩ (.bool t400)).setCell ⟨gb408, 1, none⟩ (.slice Ao20 t401.length co20)).setCell ⟨gb408, 2, none⟩ (.slice Ao21 t404.length co21)).heap[gb397]? = some (.cells #[.bool a0_0, .slice A0_1 l0_1.length c0_1, .slice A0_2 l0_2.length c0_2] 25 (0, 0))) := ⟨dU1 BK397.out NB397_408.out⟩
 have n3_ : Aside0 ((((w15.setCell ⟨gb408, 0, none⟩ (.bool t400)).setCell ⟨gb408, 1, none⟩ (.slice Ao20 t401.length co20)).setCell ⟨gb408, 2, none⟩ (.slice Ao21 t404.length co21)).heap[gb398]? = some (.cells #[.bool a1_0, .slice A1_1 l1_1.length c1_1, .slice A1_2 l1_2.length c1_2] 25 (0, 0))) := ⟨dU1 BK398.out NB398_408.out⟩
 have n4_ : Aside0 ((((w15.setCell ⟨gb408, 0, none⟩ (.bool t400)).setCell ⟨gb408, 1, none⟩ (.slice Ao20 t401.length co20)).setCell ⟨gb408, 2, none⟩ (.slice Ao21 t404.length co21)).heap[gb399]? = some (.cells #[.bool false, .slice none 0 0, .slice none 0 0] 25 (0, 0))) := ⟨dU1 BK399.out NB399_408.out⟩
 have n5_ : Aside0 ((((w15.setCell ⟨gb408, 0, none⟩ (.bool t400)).setCell ⟨gb408, 1, none⟩ (.slice Ao20 t401.length co20)).setCell ⟨gb408, 2, none⟩ (.slice Ao21 t404.length co21)).heap[gb408]? = some (.cells #[.bool t400, .slice Ao20 t401.length co20, .slice Ao21 t404.length co21] 25 (0, 0))) := ⟨dP BK408.out⟩
 have n6_ : Aside0 (Below w.heap.size w (((w15.setCell ⟨gb408, 0, none⟩ (.bool t400)).setCell ⟨gb408, 1, none⟩ (.slice Ao20 t401.length co20)).setCell ⟨gb408, 2, none⟩ (.slice Ao21 t404.length co21))) := ⟨eB⟩
 (try clear HO403)
 (try clear HO406)
 (try clear BK397)
 (try clear BK398)
 (try clear BK399)
 (try clear BK408)
 (try clear HB)
 generalize (((w15.setCell ⟨gb408, 0, none⟩ (.bool t400)).setCell ⟨gb408, 1, none⟩ (.slice Ao20 t401.length co20)).setCell ⟨gb408, 2, none⟩ (.slice Ao21 t404.length co21)) = w22 at n0_ n1_ n2_ n3_ n4_ n5_ n6_ ⊢
 have HO403 := n0_
 have HO406 := n1_
 have BK397 := n2_
 have BK398 := n3_
 have BK399 := n4_
 have BK408 := n5_
 have HB := n6_
 clear n0_ n1_ n2_ n3_ n4_ n5_ n6_
 replace HO403 := aM (Kd.R_drew HO403.out)
 replace HO406 := aM (Kd.R_drew HO406.out)
 replace BK397 := aM (blk_drew BK397.out)
 replace BK398 := aM (blk_drew BK398.out)
 replace BK399 := aM (blk_drew BK399.out)
 replace BK408 := aM (blk_drew BK408.out)
 replace HB := aM (below_drew1 HB.out)
 refine start_ (n := 10) (S := fun w' => w'.cell? ⟨gb408, 0, none⟩ = some (.bool t400) ∧ w'.cell? ⟨gb408, 1, none⟩ = some (.slice Ao20 t401.length co20) ∧ w'.cell? ⟨gb408, 2, none⟩ = some (.slice Ao21 t404.length co21)) (ds := []) #[false, false, false, false, false, false, false, false, false, false] (by kernel_rfl) rfl rfl (cz3 BK408.out) (fun hHeld => ?_); refine with_tabW plumblaw05_add.tab2 plumblaw05_add.bits2 (fun HT_ HW_ => ?_)
 generalize w22.drew = w23 at HO403 HO406 BK397 BK398 BK399 BK408 HB hHeld ⊢
 refine pP 1 (some 15) ?_
 refine pP 2 (some 16) ?_
 refine pP 3 (some 17) ?_
 refine pH3 0 (some 14) hHeld ?_
 refine pH3 4 (some 18) hHeld ?_
 refine one_ (i := 5) (N := some 19) #[true, true, true, true, true, true, false, false, false, false] rfl rfl (one_of HT_.out (by kernel_rfl)) (by decide) (fun K hK => ?_)
 refine goes_ Try.func19 (by kernel_rfl) rfl #[.agg #[.bool t400, .slice Ao20 t401.length co20, .slice Ao21 t404.length co21]] (by rfl) rfl rfl dA ?_
 with_reducible refine (rat_Check.calls k t400 _ _ t401 _ _ t404 t409 _ ?side1 (Kd.R_reads' HO403.out).2.1 ?side3 (Kd.R_reads' HO406.out).2.1 A5.out).mono ?_
 (case side1 => exact dC (Kd.R_reads' HO403.out).2.2)
 (case side3 => exact dC (Kd.R_reads' HO406.out).2.2)
 rintro e w24 ⟨rfl, hb⟩
 refine ⟨_, rfl, ?_⟩
 replace HO403 := oB HO403.out hb
 replace HO406 := oB HO406.out hb
 replace BK397 := bB BK397.out hb
 replace BK398 := bB BK398.out hb
 replace BK399 := bB BK399.out hb
 replace BK408 := bB BK408.out hb
 replace HB := hS HB.out hb
 (try clear hb)
 (try clear hb2)
 (try clear hk)
 (try clear hi)
 refine hK.out _ _ (cz3 BK408.out) (fun hHeld => ?_)
 clear hK K
 refine norm_ (a' := ?_) ?_ ?_
 rotate_left
 ·show Act.put _ (some 19) _ = _
  simp only [Act.put, List.setIfInBounds_toArray, List.set_cons_zero, List.set_cons_succ, i64_w, i32_w]
  rfl
 refine pP 6 (some 20) ?_
 refine pP 7 (some 21) ?_
 refine one_ (i := 8) (N := none) #[true, true, true, true, true, true, true, true, true, false] rfl rfl (one_of HT_.out (by kernel_rfl)) (by decide) (fun K hK => ?_)
 have hs25 : w24.cell? ⟨gb399, 0, none⟩ = some (.bool false) := (blk_cell BK399.out 0).trans rfl
 have hfs25 := blk_frozen BK399.out 0
 have hns25_0 := NB397_399.out
 have hns25_1 := NB398_399.out
 have hns25_3 := NB408_399.out
 have hms25_0 := NB399_397.out
 have hms25_1 := NB399_398.out
 have hms25_3 := NB399_408.out
 have hs26 : w24.cell? ⟨gb399, 1, none⟩ = some (.slice none 0 0) := (blk_cell BK399.out 1).trans rfl
 have hfs26 := blk_frozen BK399.out 1
 have hns26_0 := NB397_399.out
 have hns26_1 := NB398_399.out
 have hns26_3 := NB408_399.out
 have hms26_0 := NB399_397.out
 have hms26_1 := NB399_398.out
 have hms26_3 := NB399_408.out
 have hs27 : w24.cell? ⟨gb399, 2, none⟩ = some (.slice none 0 0) := (blk_cell BK399.out 2).trans rfl
 have hfs27 := blk_frozen BK399.out 2
 have hns27_0 := NB397_399.out
 have hns27_1 := NB398_399.out
 have hns27_3 := NB408_399.out
 have hms27_0 := NB399_397.out
 have hms27_1 := NB399_398.out
 have hms27_3 := NB399_408.out
 refine skip_ (w1 := ?_) (by rfl) rfl ?_ ?_
 rotate_left
 ·go_simp
  rfl
 refine hK.out _ _ ⟨((cell_far (p := ⟨gb399, _, none⟩) NB408_399.out _).trans (((cell_far (p := ⟨gb399, _, none⟩) NB408_399.out _).trans (((cell_far (p := ⟨gb399, _, none⟩) NB408_399.out _).trans (hHeld.1)))))), ((cell_far (p := ⟨gb399, _, none⟩) NB408_399.out _).trans (((cell_far (p := ⟨gb399, _, none⟩) NB408_399.out _).trans (((cell_far (p := ⟨gb399, _, none⟩) NB408_399.out _).trans (hHeld.2.1)))))), ((cell_far (p := ⟨gb399, _, none⟩) NB408_399.out _).trans (((cell_far (p := ⟨gb399, _, none⟩) NB408_399.out _).trans (((cell_far (p := ⟨gb399, _, none⟩) NB408_399.out _).trans (hHeld.2.2))))))⟩ (fun hHeld => ?_)
 clear hK K
 refine pP 9 (some 5) ?_
 refine done_ (done_of HT_.out (by kernel_rfl)) ?_
 try go_wp2
 refine bodyPost_ret (results_ct rfl _ _ gb399 25 #[.bool t400, .slice Ao20 t401.length co20, .slice Ao21 t404.length co21] (0, 0) _ rfl (dP BK399.out) Try.underlying25 rfl (by kernel_rfl)) rfl ?_
 exact ⟨_, _, dE, oR HO403.out BK399.out, oR HO406.out BK399.out, eB⟩
def plumblaw05_one.f (k : Nat) (a0_0 : Bool) (l0_1 : List Int) (l0_2 : List Int) (a1_0 : Bool) (l1_1 : List Int) (l1_2 : List Int) : Option (Bool) := if (a0_0 == a1_0) = true then ((plumblaw05_same.f k l0_1 l1_1).bind fun t412 => (if t412 = true then ((plumblaw05_same.f k l0_2 l1_2).bind fun t413 => (some t413)) else (some false))) else (some false)
set_option maxHeartbeats 8000000 in
set_option maxRecDepth 100000 in
theorem plumblaw05_one.calls (k : Nat) (a0_0 : Bool) (A0_1 : Option Addr) (c0_1 : Nat) (l0_1 : List Int) (A0_2 : Option Addr) (c0_2 : Nat) (l0_2 : List Int) (a1_0 : Bool) (A1_1 : Option Addr) (c1_1 : Nat) (l1_1 : List Int) (A1_2 : Option Addr) (c1_2 : Nat) (l1_2 : List Int) (r : Bool) (w : World) (hr0_1 : Kd.C (Kd.int .u64) w A0_1 l0_1.length l0_1) (hc0_1 : l0_1.length ≤ c0_1) (hr0_2 : Kd.C (Kd.int .u64) w A0_2 l0_2.length l0_2) (hc0_2 : l0_2.length ≤ c0_2) (hr1_1 : Kd.C (Kd.int .u64) w A1_1 l1_1.length l1_1) (hc1_1 : l1_1.length ≤ c1_1) (hr1_2 : Kd.C (Kd.int .u64) w A1_2 l1_2.length l1_2) (hc1_2 : l1_2.length ≤ c1_2) (h : plumblaw05_one.f k a0_0 l0_1 l0_2 a1_0 l1_1 l1_2 = some r) :
  Calls Try.prog 8 #[.agg #[.bool a0_0, .slice A0_1 l0_1.length c0_1, .slice A0_2 l0_2.length c0_2], .agg #[.bool a1_0, .slice A1_1 l1_1.length c1_1, .slice A1_2 l1_2.length c1_2]] w fun e w' => e = .returned (.bool r) ∧ Below w.heap.size w w' := by
 have hu25 := Try.underlying25
 have HR0_1 := aM hr0_1
 have HC0_1 := aM hc0_1
 clear hr0_1 hc0_1
 have HR0_2 := aM hr0_2
 have HC0_2 := aM hc0_2
 clear hr0_2 hc0_2
 have HR1_1 := aM hr1_1
 have HC1_1 := aM hc1_1
 clear hr1_1 hc1_1
 have HR1_2 := aM hr1_2
 have HC1_2 := aM hc1_2
 clear hr1_2 hc1_2
 have HB := aM (Below.refl w.heap.size w)
 have H := h
 clear h
 unfold plumblaw05_one.f at H
 by_cases c3 : (a0_0 == a1_0) = true
 ·rw [if_pos c3] at H
  have c3b0 : (a0_0 == a1_0) = true := c3
  (try (have c3b1 : decide (a0_0 = a1_0) = true := by simpa using c3))
  (try (have c3b2 : (a0_0 == a1_0) = true := by simpa using c3))
  clear c3
  replace H := oA H
  obtain ⟨t412, A4, H⟩ := H
  (try dsimp only at H)
  by_cases c5 : t412 = true
  ·subst c5
   rw [if_pos rfl] at H
   (try dsimp only at H)
   replace H := oA H
   obtain ⟨t413, A6, H⟩ := H
   (try dsimp only at H)
   obtain rfl := Option.some.inj H
   go_enter Try.func8, Try.ntmps8
   go_wp2_with (first | ((with_reducible refine gate_dst (N := 2) rfl ?_); refine bE 2 #[.bool a0_0, .slice A0_1 l0_1.length c0_1, .slice A0_2 l0_2.length c0_2] 25 ?_; intro gb410 hg w7 hbox hb; have BK410 := aM (hbox); have GE410 : Aside0 (w.heap.size ≤ gb410) := gE hg; replace HB := hS HB.out hb; clear hb hbox hg) | ((with_reducible refine gate_dst (N := 3) rfl ?_); refine bE 3 #[.bool a1_0, .slice A1_1 l1_1.length c1_1, .slice A1_2 l1_2.length c1_2] 25 ?_; intro gb411 hg w8 hbox hb; have BK411 := aM (hbox); have GE411 : Aside0 (w.heap.size ≤ gb411) := gE hg; replace HB := hS HB.out hb; have NB410_411 := nL hg BK410.out; have NB411_410 := nG hg BK410.out; replace BK410 := bB BK410.out hb; clear hb hbox hg; have hnb9 := NB410_411.out; have hnc9 := NB411_410.out; obtain ⟨hcz10_0, hcz10_1, hcz10_2⟩ := cz3 BK410.out; obtain ⟨hfz10_0, hfz10_1, hfz10_2⟩ := fz3 BK410.out; obtain ⟨hcz11_0, hcz11_1, hcz11_2⟩ := cz3 BK411.out; obtain ⟨hfz11_0, hfz11_1, hfz11_2⟩ := fz3 BK411.out) | (go_at_call 20; (with_reducible refine (plumblaw05_same.calls k _ _ l0_1 _ _ l1_1 true _ ?side1 HC0_1.out ?side3 HC1_1.out A4.out).mono ?_); (case side1 => exact dC (Kd.C_below HR0_1.out HB.out)); (case side3 => exact dC (Kd.C_below HR1_1.out HB.out)); rintro e w' ⟨rfl, ⟨nd, rfl⟩⟩) | (go_at_call 20; (with_reducible refine (plumblaw05_same.calls k _ _ l0_2 _ _ l1_2 t413 _ ?side1 HC0_2.out ?side3 HC1_2.out A6.out).mono ?_); (case side1 => repeat (first | exact (Kd.C_below HR0_2.out eB) | (with_reducible refine Kd.C_alloc ?_ _) | (with_reducible refine Kd.C_drewN ?_ _) | (with_reducible refine Kd.C_drew ?_))); (case side3 => repeat (first | exact (Kd.C_below HR1_2.out eB) | (with_reducible refine Kd.C_alloc ?_ _) | (with_reducible refine Kd.C_drewN ?_ _) | (with_reducible refine Kd.C_drew ?_))); rintro e w' ⟨rfl, ⟨nd, rfl⟩⟩))
   go_ret
   exact ⟨dE, eB⟩
  ·replace c5 := Bool.eq_false_iff.mpr c5
   subst c5
   rw [if_neg (show ¬ (false = true) by decide)] at H
   (try dsimp only at H)
   obtain rfl := Option.some.inj H
   go_enter Try.func8, Try.ntmps8
   go_wp2_with (first | ((with_reducible refine gate_dst (N := 2) rfl ?_); refine bE 2 #[.bool a0_0, .slice A0_1 l0_1.length c0_1, .slice A0_2 l0_2.length c0_2] 25 ?_; intro gb410 hg w12 hbox hb; have BK410 := aM (hbox); have GE410 : Aside0 (w.heap.size ≤ gb410) := gE hg; replace HB := hS HB.out hb; clear hb hbox hg) | ((with_reducible refine gate_dst (N := 3) rfl ?_); refine bE 3 #[.bool a1_0, .slice A1_1 l1_1.length c1_1, .slice A1_2 l1_2.length c1_2] 25 ?_; intro gb411 hg w13 hbox hb; have BK411 := aM (hbox); have GE411 : Aside0 (w.heap.size ≤ gb411) := gE hg; replace HB := hS HB.out hb; have NB410_411 := nL hg BK410.out; have NB411_410 := nG hg BK410.out; replace BK410 := bB BK410.out hb; clear hb hbox hg; have hnb14 := NB410_411.out; have hnc14 := NB411_410.out; obtain ⟨hcz15_0, hcz15_1, hcz15_2⟩ := cz3 BK410.out; obtain ⟨hfz15_0, hfz15_1, hfz15_2⟩ := fz3 BK410.out; obtain ⟨hcz16_0, hcz16_1, hcz16_2⟩ := cz3 BK411.out; obtain ⟨hfz16_0, hfz16_1, hfz16_2⟩ := fz3 BK411.out) | (go_at_call 20; (with_reducible refine (plumblaw05_same.calls k _ _ l0_1 _ _ l1_1 false _ ?side1 HC0_1.out ?side3 HC1_1.out A4.out).mono ?_); (case side1 => exact dC (Kd.C_below HR0_1.out HB.out)); (case side3 => exact dC (Kd.C_below HR1_1.out HB.out)); rintro e w' ⟨rfl, ⟨nd, rfl⟩⟩))
   go_ret
   exact ⟨dE, eB⟩
 ·rw [if_neg c3] at H
  have c3b0 : (a0_0 == a1_0) = false := by simpa using c3
  (try (have c3b1 : decide (a0_0 = a1_0) = false := by simpa using c3))
  (try (have c3b2 : (a0_0 == a1_0) = false := by simpa using c3))
  (try (have c3b3 : ¬ (a0_0 = a1_0) := by simpa using c3))
  clear c3
  obtain rfl := Option.some.inj H
  go_enter Try.func8, Try.ntmps8
  go_wp2_with (first | ((with_reducible refine gate_dst (N := 2) rfl ?_); refine bE 2 #[.bool a0_0, .slice A0_1 l0_1.length c0_1, .slice A0_2 l0_2.length c0_2] 25 ?_; intro gb410 hg w17 hbox hb; have BK410 := aM (hbox); have GE410 : Aside0 (w.heap.size ≤ gb410) := gE hg; replace HB := hS HB.out hb; clear hb hbox hg) | ((with_reducible refine gate_dst (N := 3) rfl ?_); refine bE 3 #[.bool a1_0, .slice A1_1 l1_1.length c1_1, .slice A1_2 l1_2.length c1_2] 25 ?_; intro gb411 hg w18 hbox hb; have BK411 := aM (hbox); have GE411 : Aside0 (w.heap.size ≤ gb411) := gE hg; replace HB := hS HB.out hb; have NB410_411 := nL hg BK410.out; have NB411_410 := nG hg BK410.out; replace BK410 := bB BK410.out hb; clear hb hbox hg; have hnb19 := NB410_411.out; have hnc19 := NB411_410.out; obtain ⟨hcz20_0, hcz20_1, hcz20_2⟩ := cz3 BK410.out; obtain ⟨hfz20_0, hfz20_1, hfz20_2⟩ := fz3 BK410.out; obtain ⟨hcz21_0, hcz21_1, hcz21_2⟩ := cz3 BK411.out; obtain ⟨hfz21_0, hfz21_1, hfz21_2⟩ := fz3 BK411.out))
  go_ret
  exact ⟨dE, eB⟩
def rat_MulC1.f (k : Nat) (a0_0 : Bool) (l0_1 : List Int) (l0_2 : List Int) (a1_0 : Bool) (l1_1 : List Int) (l1_2 : List Int) : Option (Bool × List Int × List Int) := (rat_mul.f k l0_1 l1_1).bind fun t246 => ((rat_mul.f k l0_2 l1_2).bind fun t249 => ((rat_lowest.f k (a0_0 != a1_0) t246 t249).bind fun bt252 => (some (bt252.1, bt252.2.1, bt252.2.2))))
def rat_MulC1.T1 : Bool × List (List Nat × List Nat) := (true, [([], []), ([0], [0]), ([], []), ([2], [2]), ([1, 3], [1, 3]), ([], []), ([5], [5]), ([], []), ([7], [7]), ([6, 8], [6, 8]), ([], []), ([10], [10]), ([], []), ([12], [12]), ([11, 13, 9], [11, 13]), ([4, 9, 14, 14], [4, 9, 14]), ([15, 15, 0, 1, 2, 3, 4, 5, 6, 7, 8, 9, 10, 11, 12, 13, 14, 15], [15])])
def rat_MulC1.B1 : List Nat := [0, 1, 0, 4, 15, 0, 32, 0, 128, 480, 0, 1024, 0, 4096, 16352, 32767, 65535]
theorem rat_MulC1.tab1 : rtab .any (opsOf Try.f44 1) = rat_MulC1.T1 := by kernel_rfl
theorem rat_MulC1.bits1 : waitsOk rat_MulC1.T1.2 rat_MulC1.B1 = true := by kernel_rfl
set_option maxHeartbeats 8000000 in
set_option maxRecDepth 100000 in
theorem rat_MulC1.calls (k : Nat) (a0_0 : Bool) (A0_1 : Option Addr) (c0_1 : Nat) (l0_1 : List Int) (A0_2 : Option Addr) (c0_2 : Nat) (l0_2 : List Int) (a1_0 : Bool) (A1_1 : Option Addr) (c1_1 : Nat) (l1_1 : List Int) (A1_2 : Option Addr) (c1_2 : Nat) (l1_2 : List Int) (r1 : Bool) (r2 : List Int) (r3 : List Int) (w : World) (gb243 gb244 : Nat) (bka_ : w.heap[gb243]? = some (.cells #[.bool a0_0, .slice A0_1 l0_1.length c0_1, .slice A0_2 l0_2.length c0_2] 25 (0, 0))) (bkb_ : w.heap[gb244]? = some (.cells #[.bool a1_0, .slice A1_1 l1_1.length c1_1, .slice A1_2 l1_2.length c1_2] 25 (0, 0))) (nab_ : gb243 ≠ gb244) (hr0_1 : Kd.C (Kd.int .u64) w A0_1 l0_1.length l0_1) (hc0_1 : l0_1.length ≤ c0_1) (hr0_2 : Kd.C (Kd.int .u64) w A0_2 l0_2.length l0_2) (hc0_2 : l0_2.length ≤ c0_2) (hr1_1 : Kd.C (Kd.int .u64) w A1_1 l1_1.length l1_1) (hc1_1 : l1_1.length ≤ c1_1) (hr1_2 : Kd.C (Kd.int .u64) w A1_2 l1_2.length l1_2) (hc1_2 : l1_2.length ≤ c1_2) (h : rat_MulC1.f k a0_0 l0_1 l0_2 a1_0 l1_1 l1_2 = some (r1, r2, r3)) :
  Calls Try.prog 44 #[.pointer (some ⟨gb243, 0, none⟩), .pointer (some ⟨gb244, 0, none⟩)] w fun e w' => ∃ v1_ v2_ : Value, e = .returned (.agg #[.bool r1, v1_, v2_]) ∧ Kd.R (Kd.int .u64) 44 w' w.heap.size (fun k_ => some k_ ≠ (v2_ : Value).ownBlock) v1_ r2 ∧ Kd.R (Kd.int .u64) 44 w' w.heap.size (fun k_ => some k_ ≠ (v1_ : Value).ownBlock) v2_ r3 ∧ Below w.heap.size w w' := by
 have hu46 := Try.underlying25
 have HR0_1 := aM hr0_1
 have HC0_1 := aM hc0_1
 clear hr0_1 hc0_1
 have HR0_2 := aM hr0_2
 have HC0_2 := aM hc0_2
 clear hr0_2 hc0_2
 have HR1_1 := aM hr1_1
 have HC1_1 := aM hc1_1
 clear hr1_1 hc1_1
 have HR1_2 := aM hr1_2
 have HC1_2 := aM hc1_2
 clear hr1_2 hc1_2
 have HB := aM (Below.refl w.heap.size w)
 have BK243 := aM bka_
 have BK244 := aM bkb_
 have NB243_244 := aM nab_
 have NB244_243 := aM nab_.symm
 clear bka_ bkb_ nab_
 have H := h
 clear h
 unfold rat_MulC1.f at H
 replace H := oA H
 obtain ⟨t246, A3, H⟩ := H
 (try dsimp only at H)
 replace H := oA H
 obtain ⟨t249, A4, H⟩ := H
 (try dsimp only at H)
 replace H := oA H
 obtain ⟨⟨t252, t253, t256⟩, A5, H⟩ := H
 (try dsimp only at H)
 simp only [Option.some.injEq, Prod.mk.injEq] at H
 obtain ⟨rfl, rfl, rfl⟩ := H
 go_enter Try.func44, Try.ntmps44
 try go_wp2_with (first | ((with_reducible refine gate_dst (N := 2) rfl ?_); refine bE 2 #[.bool false, .slice none 0 0, .slice none 0 0] 25 ?_; intro gb245 hg w8 hbox hb; have BK245 := aM (hbox); have GE245 : Aside0 (w.heap.size ≤ gb245) := gE hg; replace HB := hS HB.out hb; have NB243_245 := nL hg BK243.out; have NB245_243 := nG hg BK243.out; replace BK243 := bB BK243.out hb; have NB244_245 := nL hg BK244.out; have NB245_244 := nG hg BK244.out; replace BK244 := bB BK244.out hb; clear hb hbox hg))
 replace BK243 := aM (blk_drew BK243.out)
 replace BK244 := aM (blk_drew BK244.out)
 replace BK245 := aM (blk_drew BK245.out)
 replace HB := aM (below_drew1 HB.out)
 refine start_ (n := 17) (S := fun w' => w'.cell? ⟨gb243, 0, none⟩ = some (.bool a0_0) ∧ w'.cell? ⟨gb243, 1, none⟩ = some (.slice A0_1 l0_1.length c0_1) ∧ w'.cell? ⟨gb243, 2, none⟩ = some (.slice A0_2 l0_2.length c0_2) ∧ w'.cell? ⟨gb244, 0, none⟩ = some (.bool a1_0) ∧ w'.cell? ⟨gb244, 1, none⟩ = some (.slice A1_1 l1_1.length c1_1) ∧ w'.cell? ⟨gb244, 2, none⟩ = some (.slice A1_2 l1_2.length c1_2)) (ds := []) #[false, false, false, false, false, false, false, false, false, false, false, false, false, false, false, false, false] (by kernel_rfl) rfl rfl ⟨(blk_cell BK243.out 0).trans rfl, (blk_cell BK243.out 1).trans rfl, (blk_cell BK243.out 2).trans rfl, (blk_cell BK244.out 0).trans rfl, (blk_cell BK244.out 1).trans rfl, (blk_cell BK244.out 2).trans rfl⟩ (fun hHeld => ?_); refine with_tabW rat_MulC1.tab1 rat_MulC1.bits1 (fun HT_ HW_ => ?_)
 generalize w8.drew = w9 at BK243 BK244 BK245 HB hHeld ⊢
 refine pP 0 (some 3) ?_
 refine pP 2 (some 5) ?_
 refine pP 5 (some 8) ?_
 refine pP 7 (some 10) ?_
 refine pP 10 (some 13) ?_
 refine pP 12 (some 15) ?_
 refine pH6 1 (some 4) hHeld ?_
 refine pH6 3 (some 6) hHeld ?_
 refine pP 4 (some 7) ?_
 refine pH6 6 (some 9) hHeld ?_
 refine pH6 8 (some 11) hHeld ?_
 refine pH6 11 (some 14) hHeld ?_
 refine pH6 13 (some 16) hHeld ?_
 refine one_ (i := 9) (N := some 12) #[true, true, true, true, true, true, true, true, true, true, true, true, true, true, false, false, false] rfl rfl (one_of HT_.out (by kernel_rfl)) (by decide) (fun K hK => ?_)
 refine goes_ Try.func30 (by kernel_rfl) rfl #[.slice A0_1 l0_1.length c0_1, .slice A1_1 l1_1.length c1_1] (by rfl) rfl rfl dA ?_
 with_reducible refine (rat_mul.calls k _ _ l0_1 _ _ l1_1 t246 _ ?side1 HC0_1.out ?side3 HC1_1.out A3.out).mono ?_
 (case side1 => exact dC (Kd.C_below HR0_1.out HB.out))
 (case side3 => exact dC (Kd.C_below HR1_1.out HB.out))
 rintro e w10 ⟨v247, rfl, ho0, hb⟩
 refine ⟨_, rfl, ?_⟩
 have HO248 := aM (Kd.R_lower ho0 (below_size eB))
 replace BK243 := bB BK243.out hb
 replace BK244 := bB BK244.out hb
 replace BK245 := bB BK245.out hb
 replace HB := hS HB.out hb
 (try clear hb)
 (try clear hb2)
 (try clear hk)
 (try clear hi)
 (try clear ho0)
 refine hK.out _ _ ⟨(blk_cell BK243.out 0).trans rfl, (blk_cell BK243.out 1).trans rfl, (blk_cell BK243.out 2).trans rfl, (blk_cell BK244.out 0).trans rfl, (blk_cell BK244.out 1).trans rfl, (blk_cell BK244.out 2).trans rfl⟩ (fun hHeld => ?_)
 clear hK K
 refine norm_ (a' := ?_) ?_ ?_
 rotate_left
 ·show Act.put _ (some 12) _ = _
  simp only [Act.put, List.setIfInBounds_toArray, List.set_cons_zero, List.set_cons_succ, i64_w, i32_w]
  rfl
 refine one_ (i := 14) (N := some 17) #[true, true, true, true, true, true, true, true, true, true, true, true, true, true, true, false, false] rfl rfl (one_of HT_.out (by kernel_rfl)) (by decide) (fun K hK => ?_)
 refine goes_ Try.func30 (by kernel_rfl) rfl #[.slice A0_2 l0_2.length c0_2, .slice A1_2 l1_2.length c1_2] (by rfl) rfl rfl dA ?_
 with_reducible refine (rat_mul.calls k _ _ l0_2 _ _ l1_2 t249 _ ?side1 HC0_2.out ?side3 HC1_2.out A4.out).mono ?_
 (case side1 => exact dC (Kd.C_below HR0_2.out HB.out))
 (case side3 => exact dC (Kd.C_below HR1_2.out HB.out))
 rintro e w11 ⟨v250, rfl, ho0, hb⟩
 refine ⟨_, rfl, ?_⟩
 have HO251 := aM (Kd.R_lower (nW ho0 HO248.out) (below_size eB))
 replace HO248 := oE HO248.out ho0 hb
 replace BK243 := bB BK243.out hb
 replace BK244 := bB BK244.out hb
 replace BK245 := bB BK245.out hb
 replace HB := hS HB.out hb
 (try clear hb)
 (try clear hb2)
 (try clear hk)
 (try clear hi)
 (try clear ho0)
 obtain ⟨Ao12, co12, eo12⟩ := Kd.R_slice HO248.out
 (first | subst eo12 | (injection eo12 with f1_ f2_ f3_; have f4_ := f1_.symm; have f5_ := f3_.symm; clear f1_ f2_ f3_; subst f4_; subst f5_))
 obtain ⟨Ao13, co13, eo13⟩ := Kd.R_slice HO251.out
 (first | subst eo13 | (injection eo13 with f1_ f2_ f3_; have f4_ := f1_.symm; have f5_ := f3_.symm; clear f1_ f2_ f3_; subst f4_; subst f5_))
 refine hK.out _ _ ⟨(blk_cell BK243.out 0).trans rfl, (blk_cell BK243.out 1).trans rfl, (blk_cell BK243.out 2).trans rfl, (blk_cell BK244.out 0).trans rfl, (blk_cell BK244.out 1).trans rfl, (blk_cell BK244.out 2).trans rfl⟩ (fun hHeld => ?_)
 clear hK K
 refine norm_ (a' := ?_) ?_ ?_
 rotate_left
 ·show Act.put _ (some 17) _ = _
  simp only [Act.put, List.setIfInBounds_toArray, List.set_cons_zero, List.set_cons_succ, i64_w, i32_w]
  rfl
 refine one_ (i := 15) (N := some 18) #[true, true, true, true, true, true, true, true, true, true, true, true, true, true, true, true, false] rfl rfl (one_of HT_.out (by kernel_rfl)) (by decide) (fun K hK => ?_)
 refine goes_ Try.func29 (by kernel_rfl) rfl #[.bool (a0_0 != a1_0), .slice Ao12 t246.length co12, .slice Ao13 t249.length co13] (by rfl) rfl rfl dA ?_
 with_reducible refine (rat_lowest.calls k (a0_0 != a1_0) _ _ t246 _ _ t249 t252 t253 t256 _ ?side1 (Kd.R_reads' HO248.out).2.1 ?side3 (Kd.R_reads' HO251.out).2.1 A5.out).mono ?_
 (case side1 => exact dC (Kd.R_reads' HO248.out).2.2)
 (case side3 => exact dC (Kd.R_reads' HO251.out).2.2)
 rintro e w14 ⟨v254, v257, rfl, ho0, ho1, hb⟩
 refine ⟨_, rfl, ?_⟩
 have HO255 := aM (Kd.R_lower (nW (nW ho0 HO248.out) HO251.out) (below_size eB))
 have HO258 := aM (Kd.R_lower (nW (nW ho1 HO248.out) HO251.out) (below_size eB))
 replace HO248 := tT HO248.out hb ho0 ho1
 replace HO251 := tT HO251.out hb ho0 ho1
 replace BK243 := bB BK243.out hb
 replace BK244 := bB BK244.out hb
 replace BK245 := bB BK245.out hb
 replace HB := hS HB.out hb
 (try clear hb)
 (try clear hb2)
 (try clear hk)
 (try clear hi)
 (try clear ho0)
 (try clear ho1)
 obtain ⟨Ao16, co16, eo16⟩ := Kd.R_slice HO255.out
 (first | subst eo16 | (injection eo16 with f1_ f2_ f3_; have f4_ := f1_.symm; have f5_ := f3_.symm; clear f1_ f2_ f3_; subst f4_; subst f5_))
 obtain ⟨Ao18, co18, eo18⟩ := Kd.R_slice HO258.out
 (first | subst eo18 | (injection eo18 with f1_ f2_ f3_; have f4_ := f1_.symm; have f5_ := f3_.symm; clear f1_ f2_ f3_; subst f4_; subst f5_))
 refine hK.out _ _ ⟨(blk_cell BK243.out 0).trans rfl, (blk_cell BK243.out 1).trans rfl, (blk_cell BK243.out 2).trans rfl, (blk_cell BK244.out 0).trans rfl, (blk_cell BK244.out 1).trans rfl, (blk_cell BK244.out 2).trans rfl⟩ (fun hHeld => ?_)
 clear hK K
 refine norm_ (a' := ?_) ?_ ?_
 rotate_left
 ·show Act.put _ (some 18) _ = _
  simp only [Act.put, List.setIfInBounds_toArray, List.set_cons_zero, List.set_cons_succ, i64_w, i32_w]
  rfl
 refine one_ (i := 16) (N := none) #[true, true, true, true, true, true, true, true, true, true, true, true, true, true, true, true, true] rfl rfl (one_of HT_.out (by kernel_rfl)) (by decide) (fun K hK => ?_)
 have hs15 : w14.cell? ⟨gb245, 0, none⟩ = some (.bool false) := (blk_cell BK245.out 0).trans rfl
 have hfs15 := blk_frozen BK245.out 0
 have hns15_0 := NB243_245.out
 have hns15_1 := NB244_245.out
 have hms15_0 := NB245_243.out
 have hms15_1 := NB245_244.out
 have hs17 : w14.cell? ⟨gb245, 1, none⟩ = some (.slice none 0 0) := (blk_cell BK245.out 1).trans rfl
 have hfs17 := blk_frozen BK245.out 1
 have hns17_0 := NB243_245.out
 have hns17_1 := NB244_245.out
 have hms17_0 := NB245_243.out
 have hms17_1 := NB245_244.out
 have hs19 : w14.cell? ⟨gb245, 2, none⟩ = some (.slice none 0 0) := (blk_cell BK245.out 2).trans rfl
 have hfs19 := blk_frozen BK245.out 2
 have hns19_0 := NB243_245.out
 have hns19_1 := NB244_245.out
 have hms19_0 := NB245_243.out
 have hms19_1 := NB245_244.out
 refine skip_ (w1 := ?_) (by rfl) rfl ?_ ?_
 rotate_left
 ·go_simp
  rfl
 refine hK.out _ _ ⟨((cell_far (p := ⟨gb245, _, none⟩) NB243_245.out _).trans (((cell_far (p := ⟨gb245, _, none⟩) NB243_245.out _).trans (((cell_far (p := ⟨gb245, _, none⟩) NB243_245.out _).trans (hHeld.1)))))), ((cell_far (p := ⟨gb245, _, none⟩) NB243_245.out _).trans (((cell_far (p := ⟨gb245, _, none⟩) NB243_245.out _).trans (((cell_far (p := ⟨gb245, _, none⟩) NB243_245.out _).trans (hHeld.2.1)))))), ((cell_far (p := ⟨gb245, _, none⟩) NB243_245.out _).trans (((cell_far (p := ⟨gb245, _, none⟩) NB243_245.out _).trans (((cell_far (p := ⟨gb245, _, none⟩) NB243_245.out _).trans (hHeld.2.2.1)))))), ((cell_far (p := ⟨gb245, _, none⟩) NB244_245.out _).trans (((cell_far (p := ⟨gb245, _, none⟩) NB244_245.out _).trans (((cell_far (p := ⟨gb245, _, none⟩) NB244_245.out _).trans (hHeld.2.2.2.1)))))), ((cell_far (p := ⟨gb245, _, none⟩) NB244_245.out _).trans (((cell_far (p := ⟨gb245, _, none⟩) NB244_245.out _).trans (((cell_far (p := ⟨gb245, _, none⟩) NB244_245.out _).trans (hHeld.2.2.2.2.1)))))), ((cell_far (p := ⟨gb245, _, none⟩) NB244_245.out _).trans (((cell_far (p := ⟨gb245, _, none⟩) NB244_245.out _).trans (((cell_far (p := ⟨gb245, _, none⟩) NB244_245.out _).trans (hHeld.2.2.2.2.2))))))⟩ (fun hHeld => ?_)
 clear hK K
 refine done_ (done_of HT_.out (by kernel_rfl)) ?_
 try go_wp2
 refine bodyPost_ret (results_cell_row rfl _ _ gb245 25 #[.bool t252, .slice Ao16 t253.length co16, .slice Ao18 t256.length co18] (0, 0) _ rfl (dP BK245.out) Try.underlying25 rfl (by kernel_rfl)) rfl ?_
 exact ⟨_, _, dE, by (with_reducible repeat (first | apply Kd.R_alloc | apply Kd.R_drewN | apply Kd.R_drew)); exact Kd.R_mono (Kd.R_far (p := ⟨gb245, 2, none⟩) (Kd.R_far (p := ⟨gb245, 1, none⟩) (Kd.R_far (p := ⟨gb245, 0, none⟩) (Kd.R_types HO255.out BK245.out (by decide)) (fun _ hk => hk.2) (.bool t252)) (fun _ hk => hk.2) (.slice Ao16 t253.length co16)) (fun _ hk => hk.2) (.slice Ao18 t256.length co18)) (fun _ hk => hk.1.1.1), by (with_reducible repeat (first | apply Kd.R_alloc | apply Kd.R_drewN | apply Kd.R_drew)); exact Kd.R_mono (Kd.R_far (p := ⟨gb245, 2, none⟩) (Kd.R_far (p := ⟨gb245, 1, none⟩) (Kd.R_far (p := ⟨gb245, 0, none⟩) (Kd.R_types HO258.out BK245.out (by decide)) (fun _ hk => hk.2) (.bool t252)) (fun _ hk => hk.2) (.slice Ao16 t253.length co16)) (fun _ hk => hk.2) (.slice Ao18 t256.length co18)) (fun _ hk => hk.1.1.1), dG GE245.out⟩
def rat_reckonedMul.f (k : Nat) (a0_0 : Bool) (l0_1 l0_2 : List Int) (a1_0 : Bool) (l1_1 l1_2 : List Int) : Option (Bool × List Int × List Int × Int) := rat_reckoned.f k a0_0 l0_1 l0_2 a1_0 l1_1 l1_2 (rat_MulC1.f k a0_0 l0_1 l0_2 a1_0 l1_1 l1_2)
theorem rat_reckonedMul.calls (k : Nat) (a0_0 : Bool) (A0_1 : Option Addr) (c0_1 : Nat) (l0_1 : List Int) (A0_2 : Option Addr) (c0_2 : Nat) (l0_2 : List Int) (a1_0 : Bool) (A1_1 : Option Addr) (c1_1 : Nat) (l1_1 : List Int) (A1_2 : Option Addr) (c1_2 : Nat) (l1_2 : List Int) (r1 : Bool) (r2 r3 : List Int) (r4 : Int) (w : World) (ga gb : Nat) (bka : w.heap[ga]? = some (.cells #[.bool a0_0, .slice A0_1 l0_1.length c0_1, .slice A0_2 l0_2.length c0_2] 25 (0, 0))) (bkb : w.heap[gb]? = some (.cells #[.bool a1_0, .slice A1_1 l1_1.length c1_1, .slice A1_2 l1_2.length c1_2] 25 (0, 0))) (nab : ga ≠ gb) (hr0_1 : Kd.C (Kd.int .u64) w A0_1 l0_1.length l0_1) (hc0_1 : l0_1.length ≤ c0_1) (hr0_2 : Kd.C (Kd.int .u64) w A0_2 l0_2.length l0_2) (hc0_2 : l0_2.length ≤ c0_2) (hr1_1 : Kd.C (Kd.int .u64) w A1_1 l1_1.length l1_1) (hc1_1 : l1_1.length ≤ c1_1) (hr1_2 : Kd.C (Kd.int .u64) w A1_2 l1_2.length l1_2) (hc1_2 : l1_2.length ≤ c1_2) (h : rat_reckonedMul.f k a0_0 l0_1 l0_2 a1_0 l1_1 l1_2 = some (r1, r2, r3, r4)) :
  Calls Try.prog 27 #[.agg #[.bool a0_0, .slice A0_1 l0_1.length c0_1, .slice A0_2 l0_2.length c0_2], .agg #[.bool a1_0, .slice A1_1 l1_1.length c1_1, .slice A1_2 l1_2.length c1_2], .func (.func 44) #[] #[.pointer (some ⟨ga, 0, none⟩), .pointer (some ⟨gb, 0, none⟩)]] w fun e w' => ∃ v1_ v2_ : Value, e = .returned (.tuple #[.agg #[.bool r1, v1_, v2_], .int .i64 r4]) ∧ Kd.R (Kd.int .u64) 44 w' w.heap.size (fun k_ => some k_ ≠ (v2_ : Value).ownBlock) v1_ r2 ∧ Kd.R (Kd.int .u64) 44 w' w.heap.size (fun k_ => some k_ ≠ (v1_ : Value).ownBlock) v2_ r3 ∧ Below w.heap.size w w' := by
 refine rat_reckoned.calls (fun args w => enters_ Try.func44 (by kernel_rfl) rfl args w) k a0_0 _ _ l0_1 _ _ l0_2 a1_0 _ _ l1_1 _ _ l1_2 _ r1 r2 r3 r4 w hr0_1 hc0_1 hr0_2 hc0_2 hr1_1 hc1_1 hr1_2 hc1_2 (fun w1 x1 x2 x3 hb hx => ?_) h
 have la := blk_lt bka
 have lb := blk_lt bkb
 exact rat_MulC1.calls k a0_0 _ _ l0_1 _ _ l0_2 a1_0 _ _ l1_1 _ _ l1_2 x1 x2 x3 w1 ga gb (blk_below bka hb) (blk_below bkb hb) nab (Kd.C_below hr0_1 hb) hc0_1 (Kd.C_below hr0_2 hb) hc0_2 (Kd.C_below hr1_1 hb) hc1_1 (Kd.C_below hr1_2 hb) hc1_2 hx
def rat_Mul.f (k : Nat) (a0_0 : Bool) (l0_1 : List Int) (l0_2 : List Int) (a1_0 : Bool) (l1_1 : List Int) (l1_2 : List Int) : Option (Bool × List Int × List Int × Int) := (rat_reckonedMul.f k a0_0 l0_1 l0_2 a1_0 l1_1 l1_2).bind fun bt274 => (some (bt274.1, bt274.2.1, bt274.2.2.1, bt274.2.2.2))
set_option maxHeartbeats 8000000 in
set_option maxRecDepth 100000 in
theorem rat_Mul.calls (k : Nat) (a0_0 : Bool) (A0_1 : Option Addr) (c0_1 : Nat) (l0_1 : List Int) (A0_2 : Option Addr) (c0_2 : Nat) (l0_2 : List Int) (a1_0 : Bool) (A1_1 : Option Addr) (c1_1 : Nat) (l1_1 : List Int) (A1_2 : Option Addr) (c1_2 : Nat) (l1_2 : List Int) (r1 : Bool) (r2 : List Int) (r3 : List Int) (r4 : Int) (w : World) (hr0_1 : Kd.C (Kd.int .u64) w A0_1 l0_1.length l0_1) (hc0_1 : l0_1.length ≤ c0_1) (hr0_2 : Kd.C (Kd.int .u64) w A0_2 l0_2.length l0_2) (hc0_2 : l0_2.length ≤ c0_2) (hr1_1 : Kd.C (Kd.int .u64) w A1_1 l1_1.length l1_1) (hc1_1 : l1_1.length ≤ c1_1) (hr1_2 : Kd.C (Kd.int .u64) w A1_2 l1_2.length l1_2) (hc1_2 : l1_2.length ≤ c1_2) (h : rat_Mul.f k a0_0 l0_1 l0_2 a1_0 l1_1 l1_2 = some (r1, r2, r3, r4)) :
  Calls Try.prog 22 #[.agg #[.bool a0_0, .slice A0_1 l0_1.length c0_1, .slice A0_2 l0_2.length c0_2], .agg #[.bool a1_0, .slice A1_1 l1_1.length c1_1, .slice A1_2 l1_2.length c1_2]] w fun e w' => ∃ v1_ v2_ : Value, e = .returned (.tuple #[.agg #[.bool r1, v1_, v2_], .int .i64 r4]) ∧ Kd.R (Kd.int .u64) 44 w' w.heap.size (fun k_ => some k_ ≠ (v2_ : Value).ownBlock) v1_ r2 ∧ Kd.R (Kd.int .u64) 44 w' w.heap.size (fun k_ => some k_ ≠ (v1_ : Value).ownBlock) v2_ r3 ∧ Below w.heap.size w w' := by
 have hmf : ∀ (fn : Fn) (first cap : Array Value) (w : World), (Instr.makeFunc fn first cap).run Try.prog w = .ok (.func fn first cap) w := fun _ _ _ _ => rfl
 have hu46 := Try.underlying25
 have HR0_1 := aM hr0_1
 have HC0_1 := aM hc0_1
 clear hr0_1 hc0_1
 have HR0_2 := aM hr0_2
 have HC0_2 := aM hc0_2
 clear hr0_2 hc0_2
 have HR1_1 := aM hr1_1
 have HC1_1 := aM hc1_1
 clear hr1_1 hc1_1
 have HR1_2 := aM hr1_2
 have HC1_2 := aM hc1_2
 clear hr1_2 hc1_2
 have HB := aM (Below.refl w.heap.size w)
 have H := h
 clear h
 unfold rat_Mul.f at H
 replace H := oA H
 obtain ⟨⟨t274, t275, t278, t281⟩, A3, H⟩ := H
 (try dsimp only at H)
 simp only [Option.some.injEq, Prod.mk.injEq] at H
 obtain ⟨rfl, rfl, rfl, rfl⟩ := H
 go_enter Try.func22, Try.ntmps22
 go_wp2_with (first | ((with_reducible refine gate_dst (N := 2) rfl ?_); refine bE 2 #[.bool a0_0, .slice A0_1 l0_1.length c0_1, .slice A0_2 l0_2.length c0_2] 25 ?_; intro gb271 hg w4 hbox hb; have BK271 := aM (hbox); have GE271 : Aside0 (w.heap.size ≤ gb271) := gE hg; replace HB := hS HB.out hb; clear hb hbox hg) | ((with_reducible refine gate_dst (N := 3) rfl ?_); refine bE 3 #[.bool a1_0, .slice A1_1 l1_1.length c1_1, .slice A1_2 l1_2.length c1_2] 25 ?_; intro gb272 hg w5 hbox hb; have BK272 := aM (hbox); have GE272 : Aside0 (w.heap.size ≤ gb272) := gE hg; replace HB := hS HB.out hb; have NB271_272 := nL hg BK271.out; have NB272_271 := nG hg BK271.out; replace BK271 := bB BK271.out hb; clear hb hbox hg) | ((with_reducible refine gate_dst (N := 4) rfl ?_); refine bE 4 #[.bool false, .slice none 0 0, .slice none 0 0] 25 ?_; intro gb273 hg w6 hbox hb; have BK273 := aM (hbox); have GE273 : Aside0 (w.heap.size ≤ gb273) := gE hg; replace HB := hS HB.out hb; have NB271_273 := nL hg BK271.out; have NB273_271 := nG hg BK271.out; replace BK271 := bB BK271.out hb; have NB272_273 := nL hg BK272.out; have NB273_272 := nG hg BK272.out; replace BK272 := bB BK272.out hb; clear hb hbox hg; have hnb7 := NB271_272.out; have hnc7 := NB272_271.out; have hnb8 := NB271_273.out; have hnc8 := NB273_271.out; obtain ⟨hcz9_0, hcz9_1, hcz9_2⟩ := cz3 BK271.out; obtain ⟨hfz9_0, hfz9_1, hfz9_2⟩ := fz3 BK271.out; have hnb10 := NB272_273.out; have hnc10 := NB273_272.out; obtain ⟨hcz11_0, hcz11_1, hcz11_2⟩ := cz3 BK272.out; obtain ⟨hfz11_0, hfz11_1, hfz11_2⟩ := fz3 BK272.out) | ((with_reducible refine gate_callee (f := 27) rfl ?_); refine gL (some 9) Try.func27 #[.agg #[.bool a0_0, .slice A0_1 l0_1.length c0_1, .slice A0_2 l0_2.length c0_2], .agg #[.bool a1_0, .slice A1_1 l1_1.length c1_1, .slice A1_2 l1_2.length c1_2], .func (.func 44) #[] #[.pointer (some ⟨gb271, 0, none⟩), .pointer (some ⟨gb272, 0, none⟩)]] ?_; (with_reducible refine (rat_reckonedMul.calls k a0_0 _ _ l0_1 _ _ l0_2 a1_0 _ _ l1_1 _ _ l1_2 t274 t275 t278 t281 _ gb271 gb272 ?bka ?bkb NB271_272.out ?side1 HC0_1.out ?side3 HC0_2.out ?side5 HC1_1.out ?side7 HC1_2.out A3.out).mono ?_); (case bka => (with_reducible repeat (first | refine blk_drewN ?_ _ | refine blk_drew ?_ | refine blk_alloc ?_ _)); exact BK271.out); (case bkb => (with_reducible repeat (first | refine blk_drewN ?_ _ | refine blk_drew ?_ | refine blk_alloc ?_ _)); exact BK272.out); (case side1 => exact dC (Kd.C_below HR0_1.out HB.out)); (case side3 => exact dC (Kd.C_below HR0_2.out HB.out)); (case side5 => exact dC (Kd.C_below HR1_1.out HB.out)); (case side7 => exact dC (Kd.C_below HR1_2.out HB.out)); rintro e w12 ⟨v276, v279, rfl, ho0, ho1, hb⟩; refine ⟨_, rfl, ?_⟩; have HO277 := aM (Kd.R_lower ho0 (below_size eB)); have HO280 := aM (Kd.R_lower ho1 (below_size eB)); replace BK271 := bB BK271.out hb; replace BK272 := bB BK272.out hb; replace BK273 := bB BK273.out hb; replace HB := hS HB.out hb; (try clear hb); (try clear ho0); (try clear ho1); obtain ⟨hcz13_0, hcz13_1, hcz13_2⟩ := cz3 BK273.out; obtain ⟨hfz13_0, hfz13_1, hfz13_2⟩ := fz3 BK273.out; obtain ⟨Ao14, co14, rfl⟩ := Kd.R_slice HO277.out; obtain ⟨Ao15, co15, rfl⟩ := Kd.R_slice HO280.out))
 refine bodyPost_ret (results_ct rfl _ _ gb273 25 #[.bool t274, .slice Ao14 t275.length co14, .slice Ao15 t278.length co15] (0, 0) _ rfl (dP BK273.out) Try.underlying25 rfl (by kernel_rfl)) rfl ?_
 exact ⟨_, _, dE, oR HO277.out BK273.out, oR HO280.out BK273.out, eB⟩
def rat_turned.f (a0_0 : Bool) (l0_1 : List Int) (l0_2 : List Int) : Option (Bool) := if a0_0 = true then (some false) else (some (decide ((l0_1.length : Int) > 0)))
set_option maxHeartbeats 8000000 in
set_option maxRecDepth 100000 in
theorem rat_turned.calls (a0_0 : Bool) (A0_1 : Option Addr) (c0_1 : Nat) (l0_1 : List Int) (A0_2 : Option Addr) (c0_2 : Nat) (l0_2 : List Int) (r : Bool) (w : World) (hr0_1 : Kd.C (Kd.int .u64) w A0_1 l0_1.length l0_1) (hc0_1 : l0_1.length ≤ c0_1) (hr0_2 : Kd.C (Kd.int .u64) w A0_2 l0_2.length l0_2) (hc0_2 : l0_2.length ≤ c0_2) (h : rat_turned.f a0_0 l0_1 l0_2 = some r) :
  Calls Try.prog 45 #[.agg #[.bool a0_0, .slice A0_1 l0_1.length c0_1, .slice A0_2 l0_2.length c0_2]] w fun e w' => e = .returned (.agg #[.bool r, .slice A0_1 l0_1.length c0_1, .slice A0_2 l0_2.length c0_2]) ∧ Below w.heap.size w w' := by
 have hu46 := Try.underlying25
 have HR0_1 := aM hr0_1
 have HC0_1 := aM hc0_1
 clear hr0_1 hc0_1
 have HR0_2 := aM hr0_2
 have HC0_2 := aM hc0_2
 clear hr0_2 hc0_2
 have HB := aM (Below.refl w.heap.size w)
 have H := h
 clear h
 unfold rat_turned.f at H
 by_cases c2 : a0_0 = true
 ·subst c2
  rw [if_pos rfl] at H
  (try dsimp only at H)
  obtain rfl := Option.some.inj H
  go_enter Try.func45, Try.ntmps45
  go_wp2_with (first | ((with_reducible refine gate_dst (N := 1) rfl ?_); (try (refine gate_guard (by rfl) ?_; dsimp only)); refine bE 1 #[.bool true, .slice A0_1 l0_1.length c0_1, .slice A0_2 l0_2.length c0_2] 25 ?_; intro gb267 hg w3 hbox hb; have BK267 := aM (hbox); have GE267 : Aside0 (w.heap.size ≤ gb267) := gE hg; replace HB := hS HB.out hb; clear hb hbox hg) | ((with_reducible refine gate_dst (N := 2) rfl ?_); refine bE 2 #[.bool false, .slice none 0 0, .slice none 0 0] 25 ?_; intro gbR hg wR hbox hb; have BKR := aM (hbox); have GER : Aside0 (w.heap.size ≤ gbR) := gE hg; replace HB := hS HB.out hb; have NB267_R := nL hg BK267.out; have NBR_267 := nG hg BK267.out; replace BK267 := bB BK267.out hb; clear hb hbox hg; have hnR1 := NB267_R.out; have hnR2 := NBR_267.out; have hcA0 : wR.cell? ⟨gb267, 0, none⟩ = some (.bool true) := (blk_cell BK267.out 0).trans rfl; have hfA0 := blk_frozen BK267.out 0; have hcA1 : wR.cell? ⟨gb267, 1, none⟩ = some (.slice A0_1 l0_1.length c0_1) := (blk_cell BK267.out 1).trans rfl; have hfA1 := blk_frozen BK267.out 1; have hcA2 : wR.cell? ⟨gb267, 2, none⟩ = some (.slice A0_2 l0_2.length c0_2) := (blk_cell BK267.out 2).trans rfl; have hfA2 := blk_frozen BK267.out 2; have hcR0 : wR.cell? ⟨gbR, 0, none⟩ = some (.bool false) := (blk_cell BKR.out 0).trans rfl; have hfR0 := blk_frozen BKR.out 0; have hcR1 : wR.cell? ⟨gbR, 1, none⟩ = some (.slice none 0 0) := (blk_cell BKR.out 1).trans rfl; have hfR1 := blk_frozen BKR.out 1; have hcR2 : wR.cell? ⟨gbR, 2, none⟩ = some (.slice none 0 0) := (blk_cell BKR.out 2).trans rfl; have hfR2 := blk_frozen BKR.out 2; skip))
  refine bodyPost_ret (results_cell_row rfl _ _ gbR 25 #[.bool (false), .slice A0_1 l0_1.length c0_1, .slice A0_2 l0_2.length c0_2] (0, 0) _ rfl (dQ1 BKR.out NBR_267.out) Try.underlying25 rfl (by kernel_rfl)) rfl ?_
  exact ⟨by first | rfl | (simp; done) | (simp [errW_none, errW_some] <;> rfl) | (simp [*, errW_none, errW_some] <;> rfl), eB⟩
 ·replace c2 := Bool.eq_false_iff.mpr c2
  subst c2
  rw [if_neg (show ¬ (false = true) by decide)] at H
  (try dsimp only at H)
  obtain rfl := Option.some.inj H
  go_enter Try.func45, Try.ntmps45
  go_wp2_with (first | ((with_reducible refine gate_dst (N := 1) rfl ?_); (try (refine gate_guard (by rfl) ?_; dsimp only)); refine bE 1 #[.bool false, .slice A0_1 l0_1.length c0_1, .slice A0_2 l0_2.length c0_2] 25 ?_; intro gb267 hg w5 hbox hb; have BK267 := aM (hbox); have GE267 : Aside0 (w.heap.size ≤ gb267) := gE hg; replace HB := hS HB.out hb; clear hb hbox hg) | ((with_reducible refine gate_dst (N := 2) rfl ?_); refine bE 2 #[.bool false, .slice none 0 0, .slice none 0 0] 25 ?_; intro gbR hg wR hbox hb; have BKR := aM (hbox); have GER : Aside0 (w.heap.size ≤ gbR) := gE hg; replace HB := hS HB.out hb; have NB267_R := nL hg BK267.out; have NBR_267 := nG hg BK267.out; replace BK267 := bB BK267.out hb; clear hb hbox hg; have hnR1 := NB267_R.out; have hnR2 := NBR_267.out; have hcA0 : wR.cell? ⟨gb267, 0, none⟩ = some (.bool false) := (blk_cell BK267.out 0).trans rfl; have hfA0 := blk_frozen BK267.out 0; have hcA1 : wR.cell? ⟨gb267, 1, none⟩ = some (.slice A0_1 l0_1.length c0_1) := (blk_cell BK267.out 1).trans rfl; have hfA1 := blk_frozen BK267.out 1; have hcA2 : wR.cell? ⟨gb267, 2, none⟩ = some (.slice A0_2 l0_2.length c0_2) := (blk_cell BK267.out 2).trans rfl; have hfA2 := blk_frozen BK267.out 2; have hcR0 : wR.cell? ⟨gbR, 0, none⟩ = some (.bool false) := (blk_cell BKR.out 0).trans rfl; have hfR0 := blk_frozen BKR.out 0; have hcR1 : wR.cell? ⟨gbR, 1, none⟩ = some (.slice none 0 0) := (blk_cell BKR.out 1).trans rfl; have hfR1 := blk_frozen BKR.out 1; have hcR2 : wR.cell? ⟨gbR, 2, none⟩ = some (.slice none 0 0) := (blk_cell BKR.out 2).trans rfl; have hfR2 := blk_frozen BKR.out 2; skip))
  refine bodyPost_ret (results_cell_row rfl _ _ gbR 25 #[.bool (decide (0 < l0_1.length)), .slice A0_1 l0_1.length c0_1, .slice A0_2 l0_2.length c0_2] (0, 0) _ rfl (dQ1 BKR.out NBR_267.out) Try.underlying25 rfl (by kernel_rfl)) rfl ?_
  exact ⟨by first | rfl | (simp; done) | (simp [errW_none, errW_some] <;> rfl) | (simp [*, errW_none, errW_some] <;> rfl), eB⟩
def rat_Sub.f (k : Nat) (a0_0 : Bool) (l0_1 : List Int) (l0_2 : List Int) (a1_0 : Bool) (l1_1 : List Int) (l1_2 : List Int) : Option (Bool × List Int × List Int × Int) := (rat_Check.f k a1_0 l1_1 l1_2).bind fun t271 => (if t271 = 0 then ((rat_turned.f a1_0 l1_1 l1_2).bind fun t272 => ((rat_Add.f k a0_0 l0_1 l0_2 t272 l1_1 l1_2).bind fun bt273 => (some (bt273.1, bt273.2.1, bt273.2.2.1, bt273.2.2.2)))) else (some (false, ([] : List Int), ([] : List Int), 51)))
def rat_Sub.T3 : Bool × List (List Nat × List Nat) := (true, [([], []), ([], []), ([1], [1]), ([0, 2, 2], [0, 2]), ([3], [3]), ([3], [3]), ([4, 3, 0, 1, 2, 3, 4, 5], [4]), ([5, 6, 0, 1, 2, 3, 4, 5, 6], [5])])
def rat_Sub.B3 : List Nat := [0, 0, 2, 7, 15, 15, 63, 127]
theorem rat_Sub.tab3 : rtab .any (opsOf Try.f23 3) = rat_Sub.T3 := by kernel_rfl
theorem rat_Sub.bits3 : waitsOk rat_Sub.T3.2 rat_Sub.B3 = true := by kernel_rfl
set_option maxHeartbeats 8000000 in
set_option maxRecDepth 100000 in
theorem rat_Sub.calls (k : Nat) (a0_0 : Bool) (A0_1 : Option Addr) (c0_1 : Nat) (l0_1 : List Int) (A0_2 : Option Addr) (c0_2 : Nat) (l0_2 : List Int) (a1_0 : Bool) (A1_1 : Option Addr) (c1_1 : Nat) (l1_1 : List Int) (A1_2 : Option Addr) (c1_2 : Nat) (l1_2 : List Int) (r1 : Bool) (r2 : List Int) (r3 : List Int) (r4 : Int) (w : World) (hr0_1 : Kd.C (Kd.int .u64) w A0_1 l0_1.length l0_1) (hc0_1 : l0_1.length ≤ c0_1) (hr0_2 : Kd.C (Kd.int .u64) w A0_2 l0_2.length l0_2) (hc0_2 : l0_2.length ≤ c0_2) (hr1_1 : Kd.C (Kd.int .u64) w A1_1 l1_1.length l1_1) (hc1_1 : l1_1.length ≤ c1_1) (hr1_2 : Kd.C (Kd.int .u64) w A1_2 l1_2.length l1_2) (hc1_2 : l1_2.length ≤ c1_2) (h : rat_Sub.f k a0_0 l0_1 l0_2 a1_0 l1_1 l1_2 = some (r1, r2, r3, r4)) :
  Calls Try.prog 23 #[.agg #[.bool a0_0, .slice A0_1 l0_1.length c0_1, .slice A0_2 l0_2.length c0_2], .agg #[.bool a1_0, .slice A1_1 l1_1.length c1_1, .slice A1_2 l1_2.length c1_2]] w fun e w' => ∃ v1_ v2_ : Value, e = .returned (.tuple #[.agg #[.bool r1, v1_, v2_], .int .i64 r4]) ∧ Kd.R (Kd.int .u64) 44 w' w.heap.size (fun k_ => some k_ ≠ (v2_ : Value).ownBlock) v1_ r2 ∧ Kd.R (Kd.int .u64) 44 w' w.heap.size (fun k_ => some k_ ≠ (v1_ : Value).ownBlock) v2_ r3 ∧ Below w.heap.size w w' := by
 have hu46 := Try.underlying25
 have HR0_1 := aM hr0_1
 have HC0_1 := aM hc0_1
 clear hr0_1 hc0_1
 have HR0_2 := aM hr0_2
 have HC0_2 := aM hc0_2
 clear hr0_2 hc0_2
 have HR1_1 := aM hr1_1
 have HC1_1 := aM hc1_1
 clear hr1_1 hc1_1
 have HR1_2 := aM hr1_2
 have HC1_2 := aM hc1_2
 clear hr1_2 hc1_2
 have HB := aM (Below.refl w.heap.size w)
 have H := h
 clear h
 unfold rat_Sub.f at H
 replace H := oA H
 obtain ⟨t271, A3, H⟩ := H
 (try dsimp only at H)
 by_cases c4 : t271 = 0
 ·rw [if_pos c4] at H
  obtain ⟨c4b0, c4b1⟩ := bT c4
  clear c4
  replace H := oA H
  obtain ⟨t272, A5, H⟩ := H
  (try dsimp only at H)
  replace H := oA H
  obtain ⟨⟨t273, t274, t277, t280⟩, A6, H⟩ := H
  (try dsimp only at H)
  simp only [Option.some.injEq, Prod.mk.injEq] at H
  obtain ⟨rfl, rfl, rfl, rfl⟩ := H
  go_enter Try.func23, Try.ntmps23
  try go_wp2_with (first | ((with_reducible refine gate_dst (N := 2) rfl ?_); refine bE 2 #[.bool a0_0, .slice A0_1 l0_1.length c0_1, .slice A0_2 l0_2.length c0_2] 25 ?_; intro gb268 hg w7 hbox hb; have BK268 := aM (hbox); have GE268 : Aside0 (w.heap.size ≤ gb268) := gE hg; replace HB := hS HB.out hb; clear hb hbox hg) | ((with_reducible refine gate_dst (N := 3) rfl ?_); refine bE 3 #[.bool a1_0, .slice A1_1 l1_1.length c1_1, .slice A1_2 l1_2.length c1_2] 25 ?_; intro gb269 hg w8 hbox hb; have BK269 := aM (hbox); have GE269 : Aside0 (w.heap.size ≤ gb269) := gE hg; replace HB := hS HB.out hb; have NB268_269 := nL hg BK268.out; have NB269_268 := nG hg BK268.out; replace BK268 := bB BK268.out hb; clear hb hbox hg) | ((with_reducible refine gate_dst (N := 4) rfl ?_); refine bE 4 #[.bool false, .slice none 0 0, .slice none 0 0] 25 ?_; intro gb270 hg w9 hbox hb; have BK270 := aM (hbox); have GE270 : Aside0 (w.heap.size ≤ gb270) := gE hg; replace HB := hS HB.out hb; have NB268_270 := nL hg BK268.out; have NB270_268 := nG hg BK268.out; replace BK268 := bB BK268.out hb; have NB269_270 := nL hg BK269.out; have NB270_269 := nG hg BK269.out; replace BK269 := bB BK269.out hb; clear hb hbox hg; have hnb10 := NB269_268.out; have hnc10 := NB268_269.out; have hnb11 := NB269_270.out; have hnc11 := NB270_269.out; obtain ⟨hcz12_0, hcz12_1, hcz12_2⟩ := cz3 BK269.out; obtain ⟨hfz12_0, hfz12_1, hfz12_2⟩ := fz3 BK269.out) | ((with_reducible refine gate_callee (f := 19) rfl ?_); refine gL (some 7) Try.func19 #[.agg #[.bool a1_0, .slice A1_1 l1_1.length c1_1, .slice A1_2 l1_2.length c1_2]] ?_; (with_reducible refine (rat_Check.calls k a1_0 _ _ l1_1 _ _ l1_2 t271 _ ?side1 HC1_1.out ?side3 HC1_2.out A3.out).mono ?_); (case side1 => exact dC (Kd.C_below HR1_1.out HB.out)); (case side3 => exact dC (Kd.C_below HR1_2.out HB.out)); rintro e w13 ⟨rfl, hb⟩; refine ⟨_, rfl, ?_⟩; replace BK268 := bB BK268.out hb; replace BK269 := bB BK269.out hb; replace BK270 := bB BK270.out hb; replace HB := hS HB.out hb; (try clear hb)))
  replace BK268 := aM (blk_drew BK268.out)
  replace BK269 := aM (blk_drew BK269.out)
  replace BK270 := aM (blk_drew BK270.out)
  replace HB := aM (below_drew1 HB.out)
  refine start_ (n := 8) (S := fun w' => w'.cell? ⟨gb268, 0, none⟩ = some (.bool a0_0) ∧ w'.cell? ⟨gb268, 1, none⟩ = some (.slice A0_1 l0_1.length c0_1) ∧ w'.cell? ⟨gb268, 2, none⟩ = some (.slice A0_2 l0_2.length c0_2) ∧ w'.cell? ⟨gb269, 0, none⟩ = some (.bool a1_0) ∧ w'.cell? ⟨gb269, 1, none⟩ = some (.slice A1_1 l1_1.length c1_1) ∧ w'.cell? ⟨gb269, 2, none⟩ = some (.slice A1_2 l1_2.length c1_2)) (ds := []) #[false, false, false, false, false, false, false, false] (by kernel_rfl) rfl rfl ⟨(blk_cell BK268.out 0).trans rfl, (blk_cell BK268.out 1).trans rfl, (blk_cell BK268.out 2).trans rfl, (blk_cell BK269.out 0).trans rfl, (blk_cell BK269.out 1).trans rfl, (blk_cell BK269.out 2).trans rfl⟩ (fun hHeld => ?_); refine with_tabW rat_Sub.tab3 rat_Sub.bits3 (fun HT_ HW_ => ?_)
  generalize w13.drew = w14 at BK268 BK269 BK270 HB hHeld ⊢
  refine pH6 0 (some 10) hHeld ?_
  refine pH6 1 (some 11) hHeld ?_
  refine one_ (i := 2) (N := some 12) #[true, true, true, false, false, false, false, false] rfl rfl (one_of HT_.out (by kernel_rfl)) (by decide) (fun K hK => ?_)
  refine goes_ Try.func45 (by kernel_rfl) rfl #[.agg #[.bool a1_0, .slice A1_1 l1_1.length c1_1, .slice A1_2 l1_2.length c1_2]] (by rfl) rfl rfl dA ?_
  with_reducible refine (rat_turned.calls a1_0 _ _ l1_1 _ _ l1_2 t272 _ ?side1 HC1_1.out ?side3 HC1_2.out A5.out).mono ?_
  (case side1 => exact dC (Kd.C_below HR1_1.out HB.out))
  (case side3 => exact dC (Kd.C_below HR1_2.out HB.out))
  rintro e w15 ⟨rfl, hb⟩
  refine ⟨_, rfl, ?_⟩
  replace BK268 := bB BK268.out hb
  replace BK269 := bB BK269.out hb
  replace BK270 := bB BK270.out hb
  replace HB := hS HB.out hb
  (try clear hb)
  (try clear hb2)
  (try clear hk)
  (try clear hi)
  refine hK.out _ _ ⟨(blk_cell BK268.out 0).trans rfl, (blk_cell BK268.out 1).trans rfl, (blk_cell BK268.out 2).trans rfl, (blk_cell BK269.out 0).trans rfl, (blk_cell BK269.out 1).trans rfl, (blk_cell BK269.out 2).trans rfl⟩ (fun hHeld => ?_)
  clear hK K
  refine norm_ (a' := ?_) ?_ ?_
  rotate_left
  ·show Act.put _ (some 12) _ = _
   simp only [Act.put, List.setIfInBounds_toArray, List.set_cons_zero, List.set_cons_succ, i64_w, i32_w]
   rfl
  refine one_ (i := 3) (N := some 13) #[true, true, true, true, false, false, false, false] rfl rfl (one_of HT_.out (by kernel_rfl)) (by decide) (fun K hK => ?_)
  refine goes_ Try.func21 (by kernel_rfl) rfl #[.agg #[.bool a0_0, .slice A0_1 l0_1.length c0_1, .slice A0_2 l0_2.length c0_2], .agg #[.bool t272, .slice A1_1 l1_1.length c1_1, .slice A1_2 l1_2.length c1_2]] (by rfl) rfl rfl dA ?_
  with_reducible refine (rat_Add.calls k a0_0 _ _ l0_1 _ _ l0_2 t272 _ _ l1_1 _ _ l1_2 t273 t274 t277 t280 _ ?side1 HC0_1.out ?side3 HC0_2.out ?side5 HC1_1.out ?side7 HC1_2.out A6.out).mono ?_
  (case side1 => exact dC (Kd.C_below HR0_1.out HB.out))
  (case side3 => exact dC (Kd.C_below HR0_2.out HB.out))
  (case side5 => exact dC (Kd.C_below HR1_1.out HB.out))
  (case side7 => exact dC (Kd.C_below HR1_2.out HB.out))
  rintro e w16 ⟨v275, v278, rfl, ho0, ho1, hb⟩
  refine ⟨_, rfl, ?_⟩
  have HO276 := aM (Kd.R_lower ho0 (below_size eB))
  have HO279 := aM (Kd.R_lower ho1 (below_size eB))
  replace BK268 := bB BK268.out hb
  replace BK269 := bB BK269.out hb
  replace BK270 := bB BK270.out hb
  replace HB := hS HB.out hb
  (try clear hb)
  (try clear hb2)
  (try clear hk)
  (try clear hi)
  (try clear ho0)
  (try clear ho1)
  obtain ⟨Ao18, co18, eo18⟩ := Kd.R_slice HO276.out
  (first | subst eo18 | (injection eo18 with f1_ f2_ f3_; have f4_ := f1_.symm; have f5_ := f3_.symm; clear f1_ f2_ f3_; subst f4_; subst f5_))
  obtain ⟨Ao20, co20, eo20⟩ := Kd.R_slice HO279.out
  (first | subst eo20 | (injection eo20 with f1_ f2_ f3_; have f4_ := f1_.symm; have f5_ := f3_.symm; clear f1_ f2_ f3_; subst f4_; subst f5_))
  refine hK.out _ _ ⟨(blk_cell BK268.out 0).trans rfl, (blk_cell BK268.out 1).trans rfl, (blk_cell BK268.out 2).trans rfl, (blk_cell BK269.out 0).trans rfl, (blk_cell BK269.out 1).trans rfl, (blk_cell BK269.out 2).trans rfl⟩ (fun hHeld => ?_)
  clear hK K
  refine norm_ (a' := ?_) ?_ ?_
  rotate_left
  ·show Act.put _ (some 13) _ = _
   simp only [Act.put, List.setIfInBounds_toArray, List.set_cons_zero, List.set_cons_succ, i64_w, i32_w]
   rfl
  refine pP 4 (some 14) ?_
  refine pP 5 (some 15) ?_
  refine one_ (i := 6) (N := none) #[true, true, true, true, true, true, true, false] rfl rfl (one_of HT_.out (by kernel_rfl)) (by decide) (fun K hK => ?_)
  have hs17 : w16.cell? ⟨gb270, 0, none⟩ = some (.bool false) := (blk_cell BK270.out 0).trans rfl
  have hfs17 := blk_frozen BK270.out 0
  have hns17_0 := NB268_270.out
  have hns17_1 := NB269_270.out
  have hms17_0 := NB270_268.out
  have hms17_1 := NB270_269.out
  have hs19 : w16.cell? ⟨gb270, 1, none⟩ = some (.slice none 0 0) := (blk_cell BK270.out 1).trans rfl
  have hfs19 := blk_frozen BK270.out 1
  have hns19_0 := NB268_270.out
  have hns19_1 := NB269_270.out
  have hms19_0 := NB270_268.out
  have hms19_1 := NB270_269.out
  have hs21 : w16.cell? ⟨gb270, 2, none⟩ = some (.slice none 0 0) := (blk_cell BK270.out 2).trans rfl
  have hfs21 := blk_frozen BK270.out 2
  have hns21_0 := NB268_270.out
  have hns21_1 := NB269_270.out
  have hms21_0 := NB270_268.out
  have hms21_1 := NB270_269.out
  refine skip_ (w1 := ?_) (by rfl) rfl ?_ ?_
  rotate_left
  ·go_simp
   rfl
  refine hK.out _ _ ⟨((cell_far (p := ⟨gb270, _, none⟩) NB268_270.out _).trans (((cell_far (p := ⟨gb270, _, none⟩) NB268_270.out _).trans (((cell_far (p := ⟨gb270, _, none⟩) NB268_270.out _).trans (hHeld.1)))))), ((cell_far (p := ⟨gb270, _, none⟩) NB268_270.out _).trans (((cell_far (p := ⟨gb270, _, none⟩) NB268_270.out _).trans (((cell_far (p := ⟨gb270, _, none⟩) NB268_270.out _).trans (hHeld.2.1)))))), ((cell_far (p := ⟨gb270, _, none⟩) NB268_270.out _).trans (((cell_far (p := ⟨gb270, _, none⟩) NB268_270.out _).trans (((cell_far (p := ⟨gb270, _, none⟩) NB268_270.out _).trans (hHeld.2.2.1)))))), ((cell_far (p := ⟨gb270, _, none⟩) NB269_270.out _).trans (((cell_far (p := ⟨gb270, _, none⟩) NB269_270.out _).trans (((cell_far (p := ⟨gb270, _, none⟩) NB269_270.out _).trans (hHeld.2.2.2.1)))))), ((cell_far (p := ⟨gb270, _, none⟩) NB269_270.out _).trans (((cell_far (p := ⟨gb270, _, none⟩) NB269_270.out _).trans (((cell_far (p := ⟨gb270, _, none⟩) NB269_270.out _).trans (hHeld.2.2.2.2.1)))))), ((cell_far (p := ⟨gb270, _, none⟩) NB269_270.out _).trans (((cell_far (p := ⟨gb270, _, none⟩) NB269_270.out _).trans (((cell_far (p := ⟨gb270, _, none⟩) NB269_270.out _).trans (hHeld.2.2.2.2.2))))))⟩ (fun hHeld => ?_)
  clear hK K
  refine pP 7 (some 5) ?_
  refine done_ (done_of HT_.out (by kernel_rfl)) ?_
  try go_wp2
  refine bodyPost_ret (results_ct rfl _ _ gb270 25 #[.bool t273, .slice Ao18 t274.length co18, .slice Ao20 t277.length co20] (0, 0) _ rfl (dP BK270.out) Try.underlying25 rfl (by kernel_rfl)) rfl ?_
  exact ⟨_, _, dE, oR HO276.out BK270.out, oR HO279.out BK270.out, eB⟩
 ·rw [if_neg c4] at H
  obtain ⟨c4b0, c4b1⟩ := bF c4
  simp only [Option.some.injEq, Prod.mk.injEq] at H
  obtain ⟨rfl, rfl, rfl, rfl⟩ := H
  go_enter Try.func23, Try.ntmps23
  go_wp2_with (first | ((with_reducible refine gate_dst (N := 2) rfl ?_); refine bE 2 #[.bool a0_0, .slice A0_1 l0_1.length c0_1, .slice A0_2 l0_2.length c0_2] 25 ?_; intro gb268 hg w22 hbox hb; have BK268 := aM (hbox); have GE268 : Aside0 (w.heap.size ≤ gb268) := gE hg; replace HB := hS HB.out hb; clear hb hbox hg) | ((with_reducible refine gate_dst (N := 3) rfl ?_); refine bE 3 #[.bool a1_0, .slice A1_1 l1_1.length c1_1, .slice A1_2 l1_2.length c1_2] 25 ?_; intro gb269 hg w23 hbox hb; have BK269 := aM (hbox); have GE269 : Aside0 (w.heap.size ≤ gb269) := gE hg; replace HB := hS HB.out hb; have NB268_269 := nL hg BK268.out; have NB269_268 := nG hg BK268.out; replace BK268 := bB BK268.out hb; clear hb hbox hg) | ((with_reducible refine gate_dst (N := 4) rfl ?_); refine bE 4 #[.bool false, .slice none 0 0, .slice none 0 0] 25 ?_; intro gb270 hg w24 hbox hb; have BK270 := aM (hbox); have GE270 : Aside0 (w.heap.size ≤ gb270) := gE hg; replace HB := hS HB.out hb; have NB268_270 := nL hg BK268.out; have NB270_268 := nG hg BK268.out; replace BK268 := bB BK268.out hb; have NB269_270 := nL hg BK269.out; have NB270_269 := nG hg BK269.out; replace BK269 := bB BK269.out hb; clear hb hbox hg; have hnb25 := NB269_268.out; have hnc25 := NB268_269.out; have hnb26 := NB269_270.out; have hnc26 := NB270_269.out; obtain ⟨hcz27_0, hcz27_1, hcz27_2⟩ := cz3 BK269.out; obtain ⟨hfz27_0, hfz27_1, hfz27_2⟩ := fz3 BK269.out) | ((with_reducible refine gate_callee (f := 19) rfl ?_); refine gL (some 7) Try.func19 #[.agg #[.bool a1_0, .slice A1_1 l1_1.length c1_1, .slice A1_2 l1_2.length c1_2]] ?_; (with_reducible refine (rat_Check.calls k a1_0 _ _ l1_1 _ _ l1_2 t271 _ ?side1 HC1_1.out ?side3 HC1_2.out A3.out).mono ?_); (case side1 => exact dC (Kd.C_below HR1_1.out HB.out)); (case side3 => exact dC (Kd.C_below HR1_2.out HB.out)); rintro e w28 ⟨rfl, hb⟩; refine ⟨_, rfl, ?_⟩; replace BK268 := bB BK268.out hb; replace BK269 := bB BK269.out hb; replace BK270 := bB BK270.out hb; replace HB := hS HB.out hb; (try clear hb); have hnb29 := NB270_268.out; have hnc29 := NB268_270.out; obtain ⟨hcz30_0, hcz30_1, hcz30_2⟩ := cz3 BK270.out; obtain ⟨hfz30_0, hfz30_1, hfz30_2⟩ := fz3 BK270.out))
  refine bodyPost_ret (results_ct rfl _ _ gb270 25 #[.bool false, .slice none 0 0, .slice none 0 0] (0, 0) _ rfl (dP BK270.out) Try.underlying25 rfl (by kernel_rfl)) rfl ?_
  exact ⟨_, _, dE, by first | exact Kd.R_nil _ _ _ _ _ | exact Kd.N_nil _ _ _ _ _ | exact Kd.V_nil _ _ _ _ _ | exact Kd.Q_nil _ _ _ _ _ | exact Kd.S_nil _ _ _ _ _, by first | exact Kd.R_nil _ _ _ _ _ | exact Kd.N_nil _ _ _ _ _ | exact Kd.V_nil _ _ _ _ _ | exact Kd.Q_nil _ _ _ _ _ | exact Kd.S_nil _ _ _ _ _, eB⟩
end Go.Proofs.Ytiogfeeaepkkmaa.PA
