/- A part of the proof (11). -/
import Derived.Test.YtiogfeeaepkkmaaYKGVKG2
import Derived.Test.YtiogfeeaepkkmaaYKGVKG6
import Derived.Test.YtiogfeeaepkkmaaYKGVKG10
namespace Go.Proofs.Ytiogfeeaepkkmaa.PA
open Go.RowKit Go.Proofs.YtiogfeeaepkkmaaW.PrintWords Go.Proofs.YtiogfeeaepkkmaaW.PrintLast Go.Proofs.YtiogfeeaepkkmaaW.PrintMore
attribute [local go_sem] max2_int min2_int max_two min_two max_three min_three max_four min_four
set_option linter.unusedVariables false
set_option linter.unusedSimpArgs false
def plumblaw05_three.f (k : Nat) (a0_0 : Bool) (l0_1 : List Int) (l0_2 : List Int) (a1_0 : Bool) (l1_1 : List Int) (l1_2 : List Int) (a2_0 : Bool) (l2_1 : List Int) (l2_2 : List Int) : Option (Bool × List Int × List Int × Bool × List Int × List Int × Bool × List Int × List Int × Bool) := (plumblaw05_Part_made.f k a0_0 l0_1 l0_2).bind fun bt369 => ((plumblaw05_Part_made.f k a1_0 l1_1 l1_2).bind fun bt378 => ((plumblaw05_Part_made.f k a2_0 l2_1 l2_2).bind fun bt387 => (if bt369.2.2.2 = true then (if bt378.2.2.2 = true then (if bt387.2.2.2 = true then ((plumblaw05_alive.f k).bind fun t396 => (some (bt369.1, bt369.2.1, bt369.2.2.1, bt378.1, bt378.2.1, bt378.2.2.1, bt387.1, bt387.2.1, bt387.2.2.1, t396))) else (none)) else (none)) else (none))))
def plumblaw05_three.T4 : Bool × List (List Nat × List Nat) := (true, [([], []), ([], []), ([], []), ([], []), ([3], [3]), ([4], [4]), ([4, 5], [4, 5]), ([6, 4], [6]), ([7], [7]), ([7, 8], [7, 8]), ([9, 7], [9]), ([10, 10], [10]), ([10, 11], [10, 11]), ([0, 11, 0], [0]), ([1, 13, 0, 1, 13], [1]), ([2, 14, 0, 1, 2, 13, 14], [2]), ([12, 15, 0, 1, 2, 3, 4, 5, 6, 7, 8, 9, 10, 11, 12, 13, 14, 15], [12])])
def plumblaw05_three.B4 : List Nat := [0, 0, 0, 0, 8, 24, 56, 120, 248, 504, 1016, 2040, 4088, 4089, 12283, 28671, 65535]
theorem plumblaw05_three.tab4 : rtab .any (opsOf Try.f6 4) = plumblaw05_three.T4 := by kernel_rfl
theorem plumblaw05_three.bits4 : waitsOk plumblaw05_three.T4.2 plumblaw05_three.B4 = true := by kernel_rfl
set_option maxHeartbeats 8000000 in
set_option maxRecDepth 100000 in
theorem plumblaw05_three.calls (k : Nat) (a0_0 : Bool) (A0_1 : Option Addr) (c0_1 : Nat) (l0_1 : List Int) (A0_2 : Option Addr) (c0_2 : Nat) (l0_2 : List Int) (a1_0 : Bool) (A1_1 : Option Addr) (c1_1 : Nat) (l1_1 : List Int) (A1_2 : Option Addr) (c1_2 : Nat) (l1_2 : List Int) (a2_0 : Bool) (A2_1 : Option Addr) (c2_1 : Nat) (l2_1 : List Int) (A2_2 : Option Addr) (c2_2 : Nat) (l2_2 : List Int) (r1 : Bool) (r2 : List Int) (r3 : List Int) (r4 : Bool) (r5 : List Int) (r6 : List Int) (r7 : Bool) (r8 : List Int) (r9 : List Int) (r10 : Bool) (w : World) (hr0_1 : Kd.C (Kd.int .u64) w A0_1 l0_1.length l0_1) (hc0_1 : l0_1.length ≤ c0_1) (hr0_2 : Kd.C (Kd.int .u64) w A0_2 l0_2.length l0_2) (hc0_2 : l0_2.length ≤ c0_2) (hr1_1 : Kd.C (Kd.int .u64) w A1_1 l1_1.length l1_1) (hc1_1 : l1_1.length ≤ c1_1) (hr1_2 : Kd.C (Kd.int .u64) w A1_2 l1_2.length l1_2) (hc1_2 : l1_2.length ≤ c1_2) (hr2_1 : Kd.C (Kd.int .u64) w A2_1 l2_1.length l2_1) (hc2_1 : l2_1.length ≤ c2_1) (hr2_2 : Kd.C (Kd.int .u64) w A2_2 l2_2.length l2_2) (hc2_2 : l2_2.length ≤ c2_2) (h : plumblaw05_three.f k a0_0 l0_1 l0_2 a1_0 l1_1 l1_2 a2_0 l2_1 l2_2 = some (r1, r2, r3, r4, r5, r6, r7, r8, r9, r10)) :
  Calls Try.prog 6 #[.agg #[.bool a0_0, .slice A0_1 l0_1.length c0_1, .slice A0_2 l0_2.length c0_2], .agg #[.bool a1_0, .slice A1_1 l1_1.length c1_1, .slice A1_2 l1_2.length c1_2], .agg #[.bool a2_0, .slice A2_1 l2_1.length c2_1, .slice A2_2 l2_2.length c2_2]] w fun e w' => ∃ v1_ v2_ v4_ v5_ v7_ v8_ : Value, e = .returned (.tuple #[.agg #[.bool r1, v1_, v2_], .agg #[.bool r4, v4_, v5_], .agg #[.bool r7, v7_, v8_], .bool r10]) ∧ Kd.R (Kd.int .u64) 44 w' w.heap.size (fun k_ => some k_ ≠ (v2_ : Value).ownBlock ∧ some k_ ≠ (v4_ : Value).ownBlock ∧ some k_ ≠ (v5_ : Value).ownBlock ∧ some k_ ≠ (v7_ : Value).ownBlock ∧ some k_ ≠ (v8_ : Value).ownBlock) v1_ r2 ∧ Kd.R (Kd.int .u64) 44 w' w.heap.size (fun k_ => some k_ ≠ (v1_ : Value).ownBlock ∧ some k_ ≠ (v4_ : Value).ownBlock ∧ some k_ ≠ (v5_ : Value).ownBlock ∧ some k_ ≠ (v7_ : Value).ownBlock ∧ some k_ ≠ (v8_ : Value).ownBlock) v2_ r3 ∧ Kd.R (Kd.int .u64) 44 w' w.heap.size (fun k_ => some k_ ≠ (v1_ : Value).ownBlock ∧ some k_ ≠ (v2_ : Value).ownBlock ∧ some k_ ≠ (v5_ : Value).ownBlock ∧ some k_ ≠ (v7_ : Value).ownBlock ∧ some k_ ≠ (v8_ : Value).ownBlock) v4_ r5 ∧ Kd.R (Kd.int .u64) 44 w' w.heap.size (fun k_ => some k_ ≠ (v1_ : Value).ownBlock ∧ some k_ ≠ (v2_ : Value).ownBlock ∧ some k_ ≠ (v4_ : Value).ownBlock ∧ some k_ ≠ (v7_ : Value).ownBlock ∧ some k_ ≠ (v8_ : Value).ownBlock) v5_ r6 ∧ Kd.R (Kd.int .u64) 44 w' w.heap.size (fun k_ => some k_ ≠ (v1_ : Value).ownBlock ∧ some k_ ≠ (v2_ : Value).ownBlock ∧ some k_ ≠ (v4_ : Value).ownBlock ∧ some k_ ≠ (v5_ : Value).ownBlock ∧ some k_ ≠ (v8_ : Value).ownBlock) v7_ r8 ∧ Kd.R (Kd.int .u64) 44 w' w.heap.size (fun k_ => some k_ ≠ (v1_ : Value).ownBlock ∧ some k_ ≠ (v2_ : Value).ownBlock ∧ some k_ ≠ (v4_ : Value).ownBlock ∧ some k_ ≠ (v5_ : Value).ownBlock ∧ some k_ ≠ (v7_ : Value).ownBlock) v8_ r9 ∧ Below w.heap.size w w' := by
 have hu24 := Try.underlying24
 have hu25 := Try.underlying25
 have HR0_1 := aM hr0_1
 have HC0_1 := aM hc0_1
 clear hr0_1 hc0_1
 have HR0_2 := aM hr0_2
 have HC0_2 := aM hc0_2
 clear hr0_2 hc0_2
 have HR1_1 := aM hr1_1
 have HC1_1 := aM hc1_1
 clear hr1_1 hc1_1
 have HR1_2 := aM hr1_2
 have HC1_2 := aM hc1_2
 clear hr1_2 hc1_2
 have HR2_1 := aM hr2_1
 have HC2_1 := aM hc2_1
 clear hr2_1 hc2_1
 have HR2_2 := aM hr2_2
 have HC2_2 := aM hc2_2
 clear hr2_2 hc2_2
 have HB := aM (Below.refl w.heap.size w)
 have H := h
 clear h
 unfold plumblaw05_three.f at H
 replace H := oA H
 obtain ⟨⟨t369, t370, t373, t376⟩, A4, H⟩ := H
 (try dsimp only at H)
 replace H := oA H
 obtain ⟨⟨t378, t379, t382, t385⟩, A5, H⟩ := H
 (try dsimp only at H)
 replace H := oA H
 obtain ⟨⟨t387, t388, t391, t394⟩, A6, H⟩ := H
 (try dsimp only at H)
 replace H := nO H
 obtain ⟨rfl, H⟩ := H
 (try dsimp only at H)
 replace H := nO H
 obtain ⟨rfl, H⟩ := H
 (try dsimp only at H)
 replace H := nO H
 obtain ⟨rfl, H⟩ := H
 (try dsimp only at H)
 replace H := oA H
 obtain ⟨t396, A10, H⟩ := H
 (try dsimp only at H)
 simp only [Option.some.injEq, Prod.mk.injEq] at H
 obtain ⟨rfl, rfl, rfl, rfl, rfl, rfl, rfl, rfl, rfl, rfl⟩ := H
 go_enter Try.func6, Try.ntmps6
 try go_wp2_with (first | ((with_reducible refine gate_dst (N := 3) rfl ?_); refine bE 3 #[.bool a0_0, .slice A0_1 l0_1.length c0_1, .slice A0_2 l0_2.length c0_2] 24 ?_; intro gb363 hg w11 hbox hb; have BK363 := aM (hbox); have GE363 : Aside0 (w.heap.size ≤ gb363) := gE hg; replace HB := hS HB.out hb; clear hb hbox hg) | ((with_reducible refine gate_dst (N := 4) rfl ?_); refine bE 4 #[.bool a1_0, .slice A1_1 l1_1.length c1_1, .slice A1_2 l1_2.length c1_2] 24 ?_; intro gb364 hg w12 hbox hb; have BK364 := aM (hbox); have GE364 : Aside0 (w.heap.size ≤ gb364) := gE hg; replace HB := hS HB.out hb; have NB363_364 := nL hg BK363.out; have NB364_363 := nG hg BK363.out; replace BK363 := bB BK363.out hb; clear hb hbox hg) | ((with_reducible refine gate_dst (N := 5) rfl ?_); refine bE 5 #[.bool a2_0, .slice A2_1 l2_1.length c2_1, .slice A2_2 l2_2.length c2_2] 24 ?_; intro gb365 hg w13 hbox hb; have BK365 := aM (hbox); have GE365 : Aside0 (w.heap.size ≤ gb365) := gE hg; replace HB := hS HB.out hb; have NB363_365 := nL hg BK363.out; have NB365_363 := nG hg BK363.out; replace BK363 := bB BK363.out hb; have NB364_365 := nL hg BK364.out; have NB365_364 := nG hg BK364.out; replace BK364 := bB BK364.out hb; clear hb hbox hg) | ((with_reducible refine gate_dst (N := 6) rfl ?_); refine bE 6 #[.bool false, .slice none 0 0, .slice none 0 0] 25 ?_; intro gb366 hg w14 hbox hb; have BK366 := aM (hbox); have GE366 : Aside0 (w.heap.size ≤ gb366) := gE hg; replace HB := hS HB.out hb; have NB363_366 := nL hg BK363.out; have NB366_363 := nG hg BK363.out; replace BK363 := bB BK363.out hb; have NB364_366 := nL hg BK364.out; have NB366_364 := nG hg BK364.out; replace BK364 := bB BK364.out hb; have NB365_366 := nL hg BK365.out; have NB366_365 := nG hg BK365.out; replace BK365 := bB BK365.out hb; clear hb hbox hg) | ((with_reducible refine gate_dst (N := 7) rfl ?_); refine bE 7 #[.bool false, .slice none 0 0, .slice none 0 0] 25 ?_; intro gb367 hg w15 hbox hb; have BK367 := aM (hbox); have GE367 : Aside0 (w.heap.size ≤ gb367) := gE hg; replace HB := hS HB.out hb; have NB363_367 := nL hg BK363.out; have NB367_363 := nG hg BK363.out; replace BK363 := bB BK363.out hb; have NB364_367 := nL hg BK364.out; have NB367_364 := nG hg BK364.out; replace BK364 := bB BK364.out hb; have NB365_367 := nL hg BK365.out; have NB367_365 := nG hg BK365.out; replace BK365 := bB BK365.out hb; have NB366_367 := nL hg BK366.out; have NB367_366 := nG hg BK366.out; replace BK366 := bB BK366.out hb; clear hb hbox hg) | ((with_reducible refine gate_dst (N := 8) rfl ?_); refine bE 8 #[.bool false, .slice none 0 0, .slice none 0 0] 25 ?_; intro gb368 hg w16 hbox hb; have BK368 := aM (hbox); have GE368 : Aside0 (w.heap.size ≤ gb368) := gE hg; replace HB := hS HB.out hb; have NB363_368 := nL hg BK363.out; have NB368_363 := nG hg BK363.out; replace BK363 := bB BK363.out hb; have NB364_368 := nL hg BK364.out; have NB368_364 := nG hg BK364.out; replace BK364 := bB BK364.out hb; have NB365_368 := nL hg BK365.out; have NB368_365 := nG hg BK365.out; replace BK365 := bB BK365.out hb; have NB366_368 := nL hg BK366.out; have NB368_366 := nG hg BK366.out; replace BK366 := bB BK366.out hb; have NB367_368 := nL hg BK367.out; have NB368_367 := nG hg BK367.out; replace BK367 := bB BK367.out hb; clear hb hbox hg; have hnb17 := NB363_364.out; have hnc17 := NB364_363.out; have hnb18 := NB363_365.out; have hnc18 := NB365_363.out; have hnb19 := NB363_366.out; have hnc19 := NB366_363.out; have hnb20 := NB363_367.out; have hnc20 := NB367_363.out; have hnb21 := NB363_368.out; have hnc21 := NB368_363.out; obtain ⟨hcz22_0, hcz22_1, hcz22_2⟩ := cz3 BK363.out; obtain ⟨hfz22_0, hfz22_1, hfz22_2⟩ := fz3 BK363.out) | ((with_reducible refine gate_callee (f := 16) rfl ?_); refine gL (some 18) Try.func16 #[.agg #[.bool a0_0, .slice A0_1 l0_1.length c0_1, .slice A0_2 l0_2.length c0_2]] ?_; (with_reducible refine (plumblaw05_Part_made.calls k a0_0 _ _ l0_1 _ _ l0_2 t369 t370 t373 true _ ?side1 HC0_1.out ?side3 HC0_2.out A4.out).mono ?_); (case side1 => exact dC (Kd.C_below HR0_1.out HB.out)); (case side3 => exact dC (Kd.C_below HR0_2.out HB.out)); rintro e w23 ⟨v371, v374, rfl, ho0, ho1, hb⟩; refine ⟨_, rfl, ?_⟩; have HO372 := aM (Kd.R_lower ho0 (below_size eB)); have HO375 := aM (Kd.R_lower ho1 (below_size eB)); replace BK363 := bB BK363.out hb; replace BK364 := bB BK364.out hb; replace BK365 := bB BK365.out hb; replace BK366 := bB BK366.out hb; replace BK367 := bB BK367.out hb; replace BK368 := bB BK368.out hb; replace HB := hS HB.out hb; (try clear hb); (try clear ho0); (try clear ho1)) | ((with_reducible refine gate_dst (N := 10) rfl ?_); refine bE 10 #[.bool false, .slice none 0 0, .slice none 0 0] 25 ?_; intro gb377 hg w24 hbox hb; replace HO372 := oB HO372.out hb; replace HO375 := oB HO375.out hb; have BK377 := aM (hbox); have GE377 : Aside0 (w.heap.size ≤ gb377) := gE hg; replace HB := hS HB.out hb; have NB363_377 := nL hg BK363.out; have NB377_363 := nG hg BK363.out; replace BK363 := bB BK363.out hb; have NB364_377 := nL hg BK364.out; have NB377_364 := nG hg BK364.out; replace BK364 := bB BK364.out hb; have NB365_377 := nL hg BK365.out; have NB377_365 := nG hg BK365.out; replace BK365 := bB BK365.out hb; have NB366_377 := nL hg BK366.out; have NB377_366 := nG hg BK366.out; replace BK366 := bB BK366.out hb; have NB367_377 := nL hg BK367.out; have NB377_367 := nG hg BK367.out; replace BK367 := bB BK367.out hb; have NB368_377 := nL hg BK368.out; have NB377_368 := nG hg BK368.out; replace BK368 := bB BK368.out hb; clear hb hbox hg; have hnb25 := NB377_363.out; have hnc25 := NB363_377.out; have hnb26 := NB377_364.out; have hnc26 := NB364_377.out; have hnb27 := NB377_365.out; have hnc27 := NB365_377.out; have hnb28 := NB377_366.out; have hnc28 := NB366_377.out; have hnb29 := NB377_367.out; have hnc29 := NB367_377.out; have hnb30 := NB377_368.out; have hnc30 := NB368_377.out; obtain ⟨hcz31_0, hcz31_1, hcz31_2⟩ := cz3 BK377.out; obtain ⟨hfz31_0, hfz31_1, hfz31_2⟩ := fz3 BK377.out; obtain ⟨Ao32, co32, rfl⟩ := Kd.R_slice HO372.out; obtain ⟨Ao33, co33, rfl⟩ := Kd.R_slice HO375.out; have hnb34 := NB364_365.out; have hnc34 := NB365_364.out; have hnb35 := NB364_366.out; have hnc35 := NB366_364.out; have hnb36 := NB364_367.out; have hnc36 := NB367_364.out; have hnb37 := NB364_368.out; have hnc37 := NB368_364.out; obtain ⟨hcz38_0, hcz38_1, hcz38_2⟩ := cz3 BK364.out; obtain ⟨hfz38_0, hfz38_1, hfz38_2⟩ := fz3 BK364.out) | ((with_reducible refine gate_callee (f := 16) rfl ?_); refine gL (some 23) Try.func16 #[.agg #[.bool a1_0, .slice A1_1 l1_1.length c1_1, .slice A1_2 l1_2.length c1_2]] ?_; (with_reducible refine (plumblaw05_Part_made.calls k a1_0 _ _ l1_1 _ _ l1_2 t378 t379 t382 true _ ?side1 HC1_1.out ?side3 HC1_2.out A5.out).mono ?_); (case side1 => exact Kd.C_below HR1_1.out eB); (case side3 => exact Kd.C_below HR1_2.out eB); rintro e w39 ⟨v380, v383, rfl, ho0, ho1, hb⟩; refine ⟨_, rfl, ?_⟩; have HO381 := aM (Kd.R_lower (nV (nV ho0 HO372.out BK377.out) HO375.out BK377.out) (below_size eB)); have HO384 := aM (Kd.R_lower (nV (nV ho1 HO372.out BK377.out) HO375.out BK377.out) (below_size eB)); replace HO372 := tX HO372.out BK377.out hb ho0 ho1; replace HO375 := tX HO375.out BK377.out hb ho0 ho1; replace BK363 := bU1 BK363.out NB363_377.out hb; replace BK364 := bU1 BK364.out NB364_377.out hb; replace BK365 := bU1 BK365.out NB365_377.out hb; replace BK366 := bU1 BK366.out NB366_377.out hb; replace BK367 := bU1 BK367.out NB367_377.out hb; replace BK368 := bU1 BK368.out NB368_377.out hb; replace BK377 := aM (blk_below (g := gb377) (o := .cells #[.bool t369, .slice Ao32 t370.length co32, .slice Ao33 t373.length co33] 25 (0, 0)) (dP BK377.out) hb); replace HB := hS HB.out hb; (try clear hb); (try clear ho0); (try clear ho1)) | ((with_reducible refine gate_dst (N := 12) rfl ?_); refine bE 12 #[.bool false, .slice none 0 0, .slice none 0 0] 25 ?_; intro gb386 hg w40 hbox hb; replace HO372 := oB HO372.out hb; replace HO375 := oB HO375.out hb; replace HO381 := oB HO381.out hb; replace HO384 := oB HO384.out hb; have BK386 := aM (hbox); have GE386 : Aside0 (w.heap.size ≤ gb386) := gE hg; replace HB := hS HB.out hb; have NB363_386 := nL hg BK363.out; have NB386_363 := nG hg BK363.out; replace BK363 := bB BK363.out hb; have NB364_386 := nL hg BK364.out; have NB386_364 := nG hg BK364.out; replace BK364 := bB BK364.out hb; have NB365_386 := nL hg BK365.out; have NB386_365 := nG hg BK365.out; replace BK365 := bB BK365.out hb; have NB366_386 := nL hg BK366.out; have NB386_366 := nG hg BK366.out; replace BK366 := bB BK366.out hb; have NB367_386 := nL hg BK367.out; have NB386_367 := nG hg BK367.out; replace BK367 := bB BK367.out hb; have NB368_386 := nL hg BK368.out; have NB386_368 := nG hg BK368.out; replace BK368 := bB BK368.out hb; have NB377_386 := nL hg BK377.out; have NB386_377 := nG hg BK377.out; replace BK377 := bB BK377.out hb; clear hb hbox hg; have hnb41 := NB386_363.out; have hnc41 := NB363_386.out; have hnb42 := NB386_364.out; have hnc42 := NB364_386.out; have hnb43 := NB386_365.out; have hnc43 := NB365_386.out; have hnb44 := NB386_366.out; have hnc44 := NB366_386.out; have hnb45 := NB386_367.out; have hnc45 := NB367_386.out; have hnb46 := NB386_368.out; have hnc46 := NB368_386.out; have hnb47 := NB386_377.out; have hnc47 := NB377_386.out; obtain ⟨hcz48_0, hcz48_1, hcz48_2⟩ := cz3 BK386.out; obtain ⟨hfz48_0, hfz48_1, hfz48_2⟩ := fz3 BK386.out; obtain ⟨Ao49, co49, rfl⟩ := Kd.R_slice HO381.out; obtain ⟨Ao50, co50, rfl⟩ := Kd.R_slice HO384.out; have hnb51 := NB365_366.out; have hnc51 := NB366_365.out; have hnb52 := NB365_367.out; have hnc52 := NB367_365.out; have hnb53 := NB365_368.out; have hnc53 := NB368_365.out; obtain ⟨hcz54_0, hcz54_1, hcz54_2⟩ := cz3 BK365.out; obtain ⟨hfz54_0, hfz54_1, hfz54_2⟩ := fz3 BK365.out) | ((with_reducible refine gate_callee (f := 16) rfl ?_); refine gL (some 28) Try.func16 #[.agg #[.bool a2_0, .slice A2_1 l2_1.length c2_1, .slice A2_2 l2_2.length c2_2]] ?_; (with_reducible refine (plumblaw05_Part_made.calls k a2_0 _ _ l2_1 _ _ l2_2 t387 t388 t391 true _ ?side1 HC2_1.out ?side3 HC2_2.out A6.out).mono ?_); (case side1 => exact Kd.C_below HR2_1.out eB); (case side3 => exact Kd.C_below HR2_2.out eB); rintro e w55 ⟨v389, v392, rfl, ho0, ho1, hb⟩; refine ⟨_, rfl, ?_⟩; have HO390 := aM (Kd.R_lower (nV (nV (nV (nV ho0 HO372.out BK386.out) HO375.out BK386.out) HO381.out BK386.out) HO384.out BK386.out) (below_size eB)); have HO393 := aM (Kd.R_lower (nV (nV (nV (nV ho1 HO372.out BK386.out) HO375.out BK386.out) HO381.out BK386.out) HO384.out BK386.out) (below_size eB)); replace HO372 := tX HO372.out BK386.out hb ho0 ho1; replace HO375 := tX HO375.out BK386.out hb ho0 ho1; replace HO381 := tX HO381.out BK386.out hb ho0 ho1; replace HO384 := tX HO384.out BK386.out hb ho0 ho1; replace BK363 := bU1 BK363.out NB363_386.out hb; replace BK364 := bU1 BK364.out NB364_386.out hb; replace BK365 := bU1 BK365.out NB365_386.out hb; replace BK366 := bU1 BK366.out NB366_386.out hb; replace BK367 := bU1 BK367.out NB367_386.out hb; replace BK368 := bU1 BK368.out NB368_386.out hb; replace BK377 := bU1 BK377.out NB377_386.out hb; replace BK386 := aM (blk_below (g := gb386) (o := .cells #[.bool t378, .slice Ao49 t379.length co49, .slice Ao50 t382.length co50] 25 (0, 0)) (dP BK386.out) hb); replace HB := hS HB.out hb; (try clear hb); (try clear ho0); (try clear ho1)) | ((with_reducible refine gate_dst (N := 14) rfl ?_); refine bE 14 #[.bool false, .slice none 0 0, .slice none 0 0] 25 ?_; intro gb395 hg w56 hbox hb; replace HO372 := oB HO372.out hb; replace HO375 := oB HO375.out hb; replace HO381 := oB HO381.out hb; replace HO384 := oB HO384.out hb; replace HO390 := oB HO390.out hb; replace HO393 := oB HO393.out hb; have BK395 := aM (hbox); have GE395 : Aside0 (w.heap.size ≤ gb395) := gE hg; replace HB := hS HB.out hb; have NB363_395 := nL hg BK363.out; have NB395_363 := nG hg BK363.out; replace BK363 := bB BK363.out hb; have NB364_395 := nL hg BK364.out; have NB395_364 := nG hg BK364.out; replace BK364 := bB BK364.out hb; have NB365_395 := nL hg BK365.out; have NB395_365 := nG hg BK365.out; replace BK365 := bB BK365.out hb; have NB366_395 := nL hg BK366.out; have NB395_366 := nG hg BK366.out; replace BK366 := bB BK366.out hb; have NB367_395 := nL hg BK367.out; have NB395_367 := nG hg BK367.out; replace BK367 := bB BK367.out hb; have NB368_395 := nL hg BK368.out; have NB395_368 := nG hg BK368.out; replace BK368 := bB BK368.out hb; have NB377_395 := nL hg BK377.out; have NB395_377 := nG hg BK377.out; replace BK377 := bB BK377.out hb; have NB386_395 := nL hg BK386.out; have NB395_386 := nG hg BK386.out; replace BK386 := bB BK386.out hb; clear hb hbox hg; have hnb57 := NB395_363.out; have hnc57 := NB363_395.out; have hnb58 := NB395_364.out; have hnc58 := NB364_395.out; have hnb59 := NB395_365.out; have hnc59 := NB365_395.out; have hnb60 := NB395_366.out; have hnc60 := NB366_395.out; have hnb61 := NB395_367.out; have hnc61 := NB367_395.out; have hnb62 := NB395_368.out; have hnc62 := NB368_395.out; have hnb63 := NB395_377.out; have hnc63 := NB377_395.out; have hnb64 := NB395_386.out; have hnc64 := NB386_395.out; obtain ⟨hcz65_0, hcz65_1, hcz65_2⟩ := cz3 BK395.out; obtain ⟨hfz65_0, hfz65_1, hfz65_2⟩ := fz3 BK395.out; obtain ⟨Ao66, co66, rfl⟩ := Kd.R_slice HO390.out; obtain ⟨Ao67, co67, rfl⟩ := Kd.R_slice HO393.out))
 have n0_ : Aside0 (Kd.R (Kd.int .u64) 44 (((w56.setCell ⟨gb395, 0, none⟩ (.bool t387)).setCell ⟨gb395, 1, none⟩ (.slice Ao66 t388.length co66)).setCell ⟨gb395, 2, none⟩ (.slice Ao67 t391.length co67)) w.heap.size (fun k_ => oN Ao33 t373 co33 k_ ∧ oN Ao49 t379 co49 k_ ∧ oN Ao50 t382 co50 k_ ∧ oN Ao66 t388 co66 k_ ∧ oN Ao67 t391 co67 k_) (.slice Ao32 t370.length co32) t370) := ⟨oP HO372.out BK395.out⟩
 have n1_ : Aside0 (Kd.R (Kd.int .u64) 44 (((w56.setCell ⟨gb395, 0, none⟩ (.bool t387)).setCell ⟨gb395, 1, none⟩ (.slice Ao66 t388.length co66)).setCell ⟨gb395, 2, none⟩ (.slice Ao67 t391.length co67)) w.heap.size (fun k_ => oN Ao32 t370 co32 k_ ∧ oN Ao49 t379 co49 k_ ∧ oN Ao50 t382 co50 k_ ∧ oN Ao66 t388 co66 k_ ∧ oN Ao67 t391 co67 k_) (.slice Ao33 t373.length co33) t373) := ⟨oP HO375.out BK395.out⟩
 have n2_ : Aside0 (Kd.R (Kd.int .u64) 44 (((w56.setCell ⟨gb395, 0, none⟩ (.bool t387)).setCell ⟨gb395, 1, none⟩ (.slice Ao66 t388.length co66)).setCell ⟨gb395, 2, none⟩ (.slice Ao67 t391.length co67)) w.heap.size (fun k_ => oN Ao32 t370 co32 k_ ∧ oN Ao33 t373 co33 k_ ∧ oN Ao50 t382 co50 k_ ∧ oN Ao66 t388 co66 k_ ∧ oN Ao67 t391 co67 k_) (.slice Ao49 t379.length co49) t379) := ⟨oP HO381.out BK395.out⟩
 have n3_ : Aside0 (Kd.R (Kd.int .u64) 44 (((w56.setCell ⟨gb395, 0, none⟩ (.bool t387)).setCell ⟨gb395, 1, none⟩ (.slice Ao66 t388.length co66)).setCell ⟨gb395, 2, none⟩ (.slice Ao67 t391.length co67)) w.heap.size (fun k_ => oN Ao32 t370 co32 k_ ∧ oN Ao33 t373 co33 k_ ∧ oN Ao49 t379 co49 k_ ∧ oN Ao66 t388 co66 k_ ∧ oN Ao67 t391 co67 k_) (.slice Ao50 t382.length co50) t382) := ⟨oP HO384.out BK395.out⟩
 have n4_ : Aside0 (Kd.R (Kd.int .u64) 44 (((w56.setCell ⟨gb395, 0, none⟩ (.bool t387)).setCell ⟨gb395, 1, none⟩ (.slice Ao66 t388.length co66)).setCell ⟨gb395, 2, none⟩ (.slice Ao67 t391.length co67)) w.heap.size (fun k_ => oN Ao32 t370 co32 k_ ∧ oN Ao33 t373 co33 k_ ∧ oN Ao49 t379 co49 k_ ∧ oN Ao50 t382 co50 k_ ∧ oN Ao67 t391 co67 k_) (.slice Ao66 t388.length co66) t388) := ⟨oP HO390.out BK395.out⟩
 have n5_ : Aside0 (Kd.R (Kd.int .u64) 44 (((w56.setCell ⟨gb395, 0, none⟩ (.bool t387)).setCell ⟨gb395, 1, none⟩ (.slice Ao66 t388.length co66)).setCell ⟨gb395, 2, none⟩ (.slice Ao67 t391.length co67)) w.heap.size (fun k_ => oN Ao32 t370 co32 k_ ∧ oN Ao33 t373 co33 k_ ∧ oN Ao49 t379 co49 k_ ∧ oN Ao50 t382 co50 k_ ∧ oN Ao66 t388 co66 k_) (.slice Ao67 t391.length co67) t391) := ⟨oP HO393.out BK395.out⟩
 have n6_ : Aside0 ((((w56.setCell ⟨gb395, 0, none⟩ (.bool t387)).setCell ⟨gb395, 1, none⟩ (.slice Ao66 t388.length co66)).setCell ⟨gb395, 2, none⟩ (.slice Ao67 t391.length co67)).heap[gb363]? = some (.cells #[.bool a0_0, .slice A0_1 l0_1.length c0_1, .slice A0_2 l0_2.length c0_2] 24 (0, 0))) := ⟨dU1 BK363.out NB363_395.out⟩
 have n7_ : Aside0 ((((w56.setCell ⟨gb395, 0, none⟩ (.bool t387)).setCell ⟨gb395, 1, none⟩ (.slice Ao66 t388.length co66)).setCell ⟨gb395, 2, none⟩ (.slice Ao67 t391.length co67)).heap[gb364]? = some (.cells #[.bool a1_0, .slice A1_1 l1_1.length c1_1, .slice A1_2 l1_2.length c1_2] 24 (0, 0))) := ⟨dU1 BK364.out NB364_395.out⟩
 have n8_ : Aside0 ((((w56.setCell ⟨gb395, 0, none⟩ (.bool t387)).setCell ⟨gb395, 1, none⟩ (.slice Ao66 t388.length co66)).setCell ⟨gb395, 2, none⟩ (.slice Ao67 t391.length co67)).heap[gb365]? = some (.cells #[.bool a2_0, .slice A2_1 l2_1.length c2_1, .slice A2_2 l2_2.length c2_2] 24 (0, 0))) := ⟨dU1 BK365.out NB365_395.out⟩
 have n9_ : Aside0 ((((w56.setCell ⟨gb395, 0, none⟩ (.bool t387)).setCell ⟨gb395, 1, none⟩ (.slice Ao66 t388.length co66)).setCell ⟨gb395, 2, none⟩ (.slice Ao67 t391.length co67)).heap[gb366]? = some (.cells #[.bool false, .slice none 0 0, .slice none 0 0] 25 (0, 0))) := ⟨dU1 BK366.out NB366_395.out⟩
 have n10_ : Aside0 ((((w56.setCell ⟨gb395, 0, none⟩ (.bool t387)).setCell ⟨gb395, 1, none⟩ (.slice Ao66 t388.length co66)).setCell ⟨gb395, 2, none⟩ (.slice Ao67 t391.length co67)).heap[gb367]? = some (.cells #[.bool false, .slice none 0 0, .slice none 0 0] 25 (0, 0))) := ⟨dU1 BK367.out NB367_395.out⟩
 have n11_ : Aside0 ((((w56.setCell ⟨gb395, 0, none⟩ (.bool t387)).setCell ⟨gb395, 1, none⟩ (.slice Ao66 t388.length co66)).setCell ⟨gb395, 2, none⟩ (.slice Ao67 t391.length co67)).heap[gb368]? = some (.cells #[.bool false, .slice none 0 0, .slice none 0 0] 25 (0, 0))) := ⟨dU1 BK368.out NB368_395.out⟩
 have n12_ : Aside0 ((((w56.setCell ⟨gb395, 0, none⟩ (.bool t387)).setCell ⟨gb395, 1, none⟩ (.slice Ao66 t388.length co66)).setCell ⟨gb395, 2, none⟩ (.slice Ao67 t391.length co67)).heap[gb377]? = some (.cells #[.bool t369, .slice Ao32 t370.length co32, .slice Ao33 t373.length co33] 25 (0, 0))) := ⟨dU1 BK377.out NB377_395.out⟩
 have n13_ : Aside0 ((((w56.setCell ⟨gb395, 0, none⟩ (.bool t387)).setCell ⟨gb395, 1, none⟩ (.slice Ao66 t388.length co66)).setCell ⟨gb395, 2, none⟩ (.slice Ao67 t391.length co67)).heap[gb386]? = some (.cells #[.bool t378, .slice Ao49 t379.length co49, .slice Ao50 t382.length co50] 25 (0, 0))) := ⟨dU1 BK386.out NB386_395.out⟩
 have n14_ : Aside0 ((((w56.setCell ⟨gb395, 0, none⟩ (.bool t387)).setCell ⟨gb395, 1, none⟩ (.slice Ao66 t388.length co66)).setCell ⟨gb395, 2, none⟩ (.slice Ao67 t391.length co67)).heap[gb395]? = some (.cells #[.bool t387, .slice Ao66 t388.length co66, .slice Ao67 t391.length co67] 25 (0, 0))) := ⟨dP BK395.out⟩
 have n15_ : Aside0 (Below w.heap.size w (((w56.setCell ⟨gb395, 0, none⟩ (.bool t387)).setCell ⟨gb395, 1, none⟩ (.slice Ao66 t388.length co66)).setCell ⟨gb395, 2, none⟩ (.slice Ao67 t391.length co67))) := ⟨eB⟩
 (try clear HO372)
 (try clear HO375)
 (try clear HO381)
 (try clear HO384)
 (try clear HO390)
 (try clear HO393)
 (try clear BK363)
 (try clear BK364)
 (try clear BK365)
 (try clear BK366)
 (try clear BK367)
 (try clear BK368)
 (try clear BK377)
 (try clear BK386)
 (try clear BK395)
 (try clear HB)
 generalize (((w56.setCell ⟨gb395, 0, none⟩ (.bool t387)).setCell ⟨gb395, 1, none⟩ (.slice Ao66 t388.length co66)).setCell ⟨gb395, 2, none⟩ (.slice Ao67 t391.length co67)) = w68 at n0_ n1_ n2_ n3_ n4_ n5_ n6_ n7_ n8_ n9_ n10_ n11_ n12_ n13_ n14_ n15_ ⊢
 have HO372 := n0_
 have HO375 := n1_
 have HO381 := n2_
 have HO384 := n3_
 have HO390 := n4_
 have HO393 := n5_
 have BK363 := n6_
 have BK364 := n7_
 have BK365 := n8_
 have BK366 := n9_
 have BK367 := n10_
 have BK368 := n11_
 have BK377 := n12_
 have BK386 := n13_
 have BK395 := n14_
 have HB := n15_
 clear n0_ n1_ n2_ n3_ n4_ n5_ n6_ n7_ n8_ n9_ n10_ n11_ n12_ n13_ n14_ n15_
 replace HO372 := aM (Kd.R_drew HO372.out)
 replace HO375 := aM (Kd.R_drew HO375.out)
 replace HO381 := aM (Kd.R_drew HO381.out)
 replace HO384 := aM (Kd.R_drew HO384.out)
 replace HO390 := aM (Kd.R_drew HO390.out)
 replace HO393 := aM (Kd.R_drew HO393.out)
 replace BK363 := aM (blk_drew BK363.out)
 replace BK364 := aM (blk_drew BK364.out)
 replace BK365 := aM (blk_drew BK365.out)
 replace BK366 := aM (blk_drew BK366.out)
 replace BK367 := aM (blk_drew BK367.out)
 replace BK368 := aM (blk_drew BK368.out)
 replace BK377 := aM (blk_drew BK377.out)
 replace BK386 := aM (blk_drew BK386.out)
 replace BK395 := aM (blk_drew BK395.out)
 replace HB := aM (below_drew1 HB.out)
 refine start_ (n := 17) (S := fun w' => w'.cell? ⟨gb377, 0, none⟩ = some (.bool t369) ∧ w'.cell? ⟨gb377, 1, none⟩ = some (.slice Ao32 t370.length co32) ∧ w'.cell? ⟨gb377, 2, none⟩ = some (.slice Ao33 t373.length co33) ∧ w'.cell? ⟨gb386, 0, none⟩ = some (.bool t378) ∧ w'.cell? ⟨gb386, 1, none⟩ = some (.slice Ao49 t379.length co49) ∧ w'.cell? ⟨gb386, 2, none⟩ = some (.slice Ao50 t382.length co50) ∧ w'.cell? ⟨gb395, 0, none⟩ = some (.bool t387) ∧ w'.cell? ⟨gb395, 1, none⟩ = some (.slice Ao66 t388.length co66) ∧ w'.cell? ⟨gb395, 2, none⟩ = some (.slice Ao67 t391.length co67)) (ds := []) #[false, false, false, false, false, false, false, false, false, false, false, false, false, false, false, false, false] (by kernel_rfl) rfl rfl ⟨(blk_cell BK377.out 0).trans rfl, (blk_cell BK377.out 1).trans rfl, (blk_cell BK377.out 2).trans rfl, (blk_cell BK386.out 0).trans rfl, (blk_cell BK386.out 1).trans rfl, (blk_cell BK386.out 2).trans rfl, (blk_cell BK395.out 0).trans rfl, (blk_cell BK395.out 1).trans rfl, (blk_cell BK395.out 2).trans rfl⟩ (fun hHeld => ?_); refine with_tabW plumblaw05_three.tab4 plumblaw05_three.bits4 (fun HT_ HW_ => ?_)
 generalize w68.drew = w69 at HO372 HO375 HO381 HO384 HO390 HO393 BK363 BK364 BK365 BK366 BK367 BK368 BK377 BK386 BK395 HB hHeld ⊢
 refine pP 3 (some 34) ?_
 refine pP 4 (some 35) ?_
 refine pP 5 (some 36) ?_
 refine pP 6 (some 37) ?_
 refine pP 7 (some 38) ?_
 refine pP 8 (some 39) ?_
 refine pP 9 (some 40) ?_
 refine pP 10 (some 41) ?_
 refine pH9 0 (some 31) hHeld ?_
 refine pH9 1 (some 32) hHeld ?_
 refine pH9 2 (some 33) hHeld ?_
 refine one_ (i := 11) (N := some 42) #[true, true, true, true, true, true, true, true, true, true, true, true, false, false, false, false, false] rfl rfl (one_of HT_.out (by kernel_rfl)) (by decide) (fun K hK => ?_)
 refine goes_ Try.func17 (by kernel_rfl) rfl #[] (by rfl) rfl rfl dA ?_
 with_reducible refine (plumblaw05_alive.calls k  t396 _ A10.out).mono ?_
 rintro e w70 ⟨rfl, hb⟩
 refine ⟨_, rfl, ?_⟩
 replace HO372 := oB HO372.out hb
 replace HO375 := oB HO375.out hb
 replace HO381 := oB HO381.out hb
 replace HO384 := oB HO384.out hb
 replace HO390 := oB HO390.out hb
 replace HO393 := oB HO393.out hb
 replace BK363 := bB BK363.out hb
 replace BK364 := bB BK364.out hb
 replace BK365 := bB BK365.out hb
 replace BK366 := bB BK366.out hb
 replace BK367 := bB BK367.out hb
 replace BK368 := bB BK368.out hb
 replace BK377 := bB BK377.out hb
 replace BK386 := bB BK386.out hb
 replace BK395 := bB BK395.out hb
 replace HB := hS HB.out hb
 (try clear hb)
 (try clear hb2)
 (try clear hk)
 (try clear hi)
 refine hK.out _ _ ⟨(blk_cell BK377.out 0).trans rfl, (blk_cell BK377.out 1).trans rfl, (blk_cell BK377.out 2).trans rfl, (blk_cell BK386.out 0).trans rfl, (blk_cell BK386.out 1).trans rfl, (blk_cell BK386.out 2).trans rfl, (blk_cell BK395.out 0).trans rfl, (blk_cell BK395.out 1).trans rfl, (blk_cell BK395.out 2).trans rfl⟩ (fun hHeld => ?_)
 clear hK K
 refine norm_ (a' := ?_) ?_ ?_
 rotate_left
 ·show Act.put _ (some 42) _ = _
  simp only [Act.put, List.setIfInBounds_toArray, List.set_cons_zero, List.set_cons_succ, i64_w, i32_w]
  rfl
 refine pP 12 (some 43) ?_
 refine one_ (i := 13) (N := none) #[true, true, true, true, true, true, true, true, true, true, true, true, true, true, false, false, false] rfl rfl (one_of HT_.out (by kernel_rfl)) (by decide) (fun K hK => ?_)
 have hs71 : w70.cell? ⟨gb366, 0, none⟩ = some (.bool false) := (blk_cell BK366.out 0).trans rfl
 have hfs71 := blk_frozen BK366.out 0
 have hns71_0 := NB363_366.out
 have hns71_1 := NB364_366.out
 have hns71_2 := NB365_366.out
 have hns71_4 := NB367_366.out
 have hns71_5 := NB368_366.out
 have hns71_6 := NB377_366.out
 have hns71_7 := NB386_366.out
 have hns71_8 := NB395_366.out
 have hms71_0 := NB366_363.out
 have hms71_1 := NB366_364.out
 have hms71_2 := NB366_365.out
 have hms71_4 := NB366_367.out
 have hms71_5 := NB366_368.out
 have hms71_6 := NB366_377.out
 have hms71_7 := NB366_386.out
 have hms71_8 := NB366_395.out
 have hs72 : w70.cell? ⟨gb366, 1, none⟩ = some (.slice none 0 0) := (blk_cell BK366.out 1).trans rfl
 have hfs72 := blk_frozen BK366.out 1
 have hns72_0 := NB363_366.out
 have hns72_1 := NB364_366.out
 have hns72_2 := NB365_366.out
 have hns72_4 := NB367_366.out
 have hns72_5 := NB368_366.out
 have hns72_6 := NB377_366.out
 have hns72_7 := NB386_366.out
 have hns72_8 := NB395_366.out
 have hms72_0 := NB366_363.out
 have hms72_1 := NB366_364.out
 have hms72_2 := NB366_365.out
 have hms72_4 := NB366_367.out
 have hms72_5 := NB366_368.out
 have hms72_6 := NB366_377.out
 have hms72_7 := NB366_386.out
 have hms72_8 := NB366_395.out
 have hs73 : w70.cell? ⟨gb366, 2, none⟩ = some (.slice none 0 0) := (blk_cell BK366.out 2).trans rfl
 have hfs73 := blk_frozen BK366.out 2
 have hns73_0 := NB363_366.out
 have hns73_1 := NB364_366.out
 have hns73_2 := NB365_366.out
 have hns73_4 := NB367_366.out
 have hns73_5 := NB368_366.out
 have hns73_6 := NB377_366.out
 have hns73_7 := NB386_366.out
 have hns73_8 := NB395_366.out
 have hms73_0 := NB366_363.out
 have hms73_1 := NB366_364.out
 have hms73_2 := NB366_365.out
 have hms73_4 := NB366_367.out
 have hms73_5 := NB366_368.out
 have hms73_6 := NB366_377.out
 have hms73_7 := NB366_386.out
 have hms73_8 := NB366_395.out
 refine skip_ (w1 := ?_) (by rfl) rfl ?_ ?_
 rotate_left
 ·go_simp
  rfl
 refine hK.out _ _ ⟨((cell_far (p := ⟨gb366, _, none⟩) NB377_366.out _).trans (((cell_far (p := ⟨gb366, _, none⟩) NB377_366.out _).trans (((cell_far (p := ⟨gb366, _, none⟩) NB377_366.out _).trans (hHeld.1)))))), ((cell_far (p := ⟨gb366, _, none⟩) NB377_366.out _).trans (((cell_far (p := ⟨gb366, _, none⟩) NB377_366.out _).trans (((cell_far (p := ⟨gb366, _, none⟩) NB377_366.out _).trans (hHeld.2.1)))))), ((cell_far (p := ⟨gb366, _, none⟩) NB377_366.out _).trans (((cell_far (p := ⟨gb366, _, none⟩) NB377_366.out _).trans (((cell_far (p := ⟨gb366, _, none⟩) NB377_366.out _).trans (hHeld.2.2.1)))))), ((cell_far (p := ⟨gb366, _, none⟩) NB386_366.out _).trans (((cell_far (p := ⟨gb366, _, none⟩) NB386_366.out _).trans (((cell_far (p := ⟨gb366, _, none⟩) NB386_366.out _).trans (hHeld.2.2.2.1)))))), ((cell_far (p := ⟨gb366, _, none⟩) NB386_366.out _).trans (((cell_far (p := ⟨gb366, _, none⟩) NB386_366.out _).trans (((cell_far (p := ⟨gb366, _, none⟩) NB386_366.out _).trans (hHeld.2.2.2.2.1)))))), ((cell_far (p := ⟨gb366, _, none⟩) NB386_366.out _).trans (((cell_far (p := ⟨gb366, _, none⟩) NB386_366.out _).trans (((cell_far (p := ⟨gb366, _, none⟩) NB386_366.out _).trans (hHeld.2.2.2.2.2.1)))))), ((cell_far (p := ⟨gb366, _, none⟩) NB395_366.out _).trans (((cell_far (p := ⟨gb366, _, none⟩) NB395_366.out _).trans (((cell_far (p := ⟨gb366, _, none⟩) NB395_366.out _).trans (hHeld.2.2.2.2.2.2.1)))))), ((cell_far (p := ⟨gb366, _, none⟩) NB395_366.out _).trans (((cell_far (p := ⟨gb366, _, none⟩) NB395_366.out _).trans (((cell_far (p := ⟨gb366, _, none⟩) NB395_366.out _).trans (hHeld.2.2.2.2.2.2.2.1)))))), ((cell_far (p := ⟨gb366, _, none⟩) NB395_366.out _).trans (((cell_far (p := ⟨gb366, _, none⟩) NB395_366.out _).trans (((cell_far (p := ⟨gb366, _, none⟩) NB395_366.out _).trans (hHeld.2.2.2.2.2.2.2.2))))))⟩ (fun hHeld => ?_)
 clear hK K
 refine one_ (i := 14) (N := none) #[true, true, true, true, true, true, true, true, true, true, true, true, true, true, true, false, false] rfl rfl (one_of HT_.out (by kernel_rfl)) (by decide) (fun K hK => ?_)
 have hs74 : w70.cell? ⟨gb367, 0, none⟩ = some (.bool false) := (blk_cell BK367.out 0).trans rfl
 have hfs74 := blk_frozen BK367.out 0
 have hns74_0 := NB363_367.out
 have hns74_1 := NB364_367.out
 have hns74_2 := NB365_367.out
 have hns74_3 := NB366_367.out
 have hns74_5 := NB368_367.out
 have hns74_6 := NB377_367.out
 have hns74_7 := NB386_367.out
 have hns74_8 := NB395_367.out
 have hms74_0 := NB367_363.out
 have hms74_1 := NB367_364.out
 have hms74_2 := NB367_365.out
 have hms74_3 := NB367_366.out
 have hms74_5 := NB367_368.out
 have hms74_6 := NB367_377.out
 have hms74_7 := NB367_386.out
 have hms74_8 := NB367_395.out
 have hs75 : w70.cell? ⟨gb367, 1, none⟩ = some (.slice none 0 0) := (blk_cell BK367.out 1).trans rfl
 have hfs75 := blk_frozen BK367.out 1
 have hns75_0 := NB363_367.out
 have hns75_1 := NB364_367.out
 have hns75_2 := NB365_367.out
 have hns75_3 := NB366_367.out
 have hns75_5 := NB368_367.out
 have hns75_6 := NB377_367.out
 have hns75_7 := NB386_367.out
 have hns75_8 := NB395_367.out
 have hms75_0 := NB367_363.out
 have hms75_1 := NB367_364.out
 have hms75_2 := NB367_365.out
 have hms75_3 := NB367_366.out
 have hms75_5 := NB367_368.out
 have hms75_6 := NB367_377.out
 have hms75_7 := NB367_386.out
 have hms75_8 := NB367_395.out
 have hs76 : w70.cell? ⟨gb367, 2, none⟩ = some (.slice none 0 0) := (blk_cell BK367.out 2).trans rfl
 have hfs76 := blk_frozen BK367.out 2
 have hns76_0 := NB363_367.out
 have hns76_1 := NB364_367.out
 have hns76_2 := NB365_367.out
 have hns76_3 := NB366_367.out
 have hns76_5 := NB368_367.out
 have hns76_6 := NB377_367.out
 have hns76_7 := NB386_367.out
 have hns76_8 := NB395_367.out
 have hms76_0 := NB367_363.out
 have hms76_1 := NB367_364.out
 have hms76_2 := NB367_365.out
 have hms76_3 := NB367_366.out
 have hms76_5 := NB367_368.out
 have hms76_6 := NB367_377.out
 have hms76_7 := NB367_386.out
 have hms76_8 := NB367_395.out
 refine skip_ (w1 := ?_) (by rfl) rfl ?_ ?_
 rotate_left
 ·go_simp
  rfl
 refine hK.out _ _ ⟨((cell_far (p := ⟨gb367, _, none⟩) NB377_367.out _).trans (((cell_far (p := ⟨gb367, _, none⟩) NB377_367.out _).trans (((cell_far (p := ⟨gb367, _, none⟩) NB377_367.out _).trans (hHeld.1)))))), ((cell_far (p := ⟨gb367, _, none⟩) NB377_367.out _).trans (((cell_far (p := ⟨gb367, _, none⟩) NB377_367.out _).trans (((cell_far (p := ⟨gb367, _, none⟩) NB377_367.out _).trans (hHeld.2.1)))))), ((cell_far (p := ⟨gb367, _, none⟩) NB377_367.out _).trans (((cell_far (p := ⟨gb367, _, none⟩) NB377_367.out _).trans (((cell_far (p := ⟨gb367, _, none⟩) NB377_367.out _).trans (hHeld.2.2.1)))))), ((cell_far (p := ⟨gb367, _, none⟩) NB386_367.out _).trans (((cell_far (p := ⟨gb367, _, none⟩) NB386_367.out _).trans (((cell_far (p := ⟨gb367, _, none⟩) NB386_367.out _).trans (hHeld.2.2.2.1)))))), ((cell_far (p := ⟨gb367, _, none⟩) NB386_367.out _).trans (((cell_far (p := ⟨gb367, _, none⟩) NB386_367.out _).trans (((cell_far (p := ⟨gb367, _, none⟩) NB386_367.out _).trans (hHeld.2.2.2.2.1)))))), ((cell_far (p := ⟨gb367, _, none⟩) NB386_367.out _).trans (((cell_far (p := ⟨gb367, _, none⟩) NB386_367.out _).trans (((cell_far (p := ⟨gb367, _, none⟩) NB386_367.out _).trans (hHeld.2.2.2.2.2.1)))))), ((cell_far (p := ⟨gb367, _, none⟩) NB395_367.out _).trans (((cell_far (p := ⟨gb367, _, none⟩) NB395_367.out _).trans (((cell_far (p := ⟨gb367, _, none⟩) NB395_367.out _).trans (hHeld.2.2.2.2.2.2.1)))))), ((cell_far (p := ⟨gb367, _, none⟩) NB395_367.out _).trans (((cell_far (p := ⟨gb367, _, none⟩) NB395_367.out _).trans (((cell_far (p := ⟨gb367, _, none⟩) NB395_367.out _).trans (hHeld.2.2.2.2.2.2.2.1)))))), ((cell_far (p := ⟨gb367, _, none⟩) NB395_367.out _).trans (((cell_far (p := ⟨gb367, _, none⟩) NB395_367.out _).trans (((cell_far (p := ⟨gb367, _, none⟩) NB395_367.out _).trans (hHeld.2.2.2.2.2.2.2.2))))))⟩ (fun hHeld => ?_)
 clear hK K
 refine one_ (i := 15) (N := none) #[true, true, true, true, true, true, true, true, true, true, true, true, true, true, true, true, false] rfl rfl (one_of HT_.out (by kernel_rfl)) (by decide) (fun K hK => ?_)
 have hs77 : w70.cell? ⟨gb368, 0, none⟩ = some (.bool false) := (blk_cell BK368.out 0).trans rfl
 have hfs77 := blk_frozen BK368.out 0
 have hns77_0 := NB363_368.out
 have hns77_1 := NB364_368.out
 have hns77_2 := NB365_368.out
 have hns77_3 := NB366_368.out
 have hns77_4 := NB367_368.out
 have hns77_6 := NB377_368.out
 have hns77_7 := NB386_368.out
 have hns77_8 := NB395_368.out
 have hms77_0 := NB368_363.out
 have hms77_1 := NB368_364.out
 have hms77_2 := NB368_365.out
 have hms77_3 := NB368_366.out
 have hms77_4 := NB368_367.out
 have hms77_6 := NB368_377.out
 have hms77_7 := NB368_386.out
 have hms77_8 := NB368_395.out
 have hs78 : w70.cell? ⟨gb368, 1, none⟩ = some (.slice none 0 0) := (blk_cell BK368.out 1).trans rfl
 have hfs78 := blk_frozen BK368.out 1
 have hns78_0 := NB363_368.out
 have hns78_1 := NB364_368.out
 have hns78_2 := NB365_368.out
 have hns78_3 := NB366_368.out
 have hns78_4 := NB367_368.out
 have hns78_6 := NB377_368.out
 have hns78_7 := NB386_368.out
 have hns78_8 := NB395_368.out
 have hms78_0 := NB368_363.out
 have hms78_1 := NB368_364.out
 have hms78_2 := NB368_365.out
 have hms78_3 := NB368_366.out
 have hms78_4 := NB368_367.out
 have hms78_6 := NB368_377.out
 have hms78_7 := NB368_386.out
 have hms78_8 := NB368_395.out
 have hs79 : w70.cell? ⟨gb368, 2, none⟩ = some (.slice none 0 0) := (blk_cell BK368.out 2).trans rfl
 have hfs79 := blk_frozen BK368.out 2
 have hns79_0 := NB363_368.out
 have hns79_1 := NB364_368.out
 have hns79_2 := NB365_368.out
 have hns79_3 := NB366_368.out
 have hns79_4 := NB367_368.out
 have hns79_6 := NB377_368.out
 have hns79_7 := NB386_368.out
 have hns79_8 := NB395_368.out
 have hms79_0 := NB368_363.out
 have hms79_1 := NB368_364.out
 have hms79_2 := NB368_365.out
 have hms79_3 := NB368_366.out
 have hms79_4 := NB368_367.out
 have hms79_6 := NB368_377.out
 have hms79_7 := NB368_386.out
 have hms79_8 := NB368_395.out
 refine skip_ (w1 := ?_) (by rfl) rfl ?_ ?_
 rotate_left
 ·go_simp
  rfl
 refine hK.out _ _ ⟨((cell_far (p := ⟨gb368, _, none⟩) NB377_368.out _).trans (((cell_far (p := ⟨gb368, _, none⟩) NB377_368.out _).trans (((cell_far (p := ⟨gb368, _, none⟩) NB377_368.out _).trans (hHeld.1)))))), ((cell_far (p := ⟨gb368, _, none⟩) NB377_368.out _).trans (((cell_far (p := ⟨gb368, _, none⟩) NB377_368.out _).trans (((cell_far (p := ⟨gb368, _, none⟩) NB377_368.out _).trans (hHeld.2.1)))))), ((cell_far (p := ⟨gb368, _, none⟩) NB377_368.out _).trans (((cell_far (p := ⟨gb368, _, none⟩) NB377_368.out _).trans (((cell_far (p := ⟨gb368, _, none⟩) NB377_368.out _).trans (hHeld.2.2.1)))))), ((cell_far (p := ⟨gb368, _, none⟩) NB386_368.out _).trans (((cell_far (p := ⟨gb368, _, none⟩) NB386_368.out _).trans (((cell_far (p := ⟨gb368, _, none⟩) NB386_368.out _).trans (hHeld.2.2.2.1)))))), ((cell_far (p := ⟨gb368, _, none⟩) NB386_368.out _).trans (((cell_far (p := ⟨gb368, _, none⟩) NB386_368.out _).trans (((cell_far (p := ⟨gb368, _, none⟩) NB386_368.out _).trans (hHeld.2.2.2.2.1)))))), ((cell_far (p := ⟨gb368, _, none⟩) NB386_368.out _).trans (((cell_far (p := ⟨gb368, _, none⟩) NB386_368.out _).trans (((cell_far (p := ⟨gb368, _, none⟩) NB386_368.out _).trans (hHeld.2.2.2.2.2.1)))))), ((cell_far (p := ⟨gb368, _, none⟩) NB395_368.out _).trans (((cell_far (p := ⟨gb368, _, none⟩) NB395_368.out _).trans (((cell_far (p := ⟨gb368, _, none⟩) NB395_368.out _).trans (hHeld.2.2.2.2.2.2.1)))))), ((cell_far (p := ⟨gb368, _, none⟩) NB395_368.out _).trans (((cell_far (p := ⟨gb368, _, none⟩) NB395_368.out _).trans (((cell_far (p := ⟨gb368, _, none⟩) NB395_368.out _).trans (hHeld.2.2.2.2.2.2.2.1)))))), ((cell_far (p := ⟨gb368, _, none⟩) NB395_368.out _).trans (((cell_far (p := ⟨gb368, _, none⟩) NB395_368.out _).trans (((cell_far (p := ⟨gb368, _, none⟩) NB395_368.out _).trans (hHeld.2.2.2.2.2.2.2.2))))))⟩ (fun hHeld => ?_)
 clear hK K
 refine pP 16 (some 9) ?_
 refine done_ (done_of HT_.out (by kernel_rfl)) ?_
 try go_wp2
 refine bodyPost_ret (results_list (rs := [.cell 6 25, .cell 7 25, .cell 8 25, .tmp 9]) rfl (by simp) (.cell gb366 25 #[.bool t369, .slice Ao32 t370.length co32, .slice Ao33 t373.length co33] (0, 0) _ rfl (dQ2 BK366.out NB366_368.out NB366_367.out) Try.underlying25 rfl (by kernel_rfl) (.cell gb367 25 #[.bool t378, .slice Ao49 t379.length co49, .slice Ao50 t382.length co50] (0, 0) _ rfl (dQ2 BK367.out NB367_368.out NB367_366.out) Try.underlying25 rfl (by kernel_rfl) (.cell gb368 25 #[.bool t387, .slice Ao66 t388.length co66, .slice Ao67 t391.length co67] (0, 0) _ rfl (dQ2 BK368.out NB368_367.out NB368_366.out) Try.underlying25 rfl (by kernel_rfl) (.tmp .nil))))) rfl ?_
 exact ⟨_, _, _, _, _, _, dE, by (with_reducible repeat (first | apply Kd.R_alloc | apply Kd.R_drewN | apply Kd.R_drew)); exact Kd.R_mono (Kd.R_far (p := ⟨gb368, 2, none⟩) (Kd.R_far (p := ⟨gb368, 1, none⟩) (Kd.R_far (p := ⟨gb368, 0, none⟩) (Kd.R_far (p := ⟨gb367, 2, none⟩) (Kd.R_far (p := ⟨gb367, 1, none⟩) (Kd.R_far (p := ⟨gb367, 0, none⟩) (Kd.R_far (p := ⟨gb366, 2, none⟩) (Kd.R_far (p := ⟨gb366, 1, none⟩) (Kd.R_far (p := ⟨gb366, 0, none⟩) (Kd.R_types (Kd.R_types (Kd.R_types HO372.out BK366.out (by decide)) BK367.out (by decide)) BK368.out (by decide)) (fun _ hk => hk.1.1.2) (.bool t369)) (fun _ hk => hk.1.1.2) (.slice Ao32 t370.length co32)) (fun _ hk => hk.1.1.2) (.slice Ao33 t373.length co33)) (fun _ hk => hk.1.2) (.bool t378)) (fun _ hk => hk.1.2) (.slice Ao49 t379.length co49)) (fun _ hk => hk.1.2) (.slice Ao50 t382.length co50)) (fun _ hk => hk.2) (.bool t387)) (fun _ hk => hk.2) (.slice Ao66 t388.length co66)) (fun _ hk => hk.2) (.slice Ao67 t391.length co67)) (fun _ hk => ⟨hk.1.1.1.1, ⟨hk.1.1.1.2.1, ⟨hk.1.1.1.2.2.1, ⟨hk.1.1.1.2.2.2.1, hk.1.1.1.2.2.2.2⟩⟩⟩⟩), by (with_reducible repeat (first | apply Kd.R_alloc | apply Kd.R_drewN | apply Kd.R_drew)); exact Kd.R_mono (Kd.R_far (p := ⟨gb368, 2, none⟩) (Kd.R_far (p := ⟨gb368, 1, none⟩) (Kd.R_far (p := ⟨gb368, 0, none⟩) (Kd.R_far (p := ⟨gb367, 2, none⟩) (Kd.R_far (p := ⟨gb367, 1, none⟩) (Kd.R_far (p := ⟨gb367, 0, none⟩) (Kd.R_far (p := ⟨gb366, 2, none⟩) (Kd.R_far (p := ⟨gb366, 1, none⟩) (Kd.R_far (p := ⟨gb366, 0, none⟩) (Kd.R_types (Kd.R_types (Kd.R_types HO375.out BK366.out (by decide)) BK367.out (by decide)) BK368.out (by decide)) (fun _ hk => hk.1.1.2) (.bool t369)) (fun _ hk => hk.1.1.2) (.slice Ao32 t370.length co32)) (fun _ hk => hk.1.1.2) (.slice Ao33 t373.length co33)) (fun _ hk => hk.1.2) (.bool t378)) (fun _ hk => hk.1.2) (.slice Ao49 t379.length co49)) (fun _ hk => hk.1.2) (.slice Ao50 t382.length co50)) (fun _ hk => hk.2) (.bool t387)) (fun _ hk => hk.2) (.slice Ao66 t388.length co66)) (fun _ hk => hk.2) (.slice Ao67 t391.length co67)) (fun _ hk => ⟨hk.1.1.1.1, ⟨hk.1.1.1.2.1, ⟨hk.1.1.1.2.2.1, ⟨hk.1.1.1.2.2.2.1, hk.1.1.1.2.2.2.2⟩⟩⟩⟩), by (with_reducible repeat (first | apply Kd.R_alloc | apply Kd.R_drewN | apply Kd.R_drew)); exact Kd.R_mono (Kd.R_far (p := ⟨gb368, 2, none⟩) (Kd.R_far (p := ⟨gb368, 1, none⟩) (Kd.R_far (p := ⟨gb368, 0, none⟩) (Kd.R_far (p := ⟨gb367, 2, none⟩) (Kd.R_far (p := ⟨gb367, 1, none⟩) (Kd.R_far (p := ⟨gb367, 0, none⟩) (Kd.R_far (p := ⟨gb366, 2, none⟩) (Kd.R_far (p := ⟨gb366, 1, none⟩) (Kd.R_far (p := ⟨gb366, 0, none⟩) (Kd.R_types (Kd.R_types (Kd.R_types HO381.out BK366.out (by decide)) BK367.out (by decide)) BK368.out (by decide)) (fun _ hk => hk.1.1.2) (.bool t369)) (fun _ hk => hk.1.1.2) (.slice Ao32 t370.length co32)) (fun _ hk => hk.1.1.2) (.slice Ao33 t373.length co33)) (fun _ hk => hk.1.2) (.bool t378)) (fun _ hk => hk.1.2) (.slice Ao49 t379.length co49)) (fun _ hk => hk.1.2) (.slice Ao50 t382.length co50)) (fun _ hk => hk.2) (.bool t387)) (fun _ hk => hk.2) (.slice Ao66 t388.length co66)) (fun _ hk => hk.2) (.slice Ao67 t391.length co67)) (fun _ hk => ⟨hk.1.1.1.1, ⟨hk.1.1.1.2.1, ⟨hk.1.1.1.2.2.1, ⟨hk.1.1.1.2.2.2.1, hk.1.1.1.2.2.2.2⟩⟩⟩⟩), by (with_reducible repeat (first | apply Kd.R_alloc | apply Kd.R_drewN | apply Kd.R_drew)); exact Kd.R_mono (Kd.R_far (p := ⟨gb368, 2, none⟩) (Kd.R_far (p := ⟨gb368, 1, none⟩) (Kd.R_far (p := ⟨gb368, 0, none⟩) (Kd.R_far (p := ⟨gb367, 2, none⟩) (Kd.R_far (p := ⟨gb367, 1, none⟩) (Kd.R_far (p := ⟨gb367, 0, none⟩) (Kd.R_far (p := ⟨gb366, 2, none⟩) (Kd.R_far (p := ⟨gb366, 1, none⟩) (Kd.R_far (p := ⟨gb366, 0, none⟩) (Kd.R_types (Kd.R_types (Kd.R_types HO384.out BK366.out (by decide)) BK367.out (by decide)) BK368.out (by decide)) (fun _ hk => hk.1.1.2) (.bool t369)) (fun _ hk => hk.1.1.2) (.slice Ao32 t370.length co32)) (fun _ hk => hk.1.1.2) (.slice Ao33 t373.length co33)) (fun _ hk => hk.1.2) (.bool t378)) (fun _ hk => hk.1.2) (.slice Ao49 t379.length co49)) (fun _ hk => hk.1.2) (.slice Ao50 t382.length co50)) (fun _ hk => hk.2) (.bool t387)) (fun _ hk => hk.2) (.slice Ao66 t388.length co66)) (fun _ hk => hk.2) (.slice Ao67 t391.length co67)) (fun _ hk => ⟨hk.1.1.1.1, ⟨hk.1.1.1.2.1, ⟨hk.1.1.1.2.2.1, ⟨hk.1.1.1.2.2.2.1, hk.1.1.1.2.2.2.2⟩⟩⟩⟩), by (with_reducible repeat (first | apply Kd.R_alloc | apply Kd.R_drewN | apply Kd.R_drew)); exact Kd.R_mono (Kd.R_far (p := ⟨gb368, 2, none⟩) (Kd.R_far (p := ⟨gb368, 1, none⟩) (Kd.R_far (p := ⟨gb368, 0, none⟩) (Kd.R_far (p := ⟨gb367, 2, none⟩) (Kd.R_far (p := ⟨gb367, 1, none⟩) (Kd.R_far (p := ⟨gb367, 0, none⟩) (Kd.R_far (p := ⟨gb366, 2, none⟩) (Kd.R_far (p := ⟨gb366, 1, none⟩) (Kd.R_far (p := ⟨gb366, 0, none⟩) (Kd.R_types (Kd.R_types (Kd.R_types HO390.out BK366.out (by decide)) BK367.out (by decide)) BK368.out (by decide)) (fun _ hk => hk.1.1.2) (.bool t369)) (fun _ hk => hk.1.1.2) (.slice Ao32 t370.length co32)) (fun _ hk => hk.1.1.2) (.slice Ao33 t373.length co33)) (fun _ hk => hk.1.2) (.bool t378)) (fun _ hk => hk.1.2) (.slice Ao49 t379.length co49)) (fun _ hk => hk.1.2) (.slice Ao50 t382.length co50)) (fun _ hk => hk.2) (.bool t387)) (fun _ hk => hk.2) (.slice Ao66 t388.length co66)) (fun _ hk => hk.2) (.slice Ao67 t391.length co67)) (fun _ hk => ⟨hk.1.1.1.1, ⟨hk.1.1.1.2.1, ⟨hk.1.1.1.2.2.1, ⟨hk.1.1.1.2.2.2.1, hk.1.1.1.2.2.2.2⟩⟩⟩⟩), by (with_reducible repeat (first | apply Kd.R_alloc | apply Kd.R_drewN | apply Kd.R_drew)); exact Kd.R_mono (Kd.R_far (p := ⟨gb368, 2, none⟩) (Kd.R_far (p := ⟨gb368, 1, none⟩) (Kd.R_far (p := ⟨gb368, 0, none⟩) (Kd.R_far (p := ⟨gb367, 2, none⟩) (Kd.R_far (p := ⟨gb367, 1, none⟩) (Kd.R_far (p := ⟨gb367, 0, none⟩) (Kd.R_far (p := ⟨gb366, 2, none⟩) (Kd.R_far (p := ⟨gb366, 1, none⟩) (Kd.R_far (p := ⟨gb366, 0, none⟩) (Kd.R_types (Kd.R_types (Kd.R_types HO393.out BK366.out (by decide)) BK367.out (by decide)) BK368.out (by decide)) (fun _ hk => hk.1.1.2) (.bool t369)) (fun _ hk => hk.1.1.2) (.slice Ao32 t370.length co32)) (fun _ hk => hk.1.1.2) (.slice Ao33 t373.length co33)) (fun _ hk => hk.1.2) (.bool t378)) (fun _ hk => hk.1.2) (.slice Ao49 t379.length co49)) (fun _ hk => hk.1.2) (.slice Ao50 t382.length co50)) (fun _ hk => hk.2) (.bool t387)) (fun _ hk => hk.2) (.slice Ao66 t388.length co66)) (fun _ hk => hk.2) (.slice Ao67 t391.length co67)) (fun _ hk => ⟨hk.1.1.1.1, ⟨hk.1.1.1.2.1, ⟨hk.1.1.1.2.2.1, ⟨hk.1.1.1.2.2.2.1, hk.1.1.1.2.2.2.2⟩⟩⟩⟩), eB⟩
end Go.Proofs.Ytiogfeeaepkkmaa.PA
