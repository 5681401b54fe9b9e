/- A part of the proof (14). -/
import Derived.Test.YtoefabmlkbhmpaaDoorYKAVKA2
import Derived.Test.YtoefabmlkbhmpaaDoorYKAVKA3
import Derived.Test.YtoefabmlkbhmpaaDoorYKAVKA7
import Derived.Test.YtoefabmlkbhmpaaDoorYKAVKA8
import Derived.Test.YtoefabmlkbhmpaaDoorYKAVKA9
import Derived.Test.YtoefabmlkbhmpaaDoorYKAVKA13
namespace Go.Proofs.YtoefabmlkbhmpaaDoor.PA
open Go.RowKit Go.Proofs.YtoefabmlkbhmpaaDoorW.PrintWords Go.Proofs.YtoefabmlkbhmpaaDoorW.PrintLast Go.Proofs.YtoefabmlkbhmpaaDoorW.PrintMore
attribute [local go_sem] max2_int min2_int max_two min_two max_three min_three max_four min_four
set_option linter.unusedVariables false
set_option linter.unusedSimpArgs false
mutual
def plumblaw07_NearNearest.j0 : Nat → Bool → Bool → List Int → List Int → Bool → List Int → List Int → Option (Bool)
 | 0, _, _, _, _, _, _, _ => none
 | k + 1, x27, x455000, x455001, x455002, x471000, x471001, x471002 => if x27 = true then (none) else ((near_Quotient.f k x455000 x455001 x455002 0).bind fun bt472 => ((plumblaw07_size.f x471000 x471001 x471002).bind fun bt474 => ((plumblaw07_num.f bt472.2).bind fun t482 => (if t482 = 70 then ((plumblaw07_whole.f k false 1 1024).bind fun bt483 => ((plumblaw07_whole.f k false 9007199254740991 971).bind fun bt490 => ((plumblaw07_twice.f k bt483.1 bt483.2.1 bt483.2.2 bt490.1 bt490.2.1 bt490.2.2 bt474.1 bt474.2.1 bt474.2.2).bind fun t497 => (if bt472.1 = 0 then (if t497 ≥ 0 then (some (decide (t497 < 9))) else (none)) else (none))))) else ((plumblaw07_num.f bt472.2).bind fun t498 => (if t498 = 0 then (plumblaw07_NearNearest.j1 k bt472.1 (((Go.bits .and .u64 bt472.1 9223372036854775808) != 0) != x455000) bt474.1 bt474.2.1 bt474.2.2) else (plumblaw07_NearNearest.j1 k bt472.1 true bt474.1 bt474.2.1 bt474.2.2)))))))
def plumblaw07_NearNearest.j1 : Nat → Int → Bool → Bool → List Int → List Int → Option (Bool)
 | 0, _, _, _, _, _ => none
 | k + 1, x5, x67, x482000, x482001, x482002 => if x67 = true then (none) else ((plumblaw07_value.f k (Go.bits .andNot .u64 x5 9223372036854775808)).bind fun bt499 => ((plumblaw07_above.f k (Go.bits .andNot .u64 x5 9223372036854775808)).bind fun bt508 => ((plumblaw07_twice.f k bt499.1 bt499.2.1 bt499.2.2.1 bt508.1 bt508.2.1 bt508.2.2.1 x482000 x482001 x482002).bind fun t517 => (if bt499.2.2.2 = true then (if bt508.2.2.2 = true then (if t517 > 0 then (plumblaw07_NearNearest.j2 k (Go.bits .andNot .u64 x5 9223372036854775808) true x482000 x482001 x482002 bt499.1 bt499.2.1 bt499.2.2.1) else (if t517 = 0 then (if (Go.bits .and .u64 (Go.bits .andNot .u64 x5 9223372036854775808) 1) = 1 then (plumblaw07_NearNearest.j2 k (Go.bits .andNot .u64 x5 9223372036854775808) true x482000 x482001 x482002 bt499.1 bt499.2.1 bt499.2.2.1) else (plumblaw07_NearNearest.j2 k (Go.bits .andNot .u64 x5 9223372036854775808) ((Go.bits .andNot .u64 x5 9223372036854775808) == 9218868437227405311) x482000 x482001 x482002 bt499.1 bt499.2.1 bt499.2.2.1)) else (plumblaw07_NearNearest.j2 k (Go.bits .andNot .u64 x5 9223372036854775808) false x482000 x482001 x482002 bt499.1 bt499.2.1 bt499.2.2.1))) else (plumblaw07_NearNearest.j2 k (Go.bits .andNot .u64 x5 9223372036854775808) true x482000 x482001 x482002 bt499.1 bt499.2.1 bt499.2.2.1)) else (plumblaw07_NearNearest.j2 k (Go.bits .andNot .u64 x5 9223372036854775808) true x482000 x482001 x482002 bt499.1 bt499.2.1 bt499.2.2.1)))))
def plumblaw07_NearNearest.j2 : Nat → Int → Bool → Bool → List Int → List Int → Bool → List Int → List Int → Option (Bool)
 | 0, _, _, _, _, _, _, _, _ => none
 | k + 1, x5, x106, x482000, x482001, x482002, x508000, x508001, x508002 => if x106 = true then (none) else (if x5 = 0 then (some true) else ((plumblaw07_value.f k (IntKind.u64.wrap (x5 - 1))).bind fun bt518 => ((plumblaw07_twice.f k bt518.1 bt518.2.1 bt518.2.2.1 x508000 x508001 x508002 x482000 x482001 x482002).bind fun t527 => (if bt518.2.2.2 = true then (if t527 ≥ 0 then (if t527 < 9 then (if t527 > 0 then (some true) else (some ((Go.bits .and .u64 x5 1) == 0))) else (none)) else (none)) else (none)))))
end
def plumblaw07_NearNearest.f (k : Nat) (a0_0 : Bool) (l0_1 : List Int) (l0_2 : List Int) : Option (Bool) := (plumblaw07_exact.f k a0_0 l0_1 l0_2).bind fun bt455 => (if bt455.2.2.2.2.2.2 = true then ((plumblaw07_fixed.f k).bind fun t471 => (plumblaw07_NearNearest.j0 k (!t471) bt455.1 bt455.2.1 bt455.2.2.1 bt455.2.2.2.1 bt455.2.2.2.2.1 bt455.2.2.2.2.2.1)) else (plumblaw07_NearNearest.j0 k true bt455.1 bt455.2.1 bt455.2.2.1 bt455.2.2.2.1 bt455.2.2.2.2.1 bt455.2.2.2.2.2.1))
set_option maxHeartbeats 8000000 in
set_option maxRecDepth 100000 in
theorem plumblaw07_NearNearest.calls (k : Nat) (a0_0 : Bool) (A0_1 : Option Addr) (c0_1 : Nat) (l0_1 : List Int) (A0_2 : Option Addr) (c0_2 : Nat) (l0_2 : List Int) (r : Bool) (w : World) (hr0_1 : Kd.C (Kd.int .u64) w A0_1 l0_1.length l0_1) (hc0_1 : l0_1.length ≤ c0_1) (hr0_2 : Kd.C (Kd.int .u64) w A0_2 l0_2.length l0_2) (hc0_2 : l0_2.length ≤ c0_2) (h : plumblaw07_NearNearest.f k a0_0 l0_1 l0_2 = some r) (hS : StaysLaid w := by first | exact HS.out | exact hS | exact StaysLaid.below HS.out HB.out | exact StaysLaid.below HS.out dB) :
  Calls Tryd.prog 9 #[.agg #[.bool a0_0, .slice A0_1 l0_1.length c0_1, .slice A0_2 l0_2.length c0_2]] w fun e w' => e = .returned (.bool r) ∧ Below w.heap.size w w' := by
 have HS := aM (show StaysLaid w from hS)
 clear hS
 have hu36 := Tryd.underlying36
 have hu46 := Tryd.underlying46
 have HR0_1 := aM hr0_1
 have HC0_1 := aM hc0_1
 clear hr0_1 hc0_1
 have HR0_2 := aM hr0_2
 have HC0_2 := aM hc0_2
 clear hr0_2 hc0_2
 have HB := aM (Below.refl w.heap.size w)
 have H := h
 clear h
 unfold plumblaw07_NearNearest.f at H
 replace H := obe H
 obtain ⟨⟨t455, t456, t459, t462, t463, t466, t469⟩, A20, H⟩ := H
 (try dsimp only at H)
 have A2 := aM A20
 clear A20
 have HC3 := aM H
 clear H
 go_enter Tryd.func9, Tryd.ntmps9
 go_upto_region 2 with (first | ((with_reducible refine gate_dst (N := 1) rfl ?_); refine bE 1 #[.bool a0_0, .slice A0_1 l0_1.length c0_1, .slice A0_2 l0_2.length c0_2] 36 ?_; intro gb454 hg w4 hbox hb; have BK454 := aM (hbox); have GE454 : Aside0 (w.heap.size ≤ gb454) := gE hg; replace HB := hS HB.out hb; clear hb hbox hg; obtain ⟨hcz5_0, hcz5_1, hcz5_2⟩ := cz3 BK454.out; obtain ⟨hfz5_0, hfz5_1, hfz5_2⟩ := fz3 BK454.out) | ((with_reducible refine gate_callee (f := 23) rfl ?_); refine gL (some 18) Tryd.func23 #[.agg #[.bool a0_0, .slice A0_1 l0_1.length c0_1, .slice A0_2 l0_2.length c0_2]] ?_; (with_reducible refine (plumblaw07_exact.calls k a0_0 _ _ l0_1 _ _ l0_2 t455 t456 t459 t462 t463 t466 t469 _ ?side1 HC0_1.out ?side3 HC0_2.out A2.out).mono ?_); (case side1 => exact dC (Kd.C_below HR0_1.out HB.out)); (case side3 => exact dC (Kd.C_below HR0_2.out HB.out)); rintro e w6 ⟨v457, v460, v464, v467, rfl, ho0, ho1, ho2, ho3, hb⟩; refine ⟨_, rfl, ?_⟩; have HO458 := aM (Kd.R_lower ho0 (below_size eB)); have HO461 := aM (Kd.R_lower ho1 (below_size eB)); have HO465 := aM (Kd.R_lower ho2 (below_size eB)); have HO468 := aM (Kd.R_lower ho3 (below_size eB)); replace BK454 := bB BK454.out hb; replace HB := hS HB.out hb; (try clear hb); (try clear ho0); (try clear ho1); (try clear ho2); (try clear ho3)) | ((with_reducible refine gate_dst (N := 3) rfl ?_); refine bE 3 #[.bool false, .slice none 0 0, .slice none 0 0] 46 ?_; intro gb470 hg w7 hbox hb; replace HO458 := oB HO458.out hb; replace HO461 := oB HO461.out hb; replace HO465 := oB HO465.out hb; replace HO468 := oB HO468.out hb; have BK470 := aM (hbox); have GE470 : Aside0 (w.heap.size ≤ gb470) := gE hg; replace HB := hS HB.out hb; have NB454_470 := nL hg BK454.out; have NB470_454 := nG hg BK454.out; replace BK454 := bB BK454.out hb; clear hb hbox hg; have hnb8 := NB454_470.out; have hnc8 := NB470_454.out; obtain ⟨hcz9_0, hcz9_1, hcz9_2⟩ := cz3 BK454.out; obtain ⟨hfz9_0, hfz9_1, hfz9_2⟩ := fz3 BK454.out; obtain ⟨Ao10, co10, rfl⟩ := Kd.R_slice HO458.out; obtain ⟨Ao11, co11, rfl⟩ := Kd.R_slice HO461.out; obtain ⟨hcz12_0, hcz12_1, hcz12_2⟩ := cz3 BK470.out; obtain ⟨hfz12_0, hfz12_1, hfz12_2⟩ := fz3 BK470.out; obtain ⟨Ao13, co13, rfl⟩ := Kd.R_slice HO465.out; obtain ⟨Ao14, co14, rfl⟩ := Kd.R_slice HO468.out))
 (try simp only [Act.put, List.setIfInBounds_toArray, List.set_cons_zero, List.set_cons_succ])
 go_cut [27] (fun v27 wc => ∃ (kq : Nat) (x27_2 : Bool), v27 = .bool x27_2 ∧ Aside0 (plumblaw07_NearNearest.j0 kq x27_2 t455 t456 t459 t462 t463 t466 = some r) ∧ Aside0 (kq ≤ k) ∧ Aside0 (Kd.R (Kd.int .u64) 26 wc w.heap.size (fun k_ => some k_ ≠ ((.slice Ao11 t459.length co11) : Value).ownBlock ∧ some k_ ≠ ((.slice Ao13 t463.length co13) : Value).ownBlock ∧ some k_ ≠ ((.slice Ao14 t466.length co14) : Value).ownBlock) (.slice Ao10 t456.length co10) t456) ∧ Aside0 (Kd.R (Kd.int .u64) 26 wc w.heap.size (fun k_ => some k_ ≠ ((.slice Ao10 t456.length co10) : Value).ownBlock ∧ some k_ ≠ ((.slice Ao13 t463.length co13) : Value).ownBlock ∧ some k_ ≠ ((.slice Ao14 t466.length co14) : Value).ownBlock) (.slice Ao11 t459.length co11) t459) ∧ Aside0 (Kd.R (Kd.int .u64) 26 wc w.heap.size (fun k_ => some k_ ≠ ((.slice Ao10 t456.length co10) : Value).ownBlock ∧ some k_ ≠ ((.slice Ao11 t459.length co11) : Value).ownBlock ∧ some k_ ≠ ((.slice Ao14 t466.length co14) : Value).ownBlock) (.slice Ao13 t463.length co13) t463) ∧ Aside0 (Kd.R (Kd.int .u64) 26 wc w.heap.size (fun k_ => some k_ ≠ ((.slice Ao10 t456.length co10) : Value).ownBlock ∧ some k_ ≠ ((.slice Ao11 t459.length co11) : Value).ownBlock ∧ some k_ ≠ ((.slice Ao13 t463.length co13) : Value).ownBlock) (.slice Ao14 t466.length co14) t466) ∧ Aside0 (wc.heap[gb454]? = some (.cells #[.bool t455, (.slice Ao10 t456.length co10), (.slice Ao11 t459.length co11)] 36 (0, 0))) ∧ Aside0 (wc.heap[gb470]? = some (.cells #[.bool t462, (.slice Ao13 t463.length co13), (.slice Ao14 t466.length co14)] 46 (0, 0))) ∧ Aside0 (Below w.heap.size w wc))
 case first =>
  have H := HC3.out
  clear HC3
  by_cases c15 : t469 = true
  ·subst c15
   rw [if_pos rfl] at H
   (try dsimp only at H)
   replace H := obe H
   obtain ⟨t471, A160, H⟩ := H
   (try dsimp only at H)
   have A16 := aM A160
   clear A160
   have H' := aM H
   clear H
   go_wp2_with (first | (go_at_call 19; (with_reducible refine (plumblaw07_fixed.calls k  t471 _ A16.out ?hs0).mono ?_); (case hs0 => first | exact StaysLaid.below HS.out HB.out | exact StaysLaid.below HS.out eB); rintro e w17 ⟨rfl, hb⟩; replace HO458 := aM (Kd.R_below (by (with_reducible repeat (first | apply Kd.R_alloc | apply Kd.R_drewN | apply Kd.R_drew)); exact (Kd.R_mono (Kd.R_mono (Kd.R_far (p := ⟨gb470, 2, none⟩) (Kd.R_far (p := ⟨gb470, 1, none⟩) (Kd.R_far (p := ⟨gb470, 0, none⟩) (Kd.R_far (p := ⟨gb454, 2, none⟩) (Kd.R_far (p := ⟨gb454, 1, none⟩) (Kd.R_far (p := ⟨gb454, 0, none⟩) (Kd.R_types (Kd.R_types HO458.out BK454.out (by decide)) BK470.out (by decide)) (fun _ hk => hk.1.2) (.bool t455)) (fun _ hk => hk.1.2) (.slice Ao10 t456.length co10)) (fun _ hk => hk.1.2) (.slice Ao11 t459.length co11)) (fun _ hk => hk.2) (.bool t462)) (fun _ hk => hk.2) (.slice Ao13 t463.length co13)) (fun _ hk => hk.2) (.slice Ao14 t466.length co14)) (fun _ h_ => h_.1)) (fun _ h_ => h_.1))) hb); replace HO461 := aM (Kd.R_below (by (with_reducible repeat (first | apply Kd.R_alloc | apply Kd.R_drewN | apply Kd.R_drew)); exact (Kd.R_mono (Kd.R_mono (Kd.R_far (p := ⟨gb470, 2, none⟩) (Kd.R_far (p := ⟨gb470, 1, none⟩) (Kd.R_far (p := ⟨gb470, 0, none⟩) (Kd.R_far (p := ⟨gb454, 2, none⟩) (Kd.R_far (p := ⟨gb454, 1, none⟩) (Kd.R_far (p := ⟨gb454, 0, none⟩) (Kd.R_types (Kd.R_types HO461.out BK454.out (by decide)) BK470.out (by decide)) (fun _ hk => hk.1.2) (.bool t455)) (fun _ hk => hk.1.2) (.slice Ao10 t456.length co10)) (fun _ hk => hk.1.2) (.slice Ao11 t459.length co11)) (fun _ hk => hk.2) (.bool t462)) (fun _ hk => hk.2) (.slice Ao13 t463.length co13)) (fun _ hk => hk.2) (.slice Ao14 t466.length co14)) (fun _ h_ => h_.1)) (fun _ h_ => h_.1))) hb); replace HO465 := aM (Kd.R_below (by (with_reducible repeat (first | apply Kd.R_alloc | apply Kd.R_drewN | apply Kd.R_drew)); exact (Kd.R_mono (Kd.R_mono (Kd.R_far (p := ⟨gb470, 2, none⟩) (Kd.R_far (p := ⟨gb470, 1, none⟩) (Kd.R_far (p := ⟨gb470, 0, none⟩) (Kd.R_far (p := ⟨gb454, 2, none⟩) (Kd.R_far (p := ⟨gb454, 1, none⟩) (Kd.R_far (p := ⟨gb454, 0, none⟩) (Kd.R_types (Kd.R_types HO465.out BK454.out (by decide)) BK470.out (by decide)) (fun _ hk => hk.1.2) (.bool t455)) (fun _ hk => hk.1.2) (.slice Ao10 t456.length co10)) (fun _ hk => hk.1.2) (.slice Ao11 t459.length co11)) (fun _ hk => hk.2) (.bool t462)) (fun _ hk => hk.2) (.slice Ao13 t463.length co13)) (fun _ hk => hk.2) (.slice Ao14 t466.length co14)) (fun _ h_ => h_.1)) (fun _ h_ => h_.1))) hb); replace HO468 := aM (Kd.R_below (by (with_reducible repeat (first | apply Kd.R_alloc | apply Kd.R_drewN | apply Kd.R_drew)); exact (Kd.R_mono (Kd.R_mono (Kd.R_far (p := ⟨gb470, 2, none⟩) (Kd.R_far (p := ⟨gb470, 1, none⟩) (Kd.R_far (p := ⟨gb470, 0, none⟩) (Kd.R_far (p := ⟨gb454, 2, none⟩) (Kd.R_far (p := ⟨gb454, 1, none⟩) (Kd.R_far (p := ⟨gb454, 0, none⟩) (Kd.R_types (Kd.R_types HO468.out BK454.out (by decide)) BK470.out (by decide)) (fun _ hk => hk.1.2) (.bool t455)) (fun _ hk => hk.1.2) (.slice Ao10 t456.length co10)) (fun _ hk => hk.1.2) (.slice Ao11 t459.length co11)) (fun _ hk => hk.2) (.bool t462)) (fun _ hk => hk.2) (.slice Ao13 t463.length co13)) (fun _ hk => hk.2) (.slice Ao14 t466.length co14)) (fun _ h_ => h_.1)) (fun _ h_ => h_.1))) hb); replace BK454 := aM (blk_below (g := gb454) (o := .cells #[.bool t455, .slice Ao10 t456.length co10, .slice Ao11 t459.length co11] 36 (0, 0)) (dQ1 BK454.out NB454_470.out) hb); replace BK470 := aM (blk_below (g := gb470) (o := .cells #[.bool t462, .slice Ao13 t463.length co13, .slice Ao14 t466.length co14] 46 (0, 0)) (dQ1 BK470.out NB470_454.out) hb); replace HB := hS HB.out hb; (try clear hb)))
   go_meet
   case rel => exact ⟨_, (!t471), dF, H', ⟨dN⟩, ⟨dR HO458.out⟩, ⟨dR HO461.out⟩, ⟨dR HO465.out⟩, ⟨dR HO468.out⟩, ⟨dK BK454.out⟩, ⟨dK BK470.out⟩, ⟨eB⟩⟩
  ·replace c15 := Bool.eq_false_iff.mpr c15
   subst c15
   rw [if_neg (show ¬ (false = true) by decide)] at H
   (try dsimp only at H)
   have H' := aM H
   clear H
   go_wp2
   go_meet
   case rel => exact ⟨_, (true), dF, H', ⟨dN⟩, ⟨by (with_reducible repeat (first | apply Kd.R_alloc | apply Kd.R_drewN | apply Kd.R_drew)); exact Kd.R_mono (Kd.R_far (p := ⟨gb470, 2, none⟩) (Kd.R_far (p := ⟨gb470, 1, none⟩) (Kd.R_far (p := ⟨gb470, 0, none⟩) (Kd.R_far (p := ⟨gb454, 2, none⟩) (Kd.R_far (p := ⟨gb454, 1, none⟩) (Kd.R_far (p := ⟨gb454, 0, none⟩) (Kd.R_types (Kd.R_types HO458.out BK454.out (by decide)) BK470.out (by decide)) (fun _ hk => hk.1.2) (.bool t455)) (fun _ hk => hk.1.2) (.slice Ao10 t456.length co10)) (fun _ hk => hk.1.2) (.slice Ao11 t459.length co11)) (fun _ hk => hk.2) (.bool t462)) (fun _ hk => hk.2) (.slice Ao13 t463.length co13)) (fun _ hk => hk.2) (.slice Ao14 t466.length co14)) (fun _ hk => ⟨hk.1.1.1, ⟨hk.1.1.2.1, hk.1.1.2.2⟩⟩)⟩, ⟨by (with_reducible repeat (first | apply Kd.R_alloc | apply Kd.R_drewN | apply Kd.R_drew)); exact Kd.R_mono (Kd.R_far (p := ⟨gb470, 2, none⟩) (Kd.R_far (p := ⟨gb470, 1, none⟩) (Kd.R_far (p := ⟨gb470, 0, none⟩) (Kd.R_far (p := ⟨gb454, 2, none⟩) (Kd.R_far (p := ⟨gb454, 1, none⟩) (Kd.R_far (p := ⟨gb454, 0, none⟩) (Kd.R_types (Kd.R_types HO461.out BK454.out (by decide)) BK470.out (by decide)) (fun _ hk => hk.1.2) (.bool t455)) (fun _ hk => hk.1.2) (.slice Ao10 t456.length co10)) (fun _ hk => hk.1.2) (.slice Ao11 t459.length co11)) (fun _ hk => hk.2) (.bool t462)) (fun _ hk => hk.2) (.slice Ao13 t463.length co13)) (fun _ hk => hk.2) (.slice Ao14 t466.length co14)) (fun _ hk => ⟨hk.1.1.1, ⟨hk.1.1.2.1, hk.1.1.2.2⟩⟩)⟩, ⟨by (with_reducible repeat (first | apply Kd.R_alloc | apply Kd.R_drewN | apply Kd.R_drew)); exact Kd.R_mono (Kd.R_far (p := ⟨gb470, 2, none⟩) (Kd.R_far (p := ⟨gb470, 1, none⟩) (Kd.R_far (p := ⟨gb470, 0, none⟩) (Kd.R_far (p := ⟨gb454, 2, none⟩) (Kd.R_far (p := ⟨gb454, 1, none⟩) (Kd.R_far (p := ⟨gb454, 0, none⟩) (Kd.R_types (Kd.R_types HO465.out BK454.out (by decide)) BK470.out (by decide)) (fun _ hk => hk.1.2) (.bool t455)) (fun _ hk => hk.1.2) (.slice Ao10 t456.length co10)) (fun _ hk => hk.1.2) (.slice Ao11 t459.length co11)) (fun _ hk => hk.2) (.bool t462)) (fun _ hk => hk.2) (.slice Ao13 t463.length co13)) (fun _ hk => hk.2) (.slice Ao14 t466.length co14)) (fun _ hk => ⟨hk.1.1.1, ⟨hk.1.1.2.1, hk.1.1.2.2⟩⟩)⟩, ⟨by (with_reducible repeat (first | apply Kd.R_alloc | apply Kd.R_drewN | apply Kd.R_drew)); exact Kd.R_mono (Kd.R_far (p := ⟨gb470, 2, none⟩) (Kd.R_far (p := ⟨gb470, 1, none⟩) (Kd.R_far (p := ⟨gb470, 0, none⟩) (Kd.R_far (p := ⟨gb454, 2, none⟩) (Kd.R_far (p := ⟨gb454, 1, none⟩) (Kd.R_far (p := ⟨gb454, 0, none⟩) (Kd.R_types (Kd.R_types HO468.out BK454.out (by decide)) BK470.out (by decide)) (fun _ hk => hk.1.2) (.bool t455)) (fun _ hk => hk.1.2) (.slice Ao10 t456.length co10)) (fun _ hk => hk.1.2) (.slice Ao11 t459.length co11)) (fun _ hk => hk.2) (.bool t462)) (fun _ hk => hk.2) (.slice Ao13 t463.length co13)) (fun _ hk => hk.2) (.slice Ao14 t466.length co14)) (fun _ hk => ⟨hk.1.1.1, ⟨hk.1.1.2.1, hk.1.1.2.2⟩⟩)⟩, ⟨dQ1 BK454.out NB454_470.out⟩, ⟨dQ1 BK470.out NB470_454.out⟩, ⟨eB⟩⟩
 case rest =>
  clear HC3
  try clear hcz12_0
  try clear hcz12_1
  try clear hcz12_2
  try clear hcz5_0
  try clear hcz5_1
  try clear hcz5_2
  try clear hcz9_0
  try clear hcz9_1
  try clear hcz9_2
  try clear hfz12_0
  try clear hfz12_1
  try clear hfz12_2
  try clear hfz5_0
  try clear hfz5_1
  try clear hfz5_2
  try clear hfz9_0
  try clear hfz9_1
  try clear hfz9_2
  obtain ⟨kq, x27_2, rfl, HA, HJ2, HO_455001, HO_455002, HO_471001, HO_471002, BK454, BK470, HB⟩ := hcut
  cases kq with
  | zero => exact absurd HA.out (by simp [plumblaw07_NearNearest.j0])
  | succ kj2 =>
   have H := HA.out
   clear HA
   simp only [plumblaw07_NearNearest.j0] at H
   by_cases c18 : x27_2 = true
   ·subst c18
    rw [if_pos rfl] at H
    (try dsimp only at H)
    exact absurd H (by simp)
   ·replace c18 := Bool.eq_false_iff.mpr c18
    subst c18
    rw [if_neg (show ¬ (false = true) by decide)] at H
    (try dsimp only at H)
    replace H := obe H
    obtain ⟨⟨t472, t473⟩, A190, H⟩ := H
    (try dsimp only at H)
    have A19 := aM A190
    clear A190
    replace H := obe H
    obtain ⟨⟨t474, t475, t478⟩, A200, H⟩ := H
    (try dsimp only at H)
    have A20 := aM A200
    clear A200
    replace H := obe H
    obtain ⟨t482, A210, H⟩ := H
    (try dsimp only at H)
    have A21 := aM A210
    clear A210
    by_cases c22 : t482 = 70
    ·rw [if_pos c22] at H
     have c22b0 : (t482 == 70) = true := beq_iff_eq.mpr c22
     have c22b1 : (t482 != 70) = false := bne_eq_false_iff_eq.mpr c22
     clear c22
     replace H := obe H
     obtain ⟨⟨t483, t484, t487⟩, A230, H⟩ := H
     (try dsimp only at H)
     have A23 := aM A230
     clear A230
     replace H := obe H
     obtain ⟨⟨t490, t491, t494⟩, A240, H⟩ := H
     (try dsimp only at H)
     have A24 := aM A240
     clear A240
     replace H := obe H
     obtain ⟨t497, A250, H⟩ := H
     (try dsimp only at H)
     have A25 := aM A250
     clear A250
     by_cases c26 : t472 = 0
     ·rw [if_pos c26] at H
      have c26b0 : (t472 == 0) = true := beq_iff_eq.mpr c26
      have c26b1 : (t472 != 0) = false := bne_eq_false_iff_eq.mpr c26
      clear c26
      by_cases c27 : t497 ≥ 0
      ·rw [if_pos c27] at H
       have c27b0 : decide (0 ≤ t497) = true := decide_eq_true c27
       clear c27
       obtain rfl := Option.some.inj H
       have hnb28 := NB454_470.out
       have hnc28 := NB470_454.out
       obtain ⟨hcz29_0, hcz29_1, hcz29_2⟩ := cz3 BK454.out
       obtain ⟨hfz29_0, hfz29_1, hfz29_2⟩ := fz3 BK454.out
       try go_wp2_with (first | ((with_reducible refine gate_callee (f := 17) rfl ?_); refine gL (some 35) Tryd.func17 #[.bool t455, .slice Ao10 t456.length co10, .slice Ao11 t459.length co11, .int .i64 0] ?_; (with_reducible refine (near_Quotient.calls kj2 t455 _ _ t456 _ _ t459 0 t472 t473 _ ?side1 (Kd.R_reads' HO_455001.out).2.1 ?side3 (Kd.R_reads' HO_455002.out).2.1 A19.out).mono ?_); (case side1 => exact dC (Kd.R_reads' HO_455001.out).2.2); (case side3 => exact dC (Kd.R_reads' HO_455002.out).2.2); rintro e w30 ⟨rfl, hb⟩; refine ⟨_, rfl, ?_⟩; replace HO_455001 := oB HO_455001.out hb; replace HO_455002 := oB HO_455002.out hb; replace HO_471001 := oB HO_471001.out hb; replace HO_471002 := oB HO_471002.out hb; replace BK454 := bB BK454.out hb; replace BK470 := bB BK470.out hb; replace HB := hS HB.out hb; (try clear hb); obtain ⟨hcz31_0, hcz31_1, hcz31_2⟩ := cz3 BK470.out; obtain ⟨hfz31_0, hfz31_1, hfz31_2⟩ := fz3 BK470.out) | ((with_reducible refine gate_callee (f := 26) rfl ?_); refine gL (some 39) Tryd.func26 #[.agg #[.bool t462, .slice Ao13 t463.length co13, .slice Ao14 t466.length co14]] ?_; (with_reducible refine (plumblaw07_size.calls t462 (fun k_ => some k_ = (.slice Ao13 t463.length co13 : Value).ownBlock) (.slice Ao13 t463.length co13) t463 (fun k_ => some k_ = (.slice Ao14 t466.length co14 : Value).ownBlock) (.slice Ao14 t466.length co14) t466 t474 t475 t478 w _ ?side1 ?side2 ?side3 ?side4 ?side5 A20.out).mono ?_); (case side1 => repeat (first | (with_reducible first | exact HB.out | apply below_alloc | apply pw_below_drewN | apply below_drew1 | refine below_set ?_ GE454.out | refine below_set ?_ GE470.out) | exact HB.out)); (case side2 => exact Kd.R_tight rfl HO_471001.out); (case side3 => exact fun k_ e_ => (HO_471001.out.1 k_ e_.symm).2.2); (case side4 => exact Kd.R_tight rfl HO_471002.out); (case side5 => exact fun k_ e_ => (HO_471002.out.1 k_ e_.symm).2.2); rintro e w32 ⟨v476, v479, rfl, ho0, ho1, hb, hkp⟩; refine ⟨_, rfl, ?_⟩; replace BK454 := aM (blk_kept (dK BK454.out) hkp (fun hs_ => Or.elim hs_ (fun e_ => (fun e_ => (Kd.R_ne HO_471001.out BK454.out (by decide)) e_) e_) (fun e_ => (fun e_ => (Kd.R_ne HO_471002.out BK454.out (by decide)) e_) e_))); replace BK470 := aM (blk_kept (dK BK470.out) hkp (fun hs_ => Or.elim hs_ (fun e_ => (fun e_ => (Kd.R_ne HO_471001.out BK470.out (by decide)) e_) e_) (fun e_ => (fun e_ => (Kd.R_ne HO_471002.out BK470.out (by decide)) e_) e_))); have HO477 := aM (Kd.R_mono (ok' := fun k_ => some k_ ≠ (v479 : Value).ownBlock ∧ some k_ ≠ (.slice Ao10 t456.length co10 : Value).ownBlock ∧ some k_ ≠ (.slice Ao11 t459.length co11 : Value).ownBlock) ho0 (fun k_ hk_ => ⟨hk_.2, Or.elim hk_.1 (fun hs_ => Or.elim hs_ (fun hs_ => fun e_ => (((HO_455001.out).1 k_ e_.symm).2.1) hs_) (fun hs_ => fun e_ => (((HO_455001.out).1 k_ e_.symm).2.2) hs_)) (fun hn_ => (Kd.fresh' (Kd.R_lt (dR HO_455001.out)) k_ hn_)), Or.elim hk_.1 (fun hs_ => Or.elim hs_ (fun hs_ => fun e_ => (((HO_455002.out).1 k_ e_.symm).2.1) hs_) (fun hs_ => fun e_ => (((HO_455002.out).1 k_ e_.symm).2.2) hs_)) (fun hn_ => (Kd.fresh' (Kd.R_lt (dR HO_455002.out)) k_ hn_))⟩)); have HO480 := aM (Kd.R_mono (ok' := fun k_ => some k_ ≠ (v476 : Value).ownBlock ∧ some k_ ≠ (.slice Ao10 t456.length co10 : Value).ownBlock ∧ some k_ ≠ (.slice Ao11 t459.length co11 : Value).ownBlock) ho1 (fun k_ hk_ => ⟨hk_.2, Or.elim hk_.1 (fun hs_ => Or.elim hs_ (fun hs_ => fun e_ => (((HO_455001.out).1 k_ e_.symm).2.1) hs_) (fun hs_ => fun e_ => (((HO_455001.out).1 k_ e_.symm).2.2) hs_)) (fun hn_ => (Kd.fresh' (Kd.R_lt (dR HO_455001.out)) k_ hn_)), Or.elim hk_.1 (fun hs_ => Or.elim hs_ (fun hs_ => fun e_ => (((HO_455002.out).1 k_ e_.symm).2.1) hs_) (fun hs_ => fun e_ => (((HO_455002.out).1 k_ e_.symm).2.2) hs_)) (fun hn_ => (Kd.fresh' (Kd.R_lt (dR HO_455002.out)) k_ hn_))⟩)); replace HO_455001 := aM (Kd.R_mono (ok' := fun k_ => some k_ ≠ (.slice Ao11 t459.length co11 : Value).ownBlock ∧ some k_ ≠ (v476 : Value).ownBlock ∧ some k_ ≠ (v479 : Value).ownBlock) (Kd.R_keptB (HO_455001.out) hkp (fun k_ hk_ hs_ => Or.elim hs_ (fun e_ => (hk_.2.1) e_) (fun e_ => (hk_.2.2) e_))) (fun k_ hk_ => ⟨hk_.1.1, fun e_ => Or.elim (ho0.1 k_ e_.symm).1 (fun hs_ => hk_.2.1 hs_) (fun hn_ => Nat.not_le.2 hk_.2.2 hn_), fun e_ => Or.elim (ho1.1 k_ e_.symm).1 (fun hs_ => hk_.2.1 hs_) (fun hn_ => Nat.not_le.2 hk_.2.2 hn_)⟩)); replace HO_455002 := aM (Kd.R_mono (ok' := fun k_ => some k_ ≠ (.slice Ao10 t456.length co10 : Value).ownBlock ∧ some k_ ≠ (v476 : Value).ownBlock ∧ some k_ ≠ (v479 : Value).ownBlock) (Kd.R_keptB (HO_455002.out) hkp (fun k_ hk_ hs_ => Or.elim hs_ (fun e_ => (hk_.2.1) e_) (fun e_ => (hk_.2.2) e_))) (fun k_ hk_ => ⟨hk_.1.1, fun e_ => Or.elim (ho0.1 k_ e_.symm).1 (fun hs_ => hk_.2.1 hs_) (fun hn_ => Nat.not_le.2 hk_.2.2 hn_), fun e_ => Or.elim (ho1.1 k_ e_.symm).1 (fun hs_ => hk_.2.1 hs_) (fun hn_ => Nat.not_le.2 hk_.2.2 hn_)⟩)); replace HB := aM (hb); clear HO_471001; clear HO_471002; (try clear hb); (try clear hkp); (try clear ho0); (try clear ho1)) | ((with_reducible refine gate_dst (N := 7) rfl ?_); refine bE 7 #[.bool false, .slice none 0 0, .slice none 0 0] 46 ?_; intro gb481 hg w33 hbox hb; replace HO_455001 := oB HO_455001.out hb; replace HO_455002 := oB HO_455002.out hb; replace HO477 := oB HO477.out hb; replace HO480 := oB HO480.out hb; have BK481 := aM (hbox); have GE481 : Aside0 (w.heap.size ≤ gb481) := gE hg; replace HB := hS HB.out hb; have NB454_481 := nL hg BK454.out; have NB481_454 := nG hg BK454.out; replace BK454 := bB BK454.out hb; have NB470_481 := nL hg BK470.out; have NB481_470 := nG hg BK470.out; replace BK470 := bB BK470.out hb; clear hb hbox hg; have hnb34 := NB481_454.out; have hnc34 := NB454_481.out; have hnb35 := NB481_470.out; have hnc35 := NB470_481.out; obtain ⟨hcz36_0, hcz36_1, hcz36_2⟩ := cz3 BK481.out; obtain ⟨hfz36_0, hfz36_1, hfz36_2⟩ := fz3 BK481.out; obtain ⟨Ao37, co37, rfl⟩ := Kd.R_slice HO477.out; obtain ⟨Ao38, co38, rfl⟩ := Kd.R_slice HO480.out) | ((with_reducible refine gate_callee (f := 15) rfl ?_); refine gL (some 41) Tryd.func15 #[.int .i64 t473] ?_; (with_reducible refine (plumblaw07_num.calls t473 t482 _ A21.out).mono ?_); rintro e w' ⟨rfl, ⟨nd, rfl⟩⟩; refine ⟨_, rfl, ?_⟩))
       have n0_ : Aside0 (Kd.R (Kd.int .u64) 26 (((w33.setCell ⟨gb481, 0, none⟩ (.bool t474)).setCell ⟨gb481, 1, none⟩ (.slice Ao37 t475.length co37)).setCell ⟨gb481, 2, none⟩ (.slice Ao38 t478.length co38)) w.heap.size (fun k_ => some k_ ≠ (.slice Ao11 t459.length co11 : Value).ownBlock ∧ some k_ ≠ (.slice Ao37 t475.length co37 : Value).ownBlock ∧ some k_ ≠ (.slice Ao38 t478.length co38 : Value).ownBlock) (.slice Ao10 t456.length co10) t456) := ⟨by (with_reducible repeat (first | apply Kd.R_alloc | apply Kd.R_drewN | apply Kd.R_drew)); exact Kd.R_mono (Kd.R_far (p := ⟨gb481, 2, none⟩) (Kd.R_far (p := ⟨gb481, 1, none⟩) (Kd.R_far (p := ⟨gb481, 0, none⟩) (Kd.R_types HO_455001.out BK481.out (by decide)) (fun _ hk => hk.2) (.bool t474)) (fun _ hk => hk.2) (.slice Ao37 t475.length co37)) (fun _ hk => hk.2) (.slice Ao38 t478.length co38)) (fun _ hk => ⟨hk.1.1, ⟨hk.1.2.1, hk.1.2.2⟩⟩)⟩
       have n1_ : Aside0 (Kd.R (Kd.int .u64) 26 (((w33.setCell ⟨gb481, 0, none⟩ (.bool t474)).setCell ⟨gb481, 1, none⟩ (.slice Ao37 t475.length co37)).setCell ⟨gb481, 2, none⟩ (.slice Ao38 t478.length co38)) w.heap.size (fun k_ => some k_ ≠ (.slice Ao10 t456.length co10 : Value).ownBlock ∧ some k_ ≠ (.slice Ao37 t475.length co37 : Value).ownBlock ∧ some k_ ≠ (.slice Ao38 t478.length co38 : Value).ownBlock) (.slice Ao11 t459.length co11) t459) := ⟨by (with_reducible repeat (first | apply Kd.R_alloc | apply Kd.R_drewN | apply Kd.R_drew)); exact Kd.R_mono (Kd.R_far (p := ⟨gb481, 2, none⟩) (Kd.R_far (p := ⟨gb481, 1, none⟩) (Kd.R_far (p := ⟨gb481, 0, none⟩) (Kd.R_types HO_455002.out BK481.out (by decide)) (fun _ hk => hk.2) (.bool t474)) (fun _ hk => hk.2) (.slice Ao37 t475.length co37)) (fun _ hk => hk.2) (.slice Ao38 t478.length co38)) (fun _ hk => ⟨hk.1.1, ⟨hk.1.2.1, hk.1.2.2⟩⟩)⟩
       have n2_ : Aside0 (Kd.R (Kd.int .u64) 26 (((w33.setCell ⟨gb481, 0, none⟩ (.bool t474)).setCell ⟨gb481, 1, none⟩ (.slice Ao37 t475.length co37)).setCell ⟨gb481, 2, none⟩ (.slice Ao38 t478.length co38)) w.heap.size (fun k_ => some k_ ≠ (.slice Ao10 t456.length co10 : Value).ownBlock ∧ some k_ ≠ (.slice Ao11 t459.length co11 : Value).ownBlock ∧ some k_ ≠ (.slice Ao38 t478.length co38 : Value).ownBlock) (.slice Ao37 t475.length co37) t475) := ⟨by (with_reducible repeat (first | apply Kd.R_alloc | apply Kd.R_drewN | apply Kd.R_drew)); exact Kd.R_mono (Kd.R_far (p := ⟨gb481, 2, none⟩) (Kd.R_far (p := ⟨gb481, 1, none⟩) (Kd.R_far (p := ⟨gb481, 0, none⟩) (Kd.R_types HO477.out BK481.out (by decide)) (fun _ hk => hk.2) (.bool t474)) (fun _ hk => hk.2) (.slice Ao37 t475.length co37)) (fun _ hk => hk.2) (.slice Ao38 t478.length co38)) (fun _ hk => ⟨hk.1.2.1, ⟨hk.1.2.2, hk.1.1⟩⟩)⟩
       have n3_ : Aside0 (Kd.R (Kd.int .u64) 26 (((w33.setCell ⟨gb481, 0, none⟩ (.bool t474)).setCell ⟨gb481, 1, none⟩ (.slice Ao37 t475.length co37)).setCell ⟨gb481, 2, none⟩ (.slice Ao38 t478.length co38)) w.heap.size (fun k_ => some k_ ≠ (.slice Ao10 t456.length co10 : Value).ownBlock ∧ some k_ ≠ (.slice Ao11 t459.length co11 : Value).ownBlock ∧ some k_ ≠ (.slice Ao37 t475.length co37 : Value).ownBlock) (.slice Ao38 t478.length co38) t478) := ⟨by (with_reducible repeat (first | apply Kd.R_alloc | apply Kd.R_drewN | apply Kd.R_drew)); exact Kd.R_mono (Kd.R_far (p := ⟨gb481, 2, none⟩) (Kd.R_far (p := ⟨gb481, 1, none⟩) (Kd.R_far (p := ⟨gb481, 0, none⟩) (Kd.R_types HO480.out BK481.out (by decide)) (fun _ hk => hk.2) (.bool t474)) (fun _ hk => hk.2) (.slice Ao37 t475.length co37)) (fun _ hk => hk.2) (.slice Ao38 t478.length co38)) (fun _ hk => ⟨hk.1.2.1, ⟨hk.1.2.2, hk.1.1⟩⟩)⟩
       have n4_ : Aside0 ((((w33.setCell ⟨gb481, 0, none⟩ (.bool t474)).setCell ⟨gb481, 1, none⟩ (.slice Ao37 t475.length co37)).setCell ⟨gb481, 2, none⟩ (.slice Ao38 t478.length co38)).heap[gb454]? = some (.cells #[.bool t455, .slice Ao10 t456.length co10, .slice Ao11 t459.length co11] 36 (0, 0))) := ⟨dQ1 BK454.out NB454_481.out⟩
       have n5_ : Aside0 ((((w33.setCell ⟨gb481, 0, none⟩ (.bool t474)).setCell ⟨gb481, 1, none⟩ (.slice Ao37 t475.length co37)).setCell ⟨gb481, 2, none⟩ (.slice Ao38 t478.length co38)).heap[gb470]? = some (.cells #[.bool t462, .slice Ao13 t463.length co13, .slice Ao14 t466.length co14] 46 (0, 0))) := ⟨dQ1 BK470.out NB470_481.out⟩
       have n6_ : Aside0 ((((w33.setCell ⟨gb481, 0, none⟩ (.bool t474)).setCell ⟨gb481, 1, none⟩ (.slice Ao37 t475.length co37)).setCell ⟨gb481, 2, none⟩ (.slice Ao38 t478.length co38)).heap[gb481]? = some (.cells #[.bool t474, .slice Ao37 t475.length co37, .slice Ao38 t478.length co38] 46 (0, 0))) := ⟨dP BK481.out⟩
       have n7_ : Aside0 (Below w.heap.size w (((w33.setCell ⟨gb481, 0, none⟩ (.bool t474)).setCell ⟨gb481, 1, none⟩ (.slice Ao37 t475.length co37)).setCell ⟨gb481, 2, none⟩ (.slice Ao38 t478.length co38))) := ⟨eB⟩
       (try clear HO_455001)
       (try clear HO_455002)
       (try clear HO477)
       (try clear HO480)
       (try clear BK454)
       (try clear BK470)
       (try clear BK481)
       (try clear HB)
       generalize (((w33.setCell ⟨gb481, 0, none⟩ (.bool t474)).setCell ⟨gb481, 1, none⟩ (.slice Ao37 t475.length co37)).setCell ⟨gb481, 2, none⟩ (.slice Ao38 t478.length co38)) = w39 at n0_ n1_ n2_ n3_ n4_ n5_ n6_ n7_ ⊢
       have HO_455001 := n0_
       have HO_455002 := n1_
       have HO477 := n2_
       have HO480 := n3_
       have BK454 := n4_
       have BK470 := n5_
       have BK481 := n6_
       have HB := n7_
       clear n0_ n1_ n2_ n3_ n4_ n5_ n6_ n7_
       (try (rw [drewN_self w39]; generalize hq_ : World.drewN w39 _ = w39; have n0_ : Aside0 (Kd.R (Kd.int .u64) 26 w39 w.heap.size (fun k_ => some k_ ≠ (.slice Ao38 t478.length co38 : Value).ownBlock ∧ some k_ ≠ (.slice Ao10 t456.length co10 : Value).ownBlock ∧ some k_ ≠ (.slice Ao11 t459.length co11 : Value).ownBlock) (.slice Ao37 t475.length co37) t475) := ⟨by rw [← hq_]; exact (by (with_reducible repeat (first | apply Kd.R_alloc | apply Kd.R_drewN | apply Kd.R_drew)); exact Kd.R_mono HO477.out (fun _ hk => ⟨hk.2.2, ⟨hk.1, hk.2.1⟩⟩))⟩; have n1_ : Aside0 (Kd.R (Kd.int .u64) 26 w39 w.heap.size (fun k_ => some k_ ≠ (.slice Ao37 t475.length co37 : Value).ownBlock ∧ some k_ ≠ (.slice Ao10 t456.length co10 : Value).ownBlock ∧ some k_ ≠ (.slice Ao11 t459.length co11 : Value).ownBlock) (.slice Ao38 t478.length co38) t478) := ⟨by rw [← hq_]; exact (by (with_reducible repeat (first | apply Kd.R_alloc | apply Kd.R_drewN | apply Kd.R_drew)); exact Kd.R_mono HO480.out (fun _ hk => ⟨hk.2.2, ⟨hk.1, hk.2.1⟩⟩))⟩; have n2_ : Aside0 (Kd.R (Kd.int .u64) 26 w39 w.heap.size (fun k_ => some k_ ≠ (.slice Ao37 t475.length co37 : Value).ownBlock ∧ some k_ ≠ (.slice Ao38 t478.length co38 : Value).ownBlock ∧ some k_ ≠ (.slice Ao11 t459.length co11 : Value).ownBlock) (.slice Ao10 t456.length co10) t456) := ⟨by rw [← hq_]; exact (by (with_reducible repeat (first | apply Kd.R_alloc | apply Kd.R_drewN | apply Kd.R_drew)); exact Kd.R_mono HO_455001.out (fun _ hk => ⟨hk.2.1, ⟨hk.2.2, hk.1⟩⟩))⟩; have n3_ : Aside0 (Kd.R (Kd.int .u64) 26 w39 w.heap.size (fun k_ => some k_ ≠ (.slice Ao37 t475.length co37 : Value).ownBlock ∧ some k_ ≠ (.slice Ao38 t478.length co38 : Value).ownBlock ∧ some k_ ≠ (.slice Ao10 t456.length co10 : Value).ownBlock) (.slice Ao11 t459.length co11) t459) := ⟨by rw [← hq_]; exact (by (with_reducible repeat (first | apply Kd.R_alloc | apply Kd.R_drewN | apply Kd.R_drew)); exact Kd.R_mono HO_455002.out (fun _ hk => ⟨hk.2.1, ⟨hk.2.2, hk.1⟩⟩))⟩; have n4_ : Aside0 (w39.heap[gb454]? = some (.cells #[.bool t455, .slice Ao10 t456.length co10, .slice Ao11 t459.length co11] 36 (0, 0))) := ⟨by rw [← hq_]; exact (dK BK454.out)⟩; have n5_ : Aside0 (w39.heap[gb470]? = some (.cells #[.bool t462, .slice Ao13 t463.length co13, .slice Ao14 t466.length co14] 46 (0, 0))) := ⟨by rw [← hq_]; exact (dK BK470.out)⟩; have n6_ : Aside0 (w39.heap[gb481]? = some (.cells #[.bool t474, .slice Ao37 t475.length co37, .slice Ao38 t478.length co38] 46 (0, 0))) := ⟨by rw [← hq_]; exact (dK BK481.out)⟩; have n7_ : Aside0 (Below w.heap.size w w39) := ⟨by rw [← hq_]; exact eB⟩; clear HO477 HO480 HO_455001 HO_455002 BK454 BK470 BK481 HB hq_; have HO477 := n0_; have HO480 := n1_; have HO_455001 := n2_; have HO_455002 := n3_; have BK454 := n4_; have BK470 := n5_; have BK481 := n6_; have HB := n7_; clear n0_ n1_ n2_ n3_ n4_ n5_ n6_ n7_))
       replace HO_455001 := aM (Kd.R_drew HO_455001.out)
       replace HO_455002 := aM (Kd.R_drew HO_455002.out)
       replace HO477 := aM (Kd.R_drew HO477.out)
       replace HO480 := aM (Kd.R_drew HO480.out)
       replace BK454 := aM (blk_drew BK454.out)
       replace BK470 := aM (blk_drew BK470.out)
       replace BK481 := aM (blk_drew BK481.out)
       replace HB := aM (below_drew1 HB.out)
       refine start_ (n := 5) (S := fun w' => w'.cell? ⟨gb481, 0, none⟩ = some (.bool t474) ∧ w'.cell? ⟨gb481, 1, none⟩ = some (.slice Ao37 t475.length co37) ∧ w'.cell? ⟨gb481, 2, none⟩ = some (.slice Ao38 t478.length co38)) (ds := []) #[false, false, false, false, false] (by kernel_rfl) rfl rfl (cz3 BK481.out) (fun hHeld => ?_)
       generalize w39.drew = w40 at HO_455001 HO_455002 HO477 HO480 BK454 BK470 BK481 HB hHeld ⊢
       refine take_ (i := 2) (N := some 45) (v := ?_) (a' := ?_) #[false, false, true, false, false] rfl rfl (by kernel_rfl) (fun _ _ _ h => h) (Or.inl ⟨by rfl, ?_⟩) hHeld ?_ ?_
       rotate_left
       ·rintro w' ⟨s0, s1, s2⟩
        go_simp
        with_reducible rfl
       rotate_left
       ·simp only [Act.put, List.setIfInBounds_toArray, List.set_cons_zero, List.set_cons_succ, i64_w, i32_w]
        rfl
       refine one_ (i := 0) (N := some 43) #[true, false, true, false, false] rfl rfl (by kernel_rfl) (by decide) (fun K hK => ?_)
       refine goes_ Tryd.func31 (by kernel_rfl) rfl #[.bool false, .int .u64 1, .int .i64 1024] (by rfl) rfl rfl dA ?_
       with_reducible refine (plumblaw07_whole.calls kj2 false 1 1024 t483 t484 t487 _ A23.out).mono ?_
       rintro e w41 ⟨v485, v488, rfl, ho0, ho1, hb⟩
       refine ⟨_, rfl, ?_⟩
       have HO486 := aM (Kd.R_lower (Kd.R_new' (Kd.R_new' (Kd.R_new' (Kd.R_new' ho0 (Kd.R_lt (dR HO_455001.out))) (Kd.R_lt (dR HO_455002.out))) (Kd.R_lt (dR HO477.out))) (Kd.R_lt (dR HO480.out))) (below_size eB))
       have HO489 := aM (Kd.R_lower (Kd.R_new' (Kd.R_new' (Kd.R_new' (Kd.R_new' ho1 (Kd.R_lt (dR HO_455001.out))) (Kd.R_lt (dR HO_455002.out))) (Kd.R_lt (dR HO477.out))) (Kd.R_lt (dR HO480.out))) (below_size eB))
       replace HO_455001 := aM (Kd.R_mono (Kd.R_told (Kd.R_told (Kd.R_old (dR HO_455001.out) hb) (Kd.R_base ho0)) (Kd.R_base ho1)) (fun _ h_ => h_.1))
       replace HO_455002 := aM (Kd.R_mono (Kd.R_told (Kd.R_told (Kd.R_old (dR HO_455002.out) hb) (Kd.R_base ho0)) (Kd.R_base ho1)) (fun _ h_ => h_.1))
       replace HO477 := aM (Kd.R_mono (Kd.R_told (Kd.R_told (Kd.R_old (dR HO477.out) hb) (Kd.R_base ho0)) (Kd.R_base ho1)) (fun _ h_ => h_.1))
       replace HO480 := aM (Kd.R_mono (Kd.R_told (Kd.R_told (Kd.R_old (dR HO480.out) hb) (Kd.R_base ho0)) (Kd.R_base ho1)) (fun _ h_ => h_.1))
       replace BK454 := bB BK454.out hb
       replace BK470 := bB BK470.out hb
       replace BK481 := bB BK481.out hb
       replace HB := hS HB.out hb
       (try clear hb)
       (try clear hb2)
       (try clear hk)
       (try clear hi)
       (try clear ho0)
       (try clear ho1)
       refine hK.out _ _ (cz3 BK481.out) (fun hHeld => ?_)
       clear hK K
       refine norm_ (a' := ?_) ?_ ?_
       rotate_left
       ·show Act.put _ (some 43) _ = _
        simp only [Act.put, List.setIfInBounds_toArray, List.set_cons_zero, List.set_cons_succ, i64_w, i32_w]
        rfl
       refine one_ (i := 1) (N := some 44) #[true, true, true, false, false] rfl rfl (by kernel_rfl) (by decide) (fun K hK => ?_)
       refine goes_ Tryd.func31 (by kernel_rfl) rfl #[.bool false, .int .u64 9007199254740991, .int .i64 971] (by rfl) rfl rfl dA ?_
       with_reducible refine (plumblaw07_whole.calls kj2 false 9007199254740991 971 t490 t491 t494 _ A24.out).mono ?_
       rintro e w42 ⟨v492, v495, rfl, ho0, ho1, hb⟩
       refine ⟨_, rfl, ?_⟩
       have HO493 := aM (Kd.R_lower (Kd.R_new' (Kd.R_new' (Kd.R_new' (Kd.R_new' (Kd.R_new' (Kd.R_new' ho0 (Kd.R_lt (dR HO_455001.out))) (Kd.R_lt (dR HO_455002.out))) (Kd.R_lt (dR HO477.out))) (Kd.R_lt (dR HO480.out))) (Kd.R_lt (dR HO486.out))) (Kd.R_lt (dR HO489.out))) (below_size eB))
       have HO496 := aM (Kd.R_lower (Kd.R_new' (Kd.R_new' (Kd.R_new' (Kd.R_new' (Kd.R_new' (Kd.R_new' ho1 (Kd.R_lt (dR HO_455001.out))) (Kd.R_lt (dR HO_455002.out))) (Kd.R_lt (dR HO477.out))) (Kd.R_lt (dR HO480.out))) (Kd.R_lt (dR HO486.out))) (Kd.R_lt (dR HO489.out))) (below_size eB))
       replace HO_455001 := aM (Kd.R_mono (Kd.R_told (Kd.R_told (Kd.R_old (dR HO_455001.out) hb) (Kd.R_base ho0)) (Kd.R_base ho1)) (fun _ h_ => h_.1))
       replace HO_455002 := aM (Kd.R_mono (Kd.R_told (Kd.R_told (Kd.R_old (dR HO_455002.out) hb) (Kd.R_base ho0)) (Kd.R_base ho1)) (fun _ h_ => h_.1))
       replace HO477 := aM (Kd.R_mono (Kd.R_told (Kd.R_told (Kd.R_old (dR HO477.out) hb) (Kd.R_base ho0)) (Kd.R_base ho1)) (fun _ h_ => h_.1))
       replace HO480 := aM (Kd.R_mono (Kd.R_told (Kd.R_told (Kd.R_old (dR HO480.out) hb) (Kd.R_base ho0)) (Kd.R_base ho1)) (fun _ h_ => h_.1))
       replace HO486 := aM (Kd.R_mono (Kd.R_told (Kd.R_told (Kd.R_old (dR HO486.out) hb) (Kd.R_base ho0)) (Kd.R_base ho1)) (fun _ h_ => h_.1))
       replace HO489 := aM (Kd.R_mono (Kd.R_told (Kd.R_told (Kd.R_old (dR HO489.out) hb) (Kd.R_base ho0)) (Kd.R_base ho1)) (fun _ h_ => h_.1))
       replace BK454 := bB BK454.out hb
       replace BK470 := bB BK470.out hb
       replace BK481 := bB BK481.out hb
       replace HB := hS HB.out hb
       (try clear hb)
       (try clear hb2)
       (try clear hk)
       (try clear hi)
       (try clear ho0)
       (try clear ho1)
       obtain ⟨Ao43, co43, eo43⟩ := Kd.R_slice HO486.out
       (first | subst eo43 | (injection eo43 with f1_ f2_ f3_; have f4_ := f1_.symm; have f5_ := f3_.symm; clear f1_ f2_ f3_; subst f4_; subst f5_))
       obtain ⟨Ao44, co44, eo44⟩ := Kd.R_slice HO489.out
       (first | subst eo44 | (injection eo44 with f1_ f2_ f3_; have f4_ := f1_.symm; have f5_ := f3_.symm; clear f1_ f2_ f3_; subst f4_; subst f5_))
       obtain ⟨Ao45, co45, eo45⟩ := Kd.R_slice HO493.out
       (first | subst eo45 | (injection eo45 with f1_ f2_ f3_; have f4_ := f1_.symm; have f5_ := f3_.symm; clear f1_ f2_ f3_; subst f4_; subst f5_))
       obtain ⟨Ao46, co46, eo46⟩ := Kd.R_slice HO496.out
       (first | subst eo46 | (injection eo46 with f1_ f2_ f3_; have f4_ := f1_.symm; have f5_ := f3_.symm; clear f1_ f2_ f3_; subst f4_; subst f5_))
       refine hK.out _ _ (cz3 BK481.out) (fun hHeld => ?_)
       clear hK K
       refine norm_ (a' := ?_) ?_ ?_
       rotate_left
       ·show Act.put _ (some 44) _ = _
        simp only [Act.put, List.setIfInBounds_toArray, List.set_cons_zero, List.set_cons_succ, i64_w, i32_w]
        rfl
       refine one_ (i := 3) (N := some 46) #[true, true, true, true, false] rfl rfl (by kernel_rfl) (by decide) (fun K hK => ?_)
       refine goes_ Tryd.func30 (by kernel_rfl) rfl #[.agg #[.bool t483, .slice Ao43 t484.length co43, .slice Ao44 t487.length co44], .agg #[.bool t490, .slice Ao45 t491.length co45, .slice Ao46 t494.length co46], .agg #[.bool t474, .slice Ao37 t475.length co37, .slice Ao38 t478.length co38]] (by rfl) rfl rfl dA ?_
       with_reducible refine (plumblaw07_twice.calls kj2 t483 _ _ t484 _ _ t487 t490 _ _ t491 _ _ t494 t474 _ _ t475 _ _ t478 t497 _ ?side1 (Kd.R_reads' HO486.out).2.1 ?side3 (Kd.R_reads' HO489.out).2.1 ?side5 (Kd.R_reads' HO493.out).2.1 ?side7 (Kd.R_reads' HO496.out).2.1 ?side9 (Kd.R_reads' HO477.out).2.1 ?side11 (Kd.R_reads' HO480.out).2.1 A25.out).mono ?_
       (case side1 => exact dC (Kd.R_reads' HO486.out).2.2)
       (case side3 => exact dC (Kd.R_reads' HO489.out).2.2)
       (case side5 => exact dC (Kd.R_reads' HO493.out).2.2)
       (case side7 => exact dC (Kd.R_reads' HO496.out).2.2)
       (case side9 => exact dC (Kd.R_reads' HO477.out).2.2)
       (case side11 => exact dC (Kd.R_reads' HO480.out).2.2)
       rintro e w47 ⟨rfl, hb⟩
       refine ⟨_, rfl, ?_⟩
       replace HO_455001 := oB HO_455001.out hb
       replace HO_455002 := oB HO_455002.out hb
       replace HO477 := oB HO477.out hb
       replace HO480 := oB HO480.out hb
       replace HO486 := oB HO486.out hb
       replace HO489 := oB HO489.out hb
       replace HO493 := oB HO493.out hb
       replace HO496 := oB HO496.out hb
       replace BK454 := bB BK454.out hb
       replace BK470 := bB BK470.out hb
       replace BK481 := bB BK481.out hb
       replace HB := hS HB.out hb
       (try clear hb)
       (try clear hb2)
       (try clear hk)
       (try clear hi)
       refine hK.out _ _ (cz3 BK481.out) (fun hHeld => ?_)
       clear hK K
       refine norm_ (a' := ?_) ?_ ?_
       rotate_left
       ·show Act.put _ (some 46) _ = _
        simp only [Act.put, List.setIfInBounds_toArray, List.set_cons_zero, List.set_cons_succ, i64_w, i32_w]
        rfl
       refine pure_ (i := 4) (N := some 8) (v := ?_) (a' := ?_) #[true, true, true, true, true] rfl rfl (by kernel_rfl) (fun _ _ _ h => h) (Or.inl ⟨by rfl, ?_⟩) ?_ ?_
       rotate_left
       ·intro w'
        go_simp
        with_reducible rfl
       rotate_left
       ·simp only [Act.put, List.setIfInBounds_toArray, List.set_cons_zero, List.set_cons_succ, i64_w, i32_w]
        rfl
       refine done_ (by kernel_rfl) ?_
       try go_wp2
       go_ret
       exact ⟨dE, eB⟩
      ·rw [if_neg c27] at H
       exact absurd H (by simp)
     ·rw [if_neg c26] at H
      exact absurd H (by simp)
    ·rw [if_neg c22] at H
     have c22b0 : (t482 == 70) = false := beq_eq_false_iff_ne.mpr c22
     have c22b1 : (t482 != 70) = true := bne_iff_ne.mpr c22
     have HC48 := aM H
     clear H
     have hnb49 := NB454_470.out
     have hnc49 := NB470_454.out
     obtain ⟨hcz50_0, hcz50_1, hcz50_2⟩ := cz3 BK454.out
     obtain ⟨hfz50_0, hfz50_1, hfz50_2⟩ := fz3 BK454.out
     go_upto_region 9 with (first | ((with_reducible refine gate_callee (f := 17) rfl ?_); refine gL (some 35) Tryd.func17 #[.bool t455, .slice Ao10 t456.length co10, .slice Ao11 t459.length co11, .int .i64 0] ?_; (with_reducible refine (near_Quotient.calls kj2 t455 _ _ t456 _ _ t459 0 t472 t473 _ ?side1 (Kd.R_reads' HO_455001.out).2.1 ?side3 (Kd.R_reads' HO_455002.out).2.1 A19.out).mono ?_); (case side1 => exact dC (Kd.R_reads' HO_455001.out).2.2); (case side3 => exact dC (Kd.R_reads' HO_455002.out).2.2); rintro e w51 ⟨rfl, hb⟩; refine ⟨_, rfl, ?_⟩; replace HO_455001 := oB HO_455001.out hb; replace HO_455002 := oB HO_455002.out hb; replace HO_471001 := oB HO_471001.out hb; replace HO_471002 := oB HO_471002.out hb; replace BK454 := bB BK454.out hb; replace BK470 := bB BK470.out hb; replace HB := hS HB.out hb; (try clear hb); obtain ⟨hcz52_0, hcz52_1, hcz52_2⟩ := cz3 BK470.out; obtain ⟨hfz52_0, hfz52_1, hfz52_2⟩ := fz3 BK470.out) | ((with_reducible refine gate_callee (f := 26) rfl ?_); refine gL (some 39) Tryd.func26 #[.agg #[.bool t462, .slice Ao13 t463.length co13, .slice Ao14 t466.length co14]] ?_; (with_reducible refine (plumblaw07_size.calls t462 (fun k_ => some k_ = (.slice Ao13 t463.length co13 : Value).ownBlock) (.slice Ao13 t463.length co13) t463 (fun k_ => some k_ = (.slice Ao14 t466.length co14 : Value).ownBlock) (.slice Ao14 t466.length co14) t466 t474 t475 t478 w _ ?side1 ?side2 ?side3 ?side4 ?side5 A20.out).mono ?_); (case side1 => repeat (first | (with_reducible first | exact HB.out | apply below_alloc | apply pw_below_drewN | apply below_drew1 | refine below_set ?_ GE454.out | refine below_set ?_ GE470.out) | exact HB.out)); (case side2 => exact Kd.R_tight rfl HO_471001.out); (case side3 => exact fun k_ e_ => (HO_471001.out.1 k_ e_.symm).2.2); (case side4 => exact Kd.R_tight rfl HO_471002.out); (case side5 => exact fun k_ e_ => (HO_471002.out.1 k_ e_.symm).2.2); rintro e w53 ⟨v476, v479, rfl, ho0, ho1, hb, hkp⟩; refine ⟨_, rfl, ?_⟩; replace BK454 := aM (blk_kept (dK BK454.out) hkp (fun hs_ => Or.elim hs_ (fun e_ => (fun e_ => (Kd.R_ne HO_471001.out BK454.out (by decide)) e_) e_) (fun e_ => (fun e_ => (Kd.R_ne HO_471002.out BK454.out (by decide)) e_) e_))); replace BK470 := aM (blk_kept (dK BK470.out) hkp (fun hs_ => Or.elim hs_ (fun e_ => (fun e_ => (Kd.R_ne HO_471001.out BK470.out (by decide)) e_) e_) (fun e_ => (fun e_ => (Kd.R_ne HO_471002.out BK470.out (by decide)) e_) e_))); have HO477 := aM (Kd.R_mono (ok' := fun k_ => some k_ ≠ (v479 : Value).ownBlock ∧ some k_ ≠ (.slice Ao10 t456.length co10 : Value).ownBlock ∧ some k_ ≠ (.slice Ao11 t459.length co11 : Value).ownBlock) ho0 (fun k_ hk_ => ⟨hk_.2, Or.elim hk_.1 (fun hs_ => Or.elim hs_ (fun hs_ => fun e_ => (((HO_455001.out).1 k_ e_.symm).2.1) hs_) (fun hs_ => fun e_ => (((HO_455001.out).1 k_ e_.symm).2.2) hs_)) (fun hn_ => (Kd.fresh' (Kd.R_lt (dR HO_455001.out)) k_ hn_)), Or.elim hk_.1 (fun hs_ => Or.elim hs_ (fun hs_ => fun e_ => (((HO_455002.out).1 k_ e_.symm).2.1) hs_) (fun hs_ => fun e_ => (((HO_455002.out).1 k_ e_.symm).2.2) hs_)) (fun hn_ => (Kd.fresh' (Kd.R_lt (dR HO_455002.out)) k_ hn_))⟩)); have HO480 := aM (Kd.R_mono (ok' := fun k_ => some k_ ≠ (v476 : Value).ownBlock ∧ some k_ ≠ (.slice Ao10 t456.length co10 : Value).ownBlock ∧ some k_ ≠ (.slice Ao11 t459.length co11 : Value).ownBlock) ho1 (fun k_ hk_ => ⟨hk_.2, Or.elim hk_.1 (fun hs_ => Or.elim hs_ (fun hs_ => fun e_ => (((HO_455001.out).1 k_ e_.symm).2.1) hs_) (fun hs_ => fun e_ => (((HO_455001.out).1 k_ e_.symm).2.2) hs_)) (fun hn_ => (Kd.fresh' (Kd.R_lt (dR HO_455001.out)) k_ hn_)), Or.elim hk_.1 (fun hs_ => Or.elim hs_ (fun hs_ => fun e_ => (((HO_455002.out).1 k_ e_.symm).2.1) hs_) (fun hs_ => fun e_ => (((HO_455002.out).1 k_ e_.symm).2.2) hs_)) (fun hn_ => (Kd.fresh' (Kd.R_lt (dR HO_455002.out)) k_ hn_))⟩)); replace HO_455001 := aM (Kd.R_mono (ok' := fun k_ => some k_ ≠ (.slice Ao11 t459.length co11 : Value).ownBlock ∧ some k_ ≠ (v476 : Value).ownBlock ∧ some k_ ≠ (v479 : Value).ownBlock) (Kd.R_keptB (HO_455001.out) hkp (fun k_ hk_ hs_ => Or.elim hs_ (fun e_ => (hk_.2.1) e_) (fun e_ => (hk_.2.2) e_))) (fun k_ hk_ => ⟨hk_.1.1, fun e_ => Or.elim (ho0.1 k_ e_.symm).1 (fun hs_ => hk_.2.1 hs_) (fun hn_ => Nat.not_le.2 hk_.2.2 hn_), fun e_ => Or.elim (ho1.1 k_ e_.symm).1 (fun hs_ => hk_.2.1 hs_) (fun hn_ => Nat.not_le.2 hk_.2.2 hn_)⟩)); replace HO_455002 := aM (Kd.R_mono (ok' := fun k_ => some k_ ≠ (.slice Ao10 t456.length co10 : Value).ownBlock ∧ some k_ ≠ (v476 : Value).ownBlock ∧ some k_ ≠ (v479 : Value).ownBlock) (Kd.R_keptB (HO_455002.out) hkp (fun k_ hk_ hs_ => Or.elim hs_ (fun e_ => (hk_.2.1) e_) (fun e_ => (hk_.2.2) e_))) (fun k_ hk_ => ⟨hk_.1.1, fun e_ => Or.elim (ho0.1 k_ e_.symm).1 (fun hs_ => hk_.2.1 hs_) (fun hn_ => Nat.not_le.2 hk_.2.2 hn_), fun e_ => Or.elim (ho1.1 k_ e_.symm).1 (fun hs_ => hk_.2.1 hs_) (fun hn_ => Nat.not_le.2 hk_.2.2 hn_)⟩)); replace HB := aM (hb); clear HO_471001; clear HO_471002; (try clear hb); (try clear hkp); (try clear ho0); (try clear ho1)) | ((with_reducible refine gate_dst (N := 7) rfl ?_); refine bE 7 #[.bool false, .slice none 0 0, .slice none 0 0] 46 ?_; intro gb481 hg w54 hbox hb; replace HO_455001 := oB HO_455001.out hb; replace HO_455002 := oB HO_455002.out hb; replace HO477 := oB HO477.out hb; replace HO480 := oB HO480.out hb; have BK481 := aM (hbox); have GE481 : Aside0 (w.heap.size ≤ gb481) := gE hg; replace HB := hS HB.out hb; have NB454_481 := nL hg BK454.out; have NB481_454 := nG hg BK454.out; replace BK454 := bB BK454.out hb; have NB470_481 := nL hg BK470.out; have NB481_470 := nG hg BK470.out; replace BK470 := bB BK470.out hb; clear hb hbox hg; have hnb55 := NB481_454.out; have hnc55 := NB454_481.out; have hnb56 := NB481_470.out; have hnc56 := NB470_481.out; obtain ⟨hcz57_0, hcz57_1, hcz57_2⟩ := cz3 BK481.out; obtain ⟨hfz57_0, hfz57_1, hfz57_2⟩ := fz3 BK481.out; obtain ⟨Ao58, co58, rfl⟩ := Kd.R_slice HO477.out; obtain ⟨Ao59, co59, rfl⟩ := Kd.R_slice HO480.out) | ((with_reducible refine gate_callee (f := 15) rfl ?_); refine gL (some 41) Tryd.func15 #[.int .i64 t473] ?_; (with_reducible refine (plumblaw07_num.calls t473 t482 _ A21.out).mono ?_); rintro e w' ⟨rfl, ⟨nd, rfl⟩⟩; refine ⟨_, rfl, ?_⟩))
     (try simp only [Act.put, List.setIfInBounds_toArray, List.set_cons_zero, List.set_cons_succ])
     go_cut [67] (fun v67 wc => ∃ (kq : Nat) (x67_47 : Bool), v67 = .bool x67_47 ∧ Aside0 (plumblaw07_NearNearest.j1 kq t472 x67_47 t474 t475 t478 = some r) ∧ Aside0 (kq ≤ kj2) ∧ Aside0 (Kd.R (Kd.int .u64) 26 wc w.heap.size (fun k_ => some k_ ≠ ((.slice Ao11 t459.length co11) : Value).ownBlock ∧ some k_ ≠ ((.slice Ao58 t475.length co58) : Value).ownBlock ∧ some k_ ≠ ((.slice Ao59 t478.length co59) : Value).ownBlock) (.slice Ao10 t456.length co10) t456) ∧ Aside0 (Kd.R (Kd.int .u64) 26 wc w.heap.size (fun k_ => some k_ ≠ ((.slice Ao10 t456.length co10) : Value).ownBlock ∧ some k_ ≠ ((.slice Ao58 t475.length co58) : Value).ownBlock ∧ some k_ ≠ ((.slice Ao59 t478.length co59) : Value).ownBlock) (.slice Ao11 t459.length co11) t459) ∧ Aside0 (Kd.R (Kd.int .u64) 26 wc w.heap.size (fun k_ => some k_ ≠ ((.slice Ao10 t456.length co10) : Value).ownBlock ∧ some k_ ≠ ((.slice Ao11 t459.length co11) : Value).ownBlock ∧ some k_ ≠ ((.slice Ao59 t478.length co59) : Value).ownBlock) (.slice Ao58 t475.length co58) t475) ∧ Aside0 (Kd.R (Kd.int .u64) 26 wc w.heap.size (fun k_ => some k_ ≠ ((.slice Ao10 t456.length co10) : Value).ownBlock ∧ some k_ ≠ ((.slice Ao11 t459.length co11) : Value).ownBlock ∧ some k_ ≠ ((.slice Ao58 t475.length co58) : Value).ownBlock) (.slice Ao59 t478.length co59) t478) ∧ Aside0 (wc.heap[gb454]? = some (.cells #[.bool t455, (.slice Ao10 t456.length co10), (.slice Ao11 t459.length co11)] 36 (0, 0))) ∧ Aside0 (wc.heap[gb481]? = some (.cells #[.bool t474, (.slice Ao58 t475.length co58), (.slice Ao59 t478.length co59)] 46 (0, 0))) ∧ Aside0 (Below w.heap.size w wc))
     case first =>
      have H := HC48.out
      clear HC48
      replace H := obe H
      obtain ⟨t498, A600, H⟩ := H
      (try dsimp only at H)
      have A60 := aM A600
      clear A600
      by_cases c61 : t498 = 0
      ·rw [if_pos c61] at H
       have c61b0 : (t498 == 0) = true := beq_iff_eq.mpr c61
       have c61b1 : (t498 != 0) = false := bne_eq_false_iff_eq.mpr c61
       clear c61
       (first | rw [c61b0] | (simp only [i64_w, i32_w]; rw [c61b0]) | skip)
       have H' := aM H
       clear H
       go_wp2_with (first | ((with_reducible refine gate_callee (f := 15) rfl ?_); refine gL (some 58) Tryd.func15 #[.int .i64 t473] ?_; (with_reducible refine (plumblaw07_num.calls t473 t498 _ A60.out).mono ?_); rintro e w' ⟨rfl, ⟨nd, rfl⟩⟩; refine ⟨_, rfl, ?_⟩; have hnb62 := NB454_470.out; have hnc62 := NB470_454.out; have hnb63 := NB454_481.out; have hnc63 := NB481_454.out; obtain ⟨hcz64_0, hcz64_1, hcz64_2⟩ := cz3 BK454.out; obtain ⟨hfz64_0, hfz64_1, hfz64_2⟩ := fz3 BK454.out))
       go_meet
       case rel => exact ⟨_, ((((Go.bits .and .u64 t472 9223372036854775808) != 0) != t455)), dF, H', ⟨by have := HJ2.out; first | omega | exact Nat.le_refl _⟩, ⟨by (with_reducible repeat (first | apply Kd.R_alloc | apply Kd.R_drewN | apply Kd.R_drew)); exact Kd.R_mono (Kd.R_far (p := ⟨gb481, 2, none⟩) (Kd.R_far (p := ⟨gb481, 1, none⟩) (Kd.R_far (p := ⟨gb481, 0, none⟩) (Kd.R_types HO_455001.out BK481.out (by decide)) (fun _ hk => hk.2) (.bool t474)) (fun _ hk => hk.2) (.slice Ao58 t475.length co58)) (fun _ hk => hk.2) (.slice Ao59 t478.length co59)) (fun _ hk => ⟨hk.1.1, ⟨hk.1.2.1, hk.1.2.2⟩⟩)⟩, ⟨by (with_reducible repeat (first | apply Kd.R_alloc | apply Kd.R_drewN | apply Kd.R_drew)); exact Kd.R_mono (Kd.R_far (p := ⟨gb481, 2, none⟩) (Kd.R_far (p := ⟨gb481, 1, none⟩) (Kd.R_far (p := ⟨gb481, 0, none⟩) (Kd.R_types HO_455002.out BK481.out (by decide)) (fun _ hk => hk.2) (.bool t474)) (fun _ hk => hk.2) (.slice Ao58 t475.length co58)) (fun _ hk => hk.2) (.slice Ao59 t478.length co59)) (fun _ hk => ⟨hk.1.1, ⟨hk.1.2.1, hk.1.2.2⟩⟩)⟩, ⟨by (with_reducible repeat (first | apply Kd.R_alloc | apply Kd.R_drewN | apply Kd.R_drew)); exact Kd.R_mono (Kd.R_far (p := ⟨gb481, 2, none⟩) (Kd.R_far (p := ⟨gb481, 1, none⟩) (Kd.R_far (p := ⟨gb481, 0, none⟩) (Kd.R_types HO477.out BK481.out (by decide)) (fun _ hk => hk.2) (.bool t474)) (fun _ hk => hk.2) (.slice Ao58 t475.length co58)) (fun _ hk => hk.2) (.slice Ao59 t478.length co59)) (fun _ hk => ⟨hk.1.2.1, ⟨hk.1.2.2, hk.1.1⟩⟩)⟩, ⟨by (with_reducible repeat (first | apply Kd.R_alloc | apply Kd.R_drewN | apply Kd.R_drew)); exact Kd.R_mono (Kd.R_far (p := ⟨gb481, 2, none⟩) (Kd.R_far (p := ⟨gb481, 1, none⟩) (Kd.R_far (p := ⟨gb481, 0, none⟩) (Kd.R_types HO480.out BK481.out (by decide)) (fun _ hk => hk.2) (.bool t474)) (fun _ hk => hk.2) (.slice Ao58 t475.length co58)) (fun _ hk => hk.2) (.slice Ao59 t478.length co59)) (fun _ hk => ⟨hk.1.2.1, ⟨hk.1.2.2, hk.1.1⟩⟩)⟩, ⟨dQ1 BK454.out NB454_481.out⟩, ⟨dP BK481.out⟩, ⟨eB⟩⟩
      ·rw [if_neg c61] at H
       have c61b0 : (t498 == 0) = false := beq_eq_false_iff_ne.mpr c61
       have c61b1 : (t498 != 0) = true := bne_iff_ne.mpr c61
       (first | rw [c61b0] | (simp only [i64_w, i32_w]; rw [c61b0]) | skip)
       have H' := aM H
       clear H
       go_wp2_with (first | ((with_reducible refine gate_callee (f := 15) rfl ?_); refine gL (some 58) Tryd.func15 #[.int .i64 t473] ?_; (with_reducible refine (plumblaw07_num.calls t473 t498 _ A60.out).mono ?_); rintro e w' ⟨rfl, ⟨nd, rfl⟩⟩; refine ⟨_, rfl, ?_⟩))
       go_meet
       case rel => exact ⟨_, (true), dF, H', ⟨by have := HJ2.out; first | omega | exact Nat.le_refl _⟩, ⟨by (with_reducible repeat (first | apply Kd.R_alloc | apply Kd.R_drewN | apply Kd.R_drew)); exact Kd.R_mono (Kd.R_far (p := ⟨gb481, 2, none⟩) (Kd.R_far (p := ⟨gb481, 1, none⟩) (Kd.R_far (p := ⟨gb481, 0, none⟩) (Kd.R_types HO_455001.out BK481.out (by decide)) (fun _ hk => hk.2) (.bool t474)) (fun _ hk => hk.2) (.slice Ao58 t475.length co58)) (fun _ hk => hk.2) (.slice Ao59 t478.length co59)) (fun _ hk => ⟨hk.1.1, ⟨hk.1.2.1, hk.1.2.2⟩⟩)⟩, ⟨by (with_reducible repeat (first | apply Kd.R_alloc | apply Kd.R_drewN | apply Kd.R_drew)); exact Kd.R_mono (Kd.R_far (p := ⟨gb481, 2, none⟩) (Kd.R_far (p := ⟨gb481, 1, none⟩) (Kd.R_far (p := ⟨gb481, 0, none⟩) (Kd.R_types HO_455002.out BK481.out (by decide)) (fun _ hk => hk.2) (.bool t474)) (fun _ hk => hk.2) (.slice Ao58 t475.length co58)) (fun _ hk => hk.2) (.slice Ao59 t478.length co59)) (fun _ hk => ⟨hk.1.1, ⟨hk.1.2.1, hk.1.2.2⟩⟩)⟩, ⟨by (with_reducible repeat (first | apply Kd.R_alloc | apply Kd.R_drewN | apply Kd.R_drew)); exact Kd.R_mono (Kd.R_far (p := ⟨gb481, 2, none⟩) (Kd.R_far (p := ⟨gb481, 1, none⟩) (Kd.R_far (p := ⟨gb481, 0, none⟩) (Kd.R_types HO477.out BK481.out (by decide)) (fun _ hk => hk.2) (.bool t474)) (fun _ hk => hk.2) (.slice Ao58 t475.length co58)) (fun _ hk => hk.2) (.slice Ao59 t478.length co59)) (fun _ hk => ⟨hk.1.2.1, ⟨hk.1.2.2, hk.1.1⟩⟩)⟩, ⟨by (with_reducible repeat (first | apply Kd.R_alloc | apply Kd.R_drewN | apply Kd.R_drew)); exact Kd.R_mono (Kd.R_far (p := ⟨gb481, 2, none⟩) (Kd.R_far (p := ⟨gb481, 1, none⟩) (Kd.R_far (p := ⟨gb481, 0, none⟩) (Kd.R_types HO480.out BK481.out (by decide)) (fun _ hk => hk.2) (.bool t474)) (fun _ hk => hk.2) (.slice Ao58 t475.length co58)) (fun _ hk => hk.2) (.slice Ao59 t478.length co59)) (fun _ hk => ⟨hk.1.2.1, ⟨hk.1.2.2, hk.1.1⟩⟩)⟩, ⟨dQ1 BK454.out NB454_481.out⟩, ⟨dP BK481.out⟩, ⟨eB⟩⟩
     case rest =>
      clear HC48
      try clear c18
      try clear c22
      try clear c22b0
      try clear c22b1
      try clear hcz12_0
      try clear hcz12_1
      try clear hcz12_2
      try clear hcz50_0
      try clear hcz50_1
      try clear hcz50_2
      try clear hcz52_0
      try clear hcz52_1
      try clear hcz52_2
      try clear hcz57_0
      try clear hcz57_1
      try clear hcz57_2
      try clear hcz5_0
      try clear hcz5_1
      try clear hcz5_2
      try clear hcz9_0
      try clear hcz9_1
      try clear hcz9_2
      try clear hfz12_0
      try clear hfz12_1
      try clear hfz12_2
      try clear hfz50_0
      try clear hfz50_1
      try clear hfz50_2
      try clear hfz52_0
      try clear hfz52_1
      try clear hfz52_2
      try clear hfz57_0
      try clear hfz57_1
      try clear hfz57_2
      try clear hfz5_0
      try clear hfz5_1
      try clear hfz5_2
      try clear hfz9_0
      try clear hfz9_1
      try clear hfz9_2
      obtain ⟨kq, x67_47, rfl, HA, HJ47, HO_455001, HO_455002, HO_482001, HO_482002, BK454, BK481, HB⟩ := hcut
      cases kq with
      | zero => exact absurd HA.out (by simp [plumblaw07_NearNearest.j1])
      | succ kj47 =>
       have H := HA.out
       clear HA
       simp only [plumblaw07_NearNearest.j1] at H
       by_cases c65 : x67_47 = true
       ·subst c65
        rw [if_pos rfl] at H
        (try dsimp only at H)
        exact absurd H (by simp)
       ·replace c65 := Bool.eq_false_iff.mpr c65
        subst c65
        rw [if_neg (show ¬ (false = true) by decide)] at H
        (try dsimp only at H)
        replace H := obe H
        obtain ⟨⟨t499, t500, t503, t506⟩, A660, H⟩ := H
        (try dsimp only at H)
        have A66 := aM A660
        clear A660
        replace H := obe H
        obtain ⟨⟨t508, t509, t512, t515⟩, A670, H⟩ := H
        (try dsimp only at H)
        have A67 := aM A670
        clear A670
        replace H := obe H
        obtain ⟨t517, A680, H⟩ := H
        (try dsimp only at H)
        have A68 := aM A680
        clear A680
        have HC69 := aM H
        clear H
        go_upto_region 15 with (first | ((with_reducible refine gate_callee (f := 25) rfl ?_); refine gL (some 72) Tryd.func25 #[.int .u64 (Go.bits .andNot .u64 t472 9223372036854775808)] ?_; (with_reducible refine (plumblaw07_value.calls kj47 (Go.bits .andNot .u64 t472 9223372036854775808) t499 t500 t503 t506 _ A66.out).mono ?_); rintro e w70 ⟨v501, v504, rfl, ho0, ho1, hb⟩; refine ⟨_, rfl, ?_⟩; have HO502 := aM (Kd.R_lower (Kd.R_new' (Kd.R_new' (Kd.R_new' (Kd.R_new' ho0 (Kd.R_lt (dR HO_455001.out))) (Kd.R_lt (dR HO_455002.out))) (Kd.R_lt (dR HO_482001.out))) (Kd.R_lt (dR HO_482002.out))) (below_size eB)); have HO505 := aM (Kd.R_lower (Kd.R_new' (Kd.R_new' (Kd.R_new' (Kd.R_new' ho1 (Kd.R_lt (dR HO_455001.out))) (Kd.R_lt (dR HO_455002.out))) (Kd.R_lt (dR HO_482001.out))) (Kd.R_lt (dR HO_482002.out))) (below_size eB)); replace HO_455001 := aM (Kd.R_mono (Kd.R_told (Kd.R_told (Kd.R_old (dR HO_455001.out) hb) (Kd.R_base ho0)) (Kd.R_base ho1)) (fun _ h_ => h_.1)); replace HO_455002 := aM (Kd.R_mono (Kd.R_told (Kd.R_told (Kd.R_old (dR HO_455002.out) hb) (Kd.R_base ho0)) (Kd.R_base ho1)) (fun _ h_ => h_.1)); replace HO_482001 := aM (Kd.R_mono (Kd.R_told (Kd.R_told (Kd.R_old (dR HO_482001.out) hb) (Kd.R_base ho0)) (Kd.R_base ho1)) (fun _ h_ => h_.1)); replace HO_482002 := aM (Kd.R_mono (Kd.R_told (Kd.R_told (Kd.R_old (dR HO_482002.out) hb) (Kd.R_base ho0)) (Kd.R_base ho1)) (fun _ h_ => h_.1)); replace BK454 := bB BK454.out hb; replace BK481 := bB BK481.out hb; replace HB := hS HB.out hb; (try clear hb); (try clear ho0); (try clear ho1)) | ((with_reducible refine gate_dst (N := 9) rfl ?_); refine bE 9 #[.bool false, .slice none 0 0, .slice none 0 0] 46 ?_; intro gb507 hg w71 hbox hb; replace HO_455001 := oB HO_455001.out hb; replace HO_455002 := oB HO_455002.out hb; replace HO_482001 := oB HO_482001.out hb; replace HO_482002 := oB HO_482002.out hb; replace HO502 := oB HO502.out hb; replace HO505 := oB HO505.out hb; have BK507 := aM (hbox); have GE507 : Aside0 (w.heap.size ≤ gb507) := gE hg; replace HB := hS HB.out hb; have NB454_507 := nL hg BK454.out; have NB507_454 := nG hg BK454.out; replace BK454 := bB BK454.out hb; have NB481_507 := nL hg BK481.out; have NB507_481 := nG hg BK481.out; replace BK481 := bB BK481.out hb; clear hb hbox hg; have hnb72 := NB507_454.out; have hnc72 := NB454_507.out; have hnb73 := NB507_481.out; have hnc73 := NB481_507.out; obtain ⟨hcz74_0, hcz74_1, hcz74_2⟩ := cz3 BK507.out; obtain ⟨hfz74_0, hfz74_1, hfz74_2⟩ := fz3 BK507.out; obtain ⟨Ao75, co75, rfl⟩ := Kd.R_slice HO502.out; obtain ⟨Ao76, co76, rfl⟩ := Kd.R_slice HO505.out) | ((with_reducible refine gate_callee (f := 32) rfl ?_); refine gL (some 77) Tryd.func32 #[.int .u64 (Go.bits .andNot .u64 t472 9223372036854775808)] ?_; (with_reducible refine (plumblaw07_above.calls kj47 (Go.bits .andNot .u64 t472 9223372036854775808) t508 t509 t512 t515 _ A67.out).mono ?_); rintro e w77 ⟨v510, v513, rfl, ho0, ho1, hb⟩; refine ⟨_, rfl, ?_⟩; have HO511 := aM (Kd.R_lower (Kd.R_new' (Kd.R_new' (Kd.R_new' (Kd.R_new' (Kd.R_new' (Kd.R_new' ho0 (Kd.R_lt (by (with_reducible repeat (first | apply Kd.R_alloc | apply Kd.R_drewN | apply Kd.R_drew)); exact (rX HO_455001.out BK507.out)))) (Kd.R_lt (by (with_reducible repeat (first | apply Kd.R_alloc | apply Kd.R_drewN | apply Kd.R_drew)); exact (rX HO_455002.out BK507.out)))) (Kd.R_lt (by (with_reducible repeat (first | apply Kd.R_alloc | apply Kd.R_drewN | apply Kd.R_drew)); exact (rX HO_482001.out BK507.out)))) (Kd.R_lt (by (with_reducible repeat (first | apply Kd.R_alloc | apply Kd.R_drewN | apply Kd.R_drew)); exact (rX HO_482002.out BK507.out)))) (Kd.R_lt (by (with_reducible repeat (first | apply Kd.R_alloc | apply Kd.R_drewN | apply Kd.R_drew)); exact (rX HO502.out BK507.out)))) (Kd.R_lt (by (with_reducible repeat (first | apply Kd.R_alloc | apply Kd.R_drewN | apply Kd.R_drew)); exact (rX HO505.out BK507.out)))) (below_size eB)); have HO514 := aM (Kd.R_lower (Kd.R_new' (Kd.R_new' (Kd.R_new' (Kd.R_new' (Kd.R_new' (Kd.R_new' ho1 (Kd.R_lt (by (with_reducible repeat (first | apply Kd.R_alloc | apply Kd.R_drewN | apply Kd.R_drew)); exact (rX HO_455001.out BK507.out)))) (Kd.R_lt (by (with_reducible repeat (first | apply Kd.R_alloc | apply Kd.R_drewN | apply Kd.R_drew)); exact (rX HO_455002.out BK507.out)))) (Kd.R_lt (by (with_reducible repeat (first | apply Kd.R_alloc | apply Kd.R_drewN | apply Kd.R_drew)); exact (rX HO_482001.out BK507.out)))) (Kd.R_lt (by (with_reducible repeat (first | apply Kd.R_alloc | apply Kd.R_drewN | apply Kd.R_drew)); exact (rX HO_482002.out BK507.out)))) (Kd.R_lt (by (with_reducible repeat (first | apply Kd.R_alloc | apply Kd.R_drewN | apply Kd.R_drew)); exact (rX HO502.out BK507.out)))) (Kd.R_lt (by (with_reducible repeat (first | apply Kd.R_alloc | apply Kd.R_drewN | apply Kd.R_drew)); exact (rX HO505.out BK507.out)))) (below_size eB)); replace HO_455001 := aM (Kd.R_mono (Kd.R_told (Kd.R_told (Kd.R_old (by (with_reducible repeat (first | apply Kd.R_alloc | apply Kd.R_drewN | apply Kd.R_drew)); exact (rX HO_455001.out BK507.out)) hb) (Kd.R_base ho0)) (Kd.R_base ho1)) (fun _ h_ => h_.1)); replace HO_455002 := aM (Kd.R_mono (Kd.R_told (Kd.R_told (Kd.R_old (by (with_reducible repeat (first | apply Kd.R_alloc | apply Kd.R_drewN | apply Kd.R_drew)); exact (rX HO_455002.out BK507.out)) hb) (Kd.R_base ho0)) (Kd.R_base ho1)) (fun _ h_ => h_.1)); replace HO_482001 := aM (Kd.R_mono (Kd.R_told (Kd.R_told (Kd.R_old (by (with_reducible repeat (first | apply Kd.R_alloc | apply Kd.R_drewN | apply Kd.R_drew)); exact (rX HO_482001.out BK507.out)) hb) (Kd.R_base ho0)) (Kd.R_base ho1)) (fun _ h_ => h_.1)); replace HO_482002 := aM (Kd.R_mono (Kd.R_told (Kd.R_told (Kd.R_old (by (with_reducible repeat (first | apply Kd.R_alloc | apply Kd.R_drewN | apply Kd.R_drew)); exact (rX HO_482002.out BK507.out)) hb) (Kd.R_base ho0)) (Kd.R_base ho1)) (fun _ h_ => h_.1)); replace HO502 := aM (Kd.R_mono (Kd.R_told (Kd.R_told (Kd.R_old (by (with_reducible repeat (first | apply Kd.R_alloc | apply Kd.R_drewN | apply Kd.R_drew)); exact (rX HO502.out BK507.out)) hb) (Kd.R_base ho0)) (Kd.R_base ho1)) (fun _ h_ => h_.1)); replace HO505 := aM (Kd.R_mono (Kd.R_told (Kd.R_told (Kd.R_old (by (with_reducible repeat (first | apply Kd.R_alloc | apply Kd.R_drewN | apply Kd.R_drew)); exact (rX HO505.out BK507.out)) hb) (Kd.R_base ho0)) (Kd.R_base ho1)) (fun _ h_ => h_.1)); replace BK454 := aM (blk_below (g := gb454) (o := .cells #[.bool t455, .slice Ao10 t456.length co10, .slice Ao11 t459.length co11] 36 (0, 0)) (dQ1 BK454.out NB454_507.out) hb); replace BK481 := aM (blk_below (g := gb481) (o := .cells #[.bool t474, .slice Ao58 t475.length co58, .slice Ao59 t478.length co59] 46 (0, 0)) (dQ1 BK481.out NB481_507.out) hb); replace BK507 := aM (blk_below (g := gb507) (o := .cells #[.bool t499, .slice Ao75 t500.length co75, .slice Ao76 t503.length co76] 46 (0, 0)) (dP BK507.out) hb); replace HB := hS HB.out hb; (try clear hb); (try clear ho0); (try clear ho1)) | ((with_reducible refine gate_dst (N := 11) rfl ?_); refine bE 11 #[.bool false, .slice none 0 0, .slice none 0 0] 46 ?_; intro gb516 hg w78 hbox hb; replace HO_455001 := oB HO_455001.out hb; replace HO_455002 := oB HO_455002.out hb; replace HO_482001 := oB HO_482001.out hb; replace HO_482002 := oB HO_482002.out hb; replace HO502 := oB HO502.out hb; replace HO505 := oB HO505.out hb; replace HO511 := oB HO511.out hb; replace HO514 := oB HO514.out hb; have BK516 := aM (hbox); have GE516 : Aside0 (w.heap.size ≤ gb516) := gE hg; replace HB := hS HB.out hb; have NB454_516 := nL hg BK454.out; have NB516_454 := nG hg BK454.out; replace BK454 := bB BK454.out hb; have NB481_516 := nL hg BK481.out; have NB516_481 := nG hg BK481.out; replace BK481 := bB BK481.out hb; have NB507_516 := nL hg BK507.out; have NB516_507 := nG hg BK507.out; replace BK507 := bB BK507.out hb; clear hb hbox hg; have hnb79 := NB516_454.out; have hnc79 := NB454_516.out; have hnb80 := NB516_481.out; have hnc80 := NB481_516.out; have hnb81 := NB516_507.out; have hnc81 := NB507_516.out; obtain ⟨hcz82_0, hcz82_1, hcz82_2⟩ := cz3 BK516.out; obtain ⟨hfz82_0, hfz82_1, hfz82_2⟩ := fz3 BK516.out; obtain ⟨Ao83, co83, rfl⟩ := Kd.R_slice HO511.out; obtain ⟨Ao84, co84, rfl⟩ := Kd.R_slice HO514.out; obtain ⟨hcz85_0, hcz85_1, hcz85_2⟩ := cz3 BK507.out; obtain ⟨hfz85_0, hfz85_1, hfz85_2⟩ := fz3 BK507.out; have hnb86 := NB481_454.out; have hnc86 := NB454_481.out; obtain ⟨hcz87_0, hcz87_1, hcz87_2⟩ := cz3 BK481.out; obtain ⟨hfz87_0, hfz87_1, hfz87_2⟩ := fz3 BK481.out) | ((with_reducible refine gate_callee (f := 30) rfl ?_); refine gL (some 83) Tryd.func30 #[.agg #[.bool t499, .slice Ao75 t500.length co75, .slice Ao76 t503.length co76], .agg #[.bool t508, .slice Ao83 t509.length co83, .slice Ao84 t512.length co84], .agg #[.bool t474, .slice Ao58 t475.length co58, .slice Ao59 t478.length co59]] ?_; (with_reducible refine (plumblaw07_twice.calls kj47 t499 _ _ t500 _ _ t503 t508 _ _ t509 _ _ t512 t474 _ _ t475 _ _ t478 t517 _ ?side1 (Kd.R_reads' HO502.out).2.1 ?side3 (Kd.R_reads' HO505.out).2.1 ?side5 (Kd.R_reads' HO511.out).2.1 ?side7 (Kd.R_reads' HO514.out).2.1 ?side9 ?side10 ?side11 ?side12 A68.out).mono ?_); (case side1 => refine (Kd.R_reads' (e := 26) (base := w.heap.size) (ok := fun k_ => ((((((some k_ ≠ (.slice Ao76 t503.length co76 : Value).ownBlock ∧ some k_ ≠ (.slice Ao10 t456.length co10 : Value).ownBlock) ∧ some k_ ≠ (.slice Ao11 t459.length co11 : Value).ownBlock) ∧ some k_ ≠ (.slice Ao58 t475.length co58 : Value).ownBlock) ∧ some k_ ≠ (.slice Ao59 t478.length co59 : Value).ownBlock) ∧ some k_ ≠ (.slice Ao83 t509.length co83 : Value).ownBlock) ∧ some k_ ≠ (.slice Ao84 t512.length co84 : Value).ownBlock)) (n := t500.length) (c := co75) ?_).2.2; exact (by (with_reducible repeat (first | apply Kd.R_alloc | apply Kd.R_drewN | apply Kd.R_drew)); exact (rX HO502.out BK516.out))); (case side3 => refine (Kd.R_reads' (e := 26) (base := w.heap.size) (ok := fun k_ => ((((((some k_ ≠ (.slice Ao75 t500.length co75 : Value).ownBlock ∧ some k_ ≠ (.slice Ao10 t456.length co10 : Value).ownBlock) ∧ some k_ ≠ (.slice Ao11 t459.length co11 : Value).ownBlock) ∧ some k_ ≠ (.slice Ao58 t475.length co58 : Value).ownBlock) ∧ some k_ ≠ (.slice Ao59 t478.length co59 : Value).ownBlock) ∧ some k_ ≠ (.slice Ao83 t509.length co83 : Value).ownBlock) ∧ some k_ ≠ (.slice Ao84 t512.length co84 : Value).ownBlock)) (n := t503.length) (c := co76) ?_).2.2; exact (by (with_reducible repeat (first | apply Kd.R_alloc | apply Kd.R_drewN | apply Kd.R_drew)); exact (rX HO505.out BK516.out))); (case side5 => refine (Kd.R_reads' (e := 26) (base := w.heap.size) (ok := fun k_ => ((((((some k_ ≠ (.slice Ao84 t512.length co84 : Value).ownBlock ∧ some k_ ≠ (.slice Ao10 t456.length co10 : Value).ownBlock) ∧ some k_ ≠ (.slice Ao11 t459.length co11 : Value).ownBlock) ∧ some k_ ≠ (.slice Ao58 t475.length co58 : Value).ownBlock) ∧ some k_ ≠ (.slice Ao59 t478.length co59 : Value).ownBlock) ∧ some k_ ≠ (.slice Ao75 t500.length co75 : Value).ownBlock) ∧ some k_ ≠ (.slice Ao76 t503.length co76 : Value).ownBlock)) (n := t509.length) (c := co83) ?_).2.2; exact (by (with_reducible repeat (first | apply Kd.R_alloc | apply Kd.R_drewN | apply Kd.R_drew)); exact (rX HO511.out BK516.out))); (case side7 => refine (Kd.R_reads' (e := 26) (base := w.heap.size) (ok := fun k_ => ((((((some k_ ≠ (.slice Ao83 t509.length co83 : Value).ownBlock ∧ some k_ ≠ (.slice Ao10 t456.length co10 : Value).ownBlock) ∧ some k_ ≠ (.slice Ao11 t459.length co11 : Value).ownBlock) ∧ some k_ ≠ (.slice Ao58 t475.length co58 : Value).ownBlock) ∧ some k_ ≠ (.slice Ao59 t478.length co59 : Value).ownBlock) ∧ some k_ ≠ (.slice Ao75 t500.length co75 : Value).ownBlock) ∧ some k_ ≠ (.slice Ao76 t503.length co76 : Value).ownBlock)) (n := t512.length) (c := co84) ?_).2.2; exact (by (with_reducible repeat (first | apply Kd.R_alloc | apply Kd.R_drewN | apply Kd.R_drew)); exact (rX HO514.out BK516.out))); (case side9 => refine (Kd.R_reads' (e := 26) (base := w.heap.size) (ok := fun k_ => (((((some k_ ≠ (.slice Ao10 t456.length co10 : Value).ownBlock ∧ (some k_ ≠ (.slice Ao11 t459.length co11 : Value).ownBlock ∧ some k_ ≠ (.slice Ao59 t478.length co59 : Value).ownBlock)) ∧ some k_ ≠ (.slice Ao75 t500.length co75 : Value).ownBlock) ∧ some k_ ≠ (.slice Ao76 t503.length co76 : Value).ownBlock) ∧ some k_ ≠ (.slice Ao83 t509.length co83 : Value).ownBlock) ∧ some k_ ≠ (.slice Ao84 t512.length co84 : Value).ownBlock)) (n := t475.length) (c := co58) ?_).2.2; exact (by (with_reducible repeat (first | apply Kd.R_alloc | apply Kd.R_drewN | apply Kd.R_drew)); exact (rX HO_482001.out BK516.out))); (case side10 => exact (Kd.R_reads' HO_482001.out).2.1); (case side11 => refine (Kd.R_reads' (e := 26) (base := w.heap.size) (ok := fun k_ => (((((some k_ ≠ (.slice Ao10 t456.length co10 : Value).ownBlock ∧ (some k_ ≠ (.slice Ao11 t459.length co11 : Value).ownBlock ∧ some k_ ≠ (.slice Ao58 t475.length co58 : Value).ownBlock)) ∧ some k_ ≠ (.slice Ao75 t500.length co75 : Value).ownBlock) ∧ some k_ ≠ (.slice Ao76 t503.length co76 : Value).ownBlock) ∧ some k_ ≠ (.slice Ao83 t509.length co83 : Value).ownBlock) ∧ some k_ ≠ (.slice Ao84 t512.length co84 : Value).ownBlock)) (n := t478.length) (c := co59) ?_).2.2; exact (by (with_reducible repeat (first | apply Kd.R_alloc | apply Kd.R_drewN | apply Kd.R_drew)); exact (rX HO_482002.out BK516.out))); (case side12 => exact (Kd.R_reads' HO_482002.out).2.1); rintro e w88 ⟨rfl, hb⟩; refine ⟨_, rfl, ?_⟩; replace HO_455001 := oX HO_455001.out BK516.out hb; replace HO_455002 := oX HO_455002.out BK516.out hb; replace HO_482001 := oX HO_482001.out BK516.out hb; replace HO_482002 := oX HO_482002.out BK516.out hb; replace HO502 := oX HO502.out BK516.out hb; replace HO505 := oX HO505.out BK516.out hb; replace HO511 := oX HO511.out BK516.out hb; replace HO514 := oX HO514.out BK516.out hb; replace BK454 := aM (blk_below (g := gb454) (o := .cells #[.bool t455, .slice Ao10 t456.length co10, .slice Ao11 t459.length co11] 36 (0, 0)) (dQ1 BK454.out NB454_516.out) hb); replace BK481 := aM (blk_below (g := gb481) (o := .cells #[.bool t474, .slice Ao58 t475.length co58, .slice Ao59 t478.length co59] 46 (0, 0)) (dQ1 BK481.out NB481_516.out) hb); replace BK507 := aM (blk_below (g := gb507) (o := .cells #[.bool t499, .slice Ao75 t500.length co75, .slice Ao76 t503.length co76] 46 (0, 0)) (dQ1 BK507.out NB507_516.out) hb); replace BK516 := aM (blk_below (g := gb516) (o := .cells #[.bool t508, .slice Ao83 t509.length co83, .slice Ao84 t512.length co84] 46 (0, 0)) (dP BK516.out) hb); replace HB := hS HB.out hb; (try clear hb)))
        (try simp only [Act.put, List.setIfInBounds_toArray, List.set_cons_zero, List.set_cons_succ])
        go_cut [106] (fun v106 wc => ∃ (kq : Nat) (x106_68 : Bool), v106 = .bool x106_68 ∧ Aside0 (plumblaw07_NearNearest.j2 kq (Go.bits .andNot .u64 t472 9223372036854775808) x106_68 t474 t475 t478 t499 t500 t503 = some r) ∧ Aside0 (kq ≤ kj47) ∧ Aside0 (Kd.R (Kd.int .u64) 26 wc w.heap.size (fun k_ => some k_ ≠ ((.slice Ao11 t459.length co11) : Value).ownBlock ∧ some k_ ≠ ((.slice Ao58 t475.length co58) : Value).ownBlock ∧ some k_ ≠ ((.slice Ao59 t478.length co59) : Value).ownBlock ∧ some k_ ≠ ((.slice Ao75 t500.length co75) : Value).ownBlock ∧ some k_ ≠ ((.slice Ao76 t503.length co76) : Value).ownBlock ∧ some k_ ≠ ((.slice Ao83 t509.length co83) : Value).ownBlock ∧ some k_ ≠ ((.slice Ao84 t512.length co84) : Value).ownBlock) (.slice Ao10 t456.length co10) t456) ∧ Aside0 (Kd.R (Kd.int .u64) 26 wc w.heap.size (fun k_ => some k_ ≠ ((.slice Ao10 t456.length co10) : Value).ownBlock ∧ some k_ ≠ ((.slice Ao58 t475.length co58) : Value).ownBlock ∧ some k_ ≠ ((.slice Ao59 t478.length co59) : Value).ownBlock ∧ some k_ ≠ ((.slice Ao75 t500.length co75) : Value).ownBlock ∧ some k_ ≠ ((.slice Ao76 t503.length co76) : Value).ownBlock ∧ some k_ ≠ ((.slice Ao83 t509.length co83) : Value).ownBlock ∧ some k_ ≠ ((.slice Ao84 t512.length co84) : Value).ownBlock) (.slice Ao11 t459.length co11) t459) ∧ Aside0 (Kd.R (Kd.int .u64) 26 wc w.heap.size (fun k_ => some k_ ≠ ((.slice Ao10 t456.length co10) : Value).ownBlock ∧ some k_ ≠ ((.slice Ao11 t459.length co11) : Value).ownBlock ∧ some k_ ≠ ((.slice Ao59 t478.length co59) : Value).ownBlock ∧ some k_ ≠ ((.slice Ao75 t500.length co75) : Value).ownBlock ∧ some k_ ≠ ((.slice Ao76 t503.length co76) : Value).ownBlock ∧ some k_ ≠ ((.slice Ao83 t509.length co83) : Value).ownBlock ∧ some k_ ≠ ((.slice Ao84 t512.length co84) : Value).ownBlock) (.slice Ao58 t475.length co58) t475) ∧ Aside0 (Kd.R (Kd.int .u64) 26 wc w.heap.size (fun k_ => some k_ ≠ ((.slice Ao10 t456.length co10) : Value).ownBlock ∧ some k_ ≠ ((.slice Ao11 t459.length co11) : Value).ownBlock ∧ some k_ ≠ ((.slice Ao58 t475.length co58) : Value).ownBlock ∧ some k_ ≠ ((.slice Ao75 t500.length co75) : Value).ownBlock ∧ some k_ ≠ ((.slice Ao76 t503.length co76) : Value).ownBlock ∧ some k_ ≠ ((.slice Ao83 t509.length co83) : Value).ownBlock ∧ some k_ ≠ ((.slice Ao84 t512.length co84) : Value).ownBlock) (.slice Ao59 t478.length co59) t478) ∧ Aside0 (Kd.R (Kd.int .u64) 26 wc w.heap.size (fun k_ => some k_ ≠ ((.slice Ao10 t456.length co10) : Value).ownBlock ∧ some k_ ≠ ((.slice Ao11 t459.length co11) : Value).ownBlock ∧ some k_ ≠ ((.slice Ao58 t475.length co58) : Value).ownBlock ∧ some k_ ≠ ((.slice Ao59 t478.length co59) : Value).ownBlock ∧ some k_ ≠ ((.slice Ao76 t503.length co76) : Value).ownBlock ∧ some k_ ≠ ((.slice Ao83 t509.length co83) : Value).ownBlock ∧ some k_ ≠ ((.slice Ao84 t512.length co84) : Value).ownBlock) (.slice Ao75 t500.length co75) t500) ∧ Aside0 (Kd.R (Kd.int .u64) 26 wc w.heap.size (fun k_ => some k_ ≠ ((.slice Ao10 t456.length co10) : Value).ownBlock ∧ some k_ ≠ ((.slice Ao11 t459.length co11) : Value).ownBlock ∧ some k_ ≠ ((.slice Ao58 t475.length co58) : Value).ownBlock ∧ some k_ ≠ ((.slice Ao59 t478.length co59) : Value).ownBlock ∧ some k_ ≠ ((.slice Ao75 t500.length co75) : Value).ownBlock ∧ some k_ ≠ ((.slice Ao83 t509.length co83) : Value).ownBlock ∧ some k_ ≠ ((.slice Ao84 t512.length co84) : Value).ownBlock) (.slice Ao76 t503.length co76) t503) ∧ Aside0 (Kd.R (Kd.int .u64) 26 wc w.heap.size (fun k_ => some k_ ≠ ((.slice Ao10 t456.length co10) : Value).ownBlock ∧ some k_ ≠ ((.slice Ao11 t459.length co11) : Value).ownBlock ∧ some k_ ≠ ((.slice Ao58 t475.length co58) : Value).ownBlock ∧ some k_ ≠ ((.slice Ao59 t478.length co59) : Value).ownBlock ∧ some k_ ≠ ((.slice Ao75 t500.length co75) : Value).ownBlock ∧ some k_ ≠ ((.slice Ao76 t503.length co76) : Value).ownBlock ∧ some k_ ≠ ((.slice Ao84 t512.length co84) : Value).ownBlock) (.slice Ao83 t509.length co83) t509) ∧ Aside0 (Kd.R (Kd.int .u64) 26 wc w.heap.size (fun k_ => some k_ ≠ ((.slice Ao10 t456.length co10) : Value).ownBlock ∧ some k_ ≠ ((.slice Ao11 t459.length co11) : Value).ownBlock ∧ some k_ ≠ ((.slice Ao58 t475.length co58) : Value).ownBlock ∧ some k_ ≠ ((.slice Ao59 t478.length co59) : Value).ownBlock ∧ some k_ ≠ ((.slice Ao75 t500.length co75) : Value).ownBlock ∧ some k_ ≠ ((.slice Ao76 t503.length co76) : Value).ownBlock ∧ some k_ ≠ ((.slice Ao83 t509.length co83) : Value).ownBlock) (.slice Ao84 t512.length co84) t512) ∧ Aside0 (wc.heap[gb454]? = some (.cells #[.bool t455, (.slice Ao10 t456.length co10), (.slice Ao11 t459.length co11)] 36 (0, 0))) ∧ Aside0 (wc.heap[gb481]? = some (.cells #[.bool t474, (.slice Ao58 t475.length co58), (.slice Ao59 t478.length co59)] 46 (0, 0))) ∧ Aside0 (wc.heap[gb507]? = some (.cells #[.bool t499, (.slice Ao75 t500.length co75), (.slice Ao76 t503.length co76)] 46 (0, 0))) ∧ Aside0 (wc.heap[gb516]? = some (.cells #[.bool t508, (.slice Ao83 t509.length co83), (.slice Ao84 t512.length co84)] 46 (0, 0))) ∧ Aside0 (Below w.heap.size w wc))
        case first =>
         have H := HC69.out
         clear HC69
         by_cases c89 : t506 = true
         ·subst c89
          rw [if_pos rfl] at H
          (try dsimp only at H)
          by_cases c90 : t515 = true
          ·subst c90
           rw [if_pos rfl] at H
           (try dsimp only at H)
           by_cases c91 : t517 > 0
           ·rw [if_pos c91] at H
            have c91b0 : decide (0 < t517) = true := decide_eq_true c91
            clear c91
            (first | rw [c91b0] | (simp only [i64_w, i32_w]; rw [c91b0]) | skip)
            have H' := aM H
            clear H
            go_wp2
            go_meet
            case rel => exact ⟨_, (true), dF, H', ⟨by have := HJ2.out; have := HJ47.out; first | omega | exact Nat.le_refl _⟩, ⟨by (with_reducible repeat (first | apply Kd.R_alloc | apply Kd.R_drewN | apply Kd.R_drew)); exact Kd.R_mono HO_455001.out (fun _ hk => ⟨hk.1.1.1.1.1, ⟨hk.1.1.1.1.2.1, ⟨hk.1.1.1.1.2.2, ⟨hk.1.1.1.2, ⟨hk.1.1.2, ⟨hk.1.2, hk.2⟩⟩⟩⟩⟩⟩)⟩, ⟨by (with_reducible repeat (first | apply Kd.R_alloc | apply Kd.R_drewN | apply Kd.R_drew)); exact Kd.R_mono HO_455002.out (fun _ hk => ⟨hk.1.1.1.1.1, ⟨hk.1.1.1.1.2.1, ⟨hk.1.1.1.1.2.2, ⟨hk.1.1.1.2, ⟨hk.1.1.2, ⟨hk.1.2, hk.2⟩⟩⟩⟩⟩⟩)⟩, ⟨by (with_reducible repeat (first | apply Kd.R_alloc | apply Kd.R_drewN | apply Kd.R_drew)); exact Kd.R_mono HO_482001.out (fun _ hk => ⟨hk.1.1.1.1.1, ⟨hk.1.1.1.1.2.1, ⟨hk.1.1.1.1.2.2, ⟨hk.1.1.1.2, ⟨hk.1.1.2, ⟨hk.1.2, hk.2⟩⟩⟩⟩⟩⟩)⟩, ⟨by (with_reducible repeat (first | apply Kd.R_alloc | apply Kd.R_drewN | apply Kd.R_drew)); exact Kd.R_mono HO_482002.out (fun _ hk => ⟨hk.1.1.1.1.1, ⟨hk.1.1.1.1.2.1, ⟨hk.1.1.1.1.2.2, ⟨hk.1.1.1.2, ⟨hk.1.1.2, ⟨hk.1.2, hk.2⟩⟩⟩⟩⟩⟩)⟩, ⟨by (with_reducible repeat (first | apply Kd.R_alloc | apply Kd.R_drewN | apply Kd.R_drew)); exact Kd.R_mono HO502.out (fun _ hk => ⟨hk.1.1.1.1.1.2, ⟨hk.1.1.1.1.2, ⟨hk.1.1.1.2, ⟨hk.1.1.2, ⟨hk.1.1.1.1.1.1, ⟨hk.1.2, hk.2⟩⟩⟩⟩⟩⟩)⟩, ⟨by (with_reducible repeat (first | apply Kd.R_alloc | apply Kd.R_drewN | apply Kd.R_drew)); exact Kd.R_mono HO505.out (fun _ hk => ⟨hk.1.1.1.1.1.2, ⟨hk.1.1.1.1.2, ⟨hk.1.1.1.2, ⟨hk.1.1.2, ⟨hk.1.1.1.1.1.1, ⟨hk.1.2, hk.2⟩⟩⟩⟩⟩⟩)⟩, ⟨by (with_reducible repeat (first | apply Kd.R_alloc | apply Kd.R_drewN | apply Kd.R_drew)); exact Kd.R_mono HO511.out (fun _ hk => ⟨hk.1.1.1.1.1.2, ⟨hk.1.1.1.1.2, ⟨hk.1.1.1.2, ⟨hk.1.1.2, ⟨hk.1.2, ⟨hk.2, hk.1.1.1.1.1.1⟩⟩⟩⟩⟩⟩)⟩, ⟨by (with_reducible repeat (first | apply Kd.R_alloc | apply Kd.R_drewN | apply Kd.R_drew)); exact Kd.R_mono HO514.out (fun _ hk => ⟨hk.1.1.1.1.1.2, ⟨hk.1.1.1.1.2, ⟨hk.1.1.1.2, ⟨hk.1.1.2, ⟨hk.1.2, ⟨hk.2, hk.1.1.1.1.1.1⟩⟩⟩⟩⟩⟩)⟩, ⟨dK BK454.out⟩, ⟨dK BK481.out⟩, ⟨dK BK507.out⟩, ⟨dK BK516.out⟩, ⟨eB⟩⟩
           ·rw [if_neg c91] at H
            have c91b0 : decide (0 < t517) = false := decide_eq_false c91
            clear c91
            (first | rw [c91b0] | (simp only [i64_w, i32_w]; rw [c91b0]) | skip)
            by_cases c92 : t517 = 0
            ·rw [if_pos c92] at H
             have c92b0 : (t517 == 0) = true := beq_iff_eq.mpr c92
             have c92b1 : (t517 != 0) = false := bne_eq_false_iff_eq.mpr c92
             clear c92
             by_cases c93 : (Go.bits .and .u64 (Go.bits .andNot .u64 t472 9223372036854775808) 1) = 1
             ·rw [if_pos c93] at H
              have c93b0 : ((Go.bits .and .u64 (Go.bits .andNot .u64 t472 9223372036854775808) 1) == 1) = true := beq_iff_eq.mpr c93
              have c93b1 : ((Go.bits .and .u64 (Go.bits .andNot .u64 t472 9223372036854775808) 1) != 1) = false := bne_eq_false_iff_eq.mpr c93
              clear c93
              have H' := aM H
              clear H
              go_wp2
              go_meet
              case rel => exact ⟨_, (true), dF, H', ⟨by have := HJ2.out; have := HJ47.out; first | omega | exact Nat.le_refl _⟩, ⟨by (with_reducible repeat (first | apply Kd.R_alloc | apply Kd.R_drewN | apply Kd.R_drew)); exact Kd.R_mono HO_455001.out (fun _ hk => ⟨hk.1.1.1.1.1, ⟨hk.1.1.1.1.2.1, ⟨hk.1.1.1.1.2.2, ⟨hk.1.1.1.2, ⟨hk.1.1.2, ⟨hk.1.2, hk.2⟩⟩⟩⟩⟩⟩)⟩, ⟨by (with_reducible repeat (first | apply Kd.R_alloc | apply Kd.R_drewN | apply Kd.R_drew)); exact Kd.R_mono HO_455002.out (fun _ hk => ⟨hk.1.1.1.1.1, ⟨hk.1.1.1.1.2.1, ⟨hk.1.1.1.1.2.2, ⟨hk.1.1.1.2, ⟨hk.1.1.2, ⟨hk.1.2, hk.2⟩⟩⟩⟩⟩⟩)⟩, ⟨by (with_reducible repeat (first | apply Kd.R_alloc | apply Kd.R_drewN | apply Kd.R_drew)); exact Kd.R_mono HO_482001.out (fun _ hk => ⟨hk.1.1.1.1.1, ⟨hk.1.1.1.1.2.1, ⟨hk.1.1.1.1.2.2, ⟨hk.1.1.1.2, ⟨hk.1.1.2, ⟨hk.1.2, hk.2⟩⟩⟩⟩⟩⟩)⟩, ⟨by (with_reducible repeat (first | apply Kd.R_alloc | apply Kd.R_drewN | apply Kd.R_drew)); exact Kd.R_mono HO_482002.out (fun _ hk => ⟨hk.1.1.1.1.1, ⟨hk.1.1.1.1.2.1, ⟨hk.1.1.1.1.2.2, ⟨hk.1.1.1.2, ⟨hk.1.1.2, ⟨hk.1.2, hk.2⟩⟩⟩⟩⟩⟩)⟩, ⟨by (with_reducible repeat (first | apply Kd.R_alloc | apply Kd.R_drewN | apply Kd.R_drew)); exact Kd.R_mono HO502.out (fun _ hk => ⟨hk.1.1.1.1.1.2, ⟨hk.1.1.1.1.2, ⟨hk.1.1.1.2, ⟨hk.1.1.2, ⟨hk.1.1.1.1.1.1, ⟨hk.1.2, hk.2⟩⟩⟩⟩⟩⟩)⟩, ⟨by (with_reducible repeat (first | apply Kd.R_alloc | apply Kd.R_drewN | apply Kd.R_drew)); exact Kd.R_mono HO505.out (fun _ hk => ⟨hk.1.1.1.1.1.2, ⟨hk.1.1.1.1.2, ⟨hk.1.1.1.2, ⟨hk.1.1.2, ⟨hk.1.1.1.1.1.1, ⟨hk.1.2, hk.2⟩⟩⟩⟩⟩⟩)⟩, ⟨by (with_reducible repeat (first | apply Kd.R_alloc | apply Kd.R_drewN | apply Kd.R_drew)); exact Kd.R_mono HO511.out (fun _ hk => ⟨hk.1.1.1.1.1.2, ⟨hk.1.1.1.1.2, ⟨hk.1.1.1.2, ⟨hk.1.1.2, ⟨hk.1.2, ⟨hk.2, hk.1.1.1.1.1.1⟩⟩⟩⟩⟩⟩)⟩, ⟨by (with_reducible repeat (first | apply Kd.R_alloc | apply Kd.R_drewN | apply Kd.R_drew)); exact Kd.R_mono HO514.out (fun _ hk => ⟨hk.1.1.1.1.1.2, ⟨hk.1.1.1.1.2, ⟨hk.1.1.1.2, ⟨hk.1.1.2, ⟨hk.1.2, ⟨hk.2, hk.1.1.1.1.1.1⟩⟩⟩⟩⟩⟩)⟩, ⟨dK BK454.out⟩, ⟨dK BK481.out⟩, ⟨dK BK507.out⟩, ⟨dK BK516.out⟩, ⟨eB⟩⟩
             ·rw [if_neg c93] at H
              have c93b0 : ((Go.bits .and .u64 (Go.bits .andNot .u64 t472 9223372036854775808) 1) == 1) = false := beq_eq_false_iff_ne.mpr c93
              have c93b1 : ((Go.bits .and .u64 (Go.bits .andNot .u64 t472 9223372036854775808) 1) != 1) = true := bne_iff_ne.mpr c93
              have H' := aM H
              clear H
              go_wp2
              go_meet
              case rel => exact ⟨_, (((Go.bits .andNot .u64 t472 9223372036854775808) == 9218868437227405311)), dF, H', ⟨by have := HJ2.out; have := HJ47.out; first | omega | exact Nat.le_refl _⟩, ⟨by (with_reducible repeat (first | apply Kd.R_alloc | apply Kd.R_drewN | apply Kd.R_drew)); exact Kd.R_mono HO_455001.out (fun _ hk => ⟨hk.1.1.1.1.1, ⟨hk.1.1.1.1.2.1, ⟨hk.1.1.1.1.2.2, ⟨hk.1.1.1.2, ⟨hk.1.1.2, ⟨hk.1.2, hk.2⟩⟩⟩⟩⟩⟩)⟩, ⟨by (with_reducible repeat (first | apply Kd.R_alloc | apply Kd.R_drewN | apply Kd.R_drew)); exact Kd.R_mono HO_455002.out (fun _ hk => ⟨hk.1.1.1.1.1, ⟨hk.1.1.1.1.2.1, ⟨hk.1.1.1.1.2.2, ⟨hk.1.1.1.2, ⟨hk.1.1.2, ⟨hk.1.2, hk.2⟩⟩⟩⟩⟩⟩)⟩, ⟨by (with_reducible repeat (first | apply Kd.R_alloc | apply Kd.R_drewN | apply Kd.R_drew)); exact Kd.R_mono HO_482001.out (fun _ hk => ⟨hk.1.1.1.1.1, ⟨hk.1.1.1.1.2.1, ⟨hk.1.1.1.1.2.2, ⟨hk.1.1.1.2, ⟨hk.1.1.2, ⟨hk.1.2, hk.2⟩⟩⟩⟩⟩⟩)⟩, ⟨by (with_reducible repeat (first | apply Kd.R_alloc | apply Kd.R_drewN | apply Kd.R_drew)); exact Kd.R_mono HO_482002.out (fun _ hk => ⟨hk.1.1.1.1.1, ⟨hk.1.1.1.1.2.1, ⟨hk.1.1.1.1.2.2, ⟨hk.1.1.1.2, ⟨hk.1.1.2, ⟨hk.1.2, hk.2⟩⟩⟩⟩⟩⟩)⟩, ⟨by (with_reducible repeat (first | apply Kd.R_alloc | apply Kd.R_drewN | apply Kd.R_drew)); exact Kd.R_mono HO502.out (fun _ hk => ⟨hk.1.1.1.1.1.2, ⟨hk.1.1.1.1.2, ⟨hk.1.1.1.2, ⟨hk.1.1.2, ⟨hk.1.1.1.1.1.1, ⟨hk.1.2, hk.2⟩⟩⟩⟩⟩⟩)⟩, ⟨by (with_reducible repeat (first | apply Kd.R_alloc | apply Kd.R_drewN | apply Kd.R_drew)); exact Kd.R_mono HO505.out (fun _ hk => ⟨hk.1.1.1.1.1.2, ⟨hk.1.1.1.1.2, ⟨hk.1.1.1.2, ⟨hk.1.1.2, ⟨hk.1.1.1.1.1.1, ⟨hk.1.2, hk.2⟩⟩⟩⟩⟩⟩)⟩, ⟨by (with_reducible repeat (first | apply Kd.R_alloc | apply Kd.R_drewN | apply Kd.R_drew)); exact Kd.R_mono HO511.out (fun _ hk => ⟨hk.1.1.1.1.1.2, ⟨hk.1.1.1.1.2, ⟨hk.1.1.1.2, ⟨hk.1.1.2, ⟨hk.1.2, ⟨hk.2, hk.1.1.1.1.1.1⟩⟩⟩⟩⟩⟩)⟩, ⟨by (with_reducible repeat (first | apply Kd.R_alloc | apply Kd.R_drewN | apply Kd.R_drew)); exact Kd.R_mono HO514.out (fun _ hk => ⟨hk.1.1.1.1.1.2, ⟨hk.1.1.1.1.2, ⟨hk.1.1.1.2, ⟨hk.1.1.2, ⟨hk.1.2, ⟨hk.2, hk.1.1.1.1.1.1⟩⟩⟩⟩⟩⟩)⟩, ⟨dK BK454.out⟩, ⟨dK BK481.out⟩, ⟨dK BK507.out⟩, ⟨dK BK516.out⟩, ⟨eB⟩⟩
            ·rw [if_neg c92] at H
             have c92b0 : (t517 == 0) = false := beq_eq_false_iff_ne.mpr c92
             have c92b1 : (t517 != 0) = true := bne_iff_ne.mpr c92
             have H' := aM H
             clear H
             go_wp2
             go_meet
             case rel => exact ⟨_, (false), dF, H', ⟨by have := HJ2.out; have := HJ47.out; first | omega | exact Nat.le_refl _⟩, ⟨by (with_reducible repeat (first | apply Kd.R_alloc | apply Kd.R_drewN | apply Kd.R_drew)); exact Kd.R_mono HO_455001.out (fun _ hk => ⟨hk.1.1.1.1.1, ⟨hk.1.1.1.1.2.1, ⟨hk.1.1.1.1.2.2, ⟨hk.1.1.1.2, ⟨hk.1.1.2, ⟨hk.1.2, hk.2⟩⟩⟩⟩⟩⟩)⟩, ⟨by (with_reducible repeat (first | apply Kd.R_alloc | apply Kd.R_drewN | apply Kd.R_drew)); exact Kd.R_mono HO_455002.out (fun _ hk => ⟨hk.1.1.1.1.1, ⟨hk.1.1.1.1.2.1, ⟨hk.1.1.1.1.2.2, ⟨hk.1.1.1.2, ⟨hk.1.1.2, ⟨hk.1.2, hk.2⟩⟩⟩⟩⟩⟩)⟩, ⟨by (with_reducible repeat (first | apply Kd.R_alloc | apply Kd.R_drewN | apply Kd.R_drew)); exact Kd.R_mono HO_482001.out (fun _ hk => ⟨hk.1.1.1.1.1, ⟨hk.1.1.1.1.2.1, ⟨hk.1.1.1.1.2.2, ⟨hk.1.1.1.2, ⟨hk.1.1.2, ⟨hk.1.2, hk.2⟩⟩⟩⟩⟩⟩)⟩, ⟨by (with_reducible repeat (first | apply Kd.R_alloc | apply Kd.R_drewN | apply Kd.R_drew)); exact Kd.R_mono HO_482002.out (fun _ hk => ⟨hk.1.1.1.1.1, ⟨hk.1.1.1.1.2.1, ⟨hk.1.1.1.1.2.2, ⟨hk.1.1.1.2, ⟨hk.1.1.2, ⟨hk.1.2, hk.2⟩⟩⟩⟩⟩⟩)⟩, ⟨by (with_reducible repeat (first | apply Kd.R_alloc | apply Kd.R_drewN | apply Kd.R_drew)); exact Kd.R_mono HO502.out (fun _ hk => ⟨hk.1.1.1.1.1.2, ⟨hk.1.1.1.1.2, ⟨hk.1.1.1.2, ⟨hk.1.1.2, ⟨hk.1.1.1.1.1.1, ⟨hk.1.2, hk.2⟩⟩⟩⟩⟩⟩)⟩, ⟨by (with_reducible repeat (first | apply Kd.R_alloc | apply Kd.R_drewN | apply Kd.R_drew)); exact Kd.R_mono HO505.out (fun _ hk => ⟨hk.1.1.1.1.1.2, ⟨hk.1.1.1.1.2, ⟨hk.1.1.1.2, ⟨hk.1.1.2, ⟨hk.1.1.1.1.1.1, ⟨hk.1.2, hk.2⟩⟩⟩⟩⟩⟩)⟩, ⟨by (with_reducible repeat (first | apply Kd.R_alloc | apply Kd.R_drewN | apply Kd.R_drew)); exact Kd.R_mono HO511.out (fun _ hk => ⟨hk.1.1.1.1.1.2, ⟨hk.1.1.1.1.2, ⟨hk.1.1.1.2, ⟨hk.1.1.2, ⟨hk.1.2, ⟨hk.2, hk.1.1.1.1.1.1⟩⟩⟩⟩⟩⟩)⟩, ⟨by (with_reducible repeat (first | apply Kd.R_alloc | apply Kd.R_drewN | apply Kd.R_drew)); exact Kd.R_mono HO514.out (fun _ hk => ⟨hk.1.1.1.1.1.2, ⟨hk.1.1.1.1.2, ⟨hk.1.1.1.2, ⟨hk.1.1.2, ⟨hk.1.2, ⟨hk.2, hk.1.1.1.1.1.1⟩⟩⟩⟩⟩⟩)⟩, ⟨dK BK454.out⟩, ⟨dK BK481.out⟩, ⟨dK BK507.out⟩, ⟨dK BK516.out⟩, ⟨eB⟩⟩
          ·replace c90 := Bool.eq_false_iff.mpr c90
           subst c90
           rw [if_neg (show ¬ (false = true) by decide)] at H
           (try dsimp only at H)
           have H' := aM H
           clear H
           go_wp2
           go_meet
           case rel => exact ⟨_, (true), dF, H', ⟨by have := HJ2.out; have := HJ47.out; first | omega | exact Nat.le_refl _⟩, ⟨by (with_reducible repeat (first | apply Kd.R_alloc | apply Kd.R_drewN | apply Kd.R_drew)); exact Kd.R_mono HO_455001.out (fun _ hk => ⟨hk.1.1.1.1.1, ⟨hk.1.1.1.1.2.1, ⟨hk.1.1.1.1.2.2, ⟨hk.1.1.1.2, ⟨hk.1.1.2, ⟨hk.1.2, hk.2⟩⟩⟩⟩⟩⟩)⟩, ⟨by (with_reducible repeat (first | apply Kd.R_alloc | apply Kd.R_drewN | apply Kd.R_drew)); exact Kd.R_mono HO_455002.out (fun _ hk => ⟨hk.1.1.1.1.1, ⟨hk.1.1.1.1.2.1, ⟨hk.1.1.1.1.2.2, ⟨hk.1.1.1.2, ⟨hk.1.1.2, ⟨hk.1.2, hk.2⟩⟩⟩⟩⟩⟩)⟩, ⟨by (with_reducible repeat (first | apply Kd.R_alloc | apply Kd.R_drewN | apply Kd.R_drew)); exact Kd.R_mono HO_482001.out (fun _ hk => ⟨hk.1.1.1.1.1, ⟨hk.1.1.1.1.2.1, ⟨hk.1.1.1.1.2.2, ⟨hk.1.1.1.2, ⟨hk.1.1.2, ⟨hk.1.2, hk.2⟩⟩⟩⟩⟩⟩)⟩, ⟨by (with_reducible repeat (first | apply Kd.R_alloc | apply Kd.R_drewN | apply Kd.R_drew)); exact Kd.R_mono HO_482002.out (fun _ hk => ⟨hk.1.1.1.1.1, ⟨hk.1.1.1.1.2.1, ⟨hk.1.1.1.1.2.2, ⟨hk.1.1.1.2, ⟨hk.1.1.2, ⟨hk.1.2, hk.2⟩⟩⟩⟩⟩⟩)⟩, ⟨by (with_reducible repeat (first | apply Kd.R_alloc | apply Kd.R_drewN | apply Kd.R_drew)); exact Kd.R_mono HO502.out (fun _ hk => ⟨hk.1.1.1.1.1.2, ⟨hk.1.1.1.1.2, ⟨hk.1.1.1.2, ⟨hk.1.1.2, ⟨hk.1.1.1.1.1.1, ⟨hk.1.2, hk.2⟩⟩⟩⟩⟩⟩)⟩, ⟨by (with_reducible repeat (first | apply Kd.R_alloc | apply Kd.R_drewN | apply Kd.R_drew)); exact Kd.R_mono HO505.out (fun _ hk => ⟨hk.1.1.1.1.1.2, ⟨hk.1.1.1.1.2, ⟨hk.1.1.1.2, ⟨hk.1.1.2, ⟨hk.1.1.1.1.1.1, ⟨hk.1.2, hk.2⟩⟩⟩⟩⟩⟩)⟩, ⟨by (with_reducible repeat (first | apply Kd.R_alloc | apply Kd.R_drewN | apply Kd.R_drew)); exact Kd.R_mono HO511.out (fun _ hk => ⟨hk.1.1.1.1.1.2, ⟨hk.1.1.1.1.2, ⟨hk.1.1.1.2, ⟨hk.1.1.2, ⟨hk.1.2, ⟨hk.2, hk.1.1.1.1.1.1⟩⟩⟩⟩⟩⟩)⟩, ⟨by (with_reducible repeat (first | apply Kd.R_alloc | apply Kd.R_drewN | apply Kd.R_drew)); exact Kd.R_mono HO514.out (fun _ hk => ⟨hk.1.1.1.1.1.2, ⟨hk.1.1.1.1.2, ⟨hk.1.1.1.2, ⟨hk.1.1.2, ⟨hk.1.2, ⟨hk.2, hk.1.1.1.1.1.1⟩⟩⟩⟩⟩⟩)⟩, ⟨dK BK454.out⟩, ⟨dK BK481.out⟩, ⟨dK BK507.out⟩, ⟨dK BK516.out⟩, ⟨eB⟩⟩
         ·replace c89 := Bool.eq_false_iff.mpr c89
          subst c89
          rw [if_neg (show ¬ (false = true) by decide)] at H
          (try dsimp only at H)
          have H' := aM H
          clear H
          go_wp2
          go_meet
          case rel => exact ⟨_, (true), dF, H', ⟨by have := HJ2.out; have := HJ47.out; first | omega | exact Nat.le_refl _⟩, ⟨by (with_reducible repeat (first | apply Kd.R_alloc | apply Kd.R_drewN | apply Kd.R_drew)); exact Kd.R_mono HO_455001.out (fun _ hk => ⟨hk.1.1.1.1.1, ⟨hk.1.1.1.1.2.1, ⟨hk.1.1.1.1.2.2, ⟨hk.1.1.1.2, ⟨hk.1.1.2, ⟨hk.1.2, hk.2⟩⟩⟩⟩⟩⟩)⟩, ⟨by (with_reducible repeat (first | apply Kd.R_alloc | apply Kd.R_drewN | apply Kd.R_drew)); exact Kd.R_mono HO_455002.out (fun _ hk => ⟨hk.1.1.1.1.1, ⟨hk.1.1.1.1.2.1, ⟨hk.1.1.1.1.2.2, ⟨hk.1.1.1.2, ⟨hk.1.1.2, ⟨hk.1.2, hk.2⟩⟩⟩⟩⟩⟩)⟩, ⟨by (with_reducible repeat (first | apply Kd.R_alloc | apply Kd.R_drewN | apply Kd.R_drew)); exact Kd.R_mono HO_482001.out (fun _ hk => ⟨hk.1.1.1.1.1, ⟨hk.1.1.1.1.2.1, ⟨hk.1.1.1.1.2.2, ⟨hk.1.1.1.2, ⟨hk.1.1.2, ⟨hk.1.2, hk.2⟩⟩⟩⟩⟩⟩)⟩, ⟨by (with_reducible repeat (first | apply Kd.R_alloc | apply Kd.R_drewN | apply Kd.R_drew)); exact Kd.R_mono HO_482002.out (fun _ hk => ⟨hk.1.1.1.1.1, ⟨hk.1.1.1.1.2.1, ⟨hk.1.1.1.1.2.2, ⟨hk.1.1.1.2, ⟨hk.1.1.2, ⟨hk.1.2, hk.2⟩⟩⟩⟩⟩⟩)⟩, ⟨by (with_reducible repeat (first | apply Kd.R_alloc | apply Kd.R_drewN | apply Kd.R_drew)); exact Kd.R_mono HO502.out (fun _ hk => ⟨hk.1.1.1.1.1.2, ⟨hk.1.1.1.1.2, ⟨hk.1.1.1.2, ⟨hk.1.1.2, ⟨hk.1.1.1.1.1.1, ⟨hk.1.2, hk.2⟩⟩⟩⟩⟩⟩)⟩, ⟨by (with_reducible repeat (first | apply Kd.R_alloc | apply Kd.R_drewN | apply Kd.R_drew)); exact Kd.R_mono HO505.out (fun _ hk => ⟨hk.1.1.1.1.1.2, ⟨hk.1.1.1.1.2, ⟨hk.1.1.1.2, ⟨hk.1.1.2, ⟨hk.1.1.1.1.1.1, ⟨hk.1.2, hk.2⟩⟩⟩⟩⟩⟩)⟩, ⟨by (with_reducible repeat (first | apply Kd.R_alloc | apply Kd.R_drewN | apply Kd.R_drew)); exact Kd.R_mono HO511.out (fun _ hk => ⟨hk.1.1.1.1.1.2, ⟨hk.1.1.1.1.2, ⟨hk.1.1.1.2, ⟨hk.1.1.2, ⟨hk.1.2, ⟨hk.2, hk.1.1.1.1.1.1⟩⟩⟩⟩⟩⟩)⟩, ⟨by (with_reducible repeat (first | apply Kd.R_alloc | apply Kd.R_drewN | apply Kd.R_drew)); exact Kd.R_mono HO514.out (fun _ hk => ⟨hk.1.1.1.1.1.2, ⟨hk.1.1.1.1.2, ⟨hk.1.1.1.2, ⟨hk.1.1.2, ⟨hk.1.2, ⟨hk.2, hk.1.1.1.1.1.1⟩⟩⟩⟩⟩⟩)⟩, ⟨dK BK454.out⟩, ⟨dK BK481.out⟩, ⟨dK BK507.out⟩, ⟨dK BK516.out⟩, ⟨eB⟩⟩
        case rest =>
         clear HC69
         try clear c18
         try clear c22
         try clear c22b0
         try clear c22b1
         try clear c65
         try clear hcz12_0
         try clear hcz12_1
         try clear hcz12_2
         try clear hcz50_0
         try clear hcz50_1
         try clear hcz50_2
         try clear hcz52_0
         try clear hcz52_1
         try clear hcz52_2
         try clear hcz57_0
         try clear hcz57_1
         try clear hcz57_2
         try clear hcz5_0
         try clear hcz5_1
         try clear hcz5_2
         try clear hcz74_0
         try clear hcz74_1
         try clear hcz74_2
         try clear hcz82_0
         try clear hcz82_1
         try clear hcz82_2
         try clear hcz85_0
         try clear hcz85_1
         try clear hcz85_2
         try clear hcz87_0
         try clear hcz87_1
         try clear hcz87_2
         try clear hcz9_0
         try clear hcz9_1
         try clear hcz9_2
         try clear hfz12_0
         try clear hfz12_1
         try clear hfz12_2
         try clear hfz50_0
         try clear hfz50_1
         try clear hfz50_2
         try clear hfz52_0
         try clear hfz52_1
         try clear hfz52_2
         try clear hfz57_0
         try clear hfz57_1
         try clear hfz57_2
         try clear hfz5_0
         try clear hfz5_1
         try clear hfz5_2
         try clear hfz74_0
         try clear hfz74_1
         try clear hfz74_2
         try clear hfz82_0
         try clear hfz82_1
         try clear hfz82_2
         try clear hfz85_0
         try clear hfz85_1
         try clear hfz85_2
         try clear hfz87_0
         try clear hfz87_1
         try clear hfz87_2
         try clear hfz9_0
         try clear hfz9_1
         try clear hfz9_2
         obtain ⟨kq, x106_68, rfl, HA, HJ68, HO_455001, HO_455002, HO_482001, HO_482002, HO_508001, HO_508002, HO_517001, HO_517002, BK454, BK481, BK507, BK516, HB⟩ := hcut
         cases kq with
         | zero => exact absurd HA.out (by simp [plumblaw07_NearNearest.j2])
         | succ kj68 =>
          have H := HA.out
          clear HA
          simp only [plumblaw07_NearNearest.j2] at H
          by_cases c94 : x106_68 = true
          ·subst c94
           rw [if_pos rfl] at H
           (try dsimp only at H)
           exact absurd H (by simp)
          ·replace c94 := Bool.eq_false_iff.mpr c94
           subst c94
           rw [if_neg (show ¬ (false = true) by decide)] at H
           (try dsimp only at H)
           by_cases c95 : (Go.bits .andNot .u64 t472 9223372036854775808) = 0
           ·rw [if_pos c95] at H
            have c95b0 : ((Go.bits .andNot .u64 t472 9223372036854775808) == 0) = true := beq_iff_eq.mpr c95
            have c95b1 : ((Go.bits .andNot .u64 t472 9223372036854775808) != 0) = false := bne_eq_false_iff_eq.mpr c95
            clear c95
            obtain rfl := Option.some.inj H
            go_wp2
            go_ret
            exact ⟨dE, eB⟩
           ·rw [if_neg c95] at H
            have c95b0 : ((Go.bits .andNot .u64 t472 9223372036854775808) == 0) = false := beq_eq_false_iff_ne.mpr c95
            have c95b1 : ((Go.bits .andNot .u64 t472 9223372036854775808) != 0) = true := bne_iff_ne.mpr c95
            replace H := obe H
            obtain ⟨⟨t518, t519, t522, t525⟩, A960, H⟩ := H
            (try dsimp only at H)
            have A96 := aM A960
            clear A960
            replace H := obe H
            obtain ⟨t527, A970, H⟩ := H
            (try dsimp only at H)
            have A97 := aM A970
            clear A970
            by_cases c98 : t525 = true
            ·subst c98
             rw [if_pos rfl] at H
             (try dsimp only at H)
             by_cases c99 : t527 ≥ 0
             ·rw [if_pos c99] at H
              have c99b0 : decide (0 ≤ t527) = true := decide_eq_true c99
              clear c99
              by_cases c100 : t527 < 9
              ·rw [if_pos c100] at H
               have c100b0 : decide (t527 < 9) = true := decide_eq_true c100
               clear c100
               by_cases c101 : t527 > 0
               ·rw [if_pos c101] at H
                have c101b0 : decide (0 < t527) = true := decide_eq_true c101
                clear c101
                obtain rfl := Option.some.inj H
                go_wp2_with (first | ((with_reducible refine gate_callee (f := 25) rfl ?_); refine gL (some 112) Tryd.func25 #[.int .u64 (IntKind.u64.wrap ((Go.bits .andNot .u64 t472 9223372036854775808) - 1))] ?_; (with_reducible refine (plumblaw07_value.calls kj68 (IntKind.u64.wrap ((Go.bits .andNot .u64 t472 9223372036854775808) - 1)) t518 t519 t522 true _ A96.out).mono ?_); rintro e w102 ⟨v520, v523, rfl, ho0, ho1, hb⟩; refine ⟨_, rfl, ?_⟩; have HO521 := aM (Kd.R_lower (Kd.R_new' (Kd.R_new' (Kd.R_new' (Kd.R_new' (Kd.R_new' (Kd.R_new' (Kd.R_new' (Kd.R_new' ho0 (Kd.R_lt (dR HO_455001.out))) (Kd.R_lt (dR HO_455002.out))) (Kd.R_lt (dR HO_482001.out))) (Kd.R_lt (dR HO_482002.out))) (Kd.R_lt (dR HO_508001.out))) (Kd.R_lt (dR HO_508002.out))) (Kd.R_lt (dR HO_517001.out))) (Kd.R_lt (dR HO_517002.out))) (below_size eB)); have HO524 := aM (Kd.R_lower (Kd.R_new' (Kd.R_new' (Kd.R_new' (Kd.R_new' (Kd.R_new' (Kd.R_new' (Kd.R_new' (Kd.R_new' ho1 (Kd.R_lt (dR HO_455001.out))) (Kd.R_lt (dR HO_455002.out))) (Kd.R_lt (dR HO_482001.out))) (Kd.R_lt (dR HO_482002.out))) (Kd.R_lt (dR HO_508001.out))) (Kd.R_lt (dR HO_508002.out))) (Kd.R_lt (dR HO_517001.out))) (Kd.R_lt (dR HO_517002.out))) (below_size eB)); replace HO_455001 := aM (Kd.R_mono (Kd.R_told (Kd.R_told (Kd.R_old (dR HO_455001.out) hb) (Kd.R_base ho0)) (Kd.R_base ho1)) (fun _ h_ => h_.1)); replace HO_455002 := aM (Kd.R_mono (Kd.R_told (Kd.R_told (Kd.R_old (dR HO_455002.out) hb) (Kd.R_base ho0)) (Kd.R_base ho1)) (fun _ h_ => h_.1)); replace HO_482001 := aM (Kd.R_mono (Kd.R_told (Kd.R_told (Kd.R_old (dR HO_482001.out) hb) (Kd.R_base ho0)) (Kd.R_base ho1)) (fun _ h_ => h_.1)); replace HO_482002 := aM (Kd.R_mono (Kd.R_told (Kd.R_told (Kd.R_old (dR HO_482002.out) hb) (Kd.R_base ho0)) (Kd.R_base ho1)) (fun _ h_ => h_.1)); replace HO_508001 := aM (Kd.R_mono (Kd.R_told (Kd.R_told (Kd.R_old (dR HO_508001.out) hb) (Kd.R_base ho0)) (Kd.R_base ho1)) (fun _ h_ => h_.1)); replace HO_508002 := aM (Kd.R_mono (Kd.R_told (Kd.R_told (Kd.R_old (dR HO_508002.out) hb) (Kd.R_base ho0)) (Kd.R_base ho1)) (fun _ h_ => h_.1)); replace HO_517001 := aM (Kd.R_mono (Kd.R_told (Kd.R_told (Kd.R_old (dR HO_517001.out) hb) (Kd.R_base ho0)) (Kd.R_base ho1)) (fun _ h_ => h_.1)); replace HO_517002 := aM (Kd.R_mono (Kd.R_told (Kd.R_told (Kd.R_old (dR HO_517002.out) hb) (Kd.R_base ho0)) (Kd.R_base ho1)) (fun _ h_ => h_.1)); replace BK454 := bB BK454.out hb; replace BK481 := bB BK481.out hb; replace BK507 := bB BK507.out hb; replace BK516 := bB BK516.out hb; replace HB := hS HB.out hb; (try clear hb); (try clear ho0); (try clear ho1)) | ((with_reducible refine gate_dst (N := 14) rfl ?_); refine bE 14 #[.bool false, .slice none 0 0, .slice none 0 0] 46 ?_; intro gb526 hg w103 hbox hb; replace HO_455001 := oB HO_455001.out hb; replace HO_455002 := oB HO_455002.out hb; replace HO_482001 := oB HO_482001.out hb; replace HO_482002 := oB HO_482002.out hb; replace HO_508001 := oB HO_508001.out hb; replace HO_508002 := oB HO_508002.out hb; replace HO_517001 := oB HO_517001.out hb; replace HO_517002 := oB HO_517002.out hb; replace HO521 := oB HO521.out hb; replace HO524 := oB HO524.out hb; have BK526 := aM (hbox); have GE526 : Aside0 (w.heap.size ≤ gb526) := gE hg; replace HB := hS HB.out hb; have NB454_526 := nL hg BK454.out; have NB526_454 := nG hg BK454.out; replace BK454 := bB BK454.out hb; have NB481_526 := nL hg BK481.out; have NB526_481 := nG hg BK481.out; replace BK481 := bB BK481.out hb; have NB507_526 := nL hg BK507.out; have NB526_507 := nG hg BK507.out; replace BK507 := bB BK507.out hb; have NB516_526 := nL hg BK516.out; have NB526_516 := nG hg BK516.out; replace BK516 := bB BK516.out hb; clear hb hbox hg; have hnb104 := NB526_454.out; have hnc104 := NB454_526.out; have hnb105 := NB526_481.out; have hnc105 := NB481_526.out; have hnb106 := NB526_507.out; have hnc106 := NB507_526.out; have hnb107 := NB526_516.out; have hnc107 := NB516_526.out; obtain ⟨hcz108_0, hcz108_1, hcz108_2⟩ := cz3 BK526.out; obtain ⟨hfz108_0, hfz108_1, hfz108_2⟩ := fz3 BK526.out; obtain ⟨Ao109, co109, rfl⟩ := Kd.R_slice HO521.out; obtain ⟨Ao110, co110, rfl⟩ := Kd.R_slice HO524.out; have hnb111 := NB507_454.out; have hnc111 := NB454_507.out; have hnb112 := NB507_481.out; have hnc112 := NB481_507.out; have hnb113 := NB507_516.out; have hnc113 := NB516_507.out; obtain ⟨hcz114_0, hcz114_1, hcz114_2⟩ := cz3 BK507.out; obtain ⟨hfz114_0, hfz114_1, hfz114_2⟩ := fz3 BK507.out; have hnb115 := NB481_454.out; have hnc115 := NB454_481.out; have hnb116 := NB481_516.out; have hnc116 := NB516_481.out; obtain ⟨hcz117_0, hcz117_1, hcz117_2⟩ := cz3 BK481.out; obtain ⟨hfz117_0, hfz117_1, hfz117_2⟩ := fz3 BK481.out) | ((with_reducible refine gate_callee (f := 30) rfl ?_); refine gL (some 118) Tryd.func30 #[.agg #[.bool t518, .slice Ao109 t519.length co109, .slice Ao110 t522.length co110], .agg #[.bool t499, .slice Ao75 t500.length co75, .slice Ao76 t503.length co76], .agg #[.bool t474, .slice Ao58 t475.length co58, .slice Ao59 t478.length co59]] ?_; (with_reducible refine (plumblaw07_twice.calls kj68 t518 _ _ t519 _ _ t522 t499 _ _ t500 _ _ t503 t474 _ _ t475 _ _ t478 t527 _ ?side1 (Kd.R_reads' HO521.out).2.1 ?side3 (Kd.R_reads' HO524.out).2.1 ?side5 (Kd.R_reads' HO_508001.out).2.1 ?side7 ?side8 ?side9 ?side10 ?side11 ?side12 A97.out).mono ?_); (case side1 => refine (Kd.R_reads' (e := 26) (base := w.heap.size) (ok := fun k_ => ((((((((some k_ ≠ (.slice Ao110 t522.length co110 : Value).ownBlock ∧ some k_ ≠ (.slice Ao10 t456.length co10 : Value).ownBlock) ∧ some k_ ≠ (.slice Ao11 t459.length co11 : Value).ownBlock) ∧ some k_ ≠ (.slice Ao58 t475.length co58 : Value).ownBlock) ∧ some k_ ≠ (.slice Ao59 t478.length co59 : Value).ownBlock) ∧ some k_ ≠ (.slice Ao75 t500.length co75 : Value).ownBlock) ∧ some k_ ≠ (.slice Ao76 t503.length co76 : Value).ownBlock) ∧ some k_ ≠ (.slice Ao83 t509.length co83 : Value).ownBlock) ∧ some k_ ≠ (.slice Ao84 t512.length co84 : Value).ownBlock)) (n := t519.length) (c := co109) ?_).2.2; exact (by (with_reducible repeat (first | apply Kd.R_alloc | apply Kd.R_drewN | apply Kd.R_drew)); exact (rX HO521.out BK526.out))); (case side3 => refine (Kd.R_reads' (e := 26) (base := w.heap.size) (ok := fun k_ => ((((((((some k_ ≠ (.slice Ao109 t519.length co109 : Value).ownBlock ∧ some k_ ≠ (.slice Ao10 t456.length co10 : Value).ownBlock) ∧ some k_ ≠ (.slice Ao11 t459.length co11 : Value).ownBlock) ∧ some k_ ≠ (.slice Ao58 t475.length co58 : Value).ownBlock) ∧ some k_ ≠ (.slice Ao59 t478.length co59 : Value).ownBlock) ∧ some k_ ≠ (.slice Ao75 t500.length co75 : Value).ownBlock) ∧ some k_ ≠ (.slice Ao76 t503.length co76 : Value).ownBlock) ∧ some k_ ≠ (.slice Ao83 t509.length co83 : Value).ownBlock) ∧ some k_ ≠ (.slice Ao84 t512.length co84 : Value).ownBlock)) (n := t522.length) (c := co110) ?_).2.2; exact (by (with_reducible repeat (first | apply Kd.R_alloc | apply Kd.R_drewN | apply Kd.R_drew)); exact (rX HO524.out BK526.out))); (case side5 => refine (Kd.R_reads' (e := 26) (base := w.heap.size) (ok := fun k_ => (((some k_ ≠ (.slice Ao10 t456.length co10 : Value).ownBlock ∧ (some k_ ≠ (.slice Ao11 t459.length co11 : Value).ownBlock ∧ (some k_ ≠ (.slice Ao58 t475.length co58 : Value).ownBlock ∧ (some k_ ≠ (.slice Ao59 t478.length co59 : Value).ownBlock ∧ (some k_ ≠ (.slice Ao76 t503.length co76 : Value).ownBlock ∧ (some k_ ≠ (.slice Ao83 t509.length co83 : Value).ownBlock ∧ some k_ ≠ (.slice Ao84 t512.length co84 : Value).ownBlock)))))) ∧ some k_ ≠ (.slice Ao109 t519.length co109 : Value).ownBlock) ∧ some k_ ≠ (.slice Ao110 t522.length co110 : Value).ownBlock)) (n := t500.length) (c := co75) ?_).2.2; exact (by (with_reducible repeat (first | apply Kd.R_alloc | apply Kd.R_drewN | apply Kd.R_drew)); exact (rX HO_508001.out BK526.out))); (case side7 => refine (Kd.R_reads' (e := 26) (base := w.heap.size) (ok := fun k_ => (((some k_ ≠ (.slice Ao10 t456.length co10 : Value).ownBlock ∧ (some k_ ≠ (.slice Ao11 t459.length co11 : Value).ownBlock ∧ (some k_ ≠ (.slice Ao58 t475.length co58 : Value).ownBlock ∧ (some k_ ≠ (.slice Ao59 t478.length co59 : Value).ownBlock ∧ (some k_ ≠ (.slice Ao75 t500.length co75 : Value).ownBlock ∧ (some k_ ≠ (.slice Ao83 t509.length co83 : Value).ownBlock ∧ some k_ ≠ (.slice Ao84 t512.length co84 : Value).ownBlock)))))) ∧ some k_ ≠ (.slice Ao109 t519.length co109 : Value).ownBlock) ∧ some k_ ≠ (.slice Ao110 t522.length co110 : Value).ownBlock)) (n := t503.length) (c := co76) ?_).2.2; exact (by (with_reducible repeat (first | apply Kd.R_alloc | apply Kd.R_drewN | apply Kd.R_drew)); exact (rX HO_508002.out BK526.out))); (case side8 => exact (Kd.R_reads' HO_508002.out).2.1); (case side9 => refine (Kd.R_reads' (e := 26) (base := w.heap.size) (ok := fun k_ => (((some k_ ≠ (.slice Ao10 t456.length co10 : Value).ownBlock ∧ (some k_ ≠ (.slice Ao11 t459.length co11 : Value).ownBlock ∧ (some k_ ≠ (.slice Ao59 t478.length co59 : Value).ownBlock ∧ (some k_ ≠ (.slice Ao75 t500.length co75 : Value).ownBlock ∧ (some k_ ≠ (.slice Ao76 t503.length co76 : Value).ownBlock ∧ (some k_ ≠ (.slice Ao83 t509.length co83 : Value).ownBlock ∧ some k_ ≠ (.slice Ao84 t512.length co84 : Value).ownBlock)))))) ∧ some k_ ≠ (.slice Ao109 t519.length co109 : Value).ownBlock) ∧ some k_ ≠ (.slice Ao110 t522.length co110 : Value).ownBlock)) (n := t475.length) (c := co58) ?_).2.2; exact (by (with_reducible repeat (first | apply Kd.R_alloc | apply Kd.R_drewN | apply Kd.R_drew)); exact (rX HO_482001.out BK526.out))); (case side10 => exact (Kd.R_reads' HO_482001.out).2.1); (case side11 => refine (Kd.R_reads' (e := 26) (base := w.heap.size) (ok := fun k_ => (((some k_ ≠ (.slice Ao10 t456.length co10 : Value).ownBlock ∧ (some k_ ≠ (.slice Ao11 t459.length co11 : Value).ownBlock ∧ (some k_ ≠ (.slice Ao58 t475.length co58 : Value).ownBlock ∧ (some k_ ≠ (.slice Ao75 t500.length co75 : Value).ownBlock ∧ (some k_ ≠ (.slice Ao76 t503.length co76 : Value).ownBlock ∧ (some k_ ≠ (.slice Ao83 t509.length co83 : Value).ownBlock ∧ some k_ ≠ (.slice Ao84 t512.length co84 : Value).ownBlock)))))) ∧ some k_ ≠ (.slice Ao109 t519.length co109 : Value).ownBlock) ∧ some k_ ≠ (.slice Ao110 t522.length co110 : Value).ownBlock)) (n := t478.length) (c := co59) ?_).2.2; exact (by (with_reducible repeat (first | apply Kd.R_alloc | apply Kd.R_drewN | apply Kd.R_drew)); exact (rX HO_482002.out BK526.out))); (case side12 => exact (Kd.R_reads' HO_482002.out).2.1); rintro e w118 ⟨rfl, hb⟩; refine ⟨_, rfl, ?_⟩; replace HO_455001 := oX HO_455001.out BK526.out hb; replace HO_455002 := oX HO_455002.out BK526.out hb; replace HO_482001 := oX HO_482001.out BK526.out hb; replace HO_482002 := oX HO_482002.out BK526.out hb; replace HO_508001 := oX HO_508001.out BK526.out hb; replace HO_508002 := oX HO_508002.out BK526.out hb; replace HO_517001 := oX HO_517001.out BK526.out hb; replace HO_517002 := oX HO_517002.out BK526.out hb; replace HO521 := oX HO521.out BK526.out hb; replace HO524 := oX HO524.out BK526.out hb; replace BK454 := aM (blk_below (g := gb454) (o := .cells #[.bool t455, .slice Ao10 t456.length co10, .slice Ao11 t459.length co11] 36 (0, 0)) (dQ1 BK454.out NB454_526.out) hb); replace BK481 := aM (blk_below (g := gb481) (o := .cells #[.bool t474, .slice Ao58 t475.length co58, .slice Ao59 t478.length co59] 46 (0, 0)) (dQ1 BK481.out NB481_526.out) hb); replace BK507 := aM (blk_below (g := gb507) (o := .cells #[.bool t499, .slice Ao75 t500.length co75, .slice Ao76 t503.length co76] 46 (0, 0)) (dQ1 BK507.out NB507_526.out) hb); replace BK516 := aM (blk_below (g := gb516) (o := .cells #[.bool t508, .slice Ao83 t509.length co83, .slice Ao84 t512.length co84] 46 (0, 0)) (dQ1 BK516.out NB516_526.out) hb); replace BK526 := aM (blk_below (g := gb526) (o := .cells #[.bool t518, .slice Ao109 t519.length co109, .slice Ao110 t522.length co110] 46 (0, 0)) (dP BK526.out) hb); replace HB := hS HB.out hb; (try clear hb)))
                go_ret
                exact ⟨dE, eB⟩
               ·rw [if_neg c101] at H
                have c101b0 : decide (0 < t527) = false := decide_eq_false c101
                clear c101
                obtain rfl := Option.some.inj H
                go_wp2_with (first | ((with_reducible refine gate_callee (f := 25) rfl ?_); refine gL (some 112) Tryd.func25 #[.int .u64 (IntKind.u64.wrap ((Go.bits .andNot .u64 t472 9223372036854775808) - 1))] ?_; (with_reducible refine (plumblaw07_value.calls kj68 (IntKind.u64.wrap ((Go.bits .andNot .u64 t472 9223372036854775808) - 1)) t518 t519 t522 true _ A96.out).mono ?_); rintro e w119 ⟨v520, v523, rfl, ho0, ho1, hb⟩; refine ⟨_, rfl, ?_⟩; have HO521 := aM (Kd.R_lower (Kd.R_new' (Kd.R_new' (Kd.R_new' (Kd.R_new' (Kd.R_new' (Kd.R_new' (Kd.R_new' (Kd.R_new' ho0 (Kd.R_lt (dR HO_455001.out))) (Kd.R_lt (dR HO_455002.out))) (Kd.R_lt (dR HO_482001.out))) (Kd.R_lt (dR HO_482002.out))) (Kd.R_lt (dR HO_508001.out))) (Kd.R_lt (dR HO_508002.out))) (Kd.R_lt (dR HO_517001.out))) (Kd.R_lt (dR HO_517002.out))) (below_size eB)); have HO524 := aM (Kd.R_lower (Kd.R_new' (Kd.R_new' (Kd.R_new' (Kd.R_new' (Kd.R_new' (Kd.R_new' (Kd.R_new' (Kd.R_new' ho1 (Kd.R_lt (dR HO_455001.out))) (Kd.R_lt (dR HO_455002.out))) (Kd.R_lt (dR HO_482001.out))) (Kd.R_lt (dR HO_482002.out))) (Kd.R_lt (dR HO_508001.out))) (Kd.R_lt (dR HO_508002.out))) (Kd.R_lt (dR HO_517001.out))) (Kd.R_lt (dR HO_517002.out))) (below_size eB)); replace HO_455001 := aM (Kd.R_mono (Kd.R_told (Kd.R_told (Kd.R_old (dR HO_455001.out) hb) (Kd.R_base ho0)) (Kd.R_base ho1)) (fun _ h_ => h_.1)); replace HO_455002 := aM (Kd.R_mono (Kd.R_told (Kd.R_told (Kd.R_old (dR HO_455002.out) hb) (Kd.R_base ho0)) (Kd.R_base ho1)) (fun _ h_ => h_.1)); replace HO_482001 := aM (Kd.R_mono (Kd.R_told (Kd.R_told (Kd.R_old (dR HO_482001.out) hb) (Kd.R_base ho0)) (Kd.R_base ho1)) (fun _ h_ => h_.1)); replace HO_482002 := aM (Kd.R_mono (Kd.R_told (Kd.R_told (Kd.R_old (dR HO_482002.out) hb) (Kd.R_base ho0)) (Kd.R_base ho1)) (fun _ h_ => h_.1)); replace HO_508001 := aM (Kd.R_mono (Kd.R_told (Kd.R_told (Kd.R_old (dR HO_508001.out) hb) (Kd.R_base ho0)) (Kd.R_base ho1)) (fun _ h_ => h_.1)); replace HO_508002 := aM (Kd.R_mono (Kd.R_told (Kd.R_told (Kd.R_old (dR HO_508002.out) hb) (Kd.R_base ho0)) (Kd.R_base ho1)) (fun _ h_ => h_.1)); replace HO_517001 := aM (Kd.R_mono (Kd.R_told (Kd.R_told (Kd.R_old (dR HO_517001.out) hb) (Kd.R_base ho0)) (Kd.R_base ho1)) (fun _ h_ => h_.1)); replace HO_517002 := aM (Kd.R_mono (Kd.R_told (Kd.R_told (Kd.R_old (dR HO_517002.out) hb) (Kd.R_base ho0)) (Kd.R_base ho1)) (fun _ h_ => h_.1)); replace BK454 := bB BK454.out hb; replace BK481 := bB BK481.out hb; replace BK507 := bB BK507.out hb; replace BK516 := bB BK516.out hb; replace HB := hS HB.out hb; (try clear hb); (try clear ho0); (try clear ho1)) | ((with_reducible refine gate_dst (N := 14) rfl ?_); refine bE 14 #[.bool false, .slice none 0 0, .slice none 0 0] 46 ?_; intro gb526 hg w120 hbox hb; replace HO_455001 := oB HO_455001.out hb; replace HO_455002 := oB HO_455002.out hb; replace HO_482001 := oB HO_482001.out hb; replace HO_482002 := oB HO_482002.out hb; replace HO_508001 := oB HO_508001.out hb; replace HO_508002 := oB HO_508002.out hb; replace HO_517001 := oB HO_517001.out hb; replace HO_517002 := oB HO_517002.out hb; replace HO521 := oB HO521.out hb; replace HO524 := oB HO524.out hb; have BK526 := aM (hbox); have GE526 : Aside0 (w.heap.size ≤ gb526) := gE hg; replace HB := hS HB.out hb; have NB454_526 := nL hg BK454.out; have NB526_454 := nG hg BK454.out; replace BK454 := bB BK454.out hb; have NB481_526 := nL hg BK481.out; have NB526_481 := nG hg BK481.out; replace BK481 := bB BK481.out hb; have NB507_526 := nL hg BK507.out; have NB526_507 := nG hg BK507.out; replace BK507 := bB BK507.out hb; have NB516_526 := nL hg BK516.out; have NB526_516 := nG hg BK516.out; replace BK516 := bB BK516.out hb; clear hb hbox hg; have hnb121 := NB526_454.out; have hnc121 := NB454_526.out; have hnb122 := NB526_481.out; have hnc122 := NB481_526.out; have hnb123 := NB526_507.out; have hnc123 := NB507_526.out; have hnb124 := NB526_516.out; have hnc124 := NB516_526.out; obtain ⟨hcz125_0, hcz125_1, hcz125_2⟩ := cz3 BK526.out; obtain ⟨hfz125_0, hfz125_1, hfz125_2⟩ := fz3 BK526.out; obtain ⟨Ao126, co126, rfl⟩ := Kd.R_slice HO521.out; obtain ⟨Ao127, co127, rfl⟩ := Kd.R_slice HO524.out; have hnb128 := NB507_454.out; have hnc128 := NB454_507.out; have hnb129 := NB507_481.out; have hnc129 := NB481_507.out; have hnb130 := NB507_516.out; have hnc130 := NB516_507.out; obtain ⟨hcz131_0, hcz131_1, hcz131_2⟩ := cz3 BK507.out; obtain ⟨hfz131_0, hfz131_1, hfz131_2⟩ := fz3 BK507.out; have hnb132 := NB481_454.out; have hnc132 := NB454_481.out; have hnb133 := NB481_516.out; have hnc133 := NB516_481.out; obtain ⟨hcz134_0, hcz134_1, hcz134_2⟩ := cz3 BK481.out; obtain ⟨hfz134_0, hfz134_1, hfz134_2⟩ := fz3 BK481.out) | ((with_reducible refine gate_callee (f := 30) rfl ?_); refine gL (some 118) Tryd.func30 #[.agg #[.bool t518, .slice Ao126 t519.length co126, .slice Ao127 t522.length co127], .agg #[.bool t499, .slice Ao75 t500.length co75, .slice Ao76 t503.length co76], .agg #[.bool t474, .slice Ao58 t475.length co58, .slice Ao59 t478.length co59]] ?_; (with_reducible refine (plumblaw07_twice.calls kj68 t518 _ _ t519 _ _ t522 t499 _ _ t500 _ _ t503 t474 _ _ t475 _ _ t478 t527 _ ?side1 (Kd.R_reads' HO521.out).2.1 ?side3 (Kd.R_reads' HO524.out).2.1 ?side5 (Kd.R_reads' HO_508001.out).2.1 ?side7 ?side8 ?side9 ?side10 ?side11 ?side12 A97.out).mono ?_); (case side1 => refine (Kd.R_reads' (e := 26) (base := w.heap.size) (ok := fun k_ => ((((((((some k_ ≠ (.slice Ao127 t522.length co127 : Value).ownBlock ∧ some k_ ≠ (.slice Ao10 t456.length co10 : Value).ownBlock) ∧ some k_ ≠ (.slice Ao11 t459.length co11 : Value).ownBlock) ∧ some k_ ≠ (.slice Ao58 t475.length co58 : Value).ownBlock) ∧ some k_ ≠ (.slice Ao59 t478.length co59 : Value).ownBlock) ∧ some k_ ≠ (.slice Ao75 t500.length co75 : Value).ownBlock) ∧ some k_ ≠ (.slice Ao76 t503.length co76 : Value).ownBlock) ∧ some k_ ≠ (.slice Ao83 t509.length co83 : Value).ownBlock) ∧ some k_ ≠ (.slice Ao84 t512.length co84 : Value).ownBlock)) (n := t519.length) (c := co126) ?_).2.2; exact (by (with_reducible repeat (first | apply Kd.R_alloc | apply Kd.R_drewN | apply Kd.R_drew)); exact (rX HO521.out BK526.out))); (case side3 => refine (Kd.R_reads' (e := 26) (base := w.heap.size) (ok := fun k_ => ((((((((some k_ ≠ (.slice Ao126 t519.length co126 : Value).ownBlock ∧ some k_ ≠ (.slice Ao10 t456.length co10 : Value).ownBlock) ∧ some k_ ≠ (.slice Ao11 t459.length co11 : Value).ownBlock) ∧ some k_ ≠ (.slice Ao58 t475.length co58 : Value).ownBlock) ∧ some k_ ≠ (.slice Ao59 t478.length co59 : Value).ownBlock) ∧ some k_ ≠ (.slice Ao75 t500.length co75 : Value).ownBlock) ∧ some k_ ≠ (.slice Ao76 t503.length co76 : Value).ownBlock) ∧ some k_ ≠ (.slice Ao83 t509.length co83 : Value).ownBlock) ∧ some k_ ≠ (.slice Ao84 t512.length co84 : Value).ownBlock)) (n := t522.length) (c := co127) ?_).2.2; exact (by (with_reducible repeat (first | apply Kd.R_alloc | apply Kd.R_drewN | apply Kd.R_drew)); exact (rX HO524.out BK526.out))); (case side5 => refine (Kd.R_reads' (e := 26) (base := w.heap.size) (ok := fun k_ => (((some k_ ≠ (.slice Ao10 t456.length co10 : Value).ownBlock ∧ (some k_ ≠ (.slice Ao11 t459.length co11 : Value).ownBlock ∧ (some k_ ≠ (.slice Ao58 t475.length co58 : Value).ownBlock ∧ (some k_ ≠ (.slice Ao59 t478.length co59 : Value).ownBlock ∧ (some k_ ≠ (.slice Ao76 t503.length co76 : Value).ownBlock ∧ (some k_ ≠ (.slice Ao83 t509.length co83 : Value).ownBlock ∧ some k_ ≠ (.slice Ao84 t512.length co84 : Value).ownBlock)))))) ∧ some k_ ≠ (.slice Ao126 t519.length co126 : Value).ownBlock) ∧ some k_ ≠ (.slice Ao127 t522.length co127 : Value).ownBlock)) (n := t500.length) (c := co75) ?_).2.2; exact (by (with_reducible repeat (first | apply Kd.R_alloc | apply Kd.R_drewN | apply Kd.R_drew)); exact (rX HO_508001.out BK526.out))); (case side7 => refine (Kd.R_reads' (e := 26) (base := w.heap.size) (ok := fun k_ => (((some k_ ≠ (.slice Ao10 t456.length co10 : Value).ownBlock ∧ (some k_ ≠ (.slice Ao11 t459.length co11 : Value).ownBlock ∧ (some k_ ≠ (.slice Ao58 t475.length co58 : Value).ownBlock ∧ (some k_ ≠ (.slice Ao59 t478.length co59 : Value).ownBlock ∧ (some k_ ≠ (.slice Ao75 t500.length co75 : Value).ownBlock ∧ (some k_ ≠ (.slice Ao83 t509.length co83 : Value).ownBlock ∧ some k_ ≠ (.slice Ao84 t512.length co84 : Value).ownBlock)))))) ∧ some k_ ≠ (.slice Ao126 t519.length co126 : Value).ownBlock) ∧ some k_ ≠ (.slice Ao127 t522.length co127 : Value).ownBlock)) (n := t503.length) (c := co76) ?_).2.2; exact (by (with_reducible repeat (first | apply Kd.R_alloc | apply Kd.R_drewN | apply Kd.R_drew)); exact (rX HO_508002.out BK526.out))); (case side8 => exact (Kd.R_reads' HO_508002.out).2.1); (case side9 => refine (Kd.R_reads' (e := 26) (base := w.heap.size) (ok := fun k_ => (((some k_ ≠ (.slice Ao10 t456.length co10 : Value).ownBlock ∧ (some k_ ≠ (.slice Ao11 t459.length co11 : Value).ownBlock ∧ (some k_ ≠ (.slice Ao59 t478.length co59 : Value).ownBlock ∧ (some k_ ≠ (.slice Ao75 t500.length co75 : Value).ownBlock ∧ (some k_ ≠ (.slice Ao76 t503.length co76 : Value).ownBlock ∧ (some k_ ≠ (.slice Ao83 t509.length co83 : Value).ownBlock ∧ some k_ ≠ (.slice Ao84 t512.length co84 : Value).ownBlock)))))) ∧ some k_ ≠ (.slice Ao126 t519.length co126 : Value).ownBlock) ∧ some k_ ≠ (.slice Ao127 t522.length co127 : Value).ownBlock)) (n := t475.length) (c := co58) ?_).2.2; exact (by (with_reducible repeat (first | apply Kd.R_alloc | apply Kd.R_drewN | apply Kd.R_drew)); exact (rX HO_482001.out BK526.out))); (case side10 => exact (Kd.R_reads' HO_482001.out).2.1); (case side11 => refine (Kd.R_reads' (e := 26) (base := w.heap.size) (ok := fun k_ => (((some k_ ≠ (.slice Ao10 t456.length co10 : Value).ownBlock ∧ (some k_ ≠ (.slice Ao11 t459.length co11 : Value).ownBlock ∧ (some k_ ≠ (.slice Ao58 t475.length co58 : Value).ownBlock ∧ (some k_ ≠ (.slice Ao75 t500.length co75 : Value).ownBlock ∧ (some k_ ≠ (.slice Ao76 t503.length co76 : Value).ownBlock ∧ (some k_ ≠ (.slice Ao83 t509.length co83 : Value).ownBlock ∧ some k_ ≠ (.slice Ao84 t512.length co84 : Value).ownBlock)))))) ∧ some k_ ≠ (.slice Ao126 t519.length co126 : Value).ownBlock) ∧ some k_ ≠ (.slice Ao127 t522.length co127 : Value).ownBlock)) (n := t478.length) (c := co59) ?_).2.2; exact (by (with_reducible repeat (first | apply Kd.R_alloc | apply Kd.R_drewN | apply Kd.R_drew)); exact (rX HO_482002.out BK526.out))); (case side12 => exact (Kd.R_reads' HO_482002.out).2.1); rintro e w135 ⟨rfl, hb⟩; refine ⟨_, rfl, ?_⟩; replace HO_455001 := oX HO_455001.out BK526.out hb; replace HO_455002 := oX HO_455002.out BK526.out hb; replace HO_482001 := oX HO_482001.out BK526.out hb; replace HO_482002 := oX HO_482002.out BK526.out hb; replace HO_508001 := oX HO_508001.out BK526.out hb; replace HO_508002 := oX HO_508002.out BK526.out hb; replace HO_517001 := oX HO_517001.out BK526.out hb; replace HO_517002 := oX HO_517002.out BK526.out hb; replace HO521 := oX HO521.out BK526.out hb; replace HO524 := oX HO524.out BK526.out hb; replace BK454 := aM (blk_below (g := gb454) (o := .cells #[.bool t455, .slice Ao10 t456.length co10, .slice Ao11 t459.length co11] 36 (0, 0)) (dQ1 BK454.out NB454_526.out) hb); replace BK481 := aM (blk_below (g := gb481) (o := .cells #[.bool t474, .slice Ao58 t475.length co58, .slice Ao59 t478.length co59] 46 (0, 0)) (dQ1 BK481.out NB481_526.out) hb); replace BK507 := aM (blk_below (g := gb507) (o := .cells #[.bool t499, .slice Ao75 t500.length co75, .slice Ao76 t503.length co76] 46 (0, 0)) (dQ1 BK507.out NB507_526.out) hb); replace BK516 := aM (blk_below (g := gb516) (o := .cells #[.bool t508, .slice Ao83 t509.length co83, .slice Ao84 t512.length co84] 46 (0, 0)) (dQ1 BK516.out NB516_526.out) hb); replace BK526 := aM (blk_below (g := gb526) (o := .cells #[.bool t518, .slice Ao126 t519.length co126, .slice Ao127 t522.length co127] 46 (0, 0)) (dP BK526.out) hb); replace HB := hS HB.out hb; (try clear hb)))
                go_ret
                exact ⟨dE, eB⟩
              ·rw [if_neg c100] at H
               exact absurd H (by simp)
             ·rw [if_neg c99] at H
              exact absurd H (by simp)
            ·replace c98 := Bool.eq_false_iff.mpr c98
             subst c98
             rw [if_neg (show ¬ (false = true) by decide)] at H
             (try dsimp only at H)
             exact absurd H (by simp)
end Go.Proofs.YtoefabmlkbhmpaaDoor.PA
