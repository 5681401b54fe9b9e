/- A part of the proof (12). -/
import Derived.Test.YtoefabmlkbhmpaaDoorYKCVKC2
import Derived.Test.YtoefabmlkbhmpaaDoorYKCVKC3
import Derived.Test.YtoefabmlkbhmpaaDoorYKCVKC7
import Derived.Test.YtoefabmlkbhmpaaDoorYKCVKC8
import Derived.Test.YtoefabmlkbhmpaaDoorYKCVKC9
import Derived.Test.YtoefabmlkbhmpaaDoorYKCVKC11
namespace Go.Proofs.YtoefabmlkbhmpaaDoor.PA
open Go.RowKit Go.Proofs.YtoefabmlkbhmpaaDoorW.PrintWords Go.Proofs.YtoefabmlkbhmpaaDoorW.PrintLast Go.Proofs.YtoefabmlkbhmpaaDoorW.PrintMore
attribute [local go_sem] max2_int min2_int max_two min_two max_three min_three max_four min_four
set_option linter.unusedVariables false
set_option linter.unusedSimpArgs false
mutual
def plumblaw07_NearModes.j0 : Nat → Bool → Bool → List Int → List Int → Bool → List Int → List Int → Option (Bool)
 | 0, _, _, _, _, _, _, _ => none
 | k + 1, x36, x391000, x391001, x391002, x407000, x407001, x407002 => if x36 = true then (none) else ((near_Quotient.f k x391000 x391001 x391002 1).bind fun bt408 => ((near_Quotient.f k x391000 x391001 x391002 2).bind fun bt410 => ((near_Quotient.f k x391000 x391001 x391002 3).bind fun bt412 => ((near_Quotient.f k x391000 x391001 x391002 4).bind fun bt414 => ((near_Quotient.f k x391000 x391001 x391002 0).bind fun bt416 => ((plumblaw07_num.f bt408.2).bind fun t418 => (if t418 = 0 then (plumblaw07_NearModes.j1 k bt408.1 bt410.1 bt410.2 bt412.1 bt412.2 bt414.1 bt414.2 bt416.1 bt416.2 (((Go.bits .and .u64 bt408.1 9223372036854775808) != 0) != x391000) x391000 x391001 x391002 x407000 x407001 x407002) else (none))))))))
def plumblaw07_NearModes.j1 : Nat → Int → Int → Int → Int → Int → Int → Int → Int → Int → Bool → Bool → List Int → List Int → Bool → List Int → List Int → Option (Bool)
 | 0, _, _, _, _, _, _, _, _, _, _, _, _, _, _, _, _ => none
 | k + 1, x5, x7, x8, x9, x10, x11, x12, x13, x14, x97, x391000, x391001, x391002, x407000, x407001, x407002 => if x97 = true then (none) else (if x391000 = true then (plumblaw07_NearModes.j2 k x5 x7 x8 x13 x14 x11 x9 x12 x10 x407000 x407001 x407002) else (plumblaw07_NearModes.j2 k x5 x7 x8 x13 x14 x9 x11 x10 x12 x407000 x407001 x407002))
def plumblaw07_NearModes.j2 : Nat → Int → Int → Int → Int → Int → Int → Int → Int → Int → Bool → List Int → List Int → Option (Bool)
 | 0, _, _, _, _, _, _, _, _, _, _, _, _ => none
 | k + 1, x5, x7, x8, x13, x14, x15, x16, x17, x18, x407000, x407001, x407002 => if x15 = x7 then ((plumblaw07_num.f x17).bind fun t419 => ((plumblaw07_num.f x8).bind fun t420 => (if t419 = t420 then (if x16 = x5 then ((plumblaw07_num.f x18).bind fun t421 => (plumblaw07_NearModes.j3 k x5 x7 x8 x13 x14 (t421 != 0) x407000 x407001 x407002)) else (none)) else (none)))) else (none)
def plumblaw07_NearModes.j3 : Nat → Int → Int → Int → Int → Int → Bool → Bool → List Int → List Int → Option (Bool)
 | 0, _, _, _, _, _, _, _, _, _ => none
 | k + 1, x5, x7, x8, x13, x14, x127, x407000, x407001, x407002 => if x127 = true then (none) else ((plumblaw07_value.f k (Go.bits .andNot .u64 x5 9223372036854775808)).bind fun bt422 => ((plumblaw07_size.f x407000 x407001 x407002).bind fun bt431 => ((plumblaw07_cmp.f k bt422.1 bt422.2.1 bt422.2.2.1 bt431.1 bt431.2.1 bt431.2.2).bind fun t439 => (if bt422.2.2.2 = true then (plumblaw07_NearModes.j4 k x5 x7 x8 x13 x14 t439 (decide (t439 > 0)) bt431.1 bt431.2.1 bt431.2.2) else (none)))))
def plumblaw07_NearModes.j4 : Nat → Int → Int → Int → Int → Int → Int → Bool → Bool → List Int → List Int → Option (Bool)
 | 0, _, _, _, _, _, _, _, _, _, _ => none
 | k + 1, x5, x7, x8, x13, x14, x22, x144, x439000, x439001, x439002 => if x144 = true then (none) else ((plumblaw07_num.f x8).bind fun t440 => (if t440 = 0 then (if x22 = 0 then (if x7 = x5 then (if x13 = x5 then ((plumblaw07_num.f x14).bind fun t444 => (some (t444 == 0))) else (none)) else (none)) else ((plumblaw07_value.f k (Go.bits .andNot .u64 x7 9223372036854775808)).bind fun bt445 => (if bt445.2.2.2 = true then (if x7 = (IntKind.u64.wrap (x5 + 1)) then ((plumblaw07_cmp.f k bt445.1 bt445.2.1 bt445.2.2.1 x439000 x439001 x439002).bind fun t454 => (if t454 > 0 then ((plumblaw07_cmp.f k bt445.1 bt445.2.1 bt445.2.2.1 x439000 x439001 x439002).bind fun t455 => (if t455 < 9 then ((plumblaw07_num.f x14).bind fun t456 => (if t456 = 0 then (if x13 = x5 then (some true) else (some (x13 == x7))) else (none))) else (none))) else (none))) else (none)) else (none)))) else ((plumblaw07_num.f x8).bind fun t441 => (if t441 = 70 then (if (Go.bits .andNot .u64 x5 9223372036854775808) = 9218868437227405311 then (if x22 < 0 then ((plumblaw07_num.f x14).bind fun t442 => (if t442 = 70 then (some true) else ((plumblaw07_num.f x14).bind fun t443 => (if t443 = 0 then (some (x13 == x5)) else (none))))) else (none)) else (none)) else (none)))))
end
def plumblaw07_NearModes.f (k : Nat) (a0_0 : Bool) (l0_1 : List Int) (l0_2 : List Int) : Option (Bool) := (plumblaw07_exact.f k a0_0 l0_1 l0_2).bind fun bt391 => (if bt391.2.2.2.2.2.2 = true then ((plumblaw07_fixed.f k).bind fun t407 => (plumblaw07_NearModes.j0 k (!t407) bt391.1 bt391.2.1 bt391.2.2.1 bt391.2.2.2.1 bt391.2.2.2.2.1 bt391.2.2.2.2.2.1)) else (none))
set_option maxHeartbeats 8000000 in
set_option maxRecDepth 100000 in
theorem plumblaw07_NearModes.calls (k : Nat) (a0_0 : Bool) (A0_1 : Option Addr) (c0_1 : Nat) (l0_1 : List Int) (A0_2 : Option Addr) (c0_2 : Nat) (l0_2 : List Int) (r : Bool) (w : World) (hr0_1 : Kd.C (Kd.int .u64) w A0_1 l0_1.length l0_1) (hc0_1 : l0_1.length ≤ c0_1) (hr0_2 : Kd.C (Kd.int .u64) w A0_2 l0_2.length l0_2) (hc0_2 : l0_2.length ≤ c0_2) (h : plumblaw07_NearModes.f k a0_0 l0_1 l0_2 = some r) (hS : StaysLaid w := by first | exact HS.out | exact hS | exact StaysLaid.below HS.out HB.out | exact StaysLaid.below HS.out dB) :
    Calls Tryd.prog 7 #[.agg #[.bool a0_0, .slice A0_1 l0_1.length c0_1, .slice A0_2 l0_2.length c0_2]] w fun e w' => e = .returned (.bool r) ∧ Below w.heap.size w w' := by
  have HS := aM (show StaysLaid w from hS)
  clear hS
  have hu36 := Tryd.underlying36
  have hu46 := Tryd.underlying46
  have HR0_1 := aM hr0_1
  have HC0_1 := aM hc0_1
  clear hr0_1 hc0_1
  have HR0_2 := aM hr0_2
  have HC0_2 := aM hc0_2
  clear hr0_2 hc0_2
  have HB := aM (Below.refl w.heap.size w)
  have H := h
  clear h
  unfold plumblaw07_NearModes.f at H
  replace H := obe H
  obtain ⟨⟨t391, t392, t395, t398, t399, t402, t405⟩, A20, H⟩ := H
  (try dsimp only at H)
  have A2 := aM A20
  clear A20
  have HC3 := aM H
  clear H
  go_enter Tryd.func7, Tryd.ntmps7
  go_upto_region 2 with (first | ((with_reducible refine gate_dst (N := 1) rfl ?_); refine bE 1 #[.bool a0_0, .slice A0_1 l0_1.length c0_1, .slice A0_2 l0_2.length c0_2] 36 ?_; intro gb390 hg w4 hbox hb; have BK390 := aM (hbox); have GE390 : Aside0 (w.heap.size ≤ gb390) := gE hg; replace HB := hS HB.out hb; clear hb hbox hg; obtain ⟨hcz5_0, hcz5_1, hcz5_2⟩ := cz3 BK390.out; obtain ⟨hfz5_0, hfz5_1, hfz5_2⟩ := fz3 BK390.out) | ((with_reducible refine gate_callee (f := 23) rfl ?_); refine gL (some 27) Tryd.func23 #[.agg #[.bool a0_0, .slice A0_1 l0_1.length c0_1, .slice A0_2 l0_2.length c0_2]] ?_; (with_reducible refine (plumblaw07_exact.calls k a0_0 _ _ l0_1 _ _ l0_2 t391 t392 t395 t398 t399 t402 t405 _ ?side1 HC0_1.out ?side3 HC0_2.out A2.out).mono ?_); (case side1 => exact dC (Kd.C_below HR0_1.out HB.out)); (case side3 => exact dC (Kd.C_below HR0_2.out HB.out)); rintro e w6 ⟨v393, v396, v400, v403, rfl, ho0, ho1, ho2, ho3, hb⟩; refine ⟨_, rfl, ?_⟩; have HO394 := aM (Kd.R_lower ho0 (below_size eB)); have HO397 := aM (Kd.R_lower ho1 (below_size eB)); have HO401 := aM (Kd.R_lower ho2 (below_size eB)); have HO404 := aM (Kd.R_lower ho3 (below_size eB)); replace BK390 := bB BK390.out hb; replace HB := hS HB.out hb; (try clear hb); (try clear ho0); (try clear ho1); (try clear ho2); (try clear ho3)) | ((with_reducible refine gate_dst (N := 3) rfl ?_); refine bE 3 #[.bool false, .slice none 0 0, .slice none 0 0] 46 ?_; intro gb406 hg w7 hbox hb; replace HO394 := oB HO394.out hb; replace HO397 := oB HO397.out hb; replace HO401 := oB HO401.out hb; replace HO404 := oB HO404.out hb; have BK406 := aM (hbox); have GE406 : Aside0 (w.heap.size ≤ gb406) := gE hg; replace HB := hS HB.out hb; have NB390_406 := nL hg BK390.out; have NB406_390 := nG hg BK390.out; replace BK390 := bB BK390.out hb; clear hb hbox hg; have hnb8 := NB390_406.out; have hnc8 := NB406_390.out; obtain ⟨hcz9_0, hcz9_1, hcz9_2⟩ := cz3 BK390.out; obtain ⟨hfz9_0, hfz9_1, hfz9_2⟩ := fz3 BK390.out; obtain ⟨Ao10, co10, rfl⟩ := Kd.R_slice HO394.out; obtain ⟨Ao11, co11, rfl⟩ := Kd.R_slice HO397.out; obtain ⟨hcz12_0, hcz12_1, hcz12_2⟩ := cz3 BK406.out; obtain ⟨hfz12_0, hfz12_1, hfz12_2⟩ := fz3 BK406.out; obtain ⟨Ao13, co13, rfl⟩ := Kd.R_slice HO401.out; obtain ⟨Ao14, co14, rfl⟩ := Kd.R_slice HO404.out))
  (try simp only [Act.put, List.setIfInBounds_toArray, List.set_cons_zero, List.set_cons_succ])
  go_cut [36] (fun v36 wc => ∃ (kq : Nat) (x36_2 : Bool), v36 = .bool x36_2 ∧ Aside0 (plumblaw07_NearModes.j0 kq x36_2 t391 t392 t395 t398 t399 t402 = some r) ∧ Aside0 (kq ≤ k) ∧ Aside0 (Kd.R (Kd.int .u64) 26 wc w.heap.size (fun k_ => some k_ ≠ ((.slice Ao11 t395.length co11) : Value).ownBlock ∧ some k_ ≠ ((.slice Ao13 t399.length co13) : Value).ownBlock ∧ some k_ ≠ ((.slice Ao14 t402.length co14) : Value).ownBlock) (.slice Ao10 t392.length co10) t392) ∧ Aside0 (Kd.R (Kd.int .u64) 26 wc w.heap.size (fun k_ => some k_ ≠ ((.slice Ao10 t392.length co10) : Value).ownBlock ∧ some k_ ≠ ((.slice Ao13 t399.length co13) : Value).ownBlock ∧ some k_ ≠ ((.slice Ao14 t402.length co14) : Value).ownBlock) (.slice Ao11 t395.length co11) t395) ∧ Aside0 (Kd.R (Kd.int .u64) 26 wc w.heap.size (fun k_ => some k_ ≠ ((.slice Ao10 t392.length co10) : Value).ownBlock ∧ some k_ ≠ ((.slice Ao11 t395.length co11) : Value).ownBlock ∧ some k_ ≠ ((.slice Ao14 t402.length co14) : Value).ownBlock) (.slice Ao13 t399.length co13) t399) ∧ Aside0 (Kd.R (Kd.int .u64) 26 wc w.heap.size (fun k_ => some k_ ≠ ((.slice Ao10 t392.length co10) : Value).ownBlock ∧ some k_ ≠ ((.slice Ao11 t395.length co11) : Value).ownBlock ∧ some k_ ≠ ((.slice Ao13 t399.length co13) : Value).ownBlock) (.slice Ao14 t402.length co14) t402) ∧ Aside0 (wc.heap[gb390]? = some (.cells #[.bool t391, (.slice Ao10 t392.length co10), (.slice Ao11 t395.length co11)] 36 (0, 0))) ∧ Aside0 (wc.heap[gb406]? = some (.cells #[.bool t398, (.slice Ao13 t399.length co13), (.slice Ao14 t402.length co14)] 46 (0, 0))) ∧ Aside0 (Below w.heap.size w wc))
  case first =>
   as_aux_lemma =>
    have H := HC3.out
    clear HC3
    by_cases c15 : t405 = true
    · subst c15
      rw [if_pos rfl] at H
      (try dsimp only at H)
      replace H := obe H
      obtain ⟨t407, A160, H⟩ := H
      (try dsimp only at H)
      have A16 := aM A160
      clear A160
      have H' := aM H
      clear H
      go_wp2_with (first | (go_at_call 19; (with_reducible refine (plumblaw07_fixed.calls k  t407 _ A16.out ?hs0).mono ?_); (case hs0 => first | exact StaysLaid.below HS.out HB.out | exact StaysLaid.below HS.out eB); rintro e w17 ⟨rfl, hb⟩; replace HO394 := aM (Kd.R_below (by (with_reducible repeat (first | apply Kd.R_alloc | apply Kd.R_drewN | apply Kd.R_drew)); exact (Kd.R_mono (Kd.R_mono (Kd.R_far (p := ⟨gb406, 2, none⟩) (Kd.R_far (p := ⟨gb406, 1, none⟩) (Kd.R_far (p := ⟨gb406, 0, none⟩) (Kd.R_far (p := ⟨gb390, 2, none⟩) (Kd.R_far (p := ⟨gb390, 1, none⟩) (Kd.R_far (p := ⟨gb390, 0, none⟩) (Kd.R_types (Kd.R_types HO394.out BK390.out (by decide)) BK406.out (by decide)) (fun _ hk => hk.1.2) (.bool t391)) (fun _ hk => hk.1.2) (.slice Ao10 t392.length co10)) (fun _ hk => hk.1.2) (.slice Ao11 t395.length co11)) (fun _ hk => hk.2) (.bool t398)) (fun _ hk => hk.2) (.slice Ao13 t399.length co13)) (fun _ hk => hk.2) (.slice Ao14 t402.length co14)) (fun _ h_ => h_.1)) (fun _ h_ => h_.1))) hb); replace HO397 := aM (Kd.R_below (by (with_reducible repeat (first | apply Kd.R_alloc | apply Kd.R_drewN | apply Kd.R_drew)); exact (Kd.R_mono (Kd.R_mono (Kd.R_far (p := ⟨gb406, 2, none⟩) (Kd.R_far (p := ⟨gb406, 1, none⟩) (Kd.R_far (p := ⟨gb406, 0, none⟩) (Kd.R_far (p := ⟨gb390, 2, none⟩) (Kd.R_far (p := ⟨gb390, 1, none⟩) (Kd.R_far (p := ⟨gb390, 0, none⟩) (Kd.R_types (Kd.R_types HO397.out BK390.out (by decide)) BK406.out (by decide)) (fun _ hk => hk.1.2) (.bool t391)) (fun _ hk => hk.1.2) (.slice Ao10 t392.length co10)) (fun _ hk => hk.1.2) (.slice Ao11 t395.length co11)) (fun _ hk => hk.2) (.bool t398)) (fun _ hk => hk.2) (.slice Ao13 t399.length co13)) (fun _ hk => hk.2) (.slice Ao14 t402.length co14)) (fun _ h_ => h_.1)) (fun _ h_ => h_.1))) hb); replace HO401 := aM (Kd.R_below (by (with_reducible repeat (first | apply Kd.R_alloc | apply Kd.R_drewN | apply Kd.R_drew)); exact (Kd.R_mono (Kd.R_mono (Kd.R_far (p := ⟨gb406, 2, none⟩) (Kd.R_far (p := ⟨gb406, 1, none⟩) (Kd.R_far (p := ⟨gb406, 0, none⟩) (Kd.R_far (p := ⟨gb390, 2, none⟩) (Kd.R_far (p := ⟨gb390, 1, none⟩) (Kd.R_far (p := ⟨gb390, 0, none⟩) (Kd.R_types (Kd.R_types HO401.out BK390.out (by decide)) BK406.out (by decide)) (fun _ hk => hk.1.2) (.bool t391)) (fun _ hk => hk.1.2) (.slice Ao10 t392.length co10)) (fun _ hk => hk.1.2) (.slice Ao11 t395.length co11)) (fun _ hk => hk.2) (.bool t398)) (fun _ hk => hk.2) (.slice Ao13 t399.length co13)) (fun _ hk => hk.2) (.slice Ao14 t402.length co14)) (fun _ h_ => h_.1)) (fun _ h_ => h_.1))) hb); replace HO404 := aM (Kd.R_below (by (with_reducible repeat (first | apply Kd.R_alloc | apply Kd.R_drewN | apply Kd.R_drew)); exact (Kd.R_mono (Kd.R_mono (Kd.R_far (p := ⟨gb406, 2, none⟩) (Kd.R_far (p := ⟨gb406, 1, none⟩) (Kd.R_far (p := ⟨gb406, 0, none⟩) (Kd.R_far (p := ⟨gb390, 2, none⟩) (Kd.R_far (p := ⟨gb390, 1, none⟩) (Kd.R_far (p := ⟨gb390, 0, none⟩) (Kd.R_types (Kd.R_types HO404.out BK390.out (by decide)) BK406.out (by decide)) (fun _ hk => hk.1.2) (.bool t391)) (fun _ hk => hk.1.2) (.slice Ao10 t392.length co10)) (fun _ hk => hk.1.2) (.slice Ao11 t395.length co11)) (fun _ hk => hk.2) (.bool t398)) (fun _ hk => hk.2) (.slice Ao13 t399.length co13)) (fun _ hk => hk.2) (.slice Ao14 t402.length co14)) (fun _ h_ => h_.1)) (fun _ h_ => h_.1))) hb); replace BK390 := aM (blk_below (g := gb390) (o := .cells #[.bool t391, .slice Ao10 t392.length co10, .slice Ao11 t395.length co11] 36 (0, 0)) (dQ1 BK390.out NB390_406.out) hb); replace BK406 := aM (blk_below (g := gb406) (o := .cells #[.bool t398, .slice Ao13 t399.length co13, .slice Ao14 t402.length co14] 46 (0, 0)) (dQ1 BK406.out NB406_390.out) hb); replace HB := hS HB.out hb; (try clear hb)))
      go_meet
      case rel => exact ⟨_, (!t407), dF, H', ⟨dN⟩, ⟨dR HO394.out⟩, ⟨dR HO397.out⟩, ⟨dR HO401.out⟩, ⟨dR HO404.out⟩, ⟨dK BK390.out⟩, ⟨dK BK406.out⟩, ⟨eB⟩⟩
    · replace c15 := Bool.eq_false_iff.mpr c15
      subst c15
      rw [if_neg (show ¬ (false = true) by decide)] at H
      (try dsimp only at H)
      exact absurd H (by simp)
  case rest =>
   as_aux_lemma =>
    clear HC3
    try clear hcz12_0
    try clear hcz12_1
    try clear hcz12_2
    try clear hcz5_0
    try clear hcz5_1
    try clear hcz5_2
    try clear hcz9_0
    try clear hcz9_1
    try clear hcz9_2
    try clear hfz12_0
    try clear hfz12_1
    try clear hfz12_2
    try clear hfz5_0
    try clear hfz5_1
    try clear hfz5_2
    try clear hfz9_0
    try clear hfz9_1
    try clear hfz9_2
    obtain ⟨kq, x36_2, rfl, HA, HJ2, HO_391001, HO_391002, HO_407001, HO_407002, BK390, BK406, HB⟩ := hcut
    cases kq with
    | zero => exact absurd HA.out (by simp [plumblaw07_NearModes.j0])
    | succ kj2 =>
      have H := HA.out
      clear HA
      simp only [plumblaw07_NearModes.j0] at H
      by_cases c18 : x36_2 = true
      · subst c18
        rw [if_pos rfl] at H
        (try dsimp only at H)
        exact absurd H (by simp)
      · replace c18 := Bool.eq_false_iff.mpr c18
        subst c18
        rw [if_neg (show ¬ (false = true) by decide)] at H
        (try dsimp only at H)
        replace H := obe H
        obtain ⟨⟨t408, t409⟩, A190, H⟩ := H
        (try dsimp only at H)
        have A19 := aM A190
        clear A190
        replace H := obe H
        obtain ⟨⟨t410, t411⟩, A200, H⟩ := H
        (try dsimp only at H)
        have A20 := aM A200
        clear A200
        replace H := obe H
        obtain ⟨⟨t412, t413⟩, A210, H⟩ := H
        (try dsimp only at H)
        have A21 := aM A210
        clear A210
        replace H := obe H
        obtain ⟨⟨t414, t415⟩, A220, H⟩ := H
        (try dsimp only at H)
        have A22 := aM A220
        clear A220
        replace H := obe H
        obtain ⟨⟨t416, t417⟩, A230, H⟩ := H
        (try dsimp only at H)
        have A23 := aM A230
        clear A230
        have HC24 := aM H
        clear H
        have hnb25 := NB390_406.out
        have hnc25 := NB406_390.out
        obtain ⟨hcz26_0, hcz26_1, hcz26_2⟩ := cz3 BK390.out
        obtain ⟨hfz26_0, hfz26_1, hfz26_2⟩ := fz3 BK390.out
        go_upto_region 9 with (first | ((with_reducible refine gate_callee (f := 17) rfl ?_); refine gL (some 44) Tryd.func17 #[.bool t391, .slice Ao10 t392.length co10, .slice Ao11 t395.length co11, .int .i64 1] ?_; (with_reducible refine (near_Quotient.calls kj2 t391 _ _ t392 _ _ t395 1 t408 t409 _ ?side1 (Kd.R_reads' HO_391001.out).2.1 ?side3 (Kd.R_reads' HO_391002.out).2.1 A19.out).mono ?_); (case side1 => exact dC (Kd.R_reads' HO_391001.out).2.2); (case side3 => exact dC (Kd.R_reads' HO_391002.out).2.2); rintro e w27 ⟨rfl, hb⟩; refine ⟨_, rfl, ?_⟩; replace HO_391001 := oB HO_391001.out hb; replace HO_391002 := oB HO_391002.out hb; replace HO_407001 := oB HO_407001.out hb; replace HO_407002 := oB HO_407002.out hb; replace BK390 := bB BK390.out hb; replace BK406 := bB BK406.out hb; replace HB := hS HB.out hb; (try clear hb); obtain ⟨hcz28_0, hcz28_1, hcz28_2⟩ := cz3 BK390.out; obtain ⟨hfz28_0, hfz28_1, hfz28_2⟩ := fz3 BK390.out) | ((with_reducible refine gate_callee (f := 17) rfl ?_); refine gL (some 54) Tryd.func17 #[.bool t391, .slice Ao10 t392.length co10, .slice Ao11 t395.length co11, .int .i64 2] ?_; (with_reducible refine (near_Quotient.calls kj2 t391 _ _ t392 _ _ t395 2 t410 t411 _ ?side1 (Kd.R_reads' HO_391001.out).2.1 ?side3 (Kd.R_reads' HO_391002.out).2.1 A20.out).mono ?_); (case side1 => exact dC (Kd.R_reads' HO_391001.out).2.2); (case side3 => exact dC (Kd.R_reads' HO_391002.out).2.2); rintro e w29 ⟨rfl, hb⟩; refine ⟨_, rfl, ?_⟩; replace HO_391001 := oB HO_391001.out hb; replace HO_391002 := oB HO_391002.out hb; replace HO_407001 := oB HO_407001.out hb; replace HO_407002 := oB HO_407002.out hb; replace BK390 := bB BK390.out hb; replace BK406 := bB BK406.out hb; replace HB := hS HB.out hb; (try clear hb); obtain ⟨hcz30_0, hcz30_1, hcz30_2⟩ := cz3 BK390.out; obtain ⟨hfz30_0, hfz30_1, hfz30_2⟩ := fz3 BK390.out) | ((with_reducible refine gate_callee (f := 17) rfl ?_); refine gL (some 64) Tryd.func17 #[.bool t391, .slice Ao10 t392.length co10, .slice Ao11 t395.length co11, .int .i64 3] ?_; (with_reducible refine (near_Quotient.calls kj2 t391 _ _ t392 _ _ t395 3 t412 t413 _ ?side1 (Kd.R_reads' HO_391001.out).2.1 ?side3 (Kd.R_reads' HO_391002.out).2.1 A21.out).mono ?_); (case side1 => exact dC (Kd.R_reads' HO_391001.out).2.2); (case side3 => exact dC (Kd.R_reads' HO_391002.out).2.2); rintro e w31 ⟨rfl, hb⟩; refine ⟨_, rfl, ?_⟩; replace HO_391001 := oB HO_391001.out hb; replace HO_391002 := oB HO_391002.out hb; replace HO_407001 := oB HO_407001.out hb; replace HO_407002 := oB HO_407002.out hb; replace BK390 := bB BK390.out hb; replace BK406 := bB BK406.out hb; replace HB := hS HB.out hb; (try clear hb); obtain ⟨hcz32_0, hcz32_1, hcz32_2⟩ := cz3 BK390.out; obtain ⟨hfz32_0, hfz32_1, hfz32_2⟩ := fz3 BK390.out) | ((with_reducible refine gate_callee (f := 17) rfl ?_); refine gL (some 74) Tryd.func17 #[.bool t391, .slice Ao10 t392.length co10, .slice Ao11 t395.length co11, .int .i64 4] ?_; (with_reducible refine (near_Quotient.calls kj2 t391 _ _ t392 _ _ t395 4 t414 t415 _ ?side1 (Kd.R_reads' HO_391001.out).2.1 ?side3 (Kd.R_reads' HO_391002.out).2.1 A22.out).mono ?_); (case side1 => exact dC (Kd.R_reads' HO_391001.out).2.2); (case side3 => exact dC (Kd.R_reads' HO_391002.out).2.2); rintro e w33 ⟨rfl, hb⟩; refine ⟨_, rfl, ?_⟩; replace HO_391001 := oB HO_391001.out hb; replace HO_391002 := oB HO_391002.out hb; replace HO_407001 := oB HO_407001.out hb; replace HO_407002 := oB HO_407002.out hb; replace BK390 := bB BK390.out hb; replace BK406 := bB BK406.out hb; replace HB := hS HB.out hb; (try clear hb); obtain ⟨hcz34_0, hcz34_1, hcz34_2⟩ := cz3 BK390.out; obtain ⟨hfz34_0, hfz34_1, hfz34_2⟩ := fz3 BK390.out) | ((with_reducible refine gate_callee (f := 17) rfl ?_); refine gL (some 84) Tryd.func17 #[.bool t391, .slice Ao10 t392.length co10, .slice Ao11 t395.length co11, .int .i64 0] ?_; (with_reducible refine (near_Quotient.calls kj2 t391 _ _ t392 _ _ t395 0 t416 t417 _ ?side1 (Kd.R_reads' HO_391001.out).2.1 ?side3 (Kd.R_reads' HO_391002.out).2.1 A23.out).mono ?_); (case side1 => exact dC (Kd.R_reads' HO_391001.out).2.2); (case side3 => exact dC (Kd.R_reads' HO_391002.out).2.2); rintro e w35 ⟨rfl, hb⟩; refine ⟨_, rfl, ?_⟩; replace HO_391001 := oB HO_391001.out hb; replace HO_391002 := oB HO_391002.out hb; replace HO_407001 := oB HO_407001.out hb; replace HO_407002 := oB HO_407002.out hb; replace BK390 := bB BK390.out hb; replace BK406 := bB BK406.out hb; replace HB := hS HB.out hb; (try clear hb)))
        (try simp only [Act.put, List.setIfInBounds_toArray, List.set_cons_zero, List.set_cons_succ])
        go_cut [97] (fun v97 wc => ∃ (kq : Nat) (x97_23 : Bool), v97 = .bool x97_23 ∧ Aside0 (plumblaw07_NearModes.j1 kq t408 t410 t411 t412 t413 t414 t415 t416 t417 x97_23 t391 t392 t395 t398 t399 t402 = some r) ∧ Aside0 (kq ≤ kj2) ∧ Aside0 (Kd.R (Kd.int .u64) 26 wc w.heap.size (fun k_ => some k_ ≠ ((.slice Ao11 t395.length co11) : Value).ownBlock ∧ some k_ ≠ ((.slice Ao13 t399.length co13) : Value).ownBlock ∧ some k_ ≠ ((.slice Ao14 t402.length co14) : Value).ownBlock) (.slice Ao10 t392.length co10) t392) ∧ Aside0 (Kd.R (Kd.int .u64) 26 wc w.heap.size (fun k_ => some k_ ≠ ((.slice Ao10 t392.length co10) : Value).ownBlock ∧ some k_ ≠ ((.slice Ao13 t399.length co13) : Value).ownBlock ∧ some k_ ≠ ((.slice Ao14 t402.length co14) : Value).ownBlock) (.slice Ao11 t395.length co11) t395) ∧ Aside0 (Kd.R (Kd.int .u64) 26 wc w.heap.size (fun k_ => some k_ ≠ ((.slice Ao10 t392.length co10) : Value).ownBlock ∧ some k_ ≠ ((.slice Ao11 t395.length co11) : Value).ownBlock ∧ some k_ ≠ ((.slice Ao14 t402.length co14) : Value).ownBlock) (.slice Ao13 t399.length co13) t399) ∧ Aside0 (Kd.R (Kd.int .u64) 26 wc w.heap.size (fun k_ => some k_ ≠ ((.slice Ao10 t392.length co10) : Value).ownBlock ∧ some k_ ≠ ((.slice Ao11 t395.length co11) : Value).ownBlock ∧ some k_ ≠ ((.slice Ao13 t399.length co13) : Value).ownBlock) (.slice Ao14 t402.length co14) t402) ∧ Aside0 (wc.heap[gb390]? = some (.cells #[.bool t391, (.slice Ao10 t392.length co10), (.slice Ao11 t395.length co11)] 36 (0, 0))) ∧ Aside0 (wc.heap[gb406]? = some (.cells #[.bool t398, (.slice Ao13 t399.length co13), (.slice Ao14 t402.length co14)] 46 (0, 0))) ∧ Aside0 (Below w.heap.size w wc))
        case first =>
         as_aux_lemma =>
          have H := HC24.out
          clear HC24
          replace H := obe H
          obtain ⟨t418, A360, H⟩ := H
          (try dsimp only at H)
          have A36 := aM A360
          clear A360
          by_cases c37 : t418 = 0
          · rw [if_pos c37] at H
            have c37b0 : (t418 == 0) = true := beq_iff_eq.mpr c37
            have c37b1 : (t418 != 0) = false := bne_eq_false_iff_eq.mpr c37
            clear c37
            (first | rw [c37b0] | (simp only [i64_w, i32_w]; rw [c37b0]) | skip)
            have H' := aM H
            clear H
            go_wp2_with (first | ((with_reducible refine gate_callee (f := 15) rfl ?_); refine gL (some 88) Tryd.func15 #[.int .i64 t409] ?_; (with_reducible refine (plumblaw07_num.calls t409 t418 _ A36.out).mono ?_); rintro e w' ⟨rfl, ⟨nd, rfl⟩⟩; refine ⟨_, rfl, ?_⟩; have hnb38 := NB390_406.out; have hnc38 := NB406_390.out; obtain ⟨hcz39_0, hcz39_1, hcz39_2⟩ := cz3 BK390.out; obtain ⟨hfz39_0, hfz39_1, hfz39_2⟩ := fz3 BK390.out))
            go_meet
            case rel => exact ⟨_, ((((Go.bits .and .u64 t408 9223372036854775808) != 0) != t391)), dF, H', ⟨by have := HJ2.out; first | omega | exact Nat.le_refl _⟩, ⟨dR HO_391001.out⟩, ⟨dR HO_391002.out⟩, ⟨dR HO_407001.out⟩, ⟨dR HO_407002.out⟩, ⟨dK BK390.out⟩, ⟨dK BK406.out⟩, ⟨eB⟩⟩
          · rw [if_neg c37] at H
            exact absurd H (by simp)
        case rest =>
         as_aux_lemma =>
          clear HC24
          try clear c18
          try clear hcz12_0
          try clear hcz12_1
          try clear hcz12_2
          try clear hcz26_0
          try clear hcz26_1
          try clear hcz26_2
          try clear hcz28_0
          try clear hcz28_1
          try clear hcz28_2
          try clear hcz30_0
          try clear hcz30_1
          try clear hcz30_2
          try clear hcz32_0
          try clear hcz32_1
          try clear hcz32_2
          try clear hcz34_0
          try clear hcz34_1
          try clear hcz34_2
          try clear hcz5_0
          try clear hcz5_1
          try clear hcz5_2
          try clear hcz9_0
          try clear hcz9_1
          try clear hcz9_2
          try clear hfz12_0
          try clear hfz12_1
          try clear hfz12_2
          try clear hfz26_0
          try clear hfz26_1
          try clear hfz26_2
          try clear hfz28_0
          try clear hfz28_1
          try clear hfz28_2
          try clear hfz30_0
          try clear hfz30_1
          try clear hfz30_2
          try clear hfz32_0
          try clear hfz32_1
          try clear hfz32_2
          try clear hfz34_0
          try clear hfz34_1
          try clear hfz34_2
          try clear hfz5_0
          try clear hfz5_1
          try clear hfz5_2
          try clear hfz9_0
          try clear hfz9_1
          try clear hfz9_2
          obtain ⟨kq, x97_23, rfl, HA, HJ23, HO_391001, HO_391002, HO_407001, HO_407002, BK390, BK406, HB⟩ := hcut
          cases kq with
          | zero => exact absurd HA.out (by simp [plumblaw07_NearModes.j1])
          | succ kj23 =>
            have H := HA.out
            clear HA
            simp only [plumblaw07_NearModes.j1] at H
            by_cases c40 : x97_23 = true
            · subst c40
              rw [if_pos rfl] at H
              (try dsimp only at H)
              exact absurd H (by simp)
            · replace c40 := Bool.eq_false_iff.mpr c40
              subst c40
              rw [if_neg (show ¬ (false = true) by decide)] at H
              (try dsimp only at H)
              have HC41 := aM H
              clear H
              have hnb42 := NB390_406.out
              have hnc42 := NB406_390.out
              obtain ⟨hcz43_0, hcz43_1, hcz43_2⟩ := cz3 BK390.out
              obtain ⟨hfz43_0, hfz43_1, hfz43_2⟩ := fz3 BK390.out
              go_upto_if 103 with (fail)
              go_cut [15, 16, 17, 18] (fun v15 v16 v17 v18 wc => ∃ (kq : Nat) (x15_40 : Int) (x16_40 : Int) (x17_40 : Int) (x18_40 : Int), v15 = .int .u64 x15_40 ∧ v16 = .int .u64 x16_40 ∧ v17 = .int .i64 x17_40 ∧ v18 = .int .i64 x18_40 ∧ Aside0 (plumblaw07_NearModes.j2 kq t408 t410 t411 t416 t417 x15_40 x16_40 x17_40 x18_40 t398 t399 t402 = some r) ∧ Aside0 (kq ≤ kj23) ∧ Aside0 (Kd.R (Kd.int .u64) 26 wc w.heap.size (fun k_ => some k_ ≠ ((.slice Ao11 t395.length co11) : Value).ownBlock ∧ some k_ ≠ ((.slice Ao13 t399.length co13) : Value).ownBlock ∧ some k_ ≠ ((.slice Ao14 t402.length co14) : Value).ownBlock) (.slice Ao10 t392.length co10) t392) ∧ Aside0 (Kd.R (Kd.int .u64) 26 wc w.heap.size (fun k_ => some k_ ≠ ((.slice Ao10 t392.length co10) : Value).ownBlock ∧ some k_ ≠ ((.slice Ao13 t399.length co13) : Value).ownBlock ∧ some k_ ≠ ((.slice Ao14 t402.length co14) : Value).ownBlock) (.slice Ao11 t395.length co11) t395) ∧ Aside0 (Kd.R (Kd.int .u64) 26 wc w.heap.size (fun k_ => some k_ ≠ ((.slice Ao10 t392.length co10) : Value).ownBlock ∧ some k_ ≠ ((.slice Ao11 t395.length co11) : Value).ownBlock ∧ some k_ ≠ ((.slice Ao14 t402.length co14) : Value).ownBlock) (.slice Ao13 t399.length co13) t399) ∧ Aside0 (Kd.R (Kd.int .u64) 26 wc w.heap.size (fun k_ => some k_ ≠ ((.slice Ao10 t392.length co10) : Value).ownBlock ∧ some k_ ≠ ((.slice Ao11 t395.length co11) : Value).ownBlock ∧ some k_ ≠ ((.slice Ao13 t399.length co13) : Value).ownBlock) (.slice Ao14 t402.length co14) t402) ∧ Aside0 (wc.heap[gb390]? = some (.cells #[.bool t391, (.slice Ao10 t392.length co10), (.slice Ao11 t395.length co11)] 36 (0, 0))) ∧ Aside0 (wc.heap[gb406]? = some (.cells #[.bool t398, (.slice Ao13 t399.length co13), (.slice Ao14 t402.length co14)] 46 (0, 0))) ∧ Aside0 (Below w.heap.size w wc))
              case first =>
               as_aux_lemma =>
                have H := HC41.out
                clear HC41
                by_cases c44 : t391 = true
                · subst c44
                  rw [if_pos rfl] at H
                  (try dsimp only at H)
                  have H' := aM H
                  clear H
                  go_wp2
                  go_meet
                  case rel => exact ⟨_, (t414), (t412), (t415), (t413), dF, dF, dF, dF, H', ⟨by have := HJ2.out; have := HJ23.out; first | omega | exact Nat.le_refl _⟩, ⟨dR HO_391001.out⟩, ⟨dR HO_391002.out⟩, ⟨dR HO_407001.out⟩, ⟨dR HO_407002.out⟩, ⟨dK BK390.out⟩, ⟨dK BK406.out⟩, ⟨eB⟩⟩
                · replace c44 := Bool.eq_false_iff.mpr c44
                  subst c44
                  rw [if_neg (show ¬ (false = true) by decide)] at H
                  (try dsimp only at H)
                  have H' := aM H
                  clear H
                  go_wp2
                  go_meet
                  case rel => exact ⟨_, (t412), (t414), (t413), (t415), dF, dF, dF, dF, H', ⟨by have := HJ2.out; have := HJ23.out; first | omega | exact Nat.le_refl _⟩, ⟨dR HO_391001.out⟩, ⟨dR HO_391002.out⟩, ⟨dR HO_407001.out⟩, ⟨dR HO_407002.out⟩, ⟨dK BK390.out⟩, ⟨dK BK406.out⟩, ⟨eB⟩⟩
              case rest =>
               as_aux_lemma =>
                clear HC41
                try clear c18
                try clear c40
                try clear hcz12_0
                try clear hcz12_1
                try clear hcz12_2
                try clear hcz26_0
                try clear hcz26_1
                try clear hcz26_2
                try clear hcz28_0
                try clear hcz28_1
                try clear hcz28_2
                try clear hcz30_0
                try clear hcz30_1
                try clear hcz30_2
                try clear hcz32_0
                try clear hcz32_1
                try clear hcz32_2
                try clear hcz34_0
                try clear hcz34_1
                try clear hcz34_2
                try clear hcz43_0
                try clear hcz43_1
                try clear hcz43_2
                try clear hcz5_0
                try clear hcz5_1
                try clear hcz5_2
                try clear hcz9_0
                try clear hcz9_1
                try clear hcz9_2
                try clear hfz12_0
                try clear hfz12_1
                try clear hfz12_2
                try clear hfz26_0
                try clear hfz26_1
                try clear hfz26_2
                try clear hfz28_0
                try clear hfz28_1
                try clear hfz28_2
                try clear hfz30_0
                try clear hfz30_1
                try clear hfz30_2
                try clear hfz32_0
                try clear hfz32_1
                try clear hfz32_2
                try clear hfz34_0
                try clear hfz34_1
                try clear hfz34_2
                try clear hfz43_0
                try clear hfz43_1
                try clear hfz43_2
                try clear hfz5_0
                try clear hfz5_1
                try clear hfz5_2
                try clear hfz9_0
                try clear hfz9_1
                try clear hfz9_2
                obtain ⟨kq, x15_40, x16_40, x17_40, x18_40, rfl, rfl, rfl, rfl, HA, HJ40, HO_391001, HO_391002, HO_407001, HO_407002, BK390, BK406, HB⟩ := hcut
                cases kq with
                | zero => exact absurd HA.out (by simp [plumblaw07_NearModes.j2])
                | succ kj40 =>
                  have H := HA.out
                  clear HA
                  simp only [plumblaw07_NearModes.j2] at H
                  have HC45 := aM H
                  clear H
                  go_upto_region 16 with (fail)
                  go_cut [127] (fun v127 wc => ∃ (kq : Nat) (x127_44 : Bool), v127 = .bool x127_44 ∧ Aside0 (plumblaw07_NearModes.j3 kq t408 t410 t411 t416 t417 x127_44 t398 t399 t402 = some r) ∧ Aside0 (kq ≤ kj40) ∧ Aside0 (Kd.R (Kd.int .u64) 26 wc w.heap.size (fun k_ => some k_ ≠ ((.slice Ao11 t395.length co11) : Value).ownBlock ∧ some k_ ≠ ((.slice Ao13 t399.length co13) : Value).ownBlock ∧ some k_ ≠ ((.slice Ao14 t402.length co14) : Value).ownBlock) (.slice Ao10 t392.length co10) t392) ∧ Aside0 (Kd.R (Kd.int .u64) 26 wc w.heap.size (fun k_ => some k_ ≠ ((.slice Ao10 t392.length co10) : Value).ownBlock ∧ some k_ ≠ ((.slice Ao13 t399.length co13) : Value).ownBlock ∧ some k_ ≠ ((.slice Ao14 t402.length co14) : Value).ownBlock) (.slice Ao11 t395.length co11) t395) ∧ Aside0 (Kd.R (Kd.int .u64) 26 wc w.heap.size (fun k_ => some k_ ≠ ((.slice Ao10 t392.length co10) : Value).ownBlock ∧ some k_ ≠ ((.slice Ao11 t395.length co11) : Value).ownBlock ∧ some k_ ≠ ((.slice Ao14 t402.length co14) : Value).ownBlock) (.slice Ao13 t399.length co13) t399) ∧ Aside0 (Kd.R (Kd.int .u64) 26 wc w.heap.size (fun k_ => some k_ ≠ ((.slice Ao10 t392.length co10) : Value).ownBlock ∧ some k_ ≠ ((.slice Ao11 t395.length co11) : Value).ownBlock ∧ some k_ ≠ ((.slice Ao13 t399.length co13) : Value).ownBlock) (.slice Ao14 t402.length co14) t402) ∧ Aside0 (wc.heap[gb390]? = some (.cells #[.bool t391, (.slice Ao10 t392.length co10), (.slice Ao11 t395.length co11)] 36 (0, 0))) ∧ Aside0 (wc.heap[gb406]? = some (.cells #[.bool t398, (.slice Ao13 t399.length co13), (.slice Ao14 t402.length co14)] 46 (0, 0))) ∧ Aside0 (Below w.heap.size w wc))
                  case first =>
                   as_aux_lemma =>
                    have H := HC45.out
                    clear HC45
                    by_cases c46 : x15_40 = t410
                    · rw [if_pos c46] at H
                      have c46b0 : (x15_40 == t410) = true := beq_iff_eq.mpr c46
                      have c46b1 : (x15_40 != t410) = false := bne_eq_false_iff_eq.mpr c46
                      clear c46
                      (first | rw [c46b0] | (simp only [i64_w, i32_w]; rw [c46b0]) | skip)
                      replace H := obe H
                      obtain ⟨t419, A470, H⟩ := H
                      (try dsimp only at H)
                      have A47 := aM A470
                      clear A470
                      replace H := obe H
                      obtain ⟨t420, A480, H⟩ := H
                      (try dsimp only at H)
                      have A48 := aM A480
                      clear A480
                      by_cases c49 : t419 = t420
                      · rw [if_pos c49] at H
                        have c49b0 : (t419 == t420) = true := beq_iff_eq.mpr c49
                        have c49b1 : (t419 != t420) = false := bne_eq_false_iff_eq.mpr c49
                        clear c49
                        by_cases c50 : x16_40 = t408
                        · rw [if_pos c50] at H
                          have c50b0 : (x16_40 == t408) = true := beq_iff_eq.mpr c50
                          have c50b1 : (x16_40 != t408) = false := bne_eq_false_iff_eq.mpr c50
                          clear c50
                          replace H := obe H
                          obtain ⟨t421, A510, H⟩ := H
                          (try dsimp only at H)
                          have A51 := aM A510
                          clear A510
                          have H' := aM H
                          clear H
                          go_wp2_with (first | (go_at_call 15; (with_reducible refine (plumblaw07_num.calls x17_40 t419 _ A47.out).mono ?_); rintro e w' ⟨rfl, ⟨nd, rfl⟩⟩) | (go_at_call 15; (with_reducible refine (plumblaw07_num.calls t411 t420 _ A48.out).mono ?_); rintro e w' ⟨rfl, ⟨nd, rfl⟩⟩) | (go_at_call 15; (with_reducible refine (plumblaw07_num.calls x18_40 t421 _ A51.out).mono ?_); rintro e w' ⟨rfl, ⟨nd, rfl⟩⟩))
                          go_meet
                          case rel => exact ⟨_, ((t421 != 0)), dF, H', ⟨by have := HJ2.out; have := HJ23.out; have := HJ40.out; first | omega | exact Nat.le_refl _⟩, ⟨dR HO_391001.out⟩, ⟨dR HO_391002.out⟩, ⟨dR HO_407001.out⟩, ⟨dR HO_407002.out⟩, ⟨dK BK390.out⟩, ⟨dK BK406.out⟩, ⟨eB⟩⟩
                        · rw [if_neg c50] at H
                          exact absurd H (by simp)
                      · rw [if_neg c49] at H
                        exact absurd H (by simp)
                    · rw [if_neg c46] at H
                      exact absurd H (by simp)
                  case rest =>
                   as_aux_lemma =>
                    clear HC45
                    try clear c18
                    try clear c40
                    try clear hcz12_0
                    try clear hcz12_1
                    try clear hcz12_2
                    try clear hcz26_0
                    try clear hcz26_1
                    try clear hcz26_2
                    try clear hcz28_0
                    try clear hcz28_1
                    try clear hcz28_2
                    try clear hcz30_0
                    try clear hcz30_1
                    try clear hcz30_2
                    try clear hcz32_0
                    try clear hcz32_1
                    try clear hcz32_2
                    try clear hcz34_0
                    try clear hcz34_1
                    try clear hcz34_2
                    try clear hcz43_0
                    try clear hcz43_1
                    try clear hcz43_2
                    try clear hcz5_0
                    try clear hcz5_1
                    try clear hcz5_2
                    try clear hcz9_0
                    try clear hcz9_1
                    try clear hcz9_2
                    try clear hfz12_0
                    try clear hfz12_1
                    try clear hfz12_2
                    try clear hfz26_0
                    try clear hfz26_1
                    try clear hfz26_2
                    try clear hfz28_0
                    try clear hfz28_1
                    try clear hfz28_2
                    try clear hfz30_0
                    try clear hfz30_1
                    try clear hfz30_2
                    try clear hfz32_0
                    try clear hfz32_1
                    try clear hfz32_2
                    try clear hfz34_0
                    try clear hfz34_1
                    try clear hfz34_2
                    try clear hfz43_0
                    try clear hfz43_1
                    try clear hfz43_2
                    try clear hfz5_0
                    try clear hfz5_1
                    try clear hfz5_2
                    try clear hfz9_0
                    try clear hfz9_1
                    try clear hfz9_2
                    obtain ⟨kq, x127_44, rfl, HA, HJ44, HO_391001, HO_391002, HO_407001, HO_407002, BK390, BK406, HB⟩ := hcut
                    cases kq with
                    | zero => exact absurd HA.out (by simp [plumblaw07_NearModes.j3])
                    | succ kj44 =>
                      have H := HA.out
                      clear HA
                      simp only [plumblaw07_NearModes.j3] at H
                      by_cases c52 : x127_44 = true
                      · subst c52
                        rw [if_pos rfl] at H
                        (try dsimp only at H)
                        exact absurd H (by simp)
                      · replace c52 := Bool.eq_false_iff.mpr c52
                        subst c52
                        rw [if_neg (show ¬ (false = true) by decide)] at H
                        (try dsimp only at H)
                        replace H := obe H
                        obtain ⟨⟨t422, t423, t426, t429⟩, A530, H⟩ := H
                        (try dsimp only at H)
                        have A53 := aM A530
                        clear A530
                        replace H := obe H
                        obtain ⟨⟨t431, t432, t435⟩, A540, H⟩ := H
                        (try dsimp only at H)
                        have A54 := aM A540
                        clear A540
                        replace H := obe H
                        obtain ⟨t439, A550, H⟩ := H
                        (try dsimp only at H)
                        have A55 := aM A550
                        clear A550
                        have HC56 := aM H
                        clear H
                        go_upto_region 21 with (first | ((with_reducible refine gate_callee (f := 25) rfl ?_); refine gL (some 131) Tryd.func25 #[.int .u64 (Go.bits .andNot .u64 t408 9223372036854775808)] ?_; (with_reducible refine (plumblaw07_value.calls kj44 (Go.bits .andNot .u64 t408 9223372036854775808) t422 t423 t426 t429 _ A53.out).mono ?_); rintro e w57 ⟨v424, v427, rfl, ho0, ho1, hb⟩; refine ⟨_, rfl, ?_⟩; have HO425 := aM (Kd.R_lower (Kd.R_new' (Kd.R_new' (Kd.R_new' (Kd.R_new' ho0 (Kd.R_lt (dR HO_391001.out))) (Kd.R_lt (dR HO_391002.out))) (Kd.R_lt (dR HO_407001.out))) (Kd.R_lt (dR HO_407002.out))) (below_size eB)); have HO428 := aM (Kd.R_lower (Kd.R_new' (Kd.R_new' (Kd.R_new' (Kd.R_new' ho1 (Kd.R_lt (dR HO_391001.out))) (Kd.R_lt (dR HO_391002.out))) (Kd.R_lt (dR HO_407001.out))) (Kd.R_lt (dR HO_407002.out))) (below_size eB)); replace HO_391001 := aM (Kd.R_mono (Kd.R_told (Kd.R_told (Kd.R_old (dR HO_391001.out) hb) (Kd.R_base ho0)) (Kd.R_base ho1)) (fun _ h_ => h_.1)); replace HO_391002 := aM (Kd.R_mono (Kd.R_told (Kd.R_told (Kd.R_old (dR HO_391002.out) hb) (Kd.R_base ho0)) (Kd.R_base ho1)) (fun _ h_ => h_.1)); replace HO_407001 := aM (Kd.R_mono (Kd.R_told (Kd.R_told (Kd.R_old (dR HO_407001.out) hb) (Kd.R_base ho0)) (Kd.R_base ho1)) (fun _ h_ => h_.1)); replace HO_407002 := aM (Kd.R_mono (Kd.R_told (Kd.R_told (Kd.R_old (dR HO_407002.out) hb) (Kd.R_base ho0)) (Kd.R_base ho1)) (fun _ h_ => h_.1)); replace BK390 := bB BK390.out hb; replace BK406 := bB BK406.out hb; replace HB := hS HB.out hb; (try clear hb); (try clear ho0); (try clear ho1)) | ((with_reducible refine gate_dst (N := 19) rfl ?_); refine bE 19 #[.bool false, .slice none 0 0, .slice none 0 0] 46 ?_; intro gb430 hg w58 hbox hb; replace HO_391001 := oB HO_391001.out hb; replace HO_391002 := oB HO_391002.out hb; replace HO_407001 := oB HO_407001.out hb; replace HO_407002 := oB HO_407002.out hb; replace HO425 := oB HO425.out hb; replace HO428 := oB HO428.out hb; have BK430 := aM (hbox); have GE430 : Aside0 (w.heap.size ≤ gb430) := gE hg; replace HB := hS HB.out hb; have NB390_430 := nL hg BK390.out; have NB430_390 := nG hg BK390.out; replace BK390 := bB BK390.out hb; have NB406_430 := nL hg BK406.out; have NB430_406 := nG hg BK406.out; replace BK406 := bB BK406.out hb; clear hb hbox hg; have hnb59 := NB430_390.out; have hnc59 := NB390_430.out; have hnb60 := NB430_406.out; have hnc60 := NB406_430.out; obtain ⟨hcz61_0, hcz61_1, hcz61_2⟩ := cz3 BK430.out; obtain ⟨hfz61_0, hfz61_1, hfz61_2⟩ := fz3 BK430.out; obtain ⟨Ao62, co62, rfl⟩ := Kd.R_slice HO425.out; obtain ⟨Ao63, co63, rfl⟩ := Kd.R_slice HO428.out) | ((with_reducible refine gate_store (t := 46) (p := 19) rfl ?_); refine store_event (t := 46) (p := 19) (v := ?vo_w64) (w1 := (((w58.setCell ⟨gb430, 0, none⟩ (.bool t422)).setCell ⟨gb430, 1, none⟩ (.slice Ao62 t423.length co62)).setCell ⟨gb430, 2, none⟩ (.slice Ao63 t426.length co63))) ?hg ?ho ?hn ?hr ?_; (case ho => rfl); (case hg => rfl); (case hn => rfl); (case hr => first | (go_simp; done) | (go_simp; rfl)); intro w64 hw; have n0_ : Aside0 (Kd.R (Kd.int .u64) 26 w64 w.heap.size (fun k_ => some k_ ≠ (.slice Ao11 t395.length co11 : Value).ownBlock ∧ some k_ ≠ (.slice Ao13 t399.length co13 : Value).ownBlock ∧ some k_ ≠ (.slice Ao14 t402.length co14 : Value).ownBlock ∧ some k_ ≠ (.slice Ao62 t423.length co62 : Value).ownBlock ∧ some k_ ≠ (.slice Ao63 t426.length co63 : Value).ownBlock) (.slice Ao10 t392.length co10) t392) := ⟨(by rw [hw]; exact (by (with_reducible repeat (first | apply Kd.R_alloc | apply Kd.R_drewN | apply Kd.R_drew)); exact Kd.R_mono (Kd.R_far (p := ⟨gb430, 2, none⟩) (Kd.R_far (p := ⟨gb430, 1, none⟩) (Kd.R_far (p := ⟨gb430, 0, none⟩) (Kd.R_types HO_391001.out BK430.out (by decide)) (fun _ hk => hk.2) (.bool t422)) (fun _ hk => hk.2) (.slice Ao62 t423.length co62)) (fun _ hk => hk.2) (.slice Ao63 t426.length co63)) (fun _ hk => ⟨hk.1.1.1.1, ⟨hk.1.1.1.2.1, ⟨hk.1.1.1.2.2, ⟨hk.1.1.2, hk.1.2⟩⟩⟩⟩)))⟩; have n1_ : Aside0 (Kd.R (Kd.int .u64) 26 w64 w.heap.size (fun k_ => some k_ ≠ (.slice Ao10 t392.length co10 : Value).ownBlock ∧ some k_ ≠ (.slice Ao13 t399.length co13 : Value).ownBlock ∧ some k_ ≠ (.slice Ao14 t402.length co14 : Value).ownBlock ∧ some k_ ≠ (.slice Ao62 t423.length co62 : Value).ownBlock ∧ some k_ ≠ (.slice Ao63 t426.length co63 : Value).ownBlock) (.slice Ao11 t395.length co11) t395) := ⟨(by rw [hw]; exact (by (with_reducible repeat (first | apply Kd.R_alloc | apply Kd.R_drewN | apply Kd.R_drew)); exact Kd.R_mono (Kd.R_far (p := ⟨gb430, 2, none⟩) (Kd.R_far (p := ⟨gb430, 1, none⟩) (Kd.R_far (p := ⟨gb430, 0, none⟩) (Kd.R_types HO_391002.out BK430.out (by decide)) (fun _ hk => hk.2) (.bool t422)) (fun _ hk => hk.2) (.slice Ao62 t423.length co62)) (fun _ hk => hk.2) (.slice Ao63 t426.length co63)) (fun _ hk => ⟨hk.1.1.1.1, ⟨hk.1.1.1.2.1, ⟨hk.1.1.1.2.2, ⟨hk.1.1.2, hk.1.2⟩⟩⟩⟩)))⟩; have n2_ : Aside0 (Kd.R (Kd.int .u64) 26 w64 w.heap.size (fun k_ => some k_ ≠ (.slice Ao10 t392.length co10 : Value).ownBlock ∧ some k_ ≠ (.slice Ao11 t395.length co11 : Value).ownBlock ∧ some k_ ≠ (.slice Ao14 t402.length co14 : Value).ownBlock ∧ some k_ ≠ (.slice Ao62 t423.length co62 : Value).ownBlock ∧ some k_ ≠ (.slice Ao63 t426.length co63 : Value).ownBlock) (.slice Ao13 t399.length co13) t399) := ⟨(by rw [hw]; exact (by (with_reducible repeat (first | apply Kd.R_alloc | apply Kd.R_drewN | apply Kd.R_drew)); exact Kd.R_mono (Kd.R_far (p := ⟨gb430, 2, none⟩) (Kd.R_far (p := ⟨gb430, 1, none⟩) (Kd.R_far (p := ⟨gb430, 0, none⟩) (Kd.R_types HO_407001.out BK430.out (by decide)) (fun _ hk => hk.2) (.bool t422)) (fun _ hk => hk.2) (.slice Ao62 t423.length co62)) (fun _ hk => hk.2) (.slice Ao63 t426.length co63)) (fun _ hk => ⟨hk.1.1.1.1, ⟨hk.1.1.1.2.1, ⟨hk.1.1.1.2.2, ⟨hk.1.1.2, hk.1.2⟩⟩⟩⟩)))⟩; have n3_ : Aside0 (Kd.R (Kd.int .u64) 26 w64 w.heap.size (fun k_ => some k_ ≠ (.slice Ao10 t392.length co10 : Value).ownBlock ∧ some k_ ≠ (.slice Ao11 t395.length co11 : Value).ownBlock ∧ some k_ ≠ (.slice Ao13 t399.length co13 : Value).ownBlock ∧ some k_ ≠ (.slice Ao62 t423.length co62 : Value).ownBlock ∧ some k_ ≠ (.slice Ao63 t426.length co63 : Value).ownBlock) (.slice Ao14 t402.length co14) t402) := ⟨(by rw [hw]; exact (by (with_reducible repeat (first | apply Kd.R_alloc | apply Kd.R_drewN | apply Kd.R_drew)); exact Kd.R_mono (Kd.R_far (p := ⟨gb430, 2, none⟩) (Kd.R_far (p := ⟨gb430, 1, none⟩) (Kd.R_far (p := ⟨gb430, 0, none⟩) (Kd.R_types HO_407002.out BK430.out (by decide)) (fun _ hk => hk.2) (.bool t422)) (fun _ hk => hk.2) (.slice Ao62 t423.length co62)) (fun _ hk => hk.2) (.slice Ao63 t426.length co63)) (fun _ hk => ⟨hk.1.1.1.1, ⟨hk.1.1.1.2.1, ⟨hk.1.1.1.2.2, ⟨hk.1.1.2, hk.1.2⟩⟩⟩⟩)))⟩; have n4_ : Aside0 (Kd.R (Kd.int .u64) 26 w64 w.heap.size (fun k_ => some k_ ≠ (.slice Ao10 t392.length co10 : Value).ownBlock ∧ some k_ ≠ (.slice Ao11 t395.length co11 : Value).ownBlock ∧ some k_ ≠ (.slice Ao13 t399.length co13 : Value).ownBlock ∧ some k_ ≠ (.slice Ao14 t402.length co14 : Value).ownBlock ∧ some k_ ≠ (.slice Ao63 t426.length co63 : Value).ownBlock) (.slice Ao62 t423.length co62) t423) := ⟨(by rw [hw]; exact (by (with_reducible repeat (first | apply Kd.R_alloc | apply Kd.R_drewN | apply Kd.R_drew)); exact Kd.R_mono (Kd.R_far (p := ⟨gb430, 2, none⟩) (Kd.R_far (p := ⟨gb430, 1, none⟩) (Kd.R_far (p := ⟨gb430, 0, none⟩) (Kd.R_types HO425.out BK430.out (by decide)) (fun _ hk => hk.2) (.bool t422)) (fun _ hk => hk.2) (.slice Ao62 t423.length co62)) (fun _ hk => hk.2) (.slice Ao63 t426.length co63)) (fun _ hk => ⟨hk.1.1.1.1.2, ⟨hk.1.1.1.2, ⟨hk.1.1.2, ⟨hk.1.2, hk.1.1.1.1.1⟩⟩⟩⟩)))⟩; have n5_ : Aside0 (Kd.R (Kd.int .u64) 26 w64 w.heap.size (fun k_ => some k_ ≠ (.slice Ao10 t392.length co10 : Value).ownBlock ∧ some k_ ≠ (.slice Ao11 t395.length co11 : Value).ownBlock ∧ some k_ ≠ (.slice Ao13 t399.length co13 : Value).ownBlock ∧ some k_ ≠ (.slice Ao14 t402.length co14 : Value).ownBlock ∧ some k_ ≠ (.slice Ao62 t423.length co62 : Value).ownBlock) (.slice Ao63 t426.length co63) t426) := ⟨(by rw [hw]; exact (by (with_reducible repeat (first | apply Kd.R_alloc | apply Kd.R_drewN | apply Kd.R_drew)); exact Kd.R_mono (Kd.R_far (p := ⟨gb430, 2, none⟩) (Kd.R_far (p := ⟨gb430, 1, none⟩) (Kd.R_far (p := ⟨gb430, 0, none⟩) (Kd.R_types HO428.out BK430.out (by decide)) (fun _ hk => hk.2) (.bool t422)) (fun _ hk => hk.2) (.slice Ao62 t423.length co62)) (fun _ hk => hk.2) (.slice Ao63 t426.length co63)) (fun _ hk => ⟨hk.1.1.1.1.2, ⟨hk.1.1.1.2, ⟨hk.1.1.2, ⟨hk.1.2, hk.1.1.1.1.1⟩⟩⟩⟩)))⟩; have n6_ : Aside0 (w64.heap[gb390]? = some (.cells #[.bool t391, .slice Ao10 t392.length co10, .slice Ao11 t395.length co11] 36 (0, 0))) := ⟨(by rw [hw]; exact (dQ1 BK390.out NB390_430.out))⟩; have n7_ : Aside0 (w64.heap[gb406]? = some (.cells #[.bool t398, .slice Ao13 t399.length co13, .slice Ao14 t402.length co14] 46 (0, 0))) := ⟨(by rw [hw]; exact (dQ1 BK406.out NB406_430.out))⟩; have n8_ : Aside0 (w64.heap[gb430]? = some (.cells #[.bool t422, .slice Ao62 t423.length co62, .slice Ao63 t426.length co63] 46 (0, 0))) := ⟨(by rw [hw]; exact (dP BK430.out))⟩; have n9_ : Aside0 (Below w.heap.size w w64) := ⟨(by rw [hw]; exact eB)⟩; clear hw; clear HO_391001; clear HO_391002; clear HO_407001; clear HO_407002; clear HO425; clear HO428; clear BK390; clear BK406; clear BK430; clear HB; have HO_391001 := n0_; have HO_391002 := n1_; have HO_407001 := n2_; have HO_407002 := n3_; have HO425 := n4_; have HO428 := n5_; have BK390 := n6_; have BK406 := n7_; have BK430 := n8_; have HB := n9_; clear n0_ n1_ n2_ n3_ n4_ n5_ n6_ n7_ n8_ n9_; have hnb65 := NB406_390.out; have hnc65 := NB390_406.out; obtain ⟨hcz66_0, hcz66_1, hcz66_2⟩ := cz3 BK406.out; obtain ⟨hfz66_0, hfz66_1, hfz66_2⟩ := fz3 BK406.out) | ((with_reducible refine gate_callee (f := 26) rfl ?_); refine gL (some 135) Tryd.func26 #[.agg #[.bool t398, .slice Ao13 t399.length co13, .slice Ao14 t402.length co14]] ?_; (with_reducible refine (plumblaw07_size.calls t398 (fun k_ => some k_ = (.slice Ao13 t399.length co13 : Value).ownBlock) (.slice Ao13 t399.length co13) t399 (fun k_ => some k_ = (.slice Ao14 t402.length co14 : Value).ownBlock) (.slice Ao14 t402.length co14) t402 t431 t432 t435 w _ ?side1 ?side2 ?side3 ?side4 ?side5 A54.out).mono ?_); (case side1 => repeat (first | (with_reducible first | exact HB.out | apply below_alloc | apply pw_below_drewN | apply below_drew1 | refine below_set ?_ GE390.out | refine below_set ?_ GE406.out | refine below_set ?_ GE430.out) | exact HB.out)); (case side2 => exact Kd.R_tight rfl HO_407001.out); (case side3 => exact fun k_ e_ => (HO_407001.out.1 k_ e_.symm).2.2.1); (case side4 => exact Kd.R_tight rfl HO_407002.out); (case side5 => exact fun k_ e_ => (HO_407002.out.1 k_ e_.symm).2.2.1); rintro e w67 ⟨v433, v436, rfl, ho0, ho1, hb, hkp⟩; refine ⟨_, rfl, ?_⟩; replace BK390 := aM (blk_kept (dK BK390.out) hkp (fun hs_ => Or.elim hs_ (fun e_ => (fun e_ => (Kd.R_ne HO_407001.out BK390.out (by decide)) e_) e_) (fun e_ => (fun e_ => (Kd.R_ne HO_407002.out BK390.out (by decide)) e_) e_))); replace BK406 := aM (blk_kept (dK BK406.out) hkp (fun hs_ => Or.elim hs_ (fun e_ => (fun e_ => (Kd.R_ne HO_407001.out BK406.out (by decide)) e_) e_) (fun e_ => (fun e_ => (Kd.R_ne HO_407002.out BK406.out (by decide)) e_) e_))); replace BK430 := aM (blk_kept (dK BK430.out) hkp (fun hs_ => Or.elim hs_ (fun e_ => (fun e_ => (Kd.R_ne HO_407001.out BK430.out (by decide)) e_) e_) (fun e_ => (fun e_ => (Kd.R_ne HO_407002.out BK430.out (by decide)) e_) e_))); have HO434 := aM (Kd.R_mono (ok' := fun k_ => some k_ ≠ (v436 : Value).ownBlock ∧ some k_ ≠ (.slice Ao10 t392.length co10 : Value).ownBlock ∧ some k_ ≠ (.slice Ao11 t395.length co11 : Value).ownBlock ∧ some k_ ≠ (.slice Ao62 t423.length co62 : Value).ownBlock ∧ some k_ ≠ (.slice Ao63 t426.length co63 : Value).ownBlock) ho0 (fun k_ hk_ => ⟨hk_.2, Or.elim hk_.1 (fun hs_ => Or.elim hs_ (fun hs_ => fun e_ => (((HO_391001.out).1 k_ e_.symm).2.1) hs_) (fun hs_ => fun e_ => (((HO_391001.out).1 k_ e_.symm).2.2.1) hs_)) (fun hn_ => (Kd.fresh' (Kd.R_lt (dR HO_391001.out)) k_ hn_)), Or.elim hk_.1 (fun hs_ => Or.elim hs_ (fun hs_ => fun e_ => (((HO_391002.out).1 k_ e_.symm).2.1) hs_) (fun hs_ => fun e_ => (((HO_391002.out).1 k_ e_.symm).2.2.1) hs_)) (fun hn_ => (Kd.fresh' (Kd.R_lt (dR HO_391002.out)) k_ hn_)), Or.elim hk_.1 (fun hs_ => Or.elim hs_ (fun hs_ => fun e_ => (((HO425.out).1 k_ e_.symm).2.2.1) hs_) (fun hs_ => fun e_ => (((HO425.out).1 k_ e_.symm).2.2.2.1) hs_)) (fun hn_ => (Kd.fresh' (Kd.R_lt (dR HO425.out)) k_ hn_)), Or.elim hk_.1 (fun hs_ => Or.elim hs_ (fun hs_ => fun e_ => (((HO428.out).1 k_ e_.symm).2.2.1) hs_) (fun hs_ => fun e_ => (((HO428.out).1 k_ e_.symm).2.2.2.1) hs_)) (fun hn_ => (Kd.fresh' (Kd.R_lt (dR HO428.out)) k_ hn_))⟩)); have HO437 := aM (Kd.R_mono (ok' := fun k_ => some k_ ≠ (v433 : Value).ownBlock ∧ some k_ ≠ (.slice Ao10 t392.length co10 : Value).ownBlock ∧ some k_ ≠ (.slice Ao11 t395.length co11 : Value).ownBlock ∧ some k_ ≠ (.slice Ao62 t423.length co62 : Value).ownBlock ∧ some k_ ≠ (.slice Ao63 t426.length co63 : Value).ownBlock) ho1 (fun k_ hk_ => ⟨hk_.2, Or.elim hk_.1 (fun hs_ => Or.elim hs_ (fun hs_ => fun e_ => (((HO_391001.out).1 k_ e_.symm).2.1) hs_) (fun hs_ => fun e_ => (((HO_391001.out).1 k_ e_.symm).2.2.1) hs_)) (fun hn_ => (Kd.fresh' (Kd.R_lt (dR HO_391001.out)) k_ hn_)), Or.elim hk_.1 (fun hs_ => Or.elim hs_ (fun hs_ => fun e_ => (((HO_391002.out).1 k_ e_.symm).2.1) hs_) (fun hs_ => fun e_ => (((HO_391002.out).1 k_ e_.symm).2.2.1) hs_)) (fun hn_ => (Kd.fresh' (Kd.R_lt (dR HO_391002.out)) k_ hn_)), Or.elim hk_.1 (fun hs_ => Or.elim hs_ (fun hs_ => fun e_ => (((HO425.out).1 k_ e_.symm).2.2.1) hs_) (fun hs_ => fun e_ => (((HO425.out).1 k_ e_.symm).2.2.2.1) hs_)) (fun hn_ => (Kd.fresh' (Kd.R_lt (dR HO425.out)) k_ hn_)), Or.elim hk_.1 (fun hs_ => Or.elim hs_ (fun hs_ => fun e_ => (((HO428.out).1 k_ e_.symm).2.2.1) hs_) (fun hs_ => fun e_ => (((HO428.out).1 k_ e_.symm).2.2.2.1) hs_)) (fun hn_ => (Kd.fresh' (Kd.R_lt (dR HO428.out)) k_ hn_))⟩)); replace HO_391001 := aM (Kd.R_mono (ok' := fun k_ => some k_ ≠ (.slice Ao11 t395.length co11 : Value).ownBlock ∧ some k_ ≠ (.slice Ao62 t423.length co62 : Value).ownBlock ∧ some k_ ≠ (.slice Ao63 t426.length co63 : Value).ownBlock ∧ some k_ ≠ (v433 : Value).ownBlock ∧ some k_ ≠ (v436 : Value).ownBlock) (Kd.R_keptB (HO_391001.out) hkp (fun k_ hk_ hs_ => Or.elim hs_ (fun e_ => (hk_.2.1) e_) (fun e_ => (hk_.2.2.1) e_))) (fun k_ hk_ => ⟨hk_.1.1, hk_.1.2.2.2.1, hk_.1.2.2.2.2, fun e_ => Or.elim (ho0.1 k_ e_.symm).1 (fun hs_ => hk_.2.1 hs_) (fun hn_ => Nat.not_le.2 hk_.2.2 hn_), fun e_ => Or.elim (ho1.1 k_ e_.symm).1 (fun hs_ => hk_.2.1 hs_) (fun hn_ => Nat.not_le.2 hk_.2.2 hn_)⟩)); replace HO_391002 := aM (Kd.R_mono (ok' := fun k_ => some k_ ≠ (.slice Ao10 t392.length co10 : Value).ownBlock ∧ some k_ ≠ (.slice Ao62 t423.length co62 : Value).ownBlock ∧ some k_ ≠ (.slice Ao63 t426.length co63 : Value).ownBlock ∧ some k_ ≠ (v433 : Value).ownBlock ∧ some k_ ≠ (v436 : Value).ownBlock) (Kd.R_keptB (HO_391002.out) hkp (fun k_ hk_ hs_ => Or.elim hs_ (fun e_ => (hk_.2.1) e_) (fun e_ => (hk_.2.2.1) e_))) (fun k_ hk_ => ⟨hk_.1.1, hk_.1.2.2.2.1, hk_.1.2.2.2.2, fun e_ => Or.elim (ho0.1 k_ e_.symm).1 (fun hs_ => hk_.2.1 hs_) (fun hn_ => Nat.not_le.2 hk_.2.2 hn_), fun e_ => Or.elim (ho1.1 k_ e_.symm).1 (fun hs_ => hk_.2.1 hs_) (fun hn_ => Nat.not_le.2 hk_.2.2 hn_)⟩)); replace HO425 := aM (Kd.R_mono (ok' := fun k_ => some k_ ≠ (.slice Ao10 t392.length co10 : Value).ownBlock ∧ some k_ ≠ (.slice Ao11 t395.length co11 : Value).ownBlock ∧ some k_ ≠ (.slice Ao63 t426.length co63 : Value).ownBlock ∧ some k_ ≠ (v433 : Value).ownBlock ∧ some k_ ≠ (v436 : Value).ownBlock) (Kd.R_keptB (HO425.out) hkp (fun k_ hk_ hs_ => Or.elim hs_ (fun e_ => (hk_.2.2.1) e_) (fun e_ => (hk_.2.2.2.1) e_))) (fun k_ hk_ => ⟨hk_.1.1, hk_.1.2.1, hk_.1.2.2.2.2, fun e_ => Or.elim (ho0.1 k_ e_.symm).1 (fun hs_ => hk_.2.1 hs_) (fun hn_ => Nat.not_le.2 hk_.2.2 hn_), fun e_ => Or.elim (ho1.1 k_ e_.symm).1 (fun hs_ => hk_.2.1 hs_) (fun hn_ => Nat.not_le.2 hk_.2.2 hn_)⟩)); replace HO428 := aM (Kd.R_mono (ok' := fun k_ => some k_ ≠ (.slice Ao10 t392.length co10 : Value).ownBlock ∧ some k_ ≠ (.slice Ao11 t395.length co11 : Value).ownBlock ∧ some k_ ≠ (.slice Ao62 t423.length co62 : Value).ownBlock ∧ some k_ ≠ (v433 : Value).ownBlock ∧ some k_ ≠ (v436 : Value).ownBlock) (Kd.R_keptB (HO428.out) hkp (fun k_ hk_ hs_ => Or.elim hs_ (fun e_ => (hk_.2.2.1) e_) (fun e_ => (hk_.2.2.2.1) e_))) (fun k_ hk_ => ⟨hk_.1.1, hk_.1.2.1, hk_.1.2.2.2.2, fun e_ => Or.elim (ho0.1 k_ e_.symm).1 (fun hs_ => hk_.2.1 hs_) (fun hn_ => Nat.not_le.2 hk_.2.2 hn_), fun e_ => Or.elim (ho1.1 k_ e_.symm).1 (fun hs_ => hk_.2.1 hs_) (fun hn_ => Nat.not_le.2 hk_.2.2 hn_)⟩)); replace HB := aM (hb); clear HO_407001; clear HO_407002; (try clear hb); (try clear hkp); (try clear ho0); (try clear ho1)) | ((with_reducible refine gate_dst (N := 21) rfl ?_); refine bE 21 #[.bool false, .slice none 0 0, .slice none 0 0] 46 ?_; intro gb438 hg w68 hbox hb; replace HO_391001 := oB HO_391001.out hb; replace HO_391002 := oB HO_391002.out hb; replace HO425 := oB HO425.out hb; replace HO428 := oB HO428.out hb; replace HO434 := oB HO434.out hb; replace HO437 := oB HO437.out hb; have BK438 := aM (hbox); have GE438 : Aside0 (w.heap.size ≤ gb438) := gE hg; replace HB := hS HB.out hb; have NB390_438 := nL hg BK390.out; have NB438_390 := nG hg BK390.out; replace BK390 := bB BK390.out hb; have NB406_438 := nL hg BK406.out; have NB438_406 := nG hg BK406.out; replace BK406 := bB BK406.out hb; have NB430_438 := nL hg BK430.out; have NB438_430 := nG hg BK430.out; replace BK430 := bB BK430.out hb; clear hb hbox hg; have hnb69 := NB438_390.out; have hnc69 := NB390_438.out; have hnb70 := NB438_406.out; have hnc70 := NB406_438.out; have hnb71 := NB438_430.out; have hnc71 := NB430_438.out; obtain ⟨hcz72_0, hcz72_1, hcz72_2⟩ := cz3 BK438.out; obtain ⟨hfz72_0, hfz72_1, hfz72_2⟩ := fz3 BK438.out; obtain ⟨Ao73, co73, rfl⟩ := Kd.R_slice HO434.out; obtain ⟨Ao74, co74, rfl⟩ := Kd.R_slice HO437.out; obtain ⟨hcz75_0, hcz75_1, hcz75_2⟩ := cz3 BK430.out; obtain ⟨hfz75_0, hfz75_1, hfz75_2⟩ := fz3 BK430.out) | ((with_reducible refine gate_callee (f := 27) rfl ?_); refine gL (some 138) Tryd.func27 #[.agg #[.bool t422, .slice Ao62 t423.length co62, .slice Ao63 t426.length co63], .agg #[.bool t431, .slice Ao73 t432.length co73, .slice Ao74 t435.length co74]] ?_; (with_reducible refine (plumblaw07_cmp.calls kj44 t422 _ _ t423 _ _ t426 t431 _ _ t432 _ _ t435 t439 _ ?side1 (Kd.R_reads' HO425.out).2.1 ?side3 (Kd.R_reads' HO428.out).2.1 ?side5 (Kd.R_reads' HO434.out).2.1 ?side7 (Kd.R_reads' HO437.out).2.1 A55.out).mono ?_); (case side1 => refine (Kd.R_reads' (e := 26) (base := w.heap.size) (ok := fun k_ => (some k_ ≠ (.slice Ao10 t392.length co10 : Value).ownBlock ∧ (some k_ ≠ (.slice Ao11 t395.length co11 : Value).ownBlock ∧ (some k_ ≠ (.slice Ao63 t426.length co63 : Value).ownBlock ∧ (some k_ ≠ (.slice Ao73 t432.length co73 : Value).ownBlock ∧ some k_ ≠ (.slice Ao74 t435.length co74 : Value).ownBlock))))) (n := t423.length) (c := co62) ?_).2.2; exact (by (with_reducible repeat (first | apply Kd.R_alloc | apply Kd.R_drewN | apply Kd.R_drew)); exact (rX HO425.out BK438.out))); (case side3 => refine (Kd.R_reads' (e := 26) (base := w.heap.size) (ok := fun k_ => (some k_ ≠ (.slice Ao10 t392.length co10 : Value).ownBlock ∧ (some k_ ≠ (.slice Ao11 t395.length co11 : Value).ownBlock ∧ (some k_ ≠ (.slice Ao62 t423.length co62 : Value).ownBlock ∧ (some k_ ≠ (.slice Ao73 t432.length co73 : Value).ownBlock ∧ some k_ ≠ (.slice Ao74 t435.length co74 : Value).ownBlock))))) (n := t426.length) (c := co63) ?_).2.2; exact (by (with_reducible repeat (first | apply Kd.R_alloc | apply Kd.R_drewN | apply Kd.R_drew)); exact (rX HO428.out BK438.out))); (case side5 => refine (Kd.R_reads' (e := 26) (base := w.heap.size) (ok := fun k_ => (some k_ ≠ (.slice Ao74 t435.length co74 : Value).ownBlock ∧ (some k_ ≠ (.slice Ao10 t392.length co10 : Value).ownBlock ∧ (some k_ ≠ (.slice Ao11 t395.length co11 : Value).ownBlock ∧ (some k_ ≠ (.slice Ao62 t423.length co62 : Value).ownBlock ∧ some k_ ≠ (.slice Ao63 t426.length co63 : Value).ownBlock))))) (n := t432.length) (c := co73) ?_).2.2; exact (by (with_reducible repeat (first | apply Kd.R_alloc | apply Kd.R_drewN | apply Kd.R_drew)); exact (rX HO434.out BK438.out))); (case side7 => refine (Kd.R_reads' (e := 26) (base := w.heap.size) (ok := fun k_ => (some k_ ≠ (.slice Ao73 t432.length co73 : Value).ownBlock ∧ (some k_ ≠ (.slice Ao10 t392.length co10 : Value).ownBlock ∧ (some k_ ≠ (.slice Ao11 t395.length co11 : Value).ownBlock ∧ (some k_ ≠ (.slice Ao62 t423.length co62 : Value).ownBlock ∧ some k_ ≠ (.slice Ao63 t426.length co63 : Value).ownBlock))))) (n := t435.length) (c := co74) ?_).2.2; exact (by (with_reducible repeat (first | apply Kd.R_alloc | apply Kd.R_drewN | apply Kd.R_drew)); exact (rX HO437.out BK438.out))); rintro e w76 ⟨rfl, hb⟩; refine ⟨_, rfl, ?_⟩; replace HO_391001 := oX HO_391001.out BK438.out hb; replace HO_391002 := oX HO_391002.out BK438.out hb; replace HO425 := oX HO425.out BK438.out hb; replace HO428 := oX HO428.out BK438.out hb; replace HO434 := oX HO434.out BK438.out hb; replace HO437 := oX HO437.out BK438.out hb; replace BK390 := aM (blk_below (g := gb390) (o := .cells #[.bool t391, .slice Ao10 t392.length co10, .slice Ao11 t395.length co11] 36 (0, 0)) (dQ1 BK390.out NB390_438.out) hb); replace BK406 := aM (blk_below (g := gb406) (o := .cells #[.bool t398, .slice Ao13 t399.length co13, .slice Ao14 t402.length co14] 46 (0, 0)) (dQ1 BK406.out NB406_438.out) hb); replace BK430 := aM (blk_below (g := gb430) (o := .cells #[.bool t422, .slice Ao62 t423.length co62, .slice Ao63 t426.length co63] 46 (0, 0)) (dQ1 BK430.out NB430_438.out) hb); replace BK438 := aM (blk_below (g := gb438) (o := .cells #[.bool t431, .slice Ao73 t432.length co73, .slice Ao74 t435.length co74] 46 (0, 0)) (dP BK438.out) hb); replace HB := hS HB.out hb; (try clear hb)))
                        (try simp only [Act.put, List.setIfInBounds_toArray, List.set_cons_zero, List.set_cons_succ])
                        go_cut [144] (fun v144 wc => ∃ (kq : Nat) (x144_55 : Bool), v144 = .bool x144_55 ∧ Aside0 (plumblaw07_NearModes.j4 kq t408 t410 t411 t416 t417 t439 x144_55 t431 t432 t435 = some r) ∧ Aside0 (kq ≤ kj44) ∧ Aside0 (Kd.R (Kd.int .u64) 26 wc w.heap.size (fun k_ => some k_ ≠ ((.slice Ao11 t395.length co11) : Value).ownBlock ∧ some k_ ≠ ((.slice Ao62 t423.length co62) : Value).ownBlock ∧ some k_ ≠ ((.slice Ao63 t426.length co63) : Value).ownBlock ∧ some k_ ≠ ((.slice Ao73 t432.length co73) : Value).ownBlock ∧ some k_ ≠ ((.slice Ao74 t435.length co74) : Value).ownBlock) (.slice Ao10 t392.length co10) t392) ∧ Aside0 (Kd.R (Kd.int .u64) 26 wc w.heap.size (fun k_ => some k_ ≠ ((.slice Ao10 t392.length co10) : Value).ownBlock ∧ some k_ ≠ ((.slice Ao62 t423.length co62) : Value).ownBlock ∧ some k_ ≠ ((.slice Ao63 t426.length co63) : Value).ownBlock ∧ some k_ ≠ ((.slice Ao73 t432.length co73) : Value).ownBlock ∧ some k_ ≠ ((.slice Ao74 t435.length co74) : Value).ownBlock) (.slice Ao11 t395.length co11) t395) ∧ Aside0 (Kd.R (Kd.int .u64) 26 wc w.heap.size (fun k_ => some k_ ≠ ((.slice Ao10 t392.length co10) : Value).ownBlock ∧ some k_ ≠ ((.slice Ao11 t395.length co11) : Value).ownBlock ∧ some k_ ≠ ((.slice Ao63 t426.length co63) : Value).ownBlock ∧ some k_ ≠ ((.slice Ao73 t432.length co73) : Value).ownBlock ∧ some k_ ≠ ((.slice Ao74 t435.length co74) : Value).ownBlock) (.slice Ao62 t423.length co62) t423) ∧ Aside0 (Kd.R (Kd.int .u64) 26 wc w.heap.size (fun k_ => some k_ ≠ ((.slice Ao10 t392.length co10) : Value).ownBlock ∧ some k_ ≠ ((.slice Ao11 t395.length co11) : Value).ownBlock ∧ some k_ ≠ ((.slice Ao62 t423.length co62) : Value).ownBlock ∧ some k_ ≠ ((.slice Ao73 t432.length co73) : Value).ownBlock ∧ some k_ ≠ ((.slice Ao74 t435.length co74) : Value).ownBlock) (.slice Ao63 t426.length co63) t426) ∧ Aside0 (Kd.R (Kd.int .u64) 26 wc w.heap.size (fun k_ => some k_ ≠ ((.slice Ao10 t392.length co10) : Value).ownBlock ∧ some k_ ≠ ((.slice Ao11 t395.length co11) : Value).ownBlock ∧ some k_ ≠ ((.slice Ao62 t423.length co62) : Value).ownBlock ∧ some k_ ≠ ((.slice Ao63 t426.length co63) : Value).ownBlock ∧ some k_ ≠ ((.slice Ao74 t435.length co74) : Value).ownBlock) (.slice Ao73 t432.length co73) t432) ∧ Aside0 (Kd.R (Kd.int .u64) 26 wc w.heap.size (fun k_ => some k_ ≠ ((.slice Ao10 t392.length co10) : Value).ownBlock ∧ some k_ ≠ ((.slice Ao11 t395.length co11) : Value).ownBlock ∧ some k_ ≠ ((.slice Ao62 t423.length co62) : Value).ownBlock ∧ some k_ ≠ ((.slice Ao63 t426.length co63) : Value).ownBlock ∧ some k_ ≠ ((.slice Ao73 t432.length co73) : Value).ownBlock) (.slice Ao74 t435.length co74) t435) ∧ Aside0 (wc.heap[gb390]? = some (.cells #[.bool t391, (.slice Ao10 t392.length co10), (.slice Ao11 t395.length co11)] 36 (0, 0))) ∧ Aside0 (wc.heap[gb430]? = some (.cells #[.bool t422, (.slice Ao62 t423.length co62), (.slice Ao63 t426.length co63)] 46 (0, 0))) ∧ Aside0 (wc.heap[gb438]? = some (.cells #[.bool t431, (.slice Ao73 t432.length co73), (.slice Ao74 t435.length co74)] 46 (0, 0))) ∧ Aside0 (Below w.heap.size w wc))
                        case first =>
                         as_aux_lemma =>
                          have H := HC56.out
                          clear HC56
                          by_cases c77 : t429 = true
                          · subst c77
                            rw [if_pos rfl] at H
                            (try dsimp only at H)
                            have H' := aM H
                            clear H
                            go_wp2
                            go_meet
                            case rel => exact ⟨_, (decide (t439 > 0)), dF, H', ⟨by have := HJ2.out; have := HJ23.out; have := HJ40.out; have := HJ44.out; first | omega | exact Nat.le_refl _⟩, ⟨dR HO_391001.out⟩, ⟨dR HO_391002.out⟩, ⟨dR HO425.out⟩, ⟨dR HO428.out⟩, ⟨by (with_reducible repeat (first | apply Kd.R_alloc | apply Kd.R_drewN | apply Kd.R_drew)); exact Kd.R_mono HO434.out (fun _ hk => ⟨hk.2.1, ⟨hk.2.2.1, ⟨hk.2.2.2.1, ⟨hk.2.2.2.2, hk.1⟩⟩⟩⟩)⟩, ⟨by (with_reducible repeat (first | apply Kd.R_alloc | apply Kd.R_drewN | apply Kd.R_drew)); exact Kd.R_mono HO437.out (fun _ hk => ⟨hk.2.1, ⟨hk.2.2.1, ⟨hk.2.2.2.1, ⟨hk.2.2.2.2, hk.1⟩⟩⟩⟩)⟩, ⟨dK BK390.out⟩, ⟨dK BK430.out⟩, ⟨dK BK438.out⟩, ⟨eB⟩⟩
                          · replace c77 := Bool.eq_false_iff.mpr c77
                            subst c77
                            rw [if_neg (show ¬ (false = true) by decide)] at H
                            (try dsimp only at H)
                            exact absurd H (by simp)
                        case rest =>
                         as_aux_lemma =>
                          clear HC56
                          try clear c18
                          try clear c40
                          try clear c52
                          try clear hcz12_0
                          try clear hcz12_1
                          try clear hcz12_2
                          try clear hcz26_0
                          try clear hcz26_1
                          try clear hcz26_2
                          try clear hcz28_0
                          try clear hcz28_1
                          try clear hcz28_2
                          try clear hcz30_0
                          try clear hcz30_1
                          try clear hcz30_2
                          try clear hcz32_0
                          try clear hcz32_1
                          try clear hcz32_2
                          try clear hcz34_0
                          try clear hcz34_1
                          try clear hcz34_2
                          try clear hcz43_0
                          try clear hcz43_1
                          try clear hcz43_2
                          try clear hcz5_0
                          try clear hcz5_1
                          try clear hcz5_2
                          try clear hcz61_0
                          try clear hcz61_1
                          try clear hcz61_2
                          try clear hcz66_0
                          try clear hcz66_1
                          try clear hcz66_2
                          try clear hcz72_0
                          try clear hcz72_1
                          try clear hcz72_2
                          try clear hcz75_0
                          try clear hcz75_1
                          try clear hcz75_2
                          try clear hcz9_0
                          try clear hcz9_1
                          try clear hcz9_2
                          try clear hfz12_0
                          try clear hfz12_1
                          try clear hfz12_2
                          try clear hfz26_0
                          try clear hfz26_1
                          try clear hfz26_2
                          try clear hfz28_0
                          try clear hfz28_1
                          try clear hfz28_2
                          try clear hfz30_0
                          try clear hfz30_1
                          try clear hfz30_2
                          try clear hfz32_0
                          try clear hfz32_1
                          try clear hfz32_2
                          try clear hfz34_0
                          try clear hfz34_1
                          try clear hfz34_2
                          try clear hfz43_0
                          try clear hfz43_1
                          try clear hfz43_2
                          try clear hfz5_0
                          try clear hfz5_1
                          try clear hfz5_2
                          try clear hfz61_0
                          try clear hfz61_1
                          try clear hfz61_2
                          try clear hfz66_0
                          try clear hfz66_1
                          try clear hfz66_2
                          try clear hfz72_0
                          try clear hfz72_1
                          try clear hfz72_2
                          try clear hfz75_0
                          try clear hfz75_1
                          try clear hfz75_2
                          try clear hfz9_0
                          try clear hfz9_1
                          try clear hfz9_2
                          obtain ⟨kq, x144_55, rfl, HA, HJ55, HO_391001, HO_391002, HO_431001, HO_431002, HO_439001, HO_439002, BK390, BK430, BK438, HB⟩ := hcut
                          cases kq with
                          | zero => exact absurd HA.out (by simp [plumblaw07_NearModes.j4])
                          | succ kj55 =>
                            have H := HA.out
                            clear HA
                            simp only [plumblaw07_NearModes.j4] at H
                            by_cases c78 : x144_55 = true
                            · subst c78
                              rw [if_pos rfl] at H
                              (try dsimp only at H)
                              exact absurd H (by simp)
                            · replace c78 := Bool.eq_false_iff.mpr c78
                              subst c78
                              rw [if_neg (show ¬ (false = true) by decide)] at H
                              (try dsimp only at H)
                              replace H := obe H
                              obtain ⟨t440, A790, H⟩ := H
                              (try dsimp only at H)
                              have A79 := aM A790
                              clear A790
                              by_cases c80 : t440 = 0
                              · rw [if_pos c80] at H
                                have c80b0 : (t440 == 0) = true := beq_iff_eq.mpr c80
                                have c80b1 : (t440 != 0) = false := bne_eq_false_iff_eq.mpr c80
                                clear c80
                                by_cases c81 : t439 = 0
                                · rw [if_pos c81] at H
                                  have c81b0 : (t439 == 0) = true := beq_iff_eq.mpr c81
                                  have c81b1 : (t439 != 0) = false := bne_eq_false_iff_eq.mpr c81
                                  clear c81
                                  by_cases c82 : t410 = t408
                                  · rw [if_pos c82] at H
                                    have c82b0 : (t410 == t408) = true := beq_iff_eq.mpr c82
                                    have c82b1 : (t410 != t408) = false := bne_eq_false_iff_eq.mpr c82
                                    clear c82
                                    by_cases c83 : t416 = t408
                                    · rw [if_pos c83] at H
                                      have c83b0 : (t416 == t408) = true := beq_iff_eq.mpr c83
                                      have c83b1 : (t416 != t408) = false := bne_eq_false_iff_eq.mpr c83
                                      clear c83
                                      replace H := obe H
                                      obtain ⟨t444, A840, H⟩ := H
                                      (try dsimp only at H)
                                      have A84 := aM A840
                                      clear A840
                                      obtain rfl := Option.some.inj H
                                      go_wp2_with (first | ((with_reducible refine gate_callee (f := 15) rfl ?_); refine gL (some 146) Tryd.func15 #[.int .i64 t411] ?_; (with_reducible refine (plumblaw07_num.calls t411 t440 _ A79.out).mono ?_); rintro e w' ⟨rfl, ⟨nd, rfl⟩⟩; refine ⟨_, rfl, ?_⟩) | (go_at_call 15; (with_reducible refine (plumblaw07_num.calls t417 t444 _ A84.out).mono ?_); rintro e w' ⟨rfl, ⟨nd, rfl⟩⟩))
                                      go_ret
                                      exact ⟨dE, eB⟩
                                    · rw [if_neg c83] at H
                                      exact absurd H (by simp)
                                  · rw [if_neg c82] at H
                                    exact absurd H (by simp)
                                · rw [if_neg c81] at H
                                  have c81b0 : (t439 == 0) = false := beq_eq_false_iff_ne.mpr c81
                                  have c81b1 : (t439 != 0) = true := bne_iff_ne.mpr c81
                                  replace H := obe H
                                  obtain ⟨⟨t445, t446, t449, t452⟩, A850, H⟩ := H
                                  (try dsimp only at H)
                                  have A85 := aM A850
                                  clear A850
                                  by_cases c86 : t452 = true
                                  · subst c86
                                    rw [if_pos rfl] at H
                                    (try dsimp only at H)
                                    by_cases c87 : t410 = (IntKind.u64.wrap (t408 + 1))
                                    · rw [if_pos c87] at H
                                      have c87b0 : (t410 == (IntKind.u64.wrap (t408 + 1))) = true := beq_iff_eq.mpr c87
                                      have c87b1 : (t410 != (IntKind.u64.wrap (t408 + 1))) = false := bne_eq_false_iff_eq.mpr c87
                                      clear c87
                                      replace H := obe H
                                      obtain ⟨t454, A880, H⟩ := H
                                      (try dsimp only at H)
                                      have A88 := aM A880
                                      clear A880
                                      by_cases c89 : t454 > 0
                                      · rw [if_pos c89] at H
                                        have c89b0 : decide (0 < t454) = true := decide_eq_true c89
                                        clear c89
                                        replace H := obe H
                                        obtain ⟨t455, A900, H⟩ := H
                                        (try dsimp only at H)
                                        have A90 := aM A900
                                        have tw_t455 : t455 = t454 := Option.some.inj (A90.out.symm.trans A88.out)
                                        clear A900
                                        by_cases c91 : t455 < 9
                                        · rw [if_pos c91] at H
                                          have c91b0 : decide (t455 < 9) = true := decide_eq_true c91
                                          have c91b0d : decide (t454 < 9) = true := by rw [← tw_t455]; exact c91b0
                                          clear c91
                                          replace H := obe H
                                          obtain ⟨t456, A920, H⟩ := H
                                          (try dsimp only at H)
                                          have A92 := aM A920
                                          clear A920
                                          by_cases c93 : t456 = 0
                                          · rw [if_pos c93] at H
                                            have c93b0 : (t456 == 0) = true := beq_iff_eq.mpr c93
                                            have c93b1 : (t456 != 0) = false := bne_eq_false_iff_eq.mpr c93
                                            clear c93
                                            by_cases c94 : t416 = t408
                                            · rw [if_pos c94] at H
                                              have c94b0 : (t416 == t408) = true := beq_iff_eq.mpr c94
                                              have c94b1 : (t416 != t408) = false := bne_eq_false_iff_eq.mpr c94
                                              clear c94
                                              obtain rfl := Option.some.inj H
                                              go_wp2_with (first | ((with_reducible refine gate_callee (f := 15) rfl ?_); refine gL (some 146) Tryd.func15 #[.int .i64 t411] ?_; (with_reducible refine (plumblaw07_num.calls t411 t440 _ A79.out).mono ?_); rintro e w' ⟨rfl, ⟨nd, rfl⟩⟩; refine ⟨_, rfl, ?_⟩; (try (rw [drewN_self wc]; generalize hq_ : World.drewN wc _ = wc; have n0_ : Aside0 (Kd.R (Kd.int .u64) 26 wc w.heap.size (fun k_ => some k_ ≠ (.slice Ao11 t395.length co11 : Value).ownBlock ∧ some k_ ≠ (.slice Ao62 t423.length co62 : Value).ownBlock ∧ some k_ ≠ (.slice Ao63 t426.length co63 : Value).ownBlock ∧ some k_ ≠ (.slice Ao73 t432.length co73 : Value).ownBlock ∧ some k_ ≠ (.slice Ao74 t435.length co74 : Value).ownBlock) (.slice Ao10 t392.length co10) t392) := ⟨by rw [← hq_]; exact (dR HO_391001.out)⟩; have n1_ : Aside0 (Kd.R (Kd.int .u64) 26 wc w.heap.size (fun k_ => some k_ ≠ (.slice Ao10 t392.length co10 : Value).ownBlock ∧ some k_ ≠ (.slice Ao62 t423.length co62 : Value).ownBlock ∧ some k_ ≠ (.slice Ao63 t426.length co63 : Value).ownBlock ∧ some k_ ≠ (.slice Ao73 t432.length co73 : Value).ownBlock ∧ some k_ ≠ (.slice Ao74 t435.length co74 : Value).ownBlock) (.slice Ao11 t395.length co11) t395) := ⟨by rw [← hq_]; exact (dR HO_391002.out)⟩; have n2_ : Aside0 (Kd.R (Kd.int .u64) 26 wc w.heap.size (fun k_ => some k_ ≠ (.slice Ao10 t392.length co10 : Value).ownBlock ∧ some k_ ≠ (.slice Ao11 t395.length co11 : Value).ownBlock ∧ some k_ ≠ (.slice Ao63 t426.length co63 : Value).ownBlock ∧ some k_ ≠ (.slice Ao73 t432.length co73 : Value).ownBlock ∧ some k_ ≠ (.slice Ao74 t435.length co74 : Value).ownBlock) (.slice Ao62 t423.length co62) t423) := ⟨by rw [← hq_]; exact (dR HO_431001.out)⟩; have n3_ : Aside0 (Kd.R (Kd.int .u64) 26 wc w.heap.size (fun k_ => some k_ ≠ (.slice Ao10 t392.length co10 : Value).ownBlock ∧ some k_ ≠ (.slice Ao11 t395.length co11 : Value).ownBlock ∧ some k_ ≠ (.slice Ao62 t423.length co62 : Value).ownBlock ∧ some k_ ≠ (.slice Ao73 t432.length co73 : Value).ownBlock ∧ some k_ ≠ (.slice Ao74 t435.length co74 : Value).ownBlock) (.slice Ao63 t426.length co63) t426) := ⟨by rw [← hq_]; exact (dR HO_431002.out)⟩; have n4_ : Aside0 (Kd.R (Kd.int .u64) 26 wc w.heap.size (fun k_ => some k_ ≠ (.slice Ao10 t392.length co10 : Value).ownBlock ∧ some k_ ≠ (.slice Ao11 t395.length co11 : Value).ownBlock ∧ some k_ ≠ (.slice Ao62 t423.length co62 : Value).ownBlock ∧ some k_ ≠ (.slice Ao63 t426.length co63 : Value).ownBlock ∧ some k_ ≠ (.slice Ao74 t435.length co74 : Value).ownBlock) (.slice Ao73 t432.length co73) t432) := ⟨by rw [← hq_]; exact (dR HO_439001.out)⟩; have n5_ : Aside0 (Kd.R (Kd.int .u64) 26 wc w.heap.size (fun k_ => some k_ ≠ (.slice Ao10 t392.length co10 : Value).ownBlock ∧ some k_ ≠ (.slice Ao11 t395.length co11 : Value).ownBlock ∧ some k_ ≠ (.slice Ao62 t423.length co62 : Value).ownBlock ∧ some k_ ≠ (.slice Ao63 t426.length co63 : Value).ownBlock ∧ some k_ ≠ (.slice Ao73 t432.length co73 : Value).ownBlock) (.slice Ao74 t435.length co74) t435) := ⟨by rw [← hq_]; exact (dR HO_439002.out)⟩; have n6_ : Aside0 (wc.heap[gb390]? = some (.cells #[.bool t391, .slice Ao10 t392.length co10, .slice Ao11 t395.length co11] 36 (0, 0))) := ⟨by rw [← hq_]; exact (dK BK390.out)⟩; have n7_ : Aside0 (wc.heap[gb430]? = some (.cells #[.bool t422, .slice Ao62 t423.length co62, .slice Ao63 t426.length co63] 46 (0, 0))) := ⟨by rw [← hq_]; exact (dK BK430.out)⟩; have n8_ : Aside0 (wc.heap[gb438]? = some (.cells #[.bool t431, .slice Ao73 t432.length co73, .slice Ao74 t435.length co74] 46 (0, 0))) := ⟨by rw [← hq_]; exact (dK BK438.out)⟩; have n9_ : Aside0 (Below w.heap.size w wc) := ⟨by rw [← hq_]; exact eB⟩; clear HO_391001 HO_391002 HO_431001 HO_431002 HO_439001 HO_439002 BK390 BK430 BK438 HB hq_; have HO_391001 := n0_; have HO_391002 := n1_; have HO_431001 := n2_; have HO_431002 := n3_; have HO_439001 := n4_; have HO_439002 := n5_; have BK390 := n6_; have BK430 := n7_; have BK438 := n8_; have HB := n9_; clear n0_ n1_ n2_ n3_ n4_ n5_ n6_ n7_ n8_ n9_))) | ((with_reducible refine gate_callee (f := 25) rfl ?_); refine gL (some 193) Tryd.func25 #[.int .u64 (Go.bits .andNot .u64 t410 9223372036854775808)] ?_; (with_reducible refine (plumblaw07_value.calls kj55 (Go.bits .andNot .u64 t410 9223372036854775808) t445 t446 t449 true _ A85.out).mono ?_); rintro e w95 ⟨v447, v450, rfl, ho0, ho1, hb⟩; refine ⟨_, rfl, ?_⟩; have HO448 := aM (Kd.R_lower (Kd.R_new' (Kd.R_new' (Kd.R_new' (Kd.R_new' (Kd.R_new' (Kd.R_new' ho0 (Kd.R_lt (dR HO_391001.out))) (Kd.R_lt (dR HO_391002.out))) (Kd.R_lt (dR HO_431001.out))) (Kd.R_lt (dR HO_431002.out))) (Kd.R_lt (dR HO_439001.out))) (Kd.R_lt (dR HO_439002.out))) (below_size eB)); have HO451 := aM (Kd.R_lower (Kd.R_new' (Kd.R_new' (Kd.R_new' (Kd.R_new' (Kd.R_new' (Kd.R_new' ho1 (Kd.R_lt (dR HO_391001.out))) (Kd.R_lt (dR HO_391002.out))) (Kd.R_lt (dR HO_431001.out))) (Kd.R_lt (dR HO_431002.out))) (Kd.R_lt (dR HO_439001.out))) (Kd.R_lt (dR HO_439002.out))) (below_size eB)); replace HO_391001 := aM (Kd.R_mono (Kd.R_told (Kd.R_told (Kd.R_old (dR HO_391001.out) hb) (Kd.R_base ho0)) (Kd.R_base ho1)) (fun _ h_ => h_.1)); replace HO_391002 := aM (Kd.R_mono (Kd.R_told (Kd.R_told (Kd.R_old (dR HO_391002.out) hb) (Kd.R_base ho0)) (Kd.R_base ho1)) (fun _ h_ => h_.1)); replace HO_431001 := aM (Kd.R_mono (Kd.R_told (Kd.R_told (Kd.R_old (dR HO_431001.out) hb) (Kd.R_base ho0)) (Kd.R_base ho1)) (fun _ h_ => h_.1)); replace HO_431002 := aM (Kd.R_mono (Kd.R_told (Kd.R_told (Kd.R_old (dR HO_431002.out) hb) (Kd.R_base ho0)) (Kd.R_base ho1)) (fun _ h_ => h_.1)); replace HO_439001 := aM (Kd.R_mono (Kd.R_told (Kd.R_told (Kd.R_old (dR HO_439001.out) hb) (Kd.R_base ho0)) (Kd.R_base ho1)) (fun _ h_ => h_.1)); replace HO_439002 := aM (Kd.R_mono (Kd.R_told (Kd.R_told (Kd.R_old (dR HO_439002.out) hb) (Kd.R_base ho0)) (Kd.R_base ho1)) (fun _ h_ => h_.1)); replace BK390 := bB BK390.out hb; replace BK430 := bB BK430.out hb; replace BK438 := bB BK438.out hb; replace HB := hS HB.out hb; (try clear hb); (try clear ho0); (try clear ho1)) | ((with_reducible refine gate_dst (N := 23) rfl ?_); refine bE 23 #[.bool false, .slice none 0 0, .slice none 0 0] 46 ?_; intro gb453 hg w96 hbox hb; replace HO_391001 := oB HO_391001.out hb; replace HO_391002 := oB HO_391002.out hb; replace HO_431001 := oB HO_431001.out hb; replace HO_431002 := oB HO_431002.out hb; replace HO_439001 := oB HO_439001.out hb; replace HO_439002 := oB HO_439002.out hb; replace HO448 := oB HO448.out hb; replace HO451 := oB HO451.out hb; have BK453 := aM (hbox); have GE453 : Aside0 (w.heap.size ≤ gb453) := gE hg; replace HB := hS HB.out hb; have NB390_453 := nL hg BK390.out; have NB453_390 := nG hg BK390.out; replace BK390 := bB BK390.out hb; have NB430_453 := nL hg BK430.out; have NB453_430 := nG hg BK430.out; replace BK430 := bB BK430.out hb; have NB438_453 := nL hg BK438.out; have NB453_438 := nG hg BK438.out; replace BK438 := bB BK438.out hb; clear hb hbox hg; have hnb97 := NB453_390.out; have hnc97 := NB390_453.out; have hnb98 := NB453_430.out; have hnc98 := NB430_453.out; have hnb99 := NB453_438.out; have hnc99 := NB438_453.out; obtain ⟨hcz100_0, hcz100_1, hcz100_2⟩ := cz3 BK453.out; obtain ⟨hfz100_0, hfz100_1, hfz100_2⟩ := fz3 BK453.out; obtain ⟨Ao101, co101, rfl⟩ := Kd.R_slice HO448.out; obtain ⟨Ao102, co102, rfl⟩ := Kd.R_slice HO451.out; have hnb103 := NB438_390.out; have hnc103 := NB390_438.out; have hnb104 := NB438_430.out; have hnc104 := NB430_438.out; obtain ⟨hcz105_0, hcz105_1, hcz105_2⟩ := cz3 BK438.out; obtain ⟨hfz105_0, hfz105_1, hfz105_2⟩ := fz3 BK438.out) | (go_at_call 27; (with_reducible refine (plumblaw07_cmp.calls kj55 t445 _ _ t446 _ _ t449 t431 _ _ t432 _ _ t435 t454 _ ?side1 (Kd.R_reads' HO448.out).2.1 ?side3 (Kd.R_reads' HO451.out).2.1 ?side5 (Kd.R_reads' HO_439001.out).2.1 ?side7 (Kd.R_reads' HO_439002.out).2.1 A88.out).mono ?_); (case side1 => refine (Kd.R_reads' (e := 26) (base := w.heap.size) (ok := fun k_ => ((((((some k_ ≠ (.slice Ao102 t449.length co102 : Value).ownBlock ∧ some k_ ≠ (.slice Ao10 t392.length co10 : Value).ownBlock) ∧ some k_ ≠ (.slice Ao11 t395.length co11 : Value).ownBlock) ∧ some k_ ≠ (.slice Ao62 t423.length co62 : Value).ownBlock) ∧ some k_ ≠ (.slice Ao63 t426.length co63 : Value).ownBlock) ∧ some k_ ≠ (.slice Ao73 t432.length co73 : Value).ownBlock) ∧ some k_ ≠ (.slice Ao74 t435.length co74 : Value).ownBlock)) (n := t446.length) (c := co101) ?_).2.2; exact (by (with_reducible repeat (first | apply Kd.R_alloc | apply Kd.R_drewN | apply Kd.R_drew)); exact (rX HO448.out BK453.out))); (case side3 => refine (Kd.R_reads' (e := 26) (base := w.heap.size) (ok := fun k_ => ((((((some k_ ≠ (.slice Ao101 t446.length co101 : Value).ownBlock ∧ some k_ ≠ (.slice Ao10 t392.length co10 : Value).ownBlock) ∧ some k_ ≠ (.slice Ao11 t395.length co11 : Value).ownBlock) ∧ some k_ ≠ (.slice Ao62 t423.length co62 : Value).ownBlock) ∧ some k_ ≠ (.slice Ao63 t426.length co63 : Value).ownBlock) ∧ some k_ ≠ (.slice Ao73 t432.length co73 : Value).ownBlock) ∧ some k_ ≠ (.slice Ao74 t435.length co74 : Value).ownBlock)) (n := t449.length) (c := co102) ?_).2.2; exact (by (with_reducible repeat (first | apply Kd.R_alloc | apply Kd.R_drewN | apply Kd.R_drew)); exact (rX HO451.out BK453.out))); (case side5 => refine (Kd.R_reads' (e := 26) (base := w.heap.size) (ok := fun k_ => (((some k_ ≠ (.slice Ao10 t392.length co10 : Value).ownBlock ∧ (some k_ ≠ (.slice Ao11 t395.length co11 : Value).ownBlock ∧ (some k_ ≠ (.slice Ao62 t423.length co62 : Value).ownBlock ∧ (some k_ ≠ (.slice Ao63 t426.length co63 : Value).ownBlock ∧ some k_ ≠ (.slice Ao74 t435.length co74 : Value).ownBlock)))) ∧ some k_ ≠ (.slice Ao101 t446.length co101 : Value).ownBlock) ∧ some k_ ≠ (.slice Ao102 t449.length co102 : Value).ownBlock)) (n := t432.length) (c := co73) ?_).2.2; exact (by (with_reducible repeat (first | apply Kd.R_alloc | apply Kd.R_drewN | apply Kd.R_drew)); exact (rX HO_439001.out BK453.out))); (case side7 => refine (Kd.R_reads' (e := 26) (base := w.heap.size) (ok := fun k_ => (((some k_ ≠ (.slice Ao10 t392.length co10 : Value).ownBlock ∧ (some k_ ≠ (.slice Ao11 t395.length co11 : Value).ownBlock ∧ (some k_ ≠ (.slice Ao62 t423.length co62 : Value).ownBlock ∧ (some k_ ≠ (.slice Ao63 t426.length co63 : Value).ownBlock ∧ some k_ ≠ (.slice Ao73 t432.length co73 : Value).ownBlock)))) ∧ some k_ ≠ (.slice Ao101 t446.length co101 : Value).ownBlock) ∧ some k_ ≠ (.slice Ao102 t449.length co102 : Value).ownBlock)) (n := t435.length) (c := co74) ?_).2.2; exact (by (with_reducible repeat (first | apply Kd.R_alloc | apply Kd.R_drewN | apply Kd.R_drew)); exact (rX HO_439002.out BK453.out))); rintro e w106 ⟨rfl, hb⟩; replace HO_391001 := oX HO_391001.out BK453.out hb; replace HO_391002 := oX HO_391002.out BK453.out hb; replace HO_431001 := oX HO_431001.out BK453.out hb; replace HO_431002 := oX HO_431002.out BK453.out hb; replace HO_439001 := oX HO_439001.out BK453.out hb; replace HO_439002 := oX HO_439002.out BK453.out hb; replace HO448 := oX HO448.out BK453.out hb; replace HO451 := oX HO451.out BK453.out hb; replace BK390 := aM (blk_below (g := gb390) (o := .cells #[.bool t391, .slice Ao10 t392.length co10, .slice Ao11 t395.length co11] 36 (0, 0)) (dQ1 BK390.out NB390_453.out) hb); replace BK430 := aM (blk_below (g := gb430) (o := .cells #[.bool t422, .slice Ao62 t423.length co62, .slice Ao63 t426.length co63] 46 (0, 0)) (dQ1 BK430.out NB430_453.out) hb); replace BK438 := aM (blk_below (g := gb438) (o := .cells #[.bool t431, .slice Ao73 t432.length co73, .slice Ao74 t435.length co74] 46 (0, 0)) (dQ1 BK438.out NB438_453.out) hb); replace BK453 := aM (blk_below (g := gb453) (o := .cells #[.bool t445, .slice Ao101 t446.length co101, .slice Ao102 t449.length co102] 46 (0, 0)) (dP BK453.out) hb); replace HB := hS HB.out hb; (try clear hb); obtain ⟨hcz107_0, hcz107_1, hcz107_2⟩ := cz3 BK453.out; obtain ⟨hfz107_0, hfz107_1, hfz107_2⟩ := fz3 BK453.out; obtain ⟨hcz108_0, hcz108_1, hcz108_2⟩ := cz3 BK438.out; obtain ⟨hfz108_0, hfz108_1, hfz108_2⟩ := fz3 BK438.out) | (go_at_call 27; (with_reducible refine (plumblaw07_cmp.calls kj55 t445 _ _ t446 _ _ t449 t431 _ _ t432 _ _ t435 t455 _ ?side1 (Kd.R_reads' HO448.out).2.1 ?side3 (Kd.R_reads' HO451.out).2.1 ?side5 (Kd.R_reads' HO_439001.out).2.1 ?side7 (Kd.R_reads' HO_439002.out).2.1 A90.out).mono ?_); (case side1 => exact dC (Kd.R_reads' HO448.out).2.2); (case side3 => exact dC (Kd.R_reads' HO451.out).2.2); (case side5 => exact dC (Kd.R_reads' HO_439001.out).2.2); (case side7 => exact dC (Kd.R_reads' HO_439002.out).2.2); rintro e w109 ⟨rfl, hb⟩; replace HO_391001 := oB HO_391001.out hb; replace HO_391002 := oB HO_391002.out hb; replace HO_431001 := oB HO_431001.out hb; replace HO_431002 := oB HO_431002.out hb; replace HO_439001 := oB HO_439001.out hb; replace HO_439002 := oB HO_439002.out hb; replace HO448 := oB HO448.out hb; replace HO451 := oB HO451.out hb; replace BK390 := bB BK390.out hb; replace BK430 := bB BK430.out hb; replace BK438 := bB BK438.out hb; replace BK453 := bB BK453.out hb; replace HB := hS HB.out hb; (try clear hb)) | (go_at_call 15; (with_reducible refine (plumblaw07_num.calls t417 t456 _ A92.out).mono ?_); rintro e w' ⟨rfl, ⟨nd, rfl⟩⟩))
                                              go_ret
                                              exact ⟨dE, eB⟩
                                            · rw [if_neg c94] at H
                                              have c94b0 : (t416 == t408) = false := beq_eq_false_iff_ne.mpr c94
                                              have c94b1 : (t416 != t408) = true := bne_iff_ne.mpr c94
                                              obtain rfl := Option.some.inj H
                                              go_wp2_with (first | ((with_reducible refine gate_callee (f := 15) rfl ?_); refine gL (some 146) Tryd.func15 #[.int .i64 t411] ?_; (with_reducible refine (plumblaw07_num.calls t411 t440 _ A79.out).mono ?_); rintro e w' ⟨rfl, ⟨nd, rfl⟩⟩; refine ⟨_, rfl, ?_⟩; (try (rw [drewN_self wc]; generalize hq_ : World.drewN wc _ = wc; have n0_ : Aside0 (Kd.R (Kd.int .u64) 26 wc w.heap.size (fun k_ => some k_ ≠ (.slice Ao11 t395.length co11 : Value).ownBlock ∧ some k_ ≠ (.slice Ao62 t423.length co62 : Value).ownBlock ∧ some k_ ≠ (.slice Ao63 t426.length co63 : Value).ownBlock ∧ some k_ ≠ (.slice Ao73 t432.length co73 : Value).ownBlock ∧ some k_ ≠ (.slice Ao74 t435.length co74 : Value).ownBlock) (.slice Ao10 t392.length co10) t392) := ⟨by rw [← hq_]; exact (dR HO_391001.out)⟩; have n1_ : Aside0 (Kd.R (Kd.int .u64) 26 wc w.heap.size (fun k_ => some k_ ≠ (.slice Ao10 t392.length co10 : Value).ownBlock ∧ some k_ ≠ (.slice Ao62 t423.length co62 : Value).ownBlock ∧ some k_ ≠ (.slice Ao63 t426.length co63 : Value).ownBlock ∧ some k_ ≠ (.slice Ao73 t432.length co73 : Value).ownBlock ∧ some k_ ≠ (.slice Ao74 t435.length co74 : Value).ownBlock) (.slice Ao11 t395.length co11) t395) := ⟨by rw [← hq_]; exact (dR HO_391002.out)⟩; have n2_ : Aside0 (Kd.R (Kd.int .u64) 26 wc w.heap.size (fun k_ => some k_ ≠ (.slice Ao10 t392.length co10 : Value).ownBlock ∧ some k_ ≠ (.slice Ao11 t395.length co11 : Value).ownBlock ∧ some k_ ≠ (.slice Ao63 t426.length co63 : Value).ownBlock ∧ some k_ ≠ (.slice Ao73 t432.length co73 : Value).ownBlock ∧ some k_ ≠ (.slice Ao74 t435.length co74 : Value).ownBlock) (.slice Ao62 t423.length co62) t423) := ⟨by rw [← hq_]; exact (dR HO_431001.out)⟩; have n3_ : Aside0 (Kd.R (Kd.int .u64) 26 wc w.heap.size (fun k_ => some k_ ≠ (.slice Ao10 t392.length co10 : Value).ownBlock ∧ some k_ ≠ (.slice Ao11 t395.length co11 : Value).ownBlock ∧ some k_ ≠ (.slice Ao62 t423.length co62 : Value).ownBlock ∧ some k_ ≠ (.slice Ao73 t432.length co73 : Value).ownBlock ∧ some k_ ≠ (.slice Ao74 t435.length co74 : Value).ownBlock) (.slice Ao63 t426.length co63) t426) := ⟨by rw [← hq_]; exact (dR HO_431002.out)⟩; have n4_ : Aside0 (Kd.R (Kd.int .u64) 26 wc w.heap.size (fun k_ => some k_ ≠ (.slice Ao10 t392.length co10 : Value).ownBlock ∧ some k_ ≠ (.slice Ao11 t395.length co11 : Value).ownBlock ∧ some k_ ≠ (.slice Ao62 t423.length co62 : Value).ownBlock ∧ some k_ ≠ (.slice Ao63 t426.length co63 : Value).ownBlock ∧ some k_ ≠ (.slice Ao74 t435.length co74 : Value).ownBlock) (.slice Ao73 t432.length co73) t432) := ⟨by rw [← hq_]; exact (dR HO_439001.out)⟩; have n5_ : Aside0 (Kd.R (Kd.int .u64) 26 wc w.heap.size (fun k_ => some k_ ≠ (.slice Ao10 t392.length co10 : Value).ownBlock ∧ some k_ ≠ (.slice Ao11 t395.length co11 : Value).ownBlock ∧ some k_ ≠ (.slice Ao62 t423.length co62 : Value).ownBlock ∧ some k_ ≠ (.slice Ao63 t426.length co63 : Value).ownBlock ∧ some k_ ≠ (.slice Ao73 t432.length co73 : Value).ownBlock) (.slice Ao74 t435.length co74) t435) := ⟨by rw [← hq_]; exact (dR HO_439002.out)⟩; have n6_ : Aside0 (wc.heap[gb390]? = some (.cells #[.bool t391, .slice Ao10 t392.length co10, .slice Ao11 t395.length co11] 36 (0, 0))) := ⟨by rw [← hq_]; exact (dK BK390.out)⟩; have n7_ : Aside0 (wc.heap[gb430]? = some (.cells #[.bool t422, .slice Ao62 t423.length co62, .slice Ao63 t426.length co63] 46 (0, 0))) := ⟨by rw [← hq_]; exact (dK BK430.out)⟩; have n8_ : Aside0 (wc.heap[gb438]? = some (.cells #[.bool t431, .slice Ao73 t432.length co73, .slice Ao74 t435.length co74] 46 (0, 0))) := ⟨by rw [← hq_]; exact (dK BK438.out)⟩; have n9_ : Aside0 (Below w.heap.size w wc) := ⟨by rw [← hq_]; exact eB⟩; clear HO_391001 HO_391002 HO_431001 HO_431002 HO_439001 HO_439002 BK390 BK430 BK438 HB hq_; have HO_391001 := n0_; have HO_391002 := n1_; have HO_431001 := n2_; have HO_431002 := n3_; have HO_439001 := n4_; have HO_439002 := n5_; have BK390 := n6_; have BK430 := n7_; have BK438 := n8_; have HB := n9_; clear n0_ n1_ n2_ n3_ n4_ n5_ n6_ n7_ n8_ n9_))) | ((with_reducible refine gate_callee (f := 25) rfl ?_); refine gL (some 193) Tryd.func25 #[.int .u64 (Go.bits .andNot .u64 t410 9223372036854775808)] ?_; (with_reducible refine (plumblaw07_value.calls kj55 (Go.bits .andNot .u64 t410 9223372036854775808) t445 t446 t449 true _ A85.out).mono ?_); rintro e w110 ⟨v447, v450, rfl, ho0, ho1, hb⟩; refine ⟨_, rfl, ?_⟩; have HO448 := aM (Kd.R_lower (Kd.R_new' (Kd.R_new' (Kd.R_new' (Kd.R_new' (Kd.R_new' (Kd.R_new' ho0 (Kd.R_lt (dR HO_391001.out))) (Kd.R_lt (dR HO_391002.out))) (Kd.R_lt (dR HO_431001.out))) (Kd.R_lt (dR HO_431002.out))) (Kd.R_lt (dR HO_439001.out))) (Kd.R_lt (dR HO_439002.out))) (below_size eB)); have HO451 := aM (Kd.R_lower (Kd.R_new' (Kd.R_new' (Kd.R_new' (Kd.R_new' (Kd.R_new' (Kd.R_new' ho1 (Kd.R_lt (dR HO_391001.out))) (Kd.R_lt (dR HO_391002.out))) (Kd.R_lt (dR HO_431001.out))) (Kd.R_lt (dR HO_431002.out))) (Kd.R_lt (dR HO_439001.out))) (Kd.R_lt (dR HO_439002.out))) (below_size eB)); replace HO_391001 := aM (Kd.R_mono (Kd.R_told (Kd.R_told (Kd.R_old (dR HO_391001.out) hb) (Kd.R_base ho0)) (Kd.R_base ho1)) (fun _ h_ => h_.1)); replace HO_391002 := aM (Kd.R_mono (Kd.R_told (Kd.R_told (Kd.R_old (dR HO_391002.out) hb) (Kd.R_base ho0)) (Kd.R_base ho1)) (fun _ h_ => h_.1)); replace HO_431001 := aM (Kd.R_mono (Kd.R_told (Kd.R_told (Kd.R_old (dR HO_431001.out) hb) (Kd.R_base ho0)) (Kd.R_base ho1)) (fun _ h_ => h_.1)); replace HO_431002 := aM (Kd.R_mono (Kd.R_told (Kd.R_told (Kd.R_old (dR HO_431002.out) hb) (Kd.R_base ho0)) (Kd.R_base ho1)) (fun _ h_ => h_.1)); replace HO_439001 := aM (Kd.R_mono (Kd.R_told (Kd.R_told (Kd.R_old (dR HO_439001.out) hb) (Kd.R_base ho0)) (Kd.R_base ho1)) (fun _ h_ => h_.1)); replace HO_439002 := aM (Kd.R_mono (Kd.R_told (Kd.R_told (Kd.R_old (dR HO_439002.out) hb) (Kd.R_base ho0)) (Kd.R_base ho1)) (fun _ h_ => h_.1)); replace BK390 := bB BK390.out hb; replace BK430 := bB BK430.out hb; replace BK438 := bB BK438.out hb; replace HB := hS HB.out hb; (try clear hb); (try clear ho0); (try clear ho1)) | ((with_reducible refine gate_dst (N := 23) rfl ?_); refine bE 23 #[.bool false, .slice none 0 0, .slice none 0 0] 46 ?_; intro gb453 hg w111 hbox hb; replace HO_391001 := oB HO_391001.out hb; replace HO_391002 := oB HO_391002.out hb; replace HO_431001 := oB HO_431001.out hb; replace HO_431002 := oB HO_431002.out hb; replace HO_439001 := oB HO_439001.out hb; replace HO_439002 := oB HO_439002.out hb; replace HO448 := oB HO448.out hb; replace HO451 := oB HO451.out hb; have BK453 := aM (hbox); have GE453 : Aside0 (w.heap.size ≤ gb453) := gE hg; replace HB := hS HB.out hb; have NB390_453 := nL hg BK390.out; have NB453_390 := nG hg BK390.out; replace BK390 := bB BK390.out hb; have NB430_453 := nL hg BK430.out; have NB453_430 := nG hg BK430.out; replace BK430 := bB BK430.out hb; have NB438_453 := nL hg BK438.out; have NB453_438 := nG hg BK438.out; replace BK438 := bB BK438.out hb; clear hb hbox hg; have hnb112 := NB453_390.out; have hnc112 := NB390_453.out; have hnb113 := NB453_430.out; have hnc113 := NB430_453.out; have hnb114 := NB453_438.out; have hnc114 := NB438_453.out; obtain ⟨hcz115_0, hcz115_1, hcz115_2⟩ := cz3 BK453.out; obtain ⟨hfz115_0, hfz115_1, hfz115_2⟩ := fz3 BK453.out; obtain ⟨Ao116, co116, rfl⟩ := Kd.R_slice HO448.out; obtain ⟨Ao117, co117, rfl⟩ := Kd.R_slice HO451.out; have hnb118 := NB438_390.out; have hnc118 := NB390_438.out; have hnb119 := NB438_430.out; have hnc119 := NB430_438.out; obtain ⟨hcz120_0, hcz120_1, hcz120_2⟩ := cz3 BK438.out; obtain ⟨hfz120_0, hfz120_1, hfz120_2⟩ := fz3 BK438.out) | (go_at_call 27; (with_reducible refine (plumblaw07_cmp.calls kj55 t445 _ _ t446 _ _ t449 t431 _ _ t432 _ _ t435 t454 _ ?side1 (Kd.R_reads' HO448.out).2.1 ?side3 (Kd.R_reads' HO451.out).2.1 ?side5 (Kd.R_reads' HO_439001.out).2.1 ?side7 (Kd.R_reads' HO_439002.out).2.1 A88.out).mono ?_); (case side1 => refine (Kd.R_reads' (e := 26) (base := w.heap.size) (ok := fun k_ => ((((((some k_ ≠ (.slice Ao117 t449.length co117 : Value).ownBlock ∧ some k_ ≠ (.slice Ao10 t392.length co10 : Value).ownBlock) ∧ some k_ ≠ (.slice Ao11 t395.length co11 : Value).ownBlock) ∧ some k_ ≠ (.slice Ao62 t423.length co62 : Value).ownBlock) ∧ some k_ ≠ (.slice Ao63 t426.length co63 : Value).ownBlock) ∧ some k_ ≠ (.slice Ao73 t432.length co73 : Value).ownBlock) ∧ some k_ ≠ (.slice Ao74 t435.length co74 : Value).ownBlock)) (n := t446.length) (c := co116) ?_).2.2; exact (by (with_reducible repeat (first | apply Kd.R_alloc | apply Kd.R_drewN | apply Kd.R_drew)); exact (rX HO448.out BK453.out))); (case side3 => refine (Kd.R_reads' (e := 26) (base := w.heap.size) (ok := fun k_ => ((((((some k_ ≠ (.slice Ao116 t446.length co116 : Value).ownBlock ∧ some k_ ≠ (.slice Ao10 t392.length co10 : Value).ownBlock) ∧ some k_ ≠ (.slice Ao11 t395.length co11 : Value).ownBlock) ∧ some k_ ≠ (.slice Ao62 t423.length co62 : Value).ownBlock) ∧ some k_ ≠ (.slice Ao63 t426.length co63 : Value).ownBlock) ∧ some k_ ≠ (.slice Ao73 t432.length co73 : Value).ownBlock) ∧ some k_ ≠ (.slice Ao74 t435.length co74 : Value).ownBlock)) (n := t449.length) (c := co117) ?_).2.2; exact (by (with_reducible repeat (first | apply Kd.R_alloc | apply Kd.R_drewN | apply Kd.R_drew)); exact (rX HO451.out BK453.out))); (case side5 => refine (Kd.R_reads' (e := 26) (base := w.heap.size) (ok := fun k_ => (((some k_ ≠ (.slice Ao10 t392.length co10 : Value).ownBlock ∧ (some k_ ≠ (.slice Ao11 t395.length co11 : Value).ownBlock ∧ (some k_ ≠ (.slice Ao62 t423.length co62 : Value).ownBlock ∧ (some k_ ≠ (.slice Ao63 t426.length co63 : Value).ownBlock ∧ some k_ ≠ (.slice Ao74 t435.length co74 : Value).ownBlock)))) ∧ some k_ ≠ (.slice Ao116 t446.length co116 : Value).ownBlock) ∧ some k_ ≠ (.slice Ao117 t449.length co117 : Value).ownBlock)) (n := t432.length) (c := co73) ?_).2.2; exact (by (with_reducible repeat (first | apply Kd.R_alloc | apply Kd.R_drewN | apply Kd.R_drew)); exact (rX HO_439001.out BK453.out))); (case side7 => refine (Kd.R_reads' (e := 26) (base := w.heap.size) (ok := fun k_ => (((some k_ ≠ (.slice Ao10 t392.length co10 : Value).ownBlock ∧ (some k_ ≠ (.slice Ao11 t395.length co11 : Value).ownBlock ∧ (some k_ ≠ (.slice Ao62 t423.length co62 : Value).ownBlock ∧ (some k_ ≠ (.slice Ao63 t426.length co63 : Value).ownBlock ∧ some k_ ≠ (.slice Ao73 t432.length co73 : Value).ownBlock)))) ∧ some k_ ≠ (.slice Ao116 t446.length co116 : Value).ownBlock) ∧ some k_ ≠ (.slice Ao117 t449.length co117 : Value).ownBlock)) (n := t435.length) (c := co74) ?_).2.2; exact (by (with_reducible repeat (first | apply Kd.R_alloc | apply Kd.R_drewN | apply Kd.R_drew)); exact (rX HO_439002.out BK453.out))); rintro e w121 ⟨rfl, hb⟩; replace HO_391001 := oX HO_391001.out BK453.out hb; replace HO_391002 := oX HO_391002.out BK453.out hb; replace HO_431001 := oX HO_431001.out BK453.out hb; replace HO_431002 := oX HO_431002.out BK453.out hb; replace HO_439001 := oX HO_439001.out BK453.out hb; replace HO_439002 := oX HO_439002.out BK453.out hb; replace HO448 := oX HO448.out BK453.out hb; replace HO451 := oX HO451.out BK453.out hb; replace BK390 := aM (blk_below (g := gb390) (o := .cells #[.bool t391, .slice Ao10 t392.length co10, .slice Ao11 t395.length co11] 36 (0, 0)) (dQ1 BK390.out NB390_453.out) hb); replace BK430 := aM (blk_below (g := gb430) (o := .cells #[.bool t422, .slice Ao62 t423.length co62, .slice Ao63 t426.length co63] 46 (0, 0)) (dQ1 BK430.out NB430_453.out) hb); replace BK438 := aM (blk_below (g := gb438) (o := .cells #[.bool t431, .slice Ao73 t432.length co73, .slice Ao74 t435.length co74] 46 (0, 0)) (dQ1 BK438.out NB438_453.out) hb); replace BK453 := aM (blk_below (g := gb453) (o := .cells #[.bool t445, .slice Ao116 t446.length co116, .slice Ao117 t449.length co117] 46 (0, 0)) (dP BK453.out) hb); replace HB := hS HB.out hb; (try clear hb); obtain ⟨hcz122_0, hcz122_1, hcz122_2⟩ := cz3 BK453.out; obtain ⟨hfz122_0, hfz122_1, hfz122_2⟩ := fz3 BK453.out; obtain ⟨hcz123_0, hcz123_1, hcz123_2⟩ := cz3 BK438.out; obtain ⟨hfz123_0, hfz123_1, hfz123_2⟩ := fz3 BK438.out) | (go_at_call 27; (with_reducible refine (plumblaw07_cmp.calls kj55 t445 _ _ t446 _ _ t449 t431 _ _ t432 _ _ t435 t455 _ ?side1 (Kd.R_reads' HO448.out).2.1 ?side3 (Kd.R_reads' HO451.out).2.1 ?side5 (Kd.R_reads' HO_439001.out).2.1 ?side7 (Kd.R_reads' HO_439002.out).2.1 A90.out).mono ?_); (case side1 => exact dC (Kd.R_reads' HO448.out).2.2); (case side3 => exact dC (Kd.R_reads' HO451.out).2.2); (case side5 => exact dC (Kd.R_reads' HO_439001.out).2.2); (case side7 => exact dC (Kd.R_reads' HO_439002.out).2.2); rintro e w124 ⟨rfl, hb⟩; replace HO_391001 := oB HO_391001.out hb; replace HO_391002 := oB HO_391002.out hb; replace HO_431001 := oB HO_431001.out hb; replace HO_431002 := oB HO_431002.out hb; replace HO_439001 := oB HO_439001.out hb; replace HO_439002 := oB HO_439002.out hb; replace HO448 := oB HO448.out hb; replace HO451 := oB HO451.out hb; replace BK390 := bB BK390.out hb; replace BK430 := bB BK430.out hb; replace BK438 := bB BK438.out hb; replace BK453 := bB BK453.out hb; replace HB := hS HB.out hb; (try clear hb)) | (go_at_call 15; (with_reducible refine (plumblaw07_num.calls t417 t456 _ A92.out).mono ?_); rintro e w' ⟨rfl, ⟨nd, rfl⟩⟩))
                                              go_ret
                                              exact ⟨dE, eB⟩
                                          · rw [if_neg c93] at H
                                            exact absurd H (by simp)
                                        · rw [if_neg c91] at H
                                          exact absurd H (by simp)
                                      · rw [if_neg c89] at H
                                        exact absurd H (by simp)
                                    · rw [if_neg c87] at H
                                      exact absurd H (by simp)
                                  · replace c86 := Bool.eq_false_iff.mpr c86
                                    subst c86
                                    rw [if_neg (show ¬ (false = true) by decide)] at H
                                    (try dsimp only at H)
                                    exact absurd H (by simp)
                              · rw [if_neg c80] at H
                                have c80b0 : (t440 == 0) = false := beq_eq_false_iff_ne.mpr c80
                                have c80b1 : (t440 != 0) = true := bne_iff_ne.mpr c80
                                replace H := obe H
                                obtain ⟨t441, A1250, H⟩ := H
                                (try dsimp only at H)
                                have A125 := aM A1250
                                clear A1250
                                by_cases c126 : t441 = 70
                                · rw [if_pos c126] at H
                                  have c126b0 : (t441 == 70) = true := beq_iff_eq.mpr c126
                                  have c126b1 : (t441 != 70) = false := bne_eq_false_iff_eq.mpr c126
                                  clear c126
                                  by_cases c127 : (Go.bits .andNot .u64 t408 9223372036854775808) = 9218868437227405311
                                  · rw [if_pos c127] at H
                                    have c127b0 : ((Go.bits .andNot .u64 t408 9223372036854775808) == 9218868437227405311) = true := beq_iff_eq.mpr c127
                                    have c127b1 : ((Go.bits .andNot .u64 t408 9223372036854775808) != 9218868437227405311) = false := bne_eq_false_iff_eq.mpr c127
                                    clear c127
                                    by_cases c128 : t439 < 0
                                    · rw [if_pos c128] at H
                                      have c128b0 : decide (t439 < 0) = true := decide_eq_true c128
                                      clear c128
                                      replace H := obe H
                                      obtain ⟨t442, A1290, H⟩ := H
                                      (try dsimp only at H)
                                      have A129 := aM A1290
                                      clear A1290
                                      by_cases c130 : t442 = 70
                                      · rw [if_pos c130] at H
                                        have c130b0 : (t442 == 70) = true := beq_iff_eq.mpr c130
                                        have c130b1 : (t442 != 70) = false := bne_eq_false_iff_eq.mpr c130
                                        clear c130
                                        obtain rfl := Option.some.inj H
                                        go_wp2_with (first | ((with_reducible refine gate_callee (f := 15) rfl ?_); refine gL (some 146) Tryd.func15 #[.int .i64 t411] ?_; (with_reducible refine (plumblaw07_num.calls t411 t440 _ A79.out).mono ?_); rintro e w' ⟨rfl, ⟨nd, rfl⟩⟩; refine ⟨_, rfl, ?_⟩) | ((with_reducible refine gate_callee (f := 15) rfl ?_); refine gL (some 149) Tryd.func15 #[.int .i64 t411] ?_; (with_reducible refine (plumblaw07_num.calls t411 t441 _ A125.out).mono ?_); rintro e w' ⟨rfl, ⟨nd, rfl⟩⟩; refine ⟨_, rfl, ?_⟩) | (go_at_call 15; (with_reducible refine (plumblaw07_num.calls t417 t442 _ A129.out).mono ?_); rintro e w' ⟨rfl, ⟨nd, rfl⟩⟩))
                                        go_ret
                                        exact ⟨dE, eB⟩
                                      · rw [if_neg c130] at H
                                        have c130b0 : (t442 == 70) = false := beq_eq_false_iff_ne.mpr c130
                                        have c130b1 : (t442 != 70) = true := bne_iff_ne.mpr c130
                                        replace H := obe H
                                        obtain ⟨t443, A1310, H⟩ := H
                                        (try dsimp only at H)
                                        have A131 := aM A1310
                                        have tw_t443 : t443 = t442 := Option.some.inj (A131.out.symm.trans A129.out)
                                        clear A1310
                                        by_cases c132 : t443 = 0
                                        · rw [if_pos c132] at H
                                          have c132b0 : (t443 == 0) = true := beq_iff_eq.mpr c132
                                          have c132b0d : (t442 == 0) = true := by rw [← tw_t443]; exact c132b0
                                          have c132b1 : (t443 != 0) = false := bne_eq_false_iff_eq.mpr c132
                                          have c132b1d : (t442 != 0) = false := by rw [← tw_t443]; exact c132b1
                                          clear c132
                                          obtain rfl := Option.some.inj H
                                          go_wp2_with (first | ((with_reducible refine gate_callee (f := 15) rfl ?_); refine gL (some 146) Tryd.func15 #[.int .i64 t411] ?_; (with_reducible refine (plumblaw07_num.calls t411 t440 _ A79.out).mono ?_); rintro e w' ⟨rfl, ⟨nd, rfl⟩⟩; refine ⟨_, rfl, ?_⟩) | ((with_reducible refine gate_callee (f := 15) rfl ?_); refine gL (some 149) Tryd.func15 #[.int .i64 t411] ?_; (with_reducible refine (plumblaw07_num.calls t411 t441 _ A125.out).mono ?_); rintro e w' ⟨rfl, ⟨nd, rfl⟩⟩; refine ⟨_, rfl, ?_⟩) | (go_at_call 15; (with_reducible refine (plumblaw07_num.calls t417 t442 _ A129.out).mono ?_); rintro e w' ⟨rfl, ⟨nd, rfl⟩⟩) | (go_at_call 15; (with_reducible refine (plumblaw07_num.calls t417 t443 _ A131.out).mono ?_); rintro e w' ⟨rfl, ⟨nd, rfl⟩⟩))
                                          go_ret
                                          exact ⟨dE, eB⟩
                                        · rw [if_neg c132] at H
                                          exact absurd H (by simp)
                                    · rw [if_neg c128] at H
                                      exact absurd H (by simp)
                                  · rw [if_neg c127] at H
                                    exact absurd H (by simp)
                                · rw [if_neg c126] at H
                                  exact absurd H (by simp)
end Go.Proofs.YtoefabmlkbhmpaaDoor.PA
