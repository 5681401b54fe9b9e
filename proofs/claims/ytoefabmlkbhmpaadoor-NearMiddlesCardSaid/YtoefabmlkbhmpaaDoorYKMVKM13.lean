/- A part of the proof (13). -/
import Derived.Test.YtoefabmlkbhmpaaDoorYKMVKM2
import Derived.Test.YtoefabmlkbhmpaaDoorYKMVKM4
import Derived.Test.YtoefabmlkbhmpaaDoorYKMVKM7
import Derived.Test.YtoefabmlkbhmpaaDoorYKMVKM8
import Derived.Test.YtoefabmlkbhmpaaDoorYKMVKM12
import Derived.Test.YtoefabmlkbhmpaaDoorYKMVKM11
import Derived.Test.YtoefabmlkbhmpaaDoorYKMVKM9
namespace Go.Proofs.YtoefabmlkbhmpaaDoor.PA
open Go.RowKit Go.Proofs.YtoefabmlkbhmpaaDoorW.PrintWords Go.Proofs.YtoefabmlkbhmpaaDoorW.PrintLast Go.Proofs.YtoefabmlkbhmpaaDoorW.PrintMore
attribute [local go_sem] max2_int min2_int max_two min_two max_three min_three max_four min_four
set_option linter.unusedVariables false
set_option linter.unusedSimpArgs false
def plumblaw07_twice.f (k : Nat) (a0_0 : Bool) (l0_1 : List Int) (l0_2 : List Int) (a1_0 : Bool) (l1_1 : List Int) (l1_2 : List Int) (a2_0 : Bool) (l2_1 : List Int) (l2_2 : List Int) : Option (Int) := (rat_Add.f k a0_0 l0_1 l0_2 a1_0 l1_1 l1_2).bind fun bt383 => ((rat_Add.f k a2_0 l2_1 l2_2 a2_0 l2_1 l2_2).bind fun bt392 => ((plumblaw07_num.f bt383.2.2.2).bind fun t401 => (if t401 = 0 then ((plumblaw07_num.f bt392.2.2.2).bind fun t402 => (if t402 = 0 then ((plumblaw07_cmp.f k bt392.1 bt392.2.1 bt392.2.2.1 bt383.1 bt383.2.1 bt383.2.2.1).bind fun t403 => (some t403)) else (none))) else (none))))
set_option maxHeartbeats 8000000 in
set_option maxRecDepth 100000 in
theorem plumblaw07_twice.calls (k : Nat) (a0_0 : Bool) (A0_1 : Option Addr) (c0_1 : Nat) (l0_1 : List Int) (A0_2 : Option Addr) (c0_2 : Nat) (l0_2 : List Int) (a1_0 : Bool) (A1_1 : Option Addr) (c1_1 : Nat) (l1_1 : List Int) (A1_2 : Option Addr) (c1_2 : Nat) (l1_2 : List Int) (a2_0 : Bool) (A2_1 : Option Addr) (c2_1 : Nat) (l2_1 : List Int) (A2_2 : Option Addr) (c2_2 : Nat) (l2_2 : List Int) (r : Int) (w : World) (hr0_1 : Kd.C (Kd.int .u64) w A0_1 l0_1.length l0_1) (hc0_1 : l0_1.length ≤ c0_1) (hr0_2 : Kd.C (Kd.int .u64) w A0_2 l0_2.length l0_2) (hc0_2 : l0_2.length ≤ c0_2) (hr1_1 : Kd.C (Kd.int .u64) w A1_1 l1_1.length l1_1) (hc1_1 : l1_1.length ≤ c1_1) (hr1_2 : Kd.C (Kd.int .u64) w A1_2 l1_2.length l1_2) (hc1_2 : l1_2.length ≤ c1_2) (hr2_1 : Kd.C (Kd.int .u64) w A2_1 l2_1.length l2_1) (hc2_1 : l2_1.length ≤ c2_1) (hr2_2 : Kd.C (Kd.int .u64) w A2_2 l2_2.length l2_2) (hc2_2 : l2_2.length ≤ c2_2) (h : plumblaw07_twice.f k a0_0 l0_1 l0_2 a1_0 l1_1 l1_2 a2_0 l2_1 l2_2 = some r) :
  Calls Tryd.prog 30 #[.agg #[.bool a0_0, .slice A0_1 l0_1.length c0_1, .slice A0_2 l0_2.length c0_2], .agg #[.bool a1_0, .slice A1_1 l1_1.length c1_1, .slice A1_2 l1_2.length c1_2], .agg #[.bool a2_0, .slice A2_1 l2_1.length c2_1, .slice A2_2 l2_2.length c2_2]] w fun e w' => e = .returned (.int .i64 r) ∧ Below w.heap.size w w' := by
 have hu46 := Tryd.underlying46
 have HR0_1 := aM hr0_1
 have HC0_1 := aM hc0_1
 clear hr0_1 hc0_1
 have HR0_2 := aM hr0_2
 have HC0_2 := aM hc0_2
 clear hr0_2 hc0_2
 have HR1_1 := aM hr1_1
 have HC1_1 := aM hc1_1
 clear hr1_1 hc1_1
 have HR1_2 := aM hr1_2
 have HC1_2 := aM hc1_2
 clear hr1_2 hc1_2
 have HR2_1 := aM hr2_1
 have HC2_1 := aM hc2_1
 clear hr2_1 hc2_1
 have HR2_2 := aM hr2_2
 have HC2_2 := aM hc2_2
 clear hr2_2 hc2_2
 have HB := aM (Below.refl w.heap.size w)
 have H := h
 clear h
 unfold plumblaw07_twice.f at H
 replace H := oA H
 obtain ⟨⟨t383, t384, t387, t390⟩, A4, H⟩ := H
 (try dsimp only at H)
 replace H := oA H
 obtain ⟨⟨t392, t393, t396, t399⟩, A5, H⟩ := H
 (try dsimp only at H)
 replace H := oA H
 obtain ⟨t401, A6, H⟩ := H
 (try dsimp only at H)
 replace H := nO H
 obtain ⟨c7, H⟩ := H
 obtain ⟨c7b0, c7b1⟩ := bT c7
 clear c7
 replace H := oA H
 obtain ⟨t402, A8, H⟩ := H
 (try dsimp only at H)
 replace H := nO H
 obtain ⟨c9, H⟩ := H
 obtain ⟨c9b0, c9b1⟩ := bT c9
 clear c9
 replace H := oA H
 obtain ⟨t403, A10, H⟩ := H
 (try dsimp only at H)
 obtain rfl := Option.some.inj H
 go_enter Tryd.func30, Tryd.ntmps30
 go_wp2_with (first | ((with_reducible refine gate_dst (N := 3) rfl ?_); refine bE 3 #[.bool a0_0, .slice A0_1 l0_1.length c0_1, .slice A0_2 l0_2.length c0_2] 46 ?_; intro gb380 hg w11 hbox hb; have BK380 := aM (hbox); have GE380 : Aside0 (w.heap.size ≤ gb380) := gE hg; replace HB := hS HB.out hb; clear hb hbox hg) | ((with_reducible refine gate_dst (N := 4) rfl ?_); refine bE 4 #[.bool a1_0, .slice A1_1 l1_1.length c1_1, .slice A1_2 l1_2.length c1_2] 46 ?_; intro gb381 hg w12 hbox hb; have BK381 := aM (hbox); have GE381 : Aside0 (w.heap.size ≤ gb381) := gE hg; replace HB := hS HB.out hb; have NB380_381 := nL hg BK380.out; have NB381_380 := nG hg BK380.out; replace BK380 := bB BK380.out hb; clear hb hbox hg) | ((with_reducible refine gate_dst (N := 5) rfl ?_); refine bE 5 #[.bool a2_0, .slice A2_1 l2_1.length c2_1, .slice A2_2 l2_2.length c2_2] 46 ?_; intro gb382 hg w13 hbox hb; have BK382 := aM (hbox); have GE382 : Aside0 (w.heap.size ≤ gb382) := gE hg; replace HB := hS HB.out hb; have NB380_382 := nL hg BK380.out; have NB382_380 := nG hg BK380.out; replace BK380 := bB BK380.out hb; have NB381_382 := nL hg BK381.out; have NB382_381 := nG hg BK381.out; replace BK381 := bB BK381.out hb; clear hb hbox hg; have hnb14 := NB380_381.out; have hnc14 := NB381_380.out; have hnb15 := NB380_382.out; have hnc15 := NB382_380.out; obtain ⟨hcz16_0, hcz16_1, hcz16_2⟩ := cz3 BK380.out; obtain ⟨hfz16_0, hfz16_1, hfz16_2⟩ := fz3 BK380.out; have hnb17 := NB381_382.out; have hnc17 := NB382_381.out; obtain ⟨hcz18_0, hcz18_1, hcz18_2⟩ := cz3 BK381.out; obtain ⟨hfz18_0, hfz18_1, hfz18_2⟩ := fz3 BK381.out) | ((with_reducible refine gate_callee (f := 36) rfl ?_); refine gL (some 14) Tryd.func36 #[.agg #[.bool a0_0, .slice A0_1 l0_1.length c0_1, .slice A0_2 l0_2.length c0_2], .agg #[.bool a1_0, .slice A1_1 l1_1.length c1_1, .slice A1_2 l1_2.length c1_2]] ?_; (with_reducible refine (rat_Add.calls k a0_0 _ _ l0_1 _ _ l0_2 a1_0 _ _ l1_1 _ _ l1_2 t383 t384 t387 t390 _ ?side1 HC0_1.out ?side3 HC0_2.out ?side5 HC1_1.out ?side7 HC1_2.out A4.out).mono ?_); (case side1 => exact dC (Kd.C_below HR0_1.out HB.out)); (case side3 => exact dC (Kd.C_below HR0_2.out HB.out)); (case side5 => exact dC (Kd.C_below HR1_1.out HB.out)); (case side7 => exact dC (Kd.C_below HR1_2.out HB.out)); rintro e w19 ⟨v385, v388, rfl, ho0, ho1, hb⟩; refine ⟨_, rfl, ?_⟩; have HO386 := aM (Kd.R_lower ho0 (below_size eB)); have HO389 := aM (Kd.R_lower ho1 (below_size eB)); replace BK380 := bB BK380.out hb; replace BK381 := bB BK381.out hb; replace BK382 := bB BK382.out hb; replace HB := hS HB.out hb; (try clear hb); (try clear ho0); (try clear ho1)) | ((with_reducible refine gate_dst (N := 7) rfl ?_); refine bE 7 #[.bool false, .slice none 0 0, .slice none 0 0] 46 ?_; intro gb391 hg w20 hbox hb; replace HO386 := oB HO386.out hb; replace HO389 := oB HO389.out hb; have BK391 := aM (hbox); have GE391 : Aside0 (w.heap.size ≤ gb391) := gE hg; replace HB := hS HB.out hb; have NB380_391 := nL hg BK380.out; have NB391_380 := nG hg BK380.out; replace BK380 := bB BK380.out hb; have NB381_391 := nL hg BK381.out; have NB391_381 := nG hg BK381.out; replace BK381 := bB BK381.out hb; have NB382_391 := nL hg BK382.out; have NB391_382 := nG hg BK382.out; replace BK382 := bB BK382.out hb; clear hb hbox hg; have hnb21 := NB391_380.out; have hnc21 := NB380_391.out; have hnb22 := NB391_381.out; have hnc22 := NB381_391.out; have hnb23 := NB391_382.out; have hnc23 := NB382_391.out; obtain ⟨hcz24_0, hcz24_1, hcz24_2⟩ := cz3 BK391.out; obtain ⟨hfz24_0, hfz24_1, hfz24_2⟩ := fz3 BK391.out; obtain ⟨Ao25, co25, rfl⟩ := Kd.R_slice HO386.out; obtain ⟨Ao26, co26, rfl⟩ := Kd.R_slice HO389.out; obtain ⟨hcz27_0, hcz27_1, hcz27_2⟩ := cz3 BK382.out; obtain ⟨hfz27_0, hfz27_1, hfz27_2⟩ := fz3 BK382.out) | ((with_reducible refine gate_callee (f := 36) rfl ?_); refine gL (some 20) Tryd.func36 #[.agg #[.bool a2_0, .slice A2_1 l2_1.length c2_1, .slice A2_2 l2_2.length c2_2], .agg #[.bool a2_0, .slice A2_1 l2_1.length c2_1, .slice A2_2 l2_2.length c2_2]] ?_; (with_reducible refine (rat_Add.calls k a2_0 _ _ l2_1 _ _ l2_2 a2_0 _ _ l2_1 _ _ l2_2 t392 t393 t396 t399 _ ?side1 HC2_1.out ?side3 HC2_2.out ?side5 HC2_1.out ?side7 HC2_2.out A5.out).mono ?_); (case side1 => exact Kd.C_below HR2_1.out eB); (case side3 => exact Kd.C_below HR2_2.out eB); (case side5 => exact Kd.C_below HR2_1.out eB); (case side7 => exact Kd.C_below HR2_2.out eB); rintro e w28 ⟨v394, v397, rfl, ho0, ho1, hb⟩; refine ⟨_, rfl, ?_⟩; have HO395 := aM (Kd.R_lower (Kd.R_new' (Kd.R_new' ho0 (Kd.R_lt (oR HO386.out BK391.out))) (Kd.R_lt (oR HO389.out BK391.out))) (below_size eB)); have HO398 := aM (Kd.R_lower (Kd.R_new' (Kd.R_new' ho1 (Kd.R_lt (oR HO386.out BK391.out))) (Kd.R_lt (oR HO389.out BK391.out))) (below_size eB)); replace HO386 := aM (Kd.R_mono (Kd.R_told (Kd.R_told (Kd.R_old (oR HO386.out BK391.out) hb) (Kd.R_base ho0)) (Kd.R_base ho1)) (fun _ h_ => h_.1)); replace HO389 := aM (Kd.R_mono (Kd.R_told (Kd.R_told (Kd.R_old (oR HO389.out BK391.out) hb) (Kd.R_base ho0)) (Kd.R_base ho1)) (fun _ h_ => h_.1)); replace BK380 := aM (blk_below (g := gb380) (o := .cells #[.bool a0_0, .slice A0_1 l0_1.length c0_1, .slice A0_2 l0_2.length c0_2] 46 (0, 0)) (dQ1 BK380.out NB380_391.out) hb); replace BK381 := aM (blk_below (g := gb381) (o := .cells #[.bool a1_0, .slice A1_1 l1_1.length c1_1, .slice A1_2 l1_2.length c1_2] 46 (0, 0)) (dQ1 BK381.out NB381_391.out) hb); replace BK382 := aM (blk_below (g := gb382) (o := .cells #[.bool a2_0, .slice A2_1 l2_1.length c2_1, .slice A2_2 l2_2.length c2_2] 46 (0, 0)) (dQ1 BK382.out NB382_391.out) hb); replace BK391 := aM (blk_below (g := gb391) (o := .cells #[.bool t383, .slice Ao25 t384.length co25, .slice Ao26 t387.length co26] 46 (0, 0)) (dP BK391.out) hb); replace HB := hS HB.out hb; (try clear hb); (try clear ho0); (try clear ho1)) | ((with_reducible refine gate_dst (N := 9) rfl ?_); refine bE 9 #[.bool false, .slice none 0 0, .slice none 0 0] 46 ?_; intro gb400 hg w29 hbox hb; replace HO386 := oB HO386.out hb; replace HO389 := oB HO389.out hb; replace HO395 := oB HO395.out hb; replace HO398 := oB HO398.out hb; have BK400 := aM (hbox); have GE400 : Aside0 (w.heap.size ≤ gb400) := gE hg; replace HB := hS HB.out hb; have NB380_400 := nL hg BK380.out; have NB400_380 := nG hg BK380.out; replace BK380 := bB BK380.out hb; have NB381_400 := nL hg BK381.out; have NB400_381 := nG hg BK381.out; replace BK381 := bB BK381.out hb; have NB382_400 := nL hg BK382.out; have NB400_382 := nG hg BK382.out; replace BK382 := bB BK382.out hb; have NB391_400 := nL hg BK391.out; have NB400_391 := nG hg BK391.out; replace BK391 := bB BK391.out hb; clear hb hbox hg; have hnb30 := NB400_380.out; have hnc30 := NB380_400.out; have hnb31 := NB400_381.out; have hnc31 := NB381_400.out; have hnb32 := NB400_382.out; have hnc32 := NB382_400.out; have hnb33 := NB400_391.out; have hnc33 := NB391_400.out; obtain ⟨hcz34_0, hcz34_1, hcz34_2⟩ := cz3 BK400.out; obtain ⟨hfz34_0, hfz34_1, hfz34_2⟩ := fz3 BK400.out; obtain ⟨Ao35, co35, rfl⟩ := Kd.R_slice HO395.out; obtain ⟨Ao36, co36, rfl⟩ := Kd.R_slice HO398.out) | ((with_reducible refine gate_callee (f := 15) rfl ?_); refine gL (some 24) Tryd.func15 #[.int .i64 t390] ?_; (with_reducible refine (plumblaw07_num.calls t390 t401 _ A6.out).mono ?_); rintro e w' ⟨rfl, ⟨nd, rfl⟩⟩; refine ⟨_, rfl, ?_⟩) | (go_at_call 15; (with_reducible refine (plumblaw07_num.calls t399 t402 _ A8.out).mono ?_); rintro e w' ⟨rfl, ⟨nd, rfl⟩⟩; obtain ⟨hcz37_0, hcz37_1, hcz37_2⟩ := cz3 BK391.out; obtain ⟨hfz37_0, hfz37_1, hfz37_2⟩ := fz3 BK391.out) | ((with_reducible refine gate_callee (f := 27) rfl ?_); refine gL (some 33) Tryd.func27 #[.agg #[.bool t392, .slice Ao35 t393.length co35, .slice Ao36 t396.length co36], .agg #[.bool t383, .slice Ao25 t384.length co25, .slice Ao26 t387.length co26]] ?_; (with_reducible refine (plumblaw07_cmp.calls k t392 _ _ t393 _ _ t396 t383 _ _ t384 _ _ t387 t403 _ ?side1 (Kd.R_reads' HO395.out).2.1 ?side3 (Kd.R_reads' HO398.out).2.1 ?side5 (Kd.R_reads' HO386.out).2.1 ?side7 (Kd.R_reads' HO389.out).2.1 A10.out).mono ?_); (case side1 => refine (Kd.R_reads' (e := 26) (base := w.heap.size) (ok := fun k_ => ((oN Ao36 t396 co36 k_ ∧ oN Ao25 t384 co25 k_) ∧ oN Ao26 t387 co26 k_)) (n := t393.length) (c := co35) ?_).2.2; exact (oR HO395.out BK400.out)); (case side3 => refine (Kd.R_reads' (e := 26) (base := w.heap.size) (ok := fun k_ => ((oN Ao35 t393 co35 k_ ∧ oN Ao25 t384 co25 k_) ∧ oN Ao26 t387 co26 k_)) (n := t396.length) (c := co36) ?_).2.2; exact (oR HO398.out BK400.out)); (case side5 => refine (Kd.R_reads' (e := 26) (base := w.heap.size) (ok := fun k_ => ((oN Ao26 t387 co26 k_ ∧ oN Ao35 t393 co35 k_) ∧ oN Ao36 t396 co36 k_)) (n := t384.length) (c := co25) ?_).2.2; exact (oR HO386.out BK400.out)); (case side7 => refine (Kd.R_reads' (e := 26) (base := w.heap.size) (ok := fun k_ => ((oN Ao25 t384 co25 k_ ∧ oN Ao35 t393 co35 k_) ∧ oN Ao36 t396 co36 k_)) (n := t387.length) (c := co26) ?_).2.2; exact (oR HO389.out BK400.out)); rintro e w38 ⟨rfl, hb⟩; refine ⟨_, rfl, ?_⟩; replace HO386 := oX HO386.out BK400.out hb; replace HO389 := oX HO389.out BK400.out hb; replace HO395 := oX HO395.out BK400.out hb; replace HO398 := oX HO398.out BK400.out hb; replace BK380 := aM (blk_below (g := gb380) (o := .cells #[.bool a0_0, .slice A0_1 l0_1.length c0_1, .slice A0_2 l0_2.length c0_2] 46 (0, 0)) (dQ1 BK380.out NB380_400.out) hb); replace BK381 := aM (blk_below (g := gb381) (o := .cells #[.bool a1_0, .slice A1_1 l1_1.length c1_1, .slice A1_2 l1_2.length c1_2] 46 (0, 0)) (dQ1 BK381.out NB381_400.out) hb); replace BK382 := aM (blk_below (g := gb382) (o := .cells #[.bool a2_0, .slice A2_1 l2_1.length c2_1, .slice A2_2 l2_2.length c2_2] 46 (0, 0)) (dQ1 BK382.out NB382_400.out) hb); replace BK391 := aM (blk_below (g := gb391) (o := .cells #[.bool t383, .slice Ao25 t384.length co25, .slice Ao26 t387.length co26] 46 (0, 0)) (dQ1 BK391.out NB391_400.out) hb); replace BK400 := aM (blk_below (g := gb400) (o := .cells #[.bool t392, .slice Ao35 t393.length co35, .slice Ao36 t396.length co36] 46 (0, 0)) (dP BK400.out) hb); replace HB := hS HB.out hb; (try clear hb)))
 go_ret
 exact ⟨dE, eB⟩
def near_Value.f (k : Nat) (a0 : Int) : Option (Bool × List Int × List Int × Int) := (f64_Split.f k a0).bind fun bt405 => (if bt405.2.2.2 = 0 then ((nat_From.f bt405.2.1).bind fun t409 => ((nat_From.f 1).bind fun t412 => (if bt405.2.2.1 < 0 then ((nat_Shl.f k t412 (wrap64 (-bt405.2.2.1))).bind fun bt415 => ((rat_New.f k bt405.1 t409 bt415.1).bind fun bt419 => (some (bt419.1, bt419.2.1, bt419.2.2.1, bt419.2.2.2)))) else ((nat_Shl.f k t409 bt405.2.2.1).bind fun bt427 => ((rat_New.f k bt405.1 bt427.1 t412).bind fun bt431 => (some (bt431.1, bt431.2.1, bt431.2.2.1, bt431.2.2.2))))))) else (some (false, ([] : List Int), ([] : List Int), 60)))
set_option maxHeartbeats 8000000 in
set_option maxRecDepth 100000 in
theorem near_Value.calls (k : Nat) (a0 : Int) (r1 : Bool) (r2 : List Int) (r3 : List Int) (r4 : Int) (w : World) (h : near_Value.f k a0 = some (r1, r2, r3, r4)) :
  Calls Tryd.prog 33 #[.int .u64 a0] w fun e w' => ∃ v1_ v2_ : Value, e = .returned (.tuple #[.agg #[.bool r1, v1_, v2_], .int .i64 r4]) ∧ Kd.R (Kd.int .u64) 26 w' w.heap.size (fun k_ => some k_ ≠ (v2_ : Value).ownBlock) v1_ r2 ∧ Kd.R (Kd.int .u64) 26 w' w.heap.size (fun k_ => some k_ ≠ (v1_ : Value).ownBlock) v2_ r3 ∧ Below w.heap.size w w' := by
 have hu46 := Tryd.underlying46
 have HB := aM (Below.refl w.heap.size w)
 have H := h
 clear h
 unfold near_Value.f at H
 replace H := oA H
 obtain ⟨⟨t405, t406, t407, t408⟩, A2, H⟩ := H
 (try dsimp only at H)
 by_cases c3 : t408 = 0
 ·rw [if_pos c3] at H
  obtain ⟨c3b0, c3b1⟩ := bT c3
  clear c3
  replace H := oA H
  obtain ⟨t409, A4, H⟩ := H
  (try dsimp only at H)
  replace H := oA H
  obtain ⟨t412, A5, H⟩ := H
  (try dsimp only at H)
  by_cases c6 : t407 < 0
  ·rw [if_pos c6] at H
   have c6b0 := decide_eq_true c6
   clear c6
   replace H := oA H
   obtain ⟨⟨t415, t416⟩, A7, H⟩ := H
   (try dsimp only at H)
   replace H := oA H
   obtain ⟨⟨t419, t420, t423, t426⟩, A8, H⟩ := H
   (try dsimp only at H)
   simp only [Option.some.injEq, Prod.mk.injEq] at H
   obtain ⟨rfl, rfl, rfl, rfl⟩ := H
   go_enter Tryd.func33, Tryd.ntmps33
   go_wp2_with (first | ((with_reducible refine gate_dst (N := 2) rfl ?_); refine bE 2 #[.bool false, .slice none 0 0, .slice none 0 0] 46 ?_; intro gb404 hg w9 hbox hb; have BK404 := aM (hbox); have GE404 : Aside0 (w.heap.size ≤ gb404) := gE hg; replace HB := hS HB.out hb; clear hb hbox hg) | ((with_reducible refine gate_callee (f := 62) rfl ?_); refine gL (some 12) Tryd.func62 #[.int .u64 a0] ?_; (with_reducible refine (f64_Split.calls k a0 t405 t406 t407 t408 _ A2.out).mono ?_); rintro e w' ⟨rfl, ⟨nd, rfl⟩⟩; refine ⟨_, rfl, ?_⟩; (try (rw [drewN_self w9]; generalize hq_ : World.drewN w9 _ = w9; have n0_ : Aside0 (w9.heap[gb404]? = some (.cells #[.bool false, .slice none 0 0, .slice none 0 0] 46 (0, 0))) := ⟨by rw [← hq_]; exact (dK BK404.out)⟩; have n1_ : Aside0 (Below w.heap.size w w9) := ⟨by rw [← hq_]; exact eB⟩; clear BK404 HB hq_; have BK404 := n0_; have HB := n1_; clear n0_ n1_))) | ((with_reducible refine gate_callee (f := 66) rfl ?_); refine gL (some 21) Tryd.func66 #[.int .u64 t406] ?_; (with_reducible refine (nat_From.calls t406 t409 _ A4.out).mono ?_); rintro e w10 ⟨v410, rfl, ho0, hb⟩; refine ⟨_, rfl, ?_⟩; have HO411 := aM (Kd.R_lower ho0 (below_size eB)); replace BK404 := bB BK404.out hb; replace HB := hS HB.out hb; (try clear hb); (try clear ho0)) | ((with_reducible refine gate_callee (f := 66) rfl ?_); refine gL (some 22) Tryd.func66 #[.int .u64 1] ?_; (with_reducible refine (nat_From.calls 1 t412 _ A5.out).mono ?_); rintro e w11 ⟨v413, rfl, ho0, hb⟩; refine ⟨_, rfl, ?_⟩; have HO414 := aM (Kd.R_lower (Kd.R_new' ho0 (Kd.R_lt (dR HO411.out))) (below_size eB)); replace HO411 := oE HO411.out ho0 hb; replace BK404 := bB BK404.out hb; replace HB := hS HB.out hb; (try clear hb); (try clear ho0); obtain ⟨Ao12, co12, rfl⟩ := Kd.R_slice HO414.out) | ((with_reducible refine gate_callee (f := 21) rfl ?_); refine gL (some 29) Tryd.func21 #[.slice Ao12 t412.length co12, .int .i64 (wrap64 (-t407))] ?_; (with_reducible refine (nat_Shl.calls k _ _ t412 (wrap64 (-t407)) t415 t416 _ ?side1 (Kd.R_reads' HO414.out).2.1 A7.out).mono ?_); (case side1 => exact dC (Kd.R_reads' HO414.out).2.2); rintro e w13 ⟨v417, rfl, ho0, hb⟩; refine ⟨_, rfl, ?_⟩; have HO418 := aM (Kd.R_lower (Kd.R_new' (Kd.R_new' ho0 (Kd.R_lt (dR HO411.out))) (Kd.R_lt (dR HO414.out))) (below_size eB)); replace HO411 := oE HO411.out ho0 hb; replace HO414 := oE HO414.out ho0 hb; replace BK404 := bB BK404.out hb; replace HB := hS HB.out hb; (try clear hb); (try clear ho0); obtain ⟨Ao14, co14, rfl⟩ := Kd.R_slice HO411.out; obtain ⟨Ao15, co15, rfl⟩ := Kd.R_slice HO418.out) | ((with_reducible refine gate_callee (f := 59) rfl ?_); refine gL (some 41) Tryd.func59 #[.bool t405, .slice Ao14 t409.length co14, .slice Ao15 t415.length co15] ?_; (with_reducible refine (rat_New.calls k t405 _ _ t409 _ _ t415 t419 t420 t423 t426 _ ?side1 (Kd.R_reads' HO411.out).2.1 ?side3 (Kd.R_reads' HO418.out).2.1 A8.out).mono ?_); (case side1 => exact dC (Kd.R_reads' HO411.out).2.2); (case side3 => exact dC (Kd.R_reads' HO418.out).2.2); rintro e w16 ⟨v421, v424, rfl, ho0, ho1, hb⟩; refine ⟨_, rfl, ?_⟩; have HO422 := aM (Kd.R_lower (Kd.R_new' (Kd.R_new' (Kd.R_new' ho0 (Kd.R_lt (dR HO411.out))) (Kd.R_lt (dR HO414.out))) (Kd.R_lt (dR HO418.out))) (below_size eB)); have HO425 := aM (Kd.R_lower (Kd.R_new' (Kd.R_new' (Kd.R_new' ho1 (Kd.R_lt (dR HO411.out))) (Kd.R_lt (dR HO414.out))) (Kd.R_lt (dR HO418.out))) (below_size eB)); replace HO411 := aM (Kd.R_mono (Kd.R_told (Kd.R_told (Kd.R_old (dR HO411.out) hb) (Kd.R_base ho0)) (Kd.R_base ho1)) (fun _ h_ => h_.1)); replace HO414 := aM (Kd.R_mono (Kd.R_told (Kd.R_told (Kd.R_old (dR HO414.out) hb) (Kd.R_base ho0)) (Kd.R_base ho1)) (fun _ h_ => h_.1)); replace HO418 := aM (Kd.R_mono (Kd.R_told (Kd.R_told (Kd.R_old (dR HO418.out) hb) (Kd.R_base ho0)) (Kd.R_base ho1)) (fun _ h_ => h_.1)); replace BK404 := bB BK404.out hb; replace HB := hS HB.out hb; (try clear hb); (try clear ho0); (try clear ho1); obtain ⟨hcz17_0, hcz17_1, hcz17_2⟩ := cz3 BK404.out; obtain ⟨hfz17_0, hfz17_1, hfz17_2⟩ := fz3 BK404.out; obtain ⟨Ao18, co18, rfl⟩ := Kd.R_slice HO422.out; obtain ⟨Ao19, co19, rfl⟩ := Kd.R_slice HO425.out))
   refine bodyPost_ret (results_ct rfl _ _ gb404 46 #[.bool t419, .slice Ao18 t420.length co18, .slice Ao19 t423.length co19] (0, 0) _ rfl (dP BK404.out) Tryd.underlying46 rfl (by kernel_rfl)) rfl ?_
   exact ⟨_, _, dE, by (with_reducible repeat (first | apply Kd.R_alloc | apply Kd.R_drewN | apply Kd.R_drew)); exact Kd.R_mono (Kd.R_far (p := ⟨gb404, 2, none⟩) (Kd.R_far (p := ⟨gb404, 1, none⟩) (Kd.R_far (p := ⟨gb404, 0, none⟩) (Kd.R_types HO422.out BK404.out (by decide)) (fun _ hk => hk.2) (.bool t419)) (fun _ hk => hk.2) (.slice Ao18 t420.length co18)) (fun _ hk => hk.2) (.slice Ao19 t423.length co19)) (fun _ hk => hk.1.1.1.1), by (with_reducible repeat (first | apply Kd.R_alloc | apply Kd.R_drewN | apply Kd.R_drew)); exact Kd.R_mono (Kd.R_far (p := ⟨gb404, 2, none⟩) (Kd.R_far (p := ⟨gb404, 1, none⟩) (Kd.R_far (p := ⟨gb404, 0, none⟩) (Kd.R_types HO425.out BK404.out (by decide)) (fun _ hk => hk.2) (.bool t419)) (fun _ hk => hk.2) (.slice Ao18 t420.length co18)) (fun _ hk => hk.2) (.slice Ao19 t423.length co19)) (fun _ hk => hk.1.1.1.1), dG GE404.out⟩
  ·rw [if_neg c6] at H
   have c6b0 := decide_eq_false c6
   clear c6
   replace H := oA H
   obtain ⟨⟨t427, t428⟩, A20, H⟩ := H
   (try dsimp only at H)
   replace H := oA H
   obtain ⟨⟨t431, t432, t435, t438⟩, A21, H⟩ := H
   (try dsimp only at H)
   simp only [Option.some.injEq, Prod.mk.injEq] at H
   obtain ⟨rfl, rfl, rfl, rfl⟩ := H
   go_enter Tryd.func33, Tryd.ntmps33
   go_wp2_with (first | ((with_reducible refine gate_dst (N := 2) rfl ?_); refine bE 2 #[.bool false, .slice none 0 0, .slice none 0 0] 46 ?_; intro gb404 hg w22 hbox hb; have BK404 := aM (hbox); have GE404 : Aside0 (w.heap.size ≤ gb404) := gE hg; replace HB := hS HB.out hb; clear hb hbox hg) | ((with_reducible refine gate_callee (f := 62) rfl ?_); refine gL (some 12) Tryd.func62 #[.int .u64 a0] ?_; (with_reducible refine (f64_Split.calls k a0 t405 t406 t407 t408 _ A2.out).mono ?_); rintro e w' ⟨rfl, ⟨nd, rfl⟩⟩; refine ⟨_, rfl, ?_⟩; (try (rw [drewN_self w22]; generalize hq_ : World.drewN w22 _ = w22; have n0_ : Aside0 (w22.heap[gb404]? = some (.cells #[.bool false, .slice none 0 0, .slice none 0 0] 46 (0, 0))) := ⟨by rw [← hq_]; exact (dK BK404.out)⟩; have n1_ : Aside0 (Below w.heap.size w w22) := ⟨by rw [← hq_]; exact eB⟩; clear BK404 HB hq_; have BK404 := n0_; have HB := n1_; clear n0_ n1_))) | ((with_reducible refine gate_callee (f := 66) rfl ?_); refine gL (some 21) Tryd.func66 #[.int .u64 t406] ?_; (with_reducible refine (nat_From.calls t406 t409 _ A4.out).mono ?_); rintro e w23 ⟨v410, rfl, ho0, hb⟩; refine ⟨_, rfl, ?_⟩; have HO411 := aM (Kd.R_lower ho0 (below_size eB)); replace BK404 := bB BK404.out hb; replace HB := hS HB.out hb; (try clear hb); (try clear ho0)) | ((with_reducible refine gate_callee (f := 66) rfl ?_); refine gL (some 22) Tryd.func66 #[.int .u64 1] ?_; (with_reducible refine (nat_From.calls 1 t412 _ A5.out).mono ?_); rintro e w24 ⟨v413, rfl, ho0, hb⟩; refine ⟨_, rfl, ?_⟩; have HO414 := aM (Kd.R_lower (Kd.R_new' ho0 (Kd.R_lt (dR HO411.out))) (below_size eB)); replace HO411 := oE HO411.out ho0 hb; replace BK404 := bB BK404.out hb; replace HB := hS HB.out hb; (try clear hb); (try clear ho0); obtain ⟨Ao25, co25, rfl⟩ := Kd.R_slice HO411.out) | ((with_reducible refine gate_callee (f := 21) rfl ?_); refine gL (some 35) Tryd.func21 #[.slice Ao25 t409.length co25, .int .i64 t407] ?_; (with_reducible refine (nat_Shl.calls k _ _ t409 t407 t427 t428 _ ?side1 (Kd.R_reads' HO411.out).2.1 A20.out).mono ?_); (case side1 => exact dC (Kd.R_reads' HO411.out).2.2); rintro e w26 ⟨v429, rfl, ho0, hb⟩; refine ⟨_, rfl, ?_⟩; have HO430 := aM (Kd.R_lower (Kd.R_new' (Kd.R_new' ho0 (Kd.R_lt (dR HO411.out))) (Kd.R_lt (dR HO414.out))) (below_size eB)); replace HO411 := oE HO411.out ho0 hb; replace HO414 := oE HO414.out ho0 hb; replace BK404 := bB BK404.out hb; replace HB := hS HB.out hb; (try clear hb); (try clear ho0); obtain ⟨Ao27, co27, rfl⟩ := Kd.R_slice HO430.out; obtain ⟨Ao28, co28, rfl⟩ := Kd.R_slice HO414.out) | ((with_reducible refine gate_callee (f := 59) rfl ?_); refine gL (some 41) Tryd.func59 #[.bool t405, .slice Ao27 t427.length co27, .slice Ao28 t412.length co28] ?_; (with_reducible refine (rat_New.calls k t405 _ _ t427 _ _ t412 t431 t432 t435 t438 _ ?side1 (Kd.R_reads' HO430.out).2.1 ?side3 (Kd.R_reads' HO414.out).2.1 A21.out).mono ?_); (case side1 => exact dC (Kd.R_reads' HO430.out).2.2); (case side3 => exact dC (Kd.R_reads' HO414.out).2.2); rintro e w29 ⟨v433, v436, rfl, ho0, ho1, hb⟩; refine ⟨_, rfl, ?_⟩; have HO434 := aM (Kd.R_lower (Kd.R_new' (Kd.R_new' (Kd.R_new' ho0 (Kd.R_lt (dR HO411.out))) (Kd.R_lt (dR HO414.out))) (Kd.R_lt (dR HO430.out))) (below_size eB)); have HO437 := aM (Kd.R_lower (Kd.R_new' (Kd.R_new' (Kd.R_new' ho1 (Kd.R_lt (dR HO411.out))) (Kd.R_lt (dR HO414.out))) (Kd.R_lt (dR HO430.out))) (below_size eB)); replace HO411 := aM (Kd.R_mono (Kd.R_told (Kd.R_told (Kd.R_old (dR HO411.out) hb) (Kd.R_base ho0)) (Kd.R_base ho1)) (fun _ h_ => h_.1)); replace HO414 := aM (Kd.R_mono (Kd.R_told (Kd.R_told (Kd.R_old (dR HO414.out) hb) (Kd.R_base ho0)) (Kd.R_base ho1)) (fun _ h_ => h_.1)); replace HO430 := aM (Kd.R_mono (Kd.R_told (Kd.R_told (Kd.R_old (dR HO430.out) hb) (Kd.R_base ho0)) (Kd.R_base ho1)) (fun _ h_ => h_.1)); replace BK404 := bB BK404.out hb; replace HB := hS HB.out hb; (try clear hb); (try clear ho0); (try clear ho1); obtain ⟨hcz30_0, hcz30_1, hcz30_2⟩ := cz3 BK404.out; obtain ⟨hfz30_0, hfz30_1, hfz30_2⟩ := fz3 BK404.out; obtain ⟨Ao31, co31, rfl⟩ := Kd.R_slice HO434.out; obtain ⟨Ao32, co32, rfl⟩ := Kd.R_slice HO437.out))
   refine bodyPost_ret (results_ct rfl _ _ gb404 46 #[.bool t431, .slice Ao31 t432.length co31, .slice Ao32 t435.length co32] (0, 0) _ rfl (dP BK404.out) Tryd.underlying46 rfl (by kernel_rfl)) rfl ?_
   exact ⟨_, _, dE, by (with_reducible repeat (first | apply Kd.R_alloc | apply Kd.R_drewN | apply Kd.R_drew)); exact Kd.R_mono (Kd.R_far (p := ⟨gb404, 2, none⟩) (Kd.R_far (p := ⟨gb404, 1, none⟩) (Kd.R_far (p := ⟨gb404, 0, none⟩) (Kd.R_types HO434.out BK404.out (by decide)) (fun _ hk => hk.2) (.bool t431)) (fun _ hk => hk.2) (.slice Ao31 t432.length co31)) (fun _ hk => hk.2) (.slice Ao32 t435.length co32)) (fun _ hk => hk.1.1.1.1), by (with_reducible repeat (first | apply Kd.R_alloc | apply Kd.R_drewN | apply Kd.R_drew)); exact Kd.R_mono (Kd.R_far (p := ⟨gb404, 2, none⟩) (Kd.R_far (p := ⟨gb404, 1, none⟩) (Kd.R_far (p := ⟨gb404, 0, none⟩) (Kd.R_types HO437.out BK404.out (by decide)) (fun _ hk => hk.2) (.bool t431)) (fun _ hk => hk.2) (.slice Ao31 t432.length co31)) (fun _ hk => hk.2) (.slice Ao32 t435.length co32)) (fun _ hk => hk.1.1.1.1), dG GE404.out⟩
 ·rw [if_neg c3] at H
  obtain ⟨c3b0, c3b1⟩ := bF c3
  simp only [Option.some.injEq, Prod.mk.injEq] at H
  obtain ⟨rfl, rfl, rfl, rfl⟩ := H
  go_enter Tryd.func33, Tryd.ntmps33
  go_wp2_with (first | ((with_reducible refine gate_dst (N := 2) rfl ?_); refine bE 2 #[.bool false, .slice none 0 0, .slice none 0 0] 46 ?_; intro gb404 hg w33 hbox hb; have BK404 := aM (hbox); have GE404 : Aside0 (w.heap.size ≤ gb404) := gE hg; replace HB := hS HB.out hb; clear hb hbox hg) | ((with_reducible refine gate_callee (f := 62) rfl ?_); refine gL (some 12) Tryd.func62 #[.int .u64 a0] ?_; (with_reducible refine (f64_Split.calls k a0 t405 t406 t407 t408 _ A2.out).mono ?_); rintro e w' ⟨rfl, ⟨nd, rfl⟩⟩; refine ⟨_, rfl, ?_⟩; (try (rw [drewN_self w33]; generalize hq_ : World.drewN w33 _ = w33; have n0_ : Aside0 (w33.heap[gb404]? = some (.cells #[.bool false, .slice none 0 0, .slice none 0 0] 46 (0, 0))) := ⟨by rw [← hq_]; exact (dK BK404.out)⟩; have n1_ : Aside0 (Below w.heap.size w w33) := ⟨by rw [← hq_]; exact eB⟩; clear BK404 HB hq_; have BK404 := n0_; have HB := n1_; clear n0_ n1_)); obtain ⟨hcz34_0, hcz34_1, hcz34_2⟩ := cz3 BK404.out; obtain ⟨hfz34_0, hfz34_1, hfz34_2⟩ := fz3 BK404.out))
  refine bodyPost_ret (results_ct rfl _ _ gb404 46 #[.bool false, .slice none 0 0, .slice none 0 0] (0, 0) _ rfl (dP BK404.out) Tryd.underlying46 rfl (by kernel_rfl)) rfl ?_
  exact ⟨_, _, dE, by first | exact Kd.R_nil _ _ _ _ _ | exact Kd.N_nil _ _ _ _ _ | exact Kd.V_nil _ _ _ _ _ | exact Kd.Q_nil _ _ _ _ _ | exact Kd.S_nil _ _ _ _ _, by first | exact Kd.R_nil _ _ _ _ _ | exact Kd.N_nil _ _ _ _ _ | exact Kd.V_nil _ _ _ _ _ | exact Kd.Q_nil _ _ _ _ _ | exact Kd.S_nil _ _ _ _ _, dG GE404.out⟩
def f64_finite.f (k : Nat) (a0 : Int) : Option (Bool) := (f64_Class.f k a0).bind fun t439 => (if t439 = 3 then (some false) else (if t439 = 4 then (some false) else (some true)))
set_option maxHeartbeats 8000000 in
set_option maxRecDepth 100000 in
theorem f64_finite.calls (k : Nat) (a0 : Int) (r : Bool) (w : World) (h : f64_finite.f k a0 = some r) :
  Calls Tryd.prog 98 #[.int .u64 a0] w fun e w' => e = .returned (.bool r) ∧ Drawn0 w w' := by
 have H := h
 clear h
 unfold f64_finite.f at H
 replace H := oA H
 obtain ⟨t439, A2, H⟩ := H
 (try dsimp only at H)
 by_cases c3 : t439 = 3
 ·rw [if_pos c3] at H
  obtain ⟨c3b0, c3b1⟩ := bT c3
  clear c3
  obtain rfl := Option.some.inj H
  go_enter Tryd.func98, Tryd.ntmps98
  go_wp2_with (first | ((with_reducible refine gate_callee (f := 34) rfl ?_); refine gL (some 4) Tryd.func34 #[.int .u64 a0] ?_; (with_reducible refine (f64_Class.calls k a0 t439 _ A2.out).mono ?_); rintro e w' ⟨rfl, ⟨nd, rfl⟩⟩; refine ⟨_, rfl, ?_⟩))
  go_ret
  exact ⟨dF, dD⟩
 ·rw [if_neg c3] at H
  obtain ⟨c3b0, c3b1⟩ := bF c3
  by_cases c4 : t439 = 4
  ·rw [if_pos c4] at H
   obtain ⟨c4b0, c4b1⟩ := bT c4
   clear c4
   obtain rfl := Option.some.inj H
   go_enter Tryd.func98, Tryd.ntmps98
   go_wp2_with (first | ((with_reducible refine gate_callee (f := 34) rfl ?_); refine gL (some 4) Tryd.func34 #[.int .u64 a0] ?_; (with_reducible refine (f64_Class.calls k a0 t439 _ A2.out).mono ?_); rintro e w' ⟨rfl, ⟨nd, rfl⟩⟩; refine ⟨_, rfl, ?_⟩))
   go_ret
   exact ⟨dF, dD⟩
  ·rw [if_neg c4] at H
   obtain ⟨c4b0, c4b1⟩ := bF c4
   obtain rfl := Option.some.inj H
   go_enter Tryd.func98, Tryd.ntmps98
   go_wp2_with (first | ((with_reducible refine gate_callee (f := 34) rfl ?_); refine gL (some 4) Tryd.func34 #[.int .u64 a0] ?_; (with_reducible refine (f64_Class.calls k a0 t439 _ A2.out).mono ?_); rintro e w' ⟨rfl, ⟨nd, rfl⟩⟩; refine ⟨_, rfl, ?_⟩))
   go_ret
   exact ⟨dF, dD⟩
def f64_Next.f (k : Nat) (a0 : Int) : Option (Int × Int) := (f64_finite.f k a0).bind fun t440 => (if t440 = true then (if a0 = 9218868437227405311 then (some (0, 62)) else (if a0 = 9223372036854775808 then (some (1, 0)) else (if (Go.bits .and .u64 a0 9223372036854775808) = 0 then (some (IntKind.u64.wrap (a0 + 1), 0)) else (some (IntKind.u64.wrap (a0 - 1), 0))))) else (some (0, 60)))
set_option maxHeartbeats 8000000 in
set_option maxRecDepth 100000 in
theorem f64_Next.calls (k : Nat) (a0 : Int) (r1 : Int) (r2 : Int) (w : World) (h : f64_Next.f k a0 = some (r1, r2)) :
  Calls Tryd.prog 68 #[.int .u64 a0] w fun e w' => e = .returned (.tuple #[.int .u64 r1, .int .i64 r2]) ∧ Drawn0 w w' := by
 have H := h
 clear h
 unfold f64_Next.f at H
 replace H := oA H
 obtain ⟨t440, A2, H⟩ := H
 (try dsimp only at H)
 by_cases c3 : t440 = true
 ·subst c3
  rw [if_pos rfl] at H
  (try dsimp only at H)
  by_cases c4 : a0 = 9218868437227405311
  ·rw [if_pos c4] at H
   obtain ⟨c4b0, c4b1⟩ := bT c4
   clear c4
   simp only [Option.some.injEq, Prod.mk.injEq] at H
   obtain ⟨rfl, rfl⟩ := H
   go_enter Tryd.func68, Tryd.ntmps68
   go_wp2_with (first | ((with_reducible refine gate_callee (f := 98) rfl ?_); refine gL (some 6) Tryd.func98 #[.int .u64 a0] ?_; (with_reducible refine (f64_finite.calls k a0 true _ A2.out).mono ?_); rintro e w' ⟨rfl, ⟨nd, rfl⟩⟩; refine ⟨_, rfl, ?_⟩))
   go_ret2
   exact ⟨dF, dD⟩
  ·rw [if_neg c4] at H
   obtain ⟨c4b0, c4b1⟩ := bF c4
   by_cases c5 : a0 = 9223372036854775808
   ·rw [if_pos c5] at H
    obtain ⟨c5b0, c5b1⟩ := bT c5
    clear c5
    simp only [Option.some.injEq, Prod.mk.injEq] at H
    obtain ⟨rfl, rfl⟩ := H
    go_enter Tryd.func68, Tryd.ntmps68
    go_wp2_with (first | ((with_reducible refine gate_callee (f := 98) rfl ?_); refine gL (some 6) Tryd.func98 #[.int .u64 a0] ?_; (with_reducible refine (f64_finite.calls k a0 true _ A2.out).mono ?_); rintro e w' ⟨rfl, ⟨nd, rfl⟩⟩; refine ⟨_, rfl, ?_⟩))
    go_ret2
    exact ⟨dF, dD⟩
   ·rw [if_neg c5] at H
    obtain ⟨c5b0, c5b1⟩ := bF c5
    by_cases c6 : (Go.bits .and .u64 a0 9223372036854775808) = 0
    ·rw [if_pos c6] at H
     obtain ⟨c6b0, c6b1⟩ := bT c6
     clear c6
     simp only [Option.some.injEq, Prod.mk.injEq] at H
     obtain ⟨rfl, rfl⟩ := H
     go_enter Tryd.func68, Tryd.ntmps68
     go_wp2_with (first | ((with_reducible refine gate_callee (f := 98) rfl ?_); refine gL (some 6) Tryd.func98 #[.int .u64 a0] ?_; (with_reducible refine (f64_finite.calls k a0 true _ A2.out).mono ?_); rintro e w' ⟨rfl, ⟨nd, rfl⟩⟩; refine ⟨_, rfl, ?_⟩))
     go_ret2
     exact ⟨dF, dD⟩
    ·rw [if_neg c6] at H
     obtain ⟨c6b0, c6b1⟩ := bF c6
     simp only [Option.some.injEq, Prod.mk.injEq] at H
     obtain ⟨rfl, rfl⟩ := H
     go_enter Tryd.func68, Tryd.ntmps68
     go_wp2_with (first | ((with_reducible refine gate_callee (f := 98) rfl ?_); refine gL (some 6) Tryd.func98 #[.int .u64 a0] ?_; (with_reducible refine (f64_finite.calls k a0 true _ A2.out).mono ?_); rintro e w' ⟨rfl, ⟨nd, rfl⟩⟩; refine ⟨_, rfl, ?_⟩))
     go_ret2
     exact ⟨dF, dD⟩
 ·replace c3 := Bool.eq_false_iff.mpr c3
  subst c3
  rw [if_neg (show ¬ (false = true) by decide)] at H
  (try dsimp only at H)
  simp only [Option.some.injEq, Prod.mk.injEq] at H
  obtain ⟨rfl, rfl⟩ := H
  go_enter Tryd.func68, Tryd.ntmps68
  go_wp2_with (first | ((with_reducible refine gate_callee (f := 98) rfl ?_); refine gL (some 6) Tryd.func98 #[.int .u64 a0] ?_; (with_reducible refine (f64_finite.calls k a0 false _ A2.out).mono ?_); rintro e w' ⟨rfl, ⟨nd, rfl⟩⟩; refine ⟨_, rfl, ?_⟩))
  go_ret2
  exact ⟨dF, dD⟩
def rat_DivC1.f (k : Nat) (a0_0 : Bool) (l0_1 : List Int) (l0_2 : List Int) (a1_0 : Bool) (l1_1 : List Int) (l1_2 : List Int) : Option (Bool × List Int × List Int) := (rat_mul.f k l0_1 l1_2).bind fun t246 => ((rat_mul.f k l0_2 l1_1).bind fun t249 => ((rat_lowest.f k (a0_0 != a1_0) t246 t249).bind fun bt252 => (some (bt252.1, bt252.2.1, bt252.2.2))))
def rat_DivC1.T1 : Bool × List (List Nat × List Nat) := (true, [([], []), ([0], [0]), ([], []), ([2], [2]), ([1, 3], [1, 3]), ([], []), ([5], [5]), ([], []), ([7], [7]), ([6, 8], [6, 8]), ([], []), ([10], [10]), ([], []), ([12], [12]), ([11, 13, 9], [11, 13]), ([4, 9, 14, 14], [4, 9, 14]), ([15, 15, 0, 1, 2, 3, 4, 5, 6, 7, 8, 9, 10, 11, 12, 13, 14, 15], [15])])
def rat_DivC1.B1 : List Nat := [0, 1, 0, 4, 15, 0, 32, 0, 128, 480, 0, 1024, 0, 4096, 16352, 32767, 65535]
theorem rat_DivC1.tab1 : rtab .any (opsOf Tryd.f99 1) = rat_DivC1.T1 := by kernel_rfl
theorem rat_DivC1.bits1 : waitsOk rat_DivC1.T1.2 rat_DivC1.B1 = true := by kernel_rfl
set_option maxHeartbeats 8000000 in
set_option maxRecDepth 100000 in
theorem rat_DivC1.calls (k : Nat) (a0_0 : Bool) (A0_1 : Option Addr) (c0_1 : Nat) (l0_1 : List Int) (A0_2 : Option Addr) (c0_2 : Nat) (l0_2 : List Int) (a1_0 : Bool) (A1_1 : Option Addr) (c1_1 : Nat) (l1_1 : List Int) (A1_2 : Option Addr) (c1_2 : Nat) (l1_2 : List Int) (r1 : Bool) (r2 : List Int) (r3 : List Int) (w : World) (gb243 gb244 : Nat) (bka_ : w.heap[gb243]? = some (.cells #[.bool a0_0, .slice A0_1 l0_1.length c0_1, .slice A0_2 l0_2.length c0_2] 46 (0, 0))) (bkb_ : w.heap[gb244]? = some (.cells #[.bool a1_0, .slice A1_1 l1_1.length c1_1, .slice A1_2 l1_2.length c1_2] 46 (0, 0))) (nab_ : gb243 ≠ gb244) (hr0_1 : Kd.C (Kd.int .u64) w A0_1 l0_1.length l0_1) (hc0_1 : l0_1.length ≤ c0_1) (hr0_2 : Kd.C (Kd.int .u64) w A0_2 l0_2.length l0_2) (hc0_2 : l0_2.length ≤ c0_2) (hr1_1 : Kd.C (Kd.int .u64) w A1_1 l1_1.length l1_1) (hc1_1 : l1_1.length ≤ c1_1) (hr1_2 : Kd.C (Kd.int .u64) w A1_2 l1_2.length l1_2) (hc1_2 : l1_2.length ≤ c1_2) (h : rat_DivC1.f k a0_0 l0_1 l0_2 a1_0 l1_1 l1_2 = some (r1, r2, r3)) :
  Calls Tryd.prog 99 #[.pointer (some ⟨gb243, 0, none⟩), .pointer (some ⟨gb244, 0, none⟩)] w fun e w' => ∃ v1_ v2_ : Value, e = .returned (.agg #[.bool r1, v1_, v2_]) ∧ Kd.R (Kd.int .u64) 26 w' w.heap.size (fun k_ => some k_ ≠ (v2_ : Value).ownBlock) v1_ r2 ∧ Kd.R (Kd.int .u64) 26 w' w.heap.size (fun k_ => some k_ ≠ (v1_ : Value).ownBlock) v2_ r3 ∧ Below w.heap.size w w' := by
 have hu46 := Tryd.underlying46
 have HR0_1 := aM hr0_1
 have HC0_1 := aM hc0_1
 clear hr0_1 hc0_1
 have HR0_2 := aM hr0_2
 have HC0_2 := aM hc0_2
 clear hr0_2 hc0_2
 have HR1_1 := aM hr1_1
 have HC1_1 := aM hc1_1
 clear hr1_1 hc1_1
 have HR1_2 := aM hr1_2
 have HC1_2 := aM hc1_2
 clear hr1_2 hc1_2
 have HB := aM (Below.refl w.heap.size w)
 have BK243 := aM bka_
 have BK244 := aM bkb_
 have NB243_244 := aM nab_
 have NB244_243 := aM nab_.symm
 clear bka_ bkb_ nab_
 have H := h
 clear h
 unfold rat_DivC1.f at H
 replace H := oA H
 obtain ⟨t246, A3, H⟩ := H
 (try dsimp only at H)
 replace H := oA H
 obtain ⟨t249, A4, H⟩ := H
 (try dsimp only at H)
 replace H := oA H
 obtain ⟨⟨t252, t253, t256⟩, A5, H⟩ := H
 (try dsimp only at H)
 simp only [Option.some.injEq, Prod.mk.injEq] at H
 obtain ⟨rfl, rfl, rfl⟩ := H
 go_enter Tryd.func99, Tryd.ntmps99
 try go_wp2_with (first | ((with_reducible refine gate_dst (N := 2) rfl ?_); refine bE 2 #[.bool false, .slice none 0 0, .slice none 0 0] 46 ?_; intro gb245 hg w8 hbox hb; have BK245 := aM (hbox); have GE245 : Aside0 (w.heap.size ≤ gb245) := gE hg; replace HB := hS HB.out hb; have NB243_245 := nL hg BK243.out; have NB245_243 := nG hg BK243.out; replace BK243 := bB BK243.out hb; have NB244_245 := nL hg BK244.out; have NB245_244 := nG hg BK244.out; replace BK244 := bB BK244.out hb; clear hb hbox hg))
 replace BK243 := aM (blk_drew BK243.out)
 replace BK244 := aM (blk_drew BK244.out)
 replace BK245 := aM (blk_drew BK245.out)
 replace HB := aM (below_drew1 HB.out)
 refine start_ (n := 17) (S := fun w' => w'.cell? ⟨gb243, 0, none⟩ = some (.bool a0_0) ∧ w'.cell? ⟨gb243, 1, none⟩ = some (.slice A0_1 l0_1.length c0_1) ∧ w'.cell? ⟨gb243, 2, none⟩ = some (.slice A0_2 l0_2.length c0_2) ∧ w'.cell? ⟨gb244, 0, none⟩ = some (.bool a1_0) ∧ w'.cell? ⟨gb244, 1, none⟩ = some (.slice A1_1 l1_1.length c1_1) ∧ w'.cell? ⟨gb244, 2, none⟩ = some (.slice A1_2 l1_2.length c1_2)) (ds := []) #[false, false, false, false, false, false, false, false, false, false, false, false, false, false, false, false, false] (by kernel_rfl) rfl rfl ⟨(blk_cell BK243.out 0).trans rfl, (blk_cell BK243.out 1).trans rfl, (blk_cell BK243.out 2).trans rfl, (blk_cell BK244.out 0).trans rfl, (blk_cell BK244.out 1).trans rfl, (blk_cell BK244.out 2).trans rfl⟩ (fun hHeld => ?_); refine with_tabW rat_DivC1.tab1 rat_DivC1.bits1 (fun HT_ HW_ => ?_)
 generalize w8.drew = w9 at BK243 BK244 BK245 HB hHeld ⊢
 refine pP 0 (some 3) ?_
 refine pP 2 (some 5) ?_
 refine pP 5 (some 8) ?_
 refine pP 7 (some 10) ?_
 refine pP 10 (some 13) ?_
 refine pP 12 (some 15) ?_
 refine pH6 1 (some 4) hHeld ?_
 refine pH6 3 (some 6) hHeld ?_
 refine pP 4 (some 7) ?_
 refine pH6 6 (some 9) hHeld ?_
 refine pH6 8 (some 11) hHeld ?_
 refine pH6 11 (some 14) hHeld ?_
 refine pH6 13 (some 16) hHeld ?_
 refine one_ (i := 9) (N := some 12) #[true, true, true, true, true, true, true, true, true, true, true, true, true, true, false, false, false] rfl rfl (one_of HT_.out (by kernel_rfl)) (by decide) (fun K hK => ?_)
 refine goes_ Tryd.func73 (by kernel_rfl) rfl #[.slice A0_1 l0_1.length c0_1, .slice A1_2 l1_2.length c1_2] (by rfl) rfl rfl dA ?_
 with_reducible refine (rat_mul.calls k _ _ l0_1 _ _ l1_2 t246 _ ?side1 HC0_1.out ?side3 HC1_2.out A3.out).mono ?_
 (case side1 => exact dC (Kd.C_below HR0_1.out HB.out))
 (case side3 => exact dC (Kd.C_below HR1_2.out HB.out))
 rintro e w10 ⟨v247, rfl, ho0, hb⟩
 refine ⟨_, rfl, ?_⟩
 have HO248 := aM (Kd.R_lower ho0 (below_size eB))
 replace BK243 := bB BK243.out hb
 replace BK244 := bB BK244.out hb
 replace BK245 := bB BK245.out hb
 replace HB := hS HB.out hb
 (try clear hb)
 (try clear hb2)
 (try clear hk)
 (try clear hi)
 (try clear ho0)
 refine hK.out _ _ ⟨(blk_cell BK243.out 0).trans rfl, (blk_cell BK243.out 1).trans rfl, (blk_cell BK243.out 2).trans rfl, (blk_cell BK244.out 0).trans rfl, (blk_cell BK244.out 1).trans rfl, (blk_cell BK244.out 2).trans rfl⟩ (fun hHeld => ?_)
 clear hK K
 refine norm_ (a' := ?_) ?_ ?_
 rotate_left
 ·show Act.put _ (some 12) _ = _
  simp only [Act.put, List.setIfInBounds_toArray, List.set_cons_zero, List.set_cons_succ, i64_w, i32_w]
  rfl
 refine one_ (i := 14) (N := some 17) #[true, true, true, true, true, true, true, true, true, true, true, true, true, true, true, false, false] rfl rfl (one_of HT_.out (by kernel_rfl)) (by decide) (fun K hK => ?_)
 refine goes_ Tryd.func73 (by kernel_rfl) rfl #[.slice A0_2 l0_2.length c0_2, .slice A1_1 l1_1.length c1_1] (by rfl) rfl rfl dA ?_
 with_reducible refine (rat_mul.calls k _ _ l0_2 _ _ l1_1 t249 _ ?side1 HC0_2.out ?side3 HC1_1.out A4.out).mono ?_
 (case side1 => exact dC (Kd.C_below HR0_2.out HB.out))
 (case side3 => exact dC (Kd.C_below HR1_1.out HB.out))
 rintro e w11 ⟨v250, rfl, ho0, hb⟩
 refine ⟨_, rfl, ?_⟩
 have HO251 := aM (Kd.R_lower (Kd.R_new' ho0 (Kd.R_lt (dR HO248.out))) (below_size eB))
 replace HO248 := oE HO248.out ho0 hb
 replace BK243 := bB BK243.out hb
 replace BK244 := bB BK244.out hb
 replace BK245 := bB BK245.out hb
 replace HB := hS HB.out hb
 (try clear hb)
 (try clear hb2)
 (try clear hk)
 (try clear hi)
 (try clear ho0)
 obtain ⟨Ao12, co12, eo12⟩ := Kd.R_slice HO248.out
 (first | subst eo12 | (injection eo12 with f1_ f2_ f3_; have f4_ := f1_.symm; have f5_ := f3_.symm; clear f1_ f2_ f3_; subst f4_; subst f5_))
 obtain ⟨Ao13, co13, eo13⟩ := Kd.R_slice HO251.out
 (first | subst eo13 | (injection eo13 with f1_ f2_ f3_; have f4_ := f1_.symm; have f5_ := f3_.symm; clear f1_ f2_ f3_; subst f4_; subst f5_))
 refine hK.out _ _ ⟨(blk_cell BK243.out 0).trans rfl, (blk_cell BK243.out 1).trans rfl, (blk_cell BK243.out 2).trans rfl, (blk_cell BK244.out 0).trans rfl, (blk_cell BK244.out 1).trans rfl, (blk_cell BK244.out 2).trans rfl⟩ (fun hHeld => ?_)
 clear hK K
 refine norm_ (a' := ?_) ?_ ?_
 rotate_left
 ·show Act.put _ (some 17) _ = _
  simp only [Act.put, List.setIfInBounds_toArray, List.set_cons_zero, List.set_cons_succ, i64_w, i32_w]
  rfl
 refine one_ (i := 15) (N := some 18) #[true, true, true, true, true, true, true, true, true, true, true, true, true, true, true, true, false] rfl rfl (one_of HT_.out (by kernel_rfl)) (by decide) (fun K hK => ?_)
 refine goes_ Tryd.func74 (by kernel_rfl) rfl #[.bool (a0_0 != a1_0), .slice Ao12 t246.length co12, .slice Ao13 t249.length co13] (by rfl) rfl rfl dA ?_
 with_reducible refine (rat_lowest.calls k (a0_0 != a1_0) _ _ t246 _ _ t249 t252 t253 t256 _ ?side1 (Kd.R_reads' HO248.out).2.1 ?side3 (Kd.R_reads' HO251.out).2.1 A5.out).mono ?_
 (case side1 => exact dC (Kd.R_reads' HO248.out).2.2)
 (case side3 => exact dC (Kd.R_reads' HO251.out).2.2)
 rintro e w14 ⟨v254, v257, rfl, ho0, ho1, hb⟩
 refine ⟨_, rfl, ?_⟩
 have HO255 := aM (Kd.R_lower (Kd.R_new' (Kd.R_new' ho0 (Kd.R_lt (dR HO248.out))) (Kd.R_lt (dR HO251.out))) (below_size eB))
 have HO258 := aM (Kd.R_lower (Kd.R_new' (Kd.R_new' ho1 (Kd.R_lt (dR HO248.out))) (Kd.R_lt (dR HO251.out))) (below_size eB))
 replace HO248 := aM (Kd.R_mono (Kd.R_told (Kd.R_told (Kd.R_old (dR HO248.out) hb) (Kd.R_base ho0)) (Kd.R_base ho1)) (fun _ h_ => h_.1))
 replace HO251 := aM (Kd.R_mono (Kd.R_told (Kd.R_told (Kd.R_old (dR HO251.out) hb) (Kd.R_base ho0)) (Kd.R_base ho1)) (fun _ h_ => h_.1))
 replace BK243 := bB BK243.out hb
 replace BK244 := bB BK244.out hb
 replace BK245 := bB BK245.out hb
 replace HB := hS HB.out hb
 (try clear hb)
 (try clear hb2)
 (try clear hk)
 (try clear hi)
 (try clear ho0)
 (try clear ho1)
 obtain ⟨Ao16, co16, eo16⟩ := Kd.R_slice HO255.out
 (first | subst eo16 | (injection eo16 with f1_ f2_ f3_; have f4_ := f1_.symm; have f5_ := f3_.symm; clear f1_ f2_ f3_; subst f4_; subst f5_))
 obtain ⟨Ao18, co18, eo18⟩ := Kd.R_slice HO258.out
 (first | subst eo18 | (injection eo18 with f1_ f2_ f3_; have f4_ := f1_.symm; have f5_ := f3_.symm; clear f1_ f2_ f3_; subst f4_; subst f5_))
 refine hK.out _ _ ⟨(blk_cell BK243.out 0).trans rfl, (blk_cell BK243.out 1).trans rfl, (blk_cell BK243.out 2).trans rfl, (blk_cell BK244.out 0).trans rfl, (blk_cell BK244.out 1).trans rfl, (blk_cell BK244.out 2).trans rfl⟩ (fun hHeld => ?_)
 clear hK K
 refine norm_ (a' := ?_) ?_ ?_
 rotate_left
 ·show Act.put _ (some 18) _ = _
  simp only [Act.put, List.setIfInBounds_toArray, List.set_cons_zero, List.set_cons_succ, i64_w, i32_w]
  rfl
 refine one_ (i := 16) (N := none) #[true, true, true, true, true, true, true, true, true, true, true, true, true, true, true, true, true] rfl rfl (one_of HT_.out (by kernel_rfl)) (by decide) (fun K hK => ?_)
 have hs15 : w14.cell? ⟨gb245, 0, none⟩ = some (.bool false) := (blk_cell BK245.out 0).trans rfl
 have hfs15 := blk_frozen BK245.out 0
 have hns15_0 := NB243_245.out
 have hns15_1 := NB244_245.out
 have hms15_0 := NB245_243.out
 have hms15_1 := NB245_244.out
 have hs17 : w14.cell? ⟨gb245, 1, none⟩ = some (.slice none 0 0) := (blk_cell BK245.out 1).trans rfl
 have hfs17 := blk_frozen BK245.out 1
 have hns17_0 := NB243_245.out
 have hns17_1 := NB244_245.out
 have hms17_0 := NB245_243.out
 have hms17_1 := NB245_244.out
 have hs19 : w14.cell? ⟨gb245, 2, none⟩ = some (.slice none 0 0) := (blk_cell BK245.out 2).trans rfl
 have hfs19 := blk_frozen BK245.out 2
 have hns19_0 := NB243_245.out
 have hns19_1 := NB244_245.out
 have hms19_0 := NB245_243.out
 have hms19_1 := NB245_244.out
 refine skip_ (w1 := ?_) (by rfl) rfl ?_ ?_
 rotate_left
 ·go_simp
  rfl
 refine hK.out _ _ ⟨((cell_far (p := ⟨gb245, _, none⟩) NB243_245.out _).trans (((cell_far (p := ⟨gb245, _, none⟩) NB243_245.out _).trans (((cell_far (p := ⟨gb245, _, none⟩) NB243_245.out _).trans (hHeld.1)))))), ((cell_far (p := ⟨gb245, _, none⟩) NB243_245.out _).trans (((cell_far (p := ⟨gb245, _, none⟩) NB243_245.out _).trans (((cell_far (p := ⟨gb245, _, none⟩) NB243_245.out _).trans (hHeld.2.1)))))), ((cell_far (p := ⟨gb245, _, none⟩) NB243_245.out _).trans (((cell_far (p := ⟨gb245, _, none⟩) NB243_245.out _).trans (((cell_far (p := ⟨gb245, _, none⟩) NB243_245.out _).trans (hHeld.2.2.1)))))), ((cell_far (p := ⟨gb245, _, none⟩) NB244_245.out _).trans (((cell_far (p := ⟨gb245, _, none⟩) NB244_245.out _).trans (((cell_far (p := ⟨gb245, _, none⟩) NB244_245.out _).trans (hHeld.2.2.2.1)))))), ((cell_far (p := ⟨gb245, _, none⟩) NB244_245.out _).trans (((cell_far (p := ⟨gb245, _, none⟩) NB244_245.out _).trans (((cell_far (p := ⟨gb245, _, none⟩) NB244_245.out _).trans (hHeld.2.2.2.2.1)))))), ((cell_far (p := ⟨gb245, _, none⟩) NB244_245.out _).trans (((cell_far (p := ⟨gb245, _, none⟩) NB244_245.out _).trans (((cell_far (p := ⟨gb245, _, none⟩) NB244_245.out _).trans (hHeld.2.2.2.2.2))))))⟩ (fun hHeld => ?_)
 clear hK K
 refine done_ (done_of HT_.out (by kernel_rfl)) ?_
 try go_wp2
 refine bodyPost_ret (results_cell_row rfl _ _ gb245 46 #[.bool t252, .slice Ao16 t253.length co16, .slice Ao18 t256.length co18] (0, 0) _ rfl (dP BK245.out) Tryd.underlying46 rfl (by kernel_rfl)) rfl ?_
 exact ⟨_, _, dE, by (with_reducible repeat (first | apply Kd.R_alloc | apply Kd.R_drewN | apply Kd.R_drew)); exact Kd.R_mono (Kd.R_far (p := ⟨gb245, 2, none⟩) (Kd.R_far (p := ⟨gb245, 1, none⟩) (Kd.R_far (p := ⟨gb245, 0, none⟩) (Kd.R_types HO255.out BK245.out (by decide)) (fun _ hk => hk.2) (.bool t252)) (fun _ hk => hk.2) (.slice Ao16 t253.length co16)) (fun _ hk => hk.2) (.slice Ao18 t256.length co18)) (fun _ hk => hk.1.1.1), by (with_reducible repeat (first | apply Kd.R_alloc | apply Kd.R_drewN | apply Kd.R_drew)); exact Kd.R_mono (Kd.R_far (p := ⟨gb245, 2, none⟩) (Kd.R_far (p := ⟨gb245, 1, none⟩) (Kd.R_far (p := ⟨gb245, 0, none⟩) (Kd.R_types HO258.out BK245.out (by decide)) (fun _ hk => hk.2) (.bool t252)) (fun _ hk => hk.2) (.slice Ao16 t253.length co16)) (fun _ hk => hk.2) (.slice Ao18 t256.length co18)) (fun _ hk => hk.1.1.1), dG GE245.out⟩
def rat_reckonedDiv.f (k : Nat) (a0_0 : Bool) (l0_1 l0_2 : List Int) (a1_0 : Bool) (l1_1 l1_2 : List Int) : Option (Bool × List Int × List Int × Int) := rat_reckoned.f k a0_0 l0_1 l0_2 a1_0 l1_1 l1_2 (rat_DivC1.f k a0_0 l0_1 l0_2 a1_0 l1_1 l1_2)
theorem rat_reckonedDiv.calls (k : Nat) (a0_0 : Bool) (A0_1 : Option Addr) (c0_1 : Nat) (l0_1 : List Int) (A0_2 : Option Addr) (c0_2 : Nat) (l0_2 : List Int) (a1_0 : Bool) (A1_1 : Option Addr) (c1_1 : Nat) (l1_1 : List Int) (A1_2 : Option Addr) (c1_2 : Nat) (l1_2 : List Int) (r1 : Bool) (r2 r3 : List Int) (r4 : Int) (w : World) (ga gb : Nat) (bka : w.heap[ga]? = some (.cells #[.bool a0_0, .slice A0_1 l0_1.length c0_1, .slice A0_2 l0_2.length c0_2] 46 (0, 0))) (bkb : w.heap[gb]? = some (.cells #[.bool a1_0, .slice A1_1 l1_1.length c1_1, .slice A1_2 l1_2.length c1_2] 46 (0, 0))) (nab : ga ≠ gb) (hr0_1 : Kd.C (Kd.int .u64) w A0_1 l0_1.length l0_1) (hc0_1 : l0_1.length ≤ c0_1) (hr0_2 : Kd.C (Kd.int .u64) w A0_2 l0_2.length l0_2) (hc0_2 : l0_2.length ≤ c0_2) (hr1_1 : Kd.C (Kd.int .u64) w A1_1 l1_1.length l1_1) (hc1_1 : l1_1.length ≤ c1_1) (hr1_2 : Kd.C (Kd.int .u64) w A1_2 l1_2.length l1_2) (hc1_2 : l1_2.length ≤ c1_2) (h : rat_reckonedDiv.f k a0_0 l0_1 l0_2 a1_0 l1_1 l1_2 = some (r1, r2, r3, r4)) :
  Calls Tryd.prog 71 #[.agg #[.bool a0_0, .slice A0_1 l0_1.length c0_1, .slice A0_2 l0_2.length c0_2], .agg #[.bool a1_0, .slice A1_1 l1_1.length c1_1, .slice A1_2 l1_2.length c1_2], .func (.func 99) #[] #[.pointer (some ⟨ga, 0, none⟩), .pointer (some ⟨gb, 0, none⟩)]] w fun e w' => ∃ v1_ v2_ : Value, e = .returned (.tuple #[.agg #[.bool r1, v1_, v2_], .int .i64 r4]) ∧ Kd.R (Kd.int .u64) 26 w' w.heap.size (fun k_ => some k_ ≠ (v2_ : Value).ownBlock) v1_ r2 ∧ Kd.R (Kd.int .u64) 26 w' w.heap.size (fun k_ => some k_ ≠ (v1_ : Value).ownBlock) v2_ r3 ∧ Below w.heap.size w w' := by
 refine rat_reckoned.calls (fun args w => enters_ Tryd.func99 (by kernel_rfl) rfl args w) k a0_0 _ _ l0_1 _ _ l0_2 a1_0 _ _ l1_1 _ _ l1_2 _ r1 r2 r3 r4 w hr0_1 hc0_1 hr0_2 hc0_2 hr1_1 hc1_1 hr1_2 hc1_2 (fun w1 x1 x2 x3 hb hx => ?_) h
 have la := blk_lt bka
 have lb := blk_lt bkb
 exact rat_DivC1.calls k a0_0 _ _ l0_1 _ _ l0_2 a1_0 _ _ l1_1 _ _ l1_2 x1 x2 x3 w1 ga gb (blk_below bka hb) (blk_below bkb hb) nab (Kd.C_below hr0_1 hb) hc0_1 (Kd.C_below hr0_2 hb) hc0_2 (Kd.C_below hr1_1 hb) hc1_1 (Kd.C_below hr1_2 hb) hc1_2 hx
def rat_Div.f (k : Nat) (a0_0 : Bool) (l0_1 : List Int) (l0_2 : List Int) (a1_0 : Bool) (l1_1 : List Int) (l1_2 : List Int) : Option (Bool × List Int × List Int × Int) := (rat_Check.f k a0_0 l0_1 l0_2).bind fun t274 => (if t274 = 0 then ((rat_Check.f k a1_0 l1_1 l1_2).bind fun t275 => (if t275 = 0 then (if (l1_1.length : Int) = 0 then (none) else ((rat_reckonedDiv.f k a0_0 l0_1 l0_2 a1_0 l1_1 l1_2).bind fun bt276 => (some (bt276.1, bt276.2.1, bt276.2.2.1, bt276.2.2.2)))) else (none))) else (none))
set_option maxHeartbeats 8000000 in
set_option maxRecDepth 100000 in
theorem rat_Div.calls (k : Nat) (a0_0 : Bool) (A0_1 : Option Addr) (c0_1 : Nat) (l0_1 : List Int) (A0_2 : Option Addr) (c0_2 : Nat) (l0_2 : List Int) (a1_0 : Bool) (A1_1 : Option Addr) (c1_1 : Nat) (l1_1 : List Int) (A1_2 : Option Addr) (c1_2 : Nat) (l1_2 : List Int) (r1 : Bool) (r2 : List Int) (r3 : List Int) (r4 : Int) (w : World) (hr0_1 : Kd.C (Kd.int .u64) w A0_1 l0_1.length l0_1) (hc0_1 : l0_1.length ≤ c0_1) (hr0_2 : Kd.C (Kd.int .u64) w A0_2 l0_2.length l0_2) (hc0_2 : l0_2.length ≤ c0_2) (hr1_1 : Kd.C (Kd.int .u64) w A1_1 l1_1.length l1_1) (hc1_1 : l1_1.length ≤ c1_1) (hr1_2 : Kd.C (Kd.int .u64) w A1_2 l1_2.length l1_2) (hc1_2 : l1_2.length ≤ c1_2) (h : rat_Div.f k a0_0 l0_1 l0_2 a1_0 l1_1 l1_2 = some (r1, r2, r3, r4)) :
  Calls Tryd.prog 69 #[.agg #[.bool a0_0, .slice A0_1 l0_1.length c0_1, .slice A0_2 l0_2.length c0_2], .agg #[.bool a1_0, .slice A1_1 l1_1.length c1_1, .slice A1_2 l1_2.length c1_2]] w fun e w' => ∃ v1_ v2_ : Value, e = .returned (.tuple #[.agg #[.bool r1, v1_, v2_], .int .i64 r4]) ∧ Kd.R (Kd.int .u64) 26 w' w.heap.size (fun k_ => some k_ ≠ (v2_ : Value).ownBlock) v1_ r2 ∧ Kd.R (Kd.int .u64) 26 w' w.heap.size (fun k_ => some k_ ≠ (v1_ : Value).ownBlock) v2_ r3 ∧ Below w.heap.size w w' := by
 have hmf : ∀ (fn : Fn) (first cap : Array Value) (w : World), (Instr.makeFunc fn first cap).run Tryd.prog w = .ok (.func fn first cap) w := fun _ _ _ _ => rfl
 have hu46 := Tryd.underlying46
 have HR0_1 := aM hr0_1
 have HC0_1 := aM hc0_1
 clear hr0_1 hc0_1
 have HR0_2 := aM hr0_2
 have HC0_2 := aM hc0_2
 clear hr0_2 hc0_2
 have HR1_1 := aM hr1_1
 have HC1_1 := aM hc1_1
 clear hr1_1 hc1_1
 have HR1_2 := aM hr1_2
 have HC1_2 := aM hc1_2
 clear hr1_2 hc1_2
 have HB := aM (Below.refl w.heap.size w)
 have H := h
 clear h
 unfold rat_Div.f at H
 replace H := oA H
 obtain ⟨t274, A3, H⟩ := H
 (try dsimp only at H)
 replace H := nO H
 obtain ⟨c4, H⟩ := H
 obtain ⟨c4b0, c4b1⟩ := bT c4
 clear c4
 replace H := oA H
 obtain ⟨t275, A5, H⟩ := H
 (try dsimp only at H)
 replace H := nO H
 obtain ⟨c6, H⟩ := H
 obtain ⟨c6b0, c6b1⟩ := bT c6
 clear c6
 replace H := nQ H
 obtain ⟨c7, H⟩ := H
 obtain ⟨c7b0, c7b1⟩ := bF c7
 have c7b2 : ¬ (l1_1 = []) := fun h_ => c7 (by rw [h_]; rfl)
 replace H := oA H
 obtain ⟨⟨t276, t277, t280, t283⟩, A20, H⟩ := H
 (try dsimp only at H)
 simp only [Option.some.injEq, Prod.mk.injEq] at H
 obtain ⟨rfl, rfl, rfl, rfl⟩ := H
 go_enter Tryd.func69, Tryd.ntmps69
 go_wp2_with (first | ((with_reducible refine gate_dst (N := 2) rfl ?_); (try (refine gate_guard (by rfl) ?_; dsimp only)); refine bE 2 #[.bool a0_0, .slice A0_1 l0_1.length c0_1, .slice A0_2 l0_2.length c0_2] 46 ?_; intro gb271 hg w21 hbox hb; have BK271 := aM (hbox); have GE271 : Aside0 (w.heap.size ≤ gb271) := gE hg; replace HB := hS HB.out hb; clear hb hbox hg) | ((with_reducible refine gate_dst (N := 3) rfl ?_); (try (refine gate_guard (by rfl) ?_; dsimp only)); refine bE 3 #[.bool a1_0, .slice A1_1 l1_1.length c1_1, .slice A1_2 l1_2.length c1_2] 46 ?_; intro gb272 hg w22 hbox hb; have BK272 := aM (hbox); have GE272 : Aside0 (w.heap.size ≤ gb272) := gE hg; replace HB := hS HB.out hb; have NB271_272 := nL hg BK271.out; have NB272_271 := nG hg BK271.out; replace BK271 := bB BK271.out hb; clear hb hbox hg) | ((with_reducible refine gate_dst (N := 4) rfl ?_); (try (refine gate_guard (by rfl) ?_; dsimp only)); refine bE 4 #[.bool false, .slice none 0 0, .slice none 0 0] 46 ?_; intro gb273 hg w23 hbox hb; have BK273 := aM (hbox); have GE273 : Aside0 (w.heap.size ≤ gb273) := gE hg; replace HB := hS HB.out hb; have NB271_273 := nL hg BK271.out; have NB273_271 := nG hg BK271.out; replace BK271 := bB BK271.out hb; have NB272_273 := nL hg BK272.out; have NB273_272 := nG hg BK272.out; replace BK272 := bB BK272.out hb; clear hb hbox hg; have hnb24 := NB271_272.out; have hnc24 := NB272_271.out; have hnb25 := NB271_273.out; have hnc25 := NB273_271.out; obtain ⟨hcz26_0, hcz26_1, hcz26_2⟩ := cz3 BK271.out; obtain ⟨hfz26_0, hfz26_1, hfz26_2⟩ := fz3 BK271.out) | ((with_reducible refine gate_callee (f := 64) rfl ?_); refine gL (some 7) Tryd.func64 #[.agg #[.bool a0_0, .slice A0_1 l0_1.length c0_1, .slice A0_2 l0_2.length c0_2]] ?_; (with_reducible refine (rat_Check.calls k a0_0 _ _ l0_1 _ _ l0_2 t274 _ ?side1 HC0_1.out ?side3 HC0_2.out A3.out).mono ?_); (case side1 => exact dC (Kd.C_below HR0_1.out HB.out)); (case side3 => exact dC (Kd.C_below HR0_2.out HB.out)); rintro e w27 ⟨rfl, hb⟩; refine ⟨_, rfl, ?_⟩; replace BK271 := bB BK271.out hb; replace BK272 := bB BK272.out hb; replace BK273 := bB BK273.out hb; replace HB := hS HB.out hb; (try clear hb); have hnb28 := NB272_273.out; have hnc28 := NB273_272.out; obtain ⟨hcz29_0, hcz29_1, hcz29_2⟩ := cz3 BK272.out; obtain ⟨hfz29_0, hfz29_1, hfz29_2⟩ := fz3 BK272.out) | (go_at_call 64; (with_reducible refine (rat_Check.calls k a1_0 _ _ l1_1 _ _ l1_2 t275 _ ?side1 HC1_1.out ?side3 HC1_2.out A5.out).mono ?_); (case side1 => exact dC (Kd.C_below HR1_1.out HB.out)); (case side3 => exact dC (Kd.C_below HR1_2.out HB.out)); rintro e w30 ⟨rfl, hb⟩; replace BK271 := bB BK271.out hb; replace BK272 := bB BK272.out hb; replace BK273 := bB BK273.out hb; replace HB := hS HB.out hb; (try clear hb); obtain ⟨hcz31_0, hcz31_1, hcz31_2⟩ := cz3 BK272.out; obtain ⟨hfz31_0, hfz31_1, hfz31_2⟩ := fz3 BK272.out; obtain ⟨hcz32_0, hcz32_1, hcz32_2⟩ := cz3 BK271.out; obtain ⟨hfz32_0, hfz32_1, hfz32_2⟩ := fz3 BK271.out) | ((with_reducible refine gate_callee (f := 71) rfl ?_); refine gL (some 24) Tryd.func71 #[.agg #[.bool a0_0, .slice A0_1 l0_1.length c0_1, .slice A0_2 l0_2.length c0_2], .agg #[.bool a1_0, .slice A1_1 l1_1.length c1_1, .slice A1_2 l1_2.length c1_2], .func (.func 99) #[] #[.pointer (some ⟨gb271, 0, none⟩), .pointer (some ⟨gb272, 0, none⟩)]] ?_; (with_reducible refine (rat_reckonedDiv.calls k a0_0 _ _ l0_1 _ _ l0_2 a1_0 _ _ l1_1 _ _ l1_2 t276 t277 t280 t283 _ gb271 gb272 ?bka ?bkb NB271_272.out ?side1 HC0_1.out ?side3 HC0_2.out ?side5 HC1_1.out ?side7 HC1_2.out A20.out).mono ?_); (case bka => (with_reducible repeat (first | refine blk_drewN ?_ _ | refine blk_drew ?_ | refine blk_alloc ?_ _)); exact BK271.out); (case bkb => (with_reducible repeat (first | refine blk_drewN ?_ _ | refine blk_drew ?_ | refine blk_alloc ?_ _)); exact BK272.out); (case side1 => exact dC (Kd.C_below HR0_1.out HB.out)); (case side3 => exact dC (Kd.C_below HR0_2.out HB.out)); (case side5 => exact dC (Kd.C_below HR1_1.out HB.out)); (case side7 => exact dC (Kd.C_below HR1_2.out HB.out)); rintro e w33 ⟨v278, v281, rfl, ho0, ho1, hb⟩; refine ⟨_, rfl, ?_⟩; have HO279 := aM (Kd.R_lower ho0 (below_size eB)); have HO282 := aM (Kd.R_lower ho1 (below_size eB)); replace BK271 := bB BK271.out hb; replace BK272 := bB BK272.out hb; replace BK273 := bB BK273.out hb; replace HB := hS HB.out hb; (try clear hb); (try clear ho0); (try clear ho1); obtain ⟨hcz34_0, hcz34_1, hcz34_2⟩ := cz3 BK273.out; obtain ⟨hfz34_0, hfz34_1, hfz34_2⟩ := fz3 BK273.out; obtain ⟨Ao35, co35, rfl⟩ := Kd.R_slice HO279.out; obtain ⟨Ao36, co36, rfl⟩ := Kd.R_slice HO282.out))
 refine bodyPost_ret (results_ct rfl _ _ gb273 46 #[.bool t276, .slice Ao35 t277.length co35, .slice Ao36 t280.length co36] (0, 0) _ rfl (dP BK273.out) Tryd.underlying46 rfl (by kernel_rfl)) rfl ?_
 exact ⟨_, _, dE, oR HO279.out BK273.out, oR HO282.out BK273.out, eB⟩
def rat_Int.f (a0 : Int) : Option (Bool × List Int × List Int) := if a0 < 0 then ((nat_From.f (IntKind.u64.wrap (-(IntKind.u64.wrap (a0))))).bind fun t442 => ((nat_From.f 1).bind fun t445 => (some (true, t442, t445)))) else ((nat_From.f (IntKind.u64.wrap (a0))).bind fun t448 => ((nat_From.f 1).bind fun t451 => (some (false, t448, t451))))
set_option maxHeartbeats 8000000 in
set_option maxRecDepth 100000 in
theorem rat_Int.calls (a0 : Int) (r1 : Bool) (r2 : List Int) (r3 : List Int) (w : World) (h : rat_Int.f a0 = some (r1, r2, r3)) :
  Calls Tryd.prog 70 #[.int .i64 a0] w fun e w' => ∃ v1_ v2_ : Value, e = .returned (.agg #[.bool r1, v1_, v2_]) ∧ Kd.R (Kd.int .u64) 26 w' w.heap.size (fun k_ => some k_ ≠ (v2_ : Value).ownBlock) v1_ r2 ∧ Kd.R (Kd.int .u64) 26 w' w.heap.size (fun k_ => some k_ ≠ (v1_ : Value).ownBlock) v2_ r3 ∧ Below w.heap.size w w' := by
 have hu46 := Tryd.underlying46
 have HB := aM (Below.refl w.heap.size w)
 have H := h
 clear h
 unfold rat_Int.f at H
 by_cases c2 : a0 < 0
 ·rw [if_pos c2] at H
  have c2b0 := decide_eq_true c2
  clear c2
  replace H := oA H
  obtain ⟨t442, A3, H⟩ := H
  (try dsimp only at H)
  replace H := oA H
  obtain ⟨t445, A4, H⟩ := H
  (try dsimp only at H)
  simp only [Option.some.injEq, Prod.mk.injEq] at H
  obtain ⟨rfl, rfl, rfl⟩ := H
  go_enter Tryd.func70, Tryd.ntmps70
  go_wp2_with (first | ((with_reducible refine gate_dst (N := 2) rfl ?_); refine bE 2 #[.bool false, .slice none 0 0, .slice none 0 0] 46 ?_; intro gb441 hg w5 hbox hb; have BK441 := aM (hbox); have GE441 : Aside0 (w.heap.size ≤ gb441) := gE hg; replace HB := hS HB.out hb; clear hb hbox hg) | ((with_reducible refine gate_callee (f := 66) rfl ?_); refine gL (some 8) Tryd.func66 #[.int .u64 (IntKind.u64.wrap (-(IntKind.u64.wrap (a0))))] ?_; (with_reducible refine (nat_From.calls (IntKind.u64.wrap (-(IntKind.u64.wrap (a0)))) t442 _ A3.out).mono ?_); rintro e w6 ⟨v443, rfl, ho0, hb⟩; refine ⟨_, rfl, ?_⟩; have HO444 := aM (Kd.R_lower ho0 (below_size eB)); replace BK441 := bB BK441.out hb; replace HB := hS HB.out hb; (try clear hb); (try clear ho0)) | ((with_reducible refine gate_callee (f := 66) rfl ?_); refine gL (some 9) Tryd.func66 #[.int .u64 1] ?_; (with_reducible refine (nat_From.calls 1 t445 _ A4.out).mono ?_); rintro e w7 ⟨v446, rfl, ho0, hb⟩; refine ⟨_, rfl, ?_⟩; have HO447 := aM (Kd.R_lower (Kd.R_new' ho0 (Kd.R_lt (dR HO444.out))) (below_size eB)); replace HO444 := oE HO444.out ho0 hb; replace BK441 := bB BK441.out hb; replace HB := hS HB.out hb; (try clear hb); (try clear ho0); obtain ⟨Ao8, co8, rfl⟩ := Kd.R_slice HO447.out; obtain ⟨Ao9, co9, rfl⟩ := Kd.R_slice HO444.out; obtain ⟨hcz10_0, hcz10_1, hcz10_2⟩ := cz3 BK441.out; obtain ⟨hfz10_0, hfz10_1, hfz10_2⟩ := fz3 BK441.out))
  refine bodyPost_ret (results_cell_row rfl _ _ gb441 46 #[.bool true, .slice Ao9 t442.length co9, .slice Ao8 t445.length co8] (0, 0) _ rfl (dP BK441.out) Tryd.underlying46 rfl (by kernel_rfl)) rfl ?_
  exact ⟨_, _, dE, by (with_reducible repeat (first | apply Kd.R_alloc | apply Kd.R_drewN | apply Kd.R_drew)); exact Kd.R_mono (Kd.R_far (p := ⟨gb441, 2, none⟩) (Kd.R_far (p := ⟨gb441, 1, none⟩) (Kd.R_far (p := ⟨gb441, 0, none⟩) (Kd.R_types HO444.out BK441.out (by decide)) (fun _ hk => hk.2) (.bool true)) (fun _ hk => hk.2) (.slice Ao9 t442.length co9)) (fun _ hk => hk.2) (.slice Ao8 t445.length co8)) (fun _ hk => hk.1.2), by (with_reducible repeat (first | apply Kd.R_alloc | apply Kd.R_drewN | apply Kd.R_drew)); exact Kd.R_mono (Kd.R_far (p := ⟨gb441, 2, none⟩) (Kd.R_far (p := ⟨gb441, 1, none⟩) (Kd.R_far (p := ⟨gb441, 0, none⟩) (Kd.R_types HO447.out BK441.out (by decide)) (fun _ hk => hk.2) (.bool true)) (fun _ hk => hk.2) (.slice Ao9 t442.length co9)) (fun _ hk => hk.2) (.slice Ao8 t445.length co8)) (fun _ hk => hk.1.2), dG GE441.out⟩
 ·rw [if_neg c2] at H
  have c2b0 := decide_eq_false c2
  clear c2
  replace H := oA H
  obtain ⟨t448, A11, H⟩ := H
  (try dsimp only at H)
  replace H := oA H
  obtain ⟨t451, A12, H⟩ := H
  (try dsimp only at H)
  simp only [Option.some.injEq, Prod.mk.injEq] at H
  obtain ⟨rfl, rfl, rfl⟩ := H
  go_enter Tryd.func70, Tryd.ntmps70
  go_wp2_with (first | ((with_reducible refine gate_dst (N := 2) rfl ?_); refine bE 2 #[.bool false, .slice none 0 0, .slice none 0 0] 46 ?_; intro gb441 hg w13 hbox hb; have BK441 := aM (hbox); have GE441 : Aside0 (w.heap.size ≤ gb441) := gE hg; replace HB := hS HB.out hb; clear hb hbox hg) | ((with_reducible refine gate_callee (f := 66) rfl ?_); refine gL (some 13) Tryd.func66 #[.int .u64 (IntKind.u64.wrap (a0))] ?_; (with_reducible refine (nat_From.calls (IntKind.u64.wrap (a0)) t448 _ A11.out).mono ?_); rintro e w14 ⟨v449, rfl, ho0, hb⟩; refine ⟨_, rfl, ?_⟩; have HO450 := aM (Kd.R_lower ho0 (below_size eB)); replace BK441 := bB BK441.out hb; replace HB := hS HB.out hb; (try clear hb); (try clear ho0)) | ((with_reducible refine gate_callee (f := 66) rfl ?_); refine gL (some 14) Tryd.func66 #[.int .u64 1] ?_; (with_reducible refine (nat_From.calls 1 t451 _ A12.out).mono ?_); rintro e w15 ⟨v452, rfl, ho0, hb⟩; refine ⟨_, rfl, ?_⟩; have HO453 := aM (Kd.R_lower (Kd.R_new' ho0 (Kd.R_lt (dR HO450.out))) (below_size eB)); replace HO450 := oE HO450.out ho0 hb; replace BK441 := bB BK441.out hb; replace HB := hS HB.out hb; (try clear hb); (try clear ho0); obtain ⟨Ao16, co16, rfl⟩ := Kd.R_slice HO453.out; obtain ⟨Ao17, co17, rfl⟩ := Kd.R_slice HO450.out; obtain ⟨hcz18_0, hcz18_1, hcz18_2⟩ := cz3 BK441.out; obtain ⟨hfz18_0, hfz18_1, hfz18_2⟩ := fz3 BK441.out))
  refine bodyPost_ret (results_cell_row rfl _ _ gb441 46 #[.bool false, .slice Ao17 t448.length co17, .slice Ao16 t451.length co16] (0, 0) _ rfl (dP BK441.out) Tryd.underlying46 rfl (by kernel_rfl)) rfl ?_
  exact ⟨_, _, dE, by (with_reducible repeat (first | apply Kd.R_alloc | apply Kd.R_drewN | apply Kd.R_drew)); exact Kd.R_mono (Kd.R_far (p := ⟨gb441, 2, none⟩) (Kd.R_far (p := ⟨gb441, 1, none⟩) (Kd.R_far (p := ⟨gb441, 0, none⟩) (Kd.R_types HO450.out BK441.out (by decide)) (fun _ hk => hk.2) (.bool false)) (fun _ hk => hk.2) (.slice Ao17 t448.length co17)) (fun _ hk => hk.2) (.slice Ao16 t451.length co16)) (fun _ hk => hk.1.2), by (with_reducible repeat (first | apply Kd.R_alloc | apply Kd.R_drewN | apply Kd.R_drew)); exact Kd.R_mono (Kd.R_far (p := ⟨gb441, 2, none⟩) (Kd.R_far (p := ⟨gb441, 1, none⟩) (Kd.R_far (p := ⟨gb441, 0, none⟩) (Kd.R_types HO453.out BK441.out (by decide)) (fun _ hk => hk.2) (.bool false)) (fun _ hk => hk.2) (.slice Ao17 t448.length co17)) (fun _ hk => hk.2) (.slice Ao16 t451.length co16)) (fun _ hk => hk.1.2), dG GE441.out⟩
end Go.Proofs.YtoefabmlkbhmpaaDoor.PA
