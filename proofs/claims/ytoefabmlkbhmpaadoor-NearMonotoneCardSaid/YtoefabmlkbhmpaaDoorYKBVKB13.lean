/- A part of the proof (13). -/
import Derived.Test.YtoefabmlkbhmpaaDoorYKBVKB2
import Derived.Test.YtoefabmlkbhmpaaDoorYKBVKB3
import Derived.Test.YtoefabmlkbhmpaaDoorYKBVKB7
import Derived.Test.YtoefabmlkbhmpaaDoorYKBVKB9
import Derived.Test.YtoefabmlkbhmpaaDoorYKBVKB12
namespace Go.Proofs.YtoefabmlkbhmpaaDoor.PA
open Go.RowKit Go.Proofs.YtoefabmlkbhmpaaDoorW.PrintWords Go.Proofs.YtoefabmlkbhmpaaDoorW.PrintLast Go.Proofs.YtoefabmlkbhmpaaDoorW.PrintMore
attribute [local go_sem] max2_int min2_int max_two min_two max_three min_three max_four min_four
set_option linter.unusedVariables false
set_option linter.unusedSimpArgs false
mutual
def plumblaw07_NearMonotone.j0 : Nat → Bool → Bool → List Int → List Int → Bool → List Int → List Int → Option (Bool)
 | 0, _, _, _, _, _, _, _ => none
 | k + 1, x38, x757000, x757001, x757002, x773000, x773001, x773002 => if x38 = true then (none) else ((plumblaw07_cmp.f k x757000 x757001 x757002 x773000 x773001 x773002).bind fun t774 => (if t774 > 1 then (none) else (plumblaw07_NearMonotone.l0 k t774 0 x757000 x757001 x757002 x773000 x773001 x773002)))
def plumblaw07_NearMonotone.l0 : Nat → Int → Int → Bool → List Int → List Int → Bool → List Int → List Int → Option (Bool)
 | 0, _, _, _, _, _, _, _, _ => none
 | k + 1, x9, x10, x757000, x757001, x757002, x773000, x773001, x773002 => if x10 ≤ 4 then ((near_Rat.f k x757000 x757001 x757002 x10).bind fun bt775 => ((near_Rat.f k x773000 x773001 x773002 x10).bind fun bt777 => ((plumblaw07_num.f bt775.2).bind fun t779 => (if t779 = 0 then ((plumblaw07_num.f bt777.2).bind fun t780 => (plumblaw07_NearMonotone.j2 k x9 x10 bt775.1 bt775.2 bt777.1 bt777.2 (t780 != 0) x757000 x757001 x757002 x773000 x773001 x773002)) else (plumblaw07_NearMonotone.j2 k x9 x10 bt775.1 bt775.2 bt777.1 bt777.2 true x757000 x757001 x757002 x773000 x773001 x773002))))) else (some true)
def plumblaw07_NearMonotone.j2 : Nat → Int → Int → Int → Int → Int → Int → Bool → Bool → List Int → List Int → Bool → List Int → List Int → Option (Bool)
 | 0, _, _, _, _, _, _, _, _, _, _, _, _, _ => none
 | k + 1, x9, x10, x11, x12, x13, x14, x67, x757000, x757001, x757002, x773000, x773001, x773002 => if x67 = true then ((plumblaw07_num.f x12).bind fun t781 => (if t781 = 0 then ((plumblaw07_num.f x14).bind fun t782 => (if t782 = 0 then (plumblaw07_NearMonotone.l0 k x9 (wrap64 (x10 + 1)) x757000 x757001 x757002 x773000 x773001 x773002) else ((plumblaw07_num.f x14).bind fun t783 => (if t783 = 70 then (plumblaw07_NearMonotone.l0 k x9 (wrap64 (x10 + 1)) x757000 x757001 x757002 x773000 x773001 x773002) else (none))))) else ((plumblaw07_num.f x12).bind fun t784 => (if t784 = 70 then ((plumblaw07_num.f x14).bind fun t785 => (if t785 = 0 then (plumblaw07_NearMonotone.l0 k x9 (wrap64 (x10 + 1)) x757000 x757001 x757002 x773000 x773001 x773002) else ((plumblaw07_num.f x14).bind fun t786 => (if t786 = 70 then (plumblaw07_NearMonotone.l0 k x9 (wrap64 (x10 + 1)) x757000 x757001 x757002 x773000 x773001 x773002) else (none))))) else (none))))) else ((f64_Cmp.f k x11 x13).bind fun bt787 => ((plumblaw07_num.f bt787.2).bind fun t789 => (if t789 = 0 then (if x9 < 0 then (if bt787.1 > 0 then (none) else (if x9 > 0 then (if bt787.1 < 0 then (none) else (if x9 = 0 then (if x11 = x13 then (plumblaw07_NearMonotone.l0 k x9 (wrap64 (x10 + 1)) x757000 x757001 x757002 x773000 x773001 x773002) else (none)) else (plumblaw07_NearMonotone.l0 k x9 (wrap64 (x10 + 1)) x757000 x757001 x757002 x773000 x773001 x773002))) else (if x9 = 0 then (if x11 = x13 then (plumblaw07_NearMonotone.l0 k x9 (wrap64 (x10 + 1)) x757000 x757001 x757002 x773000 x773001 x773002) else (none)) else (plumblaw07_NearMonotone.l0 k x9 (wrap64 (x10 + 1)) x757000 x757001 x757002 x773000 x773001 x773002)))) else (if x9 > 0 then (if bt787.1 < 0 then (none) else (if x9 = 0 then (if x11 = x13 then (plumblaw07_NearMonotone.l0 k x9 (wrap64 (x10 + 1)) x757000 x757001 x757002 x773000 x773001 x773002) else (none)) else (plumblaw07_NearMonotone.l0 k x9 (wrap64 (x10 + 1)) x757000 x757001 x757002 x773000 x773001 x773002))) else (if x9 = 0 then (if x11 = x13 then (plumblaw07_NearMonotone.l0 k x9 (wrap64 (x10 + 1)) x757000 x757001 x757002 x773000 x773001 x773002) else (none)) else (plumblaw07_NearMonotone.l0 k x9 (wrap64 (x10 + 1)) x757000 x757001 x757002 x773000 x773001 x773002)))) else (none))))
end
def plumblaw07_NearMonotone.f (k : Nat) (a0_0 : Bool) (l0_1 : List Int) (l0_2 : List Int) (a1_0 : Bool) (l1_1 : List Int) (l1_2 : List Int) : Option (Bool) := (plumblaw07_exact.f k a0_0 l0_1 l0_2).bind fun bt741 => ((plumblaw07_exact.f k a1_0 l1_1 l1_2).bind fun bt757 => (if bt741.2.2.2.2.2.2 = true then (if bt757.2.2.2.2.2.2 = true then ((plumblaw07_fixed.f k).bind fun t773 => (plumblaw07_NearMonotone.j0 k (!t773) bt741.2.2.2.1 bt741.2.2.2.2.1 bt741.2.2.2.2.2.1 bt757.2.2.2.1 bt757.2.2.2.2.1 bt757.2.2.2.2.2.1)) else (plumblaw07_NearMonotone.j0 k true bt741.2.2.2.1 bt741.2.2.2.2.1 bt741.2.2.2.2.2.1 bt757.2.2.2.1 bt757.2.2.2.2.1 bt757.2.2.2.2.2.1)) else (plumblaw07_NearMonotone.j0 k true bt741.2.2.2.1 bt741.2.2.2.2.1 bt741.2.2.2.2.2.1 bt757.2.2.2.1 bt757.2.2.2.2.1 bt757.2.2.2.2.2.1)))
set_option maxHeartbeats 8000000 in
set_option maxRecDepth 100000 in
theorem plumblaw07_NearMonotone.calls (k : Nat) (a0_0 : Bool) (A0_1 : Option Addr) (c0_1 : Nat) (l0_1 : List Int) (A0_2 : Option Addr) (c0_2 : Nat) (l0_2 : List Int) (a1_0 : Bool) (A1_1 : Option Addr) (c1_1 : Nat) (l1_1 : List Int) (A1_2 : Option Addr) (c1_2 : Nat) (l1_2 : List Int) (r : Bool) (w : World) (hr0_1 : Kd.C (Kd.int .u64) w A0_1 l0_1.length l0_1) (hc0_1 : l0_1.length ≤ c0_1) (hr0_2 : Kd.C (Kd.int .u64) w A0_2 l0_2.length l0_2) (hc0_2 : l0_2.length ≤ c0_2) (hr1_1 : Kd.C (Kd.int .u64) w A1_1 l1_1.length l1_1) (hc1_1 : l1_1.length ≤ c1_1) (hr1_2 : Kd.C (Kd.int .u64) w A1_2 l1_2.length l1_2) (hc1_2 : l1_2.length ≤ c1_2) (h : plumblaw07_NearMonotone.f k a0_0 l0_1 l0_2 a1_0 l1_1 l1_2 = some r) (hS : StaysLaid w := by first | exact HS.out | exact hS | exact StaysLaid.below HS.out HB.out | exact StaysLaid.below HS.out dB) :
  Calls Tryd.prog 8 #[.agg #[.bool a0_0, .slice A0_1 l0_1.length c0_1, .slice A0_2 l0_2.length c0_2], .agg #[.bool a1_0, .slice A1_1 l1_1.length c1_1, .slice A1_2 l1_2.length c1_2]] w fun e w' => e = .returned (.bool r) ∧ Below w.heap.size w w' := by
 have HS := Aside0.mk (show StaysLaid w from hS)
 clear hS
 have hu36 := Tryd.underlying36
 have hu46 := Tryd.underlying46
 have HR0_1 := Aside0.mk hr0_1
 have HC0_1 := Aside0.mk hc0_1
 clear hr0_1 hc0_1
 have HR0_2 := Aside0.mk hr0_2
 have HC0_2 := Aside0.mk hc0_2
 clear hr0_2 hc0_2
 have HR1_1 := Aside0.mk hr1_1
 have HC1_1 := Aside0.mk hc1_1
 clear hr1_1 hc1_1
 have HR1_2 := Aside0.mk hr1_2
 have HC1_2 := Aside0.mk hc1_2
 clear hr1_2 hc1_2
 have HB := Aside0.mk (Below.refl w.heap.size w)
 have H := h
 clear h
 unfold plumblaw07_NearMonotone.f at H
 replace H := obe H
 obtain ⟨⟨t741, t742, t745, t748, t749, t752, t755⟩, A30, H⟩ := H
 (try dsimp only at H)
 have A3 := Aside0.mk A30
 clear A30
 replace H := obe H
 obtain ⟨⟨t757, t758, t761, t764, t765, t768, t771⟩, A40, H⟩ := H
 (try dsimp only at H)
 have A4 := Aside0.mk A40
 clear A40
 have HC5 := Aside0.mk H
 clear H
 go_enter Tryd.func8, Tryd.ntmps8
 go_upto_region 3 with (first | ((with_reducible refine gate_dst (N := 2) rfl ?_); refine bE 2 #[.bool a0_0, .slice A0_1 l0_1.length c0_1, .slice A0_2 l0_2.length c0_2] 36 ?_; intro gb739 hg w6 hbox hb; have BK739 := Aside0.mk (hbox); have GE739 : Aside0 (w.heap.size ≤ gb739) := gE hg; replace HB := hS HB.out hb; clear hb hbox hg) | ((with_reducible refine gate_dst (N := 3) rfl ?_); refine bE 3 #[.bool a1_0, .slice A1_1 l1_1.length c1_1, .slice A1_2 l1_2.length c1_2] 36 ?_; intro gb740 hg w7 hbox hb; have BK740 := Aside0.mk (hbox); have GE740 : Aside0 (w.heap.size ≤ gb740) := gE hg; replace HB := hS HB.out hb; have NB739_740 := nL hg BK739.out; have NB740_739 := nG hg BK739.out; replace BK739 := bB BK739.out hb; clear hb hbox hg; have hnb8 := NB739_740.out; have hnc8 := NB740_739.out; obtain ⟨hcz9_0, hcz9_1, hcz9_2⟩ := cz3 BK739.out; obtain ⟨hfz9_0, hfz9_1, hfz9_2⟩ := fz3 BK739.out) | ((with_reducible refine gate_callee (f := 23) rfl ?_); refine gL (some 19) Tryd.func23 #[.agg #[.bool a0_0, .slice A0_1 l0_1.length c0_1, .slice A0_2 l0_2.length c0_2]] ?_; (with_reducible refine (plumblaw07_exact.calls k a0_0 _ _ l0_1 _ _ l0_2 t741 t742 t745 t748 t749 t752 t755 _ ?side1 HC0_1.out ?side3 HC0_2.out A3.out).mono ?_); (case side1 => exact dC (Kd.C_below HR0_1.out HB.out)); (case side3 => exact dC (Kd.C_below HR0_2.out HB.out)); rintro e w10 ⟨v743, v746, v750, v753, rfl, ho0, ho1, ho2, ho3, hb⟩; refine ⟨_, rfl, ?_⟩; have HO744 := Aside0.mk (Kd.R_lower ho0 (below_size eB)); have HO747 := Aside0.mk (Kd.R_lower ho1 (below_size eB)); have HO751 := Aside0.mk (Kd.R_lower ho2 (below_size eB)); have HO754 := Aside0.mk (Kd.R_lower ho3 (below_size eB)); replace BK739 := bB BK739.out hb; replace BK740 := bB BK740.out hb; replace HB := hS HB.out hb; (try clear hb); (try clear ho0); (try clear ho1); (try clear ho2); (try clear ho3)) | ((with_reducible refine gate_dst (N := 5) rfl ?_); refine bE 5 #[.bool false, .slice none 0 0, .slice none 0 0] 46 ?_; intro gb756 hg w11 hbox hb; replace HO744 := oB HO744.out hb; replace HO747 := oB HO747.out hb; replace HO751 := oB HO751.out hb; replace HO754 := oB HO754.out hb; have BK756 := Aside0.mk (hbox); have GE756 : Aside0 (w.heap.size ≤ gb756) := gE hg; replace HB := hS HB.out hb; have NB739_756 := nL hg BK739.out; have NB756_739 := nG hg BK739.out; replace BK739 := bB BK739.out hb; have NB740_756 := nL hg BK740.out; have NB756_740 := nG hg BK740.out; replace BK740 := bB BK740.out hb; clear hb hbox hg; have hnb12 := NB739_756.out; have hnc12 := NB756_739.out; obtain ⟨hcz13_0, hcz13_1, hcz13_2⟩ := cz3 BK739.out; obtain ⟨hfz13_0, hfz13_1, hfz13_2⟩ := fz3 BK739.out; obtain ⟨Ao14, co14, rfl⟩ := Kd.R_slice HO744.out; obtain ⟨Ao15, co15, rfl⟩ := Kd.R_slice HO747.out; have hnb16 := NB756_740.out; have hnc16 := NB740_756.out; obtain ⟨hcz17_0, hcz17_1, hcz17_2⟩ := cz3 BK756.out; obtain ⟨hfz17_0, hfz17_1, hfz17_2⟩ := fz3 BK756.out; obtain ⟨Ao18, co18, rfl⟩ := Kd.R_slice HO751.out; obtain ⟨Ao19, co19, rfl⟩ := Kd.R_slice HO754.out; obtain ⟨hcz20_0, hcz20_1, hcz20_2⟩ := cz3 BK740.out; obtain ⟨hfz20_0, hfz20_1, hfz20_2⟩ := fz3 BK740.out) | ((with_reducible refine gate_callee (f := 23) rfl ?_); refine gL (some 25) Tryd.func23 #[.agg #[.bool a1_0, .slice A1_1 l1_1.length c1_1, .slice A1_2 l1_2.length c1_2]] ?_; (with_reducible refine (plumblaw07_exact.calls k a1_0 _ _ l1_1 _ _ l1_2 t757 t758 t761 t764 t765 t768 t771 _ ?side1 HC1_1.out ?side3 HC1_2.out A4.out).mono ?_); (case side1 => exact Kd.C_below HR1_1.out eB); (case side3 => exact Kd.C_below HR1_2.out eB); rintro e w21 ⟨v759, v762, v766, v769, rfl, ho0, ho1, ho2, ho3, hb⟩; refine ⟨_, rfl, ?_⟩; have HO760 := Aside0.mk (Kd.R_lower (Kd.R_new' (Kd.R_new' (Kd.R_new' (Kd.R_new' ho0 (Kd.R_lt (by (with_reducible repeat (first | apply Kd.R_alloc | apply Kd.R_drewN | apply Kd.R_drew)); exact (Kd.R_mono (Kd.R_mono (Kd.R_far (p := ⟨gb756, 2, none⟩) (Kd.R_far (p := ⟨gb756, 1, none⟩) (Kd.R_far (p := ⟨gb756, 0, none⟩) (Kd.R_far (p := ⟨gb739, 2, none⟩) (Kd.R_far (p := ⟨gb739, 1, none⟩) (Kd.R_far (p := ⟨gb739, 0, none⟩) (Kd.R_types (Kd.R_types HO744.out BK739.out (by decide)) BK756.out (by decide)) (fun _ hk => hk.1.2) (.bool t741)) (fun _ hk => hk.1.2) (.slice Ao14 t742.length co14)) (fun _ hk => hk.1.2) (.slice Ao15 t745.length co15)) (fun _ hk => hk.2) (.bool t748)) (fun _ hk => hk.2) (.slice Ao18 t749.length co18)) (fun _ hk => hk.2) (.slice Ao19 t752.length co19)) (fun _ h_ => h_.1)) (fun _ h_ => h_.1))))) (Kd.R_lt (by (with_reducible repeat (first | apply Kd.R_alloc | apply Kd.R_drewN | apply Kd.R_drew)); exact (Kd.R_mono (Kd.R_mono (Kd.R_far (p := ⟨gb756, 2, none⟩) (Kd.R_far (p := ⟨gb756, 1, none⟩) (Kd.R_far (p := ⟨gb756, 0, none⟩) (Kd.R_far (p := ⟨gb739, 2, none⟩) (Kd.R_far (p := ⟨gb739, 1, none⟩) (Kd.R_far (p := ⟨gb739, 0, none⟩) (Kd.R_types (Kd.R_types HO747.out BK739.out (by decide)) BK756.out (by decide)) (fun _ hk => hk.1.2) (.bool t741)) (fun _ hk => hk.1.2) (.slice Ao14 t742.length co14)) (fun _ hk => hk.1.2) (.slice Ao15 t745.length co15)) (fun _ hk => hk.2) (.bool t748)) (fun _ hk => hk.2) (.slice Ao18 t749.length co18)) (fun _ hk => hk.2) (.slice Ao19 t752.length co19)) (fun _ h_ => h_.1)) (fun _ h_ => h_.1))))) (Kd.R_lt (by (with_reducible repeat (first | apply Kd.R_alloc | apply Kd.R_drewN | apply Kd.R_drew)); exact (Kd.R_mono (Kd.R_mono (Kd.R_far (p := ⟨gb756, 2, none⟩) (Kd.R_far (p := ⟨gb756, 1, none⟩) (Kd.R_far (p := ⟨gb756, 0, none⟩) (Kd.R_far (p := ⟨gb739, 2, none⟩) (Kd.R_far (p := ⟨gb739, 1, none⟩) (Kd.R_far (p := ⟨gb739, 0, none⟩) (Kd.R_types (Kd.R_types HO751.out BK739.out (by decide)) BK756.out (by decide)) (fun _ hk => hk.1.2) (.bool t741)) (fun _ hk => hk.1.2) (.slice Ao14 t742.length co14)) (fun _ hk => hk.1.2) (.slice Ao15 t745.length co15)) (fun _ hk => hk.2) (.bool t748)) (fun _ hk => hk.2) (.slice Ao18 t749.length co18)) (fun _ hk => hk.2) (.slice Ao19 t752.length co19)) (fun _ h_ => h_.1)) (fun _ h_ => h_.1))))) (Kd.R_lt (by (with_reducible repeat (first | apply Kd.R_alloc | apply Kd.R_drewN | apply Kd.R_drew)); exact (Kd.R_mono (Kd.R_mono (Kd.R_far (p := ⟨gb756, 2, none⟩) (Kd.R_far (p := ⟨gb756, 1, none⟩) (Kd.R_far (p := ⟨gb756, 0, none⟩) (Kd.R_far (p := ⟨gb739, 2, none⟩) (Kd.R_far (p := ⟨gb739, 1, none⟩) (Kd.R_far (p := ⟨gb739, 0, none⟩) (Kd.R_types (Kd.R_types HO754.out BK739.out (by decide)) BK756.out (by decide)) (fun _ hk => hk.1.2) (.bool t741)) (fun _ hk => hk.1.2) (.slice Ao14 t742.length co14)) (fun _ hk => hk.1.2) (.slice Ao15 t745.length co15)) (fun _ hk => hk.2) (.bool t748)) (fun _ hk => hk.2) (.slice Ao18 t749.length co18)) (fun _ hk => hk.2) (.slice Ao19 t752.length co19)) (fun _ h_ => h_.1)) (fun _ h_ => h_.1))))) (below_size eB)); have HO763 := Aside0.mk (Kd.R_lower (Kd.R_new' (Kd.R_new' (Kd.R_new' (Kd.R_new' ho1 (Kd.R_lt (by (with_reducible repeat (first | apply Kd.R_alloc | apply Kd.R_drewN | apply Kd.R_drew)); exact (Kd.R_mono (Kd.R_mono (Kd.R_far (p := ⟨gb756, 2, none⟩) (Kd.R_far (p := ⟨gb756, 1, none⟩) (Kd.R_far (p := ⟨gb756, 0, none⟩) (Kd.R_far (p := ⟨gb739, 2, none⟩) (Kd.R_far (p := ⟨gb739, 1, none⟩) (Kd.R_far (p := ⟨gb739, 0, none⟩) (Kd.R_types (Kd.R_types HO744.out BK739.out (by decide)) BK756.out (by decide)) (fun _ hk => hk.1.2) (.bool t741)) (fun _ hk => hk.1.2) (.slice Ao14 t742.length co14)) (fun _ hk => hk.1.2) (.slice Ao15 t745.length co15)) (fun _ hk => hk.2) (.bool t748)) (fun _ hk => hk.2) (.slice Ao18 t749.length co18)) (fun _ hk => hk.2) (.slice Ao19 t752.length co19)) (fun _ h_ => h_.1)) (fun _ h_ => h_.1))))) (Kd.R_lt (by (with_reducible repeat (first | apply Kd.R_alloc | apply Kd.R_drewN | apply Kd.R_drew)); exact (Kd.R_mono (Kd.R_mono (Kd.R_far (p := ⟨gb756, 2, none⟩) (Kd.R_far (p := ⟨gb756, 1, none⟩) (Kd.R_far (p := ⟨gb756, 0, none⟩) (Kd.R_far (p := ⟨gb739, 2, none⟩) (Kd.R_far (p := ⟨gb739, 1, none⟩) (Kd.R_far (p := ⟨gb739, 0, none⟩) (Kd.R_types (Kd.R_types HO747.out BK739.out (by decide)) BK756.out (by decide)) (fun _ hk => hk.1.2) (.bool t741)) (fun _ hk => hk.1.2) (.slice Ao14 t742.length co14)) (fun _ hk => hk.1.2) (.slice Ao15 t745.length co15)) (fun _ hk => hk.2) (.bool t748)) (fun _ hk => hk.2) (.slice Ao18 t749.length co18)) (fun _ hk => hk.2) (.slice Ao19 t752.length co19)) (fun _ h_ => h_.1)) (fun _ h_ => h_.1))))) (Kd.R_lt (by (with_reducible repeat (first | apply Kd.R_alloc | apply Kd.R_drewN | apply Kd.R_drew)); exact (Kd.R_mono (Kd.R_mono (Kd.R_far (p := ⟨gb756, 2, none⟩) (Kd.R_far (p := ⟨gb756, 1, none⟩) (Kd.R_far (p := ⟨gb756, 0, none⟩) (Kd.R_far (p := ⟨gb739, 2, none⟩) (Kd.R_far (p := ⟨gb739, 1, none⟩) (Kd.R_far (p := ⟨gb739, 0, none⟩) (Kd.R_types (Kd.R_types HO751.out BK739.out (by decide)) BK756.out (by decide)) (fun _ hk => hk.1.2) (.bool t741)) (fun _ hk => hk.1.2) (.slice Ao14 t742.length co14)) (fun _ hk => hk.1.2) (.slice Ao15 t745.length co15)) (fun _ hk => hk.2) (.bool t748)) (fun _ hk => hk.2) (.slice Ao18 t749.length co18)) (fun _ hk => hk.2) (.slice Ao19 t752.length co19)) (fun _ h_ => h_.1)) (fun _ h_ => h_.1))))) (Kd.R_lt (by (with_reducible repeat (first | apply Kd.R_alloc | apply Kd.R_drewN | apply Kd.R_drew)); exact (Kd.R_mono (Kd.R_mono (Kd.R_far (p := ⟨gb756, 2, none⟩) (Kd.R_far (p := ⟨gb756, 1, none⟩) (Kd.R_far (p := ⟨gb756, 0, none⟩) (Kd.R_far (p := ⟨gb739, 2, none⟩) (Kd.R_far (p := ⟨gb739, 1, none⟩) (Kd.R_far (p := ⟨gb739, 0, none⟩) (Kd.R_types (Kd.R_types HO754.out BK739.out (by decide)) BK756.out (by decide)) (fun _ hk => hk.1.2) (.bool t741)) (fun _ hk => hk.1.2) (.slice Ao14 t742.length co14)) (fun _ hk => hk.1.2) (.slice Ao15 t745.length co15)) (fun _ hk => hk.2) (.bool t748)) (fun _ hk => hk.2) (.slice Ao18 t749.length co18)) (fun _ hk => hk.2) (.slice Ao19 t752.length co19)) (fun _ h_ => h_.1)) (fun _ h_ => h_.1))))) (below_size eB)); have HO767 := Aside0.mk (Kd.R_lower (Kd.R_new' (Kd.R_new' (Kd.R_new' (Kd.R_new' ho2 (Kd.R_lt (by (with_reducible repeat (first | apply Kd.R_alloc | apply Kd.R_drewN | apply Kd.R_drew)); exact (Kd.R_mono (Kd.R_mono (Kd.R_far (p := ⟨gb756, 2, none⟩) (Kd.R_far (p := ⟨gb756, 1, none⟩) (Kd.R_far (p := ⟨gb756, 0, none⟩) (Kd.R_far (p := ⟨gb739, 2, none⟩) (Kd.R_far (p := ⟨gb739, 1, none⟩) (Kd.R_far (p := ⟨gb739, 0, none⟩) (Kd.R_types (Kd.R_types HO744.out BK739.out (by decide)) BK756.out (by decide)) (fun _ hk => hk.1.2) (.bool t741)) (fun _ hk => hk.1.2) (.slice Ao14 t742.length co14)) (fun _ hk => hk.1.2) (.slice Ao15 t745.length co15)) (fun _ hk => hk.2) (.bool t748)) (fun _ hk => hk.2) (.slice Ao18 t749.length co18)) (fun _ hk => hk.2) (.slice Ao19 t752.length co19)) (fun _ h_ => h_.1)) (fun _ h_ => h_.1))))) (Kd.R_lt (by (with_reducible repeat (first | apply Kd.R_alloc | apply Kd.R_drewN | apply Kd.R_drew)); exact (Kd.R_mono (Kd.R_mono (Kd.R_far (p := ⟨gb756, 2, none⟩) (Kd.R_far (p := ⟨gb756, 1, none⟩) (Kd.R_far (p := ⟨gb756, 0, none⟩) (Kd.R_far (p := ⟨gb739, 2, none⟩) (Kd.R_far (p := ⟨gb739, 1, none⟩) (Kd.R_far (p := ⟨gb739, 0, none⟩) (Kd.R_types (Kd.R_types HO747.out BK739.out (by decide)) BK756.out (by decide)) (fun _ hk => hk.1.2) (.bool t741)) (fun _ hk => hk.1.2) (.slice Ao14 t742.length co14)) (fun _ hk => hk.1.2) (.slice Ao15 t745.length co15)) (fun _ hk => hk.2) (.bool t748)) (fun _ hk => hk.2) (.slice Ao18 t749.length co18)) (fun _ hk => hk.2) (.slice Ao19 t752.length co19)) (fun _ h_ => h_.1)) (fun _ h_ => h_.1))))) (Kd.R_lt (by (with_reducible repeat (first | apply Kd.R_alloc | apply Kd.R_drewN | apply Kd.R_drew)); exact (Kd.R_mono (Kd.R_mono (Kd.R_far (p := ⟨gb756, 2, none⟩) (Kd.R_far (p := ⟨gb756, 1, none⟩) (Kd.R_far (p := ⟨gb756, 0, none⟩) (Kd.R_far (p := ⟨gb739, 2, none⟩) (Kd.R_far (p := ⟨gb739, 1, none⟩) (Kd.R_far (p := ⟨gb739, 0, none⟩) (Kd.R_types (Kd.R_types HO751.out BK739.out (by decide)) BK756.out (by decide)) (fun _ hk => hk.1.2) (.bool t741)) (fun _ hk => hk.1.2) (.slice Ao14 t742.length co14)) (fun _ hk => hk.1.2) (.slice Ao15 t745.length co15)) (fun _ hk => hk.2) (.bool t748)) (fun _ hk => hk.2) (.slice Ao18 t749.length co18)) (fun _ hk => hk.2) (.slice Ao19 t752.length co19)) (fun _ h_ => h_.1)) (fun _ h_ => h_.1))))) (Kd.R_lt (by (with_reducible repeat (first | apply Kd.R_alloc | apply Kd.R_drewN | apply Kd.R_drew)); exact (Kd.R_mono (Kd.R_mono (Kd.R_far (p := ⟨gb756, 2, none⟩) (Kd.R_far (p := ⟨gb756, 1, none⟩) (Kd.R_far (p := ⟨gb756, 0, none⟩) (Kd.R_far (p := ⟨gb739, 2, none⟩) (Kd.R_far (p := ⟨gb739, 1, none⟩) (Kd.R_far (p := ⟨gb739, 0, none⟩) (Kd.R_types (Kd.R_types HO754.out BK739.out (by decide)) BK756.out (by decide)) (fun _ hk => hk.1.2) (.bool t741)) (fun _ hk => hk.1.2) (.slice Ao14 t742.length co14)) (fun _ hk => hk.1.2) (.slice Ao15 t745.length co15)) (fun _ hk => hk.2) (.bool t748)) (fun _ hk => hk.2) (.slice Ao18 t749.length co18)) (fun _ hk => hk.2) (.slice Ao19 t752.length co19)) (fun _ h_ => h_.1)) (fun _ h_ => h_.1))))) (below_size eB)); have HO770 := Aside0.mk (Kd.R_lower (Kd.R_new' (Kd.R_new' (Kd.R_new' (Kd.R_new' ho3 (Kd.R_lt (by (with_reducible repeat (first | apply Kd.R_alloc | apply Kd.R_drewN | apply Kd.R_drew)); exact (Kd.R_mono (Kd.R_mono (Kd.R_far (p := ⟨gb756, 2, none⟩) (Kd.R_far (p := ⟨gb756, 1, none⟩) (Kd.R_far (p := ⟨gb756, 0, none⟩) (Kd.R_far (p := ⟨gb739, 2, none⟩) (Kd.R_far (p := ⟨gb739, 1, none⟩) (Kd.R_far (p := ⟨gb739, 0, none⟩) (Kd.R_types (Kd.R_types HO744.out BK739.out (by decide)) BK756.out (by decide)) (fun _ hk => hk.1.2) (.bool t741)) (fun _ hk => hk.1.2) (.slice Ao14 t742.length co14)) (fun _ hk => hk.1.2) (.slice Ao15 t745.length co15)) (fun _ hk => hk.2) (.bool t748)) (fun _ hk => hk.2) (.slice Ao18 t749.length co18)) (fun _ hk => hk.2) (.slice Ao19 t752.length co19)) (fun _ h_ => h_.1)) (fun _ h_ => h_.1))))) (Kd.R_lt (by (with_reducible repeat (first | apply Kd.R_alloc | apply Kd.R_drewN | apply Kd.R_drew)); exact (Kd.R_mono (Kd.R_mono (Kd.R_far (p := ⟨gb756, 2, none⟩) (Kd.R_far (p := ⟨gb756, 1, none⟩) (Kd.R_far (p := ⟨gb756, 0, none⟩) (Kd.R_far (p := ⟨gb739, 2, none⟩) (Kd.R_far (p := ⟨gb739, 1, none⟩) (Kd.R_far (p := ⟨gb739, 0, none⟩) (Kd.R_types (Kd.R_types HO747.out BK739.out (by decide)) BK756.out (by decide)) (fun _ hk => hk.1.2) (.bool t741)) (fun _ hk => hk.1.2) (.slice Ao14 t742.length co14)) (fun _ hk => hk.1.2) (.slice Ao15 t745.length co15)) (fun _ hk => hk.2) (.bool t748)) (fun _ hk => hk.2) (.slice Ao18 t749.length co18)) (fun _ hk => hk.2) (.slice Ao19 t752.length co19)) (fun _ h_ => h_.1)) (fun _ h_ => h_.1))))) (Kd.R_lt (by (with_reducible repeat (first | apply Kd.R_alloc | apply Kd.R_drewN | apply Kd.R_drew)); exact (Kd.R_mono (Kd.R_mono (Kd.R_far (p := ⟨gb756, 2, none⟩) (Kd.R_far (p := ⟨gb756, 1, none⟩) (Kd.R_far (p := ⟨gb756, 0, none⟩) (Kd.R_far (p := ⟨gb739, 2, none⟩) (Kd.R_far (p := ⟨gb739, 1, none⟩) (Kd.R_far (p := ⟨gb739, 0, none⟩) (Kd.R_types (Kd.R_types HO751.out BK739.out (by decide)) BK756.out (by decide)) (fun _ hk => hk.1.2) (.bool t741)) (fun _ hk => hk.1.2) (.slice Ao14 t742.length co14)) (fun _ hk => hk.1.2) (.slice Ao15 t745.length co15)) (fun _ hk => hk.2) (.bool t748)) (fun _ hk => hk.2) (.slice Ao18 t749.length co18)) (fun _ hk => hk.2) (.slice Ao19 t752.length co19)) (fun _ h_ => h_.1)) (fun _ h_ => h_.1))))) (Kd.R_lt (by (with_reducible repeat (first | apply Kd.R_alloc | apply Kd.R_drewN | apply Kd.R_drew)); exact (Kd.R_mono (Kd.R_mono (Kd.R_far (p := ⟨gb756, 2, none⟩) (Kd.R_far (p := ⟨gb756, 1, none⟩) (Kd.R_far (p := ⟨gb756, 0, none⟩) (Kd.R_far (p := ⟨gb739, 2, none⟩) (Kd.R_far (p := ⟨gb739, 1, none⟩) (Kd.R_far (p := ⟨gb739, 0, none⟩) (Kd.R_types (Kd.R_types HO754.out BK739.out (by decide)) BK756.out (by decide)) (fun _ hk => hk.1.2) (.bool t741)) (fun _ hk => hk.1.2) (.slice Ao14 t742.length co14)) (fun _ hk => hk.1.2) (.slice Ao15 t745.length co15)) (fun _ hk => hk.2) (.bool t748)) (fun _ hk => hk.2) (.slice Ao18 t749.length co18)) (fun _ hk => hk.2) (.slice Ao19 t752.length co19)) (fun _ h_ => h_.1)) (fun _ h_ => h_.1))))) (below_size eB)); replace HO744 := Aside0.mk (Kd.R_mono (Kd.R_told (Kd.R_told (Kd.R_told (Kd.R_told (Kd.R_old (by (with_reducible repeat (first | apply Kd.R_alloc | apply Kd.R_drewN | apply Kd.R_drew)); exact (Kd.R_mono (Kd.R_mono (Kd.R_far (p := ⟨gb756, 2, none⟩) (Kd.R_far (p := ⟨gb756, 1, none⟩) (Kd.R_far (p := ⟨gb756, 0, none⟩) (Kd.R_far (p := ⟨gb739, 2, none⟩) (Kd.R_far (p := ⟨gb739, 1, none⟩) (Kd.R_far (p := ⟨gb739, 0, none⟩) (Kd.R_types (Kd.R_types HO744.out BK739.out (by decide)) BK756.out (by decide)) (fun _ hk => hk.1.2) (.bool t741)) (fun _ hk => hk.1.2) (.slice Ao14 t742.length co14)) (fun _ hk => hk.1.2) (.slice Ao15 t745.length co15)) (fun _ hk => hk.2) (.bool t748)) (fun _ hk => hk.2) (.slice Ao18 t749.length co18)) (fun _ hk => hk.2) (.slice Ao19 t752.length co19)) (fun _ h_ => h_.1)) (fun _ h_ => h_.1))) hb) (Kd.R_base ho0)) (Kd.R_base ho1)) (Kd.R_base ho2)) (Kd.R_base ho3)) (fun _ h_ => h_.1)); replace HO747 := Aside0.mk (Kd.R_mono (Kd.R_told (Kd.R_told (Kd.R_told (Kd.R_told (Kd.R_old (by (with_reducible repeat (first | apply Kd.R_alloc | apply Kd.R_drewN | apply Kd.R_drew)); exact (Kd.R_mono (Kd.R_mono (Kd.R_far (p := ⟨gb756, 2, none⟩) (Kd.R_far (p := ⟨gb756, 1, none⟩) (Kd.R_far (p := ⟨gb756, 0, none⟩) (Kd.R_far (p := ⟨gb739, 2, none⟩) (Kd.R_far (p := ⟨gb739, 1, none⟩) (Kd.R_far (p := ⟨gb739, 0, none⟩) (Kd.R_types (Kd.R_types HO747.out BK739.out (by decide)) BK756.out (by decide)) (fun _ hk => hk.1.2) (.bool t741)) (fun _ hk => hk.1.2) (.slice Ao14 t742.length co14)) (fun _ hk => hk.1.2) (.slice Ao15 t745.length co15)) (fun _ hk => hk.2) (.bool t748)) (fun _ hk => hk.2) (.slice Ao18 t749.length co18)) (fun _ hk => hk.2) (.slice Ao19 t752.length co19)) (fun _ h_ => h_.1)) (fun _ h_ => h_.1))) hb) (Kd.R_base ho0)) (Kd.R_base ho1)) (Kd.R_base ho2)) (Kd.R_base ho3)) (fun _ h_ => h_.1)); replace HO751 := Aside0.mk (Kd.R_mono (Kd.R_told (Kd.R_told (Kd.R_told (Kd.R_told (Kd.R_old (by (with_reducible repeat (first | apply Kd.R_alloc | apply Kd.R_drewN | apply Kd.R_drew)); exact (Kd.R_mono (Kd.R_mono (Kd.R_far (p := ⟨gb756, 2, none⟩) (Kd.R_far (p := ⟨gb756, 1, none⟩) (Kd.R_far (p := ⟨gb756, 0, none⟩) (Kd.R_far (p := ⟨gb739, 2, none⟩) (Kd.R_far (p := ⟨gb739, 1, none⟩) (Kd.R_far (p := ⟨gb739, 0, none⟩) (Kd.R_types (Kd.R_types HO751.out BK739.out (by decide)) BK756.out (by decide)) (fun _ hk => hk.1.2) (.bool t741)) (fun _ hk => hk.1.2) (.slice Ao14 t742.length co14)) (fun _ hk => hk.1.2) (.slice Ao15 t745.length co15)) (fun _ hk => hk.2) (.bool t748)) (fun _ hk => hk.2) (.slice Ao18 t749.length co18)) (fun _ hk => hk.2) (.slice Ao19 t752.length co19)) (fun _ h_ => h_.1)) (fun _ h_ => h_.1))) hb) (Kd.R_base ho0)) (Kd.R_base ho1)) (Kd.R_base ho2)) (Kd.R_base ho3)) (fun _ h_ => h_.1)); replace HO754 := Aside0.mk (Kd.R_mono (Kd.R_told (Kd.R_told (Kd.R_told (Kd.R_told (Kd.R_old (by (with_reducible repeat (first | apply Kd.R_alloc | apply Kd.R_drewN | apply Kd.R_drew)); exact (Kd.R_mono (Kd.R_mono (Kd.R_far (p := ⟨gb756, 2, none⟩) (Kd.R_far (p := ⟨gb756, 1, none⟩) (Kd.R_far (p := ⟨gb756, 0, none⟩) (Kd.R_far (p := ⟨gb739, 2, none⟩) (Kd.R_far (p := ⟨gb739, 1, none⟩) (Kd.R_far (p := ⟨gb739, 0, none⟩) (Kd.R_types (Kd.R_types HO754.out BK739.out (by decide)) BK756.out (by decide)) (fun _ hk => hk.1.2) (.bool t741)) (fun _ hk => hk.1.2) (.slice Ao14 t742.length co14)) (fun _ hk => hk.1.2) (.slice Ao15 t745.length co15)) (fun _ hk => hk.2) (.bool t748)) (fun _ hk => hk.2) (.slice Ao18 t749.length co18)) (fun _ hk => hk.2) (.slice Ao19 t752.length co19)) (fun _ h_ => h_.1)) (fun _ h_ => h_.1))) hb) (Kd.R_base ho0)) (Kd.R_base ho1)) (Kd.R_base ho2)) (Kd.R_base ho3)) (fun _ h_ => h_.1)); replace BK739 := Aside0.mk (blk_below (g := gb739) (o := .cells #[.bool t741, .slice Ao14 t742.length co14, .slice Ao15 t745.length co15] 36 (0, 0)) (by (with_reducible repeat (first | refine blk_drewN ?_ _ | refine blk_drew ?_ | refine blk_alloc ?_ _)); refine blk_far ?_ NB739_756.out _; (with_reducible repeat (first | refine blk_drewN ?_ _ | refine blk_drew ?_ | refine blk_alloc ?_ _)); refine blk_far ?_ NB739_756.out _; (with_reducible repeat (first | refine blk_drewN ?_ _ | refine blk_drew ?_ | refine blk_alloc ?_ _)); refine blk_far ?_ NB739_756.out _; (with_reducible repeat (first | refine blk_drewN ?_ _ | refine blk_drew ?_ | refine blk_alloc ?_ _)); refine blk_put (cs := #[.bool t741, .slice Ao14 t742.length co14, .slice A0_2 l0_2.length c0_2]) ?_ 2 _ rfl; (with_reducible repeat (first | refine blk_drewN ?_ _ | refine blk_drew ?_ | refine blk_alloc ?_ _)); refine blk_put (cs := #[.bool t741, .slice A0_1 l0_1.length c0_1, .slice A0_2 l0_2.length c0_2]) ?_ 1 _ rfl; (with_reducible repeat (first | refine blk_drewN ?_ _ | refine blk_drew ?_ | refine blk_alloc ?_ _)); refine blk_put (cs := #[.bool a0_0, .slice A0_1 l0_1.length c0_1, .slice A0_2 l0_2.length c0_2]) ?_ 0 _ rfl; (with_reducible repeat (first | refine blk_drewN ?_ _ | refine blk_drew ?_ | refine blk_alloc ?_ _)); exact BK739.out) hb); replace BK740 := Aside0.mk (blk_below (g := gb740) (o := .cells #[.bool a1_0, .slice A1_1 l1_1.length c1_1, .slice A1_2 l1_2.length c1_2] 36 (0, 0)) (by (with_reducible repeat (first | refine blk_drewN ?_ _ | refine blk_drew ?_ | refine blk_alloc ?_ _)); refine blk_far ?_ NB740_756.out _; (with_reducible repeat (first | refine blk_drewN ?_ _ | refine blk_drew ?_ | refine blk_alloc ?_ _)); refine blk_far ?_ NB740_756.out _; (with_reducible repeat (first | refine blk_drewN ?_ _ | refine blk_drew ?_ | refine blk_alloc ?_ _)); refine blk_far ?_ NB740_756.out _; (with_reducible repeat (first | refine blk_drewN ?_ _ | refine blk_drew ?_ | refine blk_alloc ?_ _)); refine blk_far ?_ NB740_739.out _; (with_reducible repeat (first | refine blk_drewN ?_ _ | refine blk_drew ?_ | refine blk_alloc ?_ _)); refine blk_far ?_ NB740_739.out _; (with_reducible repeat (first | refine blk_drewN ?_ _ | refine blk_drew ?_ | refine blk_alloc ?_ _)); refine blk_far ?_ NB740_739.out _; (with_reducible repeat (first | refine blk_drewN ?_ _ | refine blk_drew ?_ | refine blk_alloc ?_ _)); exact BK740.out) hb); replace BK756 := Aside0.mk (blk_below (g := gb756) (o := .cells #[.bool t748, .slice Ao18 t749.length co18, .slice Ao19 t752.length co19] 46 (0, 0)) (by (with_reducible repeat (first | refine blk_drewN ?_ _ | refine blk_drew ?_ | refine blk_alloc ?_ _)); refine blk_put (cs := #[.bool t748, .slice Ao18 t749.length co18, .slice none 0 0]) ?_ 2 _ rfl; (with_reducible repeat (first | refine blk_drewN ?_ _ | refine blk_drew ?_ | refine blk_alloc ?_ _)); refine blk_put (cs := #[.bool t748, .slice none 0 0, .slice none 0 0]) ?_ 1 _ rfl; (with_reducible repeat (first | refine blk_drewN ?_ _ | refine blk_drew ?_ | refine blk_alloc ?_ _)); refine blk_put (cs := #[.bool false, .slice none 0 0, .slice none 0 0]) ?_ 0 _ rfl; (with_reducible repeat (first | refine blk_drewN ?_ _ | refine blk_drew ?_ | refine blk_alloc ?_ _)); refine blk_far ?_ NB756_739.out _; (with_reducible repeat (first | refine blk_drewN ?_ _ | refine blk_drew ?_ | refine blk_alloc ?_ _)); refine blk_far ?_ NB756_739.out _; (with_reducible repeat (first | refine blk_drewN ?_ _ | refine blk_drew ?_ | refine blk_alloc ?_ _)); refine blk_far ?_ NB756_739.out _; (with_reducible repeat (first | refine blk_drewN ?_ _ | refine blk_drew ?_ | refine blk_alloc ?_ _)); exact BK756.out) hb); replace HB := hS HB.out hb; (try clear hb); (try clear ho0); (try clear ho1); (try clear ho2); (try clear ho3)) | ((with_reducible refine gate_dst (N := 7) rfl ?_); refine bE 7 #[.bool false, .slice none 0 0, .slice none 0 0] 46 ?_; intro gb772 hg w22 hbox hb; replace HO744 := oB HO744.out hb; replace HO747 := oB HO747.out hb; replace HO751 := oB HO751.out hb; replace HO754 := oB HO754.out hb; replace HO760 := oB HO760.out hb; replace HO763 := oB HO763.out hb; replace HO767 := oB HO767.out hb; replace HO770 := oB HO770.out hb; have BK772 := Aside0.mk (hbox); have GE772 : Aside0 (w.heap.size ≤ gb772) := gE hg; replace HB := hS HB.out hb; have NB739_772 := nL hg BK739.out; have NB772_739 := nG hg BK739.out; replace BK739 := bB BK739.out hb; have NB740_772 := nL hg BK740.out; have NB772_740 := nG hg BK740.out; replace BK740 := bB BK740.out hb; have NB756_772 := nL hg BK756.out; have NB772_756 := nG hg BK756.out; replace BK756 := bB BK756.out hb; clear hb hbox hg; have hnb23 := NB740_772.out; have hnc23 := NB772_740.out; obtain ⟨hcz24_0, hcz24_1, hcz24_2⟩ := cz3 BK740.out; obtain ⟨hfz24_0, hfz24_1, hfz24_2⟩ := fz3 BK740.out; obtain ⟨Ao25, co25, rfl⟩ := Kd.R_slice HO760.out; obtain ⟨Ao26, co26, rfl⟩ := Kd.R_slice HO763.out; have hnb27 := NB772_739.out; have hnc27 := NB739_772.out; have hnb28 := NB772_756.out; have hnc28 := NB756_772.out; obtain ⟨hcz29_0, hcz29_1, hcz29_2⟩ := cz3 BK772.out; obtain ⟨hfz29_0, hfz29_1, hfz29_2⟩ := fz3 BK772.out; obtain ⟨Ao30, co30, rfl⟩ := Kd.R_slice HO767.out; obtain ⟨Ao31, co31, rfl⟩ := Kd.R_slice HO770.out))
 (try simp only [Act.put, List.setIfInBounds_toArray, List.set_cons_zero, List.set_cons_succ])
 go_cut [38] (fun v38 wc => ∃ (kq : Nat) (x38_4 : Bool), v38 = .bool x38_4 ∧ Aside0 (plumblaw07_NearMonotone.j0 kq x38_4 t748 t749 t752 t764 t765 t768 = some r) ∧ Aside0 (kq ≤ k) ∧ Aside0 (Kd.R (Kd.int .u64) 26 wc w.heap.size (fun k_ => some k_ ≠ ((.slice Ao15 t745.length co15) : Value).ownBlock ∧ some k_ ≠ ((.slice Ao25 t758.length co25) : Value).ownBlock ∧ some k_ ≠ ((.slice Ao26 t761.length co26) : Value).ownBlock ∧ some k_ ≠ ((.slice Ao18 t749.length co18) : Value).ownBlock ∧ some k_ ≠ ((.slice Ao19 t752.length co19) : Value).ownBlock ∧ some k_ ≠ ((.slice Ao30 t765.length co30) : Value).ownBlock ∧ some k_ ≠ ((.slice Ao31 t768.length co31) : Value).ownBlock) (.slice Ao14 t742.length co14) t742) ∧ Aside0 (Kd.R (Kd.int .u64) 26 wc w.heap.size (fun k_ => some k_ ≠ ((.slice Ao14 t742.length co14) : Value).ownBlock ∧ some k_ ≠ ((.slice Ao25 t758.length co25) : Value).ownBlock ∧ some k_ ≠ ((.slice Ao26 t761.length co26) : Value).ownBlock ∧ some k_ ≠ ((.slice Ao18 t749.length co18) : Value).ownBlock ∧ some k_ ≠ ((.slice Ao19 t752.length co19) : Value).ownBlock ∧ some k_ ≠ ((.slice Ao30 t765.length co30) : Value).ownBlock ∧ some k_ ≠ ((.slice Ao31 t768.length co31) : Value).ownBlock) (.slice Ao15 t745.length co15) t745) ∧ Aside0 (Kd.R (Kd.int .u64) 26 wc w.heap.size (fun k_ => some k_ ≠ ((.slice Ao14 t742.length co14) : Value).ownBlock ∧ some k_ ≠ ((.slice Ao15 t745.length co15) : Value).ownBlock ∧ some k_ ≠ ((.slice Ao26 t761.length co26) : Value).ownBlock ∧ some k_ ≠ ((.slice Ao18 t749.length co18) : Value).ownBlock ∧ some k_ ≠ ((.slice Ao19 t752.length co19) : Value).ownBlock ∧ some k_ ≠ ((.slice Ao30 t765.length co30) : Value).ownBlock ∧ some k_ ≠ ((.slice Ao31 t768.length co31) : Value).ownBlock) (.slice Ao25 t758.length co25) t758) ∧ Aside0 (Kd.R (Kd.int .u64) 26 wc w.heap.size (fun k_ => some k_ ≠ ((.slice Ao14 t742.length co14) : Value).ownBlock ∧ some k_ ≠ ((.slice Ao15 t745.length co15) : Value).ownBlock ∧ some k_ ≠ ((.slice Ao25 t758.length co25) : Value).ownBlock ∧ some k_ ≠ ((.slice Ao18 t749.length co18) : Value).ownBlock ∧ some k_ ≠ ((.slice Ao19 t752.length co19) : Value).ownBlock ∧ some k_ ≠ ((.slice Ao30 t765.length co30) : Value).ownBlock ∧ some k_ ≠ ((.slice Ao31 t768.length co31) : Value).ownBlock) (.slice Ao26 t761.length co26) t761) ∧ Aside0 (Kd.R (Kd.int .u64) 26 wc w.heap.size (fun k_ => some k_ ≠ ((.slice Ao14 t742.length co14) : Value).ownBlock ∧ some k_ ≠ ((.slice Ao15 t745.length co15) : Value).ownBlock ∧ some k_ ≠ ((.slice Ao25 t758.length co25) : Value).ownBlock ∧ some k_ ≠ ((.slice Ao26 t761.length co26) : Value).ownBlock ∧ some k_ ≠ ((.slice Ao19 t752.length co19) : Value).ownBlock ∧ some k_ ≠ ((.slice Ao30 t765.length co30) : Value).ownBlock ∧ some k_ ≠ ((.slice Ao31 t768.length co31) : Value).ownBlock) (.slice Ao18 t749.length co18) t749) ∧ Aside0 (Kd.R (Kd.int .u64) 26 wc w.heap.size (fun k_ => some k_ ≠ ((.slice Ao14 t742.length co14) : Value).ownBlock ∧ some k_ ≠ ((.slice Ao15 t745.length co15) : Value).ownBlock ∧ some k_ ≠ ((.slice Ao25 t758.length co25) : Value).ownBlock ∧ some k_ ≠ ((.slice Ao26 t761.length co26) : Value).ownBlock ∧ some k_ ≠ ((.slice Ao18 t749.length co18) : Value).ownBlock ∧ some k_ ≠ ((.slice Ao30 t765.length co30) : Value).ownBlock ∧ some k_ ≠ ((.slice Ao31 t768.length co31) : Value).ownBlock) (.slice Ao19 t752.length co19) t752) ∧ Aside0 (Kd.R (Kd.int .u64) 26 wc w.heap.size (fun k_ => some k_ ≠ ((.slice Ao14 t742.length co14) : Value).ownBlock ∧ some k_ ≠ ((.slice Ao15 t745.length co15) : Value).ownBlock ∧ some k_ ≠ ((.slice Ao25 t758.length co25) : Value).ownBlock ∧ some k_ ≠ ((.slice Ao26 t761.length co26) : Value).ownBlock ∧ some k_ ≠ ((.slice Ao18 t749.length co18) : Value).ownBlock ∧ some k_ ≠ ((.slice Ao19 t752.length co19) : Value).ownBlock ∧ some k_ ≠ ((.slice Ao31 t768.length co31) : Value).ownBlock) (.slice Ao30 t765.length co30) t765) ∧ Aside0 (Kd.R (Kd.int .u64) 26 wc w.heap.size (fun k_ => some k_ ≠ ((.slice Ao14 t742.length co14) : Value).ownBlock ∧ some k_ ≠ ((.slice Ao15 t745.length co15) : Value).ownBlock ∧ some k_ ≠ ((.slice Ao25 t758.length co25) : Value).ownBlock ∧ some k_ ≠ ((.slice Ao26 t761.length co26) : Value).ownBlock ∧ some k_ ≠ ((.slice Ao18 t749.length co18) : Value).ownBlock ∧ some k_ ≠ ((.slice Ao19 t752.length co19) : Value).ownBlock ∧ some k_ ≠ ((.slice Ao30 t765.length co30) : Value).ownBlock) (.slice Ao31 t768.length co31) t768) ∧ Aside0 (wc.heap[gb739]? = some (.cells #[.bool t741, (.slice Ao14 t742.length co14), (.slice Ao15 t745.length co15)] 36 (0, 0))) ∧ Aside0 (wc.heap[gb740]? = some (.cells #[.bool t757, (.slice Ao25 t758.length co25), (.slice Ao26 t761.length co26)] 36 (0, 0))) ∧ Aside0 (wc.heap[gb756]? = some (.cells #[.bool t748, (.slice Ao18 t749.length co18), (.slice Ao19 t752.length co19)] 46 (0, 0))) ∧ Aside0 (wc.heap[gb772]? = some (.cells #[.bool t764, (.slice Ao30 t765.length co30), (.slice Ao31 t768.length co31)] 46 (0, 0))) ∧ Aside0 (Below w.heap.size w wc))
 case first =>
  have H := HC5.out
  clear HC5
  by_cases c32 : t755 = true
  ·subst c32
   rw [if_pos rfl] at H
   (try dsimp only at H)
   by_cases c33 : t771 = true
   ·subst c33
    rw [if_pos rfl] at H
    (try dsimp only at H)
    replace H := obe H
    obtain ⟨t773, A340, H⟩ := H
    (try dsimp only at H)
    have A34 := Aside0.mk A340
    clear A340
    have H' := Aside0.mk H
    clear H
    go_wp2_with (first | (go_at_call 19; (with_reducible refine (plumblaw07_fixed.calls k  t773 _ A34.out ?hs0).mono ?_); (case hs0 => first | exact StaysLaid.below HS.out HB.out | exact StaysLaid.below HS.out eB); rintro e w35 ⟨rfl, hb⟩; replace HO744 := Aside0.mk (Kd.R_below (by (with_reducible repeat (first | apply Kd.R_alloc | apply Kd.R_drewN | apply Kd.R_drew)); exact (Kd.R_mono (Kd.R_mono (Kd.R_far (p := ⟨gb772, 2, none⟩) (Kd.R_far (p := ⟨gb772, 1, none⟩) (Kd.R_far (p := ⟨gb772, 0, none⟩) (Kd.R_far (p := ⟨gb740, 2, none⟩) (Kd.R_far (p := ⟨gb740, 1, none⟩) (Kd.R_far (p := ⟨gb740, 0, none⟩) (Kd.R_types (Kd.R_types HO744.out BK740.out (by decide)) BK772.out (by decide)) (fun _ hk => hk.1.2) (.bool t757)) (fun _ hk => hk.1.2) (.slice Ao25 t758.length co25)) (fun _ hk => hk.1.2) (.slice Ao26 t761.length co26)) (fun _ hk => hk.2) (.bool t764)) (fun _ hk => hk.2) (.slice Ao30 t765.length co30)) (fun _ hk => hk.2) (.slice Ao31 t768.length co31)) (fun _ h_ => h_.1)) (fun _ h_ => h_.1))) hb); replace HO747 := Aside0.mk (Kd.R_below (by (with_reducible repeat (first | apply Kd.R_alloc | apply Kd.R_drewN | apply Kd.R_drew)); exact (Kd.R_mono (Kd.R_mono (Kd.R_far (p := ⟨gb772, 2, none⟩) (Kd.R_far (p := ⟨gb772, 1, none⟩) (Kd.R_far (p := ⟨gb772, 0, none⟩) (Kd.R_far (p := ⟨gb740, 2, none⟩) (Kd.R_far (p := ⟨gb740, 1, none⟩) (Kd.R_far (p := ⟨gb740, 0, none⟩) (Kd.R_types (Kd.R_types HO747.out BK740.out (by decide)) BK772.out (by decide)) (fun _ hk => hk.1.2) (.bool t757)) (fun _ hk => hk.1.2) (.slice Ao25 t758.length co25)) (fun _ hk => hk.1.2) (.slice Ao26 t761.length co26)) (fun _ hk => hk.2) (.bool t764)) (fun _ hk => hk.2) (.slice Ao30 t765.length co30)) (fun _ hk => hk.2) (.slice Ao31 t768.length co31)) (fun _ h_ => h_.1)) (fun _ h_ => h_.1))) hb); replace HO751 := Aside0.mk (Kd.R_below (by (with_reducible repeat (first | apply Kd.R_alloc | apply Kd.R_drewN | apply Kd.R_drew)); exact (Kd.R_mono (Kd.R_mono (Kd.R_far (p := ⟨gb772, 2, none⟩) (Kd.R_far (p := ⟨gb772, 1, none⟩) (Kd.R_far (p := ⟨gb772, 0, none⟩) (Kd.R_far (p := ⟨gb740, 2, none⟩) (Kd.R_far (p := ⟨gb740, 1, none⟩) (Kd.R_far (p := ⟨gb740, 0, none⟩) (Kd.R_types (Kd.R_types HO751.out BK740.out (by decide)) BK772.out (by decide)) (fun _ hk => hk.1.2) (.bool t757)) (fun _ hk => hk.1.2) (.slice Ao25 t758.length co25)) (fun _ hk => hk.1.2) (.slice Ao26 t761.length co26)) (fun _ hk => hk.2) (.bool t764)) (fun _ hk => hk.2) (.slice Ao30 t765.length co30)) (fun _ hk => hk.2) (.slice Ao31 t768.length co31)) (fun _ h_ => h_.1)) (fun _ h_ => h_.1))) hb); replace HO754 := Aside0.mk (Kd.R_below (by (with_reducible repeat (first | apply Kd.R_alloc | apply Kd.R_drewN | apply Kd.R_drew)); exact (Kd.R_mono (Kd.R_mono (Kd.R_far (p := ⟨gb772, 2, none⟩) (Kd.R_far (p := ⟨gb772, 1, none⟩) (Kd.R_far (p := ⟨gb772, 0, none⟩) (Kd.R_far (p := ⟨gb740, 2, none⟩) (Kd.R_far (p := ⟨gb740, 1, none⟩) (Kd.R_far (p := ⟨gb740, 0, none⟩) (Kd.R_types (Kd.R_types HO754.out BK740.out (by decide)) BK772.out (by decide)) (fun _ hk => hk.1.2) (.bool t757)) (fun _ hk => hk.1.2) (.slice Ao25 t758.length co25)) (fun _ hk => hk.1.2) (.slice Ao26 t761.length co26)) (fun _ hk => hk.2) (.bool t764)) (fun _ hk => hk.2) (.slice Ao30 t765.length co30)) (fun _ hk => hk.2) (.slice Ao31 t768.length co31)) (fun _ h_ => h_.1)) (fun _ h_ => h_.1))) hb); replace HO760 := Aside0.mk (Kd.R_below (by (with_reducible repeat (first | apply Kd.R_alloc | apply Kd.R_drewN | apply Kd.R_drew)); exact (Kd.R_mono (Kd.R_mono (Kd.R_far (p := ⟨gb772, 2, none⟩) (Kd.R_far (p := ⟨gb772, 1, none⟩) (Kd.R_far (p := ⟨gb772, 0, none⟩) (Kd.R_far (p := ⟨gb740, 2, none⟩) (Kd.R_far (p := ⟨gb740, 1, none⟩) (Kd.R_far (p := ⟨gb740, 0, none⟩) (Kd.R_types (Kd.R_types HO760.out BK740.out (by decide)) BK772.out (by decide)) (fun _ hk => hk.1.2) (.bool t757)) (fun _ hk => hk.1.2) (.slice Ao25 t758.length co25)) (fun _ hk => hk.1.2) (.slice Ao26 t761.length co26)) (fun _ hk => hk.2) (.bool t764)) (fun _ hk => hk.2) (.slice Ao30 t765.length co30)) (fun _ hk => hk.2) (.slice Ao31 t768.length co31)) (fun _ h_ => h_.1)) (fun _ h_ => h_.1))) hb); replace HO763 := Aside0.mk (Kd.R_below (by (with_reducible repeat (first | apply Kd.R_alloc | apply Kd.R_drewN | apply Kd.R_drew)); exact (Kd.R_mono (Kd.R_mono (Kd.R_far (p := ⟨gb772, 2, none⟩) (Kd.R_far (p := ⟨gb772, 1, none⟩) (Kd.R_far (p := ⟨gb772, 0, none⟩) (Kd.R_far (p := ⟨gb740, 2, none⟩) (Kd.R_far (p := ⟨gb740, 1, none⟩) (Kd.R_far (p := ⟨gb740, 0, none⟩) (Kd.R_types (Kd.R_types HO763.out BK740.out (by decide)) BK772.out (by decide)) (fun _ hk => hk.1.2) (.bool t757)) (fun _ hk => hk.1.2) (.slice Ao25 t758.length co25)) (fun _ hk => hk.1.2) (.slice Ao26 t761.length co26)) (fun _ hk => hk.2) (.bool t764)) (fun _ hk => hk.2) (.slice Ao30 t765.length co30)) (fun _ hk => hk.2) (.slice Ao31 t768.length co31)) (fun _ h_ => h_.1)) (fun _ h_ => h_.1))) hb); replace HO767 := Aside0.mk (Kd.R_below (by (with_reducible repeat (first | apply Kd.R_alloc | apply Kd.R_drewN | apply Kd.R_drew)); exact (Kd.R_mono (Kd.R_mono (Kd.R_far (p := ⟨gb772, 2, none⟩) (Kd.R_far (p := ⟨gb772, 1, none⟩) (Kd.R_far (p := ⟨gb772, 0, none⟩) (Kd.R_far (p := ⟨gb740, 2, none⟩) (Kd.R_far (p := ⟨gb740, 1, none⟩) (Kd.R_far (p := ⟨gb740, 0, none⟩) (Kd.R_types (Kd.R_types HO767.out BK740.out (by decide)) BK772.out (by decide)) (fun _ hk => hk.1.2) (.bool t757)) (fun _ hk => hk.1.2) (.slice Ao25 t758.length co25)) (fun _ hk => hk.1.2) (.slice Ao26 t761.length co26)) (fun _ hk => hk.2) (.bool t764)) (fun _ hk => hk.2) (.slice Ao30 t765.length co30)) (fun _ hk => hk.2) (.slice Ao31 t768.length co31)) (fun _ h_ => h_.1)) (fun _ h_ => h_.1))) hb); replace HO770 := Aside0.mk (Kd.R_below (by (with_reducible repeat (first | apply Kd.R_alloc | apply Kd.R_drewN | apply Kd.R_drew)); exact (Kd.R_mono (Kd.R_mono (Kd.R_far (p := ⟨gb772, 2, none⟩) (Kd.R_far (p := ⟨gb772, 1, none⟩) (Kd.R_far (p := ⟨gb772, 0, none⟩) (Kd.R_far (p := ⟨gb740, 2, none⟩) (Kd.R_far (p := ⟨gb740, 1, none⟩) (Kd.R_far (p := ⟨gb740, 0, none⟩) (Kd.R_types (Kd.R_types HO770.out BK740.out (by decide)) BK772.out (by decide)) (fun _ hk => hk.1.2) (.bool t757)) (fun _ hk => hk.1.2) (.slice Ao25 t758.length co25)) (fun _ hk => hk.1.2) (.slice Ao26 t761.length co26)) (fun _ hk => hk.2) (.bool t764)) (fun _ hk => hk.2) (.slice Ao30 t765.length co30)) (fun _ hk => hk.2) (.slice Ao31 t768.length co31)) (fun _ h_ => h_.1)) (fun _ h_ => h_.1))) hb); replace BK739 := Aside0.mk (blk_below (g := gb739) (o := .cells #[.bool t741, .slice Ao14 t742.length co14, .slice Ao15 t745.length co15] 36 (0, 0)) (by (with_reducible repeat (first | refine blk_drewN ?_ _ | refine blk_drew ?_ | refine blk_alloc ?_ _)); refine blk_far ?_ NB739_772.out _; (with_reducible repeat (first | refine blk_drewN ?_ _ | refine blk_drew ?_ | refine blk_alloc ?_ _)); refine blk_far ?_ NB739_772.out _; (with_reducible repeat (first | refine blk_drewN ?_ _ | refine blk_drew ?_ | refine blk_alloc ?_ _)); refine blk_far ?_ NB739_772.out _; (with_reducible repeat (first | refine blk_drewN ?_ _ | refine blk_drew ?_ | refine blk_alloc ?_ _)); refine blk_far ?_ NB739_740.out _; (with_reducible repeat (first | refine blk_drewN ?_ _ | refine blk_drew ?_ | refine blk_alloc ?_ _)); refine blk_far ?_ NB739_740.out _; (with_reducible repeat (first | refine blk_drewN ?_ _ | refine blk_drew ?_ | refine blk_alloc ?_ _)); refine blk_far ?_ NB739_740.out _; (with_reducible repeat (first | refine blk_drewN ?_ _ | refine blk_drew ?_ | refine blk_alloc ?_ _)); exact BK739.out) hb); replace BK740 := Aside0.mk (blk_below (g := gb740) (o := .cells #[.bool t757, .slice Ao25 t758.length co25, .slice Ao26 t761.length co26] 36 (0, 0)) (by (with_reducible repeat (first | refine blk_drewN ?_ _ | refine blk_drew ?_ | refine blk_alloc ?_ _)); refine blk_far ?_ NB740_772.out _; (with_reducible repeat (first | refine blk_drewN ?_ _ | refine blk_drew ?_ | refine blk_alloc ?_ _)); refine blk_far ?_ NB740_772.out _; (with_reducible repeat (first | refine blk_drewN ?_ _ | refine blk_drew ?_ | refine blk_alloc ?_ _)); refine blk_far ?_ NB740_772.out _; (with_reducible repeat (first | refine blk_drewN ?_ _ | refine blk_drew ?_ | refine blk_alloc ?_ _)); refine blk_put (cs := #[.bool t757, .slice Ao25 t758.length co25, .slice A1_2 l1_2.length c1_2]) ?_ 2 _ rfl; (with_reducible repeat (first | refine blk_drewN ?_ _ | refine blk_drew ?_ | refine blk_alloc ?_ _)); refine blk_put (cs := #[.bool t757, .slice A1_1 l1_1.length c1_1, .slice A1_2 l1_2.length c1_2]) ?_ 1 _ rfl; (with_reducible repeat (first | refine blk_drewN ?_ _ | refine blk_drew ?_ | refine blk_alloc ?_ _)); refine blk_put (cs := #[.bool a1_0, .slice A1_1 l1_1.length c1_1, .slice A1_2 l1_2.length c1_2]) ?_ 0 _ rfl; (with_reducible repeat (first | refine blk_drewN ?_ _ | refine blk_drew ?_ | refine blk_alloc ?_ _)); exact BK740.out) hb); replace BK756 := Aside0.mk (blk_below (g := gb756) (o := .cells #[.bool t748, .slice Ao18 t749.length co18, .slice Ao19 t752.length co19] 46 (0, 0)) (by (with_reducible repeat (first | refine blk_drewN ?_ _ | refine blk_drew ?_ | refine blk_alloc ?_ _)); refine blk_far ?_ NB756_772.out _; (with_reducible repeat (first | refine blk_drewN ?_ _ | refine blk_drew ?_ | refine blk_alloc ?_ _)); refine blk_far ?_ NB756_772.out _; (with_reducible repeat (first | refine blk_drewN ?_ _ | refine blk_drew ?_ | refine blk_alloc ?_ _)); refine blk_far ?_ NB756_772.out _; (with_reducible repeat (first | refine blk_drewN ?_ _ | refine blk_drew ?_ | refine blk_alloc ?_ _)); refine blk_far ?_ NB756_740.out _; (with_reducible repeat (first | refine blk_drewN ?_ _ | refine blk_drew ?_ | refine blk_alloc ?_ _)); refine blk_far ?_ NB756_740.out _; (with_reducible repeat (first | refine blk_drewN ?_ _ | refine blk_drew ?_ | refine blk_alloc ?_ _)); refine blk_far ?_ NB756_740.out _; (with_reducible repeat (first | refine blk_drewN ?_ _ | refine blk_drew ?_ | refine blk_alloc ?_ _)); exact BK756.out) hb); replace BK772 := Aside0.mk (blk_below (g := gb772) (o := .cells #[.bool t764, .slice Ao30 t765.length co30, .slice Ao31 t768.length co31] 46 (0, 0)) (by (with_reducible repeat (first | refine blk_drewN ?_ _ | refine blk_drew ?_ | refine blk_alloc ?_ _)); refine blk_put (cs := #[.bool t764, .slice Ao30 t765.length co30, .slice none 0 0]) ?_ 2 _ rfl; (with_reducible repeat (first | refine blk_drewN ?_ _ | refine blk_drew ?_ | refine blk_alloc ?_ _)); refine blk_put (cs := #[.bool t764, .slice none 0 0, .slice none 0 0]) ?_ 1 _ rfl; (with_reducible repeat (first | refine blk_drewN ?_ _ | refine blk_drew ?_ | refine blk_alloc ?_ _)); refine blk_put (cs := #[.bool false, .slice none 0 0, .slice none 0 0]) ?_ 0 _ rfl; (with_reducible repeat (first | refine blk_drewN ?_ _ | refine blk_drew ?_ | refine blk_alloc ?_ _)); refine blk_far ?_ NB772_740.out _; (with_reducible repeat (first | refine blk_drewN ?_ _ | refine blk_drew ?_ | refine blk_alloc ?_ _)); refine blk_far ?_ NB772_740.out _; (with_reducible repeat (first | refine blk_drewN ?_ _ | refine blk_drew ?_ | refine blk_alloc ?_ _)); refine blk_far ?_ NB772_740.out _; (with_reducible repeat (first | refine blk_drewN ?_ _ | refine blk_drew ?_ | refine blk_alloc ?_ _)); exact BK772.out) hb); replace HB := hS HB.out hb; (try clear hb)))
    go_meet
    case rel => exact ⟨_, (!t773), dF, H', ⟨dN⟩, ⟨by (with_reducible repeat (first | apply Kd.R_alloc | apply Kd.R_drewN | apply Kd.R_drew)); exact Kd.R_mono HO744.out (fun _ hk => ⟨hk.1.1.1.1.1, ⟨hk.1.1.1.2, ⟨hk.1.1.2, ⟨hk.1.1.1.1.2.1, ⟨hk.1.1.1.1.2.2, ⟨hk.1.2, hk.2⟩⟩⟩⟩⟩⟩)⟩, ⟨by (with_reducible repeat (first | apply Kd.R_alloc | apply Kd.R_drewN | apply Kd.R_drew)); exact Kd.R_mono HO747.out (fun _ hk => ⟨hk.1.1.1.1.1, ⟨hk.1.1.1.2, ⟨hk.1.1.2, ⟨hk.1.1.1.1.2.1, ⟨hk.1.1.1.1.2.2, ⟨hk.1.2, hk.2⟩⟩⟩⟩⟩⟩)⟩, ⟨by (with_reducible repeat (first | apply Kd.R_alloc | apply Kd.R_drewN | apply Kd.R_drew)); exact Kd.R_mono HO760.out (fun _ hk => ⟨hk.1.1.1.2, ⟨hk.1.1.2, ⟨hk.1.1.1.1.1, ⟨hk.1.2, ⟨hk.2, ⟨hk.1.1.1.1.2.1, hk.1.1.1.1.2.2⟩⟩⟩⟩⟩⟩)⟩, ⟨by (with_reducible repeat (first | apply Kd.R_alloc | apply Kd.R_drewN | apply Kd.R_drew)); exact Kd.R_mono HO763.out (fun _ hk => ⟨hk.1.1.1.2, ⟨hk.1.1.2, ⟨hk.1.1.1.1.1, ⟨hk.1.2, ⟨hk.2, ⟨hk.1.1.1.1.2.1, hk.1.1.1.1.2.2⟩⟩⟩⟩⟩⟩)⟩, ⟨by (with_reducible repeat (first | apply Kd.R_alloc | apply Kd.R_drewN | apply Kd.R_drew)); exact Kd.R_mono HO751.out (fun _ hk => ⟨hk.1.1.1.1.1, ⟨hk.1.1.1.1.2.1, ⟨hk.1.1.1.2, ⟨hk.1.1.2, ⟨hk.1.1.1.1.2.2, ⟨hk.1.2, hk.2⟩⟩⟩⟩⟩⟩)⟩, ⟨by (with_reducible repeat (first | apply Kd.R_alloc | apply Kd.R_drewN | apply Kd.R_drew)); exact Kd.R_mono HO754.out (fun _ hk => ⟨hk.1.1.1.1.1, ⟨hk.1.1.1.1.2.1, ⟨hk.1.1.1.2, ⟨hk.1.1.2, ⟨hk.1.1.1.1.2.2, ⟨hk.1.2, hk.2⟩⟩⟩⟩⟩⟩)⟩, ⟨by (with_reducible repeat (first | apply Kd.R_alloc | apply Kd.R_drewN | apply Kd.R_drew)); exact Kd.R_mono HO767.out (fun _ hk => ⟨hk.1.1.1.2, ⟨hk.1.1.2, ⟨hk.1.1.1.1.1, ⟨hk.1.1.1.1.2.1, ⟨hk.1.2, ⟨hk.2, hk.1.1.1.1.2.2⟩⟩⟩⟩⟩⟩)⟩, ⟨by (with_reducible repeat (first | apply Kd.R_alloc | apply Kd.R_drewN | apply Kd.R_drew)); exact Kd.R_mono HO770.out (fun _ hk => ⟨hk.1.1.1.2, ⟨hk.1.1.2, ⟨hk.1.1.1.1.1, ⟨hk.1.1.1.1.2.1, ⟨hk.1.2, ⟨hk.2, hk.1.1.1.1.2.2⟩⟩⟩⟩⟩⟩)⟩, ⟨dK BK739.out⟩, ⟨dK BK740.out⟩, ⟨dK BK756.out⟩, ⟨dK BK772.out⟩, ⟨eB⟩⟩
   ·replace c33 := Bool.eq_false_iff.mpr c33
    subst c33
    rw [if_neg (show ¬ (false = true) by decide)] at H
    (try dsimp only at H)
    have H' := Aside0.mk H
    clear H
    go_wp2
    go_meet
    case rel => exact ⟨_, (true), dF, H', ⟨dN⟩, ⟨by (with_reducible repeat (first | apply Kd.R_alloc | apply Kd.R_drewN | apply Kd.R_drew)); exact Kd.R_mono (Kd.R_far (p := ⟨gb772, 2, none⟩) (Kd.R_far (p := ⟨gb772, 1, none⟩) (Kd.R_far (p := ⟨gb772, 0, none⟩) (Kd.R_far (p := ⟨gb740, 2, none⟩) (Kd.R_far (p := ⟨gb740, 1, none⟩) (Kd.R_far (p := ⟨gb740, 0, none⟩) (Kd.R_types (Kd.R_types HO744.out BK740.out (by decide)) BK772.out (by decide)) (fun _ hk => hk.1.2) (.bool t757)) (fun _ hk => hk.1.2) (.slice Ao25 t758.length co25)) (fun _ hk => hk.1.2) (.slice Ao26 t761.length co26)) (fun _ hk => hk.2) (.bool t764)) (fun _ hk => hk.2) (.slice Ao30 t765.length co30)) (fun _ hk => hk.2) (.slice Ao31 t768.length co31)) (fun _ hk => ⟨hk.1.1.1.1.1.1.1, ⟨hk.1.1.1.1.1.2, ⟨hk.1.1.1.1.2, ⟨hk.1.1.1.1.1.1.2.1, ⟨hk.1.1.1.1.1.1.2.2, ⟨hk.1.1.1.2, hk.1.1.2⟩⟩⟩⟩⟩⟩)⟩, ⟨by (with_reducible repeat (first | apply Kd.R_alloc | apply Kd.R_drewN | apply Kd.R_drew)); exact Kd.R_mono (Kd.R_far (p := ⟨gb772, 2, none⟩) (Kd.R_far (p := ⟨gb772, 1, none⟩) (Kd.R_far (p := ⟨gb772, 0, none⟩) (Kd.R_far (p := ⟨gb740, 2, none⟩) (Kd.R_far (p := ⟨gb740, 1, none⟩) (Kd.R_far (p := ⟨gb740, 0, none⟩) (Kd.R_types (Kd.R_types HO747.out BK740.out (by decide)) BK772.out (by decide)) (fun _ hk => hk.1.2) (.bool t757)) (fun _ hk => hk.1.2) (.slice Ao25 t758.length co25)) (fun _ hk => hk.1.2) (.slice Ao26 t761.length co26)) (fun _ hk => hk.2) (.bool t764)) (fun _ hk => hk.2) (.slice Ao30 t765.length co30)) (fun _ hk => hk.2) (.slice Ao31 t768.length co31)) (fun _ hk => ⟨hk.1.1.1.1.1.1.1, ⟨hk.1.1.1.1.1.2, ⟨hk.1.1.1.1.2, ⟨hk.1.1.1.1.1.1.2.1, ⟨hk.1.1.1.1.1.1.2.2, ⟨hk.1.1.1.2, hk.1.1.2⟩⟩⟩⟩⟩⟩)⟩, ⟨by (with_reducible repeat (first | apply Kd.R_alloc | apply Kd.R_drewN | apply Kd.R_drew)); exact Kd.R_mono (Kd.R_far (p := ⟨gb772, 2, none⟩) (Kd.R_far (p := ⟨gb772, 1, none⟩) (Kd.R_far (p := ⟨gb772, 0, none⟩) (Kd.R_far (p := ⟨gb740, 2, none⟩) (Kd.R_far (p := ⟨gb740, 1, none⟩) (Kd.R_far (p := ⟨gb740, 0, none⟩) (Kd.R_types (Kd.R_types HO760.out BK740.out (by decide)) BK772.out (by decide)) (fun _ hk => hk.1.2) (.bool t757)) (fun _ hk => hk.1.2) (.slice Ao25 t758.length co25)) (fun _ hk => hk.1.2) (.slice Ao26 t761.length co26)) (fun _ hk => hk.2) (.bool t764)) (fun _ hk => hk.2) (.slice Ao30 t765.length co30)) (fun _ hk => hk.2) (.slice Ao31 t768.length co31)) (fun _ hk => ⟨hk.1.1.1.1.1.2, ⟨hk.1.1.1.1.2, ⟨hk.1.1.1.1.1.1.1, ⟨hk.1.1.1.2, ⟨hk.1.1.2, ⟨hk.1.1.1.1.1.1.2.1, hk.1.1.1.1.1.1.2.2⟩⟩⟩⟩⟩⟩)⟩, ⟨by (with_reducible repeat (first | apply Kd.R_alloc | apply Kd.R_drewN | apply Kd.R_drew)); exact Kd.R_mono (Kd.R_far (p := ⟨gb772, 2, none⟩) (Kd.R_far (p := ⟨gb772, 1, none⟩) (Kd.R_far (p := ⟨gb772, 0, none⟩) (Kd.R_far (p := ⟨gb740, 2, none⟩) (Kd.R_far (p := ⟨gb740, 1, none⟩) (Kd.R_far (p := ⟨gb740, 0, none⟩) (Kd.R_types (Kd.R_types HO763.out BK740.out (by decide)) BK772.out (by decide)) (fun _ hk => hk.1.2) (.bool t757)) (fun _ hk => hk.1.2) (.slice Ao25 t758.length co25)) (fun _ hk => hk.1.2) (.slice Ao26 t761.length co26)) (fun _ hk => hk.2) (.bool t764)) (fun _ hk => hk.2) (.slice Ao30 t765.length co30)) (fun _ hk => hk.2) (.slice Ao31 t768.length co31)) (fun _ hk => ⟨hk.1.1.1.1.1.2, ⟨hk.1.1.1.1.2, ⟨hk.1.1.1.1.1.1.1, ⟨hk.1.1.1.2, ⟨hk.1.1.2, ⟨hk.1.1.1.1.1.1.2.1, hk.1.1.1.1.1.1.2.2⟩⟩⟩⟩⟩⟩)⟩, ⟨by (with_reducible repeat (first | apply Kd.R_alloc | apply Kd.R_drewN | apply Kd.R_drew)); exact Kd.R_mono (Kd.R_far (p := ⟨gb772, 2, none⟩) (Kd.R_far (p := ⟨gb772, 1, none⟩) (Kd.R_far (p := ⟨gb772, 0, none⟩) (Kd.R_far (p := ⟨gb740, 2, none⟩) (Kd.R_far (p := ⟨gb740, 1, none⟩) (Kd.R_far (p := ⟨gb740, 0, none⟩) (Kd.R_types (Kd.R_types HO751.out BK740.out (by decide)) BK772.out (by decide)) (fun _ hk => hk.1.2) (.bool t757)) (fun _ hk => hk.1.2) (.slice Ao25 t758.length co25)) (fun _ hk => hk.1.2) (.slice Ao26 t761.length co26)) (fun _ hk => hk.2) (.bool t764)) (fun _ hk => hk.2) (.slice Ao30 t765.length co30)) (fun _ hk => hk.2) (.slice Ao31 t768.length co31)) (fun _ hk => ⟨hk.1.1.1.1.1.1.1, ⟨hk.1.1.1.1.1.1.2.1, ⟨hk.1.1.1.1.1.2, ⟨hk.1.1.1.1.2, ⟨hk.1.1.1.1.1.1.2.2, ⟨hk.1.1.1.2, hk.1.1.2⟩⟩⟩⟩⟩⟩)⟩, ⟨by (with_reducible repeat (first | apply Kd.R_alloc | apply Kd.R_drewN | apply Kd.R_drew)); exact Kd.R_mono (Kd.R_far (p := ⟨gb772, 2, none⟩) (Kd.R_far (p := ⟨gb772, 1, none⟩) (Kd.R_far (p := ⟨gb772, 0, none⟩) (Kd.R_far (p := ⟨gb740, 2, none⟩) (Kd.R_far (p := ⟨gb740, 1, none⟩) (Kd.R_far (p := ⟨gb740, 0, none⟩) (Kd.R_types (Kd.R_types HO754.out BK740.out (by decide)) BK772.out (by decide)) (fun _ hk => hk.1.2) (.bool t757)) (fun _ hk => hk.1.2) (.slice Ao25 t758.length co25)) (fun _ hk => hk.1.2) (.slice Ao26 t761.length co26)) (fun _ hk => hk.2) (.bool t764)) (fun _ hk => hk.2) (.slice Ao30 t765.length co30)) (fun _ hk => hk.2) (.slice Ao31 t768.length co31)) (fun _ hk => ⟨hk.1.1.1.1.1.1.1, ⟨hk.1.1.1.1.1.1.2.1, ⟨hk.1.1.1.1.1.2, ⟨hk.1.1.1.1.2, ⟨hk.1.1.1.1.1.1.2.2, ⟨hk.1.1.1.2, hk.1.1.2⟩⟩⟩⟩⟩⟩)⟩, ⟨by (with_reducible repeat (first | apply Kd.R_alloc | apply Kd.R_drewN | apply Kd.R_drew)); exact Kd.R_mono (Kd.R_far (p := ⟨gb772, 2, none⟩) (Kd.R_far (p := ⟨gb772, 1, none⟩) (Kd.R_far (p := ⟨gb772, 0, none⟩) (Kd.R_far (p := ⟨gb740, 2, none⟩) (Kd.R_far (p := ⟨gb740, 1, none⟩) (Kd.R_far (p := ⟨gb740, 0, none⟩) (Kd.R_types (Kd.R_types HO767.out BK740.out (by decide)) BK772.out (by decide)) (fun _ hk => hk.1.2) (.bool t757)) (fun _ hk => hk.1.2) (.slice Ao25 t758.length co25)) (fun _ hk => hk.1.2) (.slice Ao26 t761.length co26)) (fun _ hk => hk.2) (.bool t764)) (fun _ hk => hk.2) (.slice Ao30 t765.length co30)) (fun _ hk => hk.2) (.slice Ao31 t768.length co31)) (fun _ hk => ⟨hk.1.1.1.1.1.2, ⟨hk.1.1.1.1.2, ⟨hk.1.1.1.1.1.1.1, ⟨hk.1.1.1.1.1.1.2.1, ⟨hk.1.1.1.2, ⟨hk.1.1.2, hk.1.1.1.1.1.1.2.2⟩⟩⟩⟩⟩⟩)⟩, ⟨by (with_reducible repeat (first | apply Kd.R_alloc | apply Kd.R_drewN | apply Kd.R_drew)); exact Kd.R_mono (Kd.R_far (p := ⟨gb772, 2, none⟩) (Kd.R_far (p := ⟨gb772, 1, none⟩) (Kd.R_far (p := ⟨gb772, 0, none⟩) (Kd.R_far (p := ⟨gb740, 2, none⟩) (Kd.R_far (p := ⟨gb740, 1, none⟩) (Kd.R_far (p := ⟨gb740, 0, none⟩) (Kd.R_types (Kd.R_types HO770.out BK740.out (by decide)) BK772.out (by decide)) (fun _ hk => hk.1.2) (.bool t757)) (fun _ hk => hk.1.2) (.slice Ao25 t758.length co25)) (fun _ hk => hk.1.2) (.slice Ao26 t761.length co26)) (fun _ hk => hk.2) (.bool t764)) (fun _ hk => hk.2) (.slice Ao30 t765.length co30)) (fun _ hk => hk.2) (.slice Ao31 t768.length co31)) (fun _ hk => ⟨hk.1.1.1.1.1.2, ⟨hk.1.1.1.1.2, ⟨hk.1.1.1.1.1.1.1, ⟨hk.1.1.1.1.1.1.2.1, ⟨hk.1.1.1.2, ⟨hk.1.1.2, hk.1.1.1.1.1.1.2.2⟩⟩⟩⟩⟩⟩)⟩, ⟨by (with_reducible repeat (first | refine blk_drewN ?_ _ | refine blk_drew ?_ | refine blk_alloc ?_ _)); refine blk_far ?_ NB739_772.out _; (with_reducible repeat (first | refine blk_drewN ?_ _ | refine blk_drew ?_ | refine blk_alloc ?_ _)); refine blk_far ?_ NB739_772.out _; (with_reducible repeat (first | refine blk_drewN ?_ _ | refine blk_drew ?_ | refine blk_alloc ?_ _)); refine blk_far ?_ NB739_772.out _; (with_reducible repeat (first | refine blk_drewN ?_ _ | refine blk_drew ?_ | refine blk_alloc ?_ _)); refine blk_far ?_ NB739_740.out _; (with_reducible repeat (first | refine blk_drewN ?_ _ | refine blk_drew ?_ | refine blk_alloc ?_ _)); refine blk_far ?_ NB739_740.out _; (with_reducible repeat (first | refine blk_drewN ?_ _ | refine blk_drew ?_ | refine blk_alloc ?_ _)); refine blk_far ?_ NB739_740.out _; (with_reducible repeat (first | refine blk_drewN ?_ _ | refine blk_drew ?_ | refine blk_alloc ?_ _)); exact BK739.out⟩, ⟨by (with_reducible repeat (first | refine blk_drewN ?_ _ | refine blk_drew ?_ | refine blk_alloc ?_ _)); refine blk_far ?_ NB740_772.out _; (with_reducible repeat (first | refine blk_drewN ?_ _ | refine blk_drew ?_ | refine blk_alloc ?_ _)); refine blk_far ?_ NB740_772.out _; (with_reducible repeat (first | refine blk_drewN ?_ _ | refine blk_drew ?_ | refine blk_alloc ?_ _)); refine blk_far ?_ NB740_772.out _; (with_reducible repeat (first | refine blk_drewN ?_ _ | refine blk_drew ?_ | refine blk_alloc ?_ _)); refine blk_put (cs := #[.bool t757, .slice Ao25 t758.length co25, .slice A1_2 l1_2.length c1_2]) ?_ 2 _ rfl; (with_reducible repeat (first | refine blk_drewN ?_ _ | refine blk_drew ?_ | refine blk_alloc ?_ _)); refine blk_put (cs := #[.bool t757, .slice A1_1 l1_1.length c1_1, .slice A1_2 l1_2.length c1_2]) ?_ 1 _ rfl; (with_reducible repeat (first | refine blk_drewN ?_ _ | refine blk_drew ?_ | refine blk_alloc ?_ _)); refine blk_put (cs := #[.bool a1_0, .slice A1_1 l1_1.length c1_1, .slice A1_2 l1_2.length c1_2]) ?_ 0 _ rfl; (with_reducible repeat (first | refine blk_drewN ?_ _ | refine blk_drew ?_ | refine blk_alloc ?_ _)); exact BK740.out⟩, ⟨by (with_reducible repeat (first | refine blk_drewN ?_ _ | refine blk_drew ?_ | refine blk_alloc ?_ _)); refine blk_far ?_ NB756_772.out _; (with_reducible repeat (first | refine blk_drewN ?_ _ | refine blk_drew ?_ | refine blk_alloc ?_ _)); refine blk_far ?_ NB756_772.out _; (with_reducible repeat (first | refine blk_drewN ?_ _ | refine blk_drew ?_ | refine blk_alloc ?_ _)); refine blk_far ?_ NB756_772.out _; (with_reducible repeat (first | refine blk_drewN ?_ _ | refine blk_drew ?_ | refine blk_alloc ?_ _)); refine blk_far ?_ NB756_740.out _; (with_reducible repeat (first | refine blk_drewN ?_ _ | refine blk_drew ?_ | refine blk_alloc ?_ _)); refine blk_far ?_ NB756_740.out _; (with_reducible repeat (first | refine blk_drewN ?_ _ | refine blk_drew ?_ | refine blk_alloc ?_ _)); refine blk_far ?_ NB756_740.out _; (with_reducible repeat (first | refine blk_drewN ?_ _ | refine blk_drew ?_ | refine blk_alloc ?_ _)); exact BK756.out⟩, ⟨by (with_reducible repeat (first | refine blk_drewN ?_ _ | refine blk_drew ?_ | refine blk_alloc ?_ _)); refine blk_put (cs := #[.bool t764, .slice Ao30 t765.length co30, .slice none 0 0]) ?_ 2 _ rfl; (with_reducible repeat (first | refine blk_drewN ?_ _ | refine blk_drew ?_ | refine blk_alloc ?_ _)); refine blk_put (cs := #[.bool t764, .slice none 0 0, .slice none 0 0]) ?_ 1 _ rfl; (with_reducible repeat (first | refine blk_drewN ?_ _ | refine blk_drew ?_ | refine blk_alloc ?_ _)); refine blk_put (cs := #[.bool false, .slice none 0 0, .slice none 0 0]) ?_ 0 _ rfl; (with_reducible repeat (first | refine blk_drewN ?_ _ | refine blk_drew ?_ | refine blk_alloc ?_ _)); refine blk_far ?_ NB772_740.out _; (with_reducible repeat (first | refine blk_drewN ?_ _ | refine blk_drew ?_ | refine blk_alloc ?_ _)); refine blk_far ?_ NB772_740.out _; (with_reducible repeat (first | refine blk_drewN ?_ _ | refine blk_drew ?_ | refine blk_alloc ?_ _)); refine blk_far ?_ NB772_740.out _; (with_reducible repeat (first | refine blk_drewN ?_ _ | refine blk_drew ?_ | refine blk_alloc ?_ _)); exact BK772.out⟩, ⟨eB⟩⟩
  ·replace c32 := Bool.eq_false_iff.mpr c32
   subst c32
   rw [if_neg (show ¬ (false = true) by decide)] at H
   (try dsimp only at H)
   have H' := Aside0.mk H
   clear H
   go_wp2
   go_meet
   case rel => exact ⟨_, (true), dF, H', ⟨dN⟩, ⟨by (with_reducible repeat (first | apply Kd.R_alloc | apply Kd.R_drewN | apply Kd.R_drew)); exact Kd.R_mono (Kd.R_far (p := ⟨gb772, 2, none⟩) (Kd.R_far (p := ⟨gb772, 1, none⟩) (Kd.R_far (p := ⟨gb772, 0, none⟩) (Kd.R_far (p := ⟨gb740, 2, none⟩) (Kd.R_far (p := ⟨gb740, 1, none⟩) (Kd.R_far (p := ⟨gb740, 0, none⟩) (Kd.R_types (Kd.R_types HO744.out BK740.out (by decide)) BK772.out (by decide)) (fun _ hk => hk.1.2) (.bool t757)) (fun _ hk => hk.1.2) (.slice Ao25 t758.length co25)) (fun _ hk => hk.1.2) (.slice Ao26 t761.length co26)) (fun _ hk => hk.2) (.bool t764)) (fun _ hk => hk.2) (.slice Ao30 t765.length co30)) (fun _ hk => hk.2) (.slice Ao31 t768.length co31)) (fun _ hk => ⟨hk.1.1.1.1.1.1.1, ⟨hk.1.1.1.1.1.2, ⟨hk.1.1.1.1.2, ⟨hk.1.1.1.1.1.1.2.1, ⟨hk.1.1.1.1.1.1.2.2, ⟨hk.1.1.1.2, hk.1.1.2⟩⟩⟩⟩⟩⟩)⟩, ⟨by (with_reducible repeat (first | apply Kd.R_alloc | apply Kd.R_drewN | apply Kd.R_drew)); exact Kd.R_mono (Kd.R_far (p := ⟨gb772, 2, none⟩) (Kd.R_far (p := ⟨gb772, 1, none⟩) (Kd.R_far (p := ⟨gb772, 0, none⟩) (Kd.R_far (p := ⟨gb740, 2, none⟩) (Kd.R_far (p := ⟨gb740, 1, none⟩) (Kd.R_far (p := ⟨gb740, 0, none⟩) (Kd.R_types (Kd.R_types HO747.out BK740.out (by decide)) BK772.out (by decide)) (fun _ hk => hk.1.2) (.bool t757)) (fun _ hk => hk.1.2) (.slice Ao25 t758.length co25)) (fun _ hk => hk.1.2) (.slice Ao26 t761.length co26)) (fun _ hk => hk.2) (.bool t764)) (fun _ hk => hk.2) (.slice Ao30 t765.length co30)) (fun _ hk => hk.2) (.slice Ao31 t768.length co31)) (fun _ hk => ⟨hk.1.1.1.1.1.1.1, ⟨hk.1.1.1.1.1.2, ⟨hk.1.1.1.1.2, ⟨hk.1.1.1.1.1.1.2.1, ⟨hk.1.1.1.1.1.1.2.2, ⟨hk.1.1.1.2, hk.1.1.2⟩⟩⟩⟩⟩⟩)⟩, ⟨by (with_reducible repeat (first | apply Kd.R_alloc | apply Kd.R_drewN | apply Kd.R_drew)); exact Kd.R_mono (Kd.R_far (p := ⟨gb772, 2, none⟩) (Kd.R_far (p := ⟨gb772, 1, none⟩) (Kd.R_far (p := ⟨gb772, 0, none⟩) (Kd.R_far (p := ⟨gb740, 2, none⟩) (Kd.R_far (p := ⟨gb740, 1, none⟩) (Kd.R_far (p := ⟨gb740, 0, none⟩) (Kd.R_types (Kd.R_types HO760.out BK740.out (by decide)) BK772.out (by decide)) (fun _ hk => hk.1.2) (.bool t757)) (fun _ hk => hk.1.2) (.slice Ao25 t758.length co25)) (fun _ hk => hk.1.2) (.slice Ao26 t761.length co26)) (fun _ hk => hk.2) (.bool t764)) (fun _ hk => hk.2) (.slice Ao30 t765.length co30)) (fun _ hk => hk.2) (.slice Ao31 t768.length co31)) (fun _ hk => ⟨hk.1.1.1.1.1.2, ⟨hk.1.1.1.1.2, ⟨hk.1.1.1.1.1.1.1, ⟨hk.1.1.1.2, ⟨hk.1.1.2, ⟨hk.1.1.1.1.1.1.2.1, hk.1.1.1.1.1.1.2.2⟩⟩⟩⟩⟩⟩)⟩, ⟨by (with_reducible repeat (first | apply Kd.R_alloc | apply Kd.R_drewN | apply Kd.R_drew)); exact Kd.R_mono (Kd.R_far (p := ⟨gb772, 2, none⟩) (Kd.R_far (p := ⟨gb772, 1, none⟩) (Kd.R_far (p := ⟨gb772, 0, none⟩) (Kd.R_far (p := ⟨gb740, 2, none⟩) (Kd.R_far (p := ⟨gb740, 1, none⟩) (Kd.R_far (p := ⟨gb740, 0, none⟩) (Kd.R_types (Kd.R_types HO763.out BK740.out (by decide)) BK772.out (by decide)) (fun _ hk => hk.1.2) (.bool t757)) (fun _ hk => hk.1.2) (.slice Ao25 t758.length co25)) (fun _ hk => hk.1.2) (.slice Ao26 t761.length co26)) (fun _ hk => hk.2) (.bool t764)) (fun _ hk => hk.2) (.slice Ao30 t765.length co30)) (fun _ hk => hk.2) (.slice Ao31 t768.length co31)) (fun _ hk => ⟨hk.1.1.1.1.1.2, ⟨hk.1.1.1.1.2, ⟨hk.1.1.1.1.1.1.1, ⟨hk.1.1.1.2, ⟨hk.1.1.2, ⟨hk.1.1.1.1.1.1.2.1, hk.1.1.1.1.1.1.2.2⟩⟩⟩⟩⟩⟩)⟩, ⟨by (with_reducible repeat (first | apply Kd.R_alloc | apply Kd.R_drewN | apply Kd.R_drew)); exact Kd.R_mono (Kd.R_far (p := ⟨gb772, 2, none⟩) (Kd.R_far (p := ⟨gb772, 1, none⟩) (Kd.R_far (p := ⟨gb772, 0, none⟩) (Kd.R_far (p := ⟨gb740, 2, none⟩) (Kd.R_far (p := ⟨gb740, 1, none⟩) (Kd.R_far (p := ⟨gb740, 0, none⟩) (Kd.R_types (Kd.R_types HO751.out BK740.out (by decide)) BK772.out (by decide)) (fun _ hk => hk.1.2) (.bool t757)) (fun _ hk => hk.1.2) (.slice Ao25 t758.length co25)) (fun _ hk => hk.1.2) (.slice Ao26 t761.length co26)) (fun _ hk => hk.2) (.bool t764)) (fun _ hk => hk.2) (.slice Ao30 t765.length co30)) (fun _ hk => hk.2) (.slice Ao31 t768.length co31)) (fun _ hk => ⟨hk.1.1.1.1.1.1.1, ⟨hk.1.1.1.1.1.1.2.1, ⟨hk.1.1.1.1.1.2, ⟨hk.1.1.1.1.2, ⟨hk.1.1.1.1.1.1.2.2, ⟨hk.1.1.1.2, hk.1.1.2⟩⟩⟩⟩⟩⟩)⟩, ⟨by (with_reducible repeat (first | apply Kd.R_alloc | apply Kd.R_drewN | apply Kd.R_drew)); exact Kd.R_mono (Kd.R_far (p := ⟨gb772, 2, none⟩) (Kd.R_far (p := ⟨gb772, 1, none⟩) (Kd.R_far (p := ⟨gb772, 0, none⟩) (Kd.R_far (p := ⟨gb740, 2, none⟩) (Kd.R_far (p := ⟨gb740, 1, none⟩) (Kd.R_far (p := ⟨gb740, 0, none⟩) (Kd.R_types (Kd.R_types HO754.out BK740.out (by decide)) BK772.out (by decide)) (fun _ hk => hk.1.2) (.bool t757)) (fun _ hk => hk.1.2) (.slice Ao25 t758.length co25)) (fun _ hk => hk.1.2) (.slice Ao26 t761.length co26)) (fun _ hk => hk.2) (.bool t764)) (fun _ hk => hk.2) (.slice Ao30 t765.length co30)) (fun _ hk => hk.2) (.slice Ao31 t768.length co31)) (fun _ hk => ⟨hk.1.1.1.1.1.1.1, ⟨hk.1.1.1.1.1.1.2.1, ⟨hk.1.1.1.1.1.2, ⟨hk.1.1.1.1.2, ⟨hk.1.1.1.1.1.1.2.2, ⟨hk.1.1.1.2, hk.1.1.2⟩⟩⟩⟩⟩⟩)⟩, ⟨by (with_reducible repeat (first | apply Kd.R_alloc | apply Kd.R_drewN | apply Kd.R_drew)); exact Kd.R_mono (Kd.R_far (p := ⟨gb772, 2, none⟩) (Kd.R_far (p := ⟨gb772, 1, none⟩) (Kd.R_far (p := ⟨gb772, 0, none⟩) (Kd.R_far (p := ⟨gb740, 2, none⟩) (Kd.R_far (p := ⟨gb740, 1, none⟩) (Kd.R_far (p := ⟨gb740, 0, none⟩) (Kd.R_types (Kd.R_types HO767.out BK740.out (by decide)) BK772.out (by decide)) (fun _ hk => hk.1.2) (.bool t757)) (fun _ hk => hk.1.2) (.slice Ao25 t758.length co25)) (fun _ hk => hk.1.2) (.slice Ao26 t761.length co26)) (fun _ hk => hk.2) (.bool t764)) (fun _ hk => hk.2) (.slice Ao30 t765.length co30)) (fun _ hk => hk.2) (.slice Ao31 t768.length co31)) (fun _ hk => ⟨hk.1.1.1.1.1.2, ⟨hk.1.1.1.1.2, ⟨hk.1.1.1.1.1.1.1, ⟨hk.1.1.1.1.1.1.2.1, ⟨hk.1.1.1.2, ⟨hk.1.1.2, hk.1.1.1.1.1.1.2.2⟩⟩⟩⟩⟩⟩)⟩, ⟨by (with_reducible repeat (first | apply Kd.R_alloc | apply Kd.R_drewN | apply Kd.R_drew)); exact Kd.R_mono (Kd.R_far (p := ⟨gb772, 2, none⟩) (Kd.R_far (p := ⟨gb772, 1, none⟩) (Kd.R_far (p := ⟨gb772, 0, none⟩) (Kd.R_far (p := ⟨gb740, 2, none⟩) (Kd.R_far (p := ⟨gb740, 1, none⟩) (Kd.R_far (p := ⟨gb740, 0, none⟩) (Kd.R_types (Kd.R_types HO770.out BK740.out (by decide)) BK772.out (by decide)) (fun _ hk => hk.1.2) (.bool t757)) (fun _ hk => hk.1.2) (.slice Ao25 t758.length co25)) (fun _ hk => hk.1.2) (.slice Ao26 t761.length co26)) (fun _ hk => hk.2) (.bool t764)) (fun _ hk => hk.2) (.slice Ao30 t765.length co30)) (fun _ hk => hk.2) (.slice Ao31 t768.length co31)) (fun _ hk => ⟨hk.1.1.1.1.1.2, ⟨hk.1.1.1.1.2, ⟨hk.1.1.1.1.1.1.1, ⟨hk.1.1.1.1.1.1.2.1, ⟨hk.1.1.1.2, ⟨hk.1.1.2, hk.1.1.1.1.1.1.2.2⟩⟩⟩⟩⟩⟩)⟩, ⟨by (with_reducible repeat (first | refine blk_drewN ?_ _ | refine blk_drew ?_ | refine blk_alloc ?_ _)); refine blk_far ?_ NB739_772.out _; (with_reducible repeat (first | refine blk_drewN ?_ _ | refine blk_drew ?_ | refine blk_alloc ?_ _)); refine blk_far ?_ NB739_772.out _; (with_reducible repeat (first | refine blk_drewN ?_ _ | refine blk_drew ?_ | refine blk_alloc ?_ _)); refine blk_far ?_ NB739_772.out _; (with_reducible repeat (first | refine blk_drewN ?_ _ | refine blk_drew ?_ | refine blk_alloc ?_ _)); refine blk_far ?_ NB739_740.out _; (with_reducible repeat (first | refine blk_drewN ?_ _ | refine blk_drew ?_ | refine blk_alloc ?_ _)); refine blk_far ?_ NB739_740.out _; (with_reducible repeat (first | refine blk_drewN ?_ _ | refine blk_drew ?_ | refine blk_alloc ?_ _)); refine blk_far ?_ NB739_740.out _; (with_reducible repeat (first | refine blk_drewN ?_ _ | refine blk_drew ?_ | refine blk_alloc ?_ _)); exact BK739.out⟩, ⟨by (with_reducible repeat (first | refine blk_drewN ?_ _ | refine blk_drew ?_ | refine blk_alloc ?_ _)); refine blk_far ?_ NB740_772.out _; (with_reducible repeat (first | refine blk_drewN ?_ _ | refine blk_drew ?_ | refine blk_alloc ?_ _)); refine blk_far ?_ NB740_772.out _; (with_reducible repeat (first | refine blk_drewN ?_ _ | refine blk_drew ?_ | refine blk_alloc ?_ _)); refine blk_far ?_ NB740_772.out _; (with_reducible repeat (first | refine blk_drewN ?_ _ | refine blk_drew ?_ | refine blk_alloc ?_ _)); refine blk_put (cs := #[.bool t757, .slice Ao25 t758.length co25, .slice A1_2 l1_2.length c1_2]) ?_ 2 _ rfl; (with_reducible repeat (first | refine blk_drewN ?_ _ | refine blk_drew ?_ | refine blk_alloc ?_ _)); refine blk_put (cs := #[.bool t757, .slice A1_1 l1_1.length c1_1, .slice A1_2 l1_2.length c1_2]) ?_ 1 _ rfl; (with_reducible repeat (first | refine blk_drewN ?_ _ | refine blk_drew ?_ | refine blk_alloc ?_ _)); refine blk_put (cs := #[.bool a1_0, .slice A1_1 l1_1.length c1_1, .slice A1_2 l1_2.length c1_2]) ?_ 0 _ rfl; (with_reducible repeat (first | refine blk_drewN ?_ _ | refine blk_drew ?_ | refine blk_alloc ?_ _)); exact BK740.out⟩, ⟨by (with_reducible repeat (first | refine blk_drewN ?_ _ | refine blk_drew ?_ | refine blk_alloc ?_ _)); refine blk_far ?_ NB756_772.out _; (with_reducible repeat (first | refine blk_drewN ?_ _ | refine blk_drew ?_ | refine blk_alloc ?_ _)); refine blk_far ?_ NB756_772.out _; (with_reducible repeat (first | refine blk_drewN ?_ _ | refine blk_drew ?_ | refine blk_alloc ?_ _)); refine blk_far ?_ NB756_772.out _; (with_reducible repeat (first | refine blk_drewN ?_ _ | refine blk_drew ?_ | refine blk_alloc ?_ _)); refine blk_far ?_ NB756_740.out _; (with_reducible repeat (first | refine blk_drewN ?_ _ | refine blk_drew ?_ | refine blk_alloc ?_ _)); refine blk_far ?_ NB756_740.out _; (with_reducible repeat (first | refine blk_drewN ?_ _ | refine blk_drew ?_ | refine blk_alloc ?_ _)); refine blk_far ?_ NB756_740.out _; (with_reducible repeat (first | refine blk_drewN ?_ _ | refine blk_drew ?_ | refine blk_alloc ?_ _)); exact BK756.out⟩, ⟨by (with_reducible repeat (first | refine blk_drewN ?_ _ | refine blk_drew ?_ | refine blk_alloc ?_ _)); refine blk_put (cs := #[.bool t764, .slice Ao30 t765.length co30, .slice none 0 0]) ?_ 2 _ rfl; (with_reducible repeat (first | refine blk_drewN ?_ _ | refine blk_drew ?_ | refine blk_alloc ?_ _)); refine blk_put (cs := #[.bool t764, .slice none 0 0, .slice none 0 0]) ?_ 1 _ rfl; (with_reducible repeat (first | refine blk_drewN ?_ _ | refine blk_drew ?_ | refine blk_alloc ?_ _)); refine blk_put (cs := #[.bool false, .slice none 0 0, .slice none 0 0]) ?_ 0 _ rfl; (with_reducible repeat (first | refine blk_drewN ?_ _ | refine blk_drew ?_ | refine blk_alloc ?_ _)); refine blk_far ?_ NB772_740.out _; (with_reducible repeat (first | refine blk_drewN ?_ _ | refine blk_drew ?_ | refine blk_alloc ?_ _)); refine blk_far ?_ NB772_740.out _; (with_reducible repeat (first | refine blk_drewN ?_ _ | refine blk_drew ?_ | refine blk_alloc ?_ _)); refine blk_far ?_ NB772_740.out _; (with_reducible repeat (first | refine blk_drewN ?_ _ | refine blk_drew ?_ | refine blk_alloc ?_ _)); exact BK772.out⟩, ⟨eB⟩⟩
 case rest =>
  clear HC5
  try clear hcz13_0
  try clear hcz13_1
  try clear hcz13_2
  try clear hcz17_0
  try clear hcz17_1
  try clear hcz17_2
  try clear hcz20_0
  try clear hcz20_1
  try clear hcz20_2
  try clear hcz24_0
  try clear hcz24_1
  try clear hcz24_2
  try clear hcz29_0
  try clear hcz29_1
  try clear hcz29_2
  try clear hcz9_0
  try clear hcz9_1
  try clear hcz9_2
  try clear hfz13_0
  try clear hfz13_1
  try clear hfz13_2
  try clear hfz17_0
  try clear hfz17_1
  try clear hfz17_2
  try clear hfz20_0
  try clear hfz20_1
  try clear hfz20_2
  try clear hfz24_0
  try clear hfz24_1
  try clear hfz24_2
  try clear hfz29_0
  try clear hfz29_1
  try clear hfz29_2
  try clear hfz9_0
  try clear hfz9_1
  try clear hfz9_2
  obtain ⟨kq, x38_4, rfl, HA, HJ4, HO_740001, HO_740002, HO_741001, HO_741002, HO_757001, HO_757002, HO_773001, HO_773002, BK739, BK740, BK756, BK772, HB⟩ := hcut
  cases kq with
  | zero => exact absurd HA.out (by simp [plumblaw07_NearMonotone.j0])
  | succ kj4 =>
   have H := HA.out
   clear HA
   simp only [plumblaw07_NearMonotone.j0] at H
   by_cases c36 : x38_4 = true
   ·subst c36
    rw [if_pos rfl] at H
    (try dsimp only at H)
    exact absurd H (by simp)
   ·replace c36 := Bool.eq_false_iff.mpr c36
    subst c36
    rw [if_neg (show ¬ (false = true) by decide)] at H
    (try dsimp only at H)
    replace H := obe H
    obtain ⟨t774, A370, H⟩ := H
    (try dsimp only at H)
    have A37 := Aside0.mk A370
    clear A370
    by_cases c38 : t774 > 1
    ·rw [if_pos c38] at H
     exact absurd H (by simp)
    ·rw [if_neg c38] at H
     have c38b0 : decide (1 < t774) = false := decide_eq_false c38
     clear c38
     have H' := Aside0.mk H
     clear H
     have hnb39 := NB756_739.out
     have hnc39 := NB739_756.out
     have hnb40 := NB756_740.out
     have hnc40 := NB740_756.out
     have hnb41 := NB756_772.out
     have hnc41 := NB772_756.out
     obtain ⟨hcz42_0, hcz42_1, hcz42_2⟩ := cz3 BK756.out
     obtain ⟨hfz42_0, hfz42_1, hfz42_2⟩ := fz3 BK756.out
     have hnb43 := NB772_739.out
     have hnc43 := NB739_772.out
     have hnb44 := NB772_740.out
     have hnc44 := NB740_772.out
     obtain ⟨hcz45_0, hcz45_1, hcz45_2⟩ := cz3 BK772.out
     obtain ⟨hfz45_0, hfz45_1, hfz45_2⟩ := fz3 BK772.out
     go_wp2_with (first | ((with_reducible refine gate_callee (f := 27) rfl ?_); refine gL (some 41) Tryd.func27 #[.agg #[.bool t748, .slice Ao18 t749.length co18, .slice Ao19 t752.length co19], .agg #[.bool t764, .slice Ao30 t765.length co30, .slice Ao31 t768.length co31]] ?_; (with_reducible refine (plumblaw07_cmp.calls kj4 t748 _ _ t749 _ _ t752 t764 _ _ t765 _ _ t768 t774 _ ?side1 (Kd.R_reads' HO_757001.out).2.1 ?side3 (Kd.R_reads' HO_757002.out).2.1 ?side5 (Kd.R_reads' HO_773001.out).2.1 ?side7 (Kd.R_reads' HO_773002.out).2.1 A37.out).mono ?_); (case side1 => exact dC (Kd.R_reads' HO_757001.out).2.2); (case side3 => exact dC (Kd.R_reads' HO_757002.out).2.2); (case side5 => exact dC (Kd.R_reads' HO_773001.out).2.2); (case side7 => exact dC (Kd.R_reads' HO_773002.out).2.2); rintro e w46 ⟨rfl, hb⟩; refine ⟨_, rfl, ?_⟩; replace HO_740001 := oB HO_740001.out hb; replace HO_740002 := oB HO_740002.out hb; replace HO_741001 := oB HO_741001.out hb; replace HO_741002 := oB HO_741002.out hb; replace HO_757001 := oB HO_757001.out hb; replace HO_757002 := oB HO_757002.out hb; replace HO_773001 := oB HO_773001.out hb; replace HO_773002 := oB HO_773002.out hb; replace BK739 := bB BK739.out hb; replace BK740 := bB BK740.out hb; replace BK756 := bB BK756.out hb; replace BK772 := bB BK772.out hb; replace HB := hS HB.out hb; (try clear hb)))
     go_loopg [10] kj4 (fun kq v10 w' => ∃ (x10_2 : Int), v10 = .int .i64 x10_2 ∧ Aside0 (plumblaw07_NearMonotone.l0 kq t774 x10_2 t748 t749 t752 t764 t765 t768 = some r) ∧ Aside0 (kq ≤ kj4) ∧ Aside0 (Kd.R (Kd.int .u64) 26 w' w.heap.size (fun k_ => some k_ ≠ ((.slice Ao15 t745.length co15) : Value).ownBlock ∧ some k_ ≠ ((.slice Ao25 t758.length co25) : Value).ownBlock ∧ some k_ ≠ ((.slice Ao26 t761.length co26) : Value).ownBlock ∧ some k_ ≠ ((.slice Ao18 t749.length co18) : Value).ownBlock ∧ some k_ ≠ ((.slice Ao19 t752.length co19) : Value).ownBlock ∧ some k_ ≠ ((.slice Ao30 t765.length co30) : Value).ownBlock ∧ some k_ ≠ ((.slice Ao31 t768.length co31) : Value).ownBlock) (.slice Ao14 t742.length co14) t742) ∧ Aside0 (Kd.R (Kd.int .u64) 26 w' w.heap.size (fun k_ => some k_ ≠ ((.slice Ao14 t742.length co14) : Value).ownBlock ∧ some k_ ≠ ((.slice Ao25 t758.length co25) : Value).ownBlock ∧ some k_ ≠ ((.slice Ao26 t761.length co26) : Value).ownBlock ∧ some k_ ≠ ((.slice Ao18 t749.length co18) : Value).ownBlock ∧ some k_ ≠ ((.slice Ao19 t752.length co19) : Value).ownBlock ∧ some k_ ≠ ((.slice Ao30 t765.length co30) : Value).ownBlock ∧ some k_ ≠ ((.slice Ao31 t768.length co31) : Value).ownBlock) (.slice Ao15 t745.length co15) t745) ∧ Aside0 (Kd.R (Kd.int .u64) 26 w' w.heap.size (fun k_ => some k_ ≠ ((.slice Ao14 t742.length co14) : Value).ownBlock ∧ some k_ ≠ ((.slice Ao15 t745.length co15) : Value).ownBlock ∧ some k_ ≠ ((.slice Ao26 t761.length co26) : Value).ownBlock ∧ some k_ ≠ ((.slice Ao18 t749.length co18) : Value).ownBlock ∧ some k_ ≠ ((.slice Ao19 t752.length co19) : Value).ownBlock ∧ some k_ ≠ ((.slice Ao30 t765.length co30) : Value).ownBlock ∧ some k_ ≠ ((.slice Ao31 t768.length co31) : Value).ownBlock) (.slice Ao25 t758.length co25) t758) ∧ Aside0 (Kd.R (Kd.int .u64) 26 w' w.heap.size (fun k_ => some k_ ≠ ((.slice Ao14 t742.length co14) : Value).ownBlock ∧ some k_ ≠ ((.slice Ao15 t745.length co15) : Value).ownBlock ∧ some k_ ≠ ((.slice Ao25 t758.length co25) : Value).ownBlock ∧ some k_ ≠ ((.slice Ao18 t749.length co18) : Value).ownBlock ∧ some k_ ≠ ((.slice Ao19 t752.length co19) : Value).ownBlock ∧ some k_ ≠ ((.slice Ao30 t765.length co30) : Value).ownBlock ∧ some k_ ≠ ((.slice Ao31 t768.length co31) : Value).ownBlock) (.slice Ao26 t761.length co26) t761) ∧ Aside0 (Kd.R (Kd.int .u64) 26 w' w.heap.size (fun k_ => some k_ ≠ ((.slice Ao14 t742.length co14) : Value).ownBlock ∧ some k_ ≠ ((.slice Ao15 t745.length co15) : Value).ownBlock ∧ some k_ ≠ ((.slice Ao25 t758.length co25) : Value).ownBlock ∧ some k_ ≠ ((.slice Ao26 t761.length co26) : Value).ownBlock ∧ some k_ ≠ ((.slice Ao19 t752.length co19) : Value).ownBlock ∧ some k_ ≠ ((.slice Ao30 t765.length co30) : Value).ownBlock ∧ some k_ ≠ ((.slice Ao31 t768.length co31) : Value).ownBlock) (.slice Ao18 t749.length co18) t749) ∧ Aside0 (Kd.R (Kd.int .u64) 26 w' w.heap.size (fun k_ => some k_ ≠ ((.slice Ao14 t742.length co14) : Value).ownBlock ∧ some k_ ≠ ((.slice Ao15 t745.length co15) : Value).ownBlock ∧ some k_ ≠ ((.slice Ao25 t758.length co25) : Value).ownBlock ∧ some k_ ≠ ((.slice Ao26 t761.length co26) : Value).ownBlock ∧ some k_ ≠ ((.slice Ao18 t749.length co18) : Value).ownBlock ∧ some k_ ≠ ((.slice Ao30 t765.length co30) : Value).ownBlock ∧ some k_ ≠ ((.slice Ao31 t768.length co31) : Value).ownBlock) (.slice Ao19 t752.length co19) t752) ∧ Aside0 (Kd.R (Kd.int .u64) 26 w' w.heap.size (fun k_ => some k_ ≠ ((.slice Ao14 t742.length co14) : Value).ownBlock ∧ some k_ ≠ ((.slice Ao15 t745.length co15) : Value).ownBlock ∧ some k_ ≠ ((.slice Ao25 t758.length co25) : Value).ownBlock ∧ some k_ ≠ ((.slice Ao26 t761.length co26) : Value).ownBlock ∧ some k_ ≠ ((.slice Ao18 t749.length co18) : Value).ownBlock ∧ some k_ ≠ ((.slice Ao19 t752.length co19) : Value).ownBlock ∧ some k_ ≠ ((.slice Ao31 t768.length co31) : Value).ownBlock) (.slice Ao30 t765.length co30) t765) ∧ Aside0 (Kd.R (Kd.int .u64) 26 w' w.heap.size (fun k_ => some k_ ≠ ((.slice Ao14 t742.length co14) : Value).ownBlock ∧ some k_ ≠ ((.slice Ao15 t745.length co15) : Value).ownBlock ∧ some k_ ≠ ((.slice Ao25 t758.length co25) : Value).ownBlock ∧ some k_ ≠ ((.slice Ao26 t761.length co26) : Value).ownBlock ∧ some k_ ≠ ((.slice Ao18 t749.length co18) : Value).ownBlock ∧ some k_ ≠ ((.slice Ao19 t752.length co19) : Value).ownBlock ∧ some k_ ≠ ((.slice Ao30 t765.length co30) : Value).ownBlock) (.slice Ao31 t768.length co31) t768) ∧ Aside0 (w'.heap[gb739]? = some (.cells #[.bool t741, (.slice Ao14 t742.length co14), (.slice Ao15 t745.length co15)] 36 (0, 0))) ∧ Aside0 (w'.heap[gb740]? = some (.cells #[.bool t757, (.slice Ao25 t758.length co25), (.slice Ao26 t761.length co26)] 36 (0, 0))) ∧ Aside0 (w'.heap[gb756]? = some (.cells #[.bool t748, (.slice Ao18 t749.length co18), (.slice Ao19 t752.length co19)] 46 (0, 0))) ∧ Aside0 (w'.heap[gb772]? = some (.cells #[.bool t764, (.slice Ao30 t765.length co30), (.slice Ao31 t768.length co31)] 46 (0, 0))) ∧ Aside0 (Below w.heap.size w w'))
     case atStart => exact ⟨(0), dF, H', ⟨Nat.le_refl _⟩, ⟨dR HO_740001.out⟩, ⟨dR HO_740002.out⟩, ⟨dR HO_741001.out⟩, ⟨dR HO_741002.out⟩, ⟨dR HO_757001.out⟩, ⟨dR HO_757002.out⟩, ⟨dR HO_773001.out⟩, ⟨dR HO_773002.out⟩, ⟨dK BK739.out⟩, ⟨dK BK740.out⟩, ⟨dK BK756.out⟩, ⟨dK BK772.out⟩, ⟨eB⟩⟩
     case round =>
      clear H'
      try clear c36
      try clear c38
      try clear c38b0
      try clear hcz13_0
      try clear hcz13_1
      try clear hcz13_2
      try clear hcz17_0
      try clear hcz17_1
      try clear hcz17_2
      try clear hcz20_0
      try clear hcz20_1
      try clear hcz20_2
      try clear hcz24_0
      try clear hcz24_1
      try clear hcz24_2
      try clear hcz29_0
      try clear hcz29_1
      try clear hcz29_2
      try clear hcz42_0
      try clear hcz42_1
      try clear hcz42_2
      try clear hcz45_0
      try clear hcz45_1
      try clear hcz45_2
      try clear hcz9_0
      try clear hcz9_1
      try clear hcz9_2
      try clear hfz13_0
      try clear hfz13_1
      try clear hfz13_2
      try clear hfz17_0
      try clear hfz17_1
      try clear hfz17_2
      try clear hfz20_0
      try clear hfz20_1
      try clear hfz20_2
      try clear hfz24_0
      try clear hfz24_1
      try clear hfz24_2
      try clear hfz29_0
      try clear hfz29_1
      try clear hfz29_2
      try clear hfz42_0
      try clear hfz42_1
      try clear hfz42_2
      try clear hfz45_0
      try clear hfz45_1
      try clear hfz45_2
      try clear hfz9_0
      try clear hfz9_1
      try clear hfz9_2
      obtain ⟨x10_2, rfl, HA, HK2, HO_740001, HO_740002, HO_741001, HO_741002, HO_757001, HO_757002, HO_773001, HO_773002, BK739, BK740, BK756, BK772, HB⟩ := hrel
      cases gk with
      | zero => exact absurd HA.out (by simp [plumblaw07_NearMonotone.l0])
      | succ k2 =>
       have H := HA.out
       clear HA
       simp only [plumblaw07_NearMonotone.l0] at H
       by_cases c47 : x10_2 ≤ 4
       ·rw [if_pos c47] at H
        have c47b0 : decide (x10_2 ≤ 4) = true := decide_eq_true c47
        clear c47
        replace H := obe H
        obtain ⟨⟨t775, t776⟩, A480, H⟩ := H
        (try dsimp only at H)
        have A48 := Aside0.mk A480
        clear A480
        replace H := obe H
        obtain ⟨⟨t777, t778⟩, A490, H⟩ := H
        (try dsimp only at H)
        have A49 := Aside0.mk A490
        clear A490
        have HC50 := Aside0.mk H
        clear H
        have hnb51 := NB756_739.out
        have hnc51 := NB739_756.out
        have hnb52 := NB756_740.out
        have hnc52 := NB740_756.out
        have hnb53 := NB756_772.out
        have hnc53 := NB772_756.out
        obtain ⟨hcz54_0, hcz54_1, hcz54_2⟩ := cz3 BK756.out
        obtain ⟨hfz54_0, hfz54_1, hfz54_2⟩ := fz3 BK756.out
        go_upto_region 13 with (first | ((with_reducible refine gate_callee (f := 28) rfl ?_); refine gL (some 51) Tryd.func28 #[.agg #[.bool t748, .slice Ao18 t749.length co18, .slice Ao19 t752.length co19], .int .i64 x10_2] ?_; (with_reducible refine (near_Rat.calls k2 t748 _ _ t749 _ _ t752 x10_2 t775 t776 _ ?side1 (Kd.R_reads' HO_757001.out).2.1 ?side3 (Kd.R_reads' HO_757002.out).2.1 A48.out).mono ?_); (case side1 => exact dC (Kd.R_reads' HO_757001.out).2.2); (case side3 => exact dC (Kd.R_reads' HO_757002.out).2.2); rintro e w55 ⟨rfl, hb⟩; refine ⟨_, rfl, ?_⟩; replace HO_740001 := oB HO_740001.out hb; replace HO_740002 := oB HO_740002.out hb; replace HO_741001 := oB HO_741001.out hb; replace HO_741002 := oB HO_741002.out hb; replace HO_757001 := oB HO_757001.out hb; replace HO_757002 := oB HO_757002.out hb; replace HO_773001 := oB HO_773001.out hb; replace HO_773002 := oB HO_773002.out hb; replace BK739 := bB BK739.out hb; replace BK740 := bB BK740.out hb; replace BK756 := bB BK756.out hb; replace BK772 := bB BK772.out hb; replace HB := hS HB.out hb; (try clear hb); have hnb56 := NB772_739.out; have hnc56 := NB739_772.out; have hnb57 := NB772_740.out; have hnc57 := NB740_772.out; obtain ⟨hcz58_0, hcz58_1, hcz58_2⟩ := cz3 BK772.out; obtain ⟨hfz58_0, hfz58_1, hfz58_2⟩ := fz3 BK772.out) | ((with_reducible refine gate_callee (f := 28) rfl ?_); refine gL (some 57) Tryd.func28 #[.agg #[.bool t764, .slice Ao30 t765.length co30, .slice Ao31 t768.length co31], .int .i64 x10_2] ?_; (with_reducible refine (near_Rat.calls k2 t764 _ _ t765 _ _ t768 x10_2 t777 t778 _ ?side1 (Kd.R_reads' HO_773001.out).2.1 ?side3 (Kd.R_reads' HO_773002.out).2.1 A49.out).mono ?_); (case side1 => exact dC (Kd.R_reads' HO_773001.out).2.2); (case side3 => exact dC (Kd.R_reads' HO_773002.out).2.2); rintro e w59 ⟨rfl, hb⟩; refine ⟨_, rfl, ?_⟩; replace HO_740001 := oB HO_740001.out hb; replace HO_740002 := oB HO_740002.out hb; replace HO_741001 := oB HO_741001.out hb; replace HO_741002 := oB HO_741002.out hb; replace HO_757001 := oB HO_757001.out hb; replace HO_757002 := oB HO_757002.out hb; replace HO_773001 := oB HO_773001.out hb; replace HO_773002 := oB HO_773002.out hb; replace BK739 := bB BK739.out hb; replace BK740 := bB BK740.out hb; replace BK756 := bB BK756.out hb; replace BK772 := bB BK772.out hb; replace HB := hS HB.out hb; (try clear hb)))
        (try simp only [Act.put, List.setIfInBounds_toArray, List.set_cons_zero, List.set_cons_succ])
        go_cut [67] (fun v67 wc => ∃ (kq : Nat) (x67_49 : Bool), v67 = .bool x67_49 ∧ Aside0 (plumblaw07_NearMonotone.j2 kq t774 x10_2 t775 t776 t777 t778 x67_49 t748 t749 t752 t764 t765 t768 = some r) ∧ Aside0 (kq ≤ k2) ∧ Aside0 (Kd.R (Kd.int .u64) 26 wc w.heap.size (fun k_ => some k_ ≠ ((.slice Ao15 t745.length co15) : Value).ownBlock ∧ some k_ ≠ ((.slice Ao25 t758.length co25) : Value).ownBlock ∧ some k_ ≠ ((.slice Ao26 t761.length co26) : Value).ownBlock ∧ some k_ ≠ ((.slice Ao18 t749.length co18) : Value).ownBlock ∧ some k_ ≠ ((.slice Ao19 t752.length co19) : Value).ownBlock ∧ some k_ ≠ ((.slice Ao30 t765.length co30) : Value).ownBlock ∧ some k_ ≠ ((.slice Ao31 t768.length co31) : Value).ownBlock) (.slice Ao14 t742.length co14) t742) ∧ Aside0 (Kd.R (Kd.int .u64) 26 wc w.heap.size (fun k_ => some k_ ≠ ((.slice Ao14 t742.length co14) : Value).ownBlock ∧ some k_ ≠ ((.slice Ao25 t758.length co25) : Value).ownBlock ∧ some k_ ≠ ((.slice Ao26 t761.length co26) : Value).ownBlock ∧ some k_ ≠ ((.slice Ao18 t749.length co18) : Value).ownBlock ∧ some k_ ≠ ((.slice Ao19 t752.length co19) : Value).ownBlock ∧ some k_ ≠ ((.slice Ao30 t765.length co30) : Value).ownBlock ∧ some k_ ≠ ((.slice Ao31 t768.length co31) : Value).ownBlock) (.slice Ao15 t745.length co15) t745) ∧ Aside0 (Kd.R (Kd.int .u64) 26 wc w.heap.size (fun k_ => some k_ ≠ ((.slice Ao14 t742.length co14) : Value).ownBlock ∧ some k_ ≠ ((.slice Ao15 t745.length co15) : Value).ownBlock ∧ some k_ ≠ ((.slice Ao26 t761.length co26) : Value).ownBlock ∧ some k_ ≠ ((.slice Ao18 t749.length co18) : Value).ownBlock ∧ some k_ ≠ ((.slice Ao19 t752.length co19) : Value).ownBlock ∧ some k_ ≠ ((.slice Ao30 t765.length co30) : Value).ownBlock ∧ some k_ ≠ ((.slice Ao31 t768.length co31) : Value).ownBlock) (.slice Ao25 t758.length co25) t758) ∧ Aside0 (Kd.R (Kd.int .u64) 26 wc w.heap.size (fun k_ => some k_ ≠ ((.slice Ao14 t742.length co14) : Value).ownBlock ∧ some k_ ≠ ((.slice Ao15 t745.length co15) : Value).ownBlock ∧ some k_ ≠ ((.slice Ao25 t758.length co25) : Value).ownBlock ∧ some k_ ≠ ((.slice Ao18 t749.length co18) : Value).ownBlock ∧ some k_ ≠ ((.slice Ao19 t752.length co19) : Value).ownBlock ∧ some k_ ≠ ((.slice Ao30 t765.length co30) : Value).ownBlock ∧ some k_ ≠ ((.slice Ao31 t768.length co31) : Value).ownBlock) (.slice Ao26 t761.length co26) t761) ∧ Aside0 (Kd.R (Kd.int .u64) 26 wc w.heap.size (fun k_ => some k_ ≠ ((.slice Ao14 t742.length co14) : Value).ownBlock ∧ some k_ ≠ ((.slice Ao15 t745.length co15) : Value).ownBlock ∧ some k_ ≠ ((.slice Ao25 t758.length co25) : Value).ownBlock ∧ some k_ ≠ ((.slice Ao26 t761.length co26) : Value).ownBlock ∧ some k_ ≠ ((.slice Ao19 t752.length co19) : Value).ownBlock ∧ some k_ ≠ ((.slice Ao30 t765.length co30) : Value).ownBlock ∧ some k_ ≠ ((.slice Ao31 t768.length co31) : Value).ownBlock) (.slice Ao18 t749.length co18) t749) ∧ Aside0 (Kd.R (Kd.int .u64) 26 wc w.heap.size (fun k_ => some k_ ≠ ((.slice Ao14 t742.length co14) : Value).ownBlock ∧ some k_ ≠ ((.slice Ao15 t745.length co15) : Value).ownBlock ∧ some k_ ≠ ((.slice Ao25 t758.length co25) : Value).ownBlock ∧ some k_ ≠ ((.slice Ao26 t761.length co26) : Value).ownBlock ∧ some k_ ≠ ((.slice Ao18 t749.length co18) : Value).ownBlock ∧ some k_ ≠ ((.slice Ao30 t765.length co30) : Value).ownBlock ∧ some k_ ≠ ((.slice Ao31 t768.length co31) : Value).ownBlock) (.slice Ao19 t752.length co19) t752) ∧ Aside0 (Kd.R (Kd.int .u64) 26 wc w.heap.size (fun k_ => some k_ ≠ ((.slice Ao14 t742.length co14) : Value).ownBlock ∧ some k_ ≠ ((.slice Ao15 t745.length co15) : Value).ownBlock ∧ some k_ ≠ ((.slice Ao25 t758.length co25) : Value).ownBlock ∧ some k_ ≠ ((.slice Ao26 t761.length co26) : Value).ownBlock ∧ some k_ ≠ ((.slice Ao18 t749.length co18) : Value).ownBlock ∧ some k_ ≠ ((.slice Ao19 t752.length co19) : Value).ownBlock ∧ some k_ ≠ ((.slice Ao31 t768.length co31) : Value).ownBlock) (.slice Ao30 t765.length co30) t765) ∧ Aside0 (Kd.R (Kd.int .u64) 26 wc w.heap.size (fun k_ => some k_ ≠ ((.slice Ao14 t742.length co14) : Value).ownBlock ∧ some k_ ≠ ((.slice Ao15 t745.length co15) : Value).ownBlock ∧ some k_ ≠ ((.slice Ao25 t758.length co25) : Value).ownBlock ∧ some k_ ≠ ((.slice Ao26 t761.length co26) : Value).ownBlock ∧ some k_ ≠ ((.slice Ao18 t749.length co18) : Value).ownBlock ∧ some k_ ≠ ((.slice Ao19 t752.length co19) : Value).ownBlock ∧ some k_ ≠ ((.slice Ao30 t765.length co30) : Value).ownBlock) (.slice Ao31 t768.length co31) t768) ∧ Aside0 (wc.heap[gb739]? = some (.cells #[.bool t741, (.slice Ao14 t742.length co14), (.slice Ao15 t745.length co15)] 36 (0, 0))) ∧ Aside0 (wc.heap[gb740]? = some (.cells #[.bool t757, (.slice Ao25 t758.length co25), (.slice Ao26 t761.length co26)] 36 (0, 0))) ∧ Aside0 (wc.heap[gb756]? = some (.cells #[.bool t748, (.slice Ao18 t749.length co18), (.slice Ao19 t752.length co19)] 46 (0, 0))) ∧ Aside0 (wc.heap[gb772]? = some (.cells #[.bool t764, (.slice Ao30 t765.length co30), (.slice Ao31 t768.length co31)] 46 (0, 0))) ∧ Aside0 (Below w.heap.size w wc))
        case first =>
         have H := HC50.out
         clear HC50
         replace H := obe H
         obtain ⟨t779, A600, H⟩ := H
         (try dsimp only at H)
         have A60 := Aside0.mk A600
         clear A600
         by_cases c61 : t779 = 0
         ·rw [if_pos c61] at H
          have c61b0 : (t779 == 0) = true := beq_iff_eq.mpr c61
          have c61b1 : (t779 != 0) = false := bne_eq_false_iff_eq.mpr c61
          clear c61
          (first | rw [c61b0] | (simp only [i64_w, i32_w]; rw [c61b0]) | skip)
          replace H := obe H
          obtain ⟨t780, A620, H⟩ := H
          (try dsimp only at H)
          have A62 := Aside0.mk A620
          clear A620
          have H' := Aside0.mk H
          clear H
          go_wp2_with (first | ((with_reducible refine gate_callee (f := 15) rfl ?_); refine gL (some 61) Tryd.func15 #[.int .i64 t776] ?_; (with_reducible refine (plumblaw07_num.calls t776 t779 _ A60.out).mono ?_); rintro e w' ⟨rfl, ⟨nd, rfl⟩⟩; refine ⟨_, rfl, ?_⟩) | (go_at_call 15; (with_reducible refine (plumblaw07_num.calls t778 t780 _ A62.out).mono ?_); rintro e w' ⟨rfl, ⟨nd, rfl⟩⟩))
          go_meet
          case rel => exact ⟨_, ((t780 != 0)), dF, H', ⟨by have := HJ4.out; have := HK2.out; first | omega | exact Nat.le_refl _⟩, ⟨dR HO_740001.out⟩, ⟨dR HO_740002.out⟩, ⟨dR HO_741001.out⟩, ⟨dR HO_741002.out⟩, ⟨dR HO_757001.out⟩, ⟨dR HO_757002.out⟩, ⟨dR HO_773001.out⟩, ⟨dR HO_773002.out⟩, ⟨dK BK739.out⟩, ⟨dK BK740.out⟩, ⟨dK BK756.out⟩, ⟨dK BK772.out⟩, ⟨eB⟩⟩
         ·rw [if_neg c61] at H
          have c61b0 : (t779 == 0) = false := beq_eq_false_iff_ne.mpr c61
          have c61b1 : (t779 != 0) = true := bne_iff_ne.mpr c61
          (first | rw [c61b0] | (simp only [i64_w, i32_w]; rw [c61b0]) | skip)
          have H' := Aside0.mk H
          clear H
          go_wp2_with (first | ((with_reducible refine gate_callee (f := 15) rfl ?_); refine gL (some 61) Tryd.func15 #[.int .i64 t776] ?_; (with_reducible refine (plumblaw07_num.calls t776 t779 _ A60.out).mono ?_); rintro e w' ⟨rfl, ⟨nd, rfl⟩⟩; refine ⟨_, rfl, ?_⟩))
          go_meet
          case rel => exact ⟨_, (true), dF, H', ⟨by have := HJ4.out; have := HK2.out; first | omega | exact Nat.le_refl _⟩, ⟨dR HO_740001.out⟩, ⟨dR HO_740002.out⟩, ⟨dR HO_741001.out⟩, ⟨dR HO_741002.out⟩, ⟨dR HO_757001.out⟩, ⟨dR HO_757002.out⟩, ⟨dR HO_773001.out⟩, ⟨dR HO_773002.out⟩, ⟨dK BK739.out⟩, ⟨dK BK740.out⟩, ⟨dK BK756.out⟩, ⟨dK BK772.out⟩, ⟨eB⟩⟩
        case rest =>
         clear HC50
         try clear c36
         try clear c38
         try clear c38b0
         try clear c47
         try clear c47b0
         try clear hcz13_0
         try clear hcz13_1
         try clear hcz13_2
         try clear hcz17_0
         try clear hcz17_1
         try clear hcz17_2
         try clear hcz20_0
         try clear hcz20_1
         try clear hcz20_2
         try clear hcz24_0
         try clear hcz24_1
         try clear hcz24_2
         try clear hcz29_0
         try clear hcz29_1
         try clear hcz29_2
         try clear hcz42_0
         try clear hcz42_1
         try clear hcz42_2
         try clear hcz45_0
         try clear hcz45_1
         try clear hcz45_2
         try clear hcz54_0
         try clear hcz54_1
         try clear hcz54_2
         try clear hcz58_0
         try clear hcz58_1
         try clear hcz58_2
         try clear hcz9_0
         try clear hcz9_1
         try clear hcz9_2
         try clear hfz13_0
         try clear hfz13_1
         try clear hfz13_2
         try clear hfz17_0
         try clear hfz17_1
         try clear hfz17_2
         try clear hfz20_0
         try clear hfz20_1
         try clear hfz20_2
         try clear hfz24_0
         try clear hfz24_1
         try clear hfz24_2
         try clear hfz29_0
         try clear hfz29_1
         try clear hfz29_2
         try clear hfz42_0
         try clear hfz42_1
         try clear hfz42_2
         try clear hfz45_0
         try clear hfz45_1
         try clear hfz45_2
         try clear hfz54_0
         try clear hfz54_1
         try clear hfz54_2
         try clear hfz58_0
         try clear hfz58_1
         try clear hfz58_2
         try clear hfz9_0
         try clear hfz9_1
         try clear hfz9_2
         obtain ⟨kq, x67_49, rfl, HA, HJ49, HO_740001, HO_740002, HO_741001, HO_741002, HO_757001, HO_757002, HO_773001, HO_773002, BK739, BK740, BK756, BK772, HB⟩ := hcut
         cases kq with
         | zero => exact absurd HA.out (by simp [plumblaw07_NearMonotone.j2])
         | succ kj49 =>
          have H := HA.out
          clear HA
          simp only [plumblaw07_NearMonotone.j2] at H
          by_cases c63 : x67_49 = true
          ·subst c63
           rw [if_pos rfl] at H
           (try dsimp only at H)
           replace H := obe H
           obtain ⟨t781, A640, H⟩ := H
           (try dsimp only at H)
           have A64 := Aside0.mk A640
           clear A640
           by_cases c65 : t781 = 0
           ·rw [if_pos c65] at H
            have c65b0 : (t781 == 0) = true := beq_iff_eq.mpr c65
            have c65b1 : (t781 != 0) = false := bne_eq_false_iff_eq.mpr c65
            clear c65
            replace H := obe H
            obtain ⟨t782, A660, H⟩ := H
            (try dsimp only at H)
            have A66 := Aside0.mk A660
            clear A660
            by_cases c67 : t782 = 0
            ·rw [if_pos c67] at H
             have c67b0 : (t782 == 0) = true := beq_iff_eq.mpr c67
             have c67b1 : (t782 != 0) = false := bne_eq_false_iff_eq.mpr c67
             clear c67
             have H' := Aside0.mk H
             clear H
             go_wp2_with (first | ((with_reducible refine gate_callee (f := 15) rfl ?_); refine gL (some 69) Tryd.func15 #[.int .i64 t776] ?_; (with_reducible refine (plumblaw07_num.calls t776 t781 _ A64.out).mono ?_); rintro e w' ⟨rfl, ⟨nd, rfl⟩⟩; refine ⟨_, rfl, ?_⟩) | (go_at_call 15; (with_reducible refine (plumblaw07_num.calls t778 t782 _ A66.out).mono ?_); rintro e w' ⟨rfl, ⟨nd, rfl⟩⟩))
             go_roundg kj49
             case measure => have := HJ4.out; have := HK2.out; have := HJ49.out; omega
             case rel => exact ⟨(wrap64 (x10_2 + 1)), dF, H', ⟨by have := HJ4.out; have := HK2.out; have := HJ49.out; omega⟩, ⟨dR HO_740001.out⟩, ⟨dR HO_740002.out⟩, ⟨dR HO_741001.out⟩, ⟨dR HO_741002.out⟩, ⟨dR HO_757001.out⟩, ⟨dR HO_757002.out⟩, ⟨dR HO_773001.out⟩, ⟨dR HO_773002.out⟩, ⟨dK BK739.out⟩, ⟨dK BK740.out⟩, ⟨dK BK756.out⟩, ⟨dK BK772.out⟩, ⟨eB⟩⟩
            ·rw [if_neg c67] at H
             have c67b0 : (t782 == 0) = false := beq_eq_false_iff_ne.mpr c67
             have c67b1 : (t782 != 0) = true := bne_iff_ne.mpr c67
             replace H := obe H
             obtain ⟨t783, A680, H⟩ := H
             (try dsimp only at H)
             have A68 := Aside0.mk A680
             have tw_t783 : t783 = t782 := Option.some.inj (A68.out.symm.trans A66.out)
             clear A680
             by_cases c69 : t783 = 70
             ·rw [if_pos c69] at H
              have c69b0 : (t783 == 70) = true := beq_iff_eq.mpr c69
              have c69b0d : (t782 == 70) = true := by rw [← tw_t783]; exact c69b0
              have c69b1 : (t783 != 70) = false := bne_eq_false_iff_eq.mpr c69
              have c69b1d : (t782 != 70) = false := by rw [← tw_t783]; exact c69b1
              clear c69
              have H' := Aside0.mk H
              clear H
              go_wp2_with (first | ((with_reducible refine gate_callee (f := 15) rfl ?_); refine gL (some 69) Tryd.func15 #[.int .i64 t776] ?_; (with_reducible refine (plumblaw07_num.calls t776 t781 _ A64.out).mono ?_); rintro e w' ⟨rfl, ⟨nd, rfl⟩⟩; refine ⟨_, rfl, ?_⟩) | (go_at_call 15; (with_reducible refine (plumblaw07_num.calls t778 t782 _ A66.out).mono ?_); rintro e w' ⟨rfl, ⟨nd, rfl⟩⟩) | (go_at_call 15; (with_reducible refine (plumblaw07_num.calls t778 t783 _ A68.out).mono ?_); rintro e w' ⟨rfl, ⟨nd, rfl⟩⟩))
              go_roundg kj49
              case measure => have := HJ4.out; have := HK2.out; have := HJ49.out; omega
              case rel => exact ⟨(wrap64 (x10_2 + 1)), dF, H', ⟨by have := HJ4.out; have := HK2.out; have := HJ49.out; omega⟩, ⟨dR HO_740001.out⟩, ⟨dR HO_740002.out⟩, ⟨dR HO_741001.out⟩, ⟨dR HO_741002.out⟩, ⟨dR HO_757001.out⟩, ⟨dR HO_757002.out⟩, ⟨dR HO_773001.out⟩, ⟨dR HO_773002.out⟩, ⟨dK BK739.out⟩, ⟨dK BK740.out⟩, ⟨dK BK756.out⟩, ⟨dK BK772.out⟩, ⟨eB⟩⟩
             ·rw [if_neg c69] at H
              exact absurd H (by simp)
           ·rw [if_neg c65] at H
            have c65b0 : (t781 == 0) = false := beq_eq_false_iff_ne.mpr c65
            have c65b1 : (t781 != 0) = true := bne_iff_ne.mpr c65
            replace H := obe H
            obtain ⟨t784, A700, H⟩ := H
            (try dsimp only at H)
            have A70 := Aside0.mk A700
            clear A700
            by_cases c71 : t784 = 70
            ·rw [if_pos c71] at H
             have c71b0 : (t784 == 70) = true := beq_iff_eq.mpr c71
             have c71b1 : (t784 != 70) = false := bne_eq_false_iff_eq.mpr c71
             clear c71
             replace H := obe H
             obtain ⟨t785, A720, H⟩ := H
             (try dsimp only at H)
             have A72 := Aside0.mk A720
             clear A720
             by_cases c73 : t785 = 0
             ·rw [if_pos c73] at H
              have c73b0 : (t785 == 0) = true := beq_iff_eq.mpr c73
              have c73b1 : (t785 != 0) = false := bne_eq_false_iff_eq.mpr c73
              clear c73
              have H' := Aside0.mk H
              clear H
              go_wp2_with (first | ((with_reducible refine gate_callee (f := 15) rfl ?_); refine gL (some 69) Tryd.func15 #[.int .i64 t776] ?_; (with_reducible refine (plumblaw07_num.calls t776 t781 _ A64.out).mono ?_); rintro e w' ⟨rfl, ⟨nd, rfl⟩⟩; refine ⟨_, rfl, ?_⟩) | (go_at_call 15; (with_reducible refine (plumblaw07_num.calls t776 t784 _ A70.out).mono ?_); rintro e w' ⟨rfl, ⟨nd, rfl⟩⟩) | (go_at_call 15; (with_reducible refine (plumblaw07_num.calls t778 t785 _ A72.out).mono ?_); rintro e w' ⟨rfl, ⟨nd, rfl⟩⟩))
              go_roundg kj49
              case measure => have := HJ4.out; have := HK2.out; have := HJ49.out; omega
              case rel => exact ⟨(wrap64 (x10_2 + 1)), dF, H', ⟨by have := HJ4.out; have := HK2.out; have := HJ49.out; omega⟩, ⟨dR HO_740001.out⟩, ⟨dR HO_740002.out⟩, ⟨dR HO_741001.out⟩, ⟨dR HO_741002.out⟩, ⟨dR HO_757001.out⟩, ⟨dR HO_757002.out⟩, ⟨dR HO_773001.out⟩, ⟨dR HO_773002.out⟩, ⟨dK BK739.out⟩, ⟨dK BK740.out⟩, ⟨dK BK756.out⟩, ⟨dK BK772.out⟩, ⟨eB⟩⟩
             ·rw [if_neg c73] at H
              have c73b0 : (t785 == 0) = false := beq_eq_false_iff_ne.mpr c73
              have c73b1 : (t785 != 0) = true := bne_iff_ne.mpr c73
              replace H := obe H
              obtain ⟨t786, A740, H⟩ := H
              (try dsimp only at H)
              have A74 := Aside0.mk A740
              have tw_t786 : t786 = t785 := Option.some.inj (A74.out.symm.trans A72.out)
              clear A740
              by_cases c75 : t786 = 70
              ·rw [if_pos c75] at H
               have c75b0 : (t786 == 70) = true := beq_iff_eq.mpr c75
               have c75b0d : (t785 == 70) = true := by rw [← tw_t786]; exact c75b0
               have c75b1 : (t786 != 70) = false := bne_eq_false_iff_eq.mpr c75
               have c75b1d : (t785 != 70) = false := by rw [← tw_t786]; exact c75b1
               clear c75
               have H' := Aside0.mk H
               clear H
               go_wp2_with (first | ((with_reducible refine gate_callee (f := 15) rfl ?_); refine gL (some 69) Tryd.func15 #[.int .i64 t776] ?_; (with_reducible refine (plumblaw07_num.calls t776 t781 _ A64.out).mono ?_); rintro e w' ⟨rfl, ⟨nd, rfl⟩⟩; refine ⟨_, rfl, ?_⟩) | (go_at_call 15; (with_reducible refine (plumblaw07_num.calls t776 t784 _ A70.out).mono ?_); rintro e w' ⟨rfl, ⟨nd, rfl⟩⟩) | (go_at_call 15; (with_reducible refine (plumblaw07_num.calls t778 t785 _ A72.out).mono ?_); rintro e w' ⟨rfl, ⟨nd, rfl⟩⟩) | (go_at_call 15; (with_reducible refine (plumblaw07_num.calls t778 t786 _ A74.out).mono ?_); rintro e w' ⟨rfl, ⟨nd, rfl⟩⟩))
               go_roundg kj49
               case measure => have := HJ4.out; have := HK2.out; have := HJ49.out; omega
               case rel => exact ⟨(wrap64 (x10_2 + 1)), dF, H', ⟨by have := HJ4.out; have := HK2.out; have := HJ49.out; omega⟩, ⟨dR HO_740001.out⟩, ⟨dR HO_740002.out⟩, ⟨dR HO_741001.out⟩, ⟨dR HO_741002.out⟩, ⟨dR HO_757001.out⟩, ⟨dR HO_757002.out⟩, ⟨dR HO_773001.out⟩, ⟨dR HO_773002.out⟩, ⟨dK BK739.out⟩, ⟨dK BK740.out⟩, ⟨dK BK756.out⟩, ⟨dK BK772.out⟩, ⟨eB⟩⟩
              ·rw [if_neg c75] at H
               exact absurd H (by simp)
            ·rw [if_neg c71] at H
             exact absurd H (by simp)
          ·replace c63 := Bool.eq_false_iff.mpr c63
           subst c63
           rw [if_neg (show ¬ (false = true) by decide)] at H
           (try dsimp only at H)
           replace H := obe H
           obtain ⟨⟨t787, t788⟩, A760, H⟩ := H
           (try dsimp only at H)
           have A76 := Aside0.mk A760
           clear A760
           replace H := obe H
           obtain ⟨t789, A770, H⟩ := H
           (try dsimp only at H)
           have A77 := Aside0.mk A770
           clear A770
           by_cases c78 : t789 = 0
           ·rw [if_pos c78] at H
            have c78b0 : (t789 == 0) = true := beq_iff_eq.mpr c78
            have c78b1 : (t789 != 0) = false := bne_eq_false_iff_eq.mpr c78
            clear c78
            by_cases c79 : t774 < 0
            ·rw [if_pos c79] at H
             have c79b0 : decide (t774 < 0) = true := decide_eq_true c79
             clear c79
             by_cases c80 : t787 > 0
             ·rw [if_pos c80] at H
              exact absurd H (by simp)
             ·rw [if_neg c80] at H
              have c80b0 : decide (0 < t787) = false := decide_eq_false c80
              clear c80
              by_cases c81 : t774 > 0
              ·rw [if_pos c81] at H
               have c81b0 : decide (0 < t774) = true := decide_eq_true c81
               clear c81
               by_cases c82 : t787 < 0
               ·rw [if_pos c82] at H
                exact absurd H (by simp)
               ·rw [if_neg c82] at H
                have c82b0 : decide (t787 < 0) = false := decide_eq_false c82
                clear c82
                by_cases c83 : t774 = 0
                ·rw [if_pos c83] at H
                 have c83b0 : (t774 == 0) = true := beq_iff_eq.mpr c83
                 have c83b1 : (t774 != 0) = false := bne_eq_false_iff_eq.mpr c83
                 clear c83
                 by_cases c84 : t775 = t777
                 ·rw [if_pos c84] at H
                  have c84b0 : (t775 == t777) = true := beq_iff_eq.mpr c84
                  have c84b1 : (t775 != t777) = false := bne_eq_false_iff_eq.mpr c84
                  clear c84
                  have H' := Aside0.mk H
                  clear H
                  go_wp2_with (first | ((with_reducible refine gate_callee (f := 29) rfl ?_); refine gL (some 89) Tryd.func29 #[.int .u64 t775, .int .u64 t777] ?_; (with_reducible refine (f64_Cmp.calls kj49 t775 t777 t787 t788 _ A76.out).mono ?_); rintro e w' ⟨rfl, ⟨nd, rfl⟩⟩; refine ⟨_, rfl, ?_⟩) | ((with_reducible refine gate_callee (f := 15) rfl ?_); refine gL (some 93) Tryd.func15 #[.int .i64 t788] ?_; (with_reducible refine (plumblaw07_num.calls t788 t789 _ A77.out).mono ?_); rintro e w' ⟨rfl, ⟨nd, rfl⟩⟩; refine ⟨_, rfl, ?_⟩))
                  go_roundg kj49
                  case measure => have := HJ4.out; have := HK2.out; have := HJ49.out; omega
                  case rel => exact ⟨(wrap64 (x10_2 + 1)), dF, H', ⟨by have := HJ4.out; have := HK2.out; have := HJ49.out; omega⟩, ⟨dR HO_740001.out⟩, ⟨dR HO_740002.out⟩, ⟨dR HO_741001.out⟩, ⟨dR HO_741002.out⟩, ⟨dR HO_757001.out⟩, ⟨dR HO_757002.out⟩, ⟨dR HO_773001.out⟩, ⟨dR HO_773002.out⟩, ⟨dK BK739.out⟩, ⟨dK BK740.out⟩, ⟨dK BK756.out⟩, ⟨dK BK772.out⟩, ⟨eB⟩⟩
                 ·rw [if_neg c84] at H
                  exact absurd H (by simp)
                ·rw [if_neg c83] at H
                 have c83b0 : (t774 == 0) = false := beq_eq_false_iff_ne.mpr c83
                 have c83b1 : (t774 != 0) = true := bne_iff_ne.mpr c83
                 have H' := Aside0.mk H
                 clear H
                 go_wp2_with (first | ((with_reducible refine gate_callee (f := 29) rfl ?_); refine gL (some 89) Tryd.func29 #[.int .u64 t775, .int .u64 t777] ?_; (with_reducible refine (f64_Cmp.calls kj49 t775 t777 t787 t788 _ A76.out).mono ?_); rintro e w' ⟨rfl, ⟨nd, rfl⟩⟩; refine ⟨_, rfl, ?_⟩) | ((with_reducible refine gate_callee (f := 15) rfl ?_); refine gL (some 93) Tryd.func15 #[.int .i64 t788] ?_; (with_reducible refine (plumblaw07_num.calls t788 t789 _ A77.out).mono ?_); rintro e w' ⟨rfl, ⟨nd, rfl⟩⟩; refine ⟨_, rfl, ?_⟩))
                 go_roundg kj49
                 case measure => have := HJ4.out; have := HK2.out; have := HJ49.out; omega
                 case rel => exact ⟨(wrap64 (x10_2 + 1)), dF, H', ⟨by have := HJ4.out; have := HK2.out; have := HJ49.out; omega⟩, ⟨dR HO_740001.out⟩, ⟨dR HO_740002.out⟩, ⟨dR HO_741001.out⟩, ⟨dR HO_741002.out⟩, ⟨dR HO_757001.out⟩, ⟨dR HO_757002.out⟩, ⟨dR HO_773001.out⟩, ⟨dR HO_773002.out⟩, ⟨dK BK739.out⟩, ⟨dK BK740.out⟩, ⟨dK BK756.out⟩, ⟨dK BK772.out⟩, ⟨eB⟩⟩
              ·rw [if_neg c81] at H
               have c81b0 : decide (0 < t774) = false := decide_eq_false c81
               clear c81
               by_cases c85 : t774 = 0
               ·rw [if_pos c85] at H
                have c85b0 : (t774 == 0) = true := beq_iff_eq.mpr c85
                have c85b1 : (t774 != 0) = false := bne_eq_false_iff_eq.mpr c85
                clear c85
                by_cases c86 : t775 = t777
                ·rw [if_pos c86] at H
                 have c86b0 : (t775 == t777) = true := beq_iff_eq.mpr c86
                 have c86b1 : (t775 != t777) = false := bne_eq_false_iff_eq.mpr c86
                 clear c86
                 have H' := Aside0.mk H
                 clear H
                 go_wp2_with (first | ((with_reducible refine gate_callee (f := 29) rfl ?_); refine gL (some 89) Tryd.func29 #[.int .u64 t775, .int .u64 t777] ?_; (with_reducible refine (f64_Cmp.calls kj49 t775 t777 t787 t788 _ A76.out).mono ?_); rintro e w' ⟨rfl, ⟨nd, rfl⟩⟩; refine ⟨_, rfl, ?_⟩) | ((with_reducible refine gate_callee (f := 15) rfl ?_); refine gL (some 93) Tryd.func15 #[.int .i64 t788] ?_; (with_reducible refine (plumblaw07_num.calls t788 t789 _ A77.out).mono ?_); rintro e w' ⟨rfl, ⟨nd, rfl⟩⟩; refine ⟨_, rfl, ?_⟩))
                 go_roundg kj49
                 case measure => have := HJ4.out; have := HK2.out; have := HJ49.out; omega
                 case rel => exact ⟨(wrap64 (x10_2 + 1)), dF, H', ⟨by have := HJ4.out; have := HK2.out; have := HJ49.out; omega⟩, ⟨dR HO_740001.out⟩, ⟨dR HO_740002.out⟩, ⟨dR HO_741001.out⟩, ⟨dR HO_741002.out⟩, ⟨dR HO_757001.out⟩, ⟨dR HO_757002.out⟩, ⟨dR HO_773001.out⟩, ⟨dR HO_773002.out⟩, ⟨dK BK739.out⟩, ⟨dK BK740.out⟩, ⟨dK BK756.out⟩, ⟨dK BK772.out⟩, ⟨eB⟩⟩
                ·rw [if_neg c86] at H
                 exact absurd H (by simp)
               ·rw [if_neg c85] at H
                have c85b0 : (t774 == 0) = false := beq_eq_false_iff_ne.mpr c85
                have c85b1 : (t774 != 0) = true := bne_iff_ne.mpr c85
                have H' := Aside0.mk H
                clear H
                go_wp2_with (first | ((with_reducible refine gate_callee (f := 29) rfl ?_); refine gL (some 89) Tryd.func29 #[.int .u64 t775, .int .u64 t777] ?_; (with_reducible refine (f64_Cmp.calls kj49 t775 t777 t787 t788 _ A76.out).mono ?_); rintro e w' ⟨rfl, ⟨nd, rfl⟩⟩; refine ⟨_, rfl, ?_⟩) | ((with_reducible refine gate_callee (f := 15) rfl ?_); refine gL (some 93) Tryd.func15 #[.int .i64 t788] ?_; (with_reducible refine (plumblaw07_num.calls t788 t789 _ A77.out).mono ?_); rintro e w' ⟨rfl, ⟨nd, rfl⟩⟩; refine ⟨_, rfl, ?_⟩))
                go_roundg kj49
                case measure => have := HJ4.out; have := HK2.out; have := HJ49.out; omega
                case rel => exact ⟨(wrap64 (x10_2 + 1)), dF, H', ⟨by have := HJ4.out; have := HK2.out; have := HJ49.out; omega⟩, ⟨dR HO_740001.out⟩, ⟨dR HO_740002.out⟩, ⟨dR HO_741001.out⟩, ⟨dR HO_741002.out⟩, ⟨dR HO_757001.out⟩, ⟨dR HO_757002.out⟩, ⟨dR HO_773001.out⟩, ⟨dR HO_773002.out⟩, ⟨dK BK739.out⟩, ⟨dK BK740.out⟩, ⟨dK BK756.out⟩, ⟨dK BK772.out⟩, ⟨eB⟩⟩
            ·rw [if_neg c79] at H
             have c79b0 : decide (t774 < 0) = false := decide_eq_false c79
             clear c79
             by_cases c87 : t774 > 0
             ·rw [if_pos c87] at H
              have c87b0 : decide (0 < t774) = true := decide_eq_true c87
              clear c87
              by_cases c88 : t787 < 0
              ·rw [if_pos c88] at H
               exact absurd H (by simp)
              ·rw [if_neg c88] at H
               have c88b0 : decide (t787 < 0) = false := decide_eq_false c88
               clear c88
               by_cases c89 : t774 = 0
               ·rw [if_pos c89] at H
                have c89b0 : (t774 == 0) = true := beq_iff_eq.mpr c89
                have c89b1 : (t774 != 0) = false := bne_eq_false_iff_eq.mpr c89
                clear c89
                by_cases c90 : t775 = t777
                ·rw [if_pos c90] at H
                 have c90b0 : (t775 == t777) = true := beq_iff_eq.mpr c90
                 have c90b1 : (t775 != t777) = false := bne_eq_false_iff_eq.mpr c90
                 clear c90
                 have H' := Aside0.mk H
                 clear H
                 go_wp2_with (first | ((with_reducible refine gate_callee (f := 29) rfl ?_); refine gL (some 89) Tryd.func29 #[.int .u64 t775, .int .u64 t777] ?_; (with_reducible refine (f64_Cmp.calls kj49 t775 t777 t787 t788 _ A76.out).mono ?_); rintro e w' ⟨rfl, ⟨nd, rfl⟩⟩; refine ⟨_, rfl, ?_⟩) | ((with_reducible refine gate_callee (f := 15) rfl ?_); refine gL (some 93) Tryd.func15 #[.int .i64 t788] ?_; (with_reducible refine (plumblaw07_num.calls t788 t789 _ A77.out).mono ?_); rintro e w' ⟨rfl, ⟨nd, rfl⟩⟩; refine ⟨_, rfl, ?_⟩))
                 go_roundg kj49
                 case measure => have := HJ4.out; have := HK2.out; have := HJ49.out; omega
                 case rel => exact ⟨(wrap64 (x10_2 + 1)), dF, H', ⟨by have := HJ4.out; have := HK2.out; have := HJ49.out; omega⟩, ⟨dR HO_740001.out⟩, ⟨dR HO_740002.out⟩, ⟨dR HO_741001.out⟩, ⟨dR HO_741002.out⟩, ⟨dR HO_757001.out⟩, ⟨dR HO_757002.out⟩, ⟨dR HO_773001.out⟩, ⟨dR HO_773002.out⟩, ⟨dK BK739.out⟩, ⟨dK BK740.out⟩, ⟨dK BK756.out⟩, ⟨dK BK772.out⟩, ⟨eB⟩⟩
                ·rw [if_neg c90] at H
                 exact absurd H (by simp)
               ·rw [if_neg c89] at H
                have c89b0 : (t774 == 0) = false := beq_eq_false_iff_ne.mpr c89
                have c89b1 : (t774 != 0) = true := bne_iff_ne.mpr c89
                have H' := Aside0.mk H
                clear H
                go_wp2_with (first | ((with_reducible refine gate_callee (f := 29) rfl ?_); refine gL (some 89) Tryd.func29 #[.int .u64 t775, .int .u64 t777] ?_; (with_reducible refine (f64_Cmp.calls kj49 t775 t777 t787 t788 _ A76.out).mono ?_); rintro e w' ⟨rfl, ⟨nd, rfl⟩⟩; refine ⟨_, rfl, ?_⟩) | ((with_reducible refine gate_callee (f := 15) rfl ?_); refine gL (some 93) Tryd.func15 #[.int .i64 t788] ?_; (with_reducible refine (plumblaw07_num.calls t788 t789 _ A77.out).mono ?_); rintro e w' ⟨rfl, ⟨nd, rfl⟩⟩; refine ⟨_, rfl, ?_⟩))
                go_roundg kj49
                case measure => have := HJ4.out; have := HK2.out; have := HJ49.out; omega
                case rel => exact ⟨(wrap64 (x10_2 + 1)), dF, H', ⟨by have := HJ4.out; have := HK2.out; have := HJ49.out; omega⟩, ⟨dR HO_740001.out⟩, ⟨dR HO_740002.out⟩, ⟨dR HO_741001.out⟩, ⟨dR HO_741002.out⟩, ⟨dR HO_757001.out⟩, ⟨dR HO_757002.out⟩, ⟨dR HO_773001.out⟩, ⟨dR HO_773002.out⟩, ⟨dK BK739.out⟩, ⟨dK BK740.out⟩, ⟨dK BK756.out⟩, ⟨dK BK772.out⟩, ⟨eB⟩⟩
             ·rw [if_neg c87] at H
              have c87b0 : decide (0 < t774) = false := decide_eq_false c87
              clear c87
              by_cases c91 : t774 = 0
              ·rw [if_pos c91] at H
               have c91b0 : (t774 == 0) = true := beq_iff_eq.mpr c91
               have c91b1 : (t774 != 0) = false := bne_eq_false_iff_eq.mpr c91
               clear c91
               by_cases c92 : t775 = t777
               ·rw [if_pos c92] at H
                have c92b0 : (t775 == t777) = true := beq_iff_eq.mpr c92
                have c92b1 : (t775 != t777) = false := bne_eq_false_iff_eq.mpr c92
                clear c92
                have H' := Aside0.mk H
                clear H
                go_wp2_with (first | ((with_reducible refine gate_callee (f := 29) rfl ?_); refine gL (some 89) Tryd.func29 #[.int .u64 t775, .int .u64 t777] ?_; (with_reducible refine (f64_Cmp.calls kj49 t775 t777 t787 t788 _ A76.out).mono ?_); rintro e w' ⟨rfl, ⟨nd, rfl⟩⟩; refine ⟨_, rfl, ?_⟩) | ((with_reducible refine gate_callee (f := 15) rfl ?_); refine gL (some 93) Tryd.func15 #[.int .i64 t788] ?_; (with_reducible refine (plumblaw07_num.calls t788 t789 _ A77.out).mono ?_); rintro e w' ⟨rfl, ⟨nd, rfl⟩⟩; refine ⟨_, rfl, ?_⟩))
                go_roundg kj49
                case measure => have := HJ4.out; have := HK2.out; have := HJ49.out; omega
                case rel => exact ⟨(wrap64 (x10_2 + 1)), dF, H', ⟨by have := HJ4.out; have := HK2.out; have := HJ49.out; omega⟩, ⟨dR HO_740001.out⟩, ⟨dR HO_740002.out⟩, ⟨dR HO_741001.out⟩, ⟨dR HO_741002.out⟩, ⟨dR HO_757001.out⟩, ⟨dR HO_757002.out⟩, ⟨dR HO_773001.out⟩, ⟨dR HO_773002.out⟩, ⟨dK BK739.out⟩, ⟨dK BK740.out⟩, ⟨dK BK756.out⟩, ⟨dK BK772.out⟩, ⟨eB⟩⟩
               ·rw [if_neg c92] at H
                exact absurd H (by simp)
              ·rw [if_neg c91] at H
               have c91b0 : (t774 == 0) = false := beq_eq_false_iff_ne.mpr c91
               have c91b1 : (t774 != 0) = true := bne_iff_ne.mpr c91
               have H' := Aside0.mk H
               clear H
               go_wp2_with (first | ((with_reducible refine gate_callee (f := 29) rfl ?_); refine gL (some 89) Tryd.func29 #[.int .u64 t775, .int .u64 t777] ?_; (with_reducible refine (f64_Cmp.calls kj49 t775 t777 t787 t788 _ A76.out).mono ?_); rintro e w' ⟨rfl, ⟨nd, rfl⟩⟩; refine ⟨_, rfl, ?_⟩) | ((with_reducible refine gate_callee (f := 15) rfl ?_); refine gL (some 93) Tryd.func15 #[.int .i64 t788] ?_; (with_reducible refine (plumblaw07_num.calls t788 t789 _ A77.out).mono ?_); rintro e w' ⟨rfl, ⟨nd, rfl⟩⟩; refine ⟨_, rfl, ?_⟩))
               go_roundg kj49
               case measure => have := HJ4.out; have := HK2.out; have := HJ49.out; omega
               case rel => exact ⟨(wrap64 (x10_2 + 1)), dF, H', ⟨by have := HJ4.out; have := HK2.out; have := HJ49.out; omega⟩, ⟨dR HO_740001.out⟩, ⟨dR HO_740002.out⟩, ⟨dR HO_741001.out⟩, ⟨dR HO_741002.out⟩, ⟨dR HO_757001.out⟩, ⟨dR HO_757002.out⟩, ⟨dR HO_773001.out⟩, ⟨dR HO_773002.out⟩, ⟨dK BK739.out⟩, ⟨dK BK740.out⟩, ⟨dK BK756.out⟩, ⟨dK BK772.out⟩, ⟨eB⟩⟩
           ·rw [if_neg c78] at H
            exact absurd H (by simp)
       ·rw [if_neg c47] at H
        have c47b0 : decide (x10_2 ≤ 4) = false := decide_eq_false c47
        clear c47
        obtain rfl := Option.some.inj H
        go_wp2
        go_ret
        exact ⟨dE, eB⟩
end Go.Proofs.YtoefabmlkbhmpaaDoor.PA
