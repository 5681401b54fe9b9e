/- A part of the proof (13). -/
import Derived.Test.YtoannkopciehcaaDoorULA2
import Derived.Test.YtoannkopciehcaaDoorULA4
import Derived.Test.YtoannkopciehcaaDoorULA5
import Derived.Test.YtoannkopciehcaaDoorULA6
import Derived.Test.YtoannkopciehcaaDoorULA9
import Derived.Test.YtoannkopciehcaaDoorULA10
import Derived.Test.YtoannkopciehcaaDoorULA11
import Derived.Test.YtoannkopciehcaaDoorULA12
import Derived.Test.YtoannkopciehcaaDoorULA3
import Derived.Test.YtoannkopciehcaaDoorULA7
import Derived.Test.YtoannkopciehcaaDoorULA8
namespace Go.Proofs.YtoannkopciehcaaDoor.PA
open Go.RowKit Go.Proofs.YtoannkopciehcaaDoorW.PrintWords Go.Proofs.YtoannkopciehcaaDoorW.PrintLast Go.Proofs.YtoannkopciehcaaDoorW.PrintMore
attribute [local go_sem] max2_int min2_int max_two min_two max_three min_three max_four min_four   -- for this text's walks alone
set_option linter.unusedVariables false
set_option linter.unusedSimpArgs false

/-! ### plumblaw10_LemireUnsure: function 7 -/
def plumblaw10_LemireUnsure.j0 : Nat → Int → Int → Int → Int → Int → Int → Int → Int → Int → Int → Bool → Option (Bool)
 | 0, _, _, _, _, _, _, _, _, _, _, _ => none
 | k + 1, x0, x1, x5, x6, x7, x9, x10, x11, x13, x14, x52 => if x52 = true then ((plumblaw10_alive.f k).bind fun t597 => (if t597 = true then (some (x14 != 100)) else (some false))) else ((nat_Mul.f k (([x0] : List Int)) (([x6, x5] : List Int))).bind fun bt604 => ((nat_Mul.f k (([x0] : List Int)) (([x10, x9] : List Int))).bind fun bt614 => ((near_Scaled.f k false bt604.1 (wrap64 (x7 + x1)) false 0).bind fun bt618 => ((near_Scaled.f k false bt614.1 (wrap64 (x11 + x1)) false 0).bind fun bt620 => (if bt618.2 = bt620.2 then (if bt618.1 = bt620.1 then (if x14 = bt618.2 then (some (x13 == bt618.1)) else (some false)) else (if x14 = 100 then (some (x13 == 0)) else (some false))) else (if x14 = 100 then (some (x13 == 0)) else (some false)))))))
def plumblaw10_LemireUnsure.f (k : Nat) (a0 : Int) (a1 : Int) : Option (Bool) := (power_Five.f k a1).bind fun bt586 => ((power_Above.f k a1).bind fun bt590 => ((lemire_Fast.f k a0 a1).bind fun bt594 => ((plumblaw10_alive.f k).bind fun t596 => (if t596 = true then (if bt586.2.2.2 = 0 then (plumblaw10_LemireUnsure.j0 k a0 a1 bt586.1 bt586.2.1 bt586.2.2.1 bt590.1 bt590.2.1 bt590.2.2.1 bt594.1 bt594.2 (a0 == 0)) else (plumblaw10_LemireUnsure.j0 k a0 a1 bt586.1 bt586.2.1 bt586.2.2.1 bt590.1 bt590.2.1 bt590.2.2.1 bt594.1 bt594.2 true)) else (plumblaw10_LemireUnsure.j0 k a0 a1 bt586.1 bt586.2.1 bt586.2.2.1 bt590.1 bt590.2.1 bt590.2.2.1 bt594.1 bt594.2 true)))))
set_option maxHeartbeats 8000000 in
set_option maxRecDepth 100000 in
theorem plumblaw10_LemireUnsure.calls (k : Nat) (a0 : Int) (a1 : Int) (r : Bool) (w : World) (h : plumblaw10_LemireUnsure.f k a0 a1 = some r) (hG : TensLaid w := by first | exact HG.out | exact hG | exact TensLaid.below HG.out HB.out | exact TensLaid.below HG.out dB) (hS : StaysLaid w := by first | exact HS.out | exact hS | exact StaysLaid.below HS.out HB.out | exact StaysLaid.below HS.out dB) :
  Calls Tryd.prog 7 #[.int .u64 a0, .int .i64 a1] w fun e w' => e = .returned (.bool r) ∧ Below w.heap.size w w' := by
 have HS := Aside0.mk (show StaysLaid w from hS)
 clear hS
 have HG := Aside0.mk (show TensLaid w from hG)
 clear hG
 have HB := Aside0.mk (Below.refl w.heap.size w)
 have H : ((power_Five.f k a1).bind fun bt586 => ((power_Above.f k a1).bind fun bt590 => ((lemire_Fast.f k a0 a1).bind fun bt594 => ((plumblaw10_alive.f k).bind fun t596 => (if t596 = true then (if bt586.2.2.2 = 0 then (plumblaw10_LemireUnsure.j0 k a0 a1 bt586.1 bt586.2.1 bt586.2.2.1 bt590.1 bt590.2.1 bt590.2.2.1 bt594.1 bt594.2 (a0 == 0)) else (plumblaw10_LemireUnsure.j0 k a0 a1 bt586.1 bt586.2.1 bt586.2.2.1 bt590.1 bt590.2.1 bt590.2.2.1 bt594.1 bt594.2 true)) else (plumblaw10_LemireUnsure.j0 k a0 a1 bt586.1 bt586.2.1 bt586.2.2.1 bt590.1 bt590.2.1 bt590.2.2.1 bt594.1 bt594.2 true)))))) = some r := h
 clear h
 replace H := obe H
 obtain ⟨⟨t586, t587, t588, t589⟩, A30, H⟩ := H
 (try dsimp only at H)
 have A3 := Aside0.mk A30
 clear A30
 replace H := obe H
 obtain ⟨⟨t590, t591, t592, t593⟩, A40, H⟩ := H
 (try dsimp only at H)
 have A4 := Aside0.mk A40
 clear A40
 replace H := obe H
 obtain ⟨⟨t594, t595⟩, A50, H⟩ := H
 (try dsimp only at H)
 have A5 := Aside0.mk A50
 clear A50
 have HC6 := Aside0.mk H
 clear H
 go_enter Tryd.func7, Tryd.ntmps7
 go_upto_region 4 with (first | ((with_reducible refine gate_callee (f := 18) rfl ?_); refine gL (some 25) Tryd.func18 #[.int .i64 a1] ?_; (with_reducible refine (power_Five.calls k a1 t586 t587 t588 t589 _ A3.out).mono ?_); rintro e w7 ⟨rfl, hb⟩; refine ⟨_, rfl, ?_⟩; replace HB := Aside0.mk (below_step dB hb); (try clear hb)) | ((with_reducible refine gate_callee (f := 19) rfl ?_); refine gL (some 32) Tryd.func19 #[.int .i64 a1] ?_; (with_reducible refine (power_Above.calls k a1 t590 t591 t592 t593 _ A4.out).mono ?_); rintro e w8 ⟨rfl, hb⟩; refine ⟨_, rfl, ?_⟩; replace HB := Aside0.mk (below_step dB hb); (try clear hb)) | ((with_reducible refine gate_callee (f := 12) rfl ?_); refine gL (some 40) Tryd.func12 #[.int .u64 a0, .int .i64 a1] ?_; (with_reducible refine (lemire_Fast.calls k a0 a1 t594 t595 _ A5.out).mono ?_); rintro e w9 ⟨rfl, hb⟩; refine ⟨_, rfl, ?_⟩; replace HB := Aside0.mk (below_step dB hb); (try clear hb)))
 (try simp only [Act.put, List.setIfInBounds_toArray, List.set_cons_zero, List.set_cons_succ])
 go_cut [52] (fun v52 wc => ∃ (kq : Nat) (x52_5 : Bool), v52 = .bool x52_5 ∧ Aside0 (plumblaw10_LemireUnsure.j0 kq a0 a1 t586 t587 t588 t590 t591 t592 t594 t595 x52_5 = some r) ∧ Aside0 (kq ≤ k) ∧ Aside0 (Below w.heap.size w wc))
 case first =>
  have H := HC6.out
  clear HC6
  replace H := obe H
  obtain ⟨t596, A100, H⟩ := H
  (try dsimp only at H)
  have A10 := Aside0.mk A100
  clear A100
  by_cases c11 : t596 = true
  ·subst c11
   have H1 : (if t589 = 0 then (plumblaw10_LemireUnsure.j0 k a0 a1 t586 t587 t588 t590 t591 t592 t594 t595 (a0 == 0)) else (plumblaw10_LemireUnsure.j0 k a0 a1 t586 t587 t588 t590 t591 t592 t594 t595 true)) = some r := by rw [if_pos rfl] at H; exact H
   clear H
   have H := H1
   clear H1
   by_cases c12 : t589 = 0
   ·rw [if_pos c12] at H
    have c12b0 : (t589 == 0) = true := beq_iff_eq.mpr c12
    have c12b1 : (t589 != 0) = false := bne_eq_false_iff_eq.mpr c12
    clear c12
    (first | rw [c12b0] | (simp only [i64_w, i32_w]; rw [c12b0]) | skip)
    have H' := Aside0.mk H
    clear H
    go_wp2_with (first | ((with_reducible refine gate_callee (f := 14) rfl ?_); refine gL (some 43) Tryd.func14 #[] ?_; (with_reducible refine (plumblaw10_alive.calls k  true _ A10.out).mono ?_); rintro e w13 ⟨rfl, hb⟩; refine ⟨_, rfl, ?_⟩; replace HB := Aside0.mk (below_step dB hb); (try clear hb)))
    go_meet
    case rel => exact ⟨_, ((a0 == 0)), dF, H', ⟨dN⟩, ⟨dB⟩⟩
   ·rw [if_neg c12] at H
    have c12b0 : (t589 == 0) = false := beq_eq_false_iff_ne.mpr c12
    have c12b1 : (t589 != 0) = true := bne_iff_ne.mpr c12
    (first | rw [c12b0] | (simp only [i64_w, i32_w]; rw [c12b0]) | skip)
    have H' := Aside0.mk H
    clear H
    go_wp2_with (first | ((with_reducible refine gate_callee (f := 14) rfl ?_); refine gL (some 43) Tryd.func14 #[] ?_; (with_reducible refine (plumblaw10_alive.calls k  true _ A10.out).mono ?_); rintro e w14 ⟨rfl, hb⟩; refine ⟨_, rfl, ?_⟩; replace HB := Aside0.mk (below_step dB hb); (try clear hb)))
    go_meet
    case rel => exact ⟨_, (true), dF, H', ⟨dN⟩, ⟨dB⟩⟩
  ·replace c11 := Bool.eq_false_iff.mpr c11
   subst c11
   have H1 : (plumblaw10_LemireUnsure.j0 k a0 a1 t586 t587 t588 t590 t591 t592 t594 t595 true) = some r := by rw [if_neg (show ¬ (false = true) by decide)] at H; exact H
   clear H
   have H := H1
   clear H1
   have H' := Aside0.mk H
   clear H
   go_wp2_with (first | ((with_reducible refine gate_callee (f := 14) rfl ?_); refine gL (some 43) Tryd.func14 #[] ?_; (with_reducible refine (plumblaw10_alive.calls k  false _ A10.out).mono ?_); rintro e w15 ⟨rfl, hb⟩; refine ⟨_, rfl, ?_⟩; replace HB := Aside0.mk (below_step dB hb); (try clear hb)))
   go_meet
   case rel => exact ⟨_, (true), dF, H', ⟨dN⟩, ⟨dB⟩⟩
 case rest =>
  clear HC6
  obtain ⟨kq, x52_5, rfl, HA, HJ5, HB⟩ := hcut
  cases kq with
  | zero => exact absurd HA.out (by simp [plumblaw10_LemireUnsure.j0])
  | succ kj5 =>
   have H := HA.out
   clear HA
   simp only [plumblaw10_LemireUnsure.j0] at H
   by_cases c16 : x52_5 = true
   ·subst c16
    have H1 : ((plumblaw10_alive.f kj5).bind fun t597 => (if t597 = true then (some (t595 != 100)) else (some false))) = some r := by rw [if_pos rfl] at H; exact H
    clear H
    have H := H1
    clear H1
    replace H := obe H
    obtain ⟨t597, A170, H⟩ := H
    (try dsimp only at H)
    have A17 := Aside0.mk A170
    clear A170
    by_cases c18 : t597 = true
    ·subst c18
     have H1 : (some (t595 != 100)) = some r := by rw [if_pos rfl] at H; exact H
     clear H
     have H := H1
     clear H1
     obtain rfl := Option.some.inj H
     go_wp2_with (first | ((with_reducible refine gate_callee (f := 14) rfl ?_); refine gL (some 53) Tryd.func14 #[] ?_; (with_reducible refine (plumblaw10_alive.calls kj5  true _ A17.out).mono ?_); rintro e w19 ⟨rfl, hb⟩; refine ⟨_, rfl, ?_⟩; replace HB := Aside0.mk (below_step dB hb); (try clear hb)))
     go_ret
     exact ⟨dE, dB⟩
    ·replace c18 := Bool.eq_false_iff.mpr c18
     subst c18
     have H1 : (some false) = some r := by rw [if_neg (show ¬ (false = true) by decide)] at H; exact H
     clear H
     have H := H1
     clear H1
     obtain rfl := Option.some.inj H
     go_wp2_with (first | ((with_reducible refine gate_callee (f := 14) rfl ?_); refine gL (some 53) Tryd.func14 #[] ?_; (with_reducible refine (plumblaw10_alive.calls kj5  false _ A17.out).mono ?_); rintro e w20 ⟨rfl, hb⟩; refine ⟨_, rfl, ?_⟩; replace HB := Aside0.mk (below_step dB hb); (try clear hb)))
     go_ret
     exact ⟨dE, dB⟩
   ·replace c16 := Bool.eq_false_iff.mpr c16
    subst c16
    have H1 : ((nat_Mul.f kj5 (([a0] : List Int)) (([t587, t586] : List Int))).bind fun bt604 => ((nat_Mul.f kj5 (([a0] : List Int)) (([t591, t590] : List Int))).bind fun bt614 => ((near_Scaled.f kj5 false bt604.1 (wrap64 (t588 + a1)) false 0).bind fun bt618 => ((near_Scaled.f kj5 false bt614.1 (wrap64 (t592 + a1)) false 0).bind fun bt620 => (if bt618.2 = bt620.2 then (if bt618.1 = bt620.1 then (if t595 = bt618.2 then (some (t594 == bt618.1)) else (some false)) else (if t595 = 100 then (some (t594 == 0)) else (some false))) else (if t595 = 100 then (some (t594 == 0)) else (some false))))))) = some r := by rw [if_neg (show ¬ (false = true) by decide)] at H; exact H
    clear H
    have H := H1
    clear H1
    obtain ⟨y598, hy598⟩ : ∃ y_ : List Int, y_ = (([a0] : List Int)) := ⟨_, rfl⟩
    replace H : ((nat_Mul.f kj5 y598 (([t587, t586] : List Int))).bind fun bt604 => ((nat_Mul.f kj5 (([a0] : List Int)) (([t591, t590] : List Int))).bind fun bt614 => ((near_Scaled.f kj5 false bt604.1 (wrap64 (t588 + a1)) false 0).bind fun bt618 => ((near_Scaled.f kj5 false bt614.1 (wrap64 (t592 + a1)) false 0).bind fun bt620 => (if bt618.2 = bt620.2 then (if bt618.1 = bt620.1 then (if t595 = bt618.2 then (some (t594 == bt618.1)) else (some false)) else (if t595 = 100 then (some (t594 == 0)) else (some false))) else (if t595 = 100 then (some (t594 == 0)) else (some false))))))) = some r := by first | (rw [hy598]; with_reducible exact H) | (have H2_ := (Option.bind_some _ _).symm.trans H; rw [hy598]; with_reducible exact H2_) | (have H2_ := (Option.bind_some _ _).symm.trans H; with_reducible exact H2_) | with_reducible exact H | (rw [hy598]; exact H) | exact H
    have Ny598 := Aside0.mk hy598
    clear hy598
    obtain ⟨y601, hy601⟩ : ∃ y_ : List Int, y_ = (([t587, t586] : List Int)) := ⟨_, rfl⟩
    replace H : ((nat_Mul.f kj5 y598 y601).bind fun bt604 => ((nat_Mul.f kj5 (([a0] : List Int)) (([t591, t590] : List Int))).bind fun bt614 => ((near_Scaled.f kj5 false bt604.1 (wrap64 (t588 + a1)) false 0).bind fun bt618 => ((near_Scaled.f kj5 false bt614.1 (wrap64 (t592 + a1)) false 0).bind fun bt620 => (if bt618.2 = bt620.2 then (if bt618.1 = bt620.1 then (if t595 = bt618.2 then (some (t594 == bt618.1)) else (some false)) else (if t595 = 100 then (some (t594 == 0)) else (some false))) else (if t595 = 100 then (some (t594 == 0)) else (some false))))))) = some r := by first | (rw [hy601]; with_reducible exact H) | (have H2_ := (Option.bind_some _ _).symm.trans H; rw [hy601]; with_reducible exact H2_) | (have H2_ := (Option.bind_some _ _).symm.trans H; with_reducible exact H2_) | with_reducible exact H | (rw [hy601]; exact H) | exact H
    have Ny601 := Aside0.mk hy601
    clear hy601
    replace H := obe H
    obtain ⟨⟨t604, t605⟩, A210, H⟩ := H
    (try dsimp only at H)
    have A21 := Aside0.mk A210
    clear A210
    obtain ⟨y608, hy608⟩ : ∃ y_ : List Int, y_ = (([a0] : List Int)) := ⟨_, rfl⟩
    replace H : ((nat_Mul.f kj5 y608 (([t591, t590] : List Int))).bind fun bt614 => ((near_Scaled.f kj5 false t604 (wrap64 (t588 + a1)) false 0).bind fun bt618 => ((near_Scaled.f kj5 false bt614.1 (wrap64 (t592 + a1)) false 0).bind fun bt620 => (if bt618.2 = bt620.2 then (if bt618.1 = bt620.1 then (if t595 = bt618.2 then (some (t594 == bt618.1)) else (some false)) else (if t595 = 100 then (some (t594 == 0)) else (some false))) else (if t595 = 100 then (some (t594 == 0)) else (some false)))))) = some r := by first | (rw [hy608]; with_reducible exact H) | (have H2_ := (Option.bind_some _ _).symm.trans H; rw [hy608]; with_reducible exact H2_) | (have H2_ := (Option.bind_some _ _).symm.trans H; with_reducible exact H2_) | with_reducible exact H | (rw [hy608]; exact H) | exact H
    have Ny608 := Aside0.mk hy608
    clear hy608
    obtain ⟨y611, hy611⟩ : ∃ y_ : List Int, y_ = (([t591, t590] : List Int)) := ⟨_, rfl⟩
    replace H : ((nat_Mul.f kj5 y608 y611).bind fun bt614 => ((near_Scaled.f kj5 false t604 (wrap64 (t588 + a1)) false 0).bind fun bt618 => ((near_Scaled.f kj5 false bt614.1 (wrap64 (t592 + a1)) false 0).bind fun bt620 => (if bt618.2 = bt620.2 then (if bt618.1 = bt620.1 then (if t595 = bt618.2 then (some (t594 == bt618.1)) else (some false)) else (if t595 = 100 then (some (t594 == 0)) else (some false))) else (if t595 = 100 then (some (t594 == 0)) else (some false)))))) = some r := by first | (rw [hy611]; with_reducible exact H) | (have H2_ := (Option.bind_some _ _).symm.trans H; rw [hy611]; with_reducible exact H2_) | (have H2_ := (Option.bind_some _ _).symm.trans H; with_reducible exact H2_) | with_reducible exact H | (rw [hy611]; exact H) | exact H
    have Ny611 := Aside0.mk hy611
    clear hy611
    replace H := obe H
    obtain ⟨⟨t614, t615⟩, A220, H⟩ := H
    (try dsimp only at H)
    have A22 := Aside0.mk A220
    clear A220
    replace H := obe H
    obtain ⟨⟨t618, t619⟩, A230, H⟩ := H
    (try dsimp only at H)
    have A23 := Aside0.mk A230
    clear A230
    replace H := obe H
    obtain ⟨⟨t620, t621⟩, A240, H⟩ := H
    (try dsimp only at H)
    have A24 := Aside0.mk A240
    clear A240
    by_cases c25 : t619 = t621
    ·rw [if_pos c25] at H
     have c25b0 : (t619 == t621) = true := beq_iff_eq.mpr c25
     have c25b1 : (t619 != t621) = false := bne_eq_false_iff_eq.mpr c25
     clear c25
     by_cases c26 : t618 = t620
     ·rw [if_pos c26] at H
      have c26b0 : (t618 == t620) = true := beq_iff_eq.mpr c26
      have c26b1 : (t618 != t620) = false := bne_eq_false_iff_eq.mpr c26
      clear c26
      by_cases c27 : t595 = t619
      ·rw [if_pos c27] at H
       have c27b0 : (t595 == t619) = true := beq_iff_eq.mpr c27
       have c27b1 : (t595 != t619) = false := bne_eq_false_iff_eq.mpr c27
       clear c27
       obtain rfl := Option.some.inj H
       go_wp2_with (first | ((with_reducible refine gate_dst (N := 60) rfl ?_); refine Kd.R_lit (Kd.int .u64) _ 22 ?hg (N := 60) ?hd (xs := ([a0] : List Int)) (inner := [.int .u64 a0]) (ok := fun _ => True) (okp := fun _ => True) ?hr ?hp (fun _ hk => hk) trivial (Below.refl _ _) (Nat.le_refl _) (by simp) ?_; (case hd => rfl); (case hg => rfl); (case hr => first | (go_simp; done) | (go_simp; rfl)); (case hp => exact (Reps.one (show Kd.M (Kd.int .u64) _ _ _ a0 [.int .u64 a0] from rfl) (Reps.none _ _))); intro v599 w28 ho29 hb hg_ hnew_; clear hg_ hnew_; (first | rw [← Ny598.out] at ho29 | (simp only [Int.reduceToNat] at ho29; rw [← Ny598.out] at ho29)); have HO600 := Aside0.mk (Kd.R_lower ho29 (below_size dB)); replace HB := Aside0.mk (below_step dB hb); clear hb ho29) | ((with_reducible refine gate_dst (N := 63) rfl ?_); refine Kd.R_lit (Kd.int .u64) _ 22 ?hg (N := 63) ?hd (xs := ([t587, t586] : List Int)) (inner := [.int .u64 t587, .int .u64 t586]) (ok := fun _ => True) (okp := fun _ => True) ?hr ?hp (fun _ hk => hk) trivial (Below.refl _ _) (Nat.le_refl _) (by simp) ?_; (case hd => rfl); (case hg => rfl); (case hr => first | (go_simp; done) | (go_simp; rfl)); (case hp => exact (Reps.one (show Kd.M (Kd.int .u64) _ _ _ t587 [.int .u64 t587] from rfl) (Reps.one (show Kd.M (Kd.int .u64) _ _ _ t586 [.int .u64 t586] from rfl) (Reps.none _ _)))); intro v602 w30 ho31 hb hg_ hnew_; clear hg_ hnew_; (first | rw [← Ny601.out] at ho31 | (simp only [Int.reduceToNat] at ho31; rw [← Ny601.out] at ho31)); have HO603 := Aside0.mk (Kd.R_lower (Kd.R_new' ho31 (Kd.R_lt (dR HO600.out))) (below_size dB)); replace HO600 := Aside0.mk (Kd.R_elder' (dR HO600.out) (Kd.R_base ho31) hb); replace HB := Aside0.mk (below_step dB hb); clear hb ho31; obtain ⟨Ao32, co32, eo32⟩ := Kd.R_slice HO600.out; subst eo32; obtain ⟨Ao33, co33, eo33⟩ := Kd.R_slice HO603.out; subst eo33) | ((with_reducible refine gate_callee (f := 20) rfl ?_); refine gL (some 64) Tryd.func20 #[.slice Ao32 y598.length co32, .slice Ao33 y601.length co33] ?_; (with_reducible refine (nat_Mul.calls kj5 _ _ y598 _ _ y601 t604 t605 _ ?side1 ?side2 ?side3 ?side4 A21.out).mono ?_); (case side1 => exact dC (Kd.R_reads' HO600.out).2.2); (case side2 => exact (Kd.R_reads' HO600.out).2.1); (case side3 => exact dC (Kd.R_reads' HO603.out).2.2); (case side4 => exact (Kd.R_reads' HO603.out).2.1); rintro e w34 ⟨v606, rfl, ho0, hb⟩; refine ⟨_, rfl, ?_⟩; have HO607 := Aside0.mk (Kd.R_lower (Kd.R_new' (Kd.R_new' ho0 (Kd.R_lt (dR HO600.out))) (Kd.R_lt (dR HO603.out))) (below_size dB)); replace HO600 := Aside0.mk (Kd.R_elder' (dR HO600.out) (Kd.R_base ho0) hb); replace HO603 := Aside0.mk (Kd.R_elder' (dR HO603.out) (Kd.R_base ho0) hb); replace HB := Aside0.mk (below_step dB hb); (try clear hb); (try clear ho0)) | ((with_reducible refine gate_dst (N := 69) rfl ?_); refine Kd.R_lit (Kd.int .u64) _ 22 ?hg (N := 69) ?hd (xs := ([a0] : List Int)) (inner := [.int .u64 a0]) (ok := fun _ => True) (okp := fun _ => True) ?hr ?hp (fun _ hk => hk) trivial (Below.refl _ _) (Nat.le_refl _) (by simp) ?_; (case hd => rfl); (case hg => rfl); (case hr => first | (go_simp; done) | (go_simp; rfl)); (case hp => exact (Reps.one (show Kd.M (Kd.int .u64) _ _ _ a0 [.int .u64 a0] from rfl) (Reps.none _ _))); intro v609 w35 ho36 hb hg_ hnew_; clear hg_ hnew_; (first | rw [← Ny608.out] at ho36 | (simp only [Int.reduceToNat] at ho36; rw [← Ny608.out] at ho36)); have HO610 := Aside0.mk (Kd.R_lower (Kd.R_new' (Kd.R_new' (Kd.R_new' ho36 (Kd.R_lt (dR HO600.out))) (Kd.R_lt (dR HO603.out))) (Kd.R_lt (dR HO607.out))) (below_size dB)); replace HO600 := Aside0.mk (Kd.R_elder' (dR HO600.out) (Kd.R_base ho36) hb); replace HO603 := Aside0.mk (Kd.R_elder' (dR HO603.out) (Kd.R_base ho36) hb); replace HO607 := Aside0.mk (Kd.R_elder' (dR HO607.out) (Kd.R_base ho36) hb); replace HB := Aside0.mk (below_step dB hb); clear hb ho36) | ((with_reducible refine gate_dst (N := 72) rfl ?_); refine Kd.R_lit (Kd.int .u64) _ 22 ?hg (N := 72) ?hd (xs := ([t591, t590] : List Int)) (inner := [.int .u64 t591, .int .u64 t590]) (ok := fun _ => True) (okp := fun _ => True) ?hr ?hp (fun _ hk => hk) trivial (Below.refl _ _) (Nat.le_refl _) (by simp) ?_; (case hd => rfl); (case hg => rfl); (case hr => first | (go_simp; done) | (go_simp; rfl)); (case hp => exact (Reps.one (show Kd.M (Kd.int .u64) _ _ _ t591 [.int .u64 t591] from rfl) (Reps.one (show Kd.M (Kd.int .u64) _ _ _ t590 [.int .u64 t590] from rfl) (Reps.none _ _)))); intro v612 w37 ho38 hb hg_ hnew_; clear hg_ hnew_; (first | rw [← Ny611.out] at ho38 | (simp only [Int.reduceToNat] at ho38; rw [← Ny611.out] at ho38)); have HO613 := Aside0.mk (Kd.R_lower (Kd.R_new' (Kd.R_new' (Kd.R_new' (Kd.R_new' ho38 (Kd.R_lt (dR HO600.out))) (Kd.R_lt (dR HO603.out))) (Kd.R_lt (dR HO607.out))) (Kd.R_lt (dR HO610.out))) (below_size dB)); replace HO600 := Aside0.mk (Kd.R_elder' (dR HO600.out) (Kd.R_base ho38) hb); replace HO603 := Aside0.mk (Kd.R_elder' (dR HO603.out) (Kd.R_base ho38) hb); replace HO607 := Aside0.mk (Kd.R_elder' (dR HO607.out) (Kd.R_base ho38) hb); replace HO610 := Aside0.mk (Kd.R_elder' (dR HO610.out) (Kd.R_base ho38) hb); replace HB := Aside0.mk (below_step dB hb); clear hb ho38; obtain ⟨Ao39, co39, eo39⟩ := Kd.R_slice HO610.out; subst eo39; obtain ⟨Ao40, co40, eo40⟩ := Kd.R_slice HO613.out; subst eo40) | ((with_reducible refine gate_callee (f := 20) rfl ?_); refine gL (some 73) Tryd.func20 #[.slice Ao39 y608.length co39, .slice Ao40 y611.length co40] ?_; (with_reducible refine (nat_Mul.calls kj5 _ _ y608 _ _ y611 t614 t615 _ ?side1 ?side2 ?side3 ?side4 A22.out).mono ?_); (case side1 => exact dC (Kd.R_reads' HO610.out).2.2); (case side2 => exact (Kd.R_reads' HO610.out).2.1); (case side3 => exact dC (Kd.R_reads' HO613.out).2.2); (case side4 => exact (Kd.R_reads' HO613.out).2.1); rintro e w41 ⟨v616, rfl, ho0, hb⟩; refine ⟨_, rfl, ?_⟩; have HO617 := Aside0.mk (Kd.R_lower (Kd.R_new' (Kd.R_new' (Kd.R_new' (Kd.R_new' (Kd.R_new' ho0 (Kd.R_lt (dR HO600.out))) (Kd.R_lt (dR HO603.out))) (Kd.R_lt (dR HO607.out))) (Kd.R_lt (dR HO610.out))) (Kd.R_lt (dR HO613.out))) (below_size dB)); replace HO600 := Aside0.mk (Kd.R_elder' (dR HO600.out) (Kd.R_base ho0) hb); replace HO603 := Aside0.mk (Kd.R_elder' (dR HO603.out) (Kd.R_base ho0) hb); replace HO607 := Aside0.mk (Kd.R_elder' (dR HO607.out) (Kd.R_base ho0) hb); replace HO610 := Aside0.mk (Kd.R_elder' (dR HO610.out) (Kd.R_base ho0) hb); replace HO613 := Aside0.mk (Kd.R_elder' (dR HO613.out) (Kd.R_base ho0) hb); replace HB := Aside0.mk (below_step dB hb); (try clear hb); (try clear ho0); obtain ⟨Ao42, co42, eo42⟩ := Kd.R_slice HO607.out; subst eo42) | ((with_reducible refine gate_callee (f := 21) rfl ?_); refine gL (some 81) Tryd.func21 #[.bool false, .slice Ao42 t604.length co42, .int .i64 (wrap64 (t588 + a1)), .bool false, .int .i64 0] ?_; (with_reducible refine (near_Scaled.calls kj5 false _ _ t604 (wrap64 (t588 + a1)) false 0 t618 t619 _ ?side1 ?side2 A23.out).mono ?_); (case side1 => exact dC (Kd.R_reads' HO607.out).2.2); (case side2 => exact (Kd.R_reads' HO607.out).2.1); rintro e w43 ⟨rfl, hb⟩; refine ⟨_, rfl, ?_⟩; replace HO600 := Aside0.mk (Kd.R_below (dR HO600.out) hb); replace HO603 := Aside0.mk (Kd.R_below (dR HO603.out) hb); replace HO607 := Aside0.mk (Kd.R_below (dR HO607.out) hb); replace HO610 := Aside0.mk (Kd.R_below (dR HO610.out) hb); replace HO613 := Aside0.mk (Kd.R_below (dR HO613.out) hb); replace HO617 := Aside0.mk (Kd.R_below (dR HO617.out) hb); replace HB := Aside0.mk (below_step dB hb); (try clear hb); obtain ⟨Ao44, co44, eo44⟩ := Kd.R_slice HO617.out; subst eo44) | ((with_reducible refine gate_callee (f := 21) rfl ?_); refine gL (some 89) Tryd.func21 #[.bool false, .slice Ao44 t614.length co44, .int .i64 (wrap64 (t592 + a1)), .bool false, .int .i64 0] ?_; (with_reducible refine (near_Scaled.calls kj5 false _ _ t614 (wrap64 (t592 + a1)) false 0 t620 t621 _ ?side1 ?side2 A24.out).mono ?_); (case side1 => exact dC (Kd.R_reads' HO617.out).2.2); (case side2 => exact (Kd.R_reads' HO617.out).2.1); rintro e w45 ⟨rfl, hb⟩; refine ⟨_, rfl, ?_⟩; replace HO600 := Aside0.mk (Kd.R_below (dR HO600.out) hb); replace HO603 := Aside0.mk (Kd.R_below (dR HO603.out) hb); replace HO607 := Aside0.mk (Kd.R_below (dR HO607.out) hb); replace HO610 := Aside0.mk (Kd.R_below (dR HO610.out) hb); replace HO613 := Aside0.mk (Kd.R_below (dR HO613.out) hb); replace HO617 := Aside0.mk (Kd.R_below (dR HO617.out) hb); replace HB := Aside0.mk (below_step dB hb); (try clear hb)))
       go_ret
       exact ⟨dE, dB⟩
      ·rw [if_neg c27] at H
       have c27b0 : (t595 == t619) = false := beq_eq_false_iff_ne.mpr c27
       have c27b1 : (t595 != t619) = true := bne_iff_ne.mpr c27
       obtain rfl := Option.some.inj H
       go_wp2_with (first | ((with_reducible refine gate_dst (N := 60) rfl ?_); refine Kd.R_lit (Kd.int .u64) _ 22 ?hg (N := 60) ?hd (xs := ([a0] : List Int)) (inner := [.int .u64 a0]) (ok := fun _ => True) (okp := fun _ => True) ?hr ?hp (fun _ hk => hk) trivial (Below.refl _ _) (Nat.le_refl _) (by simp) ?_; (case hd => rfl); (case hg => rfl); (case hr => first | (go_simp; done) | (go_simp; rfl)); (case hp => exact (Reps.one (show Kd.M (Kd.int .u64) _ _ _ a0 [.int .u64 a0] from rfl) (Reps.none _ _))); intro v599 w46 ho47 hb hg_ hnew_; clear hg_ hnew_; (first | rw [← Ny598.out] at ho47 | (simp only [Int.reduceToNat] at ho47; rw [← Ny598.out] at ho47)); have HO600 := Aside0.mk (Kd.R_lower ho47 (below_size dB)); replace HB := Aside0.mk (below_step dB hb); clear hb ho47) | ((with_reducible refine gate_dst (N := 63) rfl ?_); refine Kd.R_lit (Kd.int .u64) _ 22 ?hg (N := 63) ?hd (xs := ([t587, t586] : List Int)) (inner := [.int .u64 t587, .int .u64 t586]) (ok := fun _ => True) (okp := fun _ => True) ?hr ?hp (fun _ hk => hk) trivial (Below.refl _ _) (Nat.le_refl _) (by simp) ?_; (case hd => rfl); (case hg => rfl); (case hr => first | (go_simp; done) | (go_simp; rfl)); (case hp => exact (Reps.one (show Kd.M (Kd.int .u64) _ _ _ t587 [.int .u64 t587] from rfl) (Reps.one (show Kd.M (Kd.int .u64) _ _ _ t586 [.int .u64 t586] from rfl) (Reps.none _ _)))); intro v602 w48 ho49 hb hg_ hnew_; clear hg_ hnew_; (first | rw [← Ny601.out] at ho49 | (simp only [Int.reduceToNat] at ho49; rw [← Ny601.out] at ho49)); have HO603 := Aside0.mk (Kd.R_lower (Kd.R_new' ho49 (Kd.R_lt (dR HO600.out))) (below_size dB)); replace HO600 := Aside0.mk (Kd.R_elder' (dR HO600.out) (Kd.R_base ho49) hb); replace HB := Aside0.mk (below_step dB hb); clear hb ho49; obtain ⟨Ao50, co50, eo50⟩ := Kd.R_slice HO600.out; subst eo50; obtain ⟨Ao51, co51, eo51⟩ := Kd.R_slice HO603.out; subst eo51) | ((with_reducible refine gate_callee (f := 20) rfl ?_); refine gL (some 64) Tryd.func20 #[.slice Ao50 y598.length co50, .slice Ao51 y601.length co51] ?_; (with_reducible refine (nat_Mul.calls kj5 _ _ y598 _ _ y601 t604 t605 _ ?side1 ?side2 ?side3 ?side4 A21.out).mono ?_); (case side1 => exact dC (Kd.R_reads' HO600.out).2.2); (case side2 => exact (Kd.R_reads' HO600.out).2.1); (case side3 => exact dC (Kd.R_reads' HO603.out).2.2); (case side4 => exact (Kd.R_reads' HO603.out).2.1); rintro e w52 ⟨v606, rfl, ho0, hb⟩; refine ⟨_, rfl, ?_⟩; have HO607 := Aside0.mk (Kd.R_lower (Kd.R_new' (Kd.R_new' ho0 (Kd.R_lt (dR HO600.out))) (Kd.R_lt (dR HO603.out))) (below_size dB)); replace HO600 := Aside0.mk (Kd.R_elder' (dR HO600.out) (Kd.R_base ho0) hb); replace HO603 := Aside0.mk (Kd.R_elder' (dR HO603.out) (Kd.R_base ho0) hb); replace HB := Aside0.mk (below_step dB hb); (try clear hb); (try clear ho0)) | ((with_reducible refine gate_dst (N := 69) rfl ?_); refine Kd.R_lit (Kd.int .u64) _ 22 ?hg (N := 69) ?hd (xs := ([a0] : List Int)) (inner := [.int .u64 a0]) (ok := fun _ => True) (okp := fun _ => True) ?hr ?hp (fun _ hk => hk) trivial (Below.refl _ _) (Nat.le_refl _) (by simp) ?_; (case hd => rfl); (case hg => rfl); (case hr => first | (go_simp; done) | (go_simp; rfl)); (case hp => exact (Reps.one (show Kd.M (Kd.int .u64) _ _ _ a0 [.int .u64 a0] from rfl) (Reps.none _ _))); intro v609 w53 ho54 hb hg_ hnew_; clear hg_ hnew_; (first | rw [← Ny608.out] at ho54 | (simp only [Int.reduceToNat] at ho54; rw [← Ny608.out] at ho54)); have HO610 := Aside0.mk (Kd.R_lower (Kd.R_new' (Kd.R_new' (Kd.R_new' ho54 (Kd.R_lt (dR HO600.out))) (Kd.R_lt (dR HO603.out))) (Kd.R_lt (dR HO607.out))) (below_size dB)); replace HO600 := Aside0.mk (Kd.R_elder' (dR HO600.out) (Kd.R_base ho54) hb); replace HO603 := Aside0.mk (Kd.R_elder' (dR HO603.out) (Kd.R_base ho54) hb); replace HO607 := Aside0.mk (Kd.R_elder' (dR HO607.out) (Kd.R_base ho54) hb); replace HB := Aside0.mk (below_step dB hb); clear hb ho54) | ((with_reducible refine gate_dst (N := 72) rfl ?_); refine Kd.R_lit (Kd.int .u64) _ 22 ?hg (N := 72) ?hd (xs := ([t591, t590] : List Int)) (inner := [.int .u64 t591, .int .u64 t590]) (ok := fun _ => True) (okp := fun _ => True) ?hr ?hp (fun _ hk => hk) trivial (Below.refl _ _) (Nat.le_refl _) (by simp) ?_; (case hd => rfl); (case hg => rfl); (case hr => first | (go_simp; done) | (go_simp; rfl)); (case hp => exact (Reps.one (show Kd.M (Kd.int .u64) _ _ _ t591 [.int .u64 t591] from rfl) (Reps.one (show Kd.M (Kd.int .u64) _ _ _ t590 [.int .u64 t590] from rfl) (Reps.none _ _)))); intro v612 w55 ho56 hb hg_ hnew_; clear hg_ hnew_; (first | rw [← Ny611.out] at ho56 | (simp only [Int.reduceToNat] at ho56; rw [← Ny611.out] at ho56)); have HO613 := Aside0.mk (Kd.R_lower (Kd.R_new' (Kd.R_new' (Kd.R_new' (Kd.R_new' ho56 (Kd.R_lt (dR HO600.out))) (Kd.R_lt (dR HO603.out))) (Kd.R_lt (dR HO607.out))) (Kd.R_lt (dR HO610.out))) (below_size dB)); replace HO600 := Aside0.mk (Kd.R_elder' (dR HO600.out) (Kd.R_base ho56) hb); replace HO603 := Aside0.mk (Kd.R_elder' (dR HO603.out) (Kd.R_base ho56) hb); replace HO607 := Aside0.mk (Kd.R_elder' (dR HO607.out) (Kd.R_base ho56) hb); replace HO610 := Aside0.mk (Kd.R_elder' (dR HO610.out) (Kd.R_base ho56) hb); replace HB := Aside0.mk (below_step dB hb); clear hb ho56; obtain ⟨Ao57, co57, eo57⟩ := Kd.R_slice HO610.out; subst eo57; obtain ⟨Ao58, co58, eo58⟩ := Kd.R_slice HO613.out; subst eo58) | ((with_reducible refine gate_callee (f := 20) rfl ?_); refine gL (some 73) Tryd.func20 #[.slice Ao57 y608.length co57, .slice Ao58 y611.length co58] ?_; (with_reducible refine (nat_Mul.calls kj5 _ _ y608 _ _ y611 t614 t615 _ ?side1 ?side2 ?side3 ?side4 A22.out).mono ?_); (case side1 => exact dC (Kd.R_reads' HO610.out).2.2); (case side2 => exact (Kd.R_reads' HO610.out).2.1); (case side3 => exact dC (Kd.R_reads' HO613.out).2.2); (case side4 => exact (Kd.R_reads' HO613.out).2.1); rintro e w59 ⟨v616, rfl, ho0, hb⟩; refine ⟨_, rfl, ?_⟩; have HO617 := Aside0.mk (Kd.R_lower (Kd.R_new' (Kd.R_new' (Kd.R_new' (Kd.R_new' (Kd.R_new' ho0 (Kd.R_lt (dR HO600.out))) (Kd.R_lt (dR HO603.out))) (Kd.R_lt (dR HO607.out))) (Kd.R_lt (dR HO610.out))) (Kd.R_lt (dR HO613.out))) (below_size dB)); replace HO600 := Aside0.mk (Kd.R_elder' (dR HO600.out) (Kd.R_base ho0) hb); replace HO603 := Aside0.mk (Kd.R_elder' (dR HO603.out) (Kd.R_base ho0) hb); replace HO607 := Aside0.mk (Kd.R_elder' (dR HO607.out) (Kd.R_base ho0) hb); replace HO610 := Aside0.mk (Kd.R_elder' (dR HO610.out) (Kd.R_base ho0) hb); replace HO613 := Aside0.mk (Kd.R_elder' (dR HO613.out) (Kd.R_base ho0) hb); replace HB := Aside0.mk (below_step dB hb); (try clear hb); (try clear ho0); obtain ⟨Ao60, co60, eo60⟩ := Kd.R_slice HO607.out; subst eo60) | ((with_reducible refine gate_callee (f := 21) rfl ?_); refine gL (some 81) Tryd.func21 #[.bool false, .slice Ao60 t604.length co60, .int .i64 (wrap64 (t588 + a1)), .bool false, .int .i64 0] ?_; (with_reducible refine (near_Scaled.calls kj5 false _ _ t604 (wrap64 (t588 + a1)) false 0 t618 t619 _ ?side1 ?side2 A23.out).mono ?_); (case side1 => exact dC (Kd.R_reads' HO607.out).2.2); (case side2 => exact (Kd.R_reads' HO607.out).2.1); rintro e w61 ⟨rfl, hb⟩; refine ⟨_, rfl, ?_⟩; replace HO600 := Aside0.mk (Kd.R_below (dR HO600.out) hb); replace HO603 := Aside0.mk (Kd.R_below (dR HO603.out) hb); replace HO607 := Aside0.mk (Kd.R_below (dR HO607.out) hb); replace HO610 := Aside0.mk (Kd.R_below (dR HO610.out) hb); replace HO613 := Aside0.mk (Kd.R_below (dR HO613.out) hb); replace HO617 := Aside0.mk (Kd.R_below (dR HO617.out) hb); replace HB := Aside0.mk (below_step dB hb); (try clear hb); obtain ⟨Ao62, co62, eo62⟩ := Kd.R_slice HO617.out; subst eo62) | ((with_reducible refine gate_callee (f := 21) rfl ?_); refine gL (some 89) Tryd.func21 #[.bool false, .slice Ao62 t614.length co62, .int .i64 (wrap64 (t592 + a1)), .bool false, .int .i64 0] ?_; (with_reducible refine (near_Scaled.calls kj5 false _ _ t614 (wrap64 (t592 + a1)) false 0 t620 t621 _ ?side1 ?side2 A24.out).mono ?_); (case side1 => exact dC (Kd.R_reads' HO617.out).2.2); (case side2 => exact (Kd.R_reads' HO617.out).2.1); rintro e w63 ⟨rfl, hb⟩; refine ⟨_, rfl, ?_⟩; replace HO600 := Aside0.mk (Kd.R_below (dR HO600.out) hb); replace HO603 := Aside0.mk (Kd.R_below (dR HO603.out) hb); replace HO607 := Aside0.mk (Kd.R_below (dR HO607.out) hb); replace HO610 := Aside0.mk (Kd.R_below (dR HO610.out) hb); replace HO613 := Aside0.mk (Kd.R_below (dR HO613.out) hb); replace HO617 := Aside0.mk (Kd.R_below (dR HO617.out) hb); replace HB := Aside0.mk (below_step dB hb); (try clear hb)))
       go_ret
       exact ⟨dE, dB⟩
     ·rw [if_neg c26] at H
      have c26b0 : (t618 == t620) = false := beq_eq_false_iff_ne.mpr c26
      have c26b1 : (t618 != t620) = true := bne_iff_ne.mpr c26
      by_cases c64 : t595 = 100
      ·rw [if_pos c64] at H
       have c64b0 : (t595 == 100) = true := beq_iff_eq.mpr c64
       have c64b1 : (t595 != 100) = false := bne_eq_false_iff_eq.mpr c64
       clear c64
       obtain rfl := Option.some.inj H
       go_wp2_with (first | ((with_reducible refine gate_dst (N := 60) rfl ?_); refine Kd.R_lit (Kd.int .u64) _ 22 ?hg (N := 60) ?hd (xs := ([a0] : List Int)) (inner := [.int .u64 a0]) (ok := fun _ => True) (okp := fun _ => True) ?hr ?hp (fun _ hk => hk) trivial (Below.refl _ _) (Nat.le_refl _) (by simp) ?_; (case hd => rfl); (case hg => rfl); (case hr => first | (go_simp; done) | (go_simp; rfl)); (case hp => exact (Reps.one (show Kd.M (Kd.int .u64) _ _ _ a0 [.int .u64 a0] from rfl) (Reps.none _ _))); intro v599 w65 ho66 hb hg_ hnew_; clear hg_ hnew_; (first | rw [← Ny598.out] at ho66 | (simp only [Int.reduceToNat] at ho66; rw [← Ny598.out] at ho66)); have HO600 := Aside0.mk (Kd.R_lower ho66 (below_size dB)); replace HB := Aside0.mk (below_step dB hb); clear hb ho66) | ((with_reducible refine gate_dst (N := 63) rfl ?_); refine Kd.R_lit (Kd.int .u64) _ 22 ?hg (N := 63) ?hd (xs := ([t587, t586] : List Int)) (inner := [.int .u64 t587, .int .u64 t586]) (ok := fun _ => True) (okp := fun _ => True) ?hr ?hp (fun _ hk => hk) trivial (Below.refl _ _) (Nat.le_refl _) (by simp) ?_; (case hd => rfl); (case hg => rfl); (case hr => first | (go_simp; done) | (go_simp; rfl)); (case hp => exact (Reps.one (show Kd.M (Kd.int .u64) _ _ _ t587 [.int .u64 t587] from rfl) (Reps.one (show Kd.M (Kd.int .u64) _ _ _ t586 [.int .u64 t586] from rfl) (Reps.none _ _)))); intro v602 w67 ho68 hb hg_ hnew_; clear hg_ hnew_; (first | rw [← Ny601.out] at ho68 | (simp only [Int.reduceToNat] at ho68; rw [← Ny601.out] at ho68)); have HO603 := Aside0.mk (Kd.R_lower (Kd.R_new' ho68 (Kd.R_lt (dR HO600.out))) (below_size dB)); replace HO600 := Aside0.mk (Kd.R_elder' (dR HO600.out) (Kd.R_base ho68) hb); replace HB := Aside0.mk (below_step dB hb); clear hb ho68; obtain ⟨Ao69, co69, eo69⟩ := Kd.R_slice HO600.out; subst eo69; obtain ⟨Ao70, co70, eo70⟩ := Kd.R_slice HO603.out; subst eo70) | ((with_reducible refine gate_callee (f := 20) rfl ?_); refine gL (some 64) Tryd.func20 #[.slice Ao69 y598.length co69, .slice Ao70 y601.length co70] ?_; (with_reducible refine (nat_Mul.calls kj5 _ _ y598 _ _ y601 t604 t605 _ ?side1 ?side2 ?side3 ?side4 A21.out).mono ?_); (case side1 => exact dC (Kd.R_reads' HO600.out).2.2); (case side2 => exact (Kd.R_reads' HO600.out).2.1); (case side3 => exact dC (Kd.R_reads' HO603.out).2.2); (case side4 => exact (Kd.R_reads' HO603.out).2.1); rintro e w71 ⟨v606, rfl, ho0, hb⟩; refine ⟨_, rfl, ?_⟩; have HO607 := Aside0.mk (Kd.R_lower (Kd.R_new' (Kd.R_new' ho0 (Kd.R_lt (dR HO600.out))) (Kd.R_lt (dR HO603.out))) (below_size dB)); replace HO600 := Aside0.mk (Kd.R_elder' (dR HO600.out) (Kd.R_base ho0) hb); replace HO603 := Aside0.mk (Kd.R_elder' (dR HO603.out) (Kd.R_base ho0) hb); replace HB := Aside0.mk (below_step dB hb); (try clear hb); (try clear ho0)) | ((with_reducible refine gate_dst (N := 69) rfl ?_); refine Kd.R_lit (Kd.int .u64) _ 22 ?hg (N := 69) ?hd (xs := ([a0] : List Int)) (inner := [.int .u64 a0]) (ok := fun _ => True) (okp := fun _ => True) ?hr ?hp (fun _ hk => hk) trivial (Below.refl _ _) (Nat.le_refl _) (by simp) ?_; (case hd => rfl); (case hg => rfl); (case hr => first | (go_simp; done) | (go_simp; rfl)); (case hp => exact (Reps.one (show Kd.M (Kd.int .u64) _ _ _ a0 [.int .u64 a0] from rfl) (Reps.none _ _))); intro v609 w72 ho73 hb hg_ hnew_; clear hg_ hnew_; (first | rw [← Ny608.out] at ho73 | (simp only [Int.reduceToNat] at ho73; rw [← Ny608.out] at ho73)); have HO610 := Aside0.mk (Kd.R_lower (Kd.R_new' (Kd.R_new' (Kd.R_new' ho73 (Kd.R_lt (dR HO600.out))) (Kd.R_lt (dR HO603.out))) (Kd.R_lt (dR HO607.out))) (below_size dB)); replace HO600 := Aside0.mk (Kd.R_elder' (dR HO600.out) (Kd.R_base ho73) hb); replace HO603 := Aside0.mk (Kd.R_elder' (dR HO603.out) (Kd.R_base ho73) hb); replace HO607 := Aside0.mk (Kd.R_elder' (dR HO607.out) (Kd.R_base ho73) hb); replace HB := Aside0.mk (below_step dB hb); clear hb ho73) | ((with_reducible refine gate_dst (N := 72) rfl ?_); refine Kd.R_lit (Kd.int .u64) _ 22 ?hg (N := 72) ?hd (xs := ([t591, t590] : List Int)) (inner := [.int .u64 t591, .int .u64 t590]) (ok := fun _ => True) (okp := fun _ => True) ?hr ?hp (fun _ hk => hk) trivial (Below.refl _ _) (Nat.le_refl _) (by simp) ?_; (case hd => rfl); (case hg => rfl); (case hr => first | (go_simp; done) | (go_simp; rfl)); (case hp => exact (Reps.one (show Kd.M (Kd.int .u64) _ _ _ t591 [.int .u64 t591] from rfl) (Reps.one (show Kd.M (Kd.int .u64) _ _ _ t590 [.int .u64 t590] from rfl) (Reps.none _ _)))); intro v612 w74 ho75 hb hg_ hnew_; clear hg_ hnew_; (first | rw [← Ny611.out] at ho75 | (simp only [Int.reduceToNat] at ho75; rw [← Ny611.out] at ho75)); have HO613 := Aside0.mk (Kd.R_lower (Kd.R_new' (Kd.R_new' (Kd.R_new' (Kd.R_new' ho75 (Kd.R_lt (dR HO600.out))) (Kd.R_lt (dR HO603.out))) (Kd.R_lt (dR HO607.out))) (Kd.R_lt (dR HO610.out))) (below_size dB)); replace HO600 := Aside0.mk (Kd.R_elder' (dR HO600.out) (Kd.R_base ho75) hb); replace HO603 := Aside0.mk (Kd.R_elder' (dR HO603.out) (Kd.R_base ho75) hb); replace HO607 := Aside0.mk (Kd.R_elder' (dR HO607.out) (Kd.R_base ho75) hb); replace HO610 := Aside0.mk (Kd.R_elder' (dR HO610.out) (Kd.R_base ho75) hb); replace HB := Aside0.mk (below_step dB hb); clear hb ho75; obtain ⟨Ao76, co76, eo76⟩ := Kd.R_slice HO610.out; subst eo76; obtain ⟨Ao77, co77, eo77⟩ := Kd.R_slice HO613.out; subst eo77) | ((with_reducible refine gate_callee (f := 20) rfl ?_); refine gL (some 73) Tryd.func20 #[.slice Ao76 y608.length co76, .slice Ao77 y611.length co77] ?_; (with_reducible refine (nat_Mul.calls kj5 _ _ y608 _ _ y611 t614 t615 _ ?side1 ?side2 ?side3 ?side4 A22.out).mono ?_); (case side1 => exact dC (Kd.R_reads' HO610.out).2.2); (case side2 => exact (Kd.R_reads' HO610.out).2.1); (case side3 => exact dC (Kd.R_reads' HO613.out).2.2); (case side4 => exact (Kd.R_reads' HO613.out).2.1); rintro e w78 ⟨v616, rfl, ho0, hb⟩; refine ⟨_, rfl, ?_⟩; have HO617 := Aside0.mk (Kd.R_lower (Kd.R_new' (Kd.R_new' (Kd.R_new' (Kd.R_new' (Kd.R_new' ho0 (Kd.R_lt (dR HO600.out))) (Kd.R_lt (dR HO603.out))) (Kd.R_lt (dR HO607.out))) (Kd.R_lt (dR HO610.out))) (Kd.R_lt (dR HO613.out))) (below_size dB)); replace HO600 := Aside0.mk (Kd.R_elder' (dR HO600.out) (Kd.R_base ho0) hb); replace HO603 := Aside0.mk (Kd.R_elder' (dR HO603.out) (Kd.R_base ho0) hb); replace HO607 := Aside0.mk (Kd.R_elder' (dR HO607.out) (Kd.R_base ho0) hb); replace HO610 := Aside0.mk (Kd.R_elder' (dR HO610.out) (Kd.R_base ho0) hb); replace HO613 := Aside0.mk (Kd.R_elder' (dR HO613.out) (Kd.R_base ho0) hb); replace HB := Aside0.mk (below_step dB hb); (try clear hb); (try clear ho0); obtain ⟨Ao79, co79, eo79⟩ := Kd.R_slice HO607.out; subst eo79) | ((with_reducible refine gate_callee (f := 21) rfl ?_); refine gL (some 81) Tryd.func21 #[.bool false, .slice Ao79 t604.length co79, .int .i64 (wrap64 (t588 + a1)), .bool false, .int .i64 0] ?_; (with_reducible refine (near_Scaled.calls kj5 false _ _ t604 (wrap64 (t588 + a1)) false 0 t618 t619 _ ?side1 ?side2 A23.out).mono ?_); (case side1 => exact dC (Kd.R_reads' HO607.out).2.2); (case side2 => exact (Kd.R_reads' HO607.out).2.1); rintro e w80 ⟨rfl, hb⟩; refine ⟨_, rfl, ?_⟩; replace HO600 := Aside0.mk (Kd.R_below (dR HO600.out) hb); replace HO603 := Aside0.mk (Kd.R_below (dR HO603.out) hb); replace HO607 := Aside0.mk (Kd.R_below (dR HO607.out) hb); replace HO610 := Aside0.mk (Kd.R_below (dR HO610.out) hb); replace HO613 := Aside0.mk (Kd.R_below (dR HO613.out) hb); replace HO617 := Aside0.mk (Kd.R_below (dR HO617.out) hb); replace HB := Aside0.mk (below_step dB hb); (try clear hb); obtain ⟨Ao81, co81, eo81⟩ := Kd.R_slice HO617.out; subst eo81) | ((with_reducible refine gate_callee (f := 21) rfl ?_); refine gL (some 89) Tryd.func21 #[.bool false, .slice Ao81 t614.length co81, .int .i64 (wrap64 (t592 + a1)), .bool false, .int .i64 0] ?_; (with_reducible refine (near_Scaled.calls kj5 false _ _ t614 (wrap64 (t592 + a1)) false 0 t620 t621 _ ?side1 ?side2 A24.out).mono ?_); (case side1 => exact dC (Kd.R_reads' HO617.out).2.2); (case side2 => exact (Kd.R_reads' HO617.out).2.1); rintro e w82 ⟨rfl, hb⟩; refine ⟨_, rfl, ?_⟩; replace HO600 := Aside0.mk (Kd.R_below (dR HO600.out) hb); replace HO603 := Aside0.mk (Kd.R_below (dR HO603.out) hb); replace HO607 := Aside0.mk (Kd.R_below (dR HO607.out) hb); replace HO610 := Aside0.mk (Kd.R_below (dR HO610.out) hb); replace HO613 := Aside0.mk (Kd.R_below (dR HO613.out) hb); replace HO617 := Aside0.mk (Kd.R_below (dR HO617.out) hb); replace HB := Aside0.mk (below_step dB hb); (try clear hb)))
       go_ret
       exact ⟨dE, dB⟩
      ·rw [if_neg c64] at H
       have c64b0 : (t595 == 100) = false := beq_eq_false_iff_ne.mpr c64
       have c64b1 : (t595 != 100) = true := bne_iff_ne.mpr c64
       obtain rfl := Option.some.inj H
       go_wp2_with (first | ((with_reducible refine gate_dst (N := 60) rfl ?_); refine Kd.R_lit (Kd.int .u64) _ 22 ?hg (N := 60) ?hd (xs := ([a0] : List Int)) (inner := [.int .u64 a0]) (ok := fun _ => True) (okp := fun _ => True) ?hr ?hp (fun _ hk => hk) trivial (Below.refl _ _) (Nat.le_refl _) (by simp) ?_; (case hd => rfl); (case hg => rfl); (case hr => first | (go_simp; done) | (go_simp; rfl)); (case hp => exact (Reps.one (show Kd.M (Kd.int .u64) _ _ _ a0 [.int .u64 a0] from rfl) (Reps.none _ _))); intro v599 w83 ho84 hb hg_ hnew_; clear hg_ hnew_; (first | rw [← Ny598.out] at ho84 | (simp only [Int.reduceToNat] at ho84; rw [← Ny598.out] at ho84)); have HO600 := Aside0.mk (Kd.R_lower ho84 (below_size dB)); replace HB := Aside0.mk (below_step dB hb); clear hb ho84) | ((with_reducible refine gate_dst (N := 63) rfl ?_); refine Kd.R_lit (Kd.int .u64) _ 22 ?hg (N := 63) ?hd (xs := ([t587, t586] : List Int)) (inner := [.int .u64 t587, .int .u64 t586]) (ok := fun _ => True) (okp := fun _ => True) ?hr ?hp (fun _ hk => hk) trivial (Below.refl _ _) (Nat.le_refl _) (by simp) ?_; (case hd => rfl); (case hg => rfl); (case hr => first | (go_simp; done) | (go_simp; rfl)); (case hp => exact (Reps.one (show Kd.M (Kd.int .u64) _ _ _ t587 [.int .u64 t587] from rfl) (Reps.one (show Kd.M (Kd.int .u64) _ _ _ t586 [.int .u64 t586] from rfl) (Reps.none _ _)))); intro v602 w85 ho86 hb hg_ hnew_; clear hg_ hnew_; (first | rw [← Ny601.out] at ho86 | (simp only [Int.reduceToNat] at ho86; rw [← Ny601.out] at ho86)); have HO603 := Aside0.mk (Kd.R_lower (Kd.R_new' ho86 (Kd.R_lt (dR HO600.out))) (below_size dB)); replace HO600 := Aside0.mk (Kd.R_elder' (dR HO600.out) (Kd.R_base ho86) hb); replace HB := Aside0.mk (below_step dB hb); clear hb ho86; obtain ⟨Ao87, co87, eo87⟩ := Kd.R_slice HO600.out; subst eo87; obtain ⟨Ao88, co88, eo88⟩ := Kd.R_slice HO603.out; subst eo88) | ((with_reducible refine gate_callee (f := 20) rfl ?_); refine gL (some 64) Tryd.func20 #[.slice Ao87 y598.length co87, .slice Ao88 y601.length co88] ?_; (with_reducible refine (nat_Mul.calls kj5 _ _ y598 _ _ y601 t604 t605 _ ?side1 ?side2 ?side3 ?side4 A21.out).mono ?_); (case side1 => exact dC (Kd.R_reads' HO600.out).2.2); (case side2 => exact (Kd.R_reads' HO600.out).2.1); (case side3 => exact dC (Kd.R_reads' HO603.out).2.2); (case side4 => exact (Kd.R_reads' HO603.out).2.1); rintro e w89 ⟨v606, rfl, ho0, hb⟩; refine ⟨_, rfl, ?_⟩; have HO607 := Aside0.mk (Kd.R_lower (Kd.R_new' (Kd.R_new' ho0 (Kd.R_lt (dR HO600.out))) (Kd.R_lt (dR HO603.out))) (below_size dB)); replace HO600 := Aside0.mk (Kd.R_elder' (dR HO600.out) (Kd.R_base ho0) hb); replace HO603 := Aside0.mk (Kd.R_elder' (dR HO603.out) (Kd.R_base ho0) hb); replace HB := Aside0.mk (below_step dB hb); (try clear hb); (try clear ho0)) | ((with_reducible refine gate_dst (N := 69) rfl ?_); refine Kd.R_lit (Kd.int .u64) _ 22 ?hg (N := 69) ?hd (xs := ([a0] : List Int)) (inner := [.int .u64 a0]) (ok := fun _ => True) (okp := fun _ => True) ?hr ?hp (fun _ hk => hk) trivial (Below.refl _ _) (Nat.le_refl _) (by simp) ?_; (case hd => rfl); (case hg => rfl); (case hr => first | (go_simp; done) | (go_simp; rfl)); (case hp => exact (Reps.one (show Kd.M (Kd.int .u64) _ _ _ a0 [.int .u64 a0] from rfl) (Reps.none _ _))); intro v609 w90 ho91 hb hg_ hnew_; clear hg_ hnew_; (first | rw [← Ny608.out] at ho91 | (simp only [Int.reduceToNat] at ho91; rw [← Ny608.out] at ho91)); have HO610 := Aside0.mk (Kd.R_lower (Kd.R_new' (Kd.R_new' (Kd.R_new' ho91 (Kd.R_lt (dR HO600.out))) (Kd.R_lt (dR HO603.out))) (Kd.R_lt (dR HO607.out))) (below_size dB)); replace HO600 := Aside0.mk (Kd.R_elder' (dR HO600.out) (Kd.R_base ho91) hb); replace HO603 := Aside0.mk (Kd.R_elder' (dR HO603.out) (Kd.R_base ho91) hb); replace HO607 := Aside0.mk (Kd.R_elder' (dR HO607.out) (Kd.R_base ho91) hb); replace HB := Aside0.mk (below_step dB hb); clear hb ho91) | ((with_reducible refine gate_dst (N := 72) rfl ?_); refine Kd.R_lit (Kd.int .u64) _ 22 ?hg (N := 72) ?hd (xs := ([t591, t590] : List Int)) (inner := [.int .u64 t591, .int .u64 t590]) (ok := fun _ => True) (okp := fun _ => True) ?hr ?hp (fun _ hk => hk) trivial (Below.refl _ _) (Nat.le_refl _) (by simp) ?_; (case hd => rfl); (case hg => rfl); (case hr => first | (go_simp; done) | (go_simp; rfl)); (case hp => exact (Reps.one (show Kd.M (Kd.int .u64) _ _ _ t591 [.int .u64 t591] from rfl) (Reps.one (show Kd.M (Kd.int .u64) _ _ _ t590 [.int .u64 t590] from rfl) (Reps.none _ _)))); intro v612 w92 ho93 hb hg_ hnew_; clear hg_ hnew_; (first | rw [← Ny611.out] at ho93 | (simp only [Int.reduceToNat] at ho93; rw [← Ny611.out] at ho93)); have HO613 := Aside0.mk (Kd.R_lower (Kd.R_new' (Kd.R_new' (Kd.R_new' (Kd.R_new' ho93 (Kd.R_lt (dR HO600.out))) (Kd.R_lt (dR HO603.out))) (Kd.R_lt (dR HO607.out))) (Kd.R_lt (dR HO610.out))) (below_size dB)); replace HO600 := Aside0.mk (Kd.R_elder' (dR HO600.out) (Kd.R_base ho93) hb); replace HO603 := Aside0.mk (Kd.R_elder' (dR HO603.out) (Kd.R_base ho93) hb); replace HO607 := Aside0.mk (Kd.R_elder' (dR HO607.out) (Kd.R_base ho93) hb); replace HO610 := Aside0.mk (Kd.R_elder' (dR HO610.out) (Kd.R_base ho93) hb); replace HB := Aside0.mk (below_step dB hb); clear hb ho93; obtain ⟨Ao94, co94, eo94⟩ := Kd.R_slice HO610.out; subst eo94; obtain ⟨Ao95, co95, eo95⟩ := Kd.R_slice HO613.out; subst eo95) | ((with_reducible refine gate_callee (f := 20) rfl ?_); refine gL (some 73) Tryd.func20 #[.slice Ao94 y608.length co94, .slice Ao95 y611.length co95] ?_; (with_reducible refine (nat_Mul.calls kj5 _ _ y608 _ _ y611 t614 t615 _ ?side1 ?side2 ?side3 ?side4 A22.out).mono ?_); (case side1 => exact dC (Kd.R_reads' HO610.out).2.2); (case side2 => exact (Kd.R_reads' HO610.out).2.1); (case side3 => exact dC (Kd.R_reads' HO613.out).2.2); (case side4 => exact (Kd.R_reads' HO613.out).2.1); rintro e w96 ⟨v616, rfl, ho0, hb⟩; refine ⟨_, rfl, ?_⟩; have HO617 := Aside0.mk (Kd.R_lower (Kd.R_new' (Kd.R_new' (Kd.R_new' (Kd.R_new' (Kd.R_new' ho0 (Kd.R_lt (dR HO600.out))) (Kd.R_lt (dR HO603.out))) (Kd.R_lt (dR HO607.out))) (Kd.R_lt (dR HO610.out))) (Kd.R_lt (dR HO613.out))) (below_size dB)); replace HO600 := Aside0.mk (Kd.R_elder' (dR HO600.out) (Kd.R_base ho0) hb); replace HO603 := Aside0.mk (Kd.R_elder' (dR HO603.out) (Kd.R_base ho0) hb); replace HO607 := Aside0.mk (Kd.R_elder' (dR HO607.out) (Kd.R_base ho0) hb); replace HO610 := Aside0.mk (Kd.R_elder' (dR HO610.out) (Kd.R_base ho0) hb); replace HO613 := Aside0.mk (Kd.R_elder' (dR HO613.out) (Kd.R_base ho0) hb); replace HB := Aside0.mk (below_step dB hb); (try clear hb); (try clear ho0); obtain ⟨Ao97, co97, eo97⟩ := Kd.R_slice HO607.out; subst eo97) | ((with_reducible refine gate_callee (f := 21) rfl ?_); refine gL (some 81) Tryd.func21 #[.bool false, .slice Ao97 t604.length co97, .int .i64 (wrap64 (t588 + a1)), .bool false, .int .i64 0] ?_; (with_reducible refine (near_Scaled.calls kj5 false _ _ t604 (wrap64 (t588 + a1)) false 0 t618 t619 _ ?side1 ?side2 A23.out).mono ?_); (case side1 => exact dC (Kd.R_reads' HO607.out).2.2); (case side2 => exact (Kd.R_reads' HO607.out).2.1); rintro e w98 ⟨rfl, hb⟩; refine ⟨_, rfl, ?_⟩; replace HO600 := Aside0.mk (Kd.R_below (dR HO600.out) hb); replace HO603 := Aside0.mk (Kd.R_below (dR HO603.out) hb); replace HO607 := Aside0.mk (Kd.R_below (dR HO607.out) hb); replace HO610 := Aside0.mk (Kd.R_below (dR HO610.out) hb); replace HO613 := Aside0.mk (Kd.R_below (dR HO613.out) hb); replace HO617 := Aside0.mk (Kd.R_below (dR HO617.out) hb); replace HB := Aside0.mk (below_step dB hb); (try clear hb); obtain ⟨Ao99, co99, eo99⟩ := Kd.R_slice HO617.out; subst eo99) | ((with_reducible refine gate_callee (f := 21) rfl ?_); refine gL (some 89) Tryd.func21 #[.bool false, .slice Ao99 t614.length co99, .int .i64 (wrap64 (t592 + a1)), .bool false, .int .i64 0] ?_; (with_reducible refine (near_Scaled.calls kj5 false _ _ t614 (wrap64 (t592 + a1)) false 0 t620 t621 _ ?side1 ?side2 A24.out).mono ?_); (case side1 => exact dC (Kd.R_reads' HO617.out).2.2); (case side2 => exact (Kd.R_reads' HO617.out).2.1); rintro e w100 ⟨rfl, hb⟩; refine ⟨_, rfl, ?_⟩; replace HO600 := Aside0.mk (Kd.R_below (dR HO600.out) hb); replace HO603 := Aside0.mk (Kd.R_below (dR HO603.out) hb); replace HO607 := Aside0.mk (Kd.R_below (dR HO607.out) hb); replace HO610 := Aside0.mk (Kd.R_below (dR HO610.out) hb); replace HO613 := Aside0.mk (Kd.R_below (dR HO613.out) hb); replace HO617 := Aside0.mk (Kd.R_below (dR HO617.out) hb); replace HB := Aside0.mk (below_step dB hb); (try clear hb)))
       go_ret
       exact ⟨dE, dB⟩
    ·rw [if_neg c25] at H
     have c25b0 : (t619 == t621) = false := beq_eq_false_iff_ne.mpr c25
     have c25b1 : (t619 != t621) = true := bne_iff_ne.mpr c25
     by_cases c101 : t595 = 100
     ·rw [if_pos c101] at H
      have c101b0 : (t595 == 100) = true := beq_iff_eq.mpr c101
      have c101b1 : (t595 != 100) = false := bne_eq_false_iff_eq.mpr c101
      clear c101
      obtain rfl := Option.some.inj H
      go_wp2_with (first | ((with_reducible refine gate_dst (N := 60) rfl ?_); refine Kd.R_lit (Kd.int .u64) _ 22 ?hg (N := 60) ?hd (xs := ([a0] : List Int)) (inner := [.int .u64 a0]) (ok := fun _ => True) (okp := fun _ => True) ?hr ?hp (fun _ hk => hk) trivial (Below.refl _ _) (Nat.le_refl _) (by simp) ?_; (case hd => rfl); (case hg => rfl); (case hr => first | (go_simp; done) | (go_simp; rfl)); (case hp => exact (Reps.one (show Kd.M (Kd.int .u64) _ _ _ a0 [.int .u64 a0] from rfl) (Reps.none _ _))); intro v599 w102 ho103 hb hg_ hnew_; clear hg_ hnew_; (first | rw [← Ny598.out] at ho103 | (simp only [Int.reduceToNat] at ho103; rw [← Ny598.out] at ho103)); have HO600 := Aside0.mk (Kd.R_lower ho103 (below_size dB)); replace HB := Aside0.mk (below_step dB hb); clear hb ho103) | ((with_reducible refine gate_dst (N := 63) rfl ?_); refine Kd.R_lit (Kd.int .u64) _ 22 ?hg (N := 63) ?hd (xs := ([t587, t586] : List Int)) (inner := [.int .u64 t587, .int .u64 t586]) (ok := fun _ => True) (okp := fun _ => True) ?hr ?hp (fun _ hk => hk) trivial (Below.refl _ _) (Nat.le_refl _) (by simp) ?_; (case hd => rfl); (case hg => rfl); (case hr => first | (go_simp; done) | (go_simp; rfl)); (case hp => exact (Reps.one (show Kd.M (Kd.int .u64) _ _ _ t587 [.int .u64 t587] from rfl) (Reps.one (show Kd.M (Kd.int .u64) _ _ _ t586 [.int .u64 t586] from rfl) (Reps.none _ _)))); intro v602 w104 ho105 hb hg_ hnew_; clear hg_ hnew_; (first | rw [← Ny601.out] at ho105 | (simp only [Int.reduceToNat] at ho105; rw [← Ny601.out] at ho105)); have HO603 := Aside0.mk (Kd.R_lower (Kd.R_new' ho105 (Kd.R_lt (dR HO600.out))) (below_size dB)); replace HO600 := Aside0.mk (Kd.R_elder' (dR HO600.out) (Kd.R_base ho105) hb); replace HB := Aside0.mk (below_step dB hb); clear hb ho105; obtain ⟨Ao106, co106, eo106⟩ := Kd.R_slice HO600.out; subst eo106; obtain ⟨Ao107, co107, eo107⟩ := Kd.R_slice HO603.out; subst eo107) | ((with_reducible refine gate_callee (f := 20) rfl ?_); refine gL (some 64) Tryd.func20 #[.slice Ao106 y598.length co106, .slice Ao107 y601.length co107] ?_; (with_reducible refine (nat_Mul.calls kj5 _ _ y598 _ _ y601 t604 t605 _ ?side1 ?side2 ?side3 ?side4 A21.out).mono ?_); (case side1 => exact dC (Kd.R_reads' HO600.out).2.2); (case side2 => exact (Kd.R_reads' HO600.out).2.1); (case side3 => exact dC (Kd.R_reads' HO603.out).2.2); (case side4 => exact (Kd.R_reads' HO603.out).2.1); rintro e w108 ⟨v606, rfl, ho0, hb⟩; refine ⟨_, rfl, ?_⟩; have HO607 := Aside0.mk (Kd.R_lower (Kd.R_new' (Kd.R_new' ho0 (Kd.R_lt (dR HO600.out))) (Kd.R_lt (dR HO603.out))) (below_size dB)); replace HO600 := Aside0.mk (Kd.R_elder' (dR HO600.out) (Kd.R_base ho0) hb); replace HO603 := Aside0.mk (Kd.R_elder' (dR HO603.out) (Kd.R_base ho0) hb); replace HB := Aside0.mk (below_step dB hb); (try clear hb); (try clear ho0)) | ((with_reducible refine gate_dst (N := 69) rfl ?_); refine Kd.R_lit (Kd.int .u64) _ 22 ?hg (N := 69) ?hd (xs := ([a0] : List Int)) (inner := [.int .u64 a0]) (ok := fun _ => True) (okp := fun _ => True) ?hr ?hp (fun _ hk => hk) trivial (Below.refl _ _) (Nat.le_refl _) (by simp) ?_; (case hd => rfl); (case hg => rfl); (case hr => first | (go_simp; done) | (go_simp; rfl)); (case hp => exact (Reps.one (show Kd.M (Kd.int .u64) _ _ _ a0 [.int .u64 a0] from rfl) (Reps.none _ _))); intro v609 w109 ho110 hb hg_ hnew_; clear hg_ hnew_; (first | rw [← Ny608.out] at ho110 | (simp only [Int.reduceToNat] at ho110; rw [← Ny608.out] at ho110)); have HO610 := Aside0.mk (Kd.R_lower (Kd.R_new' (Kd.R_new' (Kd.R_new' ho110 (Kd.R_lt (dR HO600.out))) (Kd.R_lt (dR HO603.out))) (Kd.R_lt (dR HO607.out))) (below_size dB)); replace HO600 := Aside0.mk (Kd.R_elder' (dR HO600.out) (Kd.R_base ho110) hb); replace HO603 := Aside0.mk (Kd.R_elder' (dR HO603.out) (Kd.R_base ho110) hb); replace HO607 := Aside0.mk (Kd.R_elder' (dR HO607.out) (Kd.R_base ho110) hb); replace HB := Aside0.mk (below_step dB hb); clear hb ho110) | ((with_reducible refine gate_dst (N := 72) rfl ?_); refine Kd.R_lit (Kd.int .u64) _ 22 ?hg (N := 72) ?hd (xs := ([t591, t590] : List Int)) (inner := [.int .u64 t591, .int .u64 t590]) (ok := fun _ => True) (okp := fun _ => True) ?hr ?hp (fun _ hk => hk) trivial (Below.refl _ _) (Nat.le_refl _) (by simp) ?_; (case hd => rfl); (case hg => rfl); (case hr => first | (go_simp; done) | (go_simp; rfl)); (case hp => exact (Reps.one (show Kd.M (Kd.int .u64) _ _ _ t591 [.int .u64 t591] from rfl) (Reps.one (show Kd.M (Kd.int .u64) _ _ _ t590 [.int .u64 t590] from rfl) (Reps.none _ _)))); intro v612 w111 ho112 hb hg_ hnew_; clear hg_ hnew_; (first | rw [← Ny611.out] at ho112 | (simp only [Int.reduceToNat] at ho112; rw [← Ny611.out] at ho112)); have HO613 := Aside0.mk (Kd.R_lower (Kd.R_new' (Kd.R_new' (Kd.R_new' (Kd.R_new' ho112 (Kd.R_lt (dR HO600.out))) (Kd.R_lt (dR HO603.out))) (Kd.R_lt (dR HO607.out))) (Kd.R_lt (dR HO610.out))) (below_size dB)); replace HO600 := Aside0.mk (Kd.R_elder' (dR HO600.out) (Kd.R_base ho112) hb); replace HO603 := Aside0.mk (Kd.R_elder' (dR HO603.out) (Kd.R_base ho112) hb); replace HO607 := Aside0.mk (Kd.R_elder' (dR HO607.out) (Kd.R_base ho112) hb); replace HO610 := Aside0.mk (Kd.R_elder' (dR HO610.out) (Kd.R_base ho112) hb); replace HB := Aside0.mk (below_step dB hb); clear hb ho112; obtain ⟨Ao113, co113, eo113⟩ := Kd.R_slice HO610.out; subst eo113; obtain ⟨Ao114, co114, eo114⟩ := Kd.R_slice HO613.out; subst eo114) | ((with_reducible refine gate_callee (f := 20) rfl ?_); refine gL (some 73) Tryd.func20 #[.slice Ao113 y608.length co113, .slice Ao114 y611.length co114] ?_; (with_reducible refine (nat_Mul.calls kj5 _ _ y608 _ _ y611 t614 t615 _ ?side1 ?side2 ?side3 ?side4 A22.out).mono ?_); (case side1 => exact dC (Kd.R_reads' HO610.out).2.2); (case side2 => exact (Kd.R_reads' HO610.out).2.1); (case side3 => exact dC (Kd.R_reads' HO613.out).2.2); (case side4 => exact (Kd.R_reads' HO613.out).2.1); rintro e w115 ⟨v616, rfl, ho0, hb⟩; refine ⟨_, rfl, ?_⟩; have HO617 := Aside0.mk (Kd.R_lower (Kd.R_new' (Kd.R_new' (Kd.R_new' (Kd.R_new' (Kd.R_new' ho0 (Kd.R_lt (dR HO600.out))) (Kd.R_lt (dR HO603.out))) (Kd.R_lt (dR HO607.out))) (Kd.R_lt (dR HO610.out))) (Kd.R_lt (dR HO613.out))) (below_size dB)); replace HO600 := Aside0.mk (Kd.R_elder' (dR HO600.out) (Kd.R_base ho0) hb); replace HO603 := Aside0.mk (Kd.R_elder' (dR HO603.out) (Kd.R_base ho0) hb); replace HO607 := Aside0.mk (Kd.R_elder' (dR HO607.out) (Kd.R_base ho0) hb); replace HO610 := Aside0.mk (Kd.R_elder' (dR HO610.out) (Kd.R_base ho0) hb); replace HO613 := Aside0.mk (Kd.R_elder' (dR HO613.out) (Kd.R_base ho0) hb); replace HB := Aside0.mk (below_step dB hb); (try clear hb); (try clear ho0); obtain ⟨Ao116, co116, eo116⟩ := Kd.R_slice HO607.out; subst eo116) | ((with_reducible refine gate_callee (f := 21) rfl ?_); refine gL (some 81) Tryd.func21 #[.bool false, .slice Ao116 t604.length co116, .int .i64 (wrap64 (t588 + a1)), .bool false, .int .i64 0] ?_; (with_reducible refine (near_Scaled.calls kj5 false _ _ t604 (wrap64 (t588 + a1)) false 0 t618 t619 _ ?side1 ?side2 A23.out).mono ?_); (case side1 => exact dC (Kd.R_reads' HO607.out).2.2); (case side2 => exact (Kd.R_reads' HO607.out).2.1); rintro e w117 ⟨rfl, hb⟩; refine ⟨_, rfl, ?_⟩; replace HO600 := Aside0.mk (Kd.R_below (dR HO600.out) hb); replace HO603 := Aside0.mk (Kd.R_below (dR HO603.out) hb); replace HO607 := Aside0.mk (Kd.R_below (dR HO607.out) hb); replace HO610 := Aside0.mk (Kd.R_below (dR HO610.out) hb); replace HO613 := Aside0.mk (Kd.R_below (dR HO613.out) hb); replace HO617 := Aside0.mk (Kd.R_below (dR HO617.out) hb); replace HB := Aside0.mk (below_step dB hb); (try clear hb); obtain ⟨Ao118, co118, eo118⟩ := Kd.R_slice HO617.out; subst eo118) | ((with_reducible refine gate_callee (f := 21) rfl ?_); refine gL (some 89) Tryd.func21 #[.bool false, .slice Ao118 t614.length co118, .int .i64 (wrap64 (t592 + a1)), .bool false, .int .i64 0] ?_; (with_reducible refine (near_Scaled.calls kj5 false _ _ t614 (wrap64 (t592 + a1)) false 0 t620 t621 _ ?side1 ?side2 A24.out).mono ?_); (case side1 => exact dC (Kd.R_reads' HO617.out).2.2); (case side2 => exact (Kd.R_reads' HO617.out).2.1); rintro e w119 ⟨rfl, hb⟩; refine ⟨_, rfl, ?_⟩; replace HO600 := Aside0.mk (Kd.R_below (dR HO600.out) hb); replace HO603 := Aside0.mk (Kd.R_below (dR HO603.out) hb); replace HO607 := Aside0.mk (Kd.R_below (dR HO607.out) hb); replace HO610 := Aside0.mk (Kd.R_below (dR HO610.out) hb); replace HO613 := Aside0.mk (Kd.R_below (dR HO613.out) hb); replace HO617 := Aside0.mk (Kd.R_below (dR HO617.out) hb); replace HB := Aside0.mk (below_step dB hb); (try clear hb)))
      go_ret
      exact ⟨dE, dB⟩
     ·rw [if_neg c101] at H
      have c101b0 : (t595 == 100) = false := beq_eq_false_iff_ne.mpr c101
      have c101b1 : (t595 != 100) = true := bne_iff_ne.mpr c101
      obtain rfl := Option.some.inj H
      go_wp2_with (first | ((with_reducible refine gate_dst (N := 60) rfl ?_); refine Kd.R_lit (Kd.int .u64) _ 22 ?hg (N := 60) ?hd (xs := ([a0] : List Int)) (inner := [.int .u64 a0]) (ok := fun _ => True) (okp := fun _ => True) ?hr ?hp (fun _ hk => hk) trivial (Below.refl _ _) (Nat.le_refl _) (by simp) ?_; (case hd => rfl); (case hg => rfl); (case hr => first | (go_simp; done) | (go_simp; rfl)); (case hp => exact (Reps.one (show Kd.M (Kd.int .u64) _ _ _ a0 [.int .u64 a0] from rfl) (Reps.none _ _))); intro v599 w120 ho121 hb hg_ hnew_; clear hg_ hnew_; (first | rw [← Ny598.out] at ho121 | (simp only [Int.reduceToNat] at ho121; rw [← Ny598.out] at ho121)); have HO600 := Aside0.mk (Kd.R_lower ho121 (below_size dB)); replace HB := Aside0.mk (below_step dB hb); clear hb ho121) | ((with_reducible refine gate_dst (N := 63) rfl ?_); refine Kd.R_lit (Kd.int .u64) _ 22 ?hg (N := 63) ?hd (xs := ([t587, t586] : List Int)) (inner := [.int .u64 t587, .int .u64 t586]) (ok := fun _ => True) (okp := fun _ => True) ?hr ?hp (fun _ hk => hk) trivial (Below.refl _ _) (Nat.le_refl _) (by simp) ?_; (case hd => rfl); (case hg => rfl); (case hr => first | (go_simp; done) | (go_simp; rfl)); (case hp => exact (Reps.one (show Kd.M (Kd.int .u64) _ _ _ t587 [.int .u64 t587] from rfl) (Reps.one (show Kd.M (Kd.int .u64) _ _ _ t586 [.int .u64 t586] from rfl) (Reps.none _ _)))); intro v602 w122 ho123 hb hg_ hnew_; clear hg_ hnew_; (first | rw [← Ny601.out] at ho123 | (simp only [Int.reduceToNat] at ho123; rw [← Ny601.out] at ho123)); have HO603 := Aside0.mk (Kd.R_lower (Kd.R_new' ho123 (Kd.R_lt (dR HO600.out))) (below_size dB)); replace HO600 := Aside0.mk (Kd.R_elder' (dR HO600.out) (Kd.R_base ho123) hb); replace HB := Aside0.mk (below_step dB hb); clear hb ho123; obtain ⟨Ao124, co124, eo124⟩ := Kd.R_slice HO600.out; subst eo124; obtain ⟨Ao125, co125, eo125⟩ := Kd.R_slice HO603.out; subst eo125) | ((with_reducible refine gate_callee (f := 20) rfl ?_); refine gL (some 64) Tryd.func20 #[.slice Ao124 y598.length co124, .slice Ao125 y601.length co125] ?_; (with_reducible refine (nat_Mul.calls kj5 _ _ y598 _ _ y601 t604 t605 _ ?side1 ?side2 ?side3 ?side4 A21.out).mono ?_); (case side1 => exact dC (Kd.R_reads' HO600.out).2.2); (case side2 => exact (Kd.R_reads' HO600.out).2.1); (case side3 => exact dC (Kd.R_reads' HO603.out).2.2); (case side4 => exact (Kd.R_reads' HO603.out).2.1); rintro e w126 ⟨v606, rfl, ho0, hb⟩; refine ⟨_, rfl, ?_⟩; have HO607 := Aside0.mk (Kd.R_lower (Kd.R_new' (Kd.R_new' ho0 (Kd.R_lt (dR HO600.out))) (Kd.R_lt (dR HO603.out))) (below_size dB)); replace HO600 := Aside0.mk (Kd.R_elder' (dR HO600.out) (Kd.R_base ho0) hb); replace HO603 := Aside0.mk (Kd.R_elder' (dR HO603.out) (Kd.R_base ho0) hb); replace HB := Aside0.mk (below_step dB hb); (try clear hb); (try clear ho0)) | ((with_reducible refine gate_dst (N := 69) rfl ?_); refine Kd.R_lit (Kd.int .u64) _ 22 ?hg (N := 69) ?hd (xs := ([a0] : List Int)) (inner := [.int .u64 a0]) (ok := fun _ => True) (okp := fun _ => True) ?hr ?hp (fun _ hk => hk) trivial (Below.refl _ _) (Nat.le_refl _) (by simp) ?_; (case hd => rfl); (case hg => rfl); (case hr => first | (go_simp; done) | (go_simp; rfl)); (case hp => exact (Reps.one (show Kd.M (Kd.int .u64) _ _ _ a0 [.int .u64 a0] from rfl) (Reps.none _ _))); intro v609 w127 ho128 hb hg_ hnew_; clear hg_ hnew_; (first | rw [← Ny608.out] at ho128 | (simp only [Int.reduceToNat] at ho128; rw [← Ny608.out] at ho128)); have HO610 := Aside0.mk (Kd.R_lower (Kd.R_new' (Kd.R_new' (Kd.R_new' ho128 (Kd.R_lt (dR HO600.out))) (Kd.R_lt (dR HO603.out))) (Kd.R_lt (dR HO607.out))) (below_size dB)); replace HO600 := Aside0.mk (Kd.R_elder' (dR HO600.out) (Kd.R_base ho128) hb); replace HO603 := Aside0.mk (Kd.R_elder' (dR HO603.out) (Kd.R_base ho128) hb); replace HO607 := Aside0.mk (Kd.R_elder' (dR HO607.out) (Kd.R_base ho128) hb); replace HB := Aside0.mk (below_step dB hb); clear hb ho128) | ((with_reducible refine gate_dst (N := 72) rfl ?_); refine Kd.R_lit (Kd.int .u64) _ 22 ?hg (N := 72) ?hd (xs := ([t591, t590] : List Int)) (inner := [.int .u64 t591, .int .u64 t590]) (ok := fun _ => True) (okp := fun _ => True) ?hr ?hp (fun _ hk => hk) trivial (Below.refl _ _) (Nat.le_refl _) (by simp) ?_; (case hd => rfl); (case hg => rfl); (case hr => first | (go_simp; done) | (go_simp; rfl)); (case hp => exact (Reps.one (show Kd.M (Kd.int .u64) _ _ _ t591 [.int .u64 t591] from rfl) (Reps.one (show Kd.M (Kd.int .u64) _ _ _ t590 [.int .u64 t590] from rfl) (Reps.none _ _)))); intro v612 w129 ho130 hb hg_ hnew_; clear hg_ hnew_; (first | rw [← Ny611.out] at ho130 | (simp only [Int.reduceToNat] at ho130; rw [← Ny611.out] at ho130)); have HO613 := Aside0.mk (Kd.R_lower (Kd.R_new' (Kd.R_new' (Kd.R_new' (Kd.R_new' ho130 (Kd.R_lt (dR HO600.out))) (Kd.R_lt (dR HO603.out))) (Kd.R_lt (dR HO607.out))) (Kd.R_lt (dR HO610.out))) (below_size dB)); replace HO600 := Aside0.mk (Kd.R_elder' (dR HO600.out) (Kd.R_base ho130) hb); replace HO603 := Aside0.mk (Kd.R_elder' (dR HO603.out) (Kd.R_base ho130) hb); replace HO607 := Aside0.mk (Kd.R_elder' (dR HO607.out) (Kd.R_base ho130) hb); replace HO610 := Aside0.mk (Kd.R_elder' (dR HO610.out) (Kd.R_base ho130) hb); replace HB := Aside0.mk (below_step dB hb); clear hb ho130; obtain ⟨Ao131, co131, eo131⟩ := Kd.R_slice HO610.out; subst eo131; obtain ⟨Ao132, co132, eo132⟩ := Kd.R_slice HO613.out; subst eo132) | ((with_reducible refine gate_callee (f := 20) rfl ?_); refine gL (some 73) Tryd.func20 #[.slice Ao131 y608.length co131, .slice Ao132 y611.length co132] ?_; (with_reducible refine (nat_Mul.calls kj5 _ _ y608 _ _ y611 t614 t615 _ ?side1 ?side2 ?side3 ?side4 A22.out).mono ?_); (case side1 => exact dC (Kd.R_reads' HO610.out).2.2); (case side2 => exact (Kd.R_reads' HO610.out).2.1); (case side3 => exact dC (Kd.R_reads' HO613.out).2.2); (case side4 => exact (Kd.R_reads' HO613.out).2.1); rintro e w133 ⟨v616, rfl, ho0, hb⟩; refine ⟨_, rfl, ?_⟩; have HO617 := Aside0.mk (Kd.R_lower (Kd.R_new' (Kd.R_new' (Kd.R_new' (Kd.R_new' (Kd.R_new' ho0 (Kd.R_lt (dR HO600.out))) (Kd.R_lt (dR HO603.out))) (Kd.R_lt (dR HO607.out))) (Kd.R_lt (dR HO610.out))) (Kd.R_lt (dR HO613.out))) (below_size dB)); replace HO600 := Aside0.mk (Kd.R_elder' (dR HO600.out) (Kd.R_base ho0) hb); replace HO603 := Aside0.mk (Kd.R_elder' (dR HO603.out) (Kd.R_base ho0) hb); replace HO607 := Aside0.mk (Kd.R_elder' (dR HO607.out) (Kd.R_base ho0) hb); replace HO610 := Aside0.mk (Kd.R_elder' (dR HO610.out) (Kd.R_base ho0) hb); replace HO613 := Aside0.mk (Kd.R_elder' (dR HO613.out) (Kd.R_base ho0) hb); replace HB := Aside0.mk (below_step dB hb); (try clear hb); (try clear ho0); obtain ⟨Ao134, co134, eo134⟩ := Kd.R_slice HO607.out; subst eo134) | ((with_reducible refine gate_callee (f := 21) rfl ?_); refine gL (some 81) Tryd.func21 #[.bool false, .slice Ao134 t604.length co134, .int .i64 (wrap64 (t588 + a1)), .bool false, .int .i64 0] ?_; (with_reducible refine (near_Scaled.calls kj5 false _ _ t604 (wrap64 (t588 + a1)) false 0 t618 t619 _ ?side1 ?side2 A23.out).mono ?_); (case side1 => exact dC (Kd.R_reads' HO607.out).2.2); (case side2 => exact (Kd.R_reads' HO607.out).2.1); rintro e w135 ⟨rfl, hb⟩; refine ⟨_, rfl, ?_⟩; replace HO600 := Aside0.mk (Kd.R_below (dR HO600.out) hb); replace HO603 := Aside0.mk (Kd.R_below (dR HO603.out) hb); replace HO607 := Aside0.mk (Kd.R_below (dR HO607.out) hb); replace HO610 := Aside0.mk (Kd.R_below (dR HO610.out) hb); replace HO613 := Aside0.mk (Kd.R_below (dR HO613.out) hb); replace HO617 := Aside0.mk (Kd.R_below (dR HO617.out) hb); replace HB := Aside0.mk (below_step dB hb); (try clear hb); obtain ⟨Ao136, co136, eo136⟩ := Kd.R_slice HO617.out; subst eo136) | ((with_reducible refine gate_callee (f := 21) rfl ?_); refine gL (some 89) Tryd.func21 #[.bool false, .slice Ao136 t614.length co136, .int .i64 (wrap64 (t592 + a1)), .bool false, .int .i64 0] ?_; (with_reducible refine (near_Scaled.calls kj5 false _ _ t614 (wrap64 (t592 + a1)) false 0 t620 t621 _ ?side1 ?side2 A24.out).mono ?_); (case side1 => exact dC (Kd.R_reads' HO617.out).2.2); (case side2 => exact (Kd.R_reads' HO617.out).2.1); rintro e w137 ⟨rfl, hb⟩; refine ⟨_, rfl, ?_⟩; replace HO600 := Aside0.mk (Kd.R_below (dR HO600.out) hb); replace HO603 := Aside0.mk (Kd.R_below (dR HO603.out) hb); replace HO607 := Aside0.mk (Kd.R_below (dR HO607.out) hb); replace HO610 := Aside0.mk (Kd.R_below (dR HO610.out) hb); replace HO613 := Aside0.mk (Kd.R_below (dR HO613.out) hb); replace HO617 := Aside0.mk (Kd.R_below (dR HO617.out) hb); replace HB := Aside0.mk (below_step dB hb); (try clear hb)))
      go_ret
      exact ⟨dE, dB⟩

/-- THE ONE PURE STATEMENT of plumblaw10_LemireUnsure: yours. -/
def plumblaw10_LemireUnsure.Pure : Prop := ∀ (a0 : Int) (a1 : Int), (Lit.int .u64 a0).wf = true → (Lit.int .i64 a1).wf = true → ∃ k, plumblaw10_LemireUnsure.f k a0 a1 = some true
theorem plumblaw10_LemireUnsure.walk (P : plumblaw10_LemireUnsure.Pure) (a0 : Int) (a1 : Int) (w : World) (w0 : (Lit.int .u64 a0).wf = true) (w1 : (Lit.int .i64 a1).wf = true) (hG : TensLaid w) (hS : StaysLaid w) :
  Calls Tryd.prog 7 #[.int .u64 a0, .int .i64 a1] w fun e w' => e = .returned (.bool true) ∧ Below w.heap.size w w' := by
 obtain ⟨k, h⟩ := P a0 a1 w0 w1
 refine (plumblaw10_LemireUnsure.calls k a0 a1 true w h).mono ?_
 rintro e w' ⟨rfl, hd⟩
 exact ⟨rfl, hd⟩

end Go.Proofs.YtoannkopciehcaaDoor.PA

namespace Go.Proofs.YtoannkopciehcaaDoor.PA
open Go.RowKit Go.Proofs.YtoannkopciehcaaDoorW.PrintWords Go.Proofs.YtoannkopciehcaaDoorW.PrintLast Go.Proofs.YtoannkopciehcaaDoorW.PrintMore
attribute [local go_sem] max2_int min2_int max_two min_two max_three min_three max_four min_four   -- for this text's walks alone
set_option linter.unusedVariables false
set_option linter.unusedSimpArgs false

end Go.Proofs.YtoannkopciehcaaDoor.PA

namespace Go.Proofs.YtoannkopciehcaaDoor.PA
open Go.RowKit Go.Proofs.YtoannkopciehcaaDoorW.PrintWords Go.Proofs.YtoannkopciehcaaDoorW.PrintLast Go.Proofs.YtoannkopciehcaaDoorW.PrintMore
attribute [local go_sem] max2_int min2_int max_two min_two max_three min_three max_four min_four   -- for this text's walks alone
set_option linter.unusedVariables false
set_option linter.unusedSimpArgs false

end Go.Proofs.YtoannkopciehcaaDoor.PA

namespace Go.Proofs.YtoannkopciehcaaDoor.PA
open Go.RowKit Go.Proofs.YtoannkopciehcaaDoorW.PrintWords Go.Proofs.YtoannkopciehcaaDoorW.PrintLast Go.Proofs.YtoannkopciehcaaDoorW.PrintMore
attribute [local go_sem] max2_int min2_int max_two min_two max_three min_three max_four min_four   -- for this text's walks alone
set_option linter.unusedVariables false
set_option linter.unusedSimpArgs false

/-! ### plumblaw10_LemireTrue: function 8 -/
end Go.Proofs.YtoannkopciehcaaDoor.PA

namespace Go.Proofs.YtoannkopciehcaaDoor.PA
open Go.RowKit Go.Proofs.YtoannkopciehcaaDoorW.PrintWords Go.Proofs.YtoannkopciehcaaDoorW.PrintLast Go.Proofs.YtoannkopciehcaaDoorW.PrintMore
attribute [local go_sem] max2_int min2_int max_two min_two max_three min_three max_four min_four   -- for this text's walks alone
set_option linter.unusedVariables false
set_option linter.unusedSimpArgs false

end Go.Proofs.YtoannkopciehcaaDoor.PA

namespace Go.Proofs.YtoannkopciehcaaDoor.PA
open Go.RowKit Go.Proofs.YtoannkopciehcaaDoorW.PrintWords Go.Proofs.YtoannkopciehcaaDoorW.PrintLast Go.Proofs.YtoannkopciehcaaDoorW.PrintMore
set_option linter.unusedVariables false
set_option linter.unusedSimpArgs false
/-- the last word of a list without zeros at its end -/
theorem strip_last {xs : List Int} (h : 0 < (strip xs).length) : xs.getD ((strip xs).length - 1) 0 ≠ 0 := by
  induction xs with
  | nil => simp [strip] at h
  | cons x xs ih =>
    rw [strip_cons] at h ⊢
    by_cases hs : strip xs = []
    · rw [if_pos hs] at h ⊢
      by_cases hx : x = 0
      · rw [if_pos hx] at h; simp at h
      · rw [if_neg hx]; simpa using hx
    · rw [if_neg hs]
      have h1 : 0 < (strip xs).length := by
        rcases Nat.eq_zero_or_pos (strip xs).length with h0 | h0
        · exact absurd (List.eq_nil_of_length_eq_zero h0) hs
        · exact h0
      have h2 := ih h1
      rw [List.length_cons, show (strip xs).length + 1 - 1 = ((strip xs).length - 1) + 1 from by omega, List.getD_cons_succ]
      exact h2
theorem nv_split {xs : List Int} {n : Nat} (h : n ≤ xs.length) : nv xs = nv (xs.take n) + 2 ^ (64 * n) * nv (xs.drop n) := by
  conv => lhs; rw [← List.take_append_drop n xs, nv_append]
  rw [List.length_take, Nat.min_eq_left h]
/-- a normal list's number by its last word -/
theorem nv_top {xs : List Int} (h : Ws xs) {n : Nat} (hn : (strip xs).length = n + 1) : nv xs / 2 ^ (64 * n) = xs.getD n 0 := by
  have hl := strip_length_le xs
  have e : nv xs = nv (xs.take n) + 2 ^ (64 * n) * xs.getD n 0 := by
    rw [← nv_strip xs, strip_take xs, hn, List.take_succ_eq_append_getElem (by omega), nv_append, List.length_take, Nat.min_eq_left (by omega), List.getD_eq_getElem?_getD, List.getElem?_eq_getElem (by omega)]
    simp [nv]
  have h1 := nv_nonneg (h.take n)
  have h2 := nv_lt (h.take n)
  rw [List.length_take, Nat.min_eq_left (by omega)] at h2
  rw [e, Int.add_mul_ediv_left _ _ (by omega), Int.ediv_eq_zero_of_lt h1 h2, Int.zero_add]
theorem nat_Bits.f_eq (xs : List Int) (h : Ws xs) (hl : xs.length ≤ 35184372088832) (k : Nat) (hk : xs.length < k) (hk7 : 7 ≤ k) : nat_Bits.f k xs = some (bitsN (nv xs)) := by
  rw [nat_Bits.f, nat_size.f_eq xs (by omega) k hk]
  simp only [Option.bind_some]
  have hsl := strip_length_le xs
  rcases Nat.eq_zero_or_pos (strip xs).length with h0 | h0
  · rw [if_pos (by omega)]
    have : nv xs = 0 := by rw [← nv_strip, List.eq_nil_of_length_eq_zero h0]; rfl
    rw [this]; rfl
  · obtain ⟨n, hn⟩ : ∃ n, (strip xs).length = n + 1 := ⟨(strip xs).length - 1, by omega⟩
    rw [hn, if_neg (by omega)]
    have ew : wrap64 (((n + 1 : Nat) : Int) - 1) = (n : Int) := by unfold wrap64; omega
    rw [ew, if_pos (by omega), if_pos (by omega)]
    clear ew
    have er : rd xs (n : Int) = xs.getD n 0 := rfl
    have ho := h.getD n
    have hne := strip_last h0
    rw [hn, Nat.add_sub_cancel] at hne
    rw [er, wide_Len.f_eq ho.1 ho.2 k hk7]
    simp only [Option.bind_some]
    have ht := nv_top h hn
    have hge : (2 : Int) ^ (64 * n) ≤ nv xs := by
      have h1 := Int.mul_ediv_add_emod (nv xs) (2 ^ (64 * n))
      have h2 := Int.emod_nonneg (nv xs) (show (2 : Int) ^ (64 * n) ≠ 0 by have := two_pow_pos (64 * n); omega)
      have h3 := Int.mul_le_mul_of_nonneg_left (show 1 ≤ nv xs / 2 ^ (64 * n) by omega) (Int.le_of_lt (two_pow_pos (64 * n)))
      omega
    rw [bitsN_div (64 * n) hge, ht]
    have hb := bitsN_le_of_lt (n := 64) ho.1 ho.2
    have hb0 := bitsN_nonneg (xs.getD n 0)
    clear ho hne ht hge
    generalize bitsN (xs.getD n 0) = z at *
    congr 1
    unfold wrap64
    omega
theorem nat_bound.f_eq (xs : List Int) (hl : xs.length ≤ 35184372088832) (k : Nat) (hk : xs.length < k) : nat_bound.f k xs = some (if (strip xs).length ≤ 4096 then (strip xs, 0) else ([], 21)) := by
  rw [nat_bound.f, nat_size.f_eq xs (by omega) k hk]
  simp only [Option.bind_some]
  have hsl := strip_length_le xs
  by_cases h : (strip xs).length ≤ 4096
  · rw [if_pos (by omega), if_pos (by omega), if_pos (by omega), if_pos h, Int.toNat_natCast, ← strip_take]
  · rw [if_neg (by omega), if_neg h]
theorem strip_len_le {xs : List Int} (h : Ws xs) (n : Nat) : (strip xs).length ≤ n ↔ nv xs < 2 ^ (64 * n) := by
  constructor
  · intro hn
    have h1 := nv_lt h.strip
    rw [nv_strip] at h1
    have := pow_mono (show 64 * (strip xs).length ≤ 64 * n from by omega)
    omega
  · intro hn
    apply Classical.byContradiction
    intro hc
    obtain ⟨m, hm⟩ : ∃ m, (strip xs).length = m + 1 := ⟨(strip xs).length - 1, by omega⟩
    have h1 := strip_last (xs := xs) (by omega)
    rw [hm, Nat.add_sub_cancel] at h1
    have ht := nv_top h hm
    have ho := h.getD m
    have h2 := Int.mul_ediv_add_emod (nv xs) (2 ^ (64 * m))
    have h3 := Int.emod_nonneg (nv xs) (show (2 : Int) ^ (64 * m) ≠ 0 by have := two_pow_pos (64 * m); omega)
    have h4 := Int.mul_le_mul_of_nonneg_left (show 1 ≤ nv xs / 2 ^ (64 * m) by omega) (Int.le_of_lt (two_pow_pos (64 * m)))
    have h5 := pow_mono (show 64 * n ≤ 64 * m from by omega)
    omega
/-- the answer that has at most 4096 words -/
def bnd (n : Int) : List Int × Int := if n < 2 ^ 262144 then (wd n.toNat, 0) else ([], 21)
theorem nat_bound.f_bnd {xs : List Int} (h : Ws xs) (hl : xs.length ≤ 35184372088832) (k : Nat) (hk : xs.length < k) : nat_bound.f k xs = some (bnd (nv xs)) := by
  rw [nat_bound.f_eq xs hl k hk]
  congr 1
  unfold bnd
  have := strip_len_le h 4096
  by_cases h1 : (strip xs).length ≤ 4096
  · rw [if_pos h1, if_pos (this.1 h1), wd_nv h]
  · rw [if_neg h1, if_neg (fun h2 => h1 (this.2 h2))]
end Go.Proofs.YtoannkopciehcaaDoor.PA

namespace Go.Proofs.YtoannkopciehcaaDoor.PA
open Go.RowKit Go.Proofs.YtoannkopciehcaaDoorW.PrintWords Go.Proofs.YtoannkopciehcaaDoorW.PrintLast Go.Proofs.YtoannkopciehcaaDoorW.PrintMore
set_option linter.unusedVariables false
set_option linter.unusedSimpArgs false
theorem getD_zero_of_lt {xs : List Int} (h : Ws xs) {t : Nat} (hl : nv xs < 2 ^ (64 * t)) : xs.getD t 0 = 0 := by
  by_cases ht : t < xs.length
  · have e := nv_split (xs := xs) (n := t) (by omega)
    have h1 := nv_nonneg (h.take t)
    have h2 := nv_nonneg (h.drop t)
    have hp := two_pow_pos (64 * t)
    have h3 : nv (xs.drop t) < 1 := by
      apply Classical.byContradiction
      intro hc
      have := Int.mul_le_mul_of_nonneg_left (show 1 ≤ nv (xs.drop t) by omega) (Int.le_of_lt hp)
      omega
    have h4 : nv (xs.drop t) = 0 := by omega
    rw [List.drop_eq_getElem_cons ht, nv_cons] at h4
    have h5 := nv_nonneg (h.drop (t + 1))
    have h6 := h.getD t
    rw [List.getD_eq_getElem?_getD, List.getElem?_eq_getElem ht] at h6 ⊢
    simp only [Option.getD_some] at h6 ⊢
    omega
  · rw [List.getD_eq_getElem?_getD, List.getElem?_eq_none (by omega)]; rfl
theorem set_getD_ne {xs : List Int} {i j : Nat} {v : Int} (h : i ≠ j) : (xs.set i v).getD j 0 = xs.getD j 0 := by
  rw [List.getD_eq_getElem?_getD, List.getD_eq_getElem?_getD, List.getElem?_set_ne h]
/-- one word's sums: low and high -/
theorem mul_step {a b o c : Int} (ha0 : 0 ≤ a) (ha : a < 18446744073709551616) (hb0 : 0 ≤ b) (hb : b < 18446744073709551616) (ho0 : 0 ≤ o) (ho : o < 18446744073709551616) (hc0 : 0 ≤ c) (hc : c < 18446744073709551616) :
    ∃ lo hi k1 k2 v c' : Int, a * b = hi * 18446744073709551616 + lo ∧ 0 ≤ lo ∧ lo < 18446744073709551616 ∧
      wide_Mul.f a b = some (hi, lo) ∧ ∃ s, wide_Add.f lo o 0 = some (s, k1) ∧ wide_Add.f s c 0 = some (v, k2) ∧ IntKind.u64.wrap (IntKind.u64.wrap (hi + k1) + k2) = c' ∧
      v + c' * 18446744073709551616 = a * b + o + c ∧ 0 ≤ v ∧ v < 18446744073709551616 ∧ 0 ≤ c' ∧ c' < 18446744073709551616 := by
  have hab0 : 0 ≤ a * b := Int.mul_nonneg ha0 hb0
  have hab : a * b ≤ 18446744073709551615 * 18446744073709551615 := Int.mul_le_mul (by omega) (by omega) hb0 (by omega)
  refine ⟨a * b % 18446744073709551616, a * b / 18446744073709551616, _, _, _, _, by omega, by omega, by omega, ?_, _, wide_Add.f_eq (by omega) (by omega) ho0 ho (by omega) (by omega), wide_Add.f_eq (by omega) (by omega) hc0 hc (by omega) (by omega), rfl, ?_, by omega, by omega, ?_, ?_⟩
  · unfold wide_Mul.f
    rw [if_pos (u64B_iff.2 ⟨ha0, ha⟩), if_pos (u64B_iff.2 ⟨hb0, hb⟩)]
  · simp only [u64w]
    generalize a * b = p at *
    omega
  · simp only [u64w]; omega
  · simp only [u64w]; omega
theorem w64_add (i j : Nat) (h : i + j < 9223372036854775808) : wrap64 ((i : Int) + (j : Int)) = ((i + j : Nat) : Int) := by unfold wrap64; omega
theorem w64_succ (i : Nat) (h : i < 9223372036854775807) : wrap64 ((i : Int) + 1) = ((i + 1 : Nat) : Int) := by unfold wrap64; omega
theorem nat_Mul.l1_eq (x y : List Int) (hy : Ws y) (i m : Nat) (a : Int) (ha0 : 0 ≤ a) (ha : a < 18446744073709551616) (hm : m ≤ 35184372088832) (him : i + y.length < m) :
    ∀ (d k : Nat) (out : List Int) (c : Int) (j : Nat), d = y.length - j → j ≤ y.length → out.length = m → Ws out → 0 ≤ c → c < 18446744073709551616 → out.getD (i + y.length) 0 = 0 →
    ∃ out' c', Ws out' ∧ out'.length = m ∧ 0 ≤ c' ∧ c' < 18446744073709551616 ∧ out'.getD (i + y.length) 0 = 0 ∧
      nv out' + c' * 2 ^ (64 * (i + y.length)) + a * nv (y.take j) * 2 ^ (64 * i) = nv out + c * 2 ^ (64 * (i + j)) + a * nv y * 2 ^ (64 * i) ∧
      nat_Mul.l1 (k + d + 1) y out i a c x (x.length : Int) i y (y.length : Int) j = nat_Mul.l0 k y (out'.set (i + y.length) c') x (x.length : Int) ((i + 1 : Nat) : Int) := by
  intro d
  induction d with
  | zero =>
    intro k out c j hd hj hl hw hc0 hc hz
    obtain rfl : j = y.length := by omega
    refine ⟨out, c, hw, hl, hc0, hc, hz, by rw [List.take_length], ?_⟩
    rw [Nat.add_zero]
    conv => lhs; unfold nat_Mul.l1
    rw [if_neg (by omega)]
    have b1 : i + y.length < 9223372036854775808 := by omega
    have b2 : i < 9223372036854775807 := by omega
    have b3 : (0 : Int) ≤ ((i + y.length : Nat) : Int) := by omega
    have b4 : ((i + y.length : Nat) : Int) < (out.length : Int) := by omega
    have ew := w64_add i y.length b1
    have ew2 := w64_succ i b2
    rw [ew, ew2, Int.toNat_natCast]
    rw [if_pos b3, if_pos b4]
  | succ d ih =>
    intro k out c j hd hj hl hw hc0 hc hz
    have b1 : i + j < 9223372036854775808 := by omega
    have b2 : j < 9223372036854775807 := by omega
    have q0 : (j : Int) < (y.length : Int) := by omega
    have q1 : (0 : Int) ≤ (j : Int) := by omega
    have q2 : (0 : Int) ≤ ((i + j : Nat) : Int) := by omega
    have q3 : ((i + j : Nat) : Int) < (out.length : Int) := by omega
    have q4 : d = y.length - (j + 1) := by omega
    have q5 : j + 1 ≤ y.length := by omega
    have q6 : i + j ≠ i + y.length := by omega
    have q7 : i + j < out.length := by omega
    have q8 : j < y.length := by omega
    have ew := w64_add i j b1
    have ew2 := w64_succ j b2
    have hyj := hy.getD j
    have hoj := hw.getD (i + j)
    obtain ⟨lo, hi, k1, k2, v, c', e1, hlo0, hlo, eM, s, eA, eB, ec, ev, hv0, hv, hc0', hc'⟩ := mul_step ha0 ha hyj.1 hyj.2 hoj.1 hoj.2 hc0 hc
    obtain ⟨out', c2, h1, h2, h3, h4, h5, h6, h7⟩ := ih k (out.set (i + j) v) c' (j + 1) q4 q5 (by rw [List.length_set, hl]) (hw.set _ hv0 hv) hc0' hc' (by rw [set_getD_ne q6]; exact hz)
    refine ⟨out', c2, h1, h2, h3, h4, h5, ?_, ?_⟩
    · rw [nv_set q7, nv_take_succ q8] at h6
      clear ec ew ew2
      rw [show 64 * (i + (j + 1)) = 64 * (i + j + 1) from by omega, pow64, show 64 * (i + j) = 64 * i + 64 * j from by omega, Int.pow_add] at h6
      rw [show 64 * (i + j) = 64 * i + 64 * j from by omega, Int.pow_add]
      generalize (2 : Int) ^ (64 * i) = pi at *
      generalize (2 : Int) ^ (64 * j) = pj at *
      generalize out.getD (i + j) 0 = o at *
      generalize y.getD j 0 = yj at *
      obtain rfl : v = a * yj + o + c - c' * 18446744073709551616 := by omega
      clear eM eA eB h7 ih e1 hyj hoj hlo hlo0
      grind
    · rw [← h7, show k + (d + 1) + 1 = (k + d + 1) + 1 from by omega]
      conv => lhs; unfold nat_Mul.l1
      have er : rd y (j : Int) = y.getD j 0 := rfl
      have er2 : rd out ((i + j : Nat) : Int) = out.getD (i + j) 0 := rfl
      rw [ew, ew2, er, er2, eM]
      simp only [Option.bind_some]
      rw [if_pos q0, if_pos q1, if_pos q0, if_pos q2, if_pos q3, eA]
      simp only [Option.bind_some]
      rw [eB]
      simp only [Option.bind_some]
      rw [ec, Int.toNat_natCast]
theorem nat_Mul.l0_eq (x y : List Int) (hx : Ws x) (hy : Ws y) (m : Nat) (hm : m ≤ 35184372088832) (hlm : x.length + y.length = m) : ∀ (d k : Nat) (out : List Int) (i : Nat), d = x.length - i → d * (y.length + 2) + m + 1 < k → i ≤ x.length → out.length = m → Ws out → nv out = nv (x.take i) * nv y →
    nat_Mul.l0 k y out x (x.length : Int) i = some (bnd (nv x * nv y)) := by
  intro d
  induction d with
  | zero =>
    intro k out i hd hk hi hl hw hv
    obtain ⟨k, rfl⟩ : ∃ j, k = j + 1 := ⟨k - 1, by omega⟩
    obtain rfl : i = x.length := by omega
    rw [List.take_length] at hv
    simp only [nat_Mul.l0]
    rw [if_neg (by omega), nat_bound.f_bnd hw (by omega) k (by omega), hv]
    rfl
  | succ d ih =>
    intro k out i hd hk hi hl hw hv
    have hk' : d * (y.length + 2) + (y.length + 2) + m + 1 < k := by rw [Nat.succ_mul] at hk; exact hk
    obtain ⟨k, rfl⟩ : ∃ j, k = j + y.length + 1 + 1 := ⟨k - (y.length + 2), by omega⟩
    have hxi := hx.getD i
    have htop : nv out < 2 ^ (64 * (i + y.length)) := by
      rw [hv, show 64 * (i + y.length) = 64 * i + 64 * y.length from by omega, Int.pow_add]
      have h1 := nv_lt (hx.take i)
      rw [List.length_take, Nat.min_eq_left (by omega)] at h1
      have h2 := nv_lt hy
      have h3 := nv_nonneg (hx.take i)
      have h4 := nv_nonneg hy
      have hp := two_pow_pos (64 * i)
      have h5 : nv (x.take i) * nv y ≤ nv (x.take i) * 2 ^ (64 * y.length) := Int.mul_le_mul_of_nonneg_left (by omega) h3
      have h6 : nv (x.take i) * 2 ^ (64 * y.length) < 2 ^ (64 * i) * 2 ^ (64 * y.length) := Int.mul_lt_mul_of_pos_right h1 (two_pow_pos _)
      omega
    obtain ⟨out', c', h1, h2, h3, h4, h5, h6, h7⟩ := nat_Mul.l1_eq x y hy i m (x.getD i 0) hxi.1 hxi.2 hm (by omega) y.length k out 0 0 (by omega) (by omega) hl hw (by omega) (by omega) (getD_zero_of_lt hw htop)
    conv => lhs; unfold nat_Mul.l0
    have er : rd x (i : Int) = x.getD i 0 := rfl
    rw [if_pos (by omega), if_pos (by omega), if_pos (by omega), er]
    have h7' : nat_Mul.l1 (k + y.length + 1) y out i (x.getD i 0) 0 x (x.length : Int) i y (y.length : Int) 0 = nat_Mul.l0 k y (out'.set (i + y.length) c') x (x.length : Int) ((i + 1 : Nat) : Int) := h7
    rw [h7']
    refine ih k _ (i + 1) (by omega) (by omega) (by omega) (by rw [List.length_set, h2]) (h1.set _ h3 h4) ?_
    rw [nv_set (by omega), h5, nv_take_succ (by omega), Int.add_mul, ← hv]
    simp only [List.take_zero, nv_nil] at h6
    generalize (2 : Int) ^ (64 * i) = pi at *
    generalize (2 : Int) ^ (64 * (i + y.length)) = pl at *
    generalize x.getD i 0 = xi at *
    clear h7 h7' er ih hk hk'
    grind
theorem strip_take' (xs : List Int) : xs.take (strip xs).length = strip xs := (strip_take xs).symm
theorem bnd_big {n : Int} (h : (2 : Int) ^ 262144 ≤ n) : bnd n = ([], 21) := by unfold bnd; rw [if_neg (by omega)]
theorem nv_pos_iff {xs : List Int} (h : Ws xs) : 0 < nv xs ↔ (strip xs) ≠ [] := by
  rw [← strip_length_pos h]
  exact ⟨fun h1 h2 => by rw [h2] at h1; simp at h1, fun h1 => List.length_pos_iff.2 h1⟩
/-- the product, where it isn't too long -/
theorem nat_Mul.f_eq (x y : List Int) (hx : Ws x) (hy : Ws y) (hlx : x.length ≤ 1000000) (hly : y.length ≤ 1000000) (k : Nat) (hk : x.length * (y.length + 2) + x.length + y.length + 20 < k) :
    nat_Mul.f k x y = some (if nv x * nv y = 0 then ([], 0) else bnd (nv x * nv y)) := by
  have hsx := strip_length_le x
  have hsy := strip_length_le y
  have hm : (strip x).length * ((strip y).length + 2) ≤ x.length * (y.length + 2) := Nat.mul_le_mul hsx (by omega)
  obtain ⟨k, rfl⟩ : ∃ j, k = j + 1 := ⟨k - 1, by omega⟩
  rw [nat_Mul.f, nat_size.f_eq x (by omega) _ (by omega)]
  simp only [Option.bind_some]
  rw [if_pos (by omega), if_pos (by omega), nat_size.f_eq y (by omega) _ (by omega)]
  simp only [Option.bind_some]
  rw [if_pos (by omega), if_pos (by omega), Int.toNat_natCast, Int.toNat_natCast, strip_take', strip_take']
  have ex := nv_strip x
  have ey := nv_strip y
  have wx := hx.strip
  have wy := hy.strip
  have px := nv_pos_iff hx
  have py := nv_pos_iff hy
  rw [← ex, ← ey] at *
  generalize strip x = x' at *
  generalize strip y = y' at *
  have nx := nv_nonneg wx
  have ny := nv_nonneg wy
  by_cases h0 : x' = []
  · subst h0
    rw [if_pos (by simp), nat_Mul.j0, if_pos rfl]
    simp [nv]
  · have hx0 : x'.length ≠ 0 := fun h => h0 (List.eq_nil_of_length_eq_zero h)
    rw [if_neg (by omega)]
    by_cases h1 : y' = []
    · subst h1
      rw [nat_Mul.j0, if_pos (by simp)]
      simp [nv]
    · have hy0 : y'.length ≠ 0 := fun h => h1 (List.eq_nil_of_length_eq_zero h)
      have hpx := px.2 h0
      have hpy := py.2 h1
      have hp : 0 < nv x' * nv y' := Int.mul_pos hpx hpy
      rw [nat_Mul.j0, if_neg (by simp only [beq_iff_eq]; omega), nat_Bits.f_eq x' wx (by omega) k (by omega) (by omega), if_neg (show ¬ nv x' * nv y' = 0 by omega)]
      simp only [Option.bind_some]
      rw [nat_Bits.f_eq y' wy (by omega) k (by omega) (by omega)]
      simp only [Option.bind_some]
      have bx := bitsN_ge hpx
      have by_ := bitsN_ge hpy
      have bx1 := bitsN_pos hpx
      have by1 := bitsN_pos hpy
      have bx2 := bitsN_le_of_lt (n := 64 * x'.length) nx (nv_lt wx)
      have by2 := bitsN_le_of_lt (n := 64 * y'.length) ny (nv_lt wy)
      have hbx : 1 ≤ bitsN (nv x') := by omega
      have hby : 1 ≤ bitsN (nv y') := by omega
      clear bx1 by1
      have ew : wrap64 (bitsN (nv x') - 1) = bitsN (nv x') - 1 := by unfold wrap64; omega
      have ew2 : wrap64 (262144 - bitsN (nv y')) = 262144 - bitsN (nv y') := by clear ew; unfold wrap64; omega
      rw [ew, ew2]
      clear ew ew2
      by_cases hb : bitsN (nv x') - 1 > 262144 - bitsN (nv y')
      · rw [if_pos hb, bnd_big]
        have h3 : (2 : Int) ^ 262144 ≤ 2 ^ ((bitsN (nv x')).toNat - 1 + ((bitsN (nv y')).toNat - 1)) := pow_mono (by omega)
        rw [Int.pow_add] at h3
        exact Int.le_trans h3 (Int.mul_le_mul bx by_ (Int.le_of_lt (two_pow_pos _)) nx)
      · rw [if_neg hb]
        clear hb bx by_ bx2 by2 hbx hby
        have ew := w64_add x'.length y'.length (by omega)
        have c1 : (0 : Int) ≤ ((x'.length + y'.length : Nat) : Int) := Int.natCast_nonneg _
        rw [ew, if_pos c1, Int.toNat_natCast]
        clear ew c1
        rw [if_pos (by omega)]
        exact nat_Mul.l0_eq x' y' wx wy (x'.length + y'.length) (by omega) rfl x'.length k _ 0 (by omega) (by omega) (by omega) (by simp) (Ws.zeros _) (by rw [nv_zeros]; simp [nv])
end Go.Proofs.YtoannkopciehcaaDoor.PA

namespace Go.Proofs.YtoannkopciehcaaDoor.PA
open Go.RowKit Go.Proofs.YtoannkopciehcaaDoorW.PrintWords Go.Proofs.YtoannkopciehcaaDoorW.PrintLast Go.Proofs.YtoannkopciehcaaDoorW.PrintMore
set_option linter.unusedVariables false
set_option linter.unusedSimpArgs false
theorem drop_set_self {xs : List Int} {m : Nat} (h : m < xs.length) (q : Int) : (xs.set m q).drop m = q :: xs.drop (m + 1) := by
  rw [List.drop_eq_getElem_cons (by rw [List.length_set]; exact h), List.getElem_set_self, List.drop_set_of_lt (by omega)]
theorem drop_getD {xs : List Int} {m : Nat} (h : m < xs.length) : xs.drop m = xs.getD m 0 :: xs.drop (m + 1) := by
  rw [List.drop_eq_getElem_cons h, List.getD_eq_getElem?_getD, List.getElem?_eq_getElem h]; rfl
theorem div_step {r x d : Int} (hr0 : 0 ≤ r) (hr : r < d) (hx0 : 0 ≤ x) (hx : x < 18446744073709551616) (hd : d < 18446744073709551616) :
    wide_Div.f r x d = some ((r * 18446744073709551616 + x) / d, (r * 18446744073709551616 + x) % d, 0) ∧ 0 ≤ (r * 18446744073709551616 + x) / d ∧ (r * 18446744073709551616 + x) / d < 18446744073709551616 ∧
      0 ≤ (r * 18446744073709551616 + x) % d ∧ (r * 18446744073709551616 + x) % d < d ∧ r * 18446744073709551616 + x = (r * 18446744073709551616 + x) / d * d + (r * 18446744073709551616 + x) % d := by
  have hdp : 0 < d := by omega
  refine ⟨?_, Int.ediv_nonneg (by omega) (by omega), Int.ediv_lt_of_lt_mul hdp ?_, Int.emod_nonneg _ (by omega), Int.emod_lt_of_pos _ hdp, ?_⟩
  · unfold wide_Div.f
    rw [if_pos ⟨u64B_iff.2 ⟨hr0, by omega⟩, u64B_iff.2 ⟨hx0, hx⟩, u64B_iff.2 ⟨by omega, hd⟩⟩, if_neg (by omega), if_neg (by omega)]
  · have : r * 18446744073709551616 ≤ (d - 1) * 18446744073709551616 := Int.mul_le_mul_of_nonneg_right (by omega) (by omega)
    rw [Int.sub_mul] at this
    rw [Int.mul_comm]
    omega
  · have := Int.mul_ediv_add_emod (r * 18446744073709551616 + x) d
    rw [Int.mul_comm] at this
    omega
theorem quot_Small.l0_eq (x : List Int) (hx : Ws x) (d : Int) (hd0 : 0 < d) (hd : d < 18446744073709551616) (hm : x.length ≤ 35184372088832) : ∀ (n k : Nat) (out : List Int) (r : Int), n < k → n ≤ x.length → out.length = x.length → Ws out → 0 ≤ r → r < d → nv (x.drop n) = nv (out.drop n) * d + r →
    quot_Small.l0 k x d out r ((n : Int) - 1) = some (wd (nv x / d).toNat, nv x % d, 0) := by
  intro n
  induction n with
  | zero =>
    intro k out r hk hn hl hw hr0 hr hv
    obtain ⟨k, rfl⟩ : ∃ j, k = j + 1 := ⟨k - 1, by omega⟩
    simp only [quot_Small.l0]
    rw [if_neg (by omega), nat_Norm.f, if_pos (by omega)]
    simp only [Option.bind_some, List.drop_zero] at hv ⊢
    have e1 : nv x / d = nv out := by rw [hv, Int.add_comm, Int.add_mul_ediv_right _ _ (by omega), Int.ediv_eq_zero_of_lt hr0 hr, Int.zero_add]
    have e2 : nv x % d = r := by rw [hv, Int.add_comm, Int.add_mul_emod_self_right, Int.emod_eq_of_lt hr0 hr]
    rw [e1, e2, wd_nv hw]
  | succ n ih =>
    intro k out r hk hn hl hw hr0 hr hv
    obtain ⟨k, rfl⟩ : ∃ j, k = j + 1 := ⟨k - 1, by omega⟩
    have q1 : ((n : Int)) ≥ 0 := by omega
    have q2 : (n : Int) < (x.length : Int) := by omega
    have q3 : (n : Int) < (out.length : Int) := by omega
    have q4 : n < out.length := by omega
    have q5 : n < x.length := by omega
    have q6 : n < k := by omega
    have q7 : n ≤ x.length := by omega
    have ew : wrap64 ((n : Int) - 1) = (n : Int) - 1 := by unfold wrap64; omega
    have ho := hx.getD n
    obtain ⟨e1, e2, e3, e4, e5, e6⟩ := div_step hr0 hr ho.1 ho.2 hd
    have en : ((n + 1 : Nat) : Int) - 1 = (n : Int) := by omega
    have er : rd x (n : Int) = x.getD n 0 := rfl
    simp only [quot_Small.l0]
    rw [en, if_pos q1, if_pos q1, if_pos q2, er, e1]
    simp only [Option.bind_some]
    rw [if_pos q3, ew, Int.toNat_natCast]
    refine ih k _ _ q6 q7 (by rw [List.length_set, hl]) (hw.set _ e2 e3) e4 e5 ?_
    rw [drop_set_self q4, drop_getD q5, nv_cons, nv_cons, hv]
    generalize (r * 18446744073709551616 + x.getD n 0) / d = q at *
    generalize (r * 18446744073709551616 + x.getD n 0) % d = s at *
    generalize nv (out.drop (n + 1)) = z at *
    generalize x.getD n 0 = y at *
    clear ew e1 er en
    grind
theorem quot_Small.f_eq (x : List Int) (hx : Ws x) (d : Int) (hd0 : 0 < d) (hd : d < 18446744073709551616) (hm : x.length ≤ 35184372088832) (k : Nat) (hk : x.length < k) :
    quot_Small.f k x d = some (wd (nv x / d).toNat, nv x % d, 0) := by
  have ew : wrap64 ((x.length : Int) - 1) = (x.length : Int) - 1 := by unfold wrap64; omega
  rw [quot_Small.f, ew, if_neg (by omega), if_pos (by omega), Int.toNat_natCast, if_pos hm]
  exact quot_Small.l0_eq x hx d hd0 hd hm x.length k _ 0 hk (Nat.le_refl _) (by simp) (Ws.zeros _) (Int.le_refl _) hd0 (by rw [List.drop_eq_nil_of_le (Nat.le_refl _), List.drop_eq_nil_of_le (by simp)]; simp [nv])
end Go.Proofs.YtoannkopciehcaaDoor.PA

namespace Go.Proofs.YtoannkopciehcaaDoor.PA
open Go.RowKit Go.Proofs.YtoannkopciehcaaDoorW.PrintWords Go.Proofs.YtoannkopciehcaaDoorW.PrintLast Go.Proofs.YtoannkopciehcaaDoorW.PrintMore
set_option linter.unusedVariables false
set_option linter.unusedSimpArgs false
theorem pow_split {s : Nat} (h : s ≤ 64) : (2 : Int) ^ s * 2 ^ (64 - s) = 18446744073709551616 := by
  rw [← Int.pow_add, show s + (64 - s) = 64 from by omega]; rfl
theorem shl_low {x P R : Int} (hP : 0 < P) (h : P * R = 18446744073709551616) : x * P % 18446744073709551616 = P * (x % R) := by
  rw [← h, Int.mul_comm x P, Int.mul_emod_mul_of_pos _ _ hP]
theorem shl_word {x P R : Int} (hP : 0 < P) (h : P * R = 18446744073709551616) : x * P = 18446744073709551616 * (x / R) + x * P % 18446744073709551616 := by
  rw [shl_low hP h]
  have h1 := Int.mul_ediv_add_emod x R
  generalize x / R = a at *
  generalize x % R = b at *
  rw [← h, ← h1]
  grind
theorem wide_Shl.f_eq {hi lo : Int} {s : Nat} (hs1 : 1 ≤ s) (hs : s ≤ 63) (h0 : 0 ≤ hi) (h1 : hi < 18446744073709551616) (l0 : 0 ≤ lo) (l1 : lo < 18446744073709551616) :
    wide_Shl.f hi lo (s : Int) = some (hi * 2 ^ s % 18446744073709551616 + lo / 2 ^ (64 - s), lo * 2 ^ s % 18446744073709551616) := by
  have e1 : mn (mx (s : Int) 0) 128 = (s : Int) := by
    unfold mn mx
    rw [if_neg (by omega), if_neg (by omega)]
  have ew : wrap64 (64 - (s : Int)) = ((64 - s : Nat) : Int) := by unfold wrap64; omega
  have c1 : (0 : Int) ≤ (s : Int) := by clear ew e1; omega
  have c2 : ¬ (s : Int) ≥ 64 := by clear ew e1; omega
  have c3 : (0 : Int) ≤ ((64 - s : Nat) : Int) := Int.natCast_nonneg _
  have hP := two_pow_pos s
  have hR := two_pow_pos (64 - s)
  have hPR := pow_split (s := s) (by omega)
  rw [wide_Shl.f, wide_within.f, e1]
  simp only [Option.bind_some]
  rw [if_neg c2, if_pos c1, ew, if_pos c3]
  clear ew e1 c1 c2 c3
  have m1 : min s 64 = s := Nat.min_eq_left (by omega)
  have m2 : min (64 - s) 64 = 64 - s := Nat.min_eq_left (by omega)
  rw [shl_eq, shl_eq, shr_eq, Int.toNat_natCast, Int.toNat_natCast, m1, m2]
  have hx : hi * 2 ^ s % 18446744073709551616 % 2 ^ s = 0 := by rw [shl_low hP hPR, Int.mul_emod_right]
  have hy : lo / 2 ^ (64 - s) < 2 ^ s := Int.ediv_lt_of_lt_mul hR (by rw [hPR]; exact l1)
  have hle : (2 : Int) ^ s ≤ 2 ^ 63 := pow_mono hs
  have hy0 : 0 ≤ lo / 2 ^ (64 - s) := Int.ediv_nonneg l0 (Int.le_of_lt hR)
  rw [or_join s (Int.emod_nonneg _ (by decide)) (Int.emod_lt_of_pos _ (by decide)) hx hy0 hy (Int.lt_trans (Int.lt_of_lt_of_le hy hle) (by decide))]
theorem take_getD {xs ys : List Int} {n j : Nat} (h : xs.take n = ys.take n) (hj : j < n) : xs.getD j 0 = ys.getD j 0 := by
  have h1 : (xs.take n)[j]? = (ys.take n)[j]? := by rw [h]
  rw [List.getElem?_take, List.getElem?_take, if_pos hj, if_pos hj] at h1
  rw [List.getD_eq_getElem?_getD, List.getD_eq_getElem?_getD, h1]
theorem take_set_self {xs : List Int} {n : Nat} {v : Int} : (xs.set n v).take n = xs.take n := by
  rw [List.take_set]
  exact List.set_eq_of_length_le (by rw [List.length_take]; omega)
theorem take_less {xs ys : List Int} {n : Nat} (h : xs.take (n + 1) = ys.take (n + 1)) : xs.take n = ys.take n := by
  have h1 : (xs.take (n + 1)).take n = (ys.take (n + 1)).take n := by rw [h]
  rwa [List.take_take, List.take_take, Nat.min_eq_left (by omega)] at h1
theorem nat_Shl.l0_eq (y : List Int) (hy : Ws y) (q s m : Nat) (a1 : Int) (ea : wrap64 (Int.tdiv a1 64) = (q : Int)) (hs1 : 1 ≤ s) (hs : s ≤ 63) (hm : m ≤ 35184372088832) (hlm : y.length = m) (hz : nv (y.take q) = 0) :
    ∀ (e k : Nat) (cur : List Int) (i : Nat), i = q + e → e + m + 1 < k → i < m → cur.length = m → Ws cur → cur.take (i + 1) = y.take (i + 1) → nv (cur.drop (i + 1)) = nv (y.drop (i + 1)) * 2 ^ s + y.getD i 0 / 2 ^ (64 - s) →
    nat_Shl.l0 k a1 cur (s : Int) (i : Int) = some (bnd (nv y * 2 ^ s)) := by
  have hP := two_pow_pos s
  have hR := two_pow_pos (64 - s)
  have hPR := pow_split (s := s) (by omega)
  intro e
  induction e with
  | zero =>
    intro k cur i hi hk him hl hw ht hv
    obtain ⟨k, rfl⟩ : ∃ j, k = j + 1 := ⟨k - 1, by clear ea hP hR hPR hv hz; omega⟩
    obtain rfl : i = q := hi
    have c1 : ¬ (i : Int) > (i : Int) := Int.lt_irrefl _
    have c2 : (0 : Int) ≤ (i : Int) := Int.natCast_nonneg _
    have c3 : (i : Int) < (cur.length : Int) := by rw [hl]; exact Int.ofNat_lt.2 him
    have c4 : (0 : Int) ≤ (s : Int) := Int.natCast_nonneg _
    have c5 : i < cur.length := by rw [hl]; exact him
    have c6 : i < y.length := by rw [hlm]; exact him
    have c7 : m < k := by clear ea hP hR hPR hv hz; omega
    have er : rd cur (i : Int) = cur.getD i 0 := rfl
    have m1 : min s 64 = s := Nat.min_eq_left (by clear ea hP hR hPR hv hz; omega)
    conv => lhs; unfold nat_Shl.l0
    rw [ea, if_neg c1, if_pos c2, if_pos c3, if_pos c4, er, take_getD ht (Nat.lt_succ_self i), shl_eq, Int.toNat_natCast, Int.toNat_natCast, m1]
    have hw' : Ws (cur.set i (y.getD i 0 * 2 ^ s % 18446744073709551616)) := hw.set _ (Int.emod_nonneg _ (by decide)) (Int.emod_lt_of_pos _ (by decide))
    rw [nat_bound.f_bnd hw' (by rw [List.length_set, hl]; exact hm) k (by rw [List.length_set, hl]; exact c7)]
    simp only [Option.bind_some]
    have e1 : nv (cur.set i (y.getD i 0 * 2 ^ s % 18446744073709551616)) = nv y * 2 ^ s := by
      rw [nv_split (xs := cur.set i _) (n := i) (by rw [List.length_set]; exact Nat.le_of_lt c5), take_set_self, take_less ht, hz, drop_set_self c5, nv_cons, hv, nv_split (xs := y) (n := i) (Nat.le_of_lt c6), hz, drop_getD c6, nv_cons]
      have h2 := shl_word (x := y.getD i 0) hP hPR
      generalize y.getD i 0 / 2 ^ (64 - s) = u at *
      generalize y.getD i 0 * 2 ^ s % 18446744073709551616 = v at *
      generalize nv (y.drop (i + 1)) = z at *
      generalize y.getD i 0 = w at *
      generalize (2 : Int) ^ (64 * i) = p at *
      generalize (2 : Int) ^ s = P at *
      clear hv ht ea er
      grind
    rw [e1]
  | succ e ih =>
    intro k cur i hi hk him hl hw ht hv
    obtain ⟨k, rfl⟩ : ∃ j, k = j + 1 := ⟨k - 1, by clear ea hP hR hPR hv hz; omega⟩
    obtain ⟨i, rfl⟩ : ∃ j, i = j + 1 := ⟨i - 1, by clear ea hP hR hPR hv hz; omega⟩
    have c1 : ((i + 1 : Nat) : Int) > (q : Int) := by clear ea hP hR hPR hv hz; omega
    have c2 : (0 : Int) ≤ ((i + 1 : Nat) : Int) := Int.natCast_nonneg _
    have c3 : ((i + 1 : Nat) : Int) < (cur.length : Int) := by rw [hl]; exact Int.ofNat_lt.2 him
    have ew : wrap64 (((i + 1 : Nat) : Int) - 1) = (i : Int) := by clear ea hP hR hPR hv hz; unfold wrap64; omega
    have c4 : (0 : Int) ≤ (i : Int) := Int.natCast_nonneg _
    have c5 : (i : Int) < (cur.length : Int) := by clear ea hP hR hPR hv hz ew; omega
    have c6 : i + 1 < cur.length := by clear ea hP hR hPR hv hz ew; omega
    have c7 : i + 1 < y.length := by clear ea hP hR hPR hv hz ew; omega
    have d1 : i = q + e := by clear ea hP hR hPR hv hz ew; omega
    have d2 : e + m + 1 < k := by clear ea hP hR hPR hv hz ew; omega
    have d3 : i < m := by clear ea hP hR hPR hv hz ew; omega
    have er : rd cur ((i + 1 : Nat) : Int) = cur.getD (i + 1) 0 := rfl
    have er2 : rd cur (i : Int) = cur.getD i 0 := rfl
    have y1 := hy.getD (i + 1)
    have y0 := hy.getD i
    conv => lhs; unfold nat_Shl.l0
    rw [ea, if_pos c1, if_pos c2, if_pos c3, ew, if_pos c4, if_pos c5, er, er2, take_getD ht (Nat.lt_succ_self (i + 1)), take_getD ht (show i < i + 1 + 1 from Nat.lt_succ_of_lt (Nat.lt_succ_self i)), wide_Shl.f_eq hs1 hs y1.1 y1.2 y0.1 y0.2]
    simp only [Option.bind_some]
    rw [Int.toNat_natCast]
    have hlow := shl_low (x := y.getD (i + 1) 0) hP hPR
    have g0 : 0 ≤ y.getD (i + 1) 0 % 2 ^ (64 - s) := Int.emod_nonneg _ (Int.ne_of_gt hR)
    have g1 : y.getD (i + 1) 0 % 2 ^ (64 - s) < 2 ^ (64 - s) := Int.emod_lt_of_pos _ hR
    have g2 : 0 ≤ y.getD i 0 / 2 ^ (64 - s) := Int.ediv_nonneg y0.1 (Int.le_of_lt hR)
    have g3 : y.getD i 0 / 2 ^ (64 - s) < 2 ^ s := Int.ediv_lt_of_lt_mul hR (by rw [hPR]; exact y0.2)
    have v0 : 0 ≤ y.getD (i + 1) 0 * 2 ^ s % 18446744073709551616 + y.getD i 0 / 2 ^ (64 - s) := Int.add_nonneg (Int.emod_nonneg _ (by decide)) g2
    have v1 : y.getD (i + 1) 0 * 2 ^ s % 18446744073709551616 + y.getD i 0 / 2 ^ (64 - s) < 18446744073709551616 := by
      rw [hlow, ← hPR]
      have h3 : 2 ^ s * (y.getD (i + 1) 0 % 2 ^ (64 - s) + 1) ≤ 2 ^ s * 2 ^ (64 - s) := Int.mul_le_mul_of_nonneg_left g1 (Int.le_of_lt hP)
      rw [Int.mul_add, Int.mul_one] at h3
      exact Int.lt_of_lt_of_le (Int.add_lt_add_left g3 _) h3
    refine ih k _ i d1 d2 d3 (by rw [List.length_set]; exact hl) (hw.set _ v0 v1) (by rw [take_set_self]; exact take_less ht) ?_
    rw [drop_set_self c6, drop_getD c7, nv_cons, nv_cons, hv]
    have h2 := shl_word (x := y.getD (i + 1) 0) hP hPR
    clear ew ea er er2 hlow g0 g1 g2 g3 v0 v1 y0 y1 ht hv ih
    generalize y.getD (i + 1) 0 * 2 ^ s % 18446744073709551616 = v at *
    generalize y.getD (i + 1) 0 / 2 ^ (64 - s) = u at *
    generalize y.getD i 0 / 2 ^ (64 - s) = t at *
    generalize y.getD (i + 1) 0 = w at *
    generalize nv (y.drop (i + 1 + 1)) = z at *
    generalize (2 : Int) ^ s = P at *
    grind
end Go.Proofs.YtoannkopciehcaaDoor.PA

namespace Go.Proofs.YtoannkopciehcaaDoor.PA
open Go Go.RowKit Go.Proofs.YtoannkopciehcaaDoorW.PrintWords Go.Proofs.YtoannkopciehcaaDoorW.PrintLast Go.Proofs.YtoannkopciehcaaDoorW.PrintMore
set_option linter.unusedVariables false
set_option linter.unusedSimpArgs false
theorem le_t {a b : Int} (h : a ≤ b) : (a ≤ b) = True := eq_true h
theorem le_f {a b : Int} (h : b < a) : (a ≤ b) = False := eq_false (by omega)
theorem lt_t {a b : Int} (h : a < b) : (a < b) = True := eq_true h
theorem lt_f {a b : Int} (h : b ≤ a) : (a < b) = False := eq_false (by omega)
theorem rdn (xs : List Int) (n : Nat) : rd xs (n : Int) = xs.getD n 0 := rfl
theorem w64x {x : Int} {n : Nat} (h : x = (n : Int)) (hn : n ≤ 9223372036854775807) : wrap64 x = (n : Int) := by rw [h, w64_of (by omega) (by omega)]
theorem w64_s (n : Nat) (h : n < 9223372036854775807) : wrap64 ((n : Int) + 1) = ((n + 1 : Nat) : Int) := by rw [w64_of (by omega) (by omega)]; omega
theorem pow_split' {s : Nat} (h : s ≤ 64) : (2 : Int) ^ (64 - s) * 2 ^ s = 18446744073709551616 := by rw [Int.mul_comm, pow_split h]
theorem wide_Shl.f_eq0 {hi lo : Int} {s : Nat} (hs : s ≤ 63) (h0 : 0 ≤ hi) (h1 : hi < 18446744073709551616) (l0 : 0 ≤ lo) (l1 : lo < 18446744073709551616) :
    wide_Shl.f hi lo (s : Int) = some (hi * 2 ^ s % 18446744073709551616 + lo / 2 ^ (64 - s), lo * 2 ^ s % 18446744073709551616) := by
  have e1 : mn (mx (s : Int) 0) 128 = (s : Int) := by
    unfold mn mx
    rw [if_neg (by omega), if_neg (by omega)]
  have hP := two_pow_pos s
  have hR := two_pow_pos (64 - s)
  have hPR := pow_split (s := s) (by omega)
  have ew : wrap64 (64 - (s : Int)) = ((64 - s : Nat) : Int) := by rw [w64_of (by omega) (by omega)]; omega
  rw [wide_Shl.f, wide_within.f, e1]
  simp only [Option.bind_some]
  rw [ew]
  simp (disch := with_reducible omega) only [↓reduceIte, le_t, le_f, lt_t, lt_f, ge_iff_le, gt_iff_lt]
  have m1 : min s 64 = s := Nat.min_eq_left (by omega)
  have m2 : min (64 - s) 64 = 64 - s := Nat.min_eq_left (by omega)
  rw [shl_eq, shl_eq, shr_eq, Int.toNat_natCast, Int.toNat_natCast, m1, m2]
  have hx : hi * 2 ^ s % 18446744073709551616 % 2 ^ s = 0 := by rw [shl_low hP hPR, Int.mul_emod_right]
  have hy : lo / 2 ^ (64 - s) < 2 ^ s := Int.ediv_lt_of_lt_mul hR (by rw [hPR]; exact l1)
  have hle : (2 : Int) ^ s ≤ 2 ^ 63 := pow_mono hs
  have hy0 : 0 ≤ lo / 2 ^ (64 - s) := Int.ediv_nonneg l0 (Int.le_of_lt hR)
  rw [or_join s (Int.emod_nonneg _ (by decide)) (Int.emod_lt_of_pos _ (by decide)) hx hy0 hy (Int.lt_trans (Int.lt_of_lt_of_le hy hle) (by decide))]
theorem wide_Shr.f_eq {hi lo : Int} {s : Nat} (hs : s ≤ 63) (h0 : 0 ≤ hi) (h1 : hi < 18446744073709551616) (l0 : 0 ≤ lo) (l1 : lo < 18446744073709551616) :
    wide_Shr.f hi lo (s : Int) = some (hi / 2 ^ s, hi * 2 ^ (64 - s) % 18446744073709551616 + lo / 2 ^ s, decide (lo * 2 ^ (64 - s) % 18446744073709551616 ≠ 0)) := by
  have e1 : mn (mx (s : Int) 0) 128 = (s : Int) := by
    unfold mn mx
    rw [if_neg (by omega), if_neg (by omega)]
  have hP := two_pow_pos s
  have hR := two_pow_pos (64 - s)
  have hPR := pow_split' (s := s) (by omega)
  have ew : wrap64 (64 - (s : Int)) = ((64 - s : Nat) : Int) := by rw [w64_of (by omega) (by omega)]; omega
  rw [wide_Shr.f, wide_within.f, e1]
  simp only [Option.bind_some]
  rw [ew]
  simp (disch := with_reducible omega) only [↓reduceIte, le_t, le_f, lt_t, lt_f, ge_iff_le, gt_iff_lt]
  have m1 : min s 64 = s := Nat.min_eq_left (by omega)
  have m2 : min (64 - s) 64 = 64 - s := Nat.min_eq_left (by omega)
  rw [shl_eq, shl_eq, shr_eq, shr_eq, Int.toNat_natCast, Int.toNat_natCast, m1, m2]
  have hx : hi * 2 ^ (64 - s) % 18446744073709551616 % 2 ^ (64 - s) = 0 := by rw [shl_low hR hPR, Int.mul_emod_right]
  have hy : lo / 2 ^ s < 2 ^ (64 - s) := Int.ediv_lt_of_lt_mul hP (by rw [hPR]; exact l1)
  have hy0 : 0 ≤ lo / 2 ^ s := Int.ediv_nonneg l0 (Int.le_of_lt hP)
  have hle : lo / 2 ^ s ≤ lo := Int.ediv_le_self _ l0
  rw [or_join' (64 - s) (Int.emod_nonneg _ (by decide)) (Int.emod_lt_of_pos _ (by decide)) hx hy0 hy (by omega)]
  rw [Int.add_comm]
  congr 3
  rw [Bool.eq_iff_iff]; simp
theorem quot_shl.l0_eq (x : List Int) (hx : Ws x) (s m : Nat) (hs : s ≤ 63) (hm : m ≤ 35184372088832) (hxm : x.length ≤ m) (hfit : nv x * 2 ^ s < 2 ^ (64 * m)) : ∀ (d k : Nat) (out : List Int) (c : Int) (i : Nat), d = x.length - i → d < k → i ≤ x.length → out.length = m → Ws out → 0 ≤ c → c < 2 ^ s → (∀ j, i ≤ j → out.getD j 0 = 0) → nv out + c * 2 ^ (64 * i) = nv (x.take i) * 2 ^ s →
    quot_shl.l0 k x (s : Int) (m : Int) out c x (x.length : Int) (i : Int) = some (wn m (nv x * 2 ^ s)) := by
  have hP := two_pow_pos s
  have hR := two_pow_pos (64 - s)
  have hPR := pow_split (s := s) (by omega)
  have hle : (2 : Int) ^ s ≤ 2 ^ 63 := pow_mono hs
  have h63 : (2 : Int) ^ 63 = 9223372036854775808 := by decide
  intro d
  induction d with
  | zero =>
    intro k out c i hd hk hi hl hw hc0 hc hz hv
    obtain ⟨k, rfl⟩ : ∃ j, k = j + 1 := ⟨k - 1, by omega⟩
    obtain rfl : i = x.length := by omega
    rw [List.take_length] at hv
    unfold quot_shl.l0
    rw [if_neg (by omega)]
    by_cases hxm' : x.length < m
    · rw [if_pos (by omega), if_pos (by omega), if_pos (by omega), Int.toNat_natCast]
      have e : nv (out.set x.length c) = nv x * 2 ^ s := by
        rw [nv_set (by omega), hz _ (Nat.le_refl _), ← hv]; grind
      rw [← e, ← eq_wn (hw.set _ hc0 (by omega)) (by rw [List.length_set]; exact hl)]
    · rw [if_neg (by omega)]
      obtain rfl : x.length = m := by omega
      have n0 := nv_nonneg hw
      have c0 : c = 0 := by
        apply Classical.byContradiction
        intro hne
        have h1 : 1 * 2 ^ (64 * x.length) ≤ c * 2 ^ (64 * x.length) := Int.mul_le_mul_of_nonneg_right (by omega) (Int.le_of_lt (two_pow_pos _))
        omega
      rw [c0, Int.zero_mul, Int.add_zero] at hv
      rw [← hv, ← eq_wn hw hl]
  | succ d ih =>
    intro k out c i hd hk hi hl hw hc0 hc hz hv
    obtain ⟨k, rfl⟩ : ∃ j, k = j + 1 := ⟨k - 1, by omega⟩
    have ho := hx.getD i
    have hy : x.getD i 0 / 2 ^ (64 - s) < 2 ^ s := Int.ediv_lt_of_lt_mul hR (by rw [hPR]; exact ho.2)
    have hy0 : 0 ≤ x.getD i 0 / 2 ^ (64 - s) := Int.ediv_nonneg ho.1 (Int.le_of_lt hR)
    have hlow := shl_low (x := x.getD i 0) hP hPR
    have hm1 := Int.emod_nonneg (x.getD i 0 * 2 ^ s) (show (18446744073709551616 : Int) ≠ 0 by decide)
    have hm2 := Int.emod_lt_of_pos (x.getD i 0 * 2 ^ s) (show (0 : Int) < 18446744073709551616 by decide)
    have g0 : 0 ≤ x.getD i 0 % 2 ^ (64 - s) := Int.emod_nonneg _ (Int.ne_of_gt hR)
    have g1 : x.getD i 0 % 2 ^ (64 - s) < 2 ^ (64 - s) := Int.emod_lt_of_pos _ hR
    have hsum : x.getD i 0 * 2 ^ s % 18446744073709551616 + c < 18446744073709551616 := by
      rw [hlow, ← hPR]
      have h3 : 2 ^ s * (x.getD i 0 % 2 ^ (64 - s) + 1) ≤ 2 ^ s * 2 ^ (64 - s) := Int.mul_le_mul_of_nonneg_left g1 (Int.le_of_lt hP)
      rw [Int.mul_add, Int.mul_one] at h3
      omega
    unfold quot_shl.l0
    rw [if_pos (by omega), if_pos (by omega), if_pos (by omega), rdn, wide_Shl.f_eq0 hs (by omega) (by omega) ho.1 ho.2]
    simp only [Option.bind_some]
    rw [if_pos (by omega), w64_s i (by omega), Int.toNat_natCast, or_join s hm1 hm2 (by rw [hlow, Int.mul_emod_right]) hc0 hc (by omega), Int.zero_mul, Int.zero_emod, Int.zero_add]
    refine ih k _ _ (i + 1) (by omega) (by omega) (by omega) (by rw [List.length_set]; exact hl) (hw.set _ (by omega) hsum) hy0 hy (fun j hj => by rw [set_getD_ne (by omega)]; exact hz j (by omega)) ?_
    rw [nv_set (by omega), hz i (Nat.le_refl _), nv_take_succ (by omega), show 64 * (i + 1) = 64 * i + 64 from by omega, Int.pow_add]
    have h2 := shl_word (x := x.getD i 0) hP hPR
    have e64 : (2 : Int) ^ 64 = 18446744073709551616 := by decide
    rw [e64]
    clear hlow hm1 hm2 g0 g1 hsum hy hy0 hz hw hx ih hfit
    generalize x.getD i 0 * 2 ^ s % 18446744073709551616 = v at *
    generalize x.getD i 0 / 2 ^ (64 - s) = u at *
    generalize x.getD i 0 = w at *
    generalize (2 : Int) ^ (64 * i) = p at *
    generalize (2 : Int) ^ s = P at *
    grind
theorem quot_shl.f_eq (x : List Int) (hx : Ws x) (s m : Nat) (hs : s ≤ 63) (hm : m ≤ 35184372088832) (hxm : x.length ≤ m) (hfit : nv x * 2 ^ s < 2 ^ (64 * m)) (k : Nat) (hk : x.length < k) :
    quot_shl.f k x (s : Int) (m : Int) = some (wn m (nv x * 2 ^ s)) := by
  rw [quot_shl.f, if_pos (by omega), Int.toNat_natCast, if_pos hm]
  exact quot_shl.l0_eq x hx s m hs hm hxm hfit x.length k _ 0 0 (by omega) hk (by omega) (by simp) (Ws.zeros _) (by decide) (two_pow_pos s) (fun j _ => by rw [List.getD_eq_getElem?_getD, List.getElem?_replicate]; split <;> rfl) (by rw [nv_zeros]; simp [nv])
end Go.Proofs.YtoannkopciehcaaDoor.PA

namespace Go.Proofs.YtoannkopciehcaaDoor.PA
open Go Go.RowKit Go.Proofs.YtoannkopciehcaaDoorW.PrintWords Go.Proofs.YtoannkopciehcaaDoorW.PrintLast Go.Proofs.YtoannkopciehcaaDoorW.PrintMore
set_option linter.unusedVariables false
set_option linter.unusedSimpArgs false
def pV (d : Nat) : Nat := if d < 4503599627370496 then d else (4503599627370496 + d % 4503599627370496) * 2 ^ (d / 4503599627370496 - 1)
def pU (d : Nat) : Nat := 2 ^ (d / 4503599627370496 - 1)
theorem pV_succ (d : Nat) : pV (d + 1) = pV d + pU d := by
  unfold pV pU
  by_cases h1 : d + 1 < 4503599627370496
  · rw [if_pos h1, if_pos (by omega), Nat.div_eq_of_lt (by omega)]
  · rw [if_neg h1]
    by_cases h2 : d < 4503599627370496
    · obtain rfl : d = 4503599627370496 - 1 := by omega
      rw [if_pos h2]
    · rw [if_neg h2]
      by_cases h3 : d % 4503599627370496 + 1 < 4503599627370496
      · have e1 : (d + 1) % 4503599627370496 = d % 4503599627370496 + 1 := by omega
        have e2 : (d + 1) / 4503599627370496 = d / 4503599627370496 := by omega
        rw [e1, e2, ← Nat.add_assoc, Nat.add_mul _ 1, Nat.one_mul]
      · have e1 : (d + 1) % 4503599627370496 = 0 := by omega
        have e2 : (d + 1) / 4503599627370496 = d / 4503599627370496 + 1 := by omega
        have e3 : d % 4503599627370496 = 4503599627370496 - 1 := by omega
        have e4 : 1 ≤ d / 4503599627370496 := by omega
        obtain ⟨j, hj⟩ : ∃ j, d / 4503599627370496 = j + 1 := ⟨d / 4503599627370496 - 1, by omega⟩
        rw [e1, e2, e3, hj, Nat.add_sub_cancel, Nat.add_sub_cancel, Nat.pow_succ, Nat.add_zero, ← Nat.succ_mul, Nat.mul_comm (2 ^ j) 2, ← Nat.mul_assoc]
theorem pU_pos (d : Nat) : 0 < pU d := Nat.pow_pos (by decide)
theorem pV_lt_succ (d : Nat) : pV d < pV (d + 1) := by have := pU_pos d; rw [pV_succ]; omega
theorem pV_le {a b : Nat} (h : a ≤ b) : pV a ≤ pV b := by
  induction b with
  | zero => obtain rfl : a = 0 := by omega
            exact Nat.le_refl _
  | succ b ih =>
    by_cases h1 : a = b + 1
    · subst h1; exact Nat.le_refl _
    · exact Nat.le_trans (ih (by omega)) (Nat.le_of_lt (pV_lt_succ b))
theorem pV_zero : pV 0 = 0 := rfl
/-- a mantissa and an exponent as a place in the row -/
theorem pV_at {s q : Nat} (hq : q < 9007199254740992) (h : s = 0 ∨ 4503599627370496 ≤ q) : pV (s * 4503599627370496 + q) = q * 2 ^ s ∧ pU (s * 4503599627370496 + q) = 2 ^ s := by
  unfold pV pU
  by_cases h0 : q < 4503599627370496
  · obtain rfl : s = 0 := by omega
    rw [Nat.zero_mul, Nat.zero_add, if_pos h0, Nat.div_eq_of_lt h0]
    simp
  · have e1 : (s * 4503599627370496 + q) / 4503599627370496 = s + 1 := by
      rw [Nat.mul_comm, Nat.mul_add_div (by omega)]
      have : q / 4503599627370496 = 1 := by omega
      omega
    have e2 : (s * 4503599627370496 + q) % 4503599627370496 = q - 4503599627370496 := by
      rw [Nat.mul_comm, Nat.mul_add_mod]
      omega
    have e3 : ¬ s * 4503599627370496 + q < 4503599627370496 := by omega
    rw [if_neg e3, e1, e2, Nat.add_sub_cancel, show 4503599627370496 + (q - 4503599627370496) = q from by omega]
    exact ⟨rfl, rfl⟩
/-- d is the place at or below P / Q -/
structure Rd (P Q d : Nat) : Prop where
  lo : pV d * Q ≤ P
  hi : P < pV (d + 1) * Q
theorem Rd.uniq {P Q d e : Nat} (h : Rd P Q d) (k : Rd P Q e) : d = e := by
  apply Classical.byContradiction
  intro hne
  rcases Nat.lt_or_gt_of_ne hne with hlt | hlt
  · have := Nat.mul_le_mul_right Q (pV_le (show d + 1 ≤ e from hlt))
    have h1 := h.hi; have h2 := k.lo; omega
  · have := Nat.mul_le_mul_right Q (pV_le (show e + 1 ≤ d from hlt))
    have h1 := k.hi; have h2 := h.lo; omega
theorem Rd.le_iff {P Q d : Nat} (h : Rd P Q d) (e : Nat) : pV e * Q ≤ P ↔ e ≤ d := by
  constructor
  · intro h1
    apply Classical.byContradiction
    intro hn
    have := Nat.mul_le_mul_right Q (pV_le (show d + 1 ≤ e by omega))
    have := h.hi; omega
  · intro h1
    exact Nat.le_trans (Nat.mul_le_mul_right Q (pV_le h1)) h.lo
/-- what lies behind the place: 0 nothing, 1 less than half, 2 half, 3 more -/
def tl (P Q : Nat) (more : Bool) (d : Nat) : Nat :=
  if P = pV d * Q then (if more then 1 else 0) else if 2 * P < (2 * pV d + pU d) * Q then 1 else if 2 * P = (2 * pV d + pU d) * Q then (if more then 3 else 2) else 3
def tailOf (r k : Nat) (st : Bool) : Nat := if r = 0 then (if st then 1 else 0) else if 2 * r < 2 ^ k then 1 else if 2 * r = 2 ^ k then (if st then 3 else 2) else 3
/-- the place of m units (and a part of one) by division -/
theorem Rd.of_div {P Q m k s a b : Nat} {more st : Bool} (hQ : 0 < Q) (hk : 1 ≤ k) (hs : s + b = k + a) (h1 : m * 2 ^ a * Q ≤ P * 2 ^ b) (h2 : P * 2 ^ b < (m + 1) * 2 ^ a * Q)
    (hst : st = true ↔ (P * 2 ^ b ≠ m * 2 ^ a * Q ∨ more = true)) (hq : m / 2 ^ k < 9007199254740992) (hsq : s = 0 ∨ 4503599627370496 ≤ m / 2 ^ k) :
    Rd P Q (s * 4503599627370496 + m / 2 ^ k) ∧ tl P Q more (s * 4503599627370496 + m / 2 ^ k) = tailOf (m % 2 ^ k) k st := by
  obtain ⟨eV, eU⟩ := pV_at hq hsq
  have hb : 0 < 2 ^ b := Nat.pow_pos (by decide)
  have ha : 0 < 2 ^ a := Nat.pow_pos (by decide)
  have hm : m = 2 ^ k * (m / 2 ^ k) + m % 2 ^ k := (Nat.div_add_mod m (2 ^ k)).symm
  have hr : m % 2 ^ k < 2 ^ k := Nat.mod_lt _ (Nat.pow_pos (by decide))
  have hU : 0 < 2 ^ a * Q := Nat.mul_pos ha hQ
  have ep : 2 ^ s * 2 ^ b = 2 ^ k * 2 ^ a := by rw [← Nat.pow_add, ← Nat.pow_add, hs]
  have hodd : 2 ∣ 2 ^ k := ⟨2 ^ (k - 1), by rw [Nat.mul_comm, ← Nat.pow_succ]; congr 1; omega⟩
  generalize m / 2 ^ k = q at *
  generalize m % 2 ^ k = r at *
  generalize hU' : 2 ^ a * Q = U at *
  have eA : m * 2 ^ a * Q = m * U := by rw [Nat.mul_assoc, hU']
  have eB : (m + 1) * 2 ^ a * Q = m * U + U := by rw [Nat.mul_assoc, hU', Nat.add_mul, Nat.one_mul]
  rw [eA] at h1 hst
  rw [eB] at h2
  -- boundaries in units
  have bd : ∀ z, z * 2 ^ s * Q * 2 ^ b = z * 2 ^ k * U := by
    intro z
    rw [← hU', Nat.mul_assoc, Nat.mul_comm Q, ← Nat.mul_assoc, Nat.mul_assoc z, ep, ← Nat.mul_assoc, Nat.mul_assoc (z * 2 ^ k)]
  have lo : q * 2 ^ s * Q ≤ P := by
    apply Nat.le_of_mul_le_mul_right _ hb
    rw [bd]
    refine Nat.le_trans (Nat.mul_le_mul_right U ?_) h1
    rw [hm, Nat.mul_comm q]; omega
  have hi : P < (q + 1) * 2 ^ s * Q := by
    apply Nat.lt_of_mul_lt_mul_right (a := 2 ^ b)
    rw [bd]
    refine Nat.lt_of_lt_of_le h2 ?_
    have h3 : (m + 1) * U ≤ (q + 1) * 2 ^ k * U := Nat.mul_le_mul_right U (by rw [hm, Nat.add_mul, Nat.one_mul, Nat.mul_comm q]; omega)
    rw [Nat.add_mul, Nat.one_mul] at h3
    exact h3
  refine ⟨⟨by rw [eV]; exact lo, by rw [pV_succ, eV, eU, ← Nat.succ_mul]; exact hi⟩, ?_⟩
  -- the tail
  have e0 : (P = q * 2 ^ s * Q) ↔ P * 2 ^ b = (m - r) * U := by
    have e1 : (m - r) * U = q * 2 ^ s * Q * 2 ^ b := by rw [bd]; congr 1; rw [Nat.mul_comm]; omega
    rw [e1]
    exact ⟨fun h => by rw [h], fun h => Nat.eq_of_mul_eq_mul_right hb h⟩
  have eh : ∀ z, 2 * z * 2 ^ b = 2 * (z * 2 ^ b) := fun z => Nat.mul_assoc _ _ _
  have ehalf : (2 * (q * 2 ^ s) + 2 ^ s) * Q * 2 ^ b = (2 * (m - r) + 2 ^ k) * U := by
    have e1 : (2 * (q * 2 ^ s) + 2 ^ s) = (2 * q + 1) * 2 ^ s := by rw [Nat.add_mul, Nat.one_mul, Nat.mul_assoc]
    rw [e1, bd, Nat.add_mul (2 * q), Nat.one_mul]
    congr 1
    have : q * 2 ^ k = m - r := by rw [Nat.mul_comm]; omega
    rw [Nat.mul_assoc, this]
  have cmp2 : ∀ (f : Nat → Nat → Prop), True := fun _ => trivial
  have lt_half : (2 * P < (2 * (q * 2 ^ s) + 2 ^ s) * Q) ↔ 2 * (P * 2 ^ b) < (2 * (m - r) + 2 ^ k) * U := by
    rw [← ehalf, ← eh]
    exact ⟨fun h => Nat.mul_lt_mul_of_pos_right h hb, fun h => Nat.lt_of_mul_lt_mul_right h⟩
  have eq_half : (2 * P = (2 * (q * 2 ^ s) + 2 ^ s) * Q) ↔ 2 * (P * 2 ^ b) = (2 * (m - r) + 2 ^ k) * U := by
    rw [← ehalf, ← eh]
    exact ⟨fun h => by rw [h], fun h => Nat.eq_of_mul_eq_mul_right hb h⟩
  obtain ⟨x, hx⟩ : ∃ x, P * 2 ^ b = m * U + x := ⟨P * 2 ^ b - m * U, by omega⟩
  have hxU : x < U := by omega
  have hmr : m * U = (m - r) * U + r * U := by rw [← Nat.add_mul]; congr 1; omega
  obtain ⟨h, hh⟩ := hodd
  have hkU : (2 * (m - r) + 2 ^ k) * U = 2 * ((m - r) * U) + 2 * (h * U) := by rw [hh, Nat.add_mul, Nat.mul_assoc, Nat.mul_assoc]
  rw [hx, hmr] at e0 lt_half eq_half hst
  rw [hkU] at lt_half eq_half
  have hst' : st = true ↔ (x ≠ 0 ∨ more = true) := by
    rw [hst]
    constructor
    · rintro (h1 | h1)
      · exact .inl (by omega)
      · exact .inr h1
    · rintro (h1 | h1)
      · exact .inl (by omega)
      · exact .inr h1
  unfold tl tailOf
  rw [eV, eU]
  by_cases r0 : r = 0
  · subst r0
    rw [if_pos rfl]
    rw [Nat.zero_mul] at e0 lt_half eq_half
    by_cases x0 : x = 0
    · rw [if_pos (e0.2 (by omega))]
      have : st = more := Bool.eq_iff_iff.2 ⟨fun z => (hst'.1 z).resolve_left (fun y => y x0), fun z => hst'.2 (.inr z)⟩
      rw [this]
    · have hs1 : st = true := hst'.2 (.inl x0)
      have hh1 : 1 * U ≤ h * U := Nat.mul_le_mul_right U (by
        have : 0 < 2 ^ k := Nat.pow_pos (by decide)
        omega)
      rw [if_neg (fun z => x0 (by have := e0.1 z; omega)), if_pos (lt_half.2 (by omega)), hs1]
      rfl
  · rw [if_neg r0]
    have hrU : 1 * U ≤ r * U := Nat.mul_le_mul_right U (by omega)
    rw [if_neg (fun z => by have := e0.1 z; omega)]
    by_cases c1 : 2 * r < 2 ^ k
    · have hc : (r + 1) * U ≤ h * U := Nat.mul_le_mul_right U (by omega)
      rw [Nat.add_mul, Nat.one_mul] at hc
      rw [if_pos c1, if_pos (lt_half.2 (by omega))]
    · have hc : h * U ≤ r * U := Nat.mul_le_mul_right U (by omega)
      rw [if_neg c1, if_neg (fun z => by have := lt_half.1 z; omega)]
      by_cases c2 : 2 * r = 2 ^ k
      · have hc2 : h * U = r * U := by congr 1; omega
        rw [if_pos c2]
        by_cases x0 : x = 0
        · rw [if_pos (eq_half.2 (by omega))]
          have : st = more := Bool.eq_iff_iff.2 ⟨fun z => (hst'.1 z).resolve_left (fun y => y x0), fun z => hst'.2 (.inr z)⟩
          rw [this]
        · have hs1 : st = true := hst'.2 (.inl x0)
          rw [if_neg (fun z => by have := eq_half.1 z; omega), hs1]
          rfl
      · have hc2 : (h + 1) * U ≤ r * U := Nat.mul_le_mul_right U (by omega)
        rw [Nat.add_mul, Nat.one_mul] at hc2
        rw [if_neg c2, if_neg (fun z => by have := eq_half.1 z; omega)]
end Go.Proofs.YtoannkopciehcaaDoor.PA
