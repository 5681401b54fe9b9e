/- A part of the proof (10). -/
import Derived.Test.YtoannkopciehcaaDoorULB2
import Derived.Test.YtoannkopciehcaaDoorULB3
import Derived.Test.YtoannkopciehcaaDoorULB4
import Derived.Test.YtoannkopciehcaaDoorULB9
namespace Go.Proofs.YtoannkopciehcaaDoor.PA
open Go.RowKit Go.Proofs.YtoannkopciehcaaDoorW.PrintWords Go.Proofs.YtoannkopciehcaaDoorW.PrintLast Go.Proofs.YtoannkopciehcaaDoorW.PrintMore
attribute [local go_sem] max2_int min2_int max_two min_two max_three min_three max_four min_four   -- for this text's walks alone
set_option linter.unusedVariables false
set_option linter.unusedSimpArgs false

/-! ### power_Above: function 19 (by hand) -/
def power_Above.f (k : Nat) (a0 : Int) : Option (Int × Int × Int × Int) := (power_at.f k a0).bind fun bt318 => (if bt318.2.2.2.2 = true then (if bt318.2.2.2.1 = true then (some (bt318.1, bt318.2.1, bt318.2.2.1, 0)) else ((wide_Add.f bt318.2.1 1 0).bind fun bt325 => ((wide_Add.f bt318.1 0 bt325.2).bind fun bt327 => (if bt327.2 = 1 then (some (9223372036854775808, 0, wrap64 (bt318.2.2.1 + 1), 0)) else (some (bt327.1, bt325.1, bt318.2.2.1, 0)))))) else (some (0, 0, 0, 80)))
theorem power_Above.mono : ∀ a0 k, LeO (power_Above.f k a0) (power_Above.f (k + 1) a0) := by
 intro a0 k
 unfold power_Above.f
 have m0_ := power_at.mono
 exact mX
set_option maxHeartbeats 8000000 in
set_option maxRecDepth 100000 in
theorem power_Above.calls (k : Nat) (a0 : Int) (r1 : Int) (r2 : Int) (r3 : Int) (r4 : Int) (w : World) (h : power_Above.f k a0 = some (r1, r2, r3, r4)) :
  Calls Tryd.prog 19 #[.int .i64 a0] w fun e w' => e = .returned (.tuple #[.int .u64 r1, .int .u64 r2, .int .i64 r3, .int .i64 r4]) ∧ Below w.heap.size w w' := by
 have hu75 := Tryd.underlying75
 have hu73 := Tryd.underlying73
 have HB := Aside0.mk (Below.refl w.heap.size w)
 have H : ((power_at.f k a0).bind fun bt318 => (if bt318.2.2.2.2 = true then (if bt318.2.2.2.1 = true then (some (bt318.1, bt318.2.1, bt318.2.2.1, 0)) else ((wide_Add.f bt318.2.1 1 0).bind fun bt325 => ((wide_Add.f bt318.1 0 bt325.2).bind fun bt327 => (if bt327.2 = 1 then (some (9223372036854775808, 0, wrap64 (bt318.2.2.1 + 1), 0)) else (some (bt327.1, bt325.1, bt318.2.2.1, 0)))))) else (some (0, 0, 0, 80)))) = some (r1, r2, r3, r4) := h
 clear h
 replace H := obe H
 obtain ⟨⟨t318, t319, t320, t321, t322⟩, A20, H⟩ := H
 (try dsimp only at H)
 have A2 := Aside0.mk A20
 clear A20
 by_cases c3 : t322 = true
 ·subst c3
  have H1 : (if t321 = true then (some (t318, t319, t320, 0)) else ((wide_Add.f t319 1 0).bind fun bt325 => ((wide_Add.f t318 0 bt325.2).bind fun bt327 => (if bt327.2 = 1 then (some (9223372036854775808, 0, wrap64 (t320 + 1), 0)) else (some (bt327.1, bt325.1, t320, 0)))))) = some (r1, r2, r3, r4) := by rw [if_pos rfl] at H; exact H
  clear H
  have H := H1
  clear H1
  by_cases c4 : t321 = true
  ·subst c4
   have H1 : (some (t318, t319, t320, 0)) = some (r1, r2, r3, r4) := by rw [if_pos rfl] at H; exact H
   clear H
   have H := H1
   clear H1
   simp only [Option.some.injEq, Prod.mk.injEq] at H
   obtain ⟨rfl, rfl, rfl, rfl⟩ := H
   go_enter Tryd.func19, Tryd.ntmps19
   iterate 6 (go_wp2_with (first | (go_at_call 40; (with_reducible refine (power_at.calls k a0 t318 t319 t320 true true _ A2.out).mono ?_); rintro e w5 ⟨rfl, hb⟩; replace HB := Aside0.mk (below_step dB hb); (try clear hb)) | ((with_reducible refine gate_dst (N := 6) rfl ?_); refine box_event ?hg (N := 6) ?hd (cs := #[.int .u64 0, .int .u64 0, .int .i64 0, .bool false]) (t := 75) ?hr ?_; (case hd => rfl); (case hg => rfl); (case hr => first | (go_simp; done) | (go_simp; rfl)); intro gb323 hg w6 hbox hb; have BK323 := Aside0.mk (hbox); have GW323 := Aside0.mk ((by rw [hg]; exact (below_size dB) : w.heap.size ≤ gb323)); have GE323 := Aside0.mk ((by rw [hg]; exact (below_size dB) : w.heap.size ≤ gb323)); replace HB := Aside0.mk (below_step dB hb); clear hb hbox hg; obtain ⟨hcz7_0, hcz7_1, hcz7_2, hcz7_3⟩ := cz4 BK323.out; obtain ⟨hfz7_0, hfz7_1, hfz7_2, hfz7_3⟩ := fz4 BK323.out) | ((with_reducible refine gate_dst (N := 8) rfl ?_); refine box_event ?hg (N := 8) ?hd (cs := #[.int .u64 0, .int .u64 0]) (t := 73) ?hr ?_; (case hd => rfl); (case hg => rfl); (case hr => first | (go_simp; done) | (go_simp; rfl)); intro gb324 hg w8 hbox hb; have BK324 := Aside0.mk (hbox); have GW324 := Aside0.mk ((by rw [hg]; exact (below_size (dG GE323.out)) : w.heap.size ≤ gb324)); have GE324 := Aside0.mk ((by rw [hg]; exact (below_size (dG GE323.out)) : w.heap.size ≤ gb324)); replace HB := Aside0.mk (below_step (dG GE323.out) hb); have NB323_324 := Aside0.mk ((by rw [hg]; exact Nat.ne_of_lt (blk_lt (g := gb323) (o := .cells #[.int .u64 t318, .int .u64 t319, .int .i64 t320, .bool true] 75 (0, 0)) (dP BK323.out)) : gb323 ≠ gb324)); have NB324_323 := Aside0.mk ((by rw [hg]; exact Nat.ne_of_gt (blk_lt (g := gb323) (o := .cells #[.int .u64 t318, .int .u64 t319, .int .i64 t320, .bool true] 75 (0, 0)) (dP BK323.out)) : gb324 ≠ gb323)); replace BK323 := Aside0.mk (blk_below (g := gb323) (o := .cells #[.int .u64 t318, .int .u64 t319, .int .i64 t320, .bool true] 75 (0, 0)) (dP BK323.out) hb); clear hb hbox hg; have hnb9 := NB324_323.out; have hnc9 := NB323_324.out; obtain ⟨hcz10_0, hcz10_1⟩ := cz2 BK324.out; obtain ⟨hfz10_0, hfz10_1⟩ := fz2 BK324.out; obtain ⟨hcz11_0, hcz11_1, hcz11_2, hcz11_3⟩ := cz4 BK323.out; obtain ⟨hfz11_0, hfz11_1, hfz11_2, hfz11_3⟩ := fz4 BK323.out)); try go_quiet (fail))
   refine bodyPost_ret (results_list (rs := [.tmp 2, .tmp 3, .tmp 4, .tmp 5]) rfl (by simp) (.tmp (.tmp (.tmp (.tmp .nil))))) rfl ?_
   exact ⟨dE, by repeat (first | (with_reducible first | exact HB.out | apply below_alloc | apply pw_below_drewN | apply below_drew1 | refine below_set ?_ GE323.out | refine below_set ?_ GE324.out) | exact HB.out)⟩
  ·replace c4 := Bool.eq_false_iff.mpr c4
   subst c4
   have H1 : ((wide_Add.f t319 1 0).bind fun bt325 => ((wide_Add.f t318 0 bt325.2).bind fun bt327 => (if bt327.2 = 1 then (some (9223372036854775808, 0, wrap64 (t320 + 1), 0)) else (some (bt327.1, bt325.1, t320, 0))))) = some (r1, r2, r3, r4) := by rw [if_neg (show ¬ (false = true) by decide)] at H; exact H
   clear H
   have H := H1
   clear H1
   replace H := obe H
   obtain ⟨⟨t325, t326⟩, A120, H⟩ := H
   (try dsimp only at H)
   have A12 := Aside0.mk A120
   clear A120
   replace H := obe H
   obtain ⟨⟨t327, t328⟩, A130, H⟩ := H
   (try dsimp only at H)
   have A13 := Aside0.mk A130
   clear A130
   by_cases c14 : t328 = 1
   ·rw [if_pos c14] at H
    have c14b0 : (t328 == 1) = true := beq_iff_eq.mpr c14
    have c14b1 : (t328 != 1) = false := bne_eq_false_iff_eq.mpr c14
    clear c14
    simp only [Option.some.injEq, Prod.mk.injEq] at H
    obtain ⟨rfl, rfl, rfl, rfl⟩ := H
    go_enter Tryd.func19, Tryd.ntmps19
    iterate 6 (go_wp2_with (first | (go_at_call 40; (with_reducible refine (power_at.calls k a0 t318 t319 t320 false true _ A2.out).mono ?_); rintro e w15 ⟨rfl, hb⟩; replace HB := Aside0.mk (below_step dB hb); (try clear hb)) | ((with_reducible refine gate_dst (N := 6) rfl ?_); refine box_event ?hg (N := 6) ?hd (cs := #[.int .u64 0, .int .u64 0, .int .i64 0, .bool false]) (t := 75) ?hr ?_; (case hd => rfl); (case hg => rfl); (case hr => first | (go_simp; done) | (go_simp; rfl)); intro gb323 hg w16 hbox hb; have BK323 := Aside0.mk (hbox); have GW323 := Aside0.mk ((by rw [hg]; exact (below_size dB) : w.heap.size ≤ gb323)); have GE323 := Aside0.mk ((by rw [hg]; exact (below_size dB) : w.heap.size ≤ gb323)); replace HB := Aside0.mk (below_step dB hb); clear hb hbox hg; obtain ⟨hcz17_0, hcz17_1, hcz17_2, hcz17_3⟩ := cz4 BK323.out; obtain ⟨hfz17_0, hfz17_1, hfz17_2, hfz17_3⟩ := fz4 BK323.out) | ((with_reducible refine gate_dst (N := 8) rfl ?_); refine box_event ?hg (N := 8) ?hd (cs := #[.int .u64 0, .int .u64 0]) (t := 73) ?hr ?_; (case hd => rfl); (case hg => rfl); (case hr => first | (go_simp; done) | (go_simp; rfl)); intro gb324 hg w18 hbox hb; have BK324 := Aside0.mk (hbox); have GW324 := Aside0.mk ((by rw [hg]; exact (below_size (dG GE323.out)) : w.heap.size ≤ gb324)); have GE324 := Aside0.mk ((by rw [hg]; exact (below_size (dG GE323.out)) : w.heap.size ≤ gb324)); replace HB := Aside0.mk (below_step (dG GE323.out) hb); have NB323_324 := Aside0.mk ((by rw [hg]; exact Nat.ne_of_lt (blk_lt (g := gb323) (o := .cells #[.int .u64 t318, .int .u64 t319, .int .i64 t320, .bool false] 75 (0, 0)) (dP BK323.out)) : gb323 ≠ gb324)); have NB324_323 := Aside0.mk ((by rw [hg]; exact Nat.ne_of_gt (blk_lt (g := gb323) (o := .cells #[.int .u64 t318, .int .u64 t319, .int .i64 t320, .bool false] 75 (0, 0)) (dP BK323.out)) : gb324 ≠ gb323)); replace BK323 := Aside0.mk (blk_below (g := gb323) (o := .cells #[.int .u64 t318, .int .u64 t319, .int .i64 t320, .bool false] 75 (0, 0)) (dP BK323.out) hb); clear hb hbox hg; have hnb19 := NB324_323.out; have hnc19 := NB323_324.out; obtain ⟨hcz20_0, hcz20_1⟩ := cz2 BK324.out; obtain ⟨hfz20_0, hfz20_1⟩ := fz2 BK324.out; obtain ⟨hcz21_0, hcz21_1, hcz21_2, hcz21_3⟩ := cz4 BK323.out; obtain ⟨hfz21_0, hfz21_1, hfz21_2, hfz21_3⟩ := fz4 BK323.out) | (go_at_call 41; (with_reducible refine (wide_Add.calls t319 1 0 t325 t326 _ A12.out).mono ?_); rintro e w' ⟨rfl, ⟨nd, rfl⟩⟩; (try exact dW)) | (go_at_call 41; (with_reducible refine (wide_Add.calls t318 0 t326 t327 t328 _ A13.out).mono ?_); rintro e w' ⟨rfl, ⟨nd, rfl⟩⟩; (try exact dW))); try go_quiet (first | (go_at_call 40; (with_reducible refine (power_at.calls k a0 t318 t319 t320 false true _ A2.out).mono ?_); rintro e w15 ⟨rfl, hb⟩; replace HB := Aside0.mk (below_step dB hb); (try clear hb)) | ((with_reducible refine gate_dst (N := 6) rfl ?_); refine box_event ?hg (N := 6) ?hd (cs := #[.int .u64 0, .int .u64 0, .int .i64 0, .bool false]) (t := 75) ?hr ?_; (case hd => rfl); (case hg => rfl); (case hr => first | (go_simp; done) | (go_simp; rfl)); intro gb323 hg w16 hbox hb; have BK323 := Aside0.mk (hbox); have GW323 := Aside0.mk ((by rw [hg]; exact (below_size dB) : w.heap.size ≤ gb323)); have GE323 := Aside0.mk ((by rw [hg]; exact (below_size dB) : w.heap.size ≤ gb323)); replace HB := Aside0.mk (below_step dB hb); clear hb hbox hg; obtain ⟨hcz17_0, hcz17_1, hcz17_2, hcz17_3⟩ := cz4 BK323.out; obtain ⟨hfz17_0, hfz17_1, hfz17_2, hfz17_3⟩ := fz4 BK323.out) | ((with_reducible refine gate_dst (N := 8) rfl ?_); refine box_event ?hg (N := 8) ?hd (cs := #[.int .u64 0, .int .u64 0]) (t := 73) ?hr ?_; (case hd => rfl); (case hg => rfl); (case hr => first | (go_simp; done) | (go_simp; rfl)); intro gb324 hg w18 hbox hb; have BK324 := Aside0.mk (hbox); have GW324 := Aside0.mk ((by rw [hg]; exact (below_size (dG GE323.out)) : w.heap.size ≤ gb324)); have GE324 := Aside0.mk ((by rw [hg]; exact (below_size (dG GE323.out)) : w.heap.size ≤ gb324)); replace HB := Aside0.mk (below_step (dG GE323.out) hb); have NB323_324 := Aside0.mk ((by rw [hg]; exact Nat.ne_of_lt (blk_lt (g := gb323) (o := .cells #[.int .u64 t318, .int .u64 t319, .int .i64 t320, .bool false] 75 (0, 0)) (dP BK323.out)) : gb323 ≠ gb324)); have NB324_323 := Aside0.mk ((by rw [hg]; exact Nat.ne_of_gt (blk_lt (g := gb323) (o := .cells #[.int .u64 t318, .int .u64 t319, .int .i64 t320, .bool false] 75 (0, 0)) (dP BK323.out)) : gb324 ≠ gb323)); replace BK323 := Aside0.mk (blk_below (g := gb323) (o := .cells #[.int .u64 t318, .int .u64 t319, .int .i64 t320, .bool false] 75 (0, 0)) (dP BK323.out) hb); clear hb hbox hg; have hnb19 := NB324_323.out; have hnc19 := NB323_324.out; obtain ⟨hcz20_0, hcz20_1⟩ := cz2 BK324.out; obtain ⟨hfz20_0, hfz20_1⟩ := fz2 BK324.out; obtain ⟨hcz21_0, hcz21_1, hcz21_2, hcz21_3⟩ := cz4 BK323.out; obtain ⟨hfz21_0, hfz21_1, hfz21_2, hfz21_3⟩ := fz4 BK323.out) | (go_at_call 41; (with_reducible refine (wide_Add.calls t319 1 0 t325 t326 _ A12.out).mono ?_); rintro e w' ⟨rfl, ⟨nd, rfl⟩⟩; (try exact dW)) | (go_at_call 41; (with_reducible refine (wide_Add.calls t318 0 t326 t327 t328 _ A13.out).mono ?_); rintro e w' ⟨rfl, ⟨nd, rfl⟩⟩; (try exact dW))))
    refine bodyPost_ret (results_list (rs := [.tmp 2, .tmp 3, .tmp 4, .tmp 5]) rfl (by simp) (.tmp (.tmp (.tmp (.tmp .nil))))) rfl ?_
    exact ⟨dE, by repeat (first | (with_reducible first | exact HB.out | apply below_alloc | apply pw_below_drewN | apply below_drew1 | refine below_set ?_ GE323.out | refine below_set ?_ GE324.out) | exact HB.out)⟩
   ·rw [if_neg c14] at H
    have c14b0 : (t328 == 1) = false := beq_eq_false_iff_ne.mpr c14
    have c14b1 : (t328 != 1) = true := bne_iff_ne.mpr c14
    simp only [Option.some.injEq, Prod.mk.injEq] at H
    obtain ⟨rfl, rfl, rfl, rfl⟩ := H
    go_enter Tryd.func19, Tryd.ntmps19
    iterate 6 (go_wp2_with (first | (go_at_call 40; (with_reducible refine (power_at.calls k a0 t318 t319 t320 false true _ A2.out).mono ?_); rintro e w22 ⟨rfl, hb⟩; replace HB := Aside0.mk (below_step dB hb); (try clear hb)) | ((with_reducible refine gate_dst (N := 6) rfl ?_); refine box_event ?hg (N := 6) ?hd (cs := #[.int .u64 0, .int .u64 0, .int .i64 0, .bool false]) (t := 75) ?hr ?_; (case hd => rfl); (case hg => rfl); (case hr => first | (go_simp; done) | (go_simp; rfl)); intro gb323 hg w23 hbox hb; have BK323 := Aside0.mk (hbox); have GW323 := Aside0.mk ((by rw [hg]; exact (below_size dB) : w.heap.size ≤ gb323)); have GE323 := Aside0.mk ((by rw [hg]; exact (below_size dB) : w.heap.size ≤ gb323)); replace HB := Aside0.mk (below_step dB hb); clear hb hbox hg; obtain ⟨hcz24_0, hcz24_1, hcz24_2, hcz24_3⟩ := cz4 BK323.out; obtain ⟨hfz24_0, hfz24_1, hfz24_2, hfz24_3⟩ := fz4 BK323.out) | ((with_reducible refine gate_dst (N := 8) rfl ?_); refine box_event ?hg (N := 8) ?hd (cs := #[.int .u64 0, .int .u64 0]) (t := 73) ?hr ?_; (case hd => rfl); (case hg => rfl); (case hr => first | (go_simp; done) | (go_simp; rfl)); intro gb324 hg w25 hbox hb; have BK324 := Aside0.mk (hbox); have GW324 := Aside0.mk ((by rw [hg]; exact (below_size (dG GE323.out)) : w.heap.size ≤ gb324)); have GE324 := Aside0.mk ((by rw [hg]; exact (below_size (dG GE323.out)) : w.heap.size ≤ gb324)); replace HB := Aside0.mk (below_step (dG GE323.out) hb); have NB323_324 := Aside0.mk ((by rw [hg]; exact Nat.ne_of_lt (blk_lt (g := gb323) (o := .cells #[.int .u64 t318, .int .u64 t319, .int .i64 t320, .bool false] 75 (0, 0)) (dP BK323.out)) : gb323 ≠ gb324)); have NB324_323 := Aside0.mk ((by rw [hg]; exact Nat.ne_of_gt (blk_lt (g := gb323) (o := .cells #[.int .u64 t318, .int .u64 t319, .int .i64 t320, .bool false] 75 (0, 0)) (dP BK323.out)) : gb324 ≠ gb323)); replace BK323 := Aside0.mk (blk_below (g := gb323) (o := .cells #[.int .u64 t318, .int .u64 t319, .int .i64 t320, .bool false] 75 (0, 0)) (dP BK323.out) hb); clear hb hbox hg; have hnb26 := NB324_323.out; have hnc26 := NB323_324.out; obtain ⟨hcz27_0, hcz27_1⟩ := cz2 BK324.out; obtain ⟨hfz27_0, hfz27_1⟩ := fz2 BK324.out; obtain ⟨hcz28_0, hcz28_1, hcz28_2, hcz28_3⟩ := cz4 BK323.out; obtain ⟨hfz28_0, hfz28_1, hfz28_2, hfz28_3⟩ := fz4 BK323.out) | (go_at_call 41; (with_reducible refine (wide_Add.calls t319 1 0 t325 t326 _ A12.out).mono ?_); rintro e w' ⟨rfl, ⟨nd, rfl⟩⟩; (try exact dW)) | (go_at_call 41; (with_reducible refine (wide_Add.calls t318 0 t326 t327 t328 _ A13.out).mono ?_); rintro e w' ⟨rfl, ⟨nd, rfl⟩⟩; (try exact dW))); try go_quiet (first | (go_at_call 40; (with_reducible refine (power_at.calls k a0 t318 t319 t320 false true _ A2.out).mono ?_); rintro e w22 ⟨rfl, hb⟩; replace HB := Aside0.mk (below_step dB hb); (try clear hb)) | ((with_reducible refine gate_dst (N := 6) rfl ?_); refine box_event ?hg (N := 6) ?hd (cs := #[.int .u64 0, .int .u64 0, .int .i64 0, .bool false]) (t := 75) ?hr ?_; (case hd => rfl); (case hg => rfl); (case hr => first | (go_simp; done) | (go_simp; rfl)); intro gb323 hg w23 hbox hb; have BK323 := Aside0.mk (hbox); have GW323 := Aside0.mk ((by rw [hg]; exact (below_size dB) : w.heap.size ≤ gb323)); have GE323 := Aside0.mk ((by rw [hg]; exact (below_size dB) : w.heap.size ≤ gb323)); replace HB := Aside0.mk (below_step dB hb); clear hb hbox hg; obtain ⟨hcz24_0, hcz24_1, hcz24_2, hcz24_3⟩ := cz4 BK323.out; obtain ⟨hfz24_0, hfz24_1, hfz24_2, hfz24_3⟩ := fz4 BK323.out) | ((with_reducible refine gate_dst (N := 8) rfl ?_); refine box_event ?hg (N := 8) ?hd (cs := #[.int .u64 0, .int .u64 0]) (t := 73) ?hr ?_; (case hd => rfl); (case hg => rfl); (case hr => first | (go_simp; done) | (go_simp; rfl)); intro gb324 hg w25 hbox hb; have BK324 := Aside0.mk (hbox); have GW324 := Aside0.mk ((by rw [hg]; exact (below_size (dG GE323.out)) : w.heap.size ≤ gb324)); have GE324 := Aside0.mk ((by rw [hg]; exact (below_size (dG GE323.out)) : w.heap.size ≤ gb324)); replace HB := Aside0.mk (below_step (dG GE323.out) hb); have NB323_324 := Aside0.mk ((by rw [hg]; exact Nat.ne_of_lt (blk_lt (g := gb323) (o := .cells #[.int .u64 t318, .int .u64 t319, .int .i64 t320, .bool false] 75 (0, 0)) (dP BK323.out)) : gb323 ≠ gb324)); have NB324_323 := Aside0.mk ((by rw [hg]; exact Nat.ne_of_gt (blk_lt (g := gb323) (o := .cells #[.int .u64 t318, .int .u64 t319, .int .i64 t320, .bool false] 75 (0, 0)) (dP BK323.out)) : gb324 ≠ gb323)); replace BK323 := Aside0.mk (blk_below (g := gb323) (o := .cells #[.int .u64 t318, .int .u64 t319, .int .i64 t320, .bool false] 75 (0, 0)) (dP BK323.out) hb); clear hb hbox hg; have hnb26 := NB324_323.out; have hnc26 := NB323_324.out; obtain ⟨hcz27_0, hcz27_1⟩ := cz2 BK324.out; obtain ⟨hfz27_0, hfz27_1⟩ := fz2 BK324.out; obtain ⟨hcz28_0, hcz28_1, hcz28_2, hcz28_3⟩ := cz4 BK323.out; obtain ⟨hfz28_0, hfz28_1, hfz28_2, hfz28_3⟩ := fz4 BK323.out) | (go_at_call 41; (with_reducible refine (wide_Add.calls t319 1 0 t325 t326 _ A12.out).mono ?_); rintro e w' ⟨rfl, ⟨nd, rfl⟩⟩; (try exact dW)) | (go_at_call 41; (with_reducible refine (wide_Add.calls t318 0 t326 t327 t328 _ A13.out).mono ?_); rintro e w' ⟨rfl, ⟨nd, rfl⟩⟩; (try exact dW))))
    refine bodyPost_ret (results_list (rs := [.tmp 2, .tmp 3, .tmp 4, .tmp 5]) rfl (by simp) (.tmp (.tmp (.tmp (.tmp .nil))))) rfl ?_
    exact ⟨dE, by repeat (first | (with_reducible first | exact HB.out | apply below_alloc | apply pw_below_drewN | apply below_drew1 | refine below_set ?_ GE323.out | refine below_set ?_ GE324.out) | exact HB.out)⟩
 ·replace c3 := Bool.eq_false_iff.mpr c3
  subst c3
  have H1 : (some (0, 0, 0, 80)) = some (r1, r2, r3, r4) := by rw [if_neg (show ¬ (false = true) by decide)] at H; exact H
  clear H
  have H := H1
  clear H1
  simp only [Option.some.injEq, Prod.mk.injEq] at H
  obtain ⟨rfl, rfl, rfl, rfl⟩ := H
  go_enter Tryd.func19, Tryd.ntmps19
  iterate 6 (go_wp2_with (first | (go_at_call 40; (with_reducible refine (power_at.calls k a0 t318 t319 t320 t321 false _ A2.out).mono ?_); rintro e w29 ⟨rfl, hb⟩; replace HB := Aside0.mk (below_step dB hb); (try clear hb)) | ((with_reducible refine gate_dst (N := 6) rfl ?_); refine box_event ?hg (N := 6) ?hd (cs := #[.int .u64 0, .int .u64 0, .int .i64 0, .bool false]) (t := 75) ?hr ?_; (case hd => rfl); (case hg => rfl); (case hr => first | (go_simp; done) | (go_simp; rfl)); intro gb323 hg w30 hbox hb; have BK323 := Aside0.mk (hbox); have GW323 := Aside0.mk ((by rw [hg]; exact (below_size dB) : w.heap.size ≤ gb323)); have GE323 := Aside0.mk ((by rw [hg]; exact (below_size dB) : w.heap.size ≤ gb323)); replace HB := Aside0.mk (below_step dB hb); clear hb hbox hg; obtain ⟨hcz31_0, hcz31_1, hcz31_2, hcz31_3⟩ := cz4 BK323.out; obtain ⟨hfz31_0, hfz31_1, hfz31_2, hfz31_3⟩ := fz4 BK323.out)); try go_quiet (fail))
  refine bodyPost_ret (results_list (rs := [.tmp 2, .tmp 3, .tmp 4, .tmp 5]) rfl (by simp) (.tmp (.tmp (.tmp (.tmp .nil))))) rfl ?_
  exact ⟨dE, dG GE323.out⟩


/-! ### wide_Mul3: function 35 -/
def wide_Mul3.f (a0 : Int) (a1 : Int) (a2 : Int) : Option (Int × Int × Int) := (wide_Mul.f a0 a2).bind fun bt252 => ((wide_Mul.f a1 a2).bind fun bt254 => ((wide_Add.f bt252.2 bt254.1 0).bind fun bt256 => (some (IntKind.u64.wrap (bt252.1 + bt256.2), bt256.1, bt254.2))))
set_option maxHeartbeats 8000000 in
set_option maxRecDepth 100000 in
theorem wide_Mul3.calls (a0 : Int) (a1 : Int) (a2 : Int) (r1 : Int) (r2 : Int) (r3 : Int) (w : World) (h : wide_Mul3.f a0 a1 a2 = some (r1, r2, r3)) :
  Calls Tryd.prog 35 #[.int .u64 a0, .int .u64 a1, .int .u64 a2] w fun e w' => e = .returned (.tuple #[.int .u64 r1, .int .u64 r2, .int .u64 r3]) ∧ Below w.heap.size w w' := by
 have HB := Aside0.mk (Below.refl w.heap.size w)
 have H : ((wide_Mul.f a0 a2).bind fun bt252 => ((wide_Mul.f a1 a2).bind fun bt254 => ((wide_Add.f bt252.2 bt254.1 0).bind fun bt256 => (some (IntKind.u64.wrap (bt252.1 + bt256.2), bt256.1, bt254.2))))) = some (r1, r2, r3) := h
 clear h
 replace H := obe H
 obtain ⟨⟨t252, t253⟩, A40, H⟩ := H
 (try dsimp only at H)
 have A4 := Aside0.mk A40
 clear A40
 replace H := obe H
 obtain ⟨⟨t254, t255⟩, A50, H⟩ := H
 (try dsimp only at H)
 have A5 := Aside0.mk A50
 clear A50
 replace H := obe H
 obtain ⟨⟨t256, t257⟩, A60, H⟩ := H
 (try dsimp only at H)
 have A6 := Aside0.mk A60
 clear A60
 simp only [Option.some.injEq, Prod.mk.injEq] at H
 obtain ⟨rfl, rfl, rfl⟩ := H
 go_enter Tryd.func35, Tryd.ntmps35
 go_wp2_with (first | ((with_reducible refine gate_callee (f := 28) rfl ?_); refine gL (some 17) Tryd.func28 #[.int .u64 a0, .int .u64 a2] ?_; (with_reducible refine (wide_Mul.calls a0 a2 t252 t253 _ A4.out).mono ?_); rintro e w7 ⟨rfl, hb⟩; refine ⟨_, rfl, ?_⟩; replace HB := Aside0.mk (below_step dB hb); (try clear hb)) | ((with_reducible refine gate_callee (f := 28) rfl ?_); refine gL (some 23) Tryd.func28 #[.int .u64 a1, .int .u64 a2] ?_; (with_reducible refine (wide_Mul.calls a1 a2 t254 t255 _ A5.out).mono ?_); rintro e w8 ⟨rfl, hb⟩; refine ⟨_, rfl, ?_⟩; replace HB := Aside0.mk (below_step dB hb); (try clear hb)) | ((with_reducible refine gate_callee (f := 41) rfl ?_); refine gL (some 29) Tryd.func41 #[.int .u64 t253, .int .u64 t254, .int .u64 0] ?_; (with_reducible refine (wide_Add.calls t253 t254 0 t256 t257 _ A6.out).mono ?_); rintro e w' ⟨rfl, ⟨nd, rfl⟩⟩; refine ⟨_, rfl, ?_⟩))
 go_ret3
 exact ⟨dE, dB⟩

/-! ### lemire_Fast: function 12 -/
def lemire_Fast.j0 : Nat → Int → Int → Bool → Option (Int × Int)
 | 0, _, _, _ => none
 | k + 1, x0, x1, x21 => if x21 = true then (some (0, 0)) else (if x1 > 347 then (some (0, 70)) else ((power_Five.f k x1).bind fun bt258 => ((wide_Mul3.f bt258.1 bt258.2.1 x0).bind fun bt263 => ((lemire_three_rounded.f k bt263.1 bt263.2.1 bt263.2.2 (wrap64 (bt258.2.2.1 + x1)) false).bind fun bt266 => ((power_Above.f k x1).bind fun bt268 => ((wide_Mul3.f bt268.1 bt268.2.1 x0).bind fun bt273 => ((lemire_three_rounded.f k bt273.1 bt273.2.1 bt273.2.2 (wrap64 (bt268.2.2.1 + x1)) false).bind fun bt276 => (if bt266.2 = bt276.2 then (if bt266.1 = bt276.1 then (some (bt266.1, bt266.2)) else (some (0, 100))) else (some (0, 100))))))))))
def lemire_Fast.f (k : Nat) (a0 : Int) (a1 : Int) : Option (Int × Int) := if a0 = 0 then (lemire_Fast.j0 k a0 a1 true) else (lemire_Fast.j0 k a0 a1 (decide (a1 < (-348))))
theorem lemire_Fast.mono_l : ∀ k, (∀ y0 y1 y2, LeO (lemire_Fast.j0 k y0 y1 y2) (lemire_Fast.j0 (k + 1) y0 y1 y2))
 | 0 => fun _ _ _ r h => by simp [lemire_Fast.j0] at h
 | k + 1 => by
  have ih0 := lemire_Fast.mono_l k
  ·intro y0 y1 y2
   unfold lemire_Fast.j0
   have m0_ := lemire_three_rounded.mono
   have m1_ := power_Above.mono
   have m2_ := power_Five.mono
   exact mX
theorem lemire_Fast.mono : ∀ a0 a1 k, LeO (lemire_Fast.f k a0 a1) (lemire_Fast.f (k + 1) a0 a1) := by
 intro a0 a1 k
 have ih0 := lemire_Fast.mono_l k
 unfold lemire_Fast.f
 have m0_ := lemire_three_rounded.mono
 have m1_ := power_Above.mono
 have m2_ := power_Five.mono
 exact mX
set_option maxHeartbeats 8000000 in
set_option maxRecDepth 100000 in
theorem lemire_Fast.calls (k : Nat) (a0 : Int) (a1 : Int) (r1 : Int) (r2 : Int) (w : World) (h : lemire_Fast.f k a0 a1 = some (r1, r2)) :
  Calls Tryd.prog 12 #[.int .u64 a0, .int .i64 a1] w fun e w' => e = .returned (.tuple #[.int .u64 r1, .int .i64 r2]) ∧ Below w.heap.size w w' := by
 have hu56 := Tryd.underlying56
 have HB := Aside0.mk (Below.refl w.heap.size w)
 have H : (if a0 = 0 then (lemire_Fast.j0 k a0 a1 true) else (lemire_Fast.j0 k a0 a1 (decide (a1 < (-348))))) = some (r1, r2) := h
 clear h
 have HC3 := Aside0.mk H
 clear H
 go_enter Tryd.func12, Tryd.ntmps12
 go_upto_region 1 with (fail)
 go_cut [21] (fun v21 wc => ∃ (kq : Nat) (x21_2 : Bool), v21 = .bool x21_2 ∧ Aside0 (lemire_Fast.j0 kq a0 a1 x21_2 = some (r1, r2)) ∧ Aside0 (kq ≤ k) ∧ Aside0 (Below w.heap.size w wc))
 case first =>
  have H := HC3.out
  clear HC3
  by_cases c4 : a0 = 0
  ·rw [if_pos c4] at H
   have c4b0 : (a0 == 0) = true := beq_iff_eq.mpr c4
   have c4b1 : (a0 != 0) = false := bne_eq_false_iff_eq.mpr c4
   clear c4
   (first | rw [c4b0] | (simp only [i64_w, i32_w]; rw [c4b0]) | skip)
   have H' := Aside0.mk H
   clear H
   go_wp2
   go_meet
   case rel => exact ⟨_, (true), dF, H', ⟨dN⟩, ⟨dB⟩⟩
  ·rw [if_neg c4] at H
   have c4b0 : (a0 == 0) = false := beq_eq_false_iff_ne.mpr c4
   have c4b1 : (a0 != 0) = true := bne_iff_ne.mpr c4
   (first | rw [c4b0] | (simp only [i64_w, i32_w]; rw [c4b0]) | skip)
   have H' := Aside0.mk H
   clear H
   go_wp2
   go_meet
   case rel => exact ⟨_, (decide (a1 < (-348))), dF, H', ⟨dN⟩, ⟨dB⟩⟩
 case rest =>
  clear HC3
  obtain ⟨kq, x21_2, rfl, HA, HJ2, HB⟩ := hcut
  cases kq with
  | zero => exact absurd HA.out (by simp [lemire_Fast.j0])
  | succ kj2 =>
   have H := HA.out
   clear HA
   simp only [lemire_Fast.j0] at H
   by_cases c5 : x21_2 = true
   ·subst c5
    have H1 : (some (0, 0)) = some (r1, r2) := by rw [if_pos rfl] at H; exact H
    clear H
    have H := H1
    clear H1
    simp only [Option.some.injEq, Prod.mk.injEq] at H
    obtain ⟨rfl, rfl⟩ := H
    go_wp2
    go_ret2
    exact ⟨dE, dB⟩
   ·replace c5 := Bool.eq_false_iff.mpr c5
    subst c5
    have H1 : (if a1 > 347 then (some (0, 70)) else ((power_Five.f kj2 a1).bind fun bt258 => ((wide_Mul3.f bt258.1 bt258.2.1 a0).bind fun bt263 => ((lemire_three_rounded.f kj2 bt263.1 bt263.2.1 bt263.2.2 (wrap64 (bt258.2.2.1 + a1)) false).bind fun bt266 => ((power_Above.f kj2 a1).bind fun bt268 => ((wide_Mul3.f bt268.1 bt268.2.1 a0).bind fun bt273 => ((lemire_three_rounded.f kj2 bt273.1 bt273.2.1 bt273.2.2 (wrap64 (bt268.2.2.1 + a1)) false).bind fun bt276 => (if bt266.2 = bt276.2 then (if bt266.1 = bt276.1 then (some (bt266.1, bt266.2)) else (some (0, 100))) else (some (0, 100)))))))))) = some (r1, r2) := by rw [if_neg (show ¬ (false = true) by decide)] at H; exact H
    clear H
    have H := H1
    clear H1
    by_cases c6 : a1 > 347
    ·rw [if_pos c6] at H
     have c6b0 : decide (347 < a1) = true := decide_eq_true c6
     clear c6
     simp only [Option.some.injEq, Prod.mk.injEq] at H
     obtain ⟨rfl, rfl⟩ := H
     go_wp2
     go_ret2
     exact ⟨dE, dB⟩
    ·rw [if_neg c6] at H
     have c6b0 : decide (347 < a1) = false := decide_eq_false c6
     clear c6
     replace H := obe H
     obtain ⟨⟨t258, t259, t260, t261⟩, A70, H⟩ := H
     (try dsimp only at H)
     have A7 := Aside0.mk A70
     clear A70
     replace H := obe H
     obtain ⟨⟨t263, t264, t265⟩, A80, H⟩ := H
     (try dsimp only at H)
     have A8 := Aside0.mk A80
     clear A80
     replace H := obe H
     obtain ⟨⟨t266, t267⟩, A90, H⟩ := H
     (try dsimp only at H)
     have A9 := Aside0.mk A90
     clear A90
     replace H := obe H
     obtain ⟨⟨t268, t269, t270, t271⟩, A100, H⟩ := H
     (try dsimp only at H)
     have A10 := Aside0.mk A100
     clear A100
     replace H := obe H
     obtain ⟨⟨t273, t274, t275⟩, A110, H⟩ := H
     (try dsimp only at H)
     have A11 := Aside0.mk A110
     clear A110
     replace H := obe H
     obtain ⟨⟨t276, t277⟩, A120, H⟩ := H
     (try dsimp only at H)
     have A12 := Aside0.mk A120
     clear A120
     by_cases c13 : t267 = t277
     ·rw [if_pos c13] at H
      have c13b0 : (t267 == t277) = true := beq_iff_eq.mpr c13
      have c13b1 : (t267 != t277) = false := bne_eq_false_iff_eq.mpr c13
      clear c13
      by_cases c14 : t266 = t276
      ·rw [if_pos c14] at H
       have c14b0 : (t266 == t276) = true := beq_iff_eq.mpr c14
       have c14b1 : (t266 != t276) = false := bne_eq_false_iff_eq.mpr c14
       clear c14
       simp only [Option.some.injEq, Prod.mk.injEq] at H
       obtain ⟨rfl, rfl⟩ := H
       go_wp2_with (first | ((with_reducible refine gate_callee (f := 18) rfl ?_); refine gL (some 26) Tryd.func18 #[.int .i64 a1] ?_; (with_reducible refine (power_Five.calls kj2 a1 t258 t259 t260 t261 _ A7.out).mono ?_); rintro e w15 ⟨rfl, hb⟩; refine ⟨_, rfl, ?_⟩; replace HB := Aside0.mk (below_step dB hb); (try clear hb)) | ((with_reducible refine gate_dst (N := 10) rfl ?_); refine box_event ?hg (N := 10) ?hd (cs := #[.int .u64 0, .int .u64 0, .int .u64 0, .int .i64 0, .bool false]) (t := 56) ?hr ?_; (case hd => rfl); (case hg => rfl); (case hr => first | (go_simp; done) | (go_simp; rfl)); intro gb262 hg w16 hbox hb; have BK262 := Aside0.mk (hbox); have GW262 := Aside0.mk ((by rw [hg]; exact (below_size dB) : w.heap.size ≤ gb262)); have GE262 := Aside0.mk ((by rw [hg]; exact (below_size dB) : w.heap.size ≤ gb262)); replace HB := Aside0.mk (below_step dB hb); clear hb hbox hg; obtain ⟨hcz17_0, hcz17_1, hcz17_2, hcz17_3, hcz17_4⟩ := cz5 BK262.out; obtain ⟨hfz17_0, hfz17_1, hfz17_2, hfz17_3, hfz17_4⟩ := fz5 BK262.out) | ((with_reducible refine gate_callee (f := 35) rfl ?_); refine gL (some 39) Tryd.func35 #[.int .u64 t258, .int .u64 t259, .int .u64 a0] ?_; (with_reducible refine (wide_Mul3.calls t258 t259 a0 t263 t264 t265 _ A8.out).mono ?_); rintro e w18 ⟨rfl, hb⟩; refine ⟨_, rfl, ?_⟩; replace BK262 := Aside0.mk (blk_below (g := gb262) (o := .cells #[.int .u64 0, .int .u64 0, .int .u64 0, .int .i64 (wrap64 (t260 + a1)), .bool false] 56 (0, 0)) (dP BK262.out) hb); replace HB := Aside0.mk (below_step (dG GE262.out) hb); (try clear hb); obtain ⟨hcz19_0, hcz19_1, hcz19_2, hcz19_3, hcz19_4⟩ := cz5 BK262.out; obtain ⟨hfz19_0, hfz19_1, hfz19_2, hfz19_3, hfz19_4⟩ := fz5 BK262.out) | ((with_reducible refine gate_callee (f := 29) rfl ?_); refine gL (some 48) Tryd.func29 #[.agg #[.int .u64 t263, .int .u64 t264, .int .u64 t265, .int .i64 (wrap64 (t260 + a1)), .bool false]] ?_; (with_reducible refine (lemire_three_rounded.calls kj2 t263 t264 t265 (wrap64 (t260 + a1)) false t266 t267 _ A9.out).mono ?_); rintro e w20 ⟨rfl, hb⟩; refine ⟨_, rfl, ?_⟩; replace BK262 := Aside0.mk (blk_below (g := gb262) (o := .cells #[.int .u64 t263, .int .u64 t264, .int .u64 t265, .int .i64 (wrap64 (t260 + a1)), .bool false] 56 (0, 0)) (dP BK262.out) hb); replace HB := Aside0.mk (below_step (dG GE262.out) hb); (try clear hb)) | ((with_reducible refine gate_callee (f := 19) rfl ?_); refine gL (some 53) Tryd.func19 #[.int .i64 a1] ?_; (with_reducible refine (power_Above.calls kj2 a1 t268 t269 t270 t271 _ A10.out).mono ?_); rintro e w21 ⟨rfl, hb⟩; refine ⟨_, rfl, ?_⟩; replace BK262 := Aside0.mk (blk_below (g := gb262) (o := .cells #[.int .u64 t263, .int .u64 t264, .int .u64 t265, .int .i64 (wrap64 (t260 + a1)), .bool false] 56 (0, 0)) (dK BK262.out) hb); replace HB := Aside0.mk (below_step (dG GE262.out) hb); (try clear hb)) | ((with_reducible refine gate_dst (N := 13) rfl ?_); refine box_event ?hg (N := 13) ?hd (cs := #[.int .u64 0, .int .u64 0, .int .u64 0, .int .i64 0, .bool false]) (t := 56) ?hr ?_; (case hd => rfl); (case hg => rfl); (case hr => first | (go_simp; done) | (go_simp; rfl)); intro gb272 hg w22 hbox hb; have BK272 := Aside0.mk (hbox); have GW272 := Aside0.mk ((by rw [hg]; exact (below_size (dG GE262.out)) : w.heap.size ≤ gb272)); have GE272 := Aside0.mk ((by rw [hg]; exact (below_size (dG GE262.out)) : w.heap.size ≤ gb272)); replace HB := Aside0.mk (below_step (dG GE262.out) hb); have NB262_272 := Aside0.mk ((by rw [hg]; exact Nat.ne_of_lt (blk_lt (g := gb262) (o := .cells #[.int .u64 t263, .int .u64 t264, .int .u64 t265, .int .i64 (wrap64 (t260 + a1)), .bool false] 56 (0, 0)) (dK BK262.out)) : gb262 ≠ gb272)); have NB272_262 := Aside0.mk ((by rw [hg]; exact Nat.ne_of_gt (blk_lt (g := gb262) (o := .cells #[.int .u64 t263, .int .u64 t264, .int .u64 t265, .int .i64 (wrap64 (t260 + a1)), .bool false] 56 (0, 0)) (dK BK262.out)) : gb272 ≠ gb262)); replace BK262 := Aside0.mk (blk_below (g := gb262) (o := .cells #[.int .u64 t263, .int .u64 t264, .int .u64 t265, .int .i64 (wrap64 (t260 + a1)), .bool false] 56 (0, 0)) (dK BK262.out) hb); clear hb hbox hg; have hnb23 := NB272_262.out; have hnc23 := NB262_272.out; obtain ⟨hcz24_0, hcz24_1, hcz24_2, hcz24_3, hcz24_4⟩ := cz5 BK272.out; obtain ⟨hfz24_0, hfz24_1, hfz24_2, hfz24_3, hfz24_4⟩ := fz5 BK272.out) | ((with_reducible refine gate_callee (f := 35) rfl ?_); refine gL (some 66) Tryd.func35 #[.int .u64 t268, .int .u64 t269, .int .u64 a0] ?_; (with_reducible refine (wide_Mul3.calls t268 t269 a0 t273 t274 t275 _ A11.out).mono ?_); rintro e w25 ⟨rfl, hb⟩; refine ⟨_, rfl, ?_⟩; replace BK262 := Aside0.mk (blk_below (g := gb262) (o := .cells #[.int .u64 t263, .int .u64 t264, .int .u64 t265, .int .i64 (wrap64 (t260 + a1)), .bool false] 56 (0, 0)) (by (with_reducible repeat (first | refine blk_drewN ?_ _ | refine blk_drew ?_ | refine blk_alloc ?_ _)); refine blk_far ?_ NB262_272.out _; (with_reducible repeat (first | refine blk_drewN ?_ _ | refine blk_drew ?_ | refine blk_alloc ?_ _)); refine blk_far ?_ NB262_272.out _; (with_reducible repeat (first | refine blk_drewN ?_ _ | refine blk_drew ?_ | refine blk_alloc ?_ _)); refine blk_far ?_ NB262_272.out _; (with_reducible repeat (first | refine blk_drewN ?_ _ | refine blk_drew ?_ | refine blk_alloc ?_ _)); refine blk_far ?_ NB262_272.out _; (with_reducible repeat (first | refine blk_drewN ?_ _ | refine blk_drew ?_ | refine blk_alloc ?_ _)); refine blk_far ?_ NB262_272.out _; (with_reducible repeat (first | refine blk_drewN ?_ _ | refine blk_drew ?_ | refine blk_alloc ?_ _)); exact BK262.out) hb); replace BK272 := Aside0.mk (blk_below (g := gb272) (o := .cells #[.int .u64 0, .int .u64 0, .int .u64 0, .int .i64 (wrap64 (t270 + a1)), .bool false] 56 (0, 0)) (dP BK272.out) hb); replace HB := Aside0.mk (below_step (by repeat (first | (with_reducible first | exact HB.out | apply below_alloc | apply pw_below_drewN | apply below_drew1 | refine below_set ?_ GE262.out | refine below_set ?_ GE272.out) | exact HB.out)) hb); (try clear hb); obtain ⟨hcz26_0, hcz26_1, hcz26_2, hcz26_3, hcz26_4⟩ := cz5 BK272.out; obtain ⟨hfz26_0, hfz26_1, hfz26_2, hfz26_3, hfz26_4⟩ := fz5 BK272.out) | ((with_reducible refine gate_callee (f := 29) rfl ?_); refine gL (some 75) Tryd.func29 #[.agg #[.int .u64 t273, .int .u64 t274, .int .u64 t275, .int .i64 (wrap64 (t270 + a1)), .bool false]] ?_; (with_reducible refine (lemire_three_rounded.calls kj2 t273 t274 t275 (wrap64 (t270 + a1)) false t276 t277 _ A12.out).mono ?_); rintro e w27 ⟨rfl, hb⟩; refine ⟨_, rfl, ?_⟩; replace BK262 := Aside0.mk (blk_below (g := gb262) (o := .cells #[.int .u64 t263, .int .u64 t264, .int .u64 t265, .int .i64 (wrap64 (t260 + a1)), .bool false] 56 (0, 0)) (by (with_reducible repeat (first | refine blk_drewN ?_ _ | refine blk_drew ?_ | refine blk_alloc ?_ _)); refine blk_far ?_ NB262_272.out _; (with_reducible repeat (first | refine blk_drewN ?_ _ | refine blk_drew ?_ | refine blk_alloc ?_ _)); refine blk_far ?_ NB262_272.out _; (with_reducible repeat (first | refine blk_drewN ?_ _ | refine blk_drew ?_ | refine blk_alloc ?_ _)); refine blk_far ?_ NB262_272.out _; (with_reducible repeat (first | refine blk_drewN ?_ _ | refine blk_drew ?_ | refine blk_alloc ?_ _)); exact BK262.out) hb); replace BK272 := Aside0.mk (blk_below (g := gb272) (o := .cells #[.int .u64 t273, .int .u64 t274, .int .u64 t275, .int .i64 (wrap64 (t270 + a1)), .bool false] 56 (0, 0)) (dP BK272.out) hb); replace HB := Aside0.mk (below_step (by repeat (first | (with_reducible first | exact HB.out | apply below_alloc | apply pw_below_drewN | apply below_drew1 | refine below_set ?_ GE262.out | refine below_set ?_ GE272.out) | exact HB.out)) hb); (try clear hb)))
       go_ret2
       exact ⟨dE, by repeat (first | (with_reducible first | exact HB.out | apply below_alloc | apply pw_below_drewN | apply below_drew1 | refine below_set ?_ GE262.out | refine below_set ?_ GE272.out) | exact HB.out)⟩
      ·rw [if_neg c14] at H
       have c14b0 : (t266 == t276) = false := beq_eq_false_iff_ne.mpr c14
       have c14b1 : (t266 != t276) = true := bne_iff_ne.mpr c14
       simp only [Option.some.injEq, Prod.mk.injEq] at H
       obtain ⟨rfl, rfl⟩ := H
       go_wp2_with (first | ((with_reducible refine gate_callee (f := 18) rfl ?_); refine gL (some 26) Tryd.func18 #[.int .i64 a1] ?_; (with_reducible refine (power_Five.calls kj2 a1 t258 t259 t260 t261 _ A7.out).mono ?_); rintro e w28 ⟨rfl, hb⟩; refine ⟨_, rfl, ?_⟩; replace HB := Aside0.mk (below_step dB hb); (try clear hb)) | ((with_reducible refine gate_dst (N := 10) rfl ?_); refine box_event ?hg (N := 10) ?hd (cs := #[.int .u64 0, .int .u64 0, .int .u64 0, .int .i64 0, .bool false]) (t := 56) ?hr ?_; (case hd => rfl); (case hg => rfl); (case hr => first | (go_simp; done) | (go_simp; rfl)); intro gb262 hg w29 hbox hb; have BK262 := Aside0.mk (hbox); have GW262 := Aside0.mk ((by rw [hg]; exact (below_size dB) : w.heap.size ≤ gb262)); have GE262 := Aside0.mk ((by rw [hg]; exact (below_size dB) : w.heap.size ≤ gb262)); replace HB := Aside0.mk (below_step dB hb); clear hb hbox hg; obtain ⟨hcz30_0, hcz30_1, hcz30_2, hcz30_3, hcz30_4⟩ := cz5 BK262.out; obtain ⟨hfz30_0, hfz30_1, hfz30_2, hfz30_3, hfz30_4⟩ := fz5 BK262.out) | ((with_reducible refine gate_callee (f := 35) rfl ?_); refine gL (some 39) Tryd.func35 #[.int .u64 t258, .int .u64 t259, .int .u64 a0] ?_; (with_reducible refine (wide_Mul3.calls t258 t259 a0 t263 t264 t265 _ A8.out).mono ?_); rintro e w31 ⟨rfl, hb⟩; refine ⟨_, rfl, ?_⟩; replace BK262 := Aside0.mk (blk_below (g := gb262) (o := .cells #[.int .u64 0, .int .u64 0, .int .u64 0, .int .i64 (wrap64 (t260 + a1)), .bool false] 56 (0, 0)) (dP BK262.out) hb); replace HB := Aside0.mk (below_step (dG GE262.out) hb); (try clear hb); obtain ⟨hcz32_0, hcz32_1, hcz32_2, hcz32_3, hcz32_4⟩ := cz5 BK262.out; obtain ⟨hfz32_0, hfz32_1, hfz32_2, hfz32_3, hfz32_4⟩ := fz5 BK262.out) | ((with_reducible refine gate_callee (f := 29) rfl ?_); refine gL (some 48) Tryd.func29 #[.agg #[.int .u64 t263, .int .u64 t264, .int .u64 t265, .int .i64 (wrap64 (t260 + a1)), .bool false]] ?_; (with_reducible refine (lemire_three_rounded.calls kj2 t263 t264 t265 (wrap64 (t260 + a1)) false t266 t267 _ A9.out).mono ?_); rintro e w33 ⟨rfl, hb⟩; refine ⟨_, rfl, ?_⟩; replace BK262 := Aside0.mk (blk_below (g := gb262) (o := .cells #[.int .u64 t263, .int .u64 t264, .int .u64 t265, .int .i64 (wrap64 (t260 + a1)), .bool false] 56 (0, 0)) (dP BK262.out) hb); replace HB := Aside0.mk (below_step (dG GE262.out) hb); (try clear hb)) | ((with_reducible refine gate_callee (f := 19) rfl ?_); refine gL (some 53) Tryd.func19 #[.int .i64 a1] ?_; (with_reducible refine (power_Above.calls kj2 a1 t268 t269 t270 t271 _ A10.out).mono ?_); rintro e w34 ⟨rfl, hb⟩; refine ⟨_, rfl, ?_⟩; replace BK262 := Aside0.mk (blk_below (g := gb262) (o := .cells #[.int .u64 t263, .int .u64 t264, .int .u64 t265, .int .i64 (wrap64 (t260 + a1)), .bool false] 56 (0, 0)) (dK BK262.out) hb); replace HB := Aside0.mk (below_step (dG GE262.out) hb); (try clear hb)) | ((with_reducible refine gate_dst (N := 13) rfl ?_); refine box_event ?hg (N := 13) ?hd (cs := #[.int .u64 0, .int .u64 0, .int .u64 0, .int .i64 0, .bool false]) (t := 56) ?hr ?_; (case hd => rfl); (case hg => rfl); (case hr => first | (go_simp; done) | (go_simp; rfl)); intro gb272 hg w35 hbox hb; have BK272 := Aside0.mk (hbox); have GW272 := Aside0.mk ((by rw [hg]; exact (below_size (dG GE262.out)) : w.heap.size ≤ gb272)); have GE272 := Aside0.mk ((by rw [hg]; exact (below_size (dG GE262.out)) : w.heap.size ≤ gb272)); replace HB := Aside0.mk (below_step (dG GE262.out) hb); have NB262_272 := Aside0.mk ((by rw [hg]; exact Nat.ne_of_lt (blk_lt (g := gb262) (o := .cells #[.int .u64 t263, .int .u64 t264, .int .u64 t265, .int .i64 (wrap64 (t260 + a1)), .bool false] 56 (0, 0)) (dK BK262.out)) : gb262 ≠ gb272)); have NB272_262 := Aside0.mk ((by rw [hg]; exact Nat.ne_of_gt (blk_lt (g := gb262) (o := .cells #[.int .u64 t263, .int .u64 t264, .int .u64 t265, .int .i64 (wrap64 (t260 + a1)), .bool false] 56 (0, 0)) (dK BK262.out)) : gb272 ≠ gb262)); replace BK262 := Aside0.mk (blk_below (g := gb262) (o := .cells #[.int .u64 t263, .int .u64 t264, .int .u64 t265, .int .i64 (wrap64 (t260 + a1)), .bool false] 56 (0, 0)) (dK BK262.out) hb); clear hb hbox hg; have hnb36 := NB272_262.out; have hnc36 := NB262_272.out; obtain ⟨hcz37_0, hcz37_1, hcz37_2, hcz37_3, hcz37_4⟩ := cz5 BK272.out; obtain ⟨hfz37_0, hfz37_1, hfz37_2, hfz37_3, hfz37_4⟩ := fz5 BK272.out) | ((with_reducible refine gate_callee (f := 35) rfl ?_); refine gL (some 66) Tryd.func35 #[.int .u64 t268, .int .u64 t269, .int .u64 a0] ?_; (with_reducible refine (wide_Mul3.calls t268 t269 a0 t273 t274 t275 _ A11.out).mono ?_); rintro e w38 ⟨rfl, hb⟩; refine ⟨_, rfl, ?_⟩; replace BK262 := Aside0.mk (blk_below (g := gb262) (o := .cells #[.int .u64 t263, .int .u64 t264, .int .u64 t265, .int .i64 (wrap64 (t260 + a1)), .bool false] 56 (0, 0)) (by (with_reducible repeat (first | refine blk_drewN ?_ _ | refine blk_drew ?_ | refine blk_alloc ?_ _)); refine blk_far ?_ NB262_272.out _; (with_reducible repeat (first | refine blk_drewN ?_ _ | refine blk_drew ?_ | refine blk_alloc ?_ _)); refine blk_far ?_ NB262_272.out _; (with_reducible repeat (first | refine blk_drewN ?_ _ | refine blk_drew ?_ | refine blk_alloc ?_ _)); refine blk_far ?_ NB262_272.out _; (with_reducible repeat (first | refine blk_drewN ?_ _ | refine blk_drew ?_ | refine blk_alloc ?_ _)); refine blk_far ?_ NB262_272.out _; (with_reducible repeat (first | refine blk_drewN ?_ _ | refine blk_drew ?_ | refine blk_alloc ?_ _)); refine blk_far ?_ NB262_272.out _; (with_reducible repeat (first | refine blk_drewN ?_ _ | refine blk_drew ?_ | refine blk_alloc ?_ _)); exact BK262.out) hb); replace BK272 := Aside0.mk (blk_below (g := gb272) (o := .cells #[.int .u64 0, .int .u64 0, .int .u64 0, .int .i64 (wrap64 (t270 + a1)), .bool false] 56 (0, 0)) (dP BK272.out) hb); replace HB := Aside0.mk (below_step (by repeat (first | (with_reducible first | exact HB.out | apply below_alloc | apply pw_below_drewN | apply below_drew1 | refine below_set ?_ GE262.out | refine below_set ?_ GE272.out) | exact HB.out)) hb); (try clear hb); obtain ⟨hcz39_0, hcz39_1, hcz39_2, hcz39_3, hcz39_4⟩ := cz5 BK272.out; obtain ⟨hfz39_0, hfz39_1, hfz39_2, hfz39_3, hfz39_4⟩ := fz5 BK272.out) | ((with_reducible refine gate_callee (f := 29) rfl ?_); refine gL (some 75) Tryd.func29 #[.agg #[.int .u64 t273, .int .u64 t274, .int .u64 t275, .int .i64 (wrap64 (t270 + a1)), .bool false]] ?_; (with_reducible refine (lemire_three_rounded.calls kj2 t273 t274 t275 (wrap64 (t270 + a1)) false t276 t277 _ A12.out).mono ?_); rintro e w40 ⟨rfl, hb⟩; refine ⟨_, rfl, ?_⟩; replace BK262 := Aside0.mk (blk_below (g := gb262) (o := .cells #[.int .u64 t263, .int .u64 t264, .int .u64 t265, .int .i64 (wrap64 (t260 + a1)), .bool false] 56 (0, 0)) (by (with_reducible repeat (first | refine blk_drewN ?_ _ | refine blk_drew ?_ | refine blk_alloc ?_ _)); refine blk_far ?_ NB262_272.out _; (with_reducible repeat (first | refine blk_drewN ?_ _ | refine blk_drew ?_ | refine blk_alloc ?_ _)); refine blk_far ?_ NB262_272.out _; (with_reducible repeat (first | refine blk_drewN ?_ _ | refine blk_drew ?_ | refine blk_alloc ?_ _)); refine blk_far ?_ NB262_272.out _; (with_reducible repeat (first | refine blk_drewN ?_ _ | refine blk_drew ?_ | refine blk_alloc ?_ _)); exact BK262.out) hb); replace BK272 := Aside0.mk (blk_below (g := gb272) (o := .cells #[.int .u64 t273, .int .u64 t274, .int .u64 t275, .int .i64 (wrap64 (t270 + a1)), .bool false] 56 (0, 0)) (dP BK272.out) hb); replace HB := Aside0.mk (below_step (by repeat (first | (with_reducible first | exact HB.out | apply below_alloc | apply pw_below_drewN | apply below_drew1 | refine below_set ?_ GE262.out | refine below_set ?_ GE272.out) | exact HB.out)) hb); (try clear hb)))
       go_ret2
       exact ⟨dE, by repeat (first | (with_reducible first | exact HB.out | apply below_alloc | apply pw_below_drewN | apply below_drew1 | refine below_set ?_ GE262.out | refine below_set ?_ GE272.out) | exact HB.out)⟩
     ·rw [if_neg c13] at H
      have c13b0 : (t267 == t277) = false := beq_eq_false_iff_ne.mpr c13
      have c13b1 : (t267 != t277) = true := bne_iff_ne.mpr c13
      simp only [Option.some.injEq, Prod.mk.injEq] at H
      obtain ⟨rfl, rfl⟩ := H
      go_wp2_with (first | ((with_reducible refine gate_callee (f := 18) rfl ?_); refine gL (some 26) Tryd.func18 #[.int .i64 a1] ?_; (with_reducible refine (power_Five.calls kj2 a1 t258 t259 t260 t261 _ A7.out).mono ?_); rintro e w41 ⟨rfl, hb⟩; refine ⟨_, rfl, ?_⟩; replace HB := Aside0.mk (below_step dB hb); (try clear hb)) | ((with_reducible refine gate_dst (N := 10) rfl ?_); refine box_event ?hg (N := 10) ?hd (cs := #[.int .u64 0, .int .u64 0, .int .u64 0, .int .i64 0, .bool false]) (t := 56) ?hr ?_; (case hd => rfl); (case hg => rfl); (case hr => first | (go_simp; done) | (go_simp; rfl)); intro gb262 hg w42 hbox hb; have BK262 := Aside0.mk (hbox); have GW262 := Aside0.mk ((by rw [hg]; exact (below_size dB) : w.heap.size ≤ gb262)); have GE262 := Aside0.mk ((by rw [hg]; exact (below_size dB) : w.heap.size ≤ gb262)); replace HB := Aside0.mk (below_step dB hb); clear hb hbox hg; obtain ⟨hcz43_0, hcz43_1, hcz43_2, hcz43_3, hcz43_4⟩ := cz5 BK262.out; obtain ⟨hfz43_0, hfz43_1, hfz43_2, hfz43_3, hfz43_4⟩ := fz5 BK262.out) | ((with_reducible refine gate_callee (f := 35) rfl ?_); refine gL (some 39) Tryd.func35 #[.int .u64 t258, .int .u64 t259, .int .u64 a0] ?_; (with_reducible refine (wide_Mul3.calls t258 t259 a0 t263 t264 t265 _ A8.out).mono ?_); rintro e w44 ⟨rfl, hb⟩; refine ⟨_, rfl, ?_⟩; replace BK262 := Aside0.mk (blk_below (g := gb262) (o := .cells #[.int .u64 0, .int .u64 0, .int .u64 0, .int .i64 (wrap64 (t260 + a1)), .bool false] 56 (0, 0)) (dP BK262.out) hb); replace HB := Aside0.mk (below_step (dG GE262.out) hb); (try clear hb); obtain ⟨hcz45_0, hcz45_1, hcz45_2, hcz45_3, hcz45_4⟩ := cz5 BK262.out; obtain ⟨hfz45_0, hfz45_1, hfz45_2, hfz45_3, hfz45_4⟩ := fz5 BK262.out) | ((with_reducible refine gate_callee (f := 29) rfl ?_); refine gL (some 48) Tryd.func29 #[.agg #[.int .u64 t263, .int .u64 t264, .int .u64 t265, .int .i64 (wrap64 (t260 + a1)), .bool false]] ?_; (with_reducible refine (lemire_three_rounded.calls kj2 t263 t264 t265 (wrap64 (t260 + a1)) false t266 t267 _ A9.out).mono ?_); rintro e w46 ⟨rfl, hb⟩; refine ⟨_, rfl, ?_⟩; replace BK262 := Aside0.mk (blk_below (g := gb262) (o := .cells #[.int .u64 t263, .int .u64 t264, .int .u64 t265, .int .i64 (wrap64 (t260 + a1)), .bool false] 56 (0, 0)) (dP BK262.out) hb); replace HB := Aside0.mk (below_step (dG GE262.out) hb); (try clear hb)) | ((with_reducible refine gate_callee (f := 19) rfl ?_); refine gL (some 53) Tryd.func19 #[.int .i64 a1] ?_; (with_reducible refine (power_Above.calls kj2 a1 t268 t269 t270 t271 _ A10.out).mono ?_); rintro e w47 ⟨rfl, hb⟩; refine ⟨_, rfl, ?_⟩; replace BK262 := Aside0.mk (blk_below (g := gb262) (o := .cells #[.int .u64 t263, .int .u64 t264, .int .u64 t265, .int .i64 (wrap64 (t260 + a1)), .bool false] 56 (0, 0)) (dK BK262.out) hb); replace HB := Aside0.mk (below_step (dG GE262.out) hb); (try clear hb)) | ((with_reducible refine gate_dst (N := 13) rfl ?_); refine box_event ?hg (N := 13) ?hd (cs := #[.int .u64 0, .int .u64 0, .int .u64 0, .int .i64 0, .bool false]) (t := 56) ?hr ?_; (case hd => rfl); (case hg => rfl); (case hr => first | (go_simp; done) | (go_simp; rfl)); intro gb272 hg w48 hbox hb; have BK272 := Aside0.mk (hbox); have GW272 := Aside0.mk ((by rw [hg]; exact (below_size (dG GE262.out)) : w.heap.size ≤ gb272)); have GE272 := Aside0.mk ((by rw [hg]; exact (below_size (dG GE262.out)) : w.heap.size ≤ gb272)); replace HB := Aside0.mk (below_step (dG GE262.out) hb); have NB262_272 := Aside0.mk ((by rw [hg]; exact Nat.ne_of_lt (blk_lt (g := gb262) (o := .cells #[.int .u64 t263, .int .u64 t264, .int .u64 t265, .int .i64 (wrap64 (t260 + a1)), .bool false] 56 (0, 0)) (dK BK262.out)) : gb262 ≠ gb272)); have NB272_262 := Aside0.mk ((by rw [hg]; exact Nat.ne_of_gt (blk_lt (g := gb262) (o := .cells #[.int .u64 t263, .int .u64 t264, .int .u64 t265, .int .i64 (wrap64 (t260 + a1)), .bool false] 56 (0, 0)) (dK BK262.out)) : gb272 ≠ gb262)); replace BK262 := Aside0.mk (blk_below (g := gb262) (o := .cells #[.int .u64 t263, .int .u64 t264, .int .u64 t265, .int .i64 (wrap64 (t260 + a1)), .bool false] 56 (0, 0)) (dK BK262.out) hb); clear hb hbox hg; have hnb49 := NB272_262.out; have hnc49 := NB262_272.out; obtain ⟨hcz50_0, hcz50_1, hcz50_2, hcz50_3, hcz50_4⟩ := cz5 BK272.out; obtain ⟨hfz50_0, hfz50_1, hfz50_2, hfz50_3, hfz50_4⟩ := fz5 BK272.out) | ((with_reducible refine gate_callee (f := 35) rfl ?_); refine gL (some 66) Tryd.func35 #[.int .u64 t268, .int .u64 t269, .int .u64 a0] ?_; (with_reducible refine (wide_Mul3.calls t268 t269 a0 t273 t274 t275 _ A11.out).mono ?_); rintro e w51 ⟨rfl, hb⟩; refine ⟨_, rfl, ?_⟩; replace BK262 := Aside0.mk (blk_below (g := gb262) (o := .cells #[.int .u64 t263, .int .u64 t264, .int .u64 t265, .int .i64 (wrap64 (t260 + a1)), .bool false] 56 (0, 0)) (by (with_reducible repeat (first | refine blk_drewN ?_ _ | refine blk_drew ?_ | refine blk_alloc ?_ _)); refine blk_far ?_ NB262_272.out _; (with_reducible repeat (first | refine blk_drewN ?_ _ | refine blk_drew ?_ | refine blk_alloc ?_ _)); refine blk_far ?_ NB262_272.out _; (with_reducible repeat (first | refine blk_drewN ?_ _ | refine blk_drew ?_ | refine blk_alloc ?_ _)); refine blk_far ?_ NB262_272.out _; (with_reducible repeat (first | refine blk_drewN ?_ _ | refine blk_drew ?_ | refine blk_alloc ?_ _)); refine blk_far ?_ NB262_272.out _; (with_reducible repeat (first | refine blk_drewN ?_ _ | refine blk_drew ?_ | refine blk_alloc ?_ _)); refine blk_far ?_ NB262_272.out _; (with_reducible repeat (first | refine blk_drewN ?_ _ | refine blk_drew ?_ | refine blk_alloc ?_ _)); exact BK262.out) hb); replace BK272 := Aside0.mk (blk_below (g := gb272) (o := .cells #[.int .u64 0, .int .u64 0, .int .u64 0, .int .i64 (wrap64 (t270 + a1)), .bool false] 56 (0, 0)) (dP BK272.out) hb); replace HB := Aside0.mk (below_step (by repeat (first | (with_reducible first | exact HB.out | apply below_alloc | apply pw_below_drewN | apply below_drew1 | refine below_set ?_ GE262.out | refine below_set ?_ GE272.out) | exact HB.out)) hb); (try clear hb); obtain ⟨hcz52_0, hcz52_1, hcz52_2, hcz52_3, hcz52_4⟩ := cz5 BK272.out; obtain ⟨hfz52_0, hfz52_1, hfz52_2, hfz52_3, hfz52_4⟩ := fz5 BK272.out) | ((with_reducible refine gate_callee (f := 29) rfl ?_); refine gL (some 75) Tryd.func29 #[.agg #[.int .u64 t273, .int .u64 t274, .int .u64 t275, .int .i64 (wrap64 (t270 + a1)), .bool false]] ?_; (with_reducible refine (lemire_three_rounded.calls kj2 t273 t274 t275 (wrap64 (t270 + a1)) false t276 t277 _ A12.out).mono ?_); rintro e w53 ⟨rfl, hb⟩; refine ⟨_, rfl, ?_⟩; replace BK262 := Aside0.mk (blk_below (g := gb262) (o := .cells #[.int .u64 t263, .int .u64 t264, .int .u64 t265, .int .i64 (wrap64 (t260 + a1)), .bool false] 56 (0, 0)) (by (with_reducible repeat (first | refine blk_drewN ?_ _ | refine blk_drew ?_ | refine blk_alloc ?_ _)); refine blk_far ?_ NB262_272.out _; (with_reducible repeat (first | refine blk_drewN ?_ _ | refine blk_drew ?_ | refine blk_alloc ?_ _)); refine blk_far ?_ NB262_272.out _; (with_reducible repeat (first | refine blk_drewN ?_ _ | refine blk_drew ?_ | refine blk_alloc ?_ _)); refine blk_far ?_ NB262_272.out _; (with_reducible repeat (first | refine blk_drewN ?_ _ | refine blk_drew ?_ | refine blk_alloc ?_ _)); exact BK262.out) hb); replace BK272 := Aside0.mk (blk_below (g := gb272) (o := .cells #[.int .u64 t273, .int .u64 t274, .int .u64 t275, .int .i64 (wrap64 (t270 + a1)), .bool false] 56 (0, 0)) (dP BK272.out) hb); replace HB := Aside0.mk (below_step (by repeat (first | (with_reducible first | exact HB.out | apply below_alloc | apply pw_below_drewN | apply below_drew1 | refine below_set ?_ GE262.out | refine below_set ?_ GE272.out) | exact HB.out)) hb); (try clear hb)))
      go_ret2
      exact ⟨dE, by repeat (first | (with_reducible first | exact HB.out | apply below_alloc | apply pw_below_drewN | apply below_drew1 | refine below_set ?_ GE262.out | refine below_set ?_ GE272.out) | exact HB.out)⟩

end Go.Proofs.YtoannkopciehcaaDoor.PA
