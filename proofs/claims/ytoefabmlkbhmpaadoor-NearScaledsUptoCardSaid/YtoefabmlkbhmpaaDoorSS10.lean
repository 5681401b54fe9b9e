/- A part of the proof (10). -/
import Derived.Test.YtoefabmlkbhmpaaDoorSS2
import Derived.Test.YtoefabmlkbhmpaaDoorSS7
import Derived.Test.YtoefabmlkbhmpaaDoorSS9
import Derived.Test.YtoefabmlkbhmpaaDoorSS3
import Derived.Test.YtoefabmlkbhmpaaDoorSS4
import Derived.Test.YtoefabmlkbhmpaaDoorSS5
import Derived.Test.YtoefabmlkbhmpaaDoorSS6
import Derived.Test.YtoefabmlkbhmpaaDoorSS8
namespace Go.Proofs.YtoefabmlkbhmpaaDoor.PA
open Go.RowKit Go.Proofs.YtoefabmlkbhmpaaDoorW.PrintWords Go.Proofs.YtoefabmlkbhmpaaDoorW.PrintLast Go.Proofs.YtoefabmlkbhmpaaDoorW.PrintMore
attribute [local go_sem] max2_int min2_int max_two min_two max_three min_three max_four min_four   -- for this text's walks alone
set_option linter.unusedVariables false
set_option linter.unusedSimpArgs false

end Go.Proofs.YtoefabmlkbhmpaaDoor.PA

namespace Go.Proofs.YtoefabmlkbhmpaaDoor.PA
open Go.RowKit Go.Proofs.YtoefabmlkbhmpaaDoorW.PrintWords Go.Proofs.YtoefabmlkbhmpaaDoorW.PrintLast Go.Proofs.YtoefabmlkbhmpaaDoorW.PrintMore
attribute [local go_sem] max2_int min2_int max_two min_two max_three min_three max_four min_four   -- for this text's walks alone
set_option linter.unusedVariables false
set_option linter.unusedSimpArgs false

end Go.Proofs.YtoefabmlkbhmpaaDoor.PA

namespace Go.Proofs.YtoefabmlkbhmpaaDoor.PA
open Go.RowKit Go.Proofs.YtoefabmlkbhmpaaDoorW.PrintWords Go.Proofs.YtoefabmlkbhmpaaDoorW.PrintLast Go.Proofs.YtoefabmlkbhmpaaDoorW.PrintMore
attribute [local go_sem] max2_int min2_int max_two min_two max_three min_three max_four min_four   -- for this text's walks alone
set_option linter.unusedVariables false
set_option linter.unusedSimpArgs false

end Go.Proofs.YtoefabmlkbhmpaaDoor.PA

namespace Go.Proofs.YtoefabmlkbhmpaaDoor.PA
open Go.RowKit Go.Proofs.YtoefabmlkbhmpaaDoorW.PrintWords Go.Proofs.YtoefabmlkbhmpaaDoorW.PrintLast Go.Proofs.YtoefabmlkbhmpaaDoorW.PrintMore
attribute [local go_sem] max2_int min2_int max_two min_two max_three min_three max_four min_four   -- for this text's walks alone
set_option linter.unusedVariables false
set_option linter.unusedSimpArgs false

end Go.Proofs.YtoefabmlkbhmpaaDoor.PA

namespace Go.Proofs.YtoefabmlkbhmpaaDoor.PA
open Go.RowKit Go.Proofs.YtoefabmlkbhmpaaDoorW.PrintWords Go.Proofs.YtoefabmlkbhmpaaDoorW.PrintLast Go.Proofs.YtoefabmlkbhmpaaDoorW.PrintMore
attribute [local go_sem] max2_int min2_int max_two min_two max_three min_three max_four min_four   -- for this text's walks alone
set_option linter.unusedVariables false
set_option linter.unusedSimpArgs false

/-! ### nat_Mul: function 24 (by hand) -/
mutual
def nat_Mul.j0 : Nat → List Int → List Int → Bool → Option (List Int × Int)
 | 0, _, _, _ => none
 | k + 1, x0, x1, x30 => if x30 = true then (some (([] : List Int), 0)) else ((nat_Bits.f k x0).bind fun t113 => ((nat_Bits.f k x1).bind fun t114 => (if (wrap64 (t113 - 1)) > (wrap64 (262144 - t114)) then (some (([] : List Int), 21)) else (if 0 ≤ (wrap64 ((x0.length : Int) + (x1.length : Int))) then (if (wrap64 ((x0.length : Int) + (x1.length : Int)) : Int).toNat ≤ 35184372088832 then (nat_Mul.l0 k x1 (List.replicate (wrap64 ((x0.length : Int) + (x1.length : Int)) : Int).toNat 0) x0 (x0.length : Int) 0) else (none)) else (none)))))
def nat_Mul.l0 : Nat → List Int → List Int → List Int → Int → Int → Option (List Int × Int)
 | 0, _, _, _, _, _ => none
 | k + 1, x1, x6, x44, x45, x46 => if x46 < x45 then (if 0 ≤ x46 then (if x46 < (x44.length : Int) then (nat_Mul.l1 k x1 x6 x46 (rd x44 x46) 0 x44 x45 x46 x1 (x1.length : Int) 0) else (none)) else (none)) else ((nat_bound.f k x6).bind fun bt118 => (some (bt118.1, bt118.2)))
def nat_Mul.l1 : Nat → List Int → List Int → Int → Int → Int → List Int → Int → Int → List Int → Int → Int → Option (List Int × Int)
 | 0, _, _, _, _, _, _, _, _, _, _, _ => none
 | k + 1, x1, x6, x7, x8, x9, x44, x45, x46, x51, x52, x53 => if x53 < x52 then (if 0 ≤ x53 then (if x53 < (x51.length : Int) then ((wide_Mul.f x8 (rd x51 x53)).bind fun bt124 => (if 0 ≤ (wrap64 (x7 + x53)) then (if (wrap64 (x7 + x53)) < (x6.length : Int) then ((wide_Add.f bt124.2 (rd x6 (wrap64 (x7 + x53))) 0).bind fun bt127 => ((wide_Add.f bt127.1 x9 0).bind fun bt129 => (nat_Mul.l1 k x1 (x6.set ((wrap64 (x7 + x53)) : Int).toNat bt129.1) x7 x8 (IntKind.u64.wrap ((IntKind.u64.wrap (bt124.1 + bt127.2)) + bt129.2)) x44 x45 x46 x51 x52 (wrap64 (x53 + 1))))) else (none)) else (none))) else (none)) else (none)) else (if 0 ≤ (wrap64 (x7 + (x1.length : Int))) then (if (wrap64 (x7 + (x1.length : Int))) < (x6.length : Int) then (nat_Mul.l0 k x1 (x6.set ((wrap64 (x7 + (x1.length : Int))) : Int).toNat x9) x44 x45 (wrap64 (x46 + 1))) else (none)) else (none))
end
def nat_Mul.f (k : Nat) (l0 : List Int) (l1 : List Int) : Option (List Int × Int) := (nat_size.f k l0).bind fun t109 => (if 0 ≤ t109 then (if t109 ≤ (l0.length : Int) then ((nat_size.f k l1).bind fun t111 => (if 0 ≤ t111 then (if t111 ≤ (l1.length : Int) then (if ((l0.take (t109 : Int).toNat).length : Int) = 0 then (nat_Mul.j0 k (l0.take (t109 : Int).toNat) (l1.take (t111 : Int).toNat) true) else (nat_Mul.j0 k (l0.take (t109 : Int).toNat) (l1.take (t111 : Int).toNat) (((l1.take (t111 : Int).toNat).length : Int) == 0))) else (none)) else (none))) else (none)) else (none))
theorem nat_Mul.mono_l : ∀ k, (∀ y0 y1 y2, LeO (nat_Mul.j0 k y0 y1 y2) (nat_Mul.j0 (k + 1) y0 y1 y2)) ∧ (∀ y0 y1 y2 y3 y4, LeO (nat_Mul.l0 k y0 y1 y2 y3 y4) (nat_Mul.l0 (k + 1) y0 y1 y2 y3 y4)) ∧ (∀ y0 y1 y2 y3 y4 y5 y6 y7 y8 y9 y10, LeO (nat_Mul.l1 k y0 y1 y2 y3 y4 y5 y6 y7 y8 y9 y10) (nat_Mul.l1 (k + 1) y0 y1 y2 y3 y4 y5 y6 y7 y8 y9 y10))
 | 0 => ⟨fun _ _ _ r h => by simp [nat_Mul.j0] at h, fun _ _ _ _ _ r h => by simp [nat_Mul.l0] at h, fun _ _ _ _ _ _ _ _ _ _ _ r h => by simp [nat_Mul.l1] at h⟩
 | k + 1 => by
  obtain ⟨ih0, ih1, ih2⟩ := nat_Mul.mono_l k
  refine ⟨?_, ?_, ?_⟩
  ·intro y0 y1 y2
   unfold nat_Mul.j0
   repeat' first
   | (with_reducible exact ih0 _ _ _)
   | (with_reducible exact ih1 _ _ _ _ _)
   | (with_reducible exact ih2 _ _ _ _ _ _ _ _ _ _ _)
   | (with_reducible exact nat_Bits.mono _ _)
   | (with_reducible exact nat_bound.mono _ _)
   | (with_reducible exact nat_size.mono _ _)
   | (with_reducible exact LeO.refl _)
   | (with_reducible exact LeO.none _)
   | (with_reducible refine LeO.ite ?_ ?_)
   | (with_reducible refine LeO.bind ?_ (fun _ => ?_))
   | exact ih0 _ _ _
   | exact ih1 _ _ _ _ _
   | exact ih2 _ _ _ _ _ _ _ _ _ _ _
   | exact nat_Bits.mono _ _
   | exact nat_bound.mono _ _
   | exact nat_size.mono _ _
   | exact LeO.none _
   | refine LeO.ite ?_ ?_
   | refine LeO.bind ?_ (fun _ => ?_)
  ·intro y0 y1 y2 y3 y4
   unfold nat_Mul.l0
   repeat' first
   | (with_reducible exact ih0 _ _ _)
   | (with_reducible exact ih1 _ _ _ _ _)
   | (with_reducible exact ih2 _ _ _ _ _ _ _ _ _ _ _)
   | (with_reducible exact nat_Bits.mono _ _)
   | (with_reducible exact nat_bound.mono _ _)
   | (with_reducible exact nat_size.mono _ _)
   | (with_reducible exact LeO.refl _)
   | (with_reducible exact LeO.none _)
   | (with_reducible refine LeO.ite ?_ ?_)
   | (with_reducible refine LeO.bind ?_ (fun _ => ?_))
   | exact ih0 _ _ _
   | exact ih1 _ _ _ _ _
   | exact ih2 _ _ _ _ _ _ _ _ _ _ _
   | exact nat_Bits.mono _ _
   | exact nat_bound.mono _ _
   | exact nat_size.mono _ _
   | exact LeO.none _
   | refine LeO.ite ?_ ?_
   | refine LeO.bind ?_ (fun _ => ?_)
  ·intro y0 y1 y2 y3 y4 y5 y6 y7 y8 y9 y10
   unfold nat_Mul.l1
   repeat' first
   | (with_reducible exact ih0 _ _ _)
   | (with_reducible exact ih1 _ _ _ _ _)
   | (with_reducible exact ih2 _ _ _ _ _ _ _ _ _ _ _)
   | (with_reducible exact nat_Bits.mono _ _)
   | (with_reducible exact nat_bound.mono _ _)
   | (with_reducible exact nat_size.mono _ _)
   | (with_reducible exact LeO.refl _)
   | (with_reducible exact LeO.none _)
   | (with_reducible refine LeO.ite ?_ ?_)
   | (with_reducible refine LeO.bind ?_ (fun _ => ?_))
   | exact ih0 _ _ _
   | exact ih1 _ _ _ _ _
   | exact ih2 _ _ _ _ _ _ _ _ _ _ _
   | exact nat_Bits.mono _ _
   | exact nat_bound.mono _ _
   | exact nat_size.mono _ _
   | exact LeO.none _
   | refine LeO.ite ?_ ?_
   | refine LeO.bind ?_ (fun _ => ?_)
theorem nat_Mul.mono : ∀ a0 a1 k, LeO (nat_Mul.f k a0 a1) (nat_Mul.f (k + 1) a0 a1) := by
 intro a0 a1 k
 obtain ⟨ih0, ih1, ih2⟩ := nat_Mul.mono_l k
 unfold nat_Mul.f
 repeat' first
   | (with_reducible exact ih0 _ _ _)
   | (with_reducible exact ih1 _ _ _ _ _)
   | (with_reducible exact ih2 _ _ _ _ _ _ _ _ _ _ _)
   | (with_reducible exact nat_Bits.mono _ _)
   | (with_reducible exact nat_bound.mono _ _)
   | (with_reducible exact nat_size.mono _ _)
   | (with_reducible exact LeO.refl _)
   | (with_reducible exact LeO.none _)
   | (with_reducible refine LeO.ite ?_ ?_)
   | (with_reducible refine LeO.bind ?_ (fun _ => ?_))
   | exact ih0 _ _ _
   | exact ih1 _ _ _ _ _
   | exact ih2 _ _ _ _ _ _ _ _ _ _ _
   | exact nat_Bits.mono _ _
   | exact nat_bound.mono _ _
   | exact nat_size.mono _ _
   | exact LeO.none _
   | refine LeO.ite ?_ ?_
   | refine LeO.bind ?_ (fun _ => ?_)
set_option maxHeartbeats 8000000 in
set_option maxRecDepth 100000 in
theorem nat_Mul.calls (k : Nat) (A0 : Option Addr) (c0 : Nat) (l0 : List Int) (A1 : Option Addr) (c1 : Nat) (l1 : List Int) (r1 : List Int) (r2 : Int) (w : World) (hr0 : Kd.C (Kd.int .u64) w A0 l0.length l0) (hc0 : l0.length ≤ c0) (hr1 : Kd.C (Kd.int .u64) w A1 l1.length l1) (hc1 : l1.length ≤ c1) (h : nat_Mul.f k l0 l1 = some (r1, r2)) :
  Calls Tryd.prog 24 #[.slice A0 l0.length c0, .slice A1 l1.length c1] w fun e w' => ∃ v0_ : Value, e = .returned (.tuple #[v0_, .int .i64 r2]) ∧ Kd.R (Kd.int .u64) 26 w' w.heap.size (fun _ => True) v0_ r1 ∧ Below w.heap.size w w' := by
 have HR0 := Aside0.mk hr0
 have HC0 := Aside0.mk hc0
 clear hr0 hc0
 have HR1 := Aside0.mk hr1
 have HC1 := Aside0.mk hc1
 clear hr1 hc1
 have HB := Aside0.mk (Below.refl w.heap.size w)
 have H : ((nat_size.f k l0).bind fun t109 => (if 0 ≤ t109 then (if t109 ≤ (l0.length : Int) then ((nat_size.f k l1).bind fun t111 => (if 0 ≤ t111 then (if t111 ≤ (l1.length : Int) then (if ((l0.take (t109 : Int).toNat).length : Int) = 0 then (nat_Mul.j0 k (l0.take (t109 : Int).toNat) (l1.take (t111 : Int).toNat) true) else (nat_Mul.j0 k (l0.take (t109 : Int).toNat) (l1.take (t111 : Int).toNat) (((l1.take (t111 : Int).toNat).length : Int) == 0))) else (none)) else (none))) else (none)) else (none))) = some (r1, r2) := h
 clear h
 replace H := obe H
 obtain ⟨t109, A30, H⟩ := H
 replace H : (if 0 ≤ t109 then (if t109 ≤ (l0.length : Int) then ((nat_size.f k l1).bind fun t111 => (if 0 ≤ t111 then (if t111 ≤ (l1.length : Int) then (if ((l0.take (t109 : Int).toNat).length : Int) = 0 then (nat_Mul.j0 k (l0.take (t109 : Int).toNat) (l1.take (t111 : Int).toNat) true) else (nat_Mul.j0 k (l0.take (t109 : Int).toNat) (l1.take (t111 : Int).toNat) (((l1.take (t111 : Int).toNat).length : Int) == 0))) else (none)) else (none))) else (none)) else (none)) = some (r1, r2) := H
 have A3 := Aside0.mk A30
 clear A30
 by_cases c4 : (0 : Int) ≤ t109
 ·rw [if_pos c4] at H
  have c4b0 := eq_true c4
  have c4b1 : decide (0 ≤ t109) = true := decide_eq_true c4
  clear c4
  by_cases c5 : t109 ≤ (l0.length : Int)
  ·rw [if_pos c5] at H
   have c5b0 := eq_true c5
   have c5b1 : decide (t109 ≤ (l0.length : Int)) = true := decide_eq_true c5
   clear c5
   obtain ⟨z109, Nz1090⟩ : ∃ z_ : List Int, (l0.take (t109 : Int).toNat) = z_ := ⟨_, rfl⟩
   rw [Nz1090] at H
   have Nz109 := Aside0.mk Nz1090
   clear Nz1090
   replace H := obe H
   obtain ⟨t111, A60, H⟩ := H
   replace H : (if 0 ≤ t111 then (if t111 ≤ (l1.length : Int) then (if (z109.length : Int) = 0 then (nat_Mul.j0 k z109 (l1.take (t111 : Int).toNat) true) else (nat_Mul.j0 k z109 (l1.take (t111 : Int).toNat) (((l1.take (t111 : Int).toNat).length : Int) == 0))) else (none)) else (none)) = some (r1, r2) := H
   have A6 := Aside0.mk A60
   clear A60
   by_cases c7 : (0 : Int) ≤ t111
   ·rw [if_pos c7] at H
    have c7b0 := eq_true c7
    have c7b1 : decide (0 ≤ t111) = true := decide_eq_true c7
    clear c7
    by_cases c8 : t111 ≤ (l1.length : Int)
    ·rw [if_pos c8] at H
     have c8b0 := eq_true c8
     have c8b1 : decide (t111 ≤ (l1.length : Int)) = true := decide_eq_true c8
     clear c8
     obtain ⟨z111, Nz1110⟩ : ∃ z_ : List Int, (l1.take (t111 : Int).toNat) = z_ := ⟨_, rfl⟩
     rw [Nz1110] at H
     have Nz111 := Aside0.mk Nz1110
     clear Nz1110
     have HC9 := Aside0.mk H
     clear H
     go_enter Tryd.func24, Tryd.ntmps24
     go_upto_region 2 with (first | (go_at_call 54; (with_reducible refine (nat_size.calls k _ _ l0 t109 _ ?side1 ?side2 A3.out).mono ?_); (case side1 => exact dC HR0.out); (case side2 => exact HC0.out); rintro e w' ⟨rfl, ⟨nd, rfl⟩⟩; (try first | exact ⟨rfl, _, World.drewN_drewN _ _ _⟩ | exact ⟨rfl, _, Eq.trans (World.drewN_drewN _ _ _) (congrArg (World.drewN _) (Nat.add_assoc _ _ _))⟩); obtain ⟨i010, hi010, _, hsz10, _⟩ := info_parts info26; obtain ⟨hcut10, hA10, hC10⟩ := print_take_of (P := Tryd.prog) (Value.int .u64) 0 22 26 .i64 Tryd.underlying22 hi010 hsz10 A0 c0 l0 t109 (of_decide_eq_true dS) (of_decide_eq_true dS) HC0.out; rw [Nz109.out] at hcut10 hA10 hC10; have HR110 := Aside0.mk (Kd.C_of_reads (h1 := fun _ => rfl) (hA10 _ (Kd.reads_of_C HR0.out))); have HC110 := Aside0.mk hC10; clear hA10 hC10 hi010 hsz10) | (go_at_call 54; (with_reducible refine (nat_size.calls k _ _ l1 t111 _ ?side1 ?side2 A6.out).mono ?_); (case side1 => exact dC HR1.out); (case side2 => exact HC1.out); rintro e w' ⟨rfl, ⟨nd, rfl⟩⟩; (try first | exact ⟨rfl, _, World.drewN_drewN _ _ _⟩ | exact ⟨rfl, _, Eq.trans (World.drewN_drewN _ _ _) (congrArg (World.drewN _) (Nat.add_assoc _ _ _))⟩); obtain ⟨i011, hi011, _, hsz11, _⟩ := info_parts info26; obtain ⟨hcut11, hA11, hC11⟩ := print_take_of (P := Tryd.prog) (Value.int .u64) 0 22 26 .i64 Tryd.underlying22 hi011 hsz11 A1 c1 l1 t111 (of_decide_eq_true dS) (of_decide_eq_true dS) HC1.out; rw [Nz111.out] at hcut11 hA11 hC11; have HR112 := Aside0.mk (Kd.C_of_reads (h1 := fun _ => rfl) (hA11 _ (Kd.reads_of_C HR1.out))); have HC112 := Aside0.mk hC11; clear hA11 hC11 hi011 hsz11))
     repeat (go_quiet (first | (go_at_call 54; (with_reducible refine (nat_size.calls k _ _ l0 t109 _ ?side1 ?side2 A3.out).mono ?_); (case side1 => exact dC HR0.out); (case side2 => exact HC0.out); rintro e w' ⟨rfl, ⟨nd, rfl⟩⟩; (try first | exact ⟨rfl, _, World.drewN_drewN _ _ _⟩ | exact ⟨rfl, _, Eq.trans (World.drewN_drewN _ _ _) (congrArg (World.drewN _) (Nat.add_assoc _ _ _))⟩); obtain ⟨i010, hi010, _, hsz10, _⟩ := info_parts info26; obtain ⟨hcut10, hA10, hC10⟩ := print_take_of (P := Tryd.prog) (Value.int .u64) 0 22 26 .i64 Tryd.underlying22 hi010 hsz10 A0 c0 l0 t109 (of_decide_eq_true dS) (of_decide_eq_true dS) HC0.out; rw [Nz109.out] at hcut10 hA10 hC10; have HR110 := Aside0.mk (Kd.C_of_reads (h1 := fun _ => rfl) (hA10 _ (Kd.reads_of_C HR0.out))); have HC110 := Aside0.mk hC10; clear hA10 hC10 hi010 hsz10) | (go_at_call 54; (with_reducible refine (nat_size.calls k _ _ l1 t111 _ ?side1 ?side2 A6.out).mono ?_); (case side1 => exact dC HR1.out); (case side2 => exact HC1.out); rintro e w' ⟨rfl, ⟨nd, rfl⟩⟩; (try first | exact ⟨rfl, _, World.drewN_drewN _ _ _⟩ | exact ⟨rfl, _, Eq.trans (World.drewN_drewN _ _ _) (congrArg (World.drewN _) (Nat.add_assoc _ _ _))⟩); obtain ⟨i011, hi011, _, hsz11, _⟩ := info_parts info26; obtain ⟨hcut11, hA11, hC11⟩ := print_take_of (P := Tryd.prog) (Value.int .u64) 0 22 26 .i64 Tryd.underlying22 hi011 hsz11 A1 c1 l1 t111 (of_decide_eq_true dS) (of_decide_eq_true dS) HC1.out; rw [Nz111.out] at hcut11 hA11 hC11; have HR112 := Aside0.mk (Kd.C_of_reads (h1 := fun _ => rfl) (hA11 _ (Kd.reads_of_C HR1.out))); have HC112 := Aside0.mk hC11; clear hA11 hC11 hi011 hsz11)); go_upto_region 2 with (first | (go_at_call 54; (with_reducible refine (nat_size.calls k _ _ l0 t109 _ ?side1 ?side2 A3.out).mono ?_); (case side1 => exact dC HR0.out); (case side2 => exact HC0.out); rintro e w' ⟨rfl, ⟨nd, rfl⟩⟩; (try first | exact ⟨rfl, _, World.drewN_drewN _ _ _⟩ | exact ⟨rfl, _, Eq.trans (World.drewN_drewN _ _ _) (congrArg (World.drewN _) (Nat.add_assoc _ _ _))⟩); obtain ⟨i010, hi010, _, hsz10, _⟩ := info_parts info26; obtain ⟨hcut10, hA10, hC10⟩ := print_take_of (P := Tryd.prog) (Value.int .u64) 0 22 26 .i64 Tryd.underlying22 hi010 hsz10 A0 c0 l0 t109 (of_decide_eq_true dS) (of_decide_eq_true dS) HC0.out; rw [Nz109.out] at hcut10 hA10 hC10; have HR110 := Aside0.mk (Kd.C_of_reads (h1 := fun _ => rfl) (hA10 _ (Kd.reads_of_C HR0.out))); have HC110 := Aside0.mk hC10; clear hA10 hC10 hi010 hsz10) | (go_at_call 54; (with_reducible refine (nat_size.calls k _ _ l1 t111 _ ?side1 ?side2 A6.out).mono ?_); (case side1 => exact dC HR1.out); (case side2 => exact HC1.out); rintro e w' ⟨rfl, ⟨nd, rfl⟩⟩; (try first | exact ⟨rfl, _, World.drewN_drewN _ _ _⟩ | exact ⟨rfl, _, Eq.trans (World.drewN_drewN _ _ _) (congrArg (World.drewN _) (Nat.add_assoc _ _ _))⟩); obtain ⟨i011, hi011, _, hsz11, _⟩ := info_parts info26; obtain ⟨hcut11, hA11, hC11⟩ := print_take_of (P := Tryd.prog) (Value.int .u64) 0 22 26 .i64 Tryd.underlying22 hi011 hsz11 A1 c1 l1 t111 (of_decide_eq_true dS) (of_decide_eq_true dS) HC1.out; rw [Nz111.out] at hcut11 hA11 hC11; have HR112 := Aside0.mk (Kd.C_of_reads (h1 := fun _ => rfl) (hA11 _ (Kd.reads_of_C HR1.out))); have HC112 := Aside0.mk hC11; clear hA11 hC11 hi011 hsz11)))
     (try simp only [Act.put, List.setIfInBounds_toArray, List.set_cons_zero, List.set_cons_succ])
     go_cut [30] (fun v30 wc => ∃ (kq : Nat) (x30_8 : Bool), v30 = .bool x30_8 ∧ Aside0 (nat_Mul.j0 kq z109 z111 x30_8 = some (r1, r2)) ∧ Aside0 (kq ≤ k) ∧ Aside0 (Below w.heap.size w wc))
     case first =>
      have H := HC9.out
      clear HC9
      by_cases c12 : (z109.length : Int) = 0
      ·rw [if_pos c12] at H
       have c12b0 : ((z109.length : Int) == 0) = true := beq_iff_eq.mpr c12
       have c12b1 : ((z109.length : Int) != 0) = false := bne_eq_false_iff_eq.mpr c12
       clear c12
       (first | rw [c12b0] | (simp only [i64_w, i32_w]; rw [c12b0]) | skip)
       have H' := Aside0.mk H
       clear H
       go_wp2
       repeat (go_quiet (fail); try go_wp2)
       go_meet
       case rel => exact ⟨_, (true), dF, H', ⟨dN⟩, ⟨dB⟩⟩
      ·rw [if_neg c12] at H
       have c12b0 : ((z109.length : Int) == 0) = false := beq_eq_false_iff_ne.mpr c12
       have c12b1 : ((z109.length : Int) != 0) = true := bne_iff_ne.mpr c12
       have c12b2 : ¬ (z109 = []) := fun h_ => c12 (by rw [h_]; rfl)
       (first | rw [c12b0] | (simp only [i64_w, i32_w]; rw [c12b0]) | skip)
       have H' := Aside0.mk H
       clear H
       go_wp2
       repeat (go_quiet (fail); try go_wp2)
       go_meet
       case rel => exact ⟨_, (((z111.length : Int) == 0)), dF, H', ⟨dN⟩, ⟨dB⟩⟩
     case rest =>
      clear HC9
      try clear c1
      try clear p2
      try clear c4
      try clear c4b0
      try clear c4b1
      try clear c5
      try clear c5b0
      try clear c5b1
      try clear c7
      try clear c7b0
      try clear c7b1
      try clear c8
      try clear c8b0
      try clear c8b1
      try clear c12
      try clear c12b0
      try clear c12b1
      try clear c12b2
      obtain ⟨kq, x30_8, rfl, HA, HJ8, HB⟩ := hcut
      cases kq with
      | zero => exact absurd HA.out (by simp [nat_Mul.j0])
      | succ kj8 =>
       have H := HA.out
       clear HA
       simp only [nat_Mul.j0] at H
       by_cases c13 : x30_8 = true
       ·subst c13
        have H1 : (some (([] : List Int), 0)) = some (r1, r2) := by rw [if_pos rfl] at H; exact H
        clear H
        have H := H1
        clear H1
        simp only [Option.some.injEq, Prod.mk.injEq] at H
        obtain ⟨rfl, rfl⟩ := H
        go_wp2
        repeat (go_quiet (fail); try go_wp2)
        go_ret2
        exact ⟨_, dE, by first | exact Kd.R_nil _ _ _ _ _ | exact Kd.N_nil _ _ _ _ _ | exact Kd.V_nil _ _ _ _ _ | exact Kd.Q_nil _ _ _ _ _ | exact Kd.S_nil _ _ _ _ _, dB⟩
       ·replace c13 := Bool.eq_false_iff.mpr c13
        subst c13
        have H1 : ((nat_Bits.f kj8 z109).bind fun t113 => ((nat_Bits.f kj8 z111).bind fun t114 => (if (wrap64 (t113 - 1)) > (wrap64 (262144 - t114)) then (some (([] : List Int), 21)) else (if 0 ≤ (wrap64 ((z109.length : Int) + (z111.length : Int))) then (if (wrap64 ((z109.length : Int) + (z111.length : Int)) : Int).toNat ≤ 35184372088832 then (nat_Mul.l0 kj8 z111 (List.replicate (wrap64 ((z109.length : Int) + (z111.length : Int)) : Int).toNat 0) z109 (z109.length : Int) 0) else (none)) else (none))))) = some (r1, r2) := by rw [if_neg (show ¬ (false = true) by decide)] at H; exact H
        clear H
        have H := H1
        clear H1
        replace H := obe H
        obtain ⟨t113, A140, H⟩ := H
        replace H : ((nat_Bits.f kj8 z111).bind fun t114 => (if (wrap64 (t113 - 1)) > (wrap64 (262144 - t114)) then (some (([] : List Int), 21)) else (if 0 ≤ (wrap64 ((z109.length : Int) + (z111.length : Int))) then (if (wrap64 ((z109.length : Int) + (z111.length : Int)) : Int).toNat ≤ 35184372088832 then (nat_Mul.l0 kj8 z111 (List.replicate (wrap64 ((z109.length : Int) + (z111.length : Int)) : Int).toNat 0) z109 (z109.length : Int) 0) else (none)) else (none)))) = some (r1, r2) := H
        have A14 := Aside0.mk A140
        clear A140
        replace H := obe H
        obtain ⟨t114, A150, H⟩ := H
        replace H : (if (wrap64 (t113 - 1)) > (wrap64 (262144 - t114)) then (some (([] : List Int), 21)) else (if 0 ≤ (wrap64 ((z109.length : Int) + (z111.length : Int))) then (if (wrap64 ((z109.length : Int) + (z111.length : Int)) : Int).toNat ≤ 35184372088832 then (nat_Mul.l0 kj8 z111 (List.replicate (wrap64 ((z109.length : Int) + (z111.length : Int)) : Int).toNat 0) z109 (z109.length : Int) 0) else (none)) else (none))) = some (r1, r2) := H
        have A15 := Aside0.mk A150
        clear A150
        by_cases c16 : (wrap64 (t113 - 1)) > (wrap64 (262144 - t114))
        ·rw [if_pos c16] at H
         have c16b0 : decide ((wrap64 (262144 - t114)) < (wrap64 (t113 - 1))) = true := decide_eq_true c16
         clear c16
         simp only [Option.some.injEq, Prod.mk.injEq] at H
         obtain ⟨rfl, rfl⟩ := H
         go_wp2_with (first | (go_at_call 43; (with_reducible refine (nat_Bits.calls kj8 _ _ z109 t113 _ ?side1 ?side2 A14.out).mono ?_); (case side1 => exact dC (Kd.C_below HR110.out HB.out)); (case side2 => exact HC110.out); rintro e w' ⟨rfl, ⟨nd, rfl⟩⟩; (try first | exact ⟨rfl, _, World.drewN_drewN _ _ _⟩ | exact ⟨rfl, _, Eq.trans (World.drewN_drewN _ _ _) (congrArg (World.drewN _) (Nat.add_assoc _ _ _))⟩)) | (go_at_call 43; (with_reducible refine (nat_Bits.calls kj8 _ _ z111 t114 _ ?side1 ?side2 A15.out).mono ?_); (case side1 => exact dC (Kd.C_below HR112.out dB)); (case side2 => exact HC112.out); rintro e w' ⟨rfl, ⟨nd, rfl⟩⟩; (try first | exact ⟨rfl, _, World.drewN_drewN _ _ _⟩ | exact ⟨rfl, _, Eq.trans (World.drewN_drewN _ _ _) (congrArg (World.drewN _) (Nat.add_assoc _ _ _))⟩)))
         repeat (go_quiet (first | (go_at_call 43; (with_reducible refine (nat_Bits.calls kj8 _ _ z109 t113 _ ?side1 ?side2 A14.out).mono ?_); (case side1 => exact dC (Kd.C_below HR110.out HB.out)); (case side2 => exact HC110.out); rintro e w' ⟨rfl, ⟨nd, rfl⟩⟩; (try first | exact ⟨rfl, _, World.drewN_drewN _ _ _⟩ | exact ⟨rfl, _, Eq.trans (World.drewN_drewN _ _ _) (congrArg (World.drewN _) (Nat.add_assoc _ _ _))⟩)) | (go_at_call 43; (with_reducible refine (nat_Bits.calls kj8 _ _ z111 t114 _ ?side1 ?side2 A15.out).mono ?_); (case side1 => exact dC (Kd.C_below HR112.out dB)); (case side2 => exact HC112.out); rintro e w' ⟨rfl, ⟨nd, rfl⟩⟩; (try first | exact ⟨rfl, _, World.drewN_drewN _ _ _⟩ | exact ⟨rfl, _, Eq.trans (World.drewN_drewN _ _ _) (congrArg (World.drewN _) (Nat.add_assoc _ _ _))⟩))); try go_wp2_with (first | (go_at_call 43; (with_reducible refine (nat_Bits.calls kj8 _ _ z109 t113 _ ?side1 ?side2 A14.out).mono ?_); (case side1 => exact dC (Kd.C_below HR110.out HB.out)); (case side2 => exact HC110.out); rintro e w' ⟨rfl, ⟨nd, rfl⟩⟩; (try first | exact ⟨rfl, _, World.drewN_drewN _ _ _⟩ | exact ⟨rfl, _, Eq.trans (World.drewN_drewN _ _ _) (congrArg (World.drewN _) (Nat.add_assoc _ _ _))⟩)) | (go_at_call 43; (with_reducible refine (nat_Bits.calls kj8 _ _ z111 t114 _ ?side1 ?side2 A15.out).mono ?_); (case side1 => exact dC (Kd.C_below HR112.out dB)); (case side2 => exact HC112.out); rintro e w' ⟨rfl, ⟨nd, rfl⟩⟩; (try first | exact ⟨rfl, _, World.drewN_drewN _ _ _⟩ | exact ⟨rfl, _, Eq.trans (World.drewN_drewN _ _ _) (congrArg (World.drewN _) (Nat.add_assoc _ _ _))⟩))))
         go_ret2
         exact ⟨_, dE, by first | exact Kd.R_nil _ _ _ _ _ | exact Kd.N_nil _ _ _ _ _ | exact Kd.V_nil _ _ _ _ _ | exact Kd.Q_nil _ _ _ _ _ | exact Kd.S_nil _ _ _ _ _, dB⟩
        ·rw [if_neg c16] at H
         have c16b0 : decide ((wrap64 (262144 - t114)) < (wrap64 (t113 - 1))) = false := decide_eq_false c16
         clear c16
         obtain ⟨ji17, hji17⟩ : ∃ j_ : Int, (wrap64 ((z109.length : Int) + (z111.length : Int))) = j_ := ⟨_, rfl⟩
         replace H : (if 0 ≤ (ji17) then (if (ji17 : Int).toNat ≤ 35184372088832 then (nat_Mul.l0 kj8 z111 (List.replicate (ji17 : Int).toNat 0) z109 (z109.length : Int) 0) else (none)) else (none)) = some (r1, r2) := by first | (rw [hji17] at H; exact H) | (simp only [hji17] at H ⊢; exact H)
         (try rw [hji17] at A14)
         (try rw [hji17] at A15)
         have hji17w : (IntKind.i64.wrap ((z109.length : Int) + (z111.length : Int))) = ji17 := (i64_w _).trans hji17
         by_cases c18 : (0 : Int) ≤ (ji17)
         ·rw [if_pos c18] at H
          have c18b0 := eq_true c18
          have c18b1 : decide (0 ≤ (ji17)) = true := decide_eq_true c18
          clear c18
          by_cases c19 : (ji17 : Int).toNat ≤ 35184372088832
          ·rw [if_pos c19] at H
           have c19b0 := eq_true c19
           have c19b1 : decide ((ji17 : Int).toNat ≤ 35184372088832) = true := decide_eq_true c19
           clear c19
           obtain ⟨y115, hy115⟩ : ∃ y_ : List Int, y_ = (List.replicate (ji17 : Int).toNat 0) := ⟨_, rfl⟩
           replace H : (nat_Mul.l0 kj8 z111 y115 z109 (z109.length : Int) 0) = some (r1, r2) := by first | (rw [hy115]; with_reducible exact H) | (have H2_ := (Option.bind_some _ _).symm.trans H; rw [hy115]; with_reducible exact H2_) | (have H2_ := (Option.bind_some _ _).symm.trans H; with_reducible exact H2_) | with_reducible exact H | (rw [hy115]; exact H) | exact H
           have Ny115 := Aside0.mk hy115
           clear hy115
           have H' := Aside0.mk H
           clear H
           go_wp2_with (first | (go_at_call 43; (with_reducible refine (nat_Bits.calls kj8 _ _ z109 t113 _ ?side1 ?side2 A14.out).mono ?_); (case side1 => exact dC (Kd.C_below HR110.out HB.out)); (case side2 => exact HC110.out); rintro e w' ⟨rfl, ⟨nd, rfl⟩⟩; (try first | exact ⟨rfl, _, World.drewN_drewN _ _ _⟩ | exact ⟨rfl, _, Eq.trans (World.drewN_drewN _ _ _) (congrArg (World.drewN _) (Nat.add_assoc _ _ _))⟩)) | (go_at_call 43; (with_reducible refine (nat_Bits.calls kj8 _ _ z111 t114 _ ?side1 ?side2 A15.out).mono ?_); (case side1 => exact dC (Kd.C_below HR112.out dB)); (case side2 => exact HC112.out); rintro e w' ⟨rfl, ⟨nd, rfl⟩⟩; (try first | exact ⟨rfl, _, World.drewN_drewN _ _ _⟩ | exact ⟨rfl, _, Eq.trans (World.drewN_drewN _ _ _) (congrArg (World.drewN _) (Nat.add_assoc _ _ _))⟩)) | ((with_reducible refine gate_dst (N := 43) rfl ?_); (try (refine gate_guard (by rfl) ?_; dsimp only)); refine Kd.R_make (Kd.int .u64) _ 26 rfl (N := 43) rfl 22 _ _ rfl ji17 rfl rfl Tryd.underlying22 (.int .u64 0) 8 info26 rfl (by decide) (by omega) 0 (ok := fun _ => True) (okp := fun _ => True) rfl (fun _ hk => hk) trivial (of_decide_eq_true dS) (Nat.le_trans (Nat.mul_le_mul_right _ (of_decide_eq_true dS : ji17.toNat ≤ 35184372088832)) (by omega)) (Below.refl _ _) (Nat.le_refl _) ?_; intro v116 w20 ho21 hb hg_ hnew_; clear hg_ hnew_; (first | rw [← Ny115.out] at ho21 | (simp only [Int.reduceToNat] at ho21; rw [← Ny115.out] at ho21)); have HO117 := Aside0.mk (Kd.R_lower ho21 (below_size dB)); replace HB := Aside0.mk (below_step dB hb); clear hb ho21))
           repeat (go_quiet (first | (go_at_call 43; (with_reducible refine (nat_Bits.calls kj8 _ _ z109 t113 _ ?side1 ?side2 A14.out).mono ?_); (case side1 => exact dC (Kd.C_below HR110.out HB.out)); (case side2 => exact HC110.out); rintro e w' ⟨rfl, ⟨nd, rfl⟩⟩; (try first | exact ⟨rfl, _, World.drewN_drewN _ _ _⟩ | exact ⟨rfl, _, Eq.trans (World.drewN_drewN _ _ _) (congrArg (World.drewN _) (Nat.add_assoc _ _ _))⟩)) | (go_at_call 43; (with_reducible refine (nat_Bits.calls kj8 _ _ z111 t114 _ ?side1 ?side2 A15.out).mono ?_); (case side1 => exact dC (Kd.C_below HR112.out dB)); (case side2 => exact HC112.out); rintro e w' ⟨rfl, ⟨nd, rfl⟩⟩; (try first | exact ⟨rfl, _, World.drewN_drewN _ _ _⟩ | exact ⟨rfl, _, Eq.trans (World.drewN_drewN _ _ _) (congrArg (World.drewN _) (Nat.add_assoc _ _ _))⟩)) | ((with_reducible refine gate_dst (N := 43) rfl ?_); (try (refine gate_guard (by rfl) ?_; dsimp only)); refine Kd.R_make (Kd.int .u64) _ 26 rfl (N := 43) rfl 22 _ _ rfl ji17 rfl rfl Tryd.underlying22 (.int .u64 0) 8 info26 rfl (by decide) (by omega) 0 (ok := fun _ => True) (okp := fun _ => True) rfl (fun _ hk => hk) trivial (of_decide_eq_true dS) (Nat.le_trans (Nat.mul_le_mul_right _ (of_decide_eq_true dS : ji17.toNat ≤ 35184372088832)) (by omega)) (Below.refl _ _) (Nat.le_refl _) ?_; intro v116 w20 ho21 hb hg_ hnew_; clear hg_ hnew_; (first | rw [← Ny115.out] at ho21 | (simp only [Int.reduceToNat] at ho21; rw [← Ny115.out] at ho21)); have HO117 := Aside0.mk (Kd.R_lower ho21 (below_size dB)); replace HB := Aside0.mk (below_step dB hb); clear hb ho21)); try go_wp2_with (first | (go_at_call 43; (with_reducible refine (nat_Bits.calls kj8 _ _ z109 t113 _ ?side1 ?side2 A14.out).mono ?_); (case side1 => exact dC (Kd.C_below HR110.out HB.out)); (case side2 => exact HC110.out); rintro e w' ⟨rfl, ⟨nd, rfl⟩⟩; (try first | exact ⟨rfl, _, World.drewN_drewN _ _ _⟩ | exact ⟨rfl, _, Eq.trans (World.drewN_drewN _ _ _) (congrArg (World.drewN _) (Nat.add_assoc _ _ _))⟩)) | (go_at_call 43; (with_reducible refine (nat_Bits.calls kj8 _ _ z111 t114 _ ?side1 ?side2 A15.out).mono ?_); (case side1 => exact dC (Kd.C_below HR112.out dB)); (case side2 => exact HC112.out); rintro e w' ⟨rfl, ⟨nd, rfl⟩⟩; (try first | exact ⟨rfl, _, World.drewN_drewN _ _ _⟩ | exact ⟨rfl, _, Eq.trans (World.drewN_drewN _ _ _) (congrArg (World.drewN _) (Nat.add_assoc _ _ _))⟩)) | ((with_reducible refine gate_dst (N := 43) rfl ?_); (try (refine gate_guard (by rfl) ?_; dsimp only)); refine Kd.R_make (Kd.int .u64) _ 26 rfl (N := 43) rfl 22 _ _ rfl ji17 rfl rfl Tryd.underlying22 (.int .u64 0) 8 info26 rfl (by decide) (by omega) 0 (ok := fun _ => True) (okp := fun _ => True) rfl (fun _ hk => hk) trivial (of_decide_eq_true dS) (Nat.le_trans (Nat.mul_le_mul_right _ (of_decide_eq_true dS : ji17.toNat ≤ 35184372088832)) (by omega)) (Below.refl _ _) (Nat.le_refl _) ?_; intro v116 w20 ho21 hb hg_ hnew_; clear hg_ hnew_; (first | rw [← Ny115.out] at ho21 | (simp only [Int.reduceToNat] at ho21; rw [← Ny115.out] at ho21)); have HO117 := Aside0.mk (Kd.R_lower ho21 (below_size dB)); replace HB := Aside0.mk (below_step dB hb); clear hb ho21)))
           go_loopg [46] kj8 (fun kq v46 w' => ∃ (x6_2 : List Int) (x46_2 : Int), v46 = .int .i64 x46_2 ∧ Aside0 (nat_Mul.l0 kq z111 x6_2 z109 (z109.length : Int) x46_2 = some (r1, r2)) ∧ Aside0 (kq ≤ kj8) ∧ Aside0 (Kd.R (Kd.int .u64) 26 w' w.heap.size (fun _ => True) v116 x6_2) ∧ Aside0 (Below w.heap.size w w'))
           case atStart => exact ⟨(y115), (0), dF, H', ⟨Nat.le_refl _⟩, ⟨dR HO117.out⟩, ⟨dB⟩⟩
           case round =>
            clear H'
            try clear c1
            try clear p2
            try clear c4
            try clear c4b0
            try clear c4b1
            try clear c5
            try clear c5b0
            try clear c5b1
            try clear p6
            try clear c7
            try clear c7b0
            try clear c7b1
            try clear c8
            try clear c8b0
            try clear c8b1
            try clear c12
            try clear c12b0
            try clear c12b1
            try clear c12b2
            try clear c13
            try clear c16
            try clear c16b0
            try clear c18
            try clear c18b0
            try clear c18b1
            try clear c19
            try clear c19b0
            try clear c19b1
            try clear p2
            obtain ⟨x6_2, x46_2, rfl, HA, HK2, HO_6, HB⟩ := hrel
            cases gk with
            | zero => exact absurd HA.out (by simp [nat_Mul.l0])
            | succ k2 =>
             have H := HA.out
             clear HA
             simp only [nat_Mul.l0] at H
             by_cases c22 : x46_2 < (z109.length : Int)
             ·rw [if_pos c22] at H
              have c22b0 : decide (x46_2 < (z109.length : Int)) = true := decide_eq_true c22
              clear c22
              by_cases c23 : (0 : Int) ≤ x46_2
              ·rw [if_pos c23] at H
               have c23b0 : decide (0 ≤ x46_2) = true := decide_eq_true c23
               clear c23
               by_cases c24 : x46_2 < (z109.length : Int)
               ·rw [if_pos c24] at H
                have c24b0 : decide (x46_2 < (z109.length : Int)) = true := decide_eq_true c24
                clear c24
                have H' := Aside0.mk H
                clear H
                have p122 : 0 ≤ (x46_2 : Int) := of_decide_eq_true dS
                have q122 : x46_2 < (z109.length : Int) := of_decide_eq_true dS
                obtain ⟨ad122, e122, hx122_0⟩ := Kd.at_int HR110.out x46_2 p122 q122
                cases e122
                replace hx122_0 := (HB.out.cell (World.block_lt_of_cell? w _ hx122_0)).trans hx122_0
                replace p122 := eq_true p122
                replace q122 := eq_true q122
                go_wp2
                repeat (go_quiet (fail); try go_wp2)
                go_loopg [9, 53] k2 (fun kq v9 v53 w' => ∃ (x6_3 : List Int) (x9_3 : Int) (x53_3 : Int), v9 = .int .u64 x9_3 ∧ v53 = .int .i64 x53_3 ∧ Aside0 (nat_Mul.l1 kq z111 x6_3 x46_2 (rd z109 x46_2) x9_3 z109 (z109.length : Int) x46_2 z111 (z111.length : Int) x53_3 = some (r1, r2)) ∧ Aside0 (kq ≤ k2) ∧ Aside0 (Kd.R (Kd.int .u64) 26 w' w.heap.size (fun _ => True) v116 x6_3) ∧ Aside0 (Below w.heap.size w w'))
                case atStart => exact ⟨(x6_2), (0), (0), dF, dF, H', ⟨Nat.le_refl _⟩, ⟨dR HO_6.out⟩, ⟨dB⟩⟩
                case round =>
                 clear H'
                 try clear c1
                 try clear p1
                 try clear q1
                 try clear hx1
                 try clear c2
                 try clear p2
                 try clear c4
                 try clear c4b0
                 try clear c4b1
                 try clear c5
                 try clear c5b0
                 try clear c5b1
                 try clear p6
                 try clear c7
                 try clear c7b0
                 try clear c7b1
                 try clear c8
                 try clear c8b0
                 try clear c8b1
                 try clear c12
                 try clear c12b0
                 try clear c12b1
                 try clear c12b2
                 try clear p12
                 try clear q12
                 try clear hx12
                 try clear c13
                 try clear c16
                 try clear c16b0
                 try clear c18
                 try clear c18b0
                 try clear c18b1
                 try clear c19
                 try clear c19b0
                 try clear c19b1
                 try clear c22
                 try clear c22b0
                 try clear c23
                 try clear c23b0
                 try clear c24
                 try clear c24b0
                 try clear hx122_0
                 try clear p122
                 try clear p2
                 try clear p6
                 try clear q122
                 obtain ⟨x6_3, x9_3, x53_3, rfl, rfl, HA, HK3, HO_6, HB⟩ := hrel
                 cases gk with
                 | zero => exact absurd HA.out (by simp [nat_Mul.l1])
                 | succ k3 =>
                  have H := HA.out
                  clear HA
                  simp only [nat_Mul.l1] at H
                  by_cases c25 : x53_3 < (z111.length : Int)
                  ·rw [if_pos c25] at H
                   have c25b0 : decide (x53_3 < (z111.length : Int)) = true := decide_eq_true c25
                   clear c25
                   by_cases c26 : (0 : Int) ≤ x53_3
                   ·rw [if_pos c26] at H
                    have c26b0 : decide (0 ≤ x53_3) = true := decide_eq_true c26
                    clear c26
                    by_cases c27 : x53_3 < (z111.length : Int)
                    ·rw [if_pos c27] at H
                     have c27b0 : decide (x53_3 < (z111.length : Int)) = true := decide_eq_true c27
                     clear c27
                     replace H := obe H
                     obtain ⟨⟨t124, t125⟩, A280, H⟩ := H
                     replace H : (if 0 ≤ (wrap64 (x46_2 + x53_3)) then (if (wrap64 (x46_2 + x53_3)) < (x6_3.length : Int) then ((wide_Add.f t125 (rd x6_3 (wrap64 (x46_2 + x53_3))) 0).bind fun bt127 => ((wide_Add.f bt127.1 x9_3 0).bind fun bt129 => (nat_Mul.l1 k3 z111 (x6_3.set ((wrap64 (x46_2 + x53_3)) : Int).toNat bt129.1) x46_2 (rd z109 x46_2) (IntKind.u64.wrap ((IntKind.u64.wrap (t124 + bt127.2)) + bt129.2)) z109 (z109.length : Int) x46_2 z111 (z111.length : Int) (wrap64 (x53_3 + 1))))) else (none)) else (none)) = some (r1, r2) := H
                     have A28 := Aside0.mk A280
                     clear A280
                     obtain ⟨ji29, hji29⟩ : ∃ j_ : Int, (wrap64 (x46_2 + x53_3)) = j_ := ⟨_, rfl⟩
                     replace H : (if 0 ≤ (ji29) then (if (ji29) < (x6_3.length : Int) then ((wide_Add.f t125 (rd x6_3 (ji29)) 0).bind fun bt127 => ((wide_Add.f bt127.1 x9_3 0).bind fun bt129 => (nat_Mul.l1 k3 z111 (x6_3.set ((ji29) : Int).toNat bt129.1) x46_2 (rd z109 x46_2) (IntKind.u64.wrap ((IntKind.u64.wrap (t124 + bt127.2)) + bt129.2)) z109 (z109.length : Int) x46_2 z111 (z111.length : Int) (wrap64 (x53_3 + 1))))) else (none)) else (none)) = some (r1, r2) := by first | (rw [hji29] at H; exact H) | (simp only [hji29] at H ⊢; exact H)
                     (try rw [hji29] at A28)
                     have hji29w : (IntKind.i64.wrap (x46_2 + x53_3)) = ji29 := (i64_w _).trans hji29
                     by_cases c30 : (0 : Int) ≤ (ji29)
                     ·rw [if_pos c30] at H
                      have c30b0 : decide (0 ≤ (ji29)) = true := decide_eq_true c30
                      clear c30
                      by_cases c31 : (ji29) < (x6_3.length : Int)
                      ·rw [if_pos c31] at H
                       have c31b0 : decide ((ji29) < (x6_3.length : Int)) = true := decide_eq_true c31
                       clear c31
                       replace H := obe H
                       obtain ⟨⟨t127, t128⟩, A320, H⟩ := H
                       replace H : ((wide_Add.f t127 x9_3 0).bind fun bt129 => (nat_Mul.l1 k3 z111 (x6_3.set ((ji29) : Int).toNat bt129.1) x46_2 (rd z109 x46_2) (IntKind.u64.wrap ((IntKind.u64.wrap (t124 + t128)) + bt129.2)) z109 (z109.length : Int) x46_2 z111 (z111.length : Int) (wrap64 (x53_3 + 1)))) = some (r1, r2) := H
                       have A32 := Aside0.mk A320
                       clear A320
                       replace H := obe H
                       obtain ⟨⟨t129, t130⟩, A330, H⟩ := H
                       replace H : (nat_Mul.l1 k3 z111 (x6_3.set ((ji29) : Int).toNat t129) x46_2 (rd z109 x46_2) (IntKind.u64.wrap ((IntKind.u64.wrap (t124 + t128)) + t130)) z109 (z109.length : Int) x46_2 z111 (z111.length : Int) (wrap64 (x53_3 + 1))) = some (r1, r2) := H
                       have A33 := Aside0.mk A330
                       clear A330
                       obtain ⟨y131, hy131⟩ : ∃ y_ : List Int, y_ = (x6_3.set ((ji29) : Int).toNat t129) := ⟨_, rfl⟩
                       replace H : (nat_Mul.l1 k3 z111 y131 x46_2 (rd z109 x46_2) (IntKind.u64.wrap ((IntKind.u64.wrap (t124 + t128)) + t130)) z109 (z109.length : Int) x46_2 z111 (z111.length : Int) (wrap64 (x53_3 + 1))) = some (r1, r2) := by first | (rw [hy131]; with_reducible exact H) | (have H2_ := (Option.bind_some _ _).symm.trans H; rw [hy131]; with_reducible exact H2_) | (have H2_ := (Option.bind_some _ _).symm.trans H; with_reducible exact H2_) | with_reducible exact H | (rw [hy131]; exact H) | exact H
                       have Ny131 := Aside0.mk hy131
                       clear hy131
                       have H' := Aside0.mk H
                       clear H
                       have p123 : 0 ≤ (x53_3 : Int) := of_decide_eq_true dS
                       have q123 : x53_3 < (z111.length : Int) := of_decide_eq_true dS
                       obtain ⟨ad123, e123, hx123_0⟩ := Kd.at_int HR112.out x53_3 p123 q123
                       cases e123
                       replace hx123_0 := (HB.out.cell (World.block_lt_of_cell? w _ hx123_0)).trans hx123_0
                       replace p123 := eq_true p123
                       replace q123 := eq_true q123
                       go_wp2_with (first | (go_at_call 60; (with_reducible refine (wide_Mul.calls (rd z109 x46_2) (rd z111 x53_3) t124 t125 _ A28.out).mono ?_); rintro e w35 ⟨rfl, hb⟩; replace HO_6 := Aside0.mk (Kd.R_below (dR HO_6.out) hb); replace HB := Aside0.mk (below_step dB hb); (try clear hb); obtain ⟨Ao36, co36, eo36⟩ := Kd.R_slice HO_6.out; subst eo36; have p126 : 0 ≤ ((ji29) : Int) := of_decide_eq_true dS; have q126 : (ji29) < (x6_3.length : Int) := of_decide_eq_true dS; obtain ⟨ad126, e126, hx126_0⟩ := Kd.at_int (Kd.R_reads' HO_6.out).2.2 (ji29) p126 q126; cases e126; replace p126 := eq_true p126; replace q126 := eq_true q126) | (go_at_call 61; (with_reducible refine (wide_Add.calls t125 (rd x6_3 (ji29)) 0 t127 t128 _ A32.out).mono ?_); rintro e w' ⟨rfl, ⟨nd, rfl⟩⟩; (try first | exact ⟨rfl, _, World.drewN_drewN _ _ _⟩ | exact ⟨rfl, _, Eq.trans (World.drewN_drewN _ _ _) (congrArg (World.drewN _) (Nat.add_assoc _ _ _))⟩)) | (go_at_call 61; (with_reducible refine (wide_Add.calls t127 x9_3 0 t129 t130 _ A33.out).mono ?_); rintro e w' ⟨rfl, ⟨nd, rfl⟩⟩; (try first | exact ⟨rfl, _, World.drewN_drewN _ _ _⟩ | exact ⟨rfl, _, Eq.trans (World.drewN_drewN _ _ _) (congrArg (World.drewN _) (Nat.add_assoc _ _ _))⟩); have p34 : 0 ≤ ((ji29) : Int) := of_decide_eq_true dS; have q34 : ((ji29) : Int) < ((x6_3.length : Int) : Int) := of_decide_eq_true dS; obtain ⟨go34, co34, eo34, gb34, gl34, cl34, HG34⟩ := Kd.R_form HO_6.out (by omega); (first | cases eo34 | (injection eo34 with ea_ en_ ec_; (first | subst ea_ | (injection ea_ with ea_; subst ea_)); subst ec_; clear en_)); have GB34 := Aside0.mk gb34; have GG34 := Aside0.mk HG34; clear gb34 gl34 HG34; (first | simp only [add_plain] at hx126_0 | skip); obtain ⟨hx34_0, hf34_0⟩ := Kd.R_celln 0 HO_6.out ((ji29) : Int) p34 q34; replace p34 := eq_true p34; replace q34 := eq_true q34; obtain ⟨hy37_, hz37_⟩ := Kd.R_celln 0 HO_6.out ((ji29) : Int) (of_decide_eq_true dS) (of_decide_eq_true dS); have HP37 := Kd.R_putg HO_6.out ((ji29) : Int) t129) | ((with_reducible refine gate_store (t := 26) (p := 88) rfl ?_); (try (rw [drewN_self w35]; generalize hq_ : World.drewN w35 _ = w35; replace HO_6 := Aside0.mk (Kd.R_at hq_ HO_6.out); replace HB := Aside0.mk (below_at hq_ HB.out); clear hq_; (try (obtain ⟨hy37_, hz37_⟩ := Kd.R_celln 0 HO_6.out ((ji29) : Int) (of_decide_eq_true dS) (of_decide_eq_true dS))); (try (have HP37 := Kd.R_putg HO_6.out ((ji29) : Int) t129)))); refine store_event (t := 26) (p := 88) (v := ?vo_w38) (w1 := (w35.setCell ⟨go34, ((ji29) : Int).toNat, none⟩ (.int .u64 t129))) ?hg ?ho ?hn ?hr ?_; (case ho => rfl); (case hg => rfl); (case hn => rfl); (case hr => first | (go_simp; done) | (go_simp; rfl)); intro w38 hw; have hg : w35.grownBy w38 (some go34) := (by rw [hw]; exact HP37.2); have hp_ : Kd.R (Kd.int .u64) 26 w38 w.heap.size (fun _ => True) (.slice (some ⟨go34, 0, none⟩) x6_3.length co36) y131 := (by rw [hw, Ny131.out]; exact HP37.1); clear HP37; replace HO_6 := Aside0.mk (hp_); replace HB := Aside0.mk ((by rw [hw]; exact below_set (HB.out) GB34.out : Below w.heap.size w w38)); clear hg hw hp_))
                       repeat (go_quiet (first | (go_at_call 60; (with_reducible refine (wide_Mul.calls (rd z109 x46_2) (rd z111 x53_3) t124 t125 _ A28.out).mono ?_); rintro e w35 ⟨rfl, hb⟩; replace HO_6 := Aside0.mk (Kd.R_below (dR HO_6.out) hb); replace HB := Aside0.mk (below_step dB hb); (try clear hb); obtain ⟨Ao36, co36, eo36⟩ := Kd.R_slice HO_6.out; subst eo36; have p126 : 0 ≤ ((ji29) : Int) := of_decide_eq_true dS; have q126 : (ji29) < (x6_3.length : Int) := of_decide_eq_true dS; obtain ⟨ad126, e126, hx126_0⟩ := Kd.at_int (Kd.R_reads' HO_6.out).2.2 (ji29) p126 q126; cases e126; replace p126 := eq_true p126; replace q126 := eq_true q126) | (go_at_call 61; (with_reducible refine (wide_Add.calls t125 (rd x6_3 (ji29)) 0 t127 t128 _ A32.out).mono ?_); rintro e w' ⟨rfl, ⟨nd, rfl⟩⟩; (try first | exact ⟨rfl, _, World.drewN_drewN _ _ _⟩ | exact ⟨rfl, _, Eq.trans (World.drewN_drewN _ _ _) (congrArg (World.drewN _) (Nat.add_assoc _ _ _))⟩)) | (go_at_call 61; (with_reducible refine (wide_Add.calls t127 x9_3 0 t129 t130 _ A33.out).mono ?_); rintro e w' ⟨rfl, ⟨nd, rfl⟩⟩; (try first | exact ⟨rfl, _, World.drewN_drewN _ _ _⟩ | exact ⟨rfl, _, Eq.trans (World.drewN_drewN _ _ _) (congrArg (World.drewN _) (Nat.add_assoc _ _ _))⟩); have p34 : 0 ≤ ((ji29) : Int) := of_decide_eq_true dS; have q34 : ((ji29) : Int) < ((x6_3.length : Int) : Int) := of_decide_eq_true dS; obtain ⟨go34, co34, eo34, gb34, gl34, cl34, HG34⟩ := Kd.R_form HO_6.out (by omega); (first | cases eo34 | (injection eo34 with ea_ en_ ec_; (first | subst ea_ | (injection ea_ with ea_; subst ea_)); subst ec_; clear en_)); have GB34 := Aside0.mk gb34; have GG34 := Aside0.mk HG34; clear gb34 gl34 HG34; (first | simp only [add_plain] at hx126_0 | skip); obtain ⟨hx34_0, hf34_0⟩ := Kd.R_celln 0 HO_6.out ((ji29) : Int) p34 q34; replace p34 := eq_true p34; replace q34 := eq_true q34; obtain ⟨hy37_, hz37_⟩ := Kd.R_celln 0 HO_6.out ((ji29) : Int) (of_decide_eq_true dS) (of_decide_eq_true dS); have HP37 := Kd.R_putg HO_6.out ((ji29) : Int) t129) | ((with_reducible refine gate_store (t := 26) (p := 88) rfl ?_); (try (rw [drewN_self w35]; generalize hq_ : World.drewN w35 _ = w35; replace HO_6 := Aside0.mk (Kd.R_at hq_ HO_6.out); replace HB := Aside0.mk (below_at hq_ HB.out); clear hq_; (try (obtain ⟨hy37_, hz37_⟩ := Kd.R_celln 0 HO_6.out ((ji29) : Int) (of_decide_eq_true dS) (of_decide_eq_true dS))); (try (have HP37 := Kd.R_putg HO_6.out ((ji29) : Int) t129)))); refine store_event (t := 26) (p := 88) (v := ?vo_w38) (w1 := (w35.setCell ⟨go34, ((ji29) : Int).toNat, none⟩ (.int .u64 t129))) ?hg ?ho ?hn ?hr ?_; (case ho => rfl); (case hg => rfl); (case hn => rfl); (case hr => first | (go_simp; done) | (go_simp; rfl)); intro w38 hw; have hg : w35.grownBy w38 (some go34) := (by rw [hw]; exact HP37.2); have hp_ : Kd.R (Kd.int .u64) 26 w38 w.heap.size (fun _ => True) (.slice (some ⟨go34, 0, none⟩) x6_3.length co36) y131 := (by rw [hw, Ny131.out]; exact HP37.1); clear HP37; replace HO_6 := Aside0.mk (hp_); replace HB := Aside0.mk ((by rw [hw]; exact below_set (HB.out) GB34.out : Below w.heap.size w w38)); clear hg hw hp_)); try go_wp2_with (first | (go_at_call 60; (with_reducible refine (wide_Mul.calls (rd z109 x46_2) (rd z111 x53_3) t124 t125 _ A28.out).mono ?_); rintro e w35 ⟨rfl, hb⟩; replace HO_6 := Aside0.mk (Kd.R_below (dR HO_6.out) hb); replace HB := Aside0.mk (below_step dB hb); (try clear hb); obtain ⟨Ao36, co36, eo36⟩ := Kd.R_slice HO_6.out; subst eo36; have p126 : 0 ≤ ((ji29) : Int) := of_decide_eq_true dS; have q126 : (ji29) < (x6_3.length : Int) := of_decide_eq_true dS; obtain ⟨ad126, e126, hx126_0⟩ := Kd.at_int (Kd.R_reads' HO_6.out).2.2 (ji29) p126 q126; cases e126; replace p126 := eq_true p126; replace q126 := eq_true q126) | (go_at_call 61; (with_reducible refine (wide_Add.calls t125 (rd x6_3 (ji29)) 0 t127 t128 _ A32.out).mono ?_); rintro e w' ⟨rfl, ⟨nd, rfl⟩⟩; (try first | exact ⟨rfl, _, World.drewN_drewN _ _ _⟩ | exact ⟨rfl, _, Eq.trans (World.drewN_drewN _ _ _) (congrArg (World.drewN _) (Nat.add_assoc _ _ _))⟩)) | (go_at_call 61; (with_reducible refine (wide_Add.calls t127 x9_3 0 t129 t130 _ A33.out).mono ?_); rintro e w' ⟨rfl, ⟨nd, rfl⟩⟩; (try first | exact ⟨rfl, _, World.drewN_drewN _ _ _⟩ | exact ⟨rfl, _, Eq.trans (World.drewN_drewN _ _ _) (congrArg (World.drewN _) (Nat.add_assoc _ _ _))⟩); have p34 : 0 ≤ ((ji29) : Int) := of_decide_eq_true dS; have q34 : ((ji29) : Int) < ((x6_3.length : Int) : Int) := of_decide_eq_true dS; obtain ⟨go34, co34, eo34, gb34, gl34, cl34, HG34⟩ := Kd.R_form HO_6.out (by omega); (first | cases eo34 | (injection eo34 with ea_ en_ ec_; (first | subst ea_ | (injection ea_ with ea_; subst ea_)); subst ec_; clear en_)); have GB34 := Aside0.mk gb34; have GG34 := Aside0.mk HG34; clear gb34 gl34 HG34; (first | simp only [add_plain] at hx126_0 | skip); obtain ⟨hx34_0, hf34_0⟩ := Kd.R_celln 0 HO_6.out ((ji29) : Int) p34 q34; replace p34 := eq_true p34; replace q34 := eq_true q34; obtain ⟨hy37_, hz37_⟩ := Kd.R_celln 0 HO_6.out ((ji29) : Int) (of_decide_eq_true dS) (of_decide_eq_true dS); have HP37 := Kd.R_putg HO_6.out ((ji29) : Int) t129) | ((with_reducible refine gate_store (t := 26) (p := 88) rfl ?_); (try (rw [drewN_self w35]; generalize hq_ : World.drewN w35 _ = w35; replace HO_6 := Aside0.mk (Kd.R_at hq_ HO_6.out); replace HB := Aside0.mk (below_at hq_ HB.out); clear hq_; (try (obtain ⟨hy37_, hz37_⟩ := Kd.R_celln 0 HO_6.out ((ji29) : Int) (of_decide_eq_true dS) (of_decide_eq_true dS))); (try (have HP37 := Kd.R_putg HO_6.out ((ji29) : Int) t129)))); refine store_event (t := 26) (p := 88) (v := ?vo_w38) (w1 := (w35.setCell ⟨go34, ((ji29) : Int).toNat, none⟩ (.int .u64 t129))) ?hg ?ho ?hn ?hr ?_; (case ho => rfl); (case hg => rfl); (case hn => rfl); (case hr => first | (go_simp; done) | (go_simp; rfl)); intro w38 hw; have hg : w35.grownBy w38 (some go34) := (by rw [hw]; exact HP37.2); have hp_ : Kd.R (Kd.int .u64) 26 w38 w.heap.size (fun _ => True) (.slice (some ⟨go34, 0, none⟩) x6_3.length co36) y131 := (by rw [hw, Ny131.out]; exact HP37.1); clear HP37; replace HO_6 := Aside0.mk (hp_); replace HB := Aside0.mk ((by rw [hw]; exact below_set (HB.out) GB34.out : Below w.heap.size w w38)); clear hg hw hp_)))
                       go_roundg k3
                       case measure => have := HJ8.out; have := HK2.out; have := HK3.out; omega
                       case rel => exact ⟨(y131), (IntKind.u64.wrap ((IntKind.u64.wrap (t124 + t128)) + t130)), (wrap64 (x53_3 + 1)), dF, dF, H', ⟨by have := HJ8.out; have := HK2.out; have := HK3.out; omega⟩, ⟨dR HO_6.out⟩, ⟨dB⟩⟩
                      ·rw [if_neg c31] at H
                       exact absurd H (by simp)
                     ·rw [if_neg c30] at H
                      exact absurd H (by simp)
                    ·rw [if_neg c27] at H
                     exact absurd H (by simp)
                   ·rw [if_neg c26] at H
                    exact absurd H (by simp)
                  ·rw [if_neg c25] at H
                   have c25b0 : decide (x53_3 < (z111.length : Int)) = false := decide_eq_false c25
                   clear c25
                   obtain ⟨ji39, hji39⟩ : ∃ j_ : Int, (wrap64 (x46_2 + (z111.length : Int))) = j_ := ⟨_, rfl⟩
                   replace H : (if 0 ≤ (ji39) then (if (ji39) < (x6_3.length : Int) then (nat_Mul.l0 k3 z111 (x6_3.set ((ji39) : Int).toNat x9_3) z109 (z109.length : Int) (wrap64 (x46_2 + 1))) else (none)) else (none)) = some (r1, r2) := by first | (rw [hji39] at H; exact H) | (simp only [hji39] at H ⊢; exact H)
                   have hji39w : (IntKind.i64.wrap (x46_2 + (z111.length : Int))) = ji39 := (i64_w _).trans hji39
                   by_cases c40 : (0 : Int) ≤ (ji39)
                   ·rw [if_pos c40] at H
                    have c40b0 : decide (0 ≤ (ji39)) = true := decide_eq_true c40
                    clear c40
                    by_cases c41 : (ji39) < (x6_3.length : Int)
                    ·rw [if_pos c41] at H
                     have c41b0 : decide ((ji39) < (x6_3.length : Int)) = true := decide_eq_true c41
                     clear c41
                     obtain ⟨y132, hy132⟩ : ∃ y_ : List Int, y_ = (x6_3.set ((ji39) : Int).toNat x9_3) := ⟨_, rfl⟩
                     replace H : (nat_Mul.l0 k3 z111 y132 z109 (z109.length : Int) (wrap64 (x46_2 + 1))) = some (r1, r2) := by first | (rw [hy132]; with_reducible exact H) | (have H2_ := (Option.bind_some _ _).symm.trans H; rw [hy132]; with_reducible exact H2_) | (have H2_ := (Option.bind_some _ _).symm.trans H; with_reducible exact H2_) | with_reducible exact H | (rw [hy132]; exact H) | exact H
                     have Ny132 := Aside0.mk hy132
                     clear hy132
                     have H' := Aside0.mk H
                     clear H
                     have p42 : 0 ≤ ((ji39) : Int) := of_decide_eq_true dS
                     have q42 : ((ji39) : Int) < ((x6_3.length : Int) : Int) := of_decide_eq_true dS
                     obtain ⟨go42, co42, eo42, gb42, gl42, cl42, HG42⟩ := Kd.R_form HO_6.out (by omega)
                     (first | cases eo42 | (injection eo42 with ea_ en_ ec_; (first | subst ea_ | (injection ea_ with ea_; subst ea_)); subst ec_; clear en_))
                     have GB42 := Aside0.mk gb42
                     have GG42 := Aside0.mk HG42
                     clear gb42 gl42 HG42
                     obtain ⟨hx42_0, hf42_0⟩ := Kd.R_celln 0 HO_6.out ((ji39) : Int) p42 q42
                     replace p42 := eq_true p42
                     replace q42 := eq_true q42
                     have HP43 := Kd.R_putg HO_6.out ((ji39) : Int) x9_3
                     go_wp2_with (first | ((with_reducible refine gate_store (t := 26) (p := 99) rfl ?_); (try (rw [drewN_self wr]; generalize hq_ : World.drewN wr _ = wr; replace HO_6 := Aside0.mk (Kd.R_at hq_ HO_6.out); replace HB := Aside0.mk (below_at hq_ HB.out); clear hq_; (try (have HP43 := Kd.R_putg HO_6.out ((ji39) : Int) x9_3)))); refine store_event (t := 26) (p := 99) (v := ?vo_w44) (w1 := (wr.setCell ⟨go42, ((ji39) : Int).toNat, none⟩ (.int .u64 x9_3))) ?hg ?ho ?hn ?hr ?_; (case ho => rfl); (case hg => rfl); (case hn => rfl); (case hr => first | (go_simp; done) | (go_simp; rfl)); intro w44 hw; have hg : wr.grownBy w44 (some go42) := (by rw [hw]; exact HP43.2); have hp_ : Kd.R (Kd.int .u64) 26 w44 w.heap.size (fun _ => True) (.slice (some ⟨go42, 0, none⟩) x6_3.length co42) y132 := (by rw [hw, Ny132.out]; exact HP43.1); clear HP43; replace HO_6 := Aside0.mk (hp_); replace HB := Aside0.mk ((by rw [hw]; exact below_set (HB.out) GB42.out : Below w.heap.size w w44)); clear hg hw hp_))
                     repeat (go_quiet (first | ((with_reducible refine gate_store (t := 26) (p := 99) rfl ?_); (try (rw [drewN_self wr]; generalize hq_ : World.drewN wr _ = wr; replace HO_6 := Aside0.mk (Kd.R_at hq_ HO_6.out); replace HB := Aside0.mk (below_at hq_ HB.out); clear hq_; (try (have HP43 := Kd.R_putg HO_6.out ((ji39) : Int) x9_3)))); refine store_event (t := 26) (p := 99) (v := ?vo_w44) (w1 := (wr.setCell ⟨go42, ((ji39) : Int).toNat, none⟩ (.int .u64 x9_3))) ?hg ?ho ?hn ?hr ?_; (case ho => rfl); (case hg => rfl); (case hn => rfl); (case hr => first | (go_simp; done) | (go_simp; rfl)); intro w44 hw; have hg : wr.grownBy w44 (some go42) := (by rw [hw]; exact HP43.2); have hp_ : Kd.R (Kd.int .u64) 26 w44 w.heap.size (fun _ => True) (.slice (some ⟨go42, 0, none⟩) x6_3.length co42) y132 := (by rw [hw, Ny132.out]; exact HP43.1); clear HP43; replace HO_6 := Aside0.mk (hp_); replace HB := Aside0.mk ((by rw [hw]; exact below_set (HB.out) GB42.out : Below w.heap.size w w44)); clear hg hw hp_)); try go_wp2_with (first | ((with_reducible refine gate_store (t := 26) (p := 99) rfl ?_); (try (rw [drewN_self wr]; generalize hq_ : World.drewN wr _ = wr; replace HO_6 := Aside0.mk (Kd.R_at hq_ HO_6.out); replace HB := Aside0.mk (below_at hq_ HB.out); clear hq_; (try (have HP43 := Kd.R_putg HO_6.out ((ji39) : Int) x9_3)))); refine store_event (t := 26) (p := 99) (v := ?vo_w44) (w1 := (wr.setCell ⟨go42, ((ji39) : Int).toNat, none⟩ (.int .u64 x9_3))) ?hg ?ho ?hn ?hr ?_; (case ho => rfl); (case hg => rfl); (case hn => rfl); (case hr => first | (go_simp; done) | (go_simp; rfl)); intro w44 hw; have hg : wr.grownBy w44 (some go42) := (by rw [hw]; exact HP43.2); have hp_ : Kd.R (Kd.int .u64) 26 w44 w.heap.size (fun _ => True) (.slice (some ⟨go42, 0, none⟩) x6_3.length co42) y132 := (by rw [hw, Ny132.out]; exact HP43.1); clear HP43; replace HO_6 := Aside0.mk (hp_); replace HB := Aside0.mk ((by rw [hw]; exact below_set (HB.out) GB42.out : Below w.heap.size w w44)); clear hg hw hp_)))
                     go_roundg k3
                     case measure => have := HJ8.out; have := HK2.out; have := HK3.out; omega
                     case rel => exact ⟨(y132), (wrap64 (x46_2 + 1)), dF, H', ⟨by have := HJ8.out; have := HK2.out; have := HK3.out; omega⟩, ⟨dR HO_6.out⟩, ⟨dB⟩⟩
                    ·rw [if_neg c41] at H
                     exact absurd H (by simp)
                   ·rw [if_neg c40] at H
                    exact absurd H (by simp)
               ·rw [if_neg c24] at H
                exact absurd H (by simp)
              ·rw [if_neg c23] at H
               exact absurd H (by simp)
             ·rw [if_neg c22] at H
              have c22b0 : decide (x46_2 < (z109.length : Int)) = false := decide_eq_false c22
              clear c22
              replace H := obe H
              obtain ⟨⟨t118, t121⟩, A450, H⟩ := H
              replace H : (some (t118, t121)) = some (r1, r2) := H
              have A45 := Aside0.mk A450
              clear A450
              simp only [Option.some.injEq, Prod.mk.injEq] at H
              obtain ⟨rfl, rfl⟩ := H
              obtain ⟨Ao46, co46, eo46⟩ := Kd.R_slice HO_6.out
              subst eo46
              go_wp2_with (first | (go_at_call 56; (with_reducible refine (nat_bound.calls k2 (fun k_ => some k_ = (.slice Ao46 x6_2.length co46 : Value).ownBlock) (.slice Ao46 x6_2.length co46) x6_2 t118 t121 w _ ?side1 ?side2 A45.out).mono ?_); (case side1 => repeat (first | (with_reducible first | exact HB.out | apply below_alloc | apply pw_below_drewN | apply below_drew1) | exact HB.out)); (case side2 => exact Kd.R_tight rfl HO_6.out); rintro e w47 ⟨v119, rfl, ho0, hb, hkp⟩; have HO120 := Aside0.mk (Kd.R_mono (ok' := fun k_ => True) ho0 (fun k_ hk_ => trivial)); replace HB := Aside0.mk (hb); clear HO_6; (try clear hb); (try clear hkp); (try clear ho0)))
              repeat (go_quiet (first | (go_at_call 56; (with_reducible refine (nat_bound.calls k2 (fun k_ => some k_ = (.slice Ao46 x6_2.length co46 : Value).ownBlock) (.slice Ao46 x6_2.length co46) x6_2 t118 t121 w _ ?side1 ?side2 A45.out).mono ?_); (case side1 => repeat (first | (with_reducible first | exact HB.out | apply below_alloc | apply pw_below_drewN | apply below_drew1) | exact HB.out)); (case side2 => exact Kd.R_tight rfl HO_6.out); rintro e w47 ⟨v119, rfl, ho0, hb, hkp⟩; have HO120 := Aside0.mk (Kd.R_mono (ok' := fun k_ => True) ho0 (fun k_ hk_ => trivial)); replace HB := Aside0.mk (hb); clear HO_6; (try clear hb); (try clear hkp); (try clear ho0))); try go_wp2_with (first | (go_at_call 56; (with_reducible refine (nat_bound.calls k2 (fun k_ => some k_ = (.slice Ao46 x6_2.length co46 : Value).ownBlock) (.slice Ao46 x6_2.length co46) x6_2 t118 t121 w _ ?side1 ?side2 A45.out).mono ?_); (case side1 => repeat (first | (with_reducible first | exact HB.out | apply below_alloc | apply pw_below_drewN | apply below_drew1) | exact HB.out)); (case side2 => exact Kd.R_tight rfl HO_6.out); rintro e w47 ⟨v119, rfl, ho0, hb, hkp⟩; have HO120 := Aside0.mk (Kd.R_mono (ok' := fun k_ => True) ho0 (fun k_ hk_ => trivial)); replace HB := Aside0.mk (hb); clear HO_6; (try clear hb); (try clear hkp); (try clear ho0))))
              go_ret2
              exact ⟨_, by first | rfl | (simp [errW_none, errW_some] <;> rfl) | (simp only [← hji17]; first | rfl | (simp [errW_none, errW_some] <;> rfl)) | (simp [*, errW_none, errW_some] <;> rfl), dR HO120.out, dB⟩
          ·rw [if_neg c19] at H
           exact absurd H (by simp)
         ·rw [if_neg c18] at H
          exact absurd H (by simp)
    ·rw [if_neg c8] at H
     exact absurd H (by simp)
   ·rw [if_neg c7] at H
    exact absurd H (by simp)
  ·rw [if_neg c5] at H
   exact absurd H (by simp)
 ·rw [if_neg c4] at H
  exact absurd H (by simp)

end Go.Proofs.YtoefabmlkbhmpaaDoor.PA

namespace Go.Proofs.YtoefabmlkbhmpaaDoor.PA
open Go.RowKit Go.Proofs.YtoefabmlkbhmpaaDoorW.PrintWords Go.Proofs.YtoefabmlkbhmpaaDoorW.PrintLast Go.Proofs.YtoefabmlkbhmpaaDoorW.PrintMore
attribute [local go_sem] max2_int min2_int max_two min_two max_three min_three max_four min_four   -- for this text's walks alone
set_option linter.unusedVariables false
set_option linter.unusedSimpArgs false

-- NOT PRINTED: function 6 (plumblaw07_NearScale)

end Go.Proofs.YtoefabmlkbhmpaaDoor.PA

namespace Go.Proofs.YtoefabmlkbhmpaaDoor.PA
open Go.RowKit Go.Proofs.YtoefabmlkbhmpaaDoorW.PrintWords Go.Proofs.YtoefabmlkbhmpaaDoorW.PrintLast Go.Proofs.YtoefabmlkbhmpaaDoorW.PrintMore
attribute [local go_sem] max2_int min2_int max_two min_two max_three min_three max_four min_four   -- for this text's walks alone
set_option linter.unusedVariables false
set_option linter.unusedSimpArgs false

end Go.Proofs.YtoefabmlkbhmpaaDoor.PA

namespace Go.Proofs.YtoefabmlkbhmpaaDoor.PA
open Go.RowKit Go.Proofs.YtoefabmlkbhmpaaDoorW.PrintWords Go.Proofs.YtoefabmlkbhmpaaDoorW.PrintLast Go.Proofs.YtoefabmlkbhmpaaDoorW.PrintMore
set_option linter.unusedVariables false
set_option linter.unusedSimpArgs false
/-- the last word of a list without zeros at its end -/
theorem strip_last {xs : List Int} (h : 0 < (strip xs).length) : xs.getD ((strip xs).length - 1) 0 ≠ 0 := by
  induction xs with
  | nil => simp [strip] at h
  | cons x xs ih =>
    rw [strip_cons] at h ⊢
    by_cases hs : strip xs = []
    · rw [if_pos hs] at h ⊢
      by_cases hx : x = 0
      · rw [if_pos hx] at h; simp at h
      · rw [if_neg hx]; simpa using hx
    · rw [if_neg hs]
      have h1 : 0 < (strip xs).length := by
        rcases Nat.eq_zero_or_pos (strip xs).length with h0 | h0
        · exact absurd (List.eq_nil_of_length_eq_zero h0) hs
        · exact h0
      have h2 := ih h1
      rw [List.length_cons, show (strip xs).length + 1 - 1 = ((strip xs).length - 1) + 1 from by omega, List.getD_cons_succ]
      exact h2
theorem nv_split {xs : List Int} {n : Nat} (h : n ≤ xs.length) : nv xs = nv (xs.take n) + 2 ^ (64 * n) * nv (xs.drop n) := by
  conv => lhs; rw [← List.take_append_drop n xs, nv_append]
  rw [List.length_take, Nat.min_eq_left h]
/-- a normal list's number by its last word -/
theorem nv_top {xs : List Int} (h : Ws xs) {n : Nat} (hn : (strip xs).length = n + 1) : nv xs / 2 ^ (64 * n) = xs.getD n 0 := by
  have hl := strip_length_le xs
  have e : nv xs = nv (xs.take n) + 2 ^ (64 * n) * xs.getD n 0 := by
    rw [← nv_strip xs, strip_take xs, hn, List.take_succ_eq_append_getElem (by omega), nv_append, List.length_take, Nat.min_eq_left (by omega), List.getD_eq_getElem?_getD, List.getElem?_eq_getElem (by omega)]
    simp [nv]
  have h1 := nv_nonneg (h.take n)
  have h2 := nv_lt (h.take n)
  rw [List.length_take, Nat.min_eq_left (by omega)] at h2
  rw [e, Int.add_mul_ediv_left _ _ (by omega), Int.ediv_eq_zero_of_lt h1 h2, Int.zero_add]
theorem nat_Bits.f_eq (xs : List Int) (h : Ws xs) (hl : xs.length ≤ 35184372088832) (k : Nat) (hk : xs.length < k) (hk7 : 7 ≤ k) : nat_Bits.f k xs = some (bitsN (nv xs)) := by
  rw [nat_Bits.f, nat_size.f_eq xs (by omega) k hk]
  simp only [Option.bind_some]
  have hsl := strip_length_le xs
  rcases Nat.eq_zero_or_pos (strip xs).length with h0 | h0
  · rw [if_pos (by omega)]
    have : nv xs = 0 := by rw [← nv_strip, List.eq_nil_of_length_eq_zero h0]; rfl
    rw [this]; rfl
  · obtain ⟨n, hn⟩ : ∃ n, (strip xs).length = n + 1 := ⟨(strip xs).length - 1, by omega⟩
    rw [hn, if_neg (by omega)]
    have ew : wrap64 (((n + 1 : Nat) : Int) - 1) = (n : Int) := by unfold wrap64; omega
    rw [ew, if_pos (by omega), if_pos (by omega)]
    clear ew
    have er : rd xs (n : Int) = xs.getD n 0 := rfl
    have ho := h.getD n
    have hne := strip_last h0
    rw [hn, Nat.add_sub_cancel] at hne
    rw [er, wide_Len.f_eq ho.1 ho.2 k hk7]
    simp only [Option.bind_some]
    have ht := nv_top h hn
    have hge : (2 : Int) ^ (64 * n) ≤ nv xs := by
      have h1 := Int.mul_ediv_add_emod (nv xs) (2 ^ (64 * n))
      have h2 := Int.emod_nonneg (nv xs) (show (2 : Int) ^ (64 * n) ≠ 0 by have := two_pow_pos (64 * n); omega)
      have h3 := Int.mul_le_mul_of_nonneg_left (show 1 ≤ nv xs / 2 ^ (64 * n) by omega) (Int.le_of_lt (two_pow_pos (64 * n)))
      omega
    rw [bitsN_div (64 * n) hge, ht]
    have hb := bitsN_le_of_lt (n := 64) ho.1 ho.2
    have hb0 := bitsN_nonneg (xs.getD n 0)
    clear ho hne ht hge
    generalize bitsN (xs.getD n 0) = z at *
    congr 1
    unfold wrap64
    omega
theorem nat_bound.f_eq (xs : List Int) (hl : xs.length ≤ 35184372088832) (k : Nat) (hk : xs.length < k) : nat_bound.f k xs = some (if (strip xs).length ≤ 4096 then (strip xs, 0) else ([], 21)) := by
  rw [nat_bound.f, nat_size.f_eq xs (by omega) k hk]
  simp only [Option.bind_some]
  have hsl := strip_length_le xs
  by_cases h : (strip xs).length ≤ 4096
  · rw [if_pos (by omega), if_pos (by omega), if_pos (by omega), if_pos h, Int.toNat_natCast, ← strip_take]
  · rw [if_neg (by omega), if_neg h]
theorem strip_len_le {xs : List Int} (h : Ws xs) (n : Nat) : (strip xs).length ≤ n ↔ nv xs < 2 ^ (64 * n) := by
  constructor
  · intro hn
    have h1 := nv_lt h.strip
    rw [nv_strip] at h1
    have := pow_mono (show 64 * (strip xs).length ≤ 64 * n from by omega)
    omega
  · intro hn
    apply Classical.byContradiction
    intro hc
    obtain ⟨m, hm⟩ : ∃ m, (strip xs).length = m + 1 := ⟨(strip xs).length - 1, by omega⟩
    have h1 := strip_last (xs := xs) (by omega)
    rw [hm, Nat.add_sub_cancel] at h1
    have ht := nv_top h hm
    have ho := h.getD m
    have h2 := Int.mul_ediv_add_emod (nv xs) (2 ^ (64 * m))
    have h3 := Int.emod_nonneg (nv xs) (show (2 : Int) ^ (64 * m) ≠ 0 by have := two_pow_pos (64 * m); omega)
    have h4 := Int.mul_le_mul_of_nonneg_left (show 1 ≤ nv xs / 2 ^ (64 * m) by omega) (Int.le_of_lt (two_pow_pos (64 * m)))
    have h5 := pow_mono (show 64 * n ≤ 64 * m from by omega)
    omega
/-- the answer that has at most 4096 words -/
def bnd (n : Int) : List Int × Int := if n < 2 ^ 262144 then (wd n.toNat, 0) else ([], 21)
theorem nat_bound.f_bnd {xs : List Int} (h : Ws xs) (hl : xs.length ≤ 35184372088832) (k : Nat) (hk : xs.length < k) : nat_bound.f k xs = some (bnd (nv xs)) := by
  rw [nat_bound.f_eq xs hl k hk]
  congr 1
  unfold bnd
  have := strip_len_le h 4096
  by_cases h1 : (strip xs).length ≤ 4096
  · rw [if_pos h1, if_pos (this.1 h1), wd_nv h]
  · rw [if_neg h1, if_neg (fun h2 => h1 (this.2 h2))]
end Go.Proofs.YtoefabmlkbhmpaaDoor.PA

namespace Go.Proofs.YtoefabmlkbhmpaaDoor.PA
open Go.RowKit Go.Proofs.YtoefabmlkbhmpaaDoorW.PrintWords Go.Proofs.YtoefabmlkbhmpaaDoorW.PrintLast Go.Proofs.YtoefabmlkbhmpaaDoorW.PrintMore
set_option linter.unusedVariables false
set_option linter.unusedSimpArgs false
theorem getD_zero_of_lt {xs : List Int} (h : Ws xs) {t : Nat} (hl : nv xs < 2 ^ (64 * t)) : xs.getD t 0 = 0 := by
  by_cases ht : t < xs.length
  · have e := nv_split (xs := xs) (n := t) (by omega)
    have h1 := nv_nonneg (h.take t)
    have h2 := nv_nonneg (h.drop t)
    have hp := two_pow_pos (64 * t)
    have h3 : nv (xs.drop t) < 1 := by
      apply Classical.byContradiction
      intro hc
      have := Int.mul_le_mul_of_nonneg_left (show 1 ≤ nv (xs.drop t) by omega) (Int.le_of_lt hp)
      omega
    have h4 : nv (xs.drop t) = 0 := by omega
    rw [List.drop_eq_getElem_cons ht, nv_cons] at h4
    have h5 := nv_nonneg (h.drop (t + 1))
    have h6 := h.getD t
    rw [List.getD_eq_getElem?_getD, List.getElem?_eq_getElem ht] at h6 ⊢
    simp only [Option.getD_some] at h6 ⊢
    omega
  · rw [List.getD_eq_getElem?_getD, List.getElem?_eq_none (by omega)]; rfl
theorem set_getD_ne {xs : List Int} {i j : Nat} {v : Int} (h : i ≠ j) : (xs.set i v).getD j 0 = xs.getD j 0 := by
  rw [List.getD_eq_getElem?_getD, List.getD_eq_getElem?_getD, List.getElem?_set_ne h]
/-- one word's sums: low and high -/
theorem mul_step {a b o c : Int} (ha0 : 0 ≤ a) (ha : a < 18446744073709551616) (hb0 : 0 ≤ b) (hb : b < 18446744073709551616) (ho0 : 0 ≤ o) (ho : o < 18446744073709551616) (hc0 : 0 ≤ c) (hc : c < 18446744073709551616) :
    ∃ lo hi k1 k2 v c' : Int, a * b = hi * 18446744073709551616 + lo ∧ 0 ≤ lo ∧ lo < 18446744073709551616 ∧
      wide_Mul.f a b = some (hi, lo) ∧ ∃ s, wide_Add.f lo o 0 = some (s, k1) ∧ wide_Add.f s c 0 = some (v, k2) ∧ IntKind.u64.wrap (IntKind.u64.wrap (hi + k1) + k2) = c' ∧
      v + c' * 18446744073709551616 = a * b + o + c ∧ 0 ≤ v ∧ v < 18446744073709551616 ∧ 0 ≤ c' ∧ c' < 18446744073709551616 := by
  have hab0 : 0 ≤ a * b := Int.mul_nonneg ha0 hb0
  have hab : a * b ≤ 18446744073709551615 * 18446744073709551615 := Int.mul_le_mul (by omega) (by omega) hb0 (by omega)
  refine ⟨a * b % 18446744073709551616, a * b / 18446744073709551616, _, _, _, _, by omega, by omega, by omega, ?_, _, wide_Add.f_eq (by omega) (by omega) ho0 ho (by omega) (by omega), wide_Add.f_eq (by omega) (by omega) hc0 hc (by omega) (by omega), rfl, ?_, by omega, by omega, ?_, ?_⟩
  · unfold wide_Mul.f
    rw [if_pos (u64B_iff.2 ⟨ha0, ha⟩), if_pos (u64B_iff.2 ⟨hb0, hb⟩)]
  · simp only [u64w]
    generalize a * b = p at *
    omega
  · simp only [u64w]; omega
  · simp only [u64w]; omega
theorem w64_add (i j : Nat) (h : i + j < 9223372036854775808) : wrap64 ((i : Int) + (j : Int)) = ((i + j : Nat) : Int) := by unfold wrap64; omega
theorem w64_succ (i : Nat) (h : i < 9223372036854775807) : wrap64 ((i : Int) + 1) = ((i + 1 : Nat) : Int) := by unfold wrap64; omega
theorem nat_Mul.l1_eq (x y : List Int) (hy : Ws y) (i m : Nat) (a : Int) (ha0 : 0 ≤ a) (ha : a < 18446744073709551616) (hm : m ≤ 35184372088832) (him : i + y.length < m) :
    ∀ (d k : Nat) (out : List Int) (c : Int) (j : Nat), d = y.length - j → j ≤ y.length → out.length = m → Ws out → 0 ≤ c → c < 18446744073709551616 → out.getD (i + y.length) 0 = 0 →
    ∃ out' c', Ws out' ∧ out'.length = m ∧ 0 ≤ c' ∧ c' < 18446744073709551616 ∧ out'.getD (i + y.length) 0 = 0 ∧
      nv out' + c' * 2 ^ (64 * (i + y.length)) + a * nv (y.take j) * 2 ^ (64 * i) = nv out + c * 2 ^ (64 * (i + j)) + a * nv y * 2 ^ (64 * i) ∧
      nat_Mul.l1 (k + d + 1) y out i a c x (x.length : Int) i y (y.length : Int) j = nat_Mul.l0 k y (out'.set (i + y.length) c') x (x.length : Int) ((i + 1 : Nat) : Int) := by
  intro d
  induction d with
  | zero =>
    intro k out c j hd hj hl hw hc0 hc hz
    obtain rfl : j = y.length := by omega
    refine ⟨out, c, hw, hl, hc0, hc, hz, by rw [List.take_length], ?_⟩
    rw [Nat.add_zero]
    conv => lhs; unfold nat_Mul.l1
    rw [if_neg (by omega)]
    have b1 : i + y.length < 9223372036854775808 := by omega
    have b2 : i < 9223372036854775807 := by omega
    have b3 : (0 : Int) ≤ ((i + y.length : Nat) : Int) := by omega
    have b4 : ((i + y.length : Nat) : Int) < (out.length : Int) := by omega
    have ew := w64_add i y.length b1
    have ew2 := w64_succ i b2
    rw [ew, ew2, Int.toNat_natCast]
    rw [if_pos b3, if_pos b4]
  | succ d ih =>
    intro k out c j hd hj hl hw hc0 hc hz
    have b1 : i + j < 9223372036854775808 := by omega
    have b2 : j < 9223372036854775807 := by omega
    have q0 : (j : Int) < (y.length : Int) := by omega
    have q1 : (0 : Int) ≤ (j : Int) := by omega
    have q2 : (0 : Int) ≤ ((i + j : Nat) : Int) := by omega
    have q3 : ((i + j : Nat) : Int) < (out.length : Int) := by omega
    have q4 : d = y.length - (j + 1) := by omega
    have q5 : j + 1 ≤ y.length := by omega
    have q6 : i + j ≠ i + y.length := by omega
    have q7 : i + j < out.length := by omega
    have q8 : j < y.length := by omega
    have ew := w64_add i j b1
    have ew2 := w64_succ j b2
    have hyj := hy.getD j
    have hoj := hw.getD (i + j)
    obtain ⟨lo, hi, k1, k2, v, c', e1, hlo0, hlo, eM, s, eA, eB, ec, ev, hv0, hv, hc0', hc'⟩ := mul_step ha0 ha hyj.1 hyj.2 hoj.1 hoj.2 hc0 hc
    obtain ⟨out', c2, h1, h2, h3, h4, h5, h6, h7⟩ := ih k (out.set (i + j) v) c' (j + 1) q4 q5 (by rw [List.length_set, hl]) (hw.set _ hv0 hv) hc0' hc' (by rw [set_getD_ne q6]; exact hz)
    refine ⟨out', c2, h1, h2, h3, h4, h5, ?_, ?_⟩
    · rw [nv_set q7, nv_take_succ q8] at h6
      clear ec ew ew2
      rw [show 64 * (i + (j + 1)) = 64 * (i + j + 1) from by omega, pow64, show 64 * (i + j) = 64 * i + 64 * j from by omega, Int.pow_add] at h6
      rw [show 64 * (i + j) = 64 * i + 64 * j from by omega, Int.pow_add]
      generalize (2 : Int) ^ (64 * i) = pi at *
      generalize (2 : Int) ^ (64 * j) = pj at *
      generalize out.getD (i + j) 0 = o at *
      generalize y.getD j 0 = yj at *
      obtain rfl : v = a * yj + o + c - c' * 18446744073709551616 := by omega
      clear eM eA eB h7 ih e1 hyj hoj hlo hlo0
      grind
    · rw [← h7, show k + (d + 1) + 1 = (k + d + 1) + 1 from by omega]
      conv => lhs; unfold nat_Mul.l1
      have er : rd y (j : Int) = y.getD j 0 := rfl
      have er2 : rd out ((i + j : Nat) : Int) = out.getD (i + j) 0 := rfl
      rw [ew, ew2, er, er2, eM]
      simp only [Option.bind_some]
      rw [if_pos q0, if_pos q1, if_pos q0, if_pos q2, if_pos q3, eA]
      simp only [Option.bind_some]
      rw [eB]
      simp only [Option.bind_some]
      rw [ec, Int.toNat_natCast]
theorem nat_Mul.l0_eq (x y : List Int) (hx : Ws x) (hy : Ws y) (m : Nat) (hm : m ≤ 35184372088832) (hlm : x.length + y.length = m) : ∀ (d k : Nat) (out : List Int) (i : Nat), d = x.length - i → d * (y.length + 2) + m + 1 < k → i ≤ x.length → out.length = m → Ws out → nv out = nv (x.take i) * nv y →
    nat_Mul.l0 k y out x (x.length : Int) i = some (bnd (nv x * nv y)) := by
  intro d
  induction d with
  | zero =>
    intro k out i hd hk hi hl hw hv
    obtain ⟨k, rfl⟩ : ∃ j, k = j + 1 := ⟨k - 1, by omega⟩
    obtain rfl : i = x.length := by omega
    rw [List.take_length] at hv
    simp only [nat_Mul.l0]
    rw [if_neg (by omega), nat_bound.f_bnd hw (by omega) k (by omega), hv]
    rfl
  | succ d ih =>
    intro k out i hd hk hi hl hw hv
    have hk' : d * (y.length + 2) + (y.length + 2) + m + 1 < k := by rw [Nat.succ_mul] at hk; exact hk
    obtain ⟨k, rfl⟩ : ∃ j, k = j + y.length + 1 + 1 := ⟨k - (y.length + 2), by omega⟩
    have hxi := hx.getD i
    have htop : nv out < 2 ^ (64 * (i + y.length)) := by
      rw [hv, show 64 * (i + y.length) = 64 * i + 64 * y.length from by omega, Int.pow_add]
      have h1 := nv_lt (hx.take i)
      rw [List.length_take, Nat.min_eq_left (by omega)] at h1
      have h2 := nv_lt hy
      have h3 := nv_nonneg (hx.take i)
      have h4 := nv_nonneg hy
      have hp := two_pow_pos (64 * i)
      have h5 : nv (x.take i) * nv y ≤ nv (x.take i) * 2 ^ (64 * y.length) := Int.mul_le_mul_of_nonneg_left (by omega) h3
      have h6 : nv (x.take i) * 2 ^ (64 * y.length) < 2 ^ (64 * i) * 2 ^ (64 * y.length) := Int.mul_lt_mul_of_pos_right h1 (two_pow_pos _)
      omega
    obtain ⟨out', c', h1, h2, h3, h4, h5, h6, h7⟩ := nat_Mul.l1_eq x y hy i m (x.getD i 0) hxi.1 hxi.2 hm (by omega) y.length k out 0 0 (by omega) (by omega) hl hw (by omega) (by omega) (getD_zero_of_lt hw htop)
    conv => lhs; unfold nat_Mul.l0
    have er : rd x (i : Int) = x.getD i 0 := rfl
    rw [if_pos (by omega), if_pos (by omega), if_pos (by omega), er]
    have h7' : nat_Mul.l1 (k + y.length + 1) y out i (x.getD i 0) 0 x (x.length : Int) i y (y.length : Int) 0 = nat_Mul.l0 k y (out'.set (i + y.length) c') x (x.length : Int) ((i + 1 : Nat) : Int) := h7
    rw [h7']
    refine ih k _ (i + 1) (by omega) (by omega) (by omega) (by rw [List.length_set, h2]) (h1.set _ h3 h4) ?_
    rw [nv_set (by omega), h5, nv_take_succ (by omega), Int.add_mul, ← hv]
    simp only [List.take_zero, nv_nil] at h6
    generalize (2 : Int) ^ (64 * i) = pi at *
    generalize (2 : Int) ^ (64 * (i + y.length)) = pl at *
    generalize x.getD i 0 = xi at *
    clear h7 h7' er ih hk hk'
    grind
theorem strip_take' (xs : List Int) : xs.take (strip xs).length = strip xs := (strip_take xs).symm
theorem bnd_big {n : Int} (h : (2 : Int) ^ 262144 ≤ n) : bnd n = ([], 21) := by unfold bnd; rw [if_neg (by omega)]
theorem nv_pos_iff {xs : List Int} (h : Ws xs) : 0 < nv xs ↔ (strip xs) ≠ [] := by
  rw [← strip_length_pos h]
  exact ⟨fun h1 h2 => by rw [h2] at h1; simp at h1, fun h1 => List.length_pos_iff.2 h1⟩
/-- the product, where it isn't too long -/
theorem nat_Mul.f_eq (x y : List Int) (hx : Ws x) (hy : Ws y) (hlx : x.length ≤ 1000000) (hly : y.length ≤ 1000000) (k : Nat) (hk : x.length * (y.length + 2) + x.length + y.length + 20 < k) :
    nat_Mul.f k x y = some (if nv x * nv y = 0 then ([], 0) else bnd (nv x * nv y)) := by
  have hsx := strip_length_le x
  have hsy := strip_length_le y
  have hm : (strip x).length * ((strip y).length + 2) ≤ x.length * (y.length + 2) := Nat.mul_le_mul hsx (by omega)
  obtain ⟨k, rfl⟩ : ∃ j, k = j + 1 := ⟨k - 1, by omega⟩
  rw [nat_Mul.f, nat_size.f_eq x (by omega) _ (by omega)]
  simp only [Option.bind_some]
  rw [if_pos (by omega), if_pos (by omega), nat_size.f_eq y (by omega) _ (by omega)]
  simp only [Option.bind_some]
  rw [if_pos (by omega), if_pos (by omega), Int.toNat_natCast, Int.toNat_natCast, strip_take', strip_take']
  have ex := nv_strip x
  have ey := nv_strip y
  have wx := hx.strip
  have wy := hy.strip
  have px := nv_pos_iff hx
  have py := nv_pos_iff hy
  rw [← ex, ← ey] at *
  generalize strip x = x' at *
  generalize strip y = y' at *
  have nx := nv_nonneg wx
  have ny := nv_nonneg wy
  by_cases h0 : x' = []
  · subst h0
    rw [if_pos (by simp), nat_Mul.j0, if_pos rfl]
    simp [nv]
  · have hx0 : x'.length ≠ 0 := fun h => h0 (List.eq_nil_of_length_eq_zero h)
    rw [if_neg (by omega)]
    by_cases h1 : y' = []
    · subst h1
      rw [nat_Mul.j0, if_pos (by simp)]
      simp [nv]
    · have hy0 : y'.length ≠ 0 := fun h => h1 (List.eq_nil_of_length_eq_zero h)
      have hpx := px.2 h0
      have hpy := py.2 h1
      have hp : 0 < nv x' * nv y' := Int.mul_pos hpx hpy
      rw [nat_Mul.j0, if_neg (by simp only [beq_iff_eq]; omega), nat_Bits.f_eq x' wx (by omega) k (by omega) (by omega), if_neg (show ¬ nv x' * nv y' = 0 by omega)]
      simp only [Option.bind_some]
      rw [nat_Bits.f_eq y' wy (by omega) k (by omega) (by omega)]
      simp only [Option.bind_some]
      have bx := bitsN_ge hpx
      have by_ := bitsN_ge hpy
      have bx1 := bitsN_pos hpx
      have by1 := bitsN_pos hpy
      have bx2 := bitsN_le_of_lt (n := 64 * x'.length) nx (nv_lt wx)
      have by2 := bitsN_le_of_lt (n := 64 * y'.length) ny (nv_lt wy)
      have hbx : 1 ≤ bitsN (nv x') := by omega
      have hby : 1 ≤ bitsN (nv y') := by omega
      clear bx1 by1
      have ew : wrap64 (bitsN (nv x') - 1) = bitsN (nv x') - 1 := by unfold wrap64; omega
      have ew2 : wrap64 (262144 - bitsN (nv y')) = 262144 - bitsN (nv y') := by clear ew; unfold wrap64; omega
      rw [ew, ew2]
      clear ew ew2
      by_cases hb : bitsN (nv x') - 1 > 262144 - bitsN (nv y')
      · rw [if_pos hb, bnd_big]
        have h3 : (2 : Int) ^ 262144 ≤ 2 ^ ((bitsN (nv x')).toNat - 1 + ((bitsN (nv y')).toNat - 1)) := pow_mono (by omega)
        rw [Int.pow_add] at h3
        exact Int.le_trans h3 (Int.mul_le_mul bx by_ (Int.le_of_lt (two_pow_pos _)) nx)
      · rw [if_neg hb]
        clear hb bx by_ bx2 by2 hbx hby
        have ew := w64_add x'.length y'.length (by omega)
        have c1 : (0 : Int) ≤ ((x'.length + y'.length : Nat) : Int) := Int.natCast_nonneg _
        rw [ew, if_pos c1, Int.toNat_natCast]
        clear ew c1
        rw [if_pos (by omega)]
        exact nat_Mul.l0_eq x' y' wx wy (x'.length + y'.length) (by omega) rfl x'.length k _ 0 (by omega) (by omega) (by omega) (by simp) (Ws.zeros _) (by rw [nv_zeros]; simp [nv])
end Go.Proofs.YtoefabmlkbhmpaaDoor.PA

namespace Go.Proofs.YtoefabmlkbhmpaaDoor.PA
open Go.RowKit Go.Proofs.YtoefabmlkbhmpaaDoorW.PrintWords Go.Proofs.YtoefabmlkbhmpaaDoorW.PrintLast Go.Proofs.YtoefabmlkbhmpaaDoorW.PrintMore
set_option linter.unusedVariables false
set_option linter.unusedSimpArgs false
theorem drop_set_self {xs : List Int} {m : Nat} (h : m < xs.length) (q : Int) : (xs.set m q).drop m = q :: xs.drop (m + 1) := by
  rw [List.drop_eq_getElem_cons (by rw [List.length_set]; exact h), List.getElem_set_self, List.drop_set_of_lt (by omega)]
theorem drop_getD {xs : List Int} {m : Nat} (h : m < xs.length) : xs.drop m = xs.getD m 0 :: xs.drop (m + 1) := by
  rw [List.drop_eq_getElem_cons h, List.getD_eq_getElem?_getD, List.getElem?_eq_getElem h]; rfl
end Go.Proofs.YtoefabmlkbhmpaaDoor.PA

namespace Go.Proofs.YtoefabmlkbhmpaaDoor.PA
open Go.RowKit Go.Proofs.YtoefabmlkbhmpaaDoorW.PrintWords Go.Proofs.YtoefabmlkbhmpaaDoorW.PrintLast Go.Proofs.YtoefabmlkbhmpaaDoorW.PrintMore
set_option linter.unusedVariables false
set_option linter.unusedSimpArgs false
theorem pow_split {s : Nat} (h : s ≤ 64) : (2 : Int) ^ s * 2 ^ (64 - s) = 18446744073709551616 := by
  rw [← Int.pow_add, show s + (64 - s) = 64 from by omega]; rfl
theorem shl_low {x P R : Int} (hP : 0 < P) (h : P * R = 18446744073709551616) : x * P % 18446744073709551616 = P * (x % R) := by
  rw [← h, Int.mul_comm x P, Int.mul_emod_mul_of_pos _ _ hP]
theorem shl_word {x P R : Int} (hP : 0 < P) (h : P * R = 18446744073709551616) : x * P = 18446744073709551616 * (x / R) + x * P % 18446744073709551616 := by
  rw [shl_low hP h]
  have h1 := Int.mul_ediv_add_emod x R
  generalize x / R = a at *
  generalize x % R = b at *
  rw [← h, ← h1]
  grind
theorem wide_Shl.f_eq {hi lo : Int} {s : Nat} (hs1 : 1 ≤ s) (hs : s ≤ 63) (h0 : 0 ≤ hi) (h1 : hi < 18446744073709551616) (l0 : 0 ≤ lo) (l1 : lo < 18446744073709551616) :
    wide_Shl.f hi lo (s : Int) = some (hi * 2 ^ s % 18446744073709551616 + lo / 2 ^ (64 - s), lo * 2 ^ s % 18446744073709551616) := by
  have e1 : mn (mx (s : Int) 0) 128 = (s : Int) := by
    unfold mn mx
    rw [if_neg (by omega), if_neg (by omega)]
  have ew : wrap64 (64 - (s : Int)) = ((64 - s : Nat) : Int) := by unfold wrap64; omega
  have c1 : (0 : Int) ≤ (s : Int) := by clear ew e1; omega
  have c2 : ¬ (s : Int) ≥ 64 := by clear ew e1; omega
  have c3 : (0 : Int) ≤ ((64 - s : Nat) : Int) := Int.natCast_nonneg _
  have hP := two_pow_pos s
  have hR := two_pow_pos (64 - s)
  have hPR := pow_split (s := s) (by omega)
  rw [wide_Shl.f, wide_within.f, e1]
  simp only [Option.bind_some]
  rw [if_neg c2, if_pos c1, ew, if_pos c3]
  clear ew e1 c1 c2 c3
  have m1 : min s 64 = s := Nat.min_eq_left (by omega)
  have m2 : min (64 - s) 64 = 64 - s := Nat.min_eq_left (by omega)
  rw [shl_eq, shl_eq, shr_eq, Int.toNat_natCast, Int.toNat_natCast, m1, m2]
  have hx : hi * 2 ^ s % 18446744073709551616 % 2 ^ s = 0 := by rw [shl_low hP hPR, Int.mul_emod_right]
  have hy : lo / 2 ^ (64 - s) < 2 ^ s := Int.ediv_lt_of_lt_mul hR (by rw [hPR]; exact l1)
  have hle : (2 : Int) ^ s ≤ 2 ^ 63 := pow_mono hs
  have hy0 : 0 ≤ lo / 2 ^ (64 - s) := Int.ediv_nonneg l0 (Int.le_of_lt hR)
  rw [or_join s (Int.emod_nonneg _ (by decide)) (Int.emod_lt_of_pos _ (by decide)) hx hy0 hy (Int.lt_trans (Int.lt_of_lt_of_le hy hle) (by decide))]
theorem take_set_self {xs : List Int} {n : Nat} {v : Int} : (xs.set n v).take n = xs.take n := by
  rw [List.take_set]
  exact List.set_eq_of_length_le (by rw [List.length_take]; omega)
end Go.Proofs.YtoefabmlkbhmpaaDoor.PA

namespace Go.Proofs.YtoefabmlkbhmpaaDoor.PA
open Go Go.RowKit Go.Proofs.YtoefabmlkbhmpaaDoorW.PrintWords Go.Proofs.YtoefabmlkbhmpaaDoorW.PrintLast Go.Proofs.YtoefabmlkbhmpaaDoorW.PrintMore
set_option linter.unusedVariables false
set_option linter.unusedSimpArgs false
theorem le_t {a b : Int} (h : a ≤ b) : (a ≤ b) = True := eq_true h
theorem le_f {a b : Int} (h : b < a) : (a ≤ b) = False := eq_false (by omega)
theorem lt_t {a b : Int} (h : a < b) : (a < b) = True := eq_true h
theorem lt_f {a b : Int} (h : b ≤ a) : (a < b) = False := eq_false (by omega)
theorem rdn (xs : List Int) (n : Nat) : rd xs (n : Int) = xs.getD n 0 := rfl
theorem w64_s (n : Nat) (h : n < 9223372036854775807) : wrap64 ((n : Int) + 1) = ((n + 1 : Nat) : Int) := by rw [w64_of (by omega) (by omega)]; omega
theorem w64_p (n : Nat) (h : n < 9223372036854775807) : wrap64 (((n + 1 : Nat) : Int) - 1) = (n : Int) := by rw [w64_of (by omega) (by omega)]; omega
theorem pow_split' {s : Nat} (h : s ≤ 64) : (2 : Int) ^ (64 - s) * 2 ^ s = 18446744073709551616 := by rw [Int.mul_comm, pow_split h]
theorem wide_Shl.f_eq0 {hi lo : Int} {s : Nat} (hs : s ≤ 63) (h0 : 0 ≤ hi) (h1 : hi < 18446744073709551616) (l0 : 0 ≤ lo) (l1 : lo < 18446744073709551616) :
    wide_Shl.f hi lo (s : Int) = some (hi * 2 ^ s % 18446744073709551616 + lo / 2 ^ (64 - s), lo * 2 ^ s % 18446744073709551616) := by
  have e1 : mn (mx (s : Int) 0) 128 = (s : Int) := by
    unfold mn mx
    rw [if_neg (by omega), if_neg (by omega)]
  have hP := two_pow_pos s
  have hR := two_pow_pos (64 - s)
  have hPR := pow_split (s := s) (by omega)
  have ew : wrap64 (64 - (s : Int)) = ((64 - s : Nat) : Int) := by rw [w64_of (by omega) (by omega)]; omega
  rw [wide_Shl.f, wide_within.f, e1]
  simp only [Option.bind_some]
  rw [ew]
  simp (disch := with_reducible omega) only [↓reduceIte, le_t, le_f, lt_t, lt_f, ge_iff_le, gt_iff_lt]
  have m1 : min s 64 = s := Nat.min_eq_left (by omega)
  have m2 : min (64 - s) 64 = 64 - s := Nat.min_eq_left (by omega)
  rw [shl_eq, shl_eq, shr_eq, Int.toNat_natCast, Int.toNat_natCast, m1, m2]
  have hx : hi * 2 ^ s % 18446744073709551616 % 2 ^ s = 0 := by rw [shl_low hP hPR, Int.mul_emod_right]
  have hy : lo / 2 ^ (64 - s) < 2 ^ s := Int.ediv_lt_of_lt_mul hR (by rw [hPR]; exact l1)
  have hle : (2 : Int) ^ s ≤ 2 ^ 63 := pow_mono hs
  have hy0 : 0 ≤ lo / 2 ^ (64 - s) := Int.ediv_nonneg l0 (Int.le_of_lt hR)
  rw [or_join s (Int.emod_nonneg _ (by decide)) (Int.emod_lt_of_pos _ (by decide)) hx hy0 hy (Int.lt_trans (Int.lt_of_lt_of_le hy hle) (by decide))]
theorem wide_Shr.f_eq {hi lo : Int} {s : Nat} (hs : s ≤ 63) (h0 : 0 ≤ hi) (h1 : hi < 18446744073709551616) (l0 : 0 ≤ lo) (l1 : lo < 18446744073709551616) :
    wide_Shr.f hi lo (s : Int) = some (hi / 2 ^ s, hi * 2 ^ (64 - s) % 18446744073709551616 + lo / 2 ^ s, decide (lo * 2 ^ (64 - s) % 18446744073709551616 ≠ 0)) := by
  have e1 : mn (mx (s : Int) 0) 128 = (s : Int) := by
    unfold mn mx
    rw [if_neg (by omega), if_neg (by omega)]
  have hP := two_pow_pos s
  have hR := two_pow_pos (64 - s)
  have hPR := pow_split' (s := s) (by omega)
  have ew : wrap64 (64 - (s : Int)) = ((64 - s : Nat) : Int) := by rw [w64_of (by omega) (by omega)]; omega
  rw [wide_Shr.f, wide_within.f, e1]
  simp only [Option.bind_some]
  rw [ew]
  simp (disch := with_reducible omega) only [↓reduceIte, le_t, le_f, lt_t, lt_f, ge_iff_le, gt_iff_lt]
  have m1 : min s 64 = s := Nat.min_eq_left (by omega)
  have m2 : min (64 - s) 64 = 64 - s := Nat.min_eq_left (by omega)
  rw [shl_eq, shl_eq, shr_eq, shr_eq, Int.toNat_natCast, Int.toNat_natCast, m1, m2]
  have hx : hi * 2 ^ (64 - s) % 18446744073709551616 % 2 ^ (64 - s) = 0 := by rw [shl_low hR hPR, Int.mul_emod_right]
  have hy : lo / 2 ^ s < 2 ^ (64 - s) := Int.ediv_lt_of_lt_mul hP (by rw [hPR]; exact l1)
  have hy0 : 0 ≤ lo / 2 ^ s := Int.ediv_nonneg l0 (Int.le_of_lt hP)
  have hle : lo / 2 ^ s ≤ lo := Int.ediv_le_self _ l0
  rw [or_join' (64 - s) (Int.emod_nonneg _ (by decide)) (Int.emod_lt_of_pos _ (by decide)) hx hy0 hy (by omega)]
  rw [Int.add_comm]
  congr 3
  rw [Bool.eq_iff_iff]; simp
theorem quot_shl.l0_eq (x : List Int) (hx : Ws x) (s m : Nat) (hs : s ≤ 63) (hm : m ≤ 35184372088832) (hxm : x.length ≤ m) (hfit : nv x * 2 ^ s < 2 ^ (64 * m)) : ∀ (d k : Nat) (out : List Int) (c : Int) (i : Nat), d = x.length - i → d < k → i ≤ x.length → out.length = m → Ws out → 0 ≤ c → c < 2 ^ s → (∀ j, i ≤ j → out.getD j 0 = 0) → nv out + c * 2 ^ (64 * i) = nv (x.take i) * 2 ^ s →
    quot_shl.l0 k x (s : Int) (m : Int) out c x (x.length : Int) (i : Int) = some (wn m (nv x * 2 ^ s)) := by
  have hP := two_pow_pos s
  have hR := two_pow_pos (64 - s)
  have hPR := pow_split (s := s) (by omega)
  have hle : (2 : Int) ^ s ≤ 2 ^ 63 := pow_mono hs
  have h63 : (2 : Int) ^ 63 = 9223372036854775808 := by decide
  intro d
  induction d with
  | zero =>
    intro k out c i hd hk hi hl hw hc0 hc hz hv
    obtain ⟨k, rfl⟩ : ∃ j, k = j + 1 := ⟨k - 1, by omega⟩
    obtain rfl : i = x.length := by omega
    rw [List.take_length] at hv
    unfold quot_shl.l0
    rw [if_neg (by omega)]
    by_cases hxm' : x.length < m
    · rw [if_pos (by omega), if_pos (by omega), if_pos (by omega), Int.toNat_natCast]
      have e : nv (out.set x.length c) = nv x * 2 ^ s := by
        rw [nv_set (by omega), hz _ (Nat.le_refl _), ← hv]; grind
      rw [← e, ← eq_wn (hw.set _ hc0 (by omega)) (by rw [List.length_set]; exact hl)]
    · rw [if_neg (by omega)]
      obtain rfl : x.length = m := by omega
      have n0 := nv_nonneg hw
      have c0 : c = 0 := by
        apply Classical.byContradiction
        intro hne
        have h1 : 1 * 2 ^ (64 * x.length) ≤ c * 2 ^ (64 * x.length) := Int.mul_le_mul_of_nonneg_right (by omega) (Int.le_of_lt (two_pow_pos _))
        omega
      rw [c0, Int.zero_mul, Int.add_zero] at hv
      rw [← hv, ← eq_wn hw hl]
  | succ d ih =>
    intro k out c i hd hk hi hl hw hc0 hc hz hv
    obtain ⟨k, rfl⟩ : ∃ j, k = j + 1 := ⟨k - 1, by omega⟩
    have ho := hx.getD i
    have hy : x.getD i 0 / 2 ^ (64 - s) < 2 ^ s := Int.ediv_lt_of_lt_mul hR (by rw [hPR]; exact ho.2)
    have hy0 : 0 ≤ x.getD i 0 / 2 ^ (64 - s) := Int.ediv_nonneg ho.1 (Int.le_of_lt hR)
    have hlow := shl_low (x := x.getD i 0) hP hPR
    have hm1 := Int.emod_nonneg (x.getD i 0 * 2 ^ s) (show (18446744073709551616 : Int) ≠ 0 by decide)
    have hm2 := Int.emod_lt_of_pos (x.getD i 0 * 2 ^ s) (show (0 : Int) < 18446744073709551616 by decide)
    have g0 : 0 ≤ x.getD i 0 % 2 ^ (64 - s) := Int.emod_nonneg _ (Int.ne_of_gt hR)
    have g1 : x.getD i 0 % 2 ^ (64 - s) < 2 ^ (64 - s) := Int.emod_lt_of_pos _ hR
    have hsum : x.getD i 0 * 2 ^ s % 18446744073709551616 + c < 18446744073709551616 := by
      rw [hlow, ← hPR]
      have h3 : 2 ^ s * (x.getD i 0 % 2 ^ (64 - s) + 1) ≤ 2 ^ s * 2 ^ (64 - s) := Int.mul_le_mul_of_nonneg_left g1 (Int.le_of_lt hP)
      rw [Int.mul_add, Int.mul_one] at h3
      omega
    unfold quot_shl.l0
    rw [if_pos (by omega), if_pos (by omega), if_pos (by omega), rdn, wide_Shl.f_eq0 hs (by omega) (by omega) ho.1 ho.2]
    simp only [Option.bind_some]
    rw [if_pos (by omega), w64_s i (by omega), Int.toNat_natCast, or_join s hm1 hm2 (by rw [hlow, Int.mul_emod_right]) hc0 hc (by omega), Int.zero_mul, Int.zero_emod, Int.zero_add]
    refine ih k _ _ (i + 1) (by omega) (by omega) (by omega) (by rw [List.length_set]; exact hl) (hw.set _ (by omega) hsum) hy0 hy (fun j hj => by rw [set_getD_ne (by omega)]; exact hz j (by omega)) ?_
    rw [nv_set (by omega), hz i (Nat.le_refl _), nv_take_succ (by omega), show 64 * (i + 1) = 64 * i + 64 from by omega, Int.pow_add]
    have h2 := shl_word (x := x.getD i 0) hP hPR
    have e64 : (2 : Int) ^ 64 = 18446744073709551616 := by decide
    rw [e64]
    clear hlow hm1 hm2 g0 g1 hsum hy hy0 hz hw hx ih hfit
    generalize x.getD i 0 * 2 ^ s % 18446744073709551616 = v at *
    generalize x.getD i 0 / 2 ^ (64 - s) = u at *
    generalize x.getD i 0 = w at *
    generalize (2 : Int) ^ (64 * i) = p at *
    generalize (2 : Int) ^ s = P at *
    grind
theorem quot_shl.f_eq (x : List Int) (hx : Ws x) (s m : Nat) (hs : s ≤ 63) (hm : m ≤ 35184372088832) (hxm : x.length ≤ m) (hfit : nv x * 2 ^ s < 2 ^ (64 * m)) (k : Nat) (hk : x.length < k) :
    quot_shl.f k x (s : Int) (m : Int) = some (wn m (nv x * 2 ^ s)) := by
  rw [quot_shl.f, if_pos (by omega), Int.toNat_natCast, if_pos hm]
  exact quot_shl.l0_eq x hx s m hs hm hxm hfit x.length k _ 0 0 (by omega) hk (by omega) (by simp) (Ws.zeros _) (by decide) (two_pow_pos s) (fun j _ => by rw [List.getD_eq_getElem?_getD, List.getElem?_replicate]; split <;> rfl) (by rw [nv_zeros]; simp [nv])
end Go.Proofs.YtoefabmlkbhmpaaDoor.PA

namespace Go.Proofs.YtoefabmlkbhmpaaDoor.PA
open Go Go.RowKit Go.Proofs.YtoefabmlkbhmpaaDoorW.PrintWords Go.Proofs.YtoefabmlkbhmpaaDoorW.PrintLast Go.Proofs.YtoefabmlkbhmpaaDoorW.PrintMore
set_option linter.unusedVariables false
set_option linter.unusedSimpArgs false
def pV (d : Nat) : Nat := if d < 4503599627370496 then d else (4503599627370496 + d % 4503599627370496) * 2 ^ (d / 4503599627370496 - 1)
def pU (d : Nat) : Nat := 2 ^ (d / 4503599627370496 - 1)
theorem pV_succ (d : Nat) : pV (d + 1) = pV d + pU d := by
  unfold pV pU
  by_cases h1 : d + 1 < 4503599627370496
  · rw [if_pos h1, if_pos (by omega), Nat.div_eq_of_lt (by omega)]
  · rw [if_neg h1]
    by_cases h2 : d < 4503599627370496
    · obtain rfl : d = 4503599627370496 - 1 := by omega
      rw [if_pos h2]
    · rw [if_neg h2]
      by_cases h3 : d % 4503599627370496 + 1 < 4503599627370496
      · have e1 : (d + 1) % 4503599627370496 = d % 4503599627370496 + 1 := by omega
        have e2 : (d + 1) / 4503599627370496 = d / 4503599627370496 := by omega
        rw [e1, e2, ← Nat.add_assoc, Nat.add_mul _ 1, Nat.one_mul]
      · have e1 : (d + 1) % 4503599627370496 = 0 := by omega
        have e2 : (d + 1) / 4503599627370496 = d / 4503599627370496 + 1 := by omega
        have e3 : d % 4503599627370496 = 4503599627370496 - 1 := by omega
        have e4 : 1 ≤ d / 4503599627370496 := by omega
        obtain ⟨j, hj⟩ : ∃ j, d / 4503599627370496 = j + 1 := ⟨d / 4503599627370496 - 1, by omega⟩
        rw [e1, e2, e3, hj, Nat.add_sub_cancel, Nat.add_sub_cancel, Nat.pow_succ, Nat.add_zero, ← Nat.succ_mul, Nat.mul_comm (2 ^ j) 2, ← Nat.mul_assoc]
theorem pU_pos (d : Nat) : 0 < pU d := Nat.pow_pos (by decide)
theorem pV_lt_succ (d : Nat) : pV d < pV (d + 1) := by have := pU_pos d; rw [pV_succ]; omega
theorem pV_le {a b : Nat} (h : a ≤ b) : pV a ≤ pV b := by
  induction b with
  | zero => obtain rfl : a = 0 := by omega
            exact Nat.le_refl _
  | succ b ih =>
    by_cases h1 : a = b + 1
    · subst h1; exact Nat.le_refl _
    · exact Nat.le_trans (ih (by omega)) (Nat.le_of_lt (pV_lt_succ b))
theorem pV_zero : pV 0 = 0 := rfl
/-- a mantissa and an exponent as a place in the row -/
theorem pV_at {s q : Nat} (hq : q < 9007199254740992) (h : s = 0 ∨ 4503599627370496 ≤ q) : pV (s * 4503599627370496 + q) = q * 2 ^ s ∧ pU (s * 4503599627370496 + q) = 2 ^ s := by
  unfold pV pU
  by_cases h0 : q < 4503599627370496
  · obtain rfl : s = 0 := by omega
    rw [Nat.zero_mul, Nat.zero_add, if_pos h0, Nat.div_eq_of_lt h0]
    simp
  · have e1 : (s * 4503599627370496 + q) / 4503599627370496 = s + 1 := by
      rw [Nat.mul_comm, Nat.mul_add_div (by omega)]
      have : q / 4503599627370496 = 1 := by omega
      omega
    have e2 : (s * 4503599627370496 + q) % 4503599627370496 = q - 4503599627370496 := by
      rw [Nat.mul_comm, Nat.mul_add_mod]
      omega
    have e3 : ¬ s * 4503599627370496 + q < 4503599627370496 := by omega
    rw [if_neg e3, e1, e2, Nat.add_sub_cancel, show 4503599627370496 + (q - 4503599627370496) = q from by omega]
    exact ⟨rfl, rfl⟩
/-- d is the place at or below P / Q -/
structure Rd (P Q d : Nat) : Prop where
  lo : pV d * Q ≤ P
  hi : P < pV (d + 1) * Q
theorem Rd.uniq {P Q d e : Nat} (h : Rd P Q d) (k : Rd P Q e) : d = e := by
  apply Classical.byContradiction
  intro hne
  rcases Nat.lt_or_gt_of_ne hne with hlt | hlt
  · have := Nat.mul_le_mul_right Q (pV_le (show d + 1 ≤ e from hlt))
    have h1 := h.hi; have h2 := k.lo; omega
  · have := Nat.mul_le_mul_right Q (pV_le (show e + 1 ≤ d from hlt))
    have h1 := k.hi; have h2 := h.lo; omega
theorem Rd.le_iff {P Q d : Nat} (h : Rd P Q d) (e : Nat) : pV e * Q ≤ P ↔ e ≤ d := by
  constructor
  · intro h1
    apply Classical.byContradiction
    intro hn
    have := Nat.mul_le_mul_right Q (pV_le (show d + 1 ≤ e by omega))
    have := h.hi; omega
  · intro h1
    exact Nat.le_trans (Nat.mul_le_mul_right Q (pV_le h1)) h.lo
/-- what lies behind the place: 0 nothing, 1 less than half, 2 half, 3 more -/
def tl (P Q : Nat) (more : Bool) (d : Nat) : Nat :=
  if P = pV d * Q then (if more then 1 else 0) else if 2 * P < (2 * pV d + pU d) * Q then 1 else if 2 * P = (2 * pV d + pU d) * Q then (if more then 3 else 2) else 3
def tailOf (r k : Nat) (st : Bool) : Nat := if r = 0 then (if st then 1 else 0) else if 2 * r < 2 ^ k then 1 else if 2 * r = 2 ^ k then (if st then 3 else 2) else 3
/-- the place of m units (and a part of one) by division -/
theorem Rd.of_div {P Q m k s a b : Nat} {more st : Bool} (hQ : 0 < Q) (hk : 1 ≤ k) (hs : s + b = k + a) (h1 : m * 2 ^ a * Q ≤ P * 2 ^ b) (h2 : P * 2 ^ b < (m + 1) * 2 ^ a * Q)
    (hst : st = true ↔ (P * 2 ^ b ≠ m * 2 ^ a * Q ∨ more = true)) (hq : m / 2 ^ k < 9007199254740992) (hsq : s = 0 ∨ 4503599627370496 ≤ m / 2 ^ k) :
    Rd P Q (s * 4503599627370496 + m / 2 ^ k) ∧ tl P Q more (s * 4503599627370496 + m / 2 ^ k) = tailOf (m % 2 ^ k) k st := by
  obtain ⟨eV, eU⟩ := pV_at hq hsq
  have hb : 0 < 2 ^ b := Nat.pow_pos (by decide)
  have ha : 0 < 2 ^ a := Nat.pow_pos (by decide)
  have hm : m = 2 ^ k * (m / 2 ^ k) + m % 2 ^ k := (Nat.div_add_mod m (2 ^ k)).symm
  have hr : m % 2 ^ k < 2 ^ k := Nat.mod_lt _ (Nat.pow_pos (by decide))
  have hU : 0 < 2 ^ a * Q := Nat.mul_pos ha hQ
  have ep : 2 ^ s * 2 ^ b = 2 ^ k * 2 ^ a := by rw [← Nat.pow_add, ← Nat.pow_add, hs]
  have hodd : 2 ∣ 2 ^ k := ⟨2 ^ (k - 1), by rw [Nat.mul_comm, ← Nat.pow_succ]; congr 1; omega⟩
  generalize m / 2 ^ k = q at *
  generalize m % 2 ^ k = r at *
  generalize hU' : 2 ^ a * Q = U at *
  have eA : m * 2 ^ a * Q = m * U := by rw [Nat.mul_assoc, hU']
  have eB : (m + 1) * 2 ^ a * Q = m * U + U := by rw [Nat.mul_assoc, hU', Nat.add_mul, Nat.one_mul]
  rw [eA] at h1 hst
  rw [eB] at h2
  -- boundaries in units
  have bd : ∀ z, z * 2 ^ s * Q * 2 ^ b = z * 2 ^ k * U := by
    intro z
    rw [← hU', Nat.mul_assoc, Nat.mul_comm Q, ← Nat.mul_assoc, Nat.mul_assoc z, ep, ← Nat.mul_assoc, Nat.mul_assoc (z * 2 ^ k)]
  have lo : q * 2 ^ s * Q ≤ P := by
    apply Nat.le_of_mul_le_mul_right _ hb
    rw [bd]
    refine Nat.le_trans (Nat.mul_le_mul_right U ?_) h1
    rw [hm, Nat.mul_comm q]; omega
  have hi : P < (q + 1) * 2 ^ s * Q := by
    apply Nat.lt_of_mul_lt_mul_right (a := 2 ^ b)
    rw [bd]
    refine Nat.lt_of_lt_of_le h2 ?_
    have h3 : (m + 1) * U ≤ (q + 1) * 2 ^ k * U := Nat.mul_le_mul_right U (by rw [hm, Nat.add_mul, Nat.one_mul, Nat.mul_comm q]; omega)
    rw [Nat.add_mul, Nat.one_mul] at h3
    exact h3
  refine ⟨⟨by rw [eV]; exact lo, by rw [pV_succ, eV, eU, ← Nat.succ_mul]; exact hi⟩, ?_⟩
  -- the tail
  have e0 : (P = q * 2 ^ s * Q) ↔ P * 2 ^ b = (m - r) * U := by
    have e1 : (m - r) * U = q * 2 ^ s * Q * 2 ^ b := by rw [bd]; congr 1; rw [Nat.mul_comm]; omega
    rw [e1]
    exact ⟨fun h => by rw [h], fun h => Nat.eq_of_mul_eq_mul_right hb h⟩
  have eh : ∀ z, 2 * z * 2 ^ b = 2 * (z * 2 ^ b) := fun z => Nat.mul_assoc _ _ _
  have ehalf : (2 * (q * 2 ^ s) + 2 ^ s) * Q * 2 ^ b = (2 * (m - r) + 2 ^ k) * U := by
    have e1 : (2 * (q * 2 ^ s) + 2 ^ s) = (2 * q + 1) * 2 ^ s := by rw [Nat.add_mul, Nat.one_mul, Nat.mul_assoc]
    rw [e1, bd, Nat.add_mul (2 * q), Nat.one_mul]
    congr 1
    have : q * 2 ^ k = m - r := by rw [Nat.mul_comm]; omega
    rw [Nat.mul_assoc, this]
  have cmp2 : ∀ (f : Nat → Nat → Prop), True := fun _ => trivial
  have lt_half : (2 * P < (2 * (q * 2 ^ s) + 2 ^ s) * Q) ↔ 2 * (P * 2 ^ b) < (2 * (m - r) + 2 ^ k) * U := by
    rw [← ehalf, ← eh]
    exact ⟨fun h => Nat.mul_lt_mul_of_pos_right h hb, fun h => Nat.lt_of_mul_lt_mul_right h⟩
  have eq_half : (2 * P = (2 * (q * 2 ^ s) + 2 ^ s) * Q) ↔ 2 * (P * 2 ^ b) = (2 * (m - r) + 2 ^ k) * U := by
    rw [← ehalf, ← eh]
    exact ⟨fun h => by rw [h], fun h => Nat.eq_of_mul_eq_mul_right hb h⟩
  obtain ⟨x, hx⟩ : ∃ x, P * 2 ^ b = m * U + x := ⟨P * 2 ^ b - m * U, by omega⟩
  have hxU : x < U := by omega
  have hmr : m * U = (m - r) * U + r * U := by rw [← Nat.add_mul]; congr 1; omega
  obtain ⟨h, hh⟩ := hodd
  have hkU : (2 * (m - r) + 2 ^ k) * U = 2 * ((m - r) * U) + 2 * (h * U) := by rw [hh, Nat.add_mul, Nat.mul_assoc, Nat.mul_assoc]
  rw [hx, hmr] at e0 lt_half eq_half hst
  rw [hkU] at lt_half eq_half
  have hst' : st = true ↔ (x ≠ 0 ∨ more = true) := by
    rw [hst]
    constructor
    · rintro (h1 | h1)
      · exact .inl (by omega)
      · exact .inr h1
    · rintro (h1 | h1)
      · exact .inl (by omega)
      · exact .inr h1
  unfold tl tailOf
  rw [eV, eU]
  by_cases r0 : r = 0
  · subst r0
    rw [if_pos rfl]
    rw [Nat.zero_mul] at e0 lt_half eq_half
    by_cases x0 : x = 0
    · rw [if_pos (e0.2 (by omega))]
      have : st = more := Bool.eq_iff_iff.2 ⟨fun z => (hst'.1 z).resolve_left (fun y => y x0), fun z => hst'.2 (.inr z)⟩
      rw [this]
    · have hs1 : st = true := hst'.2 (.inl x0)
      have hh1 : 1 * U ≤ h * U := Nat.mul_le_mul_right U (by
        have : 0 < 2 ^ k := Nat.pow_pos (by decide)
        omega)
      rw [if_neg (fun z => x0 (by have := e0.1 z; omega)), if_pos (lt_half.2 (by omega)), hs1]
      rfl
  · rw [if_neg r0]
    have hrU : 1 * U ≤ r * U := Nat.mul_le_mul_right U (by omega)
    rw [if_neg (fun z => by have := e0.1 z; omega)]
    by_cases c1 : 2 * r < 2 ^ k
    · have hc : (r + 1) * U ≤ h * U := Nat.mul_le_mul_right U (by omega)
      rw [Nat.add_mul, Nat.one_mul] at hc
      rw [if_pos c1, if_pos (lt_half.2 (by omega))]
    · have hc : h * U ≤ r * U := Nat.mul_le_mul_right U (by omega)
      rw [if_neg c1, if_neg (fun z => by have := lt_half.1 z; omega)]
      by_cases c2 : 2 * r = 2 ^ k
      · have hc2 : h * U = r * U := by congr 1; omega
        rw [if_pos c2]
        by_cases x0 : x = 0
        · rw [if_pos (eq_half.2 (by omega))]
          have : st = more := Bool.eq_iff_iff.2 ⟨fun z => (hst'.1 z).resolve_left (fun y => y x0), fun z => hst'.2 (.inr z)⟩
          rw [this]
        · have hs1 : st = true := hst'.2 (.inl x0)
          rw [if_neg (fun z => by have := eq_half.1 z; omega), hs1]
          rfl
      · have hc2 : (h + 1) * U ≤ r * U := Nat.mul_le_mul_right U (by omega)
        rw [Nat.add_mul, Nat.one_mul] at hc2
        rw [if_neg c2, if_neg (fun z => by have := eq_half.1 z; omega)]
end Go.Proofs.YtoefabmlkbhmpaaDoor.PA

namespace Go.Proofs.YtoefabmlkbhmpaaDoor.PA
open Go Go.RowKit Go.Proofs.YtoefabmlkbhmpaaDoorW.PrintWords Go.Proofs.YtoefabmlkbhmpaaDoorW.PrintLast Go.Proofs.YtoefabmlkbhmpaaDoorW.PrintMore
set_option linter.unusedVariables false
set_option linter.unusedSimpArgs false
/-- every number above 0 is an odd one times a power of two -/
theorem odd_part : ∀ n : Nat, 0 < n → ∃ o z, n = o * 2 ^ z ∧ o % 2 = 1 := by
  intro n
  induction n using Nat.strongRecOn with
  | ind n ih =>
    intro hn
    by_cases h : n % 2 = 1
    · exact ⟨n, 0, by simp, h⟩
    · obtain ⟨o, z, e, ho⟩ := ih (n / 2) (by omega) (by omega)
      exact ⟨o, z + 1, by rw [Nat.pow_succ, ← Nat.mul_assoc, ← e]; omega, ho⟩
theorem and_neg_odd' (n w : Nat) (h : w < 2 ^ n) (ho : w % 2 = 1) : w &&& (2 ^ n - w) = 1 := by
  apply Nat.eq_of_testBit_eq
  intro i
  have hw : w - 1 < 2 ^ n := by omega
  have e : 2 ^ n - w = 2 ^ n - ((w - 1) + 1) := by omega
  have hn : 0 < n := by
    rcases Nat.eq_zero_or_pos n with h0 | h0
    · subst h0; simp at h; omega
    · exact h0
  rw [e, Nat.testBit_and, Nat.testBit_two_pow_sub_succ hw]
  cases i with
  | zero =>
    have h1 : w.testBit 0 = true := by rw [Nat.testBit_zero]; exact decide_eq_true ho
    have h2 : (w - 1).testBit 0 = false := by rw [Nat.testBit_zero]; exact decide_eq_false (by omega)
    rw [h1, h2, decide_eq_true hn]
    rfl
  | succ i =>
    rw [Nat.testBit_succ, Nat.testBit_succ, Nat.testBit_succ, show (w - 1) / 2 = w / 2 from by omega]
    simp
    intro h1 _
    exact h1
theorem and_neg (o z : Nat) (hz : z < 64) (h : o * 2 ^ z < 18446744073709551616) (ho : o % 2 = 1) : (o * 2 ^ z) &&& (18446744073709551616 - o * 2 ^ z) = 2 ^ z := by
  have e64 : (18446744073709551616 : Nat) = 2 ^ (64 - z) * 2 ^ z := by rw [← Nat.pow_add, show 64 - z + z = 64 from by omega]
  have hp : 0 < 2 ^ z := Nat.pow_pos (by decide)
  have hlt : o < 2 ^ (64 - z) := by
    rw [e64] at h
    exact Nat.lt_of_mul_lt_mul_right h
  rw [e64, ← Nat.sub_mul, ← Nat.shiftLeft_eq, ← Nat.shiftLeft_eq, ← Nat.shiftLeft_and_distrib, and_neg_odd' _ _ hlt ho, Nat.shiftLeft_eq, Nat.one_mul]
theorem bitsN_pow (z : Nat) : bitsN (((2 ^ z : Nat) : Nat) : Int) = z + 1 := by
  have h1 : ((2 ^ z : Nat) : Int) = 2 ^ z := by rw [p2cast]
  refine (bitsN_iff (by rw [h1]; exact two_pow_pos z) z).2 ⟨by rw [h1]; exact Int.le_refl _, ?_⟩
  rw [h1, Int.pow_succ]
  have := two_pow_pos z
  omega
theorem wide_Zeros.f_eq {o z : Nat} (h : o * 2 ^ z < 18446744073709551616) (ho : o % 2 = 1) (k : Nat) (hk : 7 ≤ k) : wide_Zeros.f k ((o * 2 ^ z : Nat) : Int) = some (z : Int) := by
  have hp : 0 < 2 ^ z := Nat.pow_pos (by decide)
  have hw0 : 0 < o * 2 ^ z := Nat.mul_pos (by omega) hp
  have hz : z < 64 := by
    apply Classical.byContradiction
    intro hn
    have h1 : 2 ^ 64 ≤ 2 ^ z := Nat.pow_le_pow_right (by decide) (by omega)
    have h2 : 1 * 2 ^ z ≤ o * 2 ^ z := Nat.mul_le_mul_right _ (by omega)
    rw [show (2 : Nat) ^ 64 = 18446744073709551616 from by decide] at h1
    omega
  have ea := and_neg o z hz h ho
  generalize hx : o * 2 ^ z = x at *
  have en : IntKind.u64.wrap (-(x : Int)) = ((18446744073709551616 - x : Nat) : Int) := by rw [u64w]; omega
  rw [wide_Zeros.f, if_neg (by omega), en]
  have e1 := u64_and_nat x (18446744073709551616 - x) h (by omega)
  rw [ea] at e1
  have hz2 : ((2 ^ z : Nat) : Int) < 18446744073709551616 := by
    have h1 : 2 ^ z < 2 ^ 64 := Nat.pow_lt_pow_right (by decide) hz
    rw [show (2 : Nat) ^ 64 = 18446744073709551616 from by decide] at h1
    omega
  rw [e1, wide_Len.f_eq (Int.natCast_nonneg _) hz2 k hk, bitsN_pow]
  rw [Option.bind_some]
  congr 1
  rw [w64_of (by omega) (by omega)]
  omega
def sgn (neg : Bool) : Int := if neg then 9223372036854775808 else 0
theorem or_sgn (neg : Bool) {x : Int} (h0 : 0 ≤ x) (h1 : x < 9223372036854775808) : Go.bits .or .u64 (sgn neg) x = sgn neg + x := by
  cases neg
  · exact or_join 63 (by decide) (by decide) (by decide) h0 (by rw [show (2 : Int) ^ 63 = 9223372036854775808 from by decide]; exact h1) (by omega)
  · exact or_join 63 (by decide) (by decide) (by decide) h0 (by rw [show (2 : Int) ^ 63 = 9223372036854775808 from by decide]; exact h1) (by omega)
/-- the bits of o * 2^z -/
theorem bitsN_mul_pow {o : Nat} (ho : 0 < o) (z : Nat) : bitsN ((o * 2 ^ z : Nat) : Int) = bitsN (o : Int) + z := by
  have hb := bitsN_pos (x := (o : Int)) (by omega)
  obtain ⟨n, hn⟩ : ∃ n : Nat, bitsN (o : Int) = n + 1 := ⟨(bitsN (o : Int) - 1).toNat, by omega⟩
  have h1 := (bitsN_iff (by omega) n).1 hn
  have e : ((o * 2 ^ z : Nat) : Int) = (o : Int) * 2 ^ z := by rw [Int.natCast_mul, p2cast]
  have hp := two_pow_pos z
  have := (bitsN_iff (x := ((o * 2 ^ z : Nat) : Int)) (by rw [e]; exact Int.mul_pos (by omega) hp) (n + z)).2 ⟨by rw [e, Int.pow_add]; exact Int.mul_le_mul_of_nonneg_right h1.1 (by omega), by
    rw [e, show n + z + 1 = n + 1 + z from by omega, Int.pow_add]
    exact Int.mul_lt_mul_of_pos_right h1.2 hp⟩
  rw [this, hn]
  omega
theorem shr_nat (o z : Nat) (hz : z < 64) : shr .u64 ((o * 2 ^ z : Nat) : Int) (z : Int) = (o : Int) := by
  rw [shr_eq, Int.toNat_natCast, Nat.min_eq_left (by omega), p2cast, ← Int.natCast_ediv, Nat.mul_div_cancel _ (Nat.pow_pos (by decide))]
theorem shl_nat (o z : Nat) (hz : z < 64) (h : o * 2 ^ z < 18446744073709551616) : shl .u64 (o : Int) (z : Int) = ((o * 2 ^ z : Nat) : Int) := by
  rw [shl_eq, Int.toNat_natCast, Nat.min_eq_left (by omega), p2cast, ← Int.natCast_mul, Int.emod_eq_of_lt (Int.natCast_nonneg _) (by omega)]
/-- a mantissa at its place, joined -/
theorem f64_Join.f_eq (neg : Bool) (m s : Nat) (hm : m < 9007199254740992) (hs : s = 0 ∨ 4503599627370496 ≤ m) (hs2 : s ≤ 2045) (k : Nat) (hk : 20 ≤ k) :
    f64_Join.f k neg (m : Int) ((s : Int) - 1074) = some (sgn neg + ((s * 4503599627370496 + m : Nat) : Int), 0) := by
  obtain ⟨k, rfl⟩ : ∃ j, k = j + 3 := ⟨k - 3, by omega⟩
  have e0 : f64_Join.f (k + 3) neg (m : Int) ((s : Int) - 1074) = f64_Join.j0 (k + 3) (m : Int) ((s : Int) - 1074) (sgn neg) := by
    unfold f64_Join.f sgn
    cases neg <;> simp
  rw [e0]
  rw [show k + 3 = (k + 2) + 1 from rfl, f64_Join.j0]
  by_cases h0 : m = 0
  · subst h0
    obtain rfl : s = 0 := by omega
    rw [if_pos (show ((0 : Nat) : Int) = 0 from rfl)]
    simp
  · rw [if_neg (by omega), if_neg (by omega), decide_eq_false (by omega)]
    rw [show k + 2 = (k + 1) + 1 from rfl, f64_Join.j1]
    rw [if_neg (by decide)]
    obtain ⟨o, z, he, ho⟩ := odd_part m (by omega)
    have hz53 : z < 53 := by
      apply Classical.byContradiction
      intro hn
      have h1 : 2 ^ 53 ≤ 2 ^ z := Nat.pow_le_pow_right (by decide) (by omega)
      have h2 : 1 * 2 ^ z ≤ o * 2 ^ z := Nat.mul_le_mul_right _ (by omega)
      rw [show (2 : Nat) ^ 53 = 9007199254740992 from by decide] at h1
      omega
    have hopos : 0 < o := by omega
    have ole : o ≤ m := by rw [he]; exact Nat.le_mul_of_pos_right _ (Nat.pow_pos (by decide))
    have eb := bitsN_mul_pow hopos z
    rw [← he] at eb
    have b1 := bitsN_le_of_lt (x := (m : Int)) (n := 53) (by omega) (by rw [show (2 : Int) ^ 53 = 9007199254740992 from by decide]; omega)
    have b2 := bitsN_pos (x := (o : Int)) (by omega)
    have b3 : s ≠ 0 → bitsN (m : Int) = 53 := by
      intro hs0
      have := (bitsN_iff (x := (m : Int)) (by omega) 52).2 ⟨by rw [show (2 : Int) ^ 52 = 4503599627370496 from by decide]; omega, by rw [show (2 : Int) ^ (52 + 1) = 9007199254740992 from by decide]; omega⟩
      rw [this]; rfl
    have b4 : s = 0 → bitsN (m : Int) = 53 ∨ bitsN (m : Int) ≤ 52 := fun _ => by omega
    have hzf : wide_Zeros.f (k + 1) (m : Int) = some (z : Int) := by
      have := wide_Zeros.f_eq (o := o) (z := z) (by rw [← he]; omega) ho (k + 1) (by omega)
      rwa [← he] at this
    have hshr : shr .u64 (m : Int) (z : Int) = (o : Int) := by
      have := shr_nat o z (by omega)
      rwa [← he] at this
    rw [hzf, Option.bind_some, if_pos (by omega), hshr, wide_Len.f_eq (by omega) (by omega) (k + 1) (by omega), Option.bind_some]
    have ebo : bitsN (o : Int) = bitsN (m : Int) - z := by omega
    rw [ebo]
    have w1 : wrap64 ((s : Int) - 1074 + (z : Int)) = (s : Int) - 1074 + z := w64_of (by omega) (by omega)
    have w2 : wrap64 ((s : Int) - 1074 + z + (bitsN (m : Int) - z)) = (s : Int) - 1074 + bitsN (m : Int) := by rw [w64_of (by omega) (by omega)]; omega
    rw [w1, w2, if_neg (by omega), if_neg (by omega), decide_eq_false (by omega)]
    clear w1 w2
    rw [f64_Join.j2]
    rw [if_neg (by decide)]
    have w3 : wrap64 (53 - (bitsN (m : Int) - z)) = 53 - bitsN (m : Int) + z := by rw [w64_of (by omega) (by omega)]; omega
    have w4 : wrap64 ((s : Int) - 1074 + z + 1074) = (s : Int) + z := by rw [w64_of (by omega) (by omega)]; omega
    have e5 : mn (53 - bitsN (m : Int) + z) ((s : Int) + z) = (z : Int) := by
      unfold mn
      clear w3 w4
      by_cases hs0 : s = 0
      · split <;> omega
      · have := b3 hs0
        split <;> omega
    rw [w3, w4, e5]
    clear w3 w4 e5
    have hshl : shl .u64 (o : Int) (z : Int) = (m : Int) := by
      have := shl_nat o z (by omega) (by rw [← he]; omega)
      rwa [← he] at this
    rw [if_pos (by omega), hshl]
    by_cases hh : m < 4503599627370496
    · obtain rfl : s = 0 := by omega
      rw [if_pos (by omega), or_sgn neg (by omega) (by omega)]
      simp
    · rw [if_neg (by omega)]
      have w6 : wrap64 ((s : Int) - 1074 + z - z) = (s : Int) - 1074 := by rw [w64_of (by omega) (by omega)]; omega
      have w7 : wrap64 ((s : Int) - 1074 + 1075) = (s : Int) + 1 := by rw [w64_of (by omega) (by omega)]; omega
      rw [w6, w7]
      clear w6 w7
      rw [u64w_of (x := (s : Int) + 1) (by omega) (by omega), u64w_of (x := ((s : Int) + 1) * 4503599627370496) (by omega) (by omega)]
      rw [and_mask (x := (m : Int)) (by omega) (by omega) 52 (by decide) 4503599627370495 (by decide), show (2 : Int) ^ 52 = 4503599627370496 from by decide, or_sgn neg (by omega) (by omega)]
      have hm2 : (m : Int) % 4503599627370496 = (m : Int) - 4503599627370496 := by omega
      rw [hm2]
      rw [or_join (x := sgn neg + ((s : Int) + 1) * 4503599627370496) 52 (by unfold sgn; split <;> omega) (by unfold sgn; split <;> omega) (by rw [show (2 : Int) ^ 52 = 4503599627370496 from by decide]; unfold sgn; split <;> omega) (by omega) (by rw [show (2 : Int) ^ 52 = 4503599627370496 from by decide]; omega) (by omega)]
      congr 2
      omega
end Go.Proofs.YtoefabmlkbhmpaaDoor.PA

namespace Go.Proofs.YtoefabmlkbhmpaaDoor.PA
open Go Go.RowKit Go.Proofs.YtoefabmlkbhmpaaDoorW.PrintWords Go.Proofs.YtoefabmlkbhmpaaDoorW.PrintLast Go.Proofs.YtoefabmlkbhmpaaDoorW.PrintMore
set_option linter.unusedVariables false
set_option linter.unusedSimpArgs false
/-- does the mode go on to the next place? -/
def upB (mode : Int) (neg odd : Bool) (t : Nat) : Bool :=
  if mode = 0 then (t == 3 || (t == 2 && odd)) else if mode = 1 then false else if mode = 2 then t != 0 else if mode = 3 then (!neg && t != 0) else (neg && t != 0)
/-- does a number beyond the greatest stay there? -/
def staysB (mode : Int) (neg : Bool) : Bool := if mode = 1 then true else if mode = 3 then neg else if mode = 4 then !neg else false
/-- the pattern at a place, or what is told beyond the greatest -/
def outP (mode : Int) (neg : Bool) (d : Nat) : Int × Int :=
  if 9218868437227405311 < d then (if staysB mode neg then (sgn neg + 9218868437227405311, 0) else (0, 70)) else (sgn neg + (d : Int), 0)
def RS (mode : Int) (neg : Bool) (d t : Nat) : Int × Int := outP mode neg (if upB mode neg (d % 2 == 1) t then d + 1 else d)
/-- the place and the tail of m * 2^e (and a little more) -/
def flo (m : Nat) (e : Int) (st : Bool) : Nat × Nat :=
  if m = 0 then (0, if st then 1 else 0)
  else
    if 1 ≤ ((e + 1074 + bitsN (m : Int) - 53).toNat : Int) - (e + 1074) then
      ((e + 1074 + bitsN (m : Int) - 53).toNat * 4503599627370496 + m / 2 ^ (((e + 1074 + bitsN (m : Int) - 53).toNat : Int) - (e + 1074)).toNat,
        tailOf (m % 2 ^ (((e + 1074 + bitsN (m : Int) - 53).toNat : Int) - (e + 1074)).toNat) (((e + 1074 + bitsN (m : Int) - 53).toNat : Int) - (e + 1074)).toNat st)
    else ((e + 1074 + bitsN (m : Int) - 53).toNat * 4503599627370496 + m * 2 ^ (e + 1074 - ((e + 1074 + bitsN (m : Int) - 53).toNat : Int)).toNat, if st then 1 else 0)
theorem bits_bounds {m : Nat} (h : 0 < m) : ∃ L : Nat, bitsN (m : Int) = L + 1 ∧ 2 ^ L ≤ m ∧ m < 2 ^ (L + 1) := by
  have hb := bitsN_pos (x := (m : Int)) (by omega)
  obtain ⟨L, hL⟩ : ∃ n : Nat, bitsN (m : Int) = n + 1 := ⟨(bitsN (m : Int) - 1).toNat, by omega⟩
  have h1 := (bitsN_iff (by omega) L).1 hL
  rw [p2cast, p2cast] at h1
  exact ⟨L, hL, Int.ofNat_le.1 h1.1, Int.ofNat_lt.1 h1.2⟩
/-- the quotient fits its place -/
theorem flo_q {m L s j : Nat} (h1 : 2 ^ L ≤ m) (h2 : m < 2 ^ (L + 1)) (hj : L + 1 ≤ 53 + j) (hs : s = 0 ∨ L + 1 = 53 + j) : m / 2 ^ j < 9007199254740992 ∧ (s = 0 ∨ 4503599627370496 ≤ m / 2 ^ j) := by
  have hp : 0 < 2 ^ j := Nat.pow_pos (by decide)
  constructor
  · rw [Nat.div_lt_iff_lt_mul hp, show (9007199254740992 : Nat) = 2 ^ 53 from by decide, ← Nat.pow_add]
    exact Nat.lt_of_lt_of_le h2 (Nat.pow_le_pow_right (by decide) hj)
  · rcases hs with h | h
    · exact .inl h
    · refine .inr ?_
      rw [Nat.le_div_iff_mul_le hp, show (4503599627370496 : Nat) = 2 ^ 52 from by decide, ← Nat.pow_add, show 52 + j = L from by omega]
      exact h1
theorem flo_p {m L s j : Nat} (h1 : 2 ^ L ≤ m) (h2 : m < 2 ^ (L + 1)) (hj : L + 1 + j ≤ 53) (hs : s = 0 ∨ L + 1 + j = 53) : m * 2 ^ j < 9007199254740992 ∧ (s = 0 ∨ 4503599627370496 ≤ m * 2 ^ j) := by
  have hp : 0 < 2 ^ j := Nat.pow_pos (by decide)
  constructor
  · have h3 : m * 2 ^ j < 2 ^ (L + 1) * 2 ^ j := Nat.mul_lt_mul_of_pos_right h2 hp
    rw [← Nat.pow_add] at h3
    rw [show (9007199254740992 : Nat) = 2 ^ 53 from by decide]
    exact Nat.lt_of_lt_of_le h3 (Nat.pow_le_pow_right (by decide) hj)
  · rcases hs with h | h
    · exact .inl h
    · refine .inr ?_
      have h3 : 2 ^ L * 2 ^ j ≤ m * 2 ^ j := Nat.mul_le_mul_right _ h1
      rw [← Nat.pow_add] at h3
      rw [show (4503599627370496 : Nat) = 2 ^ 52 from by decide, show 52 = L + j from by omega]
      exact h3
theorem near_way.f_eq (mode : Int) (neg odd : Bool) (t : Nat) : near_way.f mode neg odd (t : Int) = some (upB mode neg odd t) := by
  have b3 : ((t : Int) = 3) ↔ t = 3 := by omega
  have b2 : ((t : Int) = 2) ↔ t = 2 := by omega
  have b0 : ((t : Int) = 0) ↔ t = 0 := by omega
  unfold near_way.f upB near_wayC1.f near_wayC2.f near_wayC3.f near_wayC4.f near_wayC5.f
  by_cases c0 : mode = 0
  · rw [if_pos c0, if_pos c0]
    by_cases c3 : t = 3
    · rw [if_pos (b3.2 c3), Option.bind_some]; simp [c3]
    · rw [if_neg (fun h => c3 (b3.1 h))]
      by_cases c2 : t = 2
      · rw [if_pos (b2.2 c2), Option.bind_some]; simp [c2]
      · rw [if_neg (fun h => c2 (b2.1 h)), Option.bind_some]; simp [c3, c2]
  · rw [if_neg c0, if_neg c0]
    by_cases c1 : mode = 1
    · rw [if_pos c1, if_pos c1]; rfl
    · rw [if_neg c1, if_neg c1]
      have hne : ((t : Int) != 0) = (t != 0) := by rw [Bool.eq_iff_iff]; simp
      by_cases c2 : mode = 2
      · rw [if_pos c2, if_pos c2, Option.bind_some, hne]
      · rw [if_neg c2, if_neg c2]
        by_cases c3 : mode = 3
        · rw [if_pos c3, if_pos c3]; cases neg <;> simp [hne]
        · rw [if_neg c3, if_neg c3]; cases neg <;> simp [hne]
theorem near_stays.f_eq {mode : Int} (h0 : 0 ≤ mode) (h4 : mode ≤ 4) (neg : Bool) : near_stays.f mode (if neg then 1 else 0) = some (staysB mode neg) := by
  have : mode = 0 ∨ mode = 1 ∨ mode = 2 ∨ mode = 3 ∨ mode = 4 := by omega
  rcases this with h | h | h | h | h <;> subst h <;> cases neg <;> rfl
/-- the last part: the pattern at the place -/
theorem near_finish.j7_eq (neg : Bool) (mode : Int) (h0 : 0 ≤ mode) (h4 : mode ≤ 4) (m s : Nat) (hm : m < 9007199254740992) (hs : s = 0 ∨ 4503599627370496 ≤ m) (hsb : s ≤ 4398046511104) (k : Nat) (hk : 20 ≤ k) :
    near_finish.j7 (k + 1) neg (m : Int) mode (sgn neg) (if neg then 1 else 0) ((s : Int) - 1074) = some (outP mode neg (s * 4503599627370496 + m)) := by
  rw [near_finish.j7]
  unfold outP
  by_cases hbig : 971 < (s : Int) - 1074
  · have hb : 9218868437227405311 < s * 4503599627370496 + m := by omega
    rw [if_pos hbig, near_stays.f_eq h0 h4 neg, Option.bind_some, if_pos hb]
    cases hst : staysB mode neg
    · rw [if_neg (by decide), if_neg (by decide)]
    · rw [if_pos rfl, if_pos rfl, or_sgn neg (by decide) (by decide)]
  · rw [if_neg hbig, f64_Join.f_eq neg m s hm hs (by omega) k hk, Option.bind_some, if_neg (by omega)]
theorem near_finish.j6_eq (neg : Bool) (mode : Int) (h0 : 0 ≤ mode) (h4 : mode ≤ 4) (m s : Nat) (hm : m ≤ 9007199254740992) (hs : s = 0 ∨ 4503599627370496 ≤ m) (hsb : s ≤ 4398046511103) (k : Nat) (hk : 20 ≤ k) :
    near_finish.j6 (k + 2) neg (m : Int) mode (sgn neg) (if neg then 1 else 0) ((s : Int) - 1074) = some (outP mode neg (s * 4503599627370496 + m)) := by
  rw [near_finish.j6]
  by_cases he : m = 9007199254740992
  · have w1 : wrap64 ((s : Int) - 1074 + 1) = ((s + 1 : Nat) : Int) - 1074 := by rw [w64_of (by omega) (by omega)]; omega
    have r := near_finish.j7_eq neg mode h0 h4 4503599627370496 (s + 1) (by omega) (.inr (Nat.le_refl _)) (by omega) k hk
    rw [if_pos (by omega), w1]
    rw [show (s + 1) * 4503599627370496 + 4503599627370496 = s * 4503599627370496 + m from by omega] at r
    exact r
  · rw [if_neg (by omega)]
    exact near_finish.j7_eq neg mode h0 h4 m s (by omega) hs (by omega) k hk
theorem near_finish.j5_eq (neg : Bool) (mode : Int) (h0 : 0 ≤ mode) (h4 : mode ≤ 4) (m s t : Nat) (hm : m < 9007199254740992) (hs : s = 0 ∨ 4503599627370496 ≤ m) (hsb : s ≤ 4398046511103) (k : Nat) (hk : 20 ≤ k) :
    near_finish.j5 (k + 3) neg (m : Int) mode (sgn neg) (if neg then 1 else 0) ((s : Int) - 1074) (t : Int) = some (RS mode neg (s * 4503599627370496 + m) t) := by
  rw [near_finish.j5]
  have eo : ((Go.bits .and .u64 (m : Int) 1) == 1) = ((s * 4503599627370496 + m) % 2 == 1) := by
    rw [show Go.bits .and .u64 (m : Int) 1 = (m : Int) % 2 from and_mask (by omega) (by omega) 1 (by omega) _ rfl, Bool.eq_iff_iff, beq_iff_eq, beq_iff_eq]
    omega
  rw [near_way.f_eq, Option.bind_some, eo]
  unfold RS
  by_cases hu : upB mode neg ((s * 4503599627370496 + m) % 2 == 1) t = true
  · rw [if_pos hu, if_pos hu, u64w_of (by omega) (by omega)]
    have r := near_finish.j6_eq neg mode h0 h4 (m + 1) s (by omega) (by omega) hsb k hk
    have e : s * 4503599627370496 + (m + 1) = s * 4503599627370496 + m + 1 := by omega
    have ec : ((m + 1 : Nat) : Int) = (m : Int) + 1 := by omega
    rw [e, ec] at r
    exact r
  · rw [if_neg hu, if_neg hu]
    exact near_finish.j6_eq neg mode h0 h4 m s (by omega) hs hsb k hk
/-- the tail, and a little more -/
def bump (t : Nat) (st : Bool) : Nat := if st then (if t = 0 then 1 else if t = 2 then 3 else t) else t
theorem near_finish.j3_eq (neg : Bool) (mode : Int) (h0 : 0 ≤ mode) (h4 : mode ≤ 4) (m s t : Nat) (st : Bool) (hm : m < 9007199254740992) (hs : s = 0 ∨ 4503599627370496 ≤ m) (hsb : s ≤ 4398046511103) (ht : t ≤ 3) (k : Nat) (hk : 20 ≤ k) :
    near_finish.j3 (k + 5) neg (m : Int) st mode (sgn neg) (if neg then 1 else 0) ((s : Int) - 1074) (t : Int) = some (RS mode neg (s * 4503599627370496 + m) (bump t st)) := by
  have a4 : ∀ b : Bool, near_finish.j4 (k + 4) neg (m : Int) mode (sgn neg) (if neg then 1 else 0) ((s : Int) - 1074) (t : Int) b = some (RS mode neg (s * 4503599627370496 + m) (if b then t + 1 else t)) := by
    intro b
    rw [near_finish.j4]
    cases b
    · rw [if_neg (by decide)]
      exact near_finish.j5_eq neg mode h0 h4 m s t hm hs hsb k hk
    · have w1 : wrap64 ((t : Int) + 1) = ((t + 1 : Nat) : Int) := by rw [w64_of (by omega) (by omega)]; omega
      rw [if_pos rfl, w1]
      exact near_finish.j5_eq neg mode h0 h4 m s (t + 1) hm hs hsb k hk
  rw [near_finish.j3]
  unfold bump
  cases st
  · rw [if_neg (by decide), a4]; rfl
  · rw [if_pos rfl]
    by_cases t0 : t = 0
    · rw [if_pos (by omega), a4, t0]; rfl
    · rw [if_neg (by omega), a4]
      by_cases t2 : t = 2
      · subst t2; rfl
      · have : ((t : Int) == 2) = false := beq_eq_false_iff_ne.2 (by omega)
        rw [this]
        simp [t0, t2]
theorem bump_tail (r k : Nat) (st : Bool) : bump (tailOf r k false) st = tailOf r k st := by
  unfold bump tailOf
  cases st
  · simp
  · by_cases h0 : r = 0
    · simp [h0]
    · by_cases h1 : 2 * r < 2 ^ k
      · simp [h0, h1]
      · by_cases h2 : 2 * r = 2 ^ k
        · simp [h0, h2]
        · simp [h0, h1, h2]
end Go.Proofs.YtoefabmlkbhmpaaDoor.PA

namespace Go.Proofs.YtoefabmlkbhmpaaDoor.PA
open Go Go.RowKit Go.Proofs.YtoefabmlkbhmpaaDoorW.PrintWords Go.Proofs.YtoefabmlkbhmpaaDoorW.PrintLast Go.Proofs.YtoefabmlkbhmpaaDoorW.PrintMore
set_option linter.unusedVariables false
set_option linter.unusedSimpArgs false
theorem w64x {x : Int} {n : Nat} (h : x = (n : Int)) (hn : n ≤ 9223372036854775807) : wrap64 x = (n : Int) := by rw [h, w64_of (by omega) (by omega)]
theorem pow_nat_lt {j : Nat} (h : j ≤ 63) : 2 ^ j ≤ 9223372036854775808 := by
  rw [show (9223372036854775808 : Nat) = 2 ^ 63 from by decide]
  exact Nat.pow_le_pow_right (by decide) h
theorem cut_maskE (j : Nat) (h1 : 1 ≤ j) (h2 : j ≤ 64) : shl .u64 1 ((j - 1 : Nat) : Int) = ((2 ^ (j - 1) : Nat) : Int) ∧ IntKind.u64.wrap (IntKind.u64.wrap (((2 ^ (j - 1) : Nat) : Int) * 2) - 1) = 2 ^ j - 1 := by
  have hp := pow_nat_lt (j := j - 1) (by omega)
  constructor
  · have := shl_nat 1 (j - 1) (by omega) (by omega)
    rw [Nat.one_mul] at this
    exact this
  · have e : (2 : Int) ^ j = ((2 ^ (j - 1) : Nat) : Int) * 2 := by
      rw [p2cast]
      have : 2 ^ j = 2 ^ (j - 1) * 2 := by rw [← Nat.pow_succ]; congr 1; omega
      rw [this, Int.natCast_mul]; rfl
    by_cases h64 : j = 64
    · subst h64; decide
    · have hp2 := pow_nat_lt (j := j) (by omega)
      have hp3 : 0 < 2 ^ (j - 1) := Nat.pow_pos (by decide)
      rw [p2cast] at e
      rw [p2cast, e]
      generalize 2 ^ (j - 1) = z at *
      rw [u64w_of (x := (z : Int) * 2) (by omega) (by omega), u64w_of (by omega) (by omega)]
theorem near_cut.f_eq (m j : Nat) (hm : m < 18446744073709551616) (h1 : 1 ≤ j) (hj : j ≤ 9007199254740992) (k : Nat) (hk : 1 ≤ k) : near_cut.f k (m : Int) (j : Int) = some (((m / 2 ^ j : Nat) : Int), ((tailOf (m % 2 ^ j) j false : Nat) : Int)) := by
  obtain ⟨k, rfl⟩ : ∃ i, k = i + 1 := ⟨k - 1, by omega⟩
  rw [near_cut.f]
  by_cases h0 : m = 0
  · subst h0
    rw [if_pos (show ((0 : Nat) : Int) = 0 from rfl), near_cut.j0, if_pos rfl, Nat.zero_div, Nat.zero_mod]
    rfl
  · rw [if_neg (by omega), decide_eq_false (by omega), near_cut.j0, if_neg (by decide)]
    by_cases hbig : j > 64
    · have hp : 2 ^ 65 ≤ 2 ^ j := Nat.pow_le_pow_right (by decide) hbig
      rw [show (2 : Nat) ^ 65 = 36893488147419103232 from by decide] at hp
      have hq : m / 2 ^ j = 0 := Nat.div_eq_of_lt (by omega)
      have hr : m % 2 ^ j = m := Nat.mod_eq_of_lt (by omega)
      rw [if_pos (by omega), hq, hr]
      unfold tailOf
      rw [if_neg h0, if_pos (by omega)]
      rfl
    · rw [if_neg (by omega)]
      obtain ⟨m1, m2⟩ := cut_maskE j h1 (by omega)
      have hw : wrap64 ((j : Int) - 1) = ((j - 1 : Nat) : Int) := w64x (by omega) (by omega)
      have hand : Go.bits .and .u64 (m : Int) (IntKind.u64.wrap (IntKind.u64.wrap (((2 ^ (j - 1) : Nat) : Int) * 2) - 1)) = ((m % 2 ^ j : Nat) : Int) := by
        rw [m2, and_mask (x := (m : Int)) (by omega) (by omega) j (by omega) _ rfl, p2cast, Int.natCast_emod]
      have hS : ∃ x, wide_Shr.f 0 (m : Int) (j : Int) = some (x, ((m / 2 ^ j : Nat) : Int), decide (m % 2 ^ j ≠ 0)) := by
        by_cases h64 : j = 64
        · subst h64
          have hq : m / 2 ^ 64 = 0 := Nat.div_eq_of_lt (by rw [show (2 : Nat) ^ 64 = 18446744073709551616 from by decide]; exact hm)
          have hr : m % 2 ^ 64 = m := Nat.mod_eq_of_lt (by rw [show (2 : Nat) ^ 64 = 18446744073709551616 from by decide]; exact hm)
          refine ⟨0, ?_⟩
          rw [hq, hr, wide_Shr.f, wide_within.f, Option.bind_some]
          have e1 : mn (mx ((64 : Nat) : Int) 0) 128 = 64 := by decide
          have e2 : wrap64 (64 - 64) = 0 := by rw [w64_of (by omega) (by omega)]; rfl
          have e3 : wrap64 (128 - 64) = 64 := by rw [w64_of (by omega) (by omega)]; rfl
          rw [e1, e2, e3, if_pos (by decide)]
          rw [if_neg (by omega), if_pos (by decide), decide_eq_true h0]
          rfl
        · refine ⟨0, ?_⟩
          rw [wide_Shr.f_eq (hi := 0) (lo := (m : Int)) (s := j) (by omega) (by decide) (by decide) (by omega) (by omega)]
          have hR := two_pow_pos (64 - j)
          have hl := shl_low (x := (m : Int)) hR (pow_split' (s := j) (by omega))
          rw [hl, Int.zero_ediv, Int.zero_mul, Int.zero_emod, Int.zero_add, p2cast j, ← Int.natCast_ediv, ← Int.natCast_emod]
          congr 3
          rw [decide_eq_decide]
          constructor
          · intro h hz; exact h (by rw [hz]; simp)
          · intro h hz
            rcases Int.mul_eq_zero.1 hz with h3 | h3
            · omega
            · exact h (Int.ofNat.inj h3)
      obtain ⟨x, hS⟩ := hS
      rw [hS, Option.bind_some]
      by_cases hl : m % 2 ^ j = 0
      · rw [if_neg (by simp [hl]), hl]; rfl
      · rw [if_pos (by simp [hl]), hw, if_pos (Int.natCast_nonneg _), m1, hand]
        have h2 : 2 ^ j = 2 * 2 ^ (j - 1) := by rw [Nat.mul_comm, ← Nat.pow_succ]; congr 1; omega
        unfold tailOf
        rw [if_neg hl]
        generalize m % 2 ^ j = r at *
        generalize hz : 2 ^ (j - 1) = z at *
        rw [h2]
        by_cases c1 : r < z
        · rw [if_pos (by omega), if_pos (by omega)]; rfl
        · rw [if_neg (by omega)]
          by_cases c2 : r = z
          · rw [if_neg (by omega), if_neg (by omega), if_pos (by omega)]; rfl
          · rw [if_pos (by omega), if_neg (by omega), if_neg (by omega)]; rfl
theorem RS_zero (mode : Int) (neg : Bool) : RS mode neg 0 0 = (sgn neg, 0) := by
  have hu : upB mode neg (0 % 2 == 1) 0 = false := by
    unfold upB
    split <;> (try rfl)
    split <;> (try rfl)
    split <;> (try rfl)
    split <;> simp
  unfold RS
  rw [hu, if_neg (by decide)]
  unfold outP
  rw [if_neg (by decide)]
  simp
theorem near_finish.f_eq (neg : Bool) (mode : Int) (h0 : 0 ≤ mode) (h4 : mode ≤ 4) (m : Nat) (hm : m < 18446744073709551616) (exp : Int) (he1 : -2199023255552 ≤ exp) (he2 : exp ≤ 2199023255552) (st : Bool) (k : Nat) (hk : 60 ≤ k) :
    near_finish.f k neg (m : Int) exp st mode = some (RS mode neg (flo m exp st).1 (flo m exp st).2) := by
  obtain ⟨k, rfl⟩ : ∃ i, k = i + 8 := ⟨k - 8, by omega⟩
  have e0 : near_finish.f (k + 8) neg (m : Int) exp st mode = near_finish.j0 (k + 8) neg (m : Int) exp st mode (sgn neg) (if neg then 1 else 0) := by
    unfold near_finish.f sgn
    cases neg <;> simp
  rw [e0, near_finish.j0]
  by_cases hz : m = 0
  · subst hz
    have h00 : ((0 : Nat) : Int) = 0 := rfl
    rw [if_pos h00]
    unfold flo
    rw [if_pos rfl]
    cases st
    · rw [near_finish.j1, if_pos (by decide)]
      exact congrArg some (RS_zero mode neg).symm
    · have r := near_finish.j3_eq neg mode h0 h4 0 0 0 true (by decide) (.inl rfl) (by decide) (by decide) k (by omega)
      have hl : wide_Len.f (k + 6) ((0 : Nat) : Int) = some (bitsN ((0 : Nat) : Int)) := wide_Len.f_eq (by decide) (by decide) (k + 6) (by omega)
      rw [near_finish.j1, if_neg (by decide), hl, Option.bind_some, if_pos h00, near_finish.j2]
      by_cases hc : (-1074 : Int) > exp
      · have hw : wrap64 (-1074 - exp) = ((-1074 - exp).toNat : Int) := w64x (by omega) (by omega)
        rw [if_pos hc, hw, near_cut.f_eq 0 (-1074 - exp).toNat (by decide) (by omega) (by omega) (k + 5) (by omega), Option.bind_some, Nat.zero_div, Nat.zero_mod]
        exact r
      · rw [if_neg hc, if_pos h00]
        exact r
  · obtain ⟨L, hL, hb1, hb2⟩ := bits_bounds (m := m) (by omega)
    have hL64 : L ≤ 63 := by
      apply Classical.byContradiction
      intro hn
      have h1 : 2 ^ 64 ≤ 2 ^ L := Nat.pow_le_pow_right (by decide) (by omega)
      rw [show (2 : Nat) ^ 64 = 18446744073709551616 from by decide] at h1
      omega
    have hl : wide_Len.f (k + 6) (m : Int) = some (bitsN (m : Int)) := wide_Len.f_eq (by omega) (by omega) (k + 6) (by omega)
    have hlast : mx (wrap64 (wrap64 (exp + bitsN (m : Int)) - 53)) (-1074) = (((exp + 1074 + bitsN (m : Int) - 53).toNat : Nat) : Int) - 1074 := by
      rw [hL, w64_of (x := exp + (L + 1)) (by omega) (by omega), w64_of (by omega) (by omega)]
      unfold mx
      split <;> omega
    rw [if_neg (by omega), near_finish.j1, if_neg (by decide), hl, Option.bind_some, if_neg (by omega), hlast, near_finish.j2]
    unfold flo
    rw [if_neg hz]
    clear hlast hl
    generalize hs : (exp + 1074 + bitsN (m : Int) - 53).toNat = s at *
    rw [hL] at hs
    by_cases hc : 1 ≤ (s : Int) - (exp + 1074)
    · rw [if_pos hc, if_pos (by omega)]
      obtain ⟨j, hj⟩ : ∃ j : Nat, (s : Int) - (exp + 1074) = (j : Int) := ⟨((s : Int) - (exp + 1074)).toNat, by omega⟩
      have hw : wrap64 ((s : Int) - 1074 - exp) = (j : Int) := w64x (by omega) (by omega)
      obtain ⟨q1, q2⟩ := flo_q (s := s) (j := j) hb1 hb2 (by omega) (by omega)
      rw [hw, hj, Int.toNat_natCast, near_cut.f_eq m j hm (by omega) (by omega) (k + 5) (by omega), Option.bind_some]
      have ht : tailOf (m % 2 ^ j) j false ≤ 3 := by
        unfold tailOf
        split
        · decide
        · split
          · decide
          · split <;> decide
      have r := near_finish.j3_eq neg mode h0 h4 (m / 2 ^ j) s (tailOf (m % 2 ^ j) j false) st q1 q2 (by omega) ht k (by omega)
      rw [bump_tail] at r
      exact r
    · rw [if_neg hc, if_neg (by omega), if_neg (by omega)]
      obtain ⟨j, hj⟩ : ∃ j : Nat, exp + 1074 - (s : Int) = (j : Int) := ⟨(exp + 1074 - (s : Int)).toNat, by omega⟩
      have hw : wrap64 (exp - ((s : Int) - 1074)) = (j : Int) := w64x (by omega) (by omega)
      obtain ⟨q1, q2⟩ := flo_p (s := s) (j := j) hb1 hb2 (by omega) (by omega)
      rw [hw, hj, Int.toNat_natCast, if_pos (Int.natCast_nonneg _), shl_nat m j (by omega) (by omega)]
      have r := near_finish.j3_eq neg mode h0 h4 (m * 2 ^ j) s 0 st q1 q2 (by omega) (by decide) k (by omega)
      exact r
end Go.Proofs.YtoefabmlkbhmpaaDoor.PA
