/- A part of the proof (5). -/
import Derived.Test.YtoannkopciehcaaDoorULB2
import Derived.Test.YtoannkopciehcaaDoorULB4
namespace Go.Proofs.YtoannkopciehcaaDoor.PA
open Go.RowKit Go.Proofs.YtoannkopciehcaaDoorW.PrintWords Go.Proofs.YtoannkopciehcaaDoorW.PrintLast Go.Proofs.YtoannkopciehcaaDoorW.PrintMore
attribute [local go_sem] max2_int min2_int max_two min_two max_three min_three max_four min_four   -- for this text's walks alone
set_option linter.unusedVariables false
set_option linter.unusedSimpArgs false

/-! ### nat_Mul: function 20 (by hand) -/
mutual
def nat_Mul.j0 : Nat → List Int → List Int → Bool → Option (List Int × Int)
 | 0, _, _, _ => none
 | k + 1, x0, x1, x30 => if x30 = true then (some (([] : List Int), 0)) else ((nat_Bits.f k x0).bind fun t113 => ((nat_Bits.f k x1).bind fun t114 => (if (wrap64 (t113 - 1)) > (wrap64 (262144 - t114)) then (some (([] : List Int), 21)) else (if 0 ≤ (wrap64 ((x0.length : Int) + (x1.length : Int))) then (if (wrap64 ((x0.length : Int) + (x1.length : Int)) : Int).toNat ≤ 35184372088832 then (nat_Mul.l0 k x1 (List.replicate (wrap64 ((x0.length : Int) + (x1.length : Int)) : Int).toNat 0) x0 (x0.length : Int) 0) else (none)) else (none)))))
def nat_Mul.l0 : Nat → List Int → List Int → List Int → Int → Int → Option (List Int × Int)
 | 0, _, _, _, _, _ => none
 | k + 1, x1, x6, x44, x45, x46 => if x46 < x45 then (if 0 ≤ x46 then (if x46 < (x44.length : Int) then (nat_Mul.l1 k x1 x6 x46 (rd x44 x46) 0 x44 x45 x46 x1 (x1.length : Int) 0) else (none)) else (none)) else ((nat_bound.f k x6).bind fun bt118 => (some (bt118.1, bt118.2)))
def nat_Mul.l1 : Nat → List Int → List Int → Int → Int → Int → List Int → Int → Int → List Int → Int → Int → Option (List Int × Int)
 | 0, _, _, _, _, _, _, _, _, _, _, _ => none
 | k + 1, x1, x6, x7, x8, x9, x44, x45, x46, x51, x52, x53 => if x53 < x52 then (if 0 ≤ x53 then (if x53 < (x51.length : Int) then ((wide_Mul.f x8 (rd x51 x53)).bind fun bt124 => (if 0 ≤ (wrap64 (x7 + x53)) then (if (wrap64 (x7 + x53)) < (x6.length : Int) then ((wide_Add.f bt124.2 (rd x6 (wrap64 (x7 + x53))) 0).bind fun bt127 => ((wide_Add.f bt127.1 x9 0).bind fun bt129 => (nat_Mul.l1 k x1 (x6.set ((wrap64 (x7 + x53)) : Int).toNat bt129.1) x7 x8 (IntKind.u64.wrap ((IntKind.u64.wrap (bt124.1 + bt127.2)) + bt129.2)) x44 x45 x46 x51 x52 (wrap64 (x53 + 1))))) else (none)) else (none))) else (none)) else (none)) else (if 0 ≤ (wrap64 (x7 + (x1.length : Int))) then (if (wrap64 (x7 + (x1.length : Int))) < (x6.length : Int) then (nat_Mul.l0 k x1 (x6.set ((wrap64 (x7 + (x1.length : Int))) : Int).toNat x9) x44 x45 (wrap64 (x46 + 1))) else (none)) else (none))
end
def nat_Mul.f (k : Nat) (l0 : List Int) (l1 : List Int) : Option (List Int × Int) := (nat_size.f k l0).bind fun t109 => (if 0 ≤ t109 then (if t109 ≤ (l0.length : Int) then ((nat_size.f k l1).bind fun t111 => (if 0 ≤ t111 then (if t111 ≤ (l1.length : Int) then (if ((l0.take (t109 : Int).toNat).length : Int) = 0 then (nat_Mul.j0 k (l0.take (t109 : Int).toNat) (l1.take (t111 : Int).toNat) true) else (nat_Mul.j0 k (l0.take (t109 : Int).toNat) (l1.take (t111 : Int).toNat) (((l1.take (t111 : Int).toNat).length : Int) == 0))) else (none)) else (none))) else (none)) else (none))
theorem nat_Mul.mono_l : ∀ k, (∀ y0 y1 y2, LeO (nat_Mul.j0 k y0 y1 y2) (nat_Mul.j0 (k + 1) y0 y1 y2)) ∧ (∀ y0 y1 y2 y3 y4, LeO (nat_Mul.l0 k y0 y1 y2 y3 y4) (nat_Mul.l0 (k + 1) y0 y1 y2 y3 y4)) ∧ (∀ y0 y1 y2 y3 y4 y5 y6 y7 y8 y9 y10, LeO (nat_Mul.l1 k y0 y1 y2 y3 y4 y5 y6 y7 y8 y9 y10) (nat_Mul.l1 (k + 1) y0 y1 y2 y3 y4 y5 y6 y7 y8 y9 y10))
 | 0 => ⟨fun _ _ _ r h => by simp [nat_Mul.j0] at h, fun _ _ _ _ _ r h => by simp [nat_Mul.l0] at h, fun _ _ _ _ _ _ _ _ _ _ _ r h => by simp [nat_Mul.l1] at h⟩
 | k + 1 => by
  obtain ⟨ih0, ih1, ih2⟩ := nat_Mul.mono_l k
  refine ⟨?_, ?_, ?_⟩
  ·intro y0 y1 y2
   unfold nat_Mul.j0
   have m0_ := nat_Bits.mono
   have m1_ := nat_bound.mono
   have m2_ := nat_size.mono
   exact mX
  ·intro y0 y1 y2 y3 y4
   unfold nat_Mul.l0
   have m0_ := nat_Bits.mono
   have m1_ := nat_bound.mono
   have m2_ := nat_size.mono
   exact mX
  ·intro y0 y1 y2 y3 y4 y5 y6 y7 y8 y9 y10
   unfold nat_Mul.l1
   have m0_ := nat_Bits.mono
   have m1_ := nat_bound.mono
   have m2_ := nat_size.mono
   exact mX
theorem nat_Mul.mono : ∀ a0 a1 k, LeO (nat_Mul.f k a0 a1) (nat_Mul.f (k + 1) a0 a1) := by
 intro a0 a1 k
 obtain ⟨ih0, ih1, ih2⟩ := nat_Mul.mono_l k
 unfold nat_Mul.f
 have m0_ := nat_Bits.mono
 have m1_ := nat_bound.mono
 have m2_ := nat_size.mono
 exact mX
set_option maxHeartbeats 8000000 in
set_option maxRecDepth 100000 in
theorem nat_Mul.calls (k : Nat) (A0 : Option Addr) (c0 : Nat) (l0 : List Int) (A1 : Option Addr) (c1 : Nat) (l1 : List Int) (r1 : List Int) (r2 : Int) (w : World) (hr0 : Kd.C (Kd.int .u64) w A0 l0.length l0) (hc0 : l0.length ≤ c0) (hr1 : Kd.C (Kd.int .u64) w A1 l1.length l1) (hc1 : l1.length ≤ c1) (h : nat_Mul.f k l0 l1 = some (r1, r2)) :
  Calls Tryd.prog 20 #[.slice A0 l0.length c0, .slice A1 l1.length c1] w fun e w' => ∃ v0_ : Value, e = .returned (.tuple #[v0_, .int .i64 r2]) ∧ Kd.R (Kd.int .u64) 22 w' w.heap.size (fun _ => True) v0_ r1 ∧ Below w.heap.size w w' := by
 have HR0 := Aside0.mk hr0
 have HC0 := Aside0.mk hc0
 clear hr0 hc0
 have HR1 := Aside0.mk hr1
 have HC1 := Aside0.mk hc1
 clear hr1 hc1
 have HB := Aside0.mk (Below.refl w.heap.size w)
 have H : ((nat_size.f k l0).bind fun t109 => (if 0 ≤ t109 then (if t109 ≤ (l0.length : Int) then ((nat_size.f k l1).bind fun t111 => (if 0 ≤ t111 then (if t111 ≤ (l1.length : Int) then (if ((l0.take (t109 : Int).toNat).length : Int) = 0 then (nat_Mul.j0 k (l0.take (t109 : Int).toNat) (l1.take (t111 : Int).toNat) true) else (nat_Mul.j0 k (l0.take (t109 : Int).toNat) (l1.take (t111 : Int).toNat) (((l1.take (t111 : Int).toNat).length : Int) == 0))) else (none)) else (none))) else (none)) else (none))) = some (r1, r2) := h
 clear h
 replace H := obe H
 obtain ⟨t109, A30, H⟩ := H
 (try dsimp only at H)
 have A3 := Aside0.mk A30
 clear A30
 by_cases c4 : (0 : Int) ≤ t109
 ·rw [if_pos c4] at H
  have c4b0 := eq_true c4
  have c4b1 : decide (0 ≤ t109) = true := decide_eq_true c4
  clear c4
  by_cases c5 : t109 ≤ (l0.length : Int)
  ·rw [if_pos c5] at H
   have c5b0 := eq_true c5
   have c5b1 : decide (t109 ≤ (l0.length : Int)) = true := decide_eq_true c5
   clear c5
   obtain ⟨z109, Nz1090⟩ : ∃ z_ : List Int, (l0.take (t109 : Int).toNat) = z_ := ⟨_, rfl⟩
   rw [Nz1090] at H
   have Nz109 := Aside0.mk Nz1090
   clear Nz1090
   replace H := obe H
   obtain ⟨t111, A60, H⟩ := H
   (try dsimp only at H)
   have A6 := Aside0.mk A60
   clear A60
   by_cases c7 : (0 : Int) ≤ t111
   ·rw [if_pos c7] at H
    have c7b0 := eq_true c7
    have c7b1 : decide (0 ≤ t111) = true := decide_eq_true c7
    clear c7
    by_cases c8 : t111 ≤ (l1.length : Int)
    ·rw [if_pos c8] at H
     have c8b0 := eq_true c8
     have c8b1 : decide (t111 ≤ (l1.length : Int)) = true := decide_eq_true c8
     clear c8
     obtain ⟨z111, Nz1110⟩ : ∃ z_ : List Int, (l1.take (t111 : Int).toNat) = z_ := ⟨_, rfl⟩
     rw [Nz1110] at H
     have Nz111 := Aside0.mk Nz1110
     clear Nz1110
     have HC9 := Aside0.mk H
     clear H
     go_enter Tryd.func20, Tryd.ntmps20
     go_upto_region 2 with (first | (go_at_call 42; (with_reducible refine (nat_size.calls k _ _ l0 t109 _ ?side1 ?side2 A3.out).mono ?_); (case side1 => exact dC HR0.out); (case side2 => exact HC0.out); rintro e w' ⟨rfl, ⟨nd, rfl⟩⟩; (try exact dW); obtain ⟨i010, hi010, _, hsz10, _⟩ := info_parts info22; obtain ⟨hcut10, hA10, hC10⟩ := print_take_of (P := Tryd.prog) (Value.int .u64) 0 41 22 .i64 Tryd.underlying41 hi010 hsz10 A0 c0 l0 t109 (of_decide_eq_true dS) (of_decide_eq_true dS) HC0.out; rw [Nz109.out] at hcut10 hA10 hC10; have HR110 := Aside0.mk (Kd.C_of_reads (h1 := fun _ => rfl) (hA10 _ (Kd.reads_of_C HR0.out))); have HC110 := Aside0.mk hC10; clear hA10 hC10 hi010 hsz10) | (go_at_call 42; (with_reducible refine (nat_size.calls k _ _ l1 t111 _ ?side1 ?side2 A6.out).mono ?_); (case side1 => exact dC HR1.out); (case side2 => exact HC1.out); rintro e w' ⟨rfl, ⟨nd, rfl⟩⟩; (try exact dW); obtain ⟨i011, hi011, _, hsz11, _⟩ := info_parts info22; obtain ⟨hcut11, hA11, hC11⟩ := print_take_of (P := Tryd.prog) (Value.int .u64) 0 41 22 .i64 Tryd.underlying41 hi011 hsz11 A1 c1 l1 t111 (of_decide_eq_true dS) (of_decide_eq_true dS) HC1.out; rw [Nz111.out] at hcut11 hA11 hC11; have HR112 := Aside0.mk (Kd.C_of_reads (h1 := fun _ => rfl) (hA11 _ (Kd.reads_of_C HR1.out))); have HC112 := Aside0.mk hC11; clear hA11 hC11 hi011 hsz11))
     repeat (go_quiet (first | (go_at_call 42; (with_reducible refine (nat_size.calls k _ _ l0 t109 _ ?side1 ?side2 A3.out).mono ?_); (case side1 => exact dC HR0.out); (case side2 => exact HC0.out); rintro e w' ⟨rfl, ⟨nd, rfl⟩⟩; (try exact dW); obtain ⟨i010, hi010, _, hsz10, _⟩ := info_parts info22; obtain ⟨hcut10, hA10, hC10⟩ := print_take_of (P := Tryd.prog) (Value.int .u64) 0 41 22 .i64 Tryd.underlying41 hi010 hsz10 A0 c0 l0 t109 (of_decide_eq_true dS) (of_decide_eq_true dS) HC0.out; rw [Nz109.out] at hcut10 hA10 hC10; have HR110 := Aside0.mk (Kd.C_of_reads (h1 := fun _ => rfl) (hA10 _ (Kd.reads_of_C HR0.out))); have HC110 := Aside0.mk hC10; clear hA10 hC10 hi010 hsz10) | (go_at_call 42; (with_reducible refine (nat_size.calls k _ _ l1 t111 _ ?side1 ?side2 A6.out).mono ?_); (case side1 => exact dC HR1.out); (case side2 => exact HC1.out); rintro e w' ⟨rfl, ⟨nd, rfl⟩⟩; (try exact dW); obtain ⟨i011, hi011, _, hsz11, _⟩ := info_parts info22; obtain ⟨hcut11, hA11, hC11⟩ := print_take_of (P := Tryd.prog) (Value.int .u64) 0 41 22 .i64 Tryd.underlying41 hi011 hsz11 A1 c1 l1 t111 (of_decide_eq_true dS) (of_decide_eq_true dS) HC1.out; rw [Nz111.out] at hcut11 hA11 hC11; have HR112 := Aside0.mk (Kd.C_of_reads (h1 := fun _ => rfl) (hA11 _ (Kd.reads_of_C HR1.out))); have HC112 := Aside0.mk hC11; clear hA11 hC11 hi011 hsz11)); go_upto_region 2 with (first | (go_at_call 42; (with_reducible refine (nat_size.calls k _ _ l0 t109 _ ?side1 ?side2 A3.out).mono ?_); (case side1 => exact dC HR0.out); (case side2 => exact HC0.out); rintro e w' ⟨rfl, ⟨nd, rfl⟩⟩; (try exact dW); obtain ⟨i010, hi010, _, hsz10, _⟩ := info_parts info22; obtain ⟨hcut10, hA10, hC10⟩ := print_take_of (P := Tryd.prog) (Value.int .u64) 0 41 22 .i64 Tryd.underlying41 hi010 hsz10 A0 c0 l0 t109 (of_decide_eq_true dS) (of_decide_eq_true dS) HC0.out; rw [Nz109.out] at hcut10 hA10 hC10; have HR110 := Aside0.mk (Kd.C_of_reads (h1 := fun _ => rfl) (hA10 _ (Kd.reads_of_C HR0.out))); have HC110 := Aside0.mk hC10; clear hA10 hC10 hi010 hsz10) | (go_at_call 42; (with_reducible refine (nat_size.calls k _ _ l1 t111 _ ?side1 ?side2 A6.out).mono ?_); (case side1 => exact dC HR1.out); (case side2 => exact HC1.out); rintro e w' ⟨rfl, ⟨nd, rfl⟩⟩; (try exact dW); obtain ⟨i011, hi011, _, hsz11, _⟩ := info_parts info22; obtain ⟨hcut11, hA11, hC11⟩ := print_take_of (P := Tryd.prog) (Value.int .u64) 0 41 22 .i64 Tryd.underlying41 hi011 hsz11 A1 c1 l1 t111 (of_decide_eq_true dS) (of_decide_eq_true dS) HC1.out; rw [Nz111.out] at hcut11 hA11 hC11; have HR112 := Aside0.mk (Kd.C_of_reads (h1 := fun _ => rfl) (hA11 _ (Kd.reads_of_C HR1.out))); have HC112 := Aside0.mk hC11; clear hA11 hC11 hi011 hsz11)))
     (try simp only [Act.put, List.setIfInBounds_toArray, List.set_cons_zero, List.set_cons_succ])
     go_cut [30] (fun v30 wc => ∃ (kq : Nat) (x30_8 : Bool), v30 = .bool x30_8 ∧ Aside0 (nat_Mul.j0 kq z109 z111 x30_8 = some (r1, r2)) ∧ Aside0 (kq ≤ k) ∧ Aside0 (Below w.heap.size w wc))
     case first =>
      have H := HC9.out
      clear HC9
      by_cases c12 : (z109.length : Int) = 0
      ·rw [if_pos c12] at H
       have c12b0 : ((z109.length : Int) == 0) = true := beq_iff_eq.mpr c12
       have c12b1 : ((z109.length : Int) != 0) = false := bne_eq_false_iff_eq.mpr c12
       clear c12
       (first | rw [c12b0] | (simp only [i64_w, i32_w]; rw [c12b0]) | skip)
       have H' := Aside0.mk H
       clear H
       go_wp2
       repeat (go_quiet (fail); try go_wp2)
       go_meet
       case rel => exact ⟨_, (true), dF, H', ⟨dN⟩, ⟨dB⟩⟩
      ·rw [if_neg c12] at H
       have c12b0 : ((z109.length : Int) == 0) = false := beq_eq_false_iff_ne.mpr c12
       have c12b1 : ((z109.length : Int) != 0) = true := bne_iff_ne.mpr c12
       have c12b2 : ¬ (z109 = []) := fun h_ => c12 (by rw [h_]; rfl)
       (first | rw [c12b0] | (simp only [i64_w, i32_w]; rw [c12b0]) | skip)
       have H' := Aside0.mk H
       clear H
       go_wp2
       repeat (go_quiet (fail); try go_wp2)
       go_meet
       case rel => exact ⟨_, (((z111.length : Int) == 0)), dF, H', ⟨dN⟩, ⟨dB⟩⟩
     case rest =>
      clear HC9
      try clear c1
      try clear c4
      try clear c4b0
      try clear c4b1
      try clear c5
      try clear c5b0
      try clear c5b1
      try clear c7
      try clear c7b0
      try clear c7b1
      try clear c8
      try clear c8b0
      try clear c8b1
      obtain ⟨kq, x30_8, rfl, HA, HJ8, HB⟩ := hcut
      cases kq with
      | zero => exact absurd HA.out (by simp [nat_Mul.j0])
      | succ kj8 =>
       have H := HA.out
       clear HA
       simp only [nat_Mul.j0] at H
       by_cases c13 : x30_8 = true
       ·subst c13
        have H1 : (some (([] : List Int), 0)) = some (r1, r2) := by rw [if_pos rfl] at H; exact H
        clear H
        have H := H1
        clear H1
        simp only [Option.some.injEq, Prod.mk.injEq] at H
        obtain ⟨rfl, rfl⟩ := H
        go_wp2
        repeat (go_quiet (fail); try go_wp2)
        go_ret2
        exact ⟨_, dE, by first | exact Kd.R_nil _ _ _ _ _ | exact Kd.N_nil _ _ _ _ _ | exact Kd.V_nil _ _ _ _ _ | exact Kd.Q_nil _ _ _ _ _ | exact Kd.S_nil _ _ _ _ _, dB⟩
       ·replace c13 := Bool.eq_false_iff.mpr c13
        subst c13
        have H1 : ((nat_Bits.f kj8 z109).bind fun t113 => ((nat_Bits.f kj8 z111).bind fun t114 => (if (wrap64 (t113 - 1)) > (wrap64 (262144 - t114)) then (some (([] : List Int), 21)) else (if 0 ≤ (wrap64 ((z109.length : Int) + (z111.length : Int))) then (if (wrap64 ((z109.length : Int) + (z111.length : Int)) : Int).toNat ≤ 35184372088832 then (nat_Mul.l0 kj8 z111 (List.replicate (wrap64 ((z109.length : Int) + (z111.length : Int)) : Int).toNat 0) z109 (z109.length : Int) 0) else (none)) else (none))))) = some (r1, r2) := by rw [if_neg (show ¬ (false = true) by decide)] at H; exact H
        clear H
        have H := H1
        clear H1
        replace H := obe H
        obtain ⟨t113, A140, H⟩ := H
        (try dsimp only at H)
        have A14 := Aside0.mk A140
        clear A140
        replace H := obe H
        obtain ⟨t114, A150, H⟩ := H
        (try dsimp only at H)
        have A15 := Aside0.mk A150
        clear A150
        by_cases c16 : (wrap64 (t113 - 1)) > (wrap64 (262144 - t114))
        ·rw [if_pos c16] at H
         have c16b0 : decide ((wrap64 (262144 - t114)) < (wrap64 (t113 - 1))) = true := decide_eq_true c16
         clear c16
         simp only [Option.some.injEq, Prod.mk.injEq] at H
         obtain ⟨rfl, rfl⟩ := H
         iterate 6 (go_wp2_with (first | (go_at_call 43; (with_reducible refine (nat_Bits.calls kj8 _ _ z109 t113 _ ?side1 ?side2 A14.out).mono ?_); (case side1 => exact dC (Kd.C_below HR110.out HB.out)); (case side2 => exact HC110.out); rintro e w' ⟨rfl, ⟨nd, rfl⟩⟩; (try exact dW)) | (go_at_call 43; (with_reducible refine (nat_Bits.calls kj8 _ _ z111 t114 _ ?side1 ?side2 A15.out).mono ?_); (case side1 => exact dC (Kd.C_below HR112.out dB)); (case side2 => exact HC112.out); rintro e w' ⟨rfl, ⟨nd, rfl⟩⟩; (try exact dW))); try go_quiet (first | (go_at_call 43; (with_reducible refine (nat_Bits.calls kj8 _ _ z109 t113 _ ?side1 ?side2 A14.out).mono ?_); (case side1 => exact dC (Kd.C_below HR110.out HB.out)); (case side2 => exact HC110.out); rintro e w' ⟨rfl, ⟨nd, rfl⟩⟩; (try exact dW)) | (go_at_call 43; (with_reducible refine (nat_Bits.calls kj8 _ _ z111 t114 _ ?side1 ?side2 A15.out).mono ?_); (case side1 => exact dC (Kd.C_below HR112.out dB)); (case side2 => exact HC112.out); rintro e w' ⟨rfl, ⟨nd, rfl⟩⟩; (try exact dW))))
         go_ret2
         exact ⟨_, dE, by first | exact Kd.R_nil _ _ _ _ _ | exact Kd.N_nil _ _ _ _ _ | exact Kd.V_nil _ _ _ _ _ | exact Kd.Q_nil _ _ _ _ _ | exact Kd.S_nil _ _ _ _ _, dB⟩
        ·rw [if_neg c16] at H
         have c16b0 : decide ((wrap64 (262144 - t114)) < (wrap64 (t113 - 1))) = false := decide_eq_false c16
         clear c16
         obtain ⟨ji17, hji17⟩ : ∃ j_ : Int, (wrap64 ((z109.length : Int) + (z111.length : Int))) = j_ := ⟨_, rfl⟩
         first | rw [hji17] at H | simp only [hji17] at H
         (try rw [hji17] at A14)
         (try rw [hji17] at A15)
         have hji17w : (IntKind.i64.wrap ((z109.length : Int) + (z111.length : Int))) = ji17 := (i64_w _).trans hji17
         by_cases c18 : (0 : Int) ≤ (ji17)
         ·rw [if_pos c18] at H
          have c18b0 := eq_true c18
          have c18b1 : decide (0 ≤ (ji17)) = true := decide_eq_true c18
          clear c18
          by_cases c19 : (ji17 : Int).toNat ≤ 35184372088832
          ·rw [if_pos c19] at H
           have c19b0 := eq_true c19
           have c19b1 : decide ((ji17 : Int).toNat ≤ 35184372088832) = true := decide_eq_true c19
           clear c19
           obtain ⟨y115, hy115⟩ : ∃ y_ : List Int, y_ = (List.replicate (ji17 : Int).toNat 0) := ⟨_, rfl⟩
           replace H : (nat_Mul.l0 kj8 z111 y115 z109 (z109.length : Int) 0) = some (r1, r2) := by first | (rw [hy115]; with_reducible exact H) | (have H2_ := (Option.bind_some _ _).symm.trans H; rw [hy115]; with_reducible exact H2_) | (have H2_ := (Option.bind_some _ _).symm.trans H; with_reducible exact H2_) | with_reducible exact H | (rw [hy115]; exact H) | exact H
           have Ny115 := Aside0.mk hy115
           clear hy115
           have H' := Aside0.mk H
           clear H
           iterate 6 (go_wp2_with (first | (go_at_call 43; (with_reducible refine (nat_Bits.calls kj8 _ _ z109 t113 _ ?side1 ?side2 A14.out).mono ?_); (case side1 => exact dC (Kd.C_below HR110.out HB.out)); (case side2 => exact HC110.out); rintro e w' ⟨rfl, ⟨nd, rfl⟩⟩; (try exact dW)) | (go_at_call 43; (with_reducible refine (nat_Bits.calls kj8 _ _ z111 t114 _ ?side1 ?side2 A15.out).mono ?_); (case side1 => exact dC (Kd.C_below HR112.out dB)); (case side2 => exact HC112.out); rintro e w' ⟨rfl, ⟨nd, rfl⟩⟩; (try exact dW)) | ((with_reducible refine gate_dst (N := 43) rfl ?_); (try (refine gate_guard (by rfl) ?_; dsimp only)); refine Kd.R_make (Kd.int .u64) _ 22 rfl (N := 43) rfl 41 _ _ rfl ji17 rfl rfl Tryd.underlying41 (.int .u64 0) 8 info22 rfl (by decide) (by omega) 0 (ok := fun _ => True) (okp := fun _ => True) rfl (fun _ hk => hk) trivial (of_decide_eq_true dS) (Nat.le_trans (Nat.mul_le_mul_right _ (of_decide_eq_true dS : ji17.toNat ≤ 35184372088832)) (by omega)) (Below.refl _ _) (Nat.le_refl _) ?_; intro v116 w20 ho21 hb hg_ hnew_; clear hg_ hnew_; (first | rw [← Ny115.out] at ho21 | (simp only [Int.reduceToNat] at ho21; rw [← Ny115.out] at ho21)); have HO117 := Aside0.mk (Kd.R_lower ho21 (below_size dB)); replace HB := Aside0.mk (below_step dB hb); clear hb ho21)); try go_quiet (first | (go_at_call 43; (with_reducible refine (nat_Bits.calls kj8 _ _ z109 t113 _ ?side1 ?side2 A14.out).mono ?_); (case side1 => exact dC (Kd.C_below HR110.out HB.out)); (case side2 => exact HC110.out); rintro e w' ⟨rfl, ⟨nd, rfl⟩⟩; (try exact dW)) | (go_at_call 43; (with_reducible refine (nat_Bits.calls kj8 _ _ z111 t114 _ ?side1 ?side2 A15.out).mono ?_); (case side1 => exact dC (Kd.C_below HR112.out dB)); (case side2 => exact HC112.out); rintro e w' ⟨rfl, ⟨nd, rfl⟩⟩; (try exact dW)) | ((with_reducible refine gate_dst (N := 43) rfl ?_); (try (refine gate_guard (by rfl) ?_; dsimp only)); refine Kd.R_make (Kd.int .u64) _ 22 rfl (N := 43) rfl 41 _ _ rfl ji17 rfl rfl Tryd.underlying41 (.int .u64 0) 8 info22 rfl (by decide) (by omega) 0 (ok := fun _ => True) (okp := fun _ => True) rfl (fun _ hk => hk) trivial (of_decide_eq_true dS) (Nat.le_trans (Nat.mul_le_mul_right _ (of_decide_eq_true dS : ji17.toNat ≤ 35184372088832)) (by omega)) (Below.refl _ _) (Nat.le_refl _) ?_; intro v116 w20 ho21 hb hg_ hnew_; clear hg_ hnew_; (first | rw [← Ny115.out] at ho21 | (simp only [Int.reduceToNat] at ho21; rw [← Ny115.out] at ho21)); have HO117 := Aside0.mk (Kd.R_lower ho21 (below_size dB)); replace HB := Aside0.mk (below_step dB hb); clear hb ho21)))
           go_loopg [46] kj8 (fun kq v46 w' => ∃ (x6_2 : List Int) (x46_2 : Int), v46 = .int .i64 x46_2 ∧ Aside0 (nat_Mul.l0 kq z111 x6_2 z109 (z109.length : Int) x46_2 = some (r1, r2)) ∧ Aside0 (kq ≤ kj8) ∧ Aside0 (Kd.R (Kd.int .u64) 22 w' w.heap.size (fun _ => True) v116 x6_2) ∧ Aside0 (Below w.heap.size w w'))
           case atStart => exact ⟨(y115), (0), dF, H', ⟨Nat.le_refl _⟩, ⟨dR HO117.out⟩, ⟨dB⟩⟩
           case round =>
            clear H'
            try clear c1
            try clear c4
            try clear c4b0
            try clear c4b1
            try clear c5
            try clear c5b0
            try clear c5b1
            try clear c7
            try clear c7b0
            try clear c7b1
            try clear c8
            try clear c8b0
            try clear c8b1
            try clear c13
            try clear c16
            try clear c16b0
            try clear c18
            try clear c18b0
            try clear c18b1
            try clear c19
            try clear c19b0
            try clear c19b1
            obtain ⟨x6_2, x46_2, rfl, HA, HK2, HO_6, HB⟩ := hrel
            cases gk with
            | zero => exact absurd HA.out (by simp [nat_Mul.l0])
            | succ k2 =>
             have H := HA.out
             clear HA
             simp only [nat_Mul.l0] at H
             by_cases c22 : x46_2 < (z109.length : Int)
             ·rw [if_pos c22] at H
              have c22b0 : decide (x46_2 < (z109.length : Int)) = true := decide_eq_true c22
              clear c22
              by_cases c23 : (0 : Int) ≤ x46_2
              ·rw [if_pos c23] at H
               have c23b0 : decide (0 ≤ x46_2) = true := decide_eq_true c23
               clear c23
               by_cases c24 : x46_2 < (z109.length : Int)
               ·rw [if_pos c24] at H
                have c24b0 : decide (x46_2 < (z109.length : Int)) = true := decide_eq_true c24
                clear c24
                have H' := Aside0.mk H
                clear H
                have p122 : 0 ≤ (x46_2 : Int) := of_decide_eq_true dS
                have q122 : x46_2 < (z109.length : Int) := of_decide_eq_true dS
                obtain ⟨ad122, e122, hx122_0⟩ := Kd.at_int HR110.out x46_2 p122 q122
                cases e122
                replace hx122_0 := (HB.out.cell (World.block_lt_of_cell? w _ hx122_0)).trans hx122_0
                replace p122 := eq_true p122
                replace q122 := eq_true q122
                go_wp2
                repeat (go_quiet (fail); try go_wp2)
                go_loopg [9, 53] k2 (fun kq v9 v53 w' => ∃ (x6_3 : List Int) (x9_3 : Int) (x53_3 : Int), v9 = .int .u64 x9_3 ∧ v53 = .int .i64 x53_3 ∧ Aside0 (nat_Mul.l1 kq z111 x6_3 x46_2 (rd z109 x46_2) x9_3 z109 (z109.length : Int) x46_2 z111 (z111.length : Int) x53_3 = some (r1, r2)) ∧ Aside0 (kq ≤ k2) ∧ Aside0 (Kd.R (Kd.int .u64) 22 w' w.heap.size (fun _ => True) v116 x6_3) ∧ Aside0 (Below w.heap.size w w'))
                case atStart => exact ⟨(x6_2), (0), (0), dF, dF, H', ⟨Nat.le_refl _⟩, ⟨dR HO_6.out⟩, ⟨dB⟩⟩
                case round =>
                 clear H'
                 try clear c1
                 try clear c4
                 try clear c4b0
                 try clear c4b1
                 try clear c5
                 try clear c5b0
                 try clear c5b1
                 try clear c7
                 try clear c7b0
                 try clear c7b1
                 try clear c8
                 try clear c8b0
                 try clear c8b1
                 try clear c13
                 try clear c16
                 try clear c16b0
                 try clear c18
                 try clear c18b0
                 try clear c18b1
                 try clear c19
                 try clear c19b0
                 try clear c19b1
                 try clear c22
                 try clear c22b0
                 try clear c23
                 try clear c23b0
                 try clear c24
                 try clear c24b0
                 try clear hx122_0
                 try clear p122
                 try clear q122
                 obtain ⟨x6_3, x9_3, x53_3, rfl, rfl, HA, HK3, HO_6, HB⟩ := hrel
                 cases gk with
                 | zero => exact absurd HA.out (by simp [nat_Mul.l1])
                 | succ k3 =>
                  have H := HA.out
                  clear HA
                  simp only [nat_Mul.l1] at H
                  by_cases c25 : x53_3 < (z111.length : Int)
                  ·rw [if_pos c25] at H
                   have c25b0 : decide (x53_3 < (z111.length : Int)) = true := decide_eq_true c25
                   clear c25
                   by_cases c26 : (0 : Int) ≤ x53_3
                   ·rw [if_pos c26] at H
                    have c26b0 : decide (0 ≤ x53_3) = true := decide_eq_true c26
                    clear c26
                    by_cases c27 : x53_3 < (z111.length : Int)
                    ·rw [if_pos c27] at H
                     have c27b0 : decide (x53_3 < (z111.length : Int)) = true := decide_eq_true c27
                     clear c27
                     replace H := obe H
                     obtain ⟨⟨t124, t125⟩, A280, H⟩ := H
                     (try dsimp only at H)
                     have A28 := Aside0.mk A280
                     clear A280
                     obtain ⟨ji29, hji29⟩ : ∃ j_ : Int, (wrap64 (x46_2 + x53_3)) = j_ := ⟨_, rfl⟩
                     first | rw [hji29] at H | simp only [hji29] at H
                     (try rw [hji29] at A28)
                     have hji29w : (IntKind.i64.wrap (x46_2 + x53_3)) = ji29 := (i64_w _).trans hji29
                     by_cases c30 : (0 : Int) ≤ (ji29)
                     ·rw [if_pos c30] at H
                      have c30b0 : decide (0 ≤ (ji29)) = true := decide_eq_true c30
                      clear c30
                      by_cases c31 : (ji29) < (x6_3.length : Int)
                      ·rw [if_pos c31] at H
                       have c31b0 : decide ((ji29) < (x6_3.length : Int)) = true := decide_eq_true c31
                       clear c31
                       replace H := obe H
                       obtain ⟨⟨t127, t128⟩, A320, H⟩ := H
                       (try dsimp only at H)
                       have A32 := Aside0.mk A320
                       clear A320
                       replace H := obe H
                       obtain ⟨⟨t129, t130⟩, A330, H⟩ := H
                       (try dsimp only at H)
                       have A33 := Aside0.mk A330
                       clear A330
                       obtain ⟨y131, hy131⟩ : ∃ y_ : List Int, y_ = (x6_3.set ((ji29) : Int).toNat t129) := ⟨_, rfl⟩
                       replace H : (nat_Mul.l1 k3 z111 y131 x46_2 (rd z109 x46_2) (IntKind.u64.wrap ((IntKind.u64.wrap (t124 + t128)) + t130)) z109 (z109.length : Int) x46_2 z111 (z111.length : Int) (wrap64 (x53_3 + 1))) = some (r1, r2) := by first | (rw [hy131]; with_reducible exact H) | (have H2_ := (Option.bind_some _ _).symm.trans H; rw [hy131]; with_reducible exact H2_) | (have H2_ := (Option.bind_some _ _).symm.trans H; with_reducible exact H2_) | with_reducible exact H | (rw [hy131]; exact H) | exact H
                       have Ny131 := Aside0.mk hy131
                       clear hy131
                       have H' := Aside0.mk H
                       clear H
                       have p123 : 0 ≤ (x53_3 : Int) := of_decide_eq_true dS
                       have q123 : x53_3 < (z111.length : Int) := of_decide_eq_true dS
                       obtain ⟨ad123, e123, hx123_0⟩ := Kd.at_int HR112.out x53_3 p123 q123
                       cases e123
                       replace hx123_0 := (HB.out.cell (World.block_lt_of_cell? w _ hx123_0)).trans hx123_0
                       replace p123 := eq_true p123
                       replace q123 := eq_true q123
                       iterate 6 (go_wp2_with (first | (go_at_call 28; (with_reducible refine (wide_Mul.calls (rd z109 x46_2) (rd z111 x53_3) t124 t125 _ A28.out).mono ?_); rintro e w35 ⟨rfl, hb⟩; replace HO_6 := Aside0.mk (Kd.R_below (dR HO_6.out) hb); replace HB := Aside0.mk (below_step dB hb); (try clear hb); obtain ⟨Ao36, co36, eo36⟩ := Kd.R_slice HO_6.out; subst eo36; have p126 : 0 ≤ ((ji29) : Int) := of_decide_eq_true dS; have q126 : (ji29) < (x6_3.length : Int) := of_decide_eq_true dS; obtain ⟨ad126, e126, hx126_0⟩ := Kd.at_int (Kd.R_reads' HO_6.out).2.2 (ji29) p126 q126; cases e126; replace p126 := eq_true p126; replace q126 := eq_true q126) | (go_at_call 41; (with_reducible refine (wide_Add.calls t125 (rd x6_3 (ji29)) 0 t127 t128 _ A32.out).mono ?_); rintro e w' ⟨rfl, ⟨nd, rfl⟩⟩; (try exact dW)) | (go_at_call 41; (with_reducible refine (wide_Add.calls t127 x9_3 0 t129 t130 _ A33.out).mono ?_); rintro e w' ⟨rfl, ⟨nd, rfl⟩⟩; (try exact dW); have p34 : 0 ≤ ((ji29) : Int) := of_decide_eq_true dS; have q34 : ((ji29) : Int) < ((x6_3.length : Int) : Int) := of_decide_eq_true dS; obtain ⟨go34, co34, eo34, gb34, gl34, cl34, HG34⟩ := Kd.R_form HO_6.out (by omega); (first | cases eo34 | (injection eo34 with ea_ en_ ec_; (first | subst ea_ | (injection ea_ with ea_; subst ea_)); subst ec_; clear en_)); have GB34 := Aside0.mk gb34; have GG34 := Aside0.mk HG34; clear gb34 gl34 HG34; (first | simp only [add_plain] at hx126_0 | skip); obtain ⟨hx34_0, hf34_0⟩ := Kd.R_celln 0 HO_6.out ((ji29) : Int) p34 q34; replace p34 := eq_true p34; replace q34 := eq_true q34; obtain ⟨hy37_, hz37_⟩ := Kd.R_celln 0 HO_6.out ((ji29) : Int) (of_decide_eq_true dS) (of_decide_eq_true dS); have HP37 := Kd.R_putg HO_6.out ((ji29) : Int) t129) | ((with_reducible refine gate_store (t := 22) (p := 88) rfl ?_); (try (rw [drewN_self w35]; generalize hq_ : World.drewN w35 _ = w35; replace HO_6 := Aside0.mk (Kd.R_at hq_ HO_6.out); replace HB := Aside0.mk (below_at hq_ HB.out); clear hq_; (try (obtain ⟨hy37_, hz37_⟩ := Kd.R_celln 0 HO_6.out ((ji29) : Int) (of_decide_eq_true dS) (of_decide_eq_true dS))); (try (have HP37 := Kd.R_putg HO_6.out ((ji29) : Int) t129)))); refine store_event (t := 22) (p := 88) (v := ?vo_w38) (w1 := (w35.setCell ⟨go34, ((ji29) : Int).toNat, none⟩ (.int .u64 t129))) ?hg ?ho ?hn ?hr ?_; (case ho => rfl); (case hg => rfl); (case hn => rfl); (case hr => first | (go_simp; done) | (go_simp; rfl)); intro w38 hw; have hg : w35.grownBy w38 (some go34) := (by rw [hw]; exact HP37.2); have hp_ : Kd.R (Kd.int .u64) 22 w38 w.heap.size (fun _ => True) (.slice (some ⟨go34, 0, none⟩) x6_3.length co36) y131 := (by rw [hw, Ny131.out]; exact HP37.1); clear HP37; replace HO_6 := Aside0.mk (hp_); replace HB := Aside0.mk ((by rw [hw]; exact below_set (HB.out) GB34.out : Below w.heap.size w w38)); clear hg hw hp_)); try go_quiet (first | (go_at_call 28; (with_reducible refine (wide_Mul.calls (rd z109 x46_2) (rd z111 x53_3) t124 t125 _ A28.out).mono ?_); rintro e w35 ⟨rfl, hb⟩; replace HO_6 := Aside0.mk (Kd.R_below (dR HO_6.out) hb); replace HB := Aside0.mk (below_step dB hb); (try clear hb); obtain ⟨Ao36, co36, eo36⟩ := Kd.R_slice HO_6.out; subst eo36; have p126 : 0 ≤ ((ji29) : Int) := of_decide_eq_true dS; have q126 : (ji29) < (x6_3.length : Int) := of_decide_eq_true dS; obtain ⟨ad126, e126, hx126_0⟩ := Kd.at_int (Kd.R_reads' HO_6.out).2.2 (ji29) p126 q126; cases e126; replace p126 := eq_true p126; replace q126 := eq_true q126) | (go_at_call 41; (with_reducible refine (wide_Add.calls t125 (rd x6_3 (ji29)) 0 t127 t128 _ A32.out).mono ?_); rintro e w' ⟨rfl, ⟨nd, rfl⟩⟩; (try exact dW)) | (go_at_call 41; (with_reducible refine (wide_Add.calls t127 x9_3 0 t129 t130 _ A33.out).mono ?_); rintro e w' ⟨rfl, ⟨nd, rfl⟩⟩; (try exact dW); have p34 : 0 ≤ ((ji29) : Int) := of_decide_eq_true dS; have q34 : ((ji29) : Int) < ((x6_3.length : Int) : Int) := of_decide_eq_true dS; obtain ⟨go34, co34, eo34, gb34, gl34, cl34, HG34⟩ := Kd.R_form HO_6.out (by omega); (first | cases eo34 | (injection eo34 with ea_ en_ ec_; (first | subst ea_ | (injection ea_ with ea_; subst ea_)); subst ec_; clear en_)); have GB34 := Aside0.mk gb34; have GG34 := Aside0.mk HG34; clear gb34 gl34 HG34; (first | simp only [add_plain] at hx126_0 | skip); obtain ⟨hx34_0, hf34_0⟩ := Kd.R_celln 0 HO_6.out ((ji29) : Int) p34 q34; replace p34 := eq_true p34; replace q34 := eq_true q34; obtain ⟨hy37_, hz37_⟩ := Kd.R_celln 0 HO_6.out ((ji29) : Int) (of_decide_eq_true dS) (of_decide_eq_true dS); have HP37 := Kd.R_putg HO_6.out ((ji29) : Int) t129) | ((with_reducible refine gate_store (t := 22) (p := 88) rfl ?_); (try (rw [drewN_self w35]; generalize hq_ : World.drewN w35 _ = w35; replace HO_6 := Aside0.mk (Kd.R_at hq_ HO_6.out); replace HB := Aside0.mk (below_at hq_ HB.out); clear hq_; (try (obtain ⟨hy37_, hz37_⟩ := Kd.R_celln 0 HO_6.out ((ji29) : Int) (of_decide_eq_true dS) (of_decide_eq_true dS))); (try (have HP37 := Kd.R_putg HO_6.out ((ji29) : Int) t129)))); refine store_event (t := 22) (p := 88) (v := ?vo_w38) (w1 := (w35.setCell ⟨go34, ((ji29) : Int).toNat, none⟩ (.int .u64 t129))) ?hg ?ho ?hn ?hr ?_; (case ho => rfl); (case hg => rfl); (case hn => rfl); (case hr => first | (go_simp; done) | (go_simp; rfl)); intro w38 hw; have hg : w35.grownBy w38 (some go34) := (by rw [hw]; exact HP37.2); have hp_ : Kd.R (Kd.int .u64) 22 w38 w.heap.size (fun _ => True) (.slice (some ⟨go34, 0, none⟩) x6_3.length co36) y131 := (by rw [hw, Ny131.out]; exact HP37.1); clear HP37; replace HO_6 := Aside0.mk (hp_); replace HB := Aside0.mk ((by rw [hw]; exact below_set (HB.out) GB34.out : Below w.heap.size w w38)); clear hg hw hp_)))
                       go_roundg k3
                       case measure => have := HJ8.out; have := HK2.out; have := HK3.out; omega
                       case rel => exact ⟨(y131), (IntKind.u64.wrap ((IntKind.u64.wrap (t124 + t128)) + t130)), (wrap64 (x53_3 + 1)), dF, dF, H', ⟨by have := HJ8.out; have := HK2.out; have := HK3.out; omega⟩, ⟨dR HO_6.out⟩, ⟨dB⟩⟩
                      ·rw [if_neg c31] at H
                       exact absurd H (by simp)
                     ·rw [if_neg c30] at H
                      exact absurd H (by simp)
                    ·rw [if_neg c27] at H
                     exact absurd H (by simp)
                   ·rw [if_neg c26] at H
                    exact absurd H (by simp)
                  ·rw [if_neg c25] at H
                   have c25b0 : decide (x53_3 < (z111.length : Int)) = false := decide_eq_false c25
                   clear c25
                   obtain ⟨ji39, hji39⟩ : ∃ j_ : Int, (wrap64 (x46_2 + (z111.length : Int))) = j_ := ⟨_, rfl⟩
                   first | rw [hji39] at H | simp only [hji39] at H
                   have hji39w : (IntKind.i64.wrap (x46_2 + (z111.length : Int))) = ji39 := (i64_w _).trans hji39
                   by_cases c40 : (0 : Int) ≤ (ji39)
                   ·rw [if_pos c40] at H
                    have c40b0 : decide (0 ≤ (ji39)) = true := decide_eq_true c40
                    clear c40
                    by_cases c41 : (ji39) < (x6_3.length : Int)
                    ·rw [if_pos c41] at H
                     have c41b0 : decide ((ji39) < (x6_3.length : Int)) = true := decide_eq_true c41
                     clear c41
                     obtain ⟨y132, hy132⟩ : ∃ y_ : List Int, y_ = (x6_3.set ((ji39) : Int).toNat x9_3) := ⟨_, rfl⟩
                     replace H : (nat_Mul.l0 k3 z111 y132 z109 (z109.length : Int) (wrap64 (x46_2 + 1))) = some (r1, r2) := by first | (rw [hy132]; with_reducible exact H) | (have H2_ := (Option.bind_some _ _).symm.trans H; rw [hy132]; with_reducible exact H2_) | (have H2_ := (Option.bind_some _ _).symm.trans H; with_reducible exact H2_) | with_reducible exact H | (rw [hy132]; exact H) | exact H
                     have Ny132 := Aside0.mk hy132
                     clear hy132
                     have H' := Aside0.mk H
                     clear H
                     have p42 : 0 ≤ ((ji39) : Int) := of_decide_eq_true dS
                     have q42 : ((ji39) : Int) < ((x6_3.length : Int) : Int) := of_decide_eq_true dS
                     obtain ⟨go42, co42, eo42, gb42, gl42, cl42, HG42⟩ := Kd.R_form HO_6.out (by omega)
                     (first | cases eo42 | (injection eo42 with ea_ en_ ec_; (first | subst ea_ | (injection ea_ with ea_; subst ea_)); subst ec_; clear en_))
                     have GB42 := Aside0.mk gb42
                     have GG42 := Aside0.mk HG42
                     clear gb42 gl42 HG42
                     obtain ⟨hx42_0, hf42_0⟩ := Kd.R_celln 0 HO_6.out ((ji39) : Int) p42 q42
                     replace p42 := eq_true p42
                     replace q42 := eq_true q42
                     have HP43 := Kd.R_putg HO_6.out ((ji39) : Int) x9_3
                     iterate 6 (go_wp2_with (first | ((with_reducible refine gate_store (t := 22) (p := 99) rfl ?_); (try (rw [drewN_self wr]; generalize hq_ : World.drewN wr _ = wr; replace HO_6 := Aside0.mk (Kd.R_at hq_ HO_6.out); replace HB := Aside0.mk (below_at hq_ HB.out); clear hq_; (try (have HP43 := Kd.R_putg HO_6.out ((ji39) : Int) x9_3)))); refine store_event (t := 22) (p := 99) (v := ?vo_w44) (w1 := (wr.setCell ⟨go42, ((ji39) : Int).toNat, none⟩ (.int .u64 x9_3))) ?hg ?ho ?hn ?hr ?_; (case ho => rfl); (case hg => rfl); (case hn => rfl); (case hr => first | (go_simp; done) | (go_simp; rfl)); intro w44 hw; have hg : wr.grownBy w44 (some go42) := (by rw [hw]; exact HP43.2); have hp_ : Kd.R (Kd.int .u64) 22 w44 w.heap.size (fun _ => True) (.slice (some ⟨go42, 0, none⟩) x6_3.length co42) y132 := (by rw [hw, Ny132.out]; exact HP43.1); clear HP43; replace HO_6 := Aside0.mk (hp_); replace HB := Aside0.mk ((by rw [hw]; exact below_set (HB.out) GB42.out : Below w.heap.size w w44)); clear hg hw hp_)); try go_quiet (fail))
                     go_roundg k3
                     case measure => have := HJ8.out; have := HK2.out; have := HK3.out; omega
                     case rel => exact ⟨(y132), (wrap64 (x46_2 + 1)), dF, H', ⟨by have := HJ8.out; have := HK2.out; have := HK3.out; omega⟩, ⟨dR HO_6.out⟩, ⟨dB⟩⟩
                    ·rw [if_neg c41] at H
                     exact absurd H (by simp)
                   ·rw [if_neg c40] at H
                    exact absurd H (by simp)
               ·rw [if_neg c24] at H
                exact absurd H (by simp)
              ·rw [if_neg c23] at H
               exact absurd H (by simp)
             ·rw [if_neg c22] at H
              have c22b0 : decide (x46_2 < (z109.length : Int)) = false := decide_eq_false c22
              clear c22
              replace H := obe H
              obtain ⟨⟨t118, t121⟩, A450, H⟩ := H
              (try dsimp only at H)
              have A45 := Aside0.mk A450
              clear A450
              simp only [Option.some.injEq, Prod.mk.injEq] at H
              obtain ⟨rfl, rfl⟩ := H
              obtain ⟨Ao46, co46, eo46⟩ := Kd.R_slice HO_6.out
              subst eo46
              iterate 6 (go_wp2_with (first | (go_at_call 44; (with_reducible refine (nat_bound.calls k2 (fun k_ => some k_ = (.slice Ao46 x6_2.length co46 : Value).ownBlock) (.slice Ao46 x6_2.length co46) x6_2 t118 t121 w _ ?side1 ?side2 A45.out).mono ?_); (case side1 => repeat (first | (with_reducible first | exact HB.out | apply below_alloc | apply pw_below_drewN | apply below_drew1) | exact HB.out)); (case side2 => exact Kd.R_tight rfl HO_6.out); rintro e w47 ⟨v119, rfl, ho0, hb, hkp⟩; have HO120 := Aside0.mk (Kd.R_mono (ok' := fun k_ => True) ho0 (fun k_ hk_ => trivial)); replace HB := Aside0.mk (hb); clear HO_6; (try clear hb); (try clear hkp); (try clear ho0))); try go_quiet (fail))
              go_ret2
              exact ⟨_, by first | rfl | (simp [errW_none, errW_some] <;> rfl) | (simp only [← hji17]; first | rfl | (simp [errW_none, errW_some] <;> rfl)) | (simp [*, errW_none, errW_some] <;> rfl), dR HO120.out, dB⟩
          ·rw [if_neg c19] at H
           exact absurd H (by simp)
         ·rw [if_neg c18] at H
          exact absurd H (by simp)
    ·rw [if_neg c8] at H
     exact absurd H (by simp)
   ·rw [if_neg c7] at H
    exact absurd H (by simp)
  ·rw [if_neg c5] at H
   exact absurd H (by simp)
 ·rw [if_neg c4] at H
  exact absurd H (by simp)

end Go.Proofs.YtoannkopciehcaaDoor.PA

namespace Go.Proofs.YtoannkopciehcaaDoor.PA
open Go.RowKit Go.Proofs.YtoannkopciehcaaDoorW.PrintWords Go.Proofs.YtoannkopciehcaaDoorW.PrintLast Go.Proofs.YtoannkopciehcaaDoorW.PrintMore
attribute [local go_sem] max2_int min2_int max_two min_two max_three min_three max_four min_four   -- for this text's walks alone
set_option linter.unusedVariables false
set_option linter.unusedSimpArgs false

/-! ### nat_From: function 54 -/
def nat_From.f (a0 : Int) : Option (List Int) := (nat_Norm.f (([a0] : List Int))).bind fun t144 => (some t144)
set_option maxHeartbeats 8000000 in
set_option maxRecDepth 100000 in
theorem nat_From.calls (a0 : Int) (r : List Int) (w : World) (h : nat_From.f a0 = some r) :
  Calls Tryd.prog 54 #[.int .u64 a0] w fun e w' => ∃ v0_ : Value, e = .returned (v0_) ∧ Kd.R (Kd.int .u64) 22 w' w.heap.size (fun _ => True) v0_ r ∧ Below w.heap.size w w' := by
 have HB := Aside0.mk (Below.refl w.heap.size w)
 have H : ((nat_Norm.f (([a0] : List Int))).bind fun t144 => (some t144)) = some r := h
 clear h
 obtain ⟨y141, hy141⟩ : ∃ y_ : List Int, y_ = (([a0] : List Int)) := ⟨_, rfl⟩
 replace H : ((nat_Norm.f y141).bind fun t144 => (some t144)) = some r := by first | (rw [hy141]; with_reducible exact H) | (have H2_ := (Option.bind_some _ _).symm.trans H; rw [hy141]; with_reducible exact H2_) | (have H2_ := (Option.bind_some _ _).symm.trans H; with_reducible exact H2_) | with_reducible exact H | (rw [hy141]; exact H) | exact H
 have Ny141 := Aside0.mk hy141
 clear hy141
 replace H := obe H
 obtain ⟨t144, A20, H⟩ := H
 (try dsimp only at H)
 have A2 := Aside0.mk A20
 clear A20
 obtain rfl := Option.some.inj H
 go_enter Tryd.func54, Tryd.ntmps54
 go_wp2_with (first | ((with_reducible refine gate_dst (N := 4) rfl ?_); refine Kd.R_lit (Kd.int .u64) _ 22 ?hg (N := 4) ?hd (xs := ([a0] : List Int)) (inner := [.int .u64 a0]) (ok := fun _ => True) (okp := fun _ => True) ?hr ?hp (fun _ hk => hk) trivial (Below.refl _ _) (Nat.le_refl _) (by simp) ?_; (case hd => rfl); (case hg => rfl); (case hr => first | (go_simp; done) | (go_simp; rfl)); (case hp => exact (Reps.one (show Kd.M (Kd.int .u64) _ _ _ a0 [.int .u64 a0] from rfl) (Reps.none _ _))); intro v142 w3 ho4 hb hg_ hnew_; clear hg_ hnew_; (first | rw [← Ny141.out] at ho4 | (simp only [Int.reduceToNat] at ho4; rw [← Ny141.out] at ho4)); have HO143 := Aside0.mk (Kd.R_lower ho4 (below_size dB)); replace HB := Aside0.mk (below_step dB hb); clear hb ho4; obtain ⟨Ao5, co5, eo5⟩ := Kd.R_slice HO143.out; subst eo5) | ((with_reducible refine gate_callee (f := 73) rfl ?_); refine gL (some 5) Tryd.func73 #[.slice Ao5 y141.length co5] ?_; (with_reducible refine (nat_Norm.calls _ _ y141 t144 _ ?side1 ?side2 A2.out).mono ?_); (case side1 => exact dC (Kd.R_reads' HO143.out).2.2); (case side2 => exact (Kd.R_reads' HO143.out).2.1); rintro e w6 ⟨v145, rfl, ho0, hb⟩; refine ⟨_, rfl, ?_⟩; have HO146 := Aside0.mk (Kd.R_lower (Kd.R_new' ho0 (Kd.R_lt (dR HO143.out))) (below_size dB)); replace HO143 := Aside0.mk (Kd.R_elder' (dR HO143.out) (Kd.R_base ho0) hb); replace HB := Aside0.mk (below_step dB hb); (try clear hb); (try clear ho0)))
 go_ret
 exact ⟨_, dE, by (with_reducible repeat (first | apply Kd.R_alloc | apply Kd.R_drewN | apply Kd.R_drew)); exact Kd.R_mono HO146.out (fun _ hk => trivial), dB⟩

/-! ### quot_Pow: function 84 -/
def quot_Pow.l0 : Nat → List Int → Int → List Int → Int → Option (List Int × Int)
 | 0, _, _, _, _ => none
 | k + 1, x0, x1, x7, x8 => if x8 ≥ 0 then ((nat_Mul.f k x7 x7).bind fun bt158 => (if 0 ≤ x8 then (if (Go.bits .and .i64 (shr .i64 x1 x8) 1) = 1 then ((nat_Mul.f k bt158.1 x0).bind fun bt162 => (if bt158.2 = 0 then (if bt162.2 = 0 then (quot_Pow.l0 k x0 x1 bt162.1 (wrap64 (x8 - 1))) else (some (([] : List Int), 21))) else (some (([] : List Int), 21)))) else (if bt158.2 = 0 then (quot_Pow.l0 k x0 x1 bt158.1 (wrap64 (x8 - 1))) else (some (([] : List Int), 21)))) else (none))) else (some (x7, 0))
def quot_Pow.f (k : Nat) (l0 : List Int) (a1 : Int) : Option (List Int × Int) := (nat_Norm.f l0).bind fun t147 => ((nat_Bits.f k t147).bind fun t150 => (if a1 < 0 then (some (([] : List Int), 31)) else (if a1 = 0 then ((nat_From.f 1).bind fun t151 => (some (t151, 0))) else (if t150 < 2 then (some (t147, 0)) else (if (wrap64 (t150 - 1)) = 0 then (none) else (if a1 > (wrap64 (Int.tdiv (262144 : Int) (wrap64 (t150 - 1)))) then (some (([] : List Int), 21)) else ((nat_From.f 1).bind fun t154 => ((wide_Len.f k (IntKind.u64.wrap (a1))).bind fun t157 => (quot_Pow.l0 k t147 a1 t154 (wrap64 (t157 - 1)))))))))))
theorem quot_Pow.mono_l : ∀ k, (∀ y0 y1 y2 y3, LeO (quot_Pow.l0 k y0 y1 y2 y3) (quot_Pow.l0 (k + 1) y0 y1 y2 y3))
 | 0 => fun _ _ _ _ r h => by simp [quot_Pow.l0] at h
 | k + 1 => by
  have ih0 := quot_Pow.mono_l k
  ·intro y0 y1 y2 y3
   unfold quot_Pow.l0
   have m0_ := nat_Bits.mono
   have m1_ := nat_Mul.mono
   have m2_ := wide_Len.mono
   exact mX
theorem quot_Pow.mono : ∀ a0 a1 k, LeO (quot_Pow.f k a0 a1) (quot_Pow.f (k + 1) a0 a1) := by
 intro a0 a1 k
 have ih0 := quot_Pow.mono_l k
 unfold quot_Pow.f
 have m0_ := nat_Bits.mono
 have m1_ := nat_Mul.mono
 have m2_ := wide_Len.mono
 exact mX
set_option maxHeartbeats 8000000 in
set_option maxRecDepth 100000 in
theorem quot_Pow.calls (k : Nat) (A0 : Option Addr) (c0 : Nat) (l0 : List Int) (a1 : Int) (r1 : List Int) (r2 : Int) (w : World) (hr0 : Kd.C (Kd.int .u64) w A0 l0.length l0) (hc0 : l0.length ≤ c0) (h : quot_Pow.f k l0 a1 = some (r1, r2)) :
  Calls Tryd.prog 84 #[.slice A0 l0.length c0, .int .i64 a1] w fun e w' => ∃ v0_ : Value, e = .returned (.tuple #[v0_, .int .i64 r2]) ∧ Kd.R (Kd.int .u64) 22 w' w.heap.size (fun _ => True) v0_ r1 ∧ Below w.heap.size w w' := by
 have HR0 := Aside0.mk hr0
 have HC0 := Aside0.mk hc0
 clear hr0 hc0
 have HB := Aside0.mk (Below.refl w.heap.size w)
 have H : ((nat_Norm.f l0).bind fun t147 => ((nat_Bits.f k t147).bind fun t150 => (if a1 < 0 then (some (([] : List Int), 31)) else (if a1 = 0 then ((nat_From.f 1).bind fun t151 => (some (t151, 0))) else (if t150 < 2 then (some (t147, 0)) else (if (wrap64 (t150 - 1)) = 0 then (none) else (if a1 > (wrap64 (Int.tdiv (262144 : Int) (wrap64 (t150 - 1)))) then (some (([] : List Int), 21)) else ((nat_From.f 1).bind fun t154 => ((wide_Len.f k (IntKind.u64.wrap (a1))).bind fun t157 => (quot_Pow.l0 k t147 a1 t154 (wrap64 (t157 - 1)))))))))))) = some (r1, r2) := h
 clear h
 replace H := obe H
 obtain ⟨t147, A30, H⟩ := H
 (try dsimp only at H)
 have A3 := Aside0.mk A30
 clear A30
 replace H := obe H
 obtain ⟨t150, A40, H⟩ := H
 (try dsimp only at H)
 have A4 := Aside0.mk A40
 clear A40
 by_cases c5 : a1 < 0
 ·rw [if_pos c5] at H
  have c5b0 : decide (a1 < 0) = true := decide_eq_true c5
  clear c5
  simp only [Option.some.injEq, Prod.mk.injEq] at H
  obtain ⟨rfl, rfl⟩ := H
  go_enter Tryd.func84, Tryd.ntmps84
  go_wp2_with (first | ((with_reducible refine gate_callee (f := 73) rfl ?_); refine gL (some 12) Tryd.func73 #[.slice A0 l0.length c0] ?_; (with_reducible refine (nat_Norm.calls _ _ l0 t147 _ ?side1 ?side2 A3.out).mono ?_); (case side1 => exact dC HR0.out); (case side2 => exact HC0.out); rintro e w6 ⟨v148, rfl, ho0, hb⟩; refine ⟨_, rfl, ?_⟩; have HO149 := Aside0.mk (Kd.R_lower ho0 (below_size dB)); replace HB := Aside0.mk (below_step dB hb); (try clear hb); (try clear ho0); obtain ⟨Ao7, co7, eo7⟩ := Kd.R_slice HO149.out; subst eo7) | ((with_reducible refine gate_callee (f := 43) rfl ?_); refine gL (some 14) Tryd.func43 #[.slice Ao7 t147.length co7] ?_; (with_reducible refine (nat_Bits.calls k _ _ t147 t150 _ ?side1 ?side2 A4.out).mono ?_); (case side1 => exact dC (Kd.R_reads' HO149.out).2.2); (case side2 => exact (Kd.R_reads' HO149.out).2.1); rintro e w' ⟨rfl, ⟨nd, rfl⟩⟩; refine ⟨_, rfl, ?_⟩))
  go_ret2
  exact ⟨_, dE, by first | exact Kd.R_nil _ _ _ _ _ | exact Kd.N_nil _ _ _ _ _ | exact Kd.V_nil _ _ _ _ _ | exact Kd.Q_nil _ _ _ _ _ | exact Kd.S_nil _ _ _ _ _, dB⟩
 ·rw [if_neg c5] at H
  have c5b0 : decide (a1 < 0) = false := decide_eq_false c5
  clear c5
  by_cases c8 : a1 = 0
  ·rw [if_pos c8] at H
   have c8b0 : (a1 == 0) = true := beq_iff_eq.mpr c8
   have c8b1 : (a1 != 0) = false := bne_eq_false_iff_eq.mpr c8
   clear c8
   replace H := obe H
   obtain ⟨t151, A90, H⟩ := H
   (try dsimp only at H)
   have A9 := Aside0.mk A90
   clear A90
   simp only [Option.some.injEq, Prod.mk.injEq] at H
   obtain ⟨rfl, rfl⟩ := H
   go_enter Tryd.func84, Tryd.ntmps84
   go_wp2_with (first | ((with_reducible refine gate_callee (f := 73) rfl ?_); refine gL (some 12) Tryd.func73 #[.slice A0 l0.length c0] ?_; (with_reducible refine (nat_Norm.calls _ _ l0 t147 _ ?side1 ?side2 A3.out).mono ?_); (case side1 => exact dC HR0.out); (case side2 => exact HC0.out); rintro e w10 ⟨v148, rfl, ho0, hb⟩; refine ⟨_, rfl, ?_⟩; have HO149 := Aside0.mk (Kd.R_lower ho0 (below_size dB)); replace HB := Aside0.mk (below_step dB hb); (try clear hb); (try clear ho0); obtain ⟨Ao11, co11, eo11⟩ := Kd.R_slice HO149.out; subst eo11) | ((with_reducible refine gate_callee (f := 43) rfl ?_); refine gL (some 14) Tryd.func43 #[.slice Ao11 t147.length co11] ?_; (with_reducible refine (nat_Bits.calls k _ _ t147 t150 _ ?side1 ?side2 A4.out).mono ?_); (case side1 => exact dC (Kd.R_reads' HO149.out).2.2); (case side2 => exact (Kd.R_reads' HO149.out).2.1); rintro e w' ⟨rfl, ⟨nd, rfl⟩⟩; refine ⟨_, rfl, ?_⟩) | ((with_reducible refine gate_callee (f := 54) rfl ?_); refine gL (some 21) Tryd.func54 #[.int .u64 1] ?_; (with_reducible refine (nat_From.calls 1 t151 _ A9.out).mono ?_); rintro e w12 ⟨v152, rfl, ho0, hb⟩; refine ⟨_, rfl, ?_⟩; have HO153 := Aside0.mk (Kd.R_lower (Kd.R_new' ho0 (Kd.R_lt (dR HO149.out))) (below_size dB)); replace HO149 := Aside0.mk (Kd.R_elder' (dR HO149.out) (Kd.R_base ho0) hb); replace HB := Aside0.mk (below_step dB hb); (try clear hb); (try clear ho0)))
   go_ret2
   exact ⟨_, dE, by (with_reducible repeat (first | apply Kd.R_alloc | apply Kd.R_drewN | apply Kd.R_drew)); exact Kd.R_mono HO153.out (fun _ hk => trivial), dB⟩
  ·rw [if_neg c8] at H
   have c8b0 : (a1 == 0) = false := beq_eq_false_iff_ne.mpr c8
   have c8b1 : (a1 != 0) = true := bne_iff_ne.mpr c8
   by_cases c13 : t150 < 2
   ·rw [if_pos c13] at H
    have c13b0 : decide (t150 < 2) = true := decide_eq_true c13
    clear c13
    simp only [Option.some.injEq, Prod.mk.injEq] at H
    obtain ⟨rfl, rfl⟩ := H
    go_enter Tryd.func84, Tryd.ntmps84
    go_wp2_with (first | ((with_reducible refine gate_callee (f := 73) rfl ?_); refine gL (some 12) Tryd.func73 #[.slice A0 l0.length c0] ?_; (with_reducible refine (nat_Norm.calls _ _ l0 t147 _ ?side1 ?side2 A3.out).mono ?_); (case side1 => exact dC HR0.out); (case side2 => exact HC0.out); rintro e w14 ⟨v148, rfl, ho0, hb⟩; refine ⟨_, rfl, ?_⟩; have HO149 := Aside0.mk (Kd.R_lower ho0 (below_size dB)); replace HB := Aside0.mk (below_step dB hb); (try clear hb); (try clear ho0); obtain ⟨Ao15, co15, eo15⟩ := Kd.R_slice HO149.out; subst eo15) | ((with_reducible refine gate_callee (f := 43) rfl ?_); refine gL (some 14) Tryd.func43 #[.slice Ao15 t147.length co15] ?_; (with_reducible refine (nat_Bits.calls k _ _ t147 t150 _ ?side1 ?side2 A4.out).mono ?_); (case side1 => exact dC (Kd.R_reads' HO149.out).2.2); (case side2 => exact (Kd.R_reads' HO149.out).2.1); rintro e w' ⟨rfl, ⟨nd, rfl⟩⟩; refine ⟨_, rfl, ?_⟩))
    go_ret2
    exact ⟨_, dE, dR HO149.out, dB⟩
   ·rw [if_neg c13] at H
    have c13b0 : decide (t150 < 2) = false := decide_eq_false c13
    clear c13
    by_cases c16 : (wrap64 (t150 - 1)) = 0
    ·rw [if_pos c16] at H
     exact absurd H (by simp)
    ·rw [if_neg c16] at H
     have c16b0 : ((wrap64 (t150 - 1)) == 0) = false := beq_eq_false_iff_ne.mpr c16
     have c16b1 : ((wrap64 (t150 - 1)) != 0) = true := bne_iff_ne.mpr c16
     by_cases c17 : a1 > (wrap64 (Int.tdiv (262144 : Int) (wrap64 (t150 - 1))))
     ·rw [if_pos c17] at H
      have c17b0 : decide ((wrap64 (Int.tdiv (262144 : Int) (wrap64 (t150 - 1)))) < a1) = true := decide_eq_true c17
      clear c17
      simp only [Option.some.injEq, Prod.mk.injEq] at H
      obtain ⟨rfl, rfl⟩ := H
      go_enter Tryd.func84, Tryd.ntmps84
      go_wp2_with (first | ((with_reducible refine gate_callee (f := 73) rfl ?_); refine gL (some 12) Tryd.func73 #[.slice A0 l0.length c0] ?_; (with_reducible refine (nat_Norm.calls _ _ l0 t147 _ ?side1 ?side2 A3.out).mono ?_); (case side1 => exact dC HR0.out); (case side2 => exact HC0.out); rintro e w18 ⟨v148, rfl, ho0, hb⟩; refine ⟨_, rfl, ?_⟩; have HO149 := Aside0.mk (Kd.R_lower ho0 (below_size dB)); replace HB := Aside0.mk (below_step dB hb); (try clear hb); (try clear ho0); obtain ⟨Ao19, co19, eo19⟩ := Kd.R_slice HO149.out; subst eo19) | ((with_reducible refine gate_callee (f := 43) rfl ?_); refine gL (some 14) Tryd.func43 #[.slice Ao19 t147.length co19] ?_; (with_reducible refine (nat_Bits.calls k _ _ t147 t150 _ ?side1 ?side2 A4.out).mono ?_); (case side1 => exact dC (Kd.R_reads' HO149.out).2.2); (case side2 => exact (Kd.R_reads' HO149.out).2.1); rintro e w' ⟨rfl, ⟨nd, rfl⟩⟩; refine ⟨_, rfl, ?_⟩))
      go_ret2
      exact ⟨_, dE, by first | exact Kd.R_nil _ _ _ _ _ | exact Kd.N_nil _ _ _ _ _ | exact Kd.V_nil _ _ _ _ _ | exact Kd.Q_nil _ _ _ _ _ | exact Kd.S_nil _ _ _ _ _, dB⟩
     ·rw [if_neg c17] at H
      have c17b0 : decide ((wrap64 (Int.tdiv (262144 : Int) (wrap64 (t150 - 1)))) < a1) = false := decide_eq_false c17
      clear c17
      replace H := obe H
      obtain ⟨t154, A200, H⟩ := H
      (try dsimp only at H)
      have A20 := Aside0.mk A200
      clear A200
      replace H := obe H
      obtain ⟨t157, A210, H⟩ := H
      (try dsimp only at H)
      have A21 := Aside0.mk A210
      clear A210
      have H' := Aside0.mk H
      clear H
      go_enter Tryd.func84, Tryd.ntmps84
      go_wp2_with (first | ((with_reducible refine gate_callee (f := 73) rfl ?_); refine gL (some 12) Tryd.func73 #[.slice A0 l0.length c0] ?_; (with_reducible refine (nat_Norm.calls _ _ l0 t147 _ ?side1 ?side2 A3.out).mono ?_); (case side1 => exact dC HR0.out); (case side2 => exact HC0.out); rintro e w22 ⟨v148, rfl, ho0, hb⟩; refine ⟨_, rfl, ?_⟩; have HO149 := Aside0.mk (Kd.R_lower ho0 (below_size dB)); replace HB := Aside0.mk (below_step dB hb); (try clear hb); (try clear ho0); obtain ⟨Ao23, co23, eo23⟩ := Kd.R_slice HO149.out; subst eo23) | ((with_reducible refine gate_callee (f := 43) rfl ?_); refine gL (some 14) Tryd.func43 #[.slice Ao23 t147.length co23] ?_; (with_reducible refine (nat_Bits.calls k _ _ t147 t150 _ ?side1 ?side2 A4.out).mono ?_); (case side1 => exact dC (Kd.R_reads' HO149.out).2.2); (case side2 => exact (Kd.R_reads' HO149.out).2.1); rintro e w' ⟨rfl, ⟨nd, rfl⟩⟩; refine ⟨_, rfl, ?_⟩) | ((with_reducible refine gate_callee (f := 54) rfl ?_); refine gL (some 32) Tryd.func54 #[.int .u64 1] ?_; (with_reducible refine (nat_From.calls 1 t154 _ A20.out).mono ?_); rintro e w24 ⟨v155, rfl, ho0, hb⟩; refine ⟨_, rfl, ?_⟩; have HO156 := Aside0.mk (Kd.R_lower (Kd.R_new' ho0 (Kd.R_lt (dR HO149.out))) (below_size dB)); replace HO149 := Aside0.mk (Kd.R_elder' (dR HO149.out) (Kd.R_base ho0) hb); replace HB := Aside0.mk (below_step dB hb); (try clear hb); (try clear ho0)) | ((with_reducible refine gate_callee (f := 30) rfl ?_); refine gL (some 35) Tryd.func30 #[.int .u64 (IntKind.u64.wrap (a1))] ?_; (with_reducible refine (wide_Len.calls k (IntKind.u64.wrap (a1)) t157 _ A21.out).mono ?_); rintro e w' ⟨rfl, ⟨nd, rfl⟩⟩; refine ⟨_, rfl, ?_⟩))
      go_loopg [7, 8] k (fun kq v7 v8 w' => ∃ (x7_1 : List Int) (x8_1 : Int), v8 = .int .i64 x8_1 ∧ Aside0 (quot_Pow.l0 kq t147 a1 x7_1 x8_1 = some (r1, r2)) ∧ Aside0 (kq ≤ k) ∧ Aside0 (Kd.R (Kd.int .u64) 22 w' w.heap.size (fun k_ => some k_ ≠ (v7 : Value).ownBlock) (.slice Ao23 t147.length co23) t147) ∧ Aside0 (Kd.R (Kd.int .u64) 22 w' w.heap.size (fun k_ => some k_ ≠ ((.slice Ao23 t147.length co23) : Value).ownBlock) v7 x7_1) ∧ Aside0 (Below w.heap.size w w'))
      case atStart => exact ⟨(t154), (wrap64 (t157 - 1)), dF, H', ⟨Nat.le_refl _⟩, ⟨by (with_reducible repeat (first | apply Kd.R_alloc | apply Kd.R_drewN | apply Kd.R_drew)); exact Kd.R_mono HO149.out (fun _ hk => hk.2)⟩, ⟨by (with_reducible repeat (first | apply Kd.R_alloc | apply Kd.R_drewN | apply Kd.R_drew)); exact Kd.R_mono HO156.out (fun _ hk => hk.2)⟩, ⟨dB⟩⟩
      case round =>
       clear H'
       try clear c5
       try clear c5b0
       try clear c8
       try clear c8b0
       try clear c8b1
       try clear c13
       try clear c13b0
       try clear c16
       try clear c16b0
       try clear c16b1
       try clear c17
       try clear c17b0
       obtain ⟨x7_1, x8_1, rfl, HA, HK1, HO_0, HO_7, HB⟩ := hrel
       cases gk with
       | zero => exact absurd HA.out (by simp [quot_Pow.l0])
       | succ k1 =>
        have H := HA.out
        clear HA
        simp only [quot_Pow.l0] at H
        by_cases c25 : x8_1 ≥ 0
        ·rw [if_pos c25] at H
         have c25b0 : decide (0 ≤ x8_1) = true := decide_eq_true c25
         clear c25
         replace H := obe H
         obtain ⟨⟨t158, t159⟩, A260, H⟩ := H
         (try dsimp only at H)
         have A26 := Aside0.mk A260
         clear A260
         by_cases c27 : (0 : Int) ≤ x8_1
         ·rw [if_pos c27] at H
          have c27b0 := eq_true c27
          have c27b1 : decide (0 ≤ x8_1) = true := decide_eq_true c27
          clear c27
          obtain ⟨ji28, hji28⟩ : ∃ j_ : Int, (shr .i64 a1 x8_1) = j_ := ⟨_, rfl⟩
          first | rw [hji28] at H | simp only [hji28] at H
          (try rw [hji28] at A26)
          have hji28_ : (a1 / 2 ^ min x8_1.toNat 64) = ji28 := hji28
          have hji28z : x8_1 ≤ 64 → (a1 / 2 ^ x8_1.toNat) = ji28 := shr_small hji28
          by_cases c29 : (Go.bits .and .i64 (ji28) 1) = 1
          ·rw [if_pos c29] at H
           have c29b0 : ((Go.bits .and .i64 (ji28) 1) == 1) = true := beq_iff_eq.mpr c29
           have c29b1 : ((Go.bits .and .i64 (ji28) 1) != 1) = false := bne_eq_false_iff_eq.mpr c29
           clear c29
           replace H := obe H
           obtain ⟨⟨t162, t163⟩, A300, H⟩ := H
           (try dsimp only at H)
           have A30 := Aside0.mk A300
           clear A300
           by_cases c31 : t159 = 0
           ·rw [if_pos c31] at H
            have c31b0 : (t159 == 0) = true := beq_iff_eq.mpr c31
            have c31b1 : (t159 != 0) = false := bne_eq_false_iff_eq.mpr c31
            clear c31
            by_cases c32 : t163 = 0
            ·rw [if_pos c32] at H
             have c32b0 : (t163 == 0) = true := beq_iff_eq.mpr c32
             have c32b1 : (t163 != 0) = false := bne_eq_false_iff_eq.mpr c32
             clear c32
             have H' := Aside0.mk H
             clear H
             obtain ⟨Ao33, co33, eo33⟩ := Kd.R_slice HO_7.out
             subst eo33
             go_wp2_with (first | ((with_reducible refine gate_callee (f := 20) rfl ?_); refine gL (some 44) Tryd.func20 #[.slice Ao33 x7_1.length co33, .slice Ao33 x7_1.length co33] ?_; (with_reducible refine (nat_Mul.calls k1 _ _ x7_1 _ _ x7_1 t158 t159 _ ?side1 ?side2 ?side3 ?side4 A26.out).mono ?_); (case side1 => exact dC (Kd.R_reads' HO_7.out).2.2); (case side2 => exact (Kd.R_reads' HO_7.out).2.1); (case side3 => exact dC (Kd.R_reads' HO_7.out).2.2); (case side4 => exact (Kd.R_reads' HO_7.out).2.1); rintro e w34 ⟨v160, rfl, ho0, hb⟩; refine ⟨_, rfl, ?_⟩; have HO161 := Aside0.mk (Kd.R_lower (Kd.R_new' (Kd.R_new' ho0 (Kd.R_lt (dR HO_0.out))) (Kd.R_lt (dR HO_7.out))) (below_size dB)); replace HO_0 := Aside0.mk (Kd.R_elder' (dR HO_0.out) (Kd.R_base ho0) hb); replace HO_7 := Aside0.mk (Kd.R_elder' (dR HO_7.out) (Kd.R_base ho0) hb); replace HB := Aside0.mk (below_step dB hb); (try clear hb); (try clear ho0); obtain ⟨Ao35, co35, eo35⟩ := Kd.R_slice HO161.out; subst eo35) | ((with_reducible refine gate_callee (f := 20) rfl ?_); refine gL (some 55) Tryd.func20 #[.slice Ao35 t158.length co35, .slice Ao23 t147.length co23] ?_; (with_reducible refine (nat_Mul.calls k1 _ _ t158 _ _ t147 t162 t163 _ ?side1 ?side2 ?side3 ?side4 A30.out).mono ?_); (case side1 => exact dC (Kd.R_reads' HO161.out).2.2); (case side2 => exact (Kd.R_reads' HO161.out).2.1); (case side3 => exact dC (Kd.R_reads' HO_0.out).2.2); (case side4 => exact (Kd.R_reads' HO_0.out).2.1); rintro e w36 ⟨v164, rfl, ho0, hb⟩; refine ⟨_, rfl, ?_⟩; have HO165 := Aside0.mk (Kd.R_lower (Kd.R_new' (Kd.R_new' (Kd.R_new' ho0 (Kd.R_lt (dR HO_0.out))) (Kd.R_lt (dR HO_7.out))) (Kd.R_lt (dR HO161.out))) (below_size dB)); replace HO_0 := Aside0.mk (Kd.R_elder' (dR HO_0.out) (Kd.R_base ho0) hb); replace HO_7 := Aside0.mk (Kd.R_elder' (dR HO_7.out) (Kd.R_base ho0) hb); replace HO161 := Aside0.mk (Kd.R_elder' (dR HO161.out) (Kd.R_base ho0) hb); replace HB := Aside0.mk (below_step dB hb); (try clear hb); (try clear ho0)))
             go_roundg k1
             case measure => have := HK1.out; omega
             case rel => exact ⟨(t162), (wrap64 (x8_1 - 1)), dF, H', ⟨by have := HK1.out; omega⟩, ⟨by (with_reducible repeat (first | apply Kd.R_alloc | apply Kd.R_drewN | apply Kd.R_drew)); exact Kd.R_mono HO_0.out (fun _ hk => hk.2)⟩, ⟨by (with_reducible repeat (first | apply Kd.R_alloc | apply Kd.R_drewN | apply Kd.R_drew)); exact Kd.R_mono HO165.out (fun _ hk => hk.1.1.2)⟩, ⟨dB⟩⟩
            ·rw [if_neg c32] at H
             have c32b0 : (t163 == 0) = false := beq_eq_false_iff_ne.mpr c32
             have c32b1 : (t163 != 0) = true := bne_iff_ne.mpr c32
             simp only [Option.some.injEq, Prod.mk.injEq] at H
             obtain ⟨rfl, rfl⟩ := H
             obtain ⟨Ao37, co37, eo37⟩ := Kd.R_slice HO_7.out
             subst eo37
             go_wp2_with (first | ((with_reducible refine gate_callee (f := 20) rfl ?_); refine gL (some 44) Tryd.func20 #[.slice Ao37 x7_1.length co37, .slice Ao37 x7_1.length co37] ?_; (with_reducible refine (nat_Mul.calls k1 _ _ x7_1 _ _ x7_1 t158 t159 _ ?side1 ?side2 ?side3 ?side4 A26.out).mono ?_); (case side1 => exact dC (Kd.R_reads' HO_7.out).2.2); (case side2 => exact (Kd.R_reads' HO_7.out).2.1); (case side3 => exact dC (Kd.R_reads' HO_7.out).2.2); (case side4 => exact (Kd.R_reads' HO_7.out).2.1); rintro e w38 ⟨v160, rfl, ho0, hb⟩; refine ⟨_, rfl, ?_⟩; have HO161 := Aside0.mk (Kd.R_lower (Kd.R_new' (Kd.R_new' ho0 (Kd.R_lt (dR HO_0.out))) (Kd.R_lt (dR HO_7.out))) (below_size dB)); replace HO_0 := Aside0.mk (Kd.R_elder' (dR HO_0.out) (Kd.R_base ho0) hb); replace HO_7 := Aside0.mk (Kd.R_elder' (dR HO_7.out) (Kd.R_base ho0) hb); replace HB := Aside0.mk (below_step dB hb); (try clear hb); (try clear ho0); obtain ⟨Ao39, co39, eo39⟩ := Kd.R_slice HO161.out; subst eo39) | ((with_reducible refine gate_callee (f := 20) rfl ?_); refine gL (some 55) Tryd.func20 #[.slice Ao39 t158.length co39, .slice Ao23 t147.length co23] ?_; (with_reducible refine (nat_Mul.calls k1 _ _ t158 _ _ t147 t162 t163 _ ?side1 ?side2 ?side3 ?side4 A30.out).mono ?_); (case side1 => exact dC (Kd.R_reads' HO161.out).2.2); (case side2 => exact (Kd.R_reads' HO161.out).2.1); (case side3 => exact dC (Kd.R_reads' HO_0.out).2.2); (case side4 => exact (Kd.R_reads' HO_0.out).2.1); rintro e w40 ⟨v164, rfl, ho0, hb⟩; refine ⟨_, rfl, ?_⟩; have HO165 := Aside0.mk (Kd.R_lower (Kd.R_new' (Kd.R_new' (Kd.R_new' ho0 (Kd.R_lt (dR HO_0.out))) (Kd.R_lt (dR HO_7.out))) (Kd.R_lt (dR HO161.out))) (below_size dB)); replace HO_0 := Aside0.mk (Kd.R_elder' (dR HO_0.out) (Kd.R_base ho0) hb); replace HO_7 := Aside0.mk (Kd.R_elder' (dR HO_7.out) (Kd.R_base ho0) hb); replace HO161 := Aside0.mk (Kd.R_elder' (dR HO161.out) (Kd.R_base ho0) hb); replace HB := Aside0.mk (below_step dB hb); (try clear hb); (try clear ho0)))
             go_ret2
             exact ⟨_, by first | rfl | (simp [errW_none, errW_some] <;> rfl) | (simp only [← hji28]; first | rfl | (simp [errW_none, errW_some] <;> rfl)) | (simp [*, errW_none, errW_some] <;> rfl), by first | exact Kd.R_nil _ _ _ _ _ | exact Kd.N_nil _ _ _ _ _ | exact Kd.V_nil _ _ _ _ _ | exact Kd.Q_nil _ _ _ _ _ | exact Kd.S_nil _ _ _ _ _, dB⟩
           ·rw [if_neg c31] at H
            have c31b0 : (t159 == 0) = false := beq_eq_false_iff_ne.mpr c31
            have c31b1 : (t159 != 0) = true := bne_iff_ne.mpr c31
            simp only [Option.some.injEq, Prod.mk.injEq] at H
            obtain ⟨rfl, rfl⟩ := H
            obtain ⟨Ao41, co41, eo41⟩ := Kd.R_slice HO_7.out
            subst eo41
            go_wp2_with (first | ((with_reducible refine gate_callee (f := 20) rfl ?_); refine gL (some 44) Tryd.func20 #[.slice Ao41 x7_1.length co41, .slice Ao41 x7_1.length co41] ?_; (with_reducible refine (nat_Mul.calls k1 _ _ x7_1 _ _ x7_1 t158 t159 _ ?side1 ?side2 ?side3 ?side4 A26.out).mono ?_); (case side1 => exact dC (Kd.R_reads' HO_7.out).2.2); (case side2 => exact (Kd.R_reads' HO_7.out).2.1); (case side3 => exact dC (Kd.R_reads' HO_7.out).2.2); (case side4 => exact (Kd.R_reads' HO_7.out).2.1); rintro e w42 ⟨v160, rfl, ho0, hb⟩; refine ⟨_, rfl, ?_⟩; have HO161 := Aside0.mk (Kd.R_lower (Kd.R_new' (Kd.R_new' ho0 (Kd.R_lt (dR HO_0.out))) (Kd.R_lt (dR HO_7.out))) (below_size dB)); replace HO_0 := Aside0.mk (Kd.R_elder' (dR HO_0.out) (Kd.R_base ho0) hb); replace HO_7 := Aside0.mk (Kd.R_elder' (dR HO_7.out) (Kd.R_base ho0) hb); replace HB := Aside0.mk (below_step dB hb); (try clear hb); (try clear ho0); obtain ⟨Ao43, co43, eo43⟩ := Kd.R_slice HO161.out; subst eo43) | ((with_reducible refine gate_callee (f := 20) rfl ?_); refine gL (some 55) Tryd.func20 #[.slice Ao43 t158.length co43, .slice Ao23 t147.length co23] ?_; (with_reducible refine (nat_Mul.calls k1 _ _ t158 _ _ t147 t162 t163 _ ?side1 ?side2 ?side3 ?side4 A30.out).mono ?_); (case side1 => exact dC (Kd.R_reads' HO161.out).2.2); (case side2 => exact (Kd.R_reads' HO161.out).2.1); (case side3 => exact dC (Kd.R_reads' HO_0.out).2.2); (case side4 => exact (Kd.R_reads' HO_0.out).2.1); rintro e w44 ⟨v164, rfl, ho0, hb⟩; refine ⟨_, rfl, ?_⟩; have HO165 := Aside0.mk (Kd.R_lower (Kd.R_new' (Kd.R_new' (Kd.R_new' ho0 (Kd.R_lt (dR HO_0.out))) (Kd.R_lt (dR HO_7.out))) (Kd.R_lt (dR HO161.out))) (below_size dB)); replace HO_0 := Aside0.mk (Kd.R_elder' (dR HO_0.out) (Kd.R_base ho0) hb); replace HO_7 := Aside0.mk (Kd.R_elder' (dR HO_7.out) (Kd.R_base ho0) hb); replace HO161 := Aside0.mk (Kd.R_elder' (dR HO161.out) (Kd.R_base ho0) hb); replace HB := Aside0.mk (below_step dB hb); (try clear hb); (try clear ho0)))
            go_ret2
            exact ⟨_, by first | rfl | (simp [errW_none, errW_some] <;> rfl) | (simp only [← hji28]; first | rfl | (simp [errW_none, errW_some] <;> rfl)) | (simp [*, errW_none, errW_some] <;> rfl), by first | exact Kd.R_nil _ _ _ _ _ | exact Kd.N_nil _ _ _ _ _ | exact Kd.V_nil _ _ _ _ _ | exact Kd.Q_nil _ _ _ _ _ | exact Kd.S_nil _ _ _ _ _, dB⟩
          ·rw [if_neg c29] at H
           have c29b0 : ((Go.bits .and .i64 (ji28) 1) == 1) = false := beq_eq_false_iff_ne.mpr c29
           have c29b1 : ((Go.bits .and .i64 (ji28) 1) != 1) = true := bne_iff_ne.mpr c29
           by_cases c45 : t159 = 0
           ·rw [if_pos c45] at H
            have c45b0 : (t159 == 0) = true := beq_iff_eq.mpr c45
            have c45b1 : (t159 != 0) = false := bne_eq_false_iff_eq.mpr c45
            clear c45
            have H' := Aside0.mk H
            clear H
            obtain ⟨Ao46, co46, eo46⟩ := Kd.R_slice HO_7.out
            subst eo46
            go_wp2_with (first | ((with_reducible refine gate_callee (f := 20) rfl ?_); refine gL (some 44) Tryd.func20 #[.slice Ao46 x7_1.length co46, .slice Ao46 x7_1.length co46] ?_; (with_reducible refine (nat_Mul.calls k1 _ _ x7_1 _ _ x7_1 t158 t159 _ ?side1 ?side2 ?side3 ?side4 A26.out).mono ?_); (case side1 => exact dC (Kd.R_reads' HO_7.out).2.2); (case side2 => exact (Kd.R_reads' HO_7.out).2.1); (case side3 => exact dC (Kd.R_reads' HO_7.out).2.2); (case side4 => exact (Kd.R_reads' HO_7.out).2.1); rintro e w47 ⟨v160, rfl, ho0, hb⟩; refine ⟨_, rfl, ?_⟩; have HO161 := Aside0.mk (Kd.R_lower (Kd.R_new' (Kd.R_new' ho0 (Kd.R_lt (dR HO_0.out))) (Kd.R_lt (dR HO_7.out))) (below_size dB)); replace HO_0 := Aside0.mk (Kd.R_elder' (dR HO_0.out) (Kd.R_base ho0) hb); replace HO_7 := Aside0.mk (Kd.R_elder' (dR HO_7.out) (Kd.R_base ho0) hb); replace HB := Aside0.mk (below_step dB hb); (try clear hb); (try clear ho0)))
            go_roundg k1
            case measure => have := HK1.out; omega
            case rel => exact ⟨(t158), (wrap64 (x8_1 - 1)), dF, H', ⟨by have := HK1.out; omega⟩, ⟨by (with_reducible repeat (first | apply Kd.R_alloc | apply Kd.R_drewN | apply Kd.R_drew)); exact Kd.R_mono HO_0.out (fun _ hk => hk.2)⟩, ⟨by (with_reducible repeat (first | apply Kd.R_alloc | apply Kd.R_drewN | apply Kd.R_drew)); exact Kd.R_mono HO161.out (fun _ hk => hk.1.2)⟩, ⟨dB⟩⟩
           ·rw [if_neg c45] at H
            have c45b0 : (t159 == 0) = false := beq_eq_false_iff_ne.mpr c45
            have c45b1 : (t159 != 0) = true := bne_iff_ne.mpr c45
            simp only [Option.some.injEq, Prod.mk.injEq] at H
            obtain ⟨rfl, rfl⟩ := H
            obtain ⟨Ao48, co48, eo48⟩ := Kd.R_slice HO_7.out
            subst eo48
            go_wp2_with (first | ((with_reducible refine gate_callee (f := 20) rfl ?_); refine gL (some 44) Tryd.func20 #[.slice Ao48 x7_1.length co48, .slice Ao48 x7_1.length co48] ?_; (with_reducible refine (nat_Mul.calls k1 _ _ x7_1 _ _ x7_1 t158 t159 _ ?side1 ?side2 ?side3 ?side4 A26.out).mono ?_); (case side1 => exact dC (Kd.R_reads' HO_7.out).2.2); (case side2 => exact (Kd.R_reads' HO_7.out).2.1); (case side3 => exact dC (Kd.R_reads' HO_7.out).2.2); (case side4 => exact (Kd.R_reads' HO_7.out).2.1); rintro e w49 ⟨v160, rfl, ho0, hb⟩; refine ⟨_, rfl, ?_⟩; have HO161 := Aside0.mk (Kd.R_lower (Kd.R_new' (Kd.R_new' ho0 (Kd.R_lt (dR HO_0.out))) (Kd.R_lt (dR HO_7.out))) (below_size dB)); replace HO_0 := Aside0.mk (Kd.R_elder' (dR HO_0.out) (Kd.R_base ho0) hb); replace HO_7 := Aside0.mk (Kd.R_elder' (dR HO_7.out) (Kd.R_base ho0) hb); replace HB := Aside0.mk (below_step dB hb); (try clear hb); (try clear ho0)))
            go_ret2
            exact ⟨_, by first | rfl | (simp [errW_none, errW_some] <;> rfl) | (simp only [← hji28]; first | rfl | (simp [errW_none, errW_some] <;> rfl)) | (simp [*, errW_none, errW_some] <;> rfl), by first | exact Kd.R_nil _ _ _ _ _ | exact Kd.N_nil _ _ _ _ _ | exact Kd.V_nil _ _ _ _ _ | exact Kd.Q_nil _ _ _ _ _ | exact Kd.S_nil _ _ _ _ _, dB⟩
         ·rw [if_neg c27] at H
          exact absurd H (by simp)
        ·rw [if_neg c25] at H
         have c25b0 : decide (0 ≤ x8_1) = false := decide_eq_false c25
         clear c25
         simp only [Option.some.injEq, Prod.mk.injEq] at H
         obtain ⟨rfl, rfl⟩ := H
         go_wp2
         go_ret2
         exact ⟨_, dE, by (with_reducible repeat (first | apply Kd.R_alloc | apply Kd.R_drewN | apply Kd.R_drew)); exact Kd.R_mono HO_7.out (fun _ hk => trivial), dB⟩

/-! ### radix_Five: function 57 -/
def radix_Five.f (k : Nat) (a0 : Int) : Option (List Int × Int) := if a0 > 112899 then (some (([] : List Int), 21)) else ((quot_Pow.f k (([5] : List Int)) a0).bind fun bt169 => (some (bt169.1, bt169.2)))
theorem radix_Five.mono : ∀ a0 k, LeO (radix_Five.f k a0) (radix_Five.f (k + 1) a0) := by
 intro a0 k
 unfold radix_Five.f
 have m0_ := quot_Pow.mono
 exact mX
set_option maxHeartbeats 8000000 in
set_option maxRecDepth 100000 in
theorem radix_Five.calls (k : Nat) (a0 : Int) (r1 : List Int) (r2 : Int) (w : World) (h : radix_Five.f k a0 = some (r1, r2)) :
  Calls Tryd.prog 57 #[.int .i64 a0] w fun e w' => ∃ v0_ : Value, e = .returned (.tuple #[v0_, .int .i64 r2]) ∧ Kd.R (Kd.int .u64) 22 w' w.heap.size (fun _ => True) v0_ r1 ∧ Below w.heap.size w w' := by
 have HB := Aside0.mk (Below.refl w.heap.size w)
 have H : (if a0 > 112899 then (some (([] : List Int), 21)) else ((quot_Pow.f k (([5] : List Int)) a0).bind fun bt169 => (some (bt169.1, bt169.2)))) = some (r1, r2) := h
 clear h
 by_cases c2 : a0 > 112899
 ·rw [if_pos c2] at H
  have c2b0 : decide (112899 < a0) = true := decide_eq_true c2
  clear c2
  simp only [Option.some.injEq, Prod.mk.injEq] at H
  obtain ⟨rfl, rfl⟩ := H
  go_enter Tryd.func57, Tryd.ntmps57
  go_wp2
  go_ret2
  exact ⟨_, dE, by first | exact Kd.R_nil _ _ _ _ _ | exact Kd.N_nil _ _ _ _ _ | exact Kd.V_nil _ _ _ _ _ | exact Kd.Q_nil _ _ _ _ _ | exact Kd.S_nil _ _ _ _ _, dB⟩
 ·rw [if_neg c2] at H
  have c2b0 : decide (112899 < a0) = false := decide_eq_false c2
  clear c2
  obtain ⟨y166, hy166⟩ : ∃ y_ : List Int, y_ = (([5] : List Int)) := ⟨_, rfl⟩
  replace H : ((quot_Pow.f k y166 a0).bind fun bt169 => (some (bt169.1, bt169.2))) = some (r1, r2) := by first | (rw [hy166]; with_reducible exact H) | (have H2_ := (Option.bind_some _ _).symm.trans H; rw [hy166]; with_reducible exact H2_) | (have H2_ := (Option.bind_some _ _).symm.trans H; with_reducible exact H2_) | with_reducible exact H | (rw [hy166]; exact H) | exact H
  have Ny166 := Aside0.mk hy166
  clear hy166
  replace H := obe H
  obtain ⟨⟨t169, t170⟩, A30, H⟩ := H
  (try dsimp only at H)
  have A3 := Aside0.mk A30
  clear A30
  simp only [Option.some.injEq, Prod.mk.injEq] at H
  obtain ⟨rfl, rfl⟩ := H
  go_enter Tryd.func57, Tryd.ntmps57
  go_wp2_with (first | ((with_reducible refine gate_dst (N := 6) rfl ?_); refine Kd.R_lit (Kd.int .u64) _ 22 ?hg (N := 6) ?hd (xs := ([5] : List Int)) (inner := [.int .u64 5]) (ok := fun _ => True) (okp := fun _ => True) ?hr ?hp (fun _ hk => hk) trivial (Below.refl _ _) (Nat.le_refl _) (by simp) ?_; (case hd => rfl); (case hg => rfl); (case hr => first | (go_simp; done) | (go_simp; rfl)); (case hp => exact (Reps.one (show Kd.M (Kd.int .u64) _ _ _ 5 [.int .u64 5] from rfl) (Reps.none _ _))); intro v167 w4 ho5 hb hg_ hnew_; clear hg_ hnew_; (first | rw [← Ny166.out] at ho5 | (simp only [Int.reduceToNat] at ho5; rw [← Ny166.out] at ho5)); have HO168 := Aside0.mk (Kd.R_lower ho5 (below_size dB)); replace HB := Aside0.mk (below_step dB hb); clear hb ho5; obtain ⟨Ao6, co6, eo6⟩ := Kd.R_slice HO168.out; subst eo6) | ((with_reducible refine gate_callee (f := 84) rfl ?_); refine gL (some 8) Tryd.func84 #[.slice Ao6 y166.length co6, .int .i64 a0] ?_; (with_reducible refine (quot_Pow.calls k _ _ y166 a0 t169 t170 _ ?side1 ?side2 A3.out).mono ?_); (case side1 => exact dC (Kd.R_reads' HO168.out).2.2); (case side2 => exact (Kd.R_reads' HO168.out).2.1); rintro e w7 ⟨v171, rfl, ho0, hb⟩; refine ⟨_, rfl, ?_⟩; have HO172 := Aside0.mk (Kd.R_lower (Kd.R_new' ho0 (Kd.R_lt (dR HO168.out))) (below_size dB)); replace HO168 := Aside0.mk (Kd.R_elder' (dR HO168.out) (Kd.R_base ho0) hb); replace HB := Aside0.mk (below_step dB hb); (try clear hb); (try clear ho0)))
  go_ret2
  exact ⟨_, dE, by (with_reducible repeat (first | apply Kd.R_alloc | apply Kd.R_drewN | apply Kd.R_drew)); exact Kd.R_mono HO172.out (fun _ hk => trivial), dB⟩

end Go.Proofs.YtoannkopciehcaaDoor.PA

namespace Go.Proofs.YtoannkopciehcaaDoor.PA
open Go.RowKit Go.Proofs.YtoannkopciehcaaDoorW.PrintWords Go.Proofs.YtoannkopciehcaaDoorW.PrintLast Go.Proofs.YtoannkopciehcaaDoorW.PrintMore
attribute [local go_sem] max2_int min2_int max_two min_two max_three min_three max_four min_four   -- for this text's walks alone
set_option linter.unusedVariables false
set_option linter.unusedSimpArgs false

/-! ### wide_Shl: function 85 -/
def wide_Shl.f (a0 : Int) (a1 : Int) (a2 : Int) : Option (Int × Int) := (wide_within.f a2).bind fun t173 => (if t173 ≥ 64 then (if 0 ≤ (wrap64 (t173 - 64)) then (some (shl .u64 a1 (wrap64 (t173 - 64)), 0)) else (none)) else (if 0 ≤ t173 then (if 0 ≤ (wrap64 (64 - t173)) then (some (Go.bits .or .u64 (shl .u64 a0 t173) (shr .u64 a1 (wrap64 (64 - t173))), shl .u64 a1 t173)) else (none)) else (none)))
set_option maxHeartbeats 8000000 in
set_option maxRecDepth 100000 in
theorem wide_Shl.calls (a0 : Int) (a1 : Int) (a2 : Int) (r1 : Int) (r2 : Int) (w : World) (h : wide_Shl.f a0 a1 a2 = some (r1, r2)) :
  Calls Tryd.prog 85 #[.int .u64 a0, .int .u64 a1, .int .i64 a2] w fun e w' => e = .returned (.tuple #[.int .u64 r1, .int .u64 r2]) ∧ Below w.heap.size w w' := by
 have HB := Aside0.mk (Below.refl w.heap.size w)
 have H : ((wide_within.f a2).bind fun t173 => (if t173 ≥ 64 then (if 0 ≤ (wrap64 (t173 - 64)) then (some (shl .u64 a1 (wrap64 (t173 - 64)), 0)) else (none)) else (if 0 ≤ t173 then (if 0 ≤ (wrap64 (64 - t173)) then (some (Go.bits .or .u64 (shl .u64 a0 t173) (shr .u64 a1 (wrap64 (64 - t173))), shl .u64 a1 t173)) else (none)) else (none)))) = some (r1, r2) := h
 clear h
 replace H := obe H
 obtain ⟨t173, A40, H⟩ := H
 (try dsimp only at H)
 have A4 := Aside0.mk A40
 clear A40
 by_cases c5 : t173 ≥ 64
 ·rw [if_pos c5] at H
  have c5b0 : decide (64 ≤ t173) = true := decide_eq_true c5
  clear c5
  obtain ⟨ji6, hji6⟩ : ∃ j_ : Int, (wrap64 (t173 - 64)) = j_ := ⟨_, rfl⟩
  first | rw [hji6] at H | simp only [hji6] at H
  (try rw [hji6] at A4)
  have hji6w : (IntKind.i64.wrap (t173 - 64)) = ji6 := (i64_w _).trans hji6
  by_cases c7 : (0 : Int) ≤ (ji6)
  ·rw [if_pos c7] at H
   have c7b0 := eq_true c7
   have c7b1 : decide (0 ≤ (ji6)) = true := decide_eq_true c7
   clear c7
   obtain ⟨ji8, hji8⟩ : ∃ j_ : Int, (shl .u64 a1 (ji6)) = j_ := ⟨_, rfl⟩
   first | rw [hji8] at H | simp only [hji8] at H
   (try rw [hji8] at A4)
   have hji8_ : (IntKind.u64.wrap (a1 * 2 ^ min (ji6).toNat 64)) = ji8 := hji8
   have hji8z : (ji6) ≤ 64 → (IntKind.u64.wrap (a1 * 2 ^ (ji6).toNat)) = ji8 := shl_small hji8
   simp only [Option.some.injEq, Prod.mk.injEq] at H
   obtain ⟨rfl, rfl⟩ := H
   go_enter Tryd.func85, Tryd.ntmps85
   iterate 6 (go_wp2_with (first | (go_at_call 100; (with_reducible refine (wide_within.calls a2 t173 _ A4.out).mono ?_); rintro e w9 ⟨rfl, hb⟩; replace HB := Aside0.mk (below_step dB hb); (try clear hb))); try go_quiet (fail))
   go_ret2
   exact ⟨by first | rfl | (simp [errW_none, errW_some] <;> rfl) | (simp only [← hji6, ← hji8]; first | rfl | (simp [errW_none, errW_some] <;> rfl)) | (simp [*, errW_none, errW_some] <;> rfl), dB⟩
  ·rw [if_neg c7] at H
   exact absurd H (by simp)
 ·rw [if_neg c5] at H
  have c5b0 : decide (64 ≤ t173) = false := decide_eq_false c5
  clear c5
  by_cases c10 : (0 : Int) ≤ t173
  ·rw [if_pos c10] at H
   have c10b0 := eq_true c10
   have c10b1 : decide (0 ≤ t173) = true := decide_eq_true c10
   clear c10
   obtain ⟨ji11, hji11⟩ : ∃ j_ : Int, (shl .u64 a0 t173) = j_ := ⟨_, rfl⟩
   first | rw [hji11] at H | simp only [hji11] at H
   (try rw [hji11] at A4)
   have hji11_ : (IntKind.u64.wrap (a0 * 2 ^ min t173.toNat 64)) = ji11 := hji11
   have hji11z : t173 ≤ 64 → (IntKind.u64.wrap (a0 * 2 ^ t173.toNat)) = ji11 := shl_small hji11
   obtain ⟨ji12, hji12⟩ : ∃ j_ : Int, (wrap64 (64 - t173)) = j_ := ⟨_, rfl⟩
   first | rw [hji12] at H | simp only [hji12] at H
   (try rw [hji12] at A4)
   have hji12w : (IntKind.i64.wrap (64 - t173)) = ji12 := (i64_w _).trans hji12
   by_cases c13 : (0 : Int) ≤ (ji12)
   ·rw [if_pos c13] at H
    have c13b0 := eq_true c13
    have c13b1 : decide (0 ≤ (ji12)) = true := decide_eq_true c13
    clear c13
    obtain ⟨ji14, hji14⟩ : ∃ j_ : Int, (shr .u64 a1 (ji12)) = j_ := ⟨_, rfl⟩
    first | rw [hji14] at H | simp only [hji14] at H
    (try rw [hji14] at A4)
    have hji14_ : (a1 / 2 ^ min (ji12).toNat 64) = ji14 := hji14
    have hji14z : (ji12) ≤ 64 → (a1 / 2 ^ (ji12).toNat) = ji14 := shr_small hji14
    have c15b0 := eq_true (of_decide_eq_true dS : 0 ≤ t173)
    obtain ⟨ji16, hji16⟩ : ∃ j_ : Int, (shl .u64 a1 t173) = j_ := ⟨_, rfl⟩
    first | rw [hji16] at H | simp only [hji16] at H
    (try rw [hji16] at A4)
    have hji16_ : (IntKind.u64.wrap (a1 * 2 ^ min t173.toNat 64)) = ji16 := hji16
    have hji16z : t173 ≤ 64 → (IntKind.u64.wrap (a1 * 2 ^ t173.toNat)) = ji16 := shl_small hji16
    simp only [Option.some.injEq, Prod.mk.injEq] at H
    obtain ⟨rfl, rfl⟩ := H
    go_enter Tryd.func85, Tryd.ntmps85
    iterate 6 (go_wp2_with (first | (go_at_call 100; (with_reducible refine (wide_within.calls a2 t173 _ A4.out).mono ?_); rintro e w17 ⟨rfl, hb⟩; replace HB := Aside0.mk (below_step dB hb); (try clear hb))); try go_quiet (fail))
    go_ret2
    exact ⟨by first | rfl | (simp [errW_none, errW_some] <;> rfl) | (simp only [← hji11, ← hji12, ← hji14, ← hji16]; first | rfl | (simp [errW_none, errW_some] <;> rfl)) | (simp [*, errW_none, errW_some] <;> rfl), dB⟩
   ·rw [if_neg c13] at H
    exact absurd H (by simp)
  ·rw [if_neg c10] at H
   exact absurd H (by simp)

end Go.Proofs.YtoannkopciehcaaDoor.PA
