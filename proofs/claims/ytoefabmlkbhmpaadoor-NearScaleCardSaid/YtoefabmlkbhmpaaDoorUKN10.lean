/- A part of the proof (10). -/
import Derived.Test.YtoefabmlkbhmpaaDoorUKN2
import Derived.Test.YtoefabmlkbhmpaaDoorUKN5
namespace Go.Proofs.YtoefabmlkbhmpaaDoor.PA
open Go.RowKit Go.Proofs.YtoefabmlkbhmpaaDoorW.PrintWords Go.Proofs.YtoefabmlkbhmpaaDoorW.PrintLast Go.Proofs.YtoefabmlkbhmpaaDoorW.PrintMore
attribute [local go_sem] max2_int min2_int max_two min_two max_three min_three max_four min_four   -- for this text's walks alone
set_option linter.unusedVariables false
set_option linter.unusedSimpArgs false

/-! ### nat_Mul: function 24 (by hand) -/
mutual
def nat_Mul.j0 : Nat → List Int → List Int → Bool → Option (List Int × Int)
 | 0, _, _, _ => none
 | k + 1, x0, x1, x30 => if x30 = true then (some (([] : List Int), 0)) else ((nat_Bits.f k x0).bind fun t113 => ((nat_Bits.f k x1).bind fun t114 => (if (wrap64 (t113 - 1)) > (wrap64 (262144 - t114)) then (some (([] : List Int), 21)) else (if 0 ≤ (wrap64 ((x0.length : Int) + (x1.length : Int))) then (if (wrap64 ((x0.length : Int) + (x1.length : Int)) : Int).toNat ≤ 35184372088832 then (nat_Mul.l0 k x1 (List.replicate (wrap64 ((x0.length : Int) + (x1.length : Int)) : Int).toNat 0) x0 (x0.length : Int) 0) else (none)) else (none)))))
def nat_Mul.l0 : Nat → List Int → List Int → List Int → Int → Int → Option (List Int × Int)
 | 0, _, _, _, _, _ => none
 | k + 1, x1, x6, x44, x45, x46 => if x46 < x45 then (if 0 ≤ x46 then (if x46 < (x44.length : Int) then (nat_Mul.l1 k x1 x6 x46 (rd x44 x46) 0 x44 x45 x46 x1 (x1.length : Int) 0) else (none)) else (none)) else ((nat_bound.f k x6).bind fun bt118 => (some (bt118.1, bt118.2)))
def nat_Mul.l1 : Nat → List Int → List Int → Int → Int → Int → List Int → Int → Int → List Int → Int → Int → Option (List Int × Int)
 | 0, _, _, _, _, _, _, _, _, _, _, _ => none
 | k + 1, x1, x6, x7, x8, x9, x44, x45, x46, x51, x52, x53 => if x53 < x52 then (if 0 ≤ x53 then (if x53 < (x51.length : Int) then ((wide_Mul.f x8 (rd x51 x53)).bind fun bt124 => (if 0 ≤ (wrap64 (x7 + x53)) then (if (wrap64 (x7 + x53)) < (x6.length : Int) then ((wide_Add.f bt124.2 (rd x6 (wrap64 (x7 + x53))) 0).bind fun bt127 => ((wide_Add.f bt127.1 x9 0).bind fun bt129 => (nat_Mul.l1 k x1 (x6.set ((wrap64 (x7 + x53)) : Int).toNat bt129.1) x7 x8 (IntKind.u64.wrap ((IntKind.u64.wrap (bt124.1 + bt127.2)) + bt129.2)) x44 x45 x46 x51 x52 (wrap64 (x53 + 1))))) else (none)) else (none))) else (none)) else (none)) else (if 0 ≤ (wrap64 (x7 + (x1.length : Int))) then (if (wrap64 (x7 + (x1.length : Int))) < (x6.length : Int) then (nat_Mul.l0 k x1 (x6.set ((wrap64 (x7 + (x1.length : Int))) : Int).toNat x9) x44 x45 (wrap64 (x46 + 1))) else (none)) else (none))
end
def nat_Mul.f (k : Nat) (l0 : List Int) (l1 : List Int) : Option (List Int × Int) := (nat_size.f k l0).bind fun t109 => (if 0 ≤ t109 then (if t109 ≤ (l0.length : Int) then ((nat_size.f k l1).bind fun t111 => (if 0 ≤ t111 then (if t111 ≤ (l1.length : Int) then (if ((l0.take (t109 : Int).toNat).length : Int) = 0 then (nat_Mul.j0 k (l0.take (t109 : Int).toNat) (l1.take (t111 : Int).toNat) true) else (nat_Mul.j0 k (l0.take (t109 : Int).toNat) (l1.take (t111 : Int).toNat) (((l1.take (t111 : Int).toNat).length : Int) == 0))) else (none)) else (none))) else (none)) else (none))
set_option maxHeartbeats 8000000 in
set_option maxRecDepth 100000 in
theorem nat_Mul.calls (k : Nat) (A0 : Option Addr) (c0 : Nat) (l0 : List Int) (A1 : Option Addr) (c1 : Nat) (l1 : List Int) (r1 : List Int) (r2 : Int) (w : World) (hr0 : Kd.C (Kd.int .u64) w A0 l0.length l0) (hc0 : l0.length ≤ c0) (hr1 : Kd.C (Kd.int .u64) w A1 l1.length l1) (hc1 : l1.length ≤ c1) (h : nat_Mul.f k l0 l1 = some (r1, r2)) :
  Calls Tryd.prog 24 #[.slice A0 l0.length c0, .slice A1 l1.length c1] w fun e w' => ∃ v0_ : Value, e = .returned (.tuple #[v0_, .int .i64 r2]) ∧ Kd.R (Kd.int .u64) 26 w' w.heap.size (fun _ => True) v0_ r1 ∧ Below w.heap.size w w' := by
 have HR0 := Aside0.mk hr0
 have HC0 := Aside0.mk hc0
 clear hr0 hc0
 have HR1 := Aside0.mk hr1
 have HC1 := Aside0.mk hc1
 clear hr1 hc1
 have HB := Aside0.mk (Below.refl w.heap.size w)
 have H : ((nat_size.f k l0).bind fun t109 => (if 0 ≤ t109 then (if t109 ≤ (l0.length : Int) then ((nat_size.f k l1).bind fun t111 => (if 0 ≤ t111 then (if t111 ≤ (l1.length : Int) then (if ((l0.take (t109 : Int).toNat).length : Int) = 0 then (nat_Mul.j0 k (l0.take (t109 : Int).toNat) (l1.take (t111 : Int).toNat) true) else (nat_Mul.j0 k (l0.take (t109 : Int).toNat) (l1.take (t111 : Int).toNat) (((l1.take (t111 : Int).toNat).length : Int) == 0))) else (none)) else (none))) else (none)) else (none))) = some (r1, r2) := h
 clear h
 replace H := obe H
 obtain ⟨t109, A30, H⟩ := H
 (try dsimp only at H)
 have A3 := Aside0.mk A30
 clear A30
 by_cases c4 : (0 : Int) ≤ t109
 ·rw [if_pos c4] at H
  have c4b0 := eq_true c4
  have c4b1 : decide (0 ≤ t109) = true := decide_eq_true c4
  clear c4
  by_cases c5 : t109 ≤ (l0.length : Int)
  ·rw [if_pos c5] at H
   have c5b0 := eq_true c5
   have c5b1 : decide (t109 ≤ (l0.length : Int)) = true := decide_eq_true c5
   clear c5
   obtain ⟨z109, Nz1090⟩ : ∃ z_ : List Int, (l0.take (t109 : Int).toNat) = z_ := ⟨_, rfl⟩
   rw [Nz1090] at H
   have Nz109 := Aside0.mk Nz1090
   clear Nz1090
   replace H := obe H
   obtain ⟨t111, A60, H⟩ := H
   (try dsimp only at H)
   have A6 := Aside0.mk A60
   clear A60
   by_cases c7 : (0 : Int) ≤ t111
   ·rw [if_pos c7] at H
    have c7b0 := eq_true c7
    have c7b1 : decide (0 ≤ t111) = true := decide_eq_true c7
    clear c7
    by_cases c8 : t111 ≤ (l1.length : Int)
    ·rw [if_pos c8] at H
     have c8b0 := eq_true c8
     have c8b1 : decide (t111 ≤ (l1.length : Int)) = true := decide_eq_true c8
     clear c8
     obtain ⟨z111, Nz1110⟩ : ∃ z_ : List Int, (l1.take (t111 : Int).toNat) = z_ := ⟨_, rfl⟩
     rw [Nz1110] at H
     have Nz111 := Aside0.mk Nz1110
     clear Nz1110
     have HC9 := Aside0.mk H
     clear H
     go_enter Tryd.func24, Tryd.ntmps24
     go_upto_region 2 with (first | (go_at_call 54; (with_reducible refine (nat_size.calls k _ _ l0 t109 _ ?side1 ?side2 A3.out).mono ?_); (case side1 => exact dC HR0.out); (case side2 => exact HC0.out); rintro e w' ⟨rfl, ⟨nd, rfl⟩⟩; (try exact dW); obtain ⟨i010, hi010, _, hsz10, _⟩ := info_parts info26; obtain ⟨hcut10, hA10, hC10⟩ := print_take_of (P := Tryd.prog) (Value.int .u64) 0 22 26 .i64 Tryd.underlying22 hi010 hsz10 A0 c0 l0 t109 (of_decide_eq_true dS) (of_decide_eq_true dS) HC0.out; rw [Nz109.out] at hcut10 hA10 hC10; have HR110 := Aside0.mk (Kd.C_of_reads (h1 := fun _ => rfl) (hA10 _ (Kd.reads_of_C HR0.out))); have HC110 := Aside0.mk hC10; clear hA10 hC10 hi010 hsz10) | (go_at_call 54; (with_reducible refine (nat_size.calls k _ _ l1 t111 _ ?side1 ?side2 A6.out).mono ?_); (case side1 => exact dC HR1.out); (case side2 => exact HC1.out); rintro e w' ⟨rfl, ⟨nd, rfl⟩⟩; (try exact dW); obtain ⟨i011, hi011, _, hsz11, _⟩ := info_parts info26; obtain ⟨hcut11, hA11, hC11⟩ := print_take_of (P := Tryd.prog) (Value.int .u64) 0 22 26 .i64 Tryd.underlying22 hi011 hsz11 A1 c1 l1 t111 (of_decide_eq_true dS) (of_decide_eq_true dS) HC1.out; rw [Nz111.out] at hcut11 hA11 hC11; have HR112 := Aside0.mk (Kd.C_of_reads (h1 := fun _ => rfl) (hA11 _ (Kd.reads_of_C HR1.out))); have HC112 := Aside0.mk hC11; clear hA11 hC11 hi011 hsz11))
     repeat (go_quiet (first | (go_at_call 54; (with_reducible refine (nat_size.calls k _ _ l0 t109 _ ?side1 ?side2 A3.out).mono ?_); (case side1 => exact dC HR0.out); (case side2 => exact HC0.out); rintro e w' ⟨rfl, ⟨nd, rfl⟩⟩; (try exact dW); obtain ⟨i010, hi010, _, hsz10, _⟩ := info_parts info26; obtain ⟨hcut10, hA10, hC10⟩ := print_take_of (P := Tryd.prog) (Value.int .u64) 0 22 26 .i64 Tryd.underlying22 hi010 hsz10 A0 c0 l0 t109 (of_decide_eq_true dS) (of_decide_eq_true dS) HC0.out; rw [Nz109.out] at hcut10 hA10 hC10; have HR110 := Aside0.mk (Kd.C_of_reads (h1 := fun _ => rfl) (hA10 _ (Kd.reads_of_C HR0.out))); have HC110 := Aside0.mk hC10; clear hA10 hC10 hi010 hsz10) | (go_at_call 54; (with_reducible refine (nat_size.calls k _ _ l1 t111 _ ?side1 ?side2 A6.out).mono ?_); (case side1 => exact dC HR1.out); (case side2 => exact HC1.out); rintro e w' ⟨rfl, ⟨nd, rfl⟩⟩; (try exact dW); obtain ⟨i011, hi011, _, hsz11, _⟩ := info_parts info26; obtain ⟨hcut11, hA11, hC11⟩ := print_take_of (P := Tryd.prog) (Value.int .u64) 0 22 26 .i64 Tryd.underlying22 hi011 hsz11 A1 c1 l1 t111 (of_decide_eq_true dS) (of_decide_eq_true dS) HC1.out; rw [Nz111.out] at hcut11 hA11 hC11; have HR112 := Aside0.mk (Kd.C_of_reads (h1 := fun _ => rfl) (hA11 _ (Kd.reads_of_C HR1.out))); have HC112 := Aside0.mk hC11; clear hA11 hC11 hi011 hsz11)); go_upto_region 2 with (first | (go_at_call 54; (with_reducible refine (nat_size.calls k _ _ l0 t109 _ ?side1 ?side2 A3.out).mono ?_); (case side1 => exact dC HR0.out); (case side2 => exact HC0.out); rintro e w' ⟨rfl, ⟨nd, rfl⟩⟩; (try exact dW); obtain ⟨i010, hi010, _, hsz10, _⟩ := info_parts info26; obtain ⟨hcut10, hA10, hC10⟩ := print_take_of (P := Tryd.prog) (Value.int .u64) 0 22 26 .i64 Tryd.underlying22 hi010 hsz10 A0 c0 l0 t109 (of_decide_eq_true dS) (of_decide_eq_true dS) HC0.out; rw [Nz109.out] at hcut10 hA10 hC10; have HR110 := Aside0.mk (Kd.C_of_reads (h1 := fun _ => rfl) (hA10 _ (Kd.reads_of_C HR0.out))); have HC110 := Aside0.mk hC10; clear hA10 hC10 hi010 hsz10) | (go_at_call 54; (with_reducible refine (nat_size.calls k _ _ l1 t111 _ ?side1 ?side2 A6.out).mono ?_); (case side1 => exact dC HR1.out); (case side2 => exact HC1.out); rintro e w' ⟨rfl, ⟨nd, rfl⟩⟩; (try exact dW); obtain ⟨i011, hi011, _, hsz11, _⟩ := info_parts info26; obtain ⟨hcut11, hA11, hC11⟩ := print_take_of (P := Tryd.prog) (Value.int .u64) 0 22 26 .i64 Tryd.underlying22 hi011 hsz11 A1 c1 l1 t111 (of_decide_eq_true dS) (of_decide_eq_true dS) HC1.out; rw [Nz111.out] at hcut11 hA11 hC11; have HR112 := Aside0.mk (Kd.C_of_reads (h1 := fun _ => rfl) (hA11 _ (Kd.reads_of_C HR1.out))); have HC112 := Aside0.mk hC11; clear hA11 hC11 hi011 hsz11)))
     (try simp only [Act.put, List.setIfInBounds_toArray, List.set_cons_zero, List.set_cons_succ])
     go_cut [30] (fun v30 wc => ∃ (kq : Nat) (x30_8 : Bool), v30 = .bool x30_8 ∧ Aside0 (nat_Mul.j0 kq z109 z111 x30_8 = some (r1, r2)) ∧ Aside0 (kq ≤ k) ∧ Aside0 (Below w.heap.size w wc))
     case first =>
      have H := HC9.out
      clear HC9
      by_cases c12 : (z109.length : Int) = 0
      ·rw [if_pos c12] at H
       have c12b0 : ((z109.length : Int) == 0) = true := beq_iff_eq.mpr c12
       have c12b1 : ((z109.length : Int) != 0) = false := bne_eq_false_iff_eq.mpr c12
       clear c12
       (first | rw [c12b0] | (simp only [i64_w, i32_w]; rw [c12b0]) | skip)
       have H' := Aside0.mk H
       clear H
       go_wp2
       repeat (go_quiet (fail); try go_wp2)
       go_meet
       case rel => exact ⟨_, (true), dF, H', ⟨dN⟩, ⟨dB⟩⟩
      ·rw [if_neg c12] at H
       have c12b0 : ((z109.length : Int) == 0) = false := beq_eq_false_iff_ne.mpr c12
       have c12b1 : ((z109.length : Int) != 0) = true := bne_iff_ne.mpr c12
       have c12b2 : ¬ (z109 = []) := fun h_ => c12 (by rw [h_]; rfl)
       (first | rw [c12b0] | (simp only [i64_w, i32_w]; rw [c12b0]) | skip)
       have H' := Aside0.mk H
       clear H
       go_wp2
       repeat (go_quiet (fail); try go_wp2)
       go_meet
       case rel => exact ⟨_, (((z111.length : Int) == 0)), dF, H', ⟨dN⟩, ⟨dB⟩⟩
     case rest =>
      clear HC9
      try clear c1
      try clear c4
      try clear c4b0
      try clear c4b1
      try clear c5
      try clear c5b0
      try clear c5b1
      try clear c7
      try clear c7b0
      try clear c7b1
      try clear c8
      try clear c8b0
      try clear c8b1
      obtain ⟨kq, x30_8, rfl, HA, HJ8, HB⟩ := hcut
      cases kq with
      | zero => exact absurd HA.out (by simp [nat_Mul.j0])
      | succ kj8 =>
       have H := HA.out
       clear HA
       simp only [nat_Mul.j0] at H
       by_cases c13 : x30_8 = true
       ·subst c13
        have H1 : (some (([] : List Int), 0)) = some (r1, r2) := by rw [if_pos rfl] at H; exact H
        clear H
        have H := H1
        clear H1
        simp only [Option.some.injEq, Prod.mk.injEq] at H
        obtain ⟨rfl, rfl⟩ := H
        go_wp2
        repeat (go_quiet (fail); try go_wp2)
        go_ret2
        exact ⟨_, dE, by first | exact Kd.R_nil _ _ _ _ _ | exact Kd.N_nil _ _ _ _ _ | exact Kd.V_nil _ _ _ _ _ | exact Kd.Q_nil _ _ _ _ _ | exact Kd.S_nil _ _ _ _ _, dB⟩
       ·replace c13 := Bool.eq_false_iff.mpr c13
        subst c13
        have H1 : ((nat_Bits.f kj8 z109).bind fun t113 => ((nat_Bits.f kj8 z111).bind fun t114 => (if (wrap64 (t113 - 1)) > (wrap64 (262144 - t114)) then (some (([] : List Int), 21)) else (if 0 ≤ (wrap64 ((z109.length : Int) + (z111.length : Int))) then (if (wrap64 ((z109.length : Int) + (z111.length : Int)) : Int).toNat ≤ 35184372088832 then (nat_Mul.l0 kj8 z111 (List.replicate (wrap64 ((z109.length : Int) + (z111.length : Int)) : Int).toNat 0) z109 (z109.length : Int) 0) else (none)) else (none))))) = some (r1, r2) := by rw [if_neg (show ¬ (false = true) by decide)] at H; exact H
        clear H
        have H := H1
        clear H1
        replace H := obe H
        obtain ⟨t113, A140, H⟩ := H
        (try dsimp only at H)
        have A14 := Aside0.mk A140
        clear A140
        replace H := obe H
        obtain ⟨t114, A150, H⟩ := H
        (try dsimp only at H)
        have A15 := Aside0.mk A150
        clear A150
        by_cases c16 : (wrap64 (t113 - 1)) > (wrap64 (262144 - t114))
        ·rw [if_pos c16] at H
         have c16b0 : decide ((wrap64 (262144 - t114)) < (wrap64 (t113 - 1))) = true := decide_eq_true c16
         clear c16
         simp only [Option.some.injEq, Prod.mk.injEq] at H
         obtain ⟨rfl, rfl⟩ := H
         iterate 6 (go_wp2_with (first | (go_at_call 43; (with_reducible refine (nat_Bits.calls kj8 _ _ z109 t113 _ ?side1 ?side2 A14.out).mono ?_); (case side1 => exact dC (Kd.C_below HR110.out HB.out)); (case side2 => exact HC110.out); rintro e w' ⟨rfl, ⟨nd, rfl⟩⟩; (try exact dW)) | (go_at_call 43; (with_reducible refine (nat_Bits.calls kj8 _ _ z111 t114 _ ?side1 ?side2 A15.out).mono ?_); (case side1 => exact dC (Kd.C_below HR112.out dB)); (case side2 => exact HC112.out); rintro e w' ⟨rfl, ⟨nd, rfl⟩⟩; (try exact dW))); try go_quiet (first | (go_at_call 43; (with_reducible refine (nat_Bits.calls kj8 _ _ z109 t113 _ ?side1 ?side2 A14.out).mono ?_); (case side1 => exact dC (Kd.C_below HR110.out HB.out)); (case side2 => exact HC110.out); rintro e w' ⟨rfl, ⟨nd, rfl⟩⟩; (try exact dW)) | (go_at_call 43; (with_reducible refine (nat_Bits.calls kj8 _ _ z111 t114 _ ?side1 ?side2 A15.out).mono ?_); (case side1 => exact dC (Kd.C_below HR112.out dB)); (case side2 => exact HC112.out); rintro e w' ⟨rfl, ⟨nd, rfl⟩⟩; (try exact dW))))
         go_ret2
         exact ⟨_, dE, by first | exact Kd.R_nil _ _ _ _ _ | exact Kd.N_nil _ _ _ _ _ | exact Kd.V_nil _ _ _ _ _ | exact Kd.Q_nil _ _ _ _ _ | exact Kd.S_nil _ _ _ _ _, dB⟩
        ·rw [if_neg c16] at H
         have c16b0 : decide ((wrap64 (262144 - t114)) < (wrap64 (t113 - 1))) = false := decide_eq_false c16
         clear c16
         obtain ⟨ji17, hji17⟩ : ∃ j_ : Int, (wrap64 ((z109.length : Int) + (z111.length : Int))) = j_ := ⟨_, rfl⟩
         first | rw [hji17] at H | simp only [hji17] at H
         (try rw [hji17] at A14)
         (try rw [hji17] at A15)
         have hji17w : (IntKind.i64.wrap ((z109.length : Int) + (z111.length : Int))) = ji17 := (i64_w _).trans hji17
         by_cases c18 : (0 : Int) ≤ (ji17)
         ·rw [if_pos c18] at H
          have c18b0 := eq_true c18
          have c18b1 : decide (0 ≤ (ji17)) = true := decide_eq_true c18
          clear c18
          by_cases c19 : (ji17 : Int).toNat ≤ 35184372088832
          ·rw [if_pos c19] at H
           have c19b0 := eq_true c19
           have c19b1 : decide ((ji17 : Int).toNat ≤ 35184372088832) = true := decide_eq_true c19
           clear c19
           obtain ⟨y115, hy115⟩ : ∃ y_ : List Int, y_ = (List.replicate (ji17 : Int).toNat 0) := ⟨_, rfl⟩
           replace H : (nat_Mul.l0 kj8 z111 y115 z109 (z109.length : Int) 0) = some (r1, r2) := by first | (rw [hy115]; with_reducible exact H) | (have H2_ := (Option.bind_some _ _).symm.trans H; rw [hy115]; with_reducible exact H2_) | (have H2_ := (Option.bind_some _ _).symm.trans H; with_reducible exact H2_) | with_reducible exact H | (rw [hy115]; exact H) | exact H
           have Ny115 := Aside0.mk hy115
           clear hy115
           have H' := Aside0.mk H
           clear H
           iterate 6 (go_wp2_with (first | (go_at_call 43; (with_reducible refine (nat_Bits.calls kj8 _ _ z109 t113 _ ?side1 ?side2 A14.out).mono ?_); (case side1 => exact dC (Kd.C_below HR110.out HB.out)); (case side2 => exact HC110.out); rintro e w' ⟨rfl, ⟨nd, rfl⟩⟩; (try exact dW)) | (go_at_call 43; (with_reducible refine (nat_Bits.calls kj8 _ _ z111 t114 _ ?side1 ?side2 A15.out).mono ?_); (case side1 => exact dC (Kd.C_below HR112.out dB)); (case side2 => exact HC112.out); rintro e w' ⟨rfl, ⟨nd, rfl⟩⟩; (try exact dW)) | ((with_reducible refine gate_dst (N := 43) rfl ?_); (try (refine gate_guard (by rfl) ?_; dsimp only)); refine Kd.R_make (Kd.int .u64) _ 26 rfl (N := 43) rfl 22 _ _ rfl ji17 rfl rfl Tryd.underlying22 (.int .u64 0) 8 info26 rfl (by decide) (by omega) 0 (ok := fun _ => True) (okp := fun _ => True) rfl (fun _ hk => hk) trivial (of_decide_eq_true dS) (Nat.le_trans (Nat.mul_le_mul_right _ (of_decide_eq_true dS : ji17.toNat ≤ 35184372088832)) (by omega)) (Below.refl _ _) (Nat.le_refl _) ?_; intro v116 w20 ho21 hb hg_ hnew_; clear hg_ hnew_; (first | rw [← Ny115.out] at ho21 | (simp only [Int.reduceToNat] at ho21; rw [← Ny115.out] at ho21)); have HO117 := Aside0.mk (Kd.R_lower ho21 (below_size dB)); replace HB := Aside0.mk (below_step dB hb); clear hb ho21)); try go_quiet (first | (go_at_call 43; (with_reducible refine (nat_Bits.calls kj8 _ _ z109 t113 _ ?side1 ?side2 A14.out).mono ?_); (case side1 => exact dC (Kd.C_below HR110.out HB.out)); (case side2 => exact HC110.out); rintro e w' ⟨rfl, ⟨nd, rfl⟩⟩; (try exact dW)) | (go_at_call 43; (with_reducible refine (nat_Bits.calls kj8 _ _ z111 t114 _ ?side1 ?side2 A15.out).mono ?_); (case side1 => exact dC (Kd.C_below HR112.out dB)); (case side2 => exact HC112.out); rintro e w' ⟨rfl, ⟨nd, rfl⟩⟩; (try exact dW)) | ((with_reducible refine gate_dst (N := 43) rfl ?_); (try (refine gate_guard (by rfl) ?_; dsimp only)); refine Kd.R_make (Kd.int .u64) _ 26 rfl (N := 43) rfl 22 _ _ rfl ji17 rfl rfl Tryd.underlying22 (.int .u64 0) 8 info26 rfl (by decide) (by omega) 0 (ok := fun _ => True) (okp := fun _ => True) rfl (fun _ hk => hk) trivial (of_decide_eq_true dS) (Nat.le_trans (Nat.mul_le_mul_right _ (of_decide_eq_true dS : ji17.toNat ≤ 35184372088832)) (by omega)) (Below.refl _ _) (Nat.le_refl _) ?_; intro v116 w20 ho21 hb hg_ hnew_; clear hg_ hnew_; (first | rw [← Ny115.out] at ho21 | (simp only [Int.reduceToNat] at ho21; rw [← Ny115.out] at ho21)); have HO117 := Aside0.mk (Kd.R_lower ho21 (below_size dB)); replace HB := Aside0.mk (below_step dB hb); clear hb ho21)))
           go_loopg [46] kj8 (fun kq v46 w' => ∃ (x6_2 : List Int) (x46_2 : Int), v46 = .int .i64 x46_2 ∧ Aside0 (nat_Mul.l0 kq z111 x6_2 z109 (z109.length : Int) x46_2 = some (r1, r2)) ∧ Aside0 (kq ≤ kj8) ∧ Aside0 (Kd.R (Kd.int .u64) 26 w' w.heap.size (fun _ => True) v116 x6_2) ∧ Aside0 (Below w.heap.size w w'))
           case atStart => exact ⟨(y115), (0), dF, H', ⟨Nat.le_refl _⟩, ⟨dR HO117.out⟩, ⟨dB⟩⟩
           case round =>
            clear H'
            try clear c1
            try clear c4
            try clear c4b0
            try clear c4b1
            try clear c5
            try clear c5b0
            try clear c5b1
            try clear c7
            try clear c7b0
            try clear c7b1
            try clear c8
            try clear c8b0
            try clear c8b1
            try clear c13
            try clear c16
            try clear c16b0
            try clear c18
            try clear c18b0
            try clear c18b1
            try clear c19
            try clear c19b0
            try clear c19b1
            obtain ⟨x6_2, x46_2, rfl, HA, HK2, HO_6, HB⟩ := hrel
            cases gk with
            | zero => exact absurd HA.out (by simp [nat_Mul.l0])
            | succ k2 =>
             have H := HA.out
             clear HA
             simp only [nat_Mul.l0] at H
             by_cases c22 : x46_2 < (z109.length : Int)
             ·rw [if_pos c22] at H
              have c22b0 : decide (x46_2 < (z109.length : Int)) = true := decide_eq_true c22
              clear c22
              by_cases c23 : (0 : Int) ≤ x46_2
              ·rw [if_pos c23] at H
               have c23b0 : decide (0 ≤ x46_2) = true := decide_eq_true c23
               clear c23
               by_cases c24 : x46_2 < (z109.length : Int)
               ·rw [if_pos c24] at H
                have c24b0 : decide (x46_2 < (z109.length : Int)) = true := decide_eq_true c24
                clear c24
                have H' := Aside0.mk H
                clear H
                have p122 : 0 ≤ (x46_2 : Int) := of_decide_eq_true dS
                have q122 : x46_2 < (z109.length : Int) := of_decide_eq_true dS
                obtain ⟨ad122, e122, hx122_0⟩ := Kd.at_int HR110.out x46_2 p122 q122
                cases e122
                replace hx122_0 := (HB.out.cell (World.block_lt_of_cell? w _ hx122_0)).trans hx122_0
                replace p122 := eq_true p122
                replace q122 := eq_true q122
                go_wp2
                repeat (go_quiet (fail); try go_wp2)
                go_loopg [9, 53] k2 (fun kq v9 v53 w' => ∃ (x6_3 : List Int) (x9_3 : Int) (x53_3 : Int), v9 = .int .u64 x9_3 ∧ v53 = .int .i64 x53_3 ∧ Aside0 (nat_Mul.l1 kq z111 x6_3 x46_2 (rd z109 x46_2) x9_3 z109 (z109.length : Int) x46_2 z111 (z111.length : Int) x53_3 = some (r1, r2)) ∧ Aside0 (kq ≤ k2) ∧ Aside0 (Kd.R (Kd.int .u64) 26 w' w.heap.size (fun _ => True) v116 x6_3) ∧ Aside0 (Below w.heap.size w w'))
                case atStart => exact ⟨(x6_2), (0), (0), dF, dF, H', ⟨Nat.le_refl _⟩, ⟨dR HO_6.out⟩, ⟨dB⟩⟩
                case round =>
                 clear H'
                 try clear c1
                 try clear c4
                 try clear c4b0
                 try clear c4b1
                 try clear c5
                 try clear c5b0
                 try clear c5b1
                 try clear c7
                 try clear c7b0
                 try clear c7b1
                 try clear c8
                 try clear c8b0
                 try clear c8b1
                 try clear c13
                 try clear c16
                 try clear c16b0
                 try clear c18
                 try clear c18b0
                 try clear c18b1
                 try clear c19
                 try clear c19b0
                 try clear c19b1
                 try clear c22
                 try clear c22b0
                 try clear c23
                 try clear c23b0
                 try clear c24
                 try clear c24b0
                 try clear hx122_0
                 try clear p122
                 try clear q122
                 obtain ⟨x6_3, x9_3, x53_3, rfl, rfl, HA, HK3, HO_6, HB⟩ := hrel
                 cases gk with
                 | zero => exact absurd HA.out (by simp [nat_Mul.l1])
                 | succ k3 =>
                  have H := HA.out
                  clear HA
                  simp only [nat_Mul.l1] at H
                  by_cases c25 : x53_3 < (z111.length : Int)
                  ·rw [if_pos c25] at H
                   have c25b0 : decide (x53_3 < (z111.length : Int)) = true := decide_eq_true c25
                   clear c25
                   by_cases c26 : (0 : Int) ≤ x53_3
                   ·rw [if_pos c26] at H
                    have c26b0 : decide (0 ≤ x53_3) = true := decide_eq_true c26
                    clear c26
                    by_cases c27 : x53_3 < (z111.length : Int)
                    ·rw [if_pos c27] at H
                     have c27b0 : decide (x53_3 < (z111.length : Int)) = true := decide_eq_true c27
                     clear c27
                     replace H := obe H
                     obtain ⟨⟨t124, t125⟩, A280, H⟩ := H
                     (try dsimp only at H)
                     have A28 := Aside0.mk A280
                     clear A280
                     obtain ⟨ji29, hji29⟩ : ∃ j_ : Int, (wrap64 (x46_2 + x53_3)) = j_ := ⟨_, rfl⟩
                     first | rw [hji29] at H | simp only [hji29] at H
                     (try rw [hji29] at A28)
                     have hji29w : (IntKind.i64.wrap (x46_2 + x53_3)) = ji29 := (i64_w _).trans hji29
                     by_cases c30 : (0 : Int) ≤ (ji29)
                     ·rw [if_pos c30] at H
                      have c30b0 : decide (0 ≤ (ji29)) = true := decide_eq_true c30
                      clear c30
                      by_cases c31 : (ji29) < (x6_3.length : Int)
                      ·rw [if_pos c31] at H
                       have c31b0 : decide ((ji29) < (x6_3.length : Int)) = true := decide_eq_true c31
                       clear c31
                       replace H := obe H
                       obtain ⟨⟨t127, t128⟩, A320, H⟩ := H
                       (try dsimp only at H)
                       have A32 := Aside0.mk A320
                       clear A320
                       replace H := obe H
                       obtain ⟨⟨t129, t130⟩, A330, H⟩ := H
                       (try dsimp only at H)
                       have A33 := Aside0.mk A330
                       clear A330
                       obtain ⟨y131, hy131⟩ : ∃ y_ : List Int, y_ = (x6_3.set ((ji29) : Int).toNat t129) := ⟨_, rfl⟩
                       replace H : (nat_Mul.l1 k3 z111 y131 x46_2 (rd z109 x46_2) (IntKind.u64.wrap ((IntKind.u64.wrap (t124 + t128)) + t130)) z109 (z109.length : Int) x46_2 z111 (z111.length : Int) (wrap64 (x53_3 + 1))) = some (r1, r2) := by first | (rw [hy131]; with_reducible exact H) | (have H2_ := (Option.bind_some _ _).symm.trans H; rw [hy131]; with_reducible exact H2_) | (have H2_ := (Option.bind_some _ _).symm.trans H; with_reducible exact H2_) | with_reducible exact H | (rw [hy131]; exact H) | exact H
                       have Ny131 := Aside0.mk hy131
                       clear hy131
                       have H' := Aside0.mk H
                       clear H
                       have p123 : 0 ≤ (x53_3 : Int) := of_decide_eq_true dS
                       have q123 : x53_3 < (z111.length : Int) := of_decide_eq_true dS
                       obtain ⟨ad123, e123, hx123_0⟩ := Kd.at_int HR112.out x53_3 p123 q123
                       cases e123
                       replace hx123_0 := (HB.out.cell (World.block_lt_of_cell? w _ hx123_0)).trans hx123_0
                       replace p123 := eq_true p123
                       replace q123 := eq_true q123
                       iterate 6 (go_wp2_with (first | (go_at_call 60; (with_reducible refine (wide_Mul.calls (rd z109 x46_2) (rd z111 x53_3) t124 t125 _ A28.out).mono ?_); rintro e w35 ⟨rfl, hb⟩; replace HO_6 := Aside0.mk (Kd.R_below (dR HO_6.out) hb); replace HB := Aside0.mk (below_step dB hb); (try clear hb); obtain ⟨Ao36, co36, eo36⟩ := Kd.R_slice HO_6.out; subst eo36; have p126 : 0 ≤ ((ji29) : Int) := of_decide_eq_true dS; have q126 : (ji29) < (x6_3.length : Int) := of_decide_eq_true dS; obtain ⟨ad126, e126, hx126_0⟩ := Kd.at_int (Kd.R_reads' HO_6.out).2.2 (ji29) p126 q126; cases e126; replace p126 := eq_true p126; replace q126 := eq_true q126) | (go_at_call 61; (with_reducible refine (wide_Add.calls t125 (rd x6_3 (ji29)) 0 t127 t128 _ A32.out).mono ?_); rintro e w' ⟨rfl, ⟨nd, rfl⟩⟩; (try exact dW)) | (go_at_call 61; (with_reducible refine (wide_Add.calls t127 x9_3 0 t129 t130 _ A33.out).mono ?_); rintro e w' ⟨rfl, ⟨nd, rfl⟩⟩; (try exact dW); have p34 : 0 ≤ ((ji29) : Int) := of_decide_eq_true dS; have q34 : ((ji29) : Int) < ((x6_3.length : Int) : Int) := of_decide_eq_true dS; obtain ⟨go34, co34, eo34, gb34, gl34, cl34, HG34⟩ := Kd.R_form HO_6.out (by omega); (first | cases eo34 | (injection eo34 with ea_ en_ ec_; (first | subst ea_ | (injection ea_ with ea_; subst ea_)); subst ec_; clear en_)); have GB34 := Aside0.mk gb34; have GG34 := Aside0.mk HG34; clear gb34 gl34 HG34; (first | simp only [add_plain] at hx126_0 | skip); obtain ⟨hx34_0, hf34_0⟩ := Kd.R_celln 0 HO_6.out ((ji29) : Int) p34 q34; replace p34 := eq_true p34; replace q34 := eq_true q34; obtain ⟨hy37_, hz37_⟩ := Kd.R_celln 0 HO_6.out ((ji29) : Int) (of_decide_eq_true dS) (of_decide_eq_true dS); have HP37 := Kd.R_putg HO_6.out ((ji29) : Int) t129) | ((with_reducible refine gate_store (t := 26) (p := 88) rfl ?_); (try (rw [drewN_self w35]; generalize hq_ : World.drewN w35 _ = w35; replace HO_6 := Aside0.mk (Kd.R_at hq_ HO_6.out); replace HB := Aside0.mk (below_at hq_ HB.out); clear hq_; (try (obtain ⟨hy37_, hz37_⟩ := Kd.R_celln 0 HO_6.out ((ji29) : Int) (of_decide_eq_true dS) (of_decide_eq_true dS))); (try (have HP37 := Kd.R_putg HO_6.out ((ji29) : Int) t129)))); refine store_event (t := 26) (p := 88) (v := ?vo_w38) (w1 := (w35.setCell ⟨go34, ((ji29) : Int).toNat, none⟩ (.int .u64 t129))) ?hg ?ho ?hn ?hr ?_; (case ho => rfl); (case hg => rfl); (case hn => rfl); (case hr => first | (go_simp; done) | (go_simp; rfl)); intro w38 hw; have hg : w35.grownBy w38 (some go34) := (by rw [hw]; exact HP37.2); have hp_ : Kd.R (Kd.int .u64) 26 w38 w.heap.size (fun _ => True) (.slice (some ⟨go34, 0, none⟩) x6_3.length co36) y131 := (by rw [hw, Ny131.out]; exact HP37.1); clear HP37; replace HO_6 := Aside0.mk (hp_); replace HB := Aside0.mk ((by rw [hw]; exact below_set (HB.out) GB34.out : Below w.heap.size w w38)); clear hg hw hp_)); try go_quiet (first | (go_at_call 60; (with_reducible refine (wide_Mul.calls (rd z109 x46_2) (rd z111 x53_3) t124 t125 _ A28.out).mono ?_); rintro e w35 ⟨rfl, hb⟩; replace HO_6 := Aside0.mk (Kd.R_below (dR HO_6.out) hb); replace HB := Aside0.mk (below_step dB hb); (try clear hb); obtain ⟨Ao36, co36, eo36⟩ := Kd.R_slice HO_6.out; subst eo36; have p126 : 0 ≤ ((ji29) : Int) := of_decide_eq_true dS; have q126 : (ji29) < (x6_3.length : Int) := of_decide_eq_true dS; obtain ⟨ad126, e126, hx126_0⟩ := Kd.at_int (Kd.R_reads' HO_6.out).2.2 (ji29) p126 q126; cases e126; replace p126 := eq_true p126; replace q126 := eq_true q126) | (go_at_call 61; (with_reducible refine (wide_Add.calls t125 (rd x6_3 (ji29)) 0 t127 t128 _ A32.out).mono ?_); rintro e w' ⟨rfl, ⟨nd, rfl⟩⟩; (try exact dW)) | (go_at_call 61; (with_reducible refine (wide_Add.calls t127 x9_3 0 t129 t130 _ A33.out).mono ?_); rintro e w' ⟨rfl, ⟨nd, rfl⟩⟩; (try exact dW); have p34 : 0 ≤ ((ji29) : Int) := of_decide_eq_true dS; have q34 : ((ji29) : Int) < ((x6_3.length : Int) : Int) := of_decide_eq_true dS; obtain ⟨go34, co34, eo34, gb34, gl34, cl34, HG34⟩ := Kd.R_form HO_6.out (by omega); (first | cases eo34 | (injection eo34 with ea_ en_ ec_; (first | subst ea_ | (injection ea_ with ea_; subst ea_)); subst ec_; clear en_)); have GB34 := Aside0.mk gb34; have GG34 := Aside0.mk HG34; clear gb34 gl34 HG34; (first | simp only [add_plain] at hx126_0 | skip); obtain ⟨hx34_0, hf34_0⟩ := Kd.R_celln 0 HO_6.out ((ji29) : Int) p34 q34; replace p34 := eq_true p34; replace q34 := eq_true q34; obtain ⟨hy37_, hz37_⟩ := Kd.R_celln 0 HO_6.out ((ji29) : Int) (of_decide_eq_true dS) (of_decide_eq_true dS); have HP37 := Kd.R_putg HO_6.out ((ji29) : Int) t129) | ((with_reducible refine gate_store (t := 26) (p := 88) rfl ?_); (try (rw [drewN_self w35]; generalize hq_ : World.drewN w35 _ = w35; replace HO_6 := Aside0.mk (Kd.R_at hq_ HO_6.out); replace HB := Aside0.mk (below_at hq_ HB.out); clear hq_; (try (obtain ⟨hy37_, hz37_⟩ := Kd.R_celln 0 HO_6.out ((ji29) : Int) (of_decide_eq_true dS) (of_decide_eq_true dS))); (try (have HP37 := Kd.R_putg HO_6.out ((ji29) : Int) t129)))); refine store_event (t := 26) (p := 88) (v := ?vo_w38) (w1 := (w35.setCell ⟨go34, ((ji29) : Int).toNat, none⟩ (.int .u64 t129))) ?hg ?ho ?hn ?hr ?_; (case ho => rfl); (case hg => rfl); (case hn => rfl); (case hr => first | (go_simp; done) | (go_simp; rfl)); intro w38 hw; have hg : w35.grownBy w38 (some go34) := (by rw [hw]; exact HP37.2); have hp_ : Kd.R (Kd.int .u64) 26 w38 w.heap.size (fun _ => True) (.slice (some ⟨go34, 0, none⟩) x6_3.length co36) y131 := (by rw [hw, Ny131.out]; exact HP37.1); clear HP37; replace HO_6 := Aside0.mk (hp_); replace HB := Aside0.mk ((by rw [hw]; exact below_set (HB.out) GB34.out : Below w.heap.size w w38)); clear hg hw hp_)))
                       go_roundg k3
                       case measure => have := HJ8.out; have := HK2.out; have := HK3.out; omega
                       case rel => exact ⟨(y131), (IntKind.u64.wrap ((IntKind.u64.wrap (t124 + t128)) + t130)), (wrap64 (x53_3 + 1)), dF, dF, H', ⟨by have := HJ8.out; have := HK2.out; have := HK3.out; omega⟩, ⟨dR HO_6.out⟩, ⟨dB⟩⟩
                      ·rw [if_neg c31] at H
                       exact absurd H (by simp)
                     ·rw [if_neg c30] at H
                      exact absurd H (by simp)
                    ·rw [if_neg c27] at H
                     exact absurd H (by simp)
                   ·rw [if_neg c26] at H
                    exact absurd H (by simp)
                  ·rw [if_neg c25] at H
                   have c25b0 : decide (x53_3 < (z111.length : Int)) = false := decide_eq_false c25
                   clear c25
                   obtain ⟨ji39, hji39⟩ : ∃ j_ : Int, (wrap64 (x46_2 + (z111.length : Int))) = j_ := ⟨_, rfl⟩
                   first | rw [hji39] at H | simp only [hji39] at H
                   have hji39w : (IntKind.i64.wrap (x46_2 + (z111.length : Int))) = ji39 := (i64_w _).trans hji39
                   by_cases c40 : (0 : Int) ≤ (ji39)
                   ·rw [if_pos c40] at H
                    have c40b0 : decide (0 ≤ (ji39)) = true := decide_eq_true c40
                    clear c40
                    by_cases c41 : (ji39) < (x6_3.length : Int)
                    ·rw [if_pos c41] at H
                     have c41b0 : decide ((ji39) < (x6_3.length : Int)) = true := decide_eq_true c41
                     clear c41
                     obtain ⟨y132, hy132⟩ : ∃ y_ : List Int, y_ = (x6_3.set ((ji39) : Int).toNat x9_3) := ⟨_, rfl⟩
                     replace H : (nat_Mul.l0 k3 z111 y132 z109 (z109.length : Int) (wrap64 (x46_2 + 1))) = some (r1, r2) := by first | (rw [hy132]; with_reducible exact H) | (have H2_ := (Option.bind_some _ _).symm.trans H; rw [hy132]; with_reducible exact H2_) | (have H2_ := (Option.bind_some _ _).symm.trans H; with_reducible exact H2_) | with_reducible exact H | (rw [hy132]; exact H) | exact H
                     have Ny132 := Aside0.mk hy132
                     clear hy132
                     have H' := Aside0.mk H
                     clear H
                     have p42 : 0 ≤ ((ji39) : Int) := of_decide_eq_true dS
                     have q42 : ((ji39) : Int) < ((x6_3.length : Int) : Int) := of_decide_eq_true dS
                     obtain ⟨go42, co42, eo42, gb42, gl42, cl42, HG42⟩ := Kd.R_form HO_6.out (by omega)
                     (first | cases eo42 | (injection eo42 with ea_ en_ ec_; (first | subst ea_ | (injection ea_ with ea_; subst ea_)); subst ec_; clear en_))
                     have GB42 := Aside0.mk gb42
                     have GG42 := Aside0.mk HG42
                     clear gb42 gl42 HG42
                     obtain ⟨hx42_0, hf42_0⟩ := Kd.R_celln 0 HO_6.out ((ji39) : Int) p42 q42
                     replace p42 := eq_true p42
                     replace q42 := eq_true q42
                     have HP43 := Kd.R_putg HO_6.out ((ji39) : Int) x9_3
                     iterate 6 (go_wp2_with (first | ((with_reducible refine gate_store (t := 26) (p := 99) rfl ?_); (try (rw [drewN_self wr]; generalize hq_ : World.drewN wr _ = wr; replace HO_6 := Aside0.mk (Kd.R_at hq_ HO_6.out); replace HB := Aside0.mk (below_at hq_ HB.out); clear hq_; (try (have HP43 := Kd.R_putg HO_6.out ((ji39) : Int) x9_3)))); refine store_event (t := 26) (p := 99) (v := ?vo_w44) (w1 := (wr.setCell ⟨go42, ((ji39) : Int).toNat, none⟩ (.int .u64 x9_3))) ?hg ?ho ?hn ?hr ?_; (case ho => rfl); (case hg => rfl); (case hn => rfl); (case hr => first | (go_simp; done) | (go_simp; rfl)); intro w44 hw; have hg : wr.grownBy w44 (some go42) := (by rw [hw]; exact HP43.2); have hp_ : Kd.R (Kd.int .u64) 26 w44 w.heap.size (fun _ => True) (.slice (some ⟨go42, 0, none⟩) x6_3.length co42) y132 := (by rw [hw, Ny132.out]; exact HP43.1); clear HP43; replace HO_6 := Aside0.mk (hp_); replace HB := Aside0.mk ((by rw [hw]; exact below_set (HB.out) GB42.out : Below w.heap.size w w44)); clear hg hw hp_)); try go_quiet (fail))
                     go_roundg k3
                     case measure => have := HJ8.out; have := HK2.out; have := HK3.out; omega
                     case rel => exact ⟨(y132), (wrap64 (x46_2 + 1)), dF, H', ⟨by have := HJ8.out; have := HK2.out; have := HK3.out; omega⟩, ⟨dR HO_6.out⟩, ⟨dB⟩⟩
                    ·rw [if_neg c41] at H
                     exact absurd H (by simp)
                   ·rw [if_neg c40] at H
                    exact absurd H (by simp)
               ·rw [if_neg c24] at H
                exact absurd H (by simp)
              ·rw [if_neg c23] at H
               exact absurd H (by simp)
             ·rw [if_neg c22] at H
              have c22b0 : decide (x46_2 < (z109.length : Int)) = false := decide_eq_false c22
              clear c22
              replace H := obe H
              obtain ⟨⟨t118, t121⟩, A450, H⟩ := H
              (try dsimp only at H)
              have A45 := Aside0.mk A450
              clear A450
              simp only [Option.some.injEq, Prod.mk.injEq] at H
              obtain ⟨rfl, rfl⟩ := H
              obtain ⟨Ao46, co46, eo46⟩ := Kd.R_slice HO_6.out
              subst eo46
              iterate 6 (go_wp2_with (first | (go_at_call 56; (with_reducible refine (nat_bound.calls k2 (fun k_ => some k_ = (.slice Ao46 x6_2.length co46 : Value).ownBlock) (.slice Ao46 x6_2.length co46) x6_2 t118 t121 w _ ?side1 ?side2 A45.out).mono ?_); (case side1 => repeat (first | (with_reducible first | exact HB.out | apply below_alloc | apply pw_below_drewN | apply below_drew1) | exact HB.out)); (case side2 => exact Kd.R_tight rfl HO_6.out); rintro e w47 ⟨v119, rfl, ho0, hb, hkp⟩; have HO120 := Aside0.mk (Kd.R_mono (ok' := fun k_ => True) ho0 (fun k_ hk_ => trivial)); replace HB := Aside0.mk (hb); clear HO_6; (try clear hb); (try clear hkp); (try clear ho0))); try go_quiet (fail))
              go_ret2
              exact ⟨_, by first | rfl | (simp [errW_none, errW_some] <;> rfl) | (simp only [← hji17]; first | rfl | (simp [errW_none, errW_some] <;> rfl)) | (simp [*, errW_none, errW_some] <;> rfl), dR HO120.out, dB⟩
          ·rw [if_neg c19] at H
           exact absurd H (by simp)
         ·rw [if_neg c18] at H
          exact absurd H (by simp)
    ·rw [if_neg c8] at H
     exact absurd H (by simp)
   ·rw [if_neg c7] at H
    exact absurd H (by simp)
  ·rw [if_neg c5] at H
   exact absurd H (by simp)
 ·rw [if_neg c4] at H
  exact absurd H (by simp)

end Go.Proofs.YtoefabmlkbhmpaaDoor.PA
