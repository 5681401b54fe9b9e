/- A part of the proof (4). -/
import Derived.Test.YtoefabmlkbhmpaaDoorSS2
import Derived.Test.YtoefabmlkbhmpaaDoorSS3
namespace Go.Proofs.YtoefabmlkbhmpaaDoor.PA
open Go.RowKit Go.Proofs.YtoefabmlkbhmpaaDoorW.PrintWords Go.Proofs.YtoefabmlkbhmpaaDoorW.PrintLast Go.Proofs.YtoefabmlkbhmpaaDoorW.PrintMore
attribute [local go_sem] max2_int min2_int max_two min_two max_three min_three max_four min_four   -- for this text's walks alone
set_option linter.unusedVariables false
set_option linter.unusedSimpArgs false

/-! ### nat_Shr: function 44 -/
def nat_Shr.l0 : Nat → List Int → Int → List Int → Int → Int → Int → Option (List Int × Bool × Int)
 | 0, _, _, _, _, _, _ => none
 | k + 1, x0, x1, x8, x9, x39, x40 => if x40 < x39 then (if (wrap64 (x40 + 1)) < (x8.length : Int) then (if 0 ≤ (wrap64 (x40 + 1)) then (if 0 ≤ x40 then (if x40 < (x8.length : Int) then ((wide_Shr.f (rd x8 (wrap64 (x40 + 1))) (rd x8 x40) x9).bind fun bt129 => (nat_Shr.l0 k x0 x1 (x8.set (x40 : Int).toNat bt129.2.1) x9 x39 (wrap64 (x40 + 1)))) else (none)) else (none)) else (none)) else (if 0 ≤ x40 then (if x40 < (x8.length : Int) then ((wide_Shr.f 0 (rd x8 x40) x9).bind fun bt134 => (nat_Shr.l0 k x0 x1 (x8.set (x40 : Int).toNat bt134.2.1) x9 x39 (wrap64 (x40 + 1)))) else (none)) else (none))) else ((nat_bound.f k x8).bind fun bt138 => ((nat_Zeros.f k x0).bind fun t142 => (some (bt138.1, decide (t142 < x1), bt138.2))))
def nat_Shr.f (k : Nat) (l0 : List Int) (a1 : Int) : Option (List Int × Bool × Int) := (nat_Bits.f k l0).bind fun t122 => (if a1 < 0 then (some (([] : List Int), false, 22)) else (if a1 ≥ t122 then (some (([] : List Int), decide (t122 > 0), 0)) else (if (wrap64 (t122 - a1)) > 262144 then (some (([] : List Int), false, 21)) else (if 0 ≤ (wrap64 (Int.tdiv a1 64)) then (if (wrap64 (Int.tdiv a1 64)) ≤ (l0.length : Int) then ((nat_Norm.f (l0.drop ((wrap64 (Int.tdiv a1 64)) : Int).toNat)).bind fun t124 => (if (Int.tmod a1 64) > 0 then (nat_Shr.l0 k l0 a1 t124 (Int.tmod a1 64) (t124.length : Int) 0) else ((nat_bound.f k t124).bind fun bt143 => ((nat_Zeros.f k l0).bind fun t147 => (some (bt143.1, decide (t147 < a1), bt143.2)))))) else (none)) else (none)))))
theorem nat_Shr.mono_l : ∀ k, (∀ y0 y1 y2 y3 y4 y5, LeO (nat_Shr.l0 k y0 y1 y2 y3 y4 y5) (nat_Shr.l0 (k + 1) y0 y1 y2 y3 y4 y5))
 | 0 => fun _ _ _ _ _ _ r h => by simp [nat_Shr.l0] at h
 | k + 1 => by
  have ih0 := nat_Shr.mono_l k
  ·intro y0 y1 y2 y3 y4 y5
   unfold nat_Shr.l0
   repeat' first
   | (with_reducible exact ih0 _ _ _ _ _ _)
   | (with_reducible exact nat_Bits.mono _ _)
   | (with_reducible exact nat_Zeros.mono _ _)
   | (with_reducible exact nat_bound.mono _ _)
   | (with_reducible exact LeO.refl _)
   | (with_reducible exact LeO.none _)
   | (with_reducible refine LeO.ite ?_ ?_)
   | (with_reducible refine LeO.bind ?_ (fun _ => ?_))
   | exact ih0 _ _ _ _ _ _
   | exact nat_Bits.mono _ _
   | exact nat_Zeros.mono _ _
   | exact nat_bound.mono _ _
   | exact LeO.none _
   | refine LeO.ite ?_ ?_
   | refine LeO.bind ?_ (fun _ => ?_)
theorem nat_Shr.mono : ∀ a0 a1 k, LeO (nat_Shr.f k a0 a1) (nat_Shr.f (k + 1) a0 a1) := by
 intro a0 a1 k
 have ih0 := nat_Shr.mono_l k
 unfold nat_Shr.f
 repeat' first
   | (with_reducible exact ih0 _ _ _ _ _ _)
   | (with_reducible exact nat_Bits.mono _ _)
   | (with_reducible exact nat_Zeros.mono _ _)
   | (with_reducible exact nat_bound.mono _ _)
   | (with_reducible exact LeO.refl _)
   | (with_reducible exact LeO.none _)
   | (with_reducible refine LeO.ite ?_ ?_)
   | (with_reducible refine LeO.bind ?_ (fun _ => ?_))
   | exact ih0 _ _ _ _ _ _
   | exact nat_Bits.mono _ _
   | exact nat_Zeros.mono _ _
   | exact nat_bound.mono _ _
   | exact LeO.none _
   | refine LeO.ite ?_ ?_
   | refine LeO.bind ?_ (fun _ => ?_)
set_option maxHeartbeats 8000000 in
set_option maxRecDepth 100000 in
theorem nat_Shr.calls (k : Nat) (A0 : Option Addr) (c0 : Nat) (l0 : List Int) (a1 : Int) (r1 : List Int) (r2 : Bool) (r3 : Int) (w : World) (hr0 : Kd.C (Kd.int .u64) w A0 l0.length l0) (hc0 : l0.length ≤ c0) (h : nat_Shr.f k l0 a1 = some (r1, r2, r3)) :
  Calls Tryd.prog 44 #[.slice A0 l0.length c0, .int .i64 a1] w fun e w' => ∃ v0_ : Value, e = .returned (.tuple #[v0_, .bool r2, .int .i64 r3]) ∧ Kd.R (Kd.int .u64) 26 w' w.heap.size (fun _ => True) v0_ r1 ∧ Below w.heap.size w w' := by
 have HR0 := Aside0.mk hr0
 have HC0 := Aside0.mk hc0
 clear hr0 hc0
 have HB := Aside0.mk (Below.refl w.heap.size w)
 have H : ((nat_Bits.f k l0).bind fun t122 => (if a1 < 0 then (some (([] : List Int), false, 22)) else (if a1 ≥ t122 then (some (([] : List Int), decide (t122 > 0), 0)) else (if (wrap64 (t122 - a1)) > 262144 then (some (([] : List Int), false, 21)) else (if 0 ≤ (wrap64 (Int.tdiv a1 64)) then (if (wrap64 (Int.tdiv a1 64)) ≤ (l0.length : Int) then ((nat_Norm.f (l0.drop ((wrap64 (Int.tdiv a1 64)) : Int).toNat)).bind fun t124 => (if (Int.tmod a1 64) > 0 then (nat_Shr.l0 k l0 a1 t124 (Int.tmod a1 64) (t124.length : Int) 0) else ((nat_bound.f k t124).bind fun bt143 => ((nat_Zeros.f k l0).bind fun t147 => (some (bt143.1, decide (t147 < a1), bt143.2)))))) else (none)) else (none)))))) = some (r1, r2, r3) := h
 clear h
 replace H := obe H
 obtain ⟨t122, A30, H⟩ := H
 replace H : (if a1 < 0 then (some (([] : List Int), false, 22)) else (if a1 ≥ t122 then (some (([] : List Int), decide (t122 > 0), 0)) else (if (wrap64 (t122 - a1)) > 262144 then (some (([] : List Int), false, 21)) else (if 0 ≤ (wrap64 (Int.tdiv a1 64)) then (if (wrap64 (Int.tdiv a1 64)) ≤ (l0.length : Int) then ((nat_Norm.f (l0.drop ((wrap64 (Int.tdiv a1 64)) : Int).toNat)).bind fun t124 => (if (Int.tmod a1 64) > 0 then (nat_Shr.l0 k l0 a1 t124 (Int.tmod a1 64) (t124.length : Int) 0) else ((nat_bound.f k t124).bind fun bt143 => ((nat_Zeros.f k l0).bind fun t147 => (some (bt143.1, decide (t147 < a1), bt143.2)))))) else (none)) else (none))))) = some (r1, r2, r3) := H
 have A3 := Aside0.mk A30
 clear A30
 by_cases c4 : a1 < 0
 ·rw [if_pos c4] at H
  have c4b0 : decide (a1 < 0) = true := decide_eq_true c4
  clear c4
  simp only [Option.some.injEq, Prod.mk.injEq] at H
  obtain ⟨rfl, rfl, rfl⟩ := H
  go_enter Tryd.func44, Tryd.ntmps44
  go_wp2_with (first | ((with_reducible refine gate_callee (f := 43) rfl ?_); refine gL (some 14) Tryd.func43 #[.slice A0 l0.length c0] ?_; (with_reducible refine (nat_Bits.calls k _ _ l0 t122 _ ?side1 ?side2 A3.out).mono ?_); (case side1 => exact dC HR0.out); (case side2 => exact HC0.out); rintro e w' ⟨rfl, ⟨nd, rfl⟩⟩; refine ⟨_, rfl, ?_⟩))
  go_ret3
  exact ⟨_, dE, by first | exact Kd.R_nil _ _ _ _ _ | exact Kd.N_nil _ _ _ _ _ | exact Kd.V_nil _ _ _ _ _ | exact Kd.Q_nil _ _ _ _ _ | exact Kd.S_nil _ _ _ _ _, dB⟩
 ·rw [if_neg c4] at H
  have c4b0 : decide (a1 < 0) = false := decide_eq_false c4
  clear c4
  by_cases c5 : a1 ≥ t122
  ·rw [if_pos c5] at H
   have c5b0 : decide (t122 ≤ a1) = true := decide_eq_true c5
   clear c5
   simp only [Option.some.injEq, Prod.mk.injEq] at H
   obtain ⟨rfl, rfl, rfl⟩ := H
   go_enter Tryd.func44, Tryd.ntmps44
   go_wp2_with (first | ((with_reducible refine gate_callee (f := 43) rfl ?_); refine gL (some 14) Tryd.func43 #[.slice A0 l0.length c0] ?_; (with_reducible refine (nat_Bits.calls k _ _ l0 t122 _ ?side1 ?side2 A3.out).mono ?_); (case side1 => exact dC HR0.out); (case side2 => exact HC0.out); rintro e w' ⟨rfl, ⟨nd, rfl⟩⟩; refine ⟨_, rfl, ?_⟩))
   go_ret3
   exact ⟨_, dE, by first | exact Kd.R_nil _ _ _ _ _ | exact Kd.N_nil _ _ _ _ _ | exact Kd.V_nil _ _ _ _ _ | exact Kd.Q_nil _ _ _ _ _ | exact Kd.S_nil _ _ _ _ _, dB⟩
  ·rw [if_neg c5] at H
   have c5b0 : decide (t122 ≤ a1) = false := decide_eq_false c5
   clear c5
   by_cases c6 : (wrap64 (t122 - a1)) > 262144
   ·rw [if_pos c6] at H
    have c6b0 : decide (262144 < (wrap64 (t122 - a1))) = true := decide_eq_true c6
    clear c6
    simp only [Option.some.injEq, Prod.mk.injEq] at H
    obtain ⟨rfl, rfl, rfl⟩ := H
    go_enter Tryd.func44, Tryd.ntmps44
    go_wp2_with (first | ((with_reducible refine gate_callee (f := 43) rfl ?_); refine gL (some 14) Tryd.func43 #[.slice A0 l0.length c0] ?_; (with_reducible refine (nat_Bits.calls k _ _ l0 t122 _ ?side1 ?side2 A3.out).mono ?_); (case side1 => exact dC HR0.out); (case side2 => exact HC0.out); rintro e w' ⟨rfl, ⟨nd, rfl⟩⟩; refine ⟨_, rfl, ?_⟩))
    go_ret3
    exact ⟨_, dE, by first | exact Kd.R_nil _ _ _ _ _ | exact Kd.N_nil _ _ _ _ _ | exact Kd.V_nil _ _ _ _ _ | exact Kd.Q_nil _ _ _ _ _ | exact Kd.S_nil _ _ _ _ _, dB⟩
   ·rw [if_neg c6] at H
    have c6b0 : decide (262144 < (wrap64 (t122 - a1))) = false := decide_eq_false c6
    clear c6
    obtain ⟨ji7, hji7⟩ : ∃ j_ : Int, (wrap64 (Int.tdiv a1 64)) = j_ := ⟨_, rfl⟩
    replace H : (if 0 ≤ (ji7) then (if (ji7) ≤ (l0.length : Int) then ((nat_Norm.f (l0.drop ((ji7) : Int).toNat)).bind fun t124 => (if (Int.tmod a1 64) > 0 then (nat_Shr.l0 k l0 a1 t124 (Int.tmod a1 64) (t124.length : Int) 0) else ((nat_bound.f k t124).bind fun bt143 => ((nat_Zeros.f k l0).bind fun t147 => (some (bt143.1, decide (t147 < a1), bt143.2)))))) else (none)) else (none)) = some (r1, r2, r3) := by first | (rw [hji7] at H; exact H) | (simp only [hji7] at H ⊢; exact H)
    (try rw [hji7] at A3)
    have hji7w : (IntKind.i64.wrap (Int.tdiv a1 64)) = ji7 := (i64_w _).trans hji7
    by_cases c8 : (0 : Int) ≤ (ji7)
    ·rw [if_pos c8] at H
     have c8b0 := eq_true c8
     have c8b1 : decide (0 ≤ (ji7)) = true := decide_eq_true c8
     clear c8
     by_cases c9 : (ji7) ≤ (l0.length : Int)
     ·rw [if_pos c9] at H
      have c9b0 := eq_true c9
      have c9b1 : decide ((ji7) ≤ (l0.length : Int)) = true := decide_eq_true c9
      clear c9
      replace H := obe H
      obtain ⟨t124, A100, H⟩ := H
      replace H : (if (Int.tmod a1 64) > 0 then (nat_Shr.l0 k l0 a1 t124 (Int.tmod a1 64) (t124.length : Int) 0) else ((nat_bound.f k t124).bind fun bt143 => ((nat_Zeros.f k l0).bind fun t147 => (some (bt143.1, decide (t147 < a1), bt143.2))))) = some (r1, r2, r3) := H
      have A10 := Aside0.mk A100
      clear A100
      by_cases c11 : (Int.tmod a1 64) > 0
      ·rw [if_pos c11] at H
       have c11b0 : decide (0 < (Int.tmod a1 64)) = true := decide_eq_true c11
       clear c11
       have H' := Aside0.mk H
       clear H
       go_enter Tryd.func44, Tryd.ntmps44
       go_wp2_with (first | ((with_reducible refine gate_callee (f := 43) rfl ?_); refine gL (some 14) Tryd.func43 #[.slice A0 l0.length c0] ?_; (with_reducible refine (nat_Bits.calls k _ _ l0 t122 _ ?side1 ?side2 A3.out).mono ?_); (case side1 => exact dC HR0.out); (case side2 => exact HC0.out); rintro e w' ⟨rfl, ⟨nd, rfl⟩⟩; refine ⟨_, rfl, ?_⟩; obtain ⟨i012, hi012, _, hsz12, _⟩ := info_parts info26; obtain ⟨A12, hcut12, hA12, hC12⟩ := print_drop_of (P := Tryd.prog) (Value.int .u64) 0 22 26 .i64 Tryd.underlying22 hi012 hsz12 A0 c0 l0 (ji7) (of_decide_eq_true dS) (of_decide_eq_true dS) HC0.out; have HR123 := Aside0.mk (Kd.C_of_reads (h1 := fun _ => rfl) (hA12 _ (Kd.reads_of_C HR0.out))); have HC123 := Aside0.mk hC12; clear hA12 hC12 hi012 hsz12) | ((with_reducible refine gate_callee (f := 51) rfl ?_); refine goesL_ (some 33) rfl rfl Tryd.func51 (by kernel_rfl) rfl #[.slice A12 (l0.drop ((ji7) : Int).toNat).length (c0 - (ji7).toNat)] rfl (by (try simp only [List.map_toArray, List.map_cons, List.map_nil]); first | done | (rw [show (l0.drop ((ji7) : Int).toNat).length = (l0.length - (ji7).toNat) from List.length_drop] <;> rfl) | (simp only [hji7]; rfl) | rfl | (simp only [List.length_drop, List.length_take]; rfl)) ?_; (with_reducible refine (nat_Norm.calls _ _ (l0.drop ((ji7) : Int).toNat) t124 _ ?side1 ?side2 A10.out).mono ?_); (case side1 => exact dC HR123.out); (case side2 => exact HC123.out); rintro e w13 ⟨v125, rfl, ho0, hb⟩; refine ⟨_, rfl, ?_⟩; have HO126 := Aside0.mk (Kd.R_lower ho0 (below_size dB)); replace HB := Aside0.mk (below_step dB hb); (try clear hb); (try clear ho0); obtain ⟨Ao14, co14, eo14⟩ := Kd.R_slice HO126.out; subst eo14))
       go_loopg [40] k (fun kq v40 w' => ∃ (x8_1 : List Int) (x40_1 : Int), v40 = .int .i64 x40_1 ∧ Aside0 (nat_Shr.l0 kq l0 a1 x8_1 (Int.tmod a1 64) (t124.length : Int) x40_1 = some (r1, r2, r3)) ∧ Aside0 (kq ≤ k) ∧ Aside0 (Kd.R (Kd.int .u64) 26 w' w.heap.size (fun _ => True) (.slice Ao14 t124.length co14) x8_1) ∧ Aside0 (Below w.heap.size w w'))
       case atStart => exact ⟨(t124), (0), dF, H', ⟨Nat.le_refl _⟩, ⟨dR HO126.out⟩, ⟨dB⟩⟩
       case round =>
        clear H'
        try clear c1
        try clear p2
        try clear c4
        try clear c4b0
        try clear c5
        try clear c5b0
        try clear c6
        try clear c6b0
        try clear p6
        try clear c8
        try clear c8b0
        try clear c8b1
        try clear c9
        try clear c9b0
        try clear c9b1
        try clear c11
        try clear c11b0
        obtain ⟨x8_1, x40_1, rfl, HA, HK1, HO_8, HB⟩ := hrel
        have hl8_1 := (Kd.R_reads' HO_8.out).1
        rw [hl8_1] at HO_8
        (try simp only [hl8_1])
        cases gk with
        | zero => exact absurd HA.out (by simp [nat_Shr.l0])
        | succ k1 =>
         have H := HA.out
         clear HA
         simp only [nat_Shr.l0] at H
         by_cases c15 : x40_1 < (t124.length : Int)
         ·rw [if_pos c15] at H
          have c15b0 : decide (x40_1 < (t124.length : Int)) = true := decide_eq_true c15
          clear c15
          by_cases c16 : (wrap64 (x40_1 + 1)) < (x8_1.length : Int)
          ·rw [if_pos c16] at H
           have c16b0 : decide ((wrap64 (x40_1 + 1)) < (x8_1.length : Int)) = true := decide_eq_true c16
           clear c16
           obtain ⟨ji17, hji17⟩ : ∃ j_ : Int, (wrap64 (x40_1 + 1)) = j_ := ⟨_, rfl⟩
           replace H : (if 0 ≤ (ji17) then (if 0 ≤ x40_1 then (if x40_1 < (x8_1.length : Int) then ((wide_Shr.f (rd x8_1 (ji17)) (rd x8_1 x40_1) (Int.tmod a1 64)).bind fun bt129 => (nat_Shr.l0 k1 l0 a1 (x8_1.set (x40_1 : Int).toNat bt129.2.1) (Int.tmod a1 64) (t124.length : Int) ji17)) else (none)) else (none)) else (none)) = some (r1, r2, r3) := by first | (rw [hji17] at H; exact H) | (simp only [hji17] at H ⊢; exact H)
           (try rw [hji17] at c16b0)
           have hji17w : (IntKind.i64.wrap (x40_1 + 1)) = ji17 := (i64_w _).trans hji17
           by_cases c18 : (0 : Int) ≤ (ji17)
           ·rw [if_pos c18] at H
            have c18b0 : decide (0 ≤ (ji17)) = true := decide_eq_true c18
            clear c18
            by_cases c19 : (0 : Int) ≤ x40_1
            ·rw [if_pos c19] at H
             have c19b0 : decide (0 ≤ x40_1) = true := decide_eq_true c19
             clear c19
             by_cases c20 : x40_1 < (x8_1.length : Int)
             ·rw [if_pos c20] at H
              have c20b0 : decide (x40_1 < (x8_1.length : Int)) = true := decide_eq_true c20
              clear c20
              replace H := obe H
              obtain ⟨⟨t129, t130, t131⟩, A210, H⟩ := H
              replace H : (nat_Shr.l0 k1 l0 a1 (x8_1.set (x40_1 : Int).toNat t130) (Int.tmod a1 64) (t124.length : Int) ji17) = some (r1, r2, r3) := H
              have A21 := Aside0.mk A210
              clear A210
              obtain ⟨y132, hy132⟩ : ∃ y_ : List Int, y_ = (x8_1.set (x40_1 : Int).toNat t130) := ⟨_, rfl⟩
              replace H : (nat_Shr.l0 k1 l0 a1 y132 (Int.tmod a1 64) (t124.length : Int) ji17) = some (r1, r2, r3) := by first | (rw [hy132]; with_reducible exact H) | (have H2_ := (Option.bind_some _ _).symm.trans H; rw [hy132]; with_reducible exact H2_) | (have H2_ := (Option.bind_some _ _).symm.trans H; with_reducible exact H2_) | with_reducible exact H | (rw [hy132]; exact H) | exact H
              have Ny132 := Aside0.mk hy132
              clear hy132
              have H' := Aside0.mk H
              clear H
              have p127 : 0 ≤ ((ji17) : Int) := of_decide_eq_true dS
              have q127 : (ji17) < (x8_1.length : Int) := of_decide_eq_true dS
              obtain ⟨ad127, e127, hx127_0⟩ := Kd.at_int (Kd.R_reads' HO_8.out).2.2 (ji17) p127 q127
              cases e127
              replace p127 := eq_true p127
              replace q127 := eq_true q127
              have p128 : 0 ≤ (x40_1 : Int) := of_decide_eq_true dS
              have q128 : x40_1 < (x8_1.length : Int) := of_decide_eq_true dS
              obtain ⟨ad128, e128, hx128_0⟩ := Kd.at_int (Kd.R_reads' HO_8.out).2.2 x40_1 p128 q128
              obtain rfl : ad127 = ad128 := (by injection e128)
              replace p128 := eq_true p128
              replace q128 := eq_true q128
              go_wp2_with (first | ((with_reducible refine gate_callee (f := 82) rfl ?_); refine goesL_ (some 62) rfl rfl Tryd.func82 (by kernel_rfl) rfl #[.int .u64 (rd x8_1 (ji17)), .int .u64 (rd x8_1 x40_1), .int .i64 (Int.tmod a1 64)] rfl (by (try simp only [List.map_toArray, List.map_cons, List.map_nil]); first | done | (simp only [hji17]; rfl) | rfl | (simp only [List.length_drop, List.length_take]; rfl)) ?_; (with_reducible refine (wide_Shr.calls (rd x8_1 (ji17)) (rd x8_1 x40_1) (Int.tmod a1 64) t129 t130 t131 _ A21.out).mono ?_); rintro e w23 ⟨rfl, hb⟩; refine ⟨_, rfl, ?_⟩; replace HO_8 := Aside0.mk (Kd.R_below (dR HO_8.out) hb); replace HB := Aside0.mk (below_step dB hb); (try clear hb); have p22 : 0 ≤ (x40_1 : Int) := of_decide_eq_true dS; have q22 : (x40_1 : Int) < ((x8_1.length : Int) : Int) := of_decide_eq_true dS; obtain ⟨go22, co22, eo22, gb22, gl22, cl22, HG22⟩ := Kd.R_form HO_8.out (by omega); (first | cases eo22 | (injection eo22 with ea_ en_ ec_; (first | subst ea_ | (injection ea_ with ea_; subst ea_)); subst ec_; clear en_)); have GB22 := Aside0.mk gb22; have GG22 := Aside0.mk HG22; clear gb22 gl22 HG22; (first | simp only [add_plain] at hx127_0 | skip); (first | simp only [add_plain] at hx128_0 | skip); obtain ⟨hx22_0, hf22_0⟩ := Kd.R_celln 0 HO_8.out (x40_1 : Int) p22 q22; replace p22 := eq_true p22; replace q22 := eq_true q22; obtain ⟨hy24_, hz24_⟩ := Kd.R_celln 0 HO_8.out (x40_1 : Int) (of_decide_eq_true dS) (of_decide_eq_true dS); have HP24 := Kd.R_putg HO_8.out (x40_1 : Int) t130) | ((with_reducible refine gate_store (t := 26) (p := 66) rfl ?_); refine store_event (t := 26) (p := 66) (v := ?vo_w25) (w1 := (w23.setCell ⟨go22, (x40_1 : Int).toNat, none⟩ (.int .u64 t130))) ?hg ?ho ?hn ?hr ?_; (case ho => rfl); (case hg => rfl); (case hn => rfl); (case hr => first | (go_simp; done) | (go_simp; rfl)); intro w25 hw; have hg : w23.grownBy w25 (some go22) := (by rw [hw]; exact HP24.2); have hp_ : Kd.R (Kd.int .u64) 26 w25 w.heap.size (fun _ => True) (.slice (some ⟨go22, 0, none⟩) x8_1.length co14) y132 := (by rw [hw, Ny132.out]; exact HP24.1); clear HP24; replace HO_8 := Aside0.mk (hp_); replace HB := Aside0.mk ((by rw [hw]; exact below_set (HB.out) GB22.out : Below w.heap.size w w25)); clear hg hw hp_))
              (try simp only [← hl8_1])
              go_roundg k1
              case measure => have := HK1.out; omega
              case rel => exact ⟨(y132), (ji17), (by first | rfl | (simp; done) | (simp only [← hji17] <;> (first | rfl | simp)) | (simp [*]; done)), H', ⟨by have := HK1.out; omega⟩, ⟨by (try simp only [hl8_1]); (with_reducible repeat (first | apply Kd.R_alloc | apply Kd.R_drewN | apply Kd.R_drew)); exact HO_8.out⟩, ⟨dB⟩⟩
             ·rw [if_neg c20] at H
              exact absurd H (by simp)
            ·rw [if_neg c19] at H
             exact absurd H (by simp)
           ·rw [if_neg c18] at H
            exact absurd H (by simp)
          ·rw [if_neg c16] at H
           have c16b0 : decide ((wrap64 (x40_1 + 1)) < (x8_1.length : Int)) = false := decide_eq_false c16
           clear c16
           by_cases c26 : (0 : Int) ≤ x40_1
           ·rw [if_pos c26] at H
            have c26b0 : decide (0 ≤ x40_1) = true := decide_eq_true c26
            clear c26
            by_cases c27 : x40_1 < (x8_1.length : Int)
            ·rw [if_pos c27] at H
             have c27b0 : decide (x40_1 < (x8_1.length : Int)) = true := decide_eq_true c27
             clear c27
             replace H := obe H
             obtain ⟨⟨t134, t135, t136⟩, A280, H⟩ := H
             replace H : (nat_Shr.l0 k1 l0 a1 (x8_1.set (x40_1 : Int).toNat t135) (Int.tmod a1 64) (t124.length : Int) (wrap64 (x40_1 + 1))) = some (r1, r2, r3) := H
             have A28 := Aside0.mk A280
             clear A280
             obtain ⟨y137, hy137⟩ : ∃ y_ : List Int, y_ = (x8_1.set (x40_1 : Int).toNat t135) := ⟨_, rfl⟩
             replace H : (nat_Shr.l0 k1 l0 a1 y137 (Int.tmod a1 64) (t124.length : Int) (wrap64 (x40_1 + 1))) = some (r1, r2, r3) := by first | (rw [hy137]; with_reducible exact H) | (have H2_ := (Option.bind_some _ _).symm.trans H; rw [hy137]; with_reducible exact H2_) | (have H2_ := (Option.bind_some _ _).symm.trans H; with_reducible exact H2_) | with_reducible exact H | (rw [hy137]; exact H) | exact H
             have Ny137 := Aside0.mk hy137
             clear hy137
             have H' := Aside0.mk H
             clear H
             have p133 : 0 ≤ (x40_1 : Int) := of_decide_eq_true dS
             have q133 : x40_1 < (x8_1.length : Int) := of_decide_eq_true dS
             obtain ⟨ad133, e133, hx133_0⟩ := Kd.at_int (Kd.R_reads' HO_8.out).2.2 x40_1 p133 q133
             cases e133
             replace p133 := eq_true p133
             replace q133 := eq_true q133
             go_wp2_with (first | ((with_reducible refine gate_callee (f := 82) rfl ?_); refine gL (some 62) Tryd.func82 #[.int .u64 0, .int .u64 (rd x8_1 x40_1), .int .i64 (Int.tmod a1 64)] ?_; (with_reducible refine (wide_Shr.calls 0 (rd x8_1 x40_1) (Int.tmod a1 64) t134 t135 t136 _ A28.out).mono ?_); rintro e w30 ⟨rfl, hb⟩; refine ⟨_, rfl, ?_⟩; replace HO_8 := Aside0.mk (Kd.R_below (dR HO_8.out) hb); replace HB := Aside0.mk (below_step dB hb); (try clear hb); have p29 : 0 ≤ (x40_1 : Int) := of_decide_eq_true dS; have q29 : (x40_1 : Int) < ((x8_1.length : Int) : Int) := of_decide_eq_true dS; obtain ⟨go29, co29, eo29, gb29, gl29, cl29, HG29⟩ := Kd.R_form HO_8.out (by omega); (first | cases eo29 | (injection eo29 with ea_ en_ ec_; (first | subst ea_ | (injection ea_ with ea_; subst ea_)); subst ec_; clear en_)); have GB29 := Aside0.mk gb29; have GG29 := Aside0.mk HG29; clear gb29 gl29 HG29; (first | simp only [add_plain] at hx133_0 | skip); obtain ⟨hx29_0, hf29_0⟩ := Kd.R_celln 0 HO_8.out (x40_1 : Int) p29 q29; replace p29 := eq_true p29; replace q29 := eq_true q29; obtain ⟨hy31_, hz31_⟩ := Kd.R_celln 0 HO_8.out (x40_1 : Int) (of_decide_eq_true dS) (of_decide_eq_true dS); have HP31 := Kd.R_putg HO_8.out (x40_1 : Int) t135) | ((with_reducible refine gate_store (t := 26) (p := 66) rfl ?_); refine store_event (t := 26) (p := 66) (v := ?vo_w32) (w1 := (w30.setCell ⟨go29, (x40_1 : Int).toNat, none⟩ (.int .u64 t135))) ?hg ?ho ?hn ?hr ?_; (case ho => rfl); (case hg => rfl); (case hn => rfl); (case hr => first | (go_simp; done) | (go_simp; rfl)); intro w32 hw; have hg : w30.grownBy w32 (some go29) := (by rw [hw]; exact HP31.2); have hp_ : Kd.R (Kd.int .u64) 26 w32 w.heap.size (fun _ => True) (.slice (some ⟨go29, 0, none⟩) x8_1.length co14) y137 := (by rw [hw, Ny137.out]; exact HP31.1); clear HP31; replace HO_8 := Aside0.mk (hp_); replace HB := Aside0.mk ((by rw [hw]; exact below_set (HB.out) GB29.out : Below w.heap.size w w32)); clear hg hw hp_))
             (try simp only [← hl8_1])
             go_roundg k1
             case measure => have := HK1.out; omega
             case rel => exact ⟨(y137), (wrap64 (x40_1 + 1)), dF, H', ⟨by have := HK1.out; omega⟩, ⟨by (try simp only [hl8_1]); (with_reducible repeat (first | apply Kd.R_alloc | apply Kd.R_drewN | apply Kd.R_drew)); exact HO_8.out⟩, ⟨dB⟩⟩
            ·rw [if_neg c27] at H
             exact absurd H (by simp)
           ·rw [if_neg c26] at H
            exact absurd H (by simp)
         ·rw [if_neg c15] at H
          have c15b0 : decide (x40_1 < (t124.length : Int)) = false := decide_eq_false c15
          try have c15x0 : decide (x40_1 < (x8_1.length : Int)) = false := by first | (rw [hl8_1]; exact c15b0) | (rw [← hl8_1]; exact c15b0)
          clear c15
          replace H := obe H
          obtain ⟨⟨t138, t141⟩, A330, H⟩ := H
          replace H : ((nat_Zeros.f k1 l0).bind fun t142 => (some (t138, decide (t142 < a1), t141))) = some (r1, r2, r3) := H
          have A33 := Aside0.mk A330
          clear A330
          replace H := obe H
          obtain ⟨t142, A340, H⟩ := H
          replace H : (some (t138, decide (t142 < a1), t141)) = some (r1, r2, r3) := H
          have A34 := Aside0.mk A340
          clear A340
          simp only [Option.some.injEq, Prod.mk.injEq] at H
          obtain ⟨rfl, rfl, rfl⟩ := H
          go_wp2_with (first | ((with_reducible refine gate_callee (f := 56) rfl ?_); refine gL (some 70) Tryd.func56 #[.slice Ao14 x8_1.length co14] ?_; (with_reducible refine (nat_bound.calls k1 (fun k_ => some k_ = (.slice Ao14 x8_1.length co14 : Value).ownBlock) (.slice Ao14 x8_1.length co14) x8_1 t138 t141 w _ ?side1 ?side2 A33.out).mono ?_); (case side1 => repeat (first | (with_reducible first | exact HB.out | apply below_alloc | apply pw_below_drewN | apply below_drew1) | exact HB.out)); (case side2 => exact Kd.R_tight rfl HO_8.out); rintro e w35 ⟨v139, rfl, ho0, hb, hkp⟩; refine ⟨_, rfl, ?_⟩; have HO140 := Aside0.mk (Kd.R_mono (ok' := fun k_ => True) ho0 (fun k_ hk_ => trivial)); replace HB := Aside0.mk (hb); clear HO_8; (try clear hb); (try clear hkp); (try clear ho0)) | ((with_reducible refine gate_callee (f := 83) rfl ?_); refine gL (some 75) Tryd.func83 #[.slice A0 l0.length c0] ?_; (with_reducible refine (nat_Zeros.calls k1 _ _ l0 t142 _ ?side1 ?side2 A34.out).mono ?_); (case side1 => exact dC (Kd.C_below HR0.out HB.out)); (case side2 => exact HC0.out); rintro e w' ⟨rfl, ⟨nd, rfl⟩⟩; refine ⟨_, rfl, ?_⟩))
          go_ret3
          exact ⟨_, by first | rfl | (simp [errW_none, errW_some] <;> rfl) | (simp only [← hji7]; first | rfl | (simp [errW_none, errW_some] <;> rfl)) | (simp [*, errW_none, errW_some] <;> rfl), dR HO140.out, dB⟩
      ·rw [if_neg c11] at H
       have c11b0 : decide (0 < (Int.tmod a1 64)) = false := decide_eq_false c11
       clear c11
       replace H := obe H
       obtain ⟨⟨t143, t146⟩, A360, H⟩ := H
       replace H : ((nat_Zeros.f k l0).bind fun t147 => (some (t143, decide (t147 < a1), t146))) = some (r1, r2, r3) := H
       have A36 := Aside0.mk A360
       clear A360
       replace H := obe H
       obtain ⟨t147, A370, H⟩ := H
       replace H : (some (t143, decide (t147 < a1), t146)) = some (r1, r2, r3) := H
       have A37 := Aside0.mk A370
       clear A370
       simp only [Option.some.injEq, Prod.mk.injEq] at H
       obtain ⟨rfl, rfl, rfl⟩ := H
       go_enter Tryd.func44, Tryd.ntmps44
       go_wp2_with (first | ((with_reducible refine gate_callee (f := 43) rfl ?_); refine gL (some 14) Tryd.func43 #[.slice A0 l0.length c0] ?_; (with_reducible refine (nat_Bits.calls k _ _ l0 t122 _ ?side1 ?side2 A3.out).mono ?_); (case side1 => exact dC HR0.out); (case side2 => exact HC0.out); rintro e w' ⟨rfl, ⟨nd, rfl⟩⟩; refine ⟨_, rfl, ?_⟩; obtain ⟨i038, hi038, _, hsz38, _⟩ := info_parts info26; obtain ⟨A38, hcut38, hA38, hC38⟩ := print_drop_of (P := Tryd.prog) (Value.int .u64) 0 22 26 .i64 Tryd.underlying22 hi038 hsz38 A0 c0 l0 (ji7) (of_decide_eq_true dS) (of_decide_eq_true dS) HC0.out; have HR123 := Aside0.mk (Kd.C_of_reads (h1 := fun _ => rfl) (hA38 _ (Kd.reads_of_C HR0.out))); have HC123 := Aside0.mk hC38; clear hA38 hC38 hi038 hsz38) | ((with_reducible refine gate_callee (f := 51) rfl ?_); refine goesL_ (some 33) rfl rfl Tryd.func51 (by kernel_rfl) rfl #[.slice A38 (l0.drop ((ji7) : Int).toNat).length (c0 - (ji7).toNat)] rfl (by (try simp only [List.map_toArray, List.map_cons, List.map_nil]); first | done | (rw [show (l0.drop ((ji7) : Int).toNat).length = (l0.length - (ji7).toNat) from List.length_drop] <;> rfl) | (simp only [hji7]; rfl) | rfl | (simp only [List.length_drop, List.length_take]; rfl)) ?_; (with_reducible refine (nat_Norm.calls _ _ (l0.drop ((ji7) : Int).toNat) t124 _ ?side1 ?side2 A10.out).mono ?_); (case side1 => exact dC HR123.out); (case side2 => exact HC123.out); rintro e w39 ⟨v125, rfl, ho0, hb⟩; refine ⟨_, rfl, ?_⟩; have HO126 := Aside0.mk (Kd.R_lower ho0 (below_size dB)); replace HB := Aside0.mk (below_step dB hb); (try clear hb); (try clear ho0); obtain ⟨Ao40, co40, eo40⟩ := Kd.R_slice HO126.out; subst eo40) | ((with_reducible refine gate_callee (f := 56) rfl ?_); refine gL (some 70) Tryd.func56 #[.slice Ao40 t124.length co40] ?_; (with_reducible refine (nat_bound.calls k (fun k_ => some k_ = (.slice Ao40 t124.length co40 : Value).ownBlock) (.slice Ao40 t124.length co40) t124 t143 t146 w _ ?side1 ?side2 A36.out).mono ?_); (case side1 => repeat (first | (with_reducible first | exact HB.out | apply below_alloc | apply pw_below_drewN | apply below_drew1) | exact HB.out)); (case side2 => exact Kd.R_tight rfl HO126.out); rintro e w41 ⟨v144, rfl, ho0, hb, hkp⟩; refine ⟨_, rfl, ?_⟩; have HO145 := Aside0.mk (Kd.R_mono (ok' := fun k_ => True) ho0 (fun k_ hk_ => trivial)); replace HB := Aside0.mk (hb); clear HO126; (try clear hb); (try clear hkp); (try clear ho0)) | ((with_reducible refine gate_callee (f := 83) rfl ?_); refine gL (some 75) Tryd.func83 #[.slice A0 l0.length c0] ?_; (with_reducible refine (nat_Zeros.calls k _ _ l0 t147 _ ?side1 ?side2 A37.out).mono ?_); (case side1 => exact dC (Kd.C_below HR0.out HB.out)); (case side2 => exact HC0.out); rintro e w' ⟨rfl, ⟨nd, rfl⟩⟩; refine ⟨_, rfl, ?_⟩))
       go_ret3
       exact ⟨_, by first | rfl | (simp [errW_none, errW_some] <;> rfl) | (simp only [← hji7]; first | rfl | (simp [errW_none, errW_some] <;> rfl)) | (simp [*, errW_none, errW_some] <;> rfl), dR HO145.out, dB⟩
     ·rw [if_neg c9] at H
      exact absurd H (by simp)
    ·rw [if_neg c8] at H
     exact absurd H (by simp)

/-! ### nat_Word: function 45 -/
def nat_Word.f (k : Nat) (l0 : List Int) : Option (Int × Bool) := (nat_size.f k l0).bind fun t148 => (if t148 = 0 then (some (0, true)) else (if t148 = 1 then (if 0 < (l0.length : Int) then (some (rd l0 0, true)) else (none)) else (some (0, false))))
theorem nat_Word.mono : ∀ a0 k, LeO (nat_Word.f k a0) (nat_Word.f (k + 1) a0) := by
 intro a0 k
 unfold nat_Word.f
 repeat' first
   | (with_reducible exact nat_size.mono _ _)
   | (with_reducible exact LeO.refl _)
   | (with_reducible exact LeO.none _)
   | (with_reducible refine LeO.ite ?_ ?_)
   | (with_reducible refine LeO.bind ?_ (fun _ => ?_))
   | exact nat_size.mono _ _
   | exact LeO.none _
   | refine LeO.ite ?_ ?_
   | refine LeO.bind ?_ (fun _ => ?_)
set_option maxHeartbeats 8000000 in
set_option maxRecDepth 100000 in
theorem nat_Word.calls (k : Nat) (A0 : Option Addr) (c0 : Nat) (l0 : List Int) (r1 : Int) (r2 : Bool) (w : World) (hr0 : Kd.C (Kd.int .u64) w A0 l0.length l0) (hc0 : l0.length ≤ c0) (h : nat_Word.f k l0 = some (r1, r2)) :
  Calls Tryd.prog 45 #[.slice A0 l0.length c0] w fun e w' => e = .returned (.tuple #[.int .u64 r1, .bool r2]) ∧ Drawn0 w w' := by
 have HR0 := Aside0.mk hr0
 have HC0 := Aside0.mk hc0
 clear hr0 hc0
 have H : ((nat_size.f k l0).bind fun t148 => (if t148 = 0 then (some (0, true)) else (if t148 = 1 then (if 0 < (l0.length : Int) then (some (rd l0 0, true)) else (none)) else (some (0, false))))) = some (r1, r2) := h
 clear h
 replace H := obe H
 obtain ⟨t148, A20, H⟩ := H
 replace H : (if t148 = 0 then (some (0, true)) else (if t148 = 1 then (if 0 < (l0.length : Int) then (some (rd l0 0, true)) else (none)) else (some (0, false)))) = some (r1, r2) := H
 have A2 := Aside0.mk A20
 clear A20
 by_cases c3 : t148 = 0
 ·rw [if_pos c3] at H
  have c3b0 : (t148 == 0) = true := beq_iff_eq.mpr c3
  have c3b1 : (t148 != 0) = false := bne_eq_false_iff_eq.mpr c3
  clear c3
  simp only [Option.some.injEq, Prod.mk.injEq] at H
  obtain ⟨rfl, rfl⟩ := H
  go_enter Tryd.func45, Tryd.ntmps45
  go_wp2_with (first | ((with_reducible refine gate_callee (f := 54) rfl ?_); refine gL (some 5) Tryd.func54 #[.slice A0 l0.length c0] ?_; (with_reducible refine (nat_size.calls k _ _ l0 t148 _ ?side1 ?side2 A2.out).mono ?_); (case side1 => exact dC HR0.out); (case side2 => exact HC0.out); rintro e w' ⟨rfl, ⟨nd, rfl⟩⟩; refine ⟨_, rfl, ?_⟩))
  go_ret2
  exact ⟨by first | rfl | (simp; done) | (simp [*]; done), by repeat (first | exact Drawn0.refl _ | apply Drawn0.step)⟩
 ·rw [if_neg c3] at H
  have c3b0 : (t148 == 0) = false := beq_eq_false_iff_ne.mpr c3
  have c3b1 : (t148 != 0) = true := bne_iff_ne.mpr c3
  by_cases c4 : t148 = 1
  ·rw [if_pos c4] at H
   have c4b0 : (t148 == 1) = true := beq_iff_eq.mpr c4
   have c4b1 : (t148 != 1) = false := bne_eq_false_iff_eq.mpr c4
   clear c4
   by_cases c5 : (0 : Int) < (l0.length : Int)
   ·rw [if_pos c5] at H
    have c5b0 : decide (0 < (l0.length : Int)) = true := decide_eq_true c5
    have c5b1 : decide (0 < l0.length) = true := decide_eq_true (by omega)
    clear c5
    simp only [Option.some.injEq, Prod.mk.injEq] at H
    obtain ⟨rfl, rfl⟩ := H
    go_enter Tryd.func45, Tryd.ntmps45
    go_wp2_with (first | ((with_reducible refine gate_callee (f := 54) rfl ?_); refine gL (some 5) Tryd.func54 #[.slice A0 l0.length c0] ?_; (with_reducible refine (nat_size.calls k _ _ l0 t148 _ ?side1 ?side2 A2.out).mono ?_); (case side1 => exact dC HR0.out); (case side2 => exact HC0.out); rintro e w' ⟨rfl, ⟨nd, rfl⟩⟩; refine ⟨_, rfl, ?_⟩; have p149 : 0 ≤ (0 : Int) := (by omega); have q149 : 0 < (l0.length : Int) := of_decide_eq_true dS; obtain ⟨ad149, e149, hx149_0⟩ := Kd.at_int HR0.out 0 p149 q149; cases e149; have qi149 : (0 < l0.length) = True := eq_true (by omega); (try rw [show ((0 : Int)).toNat = 0 from rfl] at hx149_0); (try rw [Addr.add_zero'] at hx149_0); replace p149 := eq_true p149; replace q149 := eq_true q149))
    go_ret2
    exact ⟨by first | rfl | (simp; done) | (simp [*]; done), by repeat (first | exact Drawn0.refl _ | apply Drawn0.step)⟩
   ·rw [if_neg c5] at H
    exact absurd H (by simp)
  ·rw [if_neg c4] at H
   have c4b0 : (t148 == 1) = false := beq_eq_false_iff_ne.mpr c4
   have c4b1 : (t148 != 1) = true := bne_iff_ne.mpr c4
   simp only [Option.some.injEq, Prod.mk.injEq] at H
   obtain ⟨rfl, rfl⟩ := H
   go_enter Tryd.func45, Tryd.ntmps45
   go_wp2_with (first | ((with_reducible refine gate_callee (f := 54) rfl ?_); refine gL (some 5) Tryd.func54 #[.slice A0 l0.length c0] ?_; (with_reducible refine (nat_size.calls k _ _ l0 t148 _ ?side1 ?side2 A2.out).mono ?_); (case side1 => exact dC HR0.out); (case side2 => exact HC0.out); rintro e w' ⟨rfl, ⟨nd, rfl⟩⟩; refine ⟨_, rfl, ?_⟩))
   go_ret2
   exact ⟨by first | rfl | (simp; done) | (simp [*]; done), by repeat (first | exact Drawn0.refl _ | apply Drawn0.step)⟩

end Go.Proofs.YtoefabmlkbhmpaaDoor.PA

namespace Go.Proofs.YtoefabmlkbhmpaaDoor.PA
open Go.RowKit Go.Proofs.YtoefabmlkbhmpaaDoorW.PrintWords Go.Proofs.YtoefabmlkbhmpaaDoorW.PrintLast Go.Proofs.YtoefabmlkbhmpaaDoorW.PrintMore
attribute [local go_sem] max2_int min2_int max_two min_two max_three min_three max_four min_four   -- for this text's walks alone
set_option linter.unusedVariables false
set_option linter.unusedSimpArgs false

/-! ### near_Scaled: function 13 -/
def near_Scaled.f (k : Nat) (a0 : Bool) (l1 : List Int) (a2 : Int) (a3 : Bool) (a4 : Int) : Option (Int × Int) := (near_known.f a4).bind fun t155 => (if t155 = true then ((nat_Bits.f k l1).bind fun t156 => ((nat_Shr.f k l1 (mx (wrap64 (t156 - 64)) 0)).bind fun bt157 => ((nat_Word.f k bt157.1).bind fun bt162 => (if a3 = true then ((near_finish.f k a0 bt162.1 (wrap64 ((mn (mx a2 (-1099511627776)) 1099511627776) + (mx (wrap64 (t156 - 64)) 0))) true a4).bind fun bt164 => (some (bt164.1, bt164.2))) else ((near_finish.f k a0 bt162.1 (wrap64 ((mn (mx a2 (-1099511627776)) 1099511627776) + (mx (wrap64 (t156 - 64)) 0))) bt157.2.1 a4).bind fun bt166 => (some (bt166.1, bt166.2))))))) else (some (0, 71)))
theorem near_Scaled.mono : ∀ a0 a1 a2 a3 a4 k, LeO (near_Scaled.f k a0 a1 a2 a3 a4) (near_Scaled.f (k + 1) a0 a1 a2 a3 a4) := by
 intro a0 a1 a2 a3 a4 k
 unfold near_Scaled.f
 repeat' first
   | (with_reducible exact nat_Bits.mono _ _)
   | (with_reducible exact nat_Shr.mono _ _ _)
   | (with_reducible exact nat_Word.mono _ _)
   | (with_reducible exact near_finish.mono _ _ _ _ _ _)
   | (with_reducible exact LeO.refl _)
   | (with_reducible exact LeO.none _)
   | (with_reducible refine LeO.ite ?_ ?_)
   | (with_reducible refine LeO.bind ?_ (fun _ => ?_))
   | exact nat_Bits.mono _ _
   | exact nat_Shr.mono _ _ _
   | exact nat_Word.mono _ _
   | exact near_finish.mono _ _ _ _ _ _
   | exact LeO.none _
   | refine LeO.ite ?_ ?_
   | refine LeO.bind ?_ (fun _ => ?_)
set_option maxHeartbeats 8000000 in
set_option maxRecDepth 100000 in
theorem near_Scaled.calls (k : Nat) (a0 : Bool) (A1 : Option Addr) (c1 : Nat) (l1 : List Int) (a2 : Int) (a3 : Bool) (a4 : Int) (r1 : Int) (r2 : Int) (w : World) (hr1 : Kd.C (Kd.int .u64) w A1 l1.length l1) (hc1 : l1.length ≤ c1) (h : near_Scaled.f k a0 l1 a2 a3 a4 = some (r1, r2)) (hS : StaysLaid w := by first | exact HS.out | exact hS | exact StaysLaid.below HS.out HB.out | exact StaysLaid.below HS.out dB) :
  Calls Tryd.prog 13 #[.bool a0, .slice A1 l1.length c1, .int .i64 a2, .bool a3, .int .i64 a4] w fun e w' => e = .returned (.tuple #[.int .u64 r1, .int .i64 r2]) ∧ Below w.heap.size w w' := by
 have HS := Aside0.mk (show StaysLaid w from hS)
 clear hS
 have HR1 := Aside0.mk hr1
 have HC1 := Aside0.mk hc1
 clear hr1 hc1
 have HB := Aside0.mk (Below.refl w.heap.size w)
 have H : ((near_known.f a4).bind fun t155 => (if t155 = true then ((nat_Bits.f k l1).bind fun t156 => ((nat_Shr.f k l1 (mx (wrap64 (t156 - 64)) 0)).bind fun bt157 => ((nat_Word.f k bt157.1).bind fun bt162 => (if a3 = true then ((near_finish.f k a0 bt162.1 (wrap64 ((mn (mx a2 (-1099511627776)) 1099511627776) + (mx (wrap64 (t156 - 64)) 0))) true a4).bind fun bt164 => (some (bt164.1, bt164.2))) else ((near_finish.f k a0 bt162.1 (wrap64 ((mn (mx a2 (-1099511627776)) 1099511627776) + (mx (wrap64 (t156 - 64)) 0))) bt157.2.1 a4).bind fun bt166 => (some (bt166.1, bt166.2))))))) else (some (0, 71)))) = some (r1, r2) := h
 clear h
 replace H := obe H
 obtain ⟨t155, A60, H⟩ := H
 replace H : (if t155 = true then ((nat_Bits.f k l1).bind fun t156 => ((nat_Shr.f k l1 (mx (wrap64 (t156 - 64)) 0)).bind fun bt157 => ((nat_Word.f k bt157.1).bind fun bt162 => (if a3 = true then ((near_finish.f k a0 bt162.1 (wrap64 ((mn (mx a2 (-1099511627776)) 1099511627776) + (mx (wrap64 (t156 - 64)) 0))) true a4).bind fun bt164 => (some (bt164.1, bt164.2))) else ((near_finish.f k a0 bt162.1 (wrap64 ((mn (mx a2 (-1099511627776)) 1099511627776) + (mx (wrap64 (t156 - 64)) 0))) bt157.2.1 a4).bind fun bt166 => (some (bt166.1, bt166.2))))))) else (some (0, 71))) = some (r1, r2) := H
 have A6 := Aside0.mk A60
 clear A60
 by_cases c7 : t155 = true
 ·subst c7
  have H1 : ((nat_Bits.f k l1).bind fun t156 => ((nat_Shr.f k l1 (mx (wrap64 (t156 - 64)) 0)).bind fun bt157 => ((nat_Word.f k bt157.1).bind fun bt162 => (if a3 = true then ((near_finish.f k a0 bt162.1 (wrap64 ((mn (mx a2 (-1099511627776)) 1099511627776) + (mx (wrap64 (t156 - 64)) 0))) true a4).bind fun bt164 => (some (bt164.1, bt164.2))) else ((near_finish.f k a0 bt162.1 (wrap64 ((mn (mx a2 (-1099511627776)) 1099511627776) + (mx (wrap64 (t156 - 64)) 0))) bt157.2.1 a4).bind fun bt166 => (some (bt166.1, bt166.2))))))) = some (r1, r2) := by rw [if_pos rfl] at H; exact H
  clear H
  have H := H1
  clear H1
  replace H := obe H
  obtain ⟨t156, A80, H⟩ := H
  replace H : ((nat_Shr.f k l1 (mx (wrap64 (t156 - 64)) 0)).bind fun bt157 => ((nat_Word.f k bt157.1).bind fun bt162 => (if a3 = true then ((near_finish.f k a0 bt162.1 (wrap64 ((mn (mx a2 (-1099511627776)) 1099511627776) + (mx (wrap64 (t156 - 64)) 0))) true a4).bind fun bt164 => (some (bt164.1, bt164.2))) else ((near_finish.f k a0 bt162.1 (wrap64 ((mn (mx a2 (-1099511627776)) 1099511627776) + (mx (wrap64 (t156 - 64)) 0))) bt157.2.1 a4).bind fun bt166 => (some (bt166.1, bt166.2)))))) = some (r1, r2) := H
  have A8 := Aside0.mk A80
  clear A80
  obtain ⟨ji9, hji9⟩ : ∃ j_ : Int, (mx (wrap64 (t156 - 64)) 0) = j_ := ⟨_, rfl⟩
  replace H : ((nat_Shr.f k l1 (ji9)).bind fun bt157 => ((nat_Word.f k bt157.1).bind fun bt162 => (if a3 = true then ((near_finish.f k a0 bt162.1 (wrap64 ((mn (mx a2 (-1099511627776)) 1099511627776) + (ji9))) true a4).bind fun bt164 => (some (bt164.1, bt164.2))) else ((near_finish.f k a0 bt162.1 (wrap64 ((mn (mx a2 (-1099511627776)) 1099511627776) + (ji9))) bt157.2.1 a4).bind fun bt166 => (some (bt166.1, bt166.2)))))) = some (r1, r2) := by first | (rw [hji9] at H; exact H) | (simp only [hji9] at H ⊢; exact H)
  (try rw [hji9] at A6)
  (try rw [hji9] at A8)
  (try (have hji9l : 0 ≤ ji9 := by (rw [← hji9]; unfold mx; (repeat' split) <;> omega)))
  (try (have hji9m : 0 ≤ ji9 := by omega))
  have hji9_ : (if (wrap64 (t156 - 64)) < 0 then 0 else (wrap64 (t156 - 64))) = ji9 := hji9
  replace H := obe H
  obtain ⟨⟨t157, t158, t159⟩, A100, H⟩ := H
  replace H : ((nat_Word.f k t157).bind fun bt162 => (if a3 = true then ((near_finish.f k a0 bt162.1 (wrap64 ((mn (mx a2 (-1099511627776)) 1099511627776) + (ji9))) true a4).bind fun bt164 => (some (bt164.1, bt164.2))) else ((near_finish.f k a0 bt162.1 (wrap64 ((mn (mx a2 (-1099511627776)) 1099511627776) + (ji9))) t158 a4).bind fun bt166 => (some (bt166.1, bt166.2))))) = some (r1, r2) := H
  have A10 := Aside0.mk A100
  clear A100
  replace H := obe H
  obtain ⟨⟨t162, t163⟩, A110, H⟩ := H
  replace H : (if a3 = true then ((near_finish.f k a0 t162 (wrap64 ((mn (mx a2 (-1099511627776)) 1099511627776) + (ji9))) true a4).bind fun bt164 => (some (bt164.1, bt164.2))) else ((near_finish.f k a0 t162 (wrap64 ((mn (mx a2 (-1099511627776)) 1099511627776) + (ji9))) t158 a4).bind fun bt166 => (some (bt166.1, bt166.2)))) = some (r1, r2) := H
  have A11 := Aside0.mk A110
  clear A110
  obtain ⟨ji12, hji12⟩ : ∃ j_ : Int, (mx a2 (-1099511627776)) = j_ := ⟨_, rfl⟩
  replace H : (if a3 = true then ((near_finish.f k a0 t162 (wrap64 ((mn (ji12) 1099511627776) + (ji9))) true a4).bind fun bt164 => (some (bt164.1, bt164.2))) else ((near_finish.f k a0 t162 (wrap64 ((mn (ji12) 1099511627776) + (ji9))) t158 a4).bind fun bt166 => (some (bt166.1, bt166.2)))) = some (r1, r2) := by first | (rw [hji12] at H; exact H) | (simp only [hji12] at H ⊢; exact H)
  (try rw [hji12] at A6)
  (try rw [hji12] at A8)
  (try rw [hji12] at A10)
  (try rw [hji12] at A11)
  have hji12_ : (if a2 < (-1099511627776) then (-1099511627776) else a2) = ji12 := hji12
  obtain ⟨ji13, hji13⟩ : ∃ j_ : Int, (mn (ji12) 1099511627776) = j_ := ⟨_, rfl⟩
  replace H : (if a3 = true then ((near_finish.f k a0 t162 (wrap64 ((ji13) + (ji9))) true a4).bind fun bt164 => (some (bt164.1, bt164.2))) else ((near_finish.f k a0 t162 (wrap64 ((ji13) + (ji9))) t158 a4).bind fun bt166 => (some (bt166.1, bt166.2)))) = some (r1, r2) := by first | (rw [hji13] at H; exact H) | (simp only [hji13] at H ⊢; exact H)
  (try rw [hji13] at A6)
  (try rw [hji13] at A8)
  (try rw [hji13] at A10)
  (try rw [hji13] at A11)
  have hji13_ : (if 1099511627776 < (ji12) then 1099511627776 else (ji12)) = ji13 := hji13
  by_cases c14 : a3 = true
  ·subst c14
   have H1 : ((near_finish.f k a0 t162 (wrap64 ((ji13) + (ji9))) true a4).bind fun bt164 => (some (bt164.1, bt164.2))) = some (r1, r2) := by rw [if_pos rfl] at H; exact H
   clear H
   have H := H1
   clear H1
   replace H := obe H
   obtain ⟨⟨t164, t165⟩, A150, H⟩ := H
   replace H : (some (t164, t165)) = some (r1, r2) := H
   have A15 := Aside0.mk A150
   clear A150
   simp only [Option.some.injEq, Prod.mk.injEq] at H
   obtain ⟨rfl, rfl⟩ := H
   go_enter Tryd.func13, Tryd.ntmps13
   go_wp2_with (first | ((with_reducible refine gate_callee (f := 42) rfl ?_); refine gL (some 19) Tryd.func42 #[.int .i64 a4] ?_; (with_reducible refine (near_known.calls a4 true _ A6.out).mono ?_); rintro e w' ⟨rfl, ⟨nd, rfl⟩⟩; refine ⟨_, rfl, ?_⟩) | ((with_reducible refine gate_callee (f := 43) rfl ?_); refine gL (some 22) Tryd.func43 #[.slice A1 l1.length c1] ?_; (with_reducible refine (nat_Bits.calls k _ _ l1 t156 _ ?side1 ?side2 A8.out).mono ?_); (case side1 => exact dC HR1.out); (case side2 => exact HC1.out); rintro e w' ⟨rfl, ⟨nd, rfl⟩⟩; refine ⟨_, rfl, ?_⟩) | ((with_reducible refine gate_callee (f := 44) rfl ?_); refine goesL_ (some 28) rfl rfl Tryd.func44 (by kernel_rfl) rfl #[.slice A1 l1.length c1, .int .i64 ji9] rfl (by (try simp only [List.map_toArray, List.map_cons, List.map_nil]); first | done | (simp only [hji9]; rfl) | rfl | (simp only [List.length_drop, List.length_take]; rfl)) ?_; (with_reducible refine (nat_Shr.calls k _ _ l1 ji9 t157 t158 t159 _ ?side1 ?side2 A10.out).mono ?_); (case side1 => exact dC HR1.out); (case side2 => exact HC1.out); rintro e w16 ⟨v160, rfl, ho0, hb⟩; refine ⟨_, rfl, ?_⟩; have HO161 := Aside0.mk (Kd.R_lower ho0 (below_size dB)); replace HB := Aside0.mk (below_step dB hb); (try clear hb); (try clear ho0); obtain ⟨Ao17, co17, eo17⟩ := Kd.R_slice HO161.out; subst eo17) | ((with_reducible refine gate_callee (f := 45) rfl ?_); refine gL (some 34) Tryd.func45 #[.slice Ao17 t157.length co17] ?_; (with_reducible refine (nat_Word.calls k _ _ t157 t162 t163 _ ?side1 ?side2 A11.out).mono ?_); (case side1 => exact dC (Kd.R_reads' HO161.out).2.2); (case side2 => exact (Kd.R_reads' HO161.out).2.1); rintro e w' ⟨rfl, ⟨nd, rfl⟩⟩; refine ⟨_, rfl, ?_⟩) | ((with_reducible refine gate_callee (f := 46) rfl ?_); refine goesL_ (some 50) rfl rfl Tryd.func46 (by kernel_rfl) rfl #[.bool a0, .int .u64 t162, .int .i64 (wrap64 ((ji13) + (ji9))), .bool true, .int .i64 a4] rfl (by (try simp only [List.map_toArray, List.map_cons, List.map_nil]); first | done | (simp only [hji13, hji9]; rfl) | rfl | (simp only [List.length_drop, List.length_take]; rfl)) ?_; (with_reducible refine (near_finish.calls k a0 t162 (wrap64 ((ji13) + (ji9))) true a4 t164 t165 _ A15.out).mono ?_); rintro e w18 ⟨rfl, hb⟩; refine ⟨_, rfl, ?_⟩; replace HO161 := Aside0.mk (Kd.R_below (dR HO161.out) hb); replace HB := Aside0.mk (below_step dB hb); (try clear hb)))
   go_ret2
   exact ⟨by first | rfl | (simp [errW_none, errW_some] <;> rfl) | (simp only [← hji9, ← hji12, ← hji13]; first | rfl | (simp [errW_none, errW_some] <;> rfl)) | (simp [*, errW_none, errW_some] <;> rfl), dB⟩
  ·replace c14 := Bool.eq_false_iff.mpr c14
   subst c14
   have H1 : ((near_finish.f k a0 t162 (wrap64 ((ji13) + (ji9))) t158 a4).bind fun bt166 => (some (bt166.1, bt166.2))) = some (r1, r2) := by rw [if_neg (show ¬ (false = true) by decide)] at H; exact H
   clear H
   have H := H1
   clear H1
   replace H := obe H
   obtain ⟨⟨t166, t167⟩, A190, H⟩ := H
   replace H : (some (t166, t167)) = some (r1, r2) := H
   have A19 := Aside0.mk A190
   clear A190
   simp only [Option.some.injEq, Prod.mk.injEq] at H
   obtain ⟨rfl, rfl⟩ := H
   go_enter Tryd.func13, Tryd.ntmps13
   go_wp2_with (first | ((with_reducible refine gate_callee (f := 42) rfl ?_); refine gL (some 19) Tryd.func42 #[.int .i64 a4] ?_; (with_reducible refine (near_known.calls a4 true _ A6.out).mono ?_); rintro e w' ⟨rfl, ⟨nd, rfl⟩⟩; refine ⟨_, rfl, ?_⟩) | ((with_reducible refine gate_callee (f := 43) rfl ?_); refine gL (some 22) Tryd.func43 #[.slice A1 l1.length c1] ?_; (with_reducible refine (nat_Bits.calls k _ _ l1 t156 _ ?side1 ?side2 A8.out).mono ?_); (case side1 => exact dC HR1.out); (case side2 => exact HC1.out); rintro e w' ⟨rfl, ⟨nd, rfl⟩⟩; refine ⟨_, rfl, ?_⟩) | ((with_reducible refine gate_callee (f := 44) rfl ?_); refine goesL_ (some 28) rfl rfl Tryd.func44 (by kernel_rfl) rfl #[.slice A1 l1.length c1, .int .i64 ji9] rfl (by (try simp only [List.map_toArray, List.map_cons, List.map_nil]); first | done | (simp only [hji9]; rfl) | rfl | (simp only [List.length_drop, List.length_take]; rfl)) ?_; (with_reducible refine (nat_Shr.calls k _ _ l1 ji9 t157 t158 t159 _ ?side1 ?side2 A10.out).mono ?_); (case side1 => exact dC HR1.out); (case side2 => exact HC1.out); rintro e w20 ⟨v160, rfl, ho0, hb⟩; refine ⟨_, rfl, ?_⟩; have HO161 := Aside0.mk (Kd.R_lower ho0 (below_size dB)); replace HB := Aside0.mk (below_step dB hb); (try clear hb); (try clear ho0); obtain ⟨Ao21, co21, eo21⟩ := Kd.R_slice HO161.out; subst eo21) | ((with_reducible refine gate_callee (f := 45) rfl ?_); refine gL (some 34) Tryd.func45 #[.slice Ao21 t157.length co21] ?_; (with_reducible refine (nat_Word.calls k _ _ t157 t162 t163 _ ?side1 ?side2 A11.out).mono ?_); (case side1 => exact dC (Kd.R_reads' HO161.out).2.2); (case side2 => exact (Kd.R_reads' HO161.out).2.1); rintro e w' ⟨rfl, ⟨nd, rfl⟩⟩; refine ⟨_, rfl, ?_⟩) | ((with_reducible refine gate_callee (f := 46) rfl ?_); refine goesL_ (some 50) rfl rfl Tryd.func46 (by kernel_rfl) rfl #[.bool a0, .int .u64 t162, .int .i64 (wrap64 ((ji13) + (ji9))), .bool t158, .int .i64 a4] rfl (by (try simp only [List.map_toArray, List.map_cons, List.map_nil]); first | done | (simp only [hji13, hji9]; rfl) | rfl | (simp only [List.length_drop, List.length_take]; rfl)) ?_; (with_reducible refine (near_finish.calls k a0 t162 (wrap64 ((ji13) + (ji9))) t158 a4 t166 t167 _ A19.out).mono ?_); rintro e w22 ⟨rfl, hb⟩; refine ⟨_, rfl, ?_⟩; replace HO161 := Aside0.mk (Kd.R_below (dR HO161.out) hb); replace HB := Aside0.mk (below_step dB hb); (try clear hb)))
   go_ret2
   exact ⟨by first | rfl | (simp [errW_none, errW_some] <;> rfl) | (simp only [← hji9, ← hji12, ← hji13]; first | rfl | (simp [errW_none, errW_some] <;> rfl)) | (simp [*, errW_none, errW_some] <;> rfl), dB⟩
 ·replace c7 := Bool.eq_false_iff.mpr c7
  subst c7
  have H1 : (some (0, 71)) = some (r1, r2) := by rw [if_neg (show ¬ (false = true) by decide)] at H; exact H
  clear H
  have H := H1
  clear H1
  simp only [Option.some.injEq, Prod.mk.injEq] at H
  obtain ⟨rfl, rfl⟩ := H
  go_enter Tryd.func13, Tryd.ntmps13
  go_wp2_with (first | ((with_reducible refine gate_callee (f := 42) rfl ?_); refine gL (some 19) Tryd.func42 #[.int .i64 a4] ?_; (with_reducible refine (near_known.calls a4 false _ A6.out).mono ?_); rintro e w' ⟨rfl, ⟨nd, rfl⟩⟩; refine ⟨_, rfl, ?_⟩))
  go_ret2
  exact ⟨dE, dB⟩

end Go.Proofs.YtoefabmlkbhmpaaDoor.PA

namespace Go.Proofs.YtoefabmlkbhmpaaDoor.PA
open Go.RowKit Go.Proofs.YtoefabmlkbhmpaaDoorW.PrintWords Go.Proofs.YtoefabmlkbhmpaaDoorW.PrintLast Go.Proofs.YtoefabmlkbhmpaaDoorW.PrintMore
attribute [local go_sem] max2_int min2_int max_two min_two max_three min_three max_four min_four   -- for this text's walks alone
set_option linter.unusedVariables false
set_option linter.unusedSimpArgs false

/-! ### plumbref03_Norm: function 47 -/
mutual
def plumbref03_Norm.j1 : Nat → List Int → Int → Option (List Int)
 | 0, _, _ => none
 | k + 1, x0, x3 => plumbref03_Norm.l1 k x0 x3 ([] : List Int) 0
def plumbref03_Norm.l1 : Nat → List Int → Int → List Int → Int → Option (List Int)
 | 0, _, _, _, _ => none
 | k + 1, x0, x3, x4, x5 => if x5 < x3 then (if 0 ≤ x5 then (if x5 < (x0.length : Int) then (if x4.length < 17592186044416 then (plumbref03_Norm.l1 k x0 x3 (x4 ++ [rd x0 x5]) (wrap64 (x5 + 1))) else (none)) else (none)) else (none)) else (some x4)
def plumbref03_Norm.l0 : Nat → List Int → Int → Option (List Int)
 | 0, _, _ => none
 | k + 1, x0, x3 => if x3 > 0 then (if 0 ≤ (wrap64 (x3 - 1)) then (if (wrap64 (x3 - 1)) < (x0.length : Int) then (if (rd x0 (wrap64 (x3 - 1))) = 0 then (plumbref03_Norm.l0 k x0 (wrap64 (x3 - 1))) else (plumbref03_Norm.j1 k x0 x3)) else (none)) else (none)) else (plumbref03_Norm.j1 k x0 x3)
end
def plumbref03_Norm.f (k : Nat) (l0 : List Int) : Option (List Int) := plumbref03_Norm.l0 k l0 (l0.length : Int)
theorem plumbref03_Norm.mono_l : ∀ k, (∀ y0 y1, LeO (plumbref03_Norm.j1 k y0 y1) (plumbref03_Norm.j1 (k + 1) y0 y1)) ∧ (∀ y0 y1 y2 y3, LeO (plumbref03_Norm.l1 k y0 y1 y2 y3) (plumbref03_Norm.l1 (k + 1) y0 y1 y2 y3)) ∧ (∀ y0 y1, LeO (plumbref03_Norm.l0 k y0 y1) (plumbref03_Norm.l0 (k + 1) y0 y1))
 | 0 => ⟨fun _ _ r h => by simp [plumbref03_Norm.j1] at h, fun _ _ _ _ r h => by simp [plumbref03_Norm.l1] at h, fun _ _ r h => by simp [plumbref03_Norm.l0] at h⟩
 | k + 1 => by
  obtain ⟨ih0, ih1, ih2⟩ := plumbref03_Norm.mono_l k
  refine ⟨?_, ?_, ?_⟩
  ·intro y0 y1
   unfold plumbref03_Norm.j1
   repeat' first
   | (with_reducible exact ih0 _ _)
   | (with_reducible exact ih1 _ _ _ _)
   | (with_reducible exact ih2 _ _)
   | (with_reducible exact LeO.refl _)
   | (with_reducible exact LeO.none _)
   | (with_reducible refine LeO.ite ?_ ?_)
   | (with_reducible refine LeO.bind ?_ (fun _ => ?_))
   | exact ih0 _ _
   | exact ih1 _ _ _ _
   | exact ih2 _ _
   | exact LeO.none _
   | refine LeO.ite ?_ ?_
   | refine LeO.bind ?_ (fun _ => ?_)
  ·intro y0 y1 y2 y3
   unfold plumbref03_Norm.l1
   repeat' first
   | (with_reducible exact ih0 _ _)
   | (with_reducible exact ih1 _ _ _ _)
   | (with_reducible exact ih2 _ _)
   | (with_reducible exact LeO.refl _)
   | (with_reducible exact LeO.none _)
   | (with_reducible refine LeO.ite ?_ ?_)
   | (with_reducible refine LeO.bind ?_ (fun _ => ?_))
   | exact ih0 _ _
   | exact ih1 _ _ _ _
   | exact ih2 _ _
   | exact LeO.none _
   | refine LeO.ite ?_ ?_
   | refine LeO.bind ?_ (fun _ => ?_)
  ·intro y0 y1
   unfold plumbref03_Norm.l0
   repeat' first
   | (with_reducible exact ih0 _ _)
   | (with_reducible exact ih1 _ _ _ _)
   | (with_reducible exact ih2 _ _)
   | (with_reducible exact LeO.refl _)
   | (with_reducible exact LeO.none _)
   | (with_reducible refine LeO.ite ?_ ?_)
   | (with_reducible refine LeO.bind ?_ (fun _ => ?_))
   | exact ih0 _ _
   | exact ih1 _ _ _ _
   | exact ih2 _ _
   | exact LeO.none _
   | refine LeO.ite ?_ ?_
   | refine LeO.bind ?_ (fun _ => ?_)
theorem plumbref03_Norm.mono : ∀ a0 k, LeO (plumbref03_Norm.f k a0) (plumbref03_Norm.f (k + 1) a0) := by
 intro a0 k
 obtain ⟨ih0, ih1, ih2⟩ := plumbref03_Norm.mono_l k
 unfold plumbref03_Norm.f
 repeat' first
   | (with_reducible exact ih0 _ _)
   | (with_reducible exact ih1 _ _ _ _)
   | (with_reducible exact ih2 _ _)
   | (with_reducible exact LeO.refl _)
   | (with_reducible exact LeO.none _)
   | (with_reducible refine LeO.ite ?_ ?_)
   | (with_reducible refine LeO.bind ?_ (fun _ => ?_))
   | exact ih0 _ _
   | exact ih1 _ _ _ _
   | exact ih2 _ _
   | exact LeO.none _
   | refine LeO.ite ?_ ?_
   | refine LeO.bind ?_ (fun _ => ?_)
set_option maxHeartbeats 8000000 in
set_option maxRecDepth 100000 in
theorem plumbref03_Norm.calls (k : Nat) (A0 : Option Addr) (c0 : Nat) (l0 : List Int) (r : List Int) (w : World) (hr0 : Kd.C (Kd.int .u64) w A0 l0.length l0) (hc0 : l0.length ≤ c0) (h : plumbref03_Norm.f k l0 = some r) :
  Calls Tryd.prog 47 #[.slice A0 l0.length c0] w fun e w' => ∃ v0_ : Value, e = .returned (v0_) ∧ Kd.R (Kd.int .u64) 26 w' w.heap.size (fun _ => True) v0_ r ∧ Below w.heap.size w w' := by
 have HR0 := Aside0.mk hr0
 have HC0 := Aside0.mk hc0
 clear hr0 hc0
 have HB := Aside0.mk (Below.refl w.heap.size w)
 have H : (plumbref03_Norm.l0 k l0 (l0.length : Int)) = some r := h
 clear h
 have HC2 := Aside0.mk H
 clear H
 go_enter Tryd.func47, Tryd.ntmps47
 go_upto_block 0 with (fail)
 go_cut [3] (fun v3 wc => ∃ (kq : Nat) (x3_1 : Int), v3 = .int .i64 x3_1 ∧ Aside0 (plumbref03_Norm.j1 kq l0 x3_1 = some r) ∧ Aside0 (kq ≤ k) ∧ Aside0 (Below w.heap.size w wc))
 case first =>
  have H := HC2.out
  clear HC2
  have H' := Aside0.mk H
  clear H
  go_wp2
  go_loopg [3] k (fun kq v3 w' => ∃ (x3_1 : Int), v3 = .int .i64 x3_1 ∧ Aside0 (plumbref03_Norm.l0 kq l0 x3_1 = some r) ∧ Aside0 (kq ≤ k) ∧ Aside0 (Below w.heap.size w w'))
  case atStart => exact ⟨((l0.length : Int)), dF, H', ⟨Nat.le_refl _⟩, ⟨dB⟩⟩
  case round =>
   clear H'
   try clear p2
   obtain ⟨x3_1, rfl, HA, HK1, HB⟩ := hrel
   cases gk with
   | zero => exact absurd HA.out (by simp [plumbref03_Norm.l0])
   | succ k1 =>
    have H := HA.out
    clear HA
    simp only [plumbref03_Norm.l0] at H
    by_cases c3 : x3_1 > 0
    ·rw [if_pos c3] at H
     have c3b0 : decide (0 < x3_1) = true := decide_eq_true c3
     clear c3
     (first | rw [c3b0] | (simp only [i64_w, i32_w]; rw [c3b0]) | skip)
     obtain ⟨ji4, hji4⟩ : ∃ j_ : Int, (wrap64 (x3_1 - 1)) = j_ := ⟨_, rfl⟩
     replace H : (if 0 ≤ (ji4) then (if (ji4) < (l0.length : Int) then (if (rd l0 (ji4)) = 0 then (plumbref03_Norm.l0 k1 l0 ji4) else (plumbref03_Norm.j1 k1 l0 x3_1)) else (none)) else (none)) = some r := by first | (rw [hji4] at H; exact H) | (simp only [hji4] at H ⊢; exact H)
     have hji4w : (IntKind.i64.wrap (x3_1 - 1)) = ji4 := (i64_w _).trans hji4
     by_cases c5 : (0 : Int) ≤ (ji4)
     ·rw [if_pos c5] at H
      have c5b0 : decide (0 ≤ (ji4)) = true := decide_eq_true c5
      clear c5
      by_cases c6 : (ji4) < (l0.length : Int)
      ·rw [if_pos c6] at H
       have c6b0 : decide ((ji4) < (l0.length : Int)) = true := decide_eq_true c6
       clear c6
       by_cases c7 : (rd l0 (ji4)) = 0
       ·rw [if_pos c7] at H
        have c7b0 : ((rd l0 (ji4)) == 0) = true := beq_iff_eq.mpr c7
        have c7b1 : ((rd l0 (ji4)) != 0) = false := bne_eq_false_iff_eq.mpr c7
        clear c7
        have H' := Aside0.mk H
        clear H
        have p168 : 0 ≤ ((ji4) : Int) := of_decide_eq_true dS
        have q168 : (ji4) < (l0.length : Int) := of_decide_eq_true dS
        obtain ⟨ad168, e168, hx168_0⟩ := Kd.at_int HR0.out (ji4) p168 q168
        cases e168
        replace hx168_0 := (HB.out.cell (World.block_lt_of_cell? w _ hx168_0)).trans hx168_0
        replace p168 := eq_true p168
        replace q168 := eq_true q168
        go_wp2
        go_roundg k1
        case measure => have := HK1.out; omega
        case rel => exact ⟨(ji4), (by first | rfl | (simp; done) | (simp only [← hji4] <;> (first | rfl | simp)) | (simp [*]; done)), H', ⟨by have := HK1.out; omega⟩, ⟨dB⟩⟩
       ·rw [if_neg c7] at H
        have c7b0 : ((rd l0 (ji4)) == 0) = false := beq_eq_false_iff_ne.mpr c7
        have c7b1 : ((rd l0 (ji4)) != 0) = true := bne_iff_ne.mpr c7
        have H' := Aside0.mk H
        clear H
        have p168 : 0 ≤ ((ji4) : Int) := of_decide_eq_true dS
        have q168 : (ji4) < (l0.length : Int) := of_decide_eq_true dS
        obtain ⟨ad168, e168, hx168_0⟩ := Kd.at_int HR0.out (ji4) p168 q168
        cases e168
        replace hx168_0 := (HB.out.cell (World.block_lt_of_cell? w _ hx168_0)).trans hx168_0
        replace p168 := eq_true p168
        replace q168 := eq_true q168
        go_wp2
        go_meet
        case rel => exact ⟨_, (x3_1), dF, H', ⟨by have := HK1.out; first | omega | exact Nat.le_refl _⟩, ⟨dB⟩⟩
      ·rw [if_neg c6] at H
       exact absurd H (by simp)
     ·rw [if_neg c5] at H
      exact absurd H (by simp)
    ·rw [if_neg c3] at H
     have c3b0 : decide (0 < x3_1) = false := decide_eq_false c3
     clear c3
     (first | rw [c3b0] | (simp only [i64_w, i32_w]; rw [c3b0]) | skip)
     have H' := Aside0.mk H
     clear H
     go_wp2
     go_meet
     case rel => exact ⟨_, (x3_1), dF, H', ⟨by have := HK1.out; first | omega | exact Nat.le_refl _⟩, ⟨dB⟩⟩
 case rest =>
  clear HC2
  try clear p1
  try clear q1
  try clear hx1
  try clear p2
  try clear c3
  try clear c3b0
  try clear c4
  try clear c5
  try clear c5b0
  try clear c6
  try clear c6b0
  try clear p6
  try clear c7
  try clear c7b0
  try clear c7b1
  try clear hx168_0
  try clear p168
  try clear p2
  try clear q168
  obtain ⟨kq, x3_1, rfl, HA, HJ1, HB⟩ := hcut
  cases kq with
  | zero => exact absurd HA.out (by simp [plumbref03_Norm.j1])
  | succ kj1 =>
   have H := HA.out
   clear HA
   simp only [plumbref03_Norm.j1] at H
   have H' := Aside0.mk H
   clear H
   go_wp2
   go_loopg [4, 5] kj1 (fun kq v4 v5 w' => ∃ (x4_2 : List Int) (x5_2 : Int), v5 = .int .i64 x5_2 ∧ Aside0 (plumbref03_Norm.l1 kq l0 x3_1 x4_2 x5_2 = some r) ∧ Aside0 (kq ≤ kj1) ∧ Aside0 (Kd.R (Kd.int .u64) 26 w' w.heap.size (fun _ => True) v4 x4_2) ∧ Aside0 (Below w.heap.size w w'))
   case atStart => exact ⟨(([] : List Int)), (0), dF, H', ⟨Nat.le_refl _⟩, ⟨by first | exact Kd.R_nil _ _ _ _ _ | exact Kd.N_nil _ _ _ _ _ | exact Kd.V_nil _ _ _ _ _ | exact Kd.Q_nil _ _ _ _ _ | exact Kd.S_nil _ _ _ _ _⟩, ⟨dB⟩⟩
   case round =>
    clear H'
    try clear p1
    try clear q1
    try clear hx1
    try clear p2
    try clear c3
    try clear c3b0
    try clear c4
    try clear c5
    try clear c5b0
    try clear c6
    try clear c6b0
    try clear p6
    try clear c7
    try clear c7b0
    try clear c7b1
    try clear hx168_0
    try clear p1
    try clear p168
    try clear p2
    try clear p6
    try clear q1
    try clear q168
    obtain ⟨x4_2, x5_2, rfl, HA, HK2, HO_4, HB⟩ := hrel
    cases gk with
    | zero => exact absurd HA.out (by simp [plumbref03_Norm.l1])
    | succ k2 =>
     have H := HA.out
     clear HA
     simp only [plumbref03_Norm.l1] at H
     by_cases c8 : x5_2 < x3_1
     ·rw [if_pos c8] at H
      have c8b0 : decide (x5_2 < x3_1) = true := decide_eq_true c8
      clear c8
      by_cases c9 : (0 : Int) ≤ x5_2
      ·rw [if_pos c9] at H
       have c9b0 : decide (0 ≤ x5_2) = true := decide_eq_true c9
       clear c9
       by_cases c10 : x5_2 < (l0.length : Int)
       ·rw [if_pos c10] at H
        have c10b0 : decide (x5_2 < (l0.length : Int)) = true := decide_eq_true c10
        clear c10
        by_cases c11 : x4_2.length < 17592186044416
        ·rw [if_pos c11] at H
         have LMc11 := Aside0.mk c11
         clear c11
         obtain ⟨y170, hy170⟩ : ∃ y_ : List Int, y_ = (x4_2 ++ [rd l0 x5_2]) := ⟨_, rfl⟩
         replace H : (plumbref03_Norm.l1 k2 l0 x3_1 y170 (wrap64 (x5_2 + 1))) = some r := by first | (rw [hy170]; with_reducible exact H) | (have H2_ := (Option.bind_some _ _).symm.trans H; rw [hy170]; with_reducible exact H2_) | (have H2_ := (Option.bind_some _ _).symm.trans H; with_reducible exact H2_) | with_reducible exact H | (rw [hy170]; exact H) | exact H
         have Ny170 := Aside0.mk hy170
         clear hy170
         have H' := Aside0.mk H
         clear H
         have p169 : 0 ≤ (x5_2 : Int) := of_decide_eq_true dS
         have q169 : x5_2 < (l0.length : Int) := of_decide_eq_true dS
         obtain ⟨ad169, e169, hx169_0⟩ := Kd.at_int HR0.out x5_2 p169 q169
         cases e169
         replace hx169_0 := (HB.out.cell (World.block_lt_of_cell? w _ hx169_0)).trans hx169_0
         replace p169 := eq_true p169
         replace q169 := eq_true q169
         go_wp2_with (first | ((with_reducible refine gate_builtin (b := .append) (xs := #[.tmp 25, .tmp 30]) rfl ?_); at_builtin; refine Kd.R_append (Kd.int .u64) (w0 := w) w.heap.size rfl (.tmp 25) (.tmp 30) 22 26 (.int .u64 0) 8 rfl Tryd.underlying22 info26 rfl (by decide) (by omega) u4 x4_2 (rd l0 x5_2) [.int .u64 (rd l0 x5_2)] (fun _ => True) (fun _ => False) rfl rfl ?aP (fun _ hk => hk.elim) ?aF ?aO ?aB ?aS ?aL ?_; (case aP => exact rfl); (case aB => exact dB); (case aF => exact (fun _ _ => trivial)); (case aO => exact (dR HO_4.out)); (case aS => exact (below_size dB)); (case aL => have := LMc11.out; omega); intro v171 w12 ho hb hg hat; rw [← Ny170.out] at ho; replace HB := Aside0.mk (hb); have HO172 := Aside0.mk (ho); clear HO_4; clear ho hb hg hat))
         go_roundg k2
         case measure => have := HJ1.out; have := HK2.out; omega
         case rel => exact ⟨(y170), (wrap64 (x5_2 + 1)), dF, H', ⟨by have := HJ1.out; have := HK2.out; omega⟩, ⟨dR HO172.out⟩, ⟨dB⟩⟩
        ·rw [if_neg c11] at H
         exact absurd H (by simp)
       ·rw [if_neg c10] at H
        exact absurd H (by simp)
      ·rw [if_neg c9] at H
       exact absurd H (by simp)
     ·rw [if_neg c8] at H
      have c8b0 : decide (x5_2 < x3_1) = false := decide_eq_false c8
      clear c8
      obtain rfl := Option.some.inj H
      go_wp2
      go_ret
      exact ⟨_, dE, dR HO_4.out, dB⟩

end Go.Proofs.YtoefabmlkbhmpaaDoor.PA

namespace Go.Proofs.YtoefabmlkbhmpaaDoor.PA
open Go.RowKit Go.Proofs.YtoefabmlkbhmpaaDoorW.PrintWords Go.Proofs.YtoefabmlkbhmpaaDoorW.PrintLast Go.Proofs.YtoefabmlkbhmpaaDoorW.PrintMore
attribute [local go_sem] max2_int min2_int max_two min_two max_three min_three max_four min_four   -- for this text's walks alone
set_option linter.unusedVariables false
set_option linter.unusedSimpArgs false

/-! ### plumbref03_Bits: function 48 -/
mutual
def plumbref03_Bits.l0 : Nat → List Int → Int → Option (Int)
 | 0, _, _ => none
 | k + 1, x0, x3 => if x3 ≥ 0 then (if 0 ≤ x3 then (if x3 < (x0.length : Int) then (if (rd x0 x3) > 0 then (plumbref03_Bits.l1 k (wrap64 (64 * x3)) (rd x0 x3)) else (plumbref03_Bits.l0 k x0 (wrap64 (x3 - 1)))) else (none)) else (none)) else (some 0)
def plumbref03_Bits.l1 : Nat → Int → Int → Option (Int)
 | 0, _, _ => none
 | k + 1, x4, x5 => if x5 > 0 then (plumbref03_Bits.l1 k (wrap64 (x4 + 1)) (x5 / 2)) else (some x4)
end
def plumbref03_Bits.f (k : Nat) (l0 : List Int) : Option (Int) := plumbref03_Bits.l0 k l0 (wrap64 ((l0.length : Int) - 1))
theorem plumbref03_Bits.mono_l : ∀ k, (∀ y0 y1, LeO (plumbref03_Bits.l0 k y0 y1) (plumbref03_Bits.l0 (k + 1) y0 y1)) ∧ (∀ y0 y1, LeO (plumbref03_Bits.l1 k y0 y1) (plumbref03_Bits.l1 (k + 1) y0 y1))
 | 0 => ⟨fun _ _ r h => by simp [plumbref03_Bits.l0] at h, fun _ _ r h => by simp [plumbref03_Bits.l1] at h⟩
 | k + 1 => by
  obtain ⟨ih0, ih1⟩ := plumbref03_Bits.mono_l k
  refine ⟨?_, ?_⟩
  ·intro y0 y1
   unfold plumbref03_Bits.l0
   repeat' first
   | (with_reducible exact ih0 _ _)
   | (with_reducible exact ih1 _ _)
   | (with_reducible exact LeO.refl _)
   | (with_reducible exact LeO.none _)
   | (with_reducible refine LeO.ite ?_ ?_)
   | (with_reducible refine LeO.bind ?_ (fun _ => ?_))
   | exact ih0 _ _
   | exact ih1 _ _
   | exact LeO.none _
   | refine LeO.ite ?_ ?_
   | refine LeO.bind ?_ (fun _ => ?_)
  ·intro y0 y1
   unfold plumbref03_Bits.l1
   repeat' first
   | (with_reducible exact ih0 _ _)
   | (with_reducible exact ih1 _ _)
   | (with_reducible exact LeO.refl _)
   | (with_reducible exact LeO.none _)
   | (with_reducible refine LeO.ite ?_ ?_)
   | (with_reducible refine LeO.bind ?_ (fun _ => ?_))
   | exact ih0 _ _
   | exact ih1 _ _
   | exact LeO.none _
   | refine LeO.ite ?_ ?_
   | refine LeO.bind ?_ (fun _ => ?_)
theorem plumbref03_Bits.mono : ∀ a0 k, LeO (plumbref03_Bits.f k a0) (plumbref03_Bits.f (k + 1) a0) := by
 intro a0 k
 obtain ⟨ih0, ih1⟩ := plumbref03_Bits.mono_l k
 unfold plumbref03_Bits.f
 repeat' first
   | (with_reducible exact ih0 _ _)
   | (with_reducible exact ih1 _ _)
   | (with_reducible exact LeO.refl _)
   | (with_reducible exact LeO.none _)
   | (with_reducible refine LeO.ite ?_ ?_)
   | (with_reducible refine LeO.bind ?_ (fun _ => ?_))
   | exact ih0 _ _
   | exact ih1 _ _
   | exact LeO.none _
   | refine LeO.ite ?_ ?_
   | refine LeO.bind ?_ (fun _ => ?_)
set_option maxHeartbeats 8000000 in
set_option maxRecDepth 100000 in
theorem plumbref03_Bits.calls (k : Nat) (A0 : Option Addr) (c0 : Nat) (l0 : List Int) (r : Int) (w : World) (hr0 : Kd.C (Kd.int .u64) w A0 l0.length l0) (hc0 : l0.length ≤ c0) (h : plumbref03_Bits.f k l0 = some r) :
  Calls Tryd.prog 48 #[.slice A0 l0.length c0] w fun e w' => e = .returned (.int .i64 r) ∧ Drawn0 w w' := by
 have HR0 := Aside0.mk hr0
 have HC0 := Aside0.mk hc0
 clear hr0 hc0
 have H : (plumbref03_Bits.l0 k l0 (wrap64 ((l0.length : Int) - 1))) = some r := h
 clear h
 have H' := Aside0.mk H
 clear H
 go_enter Tryd.func48, Tryd.ntmps48
 go_wp2
 go_loopg [3] k (fun kq v3 w' => ∃ (x3_1 : Int), v3 = .int .i64 x3_1 ∧ Aside0 (plumbref03_Bits.l0 kq l0 x3_1 = some r) ∧ Aside0 (kq ≤ k) ∧ Drawn0 w w')
 case atStart => exact ⟨(wrap64 ((l0.length : Int) - 1)), dF, H', ⟨Nat.le_refl _⟩, by repeat (first | exact Drawn0.refl _ | apply Drawn0.step)⟩
 case round =>
  clear H'
  obtain ⟨x3_1, rfl, HA, HK1, ⟨m1, rfl⟩⟩ := hrel
  cases gk with
  | zero => exact absurd HA.out (by simp [plumbref03_Bits.l0])
  | succ k1 =>
   have H := HA.out
   clear HA
   simp only [plumbref03_Bits.l0] at H
   by_cases c2 : x3_1 ≥ 0
   ·rw [if_pos c2] at H
    have c2b0 : decide (0 ≤ x3_1) = true := decide_eq_true c2
    clear c2
    by_cases c3 : (0 : Int) ≤ x3_1
    ·rw [if_pos c3] at H
     have c3b0 : decide (0 ≤ x3_1) = true := decide_eq_true c3
     clear c3
     by_cases c4 : x3_1 < (l0.length : Int)
     ·rw [if_pos c4] at H
      have c4b0 : decide (x3_1 < (l0.length : Int)) = true := decide_eq_true c4
      clear c4
      by_cases c5 : (rd l0 x3_1) > 0
      ·rw [if_pos c5] at H
       have c5b0 : decide (0 < (rd l0 x3_1)) = true := decide_eq_true c5
       clear c5
       have H' := Aside0.mk H
       clear H
       have p173 : 0 ≤ (x3_1 : Int) := of_decide_eq_true dS
       have q173 : x3_1 < (l0.length : Int) := of_decide_eq_true dS
       obtain ⟨ad173, e173, hx173_0⟩ := Kd.at_int HR0.out x3_1 p173 q173
       cases e173
       replace p173 := eq_true p173
       replace q173 := eq_true q173
       have p174 : 0 ≤ (x3_1 : Int) := of_decide_eq_true dS
       have q174 : x3_1 < (l0.length : Int) := of_decide_eq_true dS
       obtain ⟨ad174, e174, hx174_0⟩ := Kd.at_int HR0.out x3_1 p174 q174
       obtain rfl : ad173 = ad174 := (by injection e174)
       replace p174 := eq_true p174
       replace q174 := eq_true q174
       go_wp2
       go_loopg [4, 5] k1 (fun kq v4 v5 w' => ∃ (x4_2 : Int) (x5_2 : Int), v4 = .int .i64 x4_2 ∧ v5 = .int .u64 x5_2 ∧ Aside0 (plumbref03_Bits.l1 kq x4_2 x5_2 = some r) ∧ Aside0 (kq ≤ k1) ∧ Drawn0 w w')
       case atStart => exact ⟨(wrap64 (64 * x3_1)), (rd l0 x3_1), dF, dF, H', ⟨Nat.le_refl _⟩, by repeat (first | exact Drawn0.refl _ | apply Drawn0.step)⟩
       case round =>
        clear H'
        try clear p1
        try clear q1
        try clear hx1
        try clear c2
        try clear c2b0
        try clear p2
        try clear c3
        try clear c3b0
        try clear c4
        try clear c4b0
        try clear c5
        try clear c5b0
        try clear hx173_0
        try clear hx174_0
        try clear p173
        try clear p174
        try clear q173
        try clear q174
        obtain ⟨x4_2, x5_2, rfl, rfl, HA, HK2, ⟨m2, rfl⟩⟩ := hrel
        cases gk with
        | zero => exact absurd HA.out (by simp [plumbref03_Bits.l1])
        | succ k2 =>
         have H := HA.out
         clear HA
         simp only [plumbref03_Bits.l1] at H
         by_cases c6 : x5_2 > 0
         ·rw [if_pos c6] at H
          have c6b0 : decide (0 < x5_2) = true := decide_eq_true c6
          clear c6
          have H' := Aside0.mk H
          clear H
          go_wp2
          go_roundg k2
          case measure => have := HK1.out; have := HK2.out; omega
          case rel => exact ⟨(wrap64 (x4_2 + 1)), (x5_2 / 2), dF, dF, H', ⟨by have := HK1.out; have := HK2.out; omega⟩, by repeat (first | exact Drawn0.refl _ | apply Drawn0.step)⟩
         ·rw [if_neg c6] at H
          have c6b0 : decide (0 < x5_2) = false := decide_eq_false c6
          clear c6
          obtain rfl := Option.some.inj H
          go_wp2
          go_ret
          exact ⟨by first | rfl | (simp; done) | (simp [*]; done), by repeat (first | exact Drawn0.refl _ | apply Drawn0.step)⟩
      ·rw [if_neg c5] at H
       have c5b0 : decide (0 < (rd l0 x3_1)) = false := decide_eq_false c5
       clear c5
       have H' := Aside0.mk H
       clear H
       have p173 : 0 ≤ (x3_1 : Int) := of_decide_eq_true dS
       have q173 : x3_1 < (l0.length : Int) := of_decide_eq_true dS
       obtain ⟨ad173, e173, hx173_0⟩ := Kd.at_int HR0.out x3_1 p173 q173
       cases e173
       replace p173 := eq_true p173
       replace q173 := eq_true q173
       go_wp2
       go_roundg k1
       case measure => have := HK1.out; omega
       case rel => exact ⟨(wrap64 (x3_1 - 1)), dF, H', ⟨by have := HK1.out; omega⟩, by repeat (first | exact Drawn0.refl _ | apply Drawn0.step)⟩
     ·rw [if_neg c4] at H
      exact absurd H (by simp)
    ·rw [if_neg c3] at H
     exact absurd H (by simp)
   ·rw [if_neg c2] at H
    have c2b0 : decide (0 ≤ x3_1) = false := decide_eq_false c2
    clear c2
    obtain rfl := Option.some.inj H
    go_wp2
    go_ret
    exact ⟨by first | rfl | (simp; done) | (simp [*]; done), by repeat (first | exact Drawn0.refl _ | apply Drawn0.step)⟩

/-! ### plumbref07_parts: function 88 -/
def plumbref07_parts.f (a0 : Int) : Option (Int × Int) := if (wrap64 (a0 / 4503599627370496)) = 0 then (some (Go.bits .and .u64 a0 4503599627370495, (-1074))) else (some (Go.bits .or .u64 (Go.bits .and .u64 a0 4503599627370495) 4503599627370496, wrap64 ((wrap64 (a0 / 4503599627370496)) - 1075)))
set_option maxHeartbeats 8000000 in
set_option maxRecDepth 100000 in
theorem plumbref07_parts.calls (a0 : Int) (r1 : Int) (r2 : Int) (w : World) (h : plumbref07_parts.f a0 = some (r1, r2)) :
  Calls Tryd.prog 88 #[.int .u64 a0] w fun e w' => e = .returned (.tuple #[.int .u64 r1, .int .i64 r2]) ∧ Drawn0 w w' := by
 have H : (if (wrap64 (a0 / 4503599627370496)) = 0 then (some (Go.bits .and .u64 a0 4503599627370495, (-1074))) else (some (Go.bits .or .u64 (Go.bits .and .u64 a0 4503599627370495) 4503599627370496, wrap64 ((wrap64 (a0 / 4503599627370496)) - 1075)))) = some (r1, r2) := h
 clear h
 by_cases c2 : (wrap64 (a0 / 4503599627370496)) = 0
 ·rw [if_pos c2] at H
  have c2b0 : ((wrap64 (a0 / 4503599627370496)) == 0) = true := beq_iff_eq.mpr c2
  have c2b1 : ((wrap64 (a0 / 4503599627370496)) != 0) = false := bne_eq_false_iff_eq.mpr c2
  clear c2
  simp only [Option.some.injEq, Prod.mk.injEq] at H
  obtain ⟨rfl, rfl⟩ := H
  go_enter Tryd.func88, Tryd.ntmps88
  go_wp2
  go_ret2
  exact ⟨by first | rfl | (simp; done) | (simp [*]; done), by repeat (first | exact Drawn0.refl _ | apply Drawn0.step)⟩
 ·rw [if_neg c2] at H
  have c2b0 : ((wrap64 (a0 / 4503599627370496)) == 0) = false := beq_eq_false_iff_ne.mpr c2
  have c2b1 : ((wrap64 (a0 / 4503599627370496)) != 0) = true := bne_iff_ne.mpr c2
  simp only [Option.some.injEq, Prod.mk.injEq] at H
  obtain ⟨rfl, rfl⟩ := H
  go_enter Tryd.func88, Tryd.ntmps88
  go_wp2
  go_ret2
  exact ⟨by first | rfl | (simp; done) | (simp [*]; done), by repeat (first | exact Drawn0.refl _ | apply Drawn0.step)⟩

end Go.Proofs.YtoefabmlkbhmpaaDoor.PA

namespace Go.Proofs.YtoefabmlkbhmpaaDoor.PA
open Go.RowKit Go.Proofs.YtoefabmlkbhmpaaDoorW.PrintWords Go.Proofs.YtoefabmlkbhmpaaDoorW.PrintLast Go.Proofs.YtoefabmlkbhmpaaDoorW.PrintMore
attribute [local go_sem] max2_int min2_int max_two min_two max_three min_three max_four min_four   -- for this text's walks alone
set_option linter.unusedVariables false
set_option linter.unusedSimpArgs false

/-! ### plumbref03_Mul: function 110 -/
mutual
def plumbref03_Mul.l0 : Nat → List Int → List Int → List Int → Int → Option (List Int)
 | 0, _, _, _, _ => none
 | k + 1, x0, x1, x5, x6 => if x6 < (wrap64 (2 * (x0.length : Int))) then (if 0 ≤ (wrap64 (Int.tdiv x6 2)) then (if (wrap64 (Int.tdiv x6 2)) < (x0.length : Int) then (if 0 ≤ (wrap64 (32 * (Int.tmod x6 2))) then (plumbref03_Mul.l1 k x0 x1 x5 x6 (Go.bits .and .u64 (shr .u64 (rd x0 (wrap64 (Int.tdiv x6 2))) (wrap64 (32 * (Int.tmod x6 2)))) 4294967295) 0 0) else (none)) else (none)) else (none)) else (plumbref03_Mul.l2 k x5 ([] : List Int) 0)
def plumbref03_Mul.l1 : Nat → List Int → List Int → List Int → Int → Int → Int → Int → Option (List Int)
 | 0, _, _, _, _, _, _, _ => none
 | k + 1, x0, x1, x5, x6, x7, x8, x9 => if x9 < (wrap64 (2 * (x1.length : Int))) then (if 0 ≤ (wrap64 (Int.tdiv x9 2)) then (if (wrap64 (Int.tdiv x9 2)) < (x1.length : Int) then (if 0 ≤ (wrap64 (32 * (Int.tmod x9 2))) then (if 0 ≤ (wrap64 (x6 + x9)) then (if (wrap64 (x6 + x9)) < (x5.length : Int) then (plumbref03_Mul.l1 k x0 x1 (x5.set ((wrap64 (x6 + x9)) : Int).toNat (Go.bits .and .u64 (IntKind.u64.wrap ((IntKind.u64.wrap ((IntKind.u64.wrap (x7 * (Go.bits .and .u64 (shr .u64 (rd x1 (wrap64 (Int.tdiv x9 2))) (wrap64 (32 * (Int.tmod x9 2)))) 4294967295))) + (rd x5 (wrap64 (x6 + x9))))) + x8)) 4294967295)) x6 x7 ((IntKind.u64.wrap ((IntKind.u64.wrap ((IntKind.u64.wrap (x7 * (Go.bits .and .u64 (shr .u64 (rd x1 (wrap64 (Int.tdiv x9 2))) (wrap64 (32 * (Int.tmod x9 2)))) 4294967295))) + (rd x5 (wrap64 (x6 + x9))))) + x8)) / 4294967296) (wrap64 (x9 + 1))) else (none)) else (none)) else (none)) else (none)) else (none)) else (if 0 ≤ (wrap64 (x6 + (wrap64 (2 * (x1.length : Int))))) then (if (wrap64 (x6 + (wrap64 (2 * (x1.length : Int))))) < (x5.length : Int) then (plumbref03_Mul.l0 k x0 x1 (x5.set ((wrap64 (x6 + (wrap64 (2 * (x1.length : Int))))) : Int).toNat (IntKind.u64.wrap ((rd x5 (wrap64 (x6 + (wrap64 (2 * (x1.length : Int)))))) + x8))) (wrap64 (x6 + 1))) else (none)) else (none))
def plumbref03_Mul.l2 : Nat → List Int → List Int → Int → Option (List Int)
 | 0, _, _, _ => none
 | k + 1, x5, x12, x13 => if (wrap64 (x13 + 1)) < (x5.length : Int) then (if 0 ≤ x13 then (if x13 < (x5.length : Int) then (if 0 ≤ (wrap64 (x13 + 1)) then (if x12.length < 17592186044416 then (plumbref03_Mul.l2 k x5 (x12 ++ [Go.bits .or .u64 (rd x5 x13) (IntKind.u64.wrap ((rd x5 (wrap64 (x13 + 1))) * 4294967296))]) (wrap64 (x13 + 2))) else (none)) else (none)) else (none)) else (none)) else ((plumbref03_Norm.f k x12).bind fun t189 => (some t189))
end
def plumbref03_Mul.f (k : Nat) (l0 : List Int) (l1 : List Int) : Option (List Int) := if 0 ≤ (wrap64 ((wrap64 (2 * (wrap64 ((l0.length : Int) + (l1.length : Int))))) + 1)) then (if (wrap64 ((wrap64 (2 * (wrap64 ((l0.length : Int) + (l1.length : Int))))) + 1) : Int).toNat ≤ 35184372088832 then (plumbref03_Mul.l0 k l0 l1 (List.replicate (wrap64 ((wrap64 (2 * (wrap64 ((l0.length : Int) + (l1.length : Int))))) + 1) : Int).toNat 0) 0) else (none)) else (none)
theorem plumbref03_Mul.mono_l : ∀ k, (∀ y0 y1 y2 y3, LeO (plumbref03_Mul.l0 k y0 y1 y2 y3) (plumbref03_Mul.l0 (k + 1) y0 y1 y2 y3)) ∧ (∀ y0 y1 y2 y3 y4 y5 y6, LeO (plumbref03_Mul.l1 k y0 y1 y2 y3 y4 y5 y6) (plumbref03_Mul.l1 (k + 1) y0 y1 y2 y3 y4 y5 y6)) ∧ (∀ y0 y1 y2, LeO (plumbref03_Mul.l2 k y0 y1 y2) (plumbref03_Mul.l2 (k + 1) y0 y1 y2))
 | 0 => ⟨fun _ _ _ _ r h => by simp [plumbref03_Mul.l0] at h, fun _ _ _ _ _ _ _ r h => by simp [plumbref03_Mul.l1] at h, fun _ _ _ r h => by simp [plumbref03_Mul.l2] at h⟩
 | k + 1 => by
  obtain ⟨ih0, ih1, ih2⟩ := plumbref03_Mul.mono_l k
  refine ⟨?_, ?_, ?_⟩
  ·intro y0 y1 y2 y3
   unfold plumbref03_Mul.l0
   repeat' first
   | (with_reducible exact ih0 _ _ _ _)
   | (with_reducible exact ih1 _ _ _ _ _ _ _)
   | (with_reducible exact ih2 _ _ _)
   | (with_reducible exact plumbref03_Norm.mono _ _)
   | (with_reducible exact LeO.refl _)
   | (with_reducible exact LeO.none _)
   | (with_reducible refine LeO.ite ?_ ?_)
   | (with_reducible refine LeO.bind ?_ (fun _ => ?_))
   | exact ih0 _ _ _ _
   | exact ih1 _ _ _ _ _ _ _
   | exact ih2 _ _ _
   | exact plumbref03_Norm.mono _ _
   | exact LeO.none _
   | refine LeO.ite ?_ ?_
   | refine LeO.bind ?_ (fun _ => ?_)
  ·intro y0 y1 y2 y3 y4 y5 y6
   unfold plumbref03_Mul.l1
   repeat' first
   | (with_reducible exact ih0 _ _ _ _)
   | (with_reducible exact ih1 _ _ _ _ _ _ _)
   | (with_reducible exact ih2 _ _ _)
   | (with_reducible exact plumbref03_Norm.mono _ _)
   | (with_reducible exact LeO.refl _)
   | (with_reducible exact LeO.none _)
   | (with_reducible refine LeO.ite ?_ ?_)
   | (with_reducible refine LeO.bind ?_ (fun _ => ?_))
   | exact ih0 _ _ _ _
   | exact ih1 _ _ _ _ _ _ _
   | exact ih2 _ _ _
   | exact plumbref03_Norm.mono _ _
   | exact LeO.none _
   | refine LeO.ite ?_ ?_
   | refine LeO.bind ?_ (fun _ => ?_)
  ·intro y0 y1 y2
   unfold plumbref03_Mul.l2
   repeat' first
   | (with_reducible exact ih0 _ _ _ _)
   | (with_reducible exact ih1 _ _ _ _ _ _ _)
   | (with_reducible exact ih2 _ _ _)
   | (with_reducible exact plumbref03_Norm.mono _ _)
   | (with_reducible exact LeO.refl _)
   | (with_reducible exact LeO.none _)
   | (with_reducible refine LeO.ite ?_ ?_)
   | (with_reducible refine LeO.bind ?_ (fun _ => ?_))
   | exact ih0 _ _ _ _
   | exact ih1 _ _ _ _ _ _ _
   | exact ih2 _ _ _
   | exact plumbref03_Norm.mono _ _
   | exact LeO.none _
   | refine LeO.ite ?_ ?_
   | refine LeO.bind ?_ (fun _ => ?_)
theorem plumbref03_Mul.mono : ∀ a0 a1 k, LeO (plumbref03_Mul.f k a0 a1) (plumbref03_Mul.f (k + 1) a0 a1) := by
 intro a0 a1 k
 obtain ⟨ih0, ih1, ih2⟩ := plumbref03_Mul.mono_l k
 unfold plumbref03_Mul.f
 repeat' first
   | (with_reducible exact ih0 _ _ _ _)
   | (with_reducible exact ih1 _ _ _ _ _ _ _)
   | (with_reducible exact ih2 _ _ _)
   | (with_reducible exact plumbref03_Norm.mono _ _)
   | (with_reducible exact LeO.refl _)
   | (with_reducible exact LeO.none _)
   | (with_reducible refine LeO.ite ?_ ?_)
   | (with_reducible refine LeO.bind ?_ (fun _ => ?_))
   | exact ih0 _ _ _ _
   | exact ih1 _ _ _ _ _ _ _
   | exact ih2 _ _ _
   | exact plumbref03_Norm.mono _ _
   | exact LeO.none _
   | refine LeO.ite ?_ ?_
   | refine LeO.bind ?_ (fun _ => ?_)
def plumbref03_Mul.T19 : Bool × List (List Nat × List Nat) := (true, [([], []), ([], []), ([], []), ([1, 2], [1, 2]), ([3], [3]), ([], []), ([], []), ([6], [6]), ([5, 7], [5, 7]), ([8], [8]), ([9], [9]), ([4, 10], [4, 10]), ([11], [11]), ([0, 12], [0, 12]), ([13, 13, 0, 1, 2, 3, 4, 5, 6, 7, 8, 9, 10, 11, 12, 13], [0, 13])])
def plumbref03_Mul.B19 : List Nat := [0, 0, 0, 6, 14, 0, 0, 64, 224, 480, 992, 2046, 4094, 8191, 16383]
theorem plumbref03_Mul.tab19 : rtab .any (opsOf Tryd.f110 19) = plumbref03_Mul.T19 := by kernel_rfl
theorem plumbref03_Mul.bits19 : waitsOk plumbref03_Mul.T19.2 plumbref03_Mul.B19 = true := by kernel_rfl
set_option maxHeartbeats 8000000 in
set_option maxRecDepth 100000 in
theorem plumbref03_Mul.calls (k : Nat) (A0 : Option Addr) (c0 : Nat) (l0 : List Int) (A1 : Option Addr) (c1 : Nat) (l1 : List Int) (r : List Int) (w : World) (hr0 : Kd.C (Kd.int .u64) w A0 l0.length l0) (hc0 : l0.length ≤ c0) (hr1 : Kd.C (Kd.int .u64) w A1 l1.length l1) (hc1 : l1.length ≤ c1) (h : plumbref03_Mul.f k l0 l1 = some r) :
  Calls Tryd.prog 110 #[.slice A0 l0.length c0, .slice A1 l1.length c1] w fun e w' => ∃ v0_ : Value, e = .returned (v0_) ∧ Kd.R (Kd.int .u64) 26 w' w.heap.size (fun _ => True) v0_ r ∧ Below w.heap.size w w' := by
 have HR0 := Aside0.mk hr0
 have HC0 := Aside0.mk hc0
 clear hr0 hc0
 have HR1 := Aside0.mk hr1
 have HC1 := Aside0.mk hc1
 clear hr1 hc1
 have HB := Aside0.mk (Below.refl w.heap.size w)
 have H : (if 0 ≤ (wrap64 ((wrap64 (2 * (wrap64 ((l0.length : Int) + (l1.length : Int))))) + 1)) then (if (wrap64 ((wrap64 (2 * (wrap64 ((l0.length : Int) + (l1.length : Int))))) + 1) : Int).toNat ≤ 35184372088832 then (plumbref03_Mul.l0 k l0 l1 (List.replicate (wrap64 ((wrap64 (2 * (wrap64 ((l0.length : Int) + (l1.length : Int))))) + 1) : Int).toNat 0) 0) else (none)) else (none)) = some r := h
 clear h
 obtain ⟨ji3, hji3⟩ : ∃ j_ : Int, (wrap64 ((wrap64 (2 * (wrap64 ((l0.length : Int) + (l1.length : Int))))) + 1)) = j_ := ⟨_, rfl⟩
 replace H : (if 0 ≤ (ji3) then (if (ji3 : Int).toNat ≤ 35184372088832 then (plumbref03_Mul.l0 k l0 l1 (List.replicate (ji3 : Int).toNat 0) 0) else (none)) else (none)) = some r := by first | (rw [hji3] at H; exact H) | (simp only [hji3] at H ⊢; exact H)
 have hji3w : (IntKind.i64.wrap ((wrap64 (2 * (wrap64 ((l0.length : Int) + (l1.length : Int))))) + 1)) = ji3 := (i64_w _).trans hji3
 by_cases c4 : (0 : Int) ≤ (ji3)
 ·rw [if_pos c4] at H
  have c4b0 := eq_true c4
  have c4b1 : decide (0 ≤ (ji3)) = true := decide_eq_true c4
  clear c4
  by_cases c5 : (ji3 : Int).toNat ≤ 35184372088832
  ·rw [if_pos c5] at H
   have c5b0 := eq_true c5
   have c5b1 : decide ((ji3 : Int).toNat ≤ 35184372088832) = true := decide_eq_true c5
   clear c5
   obtain ⟨y175, hy175⟩ : ∃ y_ : List Int, y_ = (List.replicate (ji3 : Int).toNat 0) := ⟨_, rfl⟩
   replace H : (plumbref03_Mul.l0 k l0 l1 y175 0) = some r := by first | (rw [hy175]; with_reducible exact H) | (have H2_ := (Option.bind_some _ _).symm.trans H; rw [hy175]; with_reducible exact H2_) | (have H2_ := (Option.bind_some _ _).symm.trans H; with_reducible exact H2_) | with_reducible exact H | (rw [hy175]; exact H) | exact H
   have Ny175 := Aside0.mk hy175
   clear hy175
   have H' := Aside0.mk H
   clear H
   go_enter Tryd.func110, Tryd.ntmps110
   go_wp2_with (first | ((with_reducible refine gate_dst (N := 21) rfl ?_); refine Kd.R_make (Kd.int .u64) _ 26 rfl (N := 21) rfl 22 _ _ rfl ji3 rfl rfl Tryd.underlying22 (.int .u64 0) 8 info26 rfl (by decide) (by omega) 0 (ok := fun _ => True) (okp := fun _ => True) rfl (fun _ hk => hk) trivial (of_decide_eq_true dS) (Nat.le_trans (Nat.mul_le_mul_right _ (of_decide_eq_true dS : ji3.toNat ≤ 35184372088832)) (by omega)) (Below.refl _ _) (Nat.le_refl _) ?_; intro v176 w6 ho7 hb hg_ hnew_; clear hg_ hnew_; (first | rw [← Ny175.out] at ho7 | (simp only [Int.reduceToNat] at ho7; rw [← Ny175.out] at ho7)); have HO177 := Aside0.mk (Kd.R_lower ho7 (below_size dB)); replace HB := Aside0.mk (below_step dB hb); clear hb ho7))
   go_loopg [6] k (fun kq v6 w' => ∃ (x5_1 : List Int) (x6_1 : Int), v6 = .int .i64 x6_1 ∧ Aside0 (plumbref03_Mul.l0 kq l0 l1 x5_1 x6_1 = some r) ∧ Aside0 (kq ≤ k) ∧ Aside0 (Kd.R (Kd.int .u64) 26 w' w.heap.size (fun _ => True) v176 x5_1) ∧ Aside0 (Below w.heap.size w w'))
   case atStart => exact ⟨(y175), (0), dF, H', ⟨Nat.le_refl _⟩, ⟨dR HO177.out⟩, ⟨dB⟩⟩
   case round =>
    clear H'
    try clear c1
    try clear p2
    try clear c4
    try clear c4b0
    try clear c4b1
    try clear c5
    try clear c5b0
    try clear c5b1
    try clear p6
    obtain ⟨x5_1, x6_1, rfl, HA, HK1, HO_5, HB⟩ := hrel
    cases gk with
    | zero => exact absurd HA.out (by simp [plumbref03_Mul.l0])
    | succ k1 =>
     have H := HA.out
     clear HA
     simp only [plumbref03_Mul.l0] at H
     by_cases c8 : x6_1 < (wrap64 (2 * (l0.length : Int)))
     ·rw [if_pos c8] at H
      have c8b0 : decide (x6_1 < (wrap64 (2 * (l0.length : Int)))) = true := decide_eq_true c8
      clear c8
      obtain ⟨ji9, hji9⟩ : ∃ j_ : Int, (wrap64 (Int.tdiv x6_1 2)) = j_ := ⟨_, rfl⟩
      replace H : (if 0 ≤ (ji9) then (if (ji9) < (l0.length : Int) then (if 0 ≤ (wrap64 (32 * (Int.tmod x6_1 2))) then (plumbref03_Mul.l1 k1 l0 l1 x5_1 x6_1 (Go.bits .and .u64 (shr .u64 (rd l0 (ji9)) (wrap64 (32 * (Int.tmod x6_1 2)))) 4294967295) 0 0) else (none)) else (none)) else (none)) = some r := by first | (rw [hji9] at H; exact H) | (simp only [hji9] at H ⊢; exact H)
      have hji9w : (IntKind.i64.wrap (Int.tdiv x6_1 2)) = ji9 := (i64_w _).trans hji9
      by_cases c10 : (0 : Int) ≤ (ji9)
      ·rw [if_pos c10] at H
       have c10b0 : decide (0 ≤ (ji9)) = true := decide_eq_true c10
       clear c10
       by_cases c11 : (ji9) < (l0.length : Int)
       ·rw [if_pos c11] at H
        have c11b0 : decide ((ji9) < (l0.length : Int)) = true := decide_eq_true c11
        clear c11
        obtain ⟨ji12, hji12⟩ : ∃ j_ : Int, (wrap64 (32 * (Int.tmod x6_1 2))) = j_ := ⟨_, rfl⟩
        replace H : (if 0 ≤ (ji12) then (plumbref03_Mul.l1 k1 l0 l1 x5_1 x6_1 (Go.bits .and .u64 (shr .u64 (rd l0 (ji9)) (ji12)) 4294967295) 0 0) else (none)) = some r := by first | (rw [hji12] at H; exact H) | (simp only [hji12] at H ⊢; exact H)
        have hji12w : (IntKind.i64.wrap (32 * (Int.tmod x6_1 2))) = ji12 := (i64_w _).trans hji12
        by_cases c13 : (0 : Int) ≤ (ji12)
        ·rw [if_pos c13] at H
         have c13b0 := eq_true c13
         have c13b1 : decide (0 ≤ (ji12)) = true := decide_eq_true c13
         clear c13
         obtain ⟨ji14, hji14⟩ : ∃ j_ : Int, (shr .u64 (rd l0 (ji9)) (ji12)) = j_ := ⟨_, rfl⟩
         replace H : (plumbref03_Mul.l1 k1 l0 l1 x5_1 x6_1 (Go.bits .and .u64 (ji14) 4294967295) 0 0) = some r := by first | (rw [hji14] at H; exact H) | (simp only [hji14] at H ⊢; exact H)
         have hji14_ : ((rd l0 (ji9)) / 2 ^ min (ji12).toNat 64) = ji14 := hji14
         have hji14z : (ji12) ≤ 64 → ((rd l0 (ji9)) / 2 ^ (ji12).toNat) = ji14 := shr_small hji14
         have H' := Aside0.mk H
         clear H
         have p178 : 0 ≤ ((ji9) : Int) := of_decide_eq_true dS
         have q178 : (ji9) < (l0.length : Int) := of_decide_eq_true dS
         obtain ⟨ad178, e178, hx178_0⟩ := Kd.at_int HR0.out (ji9) p178 q178
         cases e178
         replace hx178_0 := (HB.out.cell (World.block_lt_of_cell? w _ hx178_0)).trans hx178_0
         replace p178 := eq_true p178
         replace q178 := eq_true q178
         go_wp2
         go_loopg [8, 9] k1 (fun kq v8 v9 w' => ∃ (x5_2 : List Int) (x8_2 : Int) (x9_2 : Int), v8 = .int .u64 x8_2 ∧ v9 = .int .i64 x9_2 ∧ Aside0 (plumbref03_Mul.l1 kq l0 l1 x5_2 x6_1 (Go.bits .and .u64 (ji14) 4294967295) x8_2 x9_2 = some r) ∧ Aside0 (kq ≤ k1) ∧ Aside0 (Kd.R (Kd.int .u64) 26 w' w.heap.size (fun _ => True) v176 x5_2) ∧ Aside0 (Below w.heap.size w w'))
         case atStart => exact ⟨(x5_1), (0), (0), dF, dF, H', ⟨Nat.le_refl _⟩, ⟨dR HO_5.out⟩, ⟨dB⟩⟩
         case round =>
          clear H'
          try clear c1
          try clear p1
          try clear q1
          try clear hx1
          try clear p2
          try clear c4
          try clear c4b0
          try clear c4b1
          try clear c5
          try clear c5b0
          try clear c5b1
          try clear p6
          try clear c8
          try clear c8b0
          try clear c10
          try clear c10b0
          try clear c11
          try clear c11b0
          try clear c13
          try clear c13b0
          try clear c13b1
          try clear hx178_0
          try clear p178
          try clear p2
          try clear p6
          try clear q178
          obtain ⟨x5_2, x8_2, x9_2, rfl, rfl, HA, HK2, HO_5, HB⟩ := hrel
          cases gk with
          | zero => exact absurd HA.out (by simp [plumbref03_Mul.l1])
          | succ k2 =>
           have H := HA.out
           clear HA
           simp only [plumbref03_Mul.l1] at H
           by_cases c15 : x9_2 < (wrap64 (2 * (l1.length : Int)))
           ·rw [if_pos c15] at H
            have c15b0 : decide (x9_2 < (wrap64 (2 * (l1.length : Int)))) = true := decide_eq_true c15
            clear c15
            obtain ⟨ji16, hji16⟩ : ∃ j_ : Int, (wrap64 (Int.tdiv x9_2 2)) = j_ := ⟨_, rfl⟩
            replace H : (if 0 ≤ (ji16) then (if (ji16) < (l1.length : Int) then (if 0 ≤ (wrap64 (32 * (Int.tmod x9_2 2))) then (if 0 ≤ (wrap64 (x6_1 + x9_2)) then (if (wrap64 (x6_1 + x9_2)) < (x5_2.length : Int) then (plumbref03_Mul.l1 k2 l0 l1 (x5_2.set ((wrap64 (x6_1 + x9_2)) : Int).toNat (Go.bits .and .u64 (IntKind.u64.wrap ((IntKind.u64.wrap ((IntKind.u64.wrap ((Go.bits .and .u64 (ji14) 4294967295) * (Go.bits .and .u64 (shr .u64 (rd l1 (ji16)) (wrap64 (32 * (Int.tmod x9_2 2)))) 4294967295))) + (rd x5_2 (wrap64 (x6_1 + x9_2))))) + x8_2)) 4294967295)) x6_1 (Go.bits .and .u64 (ji14) 4294967295) ((IntKind.u64.wrap ((IntKind.u64.wrap ((IntKind.u64.wrap ((Go.bits .and .u64 (ji14) 4294967295) * (Go.bits .and .u64 (shr .u64 (rd l1 (ji16)) (wrap64 (32 * (Int.tmod x9_2 2)))) 4294967295))) + (rd x5_2 (wrap64 (x6_1 + x9_2))))) + x8_2)) / 4294967296) (wrap64 (x9_2 + 1))) else (none)) else (none)) else (none)) else (none)) else (none)) = some r := by first | (rw [hji16] at H; exact H) | (simp only [hji16] at H ⊢; exact H)
            have hji16w : (IntKind.i64.wrap (Int.tdiv x9_2 2)) = ji16 := (i64_w _).trans hji16
            by_cases c17 : (0 : Int) ≤ (ji16)
            ·rw [if_pos c17] at H
             have c17b0 : decide (0 ≤ (ji16)) = true := decide_eq_true c17
             clear c17
             by_cases c18 : (ji16) < (l1.length : Int)
             ·rw [if_pos c18] at H
              have c18b0 : decide ((ji16) < (l1.length : Int)) = true := decide_eq_true c18
              clear c18
              obtain ⟨ji19, hji19⟩ : ∃ j_ : Int, (wrap64 (32 * (Int.tmod x9_2 2))) = j_ := ⟨_, rfl⟩
              replace H : (if 0 ≤ (ji19) then (if 0 ≤ (wrap64 (x6_1 + x9_2)) then (if (wrap64 (x6_1 + x9_2)) < (x5_2.length : Int) then (plumbref03_Mul.l1 k2 l0 l1 (x5_2.set ((wrap64 (x6_1 + x9_2)) : Int).toNat (Go.bits .and .u64 (IntKind.u64.wrap ((IntKind.u64.wrap ((IntKind.u64.wrap ((Go.bits .and .u64 (ji14) 4294967295) * (Go.bits .and .u64 (shr .u64 (rd l1 (ji16)) (ji19)) 4294967295))) + (rd x5_2 (wrap64 (x6_1 + x9_2))))) + x8_2)) 4294967295)) x6_1 (Go.bits .and .u64 (ji14) 4294967295) ((IntKind.u64.wrap ((IntKind.u64.wrap ((IntKind.u64.wrap ((Go.bits .and .u64 (ji14) 4294967295) * (Go.bits .and .u64 (shr .u64 (rd l1 (ji16)) (ji19)) 4294967295))) + (rd x5_2 (wrap64 (x6_1 + x9_2))))) + x8_2)) / 4294967296) (wrap64 (x9_2 + 1))) else (none)) else (none)) else (none)) = some r := by first | (rw [hji19] at H; exact H) | (simp only [hji19] at H ⊢; exact H)
              have hji19w : (IntKind.i64.wrap (32 * (Int.tmod x9_2 2))) = ji19 := (i64_w _).trans hji19
              by_cases c20 : (0 : Int) ≤ (ji19)
              ·rw [if_pos c20] at H
               have c20b0 := eq_true c20
               have c20b1 : decide (0 ≤ (ji19)) = true := decide_eq_true c20
               clear c20
               obtain ⟨ji21, hji21⟩ : ∃ j_ : Int, (shr .u64 (rd l1 (ji16)) (ji19)) = j_ := ⟨_, rfl⟩
               replace H : (if 0 ≤ (wrap64 (x6_1 + x9_2)) then (if (wrap64 (x6_1 + x9_2)) < (x5_2.length : Int) then (plumbref03_Mul.l1 k2 l0 l1 (x5_2.set ((wrap64 (x6_1 + x9_2)) : Int).toNat (Go.bits .and .u64 (IntKind.u64.wrap ((IntKind.u64.wrap ((IntKind.u64.wrap ((Go.bits .and .u64 (ji14) 4294967295) * (Go.bits .and .u64 (ji21) 4294967295))) + (rd x5_2 (wrap64 (x6_1 + x9_2))))) + x8_2)) 4294967295)) x6_1 (Go.bits .and .u64 (ji14) 4294967295) ((IntKind.u64.wrap ((IntKind.u64.wrap ((IntKind.u64.wrap ((Go.bits .and .u64 (ji14) 4294967295) * (Go.bits .and .u64 (ji21) 4294967295))) + (rd x5_2 (wrap64 (x6_1 + x9_2))))) + x8_2)) / 4294967296) (wrap64 (x9_2 + 1))) else (none)) else (none)) = some r := by first | (rw [hji21] at H; exact H) | (simp only [hji21] at H ⊢; exact H)
               have hji21_ : ((rd l1 (ji16)) / 2 ^ min (ji19).toNat 64) = ji21 := hji21
               have hji21z : (ji19) ≤ 64 → ((rd l1 (ji16)) / 2 ^ (ji19).toNat) = ji21 := shr_small hji21
               obtain ⟨ji22, hji22⟩ : ∃ j_ : Int, (wrap64 (x6_1 + x9_2)) = j_ := ⟨_, rfl⟩
               replace H : (if 0 ≤ (ji22) then (if (ji22) < (x5_2.length : Int) then (plumbref03_Mul.l1 k2 l0 l1 (x5_2.set ((ji22) : Int).toNat (Go.bits .and .u64 (IntKind.u64.wrap ((IntKind.u64.wrap ((IntKind.u64.wrap ((Go.bits .and .u64 (ji14) 4294967295) * (Go.bits .and .u64 (ji21) 4294967295))) + (rd x5_2 (ji22)))) + x8_2)) 4294967295)) x6_1 (Go.bits .and .u64 (ji14) 4294967295) ((IntKind.u64.wrap ((IntKind.u64.wrap ((IntKind.u64.wrap ((Go.bits .and .u64 (ji14) 4294967295) * (Go.bits .and .u64 (ji21) 4294967295))) + (rd x5_2 (ji22)))) + x8_2)) / 4294967296) (wrap64 (x9_2 + 1))) else (none)) else (none)) = some r := by first | (rw [hji22] at H; exact H) | (simp only [hji22] at H ⊢; exact H)
               have hji22w : (IntKind.i64.wrap (x6_1 + x9_2)) = ji22 := (i64_w _).trans hji22
               by_cases c23 : (0 : Int) ≤ (ji22)
               ·rw [if_pos c23] at H
                have c23b0 : decide (0 ≤ (ji22)) = true := decide_eq_true c23
                clear c23
                by_cases c24 : (ji22) < (x5_2.length : Int)
                ·rw [if_pos c24] at H
                 have c24b0 : decide ((ji22) < (x5_2.length : Int)) = true := decide_eq_true c24
                 clear c24
                 obtain ⟨y181, hy181⟩ : ∃ y_ : List Int, y_ = (x5_2.set ((ji22) : Int).toNat (Go.bits .and .u64 (IntKind.u64.wrap ((IntKind.u64.wrap ((IntKind.u64.wrap ((Go.bits .and .u64 (ji14) 4294967295) * (Go.bits .and .u64 (ji21) 4294967295))) + (rd x5_2 (ji22)))) + x8_2)) 4294967295)) := ⟨_, rfl⟩
                 replace H : (plumbref03_Mul.l1 k2 l0 l1 y181 x6_1 (Go.bits .and .u64 (ji14) 4294967295) ((IntKind.u64.wrap ((IntKind.u64.wrap ((IntKind.u64.wrap ((Go.bits .and .u64 (ji14) 4294967295) * (Go.bits .and .u64 (ji21) 4294967295))) + (rd x5_2 (ji22)))) + x8_2)) / 4294967296) (wrap64 (x9_2 + 1))) = some r := by first | (rw [hy181]; with_reducible exact H) | (have H2_ := (Option.bind_some _ _).symm.trans H; rw [hy181]; with_reducible exact H2_) | (have H2_ := (Option.bind_some _ _).symm.trans H; with_reducible exact H2_) | with_reducible exact H | (rw [hy181]; exact H) | exact H
                 have Ny181 := Aside0.mk hy181
                 clear hy181
                 have H' := Aside0.mk H
                 clear H
                 have p179 : 0 ≤ ((ji16) : Int) := of_decide_eq_true dS
                 have q179 : (ji16) < (l1.length : Int) := of_decide_eq_true dS
                 obtain ⟨ad179, e179, hx179_0⟩ := Kd.at_int HR1.out (ji16) p179 q179
                 cases e179
                 replace hx179_0 := (HB.out.cell (World.block_lt_of_cell? w _ hx179_0)).trans hx179_0
                 replace p179 := eq_true p179
                 replace q179 := eq_true q179
                 obtain ⟨Ao26, co26, eo26⟩ := Kd.R_slice HO_5.out
                 subst eo26
                 have p180 : 0 ≤ ((ji22) : Int) := of_decide_eq_true dS
                 have q180 : (ji22) < (x5_2.length : Int) := of_decide_eq_true dS
                 obtain ⟨ad180, e180, hx180_0⟩ := Kd.at_int (Kd.R_reads' HO_5.out).2.2 (ji22) p180 q180
                 cases e180
                 replace p180 := eq_true p180
                 replace q180 := eq_true q180
                 have p25 : 0 ≤ ((ji22) : Int) := of_decide_eq_true dS
                 have q25 : ((ji22) : Int) < ((x5_2.length : Int) : Int) := of_decide_eq_true dS
                 obtain ⟨go25, co25, eo25, gb25, gl25, cl25, HG25⟩ := Kd.R_form HO_5.out (by omega)
                 (first | cases eo25 | (injection eo25 with ea_ en_ ec_; (first | subst ea_ | (injection ea_ with ea_; subst ea_)); subst ec_; clear en_))
                 have GB25 := Aside0.mk gb25
                 have GG25 := Aside0.mk HG25
                 clear gb25 gl25 HG25
                 (first | simp only [add_plain] at hx180_0 | skip)
                 obtain ⟨hx25_0, hf25_0⟩ := Kd.R_celln 0 HO_5.out ((ji22) : Int) p25 q25
                 replace p25 := eq_true p25
                 replace q25 := eq_true q25
                 have HP27 := Kd.R_putg HO_5.out ((ji22) : Int) (Go.bits .and .u64 (IntKind.u64.wrap ((IntKind.u64.wrap ((IntKind.u64.wrap ((Go.bits .and .u64 (ji14) 4294967295) * (Go.bits .and .u64 (ji21) 4294967295))) + (rd x5_2 (ji22)))) + x8_2)) 4294967295)
                 go_wp2_with (first | ((with_reducible refine gate_store (t := 26) (p := 74) rfl ?_); refine store_event (t := 26) (p := 74) (v := ?vo_w28) (w1 := (wr.setCell ⟨go25, ((ji22) : Int).toNat, none⟩ (.int .u64 (Go.bits .and .u64 (IntKind.u64.wrap ((IntKind.u64.wrap ((IntKind.u64.wrap ((Go.bits .and .u64 (ji14) 4294967295) * (Go.bits .and .u64 (ji21) 4294967295))) + (rd x5_2 (ji22)))) + x8_2)) 4294967295)))) ?hg ?ho ?hn ?hr ?_; (case ho => rfl); (case hg => rfl); (case hn => rfl); (case hr => first | (go_simp; done) | (go_simp; rfl)); intro w28 hw; have hg : wr.grownBy w28 (some go25) := (by rw [hw]; exact HP27.2); have hp_ : Kd.R (Kd.int .u64) 26 w28 w.heap.size (fun _ => True) (.slice (some ⟨go25, 0, none⟩) x5_2.length co26) y181 := (by rw [hw, Ny181.out]; exact HP27.1); clear HP27; replace HO_5 := Aside0.mk (hp_); replace HB := Aside0.mk ((by rw [hw]; exact below_set (HB.out) GB25.out : Below w.heap.size w w28)); clear hg hw hp_))
                 go_roundg k2
                 case measure => have := HK1.out; have := HK2.out; omega
                 case rel => exact ⟨(y181), ((IntKind.u64.wrap ((IntKind.u64.wrap ((IntKind.u64.wrap ((Go.bits .and .u64 (ji14) 4294967295) * (Go.bits .and .u64 (ji21) 4294967295))) + (rd x5_2 (ji22)))) + x8_2)) / 4294967296), (wrap64 (x9_2 + 1)), (by first | rfl | (simp; done) | (simp only [← hji14, ← hji21, ← hji22] <;> (first | rfl | simp)) | (simp [*]; done)), dF, H', ⟨by have := HK1.out; have := HK2.out; omega⟩, ⟨dR HO_5.out⟩, ⟨dB⟩⟩
                ·rw [if_neg c24] at H
                 exact absurd H (by simp)
               ·rw [if_neg c23] at H
                exact absurd H (by simp)
              ·rw [if_neg c20] at H
               exact absurd H (by simp)
             ·rw [if_neg c18] at H
              exact absurd H (by simp)
            ·rw [if_neg c17] at H
             exact absurd H (by simp)
           ·rw [if_neg c15] at H
            have c15b0 : decide (x9_2 < (wrap64 (2 * (l1.length : Int)))) = false := decide_eq_false c15
            clear c15
            obtain ⟨ji29, hji29⟩ : ∃ j_ : Int, (wrap64 (x6_1 + (wrap64 (2 * (l1.length : Int))))) = j_ := ⟨_, rfl⟩
            replace H : (if 0 ≤ (ji29) then (if (ji29) < (x5_2.length : Int) then (plumbref03_Mul.l0 k2 l0 l1 (x5_2.set ((ji29) : Int).toNat (IntKind.u64.wrap ((rd x5_2 (ji29)) + x8_2))) (wrap64 (x6_1 + 1))) else (none)) else (none)) = some r := by first | (rw [hji29] at H; exact H) | (simp only [hji29] at H ⊢; exact H)
            have hji29w : (IntKind.i64.wrap (x6_1 + (wrap64 (2 * (l1.length : Int))))) = ji29 := (i64_w _).trans hji29
            by_cases c30 : (0 : Int) ≤ (ji29)
            ·rw [if_pos c30] at H
             have c30b0 : decide (0 ≤ (ji29)) = true := decide_eq_true c30
             clear c30
             by_cases c31 : (ji29) < (x5_2.length : Int)
             ·rw [if_pos c31] at H
              have c31b0 : decide ((ji29) < (x5_2.length : Int)) = true := decide_eq_true c31
              clear c31
              obtain ⟨y183, hy183⟩ : ∃ y_ : List Int, y_ = (x5_2.set ((ji29) : Int).toNat (IntKind.u64.wrap ((rd x5_2 (ji29)) + x8_2))) := ⟨_, rfl⟩
              replace H : (plumbref03_Mul.l0 k2 l0 l1 y183 (wrap64 (x6_1 + 1))) = some r := by first | (rw [hy183]; with_reducible exact H) | (have H2_ := (Option.bind_some _ _).symm.trans H; rw [hy183]; with_reducible exact H2_) | (have H2_ := (Option.bind_some _ _).symm.trans H; with_reducible exact H2_) | with_reducible exact H | (rw [hy183]; exact H) | exact H
              have Ny183 := Aside0.mk hy183
              clear hy183
              have H' := Aside0.mk H
              clear H
              obtain ⟨Ao33, co33, eo33⟩ := Kd.R_slice HO_5.out
              subst eo33
              have p182 : 0 ≤ ((ji29) : Int) := of_decide_eq_true dS
              have q182 : (ji29) < (x5_2.length : Int) := of_decide_eq_true dS
              obtain ⟨ad182, e182, hx182_0⟩ := Kd.at_int (Kd.R_reads' HO_5.out).2.2 (ji29) p182 q182
              cases e182
              replace p182 := eq_true p182
              replace q182 := eq_true q182
              have p32 : 0 ≤ ((ji29) : Int) := of_decide_eq_true dS
              have q32 : ((ji29) : Int) < ((x5_2.length : Int) : Int) := of_decide_eq_true dS
              obtain ⟨go32, co32, eo32, gb32, gl32, cl32, HG32⟩ := Kd.R_form HO_5.out (by omega)
              (first | cases eo32 | (injection eo32 with ea_ en_ ec_; (first | subst ea_ | (injection ea_ with ea_; subst ea_)); subst ec_; clear en_))
              have GB32 := Aside0.mk gb32
              have GG32 := Aside0.mk HG32
              clear gb32 gl32 HG32
              (first | simp only [add_plain] at hx182_0 | skip)
              obtain ⟨hx32_0, hf32_0⟩ := Kd.R_celln 0 HO_5.out ((ji29) : Int) p32 q32
              replace p32 := eq_true p32
              replace q32 := eq_true q32
              have HP34 := Kd.R_putg HO_5.out ((ji29) : Int) (IntKind.u64.wrap ((rd x5_2 (ji29)) + x8_2))
              go_wp2_with (first | ((with_reducible refine gate_store (t := 26) (p := 93) rfl ?_); refine store_event (t := 26) (p := 93) (v := ?vo_w35) (w1 := (wr.setCell ⟨go32, ((ji29) : Int).toNat, none⟩ (.int .u64 (IntKind.u64.wrap ((rd x5_2 (ji29)) + x8_2))))) ?hg ?ho ?hn ?hr ?_; (case ho => rfl); (case hg => rfl); (case hn => rfl); (case hr => first | (go_simp; done) | (go_simp; rfl)); intro w35 hw; have hg : wr.grownBy w35 (some go32) := (by rw [hw]; exact HP34.2); have hp_ : Kd.R (Kd.int .u64) 26 w35 w.heap.size (fun _ => True) (.slice (some ⟨go32, 0, none⟩) x5_2.length co33) y183 := (by rw [hw, Ny183.out]; exact HP34.1); clear HP34; replace HO_5 := Aside0.mk (hp_); replace HB := Aside0.mk ((by rw [hw]; exact below_set (HB.out) GB32.out : Below w.heap.size w w35)); clear hg hw hp_))
              go_roundg k2
              case measure => have := HK1.out; have := HK2.out; omega
              case rel => exact ⟨(y183), (wrap64 (x6_1 + 1)), dF, H', ⟨by have := HK1.out; have := HK2.out; omega⟩, ⟨dR HO_5.out⟩, ⟨dB⟩⟩
             ·rw [if_neg c31] at H
              exact absurd H (by simp)
            ·rw [if_neg c30] at H
             exact absurd H (by simp)
        ·rw [if_neg c13] at H
         exact absurd H (by simp)
       ·rw [if_neg c11] at H
        exact absurd H (by simp)
      ·rw [if_neg c10] at H
       exact absurd H (by simp)
     ·rw [if_neg c8] at H
      have c8b0 : decide (x6_1 < (wrap64 (2 * (l0.length : Int)))) = false := decide_eq_false c8
      clear c8
      have H' := Aside0.mk H
      clear H
      go_wp2
      go_loopg [12, 13] k1 (fun kq v12 v13 w' => ∃ (x12_2 : List Int) (x13_2 : Int), v13 = .int .i64 x13_2 ∧ Aside0 (plumbref03_Mul.l2 kq x5_1 x12_2 x13_2 = some r) ∧ Aside0 (kq ≤ k1) ∧ Aside0 (Kd.R (Kd.int .u64) 26 w' w.heap.size (fun k_ => some k_ ≠ (v12 : Value).ownBlock) v176 x5_1) ∧ Aside0 (Kd.R (Kd.int .u64) 26 w' w.heap.size (fun k_ => some k_ ≠ (v176 : Value).ownBlock) v12 x12_2) ∧ Aside0 (Below w.heap.size w w'))
      case atStart => exact ⟨(([] : List Int)), (0), dF, H', ⟨Nat.le_refl _⟩, ⟨by (with_reducible repeat (first | apply Kd.R_alloc | apply Kd.R_drewN | apply Kd.R_drew)); exact Kd.R_mono HO_5.out (fun _ hk => (by simp [Value.ownBlock]))⟩, ⟨by first | exact Kd.R_nil _ _ _ _ _ | exact Kd.N_nil _ _ _ _ _ | exact Kd.V_nil _ _ _ _ _ | exact Kd.Q_nil _ _ _ _ _ | exact Kd.S_nil _ _ _ _ _⟩, ⟨dB⟩⟩
      case round =>
       clear H'
       try clear c1
       try clear p1
       try clear q1
       try clear hx1
       try clear c2
       try clear p2
       try clear q2
       try clear hx2
       try clear hf2
       try clear c3
       try clear p3
       try clear q3
       try clear hx3
       try clear hf3
       try clear c4
       try clear c4b0
       try clear c4b1
       try clear c5
       try clear c5b0
       try clear c5b1
       try clear p6
       try clear c8
       try clear c8b0
       try clear c10
       try clear c10b0
       try clear c11
       try clear c11b0
       try clear c13
       try clear c13b0
       try clear c13b1
       try clear c15
       try clear c15b0
       try clear c17
       try clear c17b0
       try clear p17
       try clear q17
       try clear hx17
       try clear c18
       try clear c18b0
       try clear p18
       try clear q18
       try clear hx18
       try clear c20
       try clear c20b0
       try clear c20b1
       try clear c23
       try clear c23b0
       try clear c24
       try clear c24b0
       try clear p25
       try clear q25
       try clear hx25
       try clear hf25
       try clear c30
       try clear c30b0
       try clear c31
       try clear c31b0
       try clear p32
       try clear q32
       try clear hx32
       try clear hf32
       try clear hx178_0
       try clear hx179_0
       try clear hx180_0
       try clear hx182_0
       try clear hx25_0
       try clear hx32_0
       try clear p1
       try clear p178
       try clear p179
       try clear p180
       try clear p182
       try clear p2
       try clear p25
       try clear p32
       try clear p6
       try clear q1
       try clear q178
       try clear q179
       try clear q180
       try clear q182
       try clear q25
       try clear q32
       obtain ⟨x12_2, x13_2, rfl, HA, HK2, HO_5, HO_12, HB⟩ := hrel
       cases gk with
       | zero => exact absurd HA.out (by simp [plumbref03_Mul.l2])
       | succ k2 =>
        have H := HA.out
        clear HA
        simp only [plumbref03_Mul.l2] at H
        by_cases c36 : (wrap64 (x13_2 + 1)) < (x5_1.length : Int)
        ·rw [if_pos c36] at H
         have c36b0 : decide ((wrap64 (x13_2 + 1)) < (x5_1.length : Int)) = true := decide_eq_true c36
         clear c36
         by_cases c37 : (0 : Int) ≤ x13_2
         ·rw [if_pos c37] at H
          have c37b0 : decide (0 ≤ x13_2) = true := decide_eq_true c37
          clear c37
          by_cases c38 : x13_2 < (x5_1.length : Int)
          ·rw [if_pos c38] at H
           have c38b0 : decide (x13_2 < (x5_1.length : Int)) = true := decide_eq_true c38
           clear c38
           obtain ⟨ji39, hji39⟩ : ∃ j_ : Int, (wrap64 (x13_2 + 1)) = j_ := ⟨_, rfl⟩
           replace H : (if 0 ≤ (ji39) then (if x12_2.length < 17592186044416 then (plumbref03_Mul.l2 k2 x5_1 (x12_2 ++ [Go.bits .or .u64 (rd x5_1 x13_2) (IntKind.u64.wrap ((rd x5_1 (ji39)) * 4294967296))]) (wrap64 (x13_2 + 2))) else (none)) else (none)) = some r := by first | (rw [hji39] at H; exact H) | (simp only [hji39] at H ⊢; exact H)
           (try rw [hji39] at c36b0)
           have hji39w : (IntKind.i64.wrap (x13_2 + 1)) = ji39 := (i64_w _).trans hji39
           by_cases c40 : (0 : Int) ≤ (ji39)
           ·rw [if_pos c40] at H
            have c40b0 : decide (0 ≤ (ji39)) = true := decide_eq_true c40
            clear c40
            by_cases c41 : x12_2.length < 17592186044416
            ·rw [if_pos c41] at H
             have LMc41 := Aside0.mk c41
             clear c41
             obtain ⟨y186, hy186⟩ : ∃ y_ : List Int, y_ = (x12_2 ++ [Go.bits .or .u64 (rd x5_1 x13_2) (IntKind.u64.wrap ((rd x5_1 (ji39)) * 4294967296))]) := ⟨_, rfl⟩
             replace H : (plumbref03_Mul.l2 k2 x5_1 y186 (wrap64 (x13_2 + 2))) = some r := by first | (rw [hy186]; with_reducible exact H) | (have H2_ := (Option.bind_some _ _).symm.trans H; rw [hy186]; with_reducible exact H2_) | (have H2_ := (Option.bind_some _ _).symm.trans H; with_reducible exact H2_) | with_reducible exact H | (rw [hy186]; exact H) | exact H
             have Ny186 := Aside0.mk hy186
             clear hy186
             have H' := Aside0.mk H
             clear H
             obtain ⟨Ao42, co42, eo42⟩ := Kd.R_slice HO_5.out
             subst eo42
             try go_wp2
             replace HO_5 := Aside0.mk (Kd.R_drew HO_5.out)
             replace HO_12 := Aside0.mk (Kd.R_drew HO_12.out)
             replace HB := Aside0.mk (below_drew1 HB.out)
             have p184 : 0 ≤ (x13_2 : Int) := of_decide_eq_true dS
             have q184 : x13_2 < (x5_1.length : Int) := of_decide_eq_true dS
             obtain ⟨ad184, e184, hx184_0⟩ := Kd.at_int (Kd.R_reads' HO_5.out).2.2 x13_2 p184 q184
             cases e184
             replace p184 := eq_true p184
             replace q184 := eq_true q184
             have p185 : 0 ≤ ((ji39) : Int) := of_decide_eq_true dS
             have q185 : (ji39) < (x5_1.length : Int) := of_decide_eq_true dS
             obtain ⟨ad185, e185, hx185_0⟩ := Kd.at_int (Kd.R_reads' HO_5.out).2.2 (ji39) p185 q185
             obtain rfl : ad184 = ad185 := (by injection e185)
             replace p185 := eq_true p185
             replace q185 := eq_true q185
             refine start_ (n := 15) (S := fun w' => w'.cell? (ad184.add (x13_2).toNat) = some (.int .u64 (rd x5_1 x13_2)) ∧ w'.cell? (ad184.add ((ji39)).toNat) = some (.int .u64 (rd x5_1 (ji39)))) (ds := [12, 13]) #[false, false, false, false, false, false, false, false, false, false, false, false, false, false, false] (by kernel_rfl) rfl rfl ⟨hx184_0, hx185_0⟩ (fun hHeld => ?_); refine with_tabW plumbref03_Mul.tab19 plumbref03_Mul.bits19 (fun HT_ HW_ => ?_)
             generalize wr.drew = w43 at HO_5 HO_12 HB hx184_0 hx185_0 hHeld ⊢
             refine pure_ (i := 0) (N := some 101) (v := ?_) (a' := ?_) #[true, false, false, false, false, false, false, false, false, false, false, false, false, false, false] rfl rfl dT (fun _ _ _ h => h) (Or.inl ⟨by rfl, ?_⟩) ?_ ?_
             rotate_left
             ·intro w'
              go_simp
              with_reducible rfl
             rotate_left
             ·simp only [Act.put, List.setIfInBounds_toArray, List.set_cons_zero, List.set_cons_succ, i64_w, i32_w]
              rfl
             refine pure_ (i := 1) (N := some 102) (v := ?_) (a' := ?_) #[true, true, false, false, false, false, false, false, false, false, false, false, false, false, false] rfl rfl dT (fun _ _ _ h => h) (Or.inl ⟨by rfl, ?_⟩) ?_ ?_
             rotate_left
             ·intro w'
              go_simp
              with_reducible rfl
             rotate_left
             ·simp only [Act.put, List.setIfInBounds_toArray, List.set_cons_zero, List.set_cons_succ, i64_w, i32_w]
              rfl
             refine pure_ (i := 2) (N := some 103) (v := ?_) (a' := ?_) #[true, true, true, false, false, false, false, false, false, false, false, false, false, false, false] rfl rfl dT (fun _ _ _ h => h) (Or.inl ⟨by rfl, ?_⟩) ?_ ?_
             rotate_left
             ·intro w'
              go_simp
              with_reducible rfl
             rotate_left
             ·simp only [Act.put, List.setIfInBounds_toArray, List.set_cons_zero, List.set_cons_succ, i64_w, i32_w]
              rfl
             refine pure_ (i := 3) (N := some 104) (v := ?_) (a' := ?_) #[true, true, true, true, false, false, false, false, false, false, false, false, false, false, false] rfl rfl dT (fun _ _ _ h => h) (Or.inl ⟨by rfl, ?_⟩) ?_ ?_
             rotate_left
             ·intro w'
              go_simp
              with_reducible rfl
             rotate_left
             ·simp only [Act.put, List.setIfInBounds_toArray, List.set_cons_zero, List.set_cons_succ, i64_w, i32_w]
              rfl
             refine pure_ (i := 5) (N := some 106) (v := ?_) (a' := ?_) #[true, true, true, true, false, true, false, false, false, false, false, false, false, false, false] rfl rfl dT (fun _ _ _ h => h) (Or.inl ⟨by rfl, ?_⟩) ?_ ?_
             rotate_left
             ·intro w'
              go_simp
              with_reducible rfl
             rotate_left
             ·simp only [Act.put, List.setIfInBounds_toArray, List.set_cons_zero, List.set_cons_succ, i64_w, i32_w]
              rfl
             refine pure_ (i := 6) (N := some 107) (v := ?_) (a' := ?_) #[true, true, true, true, false, true, true, false, false, false, false, false, false, false, false] rfl rfl dT (fun _ _ _ h => h) (Or.inl ⟨by rfl, ?_⟩) ?_ ?_
             rotate_left
             ·intro w'
              go_simp
              with_reducible rfl
             rotate_left
             ·simp only [Act.put, List.setIfInBounds_toArray, List.set_cons_zero, List.set_cons_succ, i64_w, i32_w]
              rfl
             refine pure_ (i := 7) (N := some 108) (v := ?_) (a' := ?_) #[true, true, true, true, false, true, true, true, false, false, false, false, false, false, false] rfl rfl dT (fun _ _ _ h => h) (Or.inl ⟨by rfl, ?_⟩) ?_ ?_
             rotate_left
             ·intro w'
              go_simp
              with_reducible rfl
             rotate_left
             ·simp only [Act.put, List.setIfInBounds_toArray, List.set_cons_zero, List.set_cons_succ, i64_w, i32_w]
              rfl
             refine pure_ (i := 8) (N := some 109) (v := ?_) (a' := ?_) #[true, true, true, true, false, true, true, true, true, false, false, false, false, false, false] rfl rfl dT (fun _ _ _ h => h) (Or.inl ⟨by rfl, ?_⟩) ?_ ?_
             rotate_left
             ·intro w'
              go_simp
              with_reducible rfl
             rotate_left
             ·simp only [Act.put, List.setIfInBounds_toArray, List.set_cons_zero, List.set_cons_succ, i64_w, i32_w]
              rfl
             refine take_ (i := 4) (N := some 105) (v := ?_) (a' := ?_) #[true, true, true, true, true, true, true, true, true, false, false, false, false, false, false] rfl rfl (take_ofW HT_.out HW_.out (by kernel_rfl)) (fun _ _ _ h => h) (Or.inl ⟨by rfl, ?_⟩) hHeld ?_ ?_
             rotate_left
             ·rintro w' ⟨s0, s1⟩
              go_simp
              with_reducible rfl
             rotate_left
             ·simp only [Act.put, List.setIfInBounds_toArray, List.set_cons_zero, List.set_cons_succ, i64_w, i32_w]
              rfl
             refine take_ (i := 9) (N := some 110) (v := ?_) (a' := ?_) #[true, true, true, true, true, true, true, true, true, true, false, false, false, false, false] rfl rfl (take_ofW HT_.out HW_.out (by kernel_rfl)) (fun _ _ _ h => h) (Or.inl ⟨by rfl, ?_⟩) hHeld ?_ ?_
             rotate_left
             ·rintro w' ⟨s0, s1⟩
              go_simp
              with_reducible rfl
             rotate_left
             ·simp only [Act.put, List.setIfInBounds_toArray, List.set_cons_zero, List.set_cons_succ, i64_w, i32_w]
              rfl
             refine pure_ (i := 10) (N := some 111) (v := ?_) (a' := ?_) #[true, true, true, true, true, true, true, true, true, true, true, false, false, false, false] rfl rfl dT (fun _ _ _ h => h) (Or.inl ⟨by rfl, ?_⟩) ?_ ?_
             rotate_left
             ·intro w'
              go_simp
              with_reducible rfl
             rotate_left
             ·simp only [Act.put, List.setIfInBounds_toArray, List.set_cons_zero, List.set_cons_succ, i64_w, i32_w]
              rfl
             refine pure_ (i := 11) (N := some 112) (v := ?_) (a' := ?_) #[true, true, true, true, true, true, true, true, true, true, true, true, false, false, false] rfl rfl dT (fun _ _ _ h => h) (Or.inl ⟨by rfl, ?_⟩) ?_ ?_
             rotate_left
             ·intro w'
              go_simp
              with_reducible rfl
             rotate_left
             ·simp only [Act.put, List.setIfInBounds_toArray, List.set_cons_zero, List.set_cons_succ, i64_w, i32_w]
              rfl
             refine last_ (i := 12) (N := some 113) #[true, true, true, true, true, true, true, true, true, true, true, true, true, false, false] rfl rfl (one_of HT_.out (by kernel_rfl)) (by decide) (fun K hK => ?_)
             refine value_ (w1 := ?_) (v := ?_) (by rfl) rfl ?_ ?_
             rotate_left 2
             ·go_simp
              constructor
              ·rfl
              ·rfl
             refine hK.out _ _ ?_
             clear hK K
             refine norm_ (a' := ?_) ?_ ?_
             rotate_left
             ·show Act.put _ (some 113) _ = _
              simp only [Act.put, List.setIfInBounds_toArray, List.set_cons_zero, List.set_cons_succ, i64_w, i32_w]
              rfl
             refine last_ (i := 13) (N := some 114) #[true, true, true, true, true, true, true, true, true, true, true, true, true, true, false] rfl rfl (one_of HT_.out (by kernel_rfl)) (by decide) (fun K hK => ?_)
             refine Kd.R_append_step (Kd.int .u64) (w0 := w) w.heap.size (by rfl) (.tmp 101) (.tmp 113) 22 26 (.int .u64 0) 8 rfl Tryd.underlying22 info26 rfl (by decide) (by omega) u12 x12_2 (Go.bits .or .u64 (rd x5_1 x13_2) (IntKind.u64.wrap ((rd x5_1 (ji39)) * 4294967296))) [.int .u64 (Go.bits .or .u64 (rd x5_1 x13_2) (IntKind.u64.wrap ((rd x5_1 (ji39)) * 4294967296)))] (fun k_ => some k_ ≠ (.slice (some ad184) x5_1.length co42 : Value).ownBlock) (fun _ => False) rfl rfl ?aP (fun _ hk => hk.elim) ?aF ?aO ?aB ?aS ?aL ?_
             (case aP => exact rfl)
             (case aB => exact dB)
             (case aF => exact (fun k_ hk => Kd.fresh' (Kd.R_lt (dR HO_5.out)) k_ hk))
             (case aO => exact (dR HO_12.out))
             (case aS => exact (below_size dB))
             (case aL => have := LMc41.out; omega)
             intro v187 w44 ho hb hg hat
             rw [← Ny186.out] at ho
             replace HO_5 := Aside0.mk (Kd.R_after (ok := (fun _ => True)) (by (with_reducible repeat (first | apply Kd.R_alloc | apply Kd.R_drewN | apply Kd.R_drew)); exact Kd.R_mono HO_5.out (fun _ hk => ⟨trivial, hk⟩)) hg hat)
             replace HB := Aside0.mk (hb)
             have HO188 := Aside0.mk (ho)
             clear HO_12
             clear ho hb hg hat
             refine hK.out _ _ ?_
             clear hK K
             refine norm_ (a' := ?_) ?_ ?_
             rotate_left
             ·show Act.put _ (some 114) _ = _
              simp only [Act.put, List.setIfInBounds_toArray, List.set_cons_zero, List.set_cons_succ, i64_w, i32_w]
              rfl
             refine pure_ (i := 14) (N := some 12) (v := ?_) (a' := ?_) #[true, true, true, true, true, true, true, true, true, true, true, true, true, true, true] rfl rfl dT (fun _ _ _ h => h) (Or.inl ⟨by rfl, ?_⟩) ?_ ?_
             rotate_left
             ·intro w'
              go_simp
              with_reducible rfl
             rotate_left
             ·simp only [Act.put, List.setIfInBounds_toArray, List.set_cons_zero, List.set_cons_succ, i64_w, i32_w]
              rfl
             refine done_ (done_of HT_.out (by kernel_rfl)) ?_
             try go_wp2
             go_roundg k2
             case measure => have := HK1.out; have := HK2.out; omega
             case rel => exact ⟨(y186), (wrap64 (x13_2 + 2)), dF, H', ⟨by have := HK1.out; have := HK2.out; omega⟩, ⟨by (with_reducible repeat (first | apply Kd.R_alloc | apply Kd.R_drewN | apply Kd.R_drew)); exact Kd.R_mono HO_5.out (fun _ hk => hk.2)⟩, ⟨dR HO188.out⟩, ⟨dB⟩⟩
            ·rw [if_neg c41] at H
             exact absurd H (by simp)
           ·rw [if_neg c40] at H
            exact absurd H (by simp)
          ·rw [if_neg c38] at H
           exact absurd H (by simp)
         ·rw [if_neg c37] at H
          exact absurd H (by simp)
        ·rw [if_neg c36] at H
         have c36b0 : decide ((wrap64 (x13_2 + 1)) < (x5_1.length : Int)) = false := decide_eq_false c36
         clear c36
         replace H := obe H
         obtain ⟨t189, A450, H⟩ := H
         replace H : (some t189) = some r := H
         have A45 := Aside0.mk A450
         clear A450
         obtain rfl := Option.some.inj H
         obtain ⟨Ao46, co46, eo46⟩ := Kd.R_slice HO_5.out
         subst eo46
         obtain ⟨Ao47, co47, eo47⟩ := Kd.R_slice HO_12.out
         subst eo47
         go_wp2_with (first | ((with_reducible refine gate_callee (f := 47) rfl ?_); refine gL (some 116) Tryd.func47 #[.slice Ao47 x12_2.length co47] ?_; (with_reducible refine (plumbref03_Norm.calls k2 _ _ x12_2 t189 _ ?side1 ?side2 A45.out).mono ?_); (case side1 => exact dC (Kd.R_reads' HO_12.out).2.2); (case side2 => exact (Kd.R_reads' HO_12.out).2.1); rintro e w48 ⟨v190, rfl, ho0, hb⟩; refine ⟨_, rfl, ?_⟩; have HO191 := Aside0.mk (Kd.R_lower (Kd.R_new' (Kd.R_new' ho0 (Kd.R_lt (dR HO_5.out))) (Kd.R_lt (dR HO_12.out))) (below_size dB)); replace HO_5 := Aside0.mk (Kd.R_elder' (dR HO_5.out) (Kd.R_base ho0) hb); replace HO_12 := Aside0.mk (Kd.R_elder' (dR HO_12.out) (Kd.R_base ho0) hb); replace HB := Aside0.mk (below_step dB hb); (try clear hb); (try clear ho0)))
         go_ret
         exact ⟨_, by first | rfl | (simp [errW_none, errW_some] <;> rfl) | (simp only [← hji3]; first | rfl | (simp [errW_none, errW_some] <;> rfl)) | (simp [*, errW_none, errW_some] <;> rfl), by (with_reducible repeat (first | apply Kd.R_alloc | apply Kd.R_drewN | apply Kd.R_drew)); exact Kd.R_mono HO191.out (fun _ hk => trivial), dB⟩
  ·rw [if_neg c5] at H
   exact absurd H (by simp)
 ·rw [if_neg c4] at H
  exact absurd H (by simp)

end Go.Proofs.YtoefabmlkbhmpaaDoor.PA
