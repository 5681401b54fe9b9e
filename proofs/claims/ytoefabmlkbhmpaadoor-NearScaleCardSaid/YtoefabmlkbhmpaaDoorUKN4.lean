/- A part of the proof (4). -/
import Derived.Test.YtoefabmlkbhmpaaDoorUKN2
import Derived.Test.YtoefabmlkbhmpaaDoorUKN3
namespace Go.Proofs.YtoefabmlkbhmpaaDoor.PA
open Go.RowKit Go.Proofs.YtoefabmlkbhmpaaDoorW.PrintWords Go.Proofs.YtoefabmlkbhmpaaDoorW.PrintLast Go.Proofs.YtoefabmlkbhmpaaDoorW.PrintMore
attribute [local go_sem] max2_int min2_int max_two min_two max_three min_three max_four min_four   -- for this text's walks alone
set_option linter.unusedVariables false
set_option linter.unusedSimpArgs false

/-! ### nat_Shr: function 44 -/
def nat_Shr.l0 : Nat → List Int → Int → List Int → Int → Int → Int → Option (List Int × Bool × Int)
 | 0, _, _, _, _, _, _ => none
 | k + 1, x0, x1, x8, x9, x39, x40 => if x40 < x39 then (if (wrap64 (x40 + 1)) < (x8.length : Int) then (if 0 ≤ (wrap64 (x40 + 1)) then (if 0 ≤ x40 then (if x40 < (x8.length : Int) then ((wide_Shr.f (rd x8 (wrap64 (x40 + 1))) (rd x8 x40) x9).bind fun bt120 => (nat_Shr.l0 k x0 x1 (x8.set (x40 : Int).toNat bt120.2.1) x9 x39 (wrap64 (x40 + 1)))) else (none)) else (none)) else (none)) else (if 0 ≤ x40 then (if x40 < (x8.length : Int) then ((wide_Shr.f 0 (rd x8 x40) x9).bind fun bt125 => (nat_Shr.l0 k x0 x1 (x8.set (x40 : Int).toNat bt125.2.1) x9 x39 (wrap64 (x40 + 1)))) else (none)) else (none))) else ((nat_bound.f k x8).bind fun bt129 => ((nat_Zeros.f k x0).bind fun t133 => (some (bt129.1, decide (t133 < x1), bt129.2))))
def nat_Shr.f (k : Nat) (l0 : List Int) (a1 : Int) : Option (List Int × Bool × Int) := (nat_Bits.f k l0).bind fun t113 => (if a1 < 0 then (some (([] : List Int), false, 22)) else (if a1 ≥ t113 then (some (([] : List Int), decide (t113 > 0), 0)) else (if (wrap64 (t113 - a1)) > 262144 then (some (([] : List Int), false, 21)) else (if 0 ≤ (wrap64 (Int.tdiv a1 64)) then (if (wrap64 (Int.tdiv a1 64)) ≤ (l0.length : Int) then ((nat_Norm.f (l0.drop ((wrap64 (Int.tdiv a1 64)) : Int).toNat)).bind fun t115 => (if (Int.tmod a1 64) > 0 then (nat_Shr.l0 k l0 a1 t115 (Int.tmod a1 64) (t115.length : Int) 0) else ((nat_bound.f k t115).bind fun bt134 => ((nat_Zeros.f k l0).bind fun t138 => (some (bt134.1, decide (t138 < a1), bt134.2)))))) else (none)) else (none)))))
set_option maxHeartbeats 8000000 in
set_option maxRecDepth 100000 in
theorem nat_Shr.calls (k : Nat) (A0 : Option Addr) (c0 : Nat) (l0 : List Int) (a1 : Int) (r1 : List Int) (r2 : Bool) (r3 : Int) (w : World) (hr0 : Kd.C (Kd.int .u64) w A0 l0.length l0) (hc0 : l0.length ≤ c0) (h : nat_Shr.f k l0 a1 = some (r1, r2, r3)) :
  Calls Tryd.prog 44 #[.slice A0 l0.length c0, .int .i64 a1] w fun e w' => ∃ v0_ : Value, e = .returned (.tuple #[v0_, .bool r2, .int .i64 r3]) ∧ Kd.R (Kd.int .u64) 26 w' w.heap.size (fun _ => True) v0_ r1 ∧ Below w.heap.size w w' := by
 have HR0 := Aside0.mk hr0
 have HC0 := Aside0.mk hc0
 clear hr0 hc0
 have HB := Aside0.mk (Below.refl w.heap.size w)
 have H : ((nat_Bits.f k l0).bind fun t113 => (if a1 < 0 then (some (([] : List Int), false, 22)) else (if a1 ≥ t113 then (some (([] : List Int), decide (t113 > 0), 0)) else (if (wrap64 (t113 - a1)) > 262144 then (some (([] : List Int), false, 21)) else (if 0 ≤ (wrap64 (Int.tdiv a1 64)) then (if (wrap64 (Int.tdiv a1 64)) ≤ (l0.length : Int) then ((nat_Norm.f (l0.drop ((wrap64 (Int.tdiv a1 64)) : Int).toNat)).bind fun t115 => (if (Int.tmod a1 64) > 0 then (nat_Shr.l0 k l0 a1 t115 (Int.tmod a1 64) (t115.length : Int) 0) else ((nat_bound.f k t115).bind fun bt134 => ((nat_Zeros.f k l0).bind fun t138 => (some (bt134.1, decide (t138 < a1), bt134.2)))))) else (none)) else (none)))))) = some (r1, r2, r3) := h
 clear h
 replace H := obe H
 obtain ⟨t113, A30, H⟩ := H
 (try dsimp only at H)
 have A3 := Aside0.mk A30
 clear A30
 by_cases c4 : a1 < 0
 ·rw [if_pos c4] at H
  have c4b0 : decide (a1 < 0) = true := decide_eq_true c4
  clear c4
  simp only [Option.some.injEq, Prod.mk.injEq] at H
  obtain ⟨rfl, rfl, rfl⟩ := H
  go_enter Tryd.func44, Tryd.ntmps44
  go_wp2_with (first | ((with_reducible refine gate_callee (f := 43) rfl ?_); refine gL (some 14) Tryd.func43 #[.slice A0 l0.length c0] ?_; (with_reducible refine (nat_Bits.calls k _ _ l0 t113 _ ?side1 ?side2 A3.out).mono ?_); (case side1 => exact dC HR0.out); (case side2 => exact HC0.out); rintro e w' ⟨rfl, ⟨nd, rfl⟩⟩; refine ⟨_, rfl, ?_⟩))
  go_ret3
  exact ⟨_, dE, by first | exact Kd.R_nil _ _ _ _ _ | exact Kd.N_nil _ _ _ _ _ | exact Kd.V_nil _ _ _ _ _ | exact Kd.Q_nil _ _ _ _ _ | exact Kd.S_nil _ _ _ _ _, dB⟩
 ·rw [if_neg c4] at H
  have c4b0 : decide (a1 < 0) = false := decide_eq_false c4
  clear c4
  by_cases c5 : a1 ≥ t113
  ·rw [if_pos c5] at H
   have c5b0 : decide (t113 ≤ a1) = true := decide_eq_true c5
   clear c5
   simp only [Option.some.injEq, Prod.mk.injEq] at H
   obtain ⟨rfl, rfl, rfl⟩ := H
   go_enter Tryd.func44, Tryd.ntmps44
   go_wp2_with (first | ((with_reducible refine gate_callee (f := 43) rfl ?_); refine gL (some 14) Tryd.func43 #[.slice A0 l0.length c0] ?_; (with_reducible refine (nat_Bits.calls k _ _ l0 t113 _ ?side1 ?side2 A3.out).mono ?_); (case side1 => exact dC HR0.out); (case side2 => exact HC0.out); rintro e w' ⟨rfl, ⟨nd, rfl⟩⟩; refine ⟨_, rfl, ?_⟩))
   go_ret3
   exact ⟨_, dE, by first | exact Kd.R_nil _ _ _ _ _ | exact Kd.N_nil _ _ _ _ _ | exact Kd.V_nil _ _ _ _ _ | exact Kd.Q_nil _ _ _ _ _ | exact Kd.S_nil _ _ _ _ _, dB⟩
  ·rw [if_neg c5] at H
   have c5b0 : decide (t113 ≤ a1) = false := decide_eq_false c5
   clear c5
   by_cases c6 : (wrap64 (t113 - a1)) > 262144
   ·rw [if_pos c6] at H
    have c6b0 : decide (262144 < (wrap64 (t113 - a1))) = true := decide_eq_true c6
    clear c6
    simp only [Option.some.injEq, Prod.mk.injEq] at H
    obtain ⟨rfl, rfl, rfl⟩ := H
    go_enter Tryd.func44, Tryd.ntmps44
    go_wp2_with (first | ((with_reducible refine gate_callee (f := 43) rfl ?_); refine gL (some 14) Tryd.func43 #[.slice A0 l0.length c0] ?_; (with_reducible refine (nat_Bits.calls k _ _ l0 t113 _ ?side1 ?side2 A3.out).mono ?_); (case side1 => exact dC HR0.out); (case side2 => exact HC0.out); rintro e w' ⟨rfl, ⟨nd, rfl⟩⟩; refine ⟨_, rfl, ?_⟩))
    go_ret3
    exact ⟨_, dE, by first | exact Kd.R_nil _ _ _ _ _ | exact Kd.N_nil _ _ _ _ _ | exact Kd.V_nil _ _ _ _ _ | exact Kd.Q_nil _ _ _ _ _ | exact Kd.S_nil _ _ _ _ _, dB⟩
   ·rw [if_neg c6] at H
    have c6b0 : decide (262144 < (wrap64 (t113 - a1))) = false := decide_eq_false c6
    clear c6
    obtain ⟨ji7, hji7⟩ : ∃ j_ : Int, (wrap64 (Int.tdiv a1 64)) = j_ := ⟨_, rfl⟩
    first | rw [hji7] at H | simp only [hji7] at H
    (try rw [hji7] at A3)
    have hji7w : (IntKind.i64.wrap (Int.tdiv a1 64)) = ji7 := (i64_w _).trans hji7
    by_cases c8 : (0 : Int) ≤ (ji7)
    ·rw [if_pos c8] at H
     have c8b0 := eq_true c8
     have c8b1 : decide (0 ≤ (ji7)) = true := decide_eq_true c8
     clear c8
     by_cases c9 : (ji7) ≤ (l0.length : Int)
     ·rw [if_pos c9] at H
      have c9b0 := eq_true c9
      have c9b1 : decide ((ji7) ≤ (l0.length : Int)) = true := decide_eq_true c9
      clear c9
      replace H := obe H
      obtain ⟨t115, A100, H⟩ := H
      (try dsimp only at H)
      have A10 := Aside0.mk A100
      clear A100
      by_cases c11 : (Int.tmod a1 64) > 0
      ·rw [if_pos c11] at H
       have c11b0 : decide (0 < (Int.tmod a1 64)) = true := decide_eq_true c11
       clear c11
       have H' := Aside0.mk H
       clear H
       go_enter Tryd.func44, Tryd.ntmps44
       go_wp2_with (first | ((with_reducible refine gate_callee (f := 43) rfl ?_); refine gL (some 14) Tryd.func43 #[.slice A0 l0.length c0] ?_; (with_reducible refine (nat_Bits.calls k _ _ l0 t113 _ ?side1 ?side2 A3.out).mono ?_); (case side1 => exact dC HR0.out); (case side2 => exact HC0.out); rintro e w' ⟨rfl, ⟨nd, rfl⟩⟩; refine ⟨_, rfl, ?_⟩; obtain ⟨i012, hi012, _, hsz12, _⟩ := info_parts info26; obtain ⟨A12, hcut12, hA12, hC12⟩ := print_drop_of (P := Tryd.prog) (Value.int .u64) 0 22 26 .i64 Tryd.underlying22 hi012 hsz12 A0 c0 l0 (ji7) (of_decide_eq_true dS) (of_decide_eq_true dS) HC0.out; have HR114 := Aside0.mk (Kd.C_of_reads (h1 := fun _ => rfl) (hA12 _ (Kd.reads_of_C HR0.out))); have HC114 := Aside0.mk hC12; clear hA12 hC12 hi012 hsz12) | ((with_reducible refine gate_callee (f := 51) rfl ?_); refine goesL_ (some 33) rfl rfl Tryd.func51 (by kernel_rfl) rfl #[.slice A12 (l0.drop ((ji7) : Int).toNat).length (c0 - (ji7).toNat)] rfl (by (try simp only [List.map_toArray, List.map_cons, List.map_nil]); first | done | (rw [show (l0.drop ((ji7) : Int).toNat).length = (l0.length - (ji7).toNat) from List.length_drop] <;> rfl) | (simp only [hji7]; rfl) | rfl | (simp only [List.length_drop, List.length_take]; rfl)) ?_; (with_reducible refine (nat_Norm.calls _ _ (l0.drop ((ji7) : Int).toNat) t115 _ ?side1 ?side2 A10.out).mono ?_); (case side1 => exact dC HR114.out); (case side2 => exact HC114.out); rintro e w13 ⟨v116, rfl, ho0, hb⟩; refine ⟨_, rfl, ?_⟩; have HO117 := Aside0.mk (Kd.R_lower ho0 (below_size dB)); replace HB := Aside0.mk (below_step dB hb); (try clear hb); (try clear ho0); obtain ⟨Ao14, co14, eo14⟩ := Kd.R_slice HO117.out; subst eo14))
       go_loopg [40] k (fun kq v40 w' => ∃ (x8_1 : List Int) (x40_1 : Int), v40 = .int .i64 x40_1 ∧ Aside0 (nat_Shr.l0 kq l0 a1 x8_1 (Int.tmod a1 64) (t115.length : Int) x40_1 = some (r1, r2, r3)) ∧ Aside0 (kq ≤ k) ∧ Aside0 (Kd.R (Kd.int .u64) 26 w' w.heap.size (fun _ => True) (.slice Ao14 t115.length co14) x8_1) ∧ Aside0 (Below w.heap.size w w'))
       case atStart => exact ⟨(t115), (0), dF, H', ⟨Nat.le_refl _⟩, ⟨dR HO117.out⟩, ⟨dB⟩⟩
       case round =>
        clear H'
        try clear c4
        try clear c4b0
        try clear c5
        try clear c5b0
        try clear c6
        try clear c6b0
        try clear c8
        try clear c8b0
        try clear c8b1
        try clear c9
        try clear c9b0
        try clear c9b1
        try clear c11
        try clear c11b0
        obtain ⟨x8_1, x40_1, rfl, HA, HK1, HO_8, HB⟩ := hrel
        have hl8_1 := (Kd.R_reads' HO_8.out).1
        rw [hl8_1] at HO_8
        (try simp only [hl8_1])
        cases gk with
        | zero => exact absurd HA.out (by simp [nat_Shr.l0])
        | succ k1 =>
         have H := HA.out
         clear HA
         simp only [nat_Shr.l0] at H
         by_cases c15 : x40_1 < (t115.length : Int)
         ·rw [if_pos c15] at H
          have c15b0 : decide (x40_1 < (t115.length : Int)) = true := decide_eq_true c15
          clear c15
          by_cases c16 : (wrap64 (x40_1 + 1)) < (x8_1.length : Int)
          ·rw [if_pos c16] at H
           have c16b0 : decide ((wrap64 (x40_1 + 1)) < (x8_1.length : Int)) = true := decide_eq_true c16
           clear c16
           obtain ⟨ji17, hji17⟩ : ∃ j_ : Int, (wrap64 (x40_1 + 1)) = j_ := ⟨_, rfl⟩
           first | rw [hji17] at H | simp only [hji17] at H
           (try rw [hji17] at c16b0)
           have hji17w : (IntKind.i64.wrap (x40_1 + 1)) = ji17 := (i64_w _).trans hji17
           by_cases c18 : (0 : Int) ≤ (ji17)
           ·rw [if_pos c18] at H
            have c18b0 : decide (0 ≤ (ji17)) = true := decide_eq_true c18
            clear c18
            by_cases c19 : (0 : Int) ≤ x40_1
            ·rw [if_pos c19] at H
             have c19b0 : decide (0 ≤ x40_1) = true := decide_eq_true c19
             clear c19
             by_cases c20 : x40_1 < (x8_1.length : Int)
             ·rw [if_pos c20] at H
              have c20b0 : decide (x40_1 < (x8_1.length : Int)) = true := decide_eq_true c20
              clear c20
              replace H := obe H
              obtain ⟨⟨t120, t121, t122⟩, A210, H⟩ := H
              (try dsimp only at H)
              have A21 := Aside0.mk A210
              clear A210
              obtain ⟨y123, hy123⟩ : ∃ y_ : List Int, y_ = (x8_1.set (x40_1 : Int).toNat t121) := ⟨_, rfl⟩
              replace H : (nat_Shr.l0 k1 l0 a1 y123 (Int.tmod a1 64) (t115.length : Int) ji17) = some (r1, r2, r3) := by first | (rw [hy123]; with_reducible exact H) | (have H2_ := (Option.bind_some _ _).symm.trans H; rw [hy123]; with_reducible exact H2_) | (have H2_ := (Option.bind_some _ _).symm.trans H; with_reducible exact H2_) | with_reducible exact H | (rw [hy123]; exact H) | exact H
              have Ny123 := Aside0.mk hy123
              clear hy123
              have H' := Aside0.mk H
              clear H
              have p118 : 0 ≤ ((ji17) : Int) := of_decide_eq_true dS
              have q118 : (ji17) < (x8_1.length : Int) := of_decide_eq_true dS
              obtain ⟨ad118, e118, hx118_0⟩ := Kd.at_int (Kd.R_reads' HO_8.out).2.2 (ji17) p118 q118
              cases e118
              replace p118 := eq_true p118
              replace q118 := eq_true q118
              have p119 : 0 ≤ (x40_1 : Int) := of_decide_eq_true dS
              have q119 : x40_1 < (x8_1.length : Int) := of_decide_eq_true dS
              obtain ⟨ad119, e119, hx119_0⟩ := Kd.at_int (Kd.R_reads' HO_8.out).2.2 x40_1 p119 q119
              obtain rfl : ad118 = ad119 := (by injection e119)
              replace p119 := eq_true p119
              replace q119 := eq_true q119
              go_wp2_with (first | ((with_reducible refine gate_callee (f := 82) rfl ?_); refine goesL_ (some 62) rfl rfl Tryd.func82 (by kernel_rfl) rfl #[.int .u64 (rd x8_1 (ji17)), .int .u64 (rd x8_1 x40_1), .int .i64 (Int.tmod a1 64)] rfl (by (try simp only [List.map_toArray, List.map_cons, List.map_nil]); first | done | (simp only [hji17]; rfl) | rfl | (simp only [List.length_drop, List.length_take]; rfl)) ?_; (with_reducible refine (wide_Shr.calls (rd x8_1 (ji17)) (rd x8_1 x40_1) (Int.tmod a1 64) t120 t121 t122 _ A21.out).mono ?_); rintro e w23 ⟨rfl, hb⟩; refine ⟨_, rfl, ?_⟩; replace HO_8 := Aside0.mk (Kd.R_below (dR HO_8.out) hb); replace HB := Aside0.mk (below_step dB hb); (try clear hb); have p22 : 0 ≤ (x40_1 : Int) := of_decide_eq_true dS; have q22 : (x40_1 : Int) < ((x8_1.length : Int) : Int) := of_decide_eq_true dS; obtain ⟨go22, co22, eo22, gb22, gl22, cl22, HG22⟩ := Kd.R_form HO_8.out (by omega); (first | cases eo22 | (injection eo22 with ea_ en_ ec_; (first | subst ea_ | (injection ea_ with ea_; subst ea_)); subst ec_; clear en_)); have GB22 := Aside0.mk gb22; have GG22 := Aside0.mk HG22; clear gb22 gl22 HG22; (first | simp only [add_plain] at hx118_0 | skip); (first | simp only [add_plain] at hx119_0 | skip); obtain ⟨hx22_0, hf22_0⟩ := Kd.R_celln 0 HO_8.out (x40_1 : Int) p22 q22; replace p22 := eq_true p22; replace q22 := eq_true q22; obtain ⟨hy24_, hz24_⟩ := Kd.R_celln 0 HO_8.out (x40_1 : Int) (of_decide_eq_true dS) (of_decide_eq_true dS); have HP24 := Kd.R_putg HO_8.out (x40_1 : Int) t121) | ((with_reducible refine gate_store (t := 26) (p := 66) rfl ?_); refine store_event (t := 26) (p := 66) (v := ?vo_w25) (w1 := (w23.setCell ⟨go22, (x40_1 : Int).toNat, none⟩ (.int .u64 t121))) ?hg ?ho ?hn ?hr ?_; (case ho => rfl); (case hg => rfl); (case hn => rfl); (case hr => first | (go_simp; done) | (go_simp; rfl)); intro w25 hw; have hg : w23.grownBy w25 (some go22) := (by rw [hw]; exact HP24.2); have hp_ : Kd.R (Kd.int .u64) 26 w25 w.heap.size (fun _ => True) (.slice (some ⟨go22, 0, none⟩) x8_1.length co14) y123 := (by rw [hw, Ny123.out]; exact HP24.1); clear HP24; replace HO_8 := Aside0.mk (hp_); replace HB := Aside0.mk ((by rw [hw]; exact below_set (HB.out) GB22.out : Below w.heap.size w w25)); clear hg hw hp_))
              (try simp only [← hl8_1])
              go_roundg k1
              case measure => have := HK1.out; omega
              case rel => exact ⟨(y123), (ji17), (by first | rfl | (simp; done) | (simp only [← hji17] <;> (first | rfl | simp)) | (simp [*]; done)), H', ⟨by have := HK1.out; omega⟩, ⟨by (try simp only [hl8_1]); (with_reducible repeat (first | apply Kd.R_alloc | apply Kd.R_drewN | apply Kd.R_drew)); exact HO_8.out⟩, ⟨dB⟩⟩
             ·rw [if_neg c20] at H
              exact absurd H (by simp)
            ·rw [if_neg c19] at H
             exact absurd H (by simp)
           ·rw [if_neg c18] at H
            exact absurd H (by simp)
          ·rw [if_neg c16] at H
           have c16b0 : decide ((wrap64 (x40_1 + 1)) < (x8_1.length : Int)) = false := decide_eq_false c16
           clear c16
           by_cases c26 : (0 : Int) ≤ x40_1
           ·rw [if_pos c26] at H
            have c26b0 : decide (0 ≤ x40_1) = true := decide_eq_true c26
            clear c26
            by_cases c27 : x40_1 < (x8_1.length : Int)
            ·rw [if_pos c27] at H
             have c27b0 : decide (x40_1 < (x8_1.length : Int)) = true := decide_eq_true c27
             clear c27
             replace H := obe H
             obtain ⟨⟨t125, t126, t127⟩, A280, H⟩ := H
             (try dsimp only at H)
             have A28 := Aside0.mk A280
             clear A280
             obtain ⟨y128, hy128⟩ : ∃ y_ : List Int, y_ = (x8_1.set (x40_1 : Int).toNat t126) := ⟨_, rfl⟩
             replace H : (nat_Shr.l0 k1 l0 a1 y128 (Int.tmod a1 64) (t115.length : Int) (wrap64 (x40_1 + 1))) = some (r1, r2, r3) := by first | (rw [hy128]; with_reducible exact H) | (have H2_ := (Option.bind_some _ _).symm.trans H; rw [hy128]; with_reducible exact H2_) | (have H2_ := (Option.bind_some _ _).symm.trans H; with_reducible exact H2_) | with_reducible exact H | (rw [hy128]; exact H) | exact H
             have Ny128 := Aside0.mk hy128
             clear hy128
             have H' := Aside0.mk H
             clear H
             have p124 : 0 ≤ (x40_1 : Int) := of_decide_eq_true dS
             have q124 : x40_1 < (x8_1.length : Int) := of_decide_eq_true dS
             obtain ⟨ad124, e124, hx124_0⟩ := Kd.at_int (Kd.R_reads' HO_8.out).2.2 x40_1 p124 q124
             cases e124
             replace p124 := eq_true p124
             replace q124 := eq_true q124
             go_wp2_with (first | ((with_reducible refine gate_callee (f := 82) rfl ?_); refine gL (some 62) Tryd.func82 #[.int .u64 0, .int .u64 (rd x8_1 x40_1), .int .i64 (Int.tmod a1 64)] ?_; (with_reducible refine (wide_Shr.calls 0 (rd x8_1 x40_1) (Int.tmod a1 64) t125 t126 t127 _ A28.out).mono ?_); rintro e w30 ⟨rfl, hb⟩; refine ⟨_, rfl, ?_⟩; replace HO_8 := Aside0.mk (Kd.R_below (dR HO_8.out) hb); replace HB := Aside0.mk (below_step dB hb); (try clear hb); have p29 : 0 ≤ (x40_1 : Int) := of_decide_eq_true dS; have q29 : (x40_1 : Int) < ((x8_1.length : Int) : Int) := of_decide_eq_true dS; obtain ⟨go29, co29, eo29, gb29, gl29, cl29, HG29⟩ := Kd.R_form HO_8.out (by omega); (first | cases eo29 | (injection eo29 with ea_ en_ ec_; (first | subst ea_ | (injection ea_ with ea_; subst ea_)); subst ec_; clear en_)); have GB29 := Aside0.mk gb29; have GG29 := Aside0.mk HG29; clear gb29 gl29 HG29; (first | simp only [add_plain] at hx124_0 | skip); obtain ⟨hx29_0, hf29_0⟩ := Kd.R_celln 0 HO_8.out (x40_1 : Int) p29 q29; replace p29 := eq_true p29; replace q29 := eq_true q29; obtain ⟨hy31_, hz31_⟩ := Kd.R_celln 0 HO_8.out (x40_1 : Int) (of_decide_eq_true dS) (of_decide_eq_true dS); have HP31 := Kd.R_putg HO_8.out (x40_1 : Int) t126) | ((with_reducible refine gate_store (t := 26) (p := 66) rfl ?_); refine store_event (t := 26) (p := 66) (v := ?vo_w32) (w1 := (w30.setCell ⟨go29, (x40_1 : Int).toNat, none⟩ (.int .u64 t126))) ?hg ?ho ?hn ?hr ?_; (case ho => rfl); (case hg => rfl); (case hn => rfl); (case hr => first | (go_simp; done) | (go_simp; rfl)); intro w32 hw; have hg : w30.grownBy w32 (some go29) := (by rw [hw]; exact HP31.2); have hp_ : Kd.R (Kd.int .u64) 26 w32 w.heap.size (fun _ => True) (.slice (some ⟨go29, 0, none⟩) x8_1.length co14) y128 := (by rw [hw, Ny128.out]; exact HP31.1); clear HP31; replace HO_8 := Aside0.mk (hp_); replace HB := Aside0.mk ((by rw [hw]; exact below_set (HB.out) GB29.out : Below w.heap.size w w32)); clear hg hw hp_))
             (try simp only [← hl8_1])
             go_roundg k1
             case measure => have := HK1.out; omega
             case rel => exact ⟨(y128), (wrap64 (x40_1 + 1)), dF, H', ⟨by have := HK1.out; omega⟩, ⟨by (try simp only [hl8_1]); (with_reducible repeat (first | apply Kd.R_alloc | apply Kd.R_drewN | apply Kd.R_drew)); exact HO_8.out⟩, ⟨dB⟩⟩
            ·rw [if_neg c27] at H
             exact absurd H (by simp)
           ·rw [if_neg c26] at H
            exact absurd H (by simp)
         ·rw [if_neg c15] at H
          have c15b0 : decide (x40_1 < (t115.length : Int)) = false := decide_eq_false c15
          try have c15x0 : decide (x40_1 < (x8_1.length : Int)) = false := by first | (rw [hl8_1]; exact c15b0) | (rw [← hl8_1]; exact c15b0)
          clear c15
          replace H := obe H
          obtain ⟨⟨t129, t132⟩, A330, H⟩ := H
          (try dsimp only at H)
          have A33 := Aside0.mk A330
          clear A330
          replace H := obe H
          obtain ⟨t133, A340, H⟩ := H
          (try dsimp only at H)
          have A34 := Aside0.mk A340
          clear A340
          simp only [Option.some.injEq, Prod.mk.injEq] at H
          obtain ⟨rfl, rfl, rfl⟩ := H
          go_wp2_with (first | ((with_reducible refine gate_callee (f := 56) rfl ?_); refine gL (some 70) Tryd.func56 #[.slice Ao14 x8_1.length co14] ?_; (with_reducible refine (nat_bound.calls k1 (fun k_ => some k_ = (.slice Ao14 x8_1.length co14 : Value).ownBlock) (.slice Ao14 x8_1.length co14) x8_1 t129 t132 w _ ?side1 ?side2 A33.out).mono ?_); (case side1 => repeat (first | (with_reducible first | exact HB.out | apply below_alloc | apply pw_below_drewN | apply below_drew1) | exact HB.out)); (case side2 => exact Kd.R_tight rfl HO_8.out); rintro e w35 ⟨v130, rfl, ho0, hb, hkp⟩; refine ⟨_, rfl, ?_⟩; have HO131 := Aside0.mk (Kd.R_mono (ok' := fun k_ => True) ho0 (fun k_ hk_ => trivial)); replace HB := Aside0.mk (hb); clear HO_8; (try clear hb); (try clear hkp); (try clear ho0)) | ((with_reducible refine gate_callee (f := 83) rfl ?_); refine gL (some 75) Tryd.func83 #[.slice A0 l0.length c0] ?_; (with_reducible refine (nat_Zeros.calls k1 _ _ l0 t133 _ ?side1 ?side2 A34.out).mono ?_); (case side1 => exact dC (Kd.C_below HR0.out HB.out)); (case side2 => exact HC0.out); rintro e w' ⟨rfl, ⟨nd, rfl⟩⟩; refine ⟨_, rfl, ?_⟩))
          go_ret3
          exact ⟨_, by first | rfl | (simp [errW_none, errW_some] <;> rfl) | (simp only [← hji7]; first | rfl | (simp [errW_none, errW_some] <;> rfl)) | (simp [*, errW_none, errW_some] <;> rfl), dR HO131.out, dB⟩
      ·rw [if_neg c11] at H
       have c11b0 : decide (0 < (Int.tmod a1 64)) = false := decide_eq_false c11
       clear c11
       replace H := obe H
       obtain ⟨⟨t134, t137⟩, A360, H⟩ := H
       (try dsimp only at H)
       have A36 := Aside0.mk A360
       clear A360
       replace H := obe H
       obtain ⟨t138, A370, H⟩ := H
       (try dsimp only at H)
       have A37 := Aside0.mk A370
       clear A370
       simp only [Option.some.injEq, Prod.mk.injEq] at H
       obtain ⟨rfl, rfl, rfl⟩ := H
       go_enter Tryd.func44, Tryd.ntmps44
       go_wp2_with (first | ((with_reducible refine gate_callee (f := 43) rfl ?_); refine gL (some 14) Tryd.func43 #[.slice A0 l0.length c0] ?_; (with_reducible refine (nat_Bits.calls k _ _ l0 t113 _ ?side1 ?side2 A3.out).mono ?_); (case side1 => exact dC HR0.out); (case side2 => exact HC0.out); rintro e w' ⟨rfl, ⟨nd, rfl⟩⟩; refine ⟨_, rfl, ?_⟩; obtain ⟨i038, hi038, _, hsz38, _⟩ := info_parts info26; obtain ⟨A38, hcut38, hA38, hC38⟩ := print_drop_of (P := Tryd.prog) (Value.int .u64) 0 22 26 .i64 Tryd.underlying22 hi038 hsz38 A0 c0 l0 (ji7) (of_decide_eq_true dS) (of_decide_eq_true dS) HC0.out; have HR114 := Aside0.mk (Kd.C_of_reads (h1 := fun _ => rfl) (hA38 _ (Kd.reads_of_C HR0.out))); have HC114 := Aside0.mk hC38; clear hA38 hC38 hi038 hsz38) | ((with_reducible refine gate_callee (f := 51) rfl ?_); refine goesL_ (some 33) rfl rfl Tryd.func51 (by kernel_rfl) rfl #[.slice A38 (l0.drop ((ji7) : Int).toNat).length (c0 - (ji7).toNat)] rfl (by (try simp only [List.map_toArray, List.map_cons, List.map_nil]); first | done | (rw [show (l0.drop ((ji7) : Int).toNat).length = (l0.length - (ji7).toNat) from List.length_drop] <;> rfl) | (simp only [hji7]; rfl) | rfl | (simp only [List.length_drop, List.length_take]; rfl)) ?_; (with_reducible refine (nat_Norm.calls _ _ (l0.drop ((ji7) : Int).toNat) t115 _ ?side1 ?side2 A10.out).mono ?_); (case side1 => exact dC HR114.out); (case side2 => exact HC114.out); rintro e w39 ⟨v116, rfl, ho0, hb⟩; refine ⟨_, rfl, ?_⟩; have HO117 := Aside0.mk (Kd.R_lower ho0 (below_size dB)); replace HB := Aside0.mk (below_step dB hb); (try clear hb); (try clear ho0); obtain ⟨Ao40, co40, eo40⟩ := Kd.R_slice HO117.out; subst eo40) | ((with_reducible refine gate_callee (f := 56) rfl ?_); refine gL (some 70) Tryd.func56 #[.slice Ao40 t115.length co40] ?_; (with_reducible refine (nat_bound.calls k (fun k_ => some k_ = (.slice Ao40 t115.length co40 : Value).ownBlock) (.slice Ao40 t115.length co40) t115 t134 t137 w _ ?side1 ?side2 A36.out).mono ?_); (case side1 => repeat (first | (with_reducible first | exact HB.out | apply below_alloc | apply pw_below_drewN | apply below_drew1) | exact HB.out)); (case side2 => exact Kd.R_tight rfl HO117.out); rintro e w41 ⟨v135, rfl, ho0, hb, hkp⟩; refine ⟨_, rfl, ?_⟩; have HO136 := Aside0.mk (Kd.R_mono (ok' := fun k_ => True) ho0 (fun k_ hk_ => trivial)); replace HB := Aside0.mk (hb); clear HO117; (try clear hb); (try clear hkp); (try clear ho0)) | ((with_reducible refine gate_callee (f := 83) rfl ?_); refine gL (some 75) Tryd.func83 #[.slice A0 l0.length c0] ?_; (with_reducible refine (nat_Zeros.calls k _ _ l0 t138 _ ?side1 ?side2 A37.out).mono ?_); (case side1 => exact dC (Kd.C_below HR0.out HB.out)); (case side2 => exact HC0.out); rintro e w' ⟨rfl, ⟨nd, rfl⟩⟩; refine ⟨_, rfl, ?_⟩))
       go_ret3
       exact ⟨_, by first | rfl | (simp [errW_none, errW_some] <;> rfl) | (simp only [← hji7]; first | rfl | (simp [errW_none, errW_some] <;> rfl)) | (simp [*, errW_none, errW_some] <;> rfl), dR HO136.out, dB⟩
     ·rw [if_neg c9] at H
      exact absurd H (by simp)
    ·rw [if_neg c8] at H
     exact absurd H (by simp)

/-! ### nat_Word: function 45 -/
def nat_Word.f (k : Nat) (l0 : List Int) : Option (Int × Bool) := (nat_size.f k l0).bind fun t139 => (if t139 = 0 then (some (0, true)) else (if t139 = 1 then (if 0 < (l0.length : Int) then (some (rd l0 0, true)) else (none)) else (some (0, false))))
theorem nat_Word.mono : ∀ a0 k, LeO (nat_Word.f k a0) (nat_Word.f (k + 1) a0) := by
 intro a0 k
 unfold nat_Word.f
 have m0_ := nat_size.mono
 exact mX
set_option maxHeartbeats 8000000 in
set_option maxRecDepth 100000 in
theorem nat_Word.calls (k : Nat) (A0 : Option Addr) (c0 : Nat) (l0 : List Int) (r1 : Int) (r2 : Bool) (w : World) (hr0 : Kd.C (Kd.int .u64) w A0 l0.length l0) (hc0 : l0.length ≤ c0) (h : nat_Word.f k l0 = some (r1, r2)) :
  Calls Tryd.prog 45 #[.slice A0 l0.length c0] w fun e w' => e = .returned (.tuple #[.int .u64 r1, .bool r2]) ∧ Drawn0 w w' := by
 have HR0 := Aside0.mk hr0
 have HC0 := Aside0.mk hc0
 clear hr0 hc0
 have H : ((nat_size.f k l0).bind fun t139 => (if t139 = 0 then (some (0, true)) else (if t139 = 1 then (if 0 < (l0.length : Int) then (some (rd l0 0, true)) else (none)) else (some (0, false))))) = some (r1, r2) := h
 clear h
 replace H := obe H
 obtain ⟨t139, A20, H⟩ := H
 (try dsimp only at H)
 have A2 := Aside0.mk A20
 clear A20
 by_cases c3 : t139 = 0
 ·rw [if_pos c3] at H
  have c3b0 : (t139 == 0) = true := beq_iff_eq.mpr c3
  have c3b1 : (t139 != 0) = false := bne_eq_false_iff_eq.mpr c3
  clear c3
  simp only [Option.some.injEq, Prod.mk.injEq] at H
  obtain ⟨rfl, rfl⟩ := H
  go_enter Tryd.func45, Tryd.ntmps45
  go_wp2_with (first | ((with_reducible refine gate_callee (f := 54) rfl ?_); refine gL (some 5) Tryd.func54 #[.slice A0 l0.length c0] ?_; (with_reducible refine (nat_size.calls k _ _ l0 t139 _ ?side1 ?side2 A2.out).mono ?_); (case side1 => exact dC HR0.out); (case side2 => exact HC0.out); rintro e w' ⟨rfl, ⟨nd, rfl⟩⟩; refine ⟨_, rfl, ?_⟩))
  go_ret2
  exact ⟨by first | rfl | (simp; done) | (simp [*]; done), by repeat (first | exact Drawn0.refl _ | apply Drawn0.step)⟩
 ·rw [if_neg c3] at H
  have c3b0 : (t139 == 0) = false := beq_eq_false_iff_ne.mpr c3
  have c3b1 : (t139 != 0) = true := bne_iff_ne.mpr c3
  by_cases c4 : t139 = 1
  ·rw [if_pos c4] at H
   have c4b0 : (t139 == 1) = true := beq_iff_eq.mpr c4
   have c4b1 : (t139 != 1) = false := bne_eq_false_iff_eq.mpr c4
   clear c4
   by_cases c5 : (0 : Int) < (l0.length : Int)
   ·rw [if_pos c5] at H
    have c5b0 : decide (0 < (l0.length : Int)) = true := decide_eq_true c5
    have c5b1 : decide (0 < l0.length) = true := decide_eq_true (by omega)
    clear c5
    simp only [Option.some.injEq, Prod.mk.injEq] at H
    obtain ⟨rfl, rfl⟩ := H
    go_enter Tryd.func45, Tryd.ntmps45
    go_wp2_with (first | ((with_reducible refine gate_callee (f := 54) rfl ?_); refine gL (some 5) Tryd.func54 #[.slice A0 l0.length c0] ?_; (with_reducible refine (nat_size.calls k _ _ l0 t139 _ ?side1 ?side2 A2.out).mono ?_); (case side1 => exact dC HR0.out); (case side2 => exact HC0.out); rintro e w' ⟨rfl, ⟨nd, rfl⟩⟩; refine ⟨_, rfl, ?_⟩; have p140 : 0 ≤ (0 : Int) := (by omega); have q140 : 0 < (l0.length : Int) := of_decide_eq_true dS; obtain ⟨ad140, e140, hx140_0⟩ := Kd.at_int HR0.out 0 p140 q140; cases e140; have qi140 : (0 < l0.length) = True := eq_true (by omega); (try rw [show ((0 : Int)).toNat = 0 from rfl] at hx140_0); (try rw [Addr.add_zero'] at hx140_0); replace p140 := eq_true p140; replace q140 := eq_true q140))
    go_ret2
    exact ⟨by first | rfl | (simp; done) | (simp [*]; done), by repeat (first | exact Drawn0.refl _ | apply Drawn0.step)⟩
   ·rw [if_neg c5] at H
    exact absurd H (by simp)
  ·rw [if_neg c4] at H
   have c4b0 : (t139 == 1) = false := beq_eq_false_iff_ne.mpr c4
   have c4b1 : (t139 != 1) = true := bne_iff_ne.mpr c4
   simp only [Option.some.injEq, Prod.mk.injEq] at H
   obtain ⟨rfl, rfl⟩ := H
   go_enter Tryd.func45, Tryd.ntmps45
   go_wp2_with (first | ((with_reducible refine gate_callee (f := 54) rfl ?_); refine gL (some 5) Tryd.func54 #[.slice A0 l0.length c0] ?_; (with_reducible refine (nat_size.calls k _ _ l0 t139 _ ?side1 ?side2 A2.out).mono ?_); (case side1 => exact dC HR0.out); (case side2 => exact HC0.out); rintro e w' ⟨rfl, ⟨nd, rfl⟩⟩; refine ⟨_, rfl, ?_⟩))
   go_ret2
   exact ⟨by first | rfl | (simp; done) | (simp [*]; done), by repeat (first | exact Drawn0.refl _ | apply Drawn0.step)⟩

end Go.Proofs.YtoefabmlkbhmpaaDoor.PA

namespace Go.Proofs.YtoefabmlkbhmpaaDoor.PA
open Go.RowKit Go.Proofs.YtoefabmlkbhmpaaDoorW.PrintWords Go.Proofs.YtoefabmlkbhmpaaDoorW.PrintLast Go.Proofs.YtoefabmlkbhmpaaDoorW.PrintMore
attribute [local go_sem] max2_int min2_int max_two min_two max_three min_three max_four min_four   -- for this text's walks alone
set_option linter.unusedVariables false
set_option linter.unusedSimpArgs false

/-! ### near_Scaled: function 13 -/
def near_Scaled.f (k : Nat) (a0 : Bool) (l1 : List Int) (a2 : Int) (a3 : Bool) (a4 : Int) : Option (Int × Int) := (near_known.f a4).bind fun t146 => (if t146 = true then ((nat_Bits.f k l1).bind fun t147 => ((nat_Shr.f k l1 (mx (wrap64 (t147 - 64)) 0)).bind fun bt148 => ((nat_Word.f k bt148.1).bind fun bt153 => (if a3 = true then ((near_finish.f k a0 bt153.1 (wrap64 ((mn (mx a2 (-1099511627776)) 1099511627776) + (mx (wrap64 (t147 - 64)) 0))) true a4).bind fun bt155 => (some (bt155.1, bt155.2))) else ((near_finish.f k a0 bt153.1 (wrap64 ((mn (mx a2 (-1099511627776)) 1099511627776) + (mx (wrap64 (t147 - 64)) 0))) bt148.2.1 a4).bind fun bt157 => (some (bt157.1, bt157.2))))))) else (some (0, 71)))
set_option maxHeartbeats 8000000 in
set_option maxRecDepth 100000 in
theorem near_Scaled.calls (k : Nat) (a0 : Bool) (A1 : Option Addr) (c1 : Nat) (l1 : List Int) (a2 : Int) (a3 : Bool) (a4 : Int) (r1 : Int) (r2 : Int) (w : World) (hr1 : Kd.C (Kd.int .u64) w A1 l1.length l1) (hc1 : l1.length ≤ c1) (h : near_Scaled.f k a0 l1 a2 a3 a4 = some (r1, r2)) (hS : StaysLaid w := by first | exact HS.out | exact hS | exact StaysLaid.below HS.out HB.out | exact StaysLaid.below HS.out dB) :
  Calls Tryd.prog 13 #[.bool a0, .slice A1 l1.length c1, .int .i64 a2, .bool a3, .int .i64 a4] w fun e w' => e = .returned (.tuple #[.int .u64 r1, .int .i64 r2]) ∧ Below w.heap.size w w' := by
 have HS := Aside0.mk (show StaysLaid w from hS)
 clear hS
 have HR1 := Aside0.mk hr1
 have HC1 := Aside0.mk hc1
 clear hr1 hc1
 have HB := Aside0.mk (Below.refl w.heap.size w)
 have H : ((near_known.f a4).bind fun t146 => (if t146 = true then ((nat_Bits.f k l1).bind fun t147 => ((nat_Shr.f k l1 (mx (wrap64 (t147 - 64)) 0)).bind fun bt148 => ((nat_Word.f k bt148.1).bind fun bt153 => (if a3 = true then ((near_finish.f k a0 bt153.1 (wrap64 ((mn (mx a2 (-1099511627776)) 1099511627776) + (mx (wrap64 (t147 - 64)) 0))) true a4).bind fun bt155 => (some (bt155.1, bt155.2))) else ((near_finish.f k a0 bt153.1 (wrap64 ((mn (mx a2 (-1099511627776)) 1099511627776) + (mx (wrap64 (t147 - 64)) 0))) bt148.2.1 a4).bind fun bt157 => (some (bt157.1, bt157.2))))))) else (some (0, 71)))) = some (r1, r2) := h
 clear h
 replace H := obe H
 obtain ⟨t146, A60, H⟩ := H
 (try dsimp only at H)
 have A6 := Aside0.mk A60
 clear A60
 by_cases c7 : t146 = true
 ·subst c7
  have H1 : ((nat_Bits.f k l1).bind fun t147 => ((nat_Shr.f k l1 (mx (wrap64 (t147 - 64)) 0)).bind fun bt148 => ((nat_Word.f k bt148.1).bind fun bt153 => (if a3 = true then ((near_finish.f k a0 bt153.1 (wrap64 ((mn (mx a2 (-1099511627776)) 1099511627776) + (mx (wrap64 (t147 - 64)) 0))) true a4).bind fun bt155 => (some (bt155.1, bt155.2))) else ((near_finish.f k a0 bt153.1 (wrap64 ((mn (mx a2 (-1099511627776)) 1099511627776) + (mx (wrap64 (t147 - 64)) 0))) bt148.2.1 a4).bind fun bt157 => (some (bt157.1, bt157.2))))))) = some (r1, r2) := by rw [if_pos rfl] at H; exact H
  clear H
  have H := H1
  clear H1
  replace H := obe H
  obtain ⟨t147, A80, H⟩ := H
  (try dsimp only at H)
  have A8 := Aside0.mk A80
  clear A80
  obtain ⟨ji9, hji9⟩ : ∃ j_ : Int, (mx (wrap64 (t147 - 64)) 0) = j_ := ⟨_, rfl⟩
  first | rw [hji9] at H | simp only [hji9] at H
  (try rw [hji9] at A6)
  (try rw [hji9] at A8)
  (try (have hji9l : 0 ≤ ji9 := by (rw [← hji9]; unfold mx; (repeat' split) <;> omega)))
  (try (have hji9m : 0 ≤ ji9 := by omega))
  have hji9_ : (if (wrap64 (t147 - 64)) < 0 then 0 else (wrap64 (t147 - 64))) = ji9 := hji9
  replace H := obe H
  obtain ⟨⟨t148, t149, t150⟩, A100, H⟩ := H
  (try dsimp only at H)
  have A10 := Aside0.mk A100
  clear A100
  replace H := obe H
  obtain ⟨⟨t153, t154⟩, A110, H⟩ := H
  (try dsimp only at H)
  have A11 := Aside0.mk A110
  clear A110
  obtain ⟨ji12, hji12⟩ : ∃ j_ : Int, (mx a2 (-1099511627776)) = j_ := ⟨_, rfl⟩
  first | rw [hji12] at H | simp only [hji12] at H
  (try rw [hji12] at A6)
  (try rw [hji12] at A8)
  (try rw [hji12] at A10)
  (try rw [hji12] at A11)
  have hji12_ : (if a2 < (-1099511627776) then (-1099511627776) else a2) = ji12 := hji12
  obtain ⟨ji13, hji13⟩ : ∃ j_ : Int, (mn (ji12) 1099511627776) = j_ := ⟨_, rfl⟩
  first | rw [hji13] at H | simp only [hji13] at H
  (try rw [hji13] at A6)
  (try rw [hji13] at A8)
  (try rw [hji13] at A10)
  (try rw [hji13] at A11)
  have hji13_ : (if 1099511627776 < (ji12) then 1099511627776 else (ji12)) = ji13 := hji13
  by_cases c14 : a3 = true
  ·subst c14
   have H1 : ((near_finish.f k a0 t153 (wrap64 ((ji13) + (ji9))) true a4).bind fun bt155 => (some (bt155.1, bt155.2))) = some (r1, r2) := by rw [if_pos rfl] at H; exact H
   clear H
   have H := H1
   clear H1
   replace H := obe H
   obtain ⟨⟨t155, t156⟩, A150, H⟩ := H
   (try dsimp only at H)
   have A15 := Aside0.mk A150
   clear A150
   simp only [Option.some.injEq, Prod.mk.injEq] at H
   obtain ⟨rfl, rfl⟩ := H
   go_enter Tryd.func13, Tryd.ntmps13
   go_wp2_with (first | ((with_reducible refine gate_callee (f := 42) rfl ?_); refine gL (some 19) Tryd.func42 #[.int .i64 a4] ?_; (with_reducible refine (near_known.calls a4 true _ A6.out).mono ?_); rintro e w' ⟨rfl, ⟨nd, rfl⟩⟩; refine ⟨_, rfl, ?_⟩) | ((with_reducible refine gate_callee (f := 43) rfl ?_); refine gL (some 22) Tryd.func43 #[.slice A1 l1.length c1] ?_; (with_reducible refine (nat_Bits.calls k _ _ l1 t147 _ ?side1 ?side2 A8.out).mono ?_); (case side1 => exact dC HR1.out); (case side2 => exact HC1.out); rintro e w' ⟨rfl, ⟨nd, rfl⟩⟩; refine ⟨_, rfl, ?_⟩) | ((with_reducible refine gate_callee (f := 44) rfl ?_); refine goesL_ (some 28) rfl rfl Tryd.func44 (by kernel_rfl) rfl #[.slice A1 l1.length c1, .int .i64 ji9] rfl (by (try simp only [List.map_toArray, List.map_cons, List.map_nil]); first | done | (simp only [hji9]; rfl) | rfl | (simp only [List.length_drop, List.length_take]; rfl)) ?_; (with_reducible refine (nat_Shr.calls k _ _ l1 ji9 t148 t149 t150 _ ?side1 ?side2 A10.out).mono ?_); (case side1 => exact dC HR1.out); (case side2 => exact HC1.out); rintro e w16 ⟨v151, rfl, ho0, hb⟩; refine ⟨_, rfl, ?_⟩; have HO152 := Aside0.mk (Kd.R_lower ho0 (below_size dB)); replace HB := Aside0.mk (below_step dB hb); (try clear hb); (try clear ho0); obtain ⟨Ao17, co17, eo17⟩ := Kd.R_slice HO152.out; subst eo17) | ((with_reducible refine gate_callee (f := 45) rfl ?_); refine gL (some 34) Tryd.func45 #[.slice Ao17 t148.length co17] ?_; (with_reducible refine (nat_Word.calls k _ _ t148 t153 t154 _ ?side1 ?side2 A11.out).mono ?_); (case side1 => exact dC (Kd.R_reads' HO152.out).2.2); (case side2 => exact (Kd.R_reads' HO152.out).2.1); rintro e w' ⟨rfl, ⟨nd, rfl⟩⟩; refine ⟨_, rfl, ?_⟩) | ((with_reducible refine gate_callee (f := 46) rfl ?_); refine goesL_ (some 50) rfl rfl Tryd.func46 (by kernel_rfl) rfl #[.bool a0, .int .u64 t153, .int .i64 (wrap64 ((ji13) + (ji9))), .bool true, .int .i64 a4] rfl (by (try simp only [List.map_toArray, List.map_cons, List.map_nil]); first | done | (simp only [hji13, hji9]; rfl) | rfl | (simp only [List.length_drop, List.length_take]; rfl)) ?_; (with_reducible refine (near_finish.calls k a0 t153 (wrap64 ((ji13) + (ji9))) true a4 t155 t156 _ A15.out).mono ?_); rintro e w18 ⟨rfl, hb⟩; refine ⟨_, rfl, ?_⟩; replace HO152 := Aside0.mk (Kd.R_below (dR HO152.out) hb); replace HB := Aside0.mk (below_step dB hb); (try clear hb)))
   go_ret2
   exact ⟨by first | rfl | (simp [errW_none, errW_some] <;> rfl) | (simp only [← hji9, ← hji12, ← hji13]; first | rfl | (simp [errW_none, errW_some] <;> rfl)) | (simp [*, errW_none, errW_some] <;> rfl), dB⟩
  ·replace c14 := Bool.eq_false_iff.mpr c14
   subst c14
   have H1 : ((near_finish.f k a0 t153 (wrap64 ((ji13) + (ji9))) t149 a4).bind fun bt157 => (some (bt157.1, bt157.2))) = some (r1, r2) := by rw [if_neg (show ¬ (false = true) by decide)] at H; exact H
   clear H
   have H := H1
   clear H1
   replace H := obe H
   obtain ⟨⟨t157, t158⟩, A190, H⟩ := H
   (try dsimp only at H)
   have A19 := Aside0.mk A190
   clear A190
   simp only [Option.some.injEq, Prod.mk.injEq] at H
   obtain ⟨rfl, rfl⟩ := H
   go_enter Tryd.func13, Tryd.ntmps13
   go_wp2_with (first | ((with_reducible refine gate_callee (f := 42) rfl ?_); refine gL (some 19) Tryd.func42 #[.int .i64 a4] ?_; (with_reducible refine (near_known.calls a4 true _ A6.out).mono ?_); rintro e w' ⟨rfl, ⟨nd, rfl⟩⟩; refine ⟨_, rfl, ?_⟩) | ((with_reducible refine gate_callee (f := 43) rfl ?_); refine gL (some 22) Tryd.func43 #[.slice A1 l1.length c1] ?_; (with_reducible refine (nat_Bits.calls k _ _ l1 t147 _ ?side1 ?side2 A8.out).mono ?_); (case side1 => exact dC HR1.out); (case side2 => exact HC1.out); rintro e w' ⟨rfl, ⟨nd, rfl⟩⟩; refine ⟨_, rfl, ?_⟩) | ((with_reducible refine gate_callee (f := 44) rfl ?_); refine goesL_ (some 28) rfl rfl Tryd.func44 (by kernel_rfl) rfl #[.slice A1 l1.length c1, .int .i64 ji9] rfl (by (try simp only [List.map_toArray, List.map_cons, List.map_nil]); first | done | (simp only [hji9]; rfl) | rfl | (simp only [List.length_drop, List.length_take]; rfl)) ?_; (with_reducible refine (nat_Shr.calls k _ _ l1 ji9 t148 t149 t150 _ ?side1 ?side2 A10.out).mono ?_); (case side1 => exact dC HR1.out); (case side2 => exact HC1.out); rintro e w20 ⟨v151, rfl, ho0, hb⟩; refine ⟨_, rfl, ?_⟩; have HO152 := Aside0.mk (Kd.R_lower ho0 (below_size dB)); replace HB := Aside0.mk (below_step dB hb); (try clear hb); (try clear ho0); obtain ⟨Ao21, co21, eo21⟩ := Kd.R_slice HO152.out; subst eo21) | ((with_reducible refine gate_callee (f := 45) rfl ?_); refine gL (some 34) Tryd.func45 #[.slice Ao21 t148.length co21] ?_; (with_reducible refine (nat_Word.calls k _ _ t148 t153 t154 _ ?side1 ?side2 A11.out).mono ?_); (case side1 => exact dC (Kd.R_reads' HO152.out).2.2); (case side2 => exact (Kd.R_reads' HO152.out).2.1); rintro e w' ⟨rfl, ⟨nd, rfl⟩⟩; refine ⟨_, rfl, ?_⟩) | ((with_reducible refine gate_callee (f := 46) rfl ?_); refine goesL_ (some 50) rfl rfl Tryd.func46 (by kernel_rfl) rfl #[.bool a0, .int .u64 t153, .int .i64 (wrap64 ((ji13) + (ji9))), .bool t149, .int .i64 a4] rfl (by (try simp only [List.map_toArray, List.map_cons, List.map_nil]); first | done | (simp only [hji13, hji9]; rfl) | rfl | (simp only [List.length_drop, List.length_take]; rfl)) ?_; (with_reducible refine (near_finish.calls k a0 t153 (wrap64 ((ji13) + (ji9))) t149 a4 t157 t158 _ A19.out).mono ?_); rintro e w22 ⟨rfl, hb⟩; refine ⟨_, rfl, ?_⟩; replace HO152 := Aside0.mk (Kd.R_below (dR HO152.out) hb); replace HB := Aside0.mk (below_step dB hb); (try clear hb)))
   go_ret2
   exact ⟨by first | rfl | (simp [errW_none, errW_some] <;> rfl) | (simp only [← hji9, ← hji12, ← hji13]; first | rfl | (simp [errW_none, errW_some] <;> rfl)) | (simp [*, errW_none, errW_some] <;> rfl), dB⟩
 ·replace c7 := Bool.eq_false_iff.mpr c7
  subst c7
  have H1 : (some (0, 71)) = some (r1, r2) := by rw [if_neg (show ¬ (false = true) by decide)] at H; exact H
  clear H
  have H := H1
  clear H1
  simp only [Option.some.injEq, Prod.mk.injEq] at H
  obtain ⟨rfl, rfl⟩ := H
  go_enter Tryd.func13, Tryd.ntmps13
  go_wp2_with (first | ((with_reducible refine gate_callee (f := 42) rfl ?_); refine gL (some 19) Tryd.func42 #[.int .i64 a4] ?_; (with_reducible refine (near_known.calls a4 false _ A6.out).mono ?_); rintro e w' ⟨rfl, ⟨nd, rfl⟩⟩; refine ⟨_, rfl, ?_⟩))
  go_ret2
  exact ⟨dE, dB⟩

/-! ### plumblaw07_num: function 15 -/
def plumblaw07_num.f (a0 : Int) : Option (Int) := some a0
set_option maxHeartbeats 8000000 in
set_option maxRecDepth 100000 in
theorem plumblaw07_num.calls (a0 : Int) (r : Int) (w : World) (h : plumblaw07_num.f a0 = some r) :
  Calls Tryd.prog 15 #[.int .i64 a0] w fun e w' => e = .returned (.int .i64 r) ∧ Drawn0 w w' := by
 have H : (some a0) = some r := h
 clear h
 obtain rfl := Option.some.inj H
 go_enter Tryd.func15, Tryd.ntmps15
 go_wp2
 go_ret
 exact ⟨by first | rfl | (simp; done) | (simp [*]; done), by repeat (first | exact Drawn0.refl _ | apply Drawn0.step)⟩

/-! ### wide_Shl: function 55 -/
def wide_Shl.f (a0 : Int) (a1 : Int) (a2 : Int) : Option (Int × Int) := (wide_within.f a2).bind fun t159 => (if t159 ≥ 64 then (if 0 ≤ (wrap64 (t159 - 64)) then (some (shl .u64 a1 (wrap64 (t159 - 64)), 0)) else (none)) else (if 0 ≤ t159 then (if 0 ≤ (wrap64 (64 - t159)) then (some (Go.bits .or .u64 (shl .u64 a0 t159) (shr .u64 a1 (wrap64 (64 - t159))), shl .u64 a1 t159)) else (none)) else (none)))
set_option maxHeartbeats 8000000 in
set_option maxRecDepth 100000 in
theorem wide_Shl.calls (a0 : Int) (a1 : Int) (a2 : Int) (r1 : Int) (r2 : Int) (w : World) (h : wide_Shl.f a0 a1 a2 = some (r1, r2)) :
  Calls Tryd.prog 55 #[.int .u64 a0, .int .u64 a1, .int .i64 a2] w fun e w' => e = .returned (.tuple #[.int .u64 r1, .int .u64 r2]) ∧ Below w.heap.size w w' := by
 have HB := Aside0.mk (Below.refl w.heap.size w)
 have H : ((wide_within.f a2).bind fun t159 => (if t159 ≥ 64 then (if 0 ≤ (wrap64 (t159 - 64)) then (some (shl .u64 a1 (wrap64 (t159 - 64)), 0)) else (none)) else (if 0 ≤ t159 then (if 0 ≤ (wrap64 (64 - t159)) then (some (Go.bits .or .u64 (shl .u64 a0 t159) (shr .u64 a1 (wrap64 (64 - t159))), shl .u64 a1 t159)) else (none)) else (none)))) = some (r1, r2) := h
 clear h
 replace H := obe H
 obtain ⟨t159, A40, H⟩ := H
 (try dsimp only at H)
 have A4 := Aside0.mk A40
 clear A40
 by_cases c5 : t159 ≥ 64
 ·rw [if_pos c5] at H
  have c5b0 : decide (64 ≤ t159) = true := decide_eq_true c5
  clear c5
  obtain ⟨ji6, hji6⟩ : ∃ j_ : Int, (wrap64 (t159 - 64)) = j_ := ⟨_, rfl⟩
  first | rw [hji6] at H | simp only [hji6] at H
  (try rw [hji6] at A4)
  have hji6w : (IntKind.i64.wrap (t159 - 64)) = ji6 := (i64_w _).trans hji6
  by_cases c7 : (0 : Int) ≤ (ji6)
  ·rw [if_pos c7] at H
   have c7b0 := eq_true c7
   have c7b1 : decide (0 ≤ (ji6)) = true := decide_eq_true c7
   clear c7
   obtain ⟨ji8, hji8⟩ : ∃ j_ : Int, (shl .u64 a1 (ji6)) = j_ := ⟨_, rfl⟩
   first | rw [hji8] at H | simp only [hji8] at H
   (try rw [hji8] at A4)
   have hji8_ : (IntKind.u64.wrap (a1 * 2 ^ min (ji6).toNat 64)) = ji8 := hji8
   have hji8z : (ji6) ≤ 64 → (IntKind.u64.wrap (a1 * 2 ^ (ji6).toNat)) = ji8 := shl_small hji8
   simp only [Option.some.injEq, Prod.mk.injEq] at H
   obtain ⟨rfl, rfl⟩ := H
   go_enter Tryd.func55, Tryd.ntmps55
   iterate 6 (go_wp2_with (first | (go_at_call 93; (with_reducible refine (wide_within.calls a2 t159 _ A4.out).mono ?_); rintro e w9 ⟨rfl, hb⟩; replace HB := Aside0.mk (below_step dB hb); (try clear hb))); try go_quiet (fail))
   go_ret2
   exact ⟨by first | rfl | (simp [errW_none, errW_some] <;> rfl) | (simp only [← hji6, ← hji8]; first | rfl | (simp [errW_none, errW_some] <;> rfl)) | (simp [*, errW_none, errW_some] <;> rfl), dB⟩
  ·rw [if_neg c7] at H
   exact absurd H (by simp)
 ·rw [if_neg c5] at H
  have c5b0 : decide (64 ≤ t159) = false := decide_eq_false c5
  clear c5
  by_cases c10 : (0 : Int) ≤ t159
  ·rw [if_pos c10] at H
   have c10b0 := eq_true c10
   have c10b1 : decide (0 ≤ t159) = true := decide_eq_true c10
   clear c10
   obtain ⟨ji11, hji11⟩ : ∃ j_ : Int, (shl .u64 a0 t159) = j_ := ⟨_, rfl⟩
   first | rw [hji11] at H | simp only [hji11] at H
   (try rw [hji11] at A4)
   have hji11_ : (IntKind.u64.wrap (a0 * 2 ^ min t159.toNat 64)) = ji11 := hji11
   have hji11z : t159 ≤ 64 → (IntKind.u64.wrap (a0 * 2 ^ t159.toNat)) = ji11 := shl_small hji11
   obtain ⟨ji12, hji12⟩ : ∃ j_ : Int, (wrap64 (64 - t159)) = j_ := ⟨_, rfl⟩
   first | rw [hji12] at H | simp only [hji12] at H
   (try rw [hji12] at A4)
   have hji12w : (IntKind.i64.wrap (64 - t159)) = ji12 := (i64_w _).trans hji12
   by_cases c13 : (0 : Int) ≤ (ji12)
   ·rw [if_pos c13] at H
    have c13b0 := eq_true c13
    have c13b1 : decide (0 ≤ (ji12)) = true := decide_eq_true c13
    clear c13
    obtain ⟨ji14, hji14⟩ : ∃ j_ : Int, (shr .u64 a1 (ji12)) = j_ := ⟨_, rfl⟩
    first | rw [hji14] at H | simp only [hji14] at H
    (try rw [hji14] at A4)
    have hji14_ : (a1 / 2 ^ min (ji12).toNat 64) = ji14 := hji14
    have hji14z : (ji12) ≤ 64 → (a1 / 2 ^ (ji12).toNat) = ji14 := shr_small hji14
    have c15b0 := eq_true (of_decide_eq_true dS : 0 ≤ t159)
    obtain ⟨ji16, hji16⟩ : ∃ j_ : Int, (shl .u64 a1 t159) = j_ := ⟨_, rfl⟩
    first | rw [hji16] at H | simp only [hji16] at H
    (try rw [hji16] at A4)
    have hji16_ : (IntKind.u64.wrap (a1 * 2 ^ min t159.toNat 64)) = ji16 := hji16
    have hji16z : t159 ≤ 64 → (IntKind.u64.wrap (a1 * 2 ^ t159.toNat)) = ji16 := shl_small hji16
    simp only [Option.some.injEq, Prod.mk.injEq] at H
    obtain ⟨rfl, rfl⟩ := H
    go_enter Tryd.func55, Tryd.ntmps55
    iterate 6 (go_wp2_with (first | (go_at_call 93; (with_reducible refine (wide_within.calls a2 t159 _ A4.out).mono ?_); rintro e w17 ⟨rfl, hb⟩; replace HB := Aside0.mk (below_step dB hb); (try clear hb))); try go_quiet (fail))
    go_ret2
    exact ⟨by first | rfl | (simp [errW_none, errW_some] <;> rfl) | (simp only [← hji11, ← hji12, ← hji14, ← hji16]; first | rfl | (simp [errW_none, errW_some] <;> rfl)) | (simp [*, errW_none, errW_some] <;> rfl), dB⟩
   ·rw [if_neg c13] at H
    exact absurd H (by simp)
  ·rw [if_neg c10] at H
   exact absurd H (by simp)

end Go.Proofs.YtoefabmlkbhmpaaDoor.PA

namespace Go.Proofs.YtoefabmlkbhmpaaDoor.PA
open Go.RowKit Go.Proofs.YtoefabmlkbhmpaaDoorW.PrintWords Go.Proofs.YtoefabmlkbhmpaaDoorW.PrintLast Go.Proofs.YtoefabmlkbhmpaaDoorW.PrintMore
attribute [local go_sem] max2_int min2_int max_two min_two max_three min_three max_four min_four   -- for this text's walks alone
set_option linter.unusedVariables false
set_option linter.unusedSimpArgs false

/-! ### near_shl: function 52 (by hand) -/
theorem R_make_cap {P : Program} {ops : Array Oper} {rest : List Oper} {o : Oper} {a : Act} {Q : Exit → Act → World → Prop} {w0 W : World} (base e : Nat) (hgd : o.guard = none) {N : Tmp} (_hd : o.dst = some N) (t : TypeId) (x y : Operand) (ho : o.op = .makeSlice t x y) (n c : Int) (hx : a.eval x = .int .i64 n) (hy : a.eval y = .int .i64 c)
  (ht : P.underlying t = some (.slice e)) (hinfo : (P.info? e).map (fun i => (i.zero, i.size, i.bytes)) = some (some (.int .u64 0), 1, 8)) {ok : Nat → Prop} (hfresh : ok W.heap.size) (h0 : 0 ≤ n) (hnc : n ≤ c) (hl : c.toNat ≤ 35184372088832) (HB : Below base w0 W) (hbase : base ≤ W.heap.size)
  (h : ∀ v1 w1, (Kd.int .u64).R e w1 base ok v1 (List.replicate n.toNat 0) → Below base w0 w1 → W.grownBy w1 none → (∃ b, v1.ownBlock = some b ∧ W.heap.size ≤ b) → wpList P ops Q rest (a.put o.dst v1) w1) : wpList P ops Q (o :: rest) a W := by
 obtain ⟨i0, hi, hzz⟩ := Option.map_eq_some_iff.1 hinfo
 simp only [Prod.mk.injEq] at hzz
 obtain ⟨hz0, hz1, hz2⟩ := hzz
 obtain ⟨m, rfl⟩ := Int.eq_ofNat_of_zero_le (show 0 ≤ c by omega)
 obtain ⟨k, rfl⟩ := Int.eq_ofNat_of_zero_le h0
 simp only [Int.toNat_natCast] at hl h
 have hr := run_make (P := P) W t e i0 (.int .u64 0) ht hi hz0 .i64 .i64 (k : Int) (m : Int) h0 hnc (by rw [hz2]; omega) (by omega)
 simp only [Int.toNat_natCast] at hr
 rw [hz1, Nat.mul_one] at hr
 have hrep : Reps ((Kd.int .u64).M W base ok) 1 (List.replicate m (0 : Int)) (madeCells (Value.int .u64 0).cells (m * 1)).toList := Kd.reps_made (R := (Kd.int .u64).M W base ok) (z := .int .u64 0) (size := 1) (z0 := (0 : Int)) rfl (by decide) rfl m
 rw [Nat.mul_one] at hrep
 have full : (Kd.int .u64).R e (W.alloc (.cells (madeCells (Value.int .u64 0).cells m) e)) base ok (.slice (some ⟨W.heap.size, 0, none⟩) m m) (List.replicate m (0 : Int)) := by
  refine ⟨fun q hq => ?_, (madeCells (Value.int .u64 0).cells m).toList, ?_, ?_⟩
  ·have : W.heap.size = q := by simpa [Value.ownBlock] using hq
   subst this
   exact hfresh
  ·have h2 := ownsRow2_lit (base := base) (e := e) (size := 1) W (madeCells (Value.int .u64 0).cells m) m hbase (by simp only [maxLen]; omega) (by simp [size_madeCells])
   rw [List.length_replicate]
   exact h2
  ·exact hrep.imp_ (fun p c hp => hp)
 have cut := Kd.R_take (m := k) full (by simp; omega)
 rw [List.take_replicate, Nat.min_eq_left (by omega)] at cut
 refine Kd.event_run hgd (v := .slice (some ⟨W.heap.size, 0, none⟩) k m) (w1 := W.alloc (.cells (madeCells (Value.int .u64 0).cells m) e)) ?_ (h _ _ cut (HB.alloc hbase _) (World.grownBy_alloc W _ none) ⟨W.heap.size, by simp [Value.ownBlock], Nat.le_refl _⟩)
 simp [execOp, ho, hx, hy, hr]
def near_shl.l0 : Nat → Int → List Int → Int → List Int → Int → Int → Option (List Int)
 | 0, _, _, _, _, _, _ => none
 | k + 1, x1, x5, x6, x20, x21, x22 => if x22 < x21 then (if 0 ≤ x22 then (if x22 < (x20.length : Int) then ((wide_Shl.f 0 (rd x20 x22) (Int.tmod x1 64)).bind fun bt146 => (if x5.length < 17592186044416 then (near_shl.l0 k x1 (x5 ++ [Go.bits .or .u64 bt146.2 x6]) bt146.1 x20 x21 (wrap64 (x22 + 1))) else (none))) else (none)) else (none)) else (if x5.length < 17592186044416 then (some (x5 ++ [x6])) else (none))
def near_shl.f (k : Nat) (l0 : List Int) (a1 : Int) : Option (List Int) := if 0 ≤ (wrap64 (Int.tdiv a1 64)) then (if (wrap64 (Int.tdiv a1 64) : Int).toNat + l0.length + 1 ≤ 35184372088832 then (near_shl.l0 k a1 (List.replicate (wrap64 (Int.tdiv a1 64) : Int).toNat 0) 0 l0 (l0.length : Int) 0) else (none)) else (none)
theorem near_shl.mono_l : ∀ k, (∀ y0 y1 y2 y3 y4 y5, LeO (near_shl.l0 k y0 y1 y2 y3 y4 y5) (near_shl.l0 (k + 1) y0 y1 y2 y3 y4 y5))
 | 0 => fun _ _ _ _ _ _ r h => by simp [near_shl.l0] at h
 | k + 1 => by
  have ih0 := near_shl.mono_l k
  ·intro y0 y1 y2 y3 y4 y5
   unfold near_shl.l0
   exact mX
theorem near_shl.mono : ∀ a0 a1 k, LeO (near_shl.f k a0 a1) (near_shl.f (k + 1) a0 a1) := by
 intro a0 a1 k
 have ih0 := near_shl.mono_l k
 unfold near_shl.f
 exact mX
set_option maxHeartbeats 8000000 in
set_option maxRecDepth 100000 in
theorem near_shl.calls (k : Nat) (A0 : Option Addr) (c0 : Nat) (l0 : List Int) (a1 : Int) (r : List Int) (w : World) (hr0 : Kd.C (Kd.int .u64) w A0 l0.length l0) (hc0 : l0.length ≤ c0) (h : near_shl.f k l0 a1 = some r) :
  Calls Tryd.prog 52 #[.slice A0 l0.length c0, .int .i64 a1] w fun e w' => ∃ v0_ : Value, e = .returned (v0_) ∧ Kd.R (Kd.int .u64) 26 w' w.heap.size (fun _ => True) v0_ r ∧ Below w.heap.size w w' := by
 have HR0 := Aside0.mk hr0
 have HC0 := Aside0.mk hc0
 clear hr0 hc0
 have HB := Aside0.mk (Below.refl w.heap.size w)
 have H : (if 0 ≤ (wrap64 (Int.tdiv a1 64)) then (if (wrap64 (Int.tdiv a1 64) : Int).toNat + l0.length + 1 ≤ 35184372088832 then (near_shl.l0 k a1 (List.replicate (wrap64 (Int.tdiv a1 64) : Int).toNat 0) 0 l0 (l0.length : Int) 0) else (none)) else (none)) = some r := h
 clear h
 obtain ⟨ji3, hji3⟩ : ∃ j_ : Int, (wrap64 (Int.tdiv a1 64)) = j_ := ⟨_, rfl⟩
 first | rw [hji3] at H | simp only [hji3] at H
 have hji3w : (IntKind.i64.wrap (Int.tdiv a1 64)) = ji3 := (i64_w _).trans hji3
 by_cases c4 : (0 : Int) ≤ (ji3)
 ·rw [if_pos c4] at H
  have c4b0 := eq_true c4
  have c4b1 : decide (0 ≤ (ji3)) = true := decide_eq_true c4
  clear c4
  by_cases c5 : (ji3 : Int).toNat + l0.length + 1 ≤ 35184372088832
  ·rw [if_pos c5] at H
   have CAP : Aside0 (ji3 ≤ wrap64 (wrap64 (ji3 + (l0.length : Int)) + 1) ∧ (wrap64 (wrap64 (ji3 + (l0.length : Int)) + 1)).toNat ≤ 35184372088832) := ⟨by
    have j0 : (0 : Int) ≤ ji3 := of_decide_eq_true c4b1
    rw [w64_of (x := ji3 + (l0.length : Int)) (by omega) (by omega), w64_of (by omega) (by omega)]
    omega⟩
   have c5b0 := eq_true c5
   have c5b1 : decide ((ji3 : Int).toNat + l0.length + 1 ≤ 35184372088832) = true := decide_eq_true c5
   clear c5
   obtain ⟨y142, hy142⟩ : ∃ y_ : List Int, y_ = (List.replicate (ji3 : Int).toNat 0) := ⟨_, rfl⟩
   replace H : (near_shl.l0 k a1 y142 0 l0 (l0.length : Int) 0) = some r := by first | (rw [hy142]; with_reducible exact H) | (have H2_ := (Option.bind_some _ _).symm.trans H; rw [hy142]; with_reducible exact H2_) | (have H2_ := (Option.bind_some _ _).symm.trans H; with_reducible exact H2_) | with_reducible exact H | (rw [hy142]; exact H) | exact H
   have Ny142 := Aside0.mk hy142
   clear hy142
   have H' := Aside0.mk H
   clear H
   go_enter Tryd.func52, Tryd.ntmps52
   go_wp2_with (first | ((with_reducible refine gate_dst (N := 19) rfl ?_); refine R_make_cap _ 26 rfl (N := 19) rfl 22 _ _ rfl ji3 (wrap64 (wrap64 (ji3 + (l0.length : Int)) + 1)) rfl rfl Tryd.underlying22 info26 (ok := fun _ => True) trivial (of_decide_eq_true dS) CAP.out.1 CAP.out.2 (Below.refl _ _) (Nat.le_refl _) ?_; intro v143 w6 ho7 hb hg_ hnew_; clear hg_ hnew_; (first | rw [← Ny142.out] at ho7 | (simp only [Int.reduceToNat] at ho7; rw [← Ny142.out] at ho7)); have HO144 := Aside0.mk (Kd.R_lower ho7 (below_size dB)); replace HB := Aside0.mk (below_step dB hb); clear hb ho7))
   go_loopg [5, 6, 22] k (fun kq v5 v6 v22 w' => ∃ (x5_1 : List Int) (x6_1 : Int) (x22_1 : Int), v6 = .int .u64 x6_1 ∧ v22 = .int .i64 x22_1 ∧ Aside0 (near_shl.l0 kq a1 x5_1 x6_1 l0 (l0.length : Int) x22_1 = some r) ∧ Aside0 (kq ≤ k) ∧ Aside0 (Kd.R (Kd.int .u64) 26 w' w.heap.size (fun _ => True) v5 x5_1) ∧ Aside0 (Below w.heap.size w w'))
   case atStart => exact ⟨(y142), (0), (0), dF, dF, H', ⟨Nat.le_refl _⟩, ⟨dR HO144.out⟩, ⟨dB⟩⟩
   case round =>
    clear H'
    try clear c4
    try clear c4b0
    try clear c4b1
    try clear c5
    try clear c5b0
    try clear c5b1
    obtain ⟨x5_1, x6_1, x22_1, rfl, rfl, HA, HK1, HO_5, HB⟩ := hrel
    cases gk with
    | zero => exact absurd HA.out (by simp [near_shl.l0])
    | succ k1 =>
     have H := HA.out
     clear HA
     simp only [near_shl.l0] at H
     by_cases c8 : x22_1 < (l0.length : Int)
     ·rw [if_pos c8] at H
      have c8b0 : decide (x22_1 < (l0.length : Int)) = true := decide_eq_true c8
      clear c8
      by_cases c9 : (0 : Int) ≤ x22_1
      ·rw [if_pos c9] at H
       have c9b0 : decide (0 ≤ x22_1) = true := decide_eq_true c9
       clear c9
       by_cases c10 : x22_1 < (l0.length : Int)
       ·rw [if_pos c10] at H
        have c10b0 : decide (x22_1 < (l0.length : Int)) = true := decide_eq_true c10
        clear c10
        replace H := obe H
        obtain ⟨⟨t146, t147⟩, A110, H⟩ := H
        (try dsimp only at H)
        have A11 := Aside0.mk A110
        clear A110
        by_cases c12 : x5_1.length < 17592186044416
        ·rw [if_pos c12] at H
         have LMc12 := Aside0.mk c12
         clear c12
         obtain ⟨y148, hy148⟩ : ∃ y_ : List Int, y_ = (x5_1 ++ [Go.bits .or .u64 t147 x6_1]) := ⟨_, rfl⟩
         replace H : (near_shl.l0 k1 a1 y148 t146 l0 (l0.length : Int) (wrap64 (x22_1 + 1))) = some r := by first | (rw [hy148]; with_reducible exact H) | (have H2_ := (Option.bind_some _ _).symm.trans H; rw [hy148]; with_reducible exact H2_) | (have H2_ := (Option.bind_some _ _).symm.trans H; with_reducible exact H2_) | with_reducible exact H | (rw [hy148]; exact H) | exact H
         have Ny148 := Aside0.mk hy148
         clear hy148
         have H' := Aside0.mk H
         clear H
         have p145 : 0 ≤ (x22_1 : Int) := of_decide_eq_true dS
         have q145 : x22_1 < (l0.length : Int) := of_decide_eq_true dS
         obtain ⟨ad145, e145, hx145_0⟩ := Kd.at_int HR0.out x22_1 p145 q145
         cases e145
         replace hx145_0 := (HB.out.cell (World.block_lt_of_cell? w _ hx145_0)).trans hx145_0
         replace p145 := eq_true p145
         replace q145 := eq_true q145
         go_wp2_with (first | ((with_reducible refine gate_callee (f := 55) rfl ?_); refine gL (some 30) Tryd.func55 #[.int .u64 0, .int .u64 (rd l0 x22_1), .int .i64 (Int.tmod a1 64)] ?_; (with_reducible refine (wide_Shl.calls 0 (rd l0 x22_1) (Int.tmod a1 64) t146 t147 _ A11.out).mono ?_); rintro e w13 ⟨rfl, hb⟩; refine ⟨_, rfl, ?_⟩; replace HO_5 := Aside0.mk (Kd.R_below (dR HO_5.out) hb); replace HB := Aside0.mk (below_step dB hb); (try clear hb)) | ((with_reducible refine gate_builtin (b := .append) (xs := #[.tmp 33, .tmp 37]) rfl ?_); at_builtin; refine Kd.R_append (Kd.int .u64) (w0 := w) w.heap.size rfl (.tmp 33) (.tmp 37) 22 26 (.int .u64 0) 8 rfl Tryd.underlying22 info26 rfl (by decide) (by omega) u5 x5_1 (Go.bits .or .u64 t147 x6_1) [.int .u64 (Go.bits .or .u64 t147 x6_1)] (fun _ => True) (fun _ => False) rfl rfl ?aP (fun _ hk => hk.elim) ?aF ?aO ?aB ?aS ?aL ?_; (case aP => exact rfl); (case aB => exact dB); (case aF => exact (fun _ _ => trivial)); (case aO => exact (dR HO_5.out)); (case aS => exact (below_size dB)); (case aL => have := LMc12.out; omega); intro v149 w14 ho hb hg hat; rw [← Ny148.out] at ho; replace HB := Aside0.mk (hb); have HO150 := Aside0.mk (ho); clear HO_5; clear ho hb hg hat))
         go_roundg k1
         case measure => have := HK1.out; omega
         case rel => exact ⟨(y148), (t146), (wrap64 (x22_1 + 1)), dF, dF, H', ⟨by have := HK1.out; omega⟩, ⟨dR HO150.out⟩, ⟨dB⟩⟩
        ·rw [if_neg c12] at H
         exact absurd H (by simp)
       ·rw [if_neg c10] at H
        exact absurd H (by simp)
      ·rw [if_neg c9] at H
       exact absurd H (by simp)
     ·rw [if_neg c8] at H
      have c8b0 : decide (x22_1 < (l0.length : Int)) = false := decide_eq_false c8
      clear c8
      by_cases c15 : x5_1.length < 17592186044416
      ·rw [if_pos c15] at H
       have LMc15 := Aside0.mk c15
       clear c15
       obtain ⟨y151, hy151⟩ : ∃ y_ : List Int, y_ = (x5_1 ++ [x6_1]) := ⟨_, rfl⟩
       replace H : (some y151) = some r := by first | (rw [hy151]; with_reducible exact H) | (have H2_ := (Option.bind_some _ _).symm.trans H; rw [hy151]; with_reducible exact H2_) | (have H2_ := (Option.bind_some _ _).symm.trans H; with_reducible exact H2_) | with_reducible exact H | (rw [hy151]; exact H) | exact H
       have Ny151 := Aside0.mk hy151
       clear hy151
       obtain rfl := Option.some.inj H
       go_wp2_with (first | ((with_reducible refine gate_builtin (b := .append) (xs := #[.tmp 41, .tmp 43]) rfl ?_); at_builtin; refine Kd.R_append (Kd.int .u64) (w0 := w) w.heap.size rfl (.tmp 41) (.tmp 43) 22 26 (.int .u64 0) 8 rfl Tryd.underlying22 info26 rfl (by decide) (by omega) u5 x5_1 x6_1 [.int .u64 x6_1] (fun _ => True) (fun _ => False) rfl rfl ?aP (fun _ hk => hk.elim) ?aF ?aO ?aB ?aS ?aL ?_; (case aP => exact rfl); (case aB => exact dB); (case aF => exact (fun _ _ => trivial)); (case aO => exact (dR HO_5.out)); (case aS => exact (below_size dB)); (case aL => have := LMc15.out; omega); intro v152 w16 ho hb hg hat; rw [← Ny151.out] at ho; replace HB := Aside0.mk (hb); have HO153 := Aside0.mk (ho); clear HO_5; clear ho hb hg hat))
       go_ret
       exact ⟨_, by first | rfl | (simp [errW_none, errW_some] <;> rfl) | (simp only [← hji3]; first | rfl | (simp [errW_none, errW_some] <;> rfl)) | (simp [*, errW_none, errW_some] <;> rfl), dR HO153.out, dB⟩
      ·rw [if_neg c15] at H
       exact absurd H (by simp)
  ·rw [if_neg c5] at H
   exact absurd H (by simp)
 ·rw [if_neg c4] at H
  exact absurd H (by simp)


/-! ### wide_Cmp: function 94 -/
def wide_Cmp.j0 : Nat → Int → Int → Int → Int → Bool → Option (Int)
 | 0, _, _, _, _, _ => none
 | k + 1, x0, x1, x2, x3, x9 => if x9 = true then (some (-1)) else (if x0 = x2 then (if x1 = x3 then (some 0) else (some 1)) else (some 1))
def wide_Cmp.f (k : Nat) (a0 : Int) (a1 : Int) (a2 : Int) (a3 : Int) : Option (Int) := if a0 < a2 then (wide_Cmp.j0 k a0 a1 a2 a3 true) else (if a0 = a2 then (wide_Cmp.j0 k a0 a1 a2 a3 (decide (a1 < a3))) else (wide_Cmp.j0 k a0 a1 a2 a3 false))
theorem wide_Cmp.mono_l : ∀ k, (∀ y0 y1 y2 y3 y4, LeO (wide_Cmp.j0 k y0 y1 y2 y3 y4) (wide_Cmp.j0 (k + 1) y0 y1 y2 y3 y4))
 | 0 => fun _ _ _ _ _ r h => by simp [wide_Cmp.j0] at h
 | k + 1 => by
  have ih0 := wide_Cmp.mono_l k
  ·intro y0 y1 y2 y3 y4
   unfold wide_Cmp.j0
   exact mX
theorem wide_Cmp.mono : ∀ a0 a1 a2 a3 k, LeO (wide_Cmp.f k a0 a1 a2 a3) (wide_Cmp.f (k + 1) a0 a1 a2 a3) := by
 intro a0 a1 a2 a3 k
 have ih0 := wide_Cmp.mono_l k
 unfold wide_Cmp.f
 exact mX
set_option maxHeartbeats 8000000 in
set_option maxRecDepth 100000 in
theorem wide_Cmp.calls (k : Nat) (a0 : Int) (a1 : Int) (a2 : Int) (a3 : Int) (r : Int) (w : World) (h : wide_Cmp.f k a0 a1 a2 a3 = some r) :
  Calls Tryd.prog 94 #[.int .u64 a0, .int .u64 a1, .int .u64 a2, .int .u64 a3] w fun e w' => e = .returned (.int .i64 r) ∧ Drawn0 w w' := by
 have H : (if a0 < a2 then (wide_Cmp.j0 k a0 a1 a2 a3 true) else (if a0 = a2 then (wide_Cmp.j0 k a0 a1 a2 a3 (decide (a1 < a3))) else (wide_Cmp.j0 k a0 a1 a2 a3 false))) = some r := h
 clear h
 have HC5 := Aside0.mk H
 clear H
 go_enter Tryd.func94, Tryd.ntmps94
 go_upto_region 1 with (fail)
 go_cut [9] (fun v9 wc => ∃ (kq : Nat) (x9_4 : Bool), v9 = .bool x9_4 ∧ Aside0 (wide_Cmp.j0 kq a0 a1 a2 a3 x9_4 = some r) ∧ Aside0 (kq ≤ k) ∧ Drawn0 w wc)
 case first =>
  have H := HC5.out
  clear HC5
  by_cases c6 : a0 < a2
  ·rw [if_pos c6] at H
   have c6b0 : decide (a0 < a2) = true := decide_eq_true c6
   clear c6
   (first | rw [c6b0] | (simp only [i64_w, i32_w]; rw [c6b0]) | skip)
   have H' := Aside0.mk H
   clear H
   go_wp2
   go_meet
   case rel => exact ⟨_, (true), dF, H', ⟨dN⟩, by repeat (first | exact Drawn0.refl _ | apply Drawn0.step)⟩
  ·rw [if_neg c6] at H
   have c6b0 : decide (a0 < a2) = false := decide_eq_false c6
   clear c6
   (first | rw [c6b0] | (simp only [i64_w, i32_w]; rw [c6b0]) | skip)
   by_cases c7 : a0 = a2
   ·rw [if_pos c7] at H
    have c7b0 : (a0 == a2) = true := beq_iff_eq.mpr c7
    have c7b1 : (a0 != a2) = false := bne_eq_false_iff_eq.mpr c7
    clear c7
    have H' := Aside0.mk H
    clear H
    go_wp2
    go_meet
    case rel => exact ⟨_, (decide (a1 < a3)), dF, H', ⟨dN⟩, by repeat (first | exact Drawn0.refl _ | apply Drawn0.step)⟩
   ·rw [if_neg c7] at H
    have c7b0 : (a0 == a2) = false := beq_eq_false_iff_ne.mpr c7
    have c7b1 : (a0 != a2) = true := bne_iff_ne.mpr c7
    have H' := Aside0.mk H
    clear H
    go_wp2
    go_meet
    case rel => exact ⟨_, (false), dF, H', ⟨dN⟩, by repeat (first | exact Drawn0.refl _ | apply Drawn0.step)⟩
 case rest =>
  clear HC5
  obtain ⟨kq, x9_4, rfl, HA, HJ4, ⟨mc4, rfl⟩⟩ := hcut
  cases kq with
  | zero => exact absurd HA.out (by simp [wide_Cmp.j0])
  | succ kj4 =>
   have H := HA.out
   clear HA
   simp only [wide_Cmp.j0] at H
   by_cases c8 : x9_4 = true
   ·subst c8
    have H1 : (some (-1)) = some r := by rw [if_pos rfl] at H; exact H
    clear H
    have H := H1
    clear H1
    obtain rfl := Option.some.inj H
    go_wp2
    go_ret
    exact ⟨by first | rfl | (simp; done) | (simp [*]; done), by repeat (first | exact Drawn0.refl _ | apply Drawn0.step)⟩
   ·replace c8 := Bool.eq_false_iff.mpr c8
    subst c8
    have H1 : (if a0 = a2 then (if a1 = a3 then (some 0) else (some 1)) else (some 1)) = some r := by rw [if_neg (show ¬ (false = true) by decide)] at H; exact H
    clear H
    have H := H1
    clear H1
    by_cases c9 : a0 = a2
    ·rw [if_pos c9] at H
     have c9b0 : (a0 == a2) = true := beq_iff_eq.mpr c9
     have c9b1 : (a0 != a2) = false := bne_eq_false_iff_eq.mpr c9
     clear c9
     by_cases c10 : a1 = a3
     ·rw [if_pos c10] at H
      have c10b0 : (a1 == a3) = true := beq_iff_eq.mpr c10
      have c10b1 : (a1 != a3) = false := bne_eq_false_iff_eq.mpr c10
      clear c10
      obtain rfl := Option.some.inj H
      go_wp2
      go_ret
      exact ⟨by first | rfl | (simp; done) | (simp [*]; done), by repeat (first | exact Drawn0.refl _ | apply Drawn0.step)⟩
     ·rw [if_neg c10] at H
      have c10b0 : (a1 == a3) = false := beq_eq_false_iff_ne.mpr c10
      have c10b1 : (a1 != a3) = true := bne_iff_ne.mpr c10
      obtain rfl := Option.some.inj H
      go_wp2
      go_ret
      exact ⟨by first | rfl | (simp; done) | (simp [*]; done), by repeat (first | exact Drawn0.refl _ | apply Drawn0.step)⟩
    ·rw [if_neg c9] at H
     have c9b0 : (a0 == a2) = false := beq_eq_false_iff_ne.mpr c9
     have c9b1 : (a0 != a2) = true := bne_iff_ne.mpr c9
     obtain rfl := Option.some.inj H
     go_wp2
     go_ret
     exact ⟨by first | rfl | (simp; done) | (simp [*]; done), by repeat (first | exact Drawn0.refl _ | apply Drawn0.step)⟩

end Go.Proofs.YtoefabmlkbhmpaaDoor.PA

namespace Go.Proofs.YtoefabmlkbhmpaaDoor.PA
open Go.RowKit Go.Proofs.YtoefabmlkbhmpaaDoorW.PrintWords Go.Proofs.YtoefabmlkbhmpaaDoorW.PrintLast Go.Proofs.YtoefabmlkbhmpaaDoorW.PrintMore
attribute [local go_sem] max2_int min2_int max_two min_two max_three min_three max_four min_four   -- for this text's walks alone
set_option linter.unusedVariables false
set_option linter.unusedSimpArgs false

/-! ### nat_Cmp: function 58 -/
def nat_Cmp.l0 : Nat → List Int → List Int → Int → Option (Int)
 | 0, _, _, _ => none
 | k + 1, x0, x1, x7 => if x7 ≥ 0 then (if 0 ≤ x7 then (if x7 < (x0.length : Int) then (if x7 < (x1.length : Int) then ((wide_Cmp.f k 0 (rd x0 x7) 0 (rd x1 x7)).bind fun t164 => (if t164 = 0 then (nat_Cmp.l0 k x0 x1 (wrap64 (x7 - 1))) else (some t164))) else (none)) else (none)) else (none)) else (some 0)
def nat_Cmp.f (k : Nat) (l0 : List Int) (l1 : List Int) : Option (Int) := (nat_size.f k l0).bind fun t160 => ((nat_size.f k l1).bind fun t161 => (if t160 = t161 then (nat_Cmp.l0 k l0 l1 (wrap64 (t160 - 1))) else (if t160 < t161 then (some (-1)) else (some 1))))
theorem nat_Cmp.mono_l : ∀ k, (∀ y0 y1 y2, LeO (nat_Cmp.l0 k y0 y1 y2) (nat_Cmp.l0 (k + 1) y0 y1 y2))
 | 0 => fun _ _ _ r h => by simp [nat_Cmp.l0] at h
 | k + 1 => by
  have ih0 := nat_Cmp.mono_l k
  ·intro y0 y1 y2
   unfold nat_Cmp.l0
   have m0_ := nat_size.mono
   have m1_ := wide_Cmp.mono
   exact mX
theorem nat_Cmp.mono : ∀ a0 a1 k, LeO (nat_Cmp.f k a0 a1) (nat_Cmp.f (k + 1) a0 a1) := by
 intro a0 a1 k
 have ih0 := nat_Cmp.mono_l k
 unfold nat_Cmp.f
 have m0_ := nat_size.mono
 have m1_ := wide_Cmp.mono
 exact mX
set_option maxHeartbeats 8000000 in
set_option maxRecDepth 100000 in
theorem nat_Cmp.calls (k : Nat) (A0 : Option Addr) (c0 : Nat) (l0 : List Int) (A1 : Option Addr) (c1 : Nat) (l1 : List Int) (r : Int) (w : World) (hr0 : Kd.C (Kd.int .u64) w A0 l0.length l0) (hc0 : l0.length ≤ c0) (hr1 : Kd.C (Kd.int .u64) w A1 l1.length l1) (hc1 : l1.length ≤ c1) (h : nat_Cmp.f k l0 l1 = some r) :
  Calls Tryd.prog 58 #[.slice A0 l0.length c0, .slice A1 l1.length c1] w fun e w' => e = .returned (.int .i64 r) ∧ Drawn0 w w' := by
 have HR0 := Aside0.mk hr0
 have HC0 := Aside0.mk hc0
 clear hr0 hc0
 have HR1 := Aside0.mk hr1
 have HC1 := Aside0.mk hc1
 clear hr1 hc1
 have H : ((nat_size.f k l0).bind fun t160 => ((nat_size.f k l1).bind fun t161 => (if t160 = t161 then (nat_Cmp.l0 k l0 l1 (wrap64 (t160 - 1))) else (if t160 < t161 then (some (-1)) else (some 1))))) = some r := h
 clear h
 replace H := obe H
 obtain ⟨t160, A30, H⟩ := H
 (try dsimp only at H)
 have A3 := Aside0.mk A30
 clear A30
 replace H := obe H
 obtain ⟨t161, A40, H⟩ := H
 (try dsimp only at H)
 have A4 := Aside0.mk A40
 clear A40
 by_cases c5 : t160 = t161
 ·rw [if_pos c5] at H
  have c5b0 : (t160 == t161) = true := beq_iff_eq.mpr c5
  have c5b1 : (t160 != t161) = false := bne_eq_false_iff_eq.mpr c5
  clear c5
  have H' := Aside0.mk H
  clear H
  go_enter Tryd.func58, Tryd.ntmps58
  iterate 6 (go_wp2_with (first | (go_at_call 54; (with_reducible refine (nat_size.calls k _ _ l0 t160 _ ?side1 ?side2 A3.out).mono ?_); (case side1 => exact dC HR0.out); (case side2 => exact HC0.out); rintro e w' ⟨rfl, ⟨nd, rfl⟩⟩; (try exact dW)) | (go_at_call 54; (with_reducible refine (nat_size.calls k _ _ l1 t161 _ ?side1 ?side2 A4.out).mono ?_); (case side1 => exact dC HR1.out); (case side2 => exact HC1.out); rintro e w' ⟨rfl, ⟨nd, rfl⟩⟩; (try exact dW))); try go_quiet (first | (go_at_call 54; (with_reducible refine (nat_size.calls k _ _ l0 t160 _ ?side1 ?side2 A3.out).mono ?_); (case side1 => exact dC HR0.out); (case side2 => exact HC0.out); rintro e w' ⟨rfl, ⟨nd, rfl⟩⟩; (try exact dW)) | (go_at_call 54; (with_reducible refine (nat_size.calls k _ _ l1 t161 _ ?side1 ?side2 A4.out).mono ?_); (case side1 => exact dC HR1.out); (case side2 => exact HC1.out); rintro e w' ⟨rfl, ⟨nd, rfl⟩⟩; (try exact dW))))
  go_loopg [7] k (fun kq v7 w' => ∃ (x7_1 : Int), v7 = .int .i64 x7_1 ∧ Aside0 (nat_Cmp.l0 kq l0 l1 x7_1 = some r) ∧ Aside0 (kq ≤ k) ∧ Drawn0 w w')
  case atStart => exact ⟨(wrap64 (t160 - 1)), dF, H', ⟨Nat.le_refl _⟩, by repeat (first | exact Drawn0.refl _ | apply Drawn0.step)⟩
  case round =>
   clear H'
   try clear c1
   try clear c5
   try clear c5b0
   try clear c5b1
   obtain ⟨x7_1, rfl, HA, HK1, ⟨m1, rfl⟩⟩ := hrel
   cases gk with
   | zero => exact absurd HA.out (by simp [nat_Cmp.l0])
   | succ k1 =>
    have H := HA.out
    clear HA
    simp only [nat_Cmp.l0] at H
    by_cases c6 : x7_1 ≥ 0
    ·rw [if_pos c6] at H
     have c6b0 : decide (0 ≤ x7_1) = true := decide_eq_true c6
     clear c6
     by_cases c7 : (0 : Int) ≤ x7_1
     ·rw [if_pos c7] at H
      have c7b0 : decide (0 ≤ x7_1) = true := decide_eq_true c7
      clear c7
      by_cases c8 : x7_1 < (l0.length : Int)
      ·rw [if_pos c8] at H
       have c8b0 : decide (x7_1 < (l0.length : Int)) = true := decide_eq_true c8
       clear c8
       by_cases c9 : x7_1 < (l1.length : Int)
       ·rw [if_pos c9] at H
        have c9b0 : decide (x7_1 < (l1.length : Int)) = true := decide_eq_true c9
        clear c9
        replace H := obe H
        obtain ⟨t164, A100, H⟩ := H
        (try dsimp only at H)
        have A10 := Aside0.mk A100
        clear A100
        by_cases c11 : t164 = 0
        ·rw [if_pos c11] at H
         have c11b0 : (t164 == 0) = true := beq_iff_eq.mpr c11
         have c11b1 : (t164 != 0) = false := bne_eq_false_iff_eq.mpr c11
         clear c11
         have H' := Aside0.mk H
         clear H
         have p162 : 0 ≤ (x7_1 : Int) := of_decide_eq_true dS
         have q162 : x7_1 < (l0.length : Int) := of_decide_eq_true dS
         obtain ⟨ad162, e162, hx162_0⟩ := Kd.at_int HR0.out x7_1 p162 q162
         cases e162
         replace p162 := eq_true p162
         replace q162 := eq_true q162
         have p163 : 0 ≤ (x7_1 : Int) := of_decide_eq_true dS
         have q163 : x7_1 < (l1.length : Int) := of_decide_eq_true dS
         obtain ⟨ad163, e163, hx163_0⟩ := Kd.at_int HR1.out x7_1 p163 q163
         cases e163
         replace p163 := eq_true p163
         replace q163 := eq_true q163
         iterate 6 (go_wp2_with (first | (go_at_call 94; (with_reducible refine (wide_Cmp.calls k1 0 (rd l0 x7_1) 0 (rd l1 x7_1) t164 _ A10.out).mono ?_); rintro e w' ⟨rfl, ⟨nd, rfl⟩⟩; (try exact dW))); try go_quiet (first | (go_at_call 94; (with_reducible refine (wide_Cmp.calls k1 0 (rd l0 x7_1) 0 (rd l1 x7_1) t164 _ A10.out).mono ?_); rintro e w' ⟨rfl, ⟨nd, rfl⟩⟩; (try exact dW))))
         go_roundg k1
         case measure => have := HK1.out; omega
         case rel => exact ⟨(wrap64 (x7_1 - 1)), dF, H', ⟨by have := HK1.out; omega⟩, by repeat (first | exact Drawn0.refl _ | apply Drawn0.step)⟩
        ·rw [if_neg c11] at H
         have c11b0 : (t164 == 0) = false := beq_eq_false_iff_ne.mpr c11
         have c11b1 : (t164 != 0) = true := bne_iff_ne.mpr c11
         obtain rfl := Option.some.inj H
         have p162 : 0 ≤ (x7_1 : Int) := of_decide_eq_true dS
         have q162 : x7_1 < (l0.length : Int) := of_decide_eq_true dS
         obtain ⟨ad162, e162, hx162_0⟩ := Kd.at_int HR0.out x7_1 p162 q162
         cases e162
         replace p162 := eq_true p162
         replace q162 := eq_true q162
         have p163 : 0 ≤ (x7_1 : Int) := of_decide_eq_true dS
         have q163 : x7_1 < (l1.length : Int) := of_decide_eq_true dS
         obtain ⟨ad163, e163, hx163_0⟩ := Kd.at_int HR1.out x7_1 p163 q163
         cases e163
         replace p163 := eq_true p163
         replace q163 := eq_true q163
         iterate 6 (go_wp2_with (first | (go_at_call 94; (with_reducible refine (wide_Cmp.calls k1 0 (rd l0 x7_1) 0 (rd l1 x7_1) t164 _ A10.out).mono ?_); rintro e w' ⟨rfl, ⟨nd, rfl⟩⟩; (try exact dW))); try go_quiet (first | (go_at_call 94; (with_reducible refine (wide_Cmp.calls k1 0 (rd l0 x7_1) 0 (rd l1 x7_1) t164 _ A10.out).mono ?_); rintro e w' ⟨rfl, ⟨nd, rfl⟩⟩; (try exact dW))))
         go_ret
         exact ⟨by first | rfl | (simp; done) | (simp [*]; done), by repeat (first | exact Drawn0.refl _ | apply Drawn0.step)⟩
       ·rw [if_neg c9] at H
        exact absurd H (by simp)
      ·rw [if_neg c8] at H
       exact absurd H (by simp)
     ·rw [if_neg c7] at H
      exact absurd H (by simp)
    ·rw [if_neg c6] at H
     have c6b0 : decide (0 ≤ x7_1) = false := decide_eq_false c6
     clear c6
     obtain rfl := Option.some.inj H
     go_wp2
     repeat (go_quiet (fail); try go_wp2)
     go_ret
     exact ⟨by first | rfl | (simp; done) | (simp [*]; done), by repeat (first | exact Drawn0.refl _ | apply Drawn0.step)⟩
 ·rw [if_neg c5] at H
  have c5b0 : (t160 == t161) = false := beq_eq_false_iff_ne.mpr c5
  have c5b1 : (t160 != t161) = true := bne_iff_ne.mpr c5
  by_cases c12 : t160 < t161
  ·rw [if_pos c12] at H
   have c12b0 : decide (t160 < t161) = true := decide_eq_true c12
   clear c12
   obtain rfl := Option.some.inj H
   go_enter Tryd.func58, Tryd.ntmps58
   iterate 6 (go_wp2_with (first | (go_at_call 54; (with_reducible refine (nat_size.calls k _ _ l0 t160 _ ?side1 ?side2 A3.out).mono ?_); (case side1 => exact dC HR0.out); (case side2 => exact HC0.out); rintro e w' ⟨rfl, ⟨nd, rfl⟩⟩; (try exact dW)) | (go_at_call 54; (with_reducible refine (nat_size.calls k _ _ l1 t161 _ ?side1 ?side2 A4.out).mono ?_); (case side1 => exact dC HR1.out); (case side2 => exact HC1.out); rintro e w' ⟨rfl, ⟨nd, rfl⟩⟩; (try exact dW))); try go_quiet (first | (go_at_call 54; (with_reducible refine (nat_size.calls k _ _ l0 t160 _ ?side1 ?side2 A3.out).mono ?_); (case side1 => exact dC HR0.out); (case side2 => exact HC0.out); rintro e w' ⟨rfl, ⟨nd, rfl⟩⟩; (try exact dW)) | (go_at_call 54; (with_reducible refine (nat_size.calls k _ _ l1 t161 _ ?side1 ?side2 A4.out).mono ?_); (case side1 => exact dC HR1.out); (case side2 => exact HC1.out); rintro e w' ⟨rfl, ⟨nd, rfl⟩⟩; (try exact dW))))
   go_ret
   exact ⟨by first | rfl | (simp; done) | (simp [*]; done), by repeat (first | exact Drawn0.refl _ | apply Drawn0.step)⟩
  ·rw [if_neg c12] at H
   have c12b0 : decide (t160 < t161) = false := decide_eq_false c12
   clear c12
   obtain rfl := Option.some.inj H
   go_enter Tryd.func58, Tryd.ntmps58
   iterate 6 (go_wp2_with (first | (go_at_call 54; (with_reducible refine (nat_size.calls k _ _ l0 t160 _ ?side1 ?side2 A3.out).mono ?_); (case side1 => exact dC HR0.out); (case side2 => exact HC0.out); rintro e w' ⟨rfl, ⟨nd, rfl⟩⟩; (try exact dW)) | (go_at_call 54; (with_reducible refine (nat_size.calls k _ _ l1 t161 _ ?side1 ?side2 A4.out).mono ?_); (case side1 => exact dC HR1.out); (case side2 => exact HC1.out); rintro e w' ⟨rfl, ⟨nd, rfl⟩⟩; (try exact dW))); try go_quiet (first | (go_at_call 54; (with_reducible refine (nat_size.calls k _ _ l0 t160 _ ?side1 ?side2 A3.out).mono ?_); (case side1 => exact dC HR0.out); (case side2 => exact HC0.out); rintro e w' ⟨rfl, ⟨nd, rfl⟩⟩; (try exact dW)) | (go_at_call 54; (with_reducible refine (nat_size.calls k _ _ l1 t161 _ ?side1 ?side2 A4.out).mono ?_); (case side1 => exact dC HR1.out); (case side2 => exact HC1.out); rintro e w' ⟨rfl, ⟨nd, rfl⟩⟩; (try exact dW))))
   go_ret
   exact ⟨by first | rfl | (simp; done) | (simp [*]; done), by repeat (first | exact Drawn0.refl _ | apply Drawn0.step)⟩

/-! ### nat_From: function 66 -/
def nat_From.f (a0 : Int) : Option (List Int) := (nat_Norm.f (([a0] : List Int))).bind fun t168 => (some t168)
set_option maxHeartbeats 8000000 in
set_option maxRecDepth 100000 in
theorem nat_From.calls (a0 : Int) (r : List Int) (w : World) (h : nat_From.f a0 = some r) :
  Calls Tryd.prog 66 #[.int .u64 a0] w fun e w' => ∃ v0_ : Value, e = .returned (v0_) ∧ Kd.R (Kd.int .u64) 26 w' w.heap.size (fun _ => True) v0_ r ∧ Below w.heap.size w w' := by
 have HB := Aside0.mk (Below.refl w.heap.size w)
 have H : ((nat_Norm.f (([a0] : List Int))).bind fun t168 => (some t168)) = some r := h
 clear h
 obtain ⟨y165, hy165⟩ : ∃ y_ : List Int, y_ = (([a0] : List Int)) := ⟨_, rfl⟩
 replace H : ((nat_Norm.f y165).bind fun t168 => (some t168)) = some r := by first | (rw [hy165]; with_reducible exact H) | (have H2_ := (Option.bind_some _ _).symm.trans H; rw [hy165]; with_reducible exact H2_) | (have H2_ := (Option.bind_some _ _).symm.trans H; with_reducible exact H2_) | with_reducible exact H | (rw [hy165]; exact H) | exact H
 have Ny165 := Aside0.mk hy165
 clear hy165
 replace H := obe H
 obtain ⟨t168, A20, H⟩ := H
 (try dsimp only at H)
 have A2 := Aside0.mk A20
 clear A20
 obtain rfl := Option.some.inj H
 go_enter Tryd.func66, Tryd.ntmps66
 go_wp2_with (first | ((with_reducible refine gate_dst (N := 4) rfl ?_); refine Kd.R_lit (Kd.int .u64) _ 26 ?hg (N := 4) ?hd (xs := ([a0] : List Int)) (inner := [.int .u64 a0]) (ok := fun _ => True) (okp := fun _ => True) ?hr ?hp (fun _ hk => hk) trivial (Below.refl _ _) (Nat.le_refl _) (by simp) ?_; (case hd => rfl); (case hg => rfl); (case hr => first | (go_simp; done) | (go_simp; rfl)); (case hp => exact (Reps.one (show Kd.M (Kd.int .u64) _ _ _ a0 [.int .u64 a0] from rfl) (Reps.none _ _))); intro v166 w3 ho4 hb hg_ hnew_; clear hg_ hnew_; (first | rw [← Ny165.out] at ho4 | (simp only [Int.reduceToNat] at ho4; rw [← Ny165.out] at ho4)); have HO167 := Aside0.mk (Kd.R_lower ho4 (below_size dB)); replace HB := Aside0.mk (below_step dB hb); clear hb ho4; obtain ⟨Ao5, co5, eo5⟩ := Kd.R_slice HO167.out; subst eo5) | ((with_reducible refine gate_callee (f := 51) rfl ?_); refine gL (some 5) Tryd.func51 #[.slice Ao5 y165.length co5] ?_; (with_reducible refine (nat_Norm.calls _ _ y165 t168 _ ?side1 ?side2 A2.out).mono ?_); (case side1 => exact dC (Kd.R_reads' HO167.out).2.2); (case side2 => exact (Kd.R_reads' HO167.out).2.1); rintro e w6 ⟨v169, rfl, ho0, hb⟩; refine ⟨_, rfl, ?_⟩; have HO170 := Aside0.mk (Kd.R_lower (Kd.R_new' ho0 (Kd.R_lt (dR HO167.out))) (below_size dB)); replace HO167 := Aside0.mk (Kd.R_elder' (dR HO167.out) (Kd.R_base ho0) hb); replace HB := Aside0.mk (below_step dB hb); (try clear hb); (try clear ho0)))
 go_ret
 exact ⟨_, dE, by (with_reducible repeat (first | apply Kd.R_alloc | apply Kd.R_drewN | apply Kd.R_drew)); exact Kd.R_mono HO170.out (fun _ hk => trivial), dB⟩

end Go.Proofs.YtoefabmlkbhmpaaDoor.PA

namespace Go.Proofs.YtoefabmlkbhmpaaDoor.PA
open Go.RowKit Go.Proofs.YtoefabmlkbhmpaaDoorW.PrintWords Go.Proofs.YtoefabmlkbhmpaaDoorW.PrintLast Go.Proofs.YtoefabmlkbhmpaaDoorW.PrintMore
attribute [local go_sem] max2_int min2_int max_two min_two max_three min_three max_four min_four   -- for this text's walks alone
set_option linter.unusedVariables false
set_option linter.unusedSimpArgs false

/-! ### wide_Div: function 114 (by hand) -/
def wide_Div.f (a0 : Int) (a1 : Int) (a2 : Int) : Option (Int × Int × Int) := if u64B a0 = true ∧ u64B a1 = true ∧ u64B a2 = true then (if a2 = 0 then some (0, 0, 10) else if a2 ≤ a0 then some (0, 0, 11) else some ((a0 * 18446744073709551616 + a1) / a2, (a0 * 18446744073709551616 + a1) % a2, 0)) else none
/-- the state of the loop that mends a guessed digit -/
structure Mend (B r l d f : Int) : Prop where
 sum : d * (B / 4294967296) + f = r
 f0 : 0 ≤ f
 f1 : f < 4294967296
 le : (r * 4294967296 + l) / B ≤ d
structure DivIn (B r l : Int) : Prop where
 B0 : 9223372036854775808 ≤ B
 B1 : B < 18446744073709551616
 r0 : 0 ≤ r
 r1 : r < B
 l0 : 0 ≤ l
 l1 : l < 4294967296
theorem DivIn.q {B r l : Int} (h : DivIn B r l) : 0 ≤ (r * 4294967296 + l) / B ∧ (r * 4294967296 + l) / B < 4294967296 := by
 obtain ⟨h1, h2, h3, h4, h5, h6⟩ := h
 refine ⟨Int.ediv_nonneg (by omega) (by omega), ?_⟩
 exact Int.ediv_lt_of_lt_mul (by omega) (by omega)
theorem or_zero {y : Int} (h0 : 0 ≤ y) (h1 : y < 18446744073709551616) : Go.bits .or .u64 0 y = y := by rw [or_join 64 (by omega) (by omega) rfl h0 h1 h1]; omega
theorem Mend.start {B r l : Int} (h : DivIn B r l) : Mend B r l (r / (B / 4294967296)) (r % (B / 4294967296)) := by
 obtain ⟨h1, h2, h3, h4, h5, h6⟩ := h
 have hb : 0 < B / 4294967296 := by omega
 have e := Int.mul_ediv_add_emod r (B / 4294967296)
 have m0 := Int.emod_nonneg r (show B / 4294967296 ≠ 0 by omega)
 have m1 := Int.emod_lt_of_pos r hb
 refine ⟨by rw [Int.mul_comm]; exact e, m0, by omega, ?_⟩
 have hq : 0 ≤ r / (B / 4294967296) := Int.ediv_nonneg h3 (by omega)
 -- by the smaller divisor
 have hlt : r * 4294967296 + l < (r / (B / 4294967296) + 1) * B := by
  generalize r / (B / 4294967296) = q at *
  generalize hB : B / 4294967296 = b at *
  have h7 : b * 4294967296 ≤ B := by omega
  have h8 : (q + 1) * (b * 4294967296) ≤ (q + 1) * B := Int.mul_le_mul_of_nonneg_left h7 (by omega)
  have h9 : (q + 1) * (b * 4294967296) = (b * q + b) * 4294967296 := by grind
  omega
 have := Int.ediv_lt_of_lt_mul (by omega) hlt
 omega
theorem Mend.big {B r l d f : Int} (h : DivIn B r l) (m : Mend B r l d f) : 0 ≤ d ∧ d ≤ 4294967297 := by
 obtain ⟨h1, h2, h3, h4, h5, h6⟩ := h
 have h0 := Int.ediv_nonneg (show 0 ≤ r * 4294967296 + l by omega) (show 0 ≤ B by omega)
 refine ⟨Int.le_trans h0 m.le, ?_⟩
 apply Classical.byContradiction
 intro hc
 have h7 : 4294967298 * (B / 4294967296) ≤ d * (B / 4294967296) := Int.mul_le_mul_of_nonneg_right (by omega) (by omega)
 have := m.sum
 have := m.f0
 omega
/-- what the test says, without wraps -/
theorem Mend.test {B r l d f : Int} (h : DivIn B r l) (m : Mend B r l d f) (hd : d ≤ 4294967295) :
  Go.bits .or .u64 (IntKind.u64.wrap (f * 4294967296)) l = f * 4294967296 + l ∧ IntKind.u64.wrap (d * Go.bits .and .u64 B 4294967295) = d * (B % 4294967296) ∧
  (f * 4294967296 + l < d * (B % 4294967296) ↔ (r * 4294967296 + l) / B < d) := by
 have hb := m.big h
 obtain ⟨h1, h2, h3, h4, h5, h6⟩ := h
 have f0 := m.f0
 have f1 := m.f1
 have e := m.sum
 rw [join_half f0 f1 h5 h6, and_half (by omega) h2]
 have p := mul_half (x := d) (y := B % 4294967296) (by omega) (by omega) (by omega) (by omega)
 refine ⟨rfl, u64w_of (by omega) (by omega), ?_⟩
 have eB : d * B = d * (B / 4294967296) * 4294967296 + d * (B % 4294967296) := by
  have : B = B / 4294967296 * 4294967296 + B % 4294967296 := by omega
  generalize B / 4294967296 = u at *
  generalize B % 4294967296 = v at *
  rw [this]; grind
 rw [Int.ediv_lt_iff_lt_mul (by omega), eB]
 omega
theorem Mend.lower {B r l d f : Int} (h : DivIn B r l) (m : Mend B r l d f) (ht : 4294967295 < d ∨ (r * 4294967296 + l) / B < d) :
  1 ≤ d ∧ (d - 1) * (B / 4294967296) + (f + B / 4294967296) = r ∧ (r * 4294967296 + l) / B ≤ d - 1 := by
 have hq := h.q
 have := m.le
 refine ⟨by omega, ?_, by omega⟩
 have := m.sum
 rw [Int.sub_mul]; omega
theorem Mend.next {B r l d f : Int} (h : DivIn B r l) (m : Mend B r l d f) (ht : 4294967295 < d ∨ (r * 4294967296 + l) / B < d) (hf : f + B / 4294967296 < 4294967296) : Mend B r l (d - 1) (f + B / 4294967296) := by
 have h1 := m.lower h ht
 have := m.f0
 have := h.B0
 exact ⟨h1.2.1, by omega, hf, h1.2.2⟩
theorem Mend.stop {B r l d f : Int} (h : DivIn B r l) (m : Mend B r l d f) (ht : 4294967295 < d ∨ (r * 4294967296 + l) / B < d) (hf : 4294967296 ≤ f + B / 4294967296) : d - 1 = (r * 4294967296 + l) / B := by
 have h1 := m.lower h ht
 have hb := m.big h
 obtain ⟨g1, g2, g3, g4, g5, g6⟩ := h
 have : d - 1 ≤ (r * 4294967296 + l) / B := by
  refine Int.le_ediv_of_mul_le (by omega) ?_
  have eB : (d - 1) * B = (d - 1) * (B / 4294967296) * 4294967296 + (d - 1) * (B % 4294967296) := by
   have : B = B / 4294967296 * 4294967296 + B % 4294967296 := by omega
   generalize B / 4294967296 = u at *
   generalize B % 4294967296 = v at *
   rw [this]; grind
  have h5 : (d - 1) * (B % 4294967296) ≤ 4294967296 * (B % 4294967296) := Int.mul_le_mul_of_nonneg_right (by omega) (by omega)
  rw [eB]
  have := h1.2.1
  omega
 omega
/-- the rest of a step -/
theorem div_rest {B r l : Int} (h : DivIn B r l) : IntKind.u64.wrap (IntKind.u64.wrap (IntKind.u64.wrap (r * 4294967296) + l) - IntKind.u64.wrap ((r * 4294967296 + l) / B * B)) = (r * 4294967296 + l) % B := by
 have e := Int.mul_ediv_add_emod (r * 4294967296 + l) B
 have m0 := Int.emod_nonneg (r * 4294967296 + l) (show B ≠ 0 by have := h.B0; omega)
 have m1 := Int.emod_lt_of_pos (r * 4294967296 + l) (show 0 < B by have := h.B0; omega)
 have := h.B1
 rw [Int.mul_comm] at e
 generalize (r * 4294967296 + l) / B * B = p at *
 simp only [u64w]
 omega
theorem DivIn.next {B r l l' : Int} (h : DivIn B r l) (h0 : 0 ≤ l') (h1 : l' < 4294967296) : DivIn B ((r * 4294967296 + l) % B) l' :=
 ⟨h.B0, h.B1, Int.emod_nonneg _ (by have := h.B0; omega), Int.emod_lt_of_pos _ (by have := h.B0; omega), h0, h1⟩
/-- two digits and the rest are quotient and rest of the whole -/
theorem div_two {B r l l' : Int} (h : DivIn B r l) (h0 : 0 ≤ l') (h1 : l' < 4294967296) :
  (r * 4294967296 + l) / B * 4294967296 + ((r * 4294967296 + l) % B * 4294967296 + l') / B = ((r * 4294967296 + l) * 4294967296 + l') / B ∧
  ((r * 4294967296 + l) % B * 4294967296 + l') % B = ((r * 4294967296 + l) * 4294967296 + l') % B := by
 have hB : 0 < B := by have := h.B0; omega
 have e := Int.mul_ediv_add_emod (r * 4294967296 + l) B
 generalize r * 4294967296 + l = n at *
 generalize hq : n / B = q at *
 generalize hr : n % B = s at *
 have e2 : n * 4294967296 + l' = (s * 4294967296 + l') + B * (q * 4294967296) := by rw [← e]; grind
 rw [e2, Int.add_mul_ediv_left _ _ (by omega), Int.add_mul_emod_self_left]
 exact ⟨by omega, rfl⟩
theorem div_scaled {n b : Int} (s : Nat) (hb : 0 < b) : n * 2 ^ s / (b * 2 ^ s) = n / b ∧ n * 2 ^ s % (b * 2 ^ s) / 2 ^ s = n % b := by
 have hs := two_pow_pos s
 refine ⟨Int.mul_ediv_mul_of_pos_left n b hs, ?_⟩
 rw [Int.mul_comm n, Int.mul_comm b, Int.mul_emod_mul_of_pos _ _ hs, Int.mul_ediv_cancel_left _ (by omega)]
theorem div_begin {a0 a1 a2 L : Int} (h0 : 0 ≤ a0) (h1a : 0 ≤ a1) (h1b : a1 < 18446744073709551616) (h2 : a2 < 18446744073709551616) (h02 : a0 < a2) (hL : L = bitsN a2) :
  0 ≤ L ∧ 1 ≤ L ∧ L ≤ 64 ∧ IntKind.u64.wrap (a2 * 2 ^ (64 - L).toNat) = a2 * 2 ^ (64 - L).toNat ∧
  DivIn (a2 * 2 ^ (64 - L).toNat) (Go.bits .or .u64 (IntKind.u64.wrap (a0 * 2 ^ (64 - L).toNat)) (a1 / 2 ^ (64 - (64 - L)).toNat)) (IntKind.u64.wrap (a1 * 2 ^ (64 - L).toNat) / 4294967296) ∧
  0 ≤ Go.bits .and .u64 (IntKind.u64.wrap (a1 * 2 ^ (64 - L).toNat)) 4294967295 ∧ Go.bits .and .u64 (IntKind.u64.wrap (a1 * 2 ^ (64 - L).toNat)) 4294967295 < 4294967296 ∧
  (Go.bits .or .u64 (IntKind.u64.wrap (a0 * 2 ^ (64 - L).toNat)) (a1 / 2 ^ (64 - (64 - L)).toNat) * 4294967296 + IntKind.u64.wrap (a1 * 2 ^ (64 - L).toNat) / 4294967296) * 4294967296 + Go.bits .and .u64 (IntKind.u64.wrap (a1 * 2 ^ (64 - L).toNat)) 4294967295 = (a0 * 18446744073709551616 + a1) * 2 ^ (64 - L).toNat := by
 have hp : 0 < a2 := by omega
 have hL1 : 1 ≤ L := by rw [hL, bitsN_pos hp]; omega
 have hL2 : L ≤ 64 := by rw [hL]; exact bitsN_le_of_lt (n := 64) (by omega) h2
 have hlt := bitsN_lt hp
 have hge := bitsN_ge hp
 rw [← hL] at hlt hge
 obtain ⟨l, rfl⟩ : ∃ l : Nat, L = l + 1 := ⟨(L - 1).toNat, by omega⟩
 have e1 : ((l : Int) + 1).toNat = l + 1 := by omega
 rw [e1] at hlt hge
 simp only [Nat.add_sub_cancel] at hge
 have e2 : (64 - ((l : Int) + 1)).toNat = 63 - l := by omega
 have e3 : (64 - (64 - ((l : Int) + 1))).toNat = l + 1 := by omega
 rw [e2, e3]
 have hs := two_pow_pos (63 - l)
 have hs2 := two_pow_pos (l + 1)
 have p64 : (2 : Int) ^ (l + 1) * 2 ^ (63 - l) = 18446744073709551616 := by rw [← Int.pow_add, show l + 1 + (63 - l) = 64 from by omega]; rfl
 have p63 : (2 : Int) ^ l * 2 ^ (63 - l) = 9223372036854775808 := by rw [← Int.pow_add, show l + (63 - l) = 63 from by omega]; rfl
 have hSle : (2 : Int) ^ (63 - l) ≤ 2 ^ 63 := pow_mono (by omega)
 have hS63 : (2 : Int) ^ 63 = 9223372036854775808 := rfl
 have hB1 : a2 * 2 ^ (63 - l) < 18446744073709551616 := by
  rw [← p64]; exact Int.mul_lt_mul_of_pos_right hlt hs
 have hB0 : 9223372036854775808 ≤ a2 * 2 ^ (63 - l) := by
  rw [← p63]; exact Int.mul_le_mul_of_nonneg_right hge (Int.le_of_lt hs)
 have hA : a0 * 2 ^ (63 - l) + 2 ^ (63 - l) ≤ a2 * 2 ^ (63 - l) := by
  have : (a0 + 1) * 2 ^ (63 - l) ≤ a2 * 2 ^ (63 - l) := Int.mul_le_mul_of_nonneg_right (by omega) (Int.le_of_lt hs)
  rw [Int.add_mul, Int.one_mul] at this; exact this
 have hA0 : 0 ≤ a0 * 2 ^ (63 - l) := Int.mul_nonneg h0 (Int.le_of_lt hs)
 have hd0 : 0 ≤ a1 / 2 ^ (l + 1) := Int.ediv_nonneg h1a (Int.le_of_lt hs2)
 have hd1 : a1 / 2 ^ (l + 1) < 2 ^ (63 - l) := Int.ediv_lt_of_lt_mul hs2 (by rw [Int.mul_comm, p64]; exact h1b)
 have hw0 : IntKind.u64.wrap (a0 * 2 ^ (63 - l)) = a0 * 2 ^ (63 - l) := u64w_of hA0 (by omega)
 have hor : Go.bits .or .u64 (a0 * 2 ^ (63 - l)) (a1 / 2 ^ (l + 1)) = a0 * 2 ^ (63 - l) + a1 / 2 ^ (l + 1) :=
  or_join (63 - l) hA0 (by omega) (Int.mul_emod_left _ _) hd0 hd1 (by omega)
 have hand := and_half (x := IntKind.u64.wrap (a1 * 2 ^ (63 - l))) (u64w_range _).1 (u64w_range _).2
 have hw := u64w_range (a1 * 2 ^ (63 - l))
 have hsplit : a1 * 2 ^ (63 - l) = 18446744073709551616 * (a1 / 2 ^ (l + 1)) + IntKind.u64.wrap (a1 * 2 ^ (63 - l)) := by
  rw [u64w]
  have h9 : a1 * 2 ^ (63 - l) / 18446744073709551616 = a1 / 2 ^ (l + 1) := by
   rw [← p64]; exact Int.mul_ediv_mul_of_pos_left _ _ hs
  have := Int.mul_ediv_add_emod (a1 * 2 ^ (63 - l)) 18446744073709551616
  rw [h9] at this; omega
 rw [hw0, hor, hand]
 generalize IntKind.u64.wrap (a1 * 2 ^ (63 - l)) = v at *
 refine ⟨by omega, hL1, hL2, u64w_of (by omega) hB1, ⟨hB0, hB1, by omega, by omega, by omega, by omega⟩, by omega, by omega, ?_⟩
 have e9 : (a0 * 18446744073709551616 + a1) * 2 ^ (63 - l) = a0 * 2 ^ (63 - l) * 18446744073709551616 + a1 * 2 ^ (63 - l) := by grind
 rw [e9, hsplit]
 omega
set_option maxHeartbeats 8000000 in
theorem wide_Div.calls (a0 : Int) (a1 : Int) (a2 : Int) (r1 : Int) (r2 : Int) (r3 : Int) (w : World) (h : wide_Div.f a0 a1 a2 = some (r1, r2, r3)) :
  Calls Tryd.prog 114 #[.int .u64 a0, .int .u64 a1, .int .u64 a2] w fun e w' => e = .returned (.tuple #[.int .u64 r1, .int .u64 r2, .int .i64 r3]) ∧ Below w.heap.size w w' := by
 unfold wide_Div.f at h
 split at h
 case isFalse => cases h
 rename_i hh
 simp only [u64B_iff] at hh
 obtain ⟨⟨h0a, h0b⟩, ⟨h1a, h1b⟩, h2a, h2b⟩ := hh
 split at h
 case isTrue hz =>
  subst hz
  simp only [Option.some.injEq, Prod.mk.injEq] at h
  obtain ⟨rfl, rfl, rfl⟩ := h
  go_enter Tryd.func114, Tryd.ntmps114
  go_wp2
  go_ret3
  exact ⟨rfl, Below.refl _ _⟩
 rename_i hz
 have g1 : (a2 == 0) = false := beq_eq_false_iff_ne.mpr hz
 split at h
 case isTrue hge =>
  simp only [Option.some.injEq, Prod.mk.injEq] at h
  obtain ⟨rfl, rfl, rfl⟩ := h
  have g2 : decide (a2 ≤ a0) = true := decide_eq_true hge
  clear hz
  go_enter Tryd.func114, Tryd.ntmps114
  go_wp2
  go_ret3
  exact ⟨rfl, Below.refl _ _⟩
 rename_i hge
 have g2 : decide (a2 ≤ a0) = false := decide_eq_false hge
 simp only [Option.some.injEq, Prod.mk.injEq] at h
 obtain ⟨e1, e2, rfl⟩ := h
 have E1 := Aside0.mk e1
 have E2 := Aside0.mk e2
 clear e1 e2 hz
 obtain ⟨L, hL⟩ : ∃ L, L = bitsN a2 := ⟨_, rfl⟩
 obtain ⟨hL0, hL1, hL2, hB, hin, hl0, hl1, hN⟩ := div_begin h0a h1a h1b h2b (by omega) hL
 have HL := Aside0.mk (wide_Len.f_eq h2a h2b 7 (by omega))
 rw [← hL] at HL
 have HB := Aside0.mk hB; have HI := Aside0.mk hin; have HN := Aside0.mk hN; have Hl0 := Aside0.mk hl0; have Hl1 := Aside0.mk hl1
 clear hL hB hin hN hl0 hl1 hge
 go_enter Tryd.func114, Tryd.ntmps114
 go_wp2_with (first | (go_at_call 81; (with_reducible refine (wide_Len.calls 7 _ _ _ HL.out).mono ?_); rintro e w' ⟨rfl, ⟨n, rfl⟩⟩))
 go_quiet (fail)
 go_wp2
 have kc : ∀ (m j : Nat), j < 2 → ((w.drewN m).alloc (Obj.cells #[Value.int IntKind.u64 0, Value.int IntKind.u64 0] 126)).cell? ⟨w.heap.size, j, none⟩ = some (.int .u64 0) := by
  intro m j hj
  rw [blk_cell (blk_new' (w.drewN m) _ (g := w.heap.size) rfl) j]
  rcases j with _ | _ | j
  ·rfl
  ·rfl
  ·omega
 have kf : ∀ (m j : Nat), ((w.drewN m).alloc (Obj.cells #[Value.int IntKind.u64 0, Value.int IntKind.u64 0] 126)).frozen? ⟨w.heap.size, j, none⟩ = false := by
  intro m j
  exact blk_frozen (blk_new' (w.drewN m) _ (g := w.heap.size) rfl) j
 have kc0 := fun m => kc m 0 (by omega)
 have kc1 := fun m => kc m 1 (by omega)
 clear kc
 go_region
 clear kc0 kc1 kf
 go_upto_block 0 with (fail)
 rw [HB.out]
 generalize hBd : a2 * 2 ^ (64 - L).toNat = B at *
 generalize hRd : Go.bits BinOp.or IntKind.u64 (IntKind.u64.wrap (a0 * 2 ^ (64 - L).toNat)) (a1 / 2 ^ (64 - (64 - L)).toNat) = R at *
 generalize hl0d : IntKind.u64.wrap (a1 * 2 ^ (64 - L).toNat) / 4294967296 = l0 at *
 generalize hl1d : Go.bits BinOp.and IntKind.u64 (IntKind.u64.wrap (a1 * 2 ^ (64 - L).toNat)) 4294967295 = l1 at *
 have HC : ((((w.drewN (n + nq + 1)).alloc (Obj.cells #[Value.int IntKind.u64 0, Value.int IntKind.u64 0] 126)).setCell ⟨w.heap.size, 0, none⟩ (Value.int IntKind.u64 l0)).setCell ⟨w.heap.size, 1, none⟩ (Value.int IntKind.u64 l1)).heap[w.heap.size]? = some (.cells #[.int .u64 l0, .int .u64 l1] 126 (0, 0)) := blk_set (blk_set (blk_new' (w.drewN (n + nq + 1)) _ (g := w.heap.size) rfl) 0 _) 1 _
 have HW := Aside0.mk (show Below w.heap.size w ((((w.drewN (n + nq + 1)).alloc (Obj.cells #[Value.int IntKind.u64 0, Value.int IntKind.u64 0] 126)).setCell ⟨w.heap.size, 0, none⟩ (Value.int IntKind.u64 l0)).setCell ⟨w.heap.size, 1, none⟩ (Value.int IntKind.u64 l1)) from below_set (below_set (below_alloc (pw_below_drewN (Below.refl _ _) _) _) (Nat.le_refl _)) (Nat.le_refl _))
 generalize ((((w.drewN (n + nq + 1)).alloc (Obj.cells #[Value.int IntKind.u64 0, Value.int IntKind.u64 0] 126)).setCell ⟨w.heap.size, 0, none⟩ (Value.int IntKind.u64 l0)).setCell ⟨w.heap.size, 1, none⟩ (Value.int IntKind.u64 l1)) = W1 at *
 have HC0 := blk_cell HC 0
 have HC1 := blk_cell HC 1
 replace HC0 : W1.cell? ⟨w.heap.size, 0, none⟩ = some (.int .u64 l0) := HC0
 replace HC1 : W1.cell? ⟨w.heap.size, 1, none⟩ = some (.int .u64 l1) := HC1
 clear HC
 have HI0 := HI
 have HI1 := Aside0.mk (HI.out.next Hl0.out Hl1.out)
 go_cut [10, 12] (fun v10 v12 wx => v10 = .int .u64 (((R * 4294967296 + l0) % B * 4294967296 + l1) % B) ∧ v12 = .int .u64 ((R * 4294967296 + l0) / B * 4294967296 + ((R * 4294967296 + l0) % B * 4294967296 + l1) / B) ∧ Aside0 (Below w.heap.size w wx))
 case first =>
  have hB0 := HI.out.B0; have hB1 := HI.out.B1; have hR0 := HI.out.r0; have hR1 := HI.out.r1; have hl00 := HI.out.l0; have hl01 := HI.out.l1; have hl10 := HI1.out.l0; have hl11 := HI1.out.l1
  have hq0 := HI.out.q
  obtain ⟨hq0a, hq0b⟩ := hq0
  go_wp2
  refine wp_loop_rounds 3 ?_
  rw [rounds_succ]
  go_upto_block 2 with (fail)
  go_cut [14, 15] (fun v14 v15 wx => ∃ f : Int, v14 = .int .u64 ((R * 4294967296 + l0) / B) ∧ v15 = .int .u64 f ∧ wx.cell? ⟨w.heap.size, 0, none⟩ = some (.int .u64 l0) ∧ wx.cell? ⟨w.heap.size, 1, none⟩ = some (.int .u64 l1) ∧ Aside0 (Below w.heap.size w wx))
  case first =>
   go_wp2
   go_loopw [14, 15] (fun v14 v15 wr => ∃ d f : Int, v14 = .int .u64 d ∧ v15 = .int .u64 f ∧ Mend B R l0 d f ∧ wr.cell? ⟨w.heap.size, 0, none⟩ = some (.int .u64 l0) ∧ wr.cell? ⟨w.heap.size, 1, none⟩ = some (.int .u64 l1) ∧ Aside0 (Below w.heap.size w wr)) (fun v14 _ _ => (intOf v14).toNat)
   case atStart => exact ⟨_, _, rfl, rfl, Mend.start HI0.out, HC0, HC1, HW⟩
   case round =>
    obtain ⟨d, f, rfl, rfl, hm, hc0, hc1, hb⟩ := hrel
    have hbig := hm.big HI0.out
    obtain ⟨hd0, hd1⟩ := hbig
    have hf0 := hm.f0; have hf1 := hm.f1
    by_cases ht : 4294967295 < d ∨ (R * 4294967296 + l0) / B < d
    ·have hlow := hm.lower HI0.out ht
     have hd2 : 1 ≤ d := hlow.1
     have hT := Aside0.mk ht
     have hg : (decide (4294967295 < d) = true) ∨ (decide (4294967295 < d) = false ∧ decide (Go.bits .or .u64 (f * 4294967296) l0 < IntKind.u64.wrap (d * Go.bits .and .u64 B 4294967295)) = true) := by
      by_cases c1 : 4294967295 < d
      ·exact .inl (decide_eq_true c1)
      ·have h3 := hm.test HI0.out (by omega)
       refine .inr ⟨decide_eq_false c1, ?_⟩
       rw [← u64w_of (x := f * 4294967296) (by omega) (by omega), h3.1, h3.2.1]
       exact decide_eq_true (h3.2.2.2 (by omega))
     clear ht hlow
     by_cases hf2 : f + B / 4294967296 < 4294967296
     ·have hf3 : decide (4294967295 < f + B / 4294967296) = false := decide_eq_false (by omega)
      have hnx := hm.next HI0.out hT.out hf2
      clear hf2
      rcases hg with hg | ⟨hg, hg2⟩
      all_goals
       go_wp2
       go_roundw
       case rel => exact ⟨_, _, rfl, rfl, hnx, hc0, hc1, hb⟩
       case measure => simp only [intOf]; omega
     ·have hf3 : decide (4294967295 < f + B / 4294967296) = true := decide_eq_true (by omega)
      have hst := Aside0.mk (hm.stop HI0.out hT.out (by omega))
      clear hf2
      rcases hg with hg | ⟨hg, hg2⟩
      all_goals
       go_wp2
       go_meet
       exact ⟨_, by rw [hst.out], rfl, hc0, hc1, hb⟩
    ·have c1 : decide (4294967295 < d) = false := decide_eq_false (by omega)
     have h3 := hm.test HI0.out (by omega)
     have c2 : decide (Go.bits .or .u64 (f * 4294967296) l0 < IntKind.u64.wrap (d * Go.bits .and .u64 B 4294967295)) = false := by
      rw [← u64w_of (x := f * 4294967296) (by omega) (by omega), h3.1, h3.2.1]
      exact decide_eq_false (fun h4 => ht (.inr (h3.2.2.1 h4)))
     have hst := Aside0.mk (show d = (R * 4294967296 + l0) / B from by have := hm.le; omega)
     clear h3 ht
     go_wp2
     go_meet
     exact ⟨_, by rw [hst.out], rfl, hc0, hc1, hb⟩
  case rest =>
   obtain ⟨f0, rfl, rfl, hc0, hc1, hb⟩ := hcut
   have hR10 := HI1.out.r0; have hR11 := HI1.out.r1
   have hq1 := HI1.out.q
   obtain ⟨hq1a, hq1b⟩ := hq1
   go_wp2
   rw [div_rest HI.out, or_zero hq0a (by omega), rounds_succ]
   clear HC0 HC1
   go_upto_block 2 with (fail)
   go_cut [14, 15] (fun v14 v15 wx => ∃ f : Int, v14 = .int .u64 ((((R * 4294967296 + l0) % B) * 4294967296 + l1) / B) ∧ v15 = .int .u64 f ∧ wx.cell? ⟨w.heap.size, 0, none⟩ = some (.int .u64 l0) ∧ wx.cell? ⟨w.heap.size, 1, none⟩ = some (.int .u64 l1) ∧ Aside0 (Below w.heap.size w wx))
   case first =>
    go_wp2
    go_loopw [14, 15] (fun v14 v15 wr => ∃ d f : Int, v14 = .int .u64 d ∧ v15 = .int .u64 f ∧ Mend B ((R * 4294967296 + l0) % B) l1 d f ∧ wr.cell? ⟨w.heap.size, 0, none⟩ = some (.int .u64 l0) ∧ wr.cell? ⟨w.heap.size, 1, none⟩ = some (.int .u64 l1) ∧ Aside0 (Below w.heap.size w wr)) (fun v14 _ _ => (intOf v14).toNat)
    case atStart => exact ⟨_, _, rfl, rfl, Mend.start HI1.out, hc0, hc1, hb⟩
    case round =>
     obtain ⟨d, f, rfl, rfl, hm, hc0, hc1, hb⟩ := hrel
     have hbig := hm.big HI1.out
     obtain ⟨hd0, hd1⟩ := hbig
     have hf0 := hm.f0; have hf1 := hm.f1
     by_cases ht : 4294967295 < d ∨ (((R * 4294967296 + l0) % B) * 4294967296 + l1) / B < d
     ·have hlow := hm.lower HI1.out ht
      have hd2 : 1 ≤ d := hlow.1
      have hT := Aside0.mk ht
      have hg : (decide (4294967295 < d) = true) ∨ (decide (4294967295 < d) = false ∧ decide (Go.bits .or .u64 (f * 4294967296) l1 < IntKind.u64.wrap (d * Go.bits .and .u64 B 4294967295)) = true) := by
       by_cases c1 : 4294967295 < d
       ·exact .inl (decide_eq_true c1)
       ·have h3 := hm.test HI1.out (by omega)
        refine .inr ⟨decide_eq_false c1, ?_⟩
        rw [← u64w_of (x := f * 4294967296) (by omega) (by omega), h3.1, h3.2.1]
        exact decide_eq_true (h3.2.2.2 (by omega))
      clear ht hlow
      by_cases hf2 : f + B / 4294967296 < 4294967296
      ·have hf3 : decide (4294967295 < f + B / 4294967296) = false := decide_eq_false (by omega)
       have hnx := hm.next HI1.out hT.out hf2
       clear hf2
       rcases hg with hg | ⟨hg, hg2⟩
       all_goals
        go_wp2
        go_roundw
        case rel => exact ⟨_, _, rfl, rfl, hnx, hc0, hc1, hb⟩
        case measure => simp only [intOf]; omega
      ·have hf3 : decide (4294967295 < f + B / 4294967296) = true := decide_eq_true (by omega)
       have hst := Aside0.mk (hm.stop HI1.out hT.out (by omega))
       clear hf2
       rcases hg with hg | ⟨hg, hg2⟩
       all_goals
        go_wp2
        go_meet
        exact ⟨_, by rw [hst.out], rfl, hc0, hc1, hb⟩
     ·have c1 : decide (4294967295 < d) = false := decide_eq_false (by omega)
      have h3 := hm.test HI1.out (by omega)
      have c2 : decide (Go.bits .or .u64 (f * 4294967296) l1 < IntKind.u64.wrap (d * Go.bits .and .u64 B 4294967295)) = false := by
       rw [← u64w_of (x := f * 4294967296) (by omega) (by omega), h3.1, h3.2.1]
       exact decide_eq_false (fun h4 => ht (.inr (h3.2.2.1 h4)))
      have hst := Aside0.mk (show d = (((R * 4294967296 + l0) % B) * 4294967296 + l1) / B from by have := hm.le; omega)
      clear h3 ht
      go_wp2
      go_meet
      exact ⟨_, by rw [hst.out], rfl, hc0, hc1, hb⟩
   case rest =>
    obtain ⟨f1, rfl, rfl, hc0, hc1, hb⟩ := hcut
    go_wp2
    rw [div_rest HI1.out, or_join 32 (by omega) (by omega) (by show _ % 4294967296 = 0; omega) hq1a (by exact hq1b) (by omega), rounds_succ]
    go_wp2
    go_meet
    exact ⟨rfl, rfl, hb⟩
 case rest =>
  obtain ⟨rfl, rfl, hb⟩ := hcut
  have hR20 : 0 ≤ ((R * 4294967296 + l0) % B * 4294967296 + l1) % B := Int.emod_nonneg _ (by have := HI.out.B0; omega)
  have hd2 := div_two HI.out Hl0.out Hl1.out
  have hsc := div_scaled (n := a0 * 18446744073709551616 + a1) (b := a2) (64 - L).toNat (by have := of_decide_eq_false g2; omega)
  rw [HN.out, ← hBd] at hd2
  rw [hsc.1] at hd2
  have hQ := Aside0.mk (hd2.1.trans E1.out)
  have hr2 : ((R * 4294967296 + l0) % B * 4294967296 + l1) % B / 2 ^ (64 - L).toNat = r2 := by
   rw [← hBd, hd2.2, hsc.2, E2.out]
  have hR2 := Aside0.mk hr2
  rw [hBd] at hQ
  generalize ((R * 4294967296 + l0) % B * 4294967296 + l1) % B = R2 at *
  generalize (R * 4294967296 + l0) / B * 4294967296 + ((R * 4294967296 + l0) % B * 4294967296 + l1) / B = Q at *
  clear hd2 hsc hr2
  go_wp2
  go_quiet (fail)
  go_wp2
  go_ret3
  exact ⟨by rw [hQ.out, hR2.out]; rfl, pw_below_drewN hb.out _⟩

end Go.Proofs.YtoefabmlkbhmpaaDoor.PA
