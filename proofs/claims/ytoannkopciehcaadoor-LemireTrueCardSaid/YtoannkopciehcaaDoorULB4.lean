/- A part of the proof (4). -/
import Derived.Test.YtoannkopciehcaaDoorULB2
import Derived.Test.YtoannkopciehcaaDoorULB3
namespace Go.Proofs.YtoannkopciehcaaDoor.PA
open Go.RowKit Go.Proofs.YtoannkopciehcaaDoorW.PrintWords Go.Proofs.YtoannkopciehcaaDoorW.PrintLast Go.Proofs.YtoannkopciehcaaDoorW.PrintMore
attribute [local go_sem] max2_int min2_int max_two min_two max_three min_three max_four min_four   -- for this text's walks alone
set_option linter.unusedVariables false
set_option linter.unusedSimpArgs false

/-! ### lemire_Small: function 10 (by hand) -/
/-- the table's words -/
def lemire_tensL : List Int := [1, 5, 25, 125, 625, 3125, 15625, 78125, 390625, 1953125, 9765625, 48828125, 244140625, 1220703125, 6103515625, 30517578125, 152587890625, 762939453125, 3814697265625, 19073486328125, 95367431640625, 476837158203125, 2384185791015625]
def lemire_tens.f (i : Int) : Option Int := if 0 ≤ i ∧ i < 23 then some (rd lemire_tensL i) else none
/-- the table lies in the world -/
def TensLaid (w : World) : Prop := ∀ n : Nat, n < 23 → w.cell? ⟨0, n, none⟩ = some (.int .u64 (lemire_tensL.getD n 0))
theorem TensLaid.below {w w' : World} (h : TensLaid w) (hb : Below w.heap.size w w') : TensLaid w' := fun n hn => pw_cell_below hb (h n hn)
theorem TensLaid.at_ {w : World} (h : TensLaid w) {i t : Int} (e : lemire_tens.f i = some t) : 0 ≤ i ∧ i < 23 ∧ w.cell? ⟨0, i.toNat, none⟩ = some (.int .u64 t) := by
 unfold lemire_tens.f at e
 split at e
 ·rename_i hc
  obtain rfl := Option.some.inj e
  exact ⟨hc.1, hc.2, h i.toNat (by omega)⟩
 ·cases e
def lemire_Small.j0 : Nat → Int → Int → Bool → Option (Int × Bool)
 | 0, _, _, _ => none
 | k + 1, x0, x1, x30 => if x30 = true then (some (0, false)) else (if x0 = 0 then (some (0, true)) else (if x1 ≥ 0 then ((lemire_tens.f x1).bind fun t103 => ((wide_Mul.f x0 t103).bind fun bt104 => ((lemire_three_rounded.f k 0 bt104.1 bt104.2 x1 false).bind fun bt106 => (some (bt106.1, true))))) else ((lemire_tens.f (wrap64 (-x1))).bind fun t108 => ((wide_Len.f k x0).bind fun t109 => (if 0 ≤ (wrap64 ((wrap64 (63 - t109)) + 1)) then ((wide_Len.f k t108).bind fun t110 => (if 0 ≤ (wrap64 (64 - t110)) then ((wide_Div.f ((shl .u64 x0 (wrap64 ((wrap64 (63 - t109)) + 1))) / 2) (IntKind.u64.wrap ((shl .u64 x0 (wrap64 ((wrap64 (63 - t109)) + 1))) * 9223372036854775808)) (shl .u64 t108 (wrap64 (64 - t110)))).bind fun bt111 => ((lemire_three_rounded.f k 0 0 bt111.1 (wrap64 ((wrap64 ((wrap64 (x1 - (wrap64 ((wrap64 (63 - t109)) + 1)))) - 63)) + (wrap64 (64 - t110)))) (bt111.2.1 != 0)).bind fun bt114 => (some (bt114.1, true)))) else (none))) else (none))))))
def lemire_Small.f (k : Nat) (a0 : Int) (a1 : Int) : Option (Int × Bool) := if a0 > 9007199254740992 then (lemire_Small.j0 k a0 a1 true) else (if a1 < (-22) then (lemire_Small.j0 k a0 a1 true) else (lemire_Small.j0 k a0 a1 (decide (a1 > 22))))
theorem lemire_Small.mono_l : ∀ k, (∀ y0 y1 y2, LeO (lemire_Small.j0 k y0 y1 y2) (lemire_Small.j0 (k + 1) y0 y1 y2))
 | 0 => fun _ _ _ r h => by simp [lemire_Small.j0] at h
 | k + 1 => by
  have ih0 := lemire_Small.mono_l k
  ·intro y0 y1 y2
   unfold lemire_Small.j0
   have m0_ := lemire_three_rounded.mono
   have m1_ := wide_Len.mono
   exact mX
theorem lemire_Small.mono : ∀ a0 a1 k, LeO (lemire_Small.f k a0 a1) (lemire_Small.f (k + 1) a0 a1) := by
 intro a0 a1 k
 have ih0 := lemire_Small.mono_l k
 unfold lemire_Small.f
 have m0_ := lemire_three_rounded.mono
 have m1_ := wide_Len.mono
 exact mX
set_option maxHeartbeats 8000000 in
set_option maxRecDepth 100000 in
theorem lemire_Small.calls (k : Nat) (a0 : Int) (a1 : Int) (r1 : Int) (r2 : Bool) (w : World) (h : lemire_Small.f k a0 a1 = some (r1, r2)) (hG : TensLaid w := by first | exact HG.out | exact hG | exact TensLaid.below HG.out HB.out | exact TensLaid.below HG.out dB) :
  Calls Tryd.prog 10 #[.int .u64 a0, .int .i64 a1] w fun e w' => e = .returned (.tuple #[.int .u64 r1, .bool r2]) ∧ Below w.heap.size w w' := by
 have HG := Aside0.mk (show TensLaid w from hG)
 clear hG
 have hu56 := Tryd.underlying56
 have HB := Aside0.mk (Below.refl w.heap.size w)
 have H : (if a0 > 9007199254740992 then (lemire_Small.j0 k a0 a1 true) else (if a1 < (-22) then (lemire_Small.j0 k a0 a1 true) else (lemire_Small.j0 k a0 a1 (decide (a1 > 22))))) = some (r1, r2) := h
 clear h
 have HC3 := Aside0.mk H
 clear H
 go_enter Tryd.func10, Tryd.ntmps10
 go_upto_region 1 with (fail)
 go_cut [30] (fun v30 wc => ∃ (kq : Nat) (x30_2 : Bool), v30 = .bool x30_2 ∧ Aside0 (lemire_Small.j0 kq a0 a1 x30_2 = some (r1, r2)) ∧ Aside0 (kq ≤ k) ∧ Aside0 (Below w.heap.size w wc))
 case first =>
  have H := HC3.out
  clear HC3
  by_cases c4 : a0 > 9007199254740992
  ·rw [if_pos c4] at H
   have c4b0 : decide (9007199254740992 < a0) = true := decide_eq_true c4
   clear c4
   (first | rw [c4b0] | (simp only [i64_w, i32_w]; rw [c4b0]) | skip)
   have H' := Aside0.mk H
   clear H
   go_wp2
   go_meet
   case rel => exact ⟨_, (true), dF, H', ⟨dN⟩, ⟨dB⟩⟩
  ·rw [if_neg c4] at H
   have c4b0 : decide (9007199254740992 < a0) = false := decide_eq_false c4
   clear c4
   (first | rw [c4b0] | (simp only [i64_w, i32_w]; rw [c4b0]) | skip)
   by_cases c5 : a1 < (-22)
   ·rw [if_pos c5] at H
    have c5b0 : decide (a1 < (-22)) = true := decide_eq_true c5
    clear c5
    have H' := Aside0.mk H
    clear H
    go_wp2
    go_meet
    case rel => exact ⟨_, (true), dF, H', ⟨dN⟩, ⟨dB⟩⟩
   ·rw [if_neg c5] at H
    have c5b0 : decide (a1 < (-22)) = false := decide_eq_false c5
    clear c5
    have H' := Aside0.mk H
    clear H
    go_wp2
    go_meet
    case rel => exact ⟨_, (decide (a1 > 22)), dF, H', ⟨dN⟩, ⟨dB⟩⟩
 case rest =>
  clear HC3
  obtain ⟨kq, x30_2, rfl, HA, HJ2, HB⟩ := hcut
  cases kq with
  | zero => exact absurd HA.out (by simp [lemire_Small.j0])
  | succ kj2 =>
   have H := HA.out
   clear HA
   simp only [lemire_Small.j0] at H
   by_cases c6 : x30_2 = true
   ·subst c6
    have H1 : (some (0, false)) = some (r1, r2) := by rw [if_pos rfl] at H; exact H
    clear H
    have H := H1
    clear H1
    simp only [Option.some.injEq, Prod.mk.injEq] at H
    obtain ⟨rfl, rfl⟩ := H
    go_wp2
    go_ret2
    exact ⟨dE, dB⟩
   ·replace c6 := Bool.eq_false_iff.mpr c6
    subst c6
    have H1 : (if a0 = 0 then (some (0, true)) else (if a1 ≥ 0 then ((lemire_tens.f a1).bind fun t103 => ((wide_Mul.f a0 t103).bind fun bt104 => ((lemire_three_rounded.f kj2 0 bt104.1 bt104.2 a1 false).bind fun bt106 => (some (bt106.1, true))))) else ((lemire_tens.f (wrap64 (-a1))).bind fun t108 => ((wide_Len.f kj2 a0).bind fun t109 => (if 0 ≤ (wrap64 ((wrap64 (63 - t109)) + 1)) then ((wide_Len.f kj2 t108).bind fun t110 => (if 0 ≤ (wrap64 (64 - t110)) then ((wide_Div.f ((shl .u64 a0 (wrap64 ((wrap64 (63 - t109)) + 1))) / 2) (IntKind.u64.wrap ((shl .u64 a0 (wrap64 ((wrap64 (63 - t109)) + 1))) * 9223372036854775808)) (shl .u64 t108 (wrap64 (64 - t110)))).bind fun bt111 => ((lemire_three_rounded.f kj2 0 0 bt111.1 (wrap64 ((wrap64 ((wrap64 (a1 - (wrap64 ((wrap64 (63 - t109)) + 1)))) - 63)) + (wrap64 (64 - t110)))) (bt111.2.1 != 0)).bind fun bt114 => (some (bt114.1, true)))) else (none))) else (none)))))) = some (r1, r2) := by rw [if_neg (show ¬ (false = true) by decide)] at H; exact H
    clear H
    have H := H1
    clear H1
    by_cases c7 : a0 = 0
    ·rw [if_pos c7] at H
     have c7b0 : (a0 == 0) = true := beq_iff_eq.mpr c7
     have c7b1 : (a0 != 0) = false := bne_eq_false_iff_eq.mpr c7
     clear c7
     simp only [Option.some.injEq, Prod.mk.injEq] at H
     obtain ⟨rfl, rfl⟩ := H
     go_wp2
     go_ret2
     exact ⟨dE, dB⟩
    ·rw [if_neg c7] at H
     have c7b0 : (a0 == 0) = false := beq_eq_false_iff_ne.mpr c7
     have c7b1 : (a0 != 0) = true := bne_iff_ne.mpr c7
     by_cases c8 : a1 ≥ 0
     ·rw [if_pos c8] at H
      have c8b0 : decide (0 ≤ a1) = true := decide_eq_true c8
      clear c8
      replace H := obe H
      obtain ⟨t103, A90, H⟩ := H
      (try dsimp only at H)
      have A9 := Aside0.mk A90
      clear A90
      replace H := obe H
      obtain ⟨⟨t104, t105⟩, A100, H⟩ := H
      (try dsimp only at H)
      have A10 := Aside0.mk A100
      clear A100
      replace H := obe H
      obtain ⟨⟨t106, t107⟩, A110, H⟩ := H
      (try dsimp only at H)
      have A11 := Aside0.mk A110
      clear A110
      simp only [Option.some.injEq, Prod.mk.injEq] at H
      obtain ⟨rfl, rfl⟩ := H
      obtain ⟨pT, qT, hT⟩ := TensLaid.at_ (TensLaid.below HG.out HB.out) A9.out
      replace pT := eq_true pT
      replace qT := eq_true qT
      go_wp2_with (first | ((with_reducible refine gate_callee (f := 28) rfl ?_); refine gL (some 40) Tryd.func28 #[.int .u64 a0, .int .u64 t103] ?_; (with_reducible refine (wide_Mul.calls a0 t103 t104 t105 _ A10.out).mono ?_); rintro e w12 ⟨rfl, hb⟩; refine ⟨_, rfl, ?_⟩; replace HB := Aside0.mk (below_step dB hb); (try clear hb)) | ((with_reducible refine gate_callee (f := 29) rfl ?_); refine gL (some 48) Tryd.func29 #[.agg #[.int .u64 0, .int .u64 t104, .int .u64 t105, .int .i64 a1, .bool false]] ?_; (with_reducible refine (lemire_three_rounded.calls kj2 0 t104 t105 a1 false t106 t107 _ A11.out).mono ?_); rintro e w13 ⟨rfl, hb⟩; refine ⟨_, rfl, ?_⟩; replace HB := Aside0.mk (below_step dB hb); (try clear hb)))
      go_ret2
      exact ⟨dE, dB⟩
     ·rw [if_neg c8] at H
      have c8b0 : decide (0 ≤ a1) = false := decide_eq_false c8
      clear c8
      replace H := obe H
      obtain ⟨t108, A140, H⟩ := H
      (try dsimp only at H)
      have A14 := Aside0.mk A140
      clear A140
      replace H := obe H
      obtain ⟨t109, A150, H⟩ := H
      (try dsimp only at H)
      have A15 := Aside0.mk A150
      clear A150
      obtain ⟨ji16, hji16⟩ : ∃ j_ : Int, (wrap64 ((wrap64 (63 - t109)) + 1)) = j_ := ⟨_, rfl⟩
      first | rw [hji16] at H | simp only [hji16] at H
      (try rw [hji16] at A14)
      (try rw [hji16] at A15)
      have hji16w : (IntKind.i64.wrap ((wrap64 (63 - t109)) + 1)) = ji16 := (i64_w _).trans hji16
      by_cases c17 : (0 : Int) ≤ (ji16)
      ·rw [if_pos c17] at H
       have c17b0 := eq_true c17
       have c17b1 : decide (0 ≤ (ji16)) = true := decide_eq_true c17
       clear c17
       obtain ⟨ji18, hji18⟩ : ∃ j_ : Int, (shl .u64 a0 (ji16)) = j_ := ⟨_, rfl⟩
       first | rw [hji18] at H | simp only [hji18] at H
       (try rw [hji18] at A14)
       (try rw [hji18] at A15)
       have hji18_ : (IntKind.u64.wrap (a0 * 2 ^ min (ji16).toNat 64)) = ji18 := hji18
       have hji18z : (ji16) ≤ 64 → (IntKind.u64.wrap (a0 * 2 ^ (ji16).toNat)) = ji18 := shl_small hji18
       replace H := obe H
       obtain ⟨t110, A190, H⟩ := H
       (try dsimp only at H)
       have A19 := Aside0.mk A190
       clear A190
       obtain ⟨ji20, hji20⟩ : ∃ j_ : Int, (wrap64 (64 - t110)) = j_ := ⟨_, rfl⟩
       first | rw [hji20] at H | simp only [hji20] at H
       (try rw [hji20] at A14)
       (try rw [hji20] at A15)
       (try rw [hji20] at A19)
       have hji20w : (IntKind.i64.wrap (64 - t110)) = ji20 := (i64_w _).trans hji20
       by_cases c21 : (0 : Int) ≤ (ji20)
       ·rw [if_pos c21] at H
        have c21b0 := eq_true c21
        have c21b1 : decide (0 ≤ (ji20)) = true := decide_eq_true c21
        clear c21
        obtain ⟨ji22, hji22⟩ : ∃ j_ : Int, (shl .u64 t108 (ji20)) = j_ := ⟨_, rfl⟩
        first | rw [hji22] at H | simp only [hji22] at H
        (try rw [hji22] at A14)
        (try rw [hji22] at A15)
        (try rw [hji22] at A19)
        have hji22_ : (IntKind.u64.wrap (t108 * 2 ^ min (ji20).toNat 64)) = ji22 := hji22
        have hji22z : (ji20) ≤ 64 → (IntKind.u64.wrap (t108 * 2 ^ (ji20).toNat)) = ji22 := shl_small hji22
        replace H := obe H
        obtain ⟨⟨t111, t112, t113⟩, A230, H⟩ := H
        (try dsimp only at H)
        have A23 := Aside0.mk A230
        clear A230
        replace H := obe H
        obtain ⟨⟨t114, t115⟩, A240, H⟩ := H
        (try dsimp only at H)
        have A24 := Aside0.mk A240
        clear A240
        simp only [Option.some.injEq, Prod.mk.injEq] at H
        obtain ⟨rfl, rfl⟩ := H
        obtain ⟨pT, qT, hT⟩ := TensLaid.at_ (TensLaid.below HG.out HB.out) A14.out
        replace pT := eq_true pT
        replace qT := eq_true qT
        go_wp2_with (first | ((with_reducible refine gate_callee (f := 30) rfl ?_); refine gL (some 57) Tryd.func30 #[.int .u64 a0] ?_; (with_reducible refine (wide_Len.calls kj2 a0 t109 _ A15.out).mono ?_); rintro e w' ⟨rfl, ⟨nd, rfl⟩⟩; refine ⟨_, rfl, ?_⟩) | ((with_reducible refine gate_callee (f := 30) rfl ?_); refine gL (some 64) Tryd.func30 #[.int .u64 t108] ?_; (with_reducible refine (wide_Len.calls kj2 t108 t110 _ A19.out).mono ?_); rintro e w' ⟨rfl, ⟨nd, rfl⟩⟩; refine ⟨_, rfl, ?_⟩) | ((with_reducible refine gate_callee (f := 31) rfl ?_); refine goesL_ (some 77) rfl rfl Tryd.func31 (by kernel_rfl) rfl #[.int .u64 ((ji18) / 2), .int .u64 (IntKind.u64.wrap ((ji18) * 9223372036854775808)), .int .u64 ji22] rfl (by (try simp only [List.map_toArray, List.map_cons, List.map_nil]); first | done | (simp only [hji18, hji22]; rfl) | rfl | (simp only [List.length_drop, List.length_take]; rfl)) ?_; (with_reducible refine (wide_Div.calls ((ji18) / 2) (IntKind.u64.wrap ((ji18) * 9223372036854775808)) ji22 t111 t112 t113 _ A23.out).mono ?_); rintro e w25 ⟨rfl, hb⟩; refine ⟨_, rfl, ?_⟩; replace HB := Aside0.mk (below_step dB hb); (try clear hb)) | ((with_reducible refine gate_callee (f := 29) rfl ?_); refine goesL_ (some 92) rfl rfl Tryd.func29 (by kernel_rfl) rfl #[.agg #[.int .u64 0, .int .u64 0, .int .u64 t111, .int .i64 (wrap64 ((wrap64 ((wrap64 (a1 - (ji16))) - 63)) + (ji20))), .bool (t112 != 0)]] rfl (by (try simp only [List.map_toArray, List.map_cons, List.map_nil]); first | done | (simp only [hji16, hji20]; rfl) | rfl | (simp only [List.length_drop, List.length_take]; rfl)) ?_; (with_reducible refine (lemire_three_rounded.calls kj2 0 0 t111 (wrap64 ((wrap64 ((wrap64 (a1 - (ji16))) - 63)) + (ji20))) (t112 != 0) t114 t115 _ A24.out).mono ?_); rintro e w26 ⟨rfl, hb⟩; refine ⟨_, rfl, ?_⟩; replace HB := Aside0.mk (below_step dB hb); (try clear hb)))
        go_ret2
        exact ⟨by first | rfl | (simp [errW_none, errW_some] <;> rfl) | (simp only [← hji16, ← hji18, ← hji20, ← hji22]; first | rfl | (simp [errW_none, errW_some] <;> rfl)) | (simp [*, errW_none, errW_some] <;> rfl), dB⟩
       ·rw [if_neg c21] at H
        exact absurd H (by simp)
      ·rw [if_neg c17] at H
       exact absurd H (by simp)


/-! ### nat_size: function 42 -/
def nat_size.l0 : Nat → List Int → Int → Option (Int)
 | 0, _, _ => none
 | k + 1, x0, x3 => if x3 > 0 then (if 0 ≤ (wrap64 (x3 - 1)) then (if (wrap64 (x3 - 1)) < (x0.length : Int) then (if (rd x0 (wrap64 (x3 - 1))) = 0 then (nat_size.l0 k x0 (wrap64 (x3 - 1))) else (some x3)) else (none)) else (none)) else (some x3)
def nat_size.f (k : Nat) (l0 : List Int) : Option (Int) := nat_size.l0 k l0 (l0.length : Int)
theorem nat_size.mono_l : ∀ k, (∀ y0 y1, LeO (nat_size.l0 k y0 y1) (nat_size.l0 (k + 1) y0 y1))
 | 0 => fun _ _ r h => by simp [nat_size.l0] at h
 | k + 1 => by
  have ih0 := nat_size.mono_l k
  ·intro y0 y1
   unfold nat_size.l0
   exact mX
theorem nat_size.mono : ∀ a0 k, LeO (nat_size.f k a0) (nat_size.f (k + 1) a0) := by
 intro a0 k
 have ih0 := nat_size.mono_l k
 unfold nat_size.f
 exact mX
set_option maxHeartbeats 8000000 in
set_option maxRecDepth 100000 in
theorem nat_size.calls (k : Nat) (A0 : Option Addr) (c0 : Nat) (l0 : List Int) (r : Int) (w : World) (hr0 : Kd.C (Kd.int .u64) w A0 l0.length l0) (hc0 : l0.length ≤ c0) (h : nat_size.f k l0 = some r) :
  Calls Tryd.prog 42 #[.slice A0 l0.length c0] w fun e w' => e = .returned (.int .i64 r) ∧ Drawn0 w w' := by
 have HR0 := Aside0.mk hr0
 have HC0 := Aside0.mk hc0
 clear hr0 hc0
 have H : (nat_size.l0 k l0 (l0.length : Int)) = some r := h
 clear h
 have H' := Aside0.mk H
 clear H
 go_enter Tryd.func42, Tryd.ntmps42
 go_wp2
 go_loopg [3] k (fun kq v3 w' => ∃ (x3_1 : Int), v3 = .int .i64 x3_1 ∧ Aside0 (nat_size.l0 kq l0 x3_1 = some r) ∧ Aside0 (kq ≤ k) ∧ Drawn0 w w')
 case atStart => exact ⟨((l0.length : Int)), dF, H', ⟨Nat.le_refl _⟩, by repeat (first | exact Drawn0.refl _ | apply Drawn0.step)⟩
 case round =>
  clear H'
  obtain ⟨x3_1, rfl, HA, HK1, ⟨m1, rfl⟩⟩ := hrel
  cases gk with
  | zero => exact absurd HA.out (by simp [nat_size.l0])
  | succ k1 =>
   have H := HA.out
   clear HA
   simp only [nat_size.l0] at H
   by_cases c2 : x3_1 > 0
   ·rw [if_pos c2] at H
    have c2b0 : decide (0 < x3_1) = true := decide_eq_true c2
    clear c2
    obtain ⟨ji3, hji3⟩ : ∃ j_ : Int, (wrap64 (x3_1 - 1)) = j_ := ⟨_, rfl⟩
    first | rw [hji3] at H | simp only [hji3] at H
    have hji3w : (IntKind.i64.wrap (x3_1 - 1)) = ji3 := (i64_w _).trans hji3
    by_cases c4 : (0 : Int) ≤ (ji3)
    ·rw [if_pos c4] at H
     have c4b0 : decide (0 ≤ (ji3)) = true := decide_eq_true c4
     clear c4
     by_cases c5 : (ji3) < (l0.length : Int)
     ·rw [if_pos c5] at H
      have c5b0 : decide ((ji3) < (l0.length : Int)) = true := decide_eq_true c5
      clear c5
      by_cases c6 : (rd l0 (ji3)) = 0
      ·rw [if_pos c6] at H
       have c6b0 : ((rd l0 (ji3)) == 0) = true := beq_iff_eq.mpr c6
       have c6b1 : ((rd l0 (ji3)) != 0) = false := bne_eq_false_iff_eq.mpr c6
       clear c6
       have H' := Aside0.mk H
       clear H
       have p104 : 0 ≤ ((ji3) : Int) := of_decide_eq_true dS
       have q104 : (ji3) < (l0.length : Int) := of_decide_eq_true dS
       obtain ⟨ad104, e104, hx104_0⟩ := Kd.at_int HR0.out (ji3) p104 q104
       cases e104
       replace p104 := eq_true p104
       replace q104 := eq_true q104
       go_wp2
       go_roundg k1
       case measure => have := HK1.out; omega
       case rel => exact ⟨(ji3), (by first | rfl | (simp; done) | (simp only [← hji3] <;> (first | rfl | simp)) | (simp [*]; done)), H', ⟨by have := HK1.out; omega⟩, by repeat (first | exact Drawn0.refl _ | apply Drawn0.step)⟩
      ·rw [if_neg c6] at H
       have c6b0 : ((rd l0 (ji3)) == 0) = false := beq_eq_false_iff_ne.mpr c6
       have c6b1 : ((rd l0 (ji3)) != 0) = true := bne_iff_ne.mpr c6
       obtain rfl := Option.some.inj H
       have p104 : 0 ≤ ((ji3) : Int) := of_decide_eq_true dS
       have q104 : (ji3) < (l0.length : Int) := of_decide_eq_true dS
       obtain ⟨ad104, e104, hx104_0⟩ := Kd.at_int HR0.out (ji3) p104 q104
       cases e104
       replace p104 := eq_true p104
       replace q104 := eq_true q104
       go_wp2
       go_ret
       exact ⟨by first | rfl | (simp; done) | (simp only [← hji3] <;> (first | rfl | simp)) | (simp [*]; done), by repeat (first | exact Drawn0.refl _ | apply Drawn0.step)⟩
     ·rw [if_neg c5] at H
      exact absurd H (by simp)
    ·rw [if_neg c4] at H
     exact absurd H (by simp)
   ·rw [if_neg c2] at H
    have c2b0 : decide (0 < x3_1) = false := decide_eq_false c2
    clear c2
    obtain rfl := Option.some.inj H
    go_wp2
    go_ret
    exact ⟨by first | rfl | (simp; done) | (simp [*]; done), by repeat (first | exact Drawn0.refl _ | apply Drawn0.step)⟩

-- what is known of it
theorem nat_size.l0_eq (xs : List Int) (hl : xs.length ≤ 9223372036854775807) (n : Nat) : ∀ k, n < k → n ≤ xs.length → nat_size.l0 k xs n = some ((strip (xs.take n)).length : Int) := by
 induction n with
 | zero =>
  intro k hk _
  obtain ⟨k, rfl⟩ : ∃ m, k = m + 1 := ⟨k - 1, by omega⟩
  simp [nat_size.l0, strip]
 | succ n ih =>
  intro k hk hn
  obtain ⟨k, rfl⟩ : ∃ m, k = m + 1 := ⟨k - 1, by omega⟩
  have e1 : wrap64 (((n + 1 : Nat) : Int) - 1) = n := by unfold wrap64; omega
  have e2 : xs.take (n + 1) = xs.take n ++ [xs.getD n 0] := by
   rw [List.take_succ_eq_append_getElem (by omega), List.getD_eq_getElem?_getD, List.getElem?_eq_getElem (by omega)]; rfl
  simp only [nat_size.l0]
  rw [e1, if_pos (by omega), if_pos (by omega), if_pos (by omega)]
  have e3 : rd xs (n : Int) = xs.getD n 0 := rfl
  rw [e3, e2]
  by_cases hz : xs.getD n 0 = 0
  ·rw [if_pos hz, hz, strip_snoc_zero]
   exact ih k (by omega) (by omega)
  ·rw [if_neg hz, strip_snoc_ne _ hz, List.length_append, List.length_take]
   simp; omega
theorem nat_size.f_eq (xs : List Int) (hl : xs.length ≤ 9223372036854775807) (k : Nat) (hk : xs.length < k) : nat_size.f k xs = some ((strip xs).length : Int) := by
 rw [nat_size.f, nat_size.l0_eq xs hl xs.length k hk (Nat.le_refl _), List.take_length]

end Go.Proofs.YtoannkopciehcaaDoor.PA

namespace Go.Proofs.YtoannkopciehcaaDoor.PA
open Go.RowKit Go.Proofs.YtoannkopciehcaaDoorW.PrintWords Go.Proofs.YtoannkopciehcaaDoorW.PrintLast Go.Proofs.YtoannkopciehcaaDoorW.PrintMore
attribute [local go_sem] max2_int min2_int max_two min_two max_three min_three max_four min_four   -- for this text's walks alone
set_option linter.unusedVariables false
set_option linter.unusedSimpArgs false

/-! ### nat_Bits: function 43 -/
def nat_Bits.f (k : Nat) (l0 : List Int) : Option (Int) := (nat_size.f k l0).bind fun t105 => (if t105 = 0 then (some 0) else (if 0 ≤ (wrap64 (t105 - 1)) then (if (wrap64 (t105 - 1)) < (l0.length : Int) then ((wide_Len.f k (rd l0 (wrap64 (t105 - 1)))).bind fun t107 => (some (wrap64 ((wrap64 (64 * (wrap64 (t105 - 1)))) + t107)))) else (none)) else (none)))
theorem nat_Bits.mono : ∀ a0 k, LeO (nat_Bits.f k a0) (nat_Bits.f (k + 1) a0) := by
 intro a0 k
 unfold nat_Bits.f
 have m0_ := nat_size.mono
 have m1_ := wide_Len.mono
 exact mX
set_option maxHeartbeats 8000000 in
set_option maxRecDepth 100000 in
theorem nat_Bits.calls (k : Nat) (A0 : Option Addr) (c0 : Nat) (l0 : List Int) (r : Int) (w : World) (hr0 : Kd.C (Kd.int .u64) w A0 l0.length l0) (hc0 : l0.length ≤ c0) (h : nat_Bits.f k l0 = some r) :
  Calls Tryd.prog 43 #[.slice A0 l0.length c0] w fun e w' => e = .returned (.int .i64 r) ∧ Drawn0 w w' := by
 have HR0 := Aside0.mk hr0
 have HC0 := Aside0.mk hc0
 clear hr0 hc0
 have H : ((nat_size.f k l0).bind fun t105 => (if t105 = 0 then (some 0) else (if 0 ≤ (wrap64 (t105 - 1)) then (if (wrap64 (t105 - 1)) < (l0.length : Int) then ((wide_Len.f k (rd l0 (wrap64 (t105 - 1)))).bind fun t107 => (some (wrap64 ((wrap64 (64 * (wrap64 (t105 - 1)))) + t107)))) else (none)) else (none)))) = some r := h
 clear h
 replace H := obe H
 obtain ⟨t105, A20, H⟩ := H
 (try dsimp only at H)
 have A2 := Aside0.mk A20
 clear A20
 by_cases c3 : t105 = 0
 ·rw [if_pos c3] at H
  have c3b0 : (t105 == 0) = true := beq_iff_eq.mpr c3
  have c3b1 : (t105 != 0) = false := bne_eq_false_iff_eq.mpr c3
  clear c3
  obtain rfl := Option.some.inj H
  go_enter Tryd.func43, Tryd.ntmps43
  go_wp2_with (first | ((with_reducible refine gate_callee (f := 42) rfl ?_); refine gL (some 5) Tryd.func42 #[.slice A0 l0.length c0] ?_; (with_reducible refine (nat_size.calls k _ _ l0 t105 _ ?side1 ?side2 A2.out).mono ?_); (case side1 => exact dC HR0.out); (case side2 => exact HC0.out); rintro e w' ⟨rfl, ⟨nd, rfl⟩⟩; refine ⟨_, rfl, ?_⟩))
  go_ret
  exact ⟨by first | rfl | (simp; done) | (simp [*]; done), by repeat (first | exact Drawn0.refl _ | apply Drawn0.step)⟩
 ·rw [if_neg c3] at H
  have c3b0 : (t105 == 0) = false := beq_eq_false_iff_ne.mpr c3
  have c3b1 : (t105 != 0) = true := bne_iff_ne.mpr c3
  obtain ⟨ji4, hji4⟩ : ∃ j_ : Int, (wrap64 (t105 - 1)) = j_ := ⟨_, rfl⟩
  first | rw [hji4] at H | simp only [hji4] at H
  (try rw [hji4] at A2)
  have hji4w : (IntKind.i64.wrap (t105 - 1)) = ji4 := (i64_w _).trans hji4
  by_cases c5 : (0 : Int) ≤ (ji4)
  ·rw [if_pos c5] at H
   have c5b0 : decide (0 ≤ (ji4)) = true := decide_eq_true c5
   clear c5
   by_cases c6 : (ji4) < (l0.length : Int)
   ·rw [if_pos c6] at H
    have c6b0 : decide ((ji4) < (l0.length : Int)) = true := decide_eq_true c6
    clear c6
    replace H := obe H
    obtain ⟨t107, A70, H⟩ := H
    (try dsimp only at H)
    have A7 := Aside0.mk A70
    clear A70
    obtain rfl := Option.some.inj H
    go_enter Tryd.func43, Tryd.ntmps43
    go_wp2_with (first | ((with_reducible refine gate_callee (f := 42) rfl ?_); refine gL (some 5) Tryd.func42 #[.slice A0 l0.length c0] ?_; (with_reducible refine (nat_size.calls k _ _ l0 t105 _ ?side1 ?side2 A2.out).mono ?_); (case side1 => exact dC HR0.out); (case side2 => exact HC0.out); rintro e w' ⟨rfl, ⟨nd, rfl⟩⟩; refine ⟨_, rfl, ?_⟩; have p106 : 0 ≤ ((ji4) : Int) := of_decide_eq_true dS; have q106 : (ji4) < (l0.length : Int) := of_decide_eq_true dS; obtain ⟨ad106, e106, hx106_0⟩ := Kd.at_int HR0.out (ji4) p106 q106; cases e106; replace p106 := eq_true p106; replace q106 := eq_true q106) | ((with_reducible refine gate_callee (f := 30) rfl ?_); refine goesL_ (some 16) rfl rfl Tryd.func30 (by kernel_rfl) rfl #[.int .u64 (rd l0 (ji4))] rfl (by (try simp only [List.map_toArray, List.map_cons, List.map_nil]); first | done | (simp only [hji4]; rfl) | rfl | (simp only [List.length_drop, List.length_take]; rfl)) ?_; (with_reducible refine (wide_Len.calls k (rd l0 (ji4)) t107 _ A7.out).mono ?_); rintro e w' ⟨rfl, ⟨nd, rfl⟩⟩; refine ⟨_, rfl, ?_⟩))
    go_ret
    exact ⟨by first | rfl | (simp; done) | (simp only [← hji4] <;> (first | rfl | simp)) | (simp [*]; done), by repeat (first | exact Drawn0.refl _ | apply Drawn0.step)⟩
   ·rw [if_neg c6] at H
    exact absurd H (by simp)
  ·rw [if_neg c5] at H
   exact absurd H (by simp)

/-! ### nat_bound: function 44 -/
def nat_bound.f (k : Nat) (l0 : List Int) : Option (List Int × Int) := (nat_size.f k l0).bind fun t108 => (if t108 ≤ 4096 then (if 0 ≤ t108 then (if t108 ≤ (l0.length : Int) then (some ((l0.take (t108 : Int).toNat), 0)) else (none)) else (none)) else (some (([] : List Int), 21)))
theorem nat_bound.mono : ∀ a0 k, LeO (nat_bound.f k a0) (nat_bound.f (k + 1) a0) := by
 intro a0 k
 unfold nat_bound.f
 have m0_ := nat_size.mono
 exact mX
set_option maxHeartbeats 8000000 in
set_option maxRecDepth 100000 in
theorem nat_bound.calls (k : Nat) (P0_ : Nat → Prop) (u9000_ : Value) (l0 : List Int) (r1 : List Int) (r2 : Int) (w0 w : World) (hB : Below w0.heap.size w0 w) (ho0 : Kd.R (Kd.int .u64) 22 w w0.heap.size P0_ u9000_ l0) (h : nat_bound.f k l0 = some (r1, r2)) :
  Calls Tryd.prog 44 #[u9000_] w fun e w' => ∃ v0_ : Value, e = .returned (.tuple #[v0_, .int .i64 r2]) ∧ Kd.R (Kd.int .u64) 22 w' w0.heap.size (fun k_ => (P0_ k_ ∨ w.heap.size ≤ k_)) v0_ r1 ∧ Below w0.heap.size w0 w' ∧ Kept w w' (fun k_ => P0_ k_) := by
 have HO0 := Aside0.mk (show Kd.R (Kd.int .u64) 22 w w0.heap.size (fun k_ => (P0_ k_ ∨ w.heap.size ≤ k_)) u9000_ l0 from Kd.R_mono ho0 (fun k_ hk => (.inl hk)))
 have HK := Aside0.mk (Kept.refl w (fun k_ => P0_ k_))
 have HW0 := Aside0.mk hB.size
 have HB := Aside0.mk hB
 clear hB
 have H : ((nat_size.f k l0).bind fun t108 => (if t108 ≤ 4096 then (if 0 ≤ t108 then (if t108 ≤ (l0.length : Int) then (some ((l0.take (t108 : Int).toNat), 0)) else (none)) else (none)) else (some (([] : List Int), 21)))) = some (r1, r2) := h
 clear h
 replace H := obe H
 obtain ⟨t108, A20, H⟩ := H
 (try dsimp only at H)
 have A2 := Aside0.mk A20
 clear A20
 by_cases c3 : t108 ≤ 4096
 ·rw [if_pos c3] at H
  have c3b0 : decide (t108 ≤ 4096) = true := decide_eq_true c3
  clear c3
  by_cases c4 : (0 : Int) ≤ t108
  ·rw [if_pos c4] at H
   have c4b0 := eq_true c4
   have c4b1 : decide (0 ≤ t108) = true := decide_eq_true c4
   clear c4
   by_cases c5 : t108 ≤ (l0.length : Int)
   ·rw [if_pos c5] at H
    have c5b0 := eq_true c5
    have c5b1 : decide (t108 ≤ (l0.length : Int)) = true := decide_eq_true c5
    clear c5
    obtain ⟨y109, hy109⟩ : ∃ y_ : List Int, y_ = (l0.take (t108 : Int).toNat) := ⟨_, rfl⟩
    replace H : (some (y109, 0)) = some (r1, r2) := by first | (rw [hy109]; with_reducible exact H) | (have H2_ := (Option.bind_some _ _).symm.trans H; rw [hy109]; with_reducible exact H2_) | (have H2_ := (Option.bind_some _ _).symm.trans H; with_reducible exact H2_) | with_reducible exact H | (rw [hy109]; exact H) | exact H
    have Ny109 := Aside0.mk hy109
    clear hy109
    simp only [Option.some.injEq, Prod.mk.injEq] at H
    obtain ⟨rfl, rfl⟩ := H
    obtain ⟨Ao6, co6, eo6⟩ := Kd.R_slice HO0.out
    subst eo6
    go_enter Tryd.func44, Tryd.ntmps44
    go_wp2_with (first | ((with_reducible refine gate_callee (f := 42) rfl ?_); refine gL (some 6) Tryd.func42 #[.slice Ao6 l0.length co6] ?_; (with_reducible refine (nat_size.calls k _ _ l0 t108 _ ?side1 ?side2 A2.out).mono ?_); (case side1 => exact dC (Kd.R_reads' HO0.out).2.2); (case side2 => exact (Kd.R_reads' HO0.out).2.1); rintro e w' ⟨rfl, ⟨nd, rfl⟩⟩; refine ⟨_, rfl, ?_⟩; have q7 : (t108 : Int) ≤ ((l0.length : Int) : Int) := of_decide_eq_true dS; obtain ⟨i07, hi07, _, hsz7, _⟩ := info_parts info22; have hcut7 := cut_to3 (P := Tryd.prog) 41 22 .i64 .i64 Tryd.underlying41 hi07 Ao6 l0.length co6 t108 (of_decide_eq_true dS) q7 (Kd.R_reads' HO0.out).2.1; have hr7 := Kd.R_take3 (m := (t108 : Int).toNat) HO0.out (by omega); have hy7 : y109.length = (t108 : Int).toNat := (by rw [Ny109.out, List.length_take]; omega); rw [← Ny109.out] at hr7; rw [← hy7] at hr7 hcut7; clear hy7 hi07 hsz7 HO0; have HO111 := Aside0.mk hr7; clear hr7; replace q7 := eq_true q7))
    go_ret2
    exact ⟨_, dE, dR HO111.out, dB, by repeat (first | (with_reducible first | exact HK.out | apply Kept.alloc | apply Kept.drewN | apply Kept.drew) | exact HK.out)⟩
   ·rw [if_neg c5] at H
    exact absurd H (by simp)
  ·rw [if_neg c4] at H
   exact absurd H (by simp)
 ·rw [if_neg c3] at H
  have c3b0 : decide (t108 ≤ 4096) = false := decide_eq_false c3
  clear c3
  simp only [Option.some.injEq, Prod.mk.injEq] at H
  obtain ⟨rfl, rfl⟩ := H
  obtain ⟨Ao8, co8, eo8⟩ := Kd.R_slice HO0.out
  subst eo8
  go_enter Tryd.func44, Tryd.ntmps44
  go_wp2_with (first | ((with_reducible refine gate_callee (f := 42) rfl ?_); refine gL (some 6) Tryd.func42 #[.slice Ao8 l0.length co8] ?_; (with_reducible refine (nat_size.calls k _ _ l0 t108 _ ?side1 ?side2 A2.out).mono ?_); (case side1 => exact dC (Kd.R_reads' HO0.out).2.2); (case side2 => exact (Kd.R_reads' HO0.out).2.1); rintro e w' ⟨rfl, ⟨nd, rfl⟩⟩; refine ⟨_, rfl, ?_⟩))
  go_ret2
  exact ⟨_, dE, by first | exact Kd.R_nil _ _ _ _ _ | exact Kd.N_nil _ _ _ _ _ | exact Kd.V_nil _ _ _ _ _ | exact Kd.Q_nil _ _ _ _ _ | exact Kd.S_nil _ _ _ _ _, dB, by repeat (first | (with_reducible first | exact HK.out | apply Kept.alloc | apply Kept.drewN | apply Kept.drew) | exact HK.out)⟩

/-! ### nat_Norm: function 73 (by hand) -/
def nat_Norm.f (l0 : List Int) : Option (List Int) := if l0.length ≤ 35184372088832 then some (strip l0) else none
theorem norm_copied (l0 : List Int) : l0.take (min l0.length (List.replicate (strip l0).length (0 : Int)).length) ++ (List.replicate (strip l0).length (0 : Int)).drop (min l0.length (List.replicate (strip l0).length (0 : Int)).length) = strip l0 := by
 have h := strip_length_le l0
 rw [List.length_replicate, Nat.min_eq_right h, List.drop_of_length_le (by simp), List.append_nil, ← strip_take]
theorem nat_Norm.calls (A0 : Option Addr) (c0 : Nat) (l0 : List Int) (r : List Int) (w : World) (hr0 : Kd.C (Kd.int .u64) w A0 l0.length l0) (hc0 : l0.length ≤ c0) (h : nat_Norm.f l0 = some r) :
  Calls Tryd.prog 73 #[.slice A0 l0.length c0] w fun e w' => ∃ v0_ : Value, e = .returned (v0_) ∧ Kd.R (Kd.int .u64) 22 w' w.heap.size (fun _ => True) v0_ r ∧ Below w.heap.size w w' := by
 unfold nat_Norm.f at h
 split at h
 case isFalse => cases h
 rename_i hlen
 injection h with h
 subst h
 have hk := Aside0.mk (nat_size.f_eq l0 (by omega) (l0.length + 1) (by omega))
 have hsl := strip_length_le l0
 have hcp := Aside0.mk (norm_copied l0)
 go_enter Tryd.func73, Tryd.ntmps73
 go_wp2_with (first
  | (go_at_call 42; (with_reducible refine (nat_size.calls (l0.length + 1) _ _ l0 _ _ hr0 hc0 hk.out).mono ?_); rintro e w' ⟨rfl, ⟨n, rfl⟩⟩)
  | ((with_reducible refine gate_dst (N := 6) rfl ?_); refine Kd.R_make (Kd.int .u64) _ 22 rfl (N := 6) rfl 41 _ _ rfl ((strip l0).length : Int) rfl rfl Tryd.underlying41 (.int .u64 0) 8 info22 rfl (by decide) (by omega) 0 (ok := fun _ => True) (okp := fun _ => True) rfl (fun _ hk => hk) trivial (by omega) (by omega) (pw_below_drewN (Below.refl _ _) _) (Nat.le_refl _) ?_; intro v1 w1 HO HB _ _; have HO' := Aside0.mk (show Kd.R (Kd.int .u64) 22 w1 w.heap.size (fun _ => True) v1 (List.replicate (strip l0).length 0) from HO); have HB' := Aside0.mk (show Below w.heap.size w w1 from HB); clear HO HB)
  | ((with_reducible refine gate_dst (N := 9) rfl ?_); refine Kd.R_copy (enc := Value.int .u64) (h1 := fun _ => rfl) (0 : Int) w.heap.size rfl (.tmp 7) (.tmp 8) 41 41 22 rfl Tryd.underlying41 (by kernel_rfl) v1 (List.replicate (strip l0).length 0) l0 A0 l0.length c0 (fun _ => True) rfl rfl HO'.out (Kd.C_below hr0 HB'.out) HB'.out HB'.out.size ?_; intro w2 HO2 HB2 _; rw [hcp.out] at HO2; have HO2' := Aside0.mk HO2; have HB2' := Aside0.mk HB2; clear HO2 HB2))
 go_ret
 exact ⟨v1, rfl, HO2'.out, HB2'.out⟩

/-! ### wide_within: function 100 -/
def wide_within.f (a0 : Int) : Option (Int) := some (mn (mx a0 0) 128)
set_option maxHeartbeats 8000000 in
set_option maxRecDepth 100000 in
theorem wide_within.calls (a0 : Int) (r : Int) (w : World) (h : wide_within.f a0 = some r) :
  Calls Tryd.prog 100 #[.int .i64 a0] w fun e w' => e = .returned (.int .i64 r) ∧ Below w.heap.size w w' := by
 have HB := Aside0.mk (Below.refl w.heap.size w)
 have H : (some (mn (mx a0 0) 128)) = some r := h
 clear h
 obtain ⟨ji2, hji2⟩ : ∃ j_ : Int, (mx a0 0) = j_ := ⟨_, rfl⟩
 first | rw [hji2] at H | simp only [hji2] at H
 (try (have hji2l : 0 ≤ ji2 := by (rw [← hji2]; unfold mx; (repeat' split) <;> omega)))
 (try (have hji2m : 0 ≤ ji2 := by omega))
 have hji2_ : (if a0 < 0 then 0 else a0) = ji2 := hji2
 obtain ⟨ji3, hji3⟩ : ∃ j_ : Int, (mn (ji2) 128) = j_ := ⟨_, rfl⟩
 first | rw [hji3] at H | simp only [hji3] at H
 have hji3_ : (if 128 < (ji2) then 128 else (ji2)) = ji3 := hji3
 obtain rfl := Option.some.inj H
 go_enter Tryd.func100, Tryd.ntmps100
 go_wp2
 go_ret
 exact ⟨by first | rfl | (simp [errW_none, errW_some] <;> rfl) | (simp only [← hji2, ← hji3]; first | rfl | (simp [errW_none, errW_some] <;> rfl)) | (simp [*, errW_none, errW_some] <;> rfl), dB⟩

/-! ### wide_Shr: function 74 -/
def wide_Shr.f (a0 : Int) (a1 : Int) (a2 : Int) : Option (Int × Int × Bool) := (wide_within.f a2).bind fun t112 => (if t112 ≥ 64 then (if a1 = 0 then (if 0 ≤ (wrap64 (128 - t112)) then (if 0 ≤ (wrap64 (t112 - 64)) then (some (0, shr .u64 a0 (wrap64 (t112 - 64)), ((shl .u64 a0 (wrap64 (128 - t112))) != 0))) else (none)) else (none)) else (if 0 ≤ (wrap64 (t112 - 64)) then (some (0, shr .u64 a0 (wrap64 (t112 - 64)), true)) else (none))) else (if 0 ≤ t112 then (if 0 ≤ (wrap64 (64 - t112)) then (some (shr .u64 a0 t112, Go.bits .or .u64 (shr .u64 a1 t112) (shl .u64 a0 (wrap64 (64 - t112))), ((shl .u64 a1 (wrap64 (64 - t112))) != 0))) else (none)) else (none)))
set_option maxHeartbeats 8000000 in
set_option maxRecDepth 100000 in
theorem wide_Shr.calls (a0 : Int) (a1 : Int) (a2 : Int) (r1 : Int) (r2 : Int) (r3 : Bool) (w : World) (h : wide_Shr.f a0 a1 a2 = some (r1, r2, r3)) :
  Calls Tryd.prog 74 #[.int .u64 a0, .int .u64 a1, .int .i64 a2] w fun e w' => e = .returned (.tuple #[.int .u64 r1, .int .u64 r2, .bool r3]) ∧ Below w.heap.size w w' := by
 have HB := Aside0.mk (Below.refl w.heap.size w)
 have H : ((wide_within.f a2).bind fun t112 => (if t112 ≥ 64 then (if a1 = 0 then (if 0 ≤ (wrap64 (128 - t112)) then (if 0 ≤ (wrap64 (t112 - 64)) then (some (0, shr .u64 a0 (wrap64 (t112 - 64)), ((shl .u64 a0 (wrap64 (128 - t112))) != 0))) else (none)) else (none)) else (if 0 ≤ (wrap64 (t112 - 64)) then (some (0, shr .u64 a0 (wrap64 (t112 - 64)), true)) else (none))) else (if 0 ≤ t112 then (if 0 ≤ (wrap64 (64 - t112)) then (some (shr .u64 a0 t112, Go.bits .or .u64 (shr .u64 a1 t112) (shl .u64 a0 (wrap64 (64 - t112))), ((shl .u64 a1 (wrap64 (64 - t112))) != 0))) else (none)) else (none)))) = some (r1, r2, r3) := h
 clear h
 replace H := obe H
 obtain ⟨t112, A40, H⟩ := H
 (try dsimp only at H)
 have A4 := Aside0.mk A40
 clear A40
 by_cases c5 : t112 ≥ 64
 ·rw [if_pos c5] at H
  have c5b0 : decide (64 ≤ t112) = true := decide_eq_true c5
  clear c5
  by_cases c6 : a1 = 0
  ·rw [if_pos c6] at H
   have c6b0 : (a1 == 0) = true := beq_iff_eq.mpr c6
   have c6b1 : (a1 != 0) = false := bne_eq_false_iff_eq.mpr c6
   clear c6
   obtain ⟨ji7, hji7⟩ : ∃ j_ : Int, (wrap64 (128 - t112)) = j_ := ⟨_, rfl⟩
   first | rw [hji7] at H | simp only [hji7] at H
   (try rw [hji7] at A4)
   have hji7w : (IntKind.i64.wrap (128 - t112)) = ji7 := (i64_w _).trans hji7
   by_cases c8 : (0 : Int) ≤ (ji7)
   ·rw [if_pos c8] at H
    have c8b0 := eq_true c8
    have c8b1 : decide (0 ≤ (ji7)) = true := decide_eq_true c8
    clear c8
    obtain ⟨ji9, hji9⟩ : ∃ j_ : Int, (shl .u64 a0 (ji7)) = j_ := ⟨_, rfl⟩
    first | rw [hji9] at H | simp only [hji9] at H
    (try rw [hji9] at A4)
    have hji9_ : (IntKind.u64.wrap (a0 * 2 ^ min (ji7).toNat 64)) = ji9 := hji9
    have hji9z : (ji7) ≤ 64 → (IntKind.u64.wrap (a0 * 2 ^ (ji7).toNat)) = ji9 := shl_small hji9
    obtain ⟨ji10, hji10⟩ : ∃ j_ : Int, (wrap64 (t112 - 64)) = j_ := ⟨_, rfl⟩
    first | rw [hji10] at H | simp only [hji10] at H
    (try rw [hji10] at A4)
    have hji10w : (IntKind.i64.wrap (t112 - 64)) = ji10 := (i64_w _).trans hji10
    by_cases c11 : (0 : Int) ≤ (ji10)
    ·rw [if_pos c11] at H
     have c11b0 := eq_true c11
     have c11b1 : decide (0 ≤ (ji10)) = true := decide_eq_true c11
     clear c11
     obtain ⟨ji12, hji12⟩ : ∃ j_ : Int, (shr .u64 a0 (ji10)) = j_ := ⟨_, rfl⟩
     first | rw [hji12] at H | simp only [hji12] at H
     (try rw [hji12] at A4)
     have hji12_ : (a0 / 2 ^ min (ji10).toNat 64) = ji12 := hji12
     have hji12z : (ji10) ≤ 64 → (a0 / 2 ^ (ji10).toNat) = ji12 := shr_small hji12
     simp only [Option.some.injEq, Prod.mk.injEq] at H
     obtain ⟨rfl, rfl, rfl⟩ := H
     go_enter Tryd.func74, Tryd.ntmps74
     iterate 6 (go_wp2_with (first | (go_at_call 100; (with_reducible refine (wide_within.calls a2 t112 _ A4.out).mono ?_); rintro e w13 ⟨rfl, hb⟩; replace HB := Aside0.mk (below_step dB hb); (try clear hb))); try go_quiet (fail))
     go_ret3
     exact ⟨by first | rfl | (simp [errW_none, errW_some] <;> rfl) | (simp only [← hji7, ← hji9, ← hji10, ← hji12]; first | rfl | (simp [errW_none, errW_some] <;> rfl)) | (simp [*, errW_none, errW_some] <;> rfl), dB⟩
    ·rw [if_neg c11] at H
     exact absurd H (by simp)
   ·rw [if_neg c8] at H
    exact absurd H (by simp)
  ·rw [if_neg c6] at H
   have c6b0 : (a1 == 0) = false := beq_eq_false_iff_ne.mpr c6
   have c6b1 : (a1 != 0) = true := bne_iff_ne.mpr c6
   obtain ⟨ji14, hji14⟩ : ∃ j_ : Int, (wrap64 (t112 - 64)) = j_ := ⟨_, rfl⟩
   first | rw [hji14] at H | simp only [hji14] at H
   (try rw [hji14] at A4)
   have hji14w : (IntKind.i64.wrap (t112 - 64)) = ji14 := (i64_w _).trans hji14
   by_cases c15 : (0 : Int) ≤ (ji14)
   ·rw [if_pos c15] at H
    have c15b0 := eq_true c15
    have c15b1 : decide (0 ≤ (ji14)) = true := decide_eq_true c15
    clear c15
    obtain ⟨ji16, hji16⟩ : ∃ j_ : Int, (shr .u64 a0 (ji14)) = j_ := ⟨_, rfl⟩
    first | rw [hji16] at H | simp only [hji16] at H
    (try rw [hji16] at A4)
    have hji16_ : (a0 / 2 ^ min (ji14).toNat 64) = ji16 := hji16
    have hji16z : (ji14) ≤ 64 → (a0 / 2 ^ (ji14).toNat) = ji16 := shr_small hji16
    simp only [Option.some.injEq, Prod.mk.injEq] at H
    obtain ⟨rfl, rfl, rfl⟩ := H
    go_enter Tryd.func74, Tryd.ntmps74
    iterate 6 (go_wp2_with (first | (go_at_call 100; (with_reducible refine (wide_within.calls a2 t112 _ A4.out).mono ?_); rintro e w17 ⟨rfl, hb⟩; replace HB := Aside0.mk (below_step dB hb); (try clear hb))); try go_quiet (fail))
    go_ret3
    exact ⟨by first | rfl | (simp [errW_none, errW_some] <;> rfl) | (simp only [← hji14, ← hji16]; first | rfl | (simp [errW_none, errW_some] <;> rfl)) | (simp [*, errW_none, errW_some] <;> rfl), dB⟩
   ·rw [if_neg c15] at H
    exact absurd H (by simp)
 ·rw [if_neg c5] at H
  have c5b0 : decide (64 ≤ t112) = false := decide_eq_false c5
  clear c5
  by_cases c18 : (0 : Int) ≤ t112
  ·rw [if_pos c18] at H
   have c18b0 := eq_true c18
   have c18b1 : decide (0 ≤ t112) = true := decide_eq_true c18
   clear c18
   obtain ⟨ji19, hji19⟩ : ∃ j_ : Int, (shr .u64 a0 t112) = j_ := ⟨_, rfl⟩
   first | rw [hji19] at H | simp only [hji19] at H
   (try rw [hji19] at A4)
   have hji19_ : (a0 / 2 ^ min t112.toNat 64) = ji19 := hji19
   have hji19z : t112 ≤ 64 → (a0 / 2 ^ t112.toNat) = ji19 := shr_small hji19
   have c20b0 := eq_true (of_decide_eq_true dS : 0 ≤ t112)
   obtain ⟨ji21, hji21⟩ : ∃ j_ : Int, (shr .u64 a1 t112) = j_ := ⟨_, rfl⟩
   first | rw [hji21] at H | simp only [hji21] at H
   (try rw [hji21] at A4)
   have hji21_ : (a1 / 2 ^ min t112.toNat 64) = ji21 := hji21
   have hji21z : t112 ≤ 64 → (a1 / 2 ^ t112.toNat) = ji21 := shr_small hji21
   obtain ⟨ji22, hji22⟩ : ∃ j_ : Int, (wrap64 (64 - t112)) = j_ := ⟨_, rfl⟩
   first | rw [hji22] at H | simp only [hji22] at H
   (try rw [hji22] at A4)
   have hji22w : (IntKind.i64.wrap (64 - t112)) = ji22 := (i64_w _).trans hji22
   by_cases c23 : (0 : Int) ≤ (ji22)
   ·rw [if_pos c23] at H
    have c23b0 := eq_true c23
    have c23b1 : decide (0 ≤ (ji22)) = true := decide_eq_true c23
    clear c23
    obtain ⟨ji24, hji24⟩ : ∃ j_ : Int, (shl .u64 a0 (ji22)) = j_ := ⟨_, rfl⟩
    first | rw [hji24] at H | simp only [hji24] at H
    (try rw [hji24] at A4)
    have hji24_ : (IntKind.u64.wrap (a0 * 2 ^ min (ji22).toNat 64)) = ji24 := hji24
    have hji24z : (ji22) ≤ 64 → (IntKind.u64.wrap (a0 * 2 ^ (ji22).toNat)) = ji24 := shl_small hji24
    have c25b0 := eq_true (of_decide_eq_true dS : 0 ≤ (ji22))
    obtain ⟨ji26, hji26⟩ : ∃ j_ : Int, (shl .u64 a1 (ji22)) = j_ := ⟨_, rfl⟩
    first | rw [hji26] at H | simp only [hji26] at H
    (try rw [hji26] at A4)
    have hji26_ : (IntKind.u64.wrap (a1 * 2 ^ min (ji22).toNat 64)) = ji26 := hji26
    have hji26z : (ji22) ≤ 64 → (IntKind.u64.wrap (a1 * 2 ^ (ji22).toNat)) = ji26 := shl_small hji26
    simp only [Option.some.injEq, Prod.mk.injEq] at H
    obtain ⟨rfl, rfl, rfl⟩ := H
    go_enter Tryd.func74, Tryd.ntmps74
    iterate 6 (go_wp2_with (first | (go_at_call 100; (with_reducible refine (wide_within.calls a2 t112 _ A4.out).mono ?_); rintro e w27 ⟨rfl, hb⟩; replace HB := Aside0.mk (below_step dB hb); (try clear hb))); try go_quiet (fail))
    go_ret3
    exact ⟨by first | rfl | (simp [errW_none, errW_some] <;> rfl) | (simp only [← hji19, ← hji21, ← hji22, ← hji24, ← hji26]; first | rfl | (simp [errW_none, errW_some] <;> rfl)) | (simp [*, errW_none, errW_some] <;> rfl), dB⟩
   ·rw [if_neg c23] at H
    exact absurd H (by simp)
  ·rw [if_neg c18] at H
   exact absurd H (by simp)

end Go.Proofs.YtoannkopciehcaaDoor.PA

namespace Go.Proofs.YtoannkopciehcaaDoor.PA
open Go.RowKit Go.Proofs.YtoannkopciehcaaDoorW.PrintWords Go.Proofs.YtoannkopciehcaaDoorW.PrintLast Go.Proofs.YtoannkopciehcaaDoorW.PrintMore
attribute [local go_sem] max2_int min2_int max_two min_two max_three min_three max_four min_four   -- for this text's walks alone
set_option linter.unusedVariables false
set_option linter.unusedSimpArgs false

/-! ### nat_Zeros: function 75 -/
def nat_Zeros.l0 : Nat → List Int → Int → Int → Option (Int)
 | 0, _, _, _ => none
 | k + 1, x5, x6, x7 => if x7 < x6 then (if 0 ≤ x7 then (if x7 < (x5.length : Int) then (if (rd x5 x7) = 0 then (nat_Zeros.l0 k x5 x6 (wrap64 (x7 + 1))) else ((wide_Zeros.f k (rd x5 x7)).bind fun t114 => (some (wrap64 ((wrap64 (64 * x7)) + t114))))) else (none)) else (none)) else (some 0)
def nat_Zeros.f (k : Nat) (l0 : List Int) : Option (Int) := nat_Zeros.l0 k l0 (l0.length : Int) 0
theorem nat_Zeros.mono_l : ∀ k, (∀ y0 y1 y2, LeO (nat_Zeros.l0 k y0 y1 y2) (nat_Zeros.l0 (k + 1) y0 y1 y2))
 | 0 => fun _ _ _ r h => by simp [nat_Zeros.l0] at h
 | k + 1 => by
  have ih0 := nat_Zeros.mono_l k
  ·intro y0 y1 y2
   unfold nat_Zeros.l0
   have m0_ := wide_Zeros.mono
   exact mX
theorem nat_Zeros.mono : ∀ a0 k, LeO (nat_Zeros.f k a0) (nat_Zeros.f (k + 1) a0) := by
 intro a0 k
 have ih0 := nat_Zeros.mono_l k
 unfold nat_Zeros.f
 have m0_ := wide_Zeros.mono
 exact mX
set_option maxHeartbeats 8000000 in
set_option maxRecDepth 100000 in
theorem nat_Zeros.calls (k : Nat) (A0 : Option Addr) (c0 : Nat) (l0 : List Int) (r : Int) (w : World) (hr0 : Kd.C (Kd.int .u64) w A0 l0.length l0) (hc0 : l0.length ≤ c0) (h : nat_Zeros.f k l0 = some r) :
  Calls Tryd.prog 75 #[.slice A0 l0.length c0] w fun e w' => e = .returned (.int .i64 r) ∧ Drawn0 w w' := by
 have HR0 := Aside0.mk hr0
 have HC0 := Aside0.mk hc0
 clear hr0 hc0
 have H : (nat_Zeros.l0 k l0 (l0.length : Int) 0) = some r := h
 clear h
 have H' := Aside0.mk H
 clear H
 go_enter Tryd.func75, Tryd.ntmps75
 go_wp2
 go_loopg [7] k (fun kq v7 w' => ∃ (x7_1 : Int), v7 = .int .i64 x7_1 ∧ Aside0 (nat_Zeros.l0 kq l0 (l0.length : Int) x7_1 = some r) ∧ Aside0 (kq ≤ k) ∧ Drawn0 w w')
 case atStart => exact ⟨(0), dF, H', ⟨Nat.le_refl _⟩, by repeat (first | exact Drawn0.refl _ | apply Drawn0.step)⟩
 case round =>
  clear H'
  obtain ⟨x7_1, rfl, HA, HK1, ⟨m1, rfl⟩⟩ := hrel
  cases gk with
  | zero => exact absurd HA.out (by simp [nat_Zeros.l0])
  | succ k1 =>
   have H := HA.out
   clear HA
   simp only [nat_Zeros.l0] at H
   by_cases c2 : x7_1 < (l0.length : Int)
   ·rw [if_pos c2] at H
    have c2b0 : decide (x7_1 < (l0.length : Int)) = true := decide_eq_true c2
    clear c2
    by_cases c3 : (0 : Int) ≤ x7_1
    ·rw [if_pos c3] at H
     have c3b0 : decide (0 ≤ x7_1) = true := decide_eq_true c3
     clear c3
     by_cases c4 : x7_1 < (l0.length : Int)
     ·rw [if_pos c4] at H
      have c4b0 : decide (x7_1 < (l0.length : Int)) = true := decide_eq_true c4
      clear c4
      by_cases c5 : (rd l0 x7_1) = 0
      ·rw [if_pos c5] at H
       have c5b0 : ((rd l0 x7_1) == 0) = true := beq_iff_eq.mpr c5
       have c5b1 : ((rd l0 x7_1) != 0) = false := bne_eq_false_iff_eq.mpr c5
       clear c5
       have H' := Aside0.mk H
       clear H
       have p113 : 0 ≤ (x7_1 : Int) := of_decide_eq_true dS
       have q113 : x7_1 < (l0.length : Int) := of_decide_eq_true dS
       obtain ⟨ad113, e113, hx113_0⟩ := Kd.at_int HR0.out x7_1 p113 q113
       cases e113
       replace p113 := eq_true p113
       replace q113 := eq_true q113
       go_wp2
       go_roundg k1
       case measure => have := HK1.out; omega
       case rel => exact ⟨(wrap64 (x7_1 + 1)), dF, H', ⟨by have := HK1.out; omega⟩, by repeat (first | exact Drawn0.refl _ | apply Drawn0.step)⟩
      ·rw [if_neg c5] at H
       have c5b0 : ((rd l0 x7_1) == 0) = false := beq_eq_false_iff_ne.mpr c5
       have c5b1 : ((rd l0 x7_1) != 0) = true := bne_iff_ne.mpr c5
       replace H := obe H
       obtain ⟨t114, A60, H⟩ := H
       (try dsimp only at H)
       have A6 := Aside0.mk A60
       clear A60
       obtain rfl := Option.some.inj H
       have p113 : 0 ≤ (x7_1 : Int) := of_decide_eq_true dS
       have q113 : x7_1 < (l0.length : Int) := of_decide_eq_true dS
       obtain ⟨ad113, e113, hx113_0⟩ := Kd.at_int HR0.out x7_1 p113 q113
       cases e113
       replace p113 := eq_true p113
       replace q113 := eq_true q113
       go_wp2_with (first | ((with_reducible refine gate_callee (f := 86) rfl ?_); refine gL (some 17) Tryd.func86 #[.int .u64 (rd l0 x7_1)] ?_; (with_reducible refine (wide_Zeros.calls k1 (rd l0 x7_1) t114 _ A6.out).mono ?_); rintro e w' ⟨rfl, ⟨nd, rfl⟩⟩; refine ⟨_, rfl, ?_⟩))
       go_ret
       exact ⟨by first | rfl | (simp; done) | (simp [*]; done), by repeat (first | exact Drawn0.refl _ | apply Drawn0.step)⟩
     ·rw [if_neg c4] at H
      exact absurd H (by simp)
    ·rw [if_neg c3] at H
     exact absurd H (by simp)
   ·rw [if_neg c2] at H
    have c2b0 : decide (x7_1 < (l0.length : Int)) = false := decide_eq_false c2
    clear c2
    obtain rfl := Option.some.inj H
    go_wp2
    go_ret
    exact ⟨by first | rfl | (simp; done) | (simp [*]; done), by repeat (first | exact Drawn0.refl _ | apply Drawn0.step)⟩

end Go.Proofs.YtoannkopciehcaaDoor.PA

namespace Go.Proofs.YtoannkopciehcaaDoor.PA
open Go.RowKit Go.Proofs.YtoannkopciehcaaDoorW.PrintWords Go.Proofs.YtoannkopciehcaaDoorW.PrintLast Go.Proofs.YtoannkopciehcaaDoorW.PrintMore
attribute [local go_sem] max2_int min2_int max_two min_two max_three min_three max_four min_four   -- for this text's walks alone
set_option linter.unusedVariables false
set_option linter.unusedSimpArgs false

/-! ### nat_Shr: function 46 -/
def nat_Shr.l0 : Nat → List Int → Int → List Int → Int → Int → Int → Option (List Int × Bool × Int)
 | 0, _, _, _, _, _, _ => none
 | k + 1, x0, x1, x8, x9, x39, x40 => if x40 < x39 then (if (wrap64 (x40 + 1)) < (x8.length : Int) then (if 0 ≤ (wrap64 (x40 + 1)) then (if 0 ≤ x40 then (if x40 < (x8.length : Int) then ((wide_Shr.f (rd x8 (wrap64 (x40 + 1))) (rd x8 x40) x9).bind fun bt122 => (nat_Shr.l0 k x0 x1 (x8.set (x40 : Int).toNat bt122.2.1) x9 x39 (wrap64 (x40 + 1)))) else (none)) else (none)) else (none)) else (if 0 ≤ x40 then (if x40 < (x8.length : Int) then ((wide_Shr.f 0 (rd x8 x40) x9).bind fun bt127 => (nat_Shr.l0 k x0 x1 (x8.set (x40 : Int).toNat bt127.2.1) x9 x39 (wrap64 (x40 + 1)))) else (none)) else (none))) else ((nat_bound.f k x8).bind fun bt131 => ((nat_Zeros.f k x0).bind fun t135 => (some (bt131.1, decide (t135 < x1), bt131.2))))
def nat_Shr.f (k : Nat) (l0 : List Int) (a1 : Int) : Option (List Int × Bool × Int) := (nat_Bits.f k l0).bind fun t115 => (if a1 < 0 then (some (([] : List Int), false, 22)) else (if a1 ≥ t115 then (some (([] : List Int), decide (t115 > 0), 0)) else (if (wrap64 (t115 - a1)) > 262144 then (some (([] : List Int), false, 21)) else (if 0 ≤ (wrap64 (Int.tdiv a1 64)) then (if (wrap64 (Int.tdiv a1 64)) ≤ (l0.length : Int) then ((nat_Norm.f (l0.drop ((wrap64 (Int.tdiv a1 64)) : Int).toNat)).bind fun t117 => (if (Int.tmod a1 64) > 0 then (nat_Shr.l0 k l0 a1 t117 (Int.tmod a1 64) (t117.length : Int) 0) else ((nat_bound.f k t117).bind fun bt136 => ((nat_Zeros.f k l0).bind fun t140 => (some (bt136.1, decide (t140 < a1), bt136.2)))))) else (none)) else (none)))))
theorem nat_Shr.mono_l : ∀ k, (∀ y0 y1 y2 y3 y4 y5, LeO (nat_Shr.l0 k y0 y1 y2 y3 y4 y5) (nat_Shr.l0 (k + 1) y0 y1 y2 y3 y4 y5))
 | 0 => fun _ _ _ _ _ _ r h => by simp [nat_Shr.l0] at h
 | k + 1 => by
  have ih0 := nat_Shr.mono_l k
  ·intro y0 y1 y2 y3 y4 y5
   unfold nat_Shr.l0
   have m0_ := nat_Bits.mono
   have m1_ := nat_Zeros.mono
   have m2_ := nat_bound.mono
   exact mX
theorem nat_Shr.mono : ∀ a0 a1 k, LeO (nat_Shr.f k a0 a1) (nat_Shr.f (k + 1) a0 a1) := by
 intro a0 a1 k
 have ih0 := nat_Shr.mono_l k
 unfold nat_Shr.f
 have m0_ := nat_Bits.mono
 have m1_ := nat_Zeros.mono
 have m2_ := nat_bound.mono
 exact mX
set_option maxHeartbeats 8000000 in
set_option maxRecDepth 100000 in
theorem nat_Shr.calls (k : Nat) (A0 : Option Addr) (c0 : Nat) (l0 : List Int) (a1 : Int) (r1 : List Int) (r2 : Bool) (r3 : Int) (w : World) (hr0 : Kd.C (Kd.int .u64) w A0 l0.length l0) (hc0 : l0.length ≤ c0) (h : nat_Shr.f k l0 a1 = some (r1, r2, r3)) :
  Calls Tryd.prog 46 #[.slice A0 l0.length c0, .int .i64 a1] w fun e w' => ∃ v0_ : Value, e = .returned (.tuple #[v0_, .bool r2, .int .i64 r3]) ∧ Kd.R (Kd.int .u64) 22 w' w.heap.size (fun _ => True) v0_ r1 ∧ Below w.heap.size w w' := by
 have HR0 := Aside0.mk hr0
 have HC0 := Aside0.mk hc0
 clear hr0 hc0
 have HB := Aside0.mk (Below.refl w.heap.size w)
 have H : ((nat_Bits.f k l0).bind fun t115 => (if a1 < 0 then (some (([] : List Int), false, 22)) else (if a1 ≥ t115 then (some (([] : List Int), decide (t115 > 0), 0)) else (if (wrap64 (t115 - a1)) > 262144 then (some (([] : List Int), false, 21)) else (if 0 ≤ (wrap64 (Int.tdiv a1 64)) then (if (wrap64 (Int.tdiv a1 64)) ≤ (l0.length : Int) then ((nat_Norm.f (l0.drop ((wrap64 (Int.tdiv a1 64)) : Int).toNat)).bind fun t117 => (if (Int.tmod a1 64) > 0 then (nat_Shr.l0 k l0 a1 t117 (Int.tmod a1 64) (t117.length : Int) 0) else ((nat_bound.f k t117).bind fun bt136 => ((nat_Zeros.f k l0).bind fun t140 => (some (bt136.1, decide (t140 < a1), bt136.2)))))) else (none)) else (none)))))) = some (r1, r2, r3) := h
 clear h
 replace H := obe H
 obtain ⟨t115, A30, H⟩ := H
 (try dsimp only at H)
 have A3 := Aside0.mk A30
 clear A30
 by_cases c4 : a1 < 0
 ·rw [if_pos c4] at H
  have c4b0 : decide (a1 < 0) = true := decide_eq_true c4
  clear c4
  simp only [Option.some.injEq, Prod.mk.injEq] at H
  obtain ⟨rfl, rfl, rfl⟩ := H
  go_enter Tryd.func46, Tryd.ntmps46
  go_wp2_with (first | ((with_reducible refine gate_callee (f := 43) rfl ?_); refine gL (some 14) Tryd.func43 #[.slice A0 l0.length c0] ?_; (with_reducible refine (nat_Bits.calls k _ _ l0 t115 _ ?side1 ?side2 A3.out).mono ?_); (case side1 => exact dC HR0.out); (case side2 => exact HC0.out); rintro e w' ⟨rfl, ⟨nd, rfl⟩⟩; refine ⟨_, rfl, ?_⟩))
  go_ret3
  exact ⟨_, dE, by first | exact Kd.R_nil _ _ _ _ _ | exact Kd.N_nil _ _ _ _ _ | exact Kd.V_nil _ _ _ _ _ | exact Kd.Q_nil _ _ _ _ _ | exact Kd.S_nil _ _ _ _ _, dB⟩
 ·rw [if_neg c4] at H
  have c4b0 : decide (a1 < 0) = false := decide_eq_false c4
  clear c4
  by_cases c5 : a1 ≥ t115
  ·rw [if_pos c5] at H
   have c5b0 : decide (t115 ≤ a1) = true := decide_eq_true c5
   clear c5
   simp only [Option.some.injEq, Prod.mk.injEq] at H
   obtain ⟨rfl, rfl, rfl⟩ := H
   go_enter Tryd.func46, Tryd.ntmps46
   go_wp2_with (first | ((with_reducible refine gate_callee (f := 43) rfl ?_); refine gL (some 14) Tryd.func43 #[.slice A0 l0.length c0] ?_; (with_reducible refine (nat_Bits.calls k _ _ l0 t115 _ ?side1 ?side2 A3.out).mono ?_); (case side1 => exact dC HR0.out); (case side2 => exact HC0.out); rintro e w' ⟨rfl, ⟨nd, rfl⟩⟩; refine ⟨_, rfl, ?_⟩))
   go_ret3
   exact ⟨_, dE, by first | exact Kd.R_nil _ _ _ _ _ | exact Kd.N_nil _ _ _ _ _ | exact Kd.V_nil _ _ _ _ _ | exact Kd.Q_nil _ _ _ _ _ | exact Kd.S_nil _ _ _ _ _, dB⟩
  ·rw [if_neg c5] at H
   have c5b0 : decide (t115 ≤ a1) = false := decide_eq_false c5
   clear c5
   by_cases c6 : (wrap64 (t115 - a1)) > 262144
   ·rw [if_pos c6] at H
    have c6b0 : decide (262144 < (wrap64 (t115 - a1))) = true := decide_eq_true c6
    clear c6
    simp only [Option.some.injEq, Prod.mk.injEq] at H
    obtain ⟨rfl, rfl, rfl⟩ := H
    go_enter Tryd.func46, Tryd.ntmps46
    go_wp2_with (first | ((with_reducible refine gate_callee (f := 43) rfl ?_); refine gL (some 14) Tryd.func43 #[.slice A0 l0.length c0] ?_; (with_reducible refine (nat_Bits.calls k _ _ l0 t115 _ ?side1 ?side2 A3.out).mono ?_); (case side1 => exact dC HR0.out); (case side2 => exact HC0.out); rintro e w' ⟨rfl, ⟨nd, rfl⟩⟩; refine ⟨_, rfl, ?_⟩))
    go_ret3
    exact ⟨_, dE, by first | exact Kd.R_nil _ _ _ _ _ | exact Kd.N_nil _ _ _ _ _ | exact Kd.V_nil _ _ _ _ _ | exact Kd.Q_nil _ _ _ _ _ | exact Kd.S_nil _ _ _ _ _, dB⟩
   ·rw [if_neg c6] at H
    have c6b0 : decide (262144 < (wrap64 (t115 - a1))) = false := decide_eq_false c6
    clear c6
    obtain ⟨ji7, hji7⟩ : ∃ j_ : Int, (wrap64 (Int.tdiv a1 64)) = j_ := ⟨_, rfl⟩
    first | rw [hji7] at H | simp only [hji7] at H
    (try rw [hji7] at A3)
    have hji7w : (IntKind.i64.wrap (Int.tdiv a1 64)) = ji7 := (i64_w _).trans hji7
    by_cases c8 : (0 : Int) ≤ (ji7)
    ·rw [if_pos c8] at H
     have c8b0 := eq_true c8
     have c8b1 : decide (0 ≤ (ji7)) = true := decide_eq_true c8
     clear c8
     by_cases c9 : (ji7) ≤ (l0.length : Int)
     ·rw [if_pos c9] at H
      have c9b0 := eq_true c9
      have c9b1 : decide ((ji7) ≤ (l0.length : Int)) = true := decide_eq_true c9
      clear c9
      replace H := obe H
      obtain ⟨t117, A100, H⟩ := H
      (try dsimp only at H)
      have A10 := Aside0.mk A100
      clear A100
      by_cases c11 : (Int.tmod a1 64) > 0
      ·rw [if_pos c11] at H
       have c11b0 : decide (0 < (Int.tmod a1 64)) = true := decide_eq_true c11
       clear c11
       have H' := Aside0.mk H
       clear H
       go_enter Tryd.func46, Tryd.ntmps46
       go_wp2_with (first | ((with_reducible refine gate_callee (f := 43) rfl ?_); refine gL (some 14) Tryd.func43 #[.slice A0 l0.length c0] ?_; (with_reducible refine (nat_Bits.calls k _ _ l0 t115 _ ?side1 ?side2 A3.out).mono ?_); (case side1 => exact dC HR0.out); (case side2 => exact HC0.out); rintro e w' ⟨rfl, ⟨nd, rfl⟩⟩; refine ⟨_, rfl, ?_⟩; obtain ⟨i012, hi012, _, hsz12, _⟩ := info_parts info22; obtain ⟨A12, hcut12, hA12, hC12⟩ := print_drop_of (P := Tryd.prog) (Value.int .u64) 0 41 22 .i64 Tryd.underlying41 hi012 hsz12 A0 c0 l0 (ji7) (of_decide_eq_true dS) (of_decide_eq_true dS) HC0.out; have HR116 := Aside0.mk (Kd.C_of_reads (h1 := fun _ => rfl) (hA12 _ (Kd.reads_of_C HR0.out))); have HC116 := Aside0.mk hC12; clear hA12 hC12 hi012 hsz12) | ((with_reducible refine gate_callee (f := 73) rfl ?_); refine goesL_ (some 33) rfl rfl Tryd.func73 (by kernel_rfl) rfl #[.slice A12 (l0.drop ((ji7) : Int).toNat).length (c0 - (ji7).toNat)] rfl (by (try simp only [List.map_toArray, List.map_cons, List.map_nil]); first | done | (rw [show (l0.drop ((ji7) : Int).toNat).length = (l0.length - (ji7).toNat) from List.length_drop] <;> rfl) | (simp only [hji7]; rfl) | rfl | (simp only [List.length_drop, List.length_take]; rfl)) ?_; (with_reducible refine (nat_Norm.calls _ _ (l0.drop ((ji7) : Int).toNat) t117 _ ?side1 ?side2 A10.out).mono ?_); (case side1 => exact dC HR116.out); (case side2 => exact HC116.out); rintro e w13 ⟨v118, rfl, ho0, hb⟩; refine ⟨_, rfl, ?_⟩; have HO119 := Aside0.mk (Kd.R_lower ho0 (below_size dB)); replace HB := Aside0.mk (below_step dB hb); (try clear hb); (try clear ho0); obtain ⟨Ao14, co14, eo14⟩ := Kd.R_slice HO119.out; subst eo14))
       go_loopg [40] k (fun kq v40 w' => ∃ (x8_1 : List Int) (x40_1 : Int), v40 = .int .i64 x40_1 ∧ Aside0 (nat_Shr.l0 kq l0 a1 x8_1 (Int.tmod a1 64) (t117.length : Int) x40_1 = some (r1, r2, r3)) ∧ Aside0 (kq ≤ k) ∧ Aside0 (Kd.R (Kd.int .u64) 22 w' w.heap.size (fun _ => True) (.slice Ao14 t117.length co14) x8_1) ∧ Aside0 (Below w.heap.size w w'))
       case atStart => exact ⟨(t117), (0), dF, H', ⟨Nat.le_refl _⟩, ⟨dR HO119.out⟩, ⟨dB⟩⟩
       case round =>
        clear H'
        try clear c4
        try clear c4b0
        try clear c5
        try clear c5b0
        try clear c6
        try clear c6b0
        try clear c8
        try clear c8b0
        try clear c8b1
        try clear c9
        try clear c9b0
        try clear c9b1
        try clear c11
        try clear c11b0
        obtain ⟨x8_1, x40_1, rfl, HA, HK1, HO_8, HB⟩ := hrel
        have hl8_1 := (Kd.R_reads' HO_8.out).1
        rw [hl8_1] at HO_8
        (try simp only [hl8_1])
        cases gk with
        | zero => exact absurd HA.out (by simp [nat_Shr.l0])
        | succ k1 =>
         have H := HA.out
         clear HA
         simp only [nat_Shr.l0] at H
         by_cases c15 : x40_1 < (t117.length : Int)
         ·rw [if_pos c15] at H
          have c15b0 : decide (x40_1 < (t117.length : Int)) = true := decide_eq_true c15
          clear c15
          by_cases c16 : (wrap64 (x40_1 + 1)) < (x8_1.length : Int)
          ·rw [if_pos c16] at H
           have c16b0 : decide ((wrap64 (x40_1 + 1)) < (x8_1.length : Int)) = true := decide_eq_true c16
           clear c16
           obtain ⟨ji17, hji17⟩ : ∃ j_ : Int, (wrap64 (x40_1 + 1)) = j_ := ⟨_, rfl⟩
           first | rw [hji17] at H | simp only [hji17] at H
           (try rw [hji17] at c16b0)
           have hji17w : (IntKind.i64.wrap (x40_1 + 1)) = ji17 := (i64_w _).trans hji17
           by_cases c18 : (0 : Int) ≤ (ji17)
           ·rw [if_pos c18] at H
            have c18b0 : decide (0 ≤ (ji17)) = true := decide_eq_true c18
            clear c18
            by_cases c19 : (0 : Int) ≤ x40_1
            ·rw [if_pos c19] at H
             have c19b0 : decide (0 ≤ x40_1) = true := decide_eq_true c19
             clear c19
             by_cases c20 : x40_1 < (x8_1.length : Int)
             ·rw [if_pos c20] at H
              have c20b0 : decide (x40_1 < (x8_1.length : Int)) = true := decide_eq_true c20
              clear c20
              replace H := obe H
              obtain ⟨⟨t122, t123, t124⟩, A210, H⟩ := H
              (try dsimp only at H)
              have A21 := Aside0.mk A210
              clear A210
              obtain ⟨y125, hy125⟩ : ∃ y_ : List Int, y_ = (x8_1.set (x40_1 : Int).toNat t123) := ⟨_, rfl⟩
              replace H : (nat_Shr.l0 k1 l0 a1 y125 (Int.tmod a1 64) (t117.length : Int) ji17) = some (r1, r2, r3) := by first | (rw [hy125]; with_reducible exact H) | (have H2_ := (Option.bind_some _ _).symm.trans H; rw [hy125]; with_reducible exact H2_) | (have H2_ := (Option.bind_some _ _).symm.trans H; with_reducible exact H2_) | with_reducible exact H | (rw [hy125]; exact H) | exact H
              have Ny125 := Aside0.mk hy125
              clear hy125
              have H' := Aside0.mk H
              clear H
              have p120 : 0 ≤ ((ji17) : Int) := of_decide_eq_true dS
              have q120 : (ji17) < (x8_1.length : Int) := of_decide_eq_true dS
              obtain ⟨ad120, e120, hx120_0⟩ := Kd.at_int (Kd.R_reads' HO_8.out).2.2 (ji17) p120 q120
              cases e120
              replace p120 := eq_true p120
              replace q120 := eq_true q120
              have p121 : 0 ≤ (x40_1 : Int) := of_decide_eq_true dS
              have q121 : x40_1 < (x8_1.length : Int) := of_decide_eq_true dS
              obtain ⟨ad121, e121, hx121_0⟩ := Kd.at_int (Kd.R_reads' HO_8.out).2.2 x40_1 p121 q121
              obtain rfl : ad120 = ad121 := (by injection e121)
              replace p121 := eq_true p121
              replace q121 := eq_true q121
              go_wp2_with (first | ((with_reducible refine gate_callee (f := 74) rfl ?_); refine goesL_ (some 62) rfl rfl Tryd.func74 (by kernel_rfl) rfl #[.int .u64 (rd x8_1 (ji17)), .int .u64 (rd x8_1 x40_1), .int .i64 (Int.tmod a1 64)] rfl (by (try simp only [List.map_toArray, List.map_cons, List.map_nil]); first | done | (simp only [hji17]; rfl) | rfl | (simp only [List.length_drop, List.length_take]; rfl)) ?_; (with_reducible refine (wide_Shr.calls (rd x8_1 (ji17)) (rd x8_1 x40_1) (Int.tmod a1 64) t122 t123 t124 _ A21.out).mono ?_); rintro e w23 ⟨rfl, hb⟩; refine ⟨_, rfl, ?_⟩; replace HO_8 := Aside0.mk (Kd.R_below (dR HO_8.out) hb); replace HB := Aside0.mk (below_step dB hb); (try clear hb); have p22 : 0 ≤ (x40_1 : Int) := of_decide_eq_true dS; have q22 : (x40_1 : Int) < ((x8_1.length : Int) : Int) := of_decide_eq_true dS; obtain ⟨go22, co22, eo22, gb22, gl22, cl22, HG22⟩ := Kd.R_form HO_8.out (by omega); (first | cases eo22 | (injection eo22 with ea_ en_ ec_; (first | subst ea_ | (injection ea_ with ea_; subst ea_)); subst ec_; clear en_)); have GB22 := Aside0.mk gb22; have GG22 := Aside0.mk HG22; clear gb22 gl22 HG22; (first | simp only [add_plain] at hx120_0 | skip); (first | simp only [add_plain] at hx121_0 | skip); obtain ⟨hx22_0, hf22_0⟩ := Kd.R_celln 0 HO_8.out (x40_1 : Int) p22 q22; replace p22 := eq_true p22; replace q22 := eq_true q22; obtain ⟨hy24_, hz24_⟩ := Kd.R_celln 0 HO_8.out (x40_1 : Int) (of_decide_eq_true dS) (of_decide_eq_true dS); have HP24 := Kd.R_putg HO_8.out (x40_1 : Int) t123) | ((with_reducible refine gate_store (t := 22) (p := 66) rfl ?_); refine store_event (t := 22) (p := 66) (v := ?vo_w25) (w1 := (w23.setCell ⟨go22, (x40_1 : Int).toNat, none⟩ (.int .u64 t123))) ?hg ?ho ?hn ?hr ?_; (case ho => rfl); (case hg => rfl); (case hn => rfl); (case hr => first | (go_simp; done) | (go_simp; rfl)); intro w25 hw; have hg : w23.grownBy w25 (some go22) := (by rw [hw]; exact HP24.2); have hp_ : Kd.R (Kd.int .u64) 22 w25 w.heap.size (fun _ => True) (.slice (some ⟨go22, 0, none⟩) x8_1.length co14) y125 := (by rw [hw, Ny125.out]; exact HP24.1); clear HP24; replace HO_8 := Aside0.mk (hp_); replace HB := Aside0.mk ((by rw [hw]; exact below_set (HB.out) GB22.out : Below w.heap.size w w25)); clear hg hw hp_))
              (try simp only [← hl8_1])
              go_roundg k1
              case measure => have := HK1.out; omega
              case rel => exact ⟨(y125), (ji17), (by first | rfl | (simp; done) | (simp only [← hji17] <;> (first | rfl | simp)) | (simp [*]; done)), H', ⟨by have := HK1.out; omega⟩, ⟨by (try simp only [hl8_1]); (with_reducible repeat (first | apply Kd.R_alloc | apply Kd.R_drewN | apply Kd.R_drew)); exact HO_8.out⟩, ⟨dB⟩⟩
             ·rw [if_neg c20] at H
              exact absurd H (by simp)
            ·rw [if_neg c19] at H
             exact absurd H (by simp)
           ·rw [if_neg c18] at H
            exact absurd H (by simp)
          ·rw [if_neg c16] at H
           have c16b0 : decide ((wrap64 (x40_1 + 1)) < (x8_1.length : Int)) = false := decide_eq_false c16
           clear c16
           by_cases c26 : (0 : Int) ≤ x40_1
           ·rw [if_pos c26] at H
            have c26b0 : decide (0 ≤ x40_1) = true := decide_eq_true c26
            clear c26
            by_cases c27 : x40_1 < (x8_1.length : Int)
            ·rw [if_pos c27] at H
             have c27b0 : decide (x40_1 < (x8_1.length : Int)) = true := decide_eq_true c27
             clear c27
             replace H := obe H
             obtain ⟨⟨t127, t128, t129⟩, A280, H⟩ := H
             (try dsimp only at H)
             have A28 := Aside0.mk A280
             clear A280
             obtain ⟨y130, hy130⟩ : ∃ y_ : List Int, y_ = (x8_1.set (x40_1 : Int).toNat t128) := ⟨_, rfl⟩
             replace H : (nat_Shr.l0 k1 l0 a1 y130 (Int.tmod a1 64) (t117.length : Int) (wrap64 (x40_1 + 1))) = some (r1, r2, r3) := by first | (rw [hy130]; with_reducible exact H) | (have H2_ := (Option.bind_some _ _).symm.trans H; rw [hy130]; with_reducible exact H2_) | (have H2_ := (Option.bind_some _ _).symm.trans H; with_reducible exact H2_) | with_reducible exact H | (rw [hy130]; exact H) | exact H
             have Ny130 := Aside0.mk hy130
             clear hy130
             have H' := Aside0.mk H
             clear H
             have p126 : 0 ≤ (x40_1 : Int) := of_decide_eq_true dS
             have q126 : x40_1 < (x8_1.length : Int) := of_decide_eq_true dS
             obtain ⟨ad126, e126, hx126_0⟩ := Kd.at_int (Kd.R_reads' HO_8.out).2.2 x40_1 p126 q126
             cases e126
             replace p126 := eq_true p126
             replace q126 := eq_true q126
             go_wp2_with (first | ((with_reducible refine gate_callee (f := 74) rfl ?_); refine gL (some 62) Tryd.func74 #[.int .u64 0, .int .u64 (rd x8_1 x40_1), .int .i64 (Int.tmod a1 64)] ?_; (with_reducible refine (wide_Shr.calls 0 (rd x8_1 x40_1) (Int.tmod a1 64) t127 t128 t129 _ A28.out).mono ?_); rintro e w30 ⟨rfl, hb⟩; refine ⟨_, rfl, ?_⟩; replace HO_8 := Aside0.mk (Kd.R_below (dR HO_8.out) hb); replace HB := Aside0.mk (below_step dB hb); (try clear hb); have p29 : 0 ≤ (x40_1 : Int) := of_decide_eq_true dS; have q29 : (x40_1 : Int) < ((x8_1.length : Int) : Int) := of_decide_eq_true dS; obtain ⟨go29, co29, eo29, gb29, gl29, cl29, HG29⟩ := Kd.R_form HO_8.out (by omega); (first | cases eo29 | (injection eo29 with ea_ en_ ec_; (first | subst ea_ | (injection ea_ with ea_; subst ea_)); subst ec_; clear en_)); have GB29 := Aside0.mk gb29; have GG29 := Aside0.mk HG29; clear gb29 gl29 HG29; (first | simp only [add_plain] at hx126_0 | skip); obtain ⟨hx29_0, hf29_0⟩ := Kd.R_celln 0 HO_8.out (x40_1 : Int) p29 q29; replace p29 := eq_true p29; replace q29 := eq_true q29; obtain ⟨hy31_, hz31_⟩ := Kd.R_celln 0 HO_8.out (x40_1 : Int) (of_decide_eq_true dS) (of_decide_eq_true dS); have HP31 := Kd.R_putg HO_8.out (x40_1 : Int) t128) | ((with_reducible refine gate_store (t := 22) (p := 66) rfl ?_); refine store_event (t := 22) (p := 66) (v := ?vo_w32) (w1 := (w30.setCell ⟨go29, (x40_1 : Int).toNat, none⟩ (.int .u64 t128))) ?hg ?ho ?hn ?hr ?_; (case ho => rfl); (case hg => rfl); (case hn => rfl); (case hr => first | (go_simp; done) | (go_simp; rfl)); intro w32 hw; have hg : w30.grownBy w32 (some go29) := (by rw [hw]; exact HP31.2); have hp_ : Kd.R (Kd.int .u64) 22 w32 w.heap.size (fun _ => True) (.slice (some ⟨go29, 0, none⟩) x8_1.length co14) y130 := (by rw [hw, Ny130.out]; exact HP31.1); clear HP31; replace HO_8 := Aside0.mk (hp_); replace HB := Aside0.mk ((by rw [hw]; exact below_set (HB.out) GB29.out : Below w.heap.size w w32)); clear hg hw hp_))
             (try simp only [← hl8_1])
             go_roundg k1
             case measure => have := HK1.out; omega
             case rel => exact ⟨(y130), (wrap64 (x40_1 + 1)), dF, H', ⟨by have := HK1.out; omega⟩, ⟨by (try simp only [hl8_1]); (with_reducible repeat (first | apply Kd.R_alloc | apply Kd.R_drewN | apply Kd.R_drew)); exact HO_8.out⟩, ⟨dB⟩⟩
            ·rw [if_neg c27] at H
             exact absurd H (by simp)
           ·rw [if_neg c26] at H
            exact absurd H (by simp)
         ·rw [if_neg c15] at H
          have c15b0 : decide (x40_1 < (t117.length : Int)) = false := decide_eq_false c15
          try have c15x0 : decide (x40_1 < (x8_1.length : Int)) = false := by first | (rw [hl8_1]; exact c15b0) | (rw [← hl8_1]; exact c15b0)
          clear c15
          replace H := obe H
          obtain ⟨⟨t131, t134⟩, A330, H⟩ := H
          (try dsimp only at H)
          have A33 := Aside0.mk A330
          clear A330
          replace H := obe H
          obtain ⟨t135, A340, H⟩ := H
          (try dsimp only at H)
          have A34 := Aside0.mk A340
          clear A340
          simp only [Option.some.injEq, Prod.mk.injEq] at H
          obtain ⟨rfl, rfl, rfl⟩ := H
          go_wp2_with (first | ((with_reducible refine gate_callee (f := 44) rfl ?_); refine gL (some 70) Tryd.func44 #[.slice Ao14 x8_1.length co14] ?_; (with_reducible refine (nat_bound.calls k1 (fun k_ => some k_ = (.slice Ao14 x8_1.length co14 : Value).ownBlock) (.slice Ao14 x8_1.length co14) x8_1 t131 t134 w _ ?side1 ?side2 A33.out).mono ?_); (case side1 => repeat (first | (with_reducible first | exact HB.out | apply below_alloc | apply pw_below_drewN | apply below_drew1) | exact HB.out)); (case side2 => exact Kd.R_tight rfl HO_8.out); rintro e w35 ⟨v132, rfl, ho0, hb, hkp⟩; refine ⟨_, rfl, ?_⟩; have HO133 := Aside0.mk (Kd.R_mono (ok' := fun k_ => True) ho0 (fun k_ hk_ => trivial)); replace HB := Aside0.mk (hb); clear HO_8; (try clear hb); (try clear hkp); (try clear ho0)) | ((with_reducible refine gate_callee (f := 75) rfl ?_); refine gL (some 75) Tryd.func75 #[.slice A0 l0.length c0] ?_; (with_reducible refine (nat_Zeros.calls k1 _ _ l0 t135 _ ?side1 ?side2 A34.out).mono ?_); (case side1 => exact dC (Kd.C_below HR0.out HB.out)); (case side2 => exact HC0.out); rintro e w' ⟨rfl, ⟨nd, rfl⟩⟩; refine ⟨_, rfl, ?_⟩))
          go_ret3
          exact ⟨_, by first | rfl | (simp [errW_none, errW_some] <;> rfl) | (simp only [← hji7]; first | rfl | (simp [errW_none, errW_some] <;> rfl)) | (simp [*, errW_none, errW_some] <;> rfl), dR HO133.out, dB⟩
      ·rw [if_neg c11] at H
       have c11b0 : decide (0 < (Int.tmod a1 64)) = false := decide_eq_false c11
       clear c11
       replace H := obe H
       obtain ⟨⟨t136, t139⟩, A360, H⟩ := H
       (try dsimp only at H)
       have A36 := Aside0.mk A360
       clear A360
       replace H := obe H
       obtain ⟨t140, A370, H⟩ := H
       (try dsimp only at H)
       have A37 := Aside0.mk A370
       clear A370
       simp only [Option.some.injEq, Prod.mk.injEq] at H
       obtain ⟨rfl, rfl, rfl⟩ := H
       go_enter Tryd.func46, Tryd.ntmps46
       go_wp2_with (first | ((with_reducible refine gate_callee (f := 43) rfl ?_); refine gL (some 14) Tryd.func43 #[.slice A0 l0.length c0] ?_; (with_reducible refine (nat_Bits.calls k _ _ l0 t115 _ ?side1 ?side2 A3.out).mono ?_); (case side1 => exact dC HR0.out); (case side2 => exact HC0.out); rintro e w' ⟨rfl, ⟨nd, rfl⟩⟩; refine ⟨_, rfl, ?_⟩; obtain ⟨i038, hi038, _, hsz38, _⟩ := info_parts info22; obtain ⟨A38, hcut38, hA38, hC38⟩ := print_drop_of (P := Tryd.prog) (Value.int .u64) 0 41 22 .i64 Tryd.underlying41 hi038 hsz38 A0 c0 l0 (ji7) (of_decide_eq_true dS) (of_decide_eq_true dS) HC0.out; have HR116 := Aside0.mk (Kd.C_of_reads (h1 := fun _ => rfl) (hA38 _ (Kd.reads_of_C HR0.out))); have HC116 := Aside0.mk hC38; clear hA38 hC38 hi038 hsz38) | ((with_reducible refine gate_callee (f := 73) rfl ?_); refine goesL_ (some 33) rfl rfl Tryd.func73 (by kernel_rfl) rfl #[.slice A38 (l0.drop ((ji7) : Int).toNat).length (c0 - (ji7).toNat)] rfl (by (try simp only [List.map_toArray, List.map_cons, List.map_nil]); first | done | (rw [show (l0.drop ((ji7) : Int).toNat).length = (l0.length - (ji7).toNat) from List.length_drop] <;> rfl) | (simp only [hji7]; rfl) | rfl | (simp only [List.length_drop, List.length_take]; rfl)) ?_; (with_reducible refine (nat_Norm.calls _ _ (l0.drop ((ji7) : Int).toNat) t117 _ ?side1 ?side2 A10.out).mono ?_); (case side1 => exact dC HR116.out); (case side2 => exact HC116.out); rintro e w39 ⟨v118, rfl, ho0, hb⟩; refine ⟨_, rfl, ?_⟩; have HO119 := Aside0.mk (Kd.R_lower ho0 (below_size dB)); replace HB := Aside0.mk (below_step dB hb); (try clear hb); (try clear ho0); obtain ⟨Ao40, co40, eo40⟩ := Kd.R_slice HO119.out; subst eo40) | ((with_reducible refine gate_callee (f := 44) rfl ?_); refine gL (some 70) Tryd.func44 #[.slice Ao40 t117.length co40] ?_; (with_reducible refine (nat_bound.calls k (fun k_ => some k_ = (.slice Ao40 t117.length co40 : Value).ownBlock) (.slice Ao40 t117.length co40) t117 t136 t139 w _ ?side1 ?side2 A36.out).mono ?_); (case side1 => repeat (first | (with_reducible first | exact HB.out | apply below_alloc | apply pw_below_drewN | apply below_drew1) | exact HB.out)); (case side2 => exact Kd.R_tight rfl HO119.out); rintro e w41 ⟨v137, rfl, ho0, hb, hkp⟩; refine ⟨_, rfl, ?_⟩; have HO138 := Aside0.mk (Kd.R_mono (ok' := fun k_ => True) ho0 (fun k_ hk_ => trivial)); replace HB := Aside0.mk (hb); clear HO119; (try clear hb); (try clear hkp); (try clear ho0)) | ((with_reducible refine gate_callee (f := 75) rfl ?_); refine gL (some 75) Tryd.func75 #[.slice A0 l0.length c0] ?_; (with_reducible refine (nat_Zeros.calls k _ _ l0 t140 _ ?side1 ?side2 A37.out).mono ?_); (case side1 => exact dC (Kd.C_below HR0.out HB.out)); (case side2 => exact HC0.out); rintro e w' ⟨rfl, ⟨nd, rfl⟩⟩; refine ⟨_, rfl, ?_⟩))
       go_ret3
       exact ⟨_, by first | rfl | (simp [errW_none, errW_some] <;> rfl) | (simp only [← hji7]; first | rfl | (simp [errW_none, errW_some] <;> rfl)) | (simp [*, errW_none, errW_some] <;> rfl), dR HO138.out, dB⟩
     ·rw [if_neg c9] at H
      exact absurd H (by simp)
    ·rw [if_neg c8] at H
     exact absurd H (by simp)

/-! ### wide_Add: function 41 -/
def wide_Add.f (a0 : Int) (a1 : Int) (a2 : Int) : Option (Int × Int) := if (IntKind.u64.wrap (a0 + a1)) < a0 then (some (IntKind.u64.wrap ((IntKind.u64.wrap (a0 + a1)) + (Go.bits .and .u64 a2 1)), 1)) else (if (IntKind.u64.wrap ((IntKind.u64.wrap (a0 + a1)) + (Go.bits .and .u64 a2 1))) < (IntKind.u64.wrap (a0 + a1)) then (some (IntKind.u64.wrap ((IntKind.u64.wrap (a0 + a1)) + (Go.bits .and .u64 a2 1)), 1)) else (some (IntKind.u64.wrap ((IntKind.u64.wrap (a0 + a1)) + (Go.bits .and .u64 a2 1)), 0)))
set_option maxHeartbeats 8000000 in
set_option maxRecDepth 100000 in
theorem wide_Add.calls (a0 : Int) (a1 : Int) (a2 : Int) (r1 : Int) (r2 : Int) (w : World) (h : wide_Add.f a0 a1 a2 = some (r1, r2)) :
  Calls Tryd.prog 41 #[.int .u64 a0, .int .u64 a1, .int .u64 a2] w fun e w' => e = .returned (.tuple #[.int .u64 r1, .int .u64 r2]) ∧ Drawn0 w w' := by
 have H : (if (IntKind.u64.wrap (a0 + a1)) < a0 then (some (IntKind.u64.wrap ((IntKind.u64.wrap (a0 + a1)) + (Go.bits .and .u64 a2 1)), 1)) else (if (IntKind.u64.wrap ((IntKind.u64.wrap (a0 + a1)) + (Go.bits .and .u64 a2 1))) < (IntKind.u64.wrap (a0 + a1)) then (some (IntKind.u64.wrap ((IntKind.u64.wrap (a0 + a1)) + (Go.bits .and .u64 a2 1)), 1)) else (some (IntKind.u64.wrap ((IntKind.u64.wrap (a0 + a1)) + (Go.bits .and .u64 a2 1)), 0)))) = some (r1, r2) := h
 clear h
 by_cases c4 : (IntKind.u64.wrap (a0 + a1)) < a0
 ·rw [if_pos c4] at H
  have c4b0 : decide ((IntKind.u64.wrap (a0 + a1)) < a0) = true := decide_eq_true c4
  clear c4
  simp only [Option.some.injEq, Prod.mk.injEq] at H
  obtain ⟨rfl, rfl⟩ := H
  go_enter Tryd.func41, Tryd.ntmps41
  go_wp2
  go_ret2
  exact ⟨by first | rfl | (simp; done) | (simp [*]; done), by repeat (first | exact Drawn0.refl _ | apply Drawn0.step)⟩
 ·rw [if_neg c4] at H
  have c4b0 : decide ((IntKind.u64.wrap (a0 + a1)) < a0) = false := decide_eq_false c4
  clear c4
  by_cases c5 : (IntKind.u64.wrap ((IntKind.u64.wrap (a0 + a1)) + (Go.bits .and .u64 a2 1))) < (IntKind.u64.wrap (a0 + a1))
  ·rw [if_pos c5] at H
   have c5b0 : decide ((IntKind.u64.wrap ((IntKind.u64.wrap (a0 + a1)) + (Go.bits .and .u64 a2 1))) < (IntKind.u64.wrap (a0 + a1))) = true := decide_eq_true c5
   clear c5
   simp only [Option.some.injEq, Prod.mk.injEq] at H
   obtain ⟨rfl, rfl⟩ := H
   go_enter Tryd.func41, Tryd.ntmps41
   go_wp2
   go_ret2
   exact ⟨by first | rfl | (simp; done) | (simp [*]; done), by repeat (first | exact Drawn0.refl _ | apply Drawn0.step)⟩
  ·rw [if_neg c5] at H
   have c5b0 : decide ((IntKind.u64.wrap ((IntKind.u64.wrap (a0 + a1)) + (Go.bits .and .u64 a2 1))) < (IntKind.u64.wrap (a0 + a1))) = false := decide_eq_false c5
   clear c5
   simp only [Option.some.injEq, Prod.mk.injEq] at H
   obtain ⟨rfl, rfl⟩ := H
   go_enter Tryd.func41, Tryd.ntmps41
   go_wp2
   go_ret2
   exact ⟨by first | rfl | (simp; done) | (simp [*]; done), by repeat (first | exact Drawn0.refl _ | apply Drawn0.step)⟩

-- what is known of it
theorem and_one {c : Int} (h0 : 0 ≤ c) (h1 : c < 18446744073709551616) : Go.bits .and .u64 c 1 = c % 2 := and_mask h0 h1 1 (by omega) _ rfl
theorem wide_Add.f_eq {a b c : Int} (ha0 : 0 ≤ a) (ha : a < 18446744073709551616) (hb0 : 0 ≤ b) (hb : b < 18446744073709551616) (hc0 : 0 ≤ c) (hc : c ≤ 1) :
  wide_Add.f a b c = some ((a + b + c) % 18446744073709551616, (a + b + c) / 18446744073709551616) := by
 unfold wide_Add.f
 rw [and_one hc0 (by omega)]
 simp only [u64w]
 split
 ·congr 2 <;> omega
 ·split <;> (congr 2 <;> omega)

end Go.Proofs.YtoannkopciehcaaDoor.PA
