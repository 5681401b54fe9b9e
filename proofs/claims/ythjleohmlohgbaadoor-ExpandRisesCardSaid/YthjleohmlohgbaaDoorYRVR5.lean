/- A part of the proof (5). -/
import Derived.Test.YthjleohmlohgbaaDoorYRVR2
import Derived.Test.YthjleohmlohgbaaDoorYRVR3
import Derived.Test.YthjleohmlohgbaaDoorYRVR4
namespace Go.Proofs.YthjleohmlohgbaaDoor.PA
open Go.RowKit Go.Proofs.YthjleohmlohgbaaDoorW.PrintWords Go.Proofs.YthjleohmlohgbaaDoorW.PrintLast Go.Proofs.YthjleohmlohgbaaDoorW.PrintMore
attribute [local go_sem] max2_int min2_int max_two min_two max_three min_three max_four min_four
set_option linter.unusedVariables false
set_option linter.unusedSimpArgs false
mutual
def radix_written.l0 : Nat → List Int → Int → Int → Int → List Int → Option (List Int)
 | 0, _, _, _, _, _ => none
 | k + 1, x0, x1, x5, x6, x7 => if (x0.length : Int) > 0 then ((quot_Small.f k x0 x5).bind fun bt171 => (radix_written.l1 k x1 x5 x6 x7 bt171.1 bt171.2.1 x6 0)) else (radix_written.l2 k x7)
def radix_written.l1 : Nat → Int → Int → Int → List Int → List Int → Int → Int → Int → Option (List Int)
 | 0, _, _, _, _, _, _, _, _ => none
 | k + 1, x1, x5, x6, x7, x8, x9, x28, x29 => if x29 < x28 then (if (IntKind.u64.wrap (x1)) = 0 then (none) else (if 0 ≤ (Int.tmod x9 (IntKind.u64.wrap (x1))) then (if (Int.tmod x9 (IntKind.u64.wrap (x1))) < 36 then (if x7.length < 140737488355328 then (radix_written.l1 k x1 x5 x6 (x7 ++ [bt (⟨#[48, 49, 50, 51, 52, 53, 54, 55, 56, 57, 97, 98, 99, 100, 101, 102, 103, 104, 105, 106, 107, 108, 109, 110, 111, 112, 113, 114, 115, 116, 117, 118, 119, 120, 121, 122]⟩ : ByteArray) (Int.tmod x9 (IntKind.u64.wrap (x1)))]) x8 (IntKind.u64.wrap (Int.tdiv x9 (IntKind.u64.wrap (x1)))) x28 (wrap64 (x29 + 1))) else (none)) else (none)) else (none))) else (radix_written.l0 k x8 x1 x5 x6 x7)
def radix_written.l2 : Nat → List Int → Option (List Int)
 | 0, _ => none
 | k + 1, x7 => if (x7.length : Int) > 0 then (if 0 ≤ (wrap64 ((x7.length : Int) - 1)) then (if (wrap64 ((x7.length : Int) - 1)) < (x7.length : Int) then (if (rd x7 (wrap64 ((x7.length : Int) - 1))) = 48 then (if (wrap64 ((x7.length : Int) - 1)) ≤ (x7.length : Int) then (radix_written.l2 k (x7.take ((wrap64 ((x7.length : Int) - 1)) : Int).toNat)) else (none)) else (some x7)) else (none)) else (none)) else (some x7)
end
def radix_written.f (k : Nat) (l0 : List Int) (a1 : Int) : Option (List Int) := (radix_chunk.f a1).bind fun bt166 => ((nat_Norm.f l0).bind fun t168 => (radix_written.l0 k t168 a1 bt166.1 bt166.2 ([] : List Int)))
theorem radix_written.mono_l : ∀ k, (∀ y0 y1 y2 y3 y4, LeO (radix_written.l0 k y0 y1 y2 y3 y4) (radix_written.l0 (k + 1) y0 y1 y2 y3 y4)) ∧ (∀ y0 y1 y2 y3 y4 y5 y6 y7, LeO (radix_written.l1 k y0 y1 y2 y3 y4 y5 y6 y7) (radix_written.l1 (k + 1) y0 y1 y2 y3 y4 y5 y6 y7)) ∧ (∀ y0, LeO (radix_written.l2 k y0) (radix_written.l2 (k + 1) y0))
 | 0 => ⟨fun _ _ _ _ _ r h => by simp [radix_written.l0] at h, fun _ _ _ _ _ _ _ _ r h => by simp [radix_written.l1] at h, fun _ r h => by simp [radix_written.l2] at h⟩
 | k + 1 => by
  obtain ⟨ih0, ih1, ih2⟩ := radix_written.mono_l k
  refine ⟨?_, ?_, ?_⟩
  ·intro y0 y1 y2 y3 y4
   unfold radix_written.l0
   have m0_ := quot_Small.mono
   exact mX
  ·intro y0 y1 y2 y3 y4 y5 y6 y7
   unfold radix_written.l1
   have m0_ := quot_Small.mono
   exact mX
  ·intro y0
   unfold radix_written.l2
   have m0_ := quot_Small.mono
   exact mX
theorem radix_written.mono : ∀ a0 a1 k, LeO (radix_written.f k a0 a1) (radix_written.f (k + 1) a0 a1) := by
 intro a0 a1 k
 obtain ⟨ih0, ih1, ih2⟩ := radix_written.mono_l k
 unfold radix_written.f
 have m0_ := quot_Small.mono
 exact mX
set_option maxHeartbeats 8000000 in
set_option maxRecDepth 100000 in
theorem radix_written.calls (k : Nat) (A0 : Option Addr) (c0 : Nat) (l0 : List Int) (a1 : Int) (r : List Int) (w : World) (hr0 : Kd.C (Kd.int .u64) w A0 l0.length l0) (hc0 : l0.length ≤ c0) (h : radix_written.f k l0 a1 = some r) :
  Calls Tryd.prog 59 #[.slice A0 l0.length c0, .int .i64 a1] w fun e w' => ∃ v0_ : Value, e = .returned (v0_) ∧ Kd.R (Kd.int .u8) 5 w' w.heap.size (fun _ => True) v0_ r ∧ Below w.heap.size w w' := by
 have HR0 := aM hr0
 have HC0 := aM hc0
 clear hr0 hc0
 have HB := aM (Below.refl w.heap.size w)
 have H := h
 clear h
 unfold radix_written.f at H
 replace H := oA H
 obtain ⟨⟨t166, t167⟩, A3, H⟩ := H
 (try dsimp only at H)
 replace H := oA H
 obtain ⟨t168, A4, H⟩ := H
 (try dsimp only at H)
 have H' := aM H
 clear H
 go_enter Tryd.func59, Tryd.ntmps59
 go_wp2_with (first | ((with_reducible refine gate_callee (f := 28) rfl ?_); refine gL (some 13) Tryd.func28 #[.int .i64 a1] ?_; (with_reducible refine (radix_chunk.calls a1 t166 t167 _ A3.out).mono ?_); rintro e w' ⟨rfl, ⟨nd, rfl⟩⟩; refine ⟨_, rfl, ?_⟩) | ((with_reducible refine gate_callee (f := 54) rfl ?_); refine gL (some 17) Tryd.func54 #[.slice A0 l0.length c0] ?_; (with_reducible refine (nat_Norm.calls _ _ l0 t168 _ ?side1 HC0.out A4.out).mono ?_); (case side1 => exact dC HR0.out); rintro e w5 ⟨v169, rfl, ho0, hb⟩; refine ⟨_, rfl, ?_⟩; have HO170 := aM (Kd.R_lower ho0 (below_size dB)); replace HB := hS HB.out hb; (try clear hb); (try clear ho0)))
 go_loopg [0, 7] k (fun kq v0 v7 w' => ∃ (x0_1 : List Int) (x7_1 : List Int), Aside0 (radix_written.l0 kq x0_1 a1 t166 t167 x7_1 = some r) ∧ Aside0 (kq ≤ k) ∧ Aside0 (Kd.R (Kd.int .u64) 22 w' w.heap.size (fun _ => True) v0 x0_1) ∧ Aside0 (Kd.R (Kd.int .u8) 5 w' w.heap.size (fun _ => True) v7 x7_1) ∧ Aside0 (Below w.heap.size w w'))
 case atStart => exact ⟨(t168), (([] : List Int)), H', ⟨Nat.le_refl _⟩, ⟨dR HO170.out⟩, ⟨by first | exact Kd.R_nil _ _ _ _ _ | exact Kd.N_nil _ _ _ _ _ | exact Kd.V_nil _ _ _ _ _ | exact Kd.Q_nil _ _ _ _ _ | exact Kd.S_nil _ _ _ _ _⟩, ⟨dB⟩⟩
 case round =>
  clear H'
  obtain ⟨x0_1, x7_1, HA, HK1, HO_0, HO_7, HB⟩ := hrel
  cases gk with
  | zero => exact absurd HA.out (by simp [radix_written.l0])
  | succ k1 =>
   have H := HA.out
   clear HA
   simp only [radix_written.l0] at H
   by_cases c6 : (x0_1.length : Int) > 0
   ·rw [if_pos c6] at H
    have c6b0 : decide (0 < (x0_1.length : Int)) = true := decide_eq_true c6
    have c6b1 : decide (0 < x0_1.length) = true := decide_eq_true (by omega)
    clear c6
    replace H := oA H
    obtain ⟨⟨t171, t172, t173⟩, A7, H⟩ := H
    (try dsimp only at H)
    have H' := aM H
    clear H
    obtain ⟨Ao8, co8, rfl⟩ := Kd.R_slice HO_0.out
    go_wp2_with (first | ((with_reducible refine gate_callee (f := 58) rfl ?_); refine gL (some 24) Tryd.func58 #[.slice Ao8 x0_1.length co8, .int .u64 t166] ?_; (with_reducible refine (quot_Small.calls k1 _ _ x0_1 t166 t171 t172 t173 _ ?side1 (Kd.R_reads' HO_0.out).2.1 A7.out).mono ?_); (case side1 => exact dC (Kd.R_reads' HO_0.out).2.2); rintro e w9 ⟨v174, rfl, ho0, hb⟩; refine ⟨_, rfl, ?_⟩; replace HO_7 := oB HO_7.out hb; have HO175 := aM (Kd.R_lower (nW ho0 HO_0.out) (below_size dB)); replace HO_0 := oE HO_0.out ho0 hb; replace HB := hS HB.out hb; (try clear hb); (try clear ho0)))
    go_loopg [7, 9, 29] k1 (fun kq v7 v9 v29 w' => ∃ (x7_2 : List Int) (x9_2 : Int) (x29_2 : Int), v9 = .int .u64 x9_2 ∧ v29 = .int .i64 x29_2 ∧ Aside0 (radix_written.l1 kq a1 t166 t167 x7_2 t171 x9_2 t167 x29_2 = some r) ∧ Aside0 (kq ≤ k1) ∧ Aside0 (Kd.R (Kd.int .u8) 5 w' w.heap.size (fun _ => True) v7 x7_2) ∧ Aside0 (Kd.R (Kd.int .u64) 22 w' w.heap.size (fun _ => True) v174 t171) ∧ Aside0 (Below w.heap.size w w'))
    case atStart => exact ⟨(x7_1), (t172), (0), dF, dF, H', ⟨Nat.le_refl _⟩, ⟨dR HO_7.out⟩, ⟨oM HO175.out (fun _ hk => trivial)⟩, ⟨dB⟩⟩
    case round =>
     clear H'
     try clear c6
     try clear c6b0 c6b1
     obtain ⟨x7_2, x9_2, x29_2, rfl, rfl, HA, HK2, HO_7, HO_8, HB⟩ := hrel
     cases gk with
     | zero => exact absurd HA.out (by simp [radix_written.l1])
     | succ k2 =>
      have H := HA.out
      clear HA
      simp only [radix_written.l1] at H
      by_cases c10 : x29_2 < t167
      ·rw [if_pos c10] at H
       have c10b0 := decide_eq_true c10
       clear c10
       replace H := nQ H
       obtain ⟨c11, H⟩ := H
       obtain ⟨c11b0, c11b1⟩ := bF c11
       obtain ⟨ji12, hji12⟩ : ∃ j_ : Int, (Int.tmod x9_2 (IntKind.u64.wrap (a1))) = j_ := ⟨_, rfl⟩
       first | rw [hji12] at H | simp only [hji12] at H
       replace H := nO H
       obtain ⟨c13, H⟩ := H
       have c13b0 : decide (0 ≤ (ji12)) = true := decide_eq_true c13
       clear c13
       replace H := nO H
       obtain ⟨c14, H⟩ := H
       have c14b0 := decide_eq_true c14
       clear c14
       replace H := nO H
       obtain ⟨c16, H⟩ := H
       have LMc16 := aM c16
       clear c16
       obtain ⟨y176, hy176⟩ : ∃ y_ : List Int, y_ = (x7_2 ++ [bt (⟨#[48, 49, 50, 51, 52, 53, 54, 55, 56, 57, 97, 98, 99, 100, 101, 102, 103, 104, 105, 106, 107, 108, 109, 110, 111, 112, 113, 114, 115, 116, 117, 118, 119, 120, 121, 122]⟩ : ByteArray) (ji12)]) := ⟨_, rfl⟩
       replace H : (radix_written.l1 k2 a1 t166 t167 y176 t171 (IntKind.u64.wrap (Int.tdiv x9_2 (IntKind.u64.wrap (a1)))) t167 (wrap64 (x29_2 + 1))) = some r := by first | (rw [hy176]; with_reducible exact H) | (have H2_ := (Option.bind_some _ _).symm.trans H; rw [hy176]; with_reducible exact H2_) | (have H2_ := (Option.bind_some _ _).symm.trans H; with_reducible exact H2_) | with_reducible exact H | (rw [hy176]; exact H) | exact H
       have Ny176 := aM hy176
       clear hy176
       have H' := aM H
       clear H
       have p15 : 0 ≤ ((ji12) : Int) := of_decide_eq_true dS
       have q15 : (ji12) < (36 : Int) := of_decide_eq_true dS
       have hx15 := bt_at (⟨#[48, 49, 50, 51, 52, 53, 54, 55, 56, 57, 97, 98, 99, 100, 101, 102, 103, 104, 105, 106, 107, 108, 109, 110, 111, 112, 113, 114, 115, 116, 117, 118, 119, 120, 121, 122]⟩ : ByteArray) (ji12)
       replace p15 := eq_true p15
       replace q15 := eq_true q15
       go_wp2_with (first | ((with_reducible refine gate_builtin (b := .append) (xs := #[.tmp 31, .tmp 37]) rfl ?_); (try (refine gate_guard (by rfl) ?_; dsimp only)); at_builtin; refine Kd.R_append (Kd.int .u8) (w0 := w) w.heap.size rfl (.tmp 31) (.tmp 37) 45 5 (.int .u8 0) 1 rfl Tryd.underlying45 info5 rfl (by decide) (by omega) u7 x7_2 (bt (⟨#[48, 49, 50, 51, 52, 53, 54, 55, 56, 57, 97, 98, 99, 100, 101, 102, 103, 104, 105, 106, 107, 108, 109, 110, 111, 112, 113, 114, 115, 116, 117, 118, 119, 120, 121, 122]⟩ : ByteArray) (ji12)) [.int .u8 (bt (⟨#[48, 49, 50, 51, 52, 53, 54, 55, 56, 57, 97, 98, 99, 100, 101, 102, 103, 104, 105, 106, 107, 108, 109, 110, 111, 112, 113, 114, 115, 116, 117, 118, 119, 120, 121, 122]⟩ : ByteArray) (ji12))] (fun _ => True) (fun _ => False) rfl rfl ?aP (fun _ hk => hk.elim) ?aF ?aO ?aB ?aS ?aL ?_; (case aP => exact rfl); (case aB => exact dB); (case aF => exact (fun _ _ => trivial)); (case aO => exact (dR HO_7.out)); (case aS => exact (below_size dB)); (case aL => have := LMc16.out; omega); intro v177 w17 ho hb hg hat; rw [← Ny176.out] at ho; replace HO_8 := aM (Kd.R_over' (dR HO_8.out) (Kd.R_typed (dR HO_7.out)) (by decide) hg); replace HB := aM (hb); have HO178 := aM (ho); clear HO_7; clear ho hb hg hat))
       go_roundg k2
       case measure => have := HK1.out; have := HK2.out; omega
       case rel => exact ⟨(y176), (IntKind.u64.wrap (Int.tdiv x9_2 (IntKind.u64.wrap (a1)))), (wrap64 (x29_2 + 1)), dF, dF, H', ⟨by have := HK1.out; have := HK2.out; omega⟩, ⟨dR HO178.out⟩, ⟨dR HO_8.out⟩, ⟨dB⟩⟩
      ·rw [if_neg c10] at H
       have c10b0 := decide_eq_false c10
       clear c10
       have H' := aM H
       clear H
       go_wp2
       go_roundg k2
       case measure => have := HK1.out; have := HK2.out; omega
       case rel => exact ⟨(t171), (x7_2), H', ⟨by have := HK1.out; have := HK2.out; omega⟩, ⟨dR HO_8.out⟩, ⟨dR HO_7.out⟩, ⟨dB⟩⟩
   ·rw [if_neg c6] at H
    have c6b0 : decide (0 < (x0_1.length : Int)) = false := decide_eq_false c6
    have c6b1 : decide (0 < x0_1.length) = false := decide_eq_false (by omega)
    clear c6
    have H' := aM H
    clear H
    obtain ⟨Ao18, co18, rfl⟩ := Kd.R_slice HO_0.out
    go_wp2
    go_loopg [7] k1 (fun kq v7 w' => ∃ (x7_2 : List Int), Aside0 (radix_written.l2 kq x7_2 = some r) ∧ Aside0 (kq ≤ k1) ∧ Aside0 (Kd.R (Kd.int .u8) 5 w' w.heap.size (fun _ => True) v7 x7_2) ∧ Aside0 (Below w.heap.size w w'))
    case atStart => exact ⟨(x7_1), H', ⟨Nat.le_refl _⟩, ⟨dR HO_7.out⟩, ⟨dB⟩⟩
    case round =>
     clear H'
     try clear c6
     try clear c6b0 c6b1
     obtain ⟨x7_2, HA, HK2, HO_7, HB⟩ := hrel
     cases gk with
     | zero => exact absurd HA.out (by simp [radix_written.l2])
     | succ k2 =>
      have H := HA.out
      clear HA
      simp only [radix_written.l2] at H
      by_cases c19 : (x7_2.length : Int) > 0
      ·rw [if_pos c19] at H
       have c19b0 : decide (0 < (x7_2.length : Int)) = true := decide_eq_true c19
       have c19b1 : decide (0 < x7_2.length) = true := decide_eq_true (by omega)
       clear c19
       obtain ⟨ji20, hji20⟩ : ∃ j_ : Int, (wrap64 ((x7_2.length : Int) - 1)) = j_ := ⟨_, rfl⟩
       first | rw [hji20] at H | simp only [hji20] at H
       have hji20w : (IntKind.i64.wrap ((x7_2.length : Int) - 1)) = ji20 := (i64_w _).trans hji20
       replace H := nO H
       obtain ⟨c21, H⟩ := H
       have c21b0 : decide (0 ≤ (ji20)) = true := decide_eq_true c21
       clear c21
       replace H := nO H
       obtain ⟨c22, H⟩ := H
       have c22b0 := decide_eq_true c22
       clear c22
       by_cases c23 : (rd x7_2 (ji20)) = 48
       ·rw [if_pos c23] at H
        obtain ⟨c23b0, c23b1⟩ := bT c23
        clear c23
        replace H := nO H
        obtain ⟨c24, H⟩ := H
        have c24b0 := eq_true c24
        have c24b1 := decide_eq_true c24
        clear c24
        obtain ⟨y180, hy180⟩ : ∃ y_ : List Int, y_ = (x7_2.take ((ji20) : Int).toNat) := ⟨_, rfl⟩
        replace H : (radix_written.l2 k2 y180) = some r := by first | (rw [hy180]; with_reducible exact H) | (have H2_ := (Option.bind_some _ _).symm.trans H; rw [hy180]; with_reducible exact H2_) | (have H2_ := (Option.bind_some _ _).symm.trans H; with_reducible exact H2_) | with_reducible exact H | (rw [hy180]; exact H) | exact H
        have Ny180 := aM hy180
        clear hy180
        have H' := aM H
        clear H
        obtain ⟨Ao25, co25, rfl⟩ := Kd.R_slice HO_7.out
        have p179 : 0 ≤ ((ji20) : Int) := of_decide_eq_true dS
        have q179 : (ji20) < (x7_2.length : Int) := of_decide_eq_true dS
        obtain ⟨ad179, e179, hx179_0⟩ := Kd.at_int (Kd.R_reads' HO_7.out).2.2 (ji20) p179 q179
        cases e179
        replace p179 := eq_true p179
        replace q179 := eq_true q179
        have q26 : ((ji20) : Int) ≤ ((x7_2.length : Int) : Int) := of_decide_eq_true dS
        obtain ⟨i026, hi026, _, hsz26, _⟩ := info_parts info5
        have hcut26 := cut_to (P := Tryd.prog) 45 5 .i64 Tryd.underlying45 hi026 (some ad179) x7_2.length co25 (ji20) (of_decide_eq_true dS) q26 (Kd.R_reads' HO_7.out).2.1
        have hr26 := Kd.R_take (m := ((ji20) : Int).toNat) HO_7.out (by omega)
        have hy26 : y180.length = ((ji20) : Int).toNat := (by rw [Ny180.out, List.length_take]; omega)
        rw [← Ny180.out] at hr26
        rw [← hy26] at hr26 hcut26
        clear hy26 hi026 hsz26 HO_7
        have HO182 := aM hr26
        clear hr26
        replace q26 := eq_true q26
        go_wp2
        go_roundg k2
        case measure => have := HK1.out; have := HK2.out; omega
        case rel => exact ⟨(y180), H', ⟨by have := HK1.out; have := HK2.out; omega⟩, ⟨dR HO182.out⟩, ⟨dB⟩⟩
       ·rw [if_neg c23] at H
        obtain ⟨c23b0, c23b1⟩ := bF c23
        obtain rfl := Option.some.inj H
        obtain ⟨Ao27, co27, rfl⟩ := Kd.R_slice HO_7.out
        have p179 : 0 ≤ ((ji20) : Int) := of_decide_eq_true dS
        have q179 : (ji20) < (x7_2.length : Int) := of_decide_eq_true dS
        obtain ⟨ad179, e179, hx179_0⟩ := Kd.at_int (Kd.R_reads' HO_7.out).2.2 (ji20) p179 q179
        cases e179
        replace p179 := eq_true p179
        replace q179 := eq_true q179
        go_wp2
        go_ret
        exact ⟨_, by first | rfl | (simp [errW_none, errW_some] <;> rfl) | (simp only [← hji20]; first | rfl | (simp [errW_none, errW_some] <;> rfl)) | (simp [*, errW_none, errW_some] <;> rfl), dR HO_7.out, dB⟩
      ·rw [if_neg c19] at H
       have c19b0 : decide (0 < (x7_2.length : Int)) = false := decide_eq_false c19
       have c19b1 : decide (0 < x7_2.length) = false := decide_eq_false (by omega)
       clear c19
       obtain rfl := Option.some.inj H
       obtain ⟨Ao28, co28, rfl⟩ := Kd.R_slice HO_7.out
       go_wp2
       go_ret
       exact ⟨_, dE, dR HO_7.out, dB⟩
def slices_Reverse_byte_byte.l0 : Nat → List Int → Int → Int → Option (List Int)
 | 0, _, _, _ => none
 | k + 1, x0, x2, x3 => if x2 < x3 then (if 0 ≤ x3 then (if x3 < (x0.length : Int) then (if 0 ≤ x2 then (if x2 < (x0.length : Int) then (slices_Reverse_byte_byte.l0 k ((x0.set (x2 : Int).toNat (rd x0 x3)).set (x3 : Int).toNat (rd x0 x2)) (wrap64 (x2 + 1)) (wrap64 (x3 - 1))) else (none)) else (none)) else (none)) else (none)) else (some x0)
def slices_Reverse_byte_byte.f (k : Nat) (l0 : List Int) : Option (List Int) := slices_Reverse_byte_byte.l0 k l0 0 (wrap64 ((l0.length : Int) - 1))
theorem slices_Reverse_byte_byte.mono_l : ∀ k, (∀ y0 y1 y2, LeO (slices_Reverse_byte_byte.l0 k y0 y1 y2) (slices_Reverse_byte_byte.l0 (k + 1) y0 y1 y2))
 | 0 => fun _ _ _ r h => by simp [slices_Reverse_byte_byte.l0] at h
 | k + 1 => by
  have ih0 := slices_Reverse_byte_byte.mono_l k
  ·intro y0 y1 y2
   unfold slices_Reverse_byte_byte.l0
   exact mX
theorem slices_Reverse_byte_byte.mono : ∀ a0 k, LeO (slices_Reverse_byte_byte.f k a0) (slices_Reverse_byte_byte.f (k + 1) a0) := by
 intro a0 k
 have ih0 := slices_Reverse_byte_byte.mono_l k
 unfold slices_Reverse_byte_byte.f
 exact mX
def slices_Reverse_byte_byte.T3 : Bool × List (List Nat × List Nat) := (true, [([], []), ([], []), ([], []), ([], []), ([], []), ([], []), ([4, 5], [4, 5]), ([6], [6]), ([], []), ([], []), ([8, 9], [8, 9]), ([10], [10]), ([0, 1, 0, 1, 4, 5, 6, 7, 11], [0, 1]), ([12, 7, 0, 1, 4, 5, 6, 7, 11], [7, 12]), ([2, 3, 0, 1, 2, 3, 4, 5, 6, 7, 8, 9, 10, 11, 12, 13], [2, 3]), ([14, 11, 13, 0, 1, 2, 3, 4, 5, 6, 7, 8, 9, 10, 11, 12, 13], [11, 14])])
def slices_Reverse_byte_byte.B3 : List Nat := [0, 0, 0, 0, 0, 0, 48, 112, 0, 0, 768, 1792, 4083, 8179, 16383, 32767]
theorem slices_Reverse_byte_byte.tab3 : rtab .any (opsOf Tryd.f60 3) = slices_Reverse_byte_byte.T3 := by kernel_rfl
theorem slices_Reverse_byte_byte.bits3 : waitsOk slices_Reverse_byte_byte.T3.2 slices_Reverse_byte_byte.B3 = true := by kernel_rfl
set_option maxHeartbeats 8000000 in
set_option maxRecDepth 100000 in
theorem slices_Reverse_byte_byte.calls (k : Nat) (P0_ : Nat → Prop) (u9000_ : Value) (l0 : List Int) (r : List Int) (w0 w : World) (hB : Below w0.heap.size w0 w) (ho0 : Kd.R (Kd.int .u8) 5 w w0.heap.size P0_ u9000_ l0) (h : slices_Reverse_byte_byte.f k l0 = some r) :
  Calls Tryd.prog 60 #[u9000_] w fun e w' => e = .returned (.tuple #[]) ∧ Kd.R (Kd.int .u8) 5 w' w0.heap.size (fun k_ => (P0_ k_ ∨ w.heap.size ≤ k_)) u9000_ r ∧ Below w0.heap.size w0 w' ∧ Kept w w' (fun k_ => P0_ k_) := by
 have HO0 := aM (show Kd.R (Kd.int .u8) 5 w w0.heap.size (fun k_ => (P0_ k_ ∨ w.heap.size ≤ k_)) u9000_ l0 from Kd.R_mono ho0 (fun k_ hk => (.inl hk)))
 have HK := aM (Kept.refl w (fun k_ => P0_ k_))
 have HW0 := aM hB.size
 have HB := aM hB
 clear hB
 have H := h
 clear h
 unfold slices_Reverse_byte_byte.f at H
 have H' := aM H
 clear H
 obtain ⟨Ao2, co2, rfl⟩ := Kd.R_slice HO0.out
 go_enter Tryd.func60, Tryd.ntmps60
 go_wp2
 go_loopg [2, 3] k (fun kq v2 v3 w' => ∃ (x0_1 : List Int) (x2_1 : Int) (x3_1 : Int), v2 = .int .i64 x2_1 ∧ v3 = .int .i64 x3_1 ∧ Aside0 (slices_Reverse_byte_byte.l0 kq x0_1 x2_1 x3_1 = some r) ∧ Aside0 (kq ≤ k) ∧ Aside0 (Kd.R (Kd.int .u8) 5 w' w0.heap.size (fun k_ => (P0_ k_ ∨ w.heap.size ≤ k_)) (.slice Ao2 l0.length co2) x0_1) ∧ Aside0 (Kept w w' (fun k_ => P0_ k_)) ∧ Aside0 (Below w0.heap.size w0 w'))
 case atStart => exact ⟨(l0), (0), (wrap64 ((l0.length : Int) - 1)), dF, dF, H', ⟨Nat.le_refl _⟩, ⟨dR HO0.out⟩, ⟨by repeat (first | (with_reducible first | exact HK.out | apply Kept.alloc | apply Kept.drewN | apply Kept.drew) | exact HK.out)⟩, ⟨dB⟩⟩
 case round =>
  clear H'
  obtain ⟨x0_1, x2_1, x3_1, rfl, rfl, HA, HK1, HO_0, HK, HB⟩ := hrel
  have hl0_1 := (Kd.R_reads' HO_0.out).1
  rw [hl0_1] at HO_0
  (try simp only [hl0_1])
  cases gk with
  | zero => exact absurd HA.out (by simp [slices_Reverse_byte_byte.l0])
  | succ k1 =>
   have H := HA.out
   clear HA
   simp only [slices_Reverse_byte_byte.l0] at H
   by_cases c3 : x2_1 < x3_1
   ·rw [if_pos c3] at H
    have c3b0 := decide_eq_true c3
    clear c3
    replace H := nO H
    obtain ⟨c4, H⟩ := H
    have c4b0 : decide (0 ≤ x3_1) = true := decide_eq_true c4
    clear c4
    replace H := nO H
    obtain ⟨c5, H⟩ := H
    have c5b0 := decide_eq_true c5
    clear c5
    replace H := nO H
    obtain ⟨c6, H⟩ := H
    have c6b0 : decide (0 ≤ x2_1) = true := decide_eq_true c6
    clear c6
    replace H := nO H
    obtain ⟨c7, H⟩ := H
    have c7b0 := decide_eq_true c7
    clear c7
    obtain ⟨y185, hy185⟩ : ∃ y_ : List Int, y_ = (x0_1.set (x2_1 : Int).toNat (rd x0_1 x3_1)) := ⟨_, rfl⟩
    replace H : (slices_Reverse_byte_byte.l0 k1 (y185.set (x3_1 : Int).toNat (rd x0_1 x2_1)) (wrap64 (x2_1 + 1)) (wrap64 (x3_1 - 1))) = some r := by first | (rw [hy185]; with_reducible exact H) | (have H2_ := (Option.bind_some _ _).symm.trans H; rw [hy185]; with_reducible exact H2_) | (have H2_ := (Option.bind_some _ _).symm.trans H; with_reducible exact H2_) | with_reducible exact H | (rw [hy185]; exact H) | exact H
    have Ny185 := aM hy185
    clear hy185
    obtain ⟨y186, hy186⟩ : ∃ y_ : List Int, y_ = (y185.set (x3_1 : Int).toNat (rd x0_1 x2_1)) := ⟨_, rfl⟩
    replace H : (slices_Reverse_byte_byte.l0 k1 y186 (wrap64 (x2_1 + 1)) (wrap64 (x3_1 - 1))) = some r := by first | (rw [hy186]; with_reducible exact H) | (have H2_ := (Option.bind_some _ _).symm.trans H; rw [hy186]; with_reducible exact H2_) | (have H2_ := (Option.bind_some _ _).symm.trans H; with_reducible exact H2_) | with_reducible exact H | (rw [hy186]; exact H) | exact H
    have Ny186 := aM hy186
    clear hy186
    have H' := aM H
    clear H
    try go_wp2
    replace HO_0 := aM (Kd.R_drew HO_0.out)
    replace HK := aM (Kept.drew HK.out)
    replace HB := aM (below_drew1 HB.out)
    have p183 : 0 ≤ (x3_1 : Int) := of_decide_eq_true dS
    have q183 : x3_1 < (x0_1.length : Int) := of_decide_eq_true dS
    obtain ⟨ad183, e183, hx183_0⟩ := Kd.at_int (Kd.R_reads' HO_0.out).2.2 x3_1 p183 q183
    cases e183
    replace p183 := eq_true p183
    replace q183 := eq_true q183
    have p184 : 0 ≤ (x2_1 : Int) := of_decide_eq_true dS
    have q184 : x2_1 < (x0_1.length : Int) := of_decide_eq_true dS
    obtain ⟨ad184, e184, hx184_0⟩ := Kd.at_int (Kd.R_reads' HO_0.out).2.2 x2_1 p184 q184
    obtain rfl : ad183 = ad184 := (by injection e184)
    replace p184 := eq_true p184
    replace q184 := eq_true q184
    have p8 : 0 ≤ (x2_1 : Int) := of_decide_eq_true dS
    have q8 : (x2_1 : Int) < ((x0_1.length : Int) : Int) := of_decide_eq_true dS
    obtain ⟨go8, co8, eo8, gb8, gl8, cl8, HG8⟩ := Kd.R_form HO_0.out (by omega)
    (first | cases eo8 | (injection eo8 with ea_ en_ ec_; (first | subst ea_ | (injection ea_ with ea_; subst ea_)); subst ec_; clear en_))
    have GB8 := aM gb8
    have GG8 := aM HG8
    clear gb8 gl8 HG8
    have HMgo8 := aM (show (P0_ go8 ∨ w.heap.size ≤ go8) from (HO_0.out.1 _ rfl))
    (first | simp only [add_plain] at hx183_0 | skip)
    (first | simp only [add_plain] at hx184_0 | skip)
    obtain ⟨hx8_0, hf8_0⟩ := Kd.R_celln 0 HO_0.out (x2_1 : Int) p8 q8
    replace p8 := eq_true p8
    replace q8 := eq_true q8
    have HP11 := Kd.R_putn HO_0.out (x2_1 : Int) (rd x0_1 x3_1)
    rw [← Ny185.out] at HP11
    have HQ11 := aM HP11
    clear HP11
    have p9 : 0 ≤ (x3_1 : Int) := of_decide_eq_true dS
    have q9 : (x3_1 : Int) < ((x0_1.length : Int) : Int) := of_decide_eq_true dS
    obtain ⟨hx9_0, hf9_0⟩ := Kd.R_celln 0 HQ11.out (x3_1 : Int) p9 q9
    replace p9 := eq_true p9
    replace q9 := eq_true q9
    have HP12 := Kd.R_putn HQ11.out (x3_1 : Int) (rd x0_1 x2_1)
    rw [← Ny186.out] at HP12
    have HQ12 := aM HP12
    clear HP12
    refine start_ (n := 16) (S := fun w' => w'.cell? ⟨go8, (x3_1).toNat, none⟩ = some (.int .u8 (rd x0_1 x3_1)) ∧ w'.cell? ⟨go8, (x2_1).toNat, none⟩ = some (.int .u8 (rd x0_1 x2_1))) (ds := [13, 15]) #[false, false, false, false, false, false, false, false, false, false, false, false, false, false, false, false] (by kernel_rfl) rfl rfl ⟨hx183_0, hx184_0⟩ (fun hHeld => ?_); refine with_tabW slices_Reverse_byte_byte.tab3 slices_Reverse_byte_byte.bits3 (fun HT_ HW_ => ?_)
    generalize wr.drew = w10 at HO_0 HK HB GG8 HQ11 HQ12 hf8_0 hf9_0 hx183_0 hx184_0 hx8_0 hx9_0 hHeld ⊢
    refine pP 0 (some 14) ?_
    refine pP 1 (some 15) ?_
    refine pP 2 (some 16) ?_
    refine pP 3 (some 17) ?_
    refine pP 4 (some 18) ?_
    refine pP 5 (some 19) ?_
    refine pP 6 (some 20) ?_
    refine pP 8 (some 22) ?_
    refine pP 9 (some 23) ?_
    refine pP 10 (some 24) ?_
    refine pH2 7 (some 21) hHeld ?_
    refine pH2 11 (some 25) hHeld ?_
    refine pP 12 (some 26) ?_
    refine last_ (i := 13) (N := none) #[true, true, true, true, true, true, true, true, true, true, true, true, true, true, false, false] rfl rfl (one_of HT_.out (by kernel_rfl)) (by decide) (fun K hK => ?_)
    refine skip_ (w1 := ?_) (by rfl) rfl ?_ ?_
    rotate_left
    ·go_simp
     rfl
    refine hK.out _ _ ?_
    clear hK K
    refine pP 14 (some 27) ?_
    refine last_ (i := 15) (N := none) #[true, true, true, true, true, true, true, true, true, true, true, true, true, true, true, true] rfl rfl (one_of HT_.out (by kernel_rfl)) (by decide) (fun K hK => ?_)
    refine skip_ (w1 := ?_) (by rfl) rfl ?_ ?_
    rotate_left
    ·go_simp
     rfl
    refine hK.out _ _ ?_
    clear hK K
    refine done_ (done_of HT_.out (by kernel_rfl)) ?_
    try go_wp2
    (try simp only [← hl0_1])
    go_roundg k1
    case measure => have := HK1.out; omega
    case rel => exact ⟨(y186), (wrap64 (x2_1 + 1)), (wrap64 (x3_1 - 1)), dF, dF, H', ⟨by have := HK1.out; omega⟩, ⟨by (try simp only [hl0_1]); (with_reducible repeat (first | apply Kd.R_alloc | apply Kd.R_drewN | apply Kd.R_drew)); exact HQ12.out⟩, ⟨by repeat (first | (with_reducible first | exact HK.out | apply Kept.alloc | apply Kept.drewN | apply Kept.drew | refine Kept.setCell ?_ HMgo8.out _ | refine Kept.setCell ?_ HMgo8.out _) | exact HK.out)⟩, ⟨by repeat (first | (with_reducible first | exact HB.out | apply below_alloc | apply pw_below_drewN | apply below_drew1 | refine below_set ?_ GB8.out | refine below_set ?_ GB8.out) | exact HB.out)⟩⟩
   ·rw [if_neg c3] at H
    have c3b0 := decide_eq_false c3
    clear c3
    obtain rfl := Option.some.inj H
    go_wp2
    first | go_end0 | ((try simp only [Exit.inBlock, Exit.then]); refine bodyPost_ret (results_none rfl _ _ _) rfl ?_)
    exact ⟨dE, (by first | exact (dR HO_0.out) | (simp only [hl0_1]; exact (dR HO_0.out))), dB, by repeat (first | (with_reducible first | exact HK.out | apply Kept.alloc | apply Kept.drewN | apply Kept.drew) | exact HK.out)⟩
def radix_Text.f (k : Nat) (l0 : List Int) (a1 : Int) : Option (ByteArray × Int) := (radix_based.f a1).bind fun t187 => (if t187 = true then ((nat_Norm.f l0).bind fun t188 => (if (t188.length : Int) > 4096 then (some ((⟨#[]⟩ : ByteArray), 21)) else (if (t188.length : Int) = 0 then (some ((⟨#[48]⟩ : ByteArray), 0)) else ((radix_written.f k t188 a1).bind fun t191 => ((slices_Reverse_byte_byte.f k t191).bind fun t194 => (some (strOfNums t194, 0))))))) else (some ((⟨#[]⟩ : ByteArray), 40)))
theorem radix_Text.mono : ∀ a0 a1 k, LeO (radix_Text.f k a0 a1) (radix_Text.f (k + 1) a0 a1) := by
 intro a0 a1 k
 unfold radix_Text.f
 have m0_ := radix_written.mono
 have m1_ := slices_Reverse_byte_byte.mono
 exact mX
set_option maxHeartbeats 8000000 in
set_option maxRecDepth 100000 in
theorem radix_Text.calls (k : Nat) (A0 : Option Addr) (c0 : Nat) (l0 : List Int) (a1 : Int) (r1 : ByteArray) (r2 : Int) (w : World) (hr0 : Kd.C (Kd.int .u64) w A0 l0.length l0) (hc0 : l0.length ≤ c0) (h : radix_Text.f k l0 a1 = some (r1, r2)) :
  Calls Tryd.prog 38 #[.slice A0 l0.length c0, .int .i64 a1] w fun e w' => e = .returned (.tuple #[.string r1, .int .i64 r2]) ∧ Below w.heap.size w w' := by
 have HR0 := aM hr0
 have HC0 := aM hc0
 clear hr0 hc0
 have HB := aM (Below.refl w.heap.size w)
 have H := h
 clear h
 unfold radix_Text.f at H
 replace H := oA H
 obtain ⟨t187, A3, H⟩ := H
 (try dsimp only at H)
 by_cases c4 : t187 = true
 ·subst c4
  rw [if_pos rfl] at H
  (try dsimp only at H)
  replace H := oA H
  obtain ⟨t188, A5, H⟩ := H
  (try dsimp only at H)
  by_cases c6 : (t188.length : Int) > 4096
  ·rw [if_pos c6] at H
   have c6b0 : decide (4096 < (t188.length : Int)) = true := decide_eq_true c6
   have c6b1 : decide (4096 < t188.length) = true := decide_eq_true (by omega)
   clear c6
   simp only [Option.some.injEq, Prod.mk.injEq] at H
   obtain ⟨rfl, rfl⟩ := H
   go_enter Tryd.func38, Tryd.ntmps38
   go_wp2_with (first | ((with_reducible refine gate_callee (f := 25) rfl ?_); refine gL (some 8) Tryd.func25 #[.int .i64 a1] ?_; (with_reducible refine (radix_based.calls a1 true _ A3.out).mono ?_); rintro e w' ⟨rfl, ⟨nd, rfl⟩⟩; refine ⟨_, rfl, ?_⟩) | ((with_reducible refine gate_callee (f := 54) rfl ?_); refine gL (some 11) Tryd.func54 #[.slice A0 l0.length c0] ?_; (with_reducible refine (nat_Norm.calls _ _ l0 t188 _ ?side1 HC0.out A5.out).mono ?_); (case side1 => exact dC HR0.out); rintro e w7 ⟨v189, rfl, ho0, hb⟩; refine ⟨_, rfl, ?_⟩; have HO190 := aM (Kd.R_lower ho0 (below_size dB)); replace HB := hS HB.out hb; (try clear hb); (try clear ho0); obtain ⟨Ao8, co8, rfl⟩ := Kd.R_slice HO190.out))
   go_ret2
   exact ⟨dE, dB⟩
  ·rw [if_neg c6] at H
   have c6b0 : decide (4096 < (t188.length : Int)) = false := decide_eq_false c6
   have c6b1 : decide (4096 < t188.length) = false := decide_eq_false (by omega)
   clear c6
   by_cases c9 : (t188.length : Int) = 0
   ·rw [if_pos c9] at H
    obtain ⟨c9b0, c9b1⟩ := bT c9
    clear c9
    simp only [Option.some.injEq, Prod.mk.injEq] at H
    obtain ⟨rfl, rfl⟩ := H
    go_enter Tryd.func38, Tryd.ntmps38
    go_wp2_with (first | ((with_reducible refine gate_callee (f := 25) rfl ?_); refine gL (some 8) Tryd.func25 #[.int .i64 a1] ?_; (with_reducible refine (radix_based.calls a1 true _ A3.out).mono ?_); rintro e w' ⟨rfl, ⟨nd, rfl⟩⟩; refine ⟨_, rfl, ?_⟩) | ((with_reducible refine gate_callee (f := 54) rfl ?_); refine gL (some 11) Tryd.func54 #[.slice A0 l0.length c0] ?_; (with_reducible refine (nat_Norm.calls _ _ l0 t188 _ ?side1 HC0.out A5.out).mono ?_); (case side1 => exact dC HR0.out); rintro e w10 ⟨v189, rfl, ho0, hb⟩; refine ⟨_, rfl, ?_⟩; have HO190 := aM (Kd.R_lower ho0 (below_size dB)); replace HB := hS HB.out hb; (try clear hb); (try clear ho0); obtain ⟨Ao11, co11, rfl⟩ := Kd.R_slice HO190.out))
    go_ret2
    exact ⟨dE, dB⟩
   ·rw [if_neg c9] at H
    obtain ⟨c9b0, c9b1⟩ := bF c9
    have c9b2 : ¬ (t188 = []) := fun h_ => c9 (by rw [h_]; rfl)
    replace H := oA H
    obtain ⟨t191, A12, H⟩ := H
    (try dsimp only at H)
    replace H := oA H
    obtain ⟨t194, A13, H⟩ := H
    (try dsimp only at H)
    simp only [Option.some.injEq, Prod.mk.injEq] at H
    obtain ⟨rfl, rfl⟩ := H
    go_enter Tryd.func38, Tryd.ntmps38
    go_wp2_with (first | ((with_reducible refine gate_callee (f := 25) rfl ?_); refine gL (some 8) Tryd.func25 #[.int .i64 a1] ?_; (with_reducible refine (radix_based.calls a1 true _ A3.out).mono ?_); rintro e w' ⟨rfl, ⟨nd, rfl⟩⟩; refine ⟨_, rfl, ?_⟩) | ((with_reducible refine gate_callee (f := 54) rfl ?_); refine gL (some 11) Tryd.func54 #[.slice A0 l0.length c0] ?_; (with_reducible refine (nat_Norm.calls _ _ l0 t188 _ ?side1 HC0.out A5.out).mono ?_); (case side1 => exact dC HR0.out); rintro e w14 ⟨v189, rfl, ho0, hb⟩; refine ⟨_, rfl, ?_⟩; have HO190 := aM (Kd.R_lower ho0 (below_size dB)); replace HB := hS HB.out hb; (try clear hb); (try clear ho0); obtain ⟨Ao15, co15, rfl⟩ := Kd.R_slice HO190.out) | ((with_reducible refine gate_callee (f := 59) rfl ?_); refine gL (some 20) Tryd.func59 #[.slice Ao15 t188.length co15, .int .i64 a1] ?_; (with_reducible refine (radix_written.calls k _ _ t188 a1 t191 _ ?side1 (Kd.R_reads' HO190.out).2.1 A12.out).mono ?_); (case side1 => exact dC (Kd.R_reads' HO190.out).2.2); rintro e w16 ⟨v192, rfl, ho0, hb⟩; refine ⟨_, rfl, ?_⟩; replace HO190 := oB HO190.out hb; have HO193 := aM (Kd.R_lower ho0 (below_size dB)); replace HB := hS HB.out hb; (try clear hb); (try clear ho0); obtain ⟨Ao17, co17, rfl⟩ := Kd.R_slice HO193.out) | ((with_reducible refine gate_callee (f := 60) rfl ?_); refine gL (some 22) Tryd.func60 #[.slice Ao17 t191.length co17] ?_; (with_reducible refine (slices_Reverse_byte_byte.calls k (fun k_ => some k_ = (.slice Ao17 t191.length co17 : Value).ownBlock) (.slice Ao17 t191.length co17) t191 t194 w _ ?side1 ?side2 A13.out).mono ?_); (case side1 => repeat (first | (with_reducible first | exact HB.out | apply below_alloc | apply pw_below_drewN | apply below_drew1) | exact HB.out)); (case side2 => exact Kd.R_tight rfl HO193.out); rintro e w18 ⟨rfl, hy0, hb, hkp⟩; refine ⟨_, rfl, ?_⟩; replace HO190 := aM (Kd.R_mono (ok' := fun k_ => True) (Kd.R_keptB ((Kd.R_apart' HO190.out (Kd.R_typed HO193.out) (by decide))) hkp (fun k_ hk_ hs_ => (hk_.2) hs_)) (fun k_ hk_ => trivial)); replace HO193 := aM (Kd.R_reok rfl hy0 (fun k_ e_ => HO193.out.1 k_ e_)); replace HB := aM (hb); (try clear hb); (try clear hkp); (try clear hy0); have hcv19 := own_string (P := Tryd.prog) Tryd.underlying45 Tryd.underlying5 Tryd.underlying9 (Kd.own_of_R HO193.out)))
    go_ret2
    exact ⟨dE, dB⟩
 ·replace c4 := Bool.eq_false_iff.mpr c4
  subst c4
  rw [if_neg (show ¬ (false = true) by decide)] at H
  (try dsimp only at H)
  simp only [Option.some.injEq, Prod.mk.injEq] at H
  obtain ⟨rfl, rfl⟩ := H
  go_enter Tryd.func38, Tryd.ntmps38
  go_wp2_with (first | ((with_reducible refine gate_callee (f := 25) rfl ?_); refine gL (some 8) Tryd.func25 #[.int .i64 a1] ?_; (with_reducible refine (radix_based.calls a1 false _ A3.out).mono ?_); rintro e w' ⟨rfl, ⟨nd, rfl⟩⟩; refine ⟨_, rfl, ?_⟩))
  go_ret2
  exact ⟨dE, dB⟩
def expand_all.f (k : Nat) (a0 : Int) : Option (List Int × Int × Int) := (f64_Split.f k a0).bind fun bt195 => (if bt195.2.2.2 = 0 then (if bt195.2.1 = 0 then (some (([] : List Int), 0, 0)) else ((nat_From.f bt195.2.1).bind fun t199 => (if bt195.2.2.1 ≥ 0 then ((nat_Shl.f k t199 bt195.2.2.1).bind fun bt202 => ((radix_Trim.f k bt202.1).bind fun bt206 => ((radix_Text.f k bt206.1 10).bind fun bt210 => (if bt210.1.size ≤ 281474976710656 then (some ((bytesOfStr bt210.1), wrap64 (0 + bt206.2), 0)) else (none))))) else ((radix_Five.f k (wrap64 (-bt195.2.2.1))).bind fun bt215 => ((nat_Mul.f k t199 bt215.1).bind fun bt219 => ((radix_Trim.f k bt219.1).bind fun bt223 => ((radix_Text.f k bt223.1 10).bind fun bt227 => (if bt227.1.size ≤ 281474976710656 then (some ((bytesOfStr bt227.1), wrap64 (bt195.2.2.1 + bt223.2), 0)) else (none))))))))) else (some (([] : List Int), 0, 60)))
theorem expand_all.mono : ∀ a0 k, LeO (expand_all.f k a0) (expand_all.f (k + 1) a0) := by
 intro a0 k
 unfold expand_all.f
 have m0_ := f64_Split.mono
 have m1_ := nat_Mul.mono
 have m2_ := nat_Shl.mono
 have m3_ := radix_Five.mono
 have m4_ := radix_Text.mono
 have m5_ := radix_Trim.mono
 exact mX
set_option maxHeartbeats 8000000 in
set_option maxRecDepth 100000 in
theorem expand_all.calls (k : Nat) (a0 : Int) (r1 : List Int) (r2 : Int) (r3 : Int) (w : World) (h : expand_all.f k a0 = some (r1, r2, r3)) :
  Calls Tryd.prog 16 #[.int .u64 a0] w fun e w' => ∃ v0_ : Value, e = .returned (.tuple #[v0_, .int .i64 r2, .int .i64 r3]) ∧ Kd.R (Kd.int .u8) 5 w' w.heap.size (fun _ => True) v0_ r1 ∧ Below w.heap.size w w' := by
 have HB := aM (Below.refl w.heap.size w)
 have H := h
 clear h
 unfold expand_all.f at H
 replace H := oA H
 obtain ⟨⟨t195, t196, t197, t198⟩, A2, H⟩ := H
 (try dsimp only at H)
 by_cases c3 : t198 = 0
 ·rw [if_pos c3] at H
  obtain ⟨c3b0, c3b1⟩ := bT c3
  clear c3
  by_cases c4 : t196 = 0
  ·rw [if_pos c4] at H
   obtain ⟨c4b0, c4b1⟩ := bT c4
   clear c4
   simp only [Option.some.injEq, Prod.mk.injEq] at H
   obtain ⟨rfl, rfl, rfl⟩ := H
   go_enter Tryd.func16, Tryd.ntmps16
   go_wp2_with (first | ((with_reducible refine gate_callee (f := 19) rfl ?_); refine gL (some 18) Tryd.func19 #[.int .u64 a0] ?_; (with_reducible refine (f64_Split.calls k a0 t195 t196 t197 t198 _ A2.out).mono ?_); rintro e w' ⟨rfl, ⟨nd, rfl⟩⟩; refine ⟨_, rfl, ?_⟩))
   go_ret3
   exact ⟨_, dE, by first | exact Kd.R_nil _ _ _ _ _ | exact Kd.N_nil _ _ _ _ _ | exact Kd.V_nil _ _ _ _ _ | exact Kd.Q_nil _ _ _ _ _ | exact Kd.S_nil _ _ _ _ _, dB⟩
  ·rw [if_neg c4] at H
   obtain ⟨c4b0, c4b1⟩ := bF c4
   replace H := oA H
   obtain ⟨t199, A5, H⟩ := H
   (try dsimp only at H)
   by_cases c6 : t197 ≥ 0
   ·rw [if_pos c6] at H
    have c6b0 : decide (0 ≤ t197) = true := decide_eq_true c6
    clear c6
    replace H := oA H
    obtain ⟨⟨t202, t203⟩, A7, H⟩ := H
    (try dsimp only at H)
    replace H := oA H
    obtain ⟨⟨t206, t207⟩, A8, H⟩ := H
    (try dsimp only at H)
    replace H := oA H
    obtain ⟨⟨t210, t211⟩, A9, H⟩ := H
    (try dsimp only at H)
    replace H := nO H
    obtain ⟨c10, H⟩ := H
    have c10b0 := eq_true c10
    have c10b1 := decide_eq_true c10
    clear c10
    obtain ⟨y212, hy212⟩ : ∃ y_ : List Int, y_ = (bytesOfStr t210) := ⟨_, rfl⟩
    replace H : (some (y212, wrap64 (0 + t207), 0)) = some (r1, r2, r3) := by first | (rw [hy212]; with_reducible exact H) | (have H2_ := (Option.bind_some _ _).symm.trans H; rw [hy212]; with_reducible exact H2_) | (have H2_ := (Option.bind_some _ _).symm.trans H; with_reducible exact H2_) | with_reducible exact H | (rw [hy212]; exact H) | exact H
    have Ny212 := aM hy212
    clear hy212
    simp only [Option.some.injEq, Prod.mk.injEq] at H
    obtain ⟨rfl, rfl, rfl⟩ := H
    go_enter Tryd.func16, Tryd.ntmps16
    go_wp2_with (first | ((with_reducible refine gate_callee (f := 19) rfl ?_); refine gL (some 18) Tryd.func19 #[.int .u64 a0] ?_; (with_reducible refine (f64_Split.calls k a0 t195 t196 t197 t198 _ A2.out).mono ?_); rintro e w' ⟨rfl, ⟨nd, rfl⟩⟩; refine ⟨_, rfl, ?_⟩) | ((with_reducible refine gate_callee (f := 30) rfl ?_); refine gL (some 28) Tryd.func30 #[.int .u64 t196] ?_; (with_reducible refine (nat_From.calls t196 t199 _ A5.out).mono ?_); rintro e w11 ⟨v200, rfl, ho0, hb⟩; refine ⟨_, rfl, ?_⟩; have HO201 := aM (Kd.R_lower ho0 (below_size dB)); replace HB := hS HB.out hb; (try clear hb); (try clear ho0); obtain ⟨Ao12, co12, rfl⟩ := Kd.R_slice HO201.out) | ((with_reducible refine gate_callee (f := 35) rfl ?_); refine gL (some 34) Tryd.func35 #[.slice Ao12 t199.length co12, .int .i64 t197] ?_; (with_reducible refine (nat_Shl.calls k _ _ t199 t197 t202 t203 _ ?side1 (Kd.R_reads' HO201.out).2.1 A7.out).mono ?_); (case side1 => exact dC (Kd.R_reads' HO201.out).2.2); rintro e w13 ⟨v204, rfl, ho0, hb⟩; refine ⟨_, rfl, ?_⟩; have HO205 := aM (Kd.R_lower (nW ho0 HO201.out) (below_size dB)); replace HO201 := oE HO201.out ho0 hb; replace HB := hS HB.out hb; (try clear hb); (try clear ho0); obtain ⟨Ao14, co14, rfl⟩ := Kd.R_slice HO205.out) | ((with_reducible refine gate_callee (f := 37) rfl ?_); refine gL (some 52) Tryd.func37 #[.slice Ao14 t202.length co14] ?_; (with_reducible refine (radix_Trim.calls k _ _ t202 t206 t207 _ ?side1 (Kd.R_reads' HO205.out).2.1 A8.out).mono ?_); (case side1 => exact dC (Kd.R_reads' HO205.out).2.2); rintro e w15 ⟨v208, rfl, ho0, hb⟩; refine ⟨_, rfl, ?_⟩; have HO209 := aM (Kd.R_lower (nW (nW ho0 HO201.out) HO205.out) (below_size dB)); replace HO201 := oE HO201.out ho0 hb; replace HO205 := oE HO205.out ho0 hb; replace HB := hS HB.out hb; (try clear hb); (try clear ho0); obtain ⟨Ao16, co16, rfl⟩ := Kd.R_slice HO209.out) | ((with_reducible refine gate_callee (f := 38) rfl ?_); refine gL (some 57) Tryd.func38 #[.slice Ao16 t206.length co16, .int .i64 10] ?_; (with_reducible refine (radix_Text.calls k _ _ t206 10 t210 t211 _ ?side1 (Kd.R_reads' HO209.out).2.1 A9.out).mono ?_); (case side1 => exact dC (Kd.R_reads' HO209.out).2.2); rintro e w17 ⟨rfl, hb⟩; refine ⟨_, rfl, ?_⟩; replace HO201 := oB HO201.out hb; replace HO205 := oB HO205.out hb; replace HO209 := oB HO209.out hb; replace HB := hS HB.out hb; (try clear hb)) | ((with_reducible refine gate_dst (N := 61) rfl ?_); refine Kd.R_bytes _ 5 rfl (N := 61) rfl 9 45 _ rfl t210 rfl Tryd.underlying9 Tryd.underlying45 Tryd.underlying5 (ok := fun _ => True) trivial (of_decide_eq_true dS) (Below.refl _ _) (Nat.le_refl _) ?_; intro v213 w18 ho19 hb hg_ hnew_; clear hg_ hnew_; (first | rw [← Ny212.out] at ho19 | (simp only [Int.reduceToNat] at ho19; rw [← Ny212.out] at ho19)); replace HO201 := oB HO201.out hb; replace HO205 := oB HO205.out hb; replace HO209 := oB HO209.out hb; have HO214 := aM (Kd.R_lower ho19 (below_size dB)); replace HB := hS HB.out hb; clear hb ho19))
    go_ret3
    exact ⟨_, dE, dR HO214.out, dB⟩
   ·rw [if_neg c6] at H
    have c6b0 : decide (0 ≤ t197) = false := decide_eq_false c6
    clear c6
    replace H := oA H
    obtain ⟨⟨t215, t216⟩, A20, H⟩ := H
    (try dsimp only at H)
    replace H := oA H
    obtain ⟨⟨t219, t220⟩, A21, H⟩ := H
    (try dsimp only at H)
    replace H := oA H
    obtain ⟨⟨t223, t224⟩, A22, H⟩ := H
    (try dsimp only at H)
    replace H := oA H
    obtain ⟨⟨t227, t228⟩, A23, H⟩ := H
    (try dsimp only at H)
    replace H := nO H
    obtain ⟨c24, H⟩ := H
    have c24b0 := eq_true c24
    have c24b1 := decide_eq_true c24
    clear c24
    obtain ⟨y229, hy229⟩ : ∃ y_ : List Int, y_ = (bytesOfStr t227) := ⟨_, rfl⟩
    replace H : (some (y229, wrap64 (t197 + t224), 0)) = some (r1, r2, r3) := by first | (rw [hy229]; with_reducible exact H) | (have H2_ := (Option.bind_some _ _).symm.trans H; rw [hy229]; with_reducible exact H2_) | (have H2_ := (Option.bind_some _ _).symm.trans H; with_reducible exact H2_) | with_reducible exact H | (rw [hy229]; exact H) | exact H
    have Ny229 := aM hy229
    clear hy229
    simp only [Option.some.injEq, Prod.mk.injEq] at H
    obtain ⟨rfl, rfl, rfl⟩ := H
    go_enter Tryd.func16, Tryd.ntmps16
    go_wp2_with (first | ((with_reducible refine gate_callee (f := 19) rfl ?_); refine gL (some 18) Tryd.func19 #[.int .u64 a0] ?_; (with_reducible refine (f64_Split.calls k a0 t195 t196 t197 t198 _ A2.out).mono ?_); rintro e w' ⟨rfl, ⟨nd, rfl⟩⟩; refine ⟨_, rfl, ?_⟩) | ((with_reducible refine gate_callee (f := 30) rfl ?_); refine gL (some 28) Tryd.func30 #[.int .u64 t196] ?_; (with_reducible refine (nat_From.calls t196 t199 _ A5.out).mono ?_); rintro e w25 ⟨v200, rfl, ho0, hb⟩; refine ⟨_, rfl, ?_⟩; have HO201 := aM (Kd.R_lower ho0 (below_size dB)); replace HB := hS HB.out hb; (try clear hb); (try clear ho0)) | ((with_reducible refine gate_callee (f := 36) rfl ?_); refine gL (some 40) Tryd.func36 #[.int .i64 (wrap64 (-t197))] ?_; (with_reducible refine (radix_Five.calls k (wrap64 (-t197)) t215 t216 _ A20.out).mono ?_); rintro e w26 ⟨v217, rfl, ho0, hb⟩; refine ⟨_, rfl, ?_⟩; have HO218 := aM (Kd.R_lower (nW ho0 HO201.out) (below_size dB)); replace HO201 := oE HO201.out ho0 hb; replace HB := hS HB.out hb; (try clear hb); (try clear ho0); obtain ⟨Ao27, co27, rfl⟩ := Kd.R_slice HO201.out; obtain ⟨Ao28, co28, rfl⟩ := Kd.R_slice HO218.out) | ((with_reducible refine gate_callee (f := 29) rfl ?_); refine gL (some 46) Tryd.func29 #[.slice Ao27 t199.length co27, .slice Ao28 t215.length co28] ?_; (with_reducible refine (nat_Mul.calls k _ _ t199 _ _ t215 t219 t220 _ ?side1 (Kd.R_reads' HO201.out).2.1 ?side3 (Kd.R_reads' HO218.out).2.1 A21.out).mono ?_); (case side1 => exact dC (Kd.R_reads' HO201.out).2.2); (case side3 => exact dC (Kd.R_reads' HO218.out).2.2); rintro e w29 ⟨v221, rfl, ho0, hb⟩; refine ⟨_, rfl, ?_⟩; have HO222 := aM (Kd.R_lower (nW (nW ho0 HO201.out) HO218.out) (below_size dB)); replace HO201 := oE HO201.out ho0 hb; replace HO218 := oE HO218.out ho0 hb; replace HB := hS HB.out hb; (try clear hb); (try clear ho0); obtain ⟨Ao30, co30, rfl⟩ := Kd.R_slice HO222.out) | ((with_reducible refine gate_callee (f := 37) rfl ?_); refine gL (some 52) Tryd.func37 #[.slice Ao30 t219.length co30] ?_; (with_reducible refine (radix_Trim.calls k _ _ t219 t223 t224 _ ?side1 (Kd.R_reads' HO222.out).2.1 A22.out).mono ?_); (case side1 => exact dC (Kd.R_reads' HO222.out).2.2); rintro e w31 ⟨v225, rfl, ho0, hb⟩; refine ⟨_, rfl, ?_⟩; have HO226 := aM (Kd.R_lower (nW (nW (nW ho0 HO201.out) HO218.out) HO222.out) (below_size dB)); replace HO201 := oE HO201.out ho0 hb; replace HO218 := oE HO218.out ho0 hb; replace HO222 := oE HO222.out ho0 hb; replace HB := hS HB.out hb; (try clear hb); (try clear ho0); obtain ⟨Ao32, co32, rfl⟩ := Kd.R_slice HO226.out) | ((with_reducible refine gate_callee (f := 38) rfl ?_); refine gL (some 57) Tryd.func38 #[.slice Ao32 t223.length co32, .int .i64 10] ?_; (with_reducible refine (radix_Text.calls k _ _ t223 10 t227 t228 _ ?side1 (Kd.R_reads' HO226.out).2.1 A23.out).mono ?_); (case side1 => exact dC (Kd.R_reads' HO226.out).2.2); rintro e w33 ⟨rfl, hb⟩; refine ⟨_, rfl, ?_⟩; replace HO201 := oB HO201.out hb; replace HO218 := oB HO218.out hb; replace HO222 := oB HO222.out hb; replace HO226 := oB HO226.out hb; replace HB := hS HB.out hb; (try clear hb)) | ((with_reducible refine gate_dst (N := 61) rfl ?_); refine Kd.R_bytes _ 5 rfl (N := 61) rfl 9 45 _ rfl t227 rfl Tryd.underlying9 Tryd.underlying45 Tryd.underlying5 (ok := fun _ => True) trivial (of_decide_eq_true dS) (Below.refl _ _) (Nat.le_refl _) ?_; intro v230 w34 ho35 hb hg_ hnew_; clear hg_ hnew_; (first | rw [← Ny229.out] at ho35 | (simp only [Int.reduceToNat] at ho35; rw [← Ny229.out] at ho35)); replace HO201 := oB HO201.out hb; replace HO218 := oB HO218.out hb; replace HO222 := oB HO222.out hb; replace HO226 := oB HO226.out hb; have HO231 := aM (Kd.R_lower ho35 (below_size dB)); replace HB := hS HB.out hb; clear hb ho35))
    go_ret3
    exact ⟨_, dE, dR HO231.out, dB⟩
 ·rw [if_neg c3] at H
  obtain ⟨c3b0, c3b1⟩ := bF c3
  simp only [Option.some.injEq, Prod.mk.injEq] at H
  obtain ⟨rfl, rfl, rfl⟩ := H
  go_enter Tryd.func16, Tryd.ntmps16
  go_wp2_with (first | ((with_reducible refine gate_callee (f := 19) rfl ?_); refine gL (some 18) Tryd.func19 #[.int .u64 a0] ?_; (with_reducible refine (f64_Split.calls k a0 t195 t196 t197 t198 _ A2.out).mono ?_); rintro e w' ⟨rfl, ⟨nd, rfl⟩⟩; refine ⟨_, rfl, ?_⟩))
  go_ret3
  exact ⟨_, dE, by first | exact Kd.R_nil _ _ _ _ _ | exact Kd.N_nil _ _ _ _ _ | exact Kd.V_nil _ _ _ _ _ | exact Kd.Q_nil _ _ _ _ _ | exact Kd.S_nil _ _ _ _ _, dB⟩
def bytes_trimLeftByte.l0 : Nat → List Int → Int → Option (List Int)
 | 0, _, _ => none
 | k + 1, x0, x1 => if (x0.length : Int) > 0 then (if 0 < (x0.length : Int) then (if (rd x0 0) = x1 then (if 1 ≤ (x0.length : Int) then (bytes_trimLeftByte.l0 k (x0.drop 1) x1) else (none)) else (if (x0.length : Int) = 0 then (some ([] : List Int)) else (some x0))) else (none)) else (if (x0.length : Int) = 0 then (some ([] : List Int)) else (some x0))
def bytes_trimLeftByte.f (k : Nat) (l0 : List Int) (a1 : Int) : Option (List Int) := bytes_trimLeftByte.l0 k l0 a1
set_option maxHeartbeats 8000000 in
set_option maxRecDepth 100000 in
theorem bytes_trimLeftByte.calls (k : Nat) (P0_ : Nat → Prop) (A0 : Option Addr) (c0 : Nat) (l0 : List Int) (a1 : Int) (r : List Int) (w : World) (hs0 : Kd.V (Kd.int .u8) 5 w w.heap.size (fun k_ => P0_ k_) (.slice A0 l0.length c0) l0) (h : bytes_trimLeftByte.f k l0 a1 = some r) :
  Calls Tryd.prog 75 #[.slice A0 l0.length c0, .int .u8 a1] w fun e w' => ∃ v0_ : Value, e = .returned (v0_) ∧ Kd.V (Kd.int .u8) 5 w' w.heap.size (fun k_ => (P0_ k_ ∨ w.heap.size ≤ k_)) v0_ r ∧ Below w.heap.size w w' := by
 have HO0 := aM (show Kd.V (Kd.int .u8) 5 w w.heap.size (fun k_ => (P0_ k_ ∨ w.heap.size ≤ k_)) (.slice A0 l0.length c0) l0 from Kd.V_mono hs0 (fun k_ hk => .inl hk))
 have HB := aM (Below.refl w.heap.size w)
 have H := h
 clear h
 unfold bytes_trimLeftByte.f at H
 have H' := aM H
 clear H
 go_enter Tryd.func75, Tryd.ntmps75
 go_wp2
 go_loopg [0] k (fun kq v0 w' => ∃ (x0_1 : List Int), Aside0 (bytes_trimLeftByte.l0 kq x0_1 a1 = some r) ∧ Aside0 (kq ≤ k) ∧ Aside0 (Kd.V (Kd.int .u8) 5 w' w.heap.size (fun k_ => (P0_ k_ ∨ w.heap.size ≤ k_)) v0 x0_1) ∧ Aside0 (Below w.heap.size w w'))
 case atStart => exact ⟨(l0), H', ⟨Nat.le_refl _⟩, ⟨by (with_reducible repeat (first | apply Kd.V_alloc | apply Kd.V_drewN | apply Kd.V_drew)); exact HO0.out⟩, ⟨dB⟩⟩
 case round =>
  clear H'
  obtain ⟨x0_1, HA, HK1, HO_0, HB⟩ := hrel
  cases gk with
  | zero => exact absurd HA.out (by simp [bytes_trimLeftByte.l0])
  | succ k1 =>
   have H := HA.out
   clear HA
   simp only [bytes_trimLeftByte.l0] at H
   by_cases c3 : (x0_1.length : Int) > 0
   ·rw [if_pos c3] at H
    have c3b0 : decide (0 < (x0_1.length : Int)) = true := decide_eq_true c3
    have c3b1 : decide (0 < x0_1.length) = true := decide_eq_true (by omega)
    clear c3
    replace H := nO H
    obtain ⟨c4, H⟩ := H
    have c4b0 : decide (0 < (x0_1.length : Int)) = true := decide_eq_true c4
    have c4b1 : decide (0 < x0_1.length) = true := decide_eq_true (by omega)
    clear c4
    by_cases c5 : (rd x0_1 0) = a1
    ·rw [if_pos c5] at H
     obtain ⟨c5b0, c5b1⟩ := bT c5
     clear c5
     replace H := nO H
     obtain ⟨c6, H⟩ := H
     have c6b0 := eq_true c6
     have c6b1 : decide (1 ≤ (x0_1.length : Int)) = true := decide_eq_true c6
     clear c6
     obtain ⟨y233, hy233⟩ : ∃ y_ : List Int, y_ = (x0_1.drop 1) := ⟨_, rfl⟩
     replace H : (bytes_trimLeftByte.l0 k1 y233 a1) = some r := by first | (rw [hy233]; with_reducible exact H) | (have H2_ := (Option.bind_some _ _).symm.trans H; rw [hy233]; with_reducible exact H2_) | (have H2_ := (Option.bind_some _ _).symm.trans H; with_reducible exact H2_) | with_reducible exact H | (rw [hy233]; exact H) | exact H
     have Ny233 := aM hy233
     clear hy233
     have H' := aM H
     clear H
     obtain ⟨Ao7, co7, eo7⟩ := Kd.V_slice HO_0.out
     subst eo7
     have p232 : 0 ≤ (0 : Int) := (by omega)
     have q232 : 0 < (x0_1.length : Int) := of_decide_eq_true dS
     obtain ⟨ad232, e232, hx232_0⟩ := Kd.at_int (Kd.V_reads' HO_0.out).2.2 0 p232 q232
     cases e232
     have qi232 : (0 < x0_1.length) = True := eq_true (by omega)
     (try rw [show ((0 : Int)).toNat = 0 from rfl] at hx232_0)
     (try rw [Addr.add_zero'] at hx232_0)
     replace p232 := eq_true p232
     replace q232 := eq_true q232
     have q8 : (1 : Int) ≤ ((x0_1.length : Int) : Int) := of_decide_eq_true dS
     obtain ⟨i08, hi08, _, hsz8, _⟩ := info_parts info5
     have hroom8 : x0_1.length ≤ co7 := (Kd.V_reads' HO_0.out).2.1
     have hC8 : Kd.F (Kd.int .u8) _ _ (some ad232) x0_1.length x0_1 := (Kd.V_at (base := w.heap.size) HO_0.out).2.2
     have hcut8 := cut_from (P := Tryd.prog) 45 5 .i64 Tryd.underlying45 hi08 1 hsz8 (some ad232) x0_1.length co7 1 (by omega) q8
     have hr8 := Kd.F_cut (m := (1 : Int).toNat) (c := co7) hC8 (by omega) hroom8
     obtain ⟨A8, hA8⟩ : ∃ A1, A1 = (if co7 = (1 : Int).toNat then (some ad232) else ((some ad232) : Option Addr).map (·.add ((1 : Int).toNat * 1))) := ⟨_, rfl⟩
     obtain ⟨c8, hc8⟩ : ∃ c1, c1 = co7 - (1 : Int).toNat := ⟨_, rfl⟩
     have hy8 : y233.length = x0_1.length - (1 : Int).toNat := (by rw [Ny233.out, List.length_drop] <;> omega)
     rw [show (x0_1).drop (1 : Int).toNat = y233 from Ny233.out.symm] at hr8
     replace hr8 : Kd.F (Kd.int .u8) _ _ A8 y233.length y233 := (by rw [hA8]; exact hr8)
     rw [← hy8, ← hA8, ← hc8] at hcut8
     have HO237 := aM (show Kd.V (Kd.int .u8) 5 _ w.heap.size _ (.slice A8 y233.length c8) y233 from Kd.V_mk (by rw [hy8, hc8]; exact Nat.sub_le_sub_right hroom8 _) hr8)
     have HC237 := aM (show y233.length ≤ c8 from by rw [hy8, hc8]; exact Nat.sub_le_sub_right hroom8 _)
     clear hr8 hC8 hroom8 hi08 hsz8 hc8
     have KY8 := aM hy8
     have KA8 := aM hA8
     clear hy8 hA8
     replace q8 := eq_true q8
     go_wp2
     go_roundg k1
     case measure => have := HK1.out; omega
     case rel => exact ⟨(y233), H', ⟨by have := HK1.out; omega⟩, ⟨by (with_reducible repeat (first | apply Kd.V_alloc | apply Kd.V_drewN | apply Kd.V_drew)); exact HO237.out⟩, ⟨dB⟩⟩
    ·rw [if_neg c5] at H
     obtain ⟨c5b0, c5b1⟩ := bF c5
     by_cases c9 : (x0_1.length : Int) = 0
     ·rw [if_pos c9] at H
      obtain ⟨c9b0, c9b1⟩ := bT c9
      clear c9
      obtain rfl := Option.some.inj H
      obtain ⟨Ao10, co10, eo10⟩ := Kd.V_slice HO_0.out
      subst eo10
      have p232 : 0 ≤ (0 : Int) := (by omega)
      have q232 : 0 < (x0_1.length : Int) := of_decide_eq_true dS
      obtain ⟨ad232, e232, hx232_0⟩ := Kd.at_int (Kd.V_reads' HO_0.out).2.2 0 p232 q232
      cases e232
      have qi232 : (0 < x0_1.length) = True := eq_true (by omega)
      (try rw [show ((0 : Int)).toNat = 0 from rfl] at hx232_0)
      (try rw [Addr.add_zero'] at hx232_0)
      replace p232 := eq_true p232
      replace q232 := eq_true q232
      go_wp2
      go_ret
      exact ⟨.slice none 0 0, dE, Kd.V_nil _ _ _ _ _, dB⟩
     ·rw [if_neg c9] at H
      obtain ⟨c9b0, c9b1⟩ := bF c9
      have c9b2 : ¬ (x0_1 = []) := fun h_ => c9 (by rw [h_]; rfl)
      obtain rfl := Option.some.inj H
      obtain ⟨Ao11, co11, eo11⟩ := Kd.V_slice HO_0.out
      subst eo11
      have p232 : 0 ≤ (0 : Int) := (by omega)
      have q232 : 0 < (x0_1.length : Int) := of_decide_eq_true dS
      obtain ⟨ad232, e232, hx232_0⟩ := Kd.at_int (Kd.V_reads' HO_0.out).2.2 0 p232 q232
      cases e232
      have qi232 : (0 < x0_1.length) = True := eq_true (by omega)
      (try rw [show ((0 : Int)).toNat = 0 from rfl] at hx232_0)
      (try rw [Addr.add_zero'] at hx232_0)
      replace p232 := eq_true p232
      replace q232 := eq_true q232
      go_wp2
      go_ret
      exact ⟨_, dE, by (with_reducible repeat (first | apply Kd.V_alloc | apply Kd.V_drewN | apply Kd.V_drew)); exact HO_0.out, dB⟩
   ·rw [if_neg c3] at H
    have c3b0 : decide (0 < (x0_1.length : Int)) = false := decide_eq_false c3
    have c3b1 : decide (0 < x0_1.length) = false := decide_eq_false (by omega)
    clear c3
    by_cases c12 : (x0_1.length : Int) = 0
    ·rw [if_pos c12] at H
     obtain ⟨c12b0, c12b1⟩ := bT c12
     clear c12
     obtain rfl := Option.some.inj H
     obtain ⟨Ao13, co13, eo13⟩ := Kd.V_slice HO_0.out
     subst eo13
     go_wp2
     go_ret
     exact ⟨.slice none 0 0, dE, Kd.V_nil _ _ _ _ _, dB⟩
    ·rw [if_neg c12] at H
     obtain ⟨c12b0, c12b1⟩ := bF c12
     have c12b2 : ¬ (x0_1 = []) := fun h_ => c12 (by rw [h_]; rfl)
     obtain rfl := Option.some.inj H
     obtain ⟨Ao14, co14, eo14⟩ := Kd.V_slice HO_0.out
     subst eo14
     go_wp2
     go_ret
     exact ⟨_, dE, by (with_reducible repeat (first | apply Kd.V_alloc | apply Kd.V_drewN | apply Kd.V_drew)); exact HO_0.out, dB⟩
def bytes_trimRightByte.l0 : Nat → List Int → Int → Option (List Int)
 | 0, _, _ => none
 | k + 1, x0, x1 => if (x0.length : Int) > 0 then (if 0 ≤ (wrap64 ((x0.length : Int) - 1)) then (if (wrap64 ((x0.length : Int) - 1)) < (x0.length : Int) then (if (rd x0 (wrap64 ((x0.length : Int) - 1))) = x1 then (if (wrap64 ((x0.length : Int) - 1)) ≤ (x0.length : Int) then (bytes_trimRightByte.l0 k (x0.take ((wrap64 ((x0.length : Int) - 1)) : Int).toNat) x1) else (none)) else (some x0)) else (none)) else (none)) else (some x0)
def bytes_trimRightByte.f (k : Nat) (l0 : List Int) (a1 : Int) : Option (List Int) := bytes_trimRightByte.l0 k l0 a1
set_option maxHeartbeats 8000000 in
set_option maxRecDepth 100000 in
theorem bytes_trimRightByte.calls (k : Nat) (P0_ : Nat → Prop) (A0 : Option Addr) (c0 : Nat) (l0 : List Int) (a1 : Int) (r : List Int) (w : World) (hs0 : Kd.V (Kd.int .u8) 5 w w.heap.size (fun k_ => P0_ k_) (.slice A0 l0.length c0) l0) (h : bytes_trimRightByte.f k l0 a1 = some r) :
  Calls Tryd.prog 76 #[.slice A0 l0.length c0, .int .u8 a1] w fun e w' => ∃ v0_ : Value, e = .returned (v0_) ∧ Kd.V (Kd.int .u8) 5 w' w.heap.size (fun k_ => (P0_ k_ ∨ w.heap.size ≤ k_)) v0_ r ∧ Below w.heap.size w w' := by
 have HO0 := aM (show Kd.V (Kd.int .u8) 5 w w.heap.size (fun k_ => (P0_ k_ ∨ w.heap.size ≤ k_)) (.slice A0 l0.length c0) l0 from Kd.V_mono hs0 (fun k_ hk => .inl hk))
 have HB := aM (Below.refl w.heap.size w)
 have H := h
 clear h
 unfold bytes_trimRightByte.f at H
 have H' := aM H
 clear H
 go_enter Tryd.func76, Tryd.ntmps76
 go_wp2
 go_loopg [0] k (fun kq v0 w' => ∃ (x0_1 : List Int), Aside0 (bytes_trimRightByte.l0 kq x0_1 a1 = some r) ∧ Aside0 (kq ≤ k) ∧ Aside0 (Kd.V (Kd.int .u8) 5 w' w.heap.size (fun k_ => (P0_ k_ ∨ w.heap.size ≤ k_)) v0 x0_1) ∧ Aside0 (Below w.heap.size w w'))
 case atStart => exact ⟨(l0), H', ⟨Nat.le_refl _⟩, ⟨by (with_reducible repeat (first | apply Kd.V_alloc | apply Kd.V_drewN | apply Kd.V_drew)); exact HO0.out⟩, ⟨dB⟩⟩
 case round =>
  clear H'
  obtain ⟨x0_1, HA, HK1, HO_0, HB⟩ := hrel
  cases gk with
  | zero => exact absurd HA.out (by simp [bytes_trimRightByte.l0])
  | succ k1 =>
   have H := HA.out
   clear HA
   simp only [bytes_trimRightByte.l0] at H
   by_cases c3 : (x0_1.length : Int) > 0
   ·rw [if_pos c3] at H
    have c3b0 : decide (0 < (x0_1.length : Int)) = true := decide_eq_true c3
    have c3b1 : decide (0 < x0_1.length) = true := decide_eq_true (by omega)
    clear c3
    obtain ⟨ji4, hji4⟩ : ∃ j_ : Int, (wrap64 ((x0_1.length : Int) - 1)) = j_ := ⟨_, rfl⟩
    first | rw [hji4] at H | simp only [hji4] at H
    have hji4w : (IntKind.i64.wrap ((x0_1.length : Int) - 1)) = ji4 := (i64_w _).trans hji4
    replace H := nO H
    obtain ⟨c5, H⟩ := H
    have c5b0 : decide (0 ≤ (ji4)) = true := decide_eq_true c5
    clear c5
    replace H := nO H
    obtain ⟨c6, H⟩ := H
    have c6b0 := decide_eq_true c6
    clear c6
    by_cases c7 : (rd x0_1 (ji4)) = a1
    ·rw [if_pos c7] at H
     obtain ⟨c7b0, c7b1⟩ := bT c7
     clear c7
     have c8b0 := eq_true (of_decide_eq_true dS : 0 ≤ (ji4))
     replace H := nO H
     obtain ⟨c9, H⟩ := H
     have c9b0 := eq_true c9
     have c9b1 := decide_eq_true c9
     clear c9
     obtain ⟨y239, hy239⟩ : ∃ y_ : List Int, y_ = (x0_1.take ((ji4) : Int).toNat) := ⟨_, rfl⟩
     replace H : (bytes_trimRightByte.l0 k1 y239 a1) = some r := by first | (rw [hy239]; with_reducible exact H) | (have H2_ := (Option.bind_some _ _).symm.trans H; rw [hy239]; with_reducible exact H2_) | (have H2_ := (Option.bind_some _ _).symm.trans H; with_reducible exact H2_) | with_reducible exact H | (rw [hy239]; exact H) | exact H
     have Ny239 := aM hy239
     clear hy239
     have H' := aM H
     clear H
     obtain ⟨Ao10, co10, eo10⟩ := Kd.V_slice HO_0.out
     subst eo10
     have p238 : 0 ≤ ((ji4) : Int) := of_decide_eq_true dS
     have q238 : (ji4) < (x0_1.length : Int) := of_decide_eq_true dS
     obtain ⟨ad238, e238, hx238_0⟩ := Kd.at_int (Kd.V_reads' HO_0.out).2.2 (ji4) p238 q238
     cases e238
     replace p238 := eq_true p238
     replace q238 := eq_true q238
     have q11 : ((ji4) : Int) ≤ ((x0_1.length : Int) : Int) := of_decide_eq_true dS
     obtain ⟨i011, hi011, _, hsz11, _⟩ := info_parts info5
     have hroom11 : x0_1.length ≤ co10 := (Kd.V_reads' HO_0.out).2.1
     have hC11 : Kd.F (Kd.int .u8) _ _ (some ad238) x0_1.length x0_1 := (Kd.V_at (base := w.heap.size) HO_0.out).2.2
     have hcut11 := cut_to (P := Tryd.prog) 45 5 .i64 Tryd.underlying45 hi011 (some ad238) x0_1.length co10 (ji4) (of_decide_eq_true dS) q11 hroom11
     have hr11 := Kd.F_take (m := ((ji4) : Int).toNat) hC11 (by omega)
     have hy11 : y239.length = ((ji4) : Int).toNat := (by rw [Ny239.out, List.length_take]; omega)
     rw [← Ny239.out] at hr11
     rw [← hy11] at hcut11
     have HO243 := aM (show Kd.V (Kd.int .u8) 5 _ w.heap.size _ (.slice (some ad238) y239.length co10) y239 from Kd.V_mk (by omega) hr11)
     have HC243 := aM (show y239.length ≤ co10 from by omega)
     clear hr11 hC11 hroom11 hi011 hsz11
     have KY11 := aM hy11
     clear hy11
     replace q11 := eq_true q11
     go_wp2
     go_roundg k1
     case measure => have := HK1.out; omega
     case rel => exact ⟨(y239), H', ⟨by have := HK1.out; omega⟩, ⟨by (with_reducible repeat (first | apply Kd.V_alloc | apply Kd.V_drewN | apply Kd.V_drew)); exact HO243.out⟩, ⟨dB⟩⟩
    ·rw [if_neg c7] at H
     obtain ⟨c7b0, c7b1⟩ := bF c7
     obtain rfl := Option.some.inj H
     obtain ⟨Ao12, co12, eo12⟩ := Kd.V_slice HO_0.out
     subst eo12
     have p238 : 0 ≤ ((ji4) : Int) := of_decide_eq_true dS
     have q238 : (ji4) < (x0_1.length : Int) := of_decide_eq_true dS
     obtain ⟨ad238, e238, hx238_0⟩ := Kd.at_int (Kd.V_reads' HO_0.out).2.2 (ji4) p238 q238
     cases e238
     replace p238 := eq_true p238
     replace q238 := eq_true q238
     go_wp2
     go_ret
     exact ⟨_, by first | rfl | (simp [errW_none, errW_some] <;> rfl) | (simp only [← hji4]; first | rfl | (simp [errW_none, errW_some] <;> rfl)) | (simp [*, errW_none, errW_some] <;> rfl), by (with_reducible repeat (first | apply Kd.V_alloc | apply Kd.V_drewN | apply Kd.V_drew)); exact HO_0.out, dB⟩
   ·rw [if_neg c3] at H
    have c3b0 : decide (0 < (x0_1.length : Int)) = false := decide_eq_false c3
    have c3b1 : decide (0 < x0_1.length) = false := decide_eq_false (by omega)
    clear c3
    obtain rfl := Option.some.inj H
    obtain ⟨Ao13, co13, eo13⟩ := Kd.V_slice HO_0.out
    subst eo13
    go_wp2
    go_ret
    exact ⟨_, dE, by (with_reducible repeat (first | apply Kd.V_alloc | apply Kd.V_drewN | apply Kd.V_drew)); exact HO_0.out, dB⟩
theorem V_of_C {w : World} {base e c : Nat} {A : Option Addr} {xs : List Int} (h : Kd.C (Kd.int .u8) w A xs.length xs) (hc : xs.length ≤ c) : Kd.V (Kd.int .u8) e w base (fun _ => True) (.slice A xs.length c) xs :=
 Kd.V_mk hc (fun _ hW => Kd.Heap.C (Kd.heap_int .u8) (fun k hk => hW k trivial hk) h)
def bytes_Trim.j0 : Nat → List Int → ByteArray → Bool → Option (List Int)
 | 0, _, _, _ => none
 | k + 1, x0, x1, x20 => if x20 = true then (if 0 < (x1.size : Int) then ((bytes_trimRightByte.f k x0 (bt x1 0)).bind fun t251 => ((bytes_trimLeftByte.f k t251 (bt x1 0)).bind fun t254 => (some t254))) else (none)) else (none)
def bytes_Trim.f (k : Nat) (l0 : List Int) (a1 : ByteArray) : Option (List Int) := if (l0.length : Int) = 0 then (some ([] : List Int)) else (if a1.toList = ([] : List UInt8) then (some l0) else (if (a1.size : Int) = 1 then (if 0 < (a1.size : Int) then (bytes_Trim.j0 k l0 a1 (decide ((bt a1 0) < 128))) else (none)) else (bytes_Trim.j0 k l0 a1 false)))
def bytes_Trim.T6 : Bool × List (List Nat × List Nat) := (true, [([], []), ([], []), ([1], [1]), ([0, 2], [0, 2]), ([], []), ([4], [4]), ([3, 5, 3], [3, 5]), ([6, 6, 0, 1, 2, 3, 4, 5, 6], [6])])
def bytes_Trim.B6 : List Nat := [0, 0, 2, 7, 0, 16, 63, 127]
theorem bytes_Trim.tab6 : rtab .any (opsOf Tryd.f61 6) = bytes_Trim.T6 := by kernel_rfl
theorem bytes_Trim.bits6 : waitsOk bytes_Trim.T6.2 bytes_Trim.B6 = true := by kernel_rfl
set_option maxHeartbeats 8000000 in
set_option maxRecDepth 100000 in
theorem bytes_Trim.calls (k : Nat) (P0_ : Nat → Prop) (u9000_ : Value) (l0 : List Int) (a1 : ByteArray) (r : List Int) (w0 w : World) (hB : Below w0.heap.size w0 w) (ho0 : Kd.V (Kd.int .u8) 5 w w0.heap.size P0_ u9000_ l0) (h : bytes_Trim.f k l0 a1 = some r) :
  Calls Tryd.prog 61 #[u9000_, .string a1] w fun e w' => ∃ v0_ : Value, e = .returned (v0_) ∧ Kd.V (Kd.int .u8) 5 w' w0.heap.size (fun k_ => (P0_ k_ ∨ w.heap.size ≤ k_)) v0_ r ∧ Below w0.heap.size w0 w' ∧ Kept w w' (fun k_ => P0_ k_) := by
 have HO0 := aM (show Kd.V (Kd.int .u8) 5 w w0.heap.size (fun k_ => (P0_ k_ ∨ w.heap.size ≤ k_)) u9000_ l0 from Kd.V_mono ho0 (fun k_ hk => (.inl hk)))
 have HK := aM (Kept.refl w (fun k_ => P0_ k_))
 have HW0 := aM hB.size
 have HB := aM hB
 clear hB
 have H := h
 clear h
 unfold bytes_Trim.f at H
 by_cases c3 : (l0.length : Int) = 0
 ·rw [if_pos c3] at H
  obtain ⟨c3b0, c3b1⟩ := bT c3
  clear c3
  obtain rfl := Option.some.inj H
  obtain ⟨Ao4, co4, eo4⟩ := Kd.V_slice HO0.out
  subst eo4
  go_enter Tryd.func61, Tryd.ntmps61
  go_wp2
  go_ret
  exact ⟨.slice none 0 0, dE, Kd.V_nil _ _ _ _ _, dB, by repeat (first | (with_reducible first | exact HK.out | apply Kept.alloc | apply Kept.drewN | apply Kept.drew) | exact HK.out)⟩
 ·rw [if_neg c3] at H
  obtain ⟨c3b0, c3b1⟩ := bF c3
  have c3b2 : ¬ (l0 = []) := fun h_ => c3 (by rw [h_]; rfl)
  by_cases c5 : a1.toList = ([] : List UInt8)
  ·rw [if_pos c5] at H
   obtain ⟨c5b0, c5b1⟩ := bT c5
   clear c5
   obtain rfl := Option.some.inj H
   obtain ⟨Ao6, co6, eo6⟩ := Kd.V_slice HO0.out
   subst eo6
   go_enter Tryd.func61, Tryd.ntmps61
   go_wp2
   go_ret
   exact ⟨_, dE, (by (with_reducible repeat (first | apply Kd.V_alloc | apply Kd.V_drewN | apply Kd.V_drew)); exact HO0.out), dB, by repeat (first | (with_reducible first | exact HK.out | apply Kept.alloc | apply Kept.drewN | apply Kept.drew) | exact HK.out)⟩
  ·rw [if_neg c5] at H
   obtain ⟨c5b0, c5b1⟩ := bF c5
   have HC7 := aM H
   clear H
   obtain ⟨Ao8, co8, eo8⟩ := Kd.V_slice HO0.out
   subst eo8
   go_enter Tryd.func61, Tryd.ntmps61
   go_upto_region 5 with (fail)
   go_cut [20] (fun v20 wc => ∃ (kq : Nat) (x20_6 : Bool), v20 = .bool x20_6 ∧ Aside0 (bytes_Trim.j0 kq l0 a1 x20_6 = some r) ∧ Aside0 (kq ≤ k) ∧ Aside0 (Kd.V (Kd.int .u8) 5 wc w0.heap.size (fun k_ => (P0_ k_ ∨ w.heap.size ≤ k_)) (.slice Ao8 l0.length co8) l0) ∧ Aside0 (Kept w wc (fun k_ => P0_ k_)) ∧ Aside0 (Below w0.heap.size w0 wc))
   case first =>
    have H := HC7.out
    clear HC7
    by_cases c9 : (a1.size : Int) = 1
    ·rw [if_pos c9] at H
     obtain ⟨c9b0, c9b1⟩ := bT c9
     clear c9
     (first | rw [c9b0] | (simp only [i64_w, i32_w]; rw [c9b0]) | skip)
     replace H := nO H
     obtain ⟨c10, H⟩ := H
     have c10b0 : decide (0 < (a1.size : Int)) = true := decide_eq_true c10
     have c10b1 : decide (0 < a1.size) = true := decide_eq_true (by omega)
     clear c10
     have H' := aM H
     clear H
     have p11 : 0 ≤ (0 : Int) := (by omega)
     have q11 : 0 < a1.size := (by have : (0 : Int) < (a1.size : Int) := of_decide_eq_true dS; omega)
     have hx11 : ∀ h : 0 < a1.size, ((a1[0]'h).toNat : Int) = bt a1 0 := bt_at a1 0
     clear p11
     have qi11 : (0 < (a1.size : Int)) = True := eq_true (of_decide_eq_true dS)
     replace q11 := eq_true q11
     go_wp2
     go_meet
     case rel => exact ⟨_, (decide ((bt a1 0) < 128)), dF, H', ⟨dN⟩, ⟨by (with_reducible repeat (first | apply Kd.V_alloc | apply Kd.V_drewN | apply Kd.V_drew)); exact HO0.out⟩, ⟨by repeat (first | (with_reducible first | exact HK.out | apply Kept.alloc | apply Kept.drewN | apply Kept.drew) | exact HK.out)⟩, ⟨dB⟩⟩
    ·rw [if_neg c9] at H
     obtain ⟨c9b0, c9b1⟩ := bF c9
     (first | rw [c9b0] | (simp only [i64_w, i32_w]; rw [c9b0]) | skip)
     have H' := aM H
     clear H
     go_wp2
     go_meet
     case rel => exact ⟨_, (false), dF, H', ⟨dN⟩, ⟨by (with_reducible repeat (first | apply Kd.V_alloc | apply Kd.V_drewN | apply Kd.V_drew)); exact HO0.out⟩, ⟨by repeat (first | (with_reducible first | exact HK.out | apply Kept.alloc | apply Kept.drewN | apply Kept.drew) | exact HK.out)⟩, ⟨dB⟩⟩
   case rest =>
    clear HC7
    try clear c3
    try clear c3b0 c3b1
    try clear c3b2
    try clear c5
    try clear c5b0 c5b1
    obtain ⟨kq, x20_6, rfl, HA, HJ6, HO_0, HK, HB⟩ := hcut
    cases kq with
    | zero => exact absurd HA.out (by simp [bytes_Trim.j0])
    | succ kj6 =>
     have H := HA.out
     clear HA
     simp only [bytes_Trim.j0] at H
     replace H := nO H
     obtain ⟨rfl, H⟩ := H
     (try dsimp only at H)
     replace H := nO H
     obtain ⟨c13, H⟩ := H
     have c13b0 : decide (0 < (a1.size : Int)) = true := decide_eq_true c13
     have c13b1 : decide (0 < a1.size) = true := decide_eq_true (by omega)
     clear c13
     replace H := oA H
     obtain ⟨t251, A15, H⟩ := H
     (try dsimp only at H)
     replace H := oA H
     obtain ⟨t254, A17, H⟩ := H
     (try dsimp only at H)
     obtain rfl := Option.some.inj H
     try go_wp2
     replace HO_0 := aM (Kd.V_drew HO_0.out)
     replace HK := aM (Kept.drew HK.out)
     replace HB := aM (below_drew1 HB.out)
     have p14 : 0 ≤ (0 : Int) := (by omega)
     have q14 : 0 < a1.size := (by have : (0 : Int) < (a1.size : Int) := of_decide_eq_true dS; omega)
     have hx14 : ∀ h : 0 < a1.size, ((a1[0]'h).toNat : Int) = bt a1 0 := bt_at a1 0
     clear p14
     have qi14 : (0 < (a1.size : Int)) = True := eq_true (of_decide_eq_true dS)
     replace q14 := eq_true q14
     have p16 : 0 ≤ (0 : Int) := (by omega)
     have q16 : 0 < a1.size := (by have : (0 : Int) < (a1.size : Int) := of_decide_eq_true dS; omega)
     have hx16 : ∀ h : 0 < a1.size, ((a1[0]'h).toNat : Int) = bt a1 0 := bt_at a1 0
     clear p16
     have qi16 : (0 < (a1.size : Int)) = True := eq_true (of_decide_eq_true dS)
     replace q16 := eq_true q16
     refine start_ (n := 8) (S := fun w' => True) (ds := []) #[false, false, false, false, false, false, false, false] (by kernel_rfl) rfl rfl trivial (fun hHeld => ?_); refine with_tabW bytes_Trim.tab6 bytes_Trim.bits6 (fun HT_ HW_ => ?_)
     generalize wc.drew = w18 at HO_0 HK HB hHeld ⊢
     refine pP 0 (some 21) ?_
     refine pP 1 (some 22) ?_
     refine pP 4 (some 25) ?_
     refine take_ (i := 2) (N := some 23) (v := ?_) (a' := ?_) #[true, true, true, false, true, false, false, false] rfl rfl (take_ofW HT_.out HW_.out (by kernel_rfl)) (fun _ _ _ h => h) (Or.inl ⟨by rfl, ?_⟩) hHeld ?_ ?_
     rotate_left
     ·intro w' _
      go_simp
      with_reducible rfl
     rotate_left
     ·simp only [Act.put, List.setIfInBounds_toArray, List.set_cons_zero, List.set_cons_succ, i64_w, i32_w]
      rfl
     refine take_ (i := 5) (N := some 26) (v := ?_) (a' := ?_) #[true, true, true, false, true, true, false, false] rfl rfl (take_ofW HT_.out HW_.out (by kernel_rfl)) (fun _ _ _ h => h) (Or.inl ⟨by rfl, ?_⟩) hHeld ?_ ?_
     rotate_left
     ·intro w' _
      go_simp
      with_reducible rfl
     rotate_left
     ·simp only [Act.put, List.setIfInBounds_toArray, List.set_cons_zero, List.set_cons_succ, i64_w, i32_w]
      rfl
     refine one_ (i := 3) (N := some 24) #[true, true, true, true, true, true, false, false] rfl rfl (one_of HT_.out (by kernel_rfl)) (by decide) (fun K hK => ?_)
     refine goes_ Tryd.func76 (by kernel_rfl) rfl #[.slice Ao8 l0.length co8, .int .u8 (bt a1 0)] (by rfl) rfl rfl dA ?_
     with_reducible refine (bytes_trimRightByte.calls kj6 (fun k_ => (P0_ k_ ∨ w.heap.size ≤ k_)) _ _ l0 (bt a1 0) t251 _ HO_0.out A15.out).mono ?_
     rintro e w19 ⟨v252, rfl, ho0, hb⟩
     refine ⟨_, rfl, ?_⟩
     replace HO_0 := aM (Kd.V_below (by (with_reducible repeat (first | apply Kd.V_alloc | apply Kd.V_drewN | apply Kd.V_drew)); exact HO_0.out) hb)
     have HO253 := aM (Kd.V_lower (Kd.V_mono (ok' := fun k_ => (P0_ k_ ∨ w.heap.size ≤ k_)) ho0 (fun k_ hk_ => Or.elim hk_ (fun hs_ => hs_) (fun hn_ => (.inr (Nat.le_trans (by first | exact HK.out.1 | exact (show Kept w _ (fun k_ => P0_ k_) from by repeat (first | (with_reducible first | exact HK.out | apply Kept.alloc | apply Kept.drewN | apply Kept.drew) | exact HK.out)).1) hn_))))) (below_size dB))
     replace HK := aM (Kept.below (S := (fun k_ => P0_ k_)) (by repeat (first | (with_reducible first | exact HK.out | apply Kept.alloc | apply Kept.drewN | apply Kept.drew) | exact HK.out)) hb)
     replace HB := hS HB.out hb
     (try clear hb)
     (try clear hb2)
     (try clear hk)
     (try clear hi)
     (try clear ho0)
     obtain ⟨Ao20, co20, eo20⟩ := Kd.V_slice HO253.out
     (first | subst eo20 | (injection eo20 with f1_ f2_ f3_; have f4_ := f1_.symm; have f5_ := f3_.symm; clear f1_ f2_ f3_; subst f4_; subst f5_))
     refine hK.out _ _ trivial (fun hHeld => ?_)
     clear hK K
     refine norm_ (a' := ?_) ?_ ?_
     rotate_left
     ·show Act.put _ (some 24) _ = _
      simp only [Act.put, List.setIfInBounds_toArray, List.set_cons_zero, List.set_cons_succ, i64_w, i32_w]
      rfl
     refine one_ (i := 6) (N := some 27) #[true, true, true, true, true, true, true, false] rfl rfl (one_of HT_.out (by kernel_rfl)) (by decide) (fun K hK => ?_)
     refine goes_ Tryd.func75 (by kernel_rfl) rfl #[.slice Ao20 t251.length co20, .int .u8 (bt a1 0)] (by rfl) rfl rfl dA ?_
     with_reducible refine (bytes_trimLeftByte.calls kj6 (fun k_ => (P0_ k_ ∨ w.heap.size ≤ k_)) _ _ t251 (bt a1 0) t254 _ HO253.out A17.out).mono ?_
     rintro e w21 ⟨v255, rfl, ho0, hb⟩
     refine ⟨_, rfl, ?_⟩
     replace HO_0 := aM (Kd.V_below (by (with_reducible repeat (first | apply Kd.V_alloc | apply Kd.V_drewN | apply Kd.V_drew)); exact HO_0.out) hb)
     replace HO253 := aM (Kd.V_below (by (with_reducible repeat (first | apply Kd.V_alloc | apply Kd.V_drewN | apply Kd.V_drew)); exact HO253.out) hb)
     have HO256 := aM (Kd.V_lower (Kd.V_mono (ok' := fun k_ => (P0_ k_ ∨ w.heap.size ≤ k_)) ho0 (fun k_ hk_ => Or.elim hk_ (fun hs_ => hs_) (fun hn_ => (.inr (Nat.le_trans (by first | exact HK.out.1 | exact (show Kept w _ (fun k_ => P0_ k_) from by repeat (first | (with_reducible first | exact HK.out | apply Kept.alloc | apply Kept.drewN | apply Kept.drew) | exact HK.out)).1) hn_))))) (below_size dB))
     replace HK := aM (Kept.below (S := (fun k_ => P0_ k_)) (by repeat (first | (with_reducible first | exact HK.out | apply Kept.alloc | apply Kept.drewN | apply Kept.drew) | exact HK.out)) hb)
     replace HB := hS HB.out hb
     (try clear hb)
     (try clear hb2)
     (try clear hk)
     (try clear hi)
     (try clear ho0)
     refine hK.out _ _ trivial (fun hHeld => ?_)
     clear hK K
     refine norm_ (a' := ?_) ?_ ?_
     rotate_left
     ·show Act.put _ (some 27) _ = _
      simp only [Act.put, List.setIfInBounds_toArray, List.set_cons_zero, List.set_cons_succ, i64_w, i32_w]
      rfl
     refine pP 7 (some 4) ?_
     refine done_ (done_of HT_.out (by kernel_rfl)) ?_
     try go_wp2
     go_ret
     exact ⟨_, dE, by (with_reducible repeat (first | apply Kd.V_alloc | apply Kd.V_drewN | apply Kd.V_drew)); exact HO256.out, dB, by repeat (first | (with_reducible first | exact HK.out | apply Kept.alloc | apply Kept.drewN | apply Kept.drew) | exact HK.out)⟩
def expand_up.f (a0 : Int) (l1 : List Int) : Option (Bool) := if l1.length = 0 then some false else if rd l1 0 < 53 then some false else if rd l1 0 > 53 then some true else (bytes_Trim.f (l1.length + 3) (l1.drop 1) ⟨#[48]⟩).bind fun t => some (if 0 < t.length then true else (Go.bits .and .u8 a0 1 == 1))
set_option maxHeartbeats 8000000 in
set_option maxRecDepth 100000 in
theorem expand_up.calls (a0 : Int) (A1 : Option Addr) (c1 : Nat) (l1 : List Int) (r : Bool) (w : World) (hr1 : Kd.C (Kd.int .u8) w A1 l1.length l1) (hc1 : l1.length ≤ c1) (h : expand_up.f a0 l1 = some r) :
  Calls Tryd.prog 39 #[.int .u8 a0, .slice A1 l1.length c1] w fun e w' => e = .returned (.bool r) ∧ Below w.heap.size w w' := by
 have HR1 := aM hr1
 have HC1 := aM hc1
 have HB := aM (Below.refl w.heap.size w)
 clear hr1 hc1
 unfold expand_up.f at h
 by_cases c0 : l1.length = 0
 ·rw [if_pos c0] at h
  obtain rfl := Option.some.inj h
  have c0b : ((l1.length : Int) == 0) = true := beq_iff_eq.mpr (by omega)
  clear h
  go_enter Tryd.func39, Tryd.ntmps39
  go_wp2
  go_ret
  exact ⟨rfl, by repeat (first | exact HB.out | (with_reducible apply pw_below_drewN) | (with_reducible apply below_drew1))⟩
 ·rw [if_neg c0] at h
  have c0b : ((l1.length : Int) == 0) = false := beq_eq_false_iff_ne.mpr (by omega)
  have p1 : 0 ≤ (0 : Int) := (by omega)
  have q1 : (0 : Int) < (l1.length : Int) := by omega
  obtain ⟨ad1, e1, hx1⟩ := Kd.at_int HR1.out 0 p1 q1
  cases e1
  (try rw [show ((0 : Int)).toNat = 0 from rfl] at hx1)
  (try rw [Addr.add_zero'] at hx1)
  have qi1 : (0 < l1.length) = True := eq_true (by omega)
  have QL := aM (show 1 ≤ (l1.length : Int) by omega)
  replace q1 := eq_true q1
  clear c0
  by_cases c2 : rd l1 0 < 53
  ·rw [if_pos c2] at h
   obtain rfl := Option.some.inj h
   have c2b := decide_eq_true c2
   clear h c2
   go_enter Tryd.func39, Tryd.ntmps39
   go_wp2
   go_ret
   exact ⟨rfl, by repeat (first | exact HB.out | (with_reducible apply pw_below_drewN) | (with_reducible apply below_drew1))⟩
  ·rw [if_neg c2] at h
   have c2b := decide_eq_false c2
   clear c2
   by_cases c3 : rd l1 0 > 53
   ·rw [if_pos c3] at h
    obtain rfl := Option.some.inj h
    have c3b : decide (53 < rd l1 0) = true := decide_eq_true c3
    clear h c3
    go_enter Tryd.func39, Tryd.ntmps39
    go_wp2
    go_ret
    exact ⟨rfl, by repeat (first | exact HB.out | (with_reducible apply pw_below_drewN) | (with_reducible apply below_drew1))⟩
   ·rw [if_neg c3] at h
    have c3b : decide (53 < rd l1 0) = false := decide_eq_false c3
    clear c3
    replace h := Option.bind_eq_some_iff.mp h
    obtain ⟨t, ht, h⟩ := h
    have AT := aM ht
    obtain rfl := Option.some.inj h
    clear h ht
    obtain ⟨i08, hi08, _, hsz8, _⟩ := info_parts info5
    have hcut := cut_from (P := Tryd.prog) 45 5 .i64 Tryd.underlying45 hi08 1 hsz8 (some ad1) l1.length c1 1 (by omega) QL.out
    have hC := Kd.C_drop (m := (1 : Int).toNat) (c := c1) HR1.out (by have := QL.out; omega) HC1.out
    have hl : (l1.drop 1).length = l1.length - (1 : Int).toNat := by rw [List.length_drop]; rfl
    obtain ⟨A8, hA8⟩ : ∃ A1, A1 = (if c1 = (1 : Int).toNat then (some ad1) else ((some ad1) : Option Addr).map (·.add ((1 : Int).toNat * 1))) := ⟨_, rfl⟩
    rw [← hl, ← hA8] at hcut
    replace hC : Kd.C (Kd.int .u8) w A8 (l1.drop 1).length (l1.drop 1) := by rw [hA8]; exact hC
    have HC := aM hC
    have HL := aM hl
    have hcl := aM (show (l1.drop 1).length ≤ c1 - (1 : Int).toNat by rw [hl]; exact Nat.sub_le_sub_right HC1.out _)
    clear hC hl hA8 hi08 hsz8
    generalize hd : l1.drop 1 = l2 at *
    generalize hc : c1 - (1 : Int).toNat = c2 at *
    go_enter Tryd.func39, Tryd.ntmps39
    by_cases c4 : 0 < t.length
    ·rw [if_pos c4]
     have c4b : decide ((0 : Int) < (t.length : Int)) = true := decide_eq_true (by omega)
     have c4b2 := decide_eq_true c4
     clear c4
     go_wp2_with (first | (go_at_call 61; (with_reducible refine (bytes_Trim.calls _ (fun _ => True) _ l2 ⟨#[48]⟩ t w _ ?side1 ?side2 AT.out).mono ?_); (case side1 => repeat (first | exact HB.out | (with_reducible apply pw_below_drewN) | (with_reducible apply below_drew1))); (case side2 => (with_reducible repeat (first | apply Kd.V_drewN | apply Kd.V_drew)); exact V_of_C HC.out hcl.out); rintro e w9 ⟨v9, rfl, ho0, hb, hk⟩; obtain ⟨A9, c9, eo9⟩ := Kd.V_slice ho0; subst eo9; have HB' := aM hb; clear hb hk))
     go_ret
     exact ⟨rfl, by repeat (first | exact HB'.out | (with_reducible apply pw_below_drewN) | (with_reducible apply below_drew1))⟩
    ·rw [if_neg c4]
     have c4b : decide ((0 : Int) < (t.length : Int)) = false := decide_eq_false (by omega)
     have c4b2 := decide_eq_false c4
     clear c4
     go_wp2_with (first | (go_at_call 61; (with_reducible refine (bytes_Trim.calls _ (fun _ => True) _ l2 ⟨#[48]⟩ t w _ ?side1 ?side2 AT.out).mono ?_); (case side1 => repeat (first | exact HB.out | (with_reducible apply pw_below_drewN) | (with_reducible apply below_drew1))); (case side2 => (with_reducible repeat (first | apply Kd.V_drewN | apply Kd.V_drew)); exact V_of_C HC.out hcl.out); rintro e w9 ⟨v9, rfl, ho0, hb, hk⟩; obtain ⟨A9, c9, eo9⟩ := Kd.V_slice ho0; subst eo9; have HB' := aM hb; clear hb hk))
     go_ret
     exact ⟨rfl, by repeat (first | exact HB'.out | (with_reducible apply pw_below_drewN) | (with_reducible apply below_drew1))⟩
end Go.Proofs.YthjleohmlohgbaaDoor.PA
