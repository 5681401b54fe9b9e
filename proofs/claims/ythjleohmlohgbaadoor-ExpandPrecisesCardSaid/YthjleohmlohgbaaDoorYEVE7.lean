/- A part of the proof (7). -/
import Derived.Test.YthjleohmlohgbaaDoorYEVE2
namespace Go.Proofs.YthjleohmlohgbaaDoor.PA
open Go.RowKit Go.Proofs.YthjleohmlohgbaaDoorW.PrintWords Go.Proofs.YthjleohmlohgbaaDoorW.PrintLast Go.Proofs.YthjleohmlohgbaaDoorW.PrintMore
attribute [local go_sem] max2_int min2_int max_two min_two max_three min_three max_four min_four
set_option linter.unusedVariables false
set_option linter.unusedSimpArgs false
def plumbref06_fields.f (a0 : Int) : Option (Bool × Int × Int) := some (((a0 / 9223372036854775808) == 1), wrap64 (Go.bits .and .u64 (a0 / 4503599627370496) 2047), Go.bits .and .u64 a0 4503599627370495)
set_option maxHeartbeats 8000000 in
set_option maxRecDepth 100000 in
theorem plumbref06_fields.calls (a0 : Int) (r1 : Bool) (r2 : Int) (r3 : Int) (w : World) (h : plumbref06_fields.f a0 = some (r1, r2, r3)) :
  Calls Tryd.prog 64 #[.int .u64 a0] w fun e w' => e = .returned (.tuple #[.bool r1, .int .i64 r2, .int .u64 r3]) ∧ Drawn0 w w' := by
 have H := h
 clear h
 unfold plumbref06_fields.f at H
 simp only [Option.some.injEq, Prod.mk.injEq] at H
 obtain ⟨rfl, rfl, rfl⟩ := H
 go_enter Tryd.func64, Tryd.ntmps64
 go_wp2
 go_ret3
 exact ⟨dF, dD⟩
def plumbref06_Split.f (a0 : Int) : Option (Bool × Int × Int × Int) := (plumbref06_fields.f a0).bind fun bt310 => (if bt310.2.1 = 2047 then (some (false, 0, 0, 60)) else (if bt310.2.1 = 0 then (some (bt310.1, bt310.2.2, (-1074), 0)) else (some (bt310.1, IntKind.u64.wrap (4503599627370496 + bt310.2.2), wrap64 (bt310.2.1 - 1075), 0))))
set_option maxHeartbeats 8000000 in
set_option maxRecDepth 100000 in
theorem plumbref06_Split.calls (a0 : Int) (r1 : Bool) (r2 : Int) (r3 : Int) (r4 : Int) (w : World) (h : plumbref06_Split.f a0 = some (r1, r2, r3, r4)) :
  Calls Tryd.prog 43 #[.int .u64 a0] w fun e w' => e = .returned (.tuple #[.bool r1, .int .u64 r2, .int .i64 r3, .int .i64 r4]) ∧ Drawn0 w w' := by
 have H := h
 clear h
 unfold plumbref06_Split.f at H
 replace H := oA H
 obtain ⟨⟨t310, t311, t312⟩, A2, H⟩ := H
 (try dsimp only at H)
 by_cases c3 : t311 = 2047
 ·rw [if_pos c3] at H
  obtain ⟨c3b0, c3b1⟩ := bT c3
  clear c3
  simp only [Option.some.injEq, Prod.mk.injEq] at H
  obtain ⟨rfl, rfl, rfl, rfl⟩ := H
  go_enter Tryd.func43, Tryd.ntmps43
  go_wp2_with (first | ((with_reducible refine gate_callee (f := 64) rfl ?_); refine gL (some 11) Tryd.func64 #[.int .u64 a0] ?_; (with_reducible refine (plumbref06_fields.calls a0 t310 t311 t312 _ A2.out).mono ?_); rintro e w' ⟨rfl, ⟨nd, rfl⟩⟩; refine ⟨_, rfl, ?_⟩))
  refine bodyPost_ret (results_list (rs := [.tmp 2, .tmp 3, .tmp 4, .tmp 5]) rfl (by simp) (.tmp (.tmp (.tmp (.tmp .nil))))) rfl ?_
  exact ⟨dF, dD⟩
 ·rw [if_neg c3] at H
  obtain ⟨c3b0, c3b1⟩ := bF c3
  by_cases c4 : t311 = 0
  ·rw [if_pos c4] at H
   obtain ⟨c4b0, c4b1⟩ := bT c4
   clear c4
   simp only [Option.some.injEq, Prod.mk.injEq] at H
   obtain ⟨rfl, rfl, rfl, rfl⟩ := H
   go_enter Tryd.func43, Tryd.ntmps43
   go_wp2_with (first | ((with_reducible refine gate_callee (f := 64) rfl ?_); refine gL (some 11) Tryd.func64 #[.int .u64 a0] ?_; (with_reducible refine (plumbref06_fields.calls a0 t310 t311 t312 _ A2.out).mono ?_); rintro e w' ⟨rfl, ⟨nd, rfl⟩⟩; refine ⟨_, rfl, ?_⟩))
   refine bodyPost_ret (results_list (rs := [.tmp 2, .tmp 3, .tmp 4, .tmp 5]) rfl (by simp) (.tmp (.tmp (.tmp (.tmp .nil))))) rfl ?_
   exact ⟨dF, dD⟩
  ·rw [if_neg c4] at H
   obtain ⟨c4b0, c4b1⟩ := bF c4
   simp only [Option.some.injEq, Prod.mk.injEq] at H
   obtain ⟨rfl, rfl, rfl, rfl⟩ := H
   go_enter Tryd.func43, Tryd.ntmps43
   go_wp2_with (first | ((with_reducible refine gate_callee (f := 64) rfl ?_); refine gL (some 11) Tryd.func64 #[.int .u64 a0] ?_; (with_reducible refine (plumbref06_fields.calls a0 t310 t311 t312 _ A2.out).mono ?_); rintro e w' ⟨rfl, ⟨nd, rfl⟩⟩; refine ⟨_, rfl, ?_⟩))
   refine bodyPost_ret (results_list (rs := [.tmp 2, .tmp 3, .tmp 4, .tmp 5]) rfl (by simp) (.tmp (.tmp (.tmp (.tmp .nil))))) rfl ?_
   exact ⟨dF, dD⟩
mutual
def plumbref03_Norm.j1 : Nat → List Int → Int → Option (List Int)
 | 0, _, _ => none
 | k + 1, x0, x3 => plumbref03_Norm.l1 k x0 x3 ([] : List Int) 0
def plumbref03_Norm.l1 : Nat → List Int → Int → List Int → Int → Option (List Int)
 | 0, _, _, _, _ => none
 | k + 1, x0, x3, x4, x5 => if x5 < x3 then (if 0 ≤ x5 then (if x5 < (x0.length : Int) then (if x4.length < 17592186044416 then (plumbref03_Norm.l1 k x0 x3 (x4 ++ [rd x0 x5]) (wrap64 (x5 + 1))) else (none)) else (none)) else (none)) else (some x4)
def plumbref03_Norm.l0 : Nat → List Int → Int → Option (List Int)
 | 0, _, _ => none
 | k + 1, x0, x3 => if x3 > 0 then (if 0 ≤ (wrap64 (x3 - 1)) then (if (wrap64 (x3 - 1)) < (x0.length : Int) then (if (rd x0 (wrap64 (x3 - 1))) = 0 then (plumbref03_Norm.l0 k x0 (wrap64 (x3 - 1))) else (plumbref03_Norm.j1 k x0 x3)) else (none)) else (none)) else (plumbref03_Norm.j1 k x0 x3)
end
def plumbref03_Norm.f (k : Nat) (l0 : List Int) : Option (List Int) := plumbref03_Norm.l0 k l0 (l0.length : Int)
set_option maxHeartbeats 8000000 in
set_option maxRecDepth 100000 in
theorem plumbref03_Norm.calls (k : Nat) (A0 : Option Addr) (c0 : Nat) (l0 : List Int) (r : List Int) (w : World) (hr0 : Kd.C (Kd.int .u64) w A0 l0.length l0) (hc0 : l0.length ≤ c0) (h : plumbref03_Norm.f k l0 = some r) :
  Calls Tryd.prog 65 #[.slice A0 l0.length c0] w fun e w' => ∃ v0_ : Value, e = .returned (v0_) ∧ Kd.R (Kd.int .u64) 22 w' w.heap.size (fun _ => True) v0_ r ∧ Below w.heap.size w w' := by
 have HR0 := aM hr0
 have HC0 := aM hc0
 clear hr0 hc0
 have HB := aM (Below.refl w.heap.size w)
 have H := h
 clear h
 unfold plumbref03_Norm.f at H
 have HC2 := aM H
 clear H
 go_enter Tryd.func65, Tryd.ntmps65
 go_upto_block 0 with (fail)
 go_cut [3] (fun v3 wc => ∃ (kq : Nat) (x3_1 : Int), v3 = .int .i64 x3_1 ∧ Aside0 (plumbref03_Norm.j1 kq l0 x3_1 = some r) ∧ Aside0 (kq ≤ k) ∧ Aside0 (Below w.heap.size w wc))
 case first =>
  have H := HC2.out
  clear HC2
  have H' := aM H
  clear H
  go_wp2
  go_loopg [3] k (fun kq v3 w' => ∃ (x3_1 : Int), v3 = .int .i64 x3_1 ∧ Aside0 (plumbref03_Norm.l0 kq l0 x3_1 = some r) ∧ Aside0 (kq ≤ k) ∧ Aside0 (Below w.heap.size w w'))
  case atStart => exact ⟨((l0.length : Int)), dF, H', ⟨Nat.le_refl _⟩, ⟨dB⟩⟩
  case round =>
   clear H'
   obtain ⟨x3_1, rfl, HA, HK1, HB⟩ := hrel
   cases gk with
   | zero => exact absurd HA.out (by simp [plumbref03_Norm.l0])
   | succ k1 =>
    have H := HA.out
    clear HA
    simp only [plumbref03_Norm.l0] at H
    by_cases c3 : x3_1 > 0
    ·rw [if_pos c3] at H
     have c3b0 : decide (0 < x3_1) = true := decide_eq_true c3
     clear c3
     (first | rw [c3b0] | (simp only [i64_w, i32_w]; rw [c3b0]) | skip)
     obtain ⟨ji4, hji4⟩ : ∃ j_ : Int, (wrap64 (x3_1 - 1)) = j_ := ⟨_, rfl⟩
     first | rw [hji4] at H | simp only [hji4] at H
     have hji4w : (IntKind.i64.wrap (x3_1 - 1)) = ji4 := (i64_w _).trans hji4
     replace H := nO H
     obtain ⟨c5, H⟩ := H
     have c5b0 : decide (0 ≤ (ji4)) = true := decide_eq_true c5
     clear c5
     replace H := nO H
     obtain ⟨c6, H⟩ := H
     have c6b0 := decide_eq_true c6
     clear c6
     by_cases c7 : (rd l0 (ji4)) = 0
     ·rw [if_pos c7] at H
      obtain ⟨c7b0, c7b1⟩ := bT c7
      clear c7
      have H' := aM H
      clear H
      have p313 : 0 ≤ ((ji4) : Int) := of_decide_eq_true dS
      have q313 : (ji4) < (l0.length : Int) := of_decide_eq_true dS
      obtain ⟨ad313, e313, hx313_0⟩ := Kd.at_int HR0.out (ji4) p313 q313
      cases e313
      replace hx313_0 := (HB.out.cell (World.block_lt_of_cell? w _ hx313_0)).trans hx313_0
      replace p313 := eq_true p313
      replace q313 := eq_true q313
      go_wp2
      go_roundg k1
      case measure => have := HK1.out; omega
      case rel => exact ⟨(ji4), (by first | rfl | (simp; done) | (simp only [← hji4] <;> (first | rfl | simp)) | (simp [*]; done)), H', ⟨by have := HK1.out; omega⟩, ⟨dB⟩⟩
     ·rw [if_neg c7] at H
      obtain ⟨c7b0, c7b1⟩ := bF c7
      have H' := aM H
      clear H
      have p313 : 0 ≤ ((ji4) : Int) := of_decide_eq_true dS
      have q313 : (ji4) < (l0.length : Int) := of_decide_eq_true dS
      obtain ⟨ad313, e313, hx313_0⟩ := Kd.at_int HR0.out (ji4) p313 q313
      cases e313
      replace hx313_0 := (HB.out.cell (World.block_lt_of_cell? w _ hx313_0)).trans hx313_0
      replace p313 := eq_true p313
      replace q313 := eq_true q313
      go_wp2
      go_meet
      case rel => exact ⟨_, (x3_1), dF, H', ⟨by have := HK1.out; first | omega | exact Nat.le_refl _⟩, ⟨dB⟩⟩
    ·rw [if_neg c3] at H
     have c3b0 : decide (0 < x3_1) = false := decide_eq_false c3
     clear c3
     (first | rw [c3b0] | (simp only [i64_w, i32_w]; rw [c3b0]) | skip)
     have H' := aM H
     clear H
     go_wp2
     go_meet
     case rel => exact ⟨_, (x3_1), dF, H', ⟨by have := HK1.out; first | omega | exact Nat.le_refl _⟩, ⟨dB⟩⟩
 case rest =>
  clear HC2
  obtain ⟨kq, x3_1, rfl, HA, HJ1, HB⟩ := hcut
  cases kq with
  | zero => exact absurd HA.out (by simp [plumbref03_Norm.j1])
  | succ kj1 =>
   have H := HA.out
   clear HA
   simp only [plumbref03_Norm.j1] at H
   have H' := aM H
   clear H
   go_wp2
   go_loopg [4, 5] kj1 (fun kq v4 v5 w' => ∃ (x4_2 : List Int) (x5_2 : Int), v5 = .int .i64 x5_2 ∧ Aside0 (plumbref03_Norm.l1 kq l0 x3_1 x4_2 x5_2 = some r) ∧ Aside0 (kq ≤ kj1) ∧ Aside0 (Kd.R (Kd.int .u64) 22 w' w.heap.size (fun _ => True) v4 x4_2) ∧ Aside0 (Below w.heap.size w w'))
   case atStart => exact ⟨(([] : List Int)), (0), dF, H', ⟨Nat.le_refl _⟩, ⟨by first | exact Kd.R_nil _ _ _ _ _ | exact Kd.N_nil _ _ _ _ _ | exact Kd.V_nil _ _ _ _ _ | exact Kd.Q_nil _ _ _ _ _ | exact Kd.S_nil _ _ _ _ _⟩, ⟨dB⟩⟩
   case round =>
    clear H'
    obtain ⟨x4_2, x5_2, rfl, HA, HK2, HO_4, HB⟩ := hrel
    cases gk with
    | zero => exact absurd HA.out (by simp [plumbref03_Norm.l1])
    | succ k2 =>
     have H := HA.out
     clear HA
     simp only [plumbref03_Norm.l1] at H
     by_cases c8 : x5_2 < x3_1
     ·rw [if_pos c8] at H
      have c8b0 := decide_eq_true c8
      clear c8
      replace H := nO H
      obtain ⟨c9, H⟩ := H
      have c9b0 : decide (0 ≤ x5_2) = true := decide_eq_true c9
      clear c9
      replace H := nO H
      obtain ⟨c10, H⟩ := H
      have c10b0 := decide_eq_true c10
      clear c10
      replace H := nO H
      obtain ⟨c11, H⟩ := H
      have LMc11 := aM c11
      clear c11
      obtain ⟨y315, hy315⟩ : ∃ y_ : List Int, y_ = (x4_2 ++ [rd l0 x5_2]) := ⟨_, rfl⟩
      replace H : (plumbref03_Norm.l1 k2 l0 x3_1 y315 (wrap64 (x5_2 + 1))) = some r := by first | (rw [hy315]; with_reducible exact H) | (have H2_ := (Option.bind_some _ _).symm.trans H; rw [hy315]; with_reducible exact H2_) | (have H2_ := (Option.bind_some _ _).symm.trans H; with_reducible exact H2_) | with_reducible exact H | (rw [hy315]; exact H) | exact H
      have Ny315 := aM hy315
      clear hy315
      have H' := aM H
      clear H
      have p314 : 0 ≤ (x5_2 : Int) := of_decide_eq_true dS
      have q314 : x5_2 < (l0.length : Int) := of_decide_eq_true dS
      obtain ⟨ad314, e314, hx314_0⟩ := Kd.at_int HR0.out x5_2 p314 q314
      cases e314
      replace hx314_0 := (HB.out.cell (World.block_lt_of_cell? w _ hx314_0)).trans hx314_0
      replace p314 := eq_true p314
      replace q314 := eq_true q314
      go_wp2_with (first | ((with_reducible refine gate_builtin (b := .append) (xs := #[.tmp 25, .tmp 30]) rfl ?_); at_builtin; refine Kd.R_append (Kd.int .u64) (w0 := w) w.heap.size rfl (.tmp 25) (.tmp 30) 37 22 (.int .u64 0) 8 rfl Tryd.underlying37 info22 rfl (by decide) (by omega) u4 x4_2 (rd l0 x5_2) [.int .u64 (rd l0 x5_2)] (fun _ => True) (fun _ => False) rfl rfl ?aP (fun _ hk => hk.elim) ?aF ?aO ?aB ?aS ?aL ?_; (case aP => exact rfl); (case aB => exact dB); (case aF => exact (fun _ _ => trivial)); (case aO => exact (dR HO_4.out)); (case aS => exact (below_size dB)); (case aL => have := LMc11.out; omega); intro v316 w12 ho hb hg hat; rw [← Ny315.out] at ho; replace HB := aM (hb); have HO317 := aM (ho); clear HO_4; clear ho hb hg hat))
      go_roundg k2
      case measure => have := HJ1.out; have := HK2.out; omega
      case rel => exact ⟨(y315), (wrap64 (x5_2 + 1)), dF, H', ⟨by have := HJ1.out; have := HK2.out; omega⟩, ⟨dR HO317.out⟩, ⟨dB⟩⟩
     ·rw [if_neg c8] at H
      have c8b0 := decide_eq_false c8
      clear c8
      obtain rfl := Option.some.inj H
      go_wp2
      go_ret
      exact ⟨_, dE, dR HO_4.out, dB⟩
mutual
def plumbref03_Shl.l0 : Nat → List Int → Int → List Int → Int → Option (List Int)
 | 0, _, _, _, _ => none
 | k + 1, x0, x1, x5, x6 => if x6 < (wrap64 (Int.tdiv x1 64)) then (if x5.length < 17592186044416 then (plumbref03_Shl.l0 k x0 x1 (x5 ++ [0]) (wrap64 (x6 + 1))) else (none)) else (plumbref03_Shl.l1 k x0 x5 (Int.tmod x1 64) 0 0)
def plumbref03_Shl.l1 : Nat → List Int → List Int → Int → Int → Int → Option (List Int)
 | 0, _, _, _, _, _ => none
 | k + 1, x0, x5, x7, x8, x9 => if x9 < (x0.length : Int) then (if 0 ≤ x9 then (if 0 ≤ x7 then (if x5.length < 17592186044416 then ((some (x5 ++ [Go.bits .or .u64 (shl .u64 (rd x0 x9) x7) x8] : List Int)).bind fun y331 => (if x7 > 0 then (if 0 ≤ (wrap64 (64 - x7)) then (plumbref03_Shl.l1 k x0 y331 x7 (shr .u64 (rd x0 x9) (wrap64 (64 - x7))) (wrap64 (x9 + 1))) else (none)) else (plumbref03_Shl.l1 k x0 y331 x7 0 (wrap64 (x9 + 1))))) else (none)) else (none)) else (none)) else (if x5.length < 17592186044416 then ((plumbref03_Norm.f k (x5 ++ [x8])).bind fun t338 => (some t338)) else (none))
end
def plumbref03_Shl.f (k : Nat) (l0 : List Int) (a1 : Int) : Option (List Int) := plumbref03_Shl.l0 k l0 a1 ([] : List Int) 0
set_option maxHeartbeats 8000000 in
set_option maxRecDepth 100000 in
theorem plumbref03_Shl.calls (k : Nat) (A0 : Option Addr) (c0 : Nat) (l0 : List Int) (a1 : Int) (r : List Int) (w : World) (hr0 : Kd.C (Kd.int .u64) w A0 l0.length l0) (hc0 : l0.length ≤ c0) (h : plumbref03_Shl.f k l0 a1 = some r) :
  Calls Tryd.prog 44 #[.slice A0 l0.length c0, .int .i64 a1] w fun e w' => ∃ v0_ : Value, e = .returned (v0_) ∧ Kd.R (Kd.int .u64) 22 w' w.heap.size (fun _ => True) v0_ r ∧ Below w.heap.size w w' := by
 have HR0 := aM hr0
 have HC0 := aM hc0
 clear hr0 hc0
 have HB := aM (Below.refl w.heap.size w)
 have H := h
 clear h
 unfold plumbref03_Shl.f at H
 have H' := aM H
 clear H
 go_enter Tryd.func44, Tryd.ntmps44
 go_wp2
 go_loopg [5, 6] k (fun kq v5 v6 w' => ∃ (x5_1 : List Int) (x6_1 : Int), v6 = .int .i64 x6_1 ∧ Aside0 (plumbref03_Shl.l0 kq l0 a1 x5_1 x6_1 = some r) ∧ Aside0 (kq ≤ k) ∧ Aside0 (Kd.R (Kd.int .u64) 22 w' w.heap.size (fun _ => True) v5 x5_1) ∧ Aside0 (Below w.heap.size w w'))
 case atStart => exact ⟨(([] : List Int)), (0), dF, H', ⟨Nat.le_refl _⟩, ⟨by first | exact Kd.R_nil _ _ _ _ _ | exact Kd.N_nil _ _ _ _ _ | exact Kd.V_nil _ _ _ _ _ | exact Kd.Q_nil _ _ _ _ _ | exact Kd.S_nil _ _ _ _ _⟩, ⟨dB⟩⟩
 case round =>
  clear H'
  obtain ⟨x5_1, x6_1, rfl, HA, HK1, HO_5, HB⟩ := hrel
  cases gk with
  | zero => exact absurd HA.out (by simp [plumbref03_Shl.l0])
  | succ k1 =>
   have H := HA.out
   clear HA
   simp only [plumbref03_Shl.l0] at H
   by_cases c3 : x6_1 < (wrap64 (Int.tdiv a1 64))
   ·rw [if_pos c3] at H
    have c3b0 := decide_eq_true c3
    clear c3
    replace H := nO H
    obtain ⟨c4, H⟩ := H
    have LMc4 := aM c4
    clear c4
    obtain ⟨y327, hy327⟩ : ∃ y_ : List Int, y_ = (x5_1 ++ [0]) := ⟨_, rfl⟩
    replace H : (plumbref03_Shl.l0 k1 l0 a1 y327 (wrap64 (x6_1 + 1))) = some r := by first | (rw [hy327]; with_reducible exact H) | (have H2_ := (Option.bind_some _ _).symm.trans H; rw [hy327]; with_reducible exact H2_) | (have H2_ := (Option.bind_some _ _).symm.trans H; with_reducible exact H2_) | with_reducible exact H | (rw [hy327]; exact H) | exact H
    have Ny327 := aM hy327
    clear hy327
    have H' := aM H
    clear H
    go_wp2_with (first | ((with_reducible refine gate_builtin (b := .append) (xs := #[.tmp 16, .tmp 17]) rfl ?_); at_builtin; refine Kd.R_append (Kd.int .u64) (w0 := w) w.heap.size rfl (.tmp 16) (.tmp 17) 37 22 (.int .u64 0) 8 rfl Tryd.underlying37 info22 rfl (by decide) (by omega) u5 x5_1 0 [.int .u64 0] (fun _ => True) (fun _ => False) rfl rfl ?aP (fun _ hk => hk.elim) ?aF ?aO ?aB ?aS ?aL ?_; (case aP => exact rfl); (case aB => exact dB); (case aF => exact (fun _ _ => trivial)); (case aO => exact (dR HO_5.out)); (case aS => exact (below_size dB)); (case aL => have := LMc4.out; omega); intro v328 w5 ho hb hg hat; rw [← Ny327.out] at ho; replace HB := aM (hb); have HO329 := aM (ho); clear HO_5; clear ho hb hg hat))
    (try subst hji8)
    go_roundg k1
    case measure => have := HK1.out; omega
    case rel => exact ⟨(y327), (wrap64 (x6_1 + 1)), dF, H', ⟨by have := HK1.out; omega⟩, ⟨dR HO329.out⟩, ⟨dB⟩⟩
   ·rw [if_neg c3] at H
    have c3b0 := decide_eq_false c3
    clear c3
    have H' := aM H
    clear H
    go_wp2
    go_loopg [5, 8, 9] k1 (fun kq v5 v8 v9 w' => ∃ (x5_2 : List Int) (x8_2 : Int) (x9_2 : Int), v8 = .int .u64 x8_2 ∧ v9 = .int .i64 x9_2 ∧ Aside0 (plumbref03_Shl.l1 kq l0 x5_2 (Int.tmod a1 64) x8_2 x9_2 = some r) ∧ Aside0 (kq ≤ k1) ∧ Aside0 (Kd.R (Kd.int .u64) 22 w' w.heap.size (fun _ => True) v5 x5_2) ∧ Aside0 (Below w.heap.size w w'))
    case atStart => exact ⟨(x5_1), (0), (0), dF, dF, H', ⟨Nat.le_refl _⟩, ⟨dR HO_5.out⟩, ⟨dB⟩⟩
    case round =>
     clear H'
     try clear c3
     try clear c3b0
     obtain ⟨x5_2, x8_2, x9_2, rfl, rfl, HA, HK2, HO_5, HB⟩ := hrel
     cases gk with
     | zero => exact absurd HA.out (by simp [plumbref03_Shl.l1])
     | succ k2 =>
      have H := HA.out
      clear HA
      simp only [plumbref03_Shl.l1] at H
      by_cases c6 : x9_2 < (l0.length : Int)
      ·rw [if_pos c6] at H
       have c6b0 := decide_eq_true c6
       clear c6
       replace H := nO H
       obtain ⟨c7, H⟩ := H
       have c7b0 : decide (0 ≤ x9_2) = true := decide_eq_true c7
       clear c7
       obtain ⟨ji8, hji8⟩ : ∃ j_ : Int, (Int.tmod a1 64) = j_ := ⟨_, rfl⟩
       first | rw [hji8] at H | simp only [hji8] at H
       replace H := nO H
       obtain ⟨c9, H⟩ := H
       have c9b0 := eq_true c9
       have c9b1 : decide (0 ≤ (ji8)) = true := decide_eq_true c9
       clear c9
       obtain ⟨ji10, hji10⟩ : ∃ j_ : Int, (shl .u64 (rd l0 x9_2) (ji8)) = j_ := ⟨_, rfl⟩
       first | rw [hji10] at H | simp only [hji10] at H
       have hji10_ : (IntKind.u64.wrap ((rd l0 x9_2) * 2 ^ min (ji8).toNat 64)) = ji10 := hji10
       have hji10z : (ji8) ≤ 64 → (IntKind.u64.wrap ((rd l0 x9_2) * 2 ^ (ji8).toNat)) = ji10 := shl_small hji10
       replace H := nO H
       obtain ⟨c11, H⟩ := H
       have LMc11 := aM c11
       clear c11
       obtain ⟨y331, hy331⟩ : ∃ y_ : List Int, y_ = (x5_2 ++ [Go.bits .or .u64 (ji10) x8_2]) := ⟨_, rfl⟩
       replace H : (if (ji8) > 0 then (if 0 ≤ (wrap64 (64 - (ji8))) then (plumbref03_Shl.l1 k2 l0 y331 (ji8) (shr .u64 (rd l0 x9_2) (wrap64 (64 - (ji8)))) (wrap64 (x9_2 + 1))) else (none)) else (plumbref03_Shl.l1 k2 l0 y331 (ji8) 0 (wrap64 (x9_2 + 1)))) = some r := by first | (rw [hy331]; with_reducible exact H) | (have H2_ := (Option.bind_some _ _).symm.trans H; rw [hy331]; with_reducible exact H2_) | (have H2_ := (Option.bind_some _ _).symm.trans H; with_reducible exact H2_) | with_reducible exact H | (rw [hy331]; exact H) | exact H
       have Ny331 := aM hy331
       clear hy331
       by_cases c12 : (ji8) > 0
       ·rw [if_pos c12] at H
        have c12b0 : decide (0 < (ji8)) = true := decide_eq_true c12
        clear c12
        obtain ⟨ji13, hji13⟩ : ∃ j_ : Int, (wrap64 (64 - (ji8))) = j_ := ⟨_, rfl⟩
        first | rw [hji13] at H | simp only [hji13] at H
        have hji13w : (IntKind.i64.wrap (64 - (ji8))) = ji13 := (i64_w _).trans hji13
        replace H := nO H
        obtain ⟨c14, H⟩ := H
        have c14b0 := eq_true c14
        have c14b1 : decide (0 ≤ (ji13)) = true := decide_eq_true c14
        clear c14
        obtain ⟨ji15, hji15⟩ : ∃ j_ : Int, (shr .u64 (rd l0 x9_2) (ji13)) = j_ := ⟨_, rfl⟩
        first | rw [hji15] at H | simp only [hji15] at H
        have hji15_ : ((rd l0 x9_2) / 2 ^ min (ji13).toNat 64) = ji15 := hji15
        have hji15z : (ji13) ≤ 64 → ((rd l0 x9_2) / 2 ^ (ji13).toNat) = ji15 := shr_small hji15
        have H' := aM H
        clear H
        have p330 : 0 ≤ (x9_2 : Int) := of_decide_eq_true dS
        have q330 : x9_2 < (l0.length : Int) := of_decide_eq_true dS
        obtain ⟨ad330, e330, hx330_0⟩ := Kd.at_int HR0.out x9_2 p330 q330
        cases e330
        replace hx330_0 := (HB.out.cell (World.block_lt_of_cell? w _ hx330_0)).trans hx330_0
        replace p330 := eq_true p330
        replace q330 := eq_true q330
        go_wp2_with (first | ((with_reducible refine gate_builtin (b := .append) (xs := #[.tmp 27, .tmp 36]) rfl ?_); at_builtin; refine Kd.R_append (Kd.int .u64) (w0 := w) w.heap.size rfl (.tmp 27) (.tmp 36) 37 22 (.int .u64 0) 8 rfl Tryd.underlying37 info22 rfl (by decide) (by omega) u5 x5_2 (Go.bits .or .u64 (ji10) x8_2) [.int .u64 (Go.bits .or .u64 (ji10) x8_2)] (fun _ => True) (fun _ => False) rfl rfl ?aP (fun _ hk => hk.elim) ?aF ?aO ?aB ?aS ?aL ?_; (case aP => exact rfl); (case aB => exact dB); (case aF => exact (fun _ _ => trivial)); (case aO => exact (dR HO_5.out)); (case aS => exact (below_size dB)); (case aL => have := LMc11.out; omega); intro v332 w16 ho hb hg hat; rw [← Ny331.out] at ho; replace HB := aM (hb); have HO333 := aM (ho); clear HO_5; clear ho hb hg hat; have p334 : 0 ≤ (x9_2 : Int) := of_decide_eq_true dS; have q334 : x9_2 < (l0.length : Int) := of_decide_eq_true dS; obtain ⟨ad334, e334, hx334_0⟩ := Kd.at_int HR0.out x9_2 p334 q334; obtain rfl : ad330 = ad334 := (by injection e334); replace hx334_0 := (HB.out.cell (World.block_lt_of_cell? w _ hx334_0)).trans hx334_0; replace p334 := eq_true p334; replace q334 := eq_true q334))
        (try subst hji8)
        go_roundg k2
        case measure => have := HK1.out; have := HK2.out; omega
        case rel => exact ⟨(y331), (ji15), (wrap64 (x9_2 + 1)), (by first | rfl | (simp; done) | (simp only [← hji15] <;> (first | rfl | simp)) | (simp [*]; done)), dF, H', ⟨by have := HK1.out; have := HK2.out; omega⟩, ⟨dR HO333.out⟩, ⟨dB⟩⟩
       ·rw [if_neg c12] at H
        have c12b0 : decide (0 < (ji8)) = false := decide_eq_false c12
        clear c12
        have H' := aM H
        clear H
        have p330 : 0 ≤ (x9_2 : Int) := of_decide_eq_true dS
        have q330 : x9_2 < (l0.length : Int) := of_decide_eq_true dS
        obtain ⟨ad330, e330, hx330_0⟩ := Kd.at_int HR0.out x9_2 p330 q330
        cases e330
        replace hx330_0 := (HB.out.cell (World.block_lt_of_cell? w _ hx330_0)).trans hx330_0
        replace p330 := eq_true p330
        replace q330 := eq_true q330
        go_wp2_with (first | ((with_reducible refine gate_builtin (b := .append) (xs := #[.tmp 27, .tmp 36]) rfl ?_); at_builtin; refine Kd.R_append (Kd.int .u64) (w0 := w) w.heap.size rfl (.tmp 27) (.tmp 36) 37 22 (.int .u64 0) 8 rfl Tryd.underlying37 info22 rfl (by decide) (by omega) u5 x5_2 (Go.bits .or .u64 (ji10) x8_2) [.int .u64 (Go.bits .or .u64 (ji10) x8_2)] (fun _ => True) (fun _ => False) rfl rfl ?aP (fun _ hk => hk.elim) ?aF ?aO ?aB ?aS ?aL ?_; (case aP => exact rfl); (case aB => exact dB); (case aF => exact (fun _ _ => trivial)); (case aO => exact (dR HO_5.out)); (case aS => exact (below_size dB)); (case aL => have := LMc11.out; omega); intro v332 w17 ho hb hg hat; rw [← Ny331.out] at ho; replace HB := aM (hb); have HO333 := aM (ho); clear HO_5; clear ho hb hg hat))
        (try subst hji8)
        go_roundg k2
        case measure => have := HK1.out; have := HK2.out; omega
        case rel => exact ⟨(y331), (0), (wrap64 (x9_2 + 1)), dF, dF, H', ⟨by have := HK1.out; have := HK2.out; omega⟩, ⟨dR HO333.out⟩, ⟨dB⟩⟩
      ·rw [if_neg c6] at H
       have c6b0 := decide_eq_false c6
       clear c6
       replace H := nO H
       obtain ⟨c18, H⟩ := H
       have LMc18 := aM c18
       clear c18
       obtain ⟨y335, hy335⟩ : ∃ y_ : List Int, y_ = (x5_2 ++ [x8_2]) := ⟨_, rfl⟩
       replace H : ((plumbref03_Norm.f k2 y335).bind fun t338 => (some t338)) = some r := by first | (rw [hy335]; with_reducible exact H) | (have H2_ := (Option.bind_some _ _).symm.trans H; rw [hy335]; with_reducible exact H2_) | (have H2_ := (Option.bind_some _ _).symm.trans H; with_reducible exact H2_) | with_reducible exact H | (rw [hy335]; exact H) | exact H
       have Ny335 := aM hy335
       clear hy335
       replace H := oA H
       obtain ⟨t338, A19, H⟩ := H
       (try dsimp only at H)
       obtain rfl := Option.some.inj H
       go_wp2_with (first | ((with_reducible refine gate_builtin (b := .append) (xs := #[.tmp 47, .tmp 49]) rfl ?_); at_builtin; refine Kd.R_append (Kd.int .u64) (w0 := w) w.heap.size rfl (.tmp 47) (.tmp 49) 37 22 (.int .u64 0) 8 rfl Tryd.underlying37 info22 rfl (by decide) (by omega) u5 x5_2 x8_2 [.int .u64 x8_2] (fun _ => True) (fun _ => False) rfl rfl ?aP (fun _ hk => hk.elim) ?aF ?aO ?aB ?aS ?aL ?_; (case aP => exact rfl); (case aB => exact dB); (case aF => exact (fun _ _ => trivial)); (case aO => exact (dR HO_5.out)); (case aS => exact (below_size dB)); (case aL => have := LMc18.out; omega); intro v336 w20 ho hb hg hat; rw [← Ny335.out] at ho; replace HB := aM (hb); have HO337 := aM (ho); clear HO_5; clear ho hb hg hat; obtain ⟨Ao21, co21, rfl⟩ := Kd.R_slice HO337.out) | ((with_reducible refine gate_callee (f := 65) rfl ?_); refine gL (some 51) Tryd.func65 #[.slice Ao21 y335.length co21] ?_; (with_reducible refine (plumbref03_Norm.calls k2 _ _ y335 t338 _ ?side1 (Kd.R_reads' HO337.out).2.1 A19.out).mono ?_); (case side1 => exact dC (Kd.R_reads' HO337.out).2.2); rintro e w22 ⟨v339, rfl, ho0, hb⟩; refine ⟨_, rfl, ?_⟩; have HO340 := aM (Kd.R_lower (nW ho0 HO337.out) (below_size dB)); replace HO337 := oE HO337.out ho0 hb; replace HB := hS HB.out hb; (try clear hb); (try clear ho0)))
       go_ret
       exact ⟨_, dE, oM HO340.out (fun _ hk => trivial), dB⟩
mutual
def plumbref03_Mul.l0 : Nat → List Int → List Int → List Int → Int → Option (List Int)
 | 0, _, _, _, _ => none
 | k + 1, x0, x1, x5, x6 => if x6 < (wrap64 (2 * (x0.length : Int))) then (if 0 ≤ (wrap64 (Int.tdiv x6 2)) then (if (wrap64 (Int.tdiv x6 2)) < (x0.length : Int) then (if 0 ≤ (wrap64 (32 * (Int.tmod x6 2))) then (plumbref03_Mul.l1 k x0 x1 x5 x6 (Go.bits .and .u64 (shr .u64 (rd x0 (wrap64 (Int.tdiv x6 2))) (wrap64 (32 * (Int.tmod x6 2)))) 4294967295) 0 0) else (none)) else (none)) else (none)) else (plumbref03_Mul.l2 k x5 ([] : List Int) 0)
def plumbref03_Mul.l1 : Nat → List Int → List Int → List Int → Int → Int → Int → Int → Option (List Int)
 | 0, _, _, _, _, _, _, _ => none
 | k + 1, x0, x1, x5, x6, x7, x8, x9 => if x9 < (wrap64 (2 * (x1.length : Int))) then (if 0 ≤ (wrap64 (Int.tdiv x9 2)) then (if (wrap64 (Int.tdiv x9 2)) < (x1.length : Int) then (if 0 ≤ (wrap64 (32 * (Int.tmod x9 2))) then (if 0 ≤ (wrap64 (x6 + x9)) then (if (wrap64 (x6 + x9)) < (x5.length : Int) then (plumbref03_Mul.l1 k x0 x1 (x5.set ((wrap64 (x6 + x9)) : Int).toNat (Go.bits .and .u64 (IntKind.u64.wrap ((IntKind.u64.wrap ((IntKind.u64.wrap (x7 * (Go.bits .and .u64 (shr .u64 (rd x1 (wrap64 (Int.tdiv x9 2))) (wrap64 (32 * (Int.tmod x9 2)))) 4294967295))) + (rd x5 (wrap64 (x6 + x9))))) + x8)) 4294967295)) x6 x7 ((IntKind.u64.wrap ((IntKind.u64.wrap ((IntKind.u64.wrap (x7 * (Go.bits .and .u64 (shr .u64 (rd x1 (wrap64 (Int.tdiv x9 2))) (wrap64 (32 * (Int.tmod x9 2)))) 4294967295))) + (rd x5 (wrap64 (x6 + x9))))) + x8)) / 4294967296) (wrap64 (x9 + 1))) else (none)) else (none)) else (none)) else (none)) else (none)) else (if 0 ≤ (wrap64 (x6 + (wrap64 (2 * (x1.length : Int))))) then (if (wrap64 (x6 + (wrap64 (2 * (x1.length : Int))))) < (x5.length : Int) then (plumbref03_Mul.l0 k x0 x1 (x5.set ((wrap64 (x6 + (wrap64 (2 * (x1.length : Int))))) : Int).toNat (IntKind.u64.wrap ((rd x5 (wrap64 (x6 + (wrap64 (2 * (x1.length : Int)))))) + x8))) (wrap64 (x6 + 1))) else (none)) else (none))
def plumbref03_Mul.l2 : Nat → List Int → List Int → Int → Option (List Int)
 | 0, _, _, _ => none
 | k + 1, x5, x12, x13 => if (wrap64 (x13 + 1)) < (x5.length : Int) then (if 0 ≤ x13 then (if x13 < (x5.length : Int) then (if 0 ≤ (wrap64 (x13 + 1)) then (if x12.length < 17592186044416 then (plumbref03_Mul.l2 k x5 (x12 ++ [Go.bits .or .u64 (rd x5 x13) (IntKind.u64.wrap ((rd x5 (wrap64 (x13 + 1))) * 4294967296))]) (wrap64 (x13 + 2))) else (none)) else (none)) else (none)) else (none)) else ((plumbref03_Norm.f k x12).bind fun t332 => (some t332))
end
def plumbref03_Mul.f (k : Nat) (l0 : List Int) (l1 : List Int) : Option (List Int) := if 0 ≤ (wrap64 ((wrap64 (2 * (wrap64 ((l0.length : Int) + (l1.length : Int))))) + 1)) then (if (wrap64 ((wrap64 (2 * (wrap64 ((l0.length : Int) + (l1.length : Int))))) + 1) : Int).toNat ≤ 35184372088832 then (plumbref03_Mul.l0 k l0 l1 (List.replicate (wrap64 ((wrap64 (2 * (wrap64 ((l0.length : Int) + (l1.length : Int))))) + 1) : Int).toNat 0) 0) else (none)) else (none)
def plumbref03_Mul.T19 : Bool × List (List Nat × List Nat) := (true, [([], []), ([], []), ([], []), ([1, 2], [1, 2]), ([3], [3]), ([], []), ([], []), ([6], [6]), ([5, 7], [5, 7]), ([8], [8]), ([9], [9]), ([4, 10], [4, 10]), ([11], [11]), ([0, 12], [0, 12]), ([13, 13, 0, 1, 2, 3, 4, 5, 6, 7, 8, 9, 10, 11, 12, 13], [0, 13])])
def plumbref03_Mul.B19 : List Nat := [0, 0, 0, 6, 14, 0, 0, 64, 224, 480, 992, 2046, 4094, 8191, 16383]
theorem plumbref03_Mul.tab19 : rtab .any (opsOf Tryd.f45 19) = plumbref03_Mul.T19 := by kernel_rfl
theorem plumbref03_Mul.bits19 : waitsOk plumbref03_Mul.T19.2 plumbref03_Mul.B19 = true := by kernel_rfl
set_option maxHeartbeats 8000000 in
set_option maxRecDepth 100000 in
theorem plumbref03_Mul.calls (k : Nat) (A0 : Option Addr) (c0 : Nat) (l0 : List Int) (A1 : Option Addr) (c1 : Nat) (l1 : List Int) (r : List Int) (w : World) (hr0 : Kd.C (Kd.int .u64) w A0 l0.length l0) (hc0 : l0.length ≤ c0) (hr1 : Kd.C (Kd.int .u64) w A1 l1.length l1) (hc1 : l1.length ≤ c1) (h : plumbref03_Mul.f k l0 l1 = some r) :
  Calls Tryd.prog 45 #[.slice A0 l0.length c0, .slice A1 l1.length c1] w fun e w' => ∃ v0_ : Value, e = .returned (v0_) ∧ Kd.R (Kd.int .u64) 22 w' w.heap.size (fun _ => True) v0_ r ∧ Below w.heap.size w w' := by
 have HR0 := aM hr0
 have HC0 := aM hc0
 clear hr0 hc0
 have HR1 := aM hr1
 have HC1 := aM hc1
 clear hr1 hc1
 have HB := aM (Below.refl w.heap.size w)
 have H := h
 clear h
 unfold plumbref03_Mul.f at H
 obtain ⟨ji3, hji3⟩ : ∃ j_ : Int, (wrap64 ((wrap64 (2 * (wrap64 ((l0.length : Int) + (l1.length : Int))))) + 1)) = j_ := ⟨_, rfl⟩
 first | rw [hji3] at H | simp only [hji3] at H
 have hji3w : (IntKind.i64.wrap ((wrap64 (2 * (wrap64 ((l0.length : Int) + (l1.length : Int))))) + 1)) = ji3 := (i64_w _).trans hji3
 replace H := nO H
 obtain ⟨c4, H⟩ := H
 have c4b0 := eq_true c4
 have c4b1 : decide (0 ≤ (ji3)) = true := decide_eq_true c4
 clear c4
 replace H := nO H
 obtain ⟨c5, H⟩ := H
 have c5b0 := eq_true c5
 have c5b1 := decide_eq_true c5
 clear c5
 obtain ⟨y318, hy318⟩ : ∃ y_ : List Int, y_ = (List.replicate (ji3 : Int).toNat 0) := ⟨_, rfl⟩
 replace H : (plumbref03_Mul.l0 k l0 l1 y318 0) = some r := by first | (rw [hy318]; with_reducible exact H) | (have H2_ := (Option.bind_some _ _).symm.trans H; rw [hy318]; with_reducible exact H2_) | (have H2_ := (Option.bind_some _ _).symm.trans H; with_reducible exact H2_) | with_reducible exact H | (rw [hy318]; exact H) | exact H
 have Ny318 := aM hy318
 clear hy318
 have H' := aM H
 clear H
 go_enter Tryd.func45, Tryd.ntmps45
 go_wp2_with (first | ((with_reducible refine gate_dst (N := 21) rfl ?_); refine Kd.R_make (Kd.int .u64) _ 22 rfl (N := 21) rfl 37 _ _ rfl ji3 rfl rfl Tryd.underlying37 (.int .u64 0) 8 info22 rfl (by decide) (by omega) 0 (ok := fun _ => True) (okp := fun _ => True) rfl (fun _ hk => hk) trivial (of_decide_eq_true dS) (Nat.le_trans (Nat.mul_le_mul_right _ (of_decide_eq_true dS : ji3.toNat ≤ 35184372088832)) (by omega)) (Below.refl _ _) (Nat.le_refl _) ?_; intro v319 w6 ho7 hb hg_ hnew_; clear hg_ hnew_; (first | rw [← Ny318.out] at ho7 | (simp only [Int.reduceToNat] at ho7; rw [← Ny318.out] at ho7)); have HO320 := aM (Kd.R_lower ho7 (below_size dB)); replace HB := hS HB.out hb; clear hb ho7))
 go_loopg [6] k (fun kq v6 w' => ∃ (x5_1 : List Int) (x6_1 : Int), v6 = .int .i64 x6_1 ∧ Aside0 (plumbref03_Mul.l0 kq l0 l1 x5_1 x6_1 = some r) ∧ Aside0 (kq ≤ k) ∧ Aside0 (Kd.R (Kd.int .u64) 22 w' w.heap.size (fun _ => True) v319 x5_1) ∧ Aside0 (Below w.heap.size w w'))
 case atStart => exact ⟨(y318), (0), dF, H', ⟨Nat.le_refl _⟩, ⟨dR HO320.out⟩, ⟨dB⟩⟩
 case round =>
  clear H'
  try clear c1
  try clear c4
  try clear c4b0 c4b1
  try clear c5
  try clear c5b0 c5b1
  obtain ⟨x5_1, x6_1, rfl, HA, HK1, HO_5, HB⟩ := hrel
  cases gk with
  | zero => exact absurd HA.out (by simp [plumbref03_Mul.l0])
  | succ k1 =>
   have H := HA.out
   clear HA
   simp only [plumbref03_Mul.l0] at H
   by_cases c8 : x6_1 < (wrap64 (2 * (l0.length : Int)))
   ·rw [if_pos c8] at H
    have c8b0 := decide_eq_true c8
    clear c8
    obtain ⟨ji9, hji9⟩ : ∃ j_ : Int, (wrap64 (Int.tdiv x6_1 2)) = j_ := ⟨_, rfl⟩
    first | rw [hji9] at H | simp only [hji9] at H
    have hji9w : (IntKind.i64.wrap (Int.tdiv x6_1 2)) = ji9 := (i64_w _).trans hji9
    replace H := nO H
    obtain ⟨c10, H⟩ := H
    have c10b0 : decide (0 ≤ (ji9)) = true := decide_eq_true c10
    clear c10
    replace H := nO H
    obtain ⟨c11, H⟩ := H
    have c11b0 := decide_eq_true c11
    clear c11
    obtain ⟨ji12, hji12⟩ : ∃ j_ : Int, (wrap64 (32 * (Int.tmod x6_1 2))) = j_ := ⟨_, rfl⟩
    first | rw [hji12] at H | simp only [hji12] at H
    have hji12w : (IntKind.i64.wrap (32 * (Int.tmod x6_1 2))) = ji12 := (i64_w _).trans hji12
    replace H := nO H
    obtain ⟨c13, H⟩ := H
    have c13b0 := eq_true c13
    have c13b1 : decide (0 ≤ (ji12)) = true := decide_eq_true c13
    clear c13
    obtain ⟨ji14, hji14⟩ : ∃ j_ : Int, (shr .u64 (rd l0 (ji9)) (ji12)) = j_ := ⟨_, rfl⟩
    first | rw [hji14] at H | simp only [hji14] at H
    have hji14_ : ((rd l0 (ji9)) / 2 ^ min (ji12).toNat 64) = ji14 := hji14
    have hji14z : (ji12) ≤ 64 → ((rd l0 (ji9)) / 2 ^ (ji12).toNat) = ji14 := shr_small hji14
    have H' := aM H
    clear H
    have p321 : 0 ≤ ((ji9) : Int) := of_decide_eq_true dS
    have q321 : (ji9) < (l0.length : Int) := of_decide_eq_true dS
    obtain ⟨ad321, e321, hx321_0⟩ := Kd.at_int HR0.out (ji9) p321 q321
    cases e321
    replace hx321_0 := (HB.out.cell (World.block_lt_of_cell? w _ hx321_0)).trans hx321_0
    replace p321 := eq_true p321
    replace q321 := eq_true q321
    go_wp2
    go_loopg [8, 9] k1 (fun kq v8 v9 w' => ∃ (x5_2 : List Int) (x8_2 : Int) (x9_2 : Int), v8 = .int .u64 x8_2 ∧ v9 = .int .i64 x9_2 ∧ Aside0 (plumbref03_Mul.l1 kq l0 l1 x5_2 x6_1 (Go.bits .and .u64 (ji14) 4294967295) x8_2 x9_2 = some r) ∧ Aside0 (kq ≤ k1) ∧ Aside0 (Kd.R (Kd.int .u64) 22 w' w.heap.size (fun _ => True) v319 x5_2) ∧ Aside0 (Below w.heap.size w w'))
    case atStart => exact ⟨(x5_1), (0), (0), dF, dF, H', ⟨Nat.le_refl _⟩, ⟨dR HO_5.out⟩, ⟨dB⟩⟩
    case round =>
     clear H'
     try clear c1
     try clear c4
     try clear c4b0 c4b1
     try clear c5
     try clear c5b0 c5b1
     try clear c8
     try clear c8b0
     try clear c10
     try clear c10b0
     try clear c11
     try clear c11b0
     try clear c13
     try clear c13b0 c13b1
     try clear hx321_0
     try clear p321
     try clear q321
     obtain ⟨x5_2, x8_2, x9_2, rfl, rfl, HA, HK2, HO_5, HB⟩ := hrel
     cases gk with
     | zero => exact absurd HA.out (by simp [plumbref03_Mul.l1])
     | succ k2 =>
      have H := HA.out
      clear HA
      simp only [plumbref03_Mul.l1] at H
      by_cases c15 : x9_2 < (wrap64 (2 * (l1.length : Int)))
      ·rw [if_pos c15] at H
       have c15b0 := decide_eq_true c15
       clear c15
       obtain ⟨ji16, hji16⟩ : ∃ j_ : Int, (wrap64 (Int.tdiv x9_2 2)) = j_ := ⟨_, rfl⟩
       first | rw [hji16] at H | simp only [hji16] at H
       have hji16w : (IntKind.i64.wrap (Int.tdiv x9_2 2)) = ji16 := (i64_w _).trans hji16
       replace H := nO H
       obtain ⟨c17, H⟩ := H
       have c17b0 : decide (0 ≤ (ji16)) = true := decide_eq_true c17
       clear c17
       replace H := nO H
       obtain ⟨c18, H⟩ := H
       have c18b0 := decide_eq_true c18
       clear c18
       obtain ⟨ji19, hji19⟩ : ∃ j_ : Int, (wrap64 (32 * (Int.tmod x9_2 2))) = j_ := ⟨_, rfl⟩
       first | rw [hji19] at H | simp only [hji19] at H
       have hji19w : (IntKind.i64.wrap (32 * (Int.tmod x9_2 2))) = ji19 := (i64_w _).trans hji19
       replace H := nO H
       obtain ⟨c20, H⟩ := H
       have c20b0 := eq_true c20
       have c20b1 : decide (0 ≤ (ji19)) = true := decide_eq_true c20
       clear c20
       obtain ⟨ji21, hji21⟩ : ∃ j_ : Int, (shr .u64 (rd l1 (ji16)) (ji19)) = j_ := ⟨_, rfl⟩
       first | rw [hji21] at H | simp only [hji21] at H
       have hji21_ : ((rd l1 (ji16)) / 2 ^ min (ji19).toNat 64) = ji21 := hji21
       have hji21z : (ji19) ≤ 64 → ((rd l1 (ji16)) / 2 ^ (ji19).toNat) = ji21 := shr_small hji21
       obtain ⟨ji22, hji22⟩ : ∃ j_ : Int, (wrap64 (x6_1 + x9_2)) = j_ := ⟨_, rfl⟩
       first | rw [hji22] at H | simp only [hji22] at H
       have hji22w : (IntKind.i64.wrap (x6_1 + x9_2)) = ji22 := (i64_w _).trans hji22
       replace H := nO H
       obtain ⟨c23, H⟩ := H
       have c23b0 : decide (0 ≤ (ji22)) = true := decide_eq_true c23
       clear c23
       replace H := nO H
       obtain ⟨c24, H⟩ := H
       have c24b0 := decide_eq_true c24
       clear c24
       obtain ⟨y324, hy324⟩ : ∃ y_ : List Int, y_ = (x5_2.set ((ji22) : Int).toNat (Go.bits .and .u64 (IntKind.u64.wrap ((IntKind.u64.wrap ((IntKind.u64.wrap ((Go.bits .and .u64 (ji14) 4294967295) * (Go.bits .and .u64 (ji21) 4294967295))) + (rd x5_2 (ji22)))) + x8_2)) 4294967295)) := ⟨_, rfl⟩
       replace H : (plumbref03_Mul.l1 k2 l0 l1 y324 x6_1 (Go.bits .and .u64 (ji14) 4294967295) ((IntKind.u64.wrap ((IntKind.u64.wrap ((IntKind.u64.wrap ((Go.bits .and .u64 (ji14) 4294967295) * (Go.bits .and .u64 (ji21) 4294967295))) + (rd x5_2 (ji22)))) + x8_2)) / 4294967296) (wrap64 (x9_2 + 1))) = some r := by first | (rw [hy324]; with_reducible exact H) | (have H2_ := (Option.bind_some _ _).symm.trans H; rw [hy324]; with_reducible exact H2_) | (have H2_ := (Option.bind_some _ _).symm.trans H; with_reducible exact H2_) | with_reducible exact H | (rw [hy324]; exact H) | exact H
       have Ny324 := aM hy324
       clear hy324
       have H' := aM H
       clear H
       have p322 : 0 ≤ ((ji16) : Int) := of_decide_eq_true dS
       have q322 : (ji16) < (l1.length : Int) := of_decide_eq_true dS
       obtain ⟨ad322, e322, hx322_0⟩ := Kd.at_int HR1.out (ji16) p322 q322
       cases e322
       replace hx322_0 := (HB.out.cell (World.block_lt_of_cell? w _ hx322_0)).trans hx322_0
       replace p322 := eq_true p322
       replace q322 := eq_true q322
       obtain ⟨Ao26, co26, rfl⟩ := Kd.R_slice HO_5.out
       have p323 : 0 ≤ ((ji22) : Int) := of_decide_eq_true dS
       have q323 : (ji22) < (x5_2.length : Int) := of_decide_eq_true dS
       obtain ⟨ad323, e323, hx323_0⟩ := Kd.at_int (Kd.R_reads' HO_5.out).2.2 (ji22) p323 q323
       cases e323
       replace p323 := eq_true p323
       replace q323 := eq_true q323
       have p25 : 0 ≤ ((ji22) : Int) := of_decide_eq_true dS
       have q25 : ((ji22) : Int) < ((x5_2.length : Int) : Int) := of_decide_eq_true dS
       obtain ⟨go25, co25, eo25, gb25, gl25, cl25, HG25⟩ := Kd.R_form HO_5.out (by omega)
       (first | cases eo25 | (injection eo25 with ea_ en_ ec_; (first | subst ea_ | (injection ea_ with ea_; subst ea_)); subst ec_; clear en_))
       have GB25 := aM gb25
       have GG25 := aM HG25
       clear gb25 gl25 HG25
       (first | simp only [add_plain] at hx323_0 | skip)
       obtain ⟨hx25_0, hf25_0⟩ := Kd.R_celln 0 HO_5.out ((ji22) : Int) p25 q25
       replace p25 := eq_true p25
       replace q25 := eq_true q25
       have HP27 := Kd.R_putg HO_5.out ((ji22) : Int) (Go.bits .and .u64 (IntKind.u64.wrap ((IntKind.u64.wrap ((IntKind.u64.wrap ((Go.bits .and .u64 (ji14) 4294967295) * (Go.bits .and .u64 (ji21) 4294967295))) + (rd x5_2 (ji22)))) + x8_2)) 4294967295)
       go_wp2_with (first | ((with_reducible refine gate_store (t := 22) (p := 74) rfl ?_); refine store_event (t := 22) (p := 74) (v := ?vo_w28) (w1 := (wr.setCell ⟨go25, ((ji22) : Int).toNat, none⟩ (.int .u64 (Go.bits .and .u64 (IntKind.u64.wrap ((IntKind.u64.wrap ((IntKind.u64.wrap ((Go.bits .and .u64 (ji14) 4294967295) * (Go.bits .and .u64 (ji21) 4294967295))) + (rd x5_2 (ji22)))) + x8_2)) 4294967295)))) ?hg ?ho ?hn ?hr ?_; (case ho => rfl); (case hg => rfl); (case hn => rfl); (case hr => first | (go_simp; done) | (go_simp; rfl)); intro w28 hw; have hg : wr.grownBy w28 (some go25) := (by rw [hw]; exact HP27.2); have hp_ : Kd.R (Kd.int .u64) 22 w28 w.heap.size (fun _ => True) (.slice (some ⟨go25, 0, none⟩) x5_2.length co26) y324 := (by rw [hw, Ny324.out]; exact HP27.1); clear HP27; replace HO_5 := aM (hp_); replace HB := aM ((by rw [hw]; exact below_set (HB.out) GB25.out : Below w.heap.size w w28)); clear hg hw hp_))
       go_roundg k2
       case measure => have := HK1.out; have := HK2.out; omega
       case rel => exact ⟨(y324), ((IntKind.u64.wrap ((IntKind.u64.wrap ((IntKind.u64.wrap ((Go.bits .and .u64 (ji14) 4294967295) * (Go.bits .and .u64 (ji21) 4294967295))) + (rd x5_2 (ji22)))) + x8_2)) / 4294967296), (wrap64 (x9_2 + 1)), (by first | rfl | (simp; done) | (simp only [← hji14, ← hji21, ← hji22] <;> (first | rfl | simp)) | (simp [*]; done)), dF, H', ⟨by have := HK1.out; have := HK2.out; omega⟩, ⟨dR HO_5.out⟩, ⟨dB⟩⟩
      ·rw [if_neg c15] at H
       have c15b0 := decide_eq_false c15
       clear c15
       obtain ⟨ji29, hji29⟩ : ∃ j_ : Int, (wrap64 (x6_1 + (wrap64 (2 * (l1.length : Int))))) = j_ := ⟨_, rfl⟩
       first | rw [hji29] at H | simp only [hji29] at H
       have hji29w : (IntKind.i64.wrap (x6_1 + (wrap64 (2 * (l1.length : Int))))) = ji29 := (i64_w _).trans hji29
       replace H := nO H
       obtain ⟨c30, H⟩ := H
       have c30b0 : decide (0 ≤ (ji29)) = true := decide_eq_true c30
       clear c30
       replace H := nO H
       obtain ⟨c31, H⟩ := H
       have c31b0 := decide_eq_true c31
       clear c31
       obtain ⟨y326, hy326⟩ : ∃ y_ : List Int, y_ = (x5_2.set ((ji29) : Int).toNat (IntKind.u64.wrap ((rd x5_2 (ji29)) + x8_2))) := ⟨_, rfl⟩
       replace H : (plumbref03_Mul.l0 k2 l0 l1 y326 (wrap64 (x6_1 + 1))) = some r := by first | (rw [hy326]; with_reducible exact H) | (have H2_ := (Option.bind_some _ _).symm.trans H; rw [hy326]; with_reducible exact H2_) | (have H2_ := (Option.bind_some _ _).symm.trans H; with_reducible exact H2_) | with_reducible exact H | (rw [hy326]; exact H) | exact H
       have Ny326 := aM hy326
       clear hy326
       have H' := aM H
       clear H
       obtain ⟨Ao33, co33, rfl⟩ := Kd.R_slice HO_5.out
       have p325 : 0 ≤ ((ji29) : Int) := of_decide_eq_true dS
       have q325 : (ji29) < (x5_2.length : Int) := of_decide_eq_true dS
       obtain ⟨ad325, e325, hx325_0⟩ := Kd.at_int (Kd.R_reads' HO_5.out).2.2 (ji29) p325 q325
       cases e325
       replace p325 := eq_true p325
       replace q325 := eq_true q325
       have p32 : 0 ≤ ((ji29) : Int) := of_decide_eq_true dS
       have q32 : ((ji29) : Int) < ((x5_2.length : Int) : Int) := of_decide_eq_true dS
       obtain ⟨go32, co32, eo32, gb32, gl32, cl32, HG32⟩ := Kd.R_form HO_5.out (by omega)
       (first | cases eo32 | (injection eo32 with ea_ en_ ec_; (first | subst ea_ | (injection ea_ with ea_; subst ea_)); subst ec_; clear en_))
       have GB32 := aM gb32
       have GG32 := aM HG32
       clear gb32 gl32 HG32
       (first | simp only [add_plain] at hx325_0 | skip)
       obtain ⟨hx32_0, hf32_0⟩ := Kd.R_celln 0 HO_5.out ((ji29) : Int) p32 q32
       replace p32 := eq_true p32
       replace q32 := eq_true q32
       have HP34 := Kd.R_putg HO_5.out ((ji29) : Int) (IntKind.u64.wrap ((rd x5_2 (ji29)) + x8_2))
       go_wp2_with (first | ((with_reducible refine gate_store (t := 22) (p := 93) rfl ?_); refine store_event (t := 22) (p := 93) (v := ?vo_w35) (w1 := (wr.setCell ⟨go32, ((ji29) : Int).toNat, none⟩ (.int .u64 (IntKind.u64.wrap ((rd x5_2 (ji29)) + x8_2))))) ?hg ?ho ?hn ?hr ?_; (case ho => rfl); (case hg => rfl); (case hn => rfl); (case hr => first | (go_simp; done) | (go_simp; rfl)); intro w35 hw; have hg : wr.grownBy w35 (some go32) := (by rw [hw]; exact HP34.2); have hp_ : Kd.R (Kd.int .u64) 22 w35 w.heap.size (fun _ => True) (.slice (some ⟨go32, 0, none⟩) x5_2.length co33) y326 := (by rw [hw, Ny326.out]; exact HP34.1); clear HP34; replace HO_5 := aM (hp_); replace HB := aM ((by rw [hw]; exact below_set (HB.out) GB32.out : Below w.heap.size w w35)); clear hg hw hp_))
       go_roundg k2
       case measure => have := HK1.out; have := HK2.out; omega
       case rel => exact ⟨(y326), (wrap64 (x6_1 + 1)), dF, H', ⟨by have := HK1.out; have := HK2.out; omega⟩, ⟨dR HO_5.out⟩, ⟨dB⟩⟩
   ·rw [if_neg c8] at H
    have c8b0 := decide_eq_false c8
    clear c8
    have H' := aM H
    clear H
    go_wp2
    go_loopg [12, 13] k1 (fun kq v12 v13 w' => ∃ (x12_2 : List Int) (x13_2 : Int), v13 = .int .i64 x13_2 ∧ Aside0 (plumbref03_Mul.l2 kq x5_1 x12_2 x13_2 = some r) ∧ Aside0 (kq ≤ k1) ∧ Aside0 (Kd.R (Kd.int .u64) 22 w' w.heap.size (fun k_ => some k_ ≠ (v12 : Value).ownBlock) v319 x5_1) ∧ Aside0 (Kd.R (Kd.int .u64) 22 w' w.heap.size (fun k_ => some k_ ≠ (v319 : Value).ownBlock) v12 x12_2) ∧ Aside0 (Below w.heap.size w w'))
    case atStart => exact ⟨(([] : List Int)), (0), dF, H', ⟨Nat.le_refl _⟩, ⟨oM HO_5.out (fun _ hk => (by simp [Value.ownBlock]))⟩, ⟨by first | exact Kd.R_nil _ _ _ _ _ | exact Kd.N_nil _ _ _ _ _ | exact Kd.V_nil _ _ _ _ _ | exact Kd.Q_nil _ _ _ _ _ | exact Kd.S_nil _ _ _ _ _⟩, ⟨dB⟩⟩
    case round =>
     clear H'
     try clear c1
     try clear c4
     try clear c4b0 c4b1
     try clear c5
     try clear c5b0 c5b1
     try clear c8
     try clear c8b0
     obtain ⟨x12_2, x13_2, rfl, HA, HK2, HO_5, HO_12, HB⟩ := hrel
     cases gk with
     | zero => exact absurd HA.out (by simp [plumbref03_Mul.l2])
     | succ k2 =>
      have H := HA.out
      clear HA
      simp only [plumbref03_Mul.l2] at H
      by_cases c36 : (wrap64 (x13_2 + 1)) < (x5_1.length : Int)
      ·rw [if_pos c36] at H
       have c36b0 := decide_eq_true c36
       clear c36
       replace H := nO H
       obtain ⟨c37, H⟩ := H
       have c37b0 : decide (0 ≤ x13_2) = true := decide_eq_true c37
       clear c37
       replace H := nO H
       obtain ⟨c38, H⟩ := H
       have c38b0 := decide_eq_true c38
       clear c38
       obtain ⟨ji39, hji39⟩ : ∃ j_ : Int, (wrap64 (x13_2 + 1)) = j_ := ⟨_, rfl⟩
       first | rw [hji39] at H | simp only [hji39] at H
       (try rw [hji39] at c36b0)
       have hji39w : (IntKind.i64.wrap (x13_2 + 1)) = ji39 := (i64_w _).trans hji39
       replace H := nO H
       obtain ⟨c40, H⟩ := H
       have c40b0 : decide (0 ≤ (ji39)) = true := decide_eq_true c40
       clear c40
       replace H := nO H
       obtain ⟨c41, H⟩ := H
       have LMc41 := aM c41
       clear c41
       obtain ⟨y329, hy329⟩ : ∃ y_ : List Int, y_ = (x12_2 ++ [Go.bits .or .u64 (rd x5_1 x13_2) (IntKind.u64.wrap ((rd x5_1 (ji39)) * 4294967296))]) := ⟨_, rfl⟩
       replace H : (plumbref03_Mul.l2 k2 x5_1 y329 (wrap64 (x13_2 + 2))) = some r := by first | (rw [hy329]; with_reducible exact H) | (have H2_ := (Option.bind_some _ _).symm.trans H; rw [hy329]; with_reducible exact H2_) | (have H2_ := (Option.bind_some _ _).symm.trans H; with_reducible exact H2_) | with_reducible exact H | (rw [hy329]; exact H) | exact H
       have Ny329 := aM hy329
       clear hy329
       have H' := aM H
       clear H
       obtain ⟨Ao42, co42, rfl⟩ := Kd.R_slice HO_5.out
       try go_wp2
       replace HO_5 := aM (Kd.R_drew HO_5.out)
       replace HO_12 := aM (Kd.R_drew HO_12.out)
       replace HB := aM (below_drew1 HB.out)
       have p327 : 0 ≤ (x13_2 : Int) := of_decide_eq_true dS
       have q327 : x13_2 < (x5_1.length : Int) := of_decide_eq_true dS
       obtain ⟨ad327, e327, hx327_0⟩ := Kd.at_int (Kd.R_reads' HO_5.out).2.2 x13_2 p327 q327
       cases e327
       replace p327 := eq_true p327
       replace q327 := eq_true q327
       have p328 : 0 ≤ ((ji39) : Int) := of_decide_eq_true dS
       have q328 : (ji39) < (x5_1.length : Int) := of_decide_eq_true dS
       obtain ⟨ad328, e328, hx328_0⟩ := Kd.at_int (Kd.R_reads' HO_5.out).2.2 (ji39) p328 q328
       obtain rfl : ad327 = ad328 := (by injection e328)
       replace p328 := eq_true p328
       replace q328 := eq_true q328
       refine start_ (n := 15) (S := fun w' => w'.cell? (ad327.add (x13_2).toNat) = some (.int .u64 (rd x5_1 x13_2)) ∧ w'.cell? (ad327.add ((ji39)).toNat) = some (.int .u64 (rd x5_1 (ji39)))) (ds := [12, 13]) #[false, false, false, false, false, false, false, false, false, false, false, false, false, false, false] (by kernel_rfl) rfl rfl ⟨hx327_0, hx328_0⟩ (fun hHeld => ?_); refine with_tabW plumbref03_Mul.tab19 plumbref03_Mul.bits19 (fun HT_ HW_ => ?_)
       generalize wr.drew = w43 at HO_5 HO_12 HB hx327_0 hx328_0 hHeld ⊢
       refine pP 0 (some 101) ?_
       refine pP 1 (some 102) ?_
       refine pP 2 (some 103) ?_
       refine pP 3 (some 104) ?_
       refine pP 5 (some 106) ?_
       refine pP 6 (some 107) ?_
       refine pP 7 (some 108) ?_
       refine pP 8 (some 109) ?_
       refine pH2 4 (some 105) hHeld ?_
       refine pH2 9 (some 110) hHeld ?_
       refine pP 10 (some 111) ?_
       refine pP 11 (some 112) ?_
       refine last_ (i := 12) (N := some 113) #[true, true, true, true, true, true, true, true, true, true, true, true, true, false, false] rfl rfl (one_of HT_.out (by kernel_rfl)) (by decide) (fun K hK => ?_)
       refine value_ (w1 := ?_) (v := ?_) (by rfl) rfl ?_ ?_
       rotate_left 2
       ·go_simp
        constructor
        ·rfl
        ·rfl
       refine hK.out _ _ ?_
       clear hK K
       refine norm_ (a' := ?_) ?_ ?_
       rotate_left
       ·show Act.put _ (some 113) _ = _
        simp only [Act.put, List.setIfInBounds_toArray, List.set_cons_zero, List.set_cons_succ, i64_w, i32_w]
        rfl
       refine last_ (i := 13) (N := some 114) #[true, true, true, true, true, true, true, true, true, true, true, true, true, true, false] rfl rfl (one_of HT_.out (by kernel_rfl)) (by decide) (fun K hK => ?_)
       refine Kd.R_append_step (Kd.int .u64) (w0 := w) w.heap.size (by rfl) (.tmp 101) (.tmp 113) 37 22 (.int .u64 0) 8 rfl Tryd.underlying37 info22 rfl (by decide) (by omega) u12 x12_2 (Go.bits .or .u64 (rd x5_1 x13_2) (IntKind.u64.wrap ((rd x5_1 (ji39)) * 4294967296))) [.int .u64 (Go.bits .or .u64 (rd x5_1 x13_2) (IntKind.u64.wrap ((rd x5_1 (ji39)) * 4294967296)))] (fun k_ => some k_ ≠ (.slice (some ad327) x5_1.length co42 : Value).ownBlock) (fun _ => False) rfl rfl ?aP (fun _ hk => hk.elim) ?aF ?aO ?aB ?aS ?aL ?_
       (case aP => exact rfl)
       (case aB => exact dB)
       (case aF => exact (fun k_ hk => Kd.fresh' (Kd.R_lt (dR HO_5.out)) k_ hk))
       (case aO => exact (dR HO_12.out))
       (case aS => exact (below_size dB))
       (case aL => have := LMc41.out; omega)
       intro v330 w44 ho hb hg hat
       rw [← Ny329.out] at ho
       replace HO_5 := aM (Kd.R_after (ok := (fun _ => True)) (oS HO_5.out) hg hat)
       replace HB := aM (hb)
       have HO331 := aM (ho)
       clear HO_12
       clear ho hb hg hat
       refine hK.out _ _ ?_
       clear hK K
       refine norm_ (a' := ?_) ?_ ?_
       rotate_left
       ·show Act.put _ (some 114) _ = _
        simp only [Act.put, List.setIfInBounds_toArray, List.set_cons_zero, List.set_cons_succ, i64_w, i32_w]
        rfl
       refine pP 14 (some 12) ?_
       refine done_ (done_of HT_.out (by kernel_rfl)) ?_
       try go_wp2
       go_roundg k2
       case measure => have := HK1.out; have := HK2.out; omega
       case rel => exact ⟨(y329), (wrap64 (x13_2 + 2)), dF, H', ⟨by have := HK1.out; have := HK2.out; omega⟩, ⟨oM HO_5.out (fun _ hk => hk.2)⟩, ⟨dR HO331.out⟩, ⟨dB⟩⟩
      ·rw [if_neg c36] at H
       have c36b0 := decide_eq_false c36
       clear c36
       replace H := oA H
       obtain ⟨t332, A45, H⟩ := H
       (try dsimp only at H)
       obtain rfl := Option.some.inj H
       obtain ⟨Ao46, co46, rfl⟩ := Kd.R_slice HO_5.out
       obtain ⟨Ao47, co47, rfl⟩ := Kd.R_slice HO_12.out
       go_wp2_with (first | ((with_reducible refine gate_callee (f := 65) rfl ?_); refine gL (some 116) Tryd.func65 #[.slice Ao47 x12_2.length co47] ?_; (with_reducible refine (plumbref03_Norm.calls k2 _ _ x12_2 t332 _ ?side1 (Kd.R_reads' HO_12.out).2.1 A45.out).mono ?_); (case side1 => exact dC (Kd.R_reads' HO_12.out).2.2); rintro e w48 ⟨v333, rfl, ho0, hb⟩; refine ⟨_, rfl, ?_⟩; have HO334 := aM (Kd.R_lower (nW (nW ho0 HO_5.out) HO_12.out) (below_size dB)); replace HO_5 := oE HO_5.out ho0 hb; replace HO_12 := oE HO_12.out ho0 hb; replace HB := hS HB.out hb; (try clear hb); (try clear ho0)))
       go_ret
       exact ⟨_, by first | rfl | (simp [errW_none, errW_some] <;> rfl) | (simp only [← hji3]; first | rfl | (simp [errW_none, errW_some] <;> rfl)) | (simp [*, errW_none, errW_some] <;> rfl), oM HO334.out (fun _ hk => trivial), dB⟩
def plumbref04_put.l0 : Nat → List Int → Int → Int → Int → Option (List Int)
 | 0, _, _, _, _ => none
 | k + 1, x0, x1, x2, x7 => if x7 < (x0.length : Int) then (if 0 ≤ x7 then (plumbref04_put.l0 k (x0.set (x7 : Int).toNat (Go.bits .and .u64 (IntKind.u64.wrap ((IntKind.u64.wrap ((rd x0 x7) * x1)) + x2)) 4294967295)) x1 ((IntKind.u64.wrap ((IntKind.u64.wrap ((rd x0 x7) * x1)) + x2)) / 4294967296) (wrap64 (x7 + 1))) else (none)) else (if x2 > 0 then (if x0.length < 17592186044416 then (some (x0 ++ [x2])) else (none)) else (some x0))
def plumbref04_put.f (k : Nat) (l0 : List Int) (a1 : Int) (a2 : Int) : Option (List Int) := plumbref04_put.l0 k l0 a1 a2 0
set_option maxHeartbeats 8000000 in
set_option maxRecDepth 100000 in
theorem plumbref04_put.calls (k : Nat) (P0_ : Nat → Prop) (u9000_ : Value) (l0 : List Int) (a1 : Int) (a2 : Int) (r : List Int) (w0 w : World) (hB : Below w0.heap.size w0 w) (ho0 : Kd.R (Kd.int .u64) 22 w w0.heap.size P0_ u9000_ l0) (h : plumbref04_put.f k l0 a1 a2 = some r) :
  Calls Tryd.prog 66 #[u9000_, .int .u64 a1, .int .u64 a2] w fun e w' => ∃ v0_ : Value, e = .returned (v0_) ∧ Kd.R (Kd.int .u64) 22 w' w0.heap.size (fun k_ => (P0_ k_ ∨ w.heap.size ≤ k_)) v0_ r ∧ Below w0.heap.size w0 w' ∧ Kept w w' (fun k_ => P0_ k_) := by
 have HO0 := aM (show Kd.R (Kd.int .u64) 22 w w0.heap.size (fun k_ => (P0_ k_ ∨ w.heap.size ≤ k_)) u9000_ l0 from Kd.R_mono ho0 (fun k_ hk => (.inl hk)))
 have HK := aM (Kept.refl w (fun k_ => P0_ k_))
 have HW0 := aM hB.size
 have HB := aM hB
 clear hB
 have H := h
 clear h
 unfold plumbref04_put.f at H
 have H' := aM H
 clear H
 go_enter Tryd.func66, Tryd.ntmps66
 go_wp2
 go_loopg [2, 7] k (fun kq v2 v7 w' => ∃ (x0_1 : List Int) (x2_1 : Int) (x7_1 : Int), v2 = .int .u64 x2_1 ∧ v7 = .int .i64 x7_1 ∧ Aside0 (plumbref04_put.l0 kq x0_1 a1 x2_1 x7_1 = some r) ∧ Aside0 (kq ≤ k) ∧ Aside0 (Kd.R (Kd.int .u64) 22 w' w0.heap.size (fun k_ => (P0_ k_ ∨ w.heap.size ≤ k_)) u9000_ x0_1) ∧ Aside0 (Kept w w' (fun k_ => P0_ k_)) ∧ Aside0 (Below w0.heap.size w0 w'))
 case atStart => exact ⟨(l0), (a2), (0), dF, dF, H', ⟨Nat.le_refl _⟩, ⟨dR HO0.out⟩, ⟨by repeat (first | (with_reducible first | exact HK.out | apply Kept.alloc | apply Kept.drewN | apply Kept.drew) | exact HK.out)⟩, ⟨dB⟩⟩
 case round =>
  clear H'
  obtain ⟨x0_1, x2_1, x7_1, rfl, rfl, HA, HK1, HO_0, HK, HB⟩ := hrel
  cases gk with
  | zero => exact absurd HA.out (by simp [plumbref04_put.l0])
  | succ k1 =>
   have H := HA.out
   clear HA
   simp only [plumbref04_put.l0] at H
   by_cases c4 : x7_1 < (x0_1.length : Int)
   ·rw [if_pos c4] at H
    have c4b0 := decide_eq_true c4
    clear c4
    replace H := nO H
    obtain ⟨c5, H⟩ := H
    have c5b0 : decide (0 ≤ x7_1) = true := decide_eq_true c5
    clear c5
    obtain ⟨y336, hy336⟩ : ∃ y_ : List Int, y_ = (x0_1.set (x7_1 : Int).toNat (Go.bits .and .u64 (IntKind.u64.wrap ((IntKind.u64.wrap ((rd x0_1 x7_1) * a1)) + x2_1)) 4294967295)) := ⟨_, rfl⟩
    replace H : (plumbref04_put.l0 k1 y336 a1 ((IntKind.u64.wrap ((IntKind.u64.wrap ((rd x0_1 x7_1) * a1)) + x2_1)) / 4294967296) (wrap64 (x7_1 + 1))) = some r := by first | (rw [hy336]; with_reducible exact H) | (have H2_ := (Option.bind_some _ _).symm.trans H; rw [hy336]; with_reducible exact H2_) | (have H2_ := (Option.bind_some _ _).symm.trans H; with_reducible exact H2_) | with_reducible exact H | (rw [hy336]; exact H) | exact H
    have Ny336 := aM hy336
    clear hy336
    have H' := aM H
    clear H
    obtain ⟨Ao7, co7, rfl⟩ := Kd.R_slice HO_0.out
    have p335 : 0 ≤ (x7_1 : Int) := of_decide_eq_true dS
    have q335 : x7_1 < (x0_1.length : Int) := of_decide_eq_true dS
    obtain ⟨ad335, e335, hx335_0⟩ := Kd.at_int (Kd.R_reads' HO_0.out).2.2 x7_1 p335 q335
    cases e335
    replace p335 := eq_true p335
    replace q335 := eq_true q335
    have p6 : 0 ≤ (x7_1 : Int) := of_decide_eq_true dS
    have q6 : (x7_1 : Int) < ((x0_1.length : Int) : Int) := of_decide_eq_true dS
    obtain ⟨go6, co6, eo6, gb6, gl6, cl6, HG6⟩ := Kd.R_form HO_0.out (by omega)
    (first | cases eo6 | (injection eo6 with ea_ en_ ec_; (first | subst ea_ | (injection ea_ with ea_; subst ea_)); subst ec_; clear en_))
    have GB6 := aM gb6
    have GG6 := aM HG6
    clear gb6 gl6 HG6
    have HMgo6 := aM (show (P0_ go6 ∨ w.heap.size ≤ go6) from (HO_0.out.1 _ rfl))
    (first | simp only [add_plain] at hx335_0 | skip)
    obtain ⟨hx6_0, hf6_0⟩ := Kd.R_celln 0 HO_0.out (x7_1 : Int) p6 q6
    replace p6 := eq_true p6
    replace q6 := eq_true q6
    have HP8 := Kd.R_putg HO_0.out (x7_1 : Int) (Go.bits .and .u64 (IntKind.u64.wrap ((IntKind.u64.wrap ((rd x0_1 x7_1) * a1)) + x2_1)) 4294967295)
    go_wp2_with (first | ((with_reducible refine gate_store (t := 22) (p := 27) rfl ?_); refine store_event (t := 22) (p := 27) (v := ?vo_w9) (w1 := (wr.setCell ⟨go6, (x7_1 : Int).toNat, none⟩ (.int .u64 (Go.bits .and .u64 (IntKind.u64.wrap ((IntKind.u64.wrap ((rd x0_1 x7_1) * a1)) + x2_1)) 4294967295)))) ?hg ?ho ?hn ?hr ?_; (case ho => rfl); (case hg => rfl); (case hn => rfl); (case hr => first | (go_simp; done) | (go_simp; rfl)); intro w9 hw; have hg : wr.grownBy w9 (some go6) := (by rw [hw]; exact HP8.2); have hp_ : Kd.R (Kd.int .u64) 22 w9 w0.heap.size (fun k_ => (P0_ k_ ∨ w.heap.size ≤ k_)) (.slice (some ⟨go6, 0, none⟩) x0_1.length co7) y336 := (by rw [hw, Ny336.out]; exact HP8.1); clear HP8; replace HB := aM ((by rw [hw]; exact below_set (HB.out) GB6.out : Below w0.heap.size w0 w9)); replace HK := aM (Kept.of_grown (S := (fun k_ => P0_ k_)) hg (by repeat (first | (with_reducible first | exact HK.out | apply Kept.alloc | apply Kept.drewN | apply Kept.drew) | exact HK.out)) (fun k_ e_ => (HO_0.out.1 k_ e_))); replace HO_0 := aM (hp_); clear hg hw hp_))
    go_roundg k1
    case measure => have := HK1.out; omega
    case rel => exact ⟨(y336), ((IntKind.u64.wrap ((IntKind.u64.wrap ((rd x0_1 x7_1) * a1)) + x2_1)) / 4294967296), (wrap64 (x7_1 + 1)), dF, dF, H', ⟨by have := HK1.out; omega⟩, ⟨dR HO_0.out⟩, ⟨by repeat (first | (with_reducible first | exact HK.out | apply Kept.alloc | apply Kept.drewN | apply Kept.drew) | exact HK.out)⟩, ⟨dB⟩⟩
   ·rw [if_neg c4] at H
    have c4b0 := decide_eq_false c4
    clear c4
    by_cases c10 : x2_1 > 0
    ·rw [if_pos c10] at H
     have c10b0 : decide (0 < x2_1) = true := decide_eq_true c10
     clear c10
     replace H := nO H
     obtain ⟨c11, H⟩ := H
     have LMc11 := aM c11
     clear c11
     obtain ⟨y337, hy337⟩ : ∃ y_ : List Int, y_ = (x0_1 ++ [x2_1]) := ⟨_, rfl⟩
     replace H : (some y337) = some r := by first | (rw [hy337]; with_reducible exact H) | (have H2_ := (Option.bind_some _ _).symm.trans H; rw [hy337]; with_reducible exact H2_) | (have H2_ := (Option.bind_some _ _).symm.trans H; with_reducible exact H2_) | with_reducible exact H | (rw [hy337]; exact H) | exact H
     have Ny337 := aM hy337
     clear hy337
     obtain rfl := Option.some.inj H
     obtain ⟨Ao12, co12, rfl⟩ := Kd.R_slice HO_0.out
     go_wp2_with (first | ((with_reducible refine gate_builtin (b := .append) (xs := #[.tmp 32, .tmp 34]) rfl ?_); at_builtin; refine Kd.R_append (Kd.int .u64) (w0 := w0) w0.heap.size rfl (.tmp 32) (.tmp 34) 37 22 (.int .u64 0) 8 rfl Tryd.underlying37 info22 rfl (by decide) (by omega) (.slice Ao12 x0_1.length co12) x0_1 x2_1 [.int .u64 x2_1] (fun k_ => (P0_ k_ ∨ w.heap.size ≤ k_)) (fun _ => False) rfl rfl ?aP (fun _ hk => hk.elim) ?aF ?aO ?aB ?aS ?aL ?_; (case aP => exact rfl); (case aB => exact dB); (case aF => exact (fun k_ hk => (.inr (Nat.le_trans (by first | exact HK.out.1 | exact (show Kept w _ (fun k_ => P0_ k_) from by repeat (first | (with_reducible first | exact HK.out | apply Kept.alloc | apply Kept.drewN | apply Kept.drew) | exact HK.out)).1) hk)))); (case aO => exact (dR HO_0.out)); (case aS => exact (below_size dB)); (case aL => have := LMc11.out; omega); intro v338 w13 ho hb hg hat; rw [← Ny337.out] at ho; replace HB := aM (hb); replace HK := aM (Kept.of_grown (S := (fun k_ => P0_ k_)) hg (by repeat (first | (with_reducible first | exact HK.out | apply Kept.alloc | apply Kept.drewN | apply Kept.drew) | exact HK.out)) (fun k_ e_ => (HO_0.out.1 k_ e_))); have HO339 := aM (ho); clear HO_0; clear ho hb hg hat))
     go_ret
     exact ⟨_, dE, dR HO339.out, dB, by repeat (first | (with_reducible first | exact HK.out | apply Kept.alloc | apply Kept.drewN | apply Kept.drew) | exact HK.out)⟩
    ·rw [if_neg c10] at H
     have c10b0 : decide (0 < x2_1) = false := decide_eq_false c10
     clear c10
     obtain rfl := Option.some.inj H
     obtain ⟨Ao14, co14, rfl⟩ := Kd.R_slice HO_0.out
     go_wp2
     go_ret
     exact ⟨_, dE, dR HO_0.out, dB, by repeat (first | (with_reducible first | exact HK.out | apply Kept.alloc | apply Kept.drewN | apply Kept.drew) | exact HK.out)⟩
def plumbref04_cut.l0 : Nat → List Int → Option (List Int)
 | 0, _ => none
 | k + 1, x0 => if (x0.length : Int) > 0 then (if 0 ≤ (wrap64 ((x0.length : Int) - 1)) then (if (wrap64 ((x0.length : Int) - 1)) < (x0.length : Int) then (if (rd x0 (wrap64 ((x0.length : Int) - 1))) = 0 then (if (wrap64 ((x0.length : Int) - 1)) ≤ (x0.length : Int) then (plumbref04_cut.l0 k (x0.take ((wrap64 ((x0.length : Int) - 1)) : Int).toNat)) else (none)) else (some x0)) else (none)) else (none)) else (some x0)
def plumbref04_cut.f (k : Nat) (l0 : List Int) : Option (List Int) := plumbref04_cut.l0 k l0
set_option maxHeartbeats 8000000 in
set_option maxRecDepth 100000 in
theorem plumbref04_cut.calls (k : Nat) (P0_ : Nat → Prop) (u9000_ : Value) (l0 : List Int) (r : List Int) (w0 w : World) (hB : Below w0.heap.size w0 w) (ho0 : Kd.R (Kd.int .u64) 22 w w0.heap.size P0_ u9000_ l0) (h : plumbref04_cut.f k l0 = some r) :
  Calls Tryd.prog 82 #[u9000_] w fun e w' => ∃ v0_ : Value, e = .returned (v0_) ∧ Kd.R (Kd.int .u64) 22 w' w0.heap.size (fun k_ => (P0_ k_ ∨ w.heap.size ≤ k_)) v0_ r ∧ Below w0.heap.size w0 w' ∧ Kept w w' (fun k_ => P0_ k_) := by
 have HO0 := aM (show Kd.R (Kd.int .u64) 22 w w0.heap.size (fun k_ => (P0_ k_ ∨ w.heap.size ≤ k_)) u9000_ l0 from Kd.R_mono ho0 (fun k_ hk => (.inl hk)))
 have HK := aM (Kept.refl w (fun k_ => P0_ k_))
 have HW0 := aM hB.size
 have HB := aM hB
 clear hB
 have H := h
 clear h
 unfold plumbref04_cut.f at H
 have H' := aM H
 clear H
 go_enter Tryd.func82, Tryd.ntmps82
 go_wp2
 go_loopg [0] k (fun kq v0 w' => ∃ (x0_1 : List Int), Aside0 (plumbref04_cut.l0 kq x0_1 = some r) ∧ Aside0 (kq ≤ k) ∧ Aside0 (Kd.R (Kd.int .u64) 22 w' w0.heap.size (fun k_ => (P0_ k_ ∨ w.heap.size ≤ k_)) v0 x0_1) ∧ Aside0 (Kept w w' (fun k_ => P0_ k_)) ∧ Aside0 (Below w0.heap.size w0 w'))
 case atStart => exact ⟨(l0), H', ⟨Nat.le_refl _⟩, ⟨dR HO0.out⟩, ⟨by repeat (first | (with_reducible first | exact HK.out | apply Kept.alloc | apply Kept.drewN | apply Kept.drew) | exact HK.out)⟩, ⟨dB⟩⟩
 case round =>
  clear H'
  obtain ⟨x0_1, HA, HK1, HO_0, HK, HB⟩ := hrel
  cases gk with
  | zero => exact absurd HA.out (by simp [plumbref04_cut.l0])
  | succ k1 =>
   have H := HA.out
   clear HA
   simp only [plumbref04_cut.l0] at H
   by_cases c2 : (x0_1.length : Int) > 0
   ·rw [if_pos c2] at H
    have c2b0 : decide (0 < (x0_1.length : Int)) = true := decide_eq_true c2
    have c2b1 : decide (0 < x0_1.length) = true := decide_eq_true (by omega)
    clear c2
    obtain ⟨ji3, hji3⟩ : ∃ j_ : Int, (wrap64 ((x0_1.length : Int) - 1)) = j_ := ⟨_, rfl⟩
    first | rw [hji3] at H | simp only [hji3] at H
    have hji3w : (IntKind.i64.wrap ((x0_1.length : Int) - 1)) = ji3 := (i64_w _).trans hji3
    replace H := nO H
    obtain ⟨c4, H⟩ := H
    have c4b0 : decide (0 ≤ (ji3)) = true := decide_eq_true c4
    clear c4
    replace H := nO H
    obtain ⟨c5, H⟩ := H
    have c5b0 := decide_eq_true c5
    clear c5
    by_cases c6 : (rd x0_1 (ji3)) = 0
    ·rw [if_pos c6] at H
     obtain ⟨c6b0, c6b1⟩ := bT c6
     clear c6
     replace H := nO H
     obtain ⟨c7, H⟩ := H
     have c7b0 := eq_true c7
     have c7b1 := decide_eq_true c7
     clear c7
     obtain ⟨y341, hy341⟩ : ∃ y_ : List Int, y_ = (x0_1.take ((ji3) : Int).toNat) := ⟨_, rfl⟩
     replace H : (plumbref04_cut.l0 k1 y341) = some r := by first | (rw [hy341]; with_reducible exact H) | (have H2_ := (Option.bind_some _ _).symm.trans H; rw [hy341]; with_reducible exact H2_) | (have H2_ := (Option.bind_some _ _).symm.trans H; with_reducible exact H2_) | with_reducible exact H | (rw [hy341]; exact H) | exact H
     have Ny341 := aM hy341
     clear hy341
     have H' := aM H
     clear H
     obtain ⟨Ao8, co8, rfl⟩ := Kd.R_slice HO_0.out
     have p340 : 0 ≤ ((ji3) : Int) := of_decide_eq_true dS
     have q340 : (ji3) < (x0_1.length : Int) := of_decide_eq_true dS
     obtain ⟨ad340, e340, hx340_0⟩ := Kd.at_int (Kd.R_reads' HO_0.out).2.2 (ji3) p340 q340
     cases e340
     replace p340 := eq_true p340
     replace q340 := eq_true q340
     have q9 : ((ji3) : Int) ≤ ((x0_1.length : Int) : Int) := of_decide_eq_true dS
     obtain ⟨i09, hi09, _, hsz9, _⟩ := info_parts info22
     have hcut9 := cut_to (P := Tryd.prog) 37 22 .i64 Tryd.underlying37 hi09 (some ad340) x0_1.length co8 (ji3) (of_decide_eq_true dS) q9 (Kd.R_reads' HO_0.out).2.1
     have hr9 := Kd.R_take (m := ((ji3) : Int).toNat) HO_0.out (by omega)
     have hy9 : y341.length = ((ji3) : Int).toNat := (by rw [Ny341.out, List.length_take]; omega)
     rw [← Ny341.out] at hr9
     rw [← hy9] at hr9 hcut9
     clear hy9 hi09 hsz9 HO_0
     have HO343 := aM hr9
     clear hr9
     replace q9 := eq_true q9
     go_wp2
     go_roundg k1
     case measure => have := HK1.out; omega
     case rel => exact ⟨(y341), H', ⟨by have := HK1.out; omega⟩, ⟨dR HO343.out⟩, ⟨by repeat (first | (with_reducible first | exact HK.out | apply Kept.alloc | apply Kept.drewN | apply Kept.drew) | exact HK.out)⟩, ⟨dB⟩⟩
    ·rw [if_neg c6] at H
     obtain ⟨c6b0, c6b1⟩ := bF c6
     obtain rfl := Option.some.inj H
     obtain ⟨Ao10, co10, rfl⟩ := Kd.R_slice HO_0.out
     have p340 : 0 ≤ ((ji3) : Int) := of_decide_eq_true dS
     have q340 : (ji3) < (x0_1.length : Int) := of_decide_eq_true dS
     obtain ⟨ad340, e340, hx340_0⟩ := Kd.at_int (Kd.R_reads' HO_0.out).2.2 (ji3) p340 q340
     cases e340
     replace p340 := eq_true p340
     replace q340 := eq_true q340
     go_wp2
     go_ret
     exact ⟨_, by first | rfl | (simp [errW_none, errW_some] <;> rfl) | (simp only [← hji3]; first | rfl | (simp [errW_none, errW_some] <;> rfl)) | (simp [*, errW_none, errW_some] <;> rfl), dR HO_0.out, dB, by repeat (first | (with_reducible first | exact HK.out | apply Kept.alloc | apply Kept.drewN | apply Kept.drew) | exact HK.out)⟩
   ·rw [if_neg c2] at H
    have c2b0 : decide (0 < (x0_1.length : Int)) = false := decide_eq_false c2
    have c2b1 : decide (0 < x0_1.length) = false := decide_eq_false (by omega)
    clear c2
    obtain rfl := Option.some.inj H
    obtain ⟨Ao11, co11, rfl⟩ := Kd.R_slice HO_0.out
    go_wp2
    go_ret
    exact ⟨_, dE, dR HO_0.out, dB, by repeat (first | (with_reducible first | exact HK.out | apply Kept.alloc | apply Kept.drewN | apply Kept.drew) | exact HK.out)⟩
def plumbref04_words.l0 : Nat → List Int → List Int → Int → Option (List Int)
 | 0, _, _, _ => none
 | k + 1, x0, x3, x4 => if x4 < (x0.length : Int) then (if 0 ≤ x4 then (if (wrap64 (x4 + 1)) < (x0.length : Int) then (if 0 ≤ (wrap64 (x4 + 1)) then (if x3.length < 17592186044416 then (plumbref04_words.l0 k x0 (x3 ++ [Go.bits .or .u64 (rd x0 x4) (IntKind.u64.wrap ((rd x0 (wrap64 (x4 + 1))) * 4294967296))]) (wrap64 (x4 + 2))) else (none)) else (none)) else (if x3.length < 17592186044416 then (plumbref04_words.l0 k x0 (x3 ++ [rd x0 x4]) (wrap64 (x4 + 2))) else (none))) else (none)) else ((plumbref04_cut.f k x3).bind fun t352 => (some t352))
def plumbref04_words.f (k : Nat) (l0 : List Int) : Option (List Int) := plumbref04_words.l0 k l0 ([] : List Int) 0
set_option maxHeartbeats 8000000 in
set_option maxRecDepth 100000 in
theorem plumbref04_words.calls (k : Nat) (A0 : Option Addr) (c0 : Nat) (l0 : List Int) (r : List Int) (w : World) (hr0 : Kd.C (Kd.int .u64) w A0 l0.length l0) (hc0 : l0.length ≤ c0) (h : plumbref04_words.f k l0 = some r) :
  Calls Tryd.prog 67 #[.slice A0 l0.length c0] w fun e w' => ∃ v0_ : Value, e = .returned (v0_) ∧ Kd.R (Kd.int .u64) 22 w' w.heap.size (fun _ => True) v0_ r ∧ Below w.heap.size w w' := by
 have HR0 := aM hr0
 have HC0 := aM hc0
 clear hr0 hc0
 have HB := aM (Below.refl w.heap.size w)
 have H := h
 clear h
 unfold plumbref04_words.f at H
 have H' := aM H
 clear H
 go_enter Tryd.func67, Tryd.ntmps67
 go_wp2
 go_loopg [3, 4] k (fun kq v3 v4 w' => ∃ (x3_1 : List Int) (x4_1 : Int), v4 = .int .i64 x4_1 ∧ Aside0 (plumbref04_words.l0 kq l0 x3_1 x4_1 = some r) ∧ Aside0 (kq ≤ k) ∧ Aside0 (Kd.R (Kd.int .u64) 22 w' w.heap.size (fun _ => True) v3 x3_1) ∧ Aside0 (Below w.heap.size w w'))
 case atStart => exact ⟨(([] : List Int)), (0), dF, H', ⟨Nat.le_refl _⟩, ⟨by first | exact Kd.R_nil _ _ _ _ _ | exact Kd.N_nil _ _ _ _ _ | exact Kd.V_nil _ _ _ _ _ | exact Kd.Q_nil _ _ _ _ _ | exact Kd.S_nil _ _ _ _ _⟩, ⟨dB⟩⟩
 case round =>
  clear H'
  obtain ⟨x3_1, x4_1, rfl, HA, HK1, HO_3, HB⟩ := hrel
  cases gk with
  | zero => exact absurd HA.out (by simp [plumbref04_words.l0])
  | succ k1 =>
   have H := HA.out
   clear HA
   simp only [plumbref04_words.l0] at H
   by_cases c2 : x4_1 < (l0.length : Int)
   ·rw [if_pos c2] at H
    have c2b0 := decide_eq_true c2
    clear c2
    replace H := nO H
    obtain ⟨c3, H⟩ := H
    have c3b0 : decide (0 ≤ x4_1) = true := decide_eq_true c3
    clear c3
    by_cases c4 : (wrap64 (x4_1 + 1)) < (l0.length : Int)
    ·rw [if_pos c4] at H
     have c4b0 := decide_eq_true c4
     clear c4
     obtain ⟨ji5, hji5⟩ : ∃ j_ : Int, (wrap64 (x4_1 + 1)) = j_ := ⟨_, rfl⟩
     first | rw [hji5] at H | simp only [hji5] at H
     (try rw [hji5] at c4b0)
     have hji5w : (IntKind.i64.wrap (x4_1 + 1)) = ji5 := (i64_w _).trans hji5
     replace H := nO H
     obtain ⟨c6, H⟩ := H
     have c6b0 : decide (0 ≤ (ji5)) = true := decide_eq_true c6
     clear c6
     replace H := nO H
     obtain ⟨c7, H⟩ := H
     have LMc7 := aM c7
     clear c7
     obtain ⟨y346, hy346⟩ : ∃ y_ : List Int, y_ = (x3_1 ++ [Go.bits .or .u64 (rd l0 x4_1) (IntKind.u64.wrap ((rd l0 (ji5)) * 4294967296))]) := ⟨_, rfl⟩
     replace H : (plumbref04_words.l0 k1 l0 y346 (wrap64 (x4_1 + 2))) = some r := by first | (rw [hy346]; with_reducible exact H) | (have H2_ := (Option.bind_some _ _).symm.trans H; rw [hy346]; with_reducible exact H2_) | (have H2_ := (Option.bind_some _ _).symm.trans H; with_reducible exact H2_) | with_reducible exact H | (rw [hy346]; exact H) | exact H
     have Ny346 := aM hy346
     clear hy346
     have H' := aM H
     clear H
     have p344 : 0 ≤ (x4_1 : Int) := of_decide_eq_true dS
     have q344 : x4_1 < (l0.length : Int) := of_decide_eq_true dS
     obtain ⟨ad344, e344, hx344_0⟩ := Kd.at_int HR0.out x4_1 p344 q344
     cases e344
     replace hx344_0 := (HB.out.cell (World.block_lt_of_cell? w _ hx344_0)).trans hx344_0
     replace p344 := eq_true p344
     replace q344 := eq_true q344
     have p345 : 0 ≤ ((ji5) : Int) := of_decide_eq_true dS
     have q345 : (ji5) < (l0.length : Int) := of_decide_eq_true dS
     obtain ⟨ad345, e345, hx345_0⟩ := Kd.at_int HR0.out (ji5) p345 q345
     obtain rfl : ad344 = ad345 := (by injection e345)
     replace hx345_0 := (HB.out.cell (World.block_lt_of_cell? w _ hx345_0)).trans hx345_0
     replace p345 := eq_true p345
     replace q345 := eq_true q345
     go_wp2_with (first | ((with_reducible refine gate_builtin (b := .append) (xs := #[.tmp 29, .tmp 31]) rfl ?_); at_builtin; refine Kd.R_append (Kd.int .u64) (w0 := w) w.heap.size rfl (.tmp 29) (.tmp 31) 37 22 (.int .u64 0) 8 rfl Tryd.underlying37 info22 rfl (by decide) (by omega) u3 x3_1 (Go.bits .or .u64 (rd l0 x4_1) (IntKind.u64.wrap ((rd l0 (ji5)) * 4294967296))) [.int .u64 (Go.bits .or .u64 (rd l0 x4_1) (IntKind.u64.wrap ((rd l0 (ji5)) * 4294967296)))] (fun _ => True) (fun _ => False) rfl rfl ?aP (fun _ hk => hk.elim) ?aF ?aO ?aB ?aS ?aL ?_; (case aP => exact rfl); (case aB => exact dB); (case aF => exact (fun _ _ => trivial)); (case aO => exact (dR HO_3.out)); (case aS => exact (below_size dB)); (case aL => have := LMc7.out; omega); intro v347 w8 ho hb hg hat; rw [← Ny346.out] at ho; replace HB := aM (hb); have HO348 := aM (ho); clear HO_3; clear ho hb hg hat))
     go_roundg k1
     case measure => have := HK1.out; omega
     case rel => exact ⟨(y346), (wrap64 (x4_1 + 2)), dF, H', ⟨by have := HK1.out; omega⟩, ⟨dR HO348.out⟩, ⟨dB⟩⟩
    ·rw [if_neg c4] at H
     have c4b0 := decide_eq_false c4
     clear c4
     replace H := nO H
     obtain ⟨c9, H⟩ := H
     have LMc9 := aM c9
     clear c9
     obtain ⟨y349, hy349⟩ : ∃ y_ : List Int, y_ = (x3_1 ++ [rd l0 x4_1]) := ⟨_, rfl⟩
     replace H : (plumbref04_words.l0 k1 l0 y349 (wrap64 (x4_1 + 2))) = some r := by first | (rw [hy349]; with_reducible exact H) | (have H2_ := (Option.bind_some _ _).symm.trans H; rw [hy349]; with_reducible exact H2_) | (have H2_ := (Option.bind_some _ _).symm.trans H; with_reducible exact H2_) | with_reducible exact H | (rw [hy349]; exact H) | exact H
     have Ny349 := aM hy349
     clear hy349
     have H' := aM H
     clear H
     have p344 : 0 ≤ (x4_1 : Int) := of_decide_eq_true dS
     have q344 : x4_1 < (l0.length : Int) := of_decide_eq_true dS
     obtain ⟨ad344, e344, hx344_0⟩ := Kd.at_int HR0.out x4_1 p344 q344
     cases e344
     replace hx344_0 := (HB.out.cell (World.block_lt_of_cell? w _ hx344_0)).trans hx344_0
     replace p344 := eq_true p344
     replace q344 := eq_true q344
     go_wp2_with (first | ((with_reducible refine gate_builtin (b := .append) (xs := #[.tmp 29, .tmp 31]) rfl ?_); at_builtin; refine Kd.R_append (Kd.int .u64) (w0 := w) w.heap.size rfl (.tmp 29) (.tmp 31) 37 22 (.int .u64 0) 8 rfl Tryd.underlying37 info22 rfl (by decide) (by omega) u3 x3_1 (rd l0 x4_1) [.int .u64 (rd l0 x4_1)] (fun _ => True) (fun _ => False) rfl rfl ?aP (fun _ hk => hk.elim) ?aF ?aO ?aB ?aS ?aL ?_; (case aP => exact rfl); (case aB => exact dB); (case aF => exact (fun _ _ => trivial)); (case aO => exact (dR HO_3.out)); (case aS => exact (below_size dB)); (case aL => have := LMc9.out; omega); intro v350 w10 ho hb hg hat; rw [← Ny349.out] at ho; replace HB := aM (hb); have HO351 := aM (ho); clear HO_3; clear ho hb hg hat))
     go_roundg k1
     case measure => have := HK1.out; omega
     case rel => exact ⟨(y349), (wrap64 (x4_1 + 2)), dF, H', ⟨by have := HK1.out; omega⟩, ⟨dR HO351.out⟩, ⟨dB⟩⟩
   ·rw [if_neg c2] at H
    have c2b0 := decide_eq_false c2
    clear c2
    replace H := oA H
    obtain ⟨t352, A11, H⟩ := H
    (try dsimp only at H)
    obtain rfl := Option.some.inj H
    obtain ⟨Ao12, co12, rfl⟩ := Kd.R_slice HO_3.out
    go_wp2_with (first | ((with_reducible refine gate_callee (f := 82) rfl ?_); refine gL (some 34) Tryd.func82 #[.slice Ao12 x3_1.length co12] ?_; (with_reducible refine (plumbref04_cut.calls k1 (fun k_ => some k_ = (.slice Ao12 x3_1.length co12 : Value).ownBlock) (.slice Ao12 x3_1.length co12) x3_1 t352 w _ ?side1 ?side2 A11.out).mono ?_); (case side1 => repeat (first | (with_reducible first | exact HB.out | apply below_alloc | apply pw_below_drewN | apply below_drew1) | exact HB.out)); (case side2 => exact Kd.R_tight rfl HO_3.out); rintro e w13 ⟨v353, rfl, ho0, hb, hkp⟩; refine ⟨_, rfl, ?_⟩; have HO354 := aM (Kd.R_mono (ok' := fun k_ => True) ho0 (fun k_ hk_ => trivial)); replace HB := aM (hb); clear HO_3; (try clear hb); (try clear hkp); (try clear ho0)))
    go_ret
    exact ⟨_, dE, dR HO354.out, dB⟩
def plumbref04_Power.l0 : Nat → Int → Int → List Int → Int → Option (List Int)
 | 0, _, _, _, _ => none
 | k + 1, x0, x1, x5, x6 => if x6 < x1 then ((plumbref04_put.f k x5 x0 0).bind fun t358 => (plumbref04_Power.l0 k x0 x1 t358 (wrap64 (x6 + 1)))) else ((plumbref04_words.f k x5).bind fun t361 => (some t361))
def plumbref04_Power.f (k : Nat) (a0 : Int) (a1 : Int) : Option (List Int) := plumbref04_Power.l0 k a0 a1 (([1] : List Int)) 0
set_option maxHeartbeats 8000000 in
set_option maxRecDepth 100000 in
theorem plumbref04_Power.calls (k : Nat) (a0 : Int) (a1 : Int) (r : List Int) (w : World) (h : plumbref04_Power.f k a0 a1 = some r) :
  Calls Tryd.prog 46 #[.int .u64 a0, .int .i64 a1] w fun e w' => ∃ v0_ : Value, e = .returned (v0_) ∧ Kd.R (Kd.int .u64) 22 w' w.heap.size (fun _ => True) v0_ r ∧ Below w.heap.size w w' := by
 have HB := aM (Below.refl w.heap.size w)
 have H := h
 clear h
 unfold plumbref04_Power.f at H
 obtain ⟨y355, hy355⟩ : ∃ y_ : List Int, y_ = (([1] : List Int)) := ⟨_, rfl⟩
 replace H : (plumbref04_Power.l0 k a0 a1 y355 0) = some r := by first | (rw [hy355]; with_reducible exact H) | (have H2_ := (Option.bind_some _ _).symm.trans H; rw [hy355]; with_reducible exact H2_) | (have H2_ := (Option.bind_some _ _).symm.trans H; with_reducible exact H2_) | with_reducible exact H | (rw [hy355]; exact H) | exact H
 have Ny355 := aM hy355
 clear hy355
 have H' := aM H
 clear H
 go_enter Tryd.func46, Tryd.ntmps46
 go_wp2_with (first | ((with_reducible refine gate_dst (N := 7) rfl ?_); refine Kd.R_lit (Kd.int .u64) _ 22 ?hg (N := 7) ?hd (xs := ([1] : List Int)) (inner := [.int .u64 1]) (ok := fun _ => True) (okp := fun _ => True) ?hr ?hp (fun _ hk => hk) trivial (Below.refl _ _) (Nat.le_refl _) (by simp) ?_; (case hd => rfl); (case hg => rfl); (case hr => first | (go_simp; done) | (go_simp; rfl)); (case hp => exact (Reps.one (show Kd.M (Kd.int .u64) _ _ _ 1 [.int .u64 1] from rfl) (Reps.none _ _))); intro v356 w3 ho4 hb hg_ hnew_; clear hg_ hnew_; (first | rw [← Ny355.out] at ho4 | (simp only [Int.reduceToNat] at ho4; rw [← Ny355.out] at ho4)); have HO357 := aM (Kd.R_lower ho4 (below_size dB)); replace HB := hS HB.out hb; clear hb ho4))
 go_loopg [5, 6] k (fun kq v5 v6 w' => ∃ (x5_1 : List Int) (x6_1 : Int), v6 = .int .i64 x6_1 ∧ Aside0 (plumbref04_Power.l0 kq a0 a1 x5_1 x6_1 = some r) ∧ Aside0 (kq ≤ k) ∧ Aside0 (Kd.R (Kd.int .u64) 22 w' w.heap.size (fun _ => True) v5 x5_1) ∧ Aside0 (Below w.heap.size w w'))
 case atStart => exact ⟨(y355), (0), dF, H', ⟨Nat.le_refl _⟩, ⟨dR HO357.out⟩, ⟨dB⟩⟩
 case round =>
  clear H'
  obtain ⟨x5_1, x6_1, rfl, HA, HK1, HO_5, HB⟩ := hrel
  cases gk with
  | zero => exact absurd HA.out (by simp [plumbref04_Power.l0])
  | succ k1 =>
   have H := HA.out
   clear HA
   simp only [plumbref04_Power.l0] at H
   by_cases c5 : x6_1 < a1
   ·rw [if_pos c5] at H
    have c5b0 := decide_eq_true c5
    clear c5
    replace H := oA H
    obtain ⟨t358, A6, H⟩ := H
    (try dsimp only at H)
    have H' := aM H
    clear H
    obtain ⟨Ao7, co7, rfl⟩ := Kd.R_slice HO_5.out
    go_wp2_with (first | ((with_reducible refine gate_callee (f := 66) rfl ?_); refine gL (some 15) Tryd.func66 #[.slice Ao7 x5_1.length co7, .int .u64 a0, .int .u64 0] ?_; (with_reducible refine (plumbref04_put.calls k1 (fun k_ => some k_ = (.slice Ao7 x5_1.length co7 : Value).ownBlock) (.slice Ao7 x5_1.length co7) x5_1 a0 0 t358 w _ ?side1 ?side2 A6.out).mono ?_); (case side1 => repeat (first | (with_reducible first | exact HB.out | apply below_alloc | apply pw_below_drewN | apply below_drew1) | exact HB.out)); (case side2 => exact Kd.R_tight rfl HO_5.out); rintro e w8 ⟨v359, rfl, ho0, hb, hkp⟩; refine ⟨_, rfl, ?_⟩; have HO360 := aM (Kd.R_mono (ok' := fun k_ => True) ho0 (fun k_ hk_ => trivial)); replace HB := aM (hb); clear HO_5; (try clear hb); (try clear hkp); (try clear ho0)))
    go_roundg k1
    case measure => have := HK1.out; omega
    case rel => exact ⟨(t358), (wrap64 (x6_1 + 1)), dF, H', ⟨by have := HK1.out; omega⟩, ⟨dR HO360.out⟩, ⟨dB⟩⟩
   ·rw [if_neg c5] at H
    have c5b0 := decide_eq_false c5
    clear c5
    replace H := oA H
    obtain ⟨t361, A9, H⟩ := H
    (try dsimp only at H)
    obtain rfl := Option.some.inj H
    obtain ⟨Ao10, co10, rfl⟩ := Kd.R_slice HO_5.out
    go_wp2_with (first | ((with_reducible refine gate_callee (f := 67) rfl ?_); refine gL (some 17) Tryd.func67 #[.slice Ao10 x5_1.length co10] ?_; (with_reducible refine (plumbref04_words.calls k1 _ _ x5_1 t361 _ ?side1 (Kd.R_reads' HO_5.out).2.1 A9.out).mono ?_); (case side1 => exact dC (Kd.R_reads' HO_5.out).2.2); rintro e w11 ⟨v362, rfl, ho0, hb⟩; refine ⟨_, rfl, ?_⟩; have HO363 := aM (Kd.R_lower (nW ho0 HO_5.out) (below_size dB)); replace HO_5 := oE HO_5.out ho0 hb; replace HB := hS HB.out hb; (try clear hb); (try clear ho0)))
    go_ret
    exact ⟨_, dE, oM HO363.out (fun _ hk => trivial), dB⟩
def plumbref04_limbs.l0 : Nat → List Int → List Int → Int → Option (List Int)
 | 0, _, _, _ => none
 | k + 1, x0, x3, x4 => if x4 < (x0.length : Int) then (if 0 ≤ x4 then ((some (([Go.bits .and .u64 (rd x0 x4) 4294967295, (rd x0 x4) / 4294967296] : List Int) : List Int)).bind fun y366 => (if x3.length + y366.length < 17592186044416 then (plumbref04_limbs.l0 k x0 (x3 ++ y366) (wrap64 (x4 + 1))) else (none))) else (none)) else ((plumbref04_cut.f k x3).bind fun t372 => (some t372))
def plumbref04_limbs.f (k : Nat) (l0 : List Int) : Option (List Int) := plumbref04_limbs.l0 k l0 ([] : List Int) 0
def plumbref04_limbs.T5 : Bool × List (List Nat × List Nat) := (true, [([], []), ([], []), ([], []), ([1, 2], [1, 2]), ([3], [3]), ([4], [4]), ([], []), ([], []), ([6, 7], [6, 7]), ([8], [8]), ([9], [9]), ([5, 10], [5, 10]), ([0, 11], [0, 11]), ([12, 12, 0, 1, 2, 3, 4, 5, 6, 7, 8, 9, 10, 11, 12], [0, 12])])
def plumbref04_limbs.B5 : List Nat := [0, 0, 0, 6, 14, 30, 0, 0, 192, 448, 960, 2046, 4095, 8191]
theorem plumbref04_limbs.tab5 : rtab .any (opsOf Tryd.f68 5) = plumbref04_limbs.T5 := by kernel_rfl
theorem plumbref04_limbs.bits5 : waitsOk plumbref04_limbs.T5.2 plumbref04_limbs.B5 = true := by kernel_rfl
set_option maxHeartbeats 8000000 in
set_option maxRecDepth 100000 in
theorem plumbref04_limbs.calls (k : Nat) (A0 : Option Addr) (c0 : Nat) (l0 : List Int) (r : List Int) (w : World) (hr0 : Kd.C (Kd.int .u64) w A0 l0.length l0) (hc0 : l0.length ≤ c0) (h : plumbref04_limbs.f k l0 = some r) :
  Calls Tryd.prog 68 #[.slice A0 l0.length c0] w fun e w' => ∃ v0_ : Value, e = .returned (v0_) ∧ Kd.R (Kd.int .u64) 22 w' w.heap.size (fun _ => True) v0_ r ∧ Below w.heap.size w w' := by
 have HR0 := aM hr0
 have HC0 := aM hc0
 clear hr0 hc0
 have HB := aM (Below.refl w.heap.size w)
 have H := h
 clear h
 unfold plumbref04_limbs.f at H
 have H' := aM H
 clear H
 go_enter Tryd.func68, Tryd.ntmps68
 go_wp2
 go_loopg [3, 4] k (fun kq v3 v4 w' => ∃ (x3_1 : List Int) (x4_1 : Int), v4 = .int .i64 x4_1 ∧ Aside0 (plumbref04_limbs.l0 kq l0 x3_1 x4_1 = some r) ∧ Aside0 (kq ≤ k) ∧ Aside0 (Kd.R (Kd.int .u64) 22 w' w.heap.size (fun _ => True) v3 x3_1) ∧ Aside0 (Below w.heap.size w w'))
 case atStart => exact ⟨(([] : List Int)), (0), dF, H', ⟨Nat.le_refl _⟩, ⟨by first | exact Kd.R_nil _ _ _ _ _ | exact Kd.N_nil _ _ _ _ _ | exact Kd.V_nil _ _ _ _ _ | exact Kd.Q_nil _ _ _ _ _ | exact Kd.S_nil _ _ _ _ _⟩, ⟨dB⟩⟩
 case round =>
  clear H'
  obtain ⟨x3_1, x4_1, rfl, HA, HK1, HO_3, HB⟩ := hrel
  cases gk with
  | zero => exact absurd HA.out (by simp [plumbref04_limbs.l0])
  | succ k1 =>
   have H := HA.out
   clear HA
   simp only [plumbref04_limbs.l0] at H
   by_cases c2 : x4_1 < (l0.length : Int)
   ·rw [if_pos c2] at H
    have c2b0 := decide_eq_true c2
    clear c2
    replace H := nO H
    obtain ⟨c3, H⟩ := H
    have c3b0 : decide (0 ≤ x4_1) = true := decide_eq_true c3
    clear c3
    obtain ⟨y366, hy366⟩ : ∃ y_ : List Int, y_ = (([Go.bits .and .u64 (rd l0 x4_1) 4294967295, (rd l0 x4_1) / 4294967296] : List Int)) := ⟨_, rfl⟩
    replace H : (if x3_1.length + y366.length < 17592186044416 then (plumbref04_limbs.l0 k1 l0 (x3_1 ++ y366) (wrap64 (x4_1 + 1))) else (none)) = some r := by first | (rw [hy366]; with_reducible exact H) | (have H2_ := (Option.bind_some _ _).symm.trans H; rw [hy366]; with_reducible exact H2_) | (have H2_ := (Option.bind_some _ _).symm.trans H; with_reducible exact H2_) | with_reducible exact H | (rw [hy366]; exact H) | exact H
    have Ny366 := aM hy366
    clear hy366
    replace H := nO H
    obtain ⟨c4, H⟩ := H
    have LMc4 := aM c4
    clear c4
    obtain ⟨y369, hy369⟩ : ∃ y_ : List Int, y_ = (x3_1 ++ y366) := ⟨_, rfl⟩
    replace H : (plumbref04_limbs.l0 k1 l0 y369 (wrap64 (x4_1 + 1))) = some r := by first | (rw [hy369]; with_reducible exact H) | (have H2_ := (Option.bind_some _ _).symm.trans H; rw [hy369]; with_reducible exact H2_) | (have H2_ := (Option.bind_some _ _).symm.trans H; with_reducible exact H2_) | with_reducible exact H | (rw [hy369]; exact H) | exact H
    have Ny369 := aM hy369
    clear hy369
    have H' := aM H
    clear H
    try go_wp2
    replace HO_3 := aM (Kd.R_drew HO_3.out)
    replace HB := aM (below_drew1 HB.out)
    have p364 : 0 ≤ (x4_1 : Int) := of_decide_eq_true dS
    have q364 : x4_1 < (l0.length : Int) := of_decide_eq_true dS
    obtain ⟨ad364, e364, hx364_0⟩ := Kd.at_int HR0.out x4_1 p364 q364
    have hw364_0 := hx364_0
    cases e364
    replace hx364_0 := (HB.out.cell (World.block_lt_of_cell? w _ hx364_0)).trans hx364_0
    replace p364 := eq_true p364
    replace q364 := eq_true q364
    have p365 : 0 ≤ (x4_1 : Int) := of_decide_eq_true dS
    have q365 : x4_1 < (l0.length : Int) := of_decide_eq_true dS
    obtain ⟨ad365, e365, hx365_0⟩ := Kd.at_int HR0.out x4_1 p365 q365
    have hw365_0 := hx365_0
    obtain rfl : ad364 = ad365 := (by injection e365)
    replace hx365_0 := (HB.out.cell (World.block_lt_of_cell? w _ hx365_0)).trans hx365_0
    replace p365 := eq_true p365
    replace q365 := eq_true q365
    refine start_ (n := 14) (S := fun w' => w'.cell? (ad364.add (x4_1).toNat) = some (.int .u64 (rd l0 x4_1)) ∧ w'.cell? (ad364.add (x4_1).toNat) = some (.int .u64 (rd l0 x4_1))) (ds := []) #[false, false, false, false, false, false, false, false, false, false, false, false, false, false] (by kernel_rfl) rfl rfl ⟨((HB.out.cell (World.block_lt_of_cell? w _ hw364_0)).trans hw364_0), ((HB.out.cell (World.block_lt_of_cell? w _ hw365_0)).trans hw365_0)⟩ (fun hHeld => ?_); refine with_tabW plumbref04_limbs.tab5 plumbref04_limbs.bits5 (fun HT_ HW_ => ?_)
    generalize wr.drew = w5 at HO_3 HB hx364_0 hx365_0 hHeld ⊢
    refine pP 0 (some 11) ?_
    refine pP 1 (some 12) ?_
    refine pP 2 (some 13) ?_
    refine pP 3 (some 14) ?_
    refine pP 6 (some 17) ?_
    refine pP 7 (some 18) ?_
    refine pP 8 (some 19) ?_
    refine pH2 4 (some 15) hHeld ?_
    refine pP 5 (some 16) ?_
    refine pH2 9 (some 20) hHeld ?_
    refine pP 10 (some 21) ?_
    refine one_ (i := 11) (N := some 22) #[true, true, true, true, true, true, true, true, true, true, true, true, false, false] rfl rfl (one_of HT_.out (by kernel_rfl)) (by decide) (fun K hK => ?_)
    refine Kd.R_lit_step (Kd.int .u64) _ 22 ?hg (N := 22) ?hd (xs := ([Go.bits .and .u64 (rd l0 x4_1) 4294967295, (rd l0 x4_1) / 4294967296] : List Int)) (inner := [.int .u64 (Go.bits .and .u64 (rd l0 x4_1) 4294967295), .int .u64 ((rd l0 x4_1) / 4294967296)]) (ok := fun _ => True) (okp := fun _ => True) ?hr ?hp (fun _ hk => hk) trivial (Below.refl _ _) (Nat.le_refl _) (by simp) ?_; (case hd => rfl); (case hg => rfl); (case hr => first | (go_simp; done) | (go_simp; rfl)); (case hp => exact (Reps.one (show Kd.M (Kd.int .u64) _ _ _ (Go.bits .and .u64 (rd l0 x4_1) 4294967295) [.int .u64 (Go.bits .and .u64 (rd l0 x4_1) 4294967295)] from rfl) (Reps.one (show Kd.M (Kd.int .u64) _ _ _ ((rd l0 x4_1) / 4294967296) [.int .u64 ((rd l0 x4_1) / 4294967296)] from rfl) (Reps.none _ _))))
    intro v367 w6 ho7 hb hg_ hnew_
    clear hg_ hnew_
    (first | rw [← Ny366.out] at ho7 | (simp only [Int.reduceToNat] at ho7; rw [← Ny366.out] at ho7))
    have HO368 := aM (Kd.R_lower (nW ho7 HO_3.out) (below_size dB))
    replace HO_3 := oE HO_3.out ho7 hb
    replace HB := hS HB.out hb
    clear hb ho7
    obtain ⟨Ao9, co9, eo9⟩ := Kd.R_slice HO368.out
    (first | subst eo9 | (injection eo9 with f1_ f2_ f3_; have f4_ := f1_.symm; have f5_ := f3_.symm; clear f1_ f2_ f3_; subst f4_; subst f5_))
    refine hK.out _ _ ⟨((HB.out.cell (World.block_lt_of_cell? w _ hw364_0)).trans hw364_0), ((HB.out.cell (World.block_lt_of_cell? w _ hw365_0)).trans hw365_0)⟩ (fun hHeld => ?_)
    clear hK K
    refine norm_ (a' := ?_) ?_ ?_
    rotate_left
    ·show Act.put _ (some 22) _ = _
     simp only [Act.put, List.setIfInBounds_toArray, List.set_cons_zero, List.set_cons_succ, i64_w, i32_w]
     rfl
    refine one_ (i := 12) (N := some 23) #[true, true, true, true, true, true, true, true, true, true, true, true, true, false] rfl rfl (one_of HT_.out (by kernel_rfl)) (by decide) (fun K hK => ?_)
    refine Kd.R_append_rows_step (Kd.int .u64) (w0 := w) w.heap.size (by rfl) (.tmp 11) (.tmp 22) 37 22 (.int .u64 0) 8 rfl Tryd.underlying37 info22 rfl (by decide) (by omega) u3 x3_1 y366 _ _ _ (fun k_ => oN Ao9 y366 co9 k_) (fun _ => False) rfl rfl ?aO ?aR (fun _ _ h => h) (fun _ h => h.elim) ?aF ?aB ?aS ?aL ?_
    (case aR => repeat (first | exact (Kd.R_reads' HO368.out).2.2 | (with_reducible refine Kd.C_alloc ?_ _) | (with_reducible refine Kd.C_drewN ?_ _) | (with_reducible refine Kd.C_drew ?_)))
    (case aB => exact dB)
    (case aF => exact (fun k_ hk => Kd.fresh' (Kd.R_lt (dR HO368.out)) k_ hk))
    (case aO => exact (oM HO_3.out (fun _ hk => hk.2)))
    (case aS => exact (below_size dB))
    (case aL => have := LMc4.out; omega)
    intro v370 w8 ho hb hg hat
    rw [← Ny369.out] at ho
    replace HO368 := aM (Kd.R_after (ok := (fun _ => True)) (dR HO368.out) hg hat)
    replace HB := aM (hb)
    have HO371 := aM (ho)
    clear HO_3
    clear ho hb hg hat
    refine hK.out _ _ ⟨((HB.out.cell (World.block_lt_of_cell? w _ hw364_0)).trans hw364_0), ((HB.out.cell (World.block_lt_of_cell? w _ hw365_0)).trans hw365_0)⟩ (fun hHeld => ?_)
    clear hK K
    refine norm_ (a' := ?_) ?_ ?_
    rotate_left
    ·show Act.put _ (some 23) _ = _
     simp only [Act.put, List.setIfInBounds_toArray, List.set_cons_zero, List.set_cons_succ, i64_w, i32_w]
     rfl
    refine pP 13 (some 3) ?_
    refine done_ (done_of HT_.out (by kernel_rfl)) ?_
    try go_wp2
    go_roundg k1
    case measure => have := HK1.out; omega
    case rel => exact ⟨(y369), (wrap64 (x4_1 + 1)), dF, H', ⟨by have := HK1.out; omega⟩, ⟨oM HO371.out (fun _ hk => trivial)⟩, ⟨dB⟩⟩
   ·rw [if_neg c2] at H
    have c2b0 := decide_eq_false c2
    clear c2
    replace H := oA H
    obtain ⟨t372, A10, H⟩ := H
    (try dsimp only at H)
    obtain rfl := Option.some.inj H
    obtain ⟨Ao11, co11, rfl⟩ := Kd.R_slice HO_3.out
    go_wp2_with (first | ((with_reducible refine gate_callee (f := 82) rfl ?_); refine gL (some 25) Tryd.func82 #[.slice Ao11 x3_1.length co11] ?_; (with_reducible refine (plumbref04_cut.calls k1 (fun k_ => some k_ = (.slice Ao11 x3_1.length co11 : Value).ownBlock) (.slice Ao11 x3_1.length co11) x3_1 t372 w _ ?side1 ?side2 A10.out).mono ?_); (case side1 => repeat (first | (with_reducible first | exact HB.out | apply below_alloc | apply pw_below_drewN | apply below_drew1) | exact HB.out)); (case side2 => exact Kd.R_tight rfl HO_3.out); rintro e w12 ⟨v373, rfl, ho0, hb, hkp⟩; refine ⟨_, rfl, ?_⟩; have HO374 := aM (Kd.R_mono (ok' := fun k_ => True) ho0 (fun k_ hk_ => trivial)); replace HB := aM (hb); clear HO_3; (try clear hb); (try clear hkp); (try clear ho0)))
    go_ret
    exact ⟨_, dE, dR HO374.out, dB⟩
end Go.Proofs.YthjleohmlohgbaaDoor.PA
