/- A part of the proof (8). -/
import Derived.Test.YthjleohmlohgbaaDoorYRVR2
import Derived.Test.YthjleohmlohgbaaDoorYRVR6
import Derived.Test.YthjleohmlohgbaaDoorYRVR7
import Derived.Test.YthjleohmlohgbaaDoorYRVR3
import Derived.Test.YthjleohmlohgbaaDoorYRVR4
import Derived.Test.YthjleohmlohgbaaDoorYRVR5
import Derived.KernelRfl
namespace Go.Proofs.YthjleohmlohgbaaDoor.PA
open Go.RowKit Go.Proofs.YthjleohmlohgbaaDoorW.PrintWords Go.Proofs.YthjleohmlohgbaaDoorW.PrintLast Go.Proofs.YthjleohmlohgbaaDoorW.PrintMore
attribute [local go_sem] max2_int min2_int max_two min_two max_three min_three max_four min_four
set_option linter.unusedVariables false
set_option linter.unusedSimpArgs false
def plumblaw13_without.l0 : Nat → ByteArray → List Int → Int → Option (ByteArray)
 | 0, _, _, _ => none
 | k + 1, x0, x3, x4 => if x4 < (x0.size : Int) then (if 0 ≤ x4 then (if (bt x0 x4) = 45 then (plumblaw13_without.l0 k x0 x3 (wrap64 (x4 + 1))) else (if (bt x0 x4) = 46 then (plumblaw13_without.l0 k x0 x3 (wrap64 (x4 + 1))) else (if x3.length < 140737488355328 then (plumblaw13_without.l0 k x0 (x3 ++ [bt x0 x4]) (wrap64 (x4 + 1))) else (none)))) else (none)) else (some (strOfNums x3))
def plumblaw13_without.f (k : Nat) (a0 : ByteArray) : Option (ByteArray) := plumblaw13_without.l0 k a0 ([] : List Int) 0
set_option maxHeartbeats 8000000 in
set_option maxRecDepth 100000 in
theorem plumblaw13_without.calls (k : Nat) (a0 : ByteArray) (r : ByteArray) (w : World) (h : plumblaw13_without.f k a0 = some r) :
  Calls Tryd.prog 14 #[.string a0] w fun e w' => e = .returned (.string r) ∧ Below w.heap.size w w' := by
 have HB := aM (Below.refl w.heap.size w)
 have H := h
 clear h
 unfold plumblaw13_without.f at H
 have H' := aM H
 clear H
 go_enter Tryd.func14, Tryd.ntmps14
 go_wp2
 go_loopg [3, 4] k (fun kq v3 v4 w' => ∃ (x3_1 : List Int) (x4_1 : Int), v4 = .int .i64 x4_1 ∧ Aside0 (plumblaw13_without.l0 kq a0 x3_1 x4_1 = some r) ∧ Aside0 (kq ≤ k) ∧ Aside0 (Kd.R (Kd.int .u8) 5 w' w.heap.size (fun _ => True) v3 x3_1) ∧ Aside0 (Below w.heap.size w w'))
 case atStart => exact ⟨(([] : List Int)), (0), dF, H', ⟨Nat.le_refl _⟩, ⟨by first | exact Kd.R_nil _ _ _ _ _ | exact Kd.N_nil _ _ _ _ _ | exact Kd.V_nil _ _ _ _ _ | exact Kd.Q_nil _ _ _ _ _ | exact Kd.S_nil _ _ _ _ _⟩, ⟨dB⟩⟩
 case round =>
  clear H'
  obtain ⟨x3_1, x4_1, rfl, HA, HK1, HO_3, HB⟩ := hrel
  cases gk with
  | zero => exact absurd HA.out (by simp [plumblaw13_without.l0])
  | succ k1 =>
   have H := HA.out
   clear HA
   simp only [plumblaw13_without.l0] at H
   by_cases c2 : x4_1 < (a0.size : Int)
   ·rw [if_pos c2] at H
    have c2b0 := decide_eq_true c2
    clear c2
    replace H := nO H
    obtain ⟨c3, H⟩ := H
    have c3b0 : decide (0 ≤ x4_1) = true := decide_eq_true c3
    clear c3
    by_cases c5 : (bt a0 x4_1) = 45
    ·rw [if_pos c5] at H
     obtain ⟨c5b0, c5b1⟩ := bT c5
     clear c5
     have H' := aM H
     clear H
     have p4 : 0 ≤ (x4_1 : Int) := of_decide_eq_true dS
     have q4 : x4_1 < (a0.size : Int) := of_decide_eq_true dS
     have hx4 := bt_at a0 x4_1
     replace p4 := eq_true p4
     replace q4 := eq_true q4
     go_wp2
     go_roundg k1
     case measure => have := HK1.out; omega
     case rel => exact ⟨(x3_1), (wrap64 (x4_1 + 1)), dF, H', ⟨by have := HK1.out; omega⟩, ⟨dR HO_3.out⟩, ⟨dB⟩⟩
    ·rw [if_neg c5] at H
     obtain ⟨c5b0, c5b1⟩ := bF c5
     by_cases c7 : (bt a0 x4_1) = 46
     ·rw [if_pos c7] at H
      obtain ⟨c7b0, c7b1⟩ := bT c7
      clear c7
      have H' := aM H
      clear H
      have p4 : 0 ≤ (x4_1 : Int) := of_decide_eq_true dS
      have q4 : x4_1 < (a0.size : Int) := of_decide_eq_true dS
      have hx4 := bt_at a0 x4_1
      replace p4 := eq_true p4
      replace q4 := eq_true q4
      have p6 : 0 ≤ (x4_1 : Int) := of_decide_eq_true dS
      have q6 : x4_1 < (a0.size : Int) := of_decide_eq_true dS
      have hx6 := bt_at a0 x4_1
      replace p6 := eq_true p6
      replace q6 := eq_true q6
      go_wp2
      go_roundg k1
      case measure => have := HK1.out; omega
      case rel => exact ⟨(x3_1), (wrap64 (x4_1 + 1)), dF, H', ⟨by have := HK1.out; omega⟩, ⟨dR HO_3.out⟩, ⟨dB⟩⟩
     ·rw [if_neg c7] at H
      obtain ⟨c7b0, c7b1⟩ := bF c7
      replace H := nO H
      obtain ⟨c9, H⟩ := H
      have LMc9 := aM c9
      clear c9
      obtain ⟨y527, hy527⟩ : ∃ y_ : List Int, y_ = (x3_1 ++ [bt a0 x4_1]) := ⟨_, rfl⟩
      replace H : (plumblaw13_without.l0 k1 a0 y527 (wrap64 (x4_1 + 1))) = some r := by first | (rw [hy527]; with_reducible exact H) | (have H2_ := (Option.bind_some _ _).symm.trans H; rw [hy527]; with_reducible exact H2_) | (have H2_ := (Option.bind_some _ _).symm.trans H; with_reducible exact H2_) | with_reducible exact H | (rw [hy527]; exact H) | exact H
      have Ny527 := aM hy527
      clear hy527
      have H' := aM H
      clear H
      have p4 : 0 ≤ (x4_1 : Int) := of_decide_eq_true dS
      have q4 : x4_1 < (a0.size : Int) := of_decide_eq_true dS
      have hx4 := bt_at a0 x4_1
      replace p4 := eq_true p4
      replace q4 := eq_true q4
      have p6 : 0 ≤ (x4_1 : Int) := of_decide_eq_true dS
      have q6 : x4_1 < (a0.size : Int) := of_decide_eq_true dS
      have hx6 := bt_at a0 x4_1
      replace p6 := eq_true p6
      replace q6 := eq_true q6
      have p8 : 0 ≤ (x4_1 : Int) := of_decide_eq_true dS
      have q8 : x4_1 < (a0.size : Int) := of_decide_eq_true dS
      have hx8 := bt_at a0 x4_1
      replace p8 := eq_true p8
      replace q8 := eq_true q8
      go_wp2_with (first | ((with_reducible refine gate_builtin (b := .append) (xs := #[.tmp 21, .tmp 25]) rfl ?_); at_builtin; refine Kd.R_append (Kd.int .u8) (w0 := w) w.heap.size rfl (.tmp 21) (.tmp 25) 45 5 (.int .u8 0) 1 rfl Tryd.underlying45 info5 rfl (by decide) (by omega) u3 x3_1 (bt a0 x4_1) [.int .u8 (bt a0 x4_1)] (fun _ => True) (fun _ => False) rfl rfl ?aP (fun _ hk => hk.elim) ?aF ?aO ?aB ?aS ?aL ?_; (case aP => exact rfl); (case aB => exact dB); (case aF => exact (fun _ _ => trivial)); (case aO => exact (dR HO_3.out)); (case aS => exact (below_size dB)); (case aL => have := LMc9.out; omega); intro v528 w10 ho hb hg hat; rw [← Ny527.out] at ho; replace HB := aM (hb); have HO529 := aM (ho); clear HO_3; clear ho hb hg hat))
      go_roundg k1
      case measure => have := HK1.out; omega
      case rel => exact ⟨(y527), (wrap64 (x4_1 + 1)), dF, H', ⟨by have := HK1.out; omega⟩, ⟨dR HO529.out⟩, ⟨dB⟩⟩
   ·rw [if_neg c2] at H
    have c2b0 := decide_eq_false c2
    clear c2
    obtain rfl := Option.some.inj H
    have hcv11 := own_string (P := Tryd.prog) Tryd.underlying45 Tryd.underlying5 Tryd.underlying9 (Kd.own_of_R HO_3.out)
    go_wp2
    go_ret
    exact ⟨dE, dB⟩
def wide_Cmp.j0 : Nat → Int → Int → Int → Int → Bool → Option (Int)
 | 0, _, _, _, _, _ => none
 | k + 1, x0, x1, x2, x3, x9 => if x9 = true then (some (-1)) else (if x0 = x2 then (if x1 = x3 then (some 0) else (some 1)) else (some 1))
def wide_Cmp.f (k : Nat) (a0 : Int) (a1 : Int) (a2 : Int) (a3 : Int) : Option (Int) := if a0 < a2 then (wide_Cmp.j0 k a0 a1 a2 a3 true) else (if a0 = a2 then (wide_Cmp.j0 k a0 a1 a2 a3 (decide (a1 < a3))) else (wide_Cmp.j0 k a0 a1 a2 a3 false))
set_option maxHeartbeats 8000000 in
set_option maxRecDepth 100000 in
theorem wide_Cmp.calls (k : Nat) (a0 : Int) (a1 : Int) (a2 : Int) (a3 : Int) (r : Int) (w : World) (h : wide_Cmp.f k a0 a1 a2 a3 = some r) :
  Calls Tryd.prog 34 #[.int .u64 a0, .int .u64 a1, .int .u64 a2, .int .u64 a3] w fun e w' => e = .returned (.int .i64 r) ∧ Drawn0 w w' := by
 have H := h
 clear h
 unfold wide_Cmp.f at H
 have HC5 := aM H
 clear H
 go_enter Tryd.func34, Tryd.ntmps34
 go_upto_region 1 with (fail)
 go_cut [9] (fun v9 wc => ∃ (kq : Nat) (x9_4 : Bool), v9 = .bool x9_4 ∧ Aside0 (wide_Cmp.j0 kq a0 a1 a2 a3 x9_4 = some r) ∧ Aside0 (kq ≤ k) ∧ Drawn0 w wc)
 case first =>
  have H := HC5.out
  clear HC5
  by_cases c6 : a0 < a2
  ·rw [if_pos c6] at H
   have c6b0 := decide_eq_true c6
   clear c6
   (first | rw [c6b0] | (simp only [i64_w, i32_w]; rw [c6b0]) | skip)
   have H' := aM H
   clear H
   go_wp2
   go_meet
   case rel => exact ⟨_, (true), dF, H', ⟨dN⟩, dD⟩
  ·rw [if_neg c6] at H
   have c6b0 := decide_eq_false c6
   clear c6
   (first | rw [c6b0] | (simp only [i64_w, i32_w]; rw [c6b0]) | skip)
   by_cases c7 : a0 = a2
   ·rw [if_pos c7] at H
    obtain ⟨c7b0, c7b1⟩ := bT c7
    clear c7
    have H' := aM H
    clear H
    go_wp2
    go_meet
    case rel => exact ⟨_, (decide (a1 < a3)), dF, H', ⟨dN⟩, dD⟩
   ·rw [if_neg c7] at H
    obtain ⟨c7b0, c7b1⟩ := bF c7
    have H' := aM H
    clear H
    go_wp2
    go_meet
    case rel => exact ⟨_, (false), dF, H', ⟨dN⟩, dD⟩
 case rest =>
  clear HC5
  obtain ⟨kq, x9_4, rfl, HA, HJ4, ⟨mc4, rfl⟩⟩ := hcut
  cases kq with
  | zero => exact absurd HA.out (by simp [wide_Cmp.j0])
  | succ kj4 =>
   have H := HA.out
   clear HA
   simp only [wide_Cmp.j0] at H
   by_cases c8 : x9_4 = true
   ·subst c8
    rw [if_pos rfl] at H
    (try dsimp only at H)
    obtain rfl := Option.some.inj H
    go_wp2
    go_ret
    exact ⟨dF, dD⟩
   ·replace c8 := Bool.eq_false_iff.mpr c8
    subst c8
    rw [if_neg (show ¬ (false = true) by decide)] at H
    (try dsimp only at H)
    by_cases c9 : a0 = a2
    ·rw [if_pos c9] at H
     obtain ⟨c9b0, c9b1⟩ := bT c9
     clear c9
     by_cases c10 : a1 = a3
     ·rw [if_pos c10] at H
      obtain ⟨c10b0, c10b1⟩ := bT c10
      clear c10
      obtain rfl := Option.some.inj H
      go_wp2
      go_ret
      exact ⟨dF, dD⟩
     ·rw [if_neg c10] at H
      obtain ⟨c10b0, c10b1⟩ := bF c10
      obtain rfl := Option.some.inj H
      go_wp2
      go_ret
      exact ⟨dF, dD⟩
    ·rw [if_neg c9] at H
     obtain ⟨c9b0, c9b1⟩ := bF c9
     obtain rfl := Option.some.inj H
     go_wp2
     go_ret
     exact ⟨dF, dD⟩
def nat_Cmp.l0 : Nat → List Int → List Int → Int → Option (Int)
 | 0, _, _, _ => none
 | k + 1, x0, x1, x7 => if x7 ≥ 0 then (if 0 ≤ x7 then (if x7 < (x0.length : Int) then (if x7 < (x1.length : Int) then ((wide_Cmp.f k 0 (rd x0 x7) 0 (rd x1 x7)).bind fun t534 => (if t534 = 0 then (nat_Cmp.l0 k x0 x1 (wrap64 (x7 - 1))) else (some t534))) else (none)) else (none)) else (none)) else (some 0)
def nat_Cmp.f (k : Nat) (l0 : List Int) (l1 : List Int) : Option (Int) := (nat_size.f k l0).bind fun t530 => ((nat_size.f k l1).bind fun t531 => (if t530 = t531 then (nat_Cmp.l0 k l0 l1 (wrap64 (t530 - 1))) else (if t530 < t531 then (some (-1)) else (some 1))))
set_option maxHeartbeats 8000000 in
set_option maxRecDepth 100000 in
theorem nat_Cmp.calls (k : Nat) (A0 : Option Addr) (c0 : Nat) (l0 : List Int) (A1 : Option Addr) (c1 : Nat) (l1 : List Int) (r : Int) (w : World) (hr0 : Kd.C (Kd.int .u64) w A0 l0.length l0) (hc0 : l0.length ≤ c0) (hr1 : Kd.C (Kd.int .u64) w A1 l1.length l1) (hc1 : l1.length ≤ c1) (h : nat_Cmp.f k l0 l1 = some r) :
  Calls Tryd.prog 15 #[.slice A0 l0.length c0, .slice A1 l1.length c1] w fun e w' => e = .returned (.int .i64 r) ∧ Drawn0 w w' := by
 have HR0 := aM hr0
 have HC0 := aM hc0
 clear hr0 hc0
 have HR1 := aM hr1
 have HC1 := aM hc1
 clear hr1 hc1
 have H := h
 clear h
 unfold nat_Cmp.f at H
 replace H := oA H
 obtain ⟨t530, A3, H⟩ := H
 (try dsimp only at H)
 replace H := oA H
 obtain ⟨t531, A4, H⟩ := H
 (try dsimp only at H)
 by_cases c5 : t530 = t531
 ·rw [if_pos c5] at H
  obtain ⟨c5b0, c5b1⟩ := bT c5
  clear c5
  have H' := aM H
  clear H
  go_enter Tryd.func15, Tryd.ntmps15
  iterate 6 (go_wp2_with (first | (go_at_call 33; (with_reducible refine (nat_size.calls k _ _ l0 t530 _ ?side1 HC0.out A3.out).mono ?_); (case side1 => exact dC HR0.out); rintro e w' ⟨rfl, ⟨nd, rfl⟩⟩; (try exact dW)) | (go_at_call 33; (with_reducible refine (nat_size.calls k _ _ l1 t531 _ ?side1 HC1.out A4.out).mono ?_); (case side1 => exact dC HR1.out); rintro e w' ⟨rfl, ⟨nd, rfl⟩⟩; (try exact dW))); try go_quiet (first | (go_at_call 33; (with_reducible refine (nat_size.calls k _ _ l0 t530 _ ?side1 HC0.out A3.out).mono ?_); (case side1 => exact dC HR0.out); rintro e w' ⟨rfl, ⟨nd, rfl⟩⟩; (try exact dW)) | (go_at_call 33; (with_reducible refine (nat_size.calls k _ _ l1 t531 _ ?side1 HC1.out A4.out).mono ?_); (case side1 => exact dC HR1.out); rintro e w' ⟨rfl, ⟨nd, rfl⟩⟩; (try exact dW))))
  go_loopg [7] k (fun kq v7 w' => ∃ (x7_1 : Int), v7 = .int .i64 x7_1 ∧ Aside0 (nat_Cmp.l0 kq l0 l1 x7_1 = some r) ∧ Aside0 (kq ≤ k) ∧ Drawn0 w w')
  case atStart => exact ⟨(wrap64 (t530 - 1)), dF, H', ⟨Nat.le_refl _⟩, dD⟩
  case round =>
   clear H'
   try clear c1
   try clear c5
   try clear c5b0 c5b1
   obtain ⟨x7_1, rfl, HA, HK1, ⟨m1, rfl⟩⟩ := hrel
   cases gk with
   | zero => exact absurd HA.out (by simp [nat_Cmp.l0])
   | succ k1 =>
    have H := HA.out
    clear HA
    simp only [nat_Cmp.l0] at H
    by_cases c6 : x7_1 ≥ 0
    ·rw [if_pos c6] at H
     have c6b0 : decide (0 ≤ x7_1) = true := decide_eq_true c6
     clear c6
     replace H := nO H
     obtain ⟨c7, H⟩ := H
     have c7b0 : decide (0 ≤ x7_1) = true := decide_eq_true c7
     clear c7
     replace H := nO H
     obtain ⟨c8, H⟩ := H
     have c8b0 := decide_eq_true c8
     clear c8
     replace H := nO H
     obtain ⟨c9, H⟩ := H
     have c9b0 := decide_eq_true c9
     clear c9
     replace H := oA H
     obtain ⟨t534, A10, H⟩ := H
     (try dsimp only at H)
     by_cases c11 : t534 = 0
     ·rw [if_pos c11] at H
      obtain ⟨c11b0, c11b1⟩ := bT c11
      clear c11
      have H' := aM H
      clear H
      have p532 : 0 ≤ (x7_1 : Int) := of_decide_eq_true dS
      have q532 : x7_1 < (l0.length : Int) := of_decide_eq_true dS
      obtain ⟨ad532, e532, hx532_0⟩ := Kd.at_int HR0.out x7_1 p532 q532
      cases e532
      replace p532 := eq_true p532
      replace q532 := eq_true q532
      have p533 : 0 ≤ (x7_1 : Int) := of_decide_eq_true dS
      have q533 : x7_1 < (l1.length : Int) := of_decide_eq_true dS
      obtain ⟨ad533, e533, hx533_0⟩ := Kd.at_int HR1.out x7_1 p533 q533
      cases e533
      replace p533 := eq_true p533
      replace q533 := eq_true q533
      iterate 6 (go_wp2_with (first | (go_at_call 34; (with_reducible refine (wide_Cmp.calls k1 0 (rd l0 x7_1) 0 (rd l1 x7_1) t534 _ A10.out).mono ?_); rintro e w' ⟨rfl, ⟨nd, rfl⟩⟩; (try exact dW))); try go_quiet (first | (go_at_call 34; (with_reducible refine (wide_Cmp.calls k1 0 (rd l0 x7_1) 0 (rd l1 x7_1) t534 _ A10.out).mono ?_); rintro e w' ⟨rfl, ⟨nd, rfl⟩⟩; (try exact dW))))
      go_roundg k1
      case measure => have := HK1.out; omega
      case rel => exact ⟨(wrap64 (x7_1 - 1)), dF, H', ⟨by have := HK1.out; omega⟩, dD⟩
     ·rw [if_neg c11] at H
      obtain ⟨c11b0, c11b1⟩ := bF c11
      obtain rfl := Option.some.inj H
      have p532 : 0 ≤ (x7_1 : Int) := of_decide_eq_true dS
      have q532 : x7_1 < (l0.length : Int) := of_decide_eq_true dS
      obtain ⟨ad532, e532, hx532_0⟩ := Kd.at_int HR0.out x7_1 p532 q532
      cases e532
      replace p532 := eq_true p532
      replace q532 := eq_true q532
      have p533 : 0 ≤ (x7_1 : Int) := of_decide_eq_true dS
      have q533 : x7_1 < (l1.length : Int) := of_decide_eq_true dS
      obtain ⟨ad533, e533, hx533_0⟩ := Kd.at_int HR1.out x7_1 p533 q533
      cases e533
      replace p533 := eq_true p533
      replace q533 := eq_true q533
      iterate 6 (go_wp2_with (first | (go_at_call 34; (with_reducible refine (wide_Cmp.calls k1 0 (rd l0 x7_1) 0 (rd l1 x7_1) t534 _ A10.out).mono ?_); rintro e w' ⟨rfl, ⟨nd, rfl⟩⟩; (try exact dW))); try go_quiet (first | (go_at_call 34; (with_reducible refine (wide_Cmp.calls k1 0 (rd l0 x7_1) 0 (rd l1 x7_1) t534 _ A10.out).mono ?_); rintro e w' ⟨rfl, ⟨nd, rfl⟩⟩; (try exact dW))))
      go_ret
      exact ⟨dF, dD⟩
    ·rw [if_neg c6] at H
     have c6b0 : decide (0 ≤ x7_1) = false := decide_eq_false c6
     clear c6
     obtain rfl := Option.some.inj H
     go_wp2
     repeat (go_quiet (fail); try go_wp2)
     go_ret
     exact ⟨dF, dD⟩
 ·rw [if_neg c5] at H
  obtain ⟨c5b0, c5b1⟩ := bF c5
  by_cases c12 : t530 < t531
  ·rw [if_pos c12] at H
   have c12b0 := decide_eq_true c12
   clear c12
   obtain rfl := Option.some.inj H
   go_enter Tryd.func15, Tryd.ntmps15
   iterate 6 (go_wp2_with (first | (go_at_call 33; (with_reducible refine (nat_size.calls k _ _ l0 t530 _ ?side1 HC0.out A3.out).mono ?_); (case side1 => exact dC HR0.out); rintro e w' ⟨rfl, ⟨nd, rfl⟩⟩; (try exact dW)) | (go_at_call 33; (with_reducible refine (nat_size.calls k _ _ l1 t531 _ ?side1 HC1.out A4.out).mono ?_); (case side1 => exact dC HR1.out); rintro e w' ⟨rfl, ⟨nd, rfl⟩⟩; (try exact dW))); try go_quiet (first | (go_at_call 33; (with_reducible refine (nat_size.calls k _ _ l0 t530 _ ?side1 HC0.out A3.out).mono ?_); (case side1 => exact dC HR0.out); rintro e w' ⟨rfl, ⟨nd, rfl⟩⟩; (try exact dW)) | (go_at_call 33; (with_reducible refine (nat_size.calls k _ _ l1 t531 _ ?side1 HC1.out A4.out).mono ?_); (case side1 => exact dC HR1.out); rintro e w' ⟨rfl, ⟨nd, rfl⟩⟩; (try exact dW))))
   go_ret
   exact ⟨dF, dD⟩
  ·rw [if_neg c12] at H
   have c12b0 := decide_eq_false c12
   clear c12
   obtain rfl := Option.some.inj H
   go_enter Tryd.func15, Tryd.ntmps15
   iterate 6 (go_wp2_with (first | (go_at_call 33; (with_reducible refine (nat_size.calls k _ _ l0 t530 _ ?side1 HC0.out A3.out).mono ?_); (case side1 => exact dC HR0.out); rintro e w' ⟨rfl, ⟨nd, rfl⟩⟩; (try exact dW)) | (go_at_call 33; (with_reducible refine (nat_size.calls k _ _ l1 t531 _ ?side1 HC1.out A4.out).mono ?_); (case side1 => exact dC HR1.out); rintro e w' ⟨rfl, ⟨nd, rfl⟩⟩; (try exact dW))); try go_quiet (first | (go_at_call 33; (with_reducible refine (nat_size.calls k _ _ l0 t530 _ ?side1 HC0.out A3.out).mono ?_); (case side1 => exact dC HR0.out); rintro e w' ⟨rfl, ⟨nd, rfl⟩⟩; (try exact dW)) | (go_at_call 33; (with_reducible refine (nat_size.calls k _ _ l1 t531 _ ?side1 HC1.out A4.out).mono ?_); (case side1 => exact dC HR1.out); rintro e w' ⟨rfl, ⟨nd, rfl⟩⟩; (try exact dW))))
   go_ret
   exact ⟨dF, dD⟩
def radix_Parse.fB (k : Nat) (a0 : ByteArray) (a1 : Int) : Option (List Int × Bool) := (radix_Parse.f k a0 a1).bind fun y => some (y.1, decide (y.2.1 ≠ 0))
theorem radix_Parse.callsB (k : Nat) (a0 : ByteArray) (a1 : Int) (r1 : List Int) (r2 : Bool) (w : World) (h : radix_Parse.fB k a0 a1 = some (r1, r2)) :
  Calls Tryd.prog 13 #[.string a0, .int .i64 a1] w fun e w' => ∃ v0_ ve_ : Value, e = .returned (.tuple #[v0_, ve_]) ∧ Kd.R (Kd.int .u64) 22 w' w.heap.size (fun _ => True) v0_ r1 ∧ Below w.heap.size w w' ∧ (r2 = true → ∃ g, ve_ = .iface 84 (.pointer (some ⟨g, 0, none⟩))) ∧ (r2 = false → ve_ = .nilIface) := by
 unfold radix_Parse.fB at h
 replace h := Option.bind_eq_some_iff.mp h
 obtain ⟨⟨y1, y2, y3⟩, h1, h⟩ := h
 simp only [Option.some.injEq, Prod.mk.injEq] at h
 obtain ⟨rfl, rfl⟩ := h
 refine (radix_Parse.calls k a0 a1 _ _ _ w h1).mono ?_
 rintro e w' ⟨v0, ve, rfl, ho, hb, hf⟩
 unfold faultIs at hf
 refine ⟨v0, ve, rfl, ho, hb, fun h2 => ?_, fun h2 => ?_⟩
 ·rw [if_neg (of_decide_eq_true h2)] at hf
  obtain ⟨g, hg, _⟩ := hf
  exact ⟨g, hg⟩
 ·have h3 := of_decide_eq_false h2
  rw [if_pos (Classical.not_not.1 h3)] at hf
  exact hf
def errB (g : Nat) (b : Bool) : Value := if b = true then .iface 84 (.pointer (some ⟨g, 0, none⟩)) else .nilIface
theorem errB_true (g : Nat) : errB g true = .iface 84 (.pointer (some ⟨g, 0, none⟩)) := rfl
theorem errB_false (g : Nat) : errB g false = .nilIface := rfl
theorem radix_Parse.callsE (k : Nat) (a0 : ByteArray) (a1 : Int) (r1 : List Int) (r2 : Bool) (w : World) (h : radix_Parse.fB k a0 a1 = some (r1, r2)) :
  Calls Tryd.prog 13 #[.string a0, .int .i64 a1] w fun e w' => ∃ (v0_ : Value) (g_ : Nat), e = .returned (.tuple #[v0_, errB g_ r2]) ∧ Kd.R (Kd.int .u64) 22 w' w.heap.size (fun _ => True) v0_ r1 ∧ Below w.heap.size w w' := by
 refine (radix_Parse.callsB k a0 a1 r1 r2 w h).mono ?_
 rintro e w' ⟨v0, ve, rfl, ho, hb, h1, h2⟩
 cases r2 with
 | true =>
  obtain ⟨g, rfl⟩ := h1 rfl
  exact ⟨v0, g, rfl, ho, hb⟩
 | false =>
  obtain rfl := h2 rfl
  exact ⟨v0, 0, rfl, ho, hb⟩
theorem guard_neq_errB (g : Nat) (b : Bool) (n : Nat) (w : World) : Sem.run Tryd.prog (eqGuard BinOp.neq 39 (Operand.tmp n) (Operand.const Value.nilIface) (errB g b) .nilIface) w = .ok () w := by
 cases b <;> simp [errB_true, errB_false, go_sem]
theorem guard_eql_errB (g : Nat) (b : Bool) (n : Nat) (w : World) : Sem.run Tryd.prog (eqGuard BinOp.eql 39 (Operand.tmp n) (Operand.const Value.nilIface) (errB g b) .nilIface) w = .ok () w := by
 cases b <;> simp [errB_true, errB_false, go_sem]
theorem neq_errB (g : Nat) (b : Bool) (w : World) : Sem.run Tryd.prog (binOp BinOp.neq 39 (errB g b) .nilIface) w = .ok (.bool b) w := by
 cases b <;> simp [errB_true, errB_false, go_sem]
theorem eql_errB (g : Nat) (b : Bool) (w : World) : Sem.run Tryd.prog (binOp BinOp.eql 39 (errB g b) .nilIface) w = .ok (.bool (!b)) w := by
 cases b <;> simp [errB_true, errB_false, go_sem]
attribute [local go_sem] errB_true errB_false guard_neq_errB guard_eql_errB neq_errB eql_errB
mutual
def plumblaw13_ExpandRises.j0 : Nat → Int → Int → Int → Bool → Option (Bool)
 | 0, _, _, _, _ => none
 | k + 1, x0, x1, x2, x30 => if x30 = true then ((plumblaw13_alive.f k).bind fun t360 => (some t360)) else ((plumblaw13_size.f x0).bind fun t361 => ((plumblaw13_size.f x1).bind fun t362 => (if t361 > t362 then (plumblaw13_ExpandRises.j1 k t362 t361 x2) else (plumblaw13_ExpandRises.j1 k t361 t362 x2))))
def plumblaw13_ExpandRises.j1 : Nat → Int → Int → Int → Option (Bool)
 | 0, _, _, _ => none
 | k + 1, x0, x1, x2 => (expand_Fixed.f k x0 x2).bind fun bt363 => ((expand_Fixed.f k x1 x2).bind fun bt365 => ((plumblaw13_without.f k bt363.1).bind fun t367 => ((radix_Parse.fB k t367 10).bind fun bt368 => ((plumblaw13_without.f k bt365.1).bind fun t372 => ((radix_Parse.fB k t372 10).bind fun bt373 => (if bt363.2 = 0 then (if bt365.2 = 0 then (if bt368.2 = true then (none) else (if bt373.2 = true then (none) else ((nat_Cmp.f k bt368.1 bt373.1).bind fun t377 => (some (decide (t377 ≤ 0)))))) else (none)) else (none)))))))
end
def plumblaw13_ExpandRises.f (k : Nat) (a0 : Int) (a1 : Int) (a2 : Int) : Option (Bool) := (plumblaw13_alive.f k).bind fun t357 => (if t357 = true then ((plumblaw13_finite.f k a0).bind fun t358 => (if t358 = true then ((plumblaw13_finite.f k a1).bind fun t359 => (plumblaw13_ExpandRises.j0 k a0 a1 (wrap64 (Int.tmod (IntKind.u64.wrap (a2)) 400)) (!t359))) else (plumblaw13_ExpandRises.j0 k a0 a1 (wrap64 (Int.tmod (IntKind.u64.wrap (a2)) 400)) true))) else (plumblaw13_ExpandRises.j0 k a0 a1 (wrap64 (Int.tmod (IntKind.u64.wrap (a2)) 400)) true))
set_option maxHeartbeats 8000000 in
set_option maxRecDepth 100000 in
theorem plumblaw13_ExpandRises.calls (k : Nat) (a0 : Int) (a1 : Int) (a2 : Int) (r : Bool) (w : World) (h : plumblaw13_ExpandRises.f k a0 a1 a2 = some r) :
  Calls Tryd.prog 5 #[.int .u64 a0, .int .u64 a1, .int .i64 a2] w fun e w' => e = .returned (.bool r) ∧ Below w.heap.size w w' := by
 have HB := aM (Below.refl w.heap.size w)
 have H := h
 clear h
 unfold plumblaw13_ExpandRises.f at H
 have HC4 := aM H
 clear H
 go_enter Tryd.func5, Tryd.ntmps5
 go_upto_region 2 with (fail)
 go_cut [30] (fun v30 wc => ∃ (kq : Nat) (x30_3 : Bool), v30 = .bool x30_3 ∧ Aside0 (plumblaw13_ExpandRises.j0 kq a0 a1 (wrap64 (Int.tmod (IntKind.u64.wrap (a2)) 400)) x30_3 = some r) ∧ Aside0 (kq ≤ k) ∧ Aside0 (Below w.heap.size w wc))
 case first =>
  have H := HC4.out
  clear HC4
  replace H := oA H
  obtain ⟨t357, A5, H⟩ := H
  (try dsimp only at H)
  by_cases c6 : t357 = true
  ·subst c6
   rw [if_pos rfl] at H
   (try dsimp only at H)
   replace H := oA H
   obtain ⟨t358, A7, H⟩ := H
   (try dsimp only at H)
   by_cases c8 : t358 = true
   ·subst c8
    rw [if_pos rfl] at H
    (try dsimp only at H)
    replace H := oA H
    obtain ⟨t359, A9, H⟩ := H
    (try dsimp only at H)
    have H' := aM H
    clear H
    go_wp2_with (first | ((with_reducible refine gate_callee (f := 8) rfl ?_); refine gL (some 19) Tryd.func8 #[] ?_; (with_reducible refine (plumblaw13_alive.calls k  true _ A5.out).mono ?_); rintro e w10 ⟨rfl, hb⟩; refine ⟨_, rfl, ?_⟩; replace HB := hS HB.out hb; (try clear hb)) | (go_at_call 11; (with_reducible refine (plumblaw13_finite.calls k a0 true _ A7.out).mono ?_); rintro e w' ⟨rfl, ⟨nd, rfl⟩⟩) | (go_at_call 11; (with_reducible refine (plumblaw13_finite.calls k a1 t359 _ A9.out).mono ?_); rintro e w' ⟨rfl, ⟨nd, rfl⟩⟩))
    go_meet
    case rel => exact ⟨_, (!t359), dF, H', ⟨dN⟩, ⟨dB⟩⟩
   ·replace c8 := Bool.eq_false_iff.mpr c8
    subst c8
    rw [if_neg (show ¬ (false = true) by decide)] at H
    (try dsimp only at H)
    have H' := aM H
    clear H
    go_wp2_with (first | ((with_reducible refine gate_callee (f := 8) rfl ?_); refine gL (some 19) Tryd.func8 #[] ?_; (with_reducible refine (plumblaw13_alive.calls k  true _ A5.out).mono ?_); rintro e w11 ⟨rfl, hb⟩; refine ⟨_, rfl, ?_⟩; replace HB := hS HB.out hb; (try clear hb)) | (go_at_call 11; (with_reducible refine (plumblaw13_finite.calls k a0 false _ A7.out).mono ?_); rintro e w' ⟨rfl, ⟨nd, rfl⟩⟩))
    go_meet
    case rel => exact ⟨_, (true), dF, H', ⟨dN⟩, ⟨dB⟩⟩
  ·replace c6 := Bool.eq_false_iff.mpr c6
   subst c6
   rw [if_neg (show ¬ (false = true) by decide)] at H
   (try dsimp only at H)
   have H' := aM H
   clear H
   go_wp2_with (first | ((with_reducible refine gate_callee (f := 8) rfl ?_); refine gL (some 19) Tryd.func8 #[] ?_; (with_reducible refine (plumblaw13_alive.calls k  false _ A5.out).mono ?_); rintro e w12 ⟨rfl, hb⟩; refine ⟨_, rfl, ?_⟩; replace HB := hS HB.out hb; (try clear hb)))
   go_meet
   case rel => exact ⟨_, (true), dF, H', ⟨dN⟩, ⟨dB⟩⟩
 case rest =>
  clear HC4
  obtain ⟨kq, x30_3, rfl, HA, HJ3, HB⟩ := hcut
  cases kq with
  | zero => exact absurd HA.out (by simp [plumblaw13_ExpandRises.j0])
  | succ kj3 =>
   have H := HA.out
   clear HA
   simp only [plumblaw13_ExpandRises.j0] at H
   by_cases c13 : x30_3 = true
   ·subst c13
    rw [if_pos rfl] at H
    (try dsimp only at H)
    replace H := oA H
    obtain ⟨t360, A14, H⟩ := H
    (try dsimp only at H)
    obtain rfl := Option.some.inj H
    go_wp2_with (first | ((with_reducible refine gate_callee (f := 8) rfl ?_); refine gL (some 31) Tryd.func8 #[] ?_; (with_reducible refine (plumblaw13_alive.calls kj3  t360 _ A14.out).mono ?_); rintro e w15 ⟨rfl, hb⟩; refine ⟨_, rfl, ?_⟩; replace HB := hS HB.out hb; (try clear hb)))
    go_ret
    exact ⟨dE, dB⟩
   ·replace c13 := Bool.eq_false_iff.mpr c13
    subst c13
    rw [if_neg (show ¬ (false = true) by decide)] at H
    (try dsimp only at H)
    replace H := oA H
    obtain ⟨t361, A16, H⟩ := H
    (try dsimp only at H)
    replace H := oA H
    obtain ⟨t362, A17, H⟩ := H
    (try dsimp only at H)
    have HC18 := aM H
    clear H
    go_upto_if 38 with (first | ((with_reducible refine gate_callee (f := 12) rfl ?_); refine gL (some 33) Tryd.func12 #[.int .u64 a0] ?_; (with_reducible refine (plumblaw13_size.calls a0 t361 _ A16.out).mono ?_); rintro e w' ⟨rfl, ⟨nd, rfl⟩⟩; refine ⟨_, rfl, ?_⟩) | ((with_reducible refine gate_callee (f := 12) rfl ?_); refine gL (some 35) Tryd.func12 #[.int .u64 a1] ?_; (with_reducible refine (plumblaw13_size.calls a1 t362 _ A17.out).mono ?_); rintro e w' ⟨rfl, ⟨nd, rfl⟩⟩; refine ⟨_, rfl, ?_⟩))
    (try simp only [Act.put, List.setIfInBounds_toArray, List.set_cons_zero, List.set_cons_succ])
    go_cut [0, 1] (fun v0 v1 wc => ∃ (kq : Nat) (x0_17 : Int) (x1_17 : Int), v0 = .int .u64 x0_17 ∧ v1 = .int .u64 x1_17 ∧ Aside0 (plumblaw13_ExpandRises.j1 kq x0_17 x1_17 (wrap64 (Int.tmod (IntKind.u64.wrap (a2)) 400)) = some r) ∧ Aside0 (kq ≤ kj3) ∧ Aside0 (Below w.heap.size w wc))
    case first =>
     have H := HC18.out
     clear HC18
     by_cases c19 : t361 > t362
     ·rw [if_pos c19] at H
      have c19b0 : decide (t362 < t361) = true := decide_eq_true c19
      clear c19
      (first | rw [c19b0] | (simp only [i64_w, i32_w]; rw [c19b0]) | skip)
      have H' := aM H
      clear H
      go_wp2
      go_meet
      case rel => exact ⟨_, (t362), (t361), dF, dF, H', ⟨by have := HJ3.out; first | omega | exact Nat.le_refl _⟩, ⟨dB⟩⟩
     ·rw [if_neg c19] at H
      have c19b0 : decide (t362 < t361) = false := decide_eq_false c19
      clear c19
      (first | rw [c19b0] | (simp only [i64_w, i32_w]; rw [c19b0]) | skip)
      have H' := aM H
      clear H
      go_wp2
      go_meet
      case rel => exact ⟨_, (t361), (t362), dF, dF, H', ⟨by have := HJ3.out; first | omega | exact Nat.le_refl _⟩, ⟨dB⟩⟩
    case rest =>
     clear HC18
     try clear c13
     obtain ⟨kq, x0_17, x1_17, rfl, rfl, HA, HJ17, HB⟩ := hcut
     cases kq with
     | zero => exact absurd HA.out (by simp [plumblaw13_ExpandRises.j1])
     | succ kj17 =>
      have H := HA.out
      clear HA
      simp only [plumblaw13_ExpandRises.j1] at H
      replace H := oA H
      obtain ⟨⟨t363, t364⟩, A20, H⟩ := H
      (try dsimp only at H)
      replace H := oA H
      obtain ⟨⟨t365, t366⟩, A21, H⟩ := H
      (try dsimp only at H)
      replace H := oA H
      obtain ⟨t367, A22, H⟩ := H
      (try dsimp only at H)
      replace H := oA H
      obtain ⟨⟨t368, t369⟩, A23, H⟩ := H
      (try dsimp only at H)
      replace H := oA H
      obtain ⟨t372, A24, H⟩ := H
      (try dsimp only at H)
      replace H := oA H
      obtain ⟨⟨t373, t374⟩, A25, H⟩ := H
      (try dsimp only at H)
      replace H := nO H
      obtain ⟨c26, H⟩ := H
      obtain ⟨c26b0, c26b1⟩ := bT c26
      clear c26
      replace H := nO H
      obtain ⟨c27, H⟩ := H
      obtain ⟨c27b0, c27b1⟩ := bT c27
      clear c27
      replace H := nR H
      obtain ⟨rfl, H⟩ := H
      (try dsimp only at H)
      replace H := nR H
      obtain ⟨rfl, H⟩ := H
      (try dsimp only at H)
      replace H := oA H
      obtain ⟨t377, A30, H⟩ := H
      (try dsimp only at H)
      obtain rfl := Option.some.inj H
      go_wp2_with (first | ((with_reducible refine gate_callee (f := 6) rfl ?_); refine gL (some 44) Tryd.func6 #[.int .u64 x0_17, .int .i64 (wrap64 (Int.tmod (IntKind.u64.wrap (a2)) 400))] ?_; (with_reducible refine (expand_Fixed.calls kj17 x0_17 (wrap64 (Int.tmod (IntKind.u64.wrap (a2)) 400)) t363 t364 _ A20.out).mono ?_); rintro e w31 ⟨rfl, hb⟩; refine ⟨_, rfl, ?_⟩; replace HB := hS HB.out hb; (try clear hb)) | ((with_reducible refine gate_callee (f := 6) rfl ?_); refine gL (some 50) Tryd.func6 #[.int .u64 x1_17, .int .i64 (wrap64 (Int.tmod (IntKind.u64.wrap (a2)) 400))] ?_; (with_reducible refine (expand_Fixed.calls kj17 x1_17 (wrap64 (Int.tmod (IntKind.u64.wrap (a2)) 400)) t365 t366 _ A21.out).mono ?_); rintro e w32 ⟨rfl, hb⟩; refine ⟨_, rfl, ?_⟩; replace HB := hS HB.out hb; (try clear hb)) | ((with_reducible refine gate_callee (f := 14) rfl ?_); refine gL (some 55) Tryd.func14 #[.string t363] ?_; (with_reducible refine (plumblaw13_without.calls kj17 t363 t367 _ A22.out).mono ?_); rintro e w33 ⟨rfl, hb⟩; refine ⟨_, rfl, ?_⟩; replace HB := hS HB.out hb; (try clear hb)) | ((with_reducible refine gate_callee (f := 13) rfl ?_); refine gL (some 56) Tryd.func13 #[.string t367, .int .i64 10] ?_; (with_reducible refine (radix_Parse.callsE kj17 t367 10 t368 false _ A23.out).mono ?_); rintro e w34 ⟨v370, gv370, rfl, ho0, hb⟩; refine ⟨_, rfl, ?_⟩; have HO371 := aM (Kd.R_lower ho0 (below_size dB)); replace HB := hS HB.out hb; (try clear hb); (try clear ho0)) | ((with_reducible refine gate_callee (f := 14) rfl ?_); refine gL (some 61) Tryd.func14 #[.string t365] ?_; (with_reducible refine (plumblaw13_without.calls kj17 t365 t372 _ A24.out).mono ?_); rintro e w35 ⟨rfl, hb⟩; refine ⟨_, rfl, ?_⟩; replace HO371 := oB HO371.out hb; replace HB := hS HB.out hb; (try clear hb)) | ((with_reducible refine gate_callee (f := 13) rfl ?_); refine gL (some 62) Tryd.func13 #[.string t372, .int .i64 10] ?_; (with_reducible refine (radix_Parse.callsE kj17 t372 10 t373 false _ A25.out).mono ?_); rintro e w36 ⟨v375, gv375, rfl, ho0, hb⟩; refine ⟨_, rfl, ?_⟩; have HO376 := aM (Kd.R_lower (nW ho0 HO371.out) (below_size dB)); replace HO371 := oE HO371.out ho0 hb; replace HB := hS HB.out hb; (try clear hb); (try clear ho0); obtain ⟨Ao37, co37, rfl⟩ := Kd.R_slice HO371.out; obtain ⟨Ao38, co38, rfl⟩ := Kd.R_slice HO376.out) | (go_at_call 15; (with_reducible refine (nat_Cmp.calls kj17 _ _ t368 _ _ t373 t377 _ ?side1 (Kd.R_reads' HO371.out).2.1 ?side3 (Kd.R_reads' HO376.out).2.1 A30.out).mono ?_); (case side1 => exact dC (Kd.R_reads' HO371.out).2.2); (case side3 => exact dC (Kd.R_reads' HO376.out).2.2); rintro e w' ⟨rfl, ⟨nd, rfl⟩⟩))
      go_ret
      exact ⟨dE, dB⟩
def plumblaw13_ExpandRises.Pure : Prop := ∀ (a0 : Int) (a1 : Int) (a2 : Int), (Lit.int .u64 a0).wf = true → (Lit.int .u64 a1).wf = true → (Lit.int .i64 a2).wf = true → ∃ k, plumblaw13_ExpandRises.f k a0 a1 a2 = some true
theorem plumblaw13_ExpandRises.walk (P : plumblaw13_ExpandRises.Pure) (a0 : Int) (a1 : Int) (a2 : Int) (w : World) (w0 : (Lit.int .u64 a0).wf = true) (w1 : (Lit.int .u64 a1).wf = true) (w2 : (Lit.int .i64 a2).wf = true) :
  Calls Tryd.prog 5 #[.int .u64 a0, .int .u64 a1, .int .i64 a2] w fun e w' => e = .returned (.bool true) ∧ Below w.heap.size w w' := by
 obtain ⟨k, h⟩ := P a0 a1 a2 w0 w1 w2
 refine (plumblaw13_ExpandRises.calls k a0 a1 a2 true w h).mono ?_
 rintro e w' ⟨rfl, hd⟩
 exact ⟨rfl, hd⟩
theorem strip_last {xs : List Int} (h : 0 < (strip xs).length) : xs.getD ((strip xs).length - 1) 0 ≠ 0 := by
 induction xs with
 | nil => simp [strip] at h
 | cons x xs ih =>
  rw [strip_cons] at h ⊢
  by_cases hs : strip xs = []
  ·rw [if_pos hs] at h ⊢
   by_cases hx : x = 0
   ·rw [if_pos hx] at h; simp at h
   ·rw [if_neg hx]; simpa using hx
  ·rw [if_neg hs]
   have h1 : 0 < (strip xs).length := by
    rcases Nat.eq_zero_or_pos (strip xs).length with h0 | h0
    ·exact absurd (List.eq_nil_of_length_eq_zero h0) hs
    ·exact h0
   have h2 := ih h1
   rw [List.length_cons, show (strip xs).length + 1 - 1 = ((strip xs).length - 1) + 1 from by omega, List.getD_cons_succ]
   exact h2
theorem nv_split {xs : List Int} {n : Nat} (h : n ≤ xs.length) : nv xs = nv (xs.take n) + 2 ^ (64 * n) * nv (xs.drop n) := by
 conv => lhs; rw [← List.take_append_drop n xs, nv_append]
 rw [List.length_take, Nat.min_eq_left h]
theorem nv_top {xs : List Int} (h : Ws xs) {n : Nat} (hn : (strip xs).length = n + 1) : nv xs / 2 ^ (64 * n) = xs.getD n 0 := by
 have hl := strip_length_le xs
 have e : nv xs = nv (xs.take n) + 2 ^ (64 * n) * xs.getD n 0 := by
  rw [← nv_strip xs, strip_take xs, hn, List.take_succ_eq_append_getElem (by omega), nv_append, List.length_take, Nat.min_eq_left (by omega), List.getD_eq_getElem?_getD, List.getElem?_eq_getElem (by omega)]
  simp [nv]
 have h1 := nv_nonneg (h.take n)
 have h2 := nv_lt (h.take n)
 rw [List.length_take, Nat.min_eq_left (by omega)] at h2
 rw [e, Int.add_mul_ediv_left _ _ (by omega), Int.ediv_eq_zero_of_lt h1 h2, Int.zero_add]
theorem nat_Bits.f_eq (xs : List Int) (h : Ws xs) (hl : xs.length ≤ 35184372088832) (k : Nat) (hk : xs.length < k) (hk7 : 7 ≤ k) : nat_Bits.f k xs = some (bitsN (nv xs)) := by
 rw [nat_Bits.f, nat_size.f_eq xs (by omega) k hk]
 simp only [Option.bind_some]
 have hsl := strip_length_le xs
 rcases Nat.eq_zero_or_pos (strip xs).length with h0 | h0
 ·rw [if_pos (by omega)]
  have : nv xs = 0 := by rw [← nv_strip, List.eq_nil_of_length_eq_zero h0]; rfl
  rw [this]; rfl
 ·obtain ⟨n, hn⟩ : ∃ n, (strip xs).length = n + 1 := ⟨(strip xs).length - 1, by omega⟩
  rw [hn, if_neg (by omega)]
  have ew : wrap64 (((n + 1 : Nat) : Int) - 1) = (n : Int) := by unfold wrap64; omega
  rw [ew, if_pos (by omega), if_pos (by omega)]
  clear ew
  have er : rd xs (n : Int) = xs.getD n 0 := rfl
  have ho := h.getD n
  have hne := strip_last h0
  rw [hn, Nat.add_sub_cancel] at hne
  rw [er, wide_Len.f_eq ho.1 ho.2 k hk7]
  simp only [Option.bind_some]
  have ht := nv_top h hn
  have hge : (2 : Int) ^ (64 * n) ≤ nv xs := by
   have h1 := Int.mul_ediv_add_emod (nv xs) (2 ^ (64 * n))
   have h2 := Int.emod_nonneg (nv xs) (show (2 : Int) ^ (64 * n) ≠ 0 by have := two_pow_pos (64 * n); omega)
   have h3 := Int.mul_le_mul_of_nonneg_left (show 1 ≤ nv xs / 2 ^ (64 * n) by omega) (Int.le_of_lt (two_pow_pos (64 * n)))
   omega
  rw [bitsN_div (64 * n) hge, ht]
  have hb := bitsN_le_of_lt (n := 64) ho.1 ho.2
  have hb0 := bitsN_nonneg (xs.getD n 0)
  clear ho hne ht hge
  generalize bitsN (xs.getD n 0) = z at *
  congr 1
  unfold wrap64
  omega
theorem nat_bound.f_eq (xs : List Int) (hl : xs.length ≤ 35184372088832) (k : Nat) (hk : xs.length < k) : nat_bound.f k xs = some (if (strip xs).length ≤ 4096 then (strip xs, 0) else ([], 21)) := by
 rw [nat_bound.f, nat_size.f_eq xs (by omega) k hk]
 simp only [Option.bind_some]
 have hsl := strip_length_le xs
 by_cases h : (strip xs).length ≤ 4096
 ·rw [if_pos (by omega), if_pos (by omega), if_pos (by omega), if_pos h, Int.toNat_natCast, ← strip_take]
 ·rw [if_neg (by omega), if_neg h]
theorem strip_len_le {xs : List Int} (h : Ws xs) (n : Nat) : (strip xs).length ≤ n ↔ nv xs < 2 ^ (64 * n) := by
 constructor
 ·intro hn
  have h1 := nv_lt h.strip
  rw [nv_strip] at h1
  have := pow_mono (show 64 * (strip xs).length ≤ 64 * n from by omega)
  omega
 ·intro hn
  apply Classical.byContradiction
  intro hc
  obtain ⟨m, hm⟩ : ∃ m, (strip xs).length = m + 1 := ⟨(strip xs).length - 1, by omega⟩
  have h1 := strip_last (xs := xs) (by omega)
  rw [hm, Nat.add_sub_cancel] at h1
  have ht := nv_top h hm
  have ho := h.getD m
  have h2 := Int.mul_ediv_add_emod (nv xs) (2 ^ (64 * m))
  have h3 := Int.emod_nonneg (nv xs) (show (2 : Int) ^ (64 * m) ≠ 0 by have := two_pow_pos (64 * m); omega)
  have h4 := Int.mul_le_mul_of_nonneg_left (show 1 ≤ nv xs / 2 ^ (64 * m) by omega) (Int.le_of_lt (two_pow_pos (64 * m)))
  have h5 := pow_mono (show 64 * n ≤ 64 * m from by omega)
  omega
def bnd (n : Int) : List Int × Int := if n < 2 ^ 262144 then (wd n.toNat, 0) else ([], 21)
theorem nat_bound.f_bnd {xs : List Int} (h : Ws xs) (hl : xs.length ≤ 35184372088832) (k : Nat) (hk : xs.length < k) : nat_bound.f k xs = some (bnd (nv xs)) := by
 rw [nat_bound.f_eq xs hl k hk]
 congr 1
 unfold bnd
 have := strip_len_le h 4096
 by_cases h1 : (strip xs).length ≤ 4096
 ·rw [if_pos h1, if_pos (this.1 h1), wd_nv h]
 ·rw [if_neg h1, if_neg (fun h2 => h1 (this.2 h2))]
theorem getD_zero_of_lt {xs : List Int} (h : Ws xs) {t : Nat} (hl : nv xs < 2 ^ (64 * t)) : xs.getD t 0 = 0 := by
 by_cases ht : t < xs.length
 ·have e := nv_split (xs := xs) (n := t) (by omega)
  have h1 := nv_nonneg (h.take t)
  have h2 := nv_nonneg (h.drop t)
  have hp := two_pow_pos (64 * t)
  have h3 : nv (xs.drop t) < 1 := by
   apply Classical.byContradiction
   intro hc
   have := Int.mul_le_mul_of_nonneg_left (show 1 ≤ nv (xs.drop t) by omega) (Int.le_of_lt hp)
   omega
  have h4 : nv (xs.drop t) = 0 := by omega
  rw [List.drop_eq_getElem_cons ht, nv_cons] at h4
  have h5 := nv_nonneg (h.drop (t + 1))
  have h6 := h.getD t
  rw [List.getD_eq_getElem?_getD, List.getElem?_eq_getElem ht] at h6 ⊢
  simp only [Option.getD_some] at h6 ⊢
  omega
 ·rw [List.getD_eq_getElem?_getD, List.getElem?_eq_none (by omega)]; rfl
theorem set_getD_ne {xs : List Int} {i j : Nat} {v : Int} (h : i ≠ j) : (xs.set i v).getD j 0 = xs.getD j 0 := by
 rw [List.getD_eq_getElem?_getD, List.getD_eq_getElem?_getD, List.getElem?_set_ne h]
theorem mul_step {a b o c : Int} (ha0 : 0 ≤ a) (ha : a < 18446744073709551616) (hb0 : 0 ≤ b) (hb : b < 18446744073709551616) (ho0 : 0 ≤ o) (ho : o < 18446744073709551616) (hc0 : 0 ≤ c) (hc : c < 18446744073709551616) :
  ∃ lo hi k1 k2 v c' : Int, a * b = hi * 18446744073709551616 + lo ∧ 0 ≤ lo ∧ lo < 18446744073709551616 ∧
   wide_Mul.f a b = some (hi, lo) ∧ ∃ s, wide_Add.f lo o 0 = some (s, k1) ∧ wide_Add.f s c 0 = some (v, k2) ∧ IntKind.u64.wrap (IntKind.u64.wrap (hi + k1) + k2) = c' ∧
   v + c' * 18446744073709551616 = a * b + o + c ∧ 0 ≤ v ∧ v < 18446744073709551616 ∧ 0 ≤ c' ∧ c' < 18446744073709551616 := by
 have hab0 : 0 ≤ a * b := Int.mul_nonneg ha0 hb0
 have hab : a * b ≤ 18446744073709551615 * 18446744073709551615 := Int.mul_le_mul (by omega) (by omega) hb0 (by omega)
 refine ⟨a * b % 18446744073709551616, a * b / 18446744073709551616, _, _, _, _, by omega, by omega, by omega, ?_, _, wide_Add.f_eq (by omega) (by omega) ho0 ho (by omega) (by omega), wide_Add.f_eq (by omega) (by omega) hc0 hc (by omega) (by omega), rfl, ?_, by omega, by omega, ?_, ?_⟩
 ·unfold wide_Mul.f
  rw [if_pos (u64B_iff.2 ⟨ha0, ha⟩), if_pos (u64B_iff.2 ⟨hb0, hb⟩)]
 ·simp only [u64w]
  generalize a * b = p at *
  omega
 ·simp only [u64w]; omega
 ·simp only [u64w]; omega
theorem w64_add (i j : Nat) (h : i + j < 9223372036854775808) : wrap64 ((i : Int) + (j : Int)) = ((i + j : Nat) : Int) := by unfold wrap64; omega
theorem w64_succ (i : Nat) (h : i < 9223372036854775807) : wrap64 ((i : Int) + 1) = ((i + 1 : Nat) : Int) := by unfold wrap64; omega
theorem nat_Mul.l1_eq (x y : List Int) (hy : Ws y) (i m : Nat) (a : Int) (ha0 : 0 ≤ a) (ha : a < 18446744073709551616) (hm : m ≤ 35184372088832) (him : i + y.length < m) :
  ∀ (d k : Nat) (out : List Int) (c : Int) (j : Nat), d = y.length - j → j ≤ y.length → out.length = m → Ws out → 0 ≤ c → c < 18446744073709551616 → out.getD (i + y.length) 0 = 0 →
  ∃ out' c', Ws out' ∧ out'.length = m ∧ 0 ≤ c' ∧ c' < 18446744073709551616 ∧ out'.getD (i + y.length) 0 = 0 ∧
   nv out' + c' * 2 ^ (64 * (i + y.length)) + a * nv (y.take j) * 2 ^ (64 * i) = nv out + c * 2 ^ (64 * (i + j)) + a * nv y * 2 ^ (64 * i) ∧
   nat_Mul.l1 (k + d + 1) y out i a c x (x.length : Int) i y (y.length : Int) j = nat_Mul.l0 k y (out'.set (i + y.length) c') x (x.length : Int) ((i + 1 : Nat) : Int) := by
 intro d
 induction d with
 | zero =>
  intro k out c j hd hj hl hw hc0 hc hz
  obtain rfl : j = y.length := by omega
  refine ⟨out, c, hw, hl, hc0, hc, hz, by rw [List.take_length], ?_⟩
  rw [Nat.add_zero]
  conv => lhs; unfold nat_Mul.l1
  rw [if_neg (by omega)]
  have b1 : i + y.length < 9223372036854775808 := by omega
  have b2 : i < 9223372036854775807 := by omega
  have b3 : (0 : Int) ≤ ((i + y.length : Nat) : Int) := by omega
  have b4 : ((i + y.length : Nat) : Int) < (out.length : Int) := by omega
  have ew := w64_add i y.length b1
  have ew2 := w64_succ i b2
  rw [ew, ew2, Int.toNat_natCast]
  rw [if_pos b3, if_pos b4]
 | succ d ih =>
  intro k out c j hd hj hl hw hc0 hc hz
  have b1 : i + j < 9223372036854775808 := by omega
  have b2 : j < 9223372036854775807 := by omega
  have q0 : (j : Int) < (y.length : Int) := by omega
  have q1 : (0 : Int) ≤ (j : Int) := by omega
  have q2 : (0 : Int) ≤ ((i + j : Nat) : Int) := by omega
  have q3 : ((i + j : Nat) : Int) < (out.length : Int) := by omega
  have q4 : d = y.length - (j + 1) := by omega
  have q5 : j + 1 ≤ y.length := by omega
  have q6 : i + j ≠ i + y.length := by omega
  have q7 : i + j < out.length := by omega
  have q8 : j < y.length := by omega
  have ew := w64_add i j b1
  have ew2 := w64_succ j b2
  have hyj := hy.getD j
  have hoj := hw.getD (i + j)
  obtain ⟨lo, hi, k1, k2, v, c', e1, hlo0, hlo, eM, s, eA, eB, ec, ev, hv0, hv, hc0', hc'⟩ := mul_step ha0 ha hyj.1 hyj.2 hoj.1 hoj.2 hc0 hc
  obtain ⟨out', c2, h1, h2, h3, h4, h5, h6, h7⟩ := ih k (out.set (i + j) v) c' (j + 1) q4 q5 (by rw [List.length_set, hl]) (hw.set _ hv0 hv) hc0' hc' (by rw [set_getD_ne q6]; exact hz)
  refine ⟨out', c2, h1, h2, h3, h4, h5, ?_, ?_⟩
  ·rw [nv_set q7, nv_take_succ q8] at h6
   clear ec ew ew2
   rw [show 64 * (i + (j + 1)) = 64 * (i + j + 1) from by omega, pow64, show 64 * (i + j) = 64 * i + 64 * j from by omega, Int.pow_add] at h6
   rw [show 64 * (i + j) = 64 * i + 64 * j from by omega, Int.pow_add]
   generalize (2 : Int) ^ (64 * i) = pi at *
   generalize (2 : Int) ^ (64 * j) = pj at *
   generalize out.getD (i + j) 0 = o at *
   generalize y.getD j 0 = yj at *
   obtain rfl : v = a * yj + o + c - c' * 18446744073709551616 := by omega
   clear eM eA eB h7 ih e1 hyj hoj hlo hlo0
   grind
  ·rw [← h7, show k + (d + 1) + 1 = (k + d + 1) + 1 from by omega]
   conv => lhs; unfold nat_Mul.l1
   have er : rd y (j : Int) = y.getD j 0 := rfl
   have er2 : rd out ((i + j : Nat) : Int) = out.getD (i + j) 0 := rfl
   rw [ew, ew2, er, er2, eM]
   simp only [Option.bind_some]
   rw [if_pos q0, if_pos q1, if_pos q0, if_pos q2, if_pos q3, eA]
   simp only [Option.bind_some]
   rw [eB]
   simp only [Option.bind_some]
   rw [ec, Int.toNat_natCast]
theorem nat_Mul.l0_eq (x y : List Int) (hx : Ws x) (hy : Ws y) (m : Nat) (hm : m ≤ 35184372088832) (hlm : x.length + y.length = m) : ∀ (d k : Nat) (out : List Int) (i : Nat), d = x.length - i → d * (y.length + 2) + m + 1 < k → i ≤ x.length → out.length = m → Ws out → nv out = nv (x.take i) * nv y →
  nat_Mul.l0 k y out x (x.length : Int) i = some (bnd (nv x * nv y)) := by
 intro d
 induction d with
 | zero =>
  intro k out i hd hk hi hl hw hv
  obtain ⟨k, rfl⟩ : ∃ j, k = j + 1 := ⟨k - 1, by omega⟩
  obtain rfl : i = x.length := by omega
  rw [List.take_length] at hv
  simp only [nat_Mul.l0]
  rw [if_neg (by omega), nat_bound.f_bnd hw (by omega) k (by omega), hv]
  rfl
 | succ d ih =>
  intro k out i hd hk hi hl hw hv
  have hk' : d * (y.length + 2) + (y.length + 2) + m + 1 < k := by rw [Nat.succ_mul] at hk; exact hk
  obtain ⟨k, rfl⟩ : ∃ j, k = j + y.length + 1 + 1 := ⟨k - (y.length + 2), by omega⟩
  have hxi := hx.getD i
  have htop : nv out < 2 ^ (64 * (i + y.length)) := by
   rw [hv, show 64 * (i + y.length) = 64 * i + 64 * y.length from by omega, Int.pow_add]
   have h1 := nv_lt (hx.take i)
   rw [List.length_take, Nat.min_eq_left (by omega)] at h1
   have h2 := nv_lt hy
   have h3 := nv_nonneg (hx.take i)
   have h4 := nv_nonneg hy
   have hp := two_pow_pos (64 * i)
   have h5 : nv (x.take i) * nv y ≤ nv (x.take i) * 2 ^ (64 * y.length) := Int.mul_le_mul_of_nonneg_left (by omega) h3
   have h6 : nv (x.take i) * 2 ^ (64 * y.length) < 2 ^ (64 * i) * 2 ^ (64 * y.length) := Int.mul_lt_mul_of_pos_right h1 (two_pow_pos _)
   omega
  obtain ⟨out', c', h1, h2, h3, h4, h5, h6, h7⟩ := nat_Mul.l1_eq x y hy i m (x.getD i 0) hxi.1 hxi.2 hm (by omega) y.length k out 0 0 (by omega) (by omega) hl hw (by omega) (by omega) (getD_zero_of_lt hw htop)
  conv => lhs; unfold nat_Mul.l0
  have er : rd x (i : Int) = x.getD i 0 := rfl
  rw [if_pos (by omega), if_pos (by omega), if_pos (by omega), er]
  have h7' : nat_Mul.l1 (k + y.length + 1) y out i (x.getD i 0) 0 x (x.length : Int) i y (y.length : Int) 0 = nat_Mul.l0 k y (out'.set (i + y.length) c') x (x.length : Int) ((i + 1 : Nat) : Int) := h7
  rw [h7']
  refine ih k _ (i + 1) (by omega) (by omega) (by omega) (by rw [List.length_set, h2]) (h1.set _ h3 h4) ?_
  rw [nv_set (by omega), h5, nv_take_succ (by omega), Int.add_mul, ← hv]
  simp only [List.take_zero, nv_nil] at h6
  generalize (2 : Int) ^ (64 * i) = pi at *
  generalize (2 : Int) ^ (64 * (i + y.length)) = pl at *
  generalize x.getD i 0 = xi at *
  clear h7 h7' er ih hk hk'
  grind
theorem strip_take' (xs : List Int) : xs.take (strip xs).length = strip xs := (strip_take xs).symm
theorem bnd_big {n : Int} (h : (2 : Int) ^ 262144 ≤ n) : bnd n = ([], 21) := by unfold bnd; rw [if_neg (by omega)]
theorem nv_pos_iff {xs : List Int} (h : Ws xs) : 0 < nv xs ↔ (strip xs) ≠ [] := by
 rw [← strip_length_pos h]
 exact ⟨fun h1 h2 => by rw [h2] at h1; simp at h1, fun h1 => List.length_pos_iff.2 h1⟩
theorem nat_Mul.f_eq (x y : List Int) (hx : Ws x) (hy : Ws y) (hlx : x.length ≤ 1000000) (hly : y.length ≤ 1000000) (k : Nat) (hk : x.length * (y.length + 2) + x.length + y.length + 20 < k) :
  nat_Mul.f k x y = some (if nv x * nv y = 0 then ([], 0) else bnd (nv x * nv y)) := by
 have hsx := strip_length_le x
 have hsy := strip_length_le y
 have hm : (strip x).length * ((strip y).length + 2) ≤ x.length * (y.length + 2) := Nat.mul_le_mul hsx (by omega)
 obtain ⟨k, rfl⟩ : ∃ j, k = j + 1 := ⟨k - 1, by omega⟩
 rw [nat_Mul.f, nat_size.f_eq x (by omega) _ (by omega)]
 simp only [Option.bind_some]
 rw [if_pos (by omega), if_pos (by omega), nat_size.f_eq y (by omega) _ (by omega)]
 simp only [Option.bind_some]
 rw [if_pos (by omega), if_pos (by omega), Int.toNat_natCast, Int.toNat_natCast, strip_take', strip_take']
 have ex := nv_strip x
 have ey := nv_strip y
 have wx := hx.strip
 have wy := hy.strip
 have px := nv_pos_iff hx
 have py := nv_pos_iff hy
 rw [← ex, ← ey] at *
 generalize strip x = x' at *
 generalize strip y = y' at *
 have nx := nv_nonneg wx
 have ny := nv_nonneg wy
 by_cases h0 : x' = []
 ·subst h0
  rw [if_pos (by simp), nat_Mul.j0, if_pos rfl]
  simp [nv]
 ·have hx0 : x'.length ≠ 0 := fun h => h0 (List.eq_nil_of_length_eq_zero h)
  rw [if_neg (by omega)]
  by_cases h1 : y' = []
  ·subst h1
   rw [nat_Mul.j0, if_pos (by simp)]
   simp [nv]
  ·have hy0 : y'.length ≠ 0 := fun h => h1 (List.eq_nil_of_length_eq_zero h)
   have hpx := px.2 h0
   have hpy := py.2 h1
   have hp : 0 < nv x' * nv y' := Int.mul_pos hpx hpy
   rw [nat_Mul.j0, if_neg (by simp only [beq_iff_eq]; omega), nat_Bits.f_eq x' wx (by omega) k (by omega) (by omega), if_neg (show ¬ nv x' * nv y' = 0 by omega)]
   simp only [Option.bind_some]
   rw [nat_Bits.f_eq y' wy (by omega) k (by omega) (by omega)]
   simp only [Option.bind_some]
   have bx := bitsN_ge hpx
   have by_ := bitsN_ge hpy
   have bx1 := bitsN_pos hpx
   have by1 := bitsN_pos hpy
   have bx2 := bitsN_le_of_lt (n := 64 * x'.length) nx (nv_lt wx)
   have by2 := bitsN_le_of_lt (n := 64 * y'.length) ny (nv_lt wy)
   have hbx : 1 ≤ bitsN (nv x') := by omega
   have hby : 1 ≤ bitsN (nv y') := by omega
   clear bx1 by1
   have ew : wrap64 (bitsN (nv x') - 1) = bitsN (nv x') - 1 := by unfold wrap64; omega
   have ew2 : wrap64 (262144 - bitsN (nv y')) = 262144 - bitsN (nv y') := by clear ew; unfold wrap64; omega
   rw [ew, ew2]
   clear ew ew2
   by_cases hb : bitsN (nv x') - 1 > 262144 - bitsN (nv y')
   ·rw [if_pos hb, bnd_big]
    have h3 : (2 : Int) ^ 262144 ≤ 2 ^ ((bitsN (nv x')).toNat - 1 + ((bitsN (nv y')).toNat - 1)) := pow_mono (by omega)
    rw [Int.pow_add] at h3
    exact Int.le_trans h3 (Int.mul_le_mul bx by_ (Int.le_of_lt (two_pow_pos _)) nx)
   ·rw [if_neg hb]
    clear hb bx by_ bx2 by2 hbx hby
    have ew := w64_add x'.length y'.length (by omega)
    have c1 : (0 : Int) ≤ ((x'.length + y'.length : Nat) : Int) := Int.natCast_nonneg _
    rw [ew, if_pos c1, Int.toNat_natCast]
    clear ew c1
    rw [if_pos (by omega)]
    exact nat_Mul.l0_eq x' y' wx wy (x'.length + y'.length) (by omega) rfl x'.length k _ 0 (by omega) (by omega) (by omega) (by simp) (Ws.zeros _) (by rw [nv_zeros]; simp [nv])
theorem drop_set_self {xs : List Int} {m : Nat} (h : m < xs.length) (q : Int) : (xs.set m q).drop m = q :: xs.drop (m + 1) := by
 rw [List.drop_eq_getElem_cons (by rw [List.length_set]; exact h), List.getElem_set_self, List.drop_set_of_lt (by omega)]
theorem drop_getD {xs : List Int} {m : Nat} (h : m < xs.length) : xs.drop m = xs.getD m 0 :: xs.drop (m + 1) := by
 rw [List.drop_eq_getElem_cons h, List.getD_eq_getElem?_getD, List.getElem?_eq_getElem h]; rfl
theorem div_step {r x d : Int} (hr0 : 0 ≤ r) (hr : r < d) (hx0 : 0 ≤ x) (hx : x < 18446744073709551616) (hd : d < 18446744073709551616) :
  wide_Div.f r x d = some ((r * 18446744073709551616 + x) / d, (r * 18446744073709551616 + x) % d, 0) ∧ 0 ≤ (r * 18446744073709551616 + x) / d ∧ (r * 18446744073709551616 + x) / d < 18446744073709551616 ∧
   0 ≤ (r * 18446744073709551616 + x) % d ∧ (r * 18446744073709551616 + x) % d < d ∧ r * 18446744073709551616 + x = (r * 18446744073709551616 + x) / d * d + (r * 18446744073709551616 + x) % d := by
 have hdp : 0 < d := by omega
 refine ⟨?_, Int.ediv_nonneg (by omega) (by omega), Int.ediv_lt_of_lt_mul hdp ?_, Int.emod_nonneg _ (by omega), Int.emod_lt_of_pos _ hdp, ?_⟩
 ·unfold wide_Div.f
  rw [if_pos ⟨u64B_iff.2 ⟨hr0, by omega⟩, u64B_iff.2 ⟨hx0, hx⟩, u64B_iff.2 ⟨by omega, hd⟩⟩, if_neg (by omega), if_neg (by omega)]
 ·have : r * 18446744073709551616 ≤ (d - 1) * 18446744073709551616 := Int.mul_le_mul_of_nonneg_right (by omega) (by omega)
  rw [Int.sub_mul] at this
  rw [Int.mul_comm]
  omega
 ·have := Int.mul_ediv_add_emod (r * 18446744073709551616 + x) d
  rw [Int.mul_comm] at this
  omega
theorem quot_Small.l0_eq (x : List Int) (hx : Ws x) (d : Int) (hd0 : 0 < d) (hd : d < 18446744073709551616) (hm : x.length ≤ 35184372088832) : ∀ (n k : Nat) (out : List Int) (r : Int), n < k → n ≤ x.length → out.length = x.length → Ws out → 0 ≤ r → r < d → nv (x.drop n) = nv (out.drop n) * d + r →
  quot_Small.l0 k x d out r ((n : Int) - 1) = some (wd (nv x / d).toNat, nv x % d, 0) := by
 intro n
 induction n with
 | zero =>
  intro k out r hk hn hl hw hr0 hr hv
  obtain ⟨k, rfl⟩ : ∃ j, k = j + 1 := ⟨k - 1, by omega⟩
  simp only [quot_Small.l0]
  rw [if_neg (by omega), nat_Norm.f, if_pos (by omega)]
  simp only [Option.bind_some, List.drop_zero] at hv ⊢
  have e1 : nv x / d = nv out := by rw [hv, Int.add_comm, Int.add_mul_ediv_right _ _ (by omega), Int.ediv_eq_zero_of_lt hr0 hr, Int.zero_add]
  have e2 : nv x % d = r := by rw [hv, Int.add_comm, Int.add_mul_emod_self_right, Int.emod_eq_of_lt hr0 hr]
  rw [e1, e2, wd_nv hw]
 | succ n ih =>
  intro k out r hk hn hl hw hr0 hr hv
  obtain ⟨k, rfl⟩ : ∃ j, k = j + 1 := ⟨k - 1, by omega⟩
  have q1 : ((n : Int)) ≥ 0 := by omega
  have q2 : (n : Int) < (x.length : Int) := by omega
  have q3 : (n : Int) < (out.length : Int) := by omega
  have q4 : n < out.length := by omega
  have q5 : n < x.length := by omega
  have q6 : n < k := by omega
  have q7 : n ≤ x.length := by omega
  have ew : wrap64 ((n : Int) - 1) = (n : Int) - 1 := by unfold wrap64; omega
  have ho := hx.getD n
  obtain ⟨e1, e2, e3, e4, e5, e6⟩ := div_step hr0 hr ho.1 ho.2 hd
  have en : ((n + 1 : Nat) : Int) - 1 = (n : Int) := by omega
  have er : rd x (n : Int) = x.getD n 0 := rfl
  simp only [quot_Small.l0]
  rw [en, if_pos q1, if_pos q1, if_pos q2, er, e1]
  simp only [Option.bind_some]
  rw [if_pos q3, ew, Int.toNat_natCast]
  refine ih k _ _ q6 q7 (by rw [List.length_set, hl]) (hw.set _ e2 e3) e4 e5 ?_
  rw [drop_set_self q4, drop_getD q5, nv_cons, nv_cons, hv]
  generalize (r * 18446744073709551616 + x.getD n 0) / d = q at *
  generalize (r * 18446744073709551616 + x.getD n 0) % d = s at *
  generalize nv (out.drop (n + 1)) = z at *
  generalize x.getD n 0 = y at *
  clear ew e1 er en
  grind
theorem quot_Small.f_eq (x : List Int) (hx : Ws x) (d : Int) (hd0 : 0 < d) (hd : d < 18446744073709551616) (hm : x.length ≤ 35184372088832) (k : Nat) (hk : x.length < k) :
  quot_Small.f k x d = some (wd (nv x / d).toNat, nv x % d, 0) := by
 have ew : wrap64 ((x.length : Int) - 1) = (x.length : Int) - 1 := by unfold wrap64; omega
 rw [quot_Small.f, ew, if_neg (by omega), if_pos (by omega), Int.toNat_natCast, if_pos hm]
 exact quot_Small.l0_eq x hx d hd0 hd hm x.length k _ 0 hk (Nat.le_refl _) (by simp) (Ws.zeros _) (Int.le_refl _) hd0 (by rw [List.drop_eq_nil_of_le (Nat.le_refl _), List.drop_eq_nil_of_le (by simp)]; simp [nv])
theorem pow_split {s : Nat} (h : s ≤ 64) : (2 : Int) ^ s * 2 ^ (64 - s) = 18446744073709551616 := by
 rw [← Int.pow_add, show s + (64 - s) = 64 from by omega]; rfl
theorem shl_low {x P R : Int} (hP : 0 < P) (h : P * R = 18446744073709551616) : x * P % 18446744073709551616 = P * (x % R) := by
 rw [← h, Int.mul_comm x P, Int.mul_emod_mul_of_pos _ _ hP]
theorem shl_word {x P R : Int} (hP : 0 < P) (h : P * R = 18446744073709551616) : x * P = 18446744073709551616 * (x / R) + x * P % 18446744073709551616 := by
 rw [shl_low hP h]
 have h1 := Int.mul_ediv_add_emod x R
 generalize x / R = a at *
 generalize x % R = b at *
 rw [← h, ← h1]
 grind
theorem wide_Shl.f_eq {hi lo : Int} {s : Nat} (hs1 : 1 ≤ s) (hs : s ≤ 63) (h0 : 0 ≤ hi) (h1 : hi < 18446744073709551616) (l0 : 0 ≤ lo) (l1 : lo < 18446744073709551616) :
  wide_Shl.f hi lo (s : Int) = some (hi * 2 ^ s % 18446744073709551616 + lo / 2 ^ (64 - s), lo * 2 ^ s % 18446744073709551616) := by
 have e1 : mn (mx (s : Int) 0) 128 = (s : Int) := by
  unfold mn mx
  rw [if_neg (by omega), if_neg (by omega)]
 have ew : wrap64 (64 - (s : Int)) = ((64 - s : Nat) : Int) := by unfold wrap64; omega
 have c1 : (0 : Int) ≤ (s : Int) := by clear ew e1; omega
 have c2 : ¬ (s : Int) ≥ 64 := by clear ew e1; omega
 have c3 : (0 : Int) ≤ ((64 - s : Nat) : Int) := Int.natCast_nonneg _
 have hP := two_pow_pos s
 have hR := two_pow_pos (64 - s)
 have hPR := pow_split (s := s) (by omega)
 rw [wide_Shl.f, wide_within.f, e1]
 simp only [Option.bind_some]
 rw [if_neg c2, if_pos c1, ew, if_pos c3]
 clear ew e1 c1 c2 c3
 have m1 : min s 64 = s := Nat.min_eq_left (by omega)
 have m2 : min (64 - s) 64 = 64 - s := Nat.min_eq_left (by omega)
 rw [shl_eq, shl_eq, shr_eq, Int.toNat_natCast, Int.toNat_natCast, m1, m2]
 have hx : hi * 2 ^ s % 18446744073709551616 % 2 ^ s = 0 := by rw [shl_low hP hPR, Int.mul_emod_right]
 have hy : lo / 2 ^ (64 - s) < 2 ^ s := Int.ediv_lt_of_lt_mul hR (by rw [hPR]; exact l1)
 have hle : (2 : Int) ^ s ≤ 2 ^ 63 := pow_mono hs
 have hy0 : 0 ≤ lo / 2 ^ (64 - s) := Int.ediv_nonneg l0 (Int.le_of_lt hR)
 rw [or_join s (Int.emod_nonneg _ (by decide)) (Int.emod_lt_of_pos _ (by decide)) hx hy0 hy (Int.lt_trans (Int.lt_of_lt_of_le hy hle) (by decide))]
theorem take_getD {xs ys : List Int} {n j : Nat} (h : xs.take n = ys.take n) (hj : j < n) : xs.getD j 0 = ys.getD j 0 := by
 have h1 : (xs.take n)[j]? = (ys.take n)[j]? := by rw [h]
 rw [List.getElem?_take, List.getElem?_take, if_pos hj, if_pos hj] at h1
 rw [List.getD_eq_getElem?_getD, List.getD_eq_getElem?_getD, h1]
theorem take_set_self {xs : List Int} {n : Nat} {v : Int} : (xs.set n v).take n = xs.take n := by
 rw [List.take_set]
 exact List.set_eq_of_length_le (by rw [List.length_take]; omega)
theorem take_less {xs ys : List Int} {n : Nat} (h : xs.take (n + 1) = ys.take (n + 1)) : xs.take n = ys.take n := by
 have h1 : (xs.take (n + 1)).take n = (ys.take (n + 1)).take n := by rw [h]
 rwa [List.take_take, List.take_take, Nat.min_eq_left (by omega)] at h1
theorem nat_Shl.l0_eq (y : List Int) (hy : Ws y) (q s m : Nat) (a1 : Int) (ea : wrap64 (Int.tdiv a1 64) = (q : Int)) (hs1 : 1 ≤ s) (hs : s ≤ 63) (hm : m ≤ 35184372088832) (hlm : y.length = m) (hz : nv (y.take q) = 0) :
  ∀ (e k : Nat) (cur : List Int) (i : Nat), i = q + e → e + m + 1 < k → i < m → cur.length = m → Ws cur → cur.take (i + 1) = y.take (i + 1) → nv (cur.drop (i + 1)) = nv (y.drop (i + 1)) * 2 ^ s + y.getD i 0 / 2 ^ (64 - s) →
  nat_Shl.l0 k a1 cur (s : Int) (i : Int) = some (bnd (nv y * 2 ^ s)) := by
 have hP := two_pow_pos s
 have hR := two_pow_pos (64 - s)
 have hPR := pow_split (s := s) (by omega)
 intro e
 induction e with
 | zero =>
  intro k cur i hi hk him hl hw ht hv
  obtain ⟨k, rfl⟩ : ∃ j, k = j + 1 := ⟨k - 1, by clear ea hP hR hPR hv hz; omega⟩
  obtain rfl : i = q := hi
  have c1 : ¬ (i : Int) > (i : Int) := Int.lt_irrefl _
  have c2 : (0 : Int) ≤ (i : Int) := Int.natCast_nonneg _
  have c3 : (i : Int) < (cur.length : Int) := by rw [hl]; exact Int.ofNat_lt.2 him
  have c4 : (0 : Int) ≤ (s : Int) := Int.natCast_nonneg _
  have c5 : i < cur.length := by rw [hl]; exact him
  have c6 : i < y.length := by rw [hlm]; exact him
  have c7 : m < k := by clear ea hP hR hPR hv hz; omega
  have er : rd cur (i : Int) = cur.getD i 0 := rfl
  have m1 : min s 64 = s := Nat.min_eq_left (by clear ea hP hR hPR hv hz; omega)
  conv => lhs; unfold nat_Shl.l0
  rw [ea, if_neg c1, if_pos c2, if_pos c3, if_pos c4, er, take_getD ht (Nat.lt_succ_self i), shl_eq, Int.toNat_natCast, Int.toNat_natCast, m1]
  have hw' : Ws (cur.set i (y.getD i 0 * 2 ^ s % 18446744073709551616)) := hw.set _ (Int.emod_nonneg _ (by decide)) (Int.emod_lt_of_pos _ (by decide))
  rw [nat_bound.f_bnd hw' (by rw [List.length_set, hl]; exact hm) k (by rw [List.length_set, hl]; exact c7)]
  simp only [Option.bind_some]
  have e1 : nv (cur.set i (y.getD i 0 * 2 ^ s % 18446744073709551616)) = nv y * 2 ^ s := by
   rw [nv_split (xs := cur.set i _) (n := i) (by rw [List.length_set]; exact Nat.le_of_lt c5), take_set_self, take_less ht, hz, drop_set_self c5, nv_cons, hv, nv_split (xs := y) (n := i) (Nat.le_of_lt c6), hz, drop_getD c6, nv_cons]
   have h2 := shl_word (x := y.getD i 0) hP hPR
   generalize y.getD i 0 / 2 ^ (64 - s) = u at *
   generalize y.getD i 0 * 2 ^ s % 18446744073709551616 = v at *
   generalize nv (y.drop (i + 1)) = z at *
   generalize y.getD i 0 = w at *
   generalize (2 : Int) ^ (64 * i) = p at *
   generalize (2 : Int) ^ s = P at *
   clear hv ht ea er
   grind
  rw [e1]
 | succ e ih =>
  intro k cur i hi hk him hl hw ht hv
  obtain ⟨k, rfl⟩ : ∃ j, k = j + 1 := ⟨k - 1, by clear ea hP hR hPR hv hz; omega⟩
  obtain ⟨i, rfl⟩ : ∃ j, i = j + 1 := ⟨i - 1, by clear ea hP hR hPR hv hz; omega⟩
  have c1 : ((i + 1 : Nat) : Int) > (q : Int) := by clear ea hP hR hPR hv hz; omega
  have c2 : (0 : Int) ≤ ((i + 1 : Nat) : Int) := Int.natCast_nonneg _
  have c3 : ((i + 1 : Nat) : Int) < (cur.length : Int) := by rw [hl]; exact Int.ofNat_lt.2 him
  have ew : wrap64 (((i + 1 : Nat) : Int) - 1) = (i : Int) := by clear ea hP hR hPR hv hz; unfold wrap64; omega
  have c4 : (0 : Int) ≤ (i : Int) := Int.natCast_nonneg _
  have c5 : (i : Int) < (cur.length : Int) := by clear ea hP hR hPR hv hz ew; omega
  have c6 : i + 1 < cur.length := by clear ea hP hR hPR hv hz ew; omega
  have c7 : i + 1 < y.length := by clear ea hP hR hPR hv hz ew; omega
  have d1 : i = q + e := by clear ea hP hR hPR hv hz ew; omega
  have d2 : e + m + 1 < k := by clear ea hP hR hPR hv hz ew; omega
  have d3 : i < m := by clear ea hP hR hPR hv hz ew; omega
  have er : rd cur ((i + 1 : Nat) : Int) = cur.getD (i + 1) 0 := rfl
  have er2 : rd cur (i : Int) = cur.getD i 0 := rfl
  have y1 := hy.getD (i + 1)
  have y0 := hy.getD i
  conv => lhs; unfold nat_Shl.l0
  rw [ea, if_pos c1, if_pos c2, if_pos c3, ew, if_pos c4, if_pos c5, er, er2, take_getD ht (Nat.lt_succ_self (i + 1)), take_getD ht (show i < i + 1 + 1 from Nat.lt_succ_of_lt (Nat.lt_succ_self i)), wide_Shl.f_eq hs1 hs y1.1 y1.2 y0.1 y0.2]
  simp only [Option.bind_some]
  rw [Int.toNat_natCast]
  have hlow := shl_low (x := y.getD (i + 1) 0) hP hPR
  have g0 : 0 ≤ y.getD (i + 1) 0 % 2 ^ (64 - s) := Int.emod_nonneg _ (Int.ne_of_gt hR)
  have g1 : y.getD (i + 1) 0 % 2 ^ (64 - s) < 2 ^ (64 - s) := Int.emod_lt_of_pos _ hR
  have g2 : 0 ≤ y.getD i 0 / 2 ^ (64 - s) := Int.ediv_nonneg y0.1 (Int.le_of_lt hR)
  have g3 : y.getD i 0 / 2 ^ (64 - s) < 2 ^ s := Int.ediv_lt_of_lt_mul hR (by rw [hPR]; exact y0.2)
  have v0 : 0 ≤ y.getD (i + 1) 0 * 2 ^ s % 18446744073709551616 + y.getD i 0 / 2 ^ (64 - s) := Int.add_nonneg (Int.emod_nonneg _ (by decide)) g2
  have v1 : y.getD (i + 1) 0 * 2 ^ s % 18446744073709551616 + y.getD i 0 / 2 ^ (64 - s) < 18446744073709551616 := by
   rw [hlow, ← hPR]
   have h3 : 2 ^ s * (y.getD (i + 1) 0 % 2 ^ (64 - s) + 1) ≤ 2 ^ s * 2 ^ (64 - s) := Int.mul_le_mul_of_nonneg_left g1 (Int.le_of_lt hP)
   rw [Int.mul_add, Int.mul_one] at h3
   exact Int.lt_of_lt_of_le (Int.add_lt_add_left g3 _) h3
  refine ih k _ i d1 d2 d3 (by rw [List.length_set]; exact hl) (hw.set _ v0 v1) (by rw [take_set_self]; exact take_less ht) ?_
  rw [drop_set_self c6, drop_getD c7, nv_cons, nv_cons, hv]
  have h2 := shl_word (x := y.getD (i + 1) 0) hP hPR
  clear ew ea er er2 hlow g0 g1 g2 g3 v0 v1 y0 y1 ht hv ih
  generalize y.getD (i + 1) 0 * 2 ^ s % 18446744073709551616 = v at *
  generalize y.getD (i + 1) 0 / 2 ^ (64 - s) = u at *
  generalize y.getD i 0 / 2 ^ (64 - s) = t at *
  generalize y.getD (i + 1) 0 = w at *
  generalize nv (y.drop (i + 1 + 1)) = z at *
  generalize (2 : Int) ^ s = P at *
  grind
open Go Go.RowKit Go.Proofs.YthjleohmlohgbaaDoorW.PrintWords Go.Proofs.YthjleohmlohgbaaDoorW.PrintLast Go.Proofs.YthjleohmlohgbaaDoorW.PrintMore
def Hs (xs : List Int) : Prop := ∀ x ∈ xs, 0 ≤ x ∧ x < 4294967296
def hv : List Int → Int
 | [] => 0
 | x :: xs => x + 4294967296 * hv xs
theorem Hs.getD {xs : List Int} (h : Hs xs) (n : Nat) : 0 ≤ xs.getD n 0 ∧ xs.getD n 0 < 4294967296 := by
 rw [List.getD_eq_getElem?_getD]
 cases e : xs[n]? with
 | none => simp
 | some v => simpa using h v (List.mem_of_getElem? e)
theorem Hs.set {xs : List Int} (h : Hs xs) (n : Nat) {v : Int} (h0 : 0 ≤ v) (h1 : v < 4294967296) : Hs (xs.set n v) := by
 intro y hy
 rcases List.mem_or_eq_of_mem_set hy with hy | rfl
 ·exact h y hy
 ·exact ⟨h0, h1⟩
theorem Hs.snoc {xs : List Int} (h : Hs xs) {v : Int} (h0 : 0 ≤ v) (h1 : v < 4294967296) : Hs (xs ++ [v]) := by
 intro y hy
 rcases List.mem_append.1 hy with hy | hy
 ·exact h y hy
 ·rcases List.mem_singleton.1 hy with rfl
  exact ⟨h0, h1⟩
theorem cpy_eq (z : List Int) (q m : Nat) (h : m = q + z.length + 1) : cpyAt (List.replicate m 0) z q = List.replicate q 0 ++ (z ++ [0]) := by
 unfold cpyAt
 rw [List.length_replicate, List.take_replicate, List.drop_replicate, Nat.min_eq_left (show q ≤ m by omega), Nat.min_eq_left (show z.length ≤ m - q by omega), List.take_length, show m - (q + z.length) = 1 from by omega]
 rfl
theorem bnd_small {n : Int} (h : n < (2 : Int) ^ 262144) : bnd n = (wd n.toNat, 0) := by unfold bnd; rw [if_pos h]
theorem nat_Shl.f_eq (l : List Int) (h : Ws l) (hl : l.length ≤ 1000000) (n : Int) (hn : n < 9223372036854775808) (k : Nat) (hk : 3000000 < k) :
  nat_Shl.f k l n = some (if n < 0 then ([], 22) else if nv l = 0 then ([], 0) else bnd (nv l * 2 ^ n.toNat)) := by
 have hsl := strip_length_le l
 rw [nat_Shl.f, nat_size.f_eq l (by omega) _ (by omega)]
 simp only [Option.bind_some]
 rw [if_pos (by omega), if_pos (by omega), Int.toNat_natCast, strip_take']
 have el := nv_strip l
 have wl := h.strip
 have pl := nv_pos_iff h
 rw [← el] at *
 generalize strip l = z at *
 have nz := nv_nonneg wl
 by_cases h0 : n < 0
 ·rw [if_pos h0, if_pos h0]
 ·rw [if_neg h0, if_neg h0]
  by_cases h1 : z = []
  ·subst h1
   rw [if_pos (by simp), if_pos (by simp [nv])]
  ·have hz0 : z.length ≠ 0 := fun h => h1 (List.eq_nil_of_length_eq_zero h)
   have hp := pl.2 h1
   rw [if_neg (show ¬ ((z.length : Int) = 0) by omega), if_neg (show ¬ nv z = 0 by omega), nat_Bits.f_eq z wl (by omega) k (by omega) (by omega)]
   simp only [Option.bind_some]
   have bx := bitsN_ge hp
   have bx1 := bitsN_pos hp
   have bx2 := bitsN_le_of_lt (n := 64 * z.length) nz (nv_lt wl)
   have hbx : 1 ≤ bitsN (nv z) := by omega
   clear bx1
   have ew : wrap64 (262144 - bitsN (nv z)) = 262144 - bitsN (nv z) := by unfold wrap64; omega
   rw [ew]
   clear ew
   obtain ⟨n, rfl⟩ : ∃ j : Nat, n = (j : Int) := ⟨n.toNat, by omega⟩
   rw [Int.toNat_natCast]
   by_cases hb : (n : Int) > 262144 - bitsN (nv z)
   ·rw [if_pos hb, bnd_big]
    have h3 : (2 : Int) ^ 262144 ≤ 2 ^ ((bitsN (nv z)).toNat - 1 + n) := pow_mono (by omega)
    rw [Int.pow_add] at h3
    exact Int.le_trans h3 (Int.mul_le_mul_of_nonneg_right bx (Int.le_of_lt (two_pow_pos _)))
   ·rw [if_neg hb]
    have hn2 : n ≤ 262144 := by omega
    clear hb bx bx2 hbx pl
    have et : Int.tdiv (n : Int) 64 = ((n / 64 : Nat) : Int) := by rw [Int.tdiv_eq_ediv_of_nonneg (Int.natCast_nonneg _)]; omega
    have em : Int.tmod (n : Int) 64 = ((n % 64 : Nat) : Int) := by rw [Int.tmod_eq_emod_of_nonneg (Int.natCast_nonneg _)]; omega
    have hq : n / 64 ≤ 4096 := by omega
    have hnq : n = 64 * (n / 64) + n % 64 := by omega
    have hs : n % 64 < 64 := by omega
    generalize n / 64 = q at *
    generalize n % 64 = s at *
    have ea : wrap64 (Int.tdiv (n : Int) 64) = (q : Int) := by rw [et]; clear em et; unfold wrap64; omega
    have e1 : wrap64 ((q : Int) + (z.length : Int)) = ((q + z.length : Nat) : Int) := w64_add q z.length (by clear ea em et; omega)
    have e2 : wrap64 (((q + z.length : Nat) : Int) + 1) = ((q + z.length + 1 : Nat) : Int) := w64_succ _ (by clear ea em et e1; omega)
    have c1 : (0 : Int) ≤ ((q + z.length + 1 : Nat) : Int) := Int.natCast_nonneg _
    have c2 : q + z.length + 1 ≤ 35184372088832 := by clear ea em et e1 e2; omega
    have c3 : (0 : Int) ≤ (q : Int) := Int.natCast_nonneg _
    have c4 : q ≤ q + z.length + 1 := by clear ea em et e1 e2; omega
    have c5 : q + z.length + 1 < k := by clear ea em et e1 e2; omega
    have c6 : q + z.length < q + z.length + 1 := Nat.lt_succ_self _
    have c7 : z.length + (q + z.length + 1) + 1 < k := by clear ea em et e1 e2; omega
    rw [ea, e1, e2, if_pos c1, Int.toNat_natCast, Int.toNat_natCast, if_pos ⟨c2, c3, c4⟩, cpy_eq z q _ rfl, em]
    try simp only [Option.bind_some]
    obtain ⟨y, hy⟩ : ∃ y, y = List.replicate q 0 ++ (z ++ [0]) := ⟨_, rfl⟩
    rw [← hy]
    have wy : Ws y := by rw [hy]; exact (Ws.zeros _).append (wl.append (Ws.cons (by decide) (by decide) Ws.nil))
    have ly : y.length = q + z.length + 1 := by rw [hy, List.length_append, List.length_replicate, List.length_append]; rfl
    have ny : nv y = 2 ^ (64 * q) * nv z := by
     rw [hy, nv_append, nv_append, nv_zeros, List.length_replicate]
     simp [nv]
    have tz : nv (y.take q) = 0 := by
     rw [hy, List.take_left' (by rw [List.length_replicate]), nv_zeros]
    have last : y.getD (q + z.length) 0 = 0 := by
     rw [hy, List.getD_eq_getElem?_getD, List.getElem?_append_right (by rw [List.length_replicate]; exact Nat.le_add_right _ _), List.length_replicate, Nat.add_sub_cancel_left, List.getElem?_append_right (Nat.le_refl _), Nat.sub_self]
     rfl
    have e3 : wrap64 ((y.length : Int) - 1) = ((q + z.length : Nat) : Int) := by rw [ly]; clear ea em et e1 e2; unfold wrap64; omega
    have pw : nv z * 2 ^ n = nv y * 2 ^ s := by
     rw [ny, hnq, Int.pow_add]
     generalize (2 : Int) ^ (64 * q) = p
     generalize (2 : Int) ^ s = t
     clear ea em et e1 e2 e3
     grind
    rw [pw]
    by_cases hs0 : s = 0
    ·have c8 : ¬ ((s : Nat) : Int) > 0 := by clear ea em et e1 e2 e3; omega
     rw [if_neg c8, nat_bound.f_bnd wy (by rw [ly]; exact c2) k (by rw [ly]; exact c5), hs0, Int.pow_zero, Int.mul_one]
     rfl
    ·have c8 : ((s : Nat) : Int) > 0 := by clear ea em et e1 e2 e3; omega
     rw [if_pos c8, e3]
     refine nat_Shl.l0_eq y wy q s (q + z.length + 1) _ ea (by clear ea em et e1 e2 e3; omega) (by clear ea em et e1 e2 e3; omega) c2 ly tz z.length k y _ rfl c7 c6 ly wy rfl ?_
     rw [last, List.drop_eq_nil_of_le (by rw [ly]; exact Nat.le_refl _)]
     simp [nv]
theorem i64_and_one (a : Nat) (ha : a < 9223372036854775808) : Go.bits .and .i64 (a : Int) 1 = ((a % 2 : Nat) : Int) := by
 show IntKind.i64.wrap ((BitVec.ofInt 64 (a : Int) &&& BitVec.ofInt 64 ((1 : Nat) : Int)).toNat : Int) = _
 rw [BitVec.toNat_and, ofInt_u64 a (by omega), ofInt_u64 1 (by omega), IntKind.wrap_i64, Nat.and_one_is_mod]
 omega
theorem wd_length_le {n : Nat} {m : Nat} (h : n < 2 ^ (64 * m)) : (wd n).length ≤ m := by
 have h1 := (strip_len_le (wd_ws n) m).2 (by rw [nv_wd, p2cast]; exact Int.ofNat_lt.2 h)
 rwa [strip_wd] at h1
theorem toNat_lt_of {n : Int} {N : Nat} (hN : 0 < N) (h : n < (N : Int)) : n.toNat < N := by omega
theorem wd_len_int {n : Int} {m : Nat} (h : n < 2 ^ (64 * m)) : (wd n.toNat).length ≤ m := by
 rw [p2cast] at h
 exact wd_length_le (toNat_lt_of (Nat.pow_pos (by decide)) h)
theorem bnd_fst_len (n : Int) : (bnd n).1.length ≤ 4096 := by
 unfold bnd
 split
 ·rename_i h
  exact wd_len_int (m := 4096) h
 ·exact Nat.zero_le _
theorem bnd_fst_ws (n : Int) : Ws (bnd n).1 := by
 unfold bnd
 split
 ·exact wd_ws _
 ·exact Ws.nil
theorem bnd_fst_nv {n : Int} (h0 : 0 ≤ n) (h : n < 2 ^ 262144) : nv (bnd n).1 = n := by
 rw [bnd_small h, nv_wd]
 exact Int.toNat_of_nonneg h0
theorem bnd_snd {n : Int} (h : n < 2 ^ 262144) : (bnd n).2 = 0 := by rw [bnd_small h]
theorem pow_le_pow {b : Int} (hb : 1 ≤ b) {m n : Nat} (h : m ≤ n) : b ^ m ≤ b ^ n := by
 obtain ⟨c, rfl⟩ := Int.eq_ofNat_of_zero_le (show 0 ≤ b by omega)
 have hc : 0 < c := by omega
 have := Nat.pow_le_pow_right hc h
 rw [← Int.natCast_pow, ← Int.natCast_pow]
 exact Int.ofNat_le.2 this
theorem quot_Pow.l0_eq (z : List Int) (hz : Ws z) (lz : z.length ≤ 4096) (hb : 1 ≤ nv z) (n : Nat) (hn : n < 9223372036854775808) : ∀ (j k : Nat) (x : List Int), j ≤ 64 → j + 20000000 < k → Ws x → x.length ≤ 4096 → nv x = nv z ^ (n / 2 ^ j) →
  (x = wd (nv z ^ (n / 2 ^ j)).toNat) → nv z ^ (n / 2 ^ j) < 2 ^ 262144 → quot_Pow.l0 k z (n : Int) x ((j : Int) - 1) = some (bnd (nv z ^ n)) := by
 intro j
 induction j with
 | zero =>
  intro k x hj hk hw hl hv hx hs
  obtain ⟨k, rfl⟩ : ∃ i, k = i + 1 := ⟨k - 1, by clear hv hs; omega⟩
  have c1 : ¬ (((0 : Nat) : Int) - 1 ≥ 0) := by decide
  simp only [quot_Pow.l0]
  rw [if_neg c1]
  rw [Nat.pow_zero, Nat.div_one] at hx hs
  rw [bnd_small hs, ← hx]
 | succ j ih =>
  intro k x hj hk hw hl hv hx hs
  obtain ⟨k, rfl⟩ : ∃ i, k = i + 1 := ⟨k - 1, by clear hv hs; omega⟩
  have e1 : ((j + 1 : Nat) : Int) - 1 = (j : Int) := by omega
  have e2 : n / 2 ^ j = 2 * (n / 2 ^ (j + 1)) + n / 2 ^ j % 2 := by
   rw [Nat.pow_succ, ← Nat.div_div_eq_div_mul]
   omega
  have hle : n / 2 ^ j ≤ n := Nat.div_le_self _ _
  have ep : nv x * nv x = nv z ^ (2 * (n / 2 ^ (j + 1))) := by rw [hv, ← Int.pow_add]; congr 1; clear hv hs e1; omega
  have hpos : ∀ m, 0 < nv z ^ m := fun m => Int.pow_pos (by omega)
  have c1 : ((j : Nat) : Int) ≥ 0 := Int.natCast_nonneg _
  have esh : shr .i64 (n : Int) (j : Int) = ((n / 2 ^ j : Nat) : Int) := by
   show (n : Int) / 2 ^ (min (Int.toNat (j : Int)) 64) = _
   rw [Int.toNat_natCast, Nat.min_eq_left (by clear hv hs e1 c1; omega), p2cast, Int.natCast_ediv]
  have ebit : Go.bits .and .i64 ((n / 2 ^ j : Nat) : Int) 1 = ((n / 2 ^ j % 2 : Nat) : Int) := i64_and_one _ (Nat.lt_of_le_of_lt hle hn)
  have ew : wrap64 ((j : Int) - 1) = (j : Int) - 1 := by clear hv hs e1 c1 esh ebit ep; unfold wrap64; omega
  have hlx : x.length * (x.length + 2) ≤ 4096 * 4098 := Nat.mul_le_mul hl (by omega)
  have d1 : x.length * (x.length + 2) + x.length + x.length + 20 < k := by clear hv hs e1 c1 esh ebit ep ew; omega
  have d2 : j + 20000000 < k := by clear hv hs e1 c1 esh ebit ep ew; omega
  have d3 : j ≤ 64 := by clear hv hs e1 c1 esh ebit ep ew; omega
  have dl : x.length ≤ 1000000 := by clear hv hs e1 c1 esh ebit ep ew; omega
  have dz : z.length ≤ 1000000 := by clear hv hs e1 c1 esh ebit ep ew; omega
  have hne : ¬ nv z ^ (2 * (n / 2 ^ (j + 1))) = 0 := Int.ne_of_gt (hpos _)
  simp only [quot_Pow.l0]
  rw [e1, if_pos c1, nat_Mul.f_eq x x hw hw dl dl k d1, ep, if_neg hne]
  simp only [Option.bind_some]
  rw [if_pos c1, esh, ebit, ew]
  clear esh ebit ew e1
  generalize hP : bnd (nv z ^ (2 * (n / 2 ^ (j + 1)))) = P
  have wP : Ws P.1 := by rw [← hP]; exact bnd_fst_ws _
  have lP : P.1.length ≤ 4096 := by rw [← hP]; exact bnd_fst_len _
  have hlP : P.1.length * (z.length + 2) ≤ 4096 * 4098 := Nat.mul_le_mul lP (by clear hv hs ep hne; omega)
  have d4 : P.1.length * (z.length + 2) + P.1.length + z.length + 20 < k := by clear hv hs ep hne; omega
  have dP : P.1.length ≤ 1000000 := by clear hv hs ep hne; omega
  rw [nat_Mul.f_eq P.1 z wP hz dP dz k d4]
  simp only [Option.bind_some]
  by_cases hfit : nv z ^ (2 * (n / 2 ^ (j + 1))) < 2 ^ 262144
  ·have s1 : P.2 = 0 := by rw [← hP]; exact bnd_snd hfit
   have s2 : nv P.1 = nv z ^ (2 * (n / 2 ^ (j + 1))) := by rw [← hP]; exact bnd_fst_nv (Int.le_of_lt (hpos _)) hfit
   rw [if_pos s1, if_pos s1]
   by_cases hbit : n / 2 ^ j % 2 = 1
   ·have b1 : ((n / 2 ^ j % 2 : Nat) : Int) = 1 := by rw [hbit]; rfl
    have e3 : nv P.1 * nv z = nv z ^ (n / 2 ^ j) := by rw [s2, ← Int.pow_succ]; congr 1; rw [hbit] at e2; clear hv hs ep hne b1 s1 s2; omega
    have hne2 : ¬ nv z ^ (n / 2 ^ j) = 0 := Int.ne_of_gt (hpos _)
    rw [if_pos b1, e3, if_neg hne2]
    by_cases hf2 : nv z ^ (n / 2 ^ j) < 2 ^ 262144
    ·rw [bnd_small hf2]
     simp only [if_true]
     exact ih k _ d3 d2 (wd_ws _) (by have := bnd_fst_len (nv z ^ (n / 2 ^ j)); rw [bnd_small hf2] at this; exact this) (by rw [nv_wd]; exact Int.toNat_of_nonneg (Int.le_of_lt (hpos _))) rfl hf2
    ·have hf3 := Int.not_lt.1 hf2
     rw [bnd_big hf3, bnd_big (Int.le_trans hf3 (pow_le_pow hb hle)), if_neg (by decide)]
   ·have b0 : ¬ ((n / 2 ^ j % 2 : Nat) : Int) = 1 := fun h => hbit (by clear hv hs ep hne; omega)
    have e3 : 2 * (n / 2 ^ (j + 1)) = n / 2 ^ j := by clear hv hs ep hne b0 s2 s1; omega
    rw [if_neg b0]
    rw [e3] at hfit s2 hP
    refine ih k _ d3 d2 wP lP s2 ?_ hfit
    rw [← hP, bnd_small hfit]
  ·have hf3 := Int.not_lt.1 hfit
   have s1 : P = ([], 21) := by rw [← hP]; exact bnd_big hf3
   have hle2 : 2 * (n / 2 ^ (j + 1)) ≤ n := by clear hv hs ep hne hfit hf3; omega
   rw [s1, bnd_big (Int.le_trans hf3 (pow_le_pow hb hle2))]
   simp
theorem pow_pow_le {a b : Int} (ha : 0 ≤ a) (h : a ≤ b) (n : Nat) : a ^ n ≤ b ^ n := by
 induction n with
 | zero => simp
 | succ n ih =>
  rw [Int.pow_succ, Int.pow_succ]
  exact Int.mul_le_mul ih h ha (Int.le_trans (Int.pow_nonneg ha) ih)
theorem wd_one : wd 1 = [1] := by rw [wd_pos (by decide)]; rw [show 1 / 18446744073709551616 = 0 from rfl, wd_zero]; rfl
theorem nat_From.one : nat_From.f 1 = some [1] := by
 simp [nat_From.f, nat_Norm.f, strip]
theorem quot_Pow.f_eq (l : List Int) (h : Ws l) (hl : l.length ≤ 4096) (n : Int) (hn : n < 9223372036854775808) (k : Nat) (hk : 30000000 < k) :
  quot_Pow.f k l n = some (if n < 0 then ([], 31) else if n = 0 then ([1], 0) else if nv l < 2 then (strip l, 0) else bnd (nv l ^ n.toNat)) := by
 have hsl := strip_length_le l
 rw [quot_Pow.f, nat_Norm.f, if_pos (by omega)]
 simp only [Option.bind_some]
 have el := nv_strip l
 have wl := h.strip
 rw [nat_Bits.f_eq (strip l) wl (by omega) k (by omega) (by omega), el]
 simp only [Option.bind_some]
 have nz := nv_nonneg h
 by_cases h0 : n < 0
 ·rw [if_pos h0, if_pos h0]
 ·rw [if_neg h0, if_neg h0]
  by_cases h1 : n = 0
  ·rw [if_pos h1, if_pos h1, nat_From.one]; rfl
  ·rw [if_neg h1, if_neg h1]
   obtain ⟨n, rfl⟩ : ∃ j : Nat, n = (j : Int) := ⟨n.toNat, by omega⟩
   rw [Int.toNat_natCast]
   have hb2 : bitsN (nv l) < 2 ↔ nv l < 2 := by
    constructor
    ·intro h2
     have := lt_of_bitsN_le (n := 1) nz (by omega)
     exact this
    ·intro h2
     have := bitsN_le_of_lt (n := 1) nz h2
     omega
   by_cases h2 : nv l < 2
   ·rw [if_pos (hb2.2 h2), if_pos h2]
   ·have hp : 0 < nv l := by omega
    rw [if_neg (fun h3 => h2 (hb2.1 h3)), if_neg h2]
    have b2 : 2 ≤ bitsN (nv l) := by
     have := hb2
     omega
    have bx := bitsN_ge hp
    have bx2 := bitsN_le_of_lt (n := 64 * l.length) nz (nv_lt h)
    generalize ht : bitsN (nv l) = t at *
    clear hb2
    have ew : wrap64 (t - 1) = t - 1 := by clear bx; unfold wrap64; omega
    have hne : ¬ t - 1 = 0 := by clear bx ew; omega
    rw [ew, if_neg hne]
    clear ew
    have hd0 : 0 ≤ 262144 / (t - 1) := Int.ediv_nonneg (by decide) (by clear bx; omega)
    have hd1 : 262144 / (t - 1) ≤ 262144 := Int.ediv_le_self _ (by decide)
    have ew2 : wrap64 (Int.tdiv (262144 : Int) (t - 1)) = 262144 / (t - 1) := by
     rw [Int.tdiv_eq_ediv_of_nonneg (by decide)]
     clear bx
     unfold wrap64; omega
    rw [ew2]
    clear ew2
    by_cases h3 : (n : Int) > 262144 / (t - 1)
    ·rw [if_pos h3, bnd_big]
     have h4 : 262144 < (n : Int) * (t - 1) := Int.lt_mul_of_ediv_lt (by clear bx hd0 hd1; omega) h3
     have h5 := pow_pow_le (Int.le_of_lt (two_pow_pos (t.toNat - 1))) bx n
     rw [← Int.pow_mul] at h5
     refine Int.le_trans (pow_mono ?_) h5
     have e6 : (((t.toNat - 1) * n : Nat) : Int) = (n : Int) * (t - 1) := by
      rw [Int.natCast_mul, Int.mul_comm, show ((t.toNat - 1 : Nat) : Int) = t - 1 from by clear h5 bx h4 hd0 hd1; omega]
     have h7 : (262144 : Int) ≤ (((t.toNat - 1) * n : Nat) : Int) := by rw [e6]; exact Int.le_of_lt h4
     exact Int.ofNat_le.1 h7
    ·have hn2 : n ≤ 262144 := by clear bx; omega
     clear hd0 hd1
     have en : IntKind.u64.wrap (n : Int) = (n : Int) := u64w_of (Int.natCast_nonneg _) (by clear bx h3; omega)
     have hn0 : 0 < (n : Int) := by clear bx h3 en; omega
     rw [if_neg h3, nat_From.one, en]
     simp only [Option.bind_some]
     rw [wide_Len.f_eq (Int.natCast_nonneg _) (by clear bx h3 en; omega) k (by clear bx h3 en; omega)]
     simp only [Option.bind_some]
     have hbn := bitsN_lt hn0
     have hbn2 := bitsN_le_of_lt (n := 63) (Int.natCast_nonneg n) hn
     have hbn0 := bitsN_nonneg (n : Int)
     generalize bitsN (n : Int) = u at *
     obtain ⟨u, rfl⟩ : ∃ j : Nat, u = (j : Int) := ⟨u.toNat, by clear bx h3 en hbn; omega⟩
     have ew3 : wrap64 ((u : Int) - 1) = (u : Int) - 1 := by clear bx h3 en hbn; unfold wrap64; omega
     rw [ew3]
     clear ew3 en
     rw [Int.toNat_natCast, p2cast] at hbn
     have hdz : n / 2 ^ u = 0 := Nat.div_eq_of_lt (Int.ofNat_lt.1 hbn)
     have hone : (1 : Int) < 2 ^ 262144 := Int.lt_of_lt_of_le (show (1 : Int) < 2 ^ 1 by decide) (pow_mono (by decide))
     have r := quot_Pow.l0_eq (strip l) wl (by clear bx h3 hbn hone; omega) (by rw [el]; clear bx h3 hbn hone; omega) n (by clear bx h3 hbn hone; omega) u k [1] (by clear bx h3 hbn hone; omega) (by clear bx h3 hbn hone; omega) (Ws.cons (by decide) (by decide) Ws.nil) (by decide) (by rw [hdz, Int.pow_zero]; rfl) (by rw [hdz, Int.pow_zero]; exact wd_one.symm) (by rw [hdz, Int.pow_zero]; exact hone)
     rw [r, el]
theorem fits {b : Int} (c : Nat) (hb : b = (c : Int)) {n m : Nat} (h : Nat.ble (c ^ n + 1) (2 ^ m) = true) : b ^ n < 2 ^ m := by
 rw [hb, ← Int.natCast_pow, p2cast]
 exact Int.ofNat_lt.2 (Nat.le_of_ble_eq_true h)
theorem five_fits : (5 : Int) ^ 112899 < 2 ^ 262144 := fits 5 rfl (by kernel_rfl)
theorem five_lt {n : Nat} (h : n ≤ 112899) : (5 : Int) ^ n < 2 ^ 262144 := by
 exact Int.lt_of_le_of_lt (pow_le_pow (by decide) h) five_fits
theorem ws_five : Ws [5] := Ws.cons (by decide) (by decide) Ws.nil
theorem radix_Five.f_eq (n : Int) (hn : n < 9223372036854775808) (k : Nat) (hk : 30000000 < k) :
  radix_Five.f k n = some (if n > 112899 then ([], 21) else if n < 0 then ([], 31) else (wd ((5 : Int) ^ n.toNat).toNat, 0)) := by
 rw [radix_Five.f]
 by_cases h : n > 112899
 ·rw [if_pos h, if_pos h]
 ·rw [if_neg h, if_neg h, quot_Pow.f_eq [5] ws_five (by decide) n hn k hk]
  simp only [Option.bind_some]
  have e5 : nv [5] = 5 := rfl
  by_cases h0 : n < 0
  ·rw [if_pos h0, if_pos h0]
  ·rw [if_neg h0, if_neg h0, e5]
   by_cases h1 : n = 0
   ·rw [if_pos h1, h1]
    show some (([1] : List Int), (0 : Int)) = some (wd 1, 0)
    rw [wd_one]
   ·rw [if_neg h1, if_neg (by decide), bnd_small (five_lt (n := n.toNat) (by omega))]
theorem chunkL_spec (b : Int) (hb : 2 ≤ b) : ∀ (k : Nat) (n : Nat), b ^ n < 18446744073709551616 → ∃ m : Nat, n ≤ m ∧ m ≤ n + k ∧ b ^ m < 18446744073709551616 ∧ chunkL b k (b ^ n) n = (b ^ m, (m : Int)) := by
 intro k
 induction k with
 | zero => intro n hn; exact ⟨n, by omega, by omega, hn, rfl⟩
 | succ k ih =>
  intro n hn
  simp only [chunkL]
  by_cases h : b ^ n ≤ 18446744073709551615 / b
  ·rw [if_pos h]
   have h1 : b ^ n * b ≤ 18446744073709551615 := (Int.le_ediv_iff_mul_le (by omega)).1 h
   rw [← Int.pow_succ] at h1 ⊢
   obtain ⟨m, e1, e2, e3, e4⟩ := ih (n + 1) (Int.lt_of_le_of_lt h1 (by decide))
   have en : ((n : Int) + 1) = ((n + 1 : Nat) : Int) := by omega
   rw [en, e4]
   exact ⟨m, by omega, by omega, e3, rfl⟩
  ·rw [if_neg h]
   exact ⟨n, by omega, by omega, hn, rfl⟩
theorem radix_chunk.f_eq (b : Int) (h2 : 2 ≤ b) (h36 : b ≤ 36) : ∃ n : Nat, 1 ≤ n ∧ n ≤ 66 ∧ b ^ n < 18446744073709551616 ∧ radix_chunk.f b = some (b ^ n, (n : Int)) := by
 have := chunkL_spec b h2 65 1 (by rw [Int.pow_one]; omega)
 obtain ⟨m, e1, e2, e3, e4⟩ := this
 rw [Int.pow_one] at e4
 have e4' : chunkL b 65 b 1 = (b ^ m, (m : Int)) := e4
 refine ⟨m, e1, by omega, e3, ?_⟩
 rw [radix_chunk.f, if_pos ⟨h2, h36⟩, e4']
def dg (v : Nat) : Int := bt (⟨#[48, 49, 50, 51, 52, 53, 54, 55, 56, 57, 97, 98, 99, 100, 101, 102, 103, 104, 105, 106, 107, 108, 109, 110, 111, 112, 113, 114, 115, 116, 117, 118, 119, 120, 121, 122]⟩ : ByteArray) (v : Int)
theorem dg_zero : dg 0 = 48 := rfl
theorem dg_val : ∀ v, v < 36 → dg v = if v < 10 then 48 + v else 87 + v := by decide
theorem dg_eq_zero {v : Nat} (h : v < 36) : dg v = 48 ↔ v = 0 := by
 rw [dg_val v h]; split <;> omega
def pad (b : Nat) : Nat → Nat → List Int
 | 0, _ => []
 | m + 1, N => dg (N % b) :: pad b m (N / b)
theorem pad_length (b : Nat) : ∀ m N, (pad b m N).length = m
 | 0, _ => rfl
 | m + 1, N => by rw [pad, List.length_cons, pad_length b m]
theorem pad_add (b : Nat) : ∀ a c N, pad b (a + c) N = pad b a N ++ pad b c (N / b ^ a)
 | 0, c, N => by rw [Nat.zero_add, Nat.pow_zero, Nat.div_one]; rfl
 | a + 1, c, N => by
  rw [show a + 1 + c = (a + c) + 1 from by omega, pad, pad_add b a c, pad, List.cons_append, Nat.div_div_eq_div_mul, Nat.pow_succ, Nat.mul_comm b]
theorem pad_mod (b : Nat) (hb : 0 < b) : ∀ a N, pad b a (N % b ^ a) = pad b a N
 | 0, N => rfl
 | a + 1, N => by
  rw [pad, pad, Nat.pow_succ, Nat.mul_comm (b ^ a), Nat.mod_mul_right_mod, Nat.mod_mul_right_div_self, pad_mod b hb a]
def dgsF (b : Nat) : Nat → Nat → List Int
 | 0, _ => []
 | m + 1, N => if N = 0 then [] else dg (N % b) :: dgsF b m (N / b)
theorem dgsF_zero (b m : Nat) : dgsF b m 0 = [] := by cases m <;> rfl
theorem div_lt_pow {b m N : Nat} (h : N < b ^ (m + 1)) : N / b < b ^ m := by
 rw [Nat.pow_succ, Nat.mul_comm] at h
 exact Nat.div_lt_of_lt_mul h
theorem dgsF_eq (b : Nat) : ∀ m n N, N < b ^ m → N < b ^ n → dgsF b m N = dgsF b n N
 | 0, n, N, h, _ => by
  obtain rfl : N = 0 := by simpa using h
  rw [dgsF_zero, dgsF_zero]
 | m + 1, 0, N, _, h => by
  obtain rfl : N = 0 := by simpa using h
  rw [dgsF_zero, dgsF_zero]
 | m + 1, n + 1, N, h1, h2 => by
  rw [dgsF, dgsF, dgsF_eq b m n (N / b) (div_lt_pow h1) (div_lt_pow h2)]
def dgs (b N : Nat) : List Int := dgsF b N N
theorem dgs_zero (b : Nat) : dgs b 0 = [] := rfl
theorem dgs_of {b : Nat} (hb : 2 ≤ b) {m N : Nat} (h : N < b ^ m) : dgsF b m N = dgs b N := dgsF_eq b m N N h (Nat.lt_pow_self (by omega))
theorem dgs_pos {b : Nat} (hb : 2 ≤ b) {N : Nat} (h : N ≠ 0) : dgs b N = dg (N % b) :: dgs b (N / b) := by
 obtain ⟨M, rfl⟩ : ∃ M, N = M + 1 := ⟨N - 1, by omega⟩
 have h1 : M + 1 < b ^ (M + 1) := Nat.lt_pow_self (by omega)
 conv => lhs; unfold dgs
 rw [dgsF, if_neg h, dgs_of hb (div_lt_pow h1)]
def sz : List Int → List Int
 | [] => []
 | x :: xs => if sz xs = [] then (if x = 48 then [] else [x]) else x :: sz xs
theorem sz_snoc_zero (xs : List Int) : sz (xs ++ [48]) = sz xs := by
 induction xs with
 | nil => rfl
 | cons x xs ih => rw [List.cons_append, sz, ih, ← sz]
theorem sz_snoc_ne (xs : List Int) {c : Int} (h : c ≠ 48) : sz (xs ++ [c]) = xs ++ [c] := by
 induction xs with
 | nil => show sz [c] = [c]; simp [sz, h]
 | cons x xs ih => rw [List.cons_append, sz, ih, if_neg (by simp)]
theorem sz_pad {b : Nat} (hb : 2 ≤ b) (hb36 : b ≤ 36) : ∀ m N, N < b ^ m → sz (pad b m N) = dgsF b m N
 | 0, N, _ => rfl
 | m + 1, N, h => by
  have h1 := div_lt_pow h
  have hm : N % b < b := Nat.mod_lt _ (by omega)
  rw [pad, sz, sz_pad hb hb36 m (N / b) h1, dgsF]
  have hz : dgsF b m (N / b) = [] ↔ N / b = 0 := by
   cases m with
   | zero =>
    have : N / b = 0 := by simpa using h1
    simp [dgsF, this]
   | succ m => rw [dgsF]; by_cases h0 : N / b = 0 <;> simp [h0]
  have hd := dg_eq_zero (v := N % b) (by omega)
  by_cases h0 : N = 0
  ·subst h0
   rw [if_pos rfl, Nat.zero_div, dgsF_zero, if_pos rfl, Nat.zero_mod, if_pos dg_zero]
  ·rw [if_neg h0]
   by_cases h2 : N / b = 0
   ·have h3 : N % b = N := Nat.mod_eq_of_lt ((Nat.div_eq_zero_iff_lt (by omega)).1 h2)
    rw [if_pos (hz.2 h2), if_neg (by rw [hd, h3]; exact h0), hz.2 h2]
   ·rw [if_neg (fun h => h2 (hz.1 h))]
theorem radix_written.l2_eq : ∀ (n k : Nat) (xs : List Int), xs.length = n → n < k → n ≤ 140737488355328 → radix_written.l2 k xs = some (sz xs) := by
 intro n
 induction n with
 | zero =>
  intro k xs hl hk hm
  obtain ⟨k, rfl⟩ : ∃ j, k = j + 1 := ⟨k - 1, by omega⟩
  obtain rfl := List.eq_nil_of_length_eq_zero hl
  rfl
 | succ n ih =>
  intro k xs hl hk hm
  obtain ⟨k, rfl⟩ : ∃ j, k = j + 1 := ⟨k - 1, by omega⟩
  obtain ⟨ys, c, rfl⟩ : ∃ ys c, xs = ys ++ [c] := by
   rcases List.eq_nil_or_concat xs with rfl | ⟨ys, c, rfl⟩
   ·simp at hl
   ·exact ⟨ys, c, by rw [List.concat_eq_append]⟩
  have hl2 : ys.length = n := by simpa using hl
  have ew : wrap64 (((ys ++ [c]).length : Int) - 1) = (ys.length : Int) := by rw [hl]; unfold wrap64; omega
  have er : rd (ys ++ [c]) (ys.length : Int) = c := by
   show (ys ++ [c]).getD ys.length 0 = c
   simp
  have q1 : ((ys ++ [c]).length : Int) > 0 := by rw [hl]; omega
  have q2 : (ys.length : Int) < ((ys ++ [c]).length : Int) := by rw [hl]; omega
  simp only [radix_written.l2]
  rw [ew, er, if_pos q1, if_pos (by omega), if_pos q2, if_pos (Int.le_of_lt q2), Int.toNat_natCast, List.take_left]
  by_cases h : c = 48
  ·rw [if_pos h, h, sz_snoc_zero]
   exact ih k ys hl2 (by omega) (by omega)
  ·rw [if_neg h, sz_snoc_ne ys h]
theorem radix_written.l1_eq (b n : Nat) (hb2 : 2 ≤ b) (hb : b ≤ 36) (hn : n ≤ 100) (p : Int) (q : List Int) : ∀ (d k : Nat) (out : List Int) (r i : Nat), i + d = n → r < 18446744073709551616 → out.length + d ≤ 140737488355328 →
  radix_written.l1 (k + d + 1) b p n out q r n i = radix_written.l0 k q b p n (out ++ pad b d r) := by
 intro d
 induction d with
 | zero =>
  intro k out r i hd hr hl
  conv => lhs; unfold radix_written.l1
  rw [if_neg (by omega)]
  show _ = radix_written.l0 k q b p n (out ++ [])
  rw [List.append_nil]
 | succ d ih =>
  intro k out r i hd hr hl
  have eb : IntKind.u64.wrap (b : Int) = (b : Int) := u64w_of (by omega) (by omega)
  have em : Int.tmod (r : Int) (b : Int) = ((r % b : Nat) : Int) := by rw [Int.tmod_eq_emod_of_nonneg (by omega)]; rfl
  have hmod : r % b < b := Nat.mod_lt _ (by omega)
  have hdiv : r / b ≤ r := Nat.div_le_self _ _
  have ed : IntKind.u64.wrap (Int.tdiv (r : Int) (b : Int)) = ((r / b : Nat) : Int) := by
   rw [Int.tdiv_eq_ediv_of_nonneg (by omega)]
   have : (r : Int) / (b : Int) = ((r / b : Nat) : Int) := rfl
   rw [this]
   have h3 : r / b < 18446744073709551616 := Nat.lt_of_le_of_lt hdiv hr
   clear this em eb hdiv
   exact u64w_of (Int.natCast_nonneg _) (Int.ofNat_lt.2 h3)
  have ew := w64_succ i (by omega)
  have c1 : (i : Int) < (n : Int) := by clear em ed eb ew; omega
  have c2 : ¬ (b : Int) = 0 := by clear em ed eb ew; omega
  have c3 : (0 : Int) ≤ ((r % b : Nat) : Int) := Int.natCast_nonneg _
  have c4 : ((r % b : Nat) : Int) < 36 := Int.ofNat_lt.2 (Nat.lt_of_lt_of_le hmod hb)
  have c5 : out.length < 140737488355328 := by clear em ed eb ew; omega
  have c6 : i + 1 + d = n := by clear em ed eb ew; omega
  have c7 : r / b < 18446744073709551616 := Nat.lt_of_le_of_lt hdiv hr
  rw [show k + (d + 1) + 1 = (k + d + 1) + 1 from by clear em ed eb ew; omega]
  conv => lhs; unfold radix_written.l1
  rw [eb, em, ed, ew, if_pos c1, if_neg c2, if_pos c3, if_pos c4, if_pos c5]
  have h := ih k (out ++ [dg (r % b)]) (r / b) (i + 1) c6 c7 (by rw [List.length_append, List.length_singleton]; clear em ed eb ew; omega)
  rw [List.append_assoc] at h
  exact h
theorem wd_length_mono {x : List Int} (h : Ws x) {n : Int} (h0 : n ≤ nv x) : (wd n.toNat).length ≤ x.length := by
 apply wd_len_int
 have := nv_lt h
 omega
theorem radix_written.l0_eq (b n : Nat) (hb2 : 2 ≤ b) (hb : b ≤ 36) (hn1 : 1 ≤ n) (hn : n ≤ 66) (hp : (b : Int) ^ n < 18446744073709551616) (M : Nat) (hM : M ≤ 1000000) : ∀ (j k : Nat) (x out : List Int), Ws x → strip x = x → x.length ≤ M → nv x < 2 ^ j → j ≤ 64 * M → j * (n + 2) + 70000000 * 66 + 10 < k → out.length + 66 * j ≤ 70000000 * 66 →
  ∃ m, nv x < ((b ^ m : Nat) : Int) ∧ radix_written.l0 k x b ((b : Int) ^ n) n out = some (sz (out ++ pad b m (nv x).toNat)) := by
 intro j
 induction j with
 | zero =>
  intro k x out hw hs hl hx hj hk ho
  obtain ⟨k, rfl⟩ : ∃ i, k = i + 1 := ⟨k - 1, by omega⟩
  have h0 := nv_nonneg hw
  rw [Int.pow_zero] at hx
  have h1 : nv x = 0 := by omega
  have h2 : x = [] := by
   rcases Nat.eq_zero_or_pos (strip x).length with h3 | h3
   ·rw [hs] at h3; exact List.eq_nil_of_length_eq_zero h3
   ·have := (strip_length_pos hw).1 h3; omega
  subst h2
  refine ⟨0, by simp [nv], ?_⟩
  simp only [radix_written.l0]
  rw [if_neg (by simp), radix_written.l2_eq out.length k out rfl (by omega) (by omega)]
  show _ = some (sz (out ++ []))
  rw [List.append_nil]
 | succ j ih =>
  intro k x out hw hs hl hx hj hk ho
  have hk' : j * (n + 2) + (n + 2) + 70000000 * 66 + 10 < k := by rw [Nat.succ_mul] at hk; exact hk
  by_cases h2 : x = []
  ·subst h2
   obtain ⟨k, rfl⟩ : ∃ i, k = i + 1 := ⟨k - 1, by omega⟩
   refine ⟨0, by simp [nv], ?_⟩
   simp only [radix_written.l0]
   rw [if_neg (by simp), radix_written.l2_eq out.length k out rfl (by omega) (by omega)]
   show _ = some (sz (out ++ []))
   rw [List.append_nil]
  ·obtain ⟨i, rfl⟩ : ∃ i, k = (i + n + 1) + 1 := ⟨k - (n + 2), by omega⟩
   have hlen : 0 < x.length := List.length_pos_iff.2 h2
   have h0 := nv_nonneg hw
   have hbn : (b : Int) ^ n = ((b ^ n : Nat) : Int) := (Int.natCast_pow b n).symm
   have hP2 : 2 ≤ b ^ n := by
    have : b ^ 1 ≤ b ^ n := Nat.pow_le_pow_right (by omega) hn1
    rw [Nat.pow_one] at this
    omega
   rw [hbn] at hp ⊢
   have hP : b ^ n < 18446744073709551616 := Int.ofNat_lt.1 hp
   obtain ⟨N, hN⟩ : ∃ N : Nat, nv x = (N : Int) := ⟨(nv x).toNat, by omega⟩
   have e1 : nv x / ((b ^ n : Nat) : Int) = ((N / b ^ n : Nat) : Int) := by rw [hN]; rfl
   have e2 : nv x % ((b ^ n : Nat) : Int) = ((N % b ^ n : Nat) : Int) := by rw [hN]; rfl
   have c1 : (x.length : Int) > 0 := Int.ofNat_lt.2 hlen
   have c2 : (0 : Int) < ((b ^ n : Nat) : Int) := by omega
   have c3 : x.length ≤ 35184372088832 := by omega
   have c4 : x.length < i + n + 1 := by omega
   have c5 : N % b ^ n < 18446744073709551616 := Nat.lt_trans (Nat.mod_lt _ (by omega)) hP
   have c6 : out.length + n ≤ 140737488355328 := by omega
   have hdl : ((N / b ^ n : Nat) : Int) ≤ nv x := by rw [hN]; exact Int.ofNat_le.2 (Nat.div_le_self _ _)
   have hw2 := wd_length_mono hw hdl
   have hdx : ((N / b ^ n : Nat) : Int) < 2 ^ j := by
    rw [p2cast]
    rw [hN, p2cast] at hx
    have hx' := Int.ofNat_lt.1 hx
    rw [Nat.pow_succ] at hx'
    apply Int.ofNat_lt.2
    apply Nat.div_lt_of_lt_mul
    exact Nat.lt_of_lt_of_le hx' (by rw [Nat.mul_comm]; exact Nat.mul_le_mul_right _ hP2)
   have h9 := ih (i) (wd (N / b ^ n)) (out ++ pad b n (N % b ^ n)) (wd_ws _) (strip_wd _) (Nat.le_trans hw2 hl) (by rw [nv_wd]; exact hdx) (by omega) (by omega) (by rw [List.length_append, pad_length]; omega)
   rw [nv_wd, hbn] at h9
   obtain ⟨m, e3, e4⟩ := h9
   refine ⟨n + m, ?_, ?_⟩
   ·rw [hN, Nat.pow_add]
    apply Int.ofNat_lt.2
    have := Int.ofNat_lt.1 e3
    rw [Nat.mul_comm]
    exact (Nat.div_lt_iff_lt_mul (by omega)).1 this
   ·simp only [radix_written.l0]
    rw [if_pos c1, quot_Small.f_eq x hw _ c2 hp c3 _ c4, e1, e2]
    simp only [Option.bind_some]
    have e5 := radix_written.l1_eq b n hb2 hb (by omega) ((b ^ n : Nat) : Int) (wd (N / b ^ n)) n i out (N % b ^ n) 0 (by omega) c5 c6
    have e6 : radix_written.l1 (i + n + 1) b ((b ^ n : Nat) : Int) n out (wd (N / b ^ n)) ((N % b ^ n : Nat) : Int) n 0 = radix_written.l0 i (wd (N / b ^ n)) b ((b ^ n : Nat) : Int) n (out ++ pad b n (N % b ^ n)) := e5
    have e7 : (((N / b ^ n : Nat) : Int)).toNat = N / b ^ n := Int.toNat_natCast _
    have e8 : (nv x).toNat = N := by rw [hN]; exact Int.toNat_natCast _
    rw [e7, e6, e4, e7, e8, List.append_assoc, pad_mod b (by omega), pad_add]
theorem radix_written.f_eq (b : Nat) (hb2 : 2 ≤ b) (hb : b ≤ 36) (x : List Int) (hw : Ws x) (hl : x.length ≤ 1000000) (k : Nat) (hk : 9000000000 < k) : radix_written.f k x b = some (dgs b (nv x).toNat) := by
 obtain ⟨n, h1, h2, h3, h4⟩ := radix_chunk.f_eq b (by omega) (by omega)
 have hs := strip_length_le x
 have hwl := nv_lt hw.strip
 have hmul : 64 * x.length * (n + 2) ≤ 64 * 1000000 * 68 := Nat.mul_le_mul (by omega) (by omega)
 obtain ⟨m, e1, e2⟩ := radix_written.l0_eq b n hb2 hb h1 h2 h3 x.length hl (64 * x.length) k (strip x) [] hw.strip (strip_strip x) hs (by rw [nv_strip]; exact nv_lt hw) (Nat.le_refl _) (by omega) (by simp; omega)
 rw [nv_strip] at e1 e2
 have e3 : (nv x).toNat < b ^ m := by have := nv_nonneg hw; omega
 rw [radix_written.f, h4]
 simp only [Option.bind_some]
 rw [nat_Norm.f, if_pos (by omega)]
 simp only [Option.bind_some]
 rw [e2, List.nil_append, sz_pad hb2 hb m _ e3, dgs_of hb2 e3]
theorem slices_Reverse_byte_byte.l0_eq (xs : List Int) (hm : xs.length ≤ 140737488355328) : ∀ (d k i : Nat) (cur : List Int), xs.length - i = d → 2 * i ≤ xs.length + 1 → d < k → cur.length = xs.length →
  (∀ t, t < xs.length → cur.getD t 0 = if t < i ∨ xs.length ≤ t + i then xs.getD (xs.length - 1 - t) 0 else xs.getD t 0) →
  slices_Reverse_byte_byte.l0 k cur (i : Int) ((xs.length : Int) - 1 - i) = some xs.reverse := by
 intro d
 induction d with
 | zero =>
  intro k i cur hd hi hk hl hc
  obtain ⟨k, rfl⟩ : ∃ j, k = j + 1 := ⟨k - 1, by omega⟩
  simp only [slices_Reverse_byte_byte.l0]
  rw [if_neg (by omega)]
  congr 1
  apply List.ext_getElem (by simp [hl])
  intro t h1 h2
  have := hc t (by omega)
  rw [if_pos (by omega), List.getD_eq_getElem?_getD, List.getElem?_eq_getElem h1, List.getD_eq_getElem?_getD, List.getElem?_eq_getElem (by omega)] at this
  rw [List.getElem_reverse]
  exact this
 | succ d ih =>
  intro k i cur hd hi hk hl hc
  obtain ⟨k, rfl⟩ : ∃ j, k = j + 1 := ⟨k - 1, by omega⟩
  simp only [slices_Reverse_byte_byte.l0]
  by_cases h : (i : Int) < (xs.length : Int) - 1 - i
  ·have e1 : wrap64 ((i : Int) + 1) = ((i + 1 : Nat) : Int) := w64_succ i (by omega)
   have e2 : wrap64 ((xs.length : Int) - 1 - i - 1) = (xs.length : Int) - 1 - ((i + 1 : Nat) : Int) := by clear e1; unfold wrap64; omega
   have e3 : ((xs.length : Int) - 1 - i).toNat = xs.length - 1 - i := by clear e1 e2; omega
   have e4 : rd cur ((xs.length : Int) - 1 - i) = cur.getD (xs.length - 1 - i) 0 := by show cur.getD _ 0 = _; rw [e3]
   have e5 : rd cur (i : Int) = cur.getD i 0 := rfl
   have q1 : (0 : Int) ≤ (xs.length : Int) - 1 - i := by clear e1 e2; omega
   have q2 : (xs.length : Int) - 1 - i < (cur.length : Int) := by clear e1 e2; omega
   have q3 : (0 : Int) ≤ (i : Int) := Int.natCast_nonneg _
   have q4 : (i : Int) < (cur.length : Int) := by clear e1 e2; omega
   have q5 : xs.length - (i + 1) = d := by clear e1 e2; omega
   have q6 : 2 * (i + 1) ≤ xs.length + 1 := by clear e1 e2; omega
   have q7 : d < k := by clear e1 e2; omega
   rw [if_pos h, if_pos q1, if_pos q2, if_pos q3, if_pos q4, e1, e2, e3, e4, e5, Int.toNat_natCast]
   refine ih k (i + 1) _ q5 q6 q7 (by rw [List.length_set, List.length_set]; exact hl) ?_
   clear e1 e2 e3 e4 e5 ih
   intro t ht
   have g1 := hc i (by omega)
   have g2 := hc (xs.length - 1 - i) (by omega)
   have g3 := hc t ht
   rw [if_neg (by omega)] at g1 g2
   by_cases ht1 : t = xs.length - 1 - i
   ·subst ht1
    rw [List.getD_eq_getElem?_getD, List.getElem?_set_self (by rw [List.length_set]; omega), if_pos (by omega), show xs.length - 1 - (xs.length - 1 - i) = i from by omega]
    exact g1
   ·rw [set_getD_ne (Ne.symm ht1)]
    by_cases ht2 : t = i
    ·subst ht2
     rw [List.getD_eq_getElem?_getD, List.getElem?_set_self (by omega), if_pos (by omega)]
     exact g2
    ·rw [set_getD_ne (Ne.symm ht2), g3]
     by_cases h5 : t < i ∨ xs.length ≤ t + i
     ·rw [if_pos h5, if_pos (by omega)]
     ·rw [if_neg h5, if_neg (by omega)]
  ·rw [if_neg h]
   congr 1
   apply List.ext_getElem (by simp [hl])
   intro t h1 h2
   have := hc t (by omega)
   rw [List.getElem_reverse]
   by_cases h5 : t < i ∨ xs.length ≤ t + i
   ·rw [if_pos h5, List.getD_eq_getElem?_getD, List.getElem?_eq_getElem h1, List.getD_eq_getElem?_getD, List.getElem?_eq_getElem (by omega)] at this
    exact this
   ·rw [if_neg h5, List.getD_eq_getElem?_getD, List.getElem?_eq_getElem h1, List.getD_eq_getElem?_getD, List.getElem?_eq_getElem (by omega)] at this
    have ht : xs.length - 1 - t = t := by omega
    simp only [Option.getD_some] at this
    simp only [ht]
    exact this
theorem slices_Reverse_byte_byte.f_eq (xs : List Int) (hm : xs.length ≤ 140737488355328) (k : Nat) (hk : xs.length < k) : slices_Reverse_byte_byte.f k xs = some xs.reverse := by
 have ew : wrap64 ((xs.length : Int) - 1) = (xs.length : Int) - 1 - ((0 : Nat) : Int) := by unfold wrap64; omega
 rw [slices_Reverse_byte_byte.f, ew]
 exact slices_Reverse_byte_byte.l0_eq xs hm xs.length k 0 xs (by omega) (by omega) hk rfl (fun t ht => by rw [if_neg (by omega)])
theorem dgsF_length_le (b : Nat) : ∀ m N, (dgsF b m N).length ≤ m
 | 0, _ => Nat.le_refl _
 | m + 1, N => by
  rw [dgsF]
  split
  ·exact Nat.zero_le _
  ·rw [List.length_cons]; have := dgsF_length_le b m (N / b); omega
theorem dgs_length_le {b : Nat} (hb : 2 ≤ b) {m N : Nat} (h : N < b ^ m) : (dgs b N).length ≤ m := by
 rw [← dgs_of hb h]; exact dgsF_length_le b m N
theorem dgs_length_bits {b : Nat} (hb : 2 ≤ b) {m N : Nat} (h : N < 2 ^ m) : (dgs b N).length ≤ m := dgs_length_le hb (Nat.lt_of_lt_of_le h (Nat.pow_le_pow_left hb m))
theorem strip_nil_iff {xs : List Int} (h : Ws xs) : strip xs = [] ↔ nv xs = 0 := by
 have h1 := strip_length_pos h
 have h2 := nv_nonneg h
 constructor
 ·intro h3; rw [h3] at h1; simp at h1; omega
 ·intro h3; exact List.eq_nil_of_length_eq_zero (by omega)
theorem radix_based.f_eq (b : Int) : radix_based.f b = some (decide (2 ≤ b ∧ b ≤ 36)) := by
 rw [radix_based.f]
 by_cases h : b ≥ 2
 ·rw [if_pos h]; congr 1; rw [decide_eq_decide]; exact ⟨fun h1 => ⟨h, h1⟩, fun h1 => h1.2⟩
 ·rw [if_neg h]; congr 1; symm; rw [decide_eq_false_iff_not]; exact fun h1 => h h1.1
def txt (b N : Nat) : ByteArray := if N = 0 then ⟨#[48]⟩ else strOfNums (dgs b N).reverse
theorem radix_Text.f_eq (b : Nat) (hb2 : 2 ≤ b) (hb : b ≤ 36) (x : List Int) (hw : Ws x) (hl : x.length ≤ 35184372088832) (h : nv x < (2 : Int) ^ 262144) (k : Nat) (hk : 9000000000 < k) : radix_Text.f k x b = some (txt b (nv x).toNat, 0) := by
 have h1 := strip_len_le hw 4096
 have h2 : (strip x).length ≤ 4096 := h1.2 h
 have hn := nv_nonneg hw
 rw [radix_Text.f, radix_based.f_eq, decide_eq_true (by omega)]
 simp only [Option.bind_some, if_true]
 rw [nat_Norm.f, if_pos hl]
 simp only [Option.bind_some]
 rw [if_neg (by clear h h1; omega)]
 by_cases h0 : nv x = 0
 ·rw [(strip_nil_iff hw).2 h0, h0]
  rfl
 ·have h3 : ¬ ((strip x).length : Int) = 0 := by
   intro h4
   exact h0 ((strip_nil_iff hw).1 (List.eq_nil_of_length_eq_zero (by clear h h1; omega)))
  have h5 : (nv x).toNat < 2 ^ 262144 := by
   rw [p2cast] at h
   clear h1
   generalize 2 ^ 262144 = p at *
   omega
  have h6 := dgs_length_bits hb2 h5
  rw [if_neg h3, radix_written.f_eq b hb2 hb (strip x) hw.strip (by clear h h1 h5; omega) k hk, nv_strip]
  simp only [Option.bind_some]
  rw [slices_Reverse_byte_byte.f_eq _ (Nat.le_trans h6 (by decide)) k (Nat.lt_of_le_of_lt h6 (Nat.lt_trans (by decide) hk))]
  simp only [Option.bind_some]
  rw [txt, if_neg (by clear h h1 h5; omega)]
theorem tens_split : ∀ N : Nat, N ≠ 0 → ∃ u v, N = u * 10 ^ v ∧ u % 10 ≠ 0 := by
 intro N
 induction N using Nat.strongRecOn with
 | _ N ih =>
  intro h
  by_cases h1 : N % 10 = 0
  ·obtain ⟨u, v, e1, e2⟩ := ih (N / 10) (by omega) (by omega)
   refine ⟨u, v + 1, ?_, e2⟩
   rw [Nat.pow_succ, ← Nat.mul_assoc, ← e1]
   omega
  ·exact ⟨N, 0, by rw [Nat.pow_zero, Nat.mul_one], h1⟩
theorem two_le_ten {n v : Nat} (h : n ≤ v) : 2 ^ n ≤ 10 ^ v := Nat.le_trans (Nat.pow_le_pow_left (by decide) n) (Nat.pow_le_pow_right (by decide) h)
theorem radix_Trim.l0_eq (u : Nat) (hu : u % 10 ≠ 0) : ∀ (v k c : Nat) (x : List Int), Ws x → strip x = x → x.length ≤ 1000000 → (nv x).toNat = u * 10 ^ v → v + 1000010 < k → c + v < 4611686018427387904 →
  radix_Trim.l0 k x (c : Int) = some (wd u, ((c + v : Nat) : Int)) := by
 intro v
 induction v with
 | zero =>
  intro k c x hw hs hl hx hk hc
  obtain ⟨k, rfl⟩ : ∃ j, k = j + 1 := ⟨k - 1, by omega⟩
  rw [Nat.pow_zero, Nat.mul_one] at hx
  have hn := nv_nonneg hw
  have e1 : nv x % 10 ≠ 0 := by omega
  simp only [radix_Trim.l0]
  rw [quot_Small.f_eq x hw 10 (by decide) (by decide) (by omega) k (by omega)]
  simp only [Option.bind_some]
  rw [if_neg e1, ← hx, wd_nv hw, hs, Nat.add_zero]
 | succ v ih =>
  intro k c x hw hs hl hx hk hc
  obtain ⟨k, rfl⟩ : ∃ j, k = j + 1 := ⟨k - 1, by omega⟩
  have hn := nv_nonneg hw
  have hx2 : (nv x).toNat = u * 10 ^ v * 10 := by rw [hx, Nat.pow_succ, Nat.mul_assoc]
  have e1 : nv x % 10 = 0 := by clear hx; generalize u * 10 ^ v = p at hx2; omega
  have e2 : (nv x / 10).toNat = u * 10 ^ v := by clear hx; generalize u * 10 ^ v = p at hx2 ⊢; omega
  have e3 : nv x / 10 ≤ nv x := by clear hx hx2 e2; omega
  have hl2 := wd_length_mono hw e3
  have ew := w64_succ c (by omega)
  simp only [radix_Trim.l0]
  rw [quot_Small.f_eq x hw 10 (by decide) (by decide) (by omega) k (by omega)]
  simp only [Option.bind_some]
  rw [if_pos e1, ew, e2]
  clear ew
  rw [e2] at hl2
  have h := ih k (c + 1) (wd (u * 10 ^ v)) (wd_ws _) (strip_wd _) (Nat.le_trans hl2 hl) (by rw [nv_wd]; exact Int.toNat_natCast _) (by omega) (by omega)
  rw [h]
  congr 3
  omega
theorem tens_few {m N u v : Nat} (hp : N < 2 ^ m) (hx : N = u * 10 ^ v) (hu : u ≠ 0) : v < m := by
 apply Classical.byContradiction
 intro hc
 have h3 : 2 ^ m ≤ 10 ^ v := two_le_ten (Nat.not_lt.1 hc)
 have h4 : 1 * 10 ^ v ≤ u * 10 ^ v := Nat.mul_le_mul_right _ (Nat.one_le_iff_ne_zero.2 hu)
 rw [Nat.one_mul, ← hx] at h4
 exact Nat.not_le.2 hp (Nat.le_trans h3 h4)
theorem radix_Trim.f_eq (x : List Int) (hw : Ws x) (hl : x.length ≤ 35184372088832) (h : nv x < (2 : Int) ^ 262144) (u v : Nat) (hu : u % 10 ≠ 0) (hx : (nv x).toNat = u * 10 ^ v) (k : Nat) (hk : 2000000 < k) : radix_Trim.f k x = some (wd u, (v : Int)) := by
 have h2 : (strip x).length ≤ 4096 := (strip_len_le hw 4096).2 h
 have hn := nv_nonneg hw
 have hp : (nv x).toNat < 2 ^ 262144 := by
  rw [p2cast] at h
  clear hx
  generalize 2 ^ 262144 = p at *
  omega
 have hv : v < 262144 := tens_few hp hx (fun h => hu (by rw [h]))
 have h0 : nv x ≠ 0 := by
  intro h0
  rw [h0] at hx
  have h5 : 0 < 10 ^ v := Nat.pow_pos (by decide)
  have : u = 0 := by
   rcases Nat.mul_eq_zero.1 hx.symm with h6 | h6
   ·exact h6
   ·clear h; omega
  subst this
  exact hu rfl
 have h3 : ¬ ((strip x).length : Int) = 0 := by
  intro h4
  exact h0 ((strip_nil_iff hw).1 (List.eq_nil_of_length_eq_zero (by clear h h0 hx hp; omega)))
 rw [radix_Trim.f, nat_Norm.f, if_pos hl]
 simp only [Option.bind_some]
 rw [if_neg h3]
 have := radix_Trim.l0_eq u hu v k 0 (strip x) hw.strip (strip_strip x) (by clear h h0 hx hp; omega) (by rw [nv_strip]; exact hx) (by clear h h0 hx hp; omega) (by clear h h0 hx hp; omega)
 rw [Nat.zero_add] at this
 exact this
theorem over {b : Int} (c : Nat) (hb : b = (c : Int)) {n m : Nat} (h : Nat.ble (2 ^ m) (c ^ n) = true) : (2 : Int) ^ m ≤ b ^ n := by
 rw [hb, ← Int.natCast_pow, p2cast]
 exact Int.ofNat_le.2 (Nat.le_of_ble_eq_true h)
end Go.Proofs.YthjleohmlohgbaaDoor.PA
