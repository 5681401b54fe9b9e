/- A part of the proof (4). -/
import Derived.Test.YtiogfeeaepkkmaaYKGVKG2
import Derived.Test.YtiogfeeaepkkmaaYKGVKG3
namespace Go.Proofs.Ytiogfeeaepkkmaa.PA
open Go.RowKit Go.Proofs.YtiogfeeaepkkmaaW.PrintWords Go.Proofs.YtiogfeeaepkkmaaW.PrintLast Go.Proofs.YtiogfeeaepkkmaaW.PrintMore
attribute [local go_sem] max2_int min2_int max_two min_two max_three min_three max_four min_four
set_option linter.unusedVariables false
set_option linter.unusedSimpArgs false
def wide_Shr.f (a0 : Int) (a1 : Int) (a2 : Int) : Option (Int × Int × Bool) := (wide_within.f a2).bind fun t156 => (if t156 ≥ 64 then (if a1 = 0 then (if 0 ≤ (wrap64 (128 - t156)) then (if 0 ≤ (wrap64 (t156 - 64)) then (some (0, shr .u64 a0 (wrap64 (t156 - 64)), ((shl .u64 a0 (wrap64 (128 - t156))) != 0))) else (none)) else (none)) else (if 0 ≤ (wrap64 (t156 - 64)) then (some (0, shr .u64 a0 (wrap64 (t156 - 64)), true)) else (none))) else (if 0 ≤ t156 then (if 0 ≤ (wrap64 (64 - t156)) then (some (shr .u64 a0 t156, Go.bits .or .u64 (shr .u64 a1 t156) (shl .u64 a0 (wrap64 (64 - t156))), ((shl .u64 a1 (wrap64 (64 - t156))) != 0))) else (none)) else (none)))
set_option maxHeartbeats 8000000 in
set_option maxRecDepth 100000 in
theorem wide_Shr.calls (a0 : Int) (a1 : Int) (a2 : Int) (r1 : Int) (r2 : Int) (r3 : Bool) (w : World) (h : wide_Shr.f a0 a1 a2 = some (r1, r2, r3)) :
  Calls Try.prog 69 #[.int .u64 a0, .int .u64 a1, .int .i64 a2] w fun e w' => e = .returned (.tuple #[.int .u64 r1, .int .u64 r2, .bool r3]) ∧ Below w.heap.size w w' := by
 have HB := aM (Below.refl w.heap.size w)
 have H := h
 clear h
 unfold wide_Shr.f at H
 replace H := oA H
 obtain ⟨t156, A4, H⟩ := H
 (try dsimp only at H)
 by_cases c5 : t156 ≥ 64
 ·rw [if_pos c5] at H
  have c5b0 : decide (64 ≤ t156) = true := decide_eq_true c5
  clear c5
  by_cases c6 : a1 = 0
  ·rw [if_pos c6] at H
   obtain ⟨c6b0, c6b1⟩ := bT c6
   clear c6
   obtain ⟨ji7, hji7⟩ : ∃ j_ : Int, (wrap64 (128 - t156)) = j_ := ⟨_, rfl⟩
   first | rw [hji7] at H | simp only [hji7] at H
   (try rw [hji7] at A4)
   have hji7w : (IntKind.i64.wrap (128 - t156)) = ji7 := (i64_w _).trans hji7
   replace H := nO H
   obtain ⟨c8, H⟩ := H
   have c8b0 := eq_true c8
   have c8b1 : decide (0 ≤ (ji7)) = true := decide_eq_true c8
   clear c8
   obtain ⟨ji9, hji9⟩ : ∃ j_ : Int, (shl .u64 a0 (ji7)) = j_ := ⟨_, rfl⟩
   first | rw [hji9] at H | simp only [hji9] at H
   (try rw [hji9] at A4)
   have hji9_ : (IntKind.u64.wrap (a0 * 2 ^ min (ji7).toNat 64)) = ji9 := hji9
   have hji9z : (ji7) ≤ 64 → (IntKind.u64.wrap (a0 * 2 ^ (ji7).toNat)) = ji9 := shl_small hji9
   obtain ⟨ji10, hji10⟩ : ∃ j_ : Int, (wrap64 (t156 - 64)) = j_ := ⟨_, rfl⟩
   first | rw [hji10] at H | simp only [hji10] at H
   (try rw [hji10] at A4)
   have hji10w : (IntKind.i64.wrap (t156 - 64)) = ji10 := (i64_w _).trans hji10
   replace H := nO H
   obtain ⟨c11, H⟩ := H
   have c11b0 := eq_true c11
   have c11b1 : decide (0 ≤ (ji10)) = true := decide_eq_true c11
   clear c11
   obtain ⟨ji12, hji12⟩ : ∃ j_ : Int, (shr .u64 a0 (ji10)) = j_ := ⟨_, rfl⟩
   first | rw [hji12] at H | simp only [hji12] at H
   (try rw [hji12] at A4)
   have hji12_ : (a0 / 2 ^ min (ji10).toNat 64) = ji12 := hji12
   have hji12z : (ji10) ≤ 64 → (a0 / 2 ^ (ji10).toNat) = ji12 := shr_small hji12
   simp only [Option.some.injEq, Prod.mk.injEq] at H
   obtain ⟨rfl, rfl, rfl⟩ := H
   go_enter Try.func69, Try.ntmps69
   iterate 6 (go_wp2_with (first | (go_at_call 70; (with_reducible refine (wide_within.calls a2 t156 _ A4.out).mono ?_); rintro e w13 ⟨rfl, hb⟩; replace HB := hS HB.out hb; (try clear hb))); try go_quiet (fail))
   go_ret3
   exact ⟨by first | rfl | (simp [errW_none, errW_some] <;> rfl) | (simp only [← hji7, ← hji9, ← hji10, ← hji12]; first | rfl | (simp [errW_none, errW_some] <;> rfl)) | (simp [*, errW_none, errW_some] <;> rfl), dB⟩
  ·rw [if_neg c6] at H
   obtain ⟨c6b0, c6b1⟩ := bF c6
   obtain ⟨ji14, hji14⟩ : ∃ j_ : Int, (wrap64 (t156 - 64)) = j_ := ⟨_, rfl⟩
   first | rw [hji14] at H | simp only [hji14] at H
   (try rw [hji14] at A4)
   have hji14w : (IntKind.i64.wrap (t156 - 64)) = ji14 := (i64_w _).trans hji14
   replace H := nO H
   obtain ⟨c15, H⟩ := H
   have c15b0 := eq_true c15
   have c15b1 : decide (0 ≤ (ji14)) = true := decide_eq_true c15
   clear c15
   obtain ⟨ji16, hji16⟩ : ∃ j_ : Int, (shr .u64 a0 (ji14)) = j_ := ⟨_, rfl⟩
   first | rw [hji16] at H | simp only [hji16] at H
   (try rw [hji16] at A4)
   have hji16_ : (a0 / 2 ^ min (ji14).toNat 64) = ji16 := hji16
   have hji16z : (ji14) ≤ 64 → (a0 / 2 ^ (ji14).toNat) = ji16 := shr_small hji16
   simp only [Option.some.injEq, Prod.mk.injEq] at H
   obtain ⟨rfl, rfl, rfl⟩ := H
   go_enter Try.func69, Try.ntmps69
   iterate 6 (go_wp2_with (first | (go_at_call 70; (with_reducible refine (wide_within.calls a2 t156 _ A4.out).mono ?_); rintro e w17 ⟨rfl, hb⟩; replace HB := hS HB.out hb; (try clear hb))); try go_quiet (fail))
   go_ret3
   exact ⟨by first | rfl | (simp [errW_none, errW_some] <;> rfl) | (simp only [← hji14, ← hji16]; first | rfl | (simp [errW_none, errW_some] <;> rfl)) | (simp [*, errW_none, errW_some] <;> rfl), dB⟩
 ·rw [if_neg c5] at H
  have c5b0 : decide (64 ≤ t156) = false := decide_eq_false c5
  clear c5
  replace H := nO H
  obtain ⟨c18, H⟩ := H
  have c18b0 := eq_true c18
  have c18b1 : decide (0 ≤ t156) = true := decide_eq_true c18
  clear c18
  obtain ⟨ji19, hji19⟩ : ∃ j_ : Int, (shr .u64 a0 t156) = j_ := ⟨_, rfl⟩
  first | rw [hji19] at H | simp only [hji19] at H
  (try rw [hji19] at A4)
  have hji19_ : (a0 / 2 ^ min t156.toNat 64) = ji19 := hji19
  have hji19z : t156 ≤ 64 → (a0 / 2 ^ t156.toNat) = ji19 := shr_small hji19
  have c20b0 := eq_true (of_decide_eq_true dS : 0 ≤ t156)
  obtain ⟨ji21, hji21⟩ : ∃ j_ : Int, (shr .u64 a1 t156) = j_ := ⟨_, rfl⟩
  first | rw [hji21] at H | simp only [hji21] at H
  (try rw [hji21] at A4)
  have hji21_ : (a1 / 2 ^ min t156.toNat 64) = ji21 := hji21
  have hji21z : t156 ≤ 64 → (a1 / 2 ^ t156.toNat) = ji21 := shr_small hji21
  obtain ⟨ji22, hji22⟩ : ∃ j_ : Int, (wrap64 (64 - t156)) = j_ := ⟨_, rfl⟩
  first | rw [hji22] at H | simp only [hji22] at H
  (try rw [hji22] at A4)
  have hji22w : (IntKind.i64.wrap (64 - t156)) = ji22 := (i64_w _).trans hji22
  replace H := nO H
  obtain ⟨c23, H⟩ := H
  have c23b0 := eq_true c23
  have c23b1 : decide (0 ≤ (ji22)) = true := decide_eq_true c23
  clear c23
  obtain ⟨ji24, hji24⟩ : ∃ j_ : Int, (shl .u64 a0 (ji22)) = j_ := ⟨_, rfl⟩
  first | rw [hji24] at H | simp only [hji24] at H
  (try rw [hji24] at A4)
  have hji24_ : (IntKind.u64.wrap (a0 * 2 ^ min (ji22).toNat 64)) = ji24 := hji24
  have hji24z : (ji22) ≤ 64 → (IntKind.u64.wrap (a0 * 2 ^ (ji22).toNat)) = ji24 := shl_small hji24
  have c25b0 := eq_true (of_decide_eq_true dS : 0 ≤ (ji22))
  obtain ⟨ji26, hji26⟩ : ∃ j_ : Int, (shl .u64 a1 (ji22)) = j_ := ⟨_, rfl⟩
  first | rw [hji26] at H | simp only [hji26] at H
  (try rw [hji26] at A4)
  have hji26_ : (IntKind.u64.wrap (a1 * 2 ^ min (ji22).toNat 64)) = ji26 := hji26
  have hji26z : (ji22) ≤ 64 → (IntKind.u64.wrap (a1 * 2 ^ (ji22).toNat)) = ji26 := shl_small hji26
  simp only [Option.some.injEq, Prod.mk.injEq] at H
  obtain ⟨rfl, rfl, rfl⟩ := H
  go_enter Try.func69, Try.ntmps69
  iterate 6 (go_wp2_with (first | (go_at_call 70; (with_reducible refine (wide_within.calls a2 t156 _ A4.out).mono ?_); rintro e w27 ⟨rfl, hb⟩; replace HB := hS HB.out hb; (try clear hb))); try go_quiet (fail))
  go_ret3
  exact ⟨by first | rfl | (simp [errW_none, errW_some] <;> rfl) | (simp only [← hji19, ← hji21, ← hji22, ← hji24, ← hji26]; first | rfl | (simp [errW_none, errW_some] <;> rfl)) | (simp [*, errW_none, errW_some] <;> rfl), dB⟩
def quot_shr.l0 : Nat → List Int → Int → List Int → Int → Int → Option (List Int)
 | 0, _, _, _, _, _ => none
 | k + 1, x0, x1, x5, x6, x7 => if x7 ≥ 0 then (if 0 ≤ x7 then (if x7 < (x0.length : Int) then ((wide_Shr.f x6 (rd x0 x7) x1).bind fun bt161 => (if x7 < (x5.length : Int) then (quot_shr.l0 k x0 x1 (x5.set (x7 : Int).toNat bt161.2.1) (rd x0 x7) (wrap64 (x7 - 1))) else (none))) else (none)) else (none)) else ((nat_Norm.f x5).bind fun t166 => (some t166))
def quot_shr.f (k : Nat) (l0 : List Int) (a1 : Int) : Option (List Int) := if 0 ≤ (l0.length : Int) then (if ((l0.length : Int) : Int).toNat ≤ 35184372088832 then (quot_shr.l0 k l0 a1 (List.replicate ((l0.length : Int) : Int).toNat 0) 0 (wrap64 ((l0.length : Int) - 1))) else (none)) else (none)
theorem quot_shr.mono_l : ∀ k, (∀ y0 y1 y2 y3 y4, LeO (quot_shr.l0 k y0 y1 y2 y3 y4) (quot_shr.l0 (k + 1) y0 y1 y2 y3 y4))
 | 0 => fun _ _ _ _ _ r h => by simp [quot_shr.l0] at h
 | k + 1 => by
  have ih0 := quot_shr.mono_l k
  ·intro y0 y1 y2 y3 y4
   unfold quot_shr.l0
   exact mX
theorem quot_shr.mono : ∀ a0 a1 k, LeO (quot_shr.f k a0 a1) (quot_shr.f (k + 1) a0 a1) := by
 intro a0 a1 k
 have ih0 := quot_shr.mono_l k
 unfold quot_shr.f
 exact mX
set_option maxHeartbeats 8000000 in
set_option maxRecDepth 100000 in
theorem quot_shr.calls (k : Nat) (A0 : Option Addr) (c0 : Nat) (l0 : List Int) (a1 : Int) (r : List Int) (w : World) (hr0 : Kd.C (Kd.int .u64) w A0 l0.length l0) (hc0 : l0.length ≤ c0) (h : quot_shr.f k l0 a1 = some r) :
  Calls Try.prog 67 #[.slice A0 l0.length c0, .int .i64 a1] w fun e w' => ∃ v0_ : Value, e = .returned (v0_) ∧ Kd.R (Kd.int .u64) 44 w' w.heap.size (fun _ => True) v0_ r ∧ Below w.heap.size w w' := by
 have HR0 := aM hr0
 have HC0 := aM hc0
 clear hr0 hc0
 have HB := aM (Below.refl w.heap.size w)
 have H := h
 clear h
 unfold quot_shr.f at H
 replace H := nO H
 obtain ⟨c3, H⟩ := H
 have c3b0 := eq_true c3
 have c3b1 : decide (0 ≤ (l0.length : Int)) = true := decide_eq_true c3
 clear c3
 replace H := nO H
 obtain ⟨c4, H⟩ := H
 have c4b0 := eq_true c4
 have c4b1 := decide_eq_true c4
 clear c4
 obtain ⟨y157, hy157⟩ : ∃ y_ : List Int, y_ = (List.replicate ((l0.length : Int) : Int).toNat 0) := ⟨_, rfl⟩
 replace H : (quot_shr.l0 k l0 a1 y157 0 (wrap64 ((l0.length : Int) - 1))) = some r := by first | (rw [hy157]; with_reducible exact H) | (have H2_ := (Option.bind_some _ _).symm.trans H; rw [hy157]; with_reducible exact H2_) | (have H2_ := (Option.bind_some _ _).symm.trans H; with_reducible exact H2_) | with_reducible exact H | (rw [hy157]; exact H) | exact H
 have Ny157 := aM hy157
 clear hy157
 have H' := aM H
 clear H
 go_enter Try.func67, Try.ntmps67
 go_wp2_with (first | ((with_reducible refine gate_dst (N := 10) rfl ?_); refine Kd.R_make (Kd.int .u64) _ 44 rfl (N := 10) rfl 22 _ _ rfl (l0.length : Int) rfl rfl Try.underlying22 (.int .u64 0) 8 info44 rfl (by decide) (by omega) 0 (ok := fun _ => True) (okp := fun _ => True) rfl (fun _ hk => hk) trivial (of_decide_eq_true dS) (Nat.le_trans (Nat.mul_le_mul_right _ (of_decide_eq_true dS : (l0.length : Int).toNat ≤ 35184372088832)) (by omega)) (Below.refl _ _) (Nat.le_refl _) ?_; intro v158 w5 ho6 hb hg_ hnew_; clear hg_ hnew_; (first | rw [← Ny157.out] at ho6 | (simp only [Int.reduceToNat] at ho6; rw [← Ny157.out] at ho6)); have HO159 := aM (Kd.R_lower ho6 (below_size dB)); replace HB := hS HB.out hb; clear hb ho6))
 go_loopg [6, 7] k (fun kq v6 v7 w' => ∃ (x5_1 : List Int) (x6_1 : Int) (x7_1 : Int), v6 = .int .u64 x6_1 ∧ v7 = .int .i64 x7_1 ∧ Aside0 (quot_shr.l0 kq l0 a1 x5_1 x6_1 x7_1 = some r) ∧ Aside0 (kq ≤ k) ∧ Aside0 (Kd.R (Kd.int .u64) 44 w' w.heap.size (fun _ => True) v158 x5_1) ∧ Aside0 (Below w.heap.size w w'))
 case atStart => exact ⟨(y157), (0), (wrap64 ((l0.length : Int) - 1)), dF, dF, H', ⟨Nat.le_refl _⟩, ⟨dR HO159.out⟩, ⟨dB⟩⟩
 case round =>
  clear H'
  try clear c3
  try clear c3b0 c3b1
  try clear c4
  try clear c4b0 c4b1
  obtain ⟨x5_1, x6_1, x7_1, rfl, rfl, HA, HK1, HO_5, HB⟩ := hrel
  cases gk with
  | zero => exact absurd HA.out (by simp [quot_shr.l0])
  | succ k1 =>
   have H := HA.out
   clear HA
   simp only [quot_shr.l0] at H
   by_cases c7 : x7_1 ≥ 0
   ·rw [if_pos c7] at H
    have c7b0 : decide (0 ≤ x7_1) = true := decide_eq_true c7
    clear c7
    replace H := nO H
    obtain ⟨c8, H⟩ := H
    have c8b0 : decide (0 ≤ x7_1) = true := decide_eq_true c8
    clear c8
    replace H := nO H
    obtain ⟨c9, H⟩ := H
    have c9b0 := decide_eq_true c9
    clear c9
    replace H := oA H
    obtain ⟨⟨t161, t162, t163⟩, A10, H⟩ := H
    (try dsimp only at H)
    replace H := nO H
    obtain ⟨c11, H⟩ := H
    have c11b0 := decide_eq_true c11
    clear c11
    obtain ⟨y164, hy164⟩ : ∃ y_ : List Int, y_ = (x5_1.set (x7_1 : Int).toNat t162) := ⟨_, rfl⟩
    replace H : (quot_shr.l0 k1 l0 a1 y164 (rd l0 x7_1) (wrap64 (x7_1 - 1))) = some r := by first | (rw [hy164]; with_reducible exact H) | (have H2_ := (Option.bind_some _ _).symm.trans H; rw [hy164]; with_reducible exact H2_) | (have H2_ := (Option.bind_some _ _).symm.trans H; with_reducible exact H2_) | with_reducible exact H | (rw [hy164]; exact H) | exact H
    have Ny164 := aM hy164
    clear hy164
    have H' := aM H
    clear H
    have p160 : 0 ≤ (x7_1 : Int) := of_decide_eq_true dS
    have q160 : x7_1 < (l0.length : Int) := of_decide_eq_true dS
    obtain ⟨ad160, e160, hx160_0⟩ := Kd.at_int HR0.out x7_1 p160 q160
    cases e160
    replace hx160_0 := (HB.out.cell (World.block_lt_of_cell? w _ hx160_0)).trans hx160_0
    replace p160 := eq_true p160
    replace q160 := eq_true q160
    go_wp2_with (first | ((with_reducible refine gate_callee (f := 69) rfl ?_); refine gL (some 27) Try.func69 #[.int .u64 x6_1, .int .u64 (rd l0 x7_1), .int .i64 a1] ?_; (with_reducible refine (wide_Shr.calls x6_1 (rd l0 x7_1) a1 t161 t162 t163 _ A10.out).mono ?_); rintro e w13 ⟨rfl, hb⟩; refine ⟨_, rfl, ?_⟩; replace HO_5 := oB HO_5.out hb; replace HB := hS HB.out hb; (try clear hb); have p12 : 0 ≤ (x7_1 : Int) := of_decide_eq_true dS; have q12 : (x7_1 : Int) < ((x5_1.length : Int) : Int) := of_decide_eq_true dS; obtain ⟨go12, co12, eo12, gb12, gl12, cl12, HG12⟩ := Kd.R_form HO_5.out (by omega); (first | cases eo12 | (injection eo12 with ea_ en_ ec_; (first | subst ea_ | (injection ea_ with ea_; subst ea_)); subst ec_; clear en_)); have GB12 := aM gb12; have GG12 := aM HG12; clear gb12 gl12 HG12; obtain ⟨hx12_0, hf12_0⟩ := Kd.R_celln 0 HO_5.out (x7_1 : Int) p12 q12; replace p12 := eq_true p12; replace q12 := eq_true q12; obtain ⟨hy14_, hz14_⟩ := Kd.R_celln 0 HO_5.out (x7_1 : Int) (of_decide_eq_true dS) (of_decide_eq_true dS); have HP14 := Kd.R_putg HO_5.out (x7_1 : Int) t162) | ((with_reducible refine gate_store (t := 44) (p := 31) rfl ?_); refine store_event (t := 44) (p := 31) (v := ?vo_w15) (w1 := (w13.setCell ⟨go12, (x7_1 : Int).toNat, none⟩ (.int .u64 t162))) ?hg ?ho ?hn ?hr ?_; (case ho => rfl); (case hg => rfl); (case hn => rfl); (case hr => first | (go_simp; done) | (go_simp; rfl)); intro w15 hw; have hg : w13.grownBy w15 (some go12) := (by rw [hw]; exact HP14.2); have hp_ : Kd.R (Kd.int .u64) 44 w15 w.heap.size (fun _ => True) (.slice (some ⟨go12, 0, none⟩) x5_1.length co12) y164 := (by rw [hw, Ny164.out]; exact HP14.1); clear HP14; replace HO_5 := aM (hp_); replace HB := aM ((by rw [hw]; exact below_set (HB.out) GB12.out : Below w.heap.size w w15)); clear hg hw hp_; have p165 : 0 ≤ (x7_1 : Int) := of_decide_eq_true dS; have q165 : x7_1 < (l0.length : Int) := of_decide_eq_true dS; obtain ⟨ad165, e165, hx165_0⟩ := Kd.at_int HR0.out x7_1 p165 q165; obtain rfl : ad160 = ad165 := (by injection e165); replace hx165_0 := (HB.out.cell (World.block_lt_of_cell? w _ hx165_0)).trans hx165_0; replace p165 := eq_true p165; replace q165 := eq_true q165))
    go_roundg k1
    case measure => have := HK1.out; omega
    case rel => exact ⟨(y164), (rd l0 x7_1), (wrap64 (x7_1 - 1)), dF, dF, H', ⟨by have := HK1.out; omega⟩, ⟨dR HO_5.out⟩, ⟨dB⟩⟩
   ·rw [if_neg c7] at H
    have c7b0 : decide (0 ≤ x7_1) = false := decide_eq_false c7
    clear c7
    replace H := oA H
    obtain ⟨t166, A16, H⟩ := H
    (try dsimp only at H)
    obtain rfl := Option.some.inj H
    obtain ⟨Ao17, co17, rfl⟩ := Kd.R_slice HO_5.out
    go_wp2_with (first | ((with_reducible refine gate_callee (f := 46) rfl ?_); refine gL (some 37) Try.func46 #[.slice Ao17 x5_1.length co17] ?_; (with_reducible refine (nat_Norm.calls _ _ x5_1 t166 _ ?side1 (Kd.R_reads' HO_5.out).2.1 A16.out).mono ?_); (case side1 => exact dC (Kd.R_reads' HO_5.out).2.2); rintro e w18 ⟨v167, rfl, ho0, hb⟩; refine ⟨_, rfl, ?_⟩; have HO168 := aM (Kd.R_lower (nW ho0 HO_5.out) (below_size dB)); replace HO_5 := oE HO_5.out ho0 hb; replace HB := hS HB.out hb; (try clear hb); (try clear ho0)))
    go_ret
    exact ⟨_, dE, oM HO168.out (fun _ hk => trivial), dB⟩
end Go.Proofs.Ytiogfeeaepkkmaa.PA
