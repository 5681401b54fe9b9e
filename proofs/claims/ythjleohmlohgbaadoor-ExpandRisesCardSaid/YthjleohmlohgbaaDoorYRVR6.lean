/- A part of the proof (6). -/
import Derived.Test.YthjleohmlohgbaaDoorYRVR2
import Derived.Test.YthjleohmlohgbaaDoorYRVR5
namespace Go.Proofs.YthjleohmlohgbaaDoor.PA
open Go.RowKit Go.Proofs.YthjleohmlohgbaaDoorW.PrintWords Go.Proofs.YthjleohmlohgbaaDoorW.PrintLast Go.Proofs.YthjleohmlohgbaaDoorW.PrintMore
attribute [local go_sem] max2_int min2_int max_two min_two max_three min_three max_four min_four
set_option linter.unusedVariables false
set_option linter.unusedSimpArgs false
def cutIn (h l : List Int) : List Int := h.take 1 ++ (l.take (min l.length (h.length - 1)) ++ h.drop (1 + min l.length (h.length - 1)))
theorem print_mid3_of {P : Program} {α : Type} (enc : α → Value) (d : α) (t e : TypeId) (kl kh km : IntKind) {i : TypeInfo} (ht : P.underlying t = some (.slice e)) (hi : P.info? e = some i) (hsz : i.size = 1) (A : Option Addr) (c : Nat) (xs : List α) (a b : Int) (h0 : 0 ≤ a) (h1 : a ≤ b) (hm : b ≤ xs.length) (hc : xs.length ≤ c) :
  ∃ A' : Option Addr, (∀ W : World, (Instr.slice t (.slice A xs.length c) (some (.int kl a)) (some (.int kh b)) (some (.int km b))).run P W = .ok (.slice A' ((xs.take b.toNat).drop a.toNat).length (b.toNat - a.toNat)) W) ∧
   (∀ w : World, ReadsOf enc d w A xs.length xs → ReadsOf enc d w A' ((xs.take b.toNat).drop a.toNat).length ((xs.take b.toNat).drop a.toNat)) ∧ ((xs.take b.toNat).drop a.toNat).length ≤ b.toNat - a.toNat := by
 have hlt : (xs.take b.toNat).length = b.toNat := by rw [List.length_take]; omega
 have hl : ((xs.take b.toNat).drop a.toNat).length = b.toNat - a.toNat := by rw [List.length_drop, hlt]
 refine ⟨if b.toNat = a.toNat then A else A.map (·.add a.toNat), fun W => ?_, fun w h => ?_, by rw [hl]; omega⟩
 ·have h3 : b ≤ (c : Int) := by omega
  have h4 : ¬ (max b 0 < b) := by omega
  have h5 : ¬ (b < a) := by omega
  have h6 : 0 ≤ b := by omega
  have h7 : (b - a).toNat = b.toNat - a.toNat := by omega
  have h9 : b ≤ max b 0 := by omega
  have h10 : a ≤ max b 0 := by omega
  have h8 : (b.toNat - a.toNat = 0) = (b.toNat = a.toNat) := by apply propext; omega
  simp [Instr.slice, Instr.sliceBounds, Instr.sliceBound, asIntOf, run_underlying ht, sizeOf, typeInfo, hi, hsz, h0, h1, h3, h4, h5, h6, h7, h8, h9, h10, hl]
 ·have h2 := (h.take_ b.toNat (by omega)).drop_ (c := b.toNat) a.toNat (by omega) (by omega)
  rw [hl]
  exact h2
mutual
def expand_cut.l0 : Nat → Int → List Int → List Int → Int → Option (List Int)
 | 0, _, _, _, _ => none
 | k + 1, x1, x5, x7, x8 => if x8 < (x5.length : Int) then (if 0 ≤ x8 then (expand_cut.l0 k x1 (x5.set (x8 : Int).toNat 48) x7 (wrap64 (x8 + 1))) else (none)) else (if 0 ≤ x1 then (if x1 < (x5.length : Int) then ((expand_up.f (rd x5 x1) x7).bind fun t262 => (if t262 = true then (expand_cut.l1 k x5 x1) else (if 0 < (x5.length : Int) then (if (rd x5 0) = 48 then (if 1 ≤ (x5.length : Int) then (some (x5.drop (1 : Int).toNat)) else (none)) else (some x5)) else (none)))) else (none)) else (none))
def expand_cut.l1 : Nat → List Int → Int → Option (List Int)
 | 0, _, _ => none
 | k + 1, x5, x9 => if 0 ≤ x9 then (if x9 < (x5.length : Int) then (if (rd x5 x9) < 57 then ((some (x5.set (x9 : Int).toNat (((rd x5 x9) + 1) % 256) : List Int)).bind fun y265 => (if 0 < (x5.length : Int) then (if (rd y265 0) = 48 then (if 1 ≤ (x5.length : Int) then (some (y265.drop (1 : Int).toNat)) else (none)) else (some y265)) else (none))) else (expand_cut.l1 k (x5.set (x9 : Int).toNat 48) (wrap64 (x9 - 1)))) else (none)) else (none)
end
def expand_cut.f (k : Nat) (l0 : List Int) (a1 : Int) : Option (List Int) := if a1 < 0 then (some ([] : List Int)) else (if 0 ≤ (wrap64 (a1 + 1)) then (if (wrap64 (a1 + 1) : Int).toNat ≤ 281474976710656 then ((some (List.replicate (wrap64 (a1 + 1) : Int).toNat 0 : List Int)).bind fun y251 => (if 0 < (y251.length : Int) then ((some (y251.set (0 : Int).toNat 48 : List Int)).bind fun y254 => (if 1 ≤ (y251.length : Int) then ((some (y254.drop 1 : List Int)).bind fun y255 => (if 0 ≤ (mn (y255.length : Int) (l0.length : Int)) then (if (mn (y255.length : Int) (l0.length : Int)) ≤ (l0.length : Int) then (if (l0.length : Int) ≤ (l0.length : Int) then (expand_cut.l0 k a1 (cutIn y254 l0) ((l0.take ((l0.length : Int) : Int).toNat).drop ((mn (y255.length : Int) (l0.length : Int)) : Int).toNat) (wrap64 ((mn (y255.length : Int) (l0.length : Int)) + 1))) else (none)) else (none)) else (none))) else (none))) else (none))) else (none)) else (none))
theorem expand_cut.mono_l : ∀ k, (∀ y0 y1 y2 y3, LeO (expand_cut.l0 k y0 y1 y2 y3) (expand_cut.l0 (k + 1) y0 y1 y2 y3)) ∧ (∀ y0 y1, LeO (expand_cut.l1 k y0 y1) (expand_cut.l1 (k + 1) y0 y1))
 | 0 => ⟨fun _ _ _ _ r h => by simp [expand_cut.l0] at h, fun _ _ r h => by simp [expand_cut.l1] at h⟩
 | k + 1 => by
  obtain ⟨ih0, ih1⟩ := expand_cut.mono_l k
  refine ⟨?_, ?_⟩
  ·intro y0 y1 y2 y3
   unfold expand_cut.l0
   exact mX
  ·intro y0 y1
   unfold expand_cut.l1
   exact mX
theorem expand_cut.mono : ∀ a0 a1 k, LeO (expand_cut.f k a0 a1) (expand_cut.f (k + 1) a0 a1) := by
 intro a0 a1 k
 obtain ⟨ih0, ih1⟩ := expand_cut.mono_l k
 unfold expand_cut.f
 exact mX
set_option maxHeartbeats 8000000 in
set_option maxRecDepth 100000 in
theorem expand_cut.calls (k : Nat) (A0 : Option Addr) (c0 : Nat) (l0 : List Int) (a1 : Int) (r : List Int) (w : World) (hr0 : Kd.C (Kd.int .u8) w A0 l0.length l0) (hc0 : l0.length ≤ c0) (h : expand_cut.f k l0 a1 = some r) :
  Calls Tryd.prog 17 #[.slice A0 l0.length c0, .int .i64 a1] w fun e w' => ∃ v0_ : Value, e = .returned (v0_) ∧ Kd.Q (Kd.int .u8) 5 w' w.heap.size (fun _ => True) v0_ r ∧ Below w.heap.size w w' := by
 have HR0 := aM hr0
 have HC0 := aM hc0
 clear hr0 hc0
 have HB := aM (Below.refl w.heap.size w)
 have H := h
 clear h
 unfold expand_cut.f at H
 by_cases c3 : a1 < 0
 ·rw [if_pos c3] at H
  have c3b0 := decide_eq_true c3
  clear c3
  obtain rfl := Option.some.inj H
  go_enter Tryd.func17, Tryd.ntmps17
  go_wp2
  go_ret
  exact ⟨_, dE, Kd.Q_of_R (by first | exact Kd.R_nil _ _ _ _ _ | exact Kd.N_nil _ _ _ _ _ | exact Kd.V_nil _ _ _ _ _ | exact Kd.Q_nil _ _ _ _ _ | exact Kd.S_nil _ _ _ _ _), dB⟩
 ·rw [if_neg c3] at H
  have c3b0 := decide_eq_false c3
  clear c3
  obtain ⟨ji4, hji4⟩ : ∃ j_ : Int, (wrap64 (a1 + 1)) = j_ := ⟨_, rfl⟩
  first | rw [hji4] at H | simp only [hji4] at H
  have hji4w : (IntKind.i64.wrap (a1 + 1)) = ji4 := (i64_w _).trans hji4
  replace H := nO H
  obtain ⟨c5, H⟩ := H
  have c5b0 := eq_true c5
  have c5b1 : decide (0 ≤ (ji4)) = true := decide_eq_true c5
  clear c5
  replace H := nO H
  obtain ⟨c6, H⟩ := H
  have c6b0 := eq_true c6
  have c6b1 := decide_eq_true c6
  clear c6
  obtain ⟨y251, hy251⟩ : ∃ y_ : List Int, y_ = (List.replicate (ji4 : Int).toNat 0) := ⟨_, rfl⟩
  replace H : (if 0 < (y251.length : Int) then ((some (y251.set (0 : Int).toNat 48 : List Int)).bind fun y254 => (if 1 ≤ (y251.length : Int) then ((some (y254.drop 1 : List Int)).bind fun y255 => (if 0 ≤ (mn (y255.length : Int) (l0.length : Int)) then (if (mn (y255.length : Int) (l0.length : Int)) ≤ (l0.length : Int) then (if (l0.length : Int) ≤ (l0.length : Int) then (expand_cut.l0 k a1 (cutIn y254 l0) ((l0.take ((l0.length : Int) : Int).toNat).drop ((mn (y255.length : Int) (l0.length : Int)) : Int).toNat) (wrap64 ((mn (y255.length : Int) (l0.length : Int)) + 1))) else (none)) else (none)) else (none))) else (none))) else (none)) = some r := by first | (rw [hy251]; with_reducible exact H) | (have H2_ := (Option.bind_some _ _).symm.trans H; rw [hy251]; with_reducible exact H2_) | (have H2_ := (Option.bind_some _ _).symm.trans H; with_reducible exact H2_) | with_reducible exact H | (rw [hy251]; exact H) | exact H
  have Ny251 := aM hy251
  clear hy251
  replace H := nO H
  obtain ⟨c7, H⟩ := H
  have c7b0 : decide (0 < (y251.length : Int)) = true := decide_eq_true c7
  have c7b1 : decide (0 < y251.length) = true := decide_eq_true (by omega)
  clear c7
  obtain ⟨y254, hy254⟩ : ∃ y_ : List Int, y_ = (y251.set (0 : Int).toNat 48) := ⟨_, rfl⟩
  replace H : (if 1 ≤ (y251.length : Int) then ((some (y254.drop 1 : List Int)).bind fun y255 => (if 0 ≤ (mn (y255.length : Int) (l0.length : Int)) then (if (mn (y255.length : Int) (l0.length : Int)) ≤ (l0.length : Int) then (if (l0.length : Int) ≤ (l0.length : Int) then (expand_cut.l0 k a1 (cutIn y254 l0) ((l0.take ((l0.length : Int) : Int).toNat).drop ((mn (y255.length : Int) (l0.length : Int)) : Int).toNat) (wrap64 ((mn (y255.length : Int) (l0.length : Int)) + 1))) else (none)) else (none)) else (none))) else (none)) = some r := by first | (rw [hy254]; with_reducible exact H) | (have H2_ := (Option.bind_some _ _).symm.trans H; rw [hy254]; with_reducible exact H2_) | (have H2_ := (Option.bind_some _ _).symm.trans H; with_reducible exact H2_) | with_reducible exact H | (rw [hy254]; exact H) | exact H
  have Ny254 := aM hy254
  clear hy254
  replace H := nO H
  obtain ⟨c9, H⟩ := H
  have c9b0 := eq_true c9
  have c9b1 : decide (1 ≤ (y251.length : Int)) = true := decide_eq_true c9
  clear c9
  obtain ⟨y255, hy255⟩ : ∃ y_ : List Int, y_ = (y254.drop 1) := ⟨_, rfl⟩
  replace H : (if 0 ≤ (mn (y255.length : Int) (l0.length : Int)) then (if (mn (y255.length : Int) (l0.length : Int)) ≤ (l0.length : Int) then (if (l0.length : Int) ≤ (l0.length : Int) then (expand_cut.l0 k a1 (cutIn y254 l0) ((l0.take ((l0.length : Int) : Int).toNat).drop ((mn (y255.length : Int) (l0.length : Int)) : Int).toNat) (wrap64 ((mn (y255.length : Int) (l0.length : Int)) + 1))) else (none)) else (none)) else (none)) = some r := by first | (rw [hy255]; with_reducible exact H) | (have H2_ := (Option.bind_some _ _).symm.trans H; rw [hy255]; with_reducible exact H2_) | (have H2_ := (Option.bind_some _ _).symm.trans H; with_reducible exact H2_) | with_reducible exact H | (rw [hy255]; exact H) | exact H
  have Ny255 := aM hy255
  clear hy255
  obtain ⟨ji10, hji10⟩ : ∃ j_ : Int, (mn (y255.length : Int) (l0.length : Int)) = j_ := ⟨_, rfl⟩
  first | rw [hji10] at H | simp only [hji10] at H
  obtain ⟨yr_, hyr_⟩ : ∃ y_ : List Int, y_ = ((l0.take ((l0.length : Int) : Int).toNat).drop ((ji10) : Int).toNat) := ⟨_, rfl⟩
  replace H : (if 0 ≤ (ji10) then (if (ji10) ≤ (l0.length : Int) then (if (l0.length : Int) ≤ (l0.length : Int) then (expand_cut.l0 k a1 (cutIn y254 l0) yr_ (wrap64 ((ji10) + 1))) else (none)) else (none)) else (none)) = some r := by rw [← hyr_] at H; exact H
  have KR_ := aM (show (l0.length : Int).toNat - (ji10).toNat = yr_.length from by rw [hyr_, List.length_drop, List.length_take]; omega)
  have YR_ := aM hyr_
  clear hyr_
  (try (have hji10l : 0 ≤ ji10 := by (rw [← hji10]; unfold mn; (repeat' split) <;> omega)))
  (try (have hji10m : 0 ≤ ji10 := by omega))
  have hji10_ : (if (l0.length : Int) < (y255.length : Int) then (l0.length : Int) else (y255.length : Int)) = ji10 := hji10
  replace H := nO H
  obtain ⟨c11, H⟩ := H
  have c11b0 := eq_true c11
  have c11b1 : decide (0 ≤ (ji10)) = true := decide_eq_true c11
  clear c11
  replace H := nO H
  obtain ⟨c12, H⟩ := H
  have c12b0 := eq_true c12
  have c12b1 := decide_eq_true c12
  clear c12
  replace H := nO H
  obtain ⟨c13, H⟩ := H
  have c13b0 := eq_true c13
  have c13b1 := decide_eq_true c13
  clear c13
  have H' := aM H
  clear H
  go_enter Tryd.func17, Tryd.ntmps17
  have KM_ := aM (show ((min l0.length (y251.length - 1) : Nat) : Int) = ji10 from by rw [← hji10]; have e_ : y255.length = y251.length - 1 := (by rw [Ny255.out, List.length_drop, Ny254.out, List.length_set]); unfold mn; (repeat' split) <;> omega)
  go_wp2_with (first | ((with_reducible refine gate_dst (N := 14) rfl ?_); refine Kd.R_make (Kd.int .u8) _ 5 rfl (N := 14) rfl 45 _ _ rfl ji4 rfl rfl Tryd.underlying45 (.int .u8 0) 1 info5 rfl (by decide) (by omega) 0 (ok := fun _ => True) (okp := fun _ => True) rfl (fun _ hk => hk) trivial (of_decide_eq_true dS) (Nat.le_trans (Nat.mul_le_mul_right _ (of_decide_eq_true dS : ji4.toNat ≤ 281474976710656)) (by omega)) (Below.refl _ _) (Nat.le_refl _) ?_; intro v252 w14 ho15 hb hg_ hnew_; clear hg_ hnew_; (first | rw [← Ny251.out] at ho15 | (simp only [Int.reduceToNat] at ho15; rw [← Ny251.out] at ho15)); have HO253 := aM (Kd.R_lower ho15 (below_size dB)); replace HB := hS HB.out hb; clear hb ho15; have p8 : 0 ≤ (0 : Int) := (by omega); have q8 : (0 : Int) < ((y251.length : Int) : Int) := of_decide_eq_true dS; have qi8 : (0 < y251.length) = True := eq_true (by omega); obtain ⟨go8, co8, eo8, gb8, gl8, cl8, HG8⟩ := Kd.R_form HO253.out (by omega); (first | cases eo8 | (injection eo8 with ea_ en_ ec_; (first | subst ea_ | (injection ea_ with ea_; subst ea_)); subst ec_; clear en_)); have GB8 := aM gb8; have GG8 := aM HG8; clear gb8 gl8 HG8; obtain ⟨hx8_0, hf8_0⟩ := Kd.R_celln 0 HO253.out (0 : Int) p8 q8; (try rw [show ((0 : Int)).toNat = 0 from rfl] at hx8_0); (try simp only [Nat.reduceMul, Nat.zero_mul, Nat.zero_add, Nat.reduceAdd] at hx8_0); (try rw [show ((0 : Int)).toNat = 0 from rfl] at hf8_0); (try simp only [Nat.reduceMul, Nat.zero_mul, Nat.zero_add, Nat.reduceAdd] at hf8_0); replace p8 := eq_true p8; replace q8 := eq_true q8; obtain ⟨hy16_, hz16_⟩ := Kd.R_celln 0 HO253.out (0 : Int) (by omega) (of_decide_eq_true dS); (try simp only [Int.reduceToNat, Int.toNat_zero, Int.toNat_ofNat, Nat.reduceMul, Nat.zero_mul, Nat.zero_add] at hy16_ hz16_); (try rw [show ((0 : Int)).toNat = 0 from rfl] at hy16_); (try rw [show ((0 : Int)).toNat = 0 from rfl] at hz16_); have HP16 := Kd.R_putg HO253.out (0 : Int) 48) | ((with_reducible refine gate_store (t := 5) (p := 16) rfl ?_); refine store_event (t := 5) (p := 16) (v := ?vo_w17) (w1 := (w14.setCell ⟨go8, (0 : Int).toNat, none⟩ (.int .u8 48))) ?hg ?ho ?hn ?hr ?_; (case ho => rfl); (case hg => rfl); (case hn => rfl); (case hr => first | (go_simp; done) | (go_simp; rfl)); intro w17 hw; have hg : w14.grownBy w17 (some go8) := (by rw [hw]; exact HP16.2); have hp_ : Kd.R (Kd.int .u8) 5 w17 w.heap.size (fun _ => True) (.slice (some ⟨go8, 0, none⟩) y251.length co8) y254 := (by rw [hw, Ny254.out]; exact HP16.1); clear HP16; replace HO253 := aM (hp_); replace HB := aM ((by rw [hw]; exact below_set (HB.out) GB8.out : Below w.heap.size w w17)); clear hg hw hp_; have hlx18 := (Kd.R_reads' HO253.out).1; have q18 : (1 : Int) ≤ ((y251.length : Int) : Int) := of_decide_eq_true dS; obtain ⟨i018, hi018, _, hsz18, _⟩ := info_parts info5; have hroom18 : y251.length ≤ co8 := (Kd.R_reads' HO253.out).2.1; have hroomc18 : y254.length ≤ co8 := (by rw [← hlx18]; exact hroom18); have hC18 : Kd.C (Kd.int .u8) _ (some ⟨go8, 0, none⟩) y254.length y254 := (Kd.R_reads' HO253.out).2.2; have hcut18 := cut_from (P := Tryd.prog) 45 5 .i64 Tryd.underlying45 hi018 1 hsz18 (some ⟨go8, 0, none⟩) y251.length co8 1 (by omega) q18; have hr18 := Kd.C_drop (m := (1 : Int).toNat) (c := co8) hC18 (by omega) hroomc18; obtain ⟨A18, hA18⟩ : ∃ A1, A1 = (if co8 = (1 : Int).toNat then (some ⟨go8, 0, none⟩) else ((some ⟨go8, 0, none⟩) : Option Addr).map (·.add ((1 : Int).toNat * 1))) := ⟨_, rfl⟩; obtain ⟨c18, hc18⟩ : ∃ c1, c1 = co8 - (1 : Int).toNat := ⟨_, rfl⟩; have hy18 : y255.length = y251.length - (1 : Int).toNat := (by rw [Ny255.out, List.length_drop] <;> omega); rw [show (y254).drop (1 : Int).toNat = y255 from Ny255.out.symm] at hr18; replace hr18 : Kd.C (Kd.int .u8) _ A18 y255.length y255 := (by rw [hA18]; exact hr18); rw [← hy18, ← hA18, ← hc18] at hcut18; have HR258 := aM hr18; have HC258 := aM (show y255.length ≤ c18 from by rw [hy18, hc18]; exact Nat.sub_le_sub_right hroom18 _); have KC18 := aM hc18; clear hr18 hC18 hroom18 hi018 hsz18 hc18 hroomc18; have KY18 := aM hy18; have KA18 := aM hA18; clear hy18 hA18; have KE18 := aM hlx18; have KL18 := aM (show 1 ≤ y254.length from by omega); clear hlx18; replace q18 := eq_true q18; obtain ⟨i019, hi019, _, hsz19, _⟩ := info_parts info5; obtain ⟨A19, hcut19, hA19, hC19⟩ := print_mid3_of (P := Tryd.prog) (Value.int .u8) 0 45 5 .i64 .i64 .i64 Tryd.underlying45 hi019 hsz19 A0 c0 l0 (ji10) (l0.length : Int) (of_decide_eq_true dS) (by first | omega | exact of_decide_eq_true dS) (of_decide_eq_true dS) HC0.out; rw [← YR_.out, KR_.out] at hcut19 hC19; rw [← YR_.out] at hA19; have HR259 := aM (Kd.C_of_reads (h1 := fun _ => rfl) (hA19 _ (Kd.reads_of_C HR0.out))); have HC259 := aM hC19; clear hA19 hC19 hi019 hsz19) | ((with_reducible refine gate_dst (N := 20) rfl ?_); refine Kd.R_copy_at (enc := Value.int .u8) (h1 := fun _ => rfl) (0 : Int) (w0 := w) w.heap.size rfl (.tmp 18) (.tmp 19) 45 45 5 rfl Tryd.underlying45 (by kernel_rfl) (some ⟨go8, 0, none⟩) co8 1 y251.length y254 l0 KE18.out.symm A0 l0.length c0 (fun _ => True) A18 KA18.out ((show _ = Value.slice A18 y255.length c18 from rfl).trans (by rw [KY18.out, KC18.out]; rfl)) rfl (by have := KL18.out; have := KE18.out; omega) HO253.out (Kd.C_below HR0.out dB) dB (below_size dB) ?_; intro wz_ hoz_ hbz_ hgz_; have n0_ := aM (show Kd.R (Kd.int .u8) 5 wz_ w.heap.size (fun _ => True) (.slice (some ⟨go8, 0, none⟩) y251.length co8) (cutIn y254 l0) from by rw [cutIn, ← KE18.out]; exact hoz_); have n1_ := aM hbz_; clear hoz_ hbz_ hgz_ HO253 HB; have HO253 := n0_; have HB := n1_; clear n0_ n1_; rw [KM_.out]))
  go_loopg [8] k (fun kq v8 w' => ∃ (x5_1 : List Int) (x8_1 : Int), v8 = .int .i64 x8_1 ∧ Aside0 (expand_cut.l0 kq a1 x5_1 yr_ x8_1 = some r) ∧ Aside0 (kq ≤ k) ∧ Aside0 (Kd.R (Kd.int .u8) 5 w' w.heap.size (fun _ => True) (.slice (some ⟨go8, 0, none⟩) y251.length co8) x5_1) ∧ Aside0 (Below w.heap.size w w'))
  case atStart => exact ⟨(cutIn y254 l0), (wrap64 ((ji10) + 1)), (by first | rfl | (simp; done) | (simp only [← hji10] <;> (first | rfl | simp)) | (simp [*]; done)), H', ⟨Nat.le_refl _⟩, ⟨dR HO253.out⟩, ⟨dB⟩⟩
  case round =>
   clear H'
   try clear c1
   try clear c3
   try clear c3b0
   try clear c5
   try clear c5b0 c5b1
   try clear c6
   try clear c6b0 c6b1
   try clear c7
   try clear c7b0 c7b1
   try clear p8
   try clear q8
   try clear qi8
   try clear c9
   try clear c9b0 c9b1
   try clear c11
   try clear c11b0 c11b1
   try clear c12
   try clear c12b0 c12b1
   try clear c13
   try clear c13b0 c13b1
   try clear c18
   try clear q18
   try clear hx8_0
   try clear p8
   try clear q18
   try clear q8
   obtain ⟨x5_1, x8_1, rfl, HA, HK1, HO_5, HB⟩ := hrel
   have hl5_1 := (Kd.R_reads' HO_5.out).1
   rw [hl5_1] at HO_5
   (try simp only [hl5_1])
   cases gk with
   | zero => exact absurd HA.out (by simp [expand_cut.l0])
   | succ k1 =>
    have H := HA.out
    clear HA
    simp only [expand_cut.l0] at H
    by_cases c20 : x8_1 < (x5_1.length : Int)
    ·rw [if_pos c20] at H
     have c20b0 := decide_eq_true c20
     clear c20
     replace H := nO H
     obtain ⟨c21, H⟩ := H
     have c21b0 : decide (0 ≤ x8_1) = true := decide_eq_true c21
     clear c21
     obtain ⟨y260, hy260⟩ : ∃ y_ : List Int, y_ = (x5_1.set (x8_1 : Int).toNat 48) := ⟨_, rfl⟩
     replace H : (expand_cut.l0 k1 a1 y260 yr_ (wrap64 (x8_1 + 1))) = some r := by first | (rw [hy260]; with_reducible exact H) | (have H2_ := (Option.bind_some _ _).symm.trans H; rw [hy260]; with_reducible exact H2_) | (have H2_ := (Option.bind_some _ _).symm.trans H; with_reducible exact H2_) | with_reducible exact H | (rw [hy260]; exact H) | exact H
     have Ny260 := aM hy260
     clear hy260
     have H' := aM H
     clear H
     have p22 : 0 ≤ (x8_1 : Int) := of_decide_eq_true dS
     have q22 : (x8_1 : Int) < ((x5_1.length : Int) : Int) := of_decide_eq_true dS
     obtain ⟨hx22_0, hf22_0⟩ := Kd.R_celln 0 HO_5.out (x8_1 : Int) p22 q22
     replace p22 := eq_true p22
     replace q22 := eq_true q22
     have HP23 := Kd.R_putg HO_5.out (x8_1 : Int) 48
     go_wp2_with (first | ((with_reducible refine gate_store (t := 5) (p := 38) rfl ?_); refine store_event (t := 5) (p := 38) (v := ?vo_w24) (w1 := (wr.setCell ⟨go8, (x8_1 : Int).toNat, none⟩ (.int .u8 48))) ?hg ?ho ?hn ?hr ?_; (case ho => rfl); (case hg => rfl); (case hn => rfl); (case hr => first | (go_simp; done) | (go_simp; rfl)); intro w24 hw; have hg : wr.grownBy w24 (some go8) := (by rw [hw]; exact HP23.2); have hp_ : Kd.R (Kd.int .u8) 5 w24 w.heap.size (fun _ => True) (.slice (some ⟨go8, 0, none⟩) x5_1.length co8) y260 := (by rw [hw, Ny260.out]; exact HP23.1); clear HP23; replace HO_5 := aM (hp_); replace HB := aM ((by rw [hw]; exact below_set (HB.out) GB8.out : Below w.heap.size w w24)); clear hg hw hp_))
     (try simp only [← hl5_1])
     go_roundg k1
     case measure => have := HK1.out; omega
     case rel => exact ⟨(y260), (wrap64 (x8_1 + 1)), dF, H', ⟨by have := HK1.out; omega⟩, ⟨by (try simp only [hl5_1]); (with_reducible repeat (first | apply Kd.R_alloc | apply Kd.R_drewN | apply Kd.R_drew)); exact HO_5.out⟩, ⟨dB⟩⟩
    ·rw [if_neg c20] at H
     have c20b0 := decide_eq_false c20
     clear c20
     replace H := nO H
     obtain ⟨c25, H⟩ := H
     have c25b0 : decide (0 ≤ a1) = true := decide_eq_true c25
     clear c25
     replace H := nO H
     obtain ⟨c26, H⟩ := H
     have c26b0 := decide_eq_true c26
     clear c26
     replace H := oA H
     obtain ⟨t262, A27, H⟩ := H
     (try dsimp only at H)
     by_cases c28 : t262 = true
     ·subst c28
      rw [if_pos rfl] at H
      (try dsimp only at H)
      have H' := aM H
      clear H
      have p261 : 0 ≤ (a1 : Int) := of_decide_eq_true dS
      have q261 : a1 < (x5_1.length : Int) := of_decide_eq_true dS
      obtain ⟨ad261, e261, hx261_0⟩ := Kd.at_int (Kd.R_reads' HO_5.out).2.2 a1 p261 q261
      obtain rfl : (⟨go8, 0, none⟩ : Addr) = ad261 := (by injection e261)
      (first | simp only [add_plain] at hx261_0 | simp only [add_at] at hx261_0 | simp only [Addr.add, Nat.zero_add] at hx261_0 | skip)
      replace p261 := eq_true p261
      replace q261 := eq_true q261
      go_wp2_with (first | ((with_reducible refine gate_callee (f := 39) rfl ?_); refine goesL_ (some 44) rfl rfl Tryd.func39 (by kernel_rfl) rfl #[.int .u8 (rd x5_1 a1), .slice A19 yr_.length yr_.length] rfl (by (try simp only [List.map_toArray, List.map_cons, List.map_nil]); first | done | (rw [show yr_.length = yr_.length from (by rw [List.length_drop, List.length_take]; have h_ : ((l0.length : Int) : Int) ≤ (l0.length : Int) := of_decide_eq_true dS; omega)] <;> rfl) | (simp only [hji10]; rfl) | rfl | (simp only [List.length_drop, List.length_take]; rfl)) ?_; (with_reducible refine (expand_up.calls (rd x5_1 a1) _ _ yr_ true _ ?side1 HC259.out A27.out).mono ?_); (case side1 => exact dC (Kd.C_below HR259.out HB.out)); rintro e w29 ⟨rfl, hb⟩; refine ⟨_, rfl, ?_⟩; replace HO_5 := oB HO_5.out hb; replace HB := hS HB.out hb; (try clear hb)))
      go_loopg [9] k1 (fun kq v9 w' => ∃ (x5_2 : List Int) (x9_2 : Int), v9 = .int .i64 x9_2 ∧ Aside0 (expand_cut.l1 kq x5_2 x9_2 = some r) ∧ Aside0 (kq ≤ k1) ∧ Aside0 (Kd.R (Kd.int .u8) 5 w' w.heap.size (fun _ => True) (.slice (some ⟨go8, 0, none⟩) x5_1.length co8) x5_2) ∧ Aside0 (Below w.heap.size w w'))
      case atStart => exact ⟨(x5_1), (a1), dF, H', ⟨Nat.le_refl _⟩, ⟨by (try simp only [hl5_1]); (with_reducible repeat (first | apply Kd.R_alloc | apply Kd.R_drewN | apply Kd.R_drew)); exact HO_5.out⟩, ⟨dB⟩⟩
      case round =>
       clear H'
       try clear c1
       try clear c3
       try clear c3b0
       try clear c5
       try clear c5b0 c5b1
       try clear c6
       try clear c6b0 c6b1
       try clear c7
       try clear c7b0 c7b1
       try clear p8
       try clear q8
       try clear qi8
       try clear c9
       try clear c9b0 c9b1
       try clear c11
       try clear c11b0 c11b1
       try clear c12
       try clear c12b0 c12b1
       try clear c13
       try clear c13b0 c13b1
       try clear c18
       try clear q18
       try clear c20
       try clear c20b0
       try clear c25
       try clear c25b0
       try clear c26
       try clear c26b0
       try clear c28
       try clear hx261_0
       try clear hx8_0
       try clear p261
       try clear p8
       try clear q18
       try clear q261
       try clear q8
       obtain ⟨x5_2, x9_2, rfl, HA, HK2, HO_5, HB⟩ := hrel
       have hl5_2 := (Kd.R_reads' HO_5.out).1
       rw [hl5_2] at HO_5
       (try simp only [hl5_2])
       cases gk with
       | zero => exact absurd HA.out (by simp [expand_cut.l1])
       | succ k2 =>
        have H := HA.out
        clear HA
        simp only [expand_cut.l1] at H
        replace H := nO H
        obtain ⟨c30, H⟩ := H
        have c30b0 : decide (0 ≤ x9_2) = true := decide_eq_true c30
        clear c30
        replace H := nO H
        obtain ⟨c31, H⟩ := H
        have c31b0 := decide_eq_true c31
        clear c31
        by_cases c32 : (rd x5_2 x9_2) < 57
        ·rw [if_pos c32] at H
         have c32b0 := decide_eq_true c32
         clear c32
         obtain ⟨y265, hy265⟩ : ∃ y_ : List Int, y_ = (x5_2.set (x9_2 : Int).toNat (((rd x5_2 x9_2) + 1) % 256)) := ⟨_, rfl⟩
         replace H : (if 0 < (x5_2.length : Int) then (if (rd y265 0) = 48 then (if 1 ≤ (x5_2.length : Int) then (some (y265.drop (1 : Int).toNat)) else (none)) else (some y265)) else (none)) = some r := by first | (rw [hy265]; with_reducible exact H) | (have H2_ := (Option.bind_some _ _).symm.trans H; rw [hy265]; with_reducible exact H2_) | (have H2_ := (Option.bind_some _ _).symm.trans H; with_reducible exact H2_) | with_reducible exact H | (rw [hy265]; exact H) | exact H
         have Ny265 := aM hy265
         clear hy265
         replace H := nO H
         obtain ⟨c34, H⟩ := H
         have c34b0 : decide (0 < (x5_2.length : Int)) = true := decide_eq_true c34
         have c34b1 : decide (0 < x5_2.length) = true := decide_eq_true (by omega)
         clear c34
         by_cases c35 : (rd y265 0) = 48
         ·rw [if_pos c35] at H
          obtain ⟨c35b0, c35b1⟩ := bT c35
          clear c35
          replace H := nO H
          obtain ⟨c36, H⟩ := H
          have c36b0 := eq_true c36
          have c36b1 : decide (1 ≤ (x5_2.length : Int)) = true := decide_eq_true c36
          clear c36
          obtain ⟨y267, hy267⟩ : ∃ y_ : List Int, y_ = (y265.drop (1 : Int).toNat) := ⟨_, rfl⟩
          replace H : (some y267) = some r := by first | (rw [hy267]; with_reducible exact H) | (have H2_ := (Option.bind_some _ _).symm.trans H; rw [hy267]; with_reducible exact H2_) | (have H2_ := (Option.bind_some _ _).symm.trans H; with_reducible exact H2_) | with_reducible exact H | (rw [hy267]; exact H) | exact H
          have Ny267 := aM hy267
          clear hy267
          obtain rfl := Option.some.inj H
          have p263 : 0 ≤ (x9_2 : Int) := of_decide_eq_true dS
          have q263 : x9_2 < (x5_2.length : Int) := of_decide_eq_true dS
          obtain ⟨ad263, e263, hx263_0⟩ := Kd.at_int (Kd.R_reads' HO_5.out).2.2 x9_2 p263 q263
          obtain rfl : (⟨go8, 0, none⟩ : Addr) = ad263 := (by injection e263)
          (first | simp only [add_plain] at hx263_0 | simp only [add_at] at hx263_0 | simp only [Addr.add, Nat.zero_add] at hx263_0 | skip)
          replace p263 := eq_true p263
          replace q263 := eq_true q263
          have p264 : 0 ≤ (x9_2 : Int) := of_decide_eq_true dS
          have q264 : x9_2 < (x5_2.length : Int) := of_decide_eq_true dS
          obtain ⟨ad264, e264, hx264_0⟩ := Kd.at_int (Kd.R_reads' HO_5.out).2.2 x9_2 p264 q264
          obtain rfl : (⟨go8, 0, none⟩ : Addr) = ad264 := (by injection e264)
          (first | simp only [add_plain] at hx264_0 | simp only [add_at] at hx264_0 | simp only [Addr.add, Nat.zero_add] at hx264_0 | skip)
          replace p264 := eq_true p264
          replace q264 := eq_true q264
          have p33 : 0 ≤ (x9_2 : Int) := of_decide_eq_true dS
          have q33 : (x9_2 : Int) < ((x5_2.length : Int) : Int) := of_decide_eq_true dS
          obtain ⟨hx33_0, hf33_0⟩ := Kd.R_celln 0 HO_5.out (x9_2 : Int) p33 q33
          replace p33 := eq_true p33
          replace q33 := eq_true q33
          have HP37 := Kd.R_putg HO_5.out (x9_2 : Int) (((rd x5_2 x9_2) + 1) % 256)
          go_wp2_with (first | ((with_reducible refine gate_store (t := 5) (p := 58) rfl ?_); refine store_event (t := 5) (p := 58) (v := ?vo_w38) (w1 := (wr.setCell ⟨go8, (x9_2 : Int).toNat, none⟩ (.int .u8 (((rd x5_2 x9_2) + 1) % 256)))) ?hg ?ho ?hn ?hr ?_; (case ho => rfl); (case hg => rfl); (case hn => rfl); (case hr => first | (go_simp; done) | (go_simp; rfl)); intro w38 hw; have hg : wr.grownBy w38 (some go8) := (by rw [hw]; exact HP37.2); have hp_ : Kd.R (Kd.int .u8) 5 w38 w.heap.size (fun _ => True) (.slice (some ⟨go8, 0, none⟩) x5_2.length co8) y265 := (by rw [hw, Ny265.out]; exact HP37.1); clear HP37; replace HO_5 := aM (hp_); replace HB := aM ((by rw [hw]; exact below_set (HB.out) GB8.out : Below w.heap.size w w38)); clear hg hw hp_; have p266 : 0 ≤ (0 : Int) := (by omega); have q266 : 0 < (y265.length : Int) := (by have h_ : (0 : Int) < ((x5_2.length : Int) : Int) := of_decide_eq_true dS; first | (have e_ := (Kd.R_reads' HO_5.out).1; omega) | simpa only [Ny265.out, List.length_set] using h_); have ql266 : ((0 : Int) < ((x5_2.length : Int) : Int)) = True := eq_true (of_decide_eq_true dS); (try have qn266 : (0 < x5_2.length) = True := eq_true (by have h_ : (0 : Int) < ((x5_2.length : Int) : Int) := of_decide_eq_true dS; omega)); obtain ⟨ad266, e266, hx266_0⟩ := Kd.at_int (Kd.R_reads' HO_5.out).2.2 0 p266 q266; obtain rfl : (⟨go8, 0, none⟩ : Addr) = ad266 := (by injection e266); (first | simp only [add_plain] at hx266_0 | simp only [add_at] at hx266_0 | simp only [Addr.add, Nat.zero_add] at hx266_0 | skip); have qi266 : (0 < y265.length) = True := eq_true (by omega); (try rw [show ((0 : Int)).toNat = 0 from rfl] at hx266_0); (try rw [Addr.add_zero'] at hx266_0); replace p266 := eq_true p266; replace q266 := eq_true q266; have q39 : (1 : Int) ≤ ((x5_2.length : Int) : Int) := of_decide_eq_true dS; obtain ⟨i039, hi039, _, hsz39, _⟩ := info_parts info5; have hcut39 := cut_from (P := Tryd.prog) 45 5 .i64 Tryd.underlying45 hi039 1 hsz39 (some ⟨go8, 0, none⟩) x5_2.length co8 1 (by omega) q39; have hr39 := Kd.Q_drop (k := (1 : Int).toNat) (Kd.Q_of_R HO_5.out) (by have e_ := (Kd.R_reads' HO_5.out).1; omega); obtain ⟨A39, hA39⟩ : ∃ A1, A1 = (if co8 = (1 : Int).toNat then (some ⟨go8, 0, none⟩) else ((some ⟨go8, 0, none⟩) : Option Addr).map (·.add ((1 : Int).toNat * 1))) := ⟨_, rfl⟩; obtain ⟨c39, hc39⟩ : ∃ c1, c1 = co8 - (1 : Int).toNat := ⟨_, rfl⟩; have hy39 : y267.length = x5_2.length - (1 : Int).toNat := (by rw [Ny267.out, List.length_drop]; (try (have e_ := (Kd.R_reads' HO_5.out).1; omega))); rw [← Ny267.out] at hr39; rw [← hy39, ← hA39, ← hc39] at hcut39; replace hr39 : Kd.Q (Kd.int .u8) 5 w38 w.heap.size (fun _ => True) (.slice A39 y267.length c39) y267 := (by rw [hA39, hc39, hy39]; exact hr39); have HE39 : Aside0 ((Value.slice A39 y267.length c39).ownBlock = (.slice (some ⟨go8, 0, none⟩) x5_2.length co8 : Value).ownBlock) := ⟨by rw [hA39]; split <;> (cases ((some ⟨go8, 0, none⟩) : Option Addr) <;> rfl)⟩; clear hy39 hi039 hsz39 HO_5 hA39 hc39; have HO269 := aM hr39; clear hr39; replace q39 := eq_true q39))
          go_ret
          exact ⟨_, by first | rfl | (simp [errW_none, errW_some] <;> rfl) | (simp only [← hji4, ← hji10]; first | rfl | (simp [errW_none, errW_some] <;> rfl)) | (simp [*, errW_none, errW_some] <;> rfl), by (with_reducible repeat (first | apply Kd.Q_alloc | apply Kd.Q_drewN | apply Kd.Q_drew)); exact HO269.out, dB⟩
         ·rw [if_neg c35] at H
          obtain ⟨c35b0, c35b1⟩ := bF c35
          obtain rfl := Option.some.inj H
          have p263 : 0 ≤ (x9_2 : Int) := of_decide_eq_true dS
          have q263 : x9_2 < (x5_2.length : Int) := of_decide_eq_true dS
          obtain ⟨ad263, e263, hx263_0⟩ := Kd.at_int (Kd.R_reads' HO_5.out).2.2 x9_2 p263 q263
          obtain rfl : (⟨go8, 0, none⟩ : Addr) = ad263 := (by injection e263)
          (first | simp only [add_plain] at hx263_0 | simp only [add_at] at hx263_0 | simp only [Addr.add, Nat.zero_add] at hx263_0 | skip)
          replace p263 := eq_true p263
          replace q263 := eq_true q263
          have p264 : 0 ≤ (x9_2 : Int) := of_decide_eq_true dS
          have q264 : x9_2 < (x5_2.length : Int) := of_decide_eq_true dS
          obtain ⟨ad264, e264, hx264_0⟩ := Kd.at_int (Kd.R_reads' HO_5.out).2.2 x9_2 p264 q264
          obtain rfl : (⟨go8, 0, none⟩ : Addr) = ad264 := (by injection e264)
          (first | simp only [add_plain] at hx264_0 | simp only [add_at] at hx264_0 | simp only [Addr.add, Nat.zero_add] at hx264_0 | skip)
          replace p264 := eq_true p264
          replace q264 := eq_true q264
          have p33 : 0 ≤ (x9_2 : Int) := of_decide_eq_true dS
          have q33 : (x9_2 : Int) < ((x5_2.length : Int) : Int) := of_decide_eq_true dS
          obtain ⟨hx33_0, hf33_0⟩ := Kd.R_celln 0 HO_5.out (x9_2 : Int) p33 q33
          replace p33 := eq_true p33
          replace q33 := eq_true q33
          have HP40 := Kd.R_putg HO_5.out (x9_2 : Int) (((rd x5_2 x9_2) + 1) % 256)
          go_wp2_with (first | ((with_reducible refine gate_store (t := 5) (p := 58) rfl ?_); refine store_event (t := 5) (p := 58) (v := ?vo_w41) (w1 := (wr.setCell ⟨go8, (x9_2 : Int).toNat, none⟩ (.int .u8 (((rd x5_2 x9_2) + 1) % 256)))) ?hg ?ho ?hn ?hr ?_; (case ho => rfl); (case hg => rfl); (case hn => rfl); (case hr => first | (go_simp; done) | (go_simp; rfl)); intro w41 hw; have hg : wr.grownBy w41 (some go8) := (by rw [hw]; exact HP40.2); have hp_ : Kd.R (Kd.int .u8) 5 w41 w.heap.size (fun _ => True) (.slice (some ⟨go8, 0, none⟩) x5_2.length co8) y265 := (by rw [hw, Ny265.out]; exact HP40.1); clear HP40; replace HO_5 := aM (hp_); replace HB := aM ((by rw [hw]; exact below_set (HB.out) GB8.out : Below w.heap.size w w41)); clear hg hw hp_; have p266 : 0 ≤ (0 : Int) := (by omega); have q266 : 0 < (y265.length : Int) := (by have h_ : (0 : Int) < ((x5_2.length : Int) : Int) := of_decide_eq_true dS; first | (have e_ := (Kd.R_reads' HO_5.out).1; omega) | simpa only [Ny265.out, List.length_set] using h_); have ql266 : ((0 : Int) < ((x5_2.length : Int) : Int)) = True := eq_true (of_decide_eq_true dS); (try have qn266 : (0 < x5_2.length) = True := eq_true (by have h_ : (0 : Int) < ((x5_2.length : Int) : Int) := of_decide_eq_true dS; omega)); obtain ⟨ad266, e266, hx266_0⟩ := Kd.at_int (Kd.R_reads' HO_5.out).2.2 0 p266 q266; obtain rfl : (⟨go8, 0, none⟩ : Addr) = ad266 := (by injection e266); (first | simp only [add_plain] at hx266_0 | simp only [add_at] at hx266_0 | simp only [Addr.add, Nat.zero_add] at hx266_0 | skip); have qi266 : (0 < y265.length) = True := eq_true (by omega); (try rw [show ((0 : Int)).toNat = 0 from rfl] at hx266_0); (try rw [Addr.add_zero'] at hx266_0); replace p266 := eq_true p266; replace q266 := eq_true q266))
          go_ret
          exact ⟨_, by first | rfl | (simp [errW_none, errW_some] <;> rfl) | (simp only [← hji4, ← hji10]; first | rfl | (simp [errW_none, errW_some] <;> rfl)) | (simp [*, errW_none, errW_some] <;> rfl), Kd.Q_of_R (dR HO_5.out), dB⟩
        ·rw [if_neg c32] at H
         have c32b0 := decide_eq_false c32
         clear c32
         obtain ⟨y270, hy270⟩ : ∃ y_ : List Int, y_ = (x5_2.set (x9_2 : Int).toNat 48) := ⟨_, rfl⟩
         replace H : (expand_cut.l1 k2 y270 (wrap64 (x9_2 - 1))) = some r := by first | (rw [hy270]; with_reducible exact H) | (have H2_ := (Option.bind_some _ _).symm.trans H; rw [hy270]; with_reducible exact H2_) | (have H2_ := (Option.bind_some _ _).symm.trans H; with_reducible exact H2_) | with_reducible exact H | (rw [hy270]; exact H) | exact H
         have Ny270 := aM hy270
         clear hy270
         have H' := aM H
         clear H
         have p263 : 0 ≤ (x9_2 : Int) := of_decide_eq_true dS
         have q263 : x9_2 < (x5_2.length : Int) := of_decide_eq_true dS
         obtain ⟨ad263, e263, hx263_0⟩ := Kd.at_int (Kd.R_reads' HO_5.out).2.2 x9_2 p263 q263
         obtain rfl : (⟨go8, 0, none⟩ : Addr) = ad263 := (by injection e263)
         (first | simp only [add_plain] at hx263_0 | simp only [add_at] at hx263_0 | simp only [Addr.add, Nat.zero_add] at hx263_0 | skip)
         replace p263 := eq_true p263
         replace q263 := eq_true q263
         have p42 : 0 ≤ (x9_2 : Int) := of_decide_eq_true dS
         have q42 : (x9_2 : Int) < ((x5_2.length : Int) : Int) := of_decide_eq_true dS
         obtain ⟨hx42_0, hf42_0⟩ := Kd.R_celln 0 HO_5.out (x9_2 : Int) p42 q42
         replace p42 := eq_true p42
         replace q42 := eq_true q42
         have HP43 := Kd.R_putg HO_5.out (x9_2 : Int) 48
         go_wp2_with (first | ((with_reducible refine gate_store (t := 5) (p := 61) rfl ?_); refine store_event (t := 5) (p := 61) (v := ?vo_w44) (w1 := (wr.setCell ⟨go8, (x9_2 : Int).toNat, none⟩ (.int .u8 48))) ?hg ?ho ?hn ?hr ?_; (case ho => rfl); (case hg => rfl); (case hn => rfl); (case hr => first | (go_simp; done) | (go_simp; rfl)); intro w44 hw; have hg : wr.grownBy w44 (some go8) := (by rw [hw]; exact HP43.2); have hp_ : Kd.R (Kd.int .u8) 5 w44 w.heap.size (fun _ => True) (.slice (some ⟨go8, 0, none⟩) x5_2.length co8) y270 := (by rw [hw, Ny270.out]; exact HP43.1); clear HP43; replace HO_5 := aM (hp_); replace HB := aM ((by rw [hw]; exact below_set (HB.out) GB8.out : Below w.heap.size w w44)); clear hg hw hp_))
         (try simp only [← hl5_2])
         go_roundg k2
         case measure => have := HK1.out; have := HK2.out; omega
         case rel => exact ⟨(y270), (wrap64 (x9_2 - 1)), dF, H', ⟨by have := HK1.out; have := HK2.out; omega⟩, ⟨by (try simp only [hl5_1]); (try simp only [hl5_2]); (with_reducible repeat (first | apply Kd.R_alloc | apply Kd.R_drewN | apply Kd.R_drew)); exact HO_5.out⟩, ⟨dB⟩⟩
     ·replace c28 := Bool.eq_false_iff.mpr c28
      subst c28
      rw [if_neg (show ¬ (false = true) by decide)] at H
      (try dsimp only at H)
      replace H := nO H
      obtain ⟨c45, H⟩ := H
      have c45b0 : decide (0 < (x5_1.length : Int)) = true := decide_eq_true c45
      have c45b1 : decide (0 < x5_1.length) = true := decide_eq_true (by omega)
      clear c45
      by_cases c46 : (rd x5_1 0) = 48
      ·rw [if_pos c46] at H
       obtain ⟨c46b0, c46b1⟩ := bT c46
       clear c46
       replace H := nO H
       obtain ⟨c47, H⟩ := H
       have c47b0 := eq_true c47
       have c47b1 : decide (1 ≤ (x5_1.length : Int)) = true := decide_eq_true c47
       clear c47
       obtain ⟨y272, hy272⟩ : ∃ y_ : List Int, y_ = (x5_1.drop (1 : Int).toNat) := ⟨_, rfl⟩
       replace H : (some y272) = some r := by first | (rw [hy272]; with_reducible exact H) | (have H2_ := (Option.bind_some _ _).symm.trans H; rw [hy272]; with_reducible exact H2_) | (have H2_ := (Option.bind_some _ _).symm.trans H; with_reducible exact H2_) | with_reducible exact H | (rw [hy272]; exact H) | exact H
       have Ny272 := aM hy272
       clear hy272
       obtain rfl := Option.some.inj H
       have p261 : 0 ≤ (a1 : Int) := of_decide_eq_true dS
       have q261 : a1 < (x5_1.length : Int) := of_decide_eq_true dS
       obtain ⟨ad261, e261, hx261_0⟩ := Kd.at_int (Kd.R_reads' HO_5.out).2.2 a1 p261 q261
       obtain rfl : (⟨go8, 0, none⟩ : Addr) = ad261 := (by injection e261)
       (first | simp only [add_plain] at hx261_0 | simp only [add_at] at hx261_0 | simp only [Addr.add, Nat.zero_add] at hx261_0 | skip)
       replace p261 := eq_true p261
       replace q261 := eq_true q261
       go_wp2_with (first | ((with_reducible refine gate_callee (f := 39) rfl ?_); refine goesL_ (some 44) rfl rfl Tryd.func39 (by kernel_rfl) rfl #[.int .u8 (rd x5_1 a1), .slice A19 yr_.length yr_.length] rfl (by (try simp only [List.map_toArray, List.map_cons, List.map_nil]); first | done | (rw [show yr_.length = yr_.length from (by rw [List.length_drop, List.length_take]; have h_ : ((l0.length : Int) : Int) ≤ (l0.length : Int) := of_decide_eq_true dS; omega)] <;> rfl) | (simp only [hji10]; rfl) | rfl | (simp only [List.length_drop, List.length_take]; rfl)) ?_; (with_reducible refine (expand_up.calls (rd x5_1 a1) _ _ yr_ false _ ?side1 HC259.out A27.out).mono ?_); (case side1 => exact dC (Kd.C_below HR259.out HB.out)); rintro e w48 ⟨rfl, hb⟩; refine ⟨_, rfl, ?_⟩; replace HO_5 := oB HO_5.out hb; replace HB := hS HB.out hb; (try clear hb); have p271 : 0 ≤ (0 : Int) := (by omega); have q271 : 0 < (x5_1.length : Int) := of_decide_eq_true dS; obtain ⟨ad271, e271, hx271_0⟩ := Kd.at_int (Kd.R_reads' HO_5.out).2.2 0 p271 q271; obtain rfl : (⟨go8, 0, none⟩ : Addr) = ad271 := (by injection e271); (first | simp only [add_plain] at hx271_0 | simp only [add_at] at hx271_0 | simp only [Addr.add, Nat.zero_add] at hx271_0 | skip); have qi271 : (0 < x5_1.length) = True := eq_true (by omega); (try rw [show ((0 : Int)).toNat = 0 from rfl] at hx271_0); (try rw [Addr.add_zero'] at hx271_0); replace p271 := eq_true p271; replace q271 := eq_true q271; have q49 : (1 : Int) ≤ ((x5_1.length : Int) : Int) := of_decide_eq_true dS; obtain ⟨i049, hi049, _, hsz49, _⟩ := info_parts info5; have hcut49 := cut_from (P := Tryd.prog) 45 5 .i64 Tryd.underlying45 hi049 1 hsz49 (some ⟨go8, 0, none⟩) x5_1.length co8 1 (by omega) q49; have hr49 := Kd.Q_drop (k := (1 : Int).toNat) (Kd.Q_of_R HO_5.out) (by have e_ := (Kd.R_reads' HO_5.out).1; omega); obtain ⟨A49, hA49⟩ : ∃ A1, A1 = (if co8 = (1 : Int).toNat then (some ⟨go8, 0, none⟩) else ((some ⟨go8, 0, none⟩) : Option Addr).map (·.add ((1 : Int).toNat * 1))) := ⟨_, rfl⟩; obtain ⟨c49, hc49⟩ : ∃ c1, c1 = co8 - (1 : Int).toNat := ⟨_, rfl⟩; have hy49 : y272.length = x5_1.length - (1 : Int).toNat := (by rw [Ny272.out, List.length_drop]; (try (have e_ := (Kd.R_reads' HO_5.out).1; omega))); rw [← Ny272.out] at hr49; rw [← hy49, ← hA49, ← hc49] at hcut49; replace hr49 : Kd.Q (Kd.int .u8) 5 w48 w.heap.size (fun _ => True) (.slice A49 y272.length c49) y272 := (by rw [hA49, hc49, hy49]; exact hr49); have HE49 : Aside0 ((Value.slice A49 y272.length c49).ownBlock = (.slice (some ⟨go8, 0, none⟩) x5_1.length co8 : Value).ownBlock) := ⟨by rw [hA49]; split <;> (cases ((some ⟨go8, 0, none⟩) : Option Addr) <;> rfl)⟩; clear hy49 hi049 hsz49 HO_5 hA49 hc49; have HO274 := aM hr49; clear hr49; replace q49 := eq_true q49))
       go_ret
       exact ⟨_, by first | rfl | (simp [errW_none, errW_some] <;> rfl) | (simp only [← hji4, ← hji10]; first | rfl | (simp [errW_none, errW_some] <;> rfl)) | (simp [*, errW_none, errW_some] <;> rfl), by (with_reducible repeat (first | apply Kd.Q_alloc | apply Kd.Q_drewN | apply Kd.Q_drew)); exact HO274.out, dB⟩
      ·rw [if_neg c46] at H
       obtain ⟨c46b0, c46b1⟩ := bF c46
       obtain rfl := Option.some.inj H
       have p261 : 0 ≤ (a1 : Int) := of_decide_eq_true dS
       have q261 : a1 < (x5_1.length : Int) := of_decide_eq_true dS
       obtain ⟨ad261, e261, hx261_0⟩ := Kd.at_int (Kd.R_reads' HO_5.out).2.2 a1 p261 q261
       obtain rfl : (⟨go8, 0, none⟩ : Addr) = ad261 := (by injection e261)
       (first | simp only [add_plain] at hx261_0 | simp only [add_at] at hx261_0 | simp only [Addr.add, Nat.zero_add] at hx261_0 | skip)
       replace p261 := eq_true p261
       replace q261 := eq_true q261
       go_wp2_with (first | ((with_reducible refine gate_callee (f := 39) rfl ?_); refine goesL_ (some 44) rfl rfl Tryd.func39 (by kernel_rfl) rfl #[.int .u8 (rd x5_1 a1), .slice A19 yr_.length yr_.length] rfl (by (try simp only [List.map_toArray, List.map_cons, List.map_nil]); first | done | (rw [show yr_.length = yr_.length from (by rw [List.length_drop, List.length_take]; have h_ : ((l0.length : Int) : Int) ≤ (l0.length : Int) := of_decide_eq_true dS; omega)] <;> rfl) | (simp only [hji10]; rfl) | rfl | (simp only [List.length_drop, List.length_take]; rfl)) ?_; (with_reducible refine (expand_up.calls (rd x5_1 a1) _ _ yr_ false _ ?side1 HC259.out A27.out).mono ?_); (case side1 => exact dC (Kd.C_below HR259.out HB.out)); rintro e w50 ⟨rfl, hb⟩; refine ⟨_, rfl, ?_⟩; replace HO_5 := oB HO_5.out hb; replace HB := hS HB.out hb; (try clear hb); have p271 : 0 ≤ (0 : Int) := (by omega); have q271 : 0 < (x5_1.length : Int) := of_decide_eq_true dS; obtain ⟨ad271, e271, hx271_0⟩ := Kd.at_int (Kd.R_reads' HO_5.out).2.2 0 p271 q271; obtain rfl : (⟨go8, 0, none⟩ : Addr) = ad271 := (by injection e271); (first | simp only [add_plain] at hx271_0 | simp only [add_at] at hx271_0 | simp only [Addr.add, Nat.zero_add] at hx271_0 | skip); have qi271 : (0 < x5_1.length) = True := eq_true (by omega); (try rw [show ((0 : Int)).toNat = 0 from rfl] at hx271_0); (try rw [Addr.add_zero'] at hx271_0); replace p271 := eq_true p271; replace q271 := eq_true q271))
       go_ret
       exact ⟨_, by first | rfl | (simp [errW_none, errW_some] <;> rfl) | (simp only [← hji4, ← hji10]; first | rfl | (simp [errW_none, errW_some] <;> rfl)) | (simp [*, errW_none, errW_some] <;> rfl), Kd.Q_of_R (dR HO_5.out), dB⟩
def bits_Mul64.f (a0 : Int) (a1 : Int) : Option (Int × Int) := some (IntKind.u64.wrap ((IntKind.u64.wrap ((IntKind.u64.wrap ((a0 / 4294967296) * (a1 / 4294967296))) + ((IntKind.u64.wrap ((IntKind.u64.wrap ((a0 / 4294967296) * (Go.bits .and .u64 a1 4294967295))) + ((IntKind.u64.wrap ((Go.bits .and .u64 a0 4294967295) * (Go.bits .and .u64 a1 4294967295))) / 4294967296))) / 4294967296))) + ((IntKind.u64.wrap ((Go.bits .and .u64 (IntKind.u64.wrap ((IntKind.u64.wrap ((a0 / 4294967296) * (Go.bits .and .u64 a1 4294967295))) + ((IntKind.u64.wrap ((Go.bits .and .u64 a0 4294967295) * (Go.bits .and .u64 a1 4294967295))) / 4294967296))) 4294967295) + (IntKind.u64.wrap ((Go.bits .and .u64 a0 4294967295) * (a1 / 4294967296))))) / 4294967296)), IntKind.u64.wrap (a0 * a1))
set_option maxHeartbeats 8000000 in
set_option maxRecDepth 100000 in
theorem bits_Mul64.calls (a0 : Int) (a1 : Int) (r1 : Int) (r2 : Int) (w : World) (h : bits_Mul64.f a0 a1 = some (r1, r2)) :
  Calls Tryd.prog 63 #[.int .u64 a0, .int .u64 a1] w fun e w' => e = .returned (.tuple #[.int .u64 r1, .int .u64 r2]) ∧ Drawn0 w w' := by
 have H := h
 clear h
 unfold bits_Mul64.f at H
 simp only [Option.some.injEq, Prod.mk.injEq] at H
 obtain ⟨rfl, rfl⟩ := H
 go_enter Tryd.func63, Tryd.ntmps63
 go_wp2
 go_ret2
 exact ⟨dF, dD⟩
def bits_Mul.f (a0 : Int) (a1 : Int) : Option (Int × Int) := (bits_Mul64.f a0 a1).bind fun bt275 => (some (bt275.1, bt275.2))
set_option maxHeartbeats 8000000 in
set_option maxRecDepth 100000 in
theorem bits_Mul.calls (a0 : Int) (a1 : Int) (r1 : Int) (r2 : Int) (w : World) (h : bits_Mul.f a0 a1 = some (r1, r2)) :
  Calls Tryd.prog 40 #[.int .u64 a0, .int .u64 a1] w fun e w' => e = .returned (.tuple #[.int .u64 r1, .int .u64 r2]) ∧ Drawn0 w w' := by
 have H := h
 clear h
 unfold bits_Mul.f at H
 replace H := oA H
 obtain ⟨⟨t275, t276⟩, A3, H⟩ := H
 (try dsimp only at H)
 simp only [Option.some.injEq, Prod.mk.injEq] at H
 obtain ⟨rfl, rfl⟩ := H
 go_enter Tryd.func40, Tryd.ntmps40
 go_wp2_with (first | ((with_reducible refine gate_callee (f := 63) rfl ?_); refine gL (some 25) Tryd.func63 #[.int .u64 a0, .int .u64 a1] ?_; (with_reducible refine (bits_Mul64.calls a0 a1 t275 t276 _ A3.out).mono ?_); rintro e w' ⟨rfl, ⟨nd, rfl⟩⟩; refine ⟨_, rfl, ?_⟩))
 go_ret2
 exact ⟨dF, dD⟩
def bytes_Repeat.f (l0 : List Int) (a1 : Int) : Option (List Int) := if l0.length = 1 then (if 0 < a1 then (if a1 ≤ 4096 then some (List.replicate a1.toNat (l0.getD 0 0)) else none) else none) else none
theorem bits_Mul_one (n : Int) (h0 : 0 ≤ n) (h1 : n < 4294967296) : bits_Mul.f 1 n = some (0, n) := by
 have e1 : Go.bits .and .u64 1 4294967295 = 1 := by decide
 have e2 : Go.bits .and .u64 n 4294967295 = n := by rw [and_half h0 (by omega)]; omega
 have e3 : Go.bits .and .u64 0 4294967295 = 0 := by decide
 have d1 : (1 : Int) / 4294967296 = 0 := by decide
 have d2 : n / 4294967296 = 0 := by omega
 have d3 : n % 18446744073709551616 = n := by omega
 unfold bits_Mul.f bits_Mul64.f
 simp only [e1, e2, d1, d2, u64w, Option.bind_some, Int.zero_mul, Int.mul_zero, Int.one_mul, Int.zero_emod, Int.add_zero, Int.zero_ediv, d3, e3]
section
open Kd
variable {P : Program} {ops : Array Oper} {o : Oper} {a : Act} {Q : Exit → Act → World → Prop} {α : Type}
theorem Kd.R_copy_at_step {enc : α → Value} {h1 : ∀ x, (enc x).oneCell' = true} (d : α) {w0 W : World} (base : Nat) (hgd : o.guard = none) (s x : Operand) (t t' e : TypeId)
  (ho : o.op = .call { callee := .builtin .copy, args := #[s, x], argTypes := #[t, t'] }) (ht : P.underlying t = some (.slice e)) (hinfo : (P.info? e).map (·.size) = some 1)
  (A' : Option Addr) (c' q n : Nat) (xs ys : List α) (hn : xs.length = n) (A : Option Addr) (m c : Nat) (ok : Nat → Prop) (Aq : Option Addr) (hAq : Aq = if c' = q then A' else A'.map (·.add (q * 1))) (hs : a.eval s = .slice Aq (n - q) (c' - q)) (hx : a.eval x = .slice A m c) (hq : q ≤ n)
  (HO : (scalar enc h1).R e W base ok (.slice A' n c') xs) (HR : (scalar enc h1).C W A m ys) (HB : Below base w0 W) (hbase : base ≤ W.heap.size)
  {Kc : Act → World → Prop} (hw : Region.wanted o (yielded ops a.tmps) = true)
  (h : ∀ w1, (scalar enc h1).R e w1 base ok (.slice A' n c') (xs.take q ++ (ys.take (min m (n - q)) ++ xs.drop (q + min m (n - q)))) → Below base w0 w1 → W.grownBy w1 (Value.slice A' n c').ownBlock → Kc (a.put o.dst (.int .i64 ((min m (n - q) : Nat) : Int))) w1) :
  if Region.wanted o (yielded ops a.tmps) = true then Oper.wp P o a W Kc Q else Kc (a.put o.dst undef) W := by
 subst hn
 subst hAq
 have hR := reads_of_C (enc := enc) (d := d) (h1 := h1) HR
 have hm : ys.length = m := hR.1
 have hown := own_of_R HO
 have fin : ∀ w1, (Builtin.copy_ #[t, t'] o.type #[.slice (if c' = q then A' else A'.map (·.add (q * 1))) (xs.length - q) (c' - q), .slice A m c]).run P W = .ok (goInt ((min m (xs.length - q) : Nat) : Int)) w1 → (scalar enc h1).R e w1 base ok (.slice A' xs.length c') (xs.take q ++ (ys.take (min m (xs.length - q)) ++ xs.drop (q + min m (xs.length - q)))) → W.grownBy w1 (Value.slice A' xs.length c').ownBlock → (if Region.wanted o (yielded ops a.tmps) = true then Oper.wp P o a W Kc Q else Kc (a.put o.dst undef) W) := by
  intro w1 hr hrow hg
  refine event_step (w1 := w1) hw ?_ (h w1 hrow (HB.grown hg hbase (own_base hown)) hg)
  unfold execOp
  simp only [ho, resolve, invoke, builtin, Sem.run_bind, Sem.run_pure, Result.andThen_ok, List.map_toArray, List.map_cons, List.map_nil, hs, hx, hr]
  rfl
 rcases Nat.eq_zero_or_pos (min m (xs.length - q)) with h0 | hp
 ·refine fin W ?_ (by rw [h0, List.take_zero, Nat.add_zero, List.nil_append, List.take_append_drop]; exact HO) (World.grownBy.refl W _)
  rw [h0]
  exact run_copy_none W t t' o.type e _ A (xs.length - q) _ m c ht hinfo h0
 ·obtain ⟨ad, hA, hc⟩ := hR.2.2 (by omega)
  rcases hown.2 with ⟨_, hx0⟩ | ⟨g, cap, cur, hv, hb, ⟨fz, hh, hfz⟩, hnc, hcm, hcs, htake⟩
  ·omega
  injection hv with hv1 _ hv3
  subst hv1
  subst hv3
  have hcs1 : c' ≤ cur.size := by omega
  have hne : c' ≠ q := by omega
  rw [if_neg hne] at fin
  have hsrc : ∀ j u, (encs enc (ys.take (min m (xs.length - q))))[j]? = some u → W.cell? (ad.add j) = some u := by
   intro j u hu
   have hj : j < (ys.take (min m (xs.length - q))).length := by
    rcases Nat.lt_or_ge j (ys.take (min m (xs.length - q))).length with h | h
    ·exact h
    ·rw [List.getElem?_eq_none (by rw [encs_length]; exact h)] at hu
     cases hu
   have hjm : j < min m (xs.length - q) := by rw [List.length_take] at hj; omega
   rw [encs_get (d := d) _ j hj] at hu
   rw [hc j (by omega), ← hu]
   simp [List.getD_eq_getElem?_getD, hjm]
  have hkl : (encs enc (ys.take (min m (xs.length - q)))).length = min m (xs.length - q) := by rw [encs_length, List.length_take]; omega
  have hr := run_copy_cells (P := P) W t t' o.type e g (0 + q * 1) (xs.length - q) (c' - q) ad m c (encs enc (ys.take (min m (xs.length - q)))) ht hinfo (by rw [hkl]) hsrc
   (fun j hj => by rw [cell_of_row W g _ cur e fz hh]; simp; omega) (fun j hj => fine_frozen hh hfz (by omega)) (by intro u hu; simp only [encs, List.mem_map] at hu; obtain ⟨q, _, rfl⟩ := hu; exact h1 q)
  obtain ⟨cur', h3, h4, h5⟩ := heap_puts (encs enc (ys.take (min m (xs.length - q)))) (0 + q * 1) W cur hh (by rw [hkl]; omega)
  obtain ⟨s1, s2, s3, s4⟩ := setCells_same g (encs enc (ys.take (min m (xs.length - q)))) (0 + q * 1) W
  refine fin _ (by rw [hA]; simp only [Option.map_some]; rw [add_at, hr, hkl]) (R_of_own ?_ HO.1) ⟨s1, s2, s3, by rw [s4]; exact Nat.le_refl _, fun k _ hk => setCells_far _ _ k (fun he => hk (by rw [he]; simp [Value.ownBlock]))⟩
  have hln : (xs.take q ++ (ys.take (min m (xs.length - q)) ++ xs.drop (q + min m (xs.length - q)))).length = xs.length := by
   rw [List.length_append, List.length_append, List.length_take, List.length_take, List.length_drop]
   omega
  rw [hln]
  refine ⟨by rw [encs_length, hln, Nat.mul_one], .inr ⟨g, c', cur', rfl, hb, ⟨fz, h3, by rw [h4]; exact hfz⟩, hnc, hcm, by rw [h4]; exact hcs, ?_⟩⟩
  have htk : cur.toList.take xs.length = encs enc xs := by rw [← htake, Nat.mul_one]
  have hd : encs enc (xs.drop (q + min m (xs.length - q))) = (encs enc xs).drop (q + min m (xs.length - q)) := by simp [encs, List.map_drop]
  have ht' : encs enc (xs.take q) = (encs enc xs).take q := by simp [encs, List.map_take]
  rw [h5, hkl, Nat.zero_add, Nat.mul_one, Nat.mul_one, encs_append, encs_append, List.append_assoc, hd, ht', ← htk, List.take_take, Nat.min_eq_left hq, List.drop_take]
  have hql : (cur.toList.take q).length = q := by rw [List.length_take, Array.length_toList]; omega
  rw [List.take_append, hql, List.take_of_length_le (by omega), List.take_append, hkl, List.take_of_length_le (l := encs enc _) (by rw [hkl]; omega)]
  congr 3
  omega
end
theorem rep_step (n b : Nat) (h : n ≤ 4096) (hb : b ≤ n) : wrap64 ((b : Int) + ((min b (n - b) : Nat) : Int)) = ((b + min b (n - b) : Nat) : Int) := by
 generalize hm : min b (n - b) = m
 have : m ≤ 4096 := by omega
 unfold wrap64; omega
theorem rep_num (n b l : Nat) (h : 1 ≤ b ∧ b + l = n) (hlt : b < n) : 1 ≤ b + min b (n - b) ∧ b + min b (n - b) + (l - min b (n - b)) = n := by omega
theorem rep_less (n b : Nat) (h : n ≤ 4096) (hlt : b < n) (h1 : 1 ≤ b) : n - (intOf (Value.int IntKind.i64 (wrap64 ((b : Int) + ((min b (n - b) : Nat) : Int))))).toNat < n - (intOf (Value.int IntKind.i64 (b : Int))).toNat := by
 rw [rep_step n b h (Nat.le_of_lt hlt)]
 show n - ((b + min b (n - b) : Nat) : Int).toNat < n - (b : Int).toNat
 rw [Int.toNat_natCast, Int.toNat_natCast]
 omega
theorem rep_row (b m : Nat) (c : Int) (rest : List Int) : (List.replicate b c ++ rest).take b ++ ((List.replicate b c).take m ++ (List.replicate b c ++ rest).drop (b + m)) = List.replicate (b + min m b) c ++ rest.drop m := by
 rw [List.take_left' (List.length_replicate ..), List.take_replicate, List.drop_append, List.length_replicate, List.drop_replicate, ← List.append_assoc, List.replicate_append_replicate]
 simp
theorem digits_ints : ∀ (n t : Nat) (acc : Array Value), (∃ xs : List Int, acc.toList = encs (Value.int .u8) xs) → ∃ xs : List Int, (Extern.BytealgMakeNoZero.digits n t acc).toList = encs (Value.int .u8) xs
 | 0, _, _, h => h
 | n + 1, t, acc, ⟨xs, h⟩ => by
  rw [Extern.BytealgMakeNoZero.digits]
  exact digits_ints n _ _ ⟨xs ++ [Int.ofNat (t % 256)], by simp [h, encs]⟩
theorem run_noZero {P : Program} (w : World) (ps : Array TypeId) (t e : TypeId) (ht : P.underlying t = some (.slice e)) (n : Nat) (hn : n ≤ 281474976710656) :
  ∃ cs : Array Value, (Extern.BytealgMakeNoZero.makeNoZero ps #[t] #[.int .i64 n]).run P w = .ok (.slice (some ⟨w.heap.size, 0, none⟩) n cs.size) (w.drew.drew.alloc (.cells cs e)) ∧ n ≤ cs.size ∧ (n ≤ maxLen → cs.size ≤ maxLen) ∧ ∃ xs : List Int, cs.toList = encs (Value.int .u8) xs := by
 obtain ⟨cs, h1, h2, h3⟩ := Lib.run_makeNoZero (P := P) w ps t e ht n hn
 refine ⟨cs, h1, h2, h3, ?_⟩
 have hdef : Extern.BytealgMakeNoZero.makeNoZero ps #[t] #[.int .i64 n] =
   (do
    let .slice elem ← underlying t | stuck "bytealg.MakeNoZero: slice type expected"
    if (n : Int) < 0 || (n : Int) > 2 ^ 48 then runtimePanic (.error "makeslice: len out of range")
    let cap ← choose (.appendCap (n : Int).toNat 0 elem)
    askRoom cap
    let bytes ← choose (.extern "internal/bytealg.MakeNoZero.bytes" 0)
    let a ← newRow elem (Extern.BytealgMakeNoZero.digits cap bytes #[])
    pure (.slice (some a) (n : Int).toNat cap)) := rfl
 rw [hdef] at h1
 have g1 : ¬ (n : Int) < 0 := by omega
 have g2 : ¬ (281474976710656 : Int) < (n : Int) := by omega
 simp [run_underlying ht, g1, g2, Question.forced, newRow] at h1
 obtain ⟨_, h1⟩ := h1
 have h5 : ∀ o, (w.drew.drew.alloc o).heap[w.drew.drew.heap.size]? = some o := fun o => by show (w.drew.drew.heap.push o)[w.drew.drew.heap.size]? = some o; exact Array.getElem?_push_size
 have h6 := (h5 _).symm.trans ((congrArg (fun W : World => W.heap[w.drew.drew.heap.size]?) h1).trans (h5 _))
 injection h6 with h6
 injection h6 with h6
 rw [← h6]
 exact digits_ints _ _ _ ⟨[], rfl⟩
set_option maxHeartbeats 8000000 in
set_option maxRecDepth 100000 in
theorem bytes_Repeat.calls (A0 : Option Addr) (c0 : Nat) (l0 : List Int) (a1 : Int) (r : List Int) (w : World) (hr0 : Kd.C (Kd.int .u8) w A0 l0.length l0) (hc0 : l0.length ≤ c0) (h : bytes_Repeat.f l0 a1 = some r) :
  Calls Tryd.prog 18 #[.slice A0 l0.length c0, .int .i64 a1] w fun e w' => ∃ v0_ : Value, e = .returned (v0_) ∧ Kd.R (Kd.int .u8) 5 w' w.heap.size (fun _ => True) v0_ r ∧ Below w.heap.size w w' := by
 unfold bytes_Repeat.f at h
 by_cases hl : l0.length = 1
 case neg => rw [if_neg hl] at h; cases h
 by_cases h0 : 0 < a1
 case neg => rw [if_pos hl, if_neg h0] at h; cases h
 by_cases h1 : a1 ≤ 4096
 case neg => rw [if_pos hl, if_pos h0, if_neg h1] at h; cases h
 rw [if_pos hl, if_pos h0, if_pos h1] at h
 obtain rfl := Option.some.inj h
 clear h
 obtain ⟨n, rfl⟩ : ∃ n : Nat, a1 = n := ⟨a1.toNat, by omega⟩
 obtain ⟨c, rfl⟩ : ∃ c, l0 = [c] := by
  cases l0 with
  | nil => cases hl
  | cons c t => cases t with
   | nil => exact ⟨c, rfl⟩
   | cons _ _ => simp at hl
 have HR := aM (show Kd.C (Kd.int .u8) w A0 1 [c] from hr0)
 have hmul := aM (bits_Mul_one n (by omega) (by omega))
 have h0n : 0 < n := by omega
 have h1n : n ≤ 4096 := by omega
 have HN := aM (And.intro h0n h1n)
 clear hr0 hl h0 h1
 show Calls Tryd.prog 18 #[.slice A0 1 c0, .int .i64 n] w _
 rw [show ((n : Int).toNat) = n from Int.toNat_natCast n, show ([c].getD 0 0) = c from rfl]
 have e1 : ((n : Int) == 0) = false := beq_eq_false_iff_ne.mpr (by omega)
 have e2 : decide ((n : Int) < 0) = false := decide_eq_false (by omega)
 have e3 : decide ((9223372036854775807 : Int) < (n : Int)) = false := decide_eq_false (by omega)
 have e3b : decide (9223372036854775807 < n) = false := decide_eq_false (by omega)
 have e4 : decide ((8192 : Int) < (n : Int)) = false := decide_eq_false (by omega)
 have e4b : decide (8192 < n) = false := decide_eq_false (by omega)
 have w1 : IntKind.u64.wrap (n : Int) = n := by rw [u64w]; omega
 have w2 : IntKind.i64.wrap (n : Int) = n := by rw [i64_w]; unfold wrap64; omega
 have w3 : IntKind.u64.wrap (1 : Int) = 1 := by rw [u64w]; omega
 clear h0n h1n
 go_enter Tryd.func18, Tryd.ntmps18
 go_upto_region 16 with (first | (go_at_call 40; (with_reducible refine (bits_Mul.calls 1 n 0 n _ hmul.out).mono ?_); rintro e w' ⟨rfl, ⟨nd, rfl⟩⟩))
 have HB := aM (pw_below_drewN (Below.refl w.heap.size w) nd)
 have HS := aM (show w.heap.size ≤ (w.drewN nd).heap.size from Nat.le_refl _)
 generalize w.drewN nd = W1 at HB HS ⊢
 clear hmul e1 e2 e3 e3b e4 e4b w1 w2 w3
 obtain ⟨cs, hrun, hle, hmax, xs, hxs⟩ := run_noZero (P := Tryd.prog) W1 #[3] 45 5 Tryd.underlying45 n (by have := HN.out; omega)
 have hcall : (callFunc 41 #[.int .i64 (n : Int)]).run Tryd.prog W1 = .ok (.value (.slice (some ⟨W1.heap.size, 0, none⟩) n cs.size)) (W1.drew.drew.alloc (.cells cs 5)) := by
  rw [run_callFunc_extern Tryd.func41 (by kernel_rfl) (by kernel_rfl) (by kernel_rfl) (e := Extern.BytealgMakeNoZero.makeNoZero #[3] #[45]) (by kernel_rfl), hrun]
  rfl
 obtain ⟨i08, hi08, _, hsz8, _⟩ := info_parts info5
 have hcut := cut_to3 (P := Tryd.prog) 45 5 .i64 .i64 Tryd.underlying45 hi08 (some ⟨W1.heap.size, 0, none⟩) n cs.size (n : Int) (by omega) (Int.le_refl _) hle
 rw [Int.toNat_natCast] at hcut
 have hlx : xs.length = cs.size := by have := congrArg List.length hxs; simpa [encs] using this.symm
 have HO : Kd.R (Kd.int .u8) 5 (W1.drew.drew.alloc (.cells cs 5)) w.heap.size (fun _ => True) (.slice (some ⟨W1.heap.size, 0, none⟩) n n) (xs.take n) := by
  have hlt : (xs.take n).length = n := by rw [List.length_take]; omega
  refine Kd.R_of_own ?_ (fun _ _ => trivial)
  rw [hlt]
  refine ⟨by rw [encs_length, hlt, Nat.mul_one], .inr ⟨W1.heap.size, n, cs, rfl, HS.out, .of ?_, Nat.le_refl _, ?_, by omega, ?_⟩⟩
  ·show (W1.drew.drew.heap.push _)[W1.drew.drew.heap.size]? = _
   exact Array.getElem?_push_size
  ·have := HN.out; unfold maxLen; omega
  ·rw [hxs, Nat.mul_one]; simp [encs, List.map_take]
 have HO' := aM HO
 have HB' := aM (show Below w.heap.size w (W1.drew.drew.alloc (.cells cs 5)) from below_alloc (below_drew1 (below_drew1 HB.out)) _)
 have HX := aM (show (xs.take n).length = n by rw [List.length_take]; omega)
 clear HO hrun hmax hlx hxs
 generalize W1.heap.size = g at *
 generalize xs.take n = ys at *
 go_wp2_with (first
  | ((with_reducible refine gate_dst (N := 60) rfl ?_); refine Kd.R_copy (enc := Value.int .u8) (h1 := fun _ => rfl) (0 : Int) (w0 := w) w.heap.size rfl (.tmp 58) (.tmp 59) 45 45 5 rfl Tryd.underlying45 (by kernel_rfl) (.slice (some ⟨g, 0, none⟩) n n) ys [c] A0 1 c0 (fun _ => True) rfl rfl HO'.out (Kd.C_below HR.out HB'.out) HB'.out HB'.out.size ?_; intro w2 HO2 HB2 _; have HO3 := aM HO2; have HB3 := aM HB2; clear HO2 HB2; rw [show ((min 1 ys.length : Nat) : Int) = 1 from by have := HX.out; have := HN.out; omega]))
 have HQ := aM (show Kd.R (Kd.int .u8) 5 w2 w.heap.size (fun _ => True) (.slice (some ⟨g, 0, none⟩) n n) (List.replicate 1 c ++ ys.drop 1) from by
  have e : ([c].take (min 1 ys.length) ++ ys.drop (min 1 ys.length)) = List.replicate 1 c ++ ys.drop 1 := by
   rw [show min 1 ys.length = 1 from by have := HX.out; have := HN.out; omega]; rfl
  rw [← e]; exact HO3.out)
 have HL := aM (show 1 + (ys.drop 1).length = n by rw [List.length_drop]; have := HX.out; have := HN.out; omega)
 clear HO' HB' HO3 hcall hcut hle HS HB
 go_loopw [10] (fun v10 w' => ∃ (b : Nat) (rest : List Int), v10 = .int .i64 b ∧ Aside0 (1 ≤ b ∧ b + rest.length = n) ∧ Aside0 (Kd.R (Kd.int .u8) 5 w' w.heap.size (fun _ => True) (.slice (some ⟨g, 0, none⟩) n n) (List.replicate b c ++ rest)) ∧ Aside0 (Below w.heap.size w w')) (fun v10 _ => n - (intOf v10).toNat)
 case atStart => exact ⟨1, ys.drop 1, rfl, ⟨Nat.le_refl _, HL.out⟩, HQ, HB3⟩
 case round =>
  clear HQ HL HB3
  obtain ⟨b, rest, rfl, HL, HQ, HB⟩ := hrel
  by_cases hlt : b < n
  ·have k1 : decide ((b : Int) < (n : Int)) = true := decide_eq_true (by omega)
   have k2 : decide (b < n) = true := decide_eq_true hlt
   have k3 : decide ((n : Int) < (b : Int)) = false := decide_eq_false (by omega)
   have k4 : decide (n < b) = false := decide_eq_false (by omega)
   have hcA := cut_from (P := Tryd.prog) 45 5 .i64 Tryd.underlying45 hi08 1 hsz8 (some ⟨g, 0, none⟩) n n (b : Int) (by omega) (by omega)
   rw [Int.toNat_natCast] at hcA
   obtain ⟨A8, hA8⟩ : ∃ A1 : Option Addr, A1 = (if n = b then (some ⟨g, 0, none⟩ : Option Addr) else (some ⟨g, 0, none⟩ : Option Addr).map (·.add (b * 1))) := ⟨_, rfl⟩
   rw [← hA8] at hcA
   have HA8 := aM hA8
   clear hA8
   have hcB := cut_to (P := Tryd.prog) 45 5 .i64 Tryd.underlying45 hi08 (some ⟨g, 0, none⟩) n n (b : Int) (by omega) (by omega) (Nat.le_refl n)
   rw [Int.toNat_natCast] at hcB
   go_upto_region 20 with (fail)
   have hQd := aM (Kd.R_drew HQ.out)
   have hBd := aM (below_drew1 HB.out)
   refine start_ (n := 10) (S := fun w' => True) (ds := []) #[false, false, false, false, false, false, false, false, false, false] (by kernel_rfl) rfl rfl trivial (fun hHeld => ?_)
   generalize wr.drew = wd at hQd hBd hHeld ⊢
   clear HQ HB
   refine pure_ (i := 0) (N := some 67) (v := ?_) (a' := ?_) #[true, false, false, false, false, false, false, false, false, false] rfl rfl (by kernel_rfl) (fun _ _ _ h => h) (Or.inl ⟨by rfl, ?_⟩) ?_ ?_
   rotate_left
   ·intro w'
    go_simp
    with_reducible rfl
   rotate_left
   ·simp only [Act.put, List.setIfInBounds_toArray, List.set_cons_zero, List.set_cons_succ, i64_w, i32_w]
    rfl
   refine pure_ (i := 1) (N := some 68) (v := ?_) (a' := ?_) #[true, true, false, false, false, false, false, false, false, false] rfl rfl (by kernel_rfl) (fun _ _ _ h => h) (Or.inl ⟨by rfl, ?_⟩) ?_ ?_
   rotate_left
   ·intro w'
    go_simp
    with_reducible rfl
   rotate_left
   ·simp only [Act.put, List.setIfInBounds_toArray, List.set_cons_zero, List.set_cons_succ, i64_w, i32_w]
    rfl
   refine pure_ (i := 2) (N := some 69) (v := ?_) (a' := ?_) #[true, true, true, false, false, false, false, false, false, false] rfl rfl (by kernel_rfl) (fun _ _ _ h => h) (Or.inl ⟨by rfl, ?_⟩) ?_ ?_
   rotate_left
   ·intro w'
    go_simp
    with_reducible rfl
   rotate_left
   ·simp only [Act.put, List.setIfInBounds_toArray, List.set_cons_zero, List.set_cons_succ, i64_w, i32_w]
    rfl
   refine pure_ (i := 4) (N := some 71) (v := ?_) (a' := ?_) #[true, true, true, false, true, false, false, false, false, false] rfl rfl (by kernel_rfl) (fun _ _ _ h => h) (Or.inl ⟨by rfl, ?_⟩) ?_ ?_
   rotate_left
   ·intro w'
    go_simp
    with_reducible rfl
   rotate_left
   ·simp only [Act.put, List.setIfInBounds_toArray, List.set_cons_zero, List.set_cons_succ, i64_w, i32_w]
    rfl
   refine pure_ (i := 5) (N := some 72) (v := ?_) (a' := ?_) #[true, true, true, false, true, true, false, false, false, false] rfl rfl (by kernel_rfl) (fun _ _ _ h => h) (Or.inl ⟨by rfl, ?_⟩) ?_ ?_
   rotate_left
   ·intro w'
    go_simp
    with_reducible rfl
   rotate_left
   ·simp only [Act.put, List.setIfInBounds_toArray, List.set_cons_zero, List.set_cons_succ, i64_w, i32_w]
    rfl
   refine take_ (i := 3) (N := some 70) (v := ?_) (a' := ?_) #[true, true, true, true, true, true, false, false, false, false] rfl rfl (by kernel_rfl) (fun _ _ _ h => h) (Or.inl ⟨by rfl, ?_⟩) hHeld ?_ ?_
   rotate_left
   ·intro w' _
    go_simp
    with_reducible rfl
   rotate_left
   ·simp only [Act.put, List.setIfInBounds_toArray, List.set_cons_zero, List.set_cons_succ, i64_w, i32_w]
    rfl
   refine take_ (i := 6) (N := some 73) (v := ?_) (a' := ?_) #[true, true, true, true, true, true, true, false, false, false] rfl rfl (by kernel_rfl) (fun _ _ _ h => h) (Or.inl ⟨by rfl, ?_⟩) hHeld ?_ ?_
   rotate_left
   ·intro w' _
    go_simp
    with_reducible rfl
   rotate_left
   ·simp only [Act.put, List.setIfInBounds_toArray, List.set_cons_zero, List.set_cons_succ, i64_w, i32_w]
    rfl
   refine one_ (i := 7) (N := some 74) #[true, true, true, true, true, true, true, true, false, false] rfl rfl (by kernel_rfl) (by decide) (fun K hK => ?_)
   have hlen : (List.replicate b c ++ rest).length = n := by rw [List.length_append, List.length_replicate]; exact HL.out.2
   have hC : Kd.C (Kd.int .u8) wd (some ⟨g, 0, none⟩) b (List.replicate b c) := by
    have h := Kd.C_take (m := b) (Kd.R_reads' hQd.out).2.2 (by rw [hlen]; omega)
    rw [List.take_left' (List.length_replicate ..), List.length_replicate] at h
    exact h
   refine Kd.R_copy_at_step (enc := Value.int .u8) (h1 := fun _ => rfl) (0 : Int) (w0 := w) w.heap.size rfl (.tmp 70) (.tmp 73) 45 45 5 rfl Tryd.underlying45 (by kernel_rfl) (some ⟨g, 0, none⟩) n b n (List.replicate b c ++ rest) (List.replicate b c) hlen (some ⟨g, 0, none⟩) b n (fun _ => True) A8 HA8.out ?hs rfl (by omega) hQd.out hC hBd.out hBd.out.size (by rfl) ?_
   case hs => rfl
   intro w9 hq9 hb9 _
   have hq9' := aM hq9
   have hb9' := aM hb9
   clear hq9 hb9 hQd hBd hC
   refine hK.out _ _ trivial (fun hHeld => ?_)
   clear hK K
   refine norm_ (a' := ?_) ?_ ?_
   rotate_left
   ·show Act.put _ (some 74) _ = _
    simp only [Act.put, List.setIfInBounds_toArray, List.set_cons_zero, List.set_cons_succ, i64_w, i32_w]
    rfl
   refine pure_ (i := 8) (N := some 75) (v := ?_) (a' := ?_) #[true, true, true, true, true, true, true, true, true, false] rfl rfl (by kernel_rfl) (fun _ _ _ h => h) (Or.inl ⟨by rfl, ?_⟩) ?_ ?_
   rotate_left
   ·intro w'
    go_simp
    with_reducible rfl
   rotate_left
   ·simp only [Act.put, List.setIfInBounds_toArray, List.set_cons_zero, List.set_cons_succ, i64_w, i32_w]
    rfl
   refine pure_ (i := 9) (N := some 10) (v := ?_) (a' := ?_) #[true, true, true, true, true, true, true, true, true, true] rfl rfl (by kernel_rfl) (fun _ _ _ h => h) (Or.inl ⟨by rfl, ?_⟩) ?_ ?_
   rotate_left
   ·intro w'
    go_simp
    with_reducible rfl
   rotate_left
   ·simp only [Act.put, List.setIfInBounds_toArray, List.set_cons_zero, List.set_cons_succ, i64_w, i32_w]
    rfl
   refine done_ (by kernel_rfl) ?_
   try go_wp2
   go_roundw
   case rel =>
    refine ⟨b + min b (n - b), rest.drop (min b (n - b)), ?_, ⟨?_⟩, ⟨?_⟩, hb9'⟩
    ·first | exact congrArg (Value.int IntKind.i64) (rep_step n b HN.out.2 (Nat.le_of_lt hlt)) | exact (rep_step n b HN.out.2 (Nat.le_of_lt hlt))
    ·rw [List.length_drop]; exact rep_num n b rest.length HL.out hlt
    ·have e := rep_row b (min b (n - b)) c rest
     rw [Nat.min_eq_left (Nat.min_le_left b (n - b))] at e
     rw [← e]; exact hq9'.out
   case measure => exact rep_less n b HN.out.2 hlt HL.out.1
  ·have k1 : decide ((b : Int) < (n : Int)) = false := decide_eq_false (by omega)
   have k2 : decide (b < n) = false := decide_eq_false hlt
   obtain rfl : b = n := by have := HL.out; omega
   obtain rfl : rest = [] := List.length_eq_zero_iff.mp (by have := HL.out; omega)
   go_wp2
   go_ret
   exact ⟨_, rfl, by rw [List.append_nil] at HQ; exact HQ.out, HB.out⟩
mutual
def expand_Fixed.j0 : Nat → Int → Int → Bool → Option (ByteArray × Int)
 | 0, _, _, _ => none
 | k + 1, x0, x1, x20 => if x20 = true then (some ((⟨#[]⟩ : ByteArray), 130)) else ((expand_all.f k x0).bind fun bt277 => (if bt277.2.2 = 0 then ((expand_cut.f k bt277.1 (wrap64 ((wrap64 ((bt277.1.length : Int) + bt277.2.1)) + x1))).bind fun t282 => (if (t282.length : Int) < (wrap64 (x1 + 1)) then ((bytes_Repeat.f (([48] : List Int)) (wrap64 ((wrap64 (x1 + 1)) - (t282.length : Int)))).bind fun t288 => (if t288.length + t282.length < 140737488355328 then (expand_Fixed.j1 k x0 x1 (t288 ++ t282)) else (none))) else (expand_Fixed.j1 k x0 x1 t282))) else (some ((⟨#[]⟩ : ByteArray), bt277.2.2))))
def expand_Fixed.j1 : Nat → Int → Int → List Int → Option (ByteArray × Int)
 | 0, _, _, _ => none
 | k + 1, x0, x1, x9 => if 0 ≤ (wrap64 ((x9.length : Int) - x1)) then (if (wrap64 ((x9.length : Int) - x1)) ≤ (x9.length : Int) then ((some (x9.take ((wrap64 ((x9.length : Int) - x1)) : Int).toNat : List Int)).bind fun y294 => (if x1 > 0 then ((some (x9.drop ((wrap64 ((x9.length : Int) - x1)) : Int).toNat : List Int)).bind fun y298 => (if 1 + (strOfNums y298).size ≤ 9223372036854775807 then (if (strOfNums y294).size + ((⟨#[46]⟩ : ByteArray) ++ (strOfNums y298)).size ≤ 9223372036854775807 then ((f64_Split.f k x0).bind fun bt302 => (if bt302.1 = true then (if 1 + ((strOfNums y294) ++ ((⟨#[46]⟩ : ByteArray) ++ (strOfNums y298))).size ≤ 9223372036854775807 then (some ((⟨#[45]⟩ : ByteArray) ++ ((strOfNums y294) ++ ((⟨#[46]⟩ : ByteArray) ++ (strOfNums y298))), 0)) else (none)) else (some ((strOfNums y294) ++ ((⟨#[46]⟩ : ByteArray) ++ (strOfNums y298)), 0)))) else (none)) else (none))) else ((f64_Split.f k x0).bind fun bt306 => (if bt306.1 = true then (if 1 + (strOfNums y294).size ≤ 9223372036854775807 then (some ((⟨#[45]⟩ : ByteArray) ++ (strOfNums y294), 0)) else (none)) else (some (strOfNums y294, 0)))))) else (none)) else (none)
end
def expand_Fixed.f (k : Nat) (a0 : Int) (a1 : Int) : Option (ByteArray × Int) := if a1 < 0 then (expand_Fixed.j0 k a0 a1 true) else (expand_Fixed.j0 k a0 a1 (decide (a1 > 1100)))
theorem expand_Fixed.mono_l : ∀ k, (∀ y0 y1 y2, LeO (expand_Fixed.j0 k y0 y1 y2) (expand_Fixed.j0 (k + 1) y0 y1 y2)) ∧ (∀ y0 y1 y2, LeO (expand_Fixed.j1 k y0 y1 y2) (expand_Fixed.j1 (k + 1) y0 y1 y2))
 | 0 => ⟨fun _ _ _ r h => by simp [expand_Fixed.j0] at h, fun _ _ _ r h => by simp [expand_Fixed.j1] at h⟩
 | k + 1 => by
  obtain ⟨ih0, ih1⟩ := expand_Fixed.mono_l k
  refine ⟨?_, ?_⟩
  ·intro y0 y1 y2
   unfold expand_Fixed.j0
   have m0_ := expand_all.mono
   have m1_ := expand_cut.mono
   have m2_ := f64_Split.mono
   exact mX
  ·intro y0 y1 y2
   unfold expand_Fixed.j1
   have m0_ := expand_all.mono
   have m1_ := expand_cut.mono
   have m2_ := f64_Split.mono
   exact mX
theorem expand_Fixed.mono : ∀ a0 a1 k, LeO (expand_Fixed.f k a0 a1) (expand_Fixed.f (k + 1) a0 a1) := by
 intro a0 a1 k
 obtain ⟨ih0, ih1⟩ := expand_Fixed.mono_l k
 unfold expand_Fixed.f
 have m0_ := expand_all.mono
 have m1_ := expand_cut.mono
 have m2_ := f64_Split.mono
 exact mX
set_option maxHeartbeats 8000000 in
set_option maxRecDepth 100000 in
theorem expand_Fixed.calls (k : Nat) (a0 : Int) (a1 : Int) (r1 : ByteArray) (r2 : Int) (w : World) (h : expand_Fixed.f k a0 a1 = some (r1, r2)) :
  Calls Tryd.prog 6 #[.int .u64 a0, .int .i64 a1] w fun e w' => e = .returned (.tuple #[.string r1, .int .i64 r2]) ∧ Below w.heap.size w w' := by
 have HB := aM (Below.refl w.heap.size w)
 have H := h
 clear h
 unfold expand_Fixed.f at H
 have HC3 := aM H
 clear H
 go_enter Tryd.func6, Tryd.ntmps6
 go_upto_region 1 with (fail)
 go_cut [20] (fun v20 wc => ∃ (kq : Nat) (x20_2 : Bool), v20 = .bool x20_2 ∧ Aside0 (expand_Fixed.j0 kq a0 a1 x20_2 = some (r1, r2)) ∧ Aside0 (kq ≤ k) ∧ Aside0 (Below w.heap.size w wc))
 case first =>
  have H := HC3.out
  clear HC3
  by_cases c4 : a1 < 0
  ·rw [if_pos c4] at H
   have c4b0 := decide_eq_true c4
   clear c4
   (first | rw [c4b0] | (simp only [i64_w, i32_w]; rw [c4b0]) | skip)
   have H' := aM H
   clear H
   go_wp2
   go_meet
   case rel => exact ⟨_, (true), dF, H', ⟨dN⟩, ⟨dB⟩⟩
  ·rw [if_neg c4] at H
   have c4b0 := decide_eq_false c4
   clear c4
   (first | rw [c4b0] | (simp only [i64_w, i32_w]; rw [c4b0]) | skip)
   have H' := aM H
   clear H
   go_wp2
   go_meet
   case rel => exact ⟨_, (decide (a1 > 1100)), dF, H', ⟨dN⟩, ⟨dB⟩⟩
 case rest =>
  clear HC3
  obtain ⟨kq, x20_2, rfl, HA, HJ2, HB⟩ := hcut
  cases kq with
  | zero => exact absurd HA.out (by simp [expand_Fixed.j0])
  | succ kj2 =>
   have H := HA.out
   clear HA
   simp only [expand_Fixed.j0] at H
   by_cases c5 : x20_2 = true
   ·subst c5
    rw [if_pos rfl] at H
    (try dsimp only at H)
    simp only [Option.some.injEq, Prod.mk.injEq] at H
    obtain ⟨rfl, rfl⟩ := H
    go_wp2
    go_ret2
    exact ⟨dE, dB⟩
   ·replace c5 := Bool.eq_false_iff.mpr c5
    subst c5
    rw [if_neg (show ¬ (false = true) by decide)] at H
    (try dsimp only at H)
    replace H := oA H
    obtain ⟨⟨t277, t278, t279⟩, A6, H⟩ := H
    (try dsimp only at H)
    by_cases c7 : t279 = 0
    ·rw [if_pos c7] at H
     obtain ⟨c7b0, c7b1⟩ := bT c7
     clear c7
     replace H := oA H
     obtain ⟨t282, A8, H⟩ := H
     (try dsimp only at H)
     have HC9 := aM H
     clear H
     go_upto_if 42 with (first | ((with_reducible refine gate_callee (f := 16) rfl ?_); refine gL (some 23) Tryd.func16 #[.int .u64 a0] ?_; (with_reducible refine (expand_all.calls kj2 a0 t277 t278 t279 _ A6.out).mono ?_); rintro e w10 ⟨v280, rfl, ho0, hb⟩; refine ⟨_, rfl, ?_⟩; have HO281 := aM (Kd.R_lower ho0 (below_size dB)); replace HB := hS HB.out hb; (try clear hb); (try clear ho0); obtain ⟨Ao11, co11, rfl⟩ := Kd.R_slice HO281.out) | ((with_reducible refine gate_callee (f := 17) rfl ?_); refine gL (some 37) Tryd.func17 #[.slice Ao11 t277.length co11, .int .i64 (wrap64 ((wrap64 ((t277.length : Int) + t278)) + a1))] ?_; (with_reducible refine (expand_cut.calls kj2 _ _ t277 (wrap64 ((wrap64 ((t277.length : Int) + t278)) + a1)) t282 _ ?side1 (Kd.R_reads' HO281.out).2.1 A8.out).mono ?_); (case side1 => exact dC (Kd.R_reads' HO281.out).2.2); rintro e w12 ⟨v283, rfl, ho0, hb⟩; refine ⟨_, rfl, ?_⟩; have HO284 := aM (Kd.Q_lower (Kd.Q_new' ho0 (Kd.R_lt (dR HO281.out))) (below_size dB)); replace HO281 := aM (Kd.R_elder' (dR HO281.out) (Kd.Q_base ho0) hb); replace HB := hS HB.out hb; (try clear hb); (try clear ho0); obtain ⟨Ao13, co13, eo13, _⟩ := Kd.Q_slice HO284.out; subst eo13))
     (try simp only [Act.put, List.setIfInBounds_toArray, List.set_cons_zero, List.set_cons_succ])
     go_cut [9] (fun v9 wc => ∃ (kq : Nat) (x9_8 : List Int), Aside0 (expand_Fixed.j1 kq a0 a1 x9_8 = some (r1, r2)) ∧ Aside0 (kq ≤ kj2) ∧ Aside0 (Kd.Q (Kd.int .u8) 5 wc w.heap.size (fun _ => True) v9 x9_8) ∧ Aside0 (Below w.heap.size w wc))
     case first =>
      have H := HC9.out
      clear HC9
      by_cases c14 : (t282.length : Int) < (wrap64 (a1 + 1))
      ·rw [if_pos c14] at H
       have c14b0 := decide_eq_true c14
       clear c14
       (first | rw [c14b0] | (simp only [i64_w, i32_w]; rw [c14b0]) | skip)
       obtain ⟨y285, hy285⟩ : ∃ y_ : List Int, y_ = (([48] : List Int)) := ⟨_, rfl⟩
       replace H : ((bytes_Repeat.f y285 (wrap64 ((wrap64 (a1 + 1)) - (t282.length : Int)))).bind fun t288 => (if t288.length + t282.length < 140737488355328 then (expand_Fixed.j1 kj2 a0 a1 (t288 ++ t282)) else (none))) = some (r1, r2) := by first | (rw [hy285]; with_reducible exact H) | (have H2_ := (Option.bind_some _ _).symm.trans H; rw [hy285]; with_reducible exact H2_) | (have H2_ := (Option.bind_some _ _).symm.trans H; with_reducible exact H2_) | with_reducible exact H | (rw [hy285]; exact H) | exact H
       have Ny285 := aM hy285
       clear hy285
       replace H := oA H
       obtain ⟨t288, A15, H⟩ := H
       (try dsimp only at H)
       replace H := nO H
       obtain ⟨c16, H⟩ := H
       have LMc16 := aM c16
       clear c16
       obtain ⟨y291, hy291⟩ : ∃ y_ : List Int, y_ = (t288 ++ t282) := ⟨_, rfl⟩
       replace H : (expand_Fixed.j1 kj2 a0 a1 y291) = some (r1, r2) := by first | (rw [hy291]; with_reducible exact H) | (have H2_ := (Option.bind_some _ _).symm.trans H; rw [hy291]; with_reducible exact H2_) | (have H2_ := (Option.bind_some _ _).symm.trans H; with_reducible exact H2_) | with_reducible exact H | (rw [hy291]; exact H) | exact H
       have Ny291 := aM hy291
       clear hy291
       have H' := aM H
       clear H
       go_wp2_with (first | ((with_reducible refine gate_dst (N := 43) rfl ?_); refine Kd.R_lit (Kd.int .u8) _ 5 ?hg (N := 43) ?hd (xs := ([48] : List Int)) (inner := [.int .u8 48]) (ok := fun _ => True) (okp := fun _ => True) ?hr ?hp (fun _ hk => hk) trivial (Below.refl _ _) (Nat.le_refl _) (by simp) ?_; (case hd => rfl); (case hg => rfl); (case hr => first | (go_simp; done) | (go_simp; rfl)); (case hp => exact (Reps.one (show Kd.M (Kd.int .u8) _ _ _ 48 [.int .u8 48] from rfl) (Reps.none _ _))); intro v286 w17 ho18 hb hg_ hnew_; clear hg_ hnew_; (first | rw [← Ny285.out] at ho18 | (simp only [Int.reduceToNat] at ho18; rw [← Ny285.out] at ho18)); have HO287 := aM (Kd.R_lower (Kd.R_new' (nW ho18 HO281.out) (Kd.Q_lt (by (with_reducible repeat (first | apply Kd.Q_alloc | apply Kd.Q_drewN | apply Kd.Q_drew)); exact HO284.out))) (below_size dB)); replace HO281 := oE HO281.out ho18 hb; replace HO284 := aM (Kd.Q_elder' (by (with_reducible repeat (first | apply Kd.Q_alloc | apply Kd.Q_drewN | apply Kd.Q_drew)); exact HO284.out) (Kd.R_base ho18) hb); replace HB := hS HB.out hb; clear hb ho18; obtain ⟨Ao19, co19, rfl⟩ := Kd.R_slice HO287.out) | ((with_reducible refine gate_callee (f := 18) rfl ?_); refine gL (some 49) Tryd.func18 #[.slice Ao19 y285.length co19, .int .i64 (wrap64 ((wrap64 (a1 + 1)) - (t282.length : Int)))] ?_; (with_reducible refine (bytes_Repeat.calls _ _ y285 (wrap64 ((wrap64 (a1 + 1)) - (t282.length : Int))) t288 _ ?side1 (Kd.R_reads' HO287.out).2.1 A15.out).mono ?_); (case side1 => exact dC (Kd.R_reads' HO287.out).2.2); rintro e w20 ⟨v289, rfl, ho0, hb⟩; refine ⟨_, rfl, ?_⟩; have HO290 := aM (Kd.R_lower (Kd.R_new' (Kd.R_new' (nW ho0 HO281.out) (Kd.Q_lt (by (with_reducible repeat (first | apply Kd.Q_alloc | apply Kd.Q_drewN | apply Kd.Q_drew)); exact HO284.out))) (Kd.R_lt (dR HO287.out))) (below_size dB)); replace HO281 := oE HO281.out ho0 hb; replace HO284 := aM (Kd.Q_elder' (by (with_reducible repeat (first | apply Kd.Q_alloc | apply Kd.Q_drewN | apply Kd.Q_drew)); exact HO284.out) (Kd.R_base ho0) hb); replace HO287 := oE HO287.out ho0 hb; replace HB := hS HB.out hb; (try clear hb); (try clear ho0)) | ((with_reducible refine gate_builtin (b := .append) (xs := #[.tmp 49, .tmp 50]) rfl ?_); at_builtin; refine Kd.R_append_rows (Kd.int .u8) (w0 := w) w.heap.size rfl (.tmp 49) (.tmp 50) 45 5 (.int .u8 0) 1 rfl Tryd.underlying45 info5 rfl (by decide) (by omega) v289 t288 t282 _ _ _ (fun k_ => oN Ao11 t277 co11 k_ ∧ oN Ao13 t282 co13 k_ ∧ oN Ao19 y285 co19 k_) (fun _ => False) rfl rfl ?aO ?aR (fun _ _ h => h) (fun _ h => h.elim) ?aF ?aB ?aS ?aL ?_; (case aR => repeat (first | exact (Kd.Q_reads' HO284.out).2.2 | (with_reducible refine Kd.C_alloc ?_ _) | (with_reducible refine Kd.C_drewN ?_ _) | (with_reducible refine Kd.C_drew ?_))); (case aB => exact dB); (case aF => exact (fun k_ hk => ⟨Kd.fresh' (Kd.R_lt (dR HO281.out)) k_ hk, Kd.fresh' (Kd.Q_lt (by (with_reducible repeat (first | apply Kd.Q_alloc | apply Kd.Q_drewN | apply Kd.Q_drew)); exact HO284.out)) k_ hk, Kd.fresh' (Kd.R_lt (dR HO287.out)) k_ hk⟩)); (case aO => exact (oS HO290.out)); (case aS => exact (below_size dB)); (case aL => have := LMc16.out; omega); intro v292 w21 ho hb hg hat; rw [← Ny291.out] at ho; replace HO281 := aM (Kd.R_after (ok := (fun k_ => oN Ao13 t282 co13 k_ ∧ oN Ao19 y285 co19 k_)) (oS HO281.out) hg hat); replace HO284 := aM (Kd.Q_after (ok := (fun k_ => oN Ao11 t277 co11 k_ ∧ oN Ao19 y285 co19 k_)) (by (with_reducible repeat (first | apply Kd.Q_alloc | apply Kd.Q_drewN | apply Kd.Q_drew)); exact Kd.Q_mono HO284.out (fun _ hk => ⟨⟨hk.1.1.2, hk.1.2⟩, hk.2⟩)) hg hat); replace HO287 := aM (Kd.R_after (ok := (fun k_ => oN Ao11 t277 co11 k_ ∧ oN Ao13 t282 co13 k_)) (oS HO287.out) hg hat); replace HB := aM (hb); have HO293 := aM (ho); clear HO290; clear ho hb hg hat))
       go_meet
       case rel => exact ⟨_, (y291), H', ⟨by have := HJ2.out; first | omega | exact Nat.le_refl _⟩, ⟨Kd.Q_of_R (oM HO293.out (fun _ hk => trivial))⟩, ⟨dB⟩⟩
      ·rw [if_neg c14] at H
       have c14b0 := decide_eq_false c14
       clear c14
       (first | rw [c14b0] | (simp only [i64_w, i32_w]; rw [c14b0]) | skip)
       have H' := aM H
       clear H
       go_wp2
       go_meet
       case rel => exact ⟨_, (t282), H', ⟨by have := HJ2.out; first | omega | exact Nat.le_refl _⟩, ⟨by (with_reducible repeat (first | apply Kd.Q_alloc | apply Kd.Q_drewN | apply Kd.Q_drew)); exact Kd.Q_mono HO284.out (fun _ hk => trivial)⟩, ⟨dB⟩⟩
     case rest =>
      clear HC9
      try clear c5
      try clear c7
      try clear c7b0 c7b1
      obtain ⟨kq, x9_8, HA, HJ8, HO_9, HB⟩ := hcut
      cases kq with
      | zero => exact absurd HA.out (by simp [expand_Fixed.j1])
      | succ kj8 =>
       have H := HA.out
       clear HA
       simp only [expand_Fixed.j1] at H
       obtain ⟨ji22, hji22⟩ : ∃ j_ : Int, (wrap64 ((x9_8.length : Int) - a1)) = j_ := ⟨_, rfl⟩
       first | rw [hji22] at H | simp only [hji22] at H
       have hji22w : (IntKind.i64.wrap ((x9_8.length : Int) - a1)) = ji22 := (i64_w _).trans hji22
       replace H := nO H
       obtain ⟨c23, H⟩ := H
       have c23b0 := eq_true c23
       have c23b1 : decide (0 ≤ (ji22)) = true := decide_eq_true c23
       clear c23
       replace H := nO H
       obtain ⟨c24, H⟩ := H
       have c24b0 := eq_true c24
       have c24b1 := decide_eq_true c24
       clear c24
       obtain ⟨y294, hy294⟩ : ∃ y_ : List Int, y_ = (x9_8.take ((ji22) : Int).toNat) := ⟨_, rfl⟩
       replace H : (if a1 > 0 then ((some (x9_8.drop ((ji22) : Int).toNat : List Int)).bind fun y298 => (if 1 + (strOfNums y298).size ≤ 9223372036854775807 then (if (strOfNums y294).size + ((⟨#[46]⟩ : ByteArray) ++ (strOfNums y298)).size ≤ 9223372036854775807 then ((f64_Split.f kj8 a0).bind fun bt302 => (if bt302.1 = true then (if 1 + ((strOfNums y294) ++ ((⟨#[46]⟩ : ByteArray) ++ (strOfNums y298))).size ≤ 9223372036854775807 then (some ((⟨#[45]⟩ : ByteArray) ++ ((strOfNums y294) ++ ((⟨#[46]⟩ : ByteArray) ++ (strOfNums y298))), 0)) else (none)) else (some ((strOfNums y294) ++ ((⟨#[46]⟩ : ByteArray) ++ (strOfNums y298)), 0)))) else (none)) else (none))) else ((f64_Split.f kj8 a0).bind fun bt306 => (if bt306.1 = true then (if 1 + (strOfNums y294).size ≤ 9223372036854775807 then (some ((⟨#[45]⟩ : ByteArray) ++ (strOfNums y294), 0)) else (none)) else (some (strOfNums y294, 0))))) = some (r1, r2) := by first | (rw [hy294]; with_reducible exact H) | (have H2_ := (Option.bind_some _ _).symm.trans H; rw [hy294]; with_reducible exact H2_) | (have H2_ := (Option.bind_some _ _).symm.trans H; with_reducible exact H2_) | with_reducible exact H | (rw [hy294]; exact H) | exact H
       have Ny294 := aM hy294
       clear hy294
       by_cases c25 : a1 > 0
       ·rw [if_pos c25] at H
        have c25b0 : decide (0 < a1) = true := decide_eq_true c25
        clear c25
        have c26b0 := eq_true (of_decide_eq_true dS : 0 ≤ (ji22))
        have c27b0 := eq_true (of_decide_eq_true dS : (ji22) ≤ (x9_8.length : Int))
        obtain ⟨y298, hy298⟩ : ∃ y_ : List Int, y_ = (x9_8.drop ((ji22) : Int).toNat) := ⟨_, rfl⟩
        replace H : (if 1 + (strOfNums y298).size ≤ 9223372036854775807 then (if (strOfNums y294).size + ((⟨#[46]⟩ : ByteArray) ++ (strOfNums y298)).size ≤ 9223372036854775807 then ((f64_Split.f kj8 a0).bind fun bt302 => (if bt302.1 = true then (if 1 + ((strOfNums y294) ++ ((⟨#[46]⟩ : ByteArray) ++ (strOfNums y298))).size ≤ 9223372036854775807 then (some ((⟨#[45]⟩ : ByteArray) ++ ((strOfNums y294) ++ ((⟨#[46]⟩ : ByteArray) ++ (strOfNums y298))), 0)) else (none)) else (some ((strOfNums y294) ++ ((⟨#[46]⟩ : ByteArray) ++ (strOfNums y298)), 0)))) else (none)) else (none)) = some (r1, r2) := by first | (rw [hy298]; with_reducible exact H) | (have H2_ := (Option.bind_some _ _).symm.trans H; rw [hy298]; with_reducible exact H2_) | (have H2_ := (Option.bind_some _ _).symm.trans H; with_reducible exact H2_) | with_reducible exact H | (rw [hy298]; exact H) | exact H
        have Ny298 := aM hy298
        clear hy298
        replace H := nO H
        obtain ⟨c28, H⟩ := H
        have c28b0 := eq_true c28
        have c28b1 := decide_eq_true c28
        try have c28b2 : (9223372036854775807 < 1 + (strOfNums y298).size) = False := eq_false (Nat.not_lt.2 c28)
        replace H := nO H
        obtain ⟨c29, H⟩ := H
        have c29b0 := eq_true c29
        have c29n_ : (9223372036854775807 < (strOfNums y294).size + (1 + (strOfNums y298).size)) = False := eq_false (by have e1_ := of_eq_true c29b0; (try simp only [ByteArray.size_append, ByteArray.size_extract] at e1_); have e3_ : (⟨#[46]⟩ : ByteArray).size = 1 := rfl; omega)
        have c29b1 := decide_eq_true c29
        try have c29b2 : (9223372036854775807 < (strOfNums y294).size + ((⟨#[46]⟩ : ByteArray) ++ (strOfNums y298)).size) = False := eq_false (Nat.not_lt.2 c29)
        replace H := oA H
        obtain ⟨⟨t302, t303, t304, t305⟩, A30, H⟩ := H
        (try dsimp only at H)
        by_cases c31 : t302 = true
        ·subst c31
         rw [if_pos rfl] at H
         (try dsimp only at H)
         replace H := nO H
         obtain ⟨c32, H⟩ := H
         have c32b0 := eq_true c32
         have c32n_ : (9223372036854775807 < 1 + ((strOfNums y294).size + (1 + (strOfNums y298).size))) = False := eq_false (by have e1_ := of_eq_true c32b0; (try simp only [ByteArray.size_append, ByteArray.size_extract] at e1_); have e3_ : (⟨#[46]⟩ : ByteArray).size = 1 := rfl; omega)
         have c32b1 := decide_eq_true c32
         try have c32b2 : (9223372036854775807 < 1 + ((strOfNums y294) ++ ((⟨#[46]⟩ : ByteArray) ++ (strOfNums y298))).size) = False := eq_false (Nat.not_lt.2 c32)
         simp only [Option.some.injEq, Prod.mk.injEq] at H
         obtain ⟨rfl, rfl⟩ := H
         obtain ⟨Ao33, co33, eo33, _⟩ := Kd.Q_slice HO_9.out
         subst eo33
         have q34 : ((ji22) : Int) ≤ ((x9_8.length : Int) : Int) := of_decide_eq_true dS
         obtain ⟨i034, hi034, _, hsz34, _⟩ := info_parts info5
         have hroom34 : x9_8.length ≤ co33 := (Kd.Q_reads' HO_9.out).2.1
         have hC34 : Kd.C (Kd.int .u8) _ Ao33 x9_8.length x9_8 := (Kd.Q_reads' HO_9.out).2.2
         have hcut34 := cut_to (P := Tryd.prog) 45 5 .i64 Tryd.underlying45 hi034 Ao33 x9_8.length co33 (ji22) (of_decide_eq_true dS) q34 hroom34
         have hr34 := Kd.C_take (m := ((ji22) : Int).toNat) hC34 (by omega)
         have hy34 : y294.length = ((ji22) : Int).toNat := (by rw [Ny294.out, List.length_take]; omega)
         rw [← Ny294.out] at hr34
         rw [← hy34] at hcut34
         have HR297 := aM hr34
         have HC297 := aM (show y294.length ≤ co33 from by omega)
         clear hr34 hC34 hroom34 hi034 hsz34
         have KY34 := aM hy34
         clear hy34
         have KL34 := aM (show ((ji22) : Int).toNat ≤ x9_8.length from by omega)
         replace q34 := eq_true q34
         have hcv35 := Kd.C_string (P := Tryd.prog) (A := Ao33) (c := co33) Tryd.underlying45 Tryd.underlying5 Tryd.underlying9 (by repeat (first | (with_reducible exact HR297.out) | (with_reducible refine Kd.C_alloc ?_ _) | (with_reducible refine Kd.C_drewN ?_ _) | (with_reducible refine Kd.C_drew ?_) | exact HR297.out))
         have q36 : ((ji22) : Int) ≤ ((x9_8.length : Int) : Int) := of_decide_eq_true dS
         obtain ⟨i036, hi036, _, hsz36, _⟩ := info_parts info5
         have hroom36 : x9_8.length ≤ co33 := (Kd.Q_reads' HO_9.out).2.1
         have hC36 : Kd.C (Kd.int .u8) _ Ao33 x9_8.length x9_8 := (Kd.Q_reads' HO_9.out).2.2
         have q036 : (0 : Int) ≤ ((ji22) : Int) := of_decide_eq_true dS
         have hcut36 := cut_from (P := Tryd.prog) 45 5 .i64 Tryd.underlying45 hi036 1 hsz36 Ao33 x9_8.length co33 (ji22) q036 q36
         have hr36 := Kd.C_drop (m := ((ji22) : Int).toNat) (c := co33) hC36 (by omega) hroom36
         obtain ⟨A36, hA36⟩ : ∃ A1, A1 = (if co33 = ((ji22) : Int).toNat then Ao33 else (Ao33 : Option Addr).map (·.add (((ji22) : Int).toNat * 1))) := ⟨_, rfl⟩
         obtain ⟨c36, hc36⟩ : ∃ c1, c1 = co33 - ((ji22) : Int).toNat := ⟨_, rfl⟩
         have hy36 : y298.length = x9_8.length - ((ji22) : Int).toNat := (by rw [Ny298.out, List.length_drop] <;> omega)
         rw [show (x9_8).drop ((ji22) : Int).toNat = y298 from Ny298.out.symm] at hr36
         replace hr36 : Kd.C (Kd.int .u8) _ A36 y298.length y298 := (by rw [hA36]; exact hr36)
         rw [← hy36, ← hA36, ← hc36] at hcut36
         have HR301 := aM hr36
         have HC301 := aM (show y298.length ≤ c36 from by rw [hy36, hc36]; exact Nat.sub_le_sub_right hroom36 _)
         clear hr36 hC36 hroom36 hi036 hsz36 hc36
         have KY36 := aM hy36
         have KA36 := aM hA36
         clear hy36 hA36
         have KL36 := aM (show ((ji22) : Int).toNat ≤ x9_8.length from by omega)
         replace q36 := eq_true q36
         have hcv37 := Kd.C_string (P := Tryd.prog) (A := A36) (c := c36) Tryd.underlying45 Tryd.underlying5 Tryd.underlying9 (by repeat (first | (with_reducible exact HR301.out) | (with_reducible refine Kd.C_alloc ?_ _) | (with_reducible refine Kd.C_drewN ?_ _) | (with_reducible refine Kd.C_drew ?_) | exact HR301.out))
         go_wp2_with (first | ((with_reducible refine gate_callee (f := 19) rfl ?_); refine gL (some 73) Tryd.func19 #[.int .u64 a0] ?_; (with_reducible refine (f64_Split.calls kj8 a0 true t303 t304 t305 _ A30.out).mono ?_); rintro e w' ⟨rfl, ⟨nd, rfl⟩⟩; refine ⟨_, rfl, ?_⟩))
         go_ret2
         exact ⟨by first | rfl | (simp [errW_none, errW_some] <;> rfl) | (simp only [← hji22]; first | rfl | (simp [errW_none, errW_some] <;> rfl)) | (simp [*, errW_none, errW_some] <;> rfl), dB⟩
        ·replace c31 := Bool.eq_false_iff.mpr c31
         subst c31
         rw [if_neg (show ¬ (false = true) by decide)] at H
         (try dsimp only at H)
         simp only [Option.some.injEq, Prod.mk.injEq] at H
         obtain ⟨rfl, rfl⟩ := H
         obtain ⟨Ao38, co38, eo38, _⟩ := Kd.Q_slice HO_9.out
         subst eo38
         have q39 : ((ji22) : Int) ≤ ((x9_8.length : Int) : Int) := of_decide_eq_true dS
         obtain ⟨i039, hi039, _, hsz39, _⟩ := info_parts info5
         have hroom39 : x9_8.length ≤ co38 := (Kd.Q_reads' HO_9.out).2.1
         have hC39 : Kd.C (Kd.int .u8) _ Ao38 x9_8.length x9_8 := (Kd.Q_reads' HO_9.out).2.2
         have hcut39 := cut_to (P := Tryd.prog) 45 5 .i64 Tryd.underlying45 hi039 Ao38 x9_8.length co38 (ji22) (of_decide_eq_true dS) q39 hroom39
         have hr39 := Kd.C_take (m := ((ji22) : Int).toNat) hC39 (by omega)
         have hy39 : y294.length = ((ji22) : Int).toNat := (by rw [Ny294.out, List.length_take]; omega)
         rw [← Ny294.out] at hr39
         rw [← hy39] at hcut39
         have HR297 := aM hr39
         have HC297 := aM (show y294.length ≤ co38 from by omega)
         clear hr39 hC39 hroom39 hi039 hsz39
         have KY39 := aM hy39
         clear hy39
         have KL39 := aM (show ((ji22) : Int).toNat ≤ x9_8.length from by omega)
         replace q39 := eq_true q39
         have hcv40 := Kd.C_string (P := Tryd.prog) (A := Ao38) (c := co38) Tryd.underlying45 Tryd.underlying5 Tryd.underlying9 (by repeat (first | (with_reducible exact HR297.out) | (with_reducible refine Kd.C_alloc ?_ _) | (with_reducible refine Kd.C_drewN ?_ _) | (with_reducible refine Kd.C_drew ?_) | exact HR297.out))
         have q41 : ((ji22) : Int) ≤ ((x9_8.length : Int) : Int) := of_decide_eq_true dS
         obtain ⟨i041, hi041, _, hsz41, _⟩ := info_parts info5
         have hroom41 : x9_8.length ≤ co38 := (Kd.Q_reads' HO_9.out).2.1
         have hC41 : Kd.C (Kd.int .u8) _ Ao38 x9_8.length x9_8 := (Kd.Q_reads' HO_9.out).2.2
         have q041 : (0 : Int) ≤ ((ji22) : Int) := of_decide_eq_true dS
         have hcut41 := cut_from (P := Tryd.prog) 45 5 .i64 Tryd.underlying45 hi041 1 hsz41 Ao38 x9_8.length co38 (ji22) q041 q41
         have hr41 := Kd.C_drop (m := ((ji22) : Int).toNat) (c := co38) hC41 (by omega) hroom41
         obtain ⟨A41, hA41⟩ : ∃ A1, A1 = (if co38 = ((ji22) : Int).toNat then Ao38 else (Ao38 : Option Addr).map (·.add (((ji22) : Int).toNat * 1))) := ⟨_, rfl⟩
         obtain ⟨c41, hc41⟩ : ∃ c1, c1 = co38 - ((ji22) : Int).toNat := ⟨_, rfl⟩
         have hy41 : y298.length = x9_8.length - ((ji22) : Int).toNat := (by rw [Ny298.out, List.length_drop] <;> omega)
         rw [show (x9_8).drop ((ji22) : Int).toNat = y298 from Ny298.out.symm] at hr41
         replace hr41 : Kd.C (Kd.int .u8) _ A41 y298.length y298 := (by rw [hA41]; exact hr41)
         rw [← hy41, ← hA41, ← hc41] at hcut41
         have HR301 := aM hr41
         have HC301 := aM (show y298.length ≤ c41 from by rw [hy41, hc41]; exact Nat.sub_le_sub_right hroom41 _)
         clear hr41 hC41 hroom41 hi041 hsz41 hc41
         have KY41 := aM hy41
         have KA41 := aM hA41
         clear hy41 hA41
         have KL41 := aM (show ((ji22) : Int).toNat ≤ x9_8.length from by omega)
         replace q41 := eq_true q41
         have hcv42 := Kd.C_string (P := Tryd.prog) (A := A41) (c := c41) Tryd.underlying45 Tryd.underlying5 Tryd.underlying9 (by repeat (first | (with_reducible exact HR301.out) | (with_reducible refine Kd.C_alloc ?_ _) | (with_reducible refine Kd.C_drewN ?_ _) | (with_reducible refine Kd.C_drew ?_) | exact HR301.out))
         go_wp2_with (first | ((with_reducible refine gate_callee (f := 19) rfl ?_); refine gL (some 73) Tryd.func19 #[.int .u64 a0] ?_; (with_reducible refine (f64_Split.calls kj8 a0 false t303 t304 t305 _ A30.out).mono ?_); rintro e w' ⟨rfl, ⟨nd, rfl⟩⟩; refine ⟨_, rfl, ?_⟩))
         go_ret2
         exact ⟨by first | rfl | (simp [errW_none, errW_some] <;> rfl) | (simp only [← hji22]; first | rfl | (simp [errW_none, errW_some] <;> rfl)) | (simp [*, errW_none, errW_some] <;> rfl), dB⟩
       ·rw [if_neg c25] at H
        have c25b0 : decide (0 < a1) = false := decide_eq_false c25
        clear c25
        replace H := oA H
        obtain ⟨⟨t306, t307, t308, t309⟩, A43, H⟩ := H
        (try dsimp only at H)
        by_cases c44 : t306 = true
        ·subst c44
         rw [if_pos rfl] at H
         (try dsimp only at H)
         replace H := nO H
         obtain ⟨c45, H⟩ := H
         have c45b0 := eq_true c45
         have c45b1 := decide_eq_true c45
         try have c45b2 : (9223372036854775807 < 1 + (strOfNums y294).size) = False := eq_false (Nat.not_lt.2 c45)
         simp only [Option.some.injEq, Prod.mk.injEq] at H
         obtain ⟨rfl, rfl⟩ := H
         obtain ⟨Ao46, co46, eo46, _⟩ := Kd.Q_slice HO_9.out
         subst eo46
         have q47 : ((ji22) : Int) ≤ ((x9_8.length : Int) : Int) := of_decide_eq_true dS
         obtain ⟨i047, hi047, _, hsz47, _⟩ := info_parts info5
         have hroom47 : x9_8.length ≤ co46 := (Kd.Q_reads' HO_9.out).2.1
         have hC47 : Kd.C (Kd.int .u8) _ Ao46 x9_8.length x9_8 := (Kd.Q_reads' HO_9.out).2.2
         have hcut47 := cut_to (P := Tryd.prog) 45 5 .i64 Tryd.underlying45 hi047 Ao46 x9_8.length co46 (ji22) (of_decide_eq_true dS) q47 hroom47
         have hr47 := Kd.C_take (m := ((ji22) : Int).toNat) hC47 (by omega)
         have hy47 : y294.length = ((ji22) : Int).toNat := (by rw [Ny294.out, List.length_take]; omega)
         rw [← Ny294.out] at hr47
         rw [← hy47] at hcut47
         have HR297 := aM hr47
         have HC297 := aM (show y294.length ≤ co46 from by omega)
         clear hr47 hC47 hroom47 hi047 hsz47
         have KY47 := aM hy47
         clear hy47
         have KL47 := aM (show ((ji22) : Int).toNat ≤ x9_8.length from by omega)
         replace q47 := eq_true q47
         have hcv48 := Kd.C_string (P := Tryd.prog) (A := Ao46) (c := co46) Tryd.underlying45 Tryd.underlying5 Tryd.underlying9 (by repeat (first | (with_reducible exact HR297.out) | (with_reducible refine Kd.C_alloc ?_ _) | (with_reducible refine Kd.C_drewN ?_ _) | (with_reducible refine Kd.C_drew ?_) | exact HR297.out))
         go_wp2_with (first | ((with_reducible refine gate_callee (f := 19) rfl ?_); refine gL (some 73) Tryd.func19 #[.int .u64 a0] ?_; (with_reducible refine (f64_Split.calls kj8 a0 true t307 t308 t309 _ A43.out).mono ?_); rintro e w' ⟨rfl, ⟨nd, rfl⟩⟩; refine ⟨_, rfl, ?_⟩))
         go_ret2
         exact ⟨by first | rfl | (simp [errW_none, errW_some] <;> rfl) | (simp only [← hji22]; first | rfl | (simp [errW_none, errW_some] <;> rfl)) | (simp [*, errW_none, errW_some] <;> rfl), dB⟩
        ·replace c44 := Bool.eq_false_iff.mpr c44
         subst c44
         rw [if_neg (show ¬ (false = true) by decide)] at H
         (try dsimp only at H)
         simp only [Option.some.injEq, Prod.mk.injEq] at H
         obtain ⟨rfl, rfl⟩ := H
         obtain ⟨Ao49, co49, eo49, _⟩ := Kd.Q_slice HO_9.out
         subst eo49
         have q50 : ((ji22) : Int) ≤ ((x9_8.length : Int) : Int) := of_decide_eq_true dS
         obtain ⟨i050, hi050, _, hsz50, _⟩ := info_parts info5
         have hroom50 : x9_8.length ≤ co49 := (Kd.Q_reads' HO_9.out).2.1
         have hC50 : Kd.C (Kd.int .u8) _ Ao49 x9_8.length x9_8 := (Kd.Q_reads' HO_9.out).2.2
         have hcut50 := cut_to (P := Tryd.prog) 45 5 .i64 Tryd.underlying45 hi050 Ao49 x9_8.length co49 (ji22) (of_decide_eq_true dS) q50 hroom50
         have hr50 := Kd.C_take (m := ((ji22) : Int).toNat) hC50 (by omega)
         have hy50 : y294.length = ((ji22) : Int).toNat := (by rw [Ny294.out, List.length_take]; omega)
         rw [← Ny294.out] at hr50
         rw [← hy50] at hcut50
         have HR297 := aM hr50
         have HC297 := aM (show y294.length ≤ co49 from by omega)
         clear hr50 hC50 hroom50 hi050 hsz50
         have KY50 := aM hy50
         clear hy50
         have KL50 := aM (show ((ji22) : Int).toNat ≤ x9_8.length from by omega)
         replace q50 := eq_true q50
         have hcv51 := Kd.C_string (P := Tryd.prog) (A := Ao49) (c := co49) Tryd.underlying45 Tryd.underlying5 Tryd.underlying9 (by repeat (first | (with_reducible exact HR297.out) | (with_reducible refine Kd.C_alloc ?_ _) | (with_reducible refine Kd.C_drewN ?_ _) | (with_reducible refine Kd.C_drew ?_) | exact HR297.out))
         go_wp2_with (first | ((with_reducible refine gate_callee (f := 19) rfl ?_); refine gL (some 73) Tryd.func19 #[.int .u64 a0] ?_; (with_reducible refine (f64_Split.calls kj8 a0 false t307 t308 t309 _ A43.out).mono ?_); rintro e w' ⟨rfl, ⟨nd, rfl⟩⟩; refine ⟨_, rfl, ?_⟩))
         go_ret2
         exact ⟨by first | rfl | (simp [errW_none, errW_some] <;> rfl) | (simp only [← hji22]; first | rfl | (simp [errW_none, errW_some] <;> rfl)) | (simp [*, errW_none, errW_some] <;> rfl), dB⟩
    ·rw [if_neg c7] at H
     obtain ⟨c7b0, c7b1⟩ := bF c7
     simp only [Option.some.injEq, Prod.mk.injEq] at H
     obtain ⟨rfl, rfl⟩ := H
     go_wp2_with (first | ((with_reducible refine gate_callee (f := 16) rfl ?_); refine gL (some 23) Tryd.func16 #[.int .u64 a0] ?_; (with_reducible refine (expand_all.calls kj2 a0 t277 t278 t279 _ A6.out).mono ?_); rintro e w52 ⟨v280, rfl, ho0, hb⟩; refine ⟨_, rfl, ?_⟩; have HO281 := aM (Kd.R_lower ho0 (below_size dB)); replace HB := hS HB.out hb; (try clear hb); (try clear ho0)))
     go_ret2
     exact ⟨dE, dB⟩
end Go.Proofs.YthjleohmlohgbaaDoor.PA
