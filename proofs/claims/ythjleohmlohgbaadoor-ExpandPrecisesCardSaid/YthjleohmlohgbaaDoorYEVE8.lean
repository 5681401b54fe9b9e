/- A part of the proof (8). -/
import Derived.Test.YthjleohmlohgbaaDoorYEVE2
import Derived.Test.YthjleohmlohgbaaDoorYEVE7
namespace Go.Proofs.YthjleohmlohgbaaDoor.PA
open Go.RowKit Go.Proofs.YthjleohmlohgbaaDoorW.PrintWords Go.Proofs.YthjleohmlohgbaaDoorW.PrintLast Go.Proofs.YthjleohmlohgbaaDoorW.PrintMore
attribute [local go_sem] max2_int min2_int max_two min_two max_three min_three max_four min_four
set_option linter.unusedVariables false
set_option linter.unusedSimpArgs false
def plumbref04_take.l0 : Nat → List Int → Int → Int → Int → Option (List Int × Int)
 | 0, _, _, _, _ => none
 | k + 1, x0, x1, x6, x7 => if x7 ≥ 0 then (if 0 ≤ x7 then (if x7 < (x0.length : Int) then (if x1 = 0 then (none) else (plumbref04_take.l0 k (x0.set (x7 : Int).toNat (IntKind.u64.wrap (Int.tdiv (Go.bits .or .u64 (IntKind.u64.wrap (x6 * 4294967296)) (rd x0 x7)) x1))) x1 (Int.tmod (Go.bits .or .u64 (IntKind.u64.wrap (x6 * 4294967296)) (rd x0 x7)) x1) (wrap64 (x7 - 1)))) else (none)) else (none)) else ((plumbref04_cut.f k x0).bind fun t377 => (some (t377, x6)))
def plumbref04_take.f (k : Nat) (l0 : List Int) (a1 : Int) : Option (List Int × Int) := plumbref04_take.l0 k l0 a1 0 (wrap64 ((l0.length : Int) - 1))
set_option maxHeartbeats 8000000 in
set_option maxRecDepth 100000 in
theorem plumbref04_take.calls (k : Nat) (P0_ : Nat → Prop) (u9000_ : Value) (l0 : List Int) (a1 : Int) (r1 : List Int) (r2 : Int) (w0 w : World) (hB : Below w0.heap.size w0 w) (ho0 : Kd.R (Kd.int .u64) 22 w w0.heap.size P0_ u9000_ l0) (h : plumbref04_take.f k l0 a1 = some (r1, r2)) :
  Calls Tryd.prog 69 #[u9000_, .int .u64 a1] w fun e w' => ∃ v0_ : Value, e = .returned (.tuple #[v0_, .int .u64 r2]) ∧ Kd.R (Kd.int .u64) 22 w' w0.heap.size (fun k_ => (P0_ k_ ∨ w.heap.size ≤ k_)) v0_ r1 ∧ Below w0.heap.size w0 w' ∧ Kept w w' (fun k_ => P0_ k_) := by
 have HO0 := aM (show Kd.R (Kd.int .u64) 22 w w0.heap.size (fun k_ => (P0_ k_ ∨ w.heap.size ≤ k_)) u9000_ l0 from Kd.R_mono ho0 (fun k_ hk => (.inl hk)))
 have HK := aM (Kept.refl w (fun k_ => P0_ k_))
 have HW0 := aM hB.size
 have HB := aM hB
 clear hB
 have H := h
 clear h
 unfold plumbref04_take.f at H
 have H' := aM H
 clear H
 obtain ⟨Ao3, co3, rfl⟩ := Kd.R_slice HO0.out
 go_enter Tryd.func69, Tryd.ntmps69
 go_wp2
 go_loopg [6, 7] k (fun kq v6 v7 w' => ∃ (x0_1 : List Int) (x6_1 : Int) (x7_1 : Int), v6 = .int .u64 x6_1 ∧ v7 = .int .i64 x7_1 ∧ Aside0 (plumbref04_take.l0 kq x0_1 a1 x6_1 x7_1 = some (r1, r2)) ∧ Aside0 (kq ≤ k) ∧ Aside0 (Kd.R (Kd.int .u64) 22 w' w0.heap.size (fun k_ => (P0_ k_ ∨ w.heap.size ≤ k_)) (.slice Ao3 l0.length co3) x0_1) ∧ Aside0 (Kept w w' (fun k_ => P0_ k_)) ∧ Aside0 (Below w0.heap.size w0 w'))
 case atStart => exact ⟨(l0), (0), (wrap64 ((l0.length : Int) - 1)), dF, dF, H', ⟨Nat.le_refl _⟩, ⟨dR HO0.out⟩, ⟨by repeat (first | (with_reducible first | exact HK.out | apply Kept.alloc | apply Kept.drewN | apply Kept.drew) | exact HK.out)⟩, ⟨dB⟩⟩
 case round =>
  clear H'
  obtain ⟨x0_1, x6_1, x7_1, rfl, rfl, HA, HK1, HO_0, HK, HB⟩ := hrel
  have hl0_1 := (Kd.R_reads' HO_0.out).1
  rw [hl0_1] at HO_0
  (try simp only [hl0_1])
  cases gk with
  | zero => exact absurd HA.out (by simp [plumbref04_take.l0])
  | succ k1 =>
   have H := HA.out
   clear HA
   simp only [plumbref04_take.l0] at H
   by_cases c4 : x7_1 ≥ 0
   ·rw [if_pos c4] at H
    have c4b0 : decide (0 ≤ x7_1) = true := decide_eq_true c4
    clear c4
    replace H := nO H
    obtain ⟨c5, H⟩ := H
    have c5b0 : decide (0 ≤ x7_1) = true := decide_eq_true c5
    clear c5
    replace H := nO H
    obtain ⟨c6, H⟩ := H
    have c6b0 := decide_eq_true c6
    clear c6
    replace H := nQ H
    obtain ⟨c7, H⟩ := H
    obtain ⟨c7b0, c7b1⟩ := bF c7
    obtain ⟨y376, hy376⟩ : ∃ y_ : List Int, y_ = (x0_1.set (x7_1 : Int).toNat (IntKind.u64.wrap (Int.tdiv (Go.bits .or .u64 (IntKind.u64.wrap (x6_1 * 4294967296)) (rd x0_1 x7_1)) a1))) := ⟨_, rfl⟩
    replace H : (plumbref04_take.l0 k1 y376 a1 (Int.tmod (Go.bits .or .u64 (IntKind.u64.wrap (x6_1 * 4294967296)) (rd x0_1 x7_1)) a1) (wrap64 (x7_1 - 1))) = some (r1, r2) := by first | (rw [hy376]; with_reducible exact H) | (have H2_ := (Option.bind_some _ _).symm.trans H; rw [hy376]; with_reducible exact H2_) | (have H2_ := (Option.bind_some _ _).symm.trans H; with_reducible exact H2_) | with_reducible exact H | (rw [hy376]; exact H) | exact H
    have Ny376 := aM hy376
    clear hy376
    have H' := aM H
    clear H
    have p375 : 0 ≤ (x7_1 : Int) := of_decide_eq_true dS
    have q375 : x7_1 < (x0_1.length : Int) := of_decide_eq_true dS
    obtain ⟨ad375, e375, hx375_0⟩ := Kd.at_int (Kd.R_reads' HO_0.out).2.2 x7_1 p375 q375
    cases e375
    replace p375 := eq_true p375
    replace q375 := eq_true q375
    have p8 : 0 ≤ (x7_1 : Int) := of_decide_eq_true dS
    have q8 : (x7_1 : Int) < ((x0_1.length : Int) : Int) := of_decide_eq_true dS
    obtain ⟨go8, co8, eo8, gb8, gl8, cl8, HG8⟩ := Kd.R_form HO_0.out (by omega)
    (first | cases eo8 | (injection eo8 with ea_ en_ ec_; (first | subst ea_ | (injection ea_ with ea_; subst ea_)); subst ec_; clear en_))
    have GB8 := aM gb8
    have GG8 := aM HG8
    clear gb8 gl8 HG8
    have HMgo8 := aM (show (P0_ go8 ∨ w.heap.size ≤ go8) from (HO_0.out.1 _ rfl))
    (first | simp only [add_plain] at hx375_0 | skip)
    obtain ⟨hx8_0, hf8_0⟩ := Kd.R_celln 0 HO_0.out (x7_1 : Int) p8 q8
    replace p8 := eq_true p8
    replace q8 := eq_true q8
    have HP9 := Kd.R_putg HO_0.out (x7_1 : Int) (IntKind.u64.wrap (Int.tdiv (Go.bits .or .u64 (IntKind.u64.wrap (x6_1 * 4294967296)) (rd x0_1 x7_1)) a1))
    go_wp2_with (first | ((with_reducible refine gate_store (t := 22) (p := 28) rfl ?_); refine store_event (t := 22) (p := 28) (v := ?vo_w10) (w1 := (wr.setCell ⟨go8, (x7_1 : Int).toNat, none⟩ (.int .u64 (IntKind.u64.wrap (Int.tdiv (Go.bits .or .u64 (IntKind.u64.wrap (x6_1 * 4294967296)) (rd x0_1 x7_1)) a1))))) ?hg ?ho ?hn ?hr ?_; (case ho => rfl); (case hg => rfl); (case hn => rfl); (case hr => first | (go_simp; done) | (go_simp; rfl)); intro w10 hw; have hg : wr.grownBy w10 (some go8) := (by rw [hw]; exact HP9.2); have hp_ : Kd.R (Kd.int .u64) 22 w10 w0.heap.size (fun k_ => (P0_ k_ ∨ w.heap.size ≤ k_)) (.slice (some ⟨go8, 0, none⟩) x0_1.length co3) y376 := (by rw [hw, Ny376.out]; exact HP9.1); clear HP9; replace HB := aM ((by rw [hw]; exact below_set (HB.out) GB8.out : Below w0.heap.size w0 w10)); replace HK := aM (Kept.of_grown (S := (fun k_ => P0_ k_)) hg (by repeat (first | (with_reducible first | exact HK.out | apply Kept.alloc | apply Kept.drewN | apply Kept.drew) | exact HK.out)) (fun k_ e_ => (HO_0.out.1 k_ e_))); replace HO_0 := aM (hp_); clear hg hw hp_))
    (try simp only [← hl0_1])
    go_roundg k1
    case measure => have := HK1.out; omega
    case rel => exact ⟨(y376), (Int.tmod (Go.bits .or .u64 (IntKind.u64.wrap (x6_1 * 4294967296)) (rd x0_1 x7_1)) a1), (wrap64 (x7_1 - 1)), dF, dF, H', ⟨by have := HK1.out; omega⟩, ⟨by (try simp only [hl0_1]); (with_reducible repeat (first | apply Kd.R_alloc | apply Kd.R_drewN | apply Kd.R_drew)); exact HO_0.out⟩, ⟨by repeat (first | (with_reducible first | exact HK.out | apply Kept.alloc | apply Kept.drewN | apply Kept.drew) | exact HK.out)⟩, ⟨dB⟩⟩
   ·rw [if_neg c4] at H
    have c4b0 : decide (0 ≤ x7_1) = false := decide_eq_false c4
    clear c4
    replace H := oA H
    obtain ⟨t377, A11, H⟩ := H
    (try dsimp only at H)
    simp only [Option.some.injEq, Prod.mk.injEq] at H
    obtain ⟨rfl, rfl⟩ := H
    go_wp2_with (first | ((with_reducible refine gate_callee (f := 82) rfl ?_); refine gL (some 33) Tryd.func82 #[.slice Ao3 x0_1.length co3] ?_; (with_reducible refine (plumbref04_cut.calls k1 (fun k_ => some k_ = (.slice Ao3 x0_1.length co3 : Value).ownBlock) (.slice Ao3 x0_1.length co3) x0_1 t377 w0 _ ?side1 ?side2 A11.out).mono ?_); (case side1 => repeat (first | (with_reducible first | exact HB.out | apply below_alloc | apply pw_below_drewN | apply below_drew1) | exact HB.out)); (case side2 => exact Kd.R_tight rfl HO_0.out); rintro e w12 ⟨v378, rfl, ho0, hb, hkp⟩; refine ⟨_, rfl, ?_⟩; have HO379 := aM (Kd.R_mono (ok' := fun k_ => (P0_ k_ ∨ w.heap.size ≤ k_)) ho0 (fun k_ hk_ => Or.elim hk_ (fun hs_ => (HO_0.out.1 k_ (hs_).symm)) (fun hn_ => (.inr (Nat.le_trans (by first | exact HK.out.1 | exact (show Kept w _ (fun k_ => P0_ k_) from by repeat (first | (with_reducible first | exact HK.out | apply Kept.alloc | apply Kept.drewN | apply Kept.drew) | exact HK.out)).1) hn_))))); replace HK := aM (Kept.then_ (S := (fun k_ => P0_ k_)) (by repeat (first | (with_reducible first | exact HK.out | apply Kept.alloc | apply Kept.drewN | apply Kept.drew) | exact HK.out)) hkp (fun k_ hs_ => (fun e_ => (HO_0.out.1 k_ e_.symm)) hs_)); replace HB := aM (hb); clear HO_0; (try clear hb); (try clear hkp); (try clear ho0)))
    go_ret2
    exact ⟨_, dE, dR HO379.out, dB, by repeat (first | (with_reducible first | exact HK.out | apply Kept.alloc | apply Kept.drewN | apply Kept.drew) | exact HK.out)⟩
def plumbref04_Trim.l0 : Nat → List Int → Int → Option (List Int × Int)
 | 0, _, _ => none
 | k + 1, x4, x5 => if (x4.length : Int) > 0 then ((some (([] : List Int) : List Int)).bind fun y383 => (if y383.length + x4.length < 17592186044416 then ((plumbref04_take.f k (y383 ++ x4) 10).bind fun bt389 => (if bt389.2 = 0 then (plumbref04_Trim.l0 k bt389.1 (wrap64 (x5 + 1))) else ((plumbref04_words.f k x4).bind fun t393 => (some (t393, x5))))) else (none))) else ((plumbref04_words.f k x4).bind fun t396 => (some (t396, x5)))
def plumbref04_Trim.f (k : Nat) (l0 : List Int) : Option (List Int × Int) := (plumbref04_limbs.f k l0).bind fun t380 => (plumbref04_Trim.l0 k t380 0)
set_option maxHeartbeats 8000000 in
set_option maxRecDepth 100000 in
theorem plumbref04_Trim.calls (k : Nat) (A0 : Option Addr) (c0 : Nat) (l0 : List Int) (r1 : List Int) (r2 : Int) (w : World) (hr0 : Kd.C (Kd.int .u64) w A0 l0.length l0) (hc0 : l0.length ≤ c0) (h : plumbref04_Trim.f k l0 = some (r1, r2)) :
  Calls Tryd.prog 47 #[.slice A0 l0.length c0] w fun e w' => ∃ v0_ : Value, e = .returned (.tuple #[v0_, .int .i64 r2]) ∧ Kd.R (Kd.int .u64) 22 w' w.heap.size (fun _ => True) v0_ r1 ∧ Below w.heap.size w w' := by
 have HR0 := aM hr0
 have HC0 := aM hc0
 clear hr0 hc0
 have HB := aM (Below.refl w.heap.size w)
 have H := h
 clear h
 unfold plumbref04_Trim.f at H
 replace H := oA H
 obtain ⟨t380, A2, H⟩ := H
 (try dsimp only at H)
 have H' := aM H
 clear H
 go_enter Tryd.func47, Tryd.ntmps47
 go_wp2_with (first | ((with_reducible refine gate_callee (f := 68) rfl ?_); refine gL (some 9) Tryd.func68 #[.slice A0 l0.length c0] ?_; (with_reducible refine (plumbref04_limbs.calls k _ _ l0 t380 _ ?side1 HC0.out A2.out).mono ?_); (case side1 => exact dC HR0.out); rintro e w3 ⟨v381, rfl, ho0, hb⟩; refine ⟨_, rfl, ?_⟩; have HO382 := aM (Kd.R_lower ho0 (below_size dB)); replace HB := hS HB.out hb; (try clear hb); (try clear ho0)))
 go_loopg [4, 5] k (fun kq v4 v5 w' => ∃ (x4_1 : List Int) (x5_1 : Int), v5 = .int .i64 x5_1 ∧ Aside0 (plumbref04_Trim.l0 kq x4_1 x5_1 = some (r1, r2)) ∧ Aside0 (kq ≤ k) ∧ Aside0 (Kd.R (Kd.int .u64) 22 w' w.heap.size (fun _ => True) v4 x4_1) ∧ Aside0 (Below w.heap.size w w'))
 case atStart => exact ⟨(t380), (0), dF, H', ⟨Nat.le_refl _⟩, ⟨dR HO382.out⟩, ⟨dB⟩⟩
 case round =>
  clear H'
  obtain ⟨x4_1, x5_1, rfl, HA, HK1, HO_4, HB⟩ := hrel
  cases gk with
  | zero => exact absurd HA.out (by simp [plumbref04_Trim.l0])
  | succ k1 =>
   have H := HA.out
   clear HA
   simp only [plumbref04_Trim.l0] at H
   by_cases c4 : (x4_1.length : Int) > 0
   ·rw [if_pos c4] at H
    have c4b0 : decide (0 < (x4_1.length : Int)) = true := decide_eq_true c4
    have c4b1 : decide (0 < x4_1.length) = true := decide_eq_true (by omega)
    clear c4
    obtain ⟨y383, hy383⟩ : ∃ y_ : List Int, y_ = (([] : List Int)) := ⟨_, rfl⟩
    replace H : (if y383.length + x4_1.length < 17592186044416 then ((plumbref04_take.f k1 (y383 ++ x4_1) 10).bind fun bt389 => (if bt389.2 = 0 then (plumbref04_Trim.l0 k1 bt389.1 (wrap64 (x5_1 + 1))) else ((plumbref04_words.f k1 x4_1).bind fun t393 => (some (t393, x5_1))))) else (none)) = some (r1, r2) := by first | (rw [hy383]; with_reducible exact H) | (have H2_ := (Option.bind_some _ _).symm.trans H; rw [hy383]; with_reducible exact H2_) | (have H2_ := (Option.bind_some _ _).symm.trans H; with_reducible exact H2_) | with_reducible exact H | (rw [hy383]; exact H) | exact H
    have Ny383 := aM hy383
    clear hy383
    replace H := nO H
    obtain ⟨c5, H⟩ := H
    have LMc5 := aM c5
    clear c5
    obtain ⟨y386, hy386⟩ : ∃ y_ : List Int, y_ = (y383 ++ x4_1) := ⟨_, rfl⟩
    replace H : ((plumbref04_take.f k1 y386 10).bind fun bt389 => (if bt389.2 = 0 then (plumbref04_Trim.l0 k1 bt389.1 (wrap64 (x5_1 + 1))) else ((plumbref04_words.f k1 x4_1).bind fun t393 => (some (t393, x5_1))))) = some (r1, r2) := by first | (rw [hy386]; with_reducible exact H) | (have H2_ := (Option.bind_some _ _).symm.trans H; rw [hy386]; with_reducible exact H2_) | (have H2_ := (Option.bind_some _ _).symm.trans H; with_reducible exact H2_) | with_reducible exact H | (rw [hy386]; exact H) | exact H
    have Ny386 := aM hy386
    clear hy386
    replace H := oA H
    obtain ⟨⟨t389, t392⟩, A6, H⟩ := H
    (try dsimp only at H)
    by_cases c7 : t392 = 0
    ·rw [if_pos c7] at H
     obtain ⟨c7b0, c7b1⟩ := bT c7
     clear c7
     have H' := aM H
     clear H
     obtain ⟨Ao8, co8, rfl⟩ := Kd.R_slice HO_4.out
     go_wp2_with (first | ((with_reducible refine gate_dst (N := 14) rfl ?_); refine Kd.R_lit (Kd.int .u64) _ 22 ?hg (N := 14) ?hd (xs := ([] : List Int)) (inner := []) (ok := fun _ => True) (okp := fun _ => True) ?hr ?hp (fun _ hk => hk) trivial (Below.refl _ _) (Nat.le_refl _) (by simp) ?_; (case hd => rfl); (case hg => rfl); (case hr => first | (go_simp; done) | (go_simp; rfl)); (case hp => exact (Reps.none _ _)); intro v384 w9 ho10 hb hg_ hnew_; clear hg_ hnew_; (first | rw [← Ny383.out] at ho10 | (simp only [Int.reduceToNat] at ho10; rw [← Ny383.out] at ho10)); have HO385 := aM (Kd.R_lower (nW ho10 HO_4.out) (below_size dB)); replace HO_4 := oE HO_4.out ho10 hb; replace HB := hS HB.out hb; clear hb ho10) | ((with_reducible refine gate_builtin (b := .append) (xs := #[.tmp 14, .tmp 15]) rfl ?_); at_builtin; refine Kd.R_append_rows (Kd.int .u64) (w0 := w) w.heap.size rfl (.tmp 14) (.tmp 15) 37 22 (.int .u64 0) 8 rfl Tryd.underlying37 info22 rfl (by decide) (by omega) v384 y383 x4_1 _ _ _ (fun k_ => oN Ao8 x4_1 co8 k_) (fun _ => False) rfl rfl ?aO ?aR (fun _ _ h => h) (fun _ h => h.elim) ?aF ?aB ?aS ?aL ?_; (case aR => repeat (first | exact (Kd.R_reads' HO_4.out).2.2 | (with_reducible refine Kd.C_alloc ?_ _) | (with_reducible refine Kd.C_drewN ?_ _) | (with_reducible refine Kd.C_drew ?_))); (case aB => exact dB); (case aF => exact (fun k_ hk => Kd.fresh' (Kd.R_lt (dR HO_4.out)) k_ hk)); (case aO => exact (oM HO385.out (fun _ hk => hk.2))); (case aS => exact (below_size dB)); (case aL => have := LMc5.out; omega); intro v387 w11 ho hb hg hat; rw [← Ny386.out] at ho; replace HO_4 := aM (Kd.R_after (ok := (fun _ => True)) (dR HO_4.out) hg hat); replace HB := aM (hb); have HO388 := aM (ho); clear HO385; clear ho hb hg hat; obtain ⟨Ao12, co12, rfl⟩ := Kd.R_slice HO388.out) | ((with_reducible refine gate_callee (f := 69) rfl ?_); refine gL (some 17) Tryd.func69 #[.slice Ao12 y386.length co12, .int .u64 10] ?_; (with_reducible refine (plumbref04_take.calls k1 (fun k_ => some k_ = (.slice Ao12 y386.length co12 : Value).ownBlock) (.slice Ao12 y386.length co12) y386 10 t389 t392 w _ ?side1 ?side2 A6.out).mono ?_); (case side1 => repeat (first | (with_reducible first | exact HB.out | apply below_alloc | apply pw_below_drewN | apply below_drew1) | exact HB.out)); (case side2 => exact Kd.R_tight rfl HO388.out); rintro e w13 ⟨v390, rfl, ho0, hb, hkp⟩; refine ⟨_, rfl, ?_⟩; have HO391 := aM (Kd.R_mono (ok' := fun k_ => oN Ao8 x4_1 co8 k_) ho0 (fun k_ hk_ => Or.elim hk_ (fun hs_ => fun e_ => (((HO_4.out).1 k_ e_.symm).2) hs_) (fun hn_ => (Kd.fresh' (Kd.R_lt (dR HO_4.out)) k_ hn_)))); replace HO_4 := aM (Kd.R_mono (ok' := fun k_ => some k_ ≠ (v390 : Value).ownBlock) (Kd.R_keptB (HO_4.out) hkp (fun k_ hk_ hs_ => (hk_.2) hs_)) (fun k_ hk_ => fun e_ => Or.elim (ho0.1 k_ e_.symm) (fun hs_ => hk_.2.1 hs_) (fun hn_ => Nat.not_le.2 hk_.2.2 hn_))); replace HB := aM (hb); clear HO388; (try clear hb); (try clear hkp); (try clear ho0)))
     go_roundg k1
     case measure => have := HK1.out; omega
     case rel => exact ⟨(t389), (wrap64 (x5_1 + 1)), dF, H', ⟨by have := HK1.out; omega⟩, ⟨oM HO391.out (fun _ hk => trivial)⟩, ⟨dB⟩⟩
    ·rw [if_neg c7] at H
     obtain ⟨c7b0, c7b1⟩ := bF c7
     replace H := oA H
     obtain ⟨t393, A14, H⟩ := H
     (try dsimp only at H)
     simp only [Option.some.injEq, Prod.mk.injEq] at H
     obtain ⟨rfl, rfl⟩ := H
     obtain ⟨Ao15, co15, rfl⟩ := Kd.R_slice HO_4.out
     go_wp2_with (first | ((with_reducible refine gate_dst (N := 14) rfl ?_); refine Kd.R_lit (Kd.int .u64) _ 22 ?hg (N := 14) ?hd (xs := ([] : List Int)) (inner := []) (ok := fun _ => True) (okp := fun _ => True) ?hr ?hp (fun _ hk => hk) trivial (Below.refl _ _) (Nat.le_refl _) (by simp) ?_; (case hd => rfl); (case hg => rfl); (case hr => first | (go_simp; done) | (go_simp; rfl)); (case hp => exact (Reps.none _ _)); intro v384 w16 ho17 hb hg_ hnew_; clear hg_ hnew_; (first | rw [← Ny383.out] at ho17 | (simp only [Int.reduceToNat] at ho17; rw [← Ny383.out] at ho17)); have HO385 := aM (Kd.R_lower (nW ho17 HO_4.out) (below_size dB)); replace HO_4 := oE HO_4.out ho17 hb; replace HB := hS HB.out hb; clear hb ho17) | ((with_reducible refine gate_builtin (b := .append) (xs := #[.tmp 14, .tmp 15]) rfl ?_); at_builtin; refine Kd.R_append_rows (Kd.int .u64) (w0 := w) w.heap.size rfl (.tmp 14) (.tmp 15) 37 22 (.int .u64 0) 8 rfl Tryd.underlying37 info22 rfl (by decide) (by omega) v384 y383 x4_1 _ _ _ (fun k_ => oN Ao15 x4_1 co15 k_) (fun _ => False) rfl rfl ?aO ?aR (fun _ _ h => h) (fun _ h => h.elim) ?aF ?aB ?aS ?aL ?_; (case aR => repeat (first | exact (Kd.R_reads' HO_4.out).2.2 | (with_reducible refine Kd.C_alloc ?_ _) | (with_reducible refine Kd.C_drewN ?_ _) | (with_reducible refine Kd.C_drew ?_))); (case aB => exact dB); (case aF => exact (fun k_ hk => Kd.fresh' (Kd.R_lt (dR HO_4.out)) k_ hk)); (case aO => exact (oM HO385.out (fun _ hk => hk.2))); (case aS => exact (below_size dB)); (case aL => have := LMc5.out; omega); intro v387 w18 ho hb hg hat; rw [← Ny386.out] at ho; replace HO_4 := aM (Kd.R_after (ok := (fun _ => True)) (dR HO_4.out) hg hat); replace HB := aM (hb); have HO388 := aM (ho); clear HO385; clear ho hb hg hat; obtain ⟨Ao19, co19, rfl⟩ := Kd.R_slice HO388.out) | ((with_reducible refine gate_callee (f := 69) rfl ?_); refine gL (some 17) Tryd.func69 #[.slice Ao19 y386.length co19, .int .u64 10] ?_; (with_reducible refine (plumbref04_take.calls k1 (fun k_ => some k_ = (.slice Ao19 y386.length co19 : Value).ownBlock) (.slice Ao19 y386.length co19) y386 10 t389 t392 w _ ?side1 ?side2 A6.out).mono ?_); (case side1 => repeat (first | (with_reducible first | exact HB.out | apply below_alloc | apply pw_below_drewN | apply below_drew1) | exact HB.out)); (case side2 => exact Kd.R_tight rfl HO388.out); rintro e w20 ⟨v390, rfl, ho0, hb, hkp⟩; refine ⟨_, rfl, ?_⟩; have HO391 := aM (Kd.R_mono (ok' := fun k_ => oN Ao15 x4_1 co15 k_) ho0 (fun k_ hk_ => Or.elim hk_ (fun hs_ => fun e_ => (((HO_4.out).1 k_ e_.symm).2) hs_) (fun hn_ => (Kd.fresh' (Kd.R_lt (dR HO_4.out)) k_ hn_)))); replace HO_4 := aM (Kd.R_mono (ok' := fun k_ => some k_ ≠ (v390 : Value).ownBlock) (Kd.R_keptB (HO_4.out) hkp (fun k_ hk_ hs_ => (hk_.2) hs_)) (fun k_ hk_ => fun e_ => Or.elim (ho0.1 k_ e_.symm) (fun hs_ => hk_.2.1 hs_) (fun hn_ => Nat.not_le.2 hk_.2.2 hn_))); replace HB := aM (hb); clear HO388; (try clear hb); (try clear hkp); (try clear ho0)) | ((with_reducible refine gate_callee (f := 67) rfl ?_); refine gL (some 26) Tryd.func67 #[.slice Ao15 x4_1.length co15] ?_; (with_reducible refine (plumbref04_words.calls k1 _ _ x4_1 t393 _ ?side1 (Kd.R_reads' HO_4.out).2.1 A14.out).mono ?_); (case side1 => exact dC (Kd.R_reads' HO_4.out).2.2); rintro e w21 ⟨v394, rfl, ho0, hb⟩; refine ⟨_, rfl, ?_⟩; have HO395 := aM (Kd.R_lower (nW (nW ho0 HO_4.out) HO391.out) (below_size dB)); replace HO_4 := oE HO_4.out ho0 hb; replace HO391 := oE HO391.out ho0 hb; replace HB := hS HB.out hb; (try clear hb); (try clear ho0)))
     go_ret2
     exact ⟨_, dE, oM HO395.out (fun _ hk => trivial), dB⟩
   ·rw [if_neg c4] at H
    have c4b0 : decide (0 < (x4_1.length : Int)) = false := decide_eq_false c4
    have c4b1 : decide (0 < x4_1.length) = false := decide_eq_false (by omega)
    clear c4
    replace H := oA H
    obtain ⟨t396, A22, H⟩ := H
    (try dsimp only at H)
    simp only [Option.some.injEq, Prod.mk.injEq] at H
    obtain ⟨rfl, rfl⟩ := H
    obtain ⟨Ao23, co23, rfl⟩ := Kd.R_slice HO_4.out
    go_wp2_with (first | ((with_reducible refine gate_callee (f := 67) rfl ?_); refine gL (some 26) Tryd.func67 #[.slice Ao23 x4_1.length co23] ?_; (with_reducible refine (plumbref04_words.calls k1 _ _ x4_1 t396 _ ?side1 (Kd.R_reads' HO_4.out).2.1 A22.out).mono ?_); (case side1 => exact dC (Kd.R_reads' HO_4.out).2.2); rintro e w24 ⟨v397, rfl, ho0, hb⟩; refine ⟨_, rfl, ?_⟩; have HO398 := aM (Kd.R_lower (nW ho0 HO_4.out) (below_size dB)); replace HO_4 := oE HO_4.out ho0 hb; replace HB := hS HB.out hb; (try clear hb); (try clear ho0)))
    go_ret2
    exact ⟨_, dE, oM HO398.out (fun _ hk => trivial), dB⟩
mutual
def plumbref03_Bits.l0 : Nat → List Int → Int → Option (Int)
 | 0, _, _ => none
 | k + 1, x0, x3 => if x3 ≥ 0 then (if 0 ≤ x3 then (if x3 < (x0.length : Int) then (if (rd x0 x3) > 0 then (plumbref03_Bits.l1 k (wrap64 (64 * x3)) (rd x0 x3)) else (plumbref03_Bits.l0 k x0 (wrap64 (x3 - 1)))) else (none)) else (none)) else (some 0)
def plumbref03_Bits.l1 : Nat → Int → Int → Option (Int)
 | 0, _, _ => none
 | k + 1, x4, x5 => if x5 > 0 then (plumbref03_Bits.l1 k (wrap64 (x4 + 1)) (x5 / 2)) else (some x4)
end
def plumbref03_Bits.f (k : Nat) (l0 : List Int) : Option (Int) := plumbref03_Bits.l0 k l0 (wrap64 ((l0.length : Int) - 1))
set_option maxHeartbeats 8000000 in
set_option maxRecDepth 100000 in
theorem plumbref03_Bits.calls (k : Nat) (A0 : Option Addr) (c0 : Nat) (l0 : List Int) (r : Int) (w : World) (hr0 : Kd.C (Kd.int .u64) w A0 l0.length l0) (hc0 : l0.length ≤ c0) (h : plumbref03_Bits.f k l0 = some r) :
  Calls Tryd.prog 83 #[.slice A0 l0.length c0] w fun e w' => e = .returned (.int .i64 r) ∧ Drawn0 w w' := by
 have HR0 := aM hr0
 have HC0 := aM hc0
 clear hr0 hc0
 have H := h
 clear h
 unfold plumbref03_Bits.f at H
 have H' := aM H
 clear H
 go_enter Tryd.func83, Tryd.ntmps83
 go_wp2
 go_loopg [3] k (fun kq v3 w' => ∃ (x3_1 : Int), v3 = .int .i64 x3_1 ∧ Aside0 (plumbref03_Bits.l0 kq l0 x3_1 = some r) ∧ Aside0 (kq ≤ k) ∧ Drawn0 w w')
 case atStart => exact ⟨(wrap64 ((l0.length : Int) - 1)), dF, H', ⟨Nat.le_refl _⟩, dD⟩
 case round =>
  clear H'
  obtain ⟨x3_1, rfl, HA, HK1, ⟨m1, rfl⟩⟩ := hrel
  cases gk with
  | zero => exact absurd HA.out (by simp [plumbref03_Bits.l0])
  | succ k1 =>
   have H := HA.out
   clear HA
   simp only [plumbref03_Bits.l0] at H
   by_cases c2 : x3_1 ≥ 0
   ·rw [if_pos c2] at H
    have c2b0 : decide (0 ≤ x3_1) = true := decide_eq_true c2
    clear c2
    replace H := nO H
    obtain ⟨c3, H⟩ := H
    have c3b0 : decide (0 ≤ x3_1) = true := decide_eq_true c3
    clear c3
    replace H := nO H
    obtain ⟨c4, H⟩ := H
    have c4b0 := decide_eq_true c4
    clear c4
    by_cases c5 : (rd l0 x3_1) > 0
    ·rw [if_pos c5] at H
     have c5b0 : decide (0 < (rd l0 x3_1)) = true := decide_eq_true c5
     clear c5
     have H' := aM H
     clear H
     have p399 : 0 ≤ (x3_1 : Int) := of_decide_eq_true dS
     have q399 : x3_1 < (l0.length : Int) := of_decide_eq_true dS
     obtain ⟨ad399, e399, hx399_0⟩ := Kd.at_int HR0.out x3_1 p399 q399
     cases e399
     replace p399 := eq_true p399
     replace q399 := eq_true q399
     have p400 : 0 ≤ (x3_1 : Int) := of_decide_eq_true dS
     have q400 : x3_1 < (l0.length : Int) := of_decide_eq_true dS
     obtain ⟨ad400, e400, hx400_0⟩ := Kd.at_int HR0.out x3_1 p400 q400
     obtain rfl : ad399 = ad400 := (by injection e400)
     replace p400 := eq_true p400
     replace q400 := eq_true q400
     go_wp2
     go_loopg [4, 5] k1 (fun kq v4 v5 w' => ∃ (x4_2 : Int) (x5_2 : Int), v4 = .int .i64 x4_2 ∧ v5 = .int .u64 x5_2 ∧ Aside0 (plumbref03_Bits.l1 kq x4_2 x5_2 = some r) ∧ Aside0 (kq ≤ k1) ∧ Drawn0 w w')
     case atStart => exact ⟨(wrap64 (64 * x3_1)), (rd l0 x3_1), dF, dF, H', ⟨Nat.le_refl _⟩, dD⟩
     case round =>
      clear H'
      try clear c2
      try clear c2b0
      try clear c3
      try clear c3b0
      try clear c4
      try clear c4b0
      try clear c5
      try clear c5b0
      try clear hx399_0
      try clear hx400_0
      try clear p399
      try clear p400
      try clear q399
      try clear q400
      obtain ⟨x4_2, x5_2, rfl, rfl, HA, HK2, ⟨m2, rfl⟩⟩ := hrel
      cases gk with
      | zero => exact absurd HA.out (by simp [plumbref03_Bits.l1])
      | succ k2 =>
       have H := HA.out
       clear HA
       simp only [plumbref03_Bits.l1] at H
       by_cases c6 : x5_2 > 0
       ·rw [if_pos c6] at H
        have c6b0 : decide (0 < x5_2) = true := decide_eq_true c6
        clear c6
        have H' := aM H
        clear H
        go_wp2
        go_roundg k2
        case measure => have := HK1.out; have := HK2.out; omega
        case rel => exact ⟨(wrap64 (x4_2 + 1)), (x5_2 / 2), dF, dF, H', ⟨by have := HK1.out; have := HK2.out; omega⟩, dD⟩
       ·rw [if_neg c6] at H
        have c6b0 : decide (0 < x5_2) = false := decide_eq_false c6
        clear c6
        obtain rfl := Option.some.inj H
        go_wp2
        go_ret
        exact ⟨dF, dD⟩
    ·rw [if_neg c5] at H
     have c5b0 : decide (0 < (rd l0 x3_1)) = false := decide_eq_false c5
     clear c5
     have H' := aM H
     clear H
     have p399 : 0 ≤ (x3_1 : Int) := of_decide_eq_true dS
     have q399 : x3_1 < (l0.length : Int) := of_decide_eq_true dS
     obtain ⟨ad399, e399, hx399_0⟩ := Kd.at_int HR0.out x3_1 p399 q399
     cases e399
     replace p399 := eq_true p399
     replace q399 := eq_true q399
     go_wp2
     go_roundg k1
     case measure => have := HK1.out; omega
     case rel => exact ⟨(wrap64 (x3_1 - 1)), dF, H', ⟨by have := HK1.out; omega⟩, dD⟩
   ·rw [if_neg c2] at H
    have c2b0 : decide (0 ≤ x3_1) = false := decide_eq_false c2
    clear c2
    obtain rfl := Option.some.inj H
    go_wp2
    go_ret
    exact ⟨dF, dD⟩
def plumbref04_TooLong.f (k : Nat) (l0 : List Int) : Option (Bool) := (plumbref03_Bits.f k l0).bind fun t401 => (some (decide (t401 > 262144)))
set_option maxHeartbeats 8000000 in
set_option maxRecDepth 100000 in
theorem plumbref04_TooLong.calls (k : Nat) (A0 : Option Addr) (c0 : Nat) (l0 : List Int) (r : Bool) (w : World) (hr0 : Kd.C (Kd.int .u64) w A0 l0.length l0) (hc0 : l0.length ≤ c0) (h : plumbref04_TooLong.f k l0 = some r) :
  Calls Tryd.prog 70 #[.slice A0 l0.length c0] w fun e w' => e = .returned (.bool r) ∧ Drawn0 w w' := by
 have HR0 := aM hr0
 have HC0 := aM hc0
 clear hr0 hc0
 have H := h
 clear h
 unfold plumbref04_TooLong.f at H
 replace H := oA H
 obtain ⟨t401, A2, H⟩ := H
 (try dsimp only at H)
 obtain rfl := Option.some.inj H
 go_enter Tryd.func70, Tryd.ntmps70
 go_wp2_with (first | ((with_reducible refine gate_callee (f := 83) rfl ?_); refine gL (some 4) Tryd.func83 #[.slice A0 l0.length c0] ?_; (with_reducible refine (plumbref03_Bits.calls k _ _ l0 t401 _ ?side1 HC0.out A2.out).mono ?_); (case side1 => exact dC HR0.out); rintro e w' ⟨rfl, ⟨nd, rfl⟩⟩; refine ⟨_, rfl, ?_⟩))
 go_ret
 exact ⟨dF, dD⟩
def plumbref04_step.l0 : Nat → Int → Int → Int → Option (Int × Int)
 | 0, _, _, _ => none
 | k + 1, x0, x4, x5 => if (IntKind.u64.wrap (x4 * (IntKind.u64.wrap (x0)))) < 4294967296 then (plumbref04_step.l0 k x0 (IntKind.u64.wrap (x4 * (IntKind.u64.wrap (x0)))) (wrap64 (x5 + 1))) else (some (x4, x5))
def plumbref04_step.f (k : Nat) (a0 : Int) : Option (Int × Int) := plumbref04_step.l0 k a0 (IntKind.u64.wrap (a0)) 1
set_option maxHeartbeats 8000000 in
set_option maxRecDepth 100000 in
theorem plumbref04_step.calls (k : Nat) (a0 : Int) (r1 : Int) (r2 : Int) (w : World) (h : plumbref04_step.f k a0 = some (r1, r2)) :
  Calls Tryd.prog 71 #[.int .i64 a0] w fun e w' => e = .returned (.tuple #[.int .u64 r1, .int .i64 r2]) ∧ Drawn0 w w' := by
 have H := h
 clear h
 unfold plumbref04_step.f at H
 have H' := aM H
 clear H
 go_enter Tryd.func71, Tryd.ntmps71
 go_wp2
 go_loopg [4, 5] k (fun kq v4 v5 w' => ∃ (x4_1 : Int) (x5_1 : Int), v4 = .int .u64 x4_1 ∧ v5 = .int .i64 x5_1 ∧ Aside0 (plumbref04_step.l0 kq a0 x4_1 x5_1 = some (r1, r2)) ∧ Aside0 (kq ≤ k) ∧ Drawn0 w w')
 case atStart => exact ⟨(IntKind.u64.wrap (a0)), (1), dF, dF, H', ⟨Nat.le_refl _⟩, dD⟩
 case round =>
  clear H'
  obtain ⟨x4_1, x5_1, rfl, rfl, HA, HK1, ⟨m1, rfl⟩⟩ := hrel
  cases gk with
  | zero => exact absurd HA.out (by simp [plumbref04_step.l0])
  | succ k1 =>
   have H := HA.out
   clear HA
   simp only [plumbref04_step.l0] at H
   by_cases c2 : (IntKind.u64.wrap (x4_1 * (IntKind.u64.wrap (a0)))) < 4294967296
   ·rw [if_pos c2] at H
    have c2b0 := decide_eq_true c2
    clear c2
    have H' := aM H
    clear H
    go_wp2
    go_roundg k1
    case measure => have := HK1.out; omega
    case rel => exact ⟨(IntKind.u64.wrap (x4_1 * (IntKind.u64.wrap (a0)))), (wrap64 (x5_1 + 1)), dF, dF, H', ⟨by have := HK1.out; omega⟩, dD⟩
   ·rw [if_neg c2] at H
    have c2b0 := decide_eq_false c2
    clear c2
    simp only [Option.some.injEq, Prod.mk.injEq] at H
    obtain ⟨rfl, rfl⟩ := H
    go_wp2
    go_ret2
    exact ⟨dF, dD⟩
mutual
def plumbref04_Text.j0 : Nat → List Int → Int → Bool → Option (ByteArray × Int)
 | 0, _, _, _ => none
 | k + 1, x0, x1, x21 => if x21 = true then (some ((⟨#[]⟩ : ByteArray), 40)) else ((plumbref04_TooLong.f k x0).bind fun t402 => (if t402 = true then (some ((⟨#[]⟩ : ByteArray), 21)) else ((plumbref04_step.f k x1).bind fun bt403 => ((plumbref04_limbs.f k x0).bind fun t405 => (plumbref04_Text.l0 k x1 (⟨#[48, 49, 50, 51, 52, 53, 54, 55, 56, 57, 97, 98, 99, 100, 101, 102, 103, 104, 105, 106, 107, 108, 109, 110, 111, 112, 113, 114, 115, 116, 117, 118, 119, 120, 121, 122]⟩ : ByteArray) bt403.1 bt403.2 t405 ([] : List Int))))))
def plumbref04_Text.l0 : Nat → Int → ByteArray → Int → Int → List Int → List Int → Option (ByteArray × Int)
 | 0, _, _, _, _, _, _ => none
 | k + 1, x1, x6, x7, x8, x9, x10 => if (x9.length : Int) > 0 then ((plumbref04_take.f k x9 x7).bind fun bt408 => (plumbref04_Text.l1 k x1 x6 x7 x8 bt408.1 x10 bt408.2 0)) else (plumbref04_Text.l2 k x10)
def plumbref04_Text.l1 : Nat → Int → ByteArray → Int → Int → List Int → List Int → Int → Int → Option (ByteArray × Int)
 | 0, _, _, _, _, _, _, _, _ => none
 | k + 1, x1, x6, x7, x8, x9, x10, x11, x12 => if x12 < x8 then (if (IntKind.u64.wrap (x1)) = 0 then (none) else (if 0 ≤ (wrap64 (Int.tmod x11 (IntKind.u64.wrap (x1)))) then (if (wrap64 (Int.tmod x11 (IntKind.u64.wrap (x1)))) < (x6.size : Int) then (if x10.length < 140737488355328 then (plumbref04_Text.l1 k x1 x6 x7 x8 x9 (x10 ++ [bt x6 (wrap64 (Int.tmod x11 (IntKind.u64.wrap (x1))))]) (IntKind.u64.wrap (Int.tdiv x11 (IntKind.u64.wrap (x1)))) (wrap64 (x12 + 1))) else (none)) else (none)) else (none))) else (plumbref04_Text.l0 k x1 x6 x7 x8 x9 x10)
def plumbref04_Text.j4 : Nat → List Int → Option (ByteArray × Int)
 | 0, _ => none
 | k + 1, x10 => if (x10.length : Int) = 0 then (some ((⟨#[48]⟩ : ByteArray), 0)) else (plumbref04_Text.l3 k x10 0)
def plumbref04_Text.l3 : Nat → List Int → Int → Option (ByteArray × Int)
 | 0, _, _ => none
 | k + 1, x10, x13 => if x13 < (wrap64 ((x10.length : Int) / 2)) then (if 0 ≤ x13 then (if x13 < (x10.length : Int) then (if 0 ≤ (wrap64 ((wrap64 ((x10.length : Int) - 1)) - x13)) then (if (wrap64 ((wrap64 ((x10.length : Int) - 1)) - x13)) < (x10.length : Int) then (plumbref04_Text.l3 k ((x10.set (x13 : Int).toNat (rd x10 (wrap64 ((wrap64 ((x10.length : Int) - 1)) - x13)))).set ((wrap64 ((wrap64 ((x10.length : Int) - 1)) - x13)) : Int).toNat (rd x10 x13)) (wrap64 (x13 + 1))) else (none)) else (none)) else (none)) else (none)) else (some (strOfNums x10, 0))
def plumbref04_Text.l2 : Nat → List Int → Option (ByteArray × Int)
 | 0, _ => none
 | k + 1, x10 => if (x10.length : Int) > 0 then (if 0 ≤ (wrap64 ((x10.length : Int) - 1)) then (if (wrap64 ((x10.length : Int) - 1)) < (x10.length : Int) then (if (rd x10 (wrap64 ((x10.length : Int) - 1))) = 48 then (if (wrap64 ((x10.length : Int) - 1)) ≤ (x10.length : Int) then (plumbref04_Text.l2 k (x10.take ((wrap64 ((x10.length : Int) - 1)) : Int).toNat)) else (none)) else (plumbref04_Text.j4 k x10)) else (none)) else (none)) else (plumbref04_Text.j4 k x10)
end
def plumbref04_Text.f (k : Nat) (l0 : List Int) (a1 : Int) : Option (ByteArray × Int) := if a1 < 2 then (plumbref04_Text.j0 k l0 a1 true) else (plumbref04_Text.j0 k l0 a1 (decide (a1 > 36)))
set_option maxHeartbeats 8000000 in
set_option maxRecDepth 100000 in
theorem plumbref04_Text.calls (k : Nat) (A0 : Option Addr) (c0 : Nat) (l0 : List Int) (a1 : Int) (r1 : ByteArray) (r2 : Int) (w : World) (hr0 : Kd.C (Kd.int .u64) w A0 l0.length l0) (hc0 : l0.length ≤ c0) (h : plumbref04_Text.f k l0 a1 = some (r1, r2)) :
  Calls Tryd.prog 48 #[.slice A0 l0.length c0, .int .i64 a1] w fun e w' => e = .returned (.tuple #[.string r1, .int .i64 r2]) ∧ Below w.heap.size w w' := by
 have HR0 := aM hr0
 have HC0 := aM hc0
 clear hr0 hc0
 have HB := aM (Below.refl w.heap.size w)
 have H := h
 clear h
 unfold plumbref04_Text.f at H
 have HC3 := aM H
 clear H
 go_enter Tryd.func48, Tryd.ntmps48
 go_upto_region 1 with (fail)
 go_cut [21] (fun v21 wc => ∃ (kq : Nat) (x21_2 : Bool), v21 = .bool x21_2 ∧ Aside0 (plumbref04_Text.j0 kq l0 a1 x21_2 = some (r1, r2)) ∧ Aside0 (kq ≤ k) ∧ Aside0 (Below w.heap.size w wc))
 case first =>
  have H := HC3.out
  clear HC3
  by_cases c4 : a1 < 2
  ·rw [if_pos c4] at H
   have c4b0 := decide_eq_true c4
   clear c4
   (first | rw [c4b0] | (simp only [i64_w, i32_w]; rw [c4b0]) | skip)
   have H' := aM H
   clear H
   go_wp2
   go_meet
   case rel => exact ⟨_, (true), dF, H', ⟨dN⟩, ⟨dB⟩⟩
  ·rw [if_neg c4] at H
   have c4b0 := decide_eq_false c4
   clear c4
   (first | rw [c4b0] | (simp only [i64_w, i32_w]; rw [c4b0]) | skip)
   have H' := aM H
   clear H
   go_wp2
   go_meet
   case rel => exact ⟨_, (decide (a1 > 36)), dF, H', ⟨dN⟩, ⟨dB⟩⟩
 case rest =>
  clear HC3
  obtain ⟨kq, x21_2, rfl, HA, HJ2, HB⟩ := hcut
  cases kq with
  | zero => exact absurd HA.out (by simp [plumbref04_Text.j0])
  | succ kj2 =>
   have H := HA.out
   clear HA
   simp only [plumbref04_Text.j0] at H
   by_cases c5 : x21_2 = true
   ·subst c5
    rw [if_pos rfl] at H
    (try dsimp only at H)
    simp only [Option.some.injEq, Prod.mk.injEq] at H
    obtain ⟨rfl, rfl⟩ := H
    go_wp2
    go_ret2
    exact ⟨dE, dB⟩
   ·replace c5 := Bool.eq_false_iff.mpr c5
    subst c5
    rw [if_neg (show ¬ (false = true) by decide)] at H
    (try dsimp only at H)
    replace H := oA H
    obtain ⟨t402, A6, H⟩ := H
    (try dsimp only at H)
    by_cases c7 : t402 = true
    ·subst c7
     rw [if_pos rfl] at H
     (try dsimp only at H)
     simp only [Option.some.injEq, Prod.mk.injEq] at H
     obtain ⟨rfl, rfl⟩ := H
     go_wp2_with (first | ((with_reducible refine gate_callee (f := 70) rfl ?_); refine gL (some 23) Tryd.func70 #[.slice A0 l0.length c0] ?_; (with_reducible refine (plumbref04_TooLong.calls kj2 _ _ l0 true _ ?side1 HC0.out A6.out).mono ?_); (case side1 => exact dC (Kd.C_below HR0.out HB.out)); rintro e w' ⟨rfl, ⟨nd, rfl⟩⟩; refine ⟨_, rfl, ?_⟩))
     go_ret2
     exact ⟨dE, dB⟩
    ·replace c7 := Bool.eq_false_iff.mpr c7
     subst c7
     rw [if_neg (show ¬ (false = true) by decide)] at H
     (try dsimp only at H)
     replace H := oA H
     obtain ⟨⟨t403, t404⟩, A8, H⟩ := H
     (try dsimp only at H)
     replace H := oA H
     obtain ⟨t405, A9, H⟩ := H
     (try dsimp only at H)
     have H' := aM H
     clear H
     go_wp2_with (first | ((with_reducible refine gate_callee (f := 70) rfl ?_); refine gL (some 23) Tryd.func70 #[.slice A0 l0.length c0] ?_; (with_reducible refine (plumbref04_TooLong.calls kj2 _ _ l0 false _ ?side1 HC0.out A6.out).mono ?_); (case side1 => exact dC (Kd.C_below HR0.out HB.out)); rintro e w' ⟨rfl, ⟨nd, rfl⟩⟩; refine ⟨_, rfl, ?_⟩) | ((with_reducible refine gate_callee (f := 71) rfl ?_); refine gL (some 26) Tryd.func71 #[.int .i64 a1] ?_; (with_reducible refine (plumbref04_step.calls kj2 a1 t403 t404 _ A8.out).mono ?_); rintro e w' ⟨rfl, ⟨nd, rfl⟩⟩; refine ⟨_, rfl, ?_⟩) | ((with_reducible refine gate_callee (f := 68) rfl ?_); refine gL (some 30) Tryd.func68 #[.slice A0 l0.length c0] ?_; (with_reducible refine (plumbref04_limbs.calls kj2 _ _ l0 t405 _ ?side1 HC0.out A9.out).mono ?_); (case side1 => exact dC (Kd.C_below HR0.out dB)); rintro e w10 ⟨v406, rfl, ho0, hb⟩; refine ⟨_, rfl, ?_⟩; have HO407 := aM (Kd.R_lower ho0 (below_size dB)); replace HB := hS HB.out hb; (try clear hb); (try clear ho0)))
     go_loopg [9, 10] kj2 (fun kq v9 v10 w' => ∃ (x9_2 : List Int) (x10_2 : List Int), Aside0 (plumbref04_Text.l0 kq a1 (⟨#[48, 49, 50, 51, 52, 53, 54, 55, 56, 57, 97, 98, 99, 100, 101, 102, 103, 104, 105, 106, 107, 108, 109, 110, 111, 112, 113, 114, 115, 116, 117, 118, 119, 120, 121, 122]⟩ : ByteArray) t403 t404 x9_2 x10_2 = some (r1, r2)) ∧ Aside0 (kq ≤ kj2) ∧ Aside0 (Kd.R (Kd.int .u64) 22 w' w.heap.size (fun _ => True) v9 x9_2) ∧ Aside0 (Kd.R (Kd.int .u8) 5 w' w.heap.size (fun _ => True) v10 x10_2) ∧ Aside0 (Below w.heap.size w w'))
     case atStart => exact ⟨(t405), (([] : List Int)), H', ⟨Nat.le_refl _⟩, ⟨dR HO407.out⟩, ⟨by first | exact Kd.R_nil _ _ _ _ _ | exact Kd.N_nil _ _ _ _ _ | exact Kd.V_nil _ _ _ _ _ | exact Kd.Q_nil _ _ _ _ _ | exact Kd.S_nil _ _ _ _ _⟩, ⟨dB⟩⟩
     case round =>
      clear H'
      try clear c5
      try clear c7
      obtain ⟨x9_2, x10_2, HA, HK2, HO_9, HO_10, HB⟩ := hrel
      cases gk with
      | zero => exact absurd HA.out (by simp [plumbref04_Text.l0])
      | succ k2 =>
       have H := HA.out
       clear HA
       simp only [plumbref04_Text.l0] at H
       by_cases c11 : (x9_2.length : Int) > 0
       ·rw [if_pos c11] at H
        have c11b0 : decide (0 < (x9_2.length : Int)) = true := decide_eq_true c11
        have c11b1 : decide (0 < x9_2.length) = true := decide_eq_true (by omega)
        clear c11
        replace H := oA H
        obtain ⟨⟨t408, t411⟩, A12, H⟩ := H
        (try dsimp only at H)
        have H' := aM H
        clear H
        obtain ⟨Ao13, co13, rfl⟩ := Kd.R_slice HO_9.out
        go_wp2_with (first | ((with_reducible refine gate_callee (f := 69) rfl ?_); refine gL (some 37) Tryd.func69 #[.slice Ao13 x9_2.length co13, .int .u64 t403] ?_; (with_reducible refine (plumbref04_take.calls k2 (fun k_ => some k_ = (.slice Ao13 x9_2.length co13 : Value).ownBlock) (.slice Ao13 x9_2.length co13) x9_2 t403 t408 t411 w _ ?side1 ?side2 A12.out).mono ?_); (case side1 => repeat (first | (with_reducible first | exact HB.out | apply below_alloc | apply pw_below_drewN | apply below_drew1) | exact HB.out)); (case side2 => exact Kd.R_tight rfl HO_9.out); rintro e w14 ⟨v409, rfl, ho0, hb, hkp⟩; refine ⟨_, rfl, ?_⟩; replace HO_10 := aM (Kd.R_mono (ok' := fun k_ => True) (Kd.R_keptB ((Kd.R_apart' HO_10.out (Kd.R_typed HO_9.out) (by decide))) hkp (fun k_ hk_ hs_ => (hk_.2) hs_)) (fun k_ hk_ => trivial)); have HO410 := aM (Kd.R_mono (ok' := fun k_ => True) ho0 (fun k_ hk_ => trivial)); replace HB := aM (hb); clear HO_9; (try clear hb); (try clear hkp); (try clear ho0)))
        go_loopg [10, 11, 12] k2 (fun kq v10 v11 v12 w' => ∃ (x10_3 : List Int) (x11_3 : Int) (x12_3 : Int), v11 = .int .u64 x11_3 ∧ v12 = .int .i64 x12_3 ∧ Aside0 (plumbref04_Text.l1 kq a1 (⟨#[48, 49, 50, 51, 52, 53, 54, 55, 56, 57, 97, 98, 99, 100, 101, 102, 103, 104, 105, 106, 107, 108, 109, 110, 111, 112, 113, 114, 115, 116, 117, 118, 119, 120, 121, 122]⟩ : ByteArray) t403 t404 t408 x10_3 x11_3 x12_3 = some (r1, r2)) ∧ Aside0 (kq ≤ k2) ∧ Aside0 (Kd.R (Kd.int .u64) 22 w' w.heap.size (fun _ => True) v409 t408) ∧ Aside0 (Kd.R (Kd.int .u8) 5 w' w.heap.size (fun _ => True) v10 x10_3) ∧ Aside0 (Below w.heap.size w w'))
        case atStart => exact ⟨(x10_2), (t411), (0), dF, dF, H', ⟨Nat.le_refl _⟩, ⟨dR HO410.out⟩, ⟨dR HO_10.out⟩, ⟨dB⟩⟩
        case round =>
         clear H'
         try clear c5
         try clear c7
         try clear c11
         try clear c11b0 c11b1
         obtain ⟨x10_3, x11_3, x12_3, rfl, rfl, HA, HK3, HO_9, HO_10, HB⟩ := hrel
         cases gk with
         | zero => exact absurd HA.out (by simp [plumbref04_Text.l1])
         | succ k3 =>
          have H := HA.out
          clear HA
          simp only [plumbref04_Text.l1] at H
          by_cases c15 : x12_3 < t404
          ·rw [if_pos c15] at H
           have c15b0 := decide_eq_true c15
           clear c15
           replace H := nQ H
           obtain ⟨c16, H⟩ := H
           obtain ⟨c16b0, c16b1⟩ := bF c16
           obtain ⟨ji17, hji17⟩ : ∃ j_ : Int, (wrap64 (Int.tmod x11_3 (IntKind.u64.wrap (a1)))) = j_ := ⟨_, rfl⟩
           first | rw [hji17] at H | simp only [hji17] at H
           have hji17w : (IntKind.i64.wrap (Int.tmod x11_3 (IntKind.u64.wrap (a1)))) = ji17 := (i64_w _).trans hji17
           replace H := nO H
           obtain ⟨c18, H⟩ := H
           have c18b0 : decide (0 ≤ (ji17)) = true := decide_eq_true c18
           clear c18
           replace H := nO H
           obtain ⟨c19, H⟩ := H
           have c19b0 := decide_eq_true c19
           clear c19
           replace H := nO H
           obtain ⟨c21, H⟩ := H
           have LMc21 := aM c21
           clear c21
           obtain ⟨y412, hy412⟩ : ∃ y_ : List Int, y_ = (x10_3 ++ [bt (⟨#[48, 49, 50, 51, 52, 53, 54, 55, 56, 57, 97, 98, 99, 100, 101, 102, 103, 104, 105, 106, 107, 108, 109, 110, 111, 112, 113, 114, 115, 116, 117, 118, 119, 120, 121, 122]⟩ : ByteArray) (ji17)]) := ⟨_, rfl⟩
           replace H : (plumbref04_Text.l1 k3 a1 (⟨#[48, 49, 50, 51, 52, 53, 54, 55, 56, 57, 97, 98, 99, 100, 101, 102, 103, 104, 105, 106, 107, 108, 109, 110, 111, 112, 113, 114, 115, 116, 117, 118, 119, 120, 121, 122]⟩ : ByteArray) t403 t404 t408 y412 (IntKind.u64.wrap (Int.tdiv x11_3 (IntKind.u64.wrap (a1)))) (wrap64 (x12_3 + 1))) = some (r1, r2) := by first | (rw [hy412]; with_reducible exact H) | (have H2_ := (Option.bind_some _ _).symm.trans H; rw [hy412]; with_reducible exact H2_) | (have H2_ := (Option.bind_some _ _).symm.trans H; with_reducible exact H2_) | with_reducible exact H | (rw [hy412]; exact H) | exact H
           have Ny412 := aM hy412
           clear hy412
           have H' := aM H
           clear H
           have p20 : 0 ≤ ((ji17) : Int) := of_decide_eq_true dS
           have q20 : (ji17) < (36 : Int) := of_decide_eq_true dS
           have hx20 := bt_at (⟨#[48, 49, 50, 51, 52, 53, 54, 55, 56, 57, 97, 98, 99, 100, 101, 102, 103, 104, 105, 106, 107, 108, 109, 110, 111, 112, 113, 114, 115, 116, 117, 118, 119, 120, 121, 122]⟩ : ByteArray) (ji17)
           replace p20 := eq_true p20
           replace q20 := eq_true q20
           go_wp2_with (first | ((with_reducible refine gate_builtin (b := .append) (xs := #[.tmp 45, .tmp 53]) rfl ?_); (try (refine gate_guard (by rfl) ?_; dsimp only)); at_builtin; refine Kd.R_append (Kd.int .u8) (w0 := w) w.heap.size rfl (.tmp 45) (.tmp 53) 45 5 (.int .u8 0) 1 rfl Tryd.underlying45 info5 rfl (by decide) (by omega) u10 x10_3 (bt (⟨#[48, 49, 50, 51, 52, 53, 54, 55, 56, 57, 97, 98, 99, 100, 101, 102, 103, 104, 105, 106, 107, 108, 109, 110, 111, 112, 113, 114, 115, 116, 117, 118, 119, 120, 121, 122]⟩ : ByteArray) (ji17)) [.int .u8 (bt (⟨#[48, 49, 50, 51, 52, 53, 54, 55, 56, 57, 97, 98, 99, 100, 101, 102, 103, 104, 105, 106, 107, 108, 109, 110, 111, 112, 113, 114, 115, 116, 117, 118, 119, 120, 121, 122]⟩ : ByteArray) (ji17))] (fun _ => True) (fun _ => False) rfl rfl ?aP (fun _ hk => hk.elim) ?aF ?aO ?aB ?aS ?aL ?_; (case aP => exact rfl); (case aB => exact dB); (case aF => exact (fun _ _ => trivial)); (case aO => exact (dR HO_10.out)); (case aS => exact (below_size dB)); (case aL => have := LMc21.out; omega); intro v413 w22 ho hb hg hat; rw [← Ny412.out] at ho; replace HO_9 := aM (Kd.R_over' (dR HO_9.out) (Kd.R_typed (dR HO_10.out)) (by decide) hg); replace HB := aM (hb); have HO414 := aM (ho); clear HO_10; clear ho hb hg hat))
           go_roundg k3
           case measure => have := HJ2.out; have := HK2.out; have := HK3.out; omega
           case rel => exact ⟨(y412), (IntKind.u64.wrap (Int.tdiv x11_3 (IntKind.u64.wrap (a1)))), (wrap64 (x12_3 + 1)), dF, dF, H', ⟨by have := HJ2.out; have := HK2.out; have := HK3.out; omega⟩, ⟨dR HO_9.out⟩, ⟨dR HO414.out⟩, ⟨dB⟩⟩
          ·rw [if_neg c15] at H
           have c15b0 := decide_eq_false c15
           clear c15
           have H' := aM H
           clear H
           go_wp2
           go_roundg k3
           case measure => have := HJ2.out; have := HK2.out; have := HK3.out; omega
           case rel => exact ⟨(t408), (x10_3), H', ⟨by have := HJ2.out; have := HK2.out; have := HK3.out; omega⟩, ⟨dR HO_9.out⟩, ⟨dR HO_10.out⟩, ⟨dB⟩⟩
       ·rw [if_neg c11] at H
        have c11b0 : decide (0 < (x9_2.length : Int)) = false := decide_eq_false c11
        have c11b1 : decide (0 < x9_2.length) = false := decide_eq_false (by omega)
        clear c11
        have HC23 := aM H
        clear H
        obtain ⟨Ao24, co24, rfl⟩ := Kd.R_slice HO_9.out
        go_upto_block 4 with (fail)
        go_cut [10] (fun v10 wc => ∃ (kq : Nat) (x10_22 : List Int), Aside0 (plumbref04_Text.j4 kq x10_22 = some (r1, r2)) ∧ Aside0 (kq ≤ k2) ∧ Aside0 (Kd.R (Kd.int .u8) 5 wc w.heap.size (fun _ => True) v10 x10_22) ∧ Aside0 (Below w.heap.size w wc))
        case first =>
         have H := HC23.out
         clear HC23
         have H' := aM H
         clear H
         go_wp2
         go_loopg [10] k2 (fun kq v10 w' => ∃ (x10_3 : List Int), Aside0 (plumbref04_Text.l2 kq x10_3 = some (r1, r2)) ∧ Aside0 (kq ≤ k2) ∧ Aside0 (Kd.R (Kd.int .u8) 5 w' w.heap.size (fun _ => True) v10 x10_3) ∧ Aside0 (Below w.heap.size w w'))
         case atStart => exact ⟨(x10_2), H', ⟨Nat.le_refl _⟩, ⟨dR HO_10.out⟩, ⟨dB⟩⟩
         case round =>
          clear H'
          try clear c5
          try clear c7
          try clear c11
          try clear c11b0 c11b1
          obtain ⟨x10_3, HA, HK3, HO_10, HB⟩ := hrel
          cases gk with
          | zero => exact absurd HA.out (by simp [plumbref04_Text.l2])
          | succ k3 =>
           have H := HA.out
           clear HA
           simp only [plumbref04_Text.l2] at H
           by_cases c25 : (x10_3.length : Int) > 0
           ·rw [if_pos c25] at H
            have c25b0 : decide (0 < (x10_3.length : Int)) = true := decide_eq_true c25
            have c25b1 : decide (0 < x10_3.length) = true := decide_eq_true (by omega)
            clear c25
            (first | rw [c25b0] | (simp only [i64_w, i32_w]; rw [c25b0]) | rw [c25b1] | skip)
            obtain ⟨ji26, hji26⟩ : ∃ j_ : Int, (wrap64 ((x10_3.length : Int) - 1)) = j_ := ⟨_, rfl⟩
            first | rw [hji26] at H | simp only [hji26] at H
            have hji26w : (IntKind.i64.wrap ((x10_3.length : Int) - 1)) = ji26 := (i64_w _).trans hji26
            replace H := nO H
            obtain ⟨c27, H⟩ := H
            have c27b0 : decide (0 ≤ (ji26)) = true := decide_eq_true c27
            clear c27
            replace H := nO H
            obtain ⟨c28, H⟩ := H
            have c28b0 := decide_eq_true c28
            clear c28
            by_cases c29 : (rd x10_3 (ji26)) = 48
            ·rw [if_pos c29] at H
             obtain ⟨c29b0, c29b1⟩ := bT c29
             clear c29
             replace H := nO H
             obtain ⟨c30, H⟩ := H
             have c30b0 := eq_true c30
             have c30b1 := decide_eq_true c30
             clear c30
             obtain ⟨y416, hy416⟩ : ∃ y_ : List Int, y_ = (x10_3.take ((ji26) : Int).toNat) := ⟨_, rfl⟩
             replace H : (plumbref04_Text.l2 k3 y416) = some (r1, r2) := by first | (rw [hy416]; with_reducible exact H) | (have H2_ := (Option.bind_some _ _).symm.trans H; rw [hy416]; with_reducible exact H2_) | (have H2_ := (Option.bind_some _ _).symm.trans H; with_reducible exact H2_) | with_reducible exact H | (rw [hy416]; exact H) | exact H
             have Ny416 := aM hy416
             clear hy416
             have H' := aM H
             clear H
             obtain ⟨Ao31, co31, rfl⟩ := Kd.R_slice HO_10.out
             have p415 : 0 ≤ ((ji26) : Int) := of_decide_eq_true dS
             have q415 : (ji26) < (x10_3.length : Int) := of_decide_eq_true dS
             obtain ⟨ad415, e415, hx415_0⟩ := Kd.at_int (Kd.R_reads' HO_10.out).2.2 (ji26) p415 q415
             cases e415
             replace p415 := eq_true p415
             replace q415 := eq_true q415
             have q32 : ((ji26) : Int) ≤ ((x10_3.length : Int) : Int) := of_decide_eq_true dS
             obtain ⟨i032, hi032, _, hsz32, _⟩ := info_parts info5
             have hcut32 := cut_to (P := Tryd.prog) 45 5 .i64 Tryd.underlying45 hi032 (some ad415) x10_3.length co31 (ji26) (of_decide_eq_true dS) q32 (Kd.R_reads' HO_10.out).2.1
             have hr32 := Kd.R_take (m := ((ji26) : Int).toNat) HO_10.out (by omega)
             have hy32 : y416.length = ((ji26) : Int).toNat := (by rw [Ny416.out, List.length_take]; omega)
             rw [← Ny416.out] at hr32
             rw [← hy32] at hr32 hcut32
             clear hy32 hi032 hsz32 HO_10
             have HO418 := aM hr32
             clear hr32
             replace q32 := eq_true q32
             go_wp2
             go_roundg k3
             case measure => have := HJ2.out; have := HK2.out; have := HK3.out; omega
             case rel => exact ⟨(y416), H', ⟨by have := HJ2.out; have := HK2.out; have := HK3.out; omega⟩, ⟨dR HO418.out⟩, ⟨dB⟩⟩
            ·rw [if_neg c29] at H
             obtain ⟨c29b0, c29b1⟩ := bF c29
             have H' := aM H
             clear H
             obtain ⟨Ao33, co33, rfl⟩ := Kd.R_slice HO_10.out
             have p415 : 0 ≤ ((ji26) : Int) := of_decide_eq_true dS
             have q415 : (ji26) < (x10_3.length : Int) := of_decide_eq_true dS
             obtain ⟨ad415, e415, hx415_0⟩ := Kd.at_int (Kd.R_reads' HO_10.out).2.2 (ji26) p415 q415
             cases e415
             replace p415 := eq_true p415
             replace q415 := eq_true q415
             go_wp2
             go_meet
             case rel => exact ⟨_, (x10_3), H', ⟨by have := HJ2.out; have := HK2.out; have := HK3.out; first | omega | exact Nat.le_refl _⟩, ⟨dR HO_10.out⟩, ⟨dB⟩⟩
           ·rw [if_neg c25] at H
            have c25b0 : decide (0 < (x10_3.length : Int)) = false := decide_eq_false c25
            have c25b1 : decide (0 < x10_3.length) = false := decide_eq_false (by omega)
            clear c25
            (first | rw [c25b0] | (simp only [i64_w, i32_w]; rw [c25b0]) | rw [c25b1] | skip)
            have H' := aM H
            clear H
            obtain ⟨Ao34, co34, rfl⟩ := Kd.R_slice HO_10.out
            go_wp2
            go_meet
            case rel => exact ⟨_, (x10_3), H', ⟨by have := HJ2.out; have := HK2.out; have := HK3.out; first | omega | exact Nat.le_refl _⟩, ⟨dR HO_10.out⟩, ⟨dB⟩⟩
        case rest =>
         clear HC23
         try clear c5
         try clear c7
         try clear c11
         try clear c11b0 c11b1
         obtain ⟨kq, x10_22, HA, HJ22, HO_10, HB⟩ := hcut
         cases kq with
         | zero => exact absurd HA.out (by simp [plumbref04_Text.j4])
         | succ kj22 =>
          have H := HA.out
          clear HA
          simp only [plumbref04_Text.j4] at H
          by_cases c35 : (x10_22.length : Int) = 0
          ·rw [if_pos c35] at H
           obtain ⟨c35b0, c35b1⟩ := bT c35
           clear c35
           simp only [Option.some.injEq, Prod.mk.injEq] at H
           obtain ⟨rfl, rfl⟩ := H
           obtain ⟨Ao36, co36, rfl⟩ := Kd.R_slice HO_10.out
           go_wp2
           go_ret2
           exact ⟨dE, dB⟩
          ·rw [if_neg c35] at H
           obtain ⟨c35b0, c35b1⟩ := bF c35
           have c35b2 : ¬ (x10_22 = []) := fun h_ => c35 (by rw [h_]; rfl)
           have H' := aM H
           clear H
           obtain ⟨Ao37, co37, rfl⟩ := Kd.R_slice HO_10.out
           go_wp2
           go_loopg [13] kj22 (fun kq v13 w' => ∃ (x10_4 : List Int) (x13_4 : Int), v13 = .int .i64 x13_4 ∧ Aside0 (plumbref04_Text.l3 kq x10_4 x13_4 = some (r1, r2)) ∧ Aside0 (kq ≤ kj22) ∧ Aside0 (Kd.R (Kd.int .u8) 5 w' w.heap.size (fun _ => True) (.slice Ao37 x10_22.length co37) x10_4) ∧ Aside0 (Below w.heap.size w w'))
           case atStart => exact ⟨(x10_22), (0), dF, H', ⟨Nat.le_refl _⟩, ⟨dR HO_10.out⟩, ⟨dB⟩⟩
           case round =>
            clear H'
            try clear c5
            try clear c7
            try clear c11
            try clear c11b0 c11b1
            try clear c35
            try clear c35b0 c35b1
            try clear c35b2
            obtain ⟨x10_4, x13_4, rfl, HA, HK4, HO_10, HB⟩ := hrel
            have hl10_4 := (Kd.R_reads' HO_10.out).1
            rw [hl10_4] at HO_10
            (try simp only [hl10_4])
            cases gk with
            | zero => exact absurd HA.out (by simp [plumbref04_Text.l3])
            | succ k4 =>
             have H := HA.out
             clear HA
             simp only [plumbref04_Text.l3] at H
             by_cases c38 : x13_4 < (wrap64 ((x10_4.length : Int) / 2))
             ·rw [if_pos c38] at H
              have c38b0 := decide_eq_true c38
              clear c38
              replace H := nO H
              obtain ⟨c39, H⟩ := H
              have c39b0 : decide (0 ≤ x13_4) = true := decide_eq_true c39
              clear c39
              replace H := nO H
              obtain ⟨c40, H⟩ := H
              have c40b0 := decide_eq_true c40
              clear c40
              obtain ⟨ji41, hji41⟩ : ∃ j_ : Int, (wrap64 ((wrap64 ((x10_4.length : Int) - 1)) - x13_4)) = j_ := ⟨_, rfl⟩
              first | rw [hji41] at H | simp only [hji41] at H
              have hji41w : (IntKind.i64.wrap ((wrap64 ((x10_4.length : Int) - 1)) - x13_4)) = ji41 := (i64_w _).trans hji41
              replace H := nO H
              obtain ⟨c42, H⟩ := H
              have c42b0 : decide (0 ≤ (ji41)) = true := decide_eq_true c42
              clear c42
              replace H := nO H
              obtain ⟨c43, H⟩ := H
              have c43b0 := decide_eq_true c43
              clear c43
              obtain ⟨y421, hy421⟩ : ∃ y_ : List Int, y_ = (x10_4.set (x13_4 : Int).toNat (rd x10_4 (ji41))) := ⟨_, rfl⟩
              replace H : (plumbref04_Text.l3 k4 (y421.set ((ji41) : Int).toNat (rd x10_4 x13_4)) (wrap64 (x13_4 + 1))) = some (r1, r2) := by first | (rw [hy421]; with_reducible exact H) | (have H2_ := (Option.bind_some _ _).symm.trans H; rw [hy421]; with_reducible exact H2_) | (have H2_ := (Option.bind_some _ _).symm.trans H; with_reducible exact H2_) | with_reducible exact H | (rw [hy421]; exact H) | exact H
              have Ny421 := aM hy421
              clear hy421
              obtain ⟨y422, hy422⟩ : ∃ y_ : List Int, y_ = (y421.set ((ji41) : Int).toNat (rd x10_4 x13_4)) := ⟨_, rfl⟩
              replace H : (plumbref04_Text.l3 k4 y422 (wrap64 (x13_4 + 1))) = some (r1, r2) := by first | (rw [hy422]; with_reducible exact H) | (have H2_ := (Option.bind_some _ _).symm.trans H; rw [hy422]; with_reducible exact H2_) | (have H2_ := (Option.bind_some _ _).symm.trans H; with_reducible exact H2_) | with_reducible exact H | (rw [hy422]; exact H) | exact H
              have Ny422 := aM hy422
              clear hy422
              have H' := aM H
              clear H
              have p419 : 0 ≤ (x13_4 : Int) := of_decide_eq_true dS
              have q419 : x13_4 < (x10_4.length : Int) := of_decide_eq_true dS
              obtain ⟨ad419, e419, hx419_0⟩ := Kd.at_int (Kd.R_reads' HO_10.out).2.2 x13_4 p419 q419
              cases e419
              replace p419 := eq_true p419
              replace q419 := eq_true q419
              have p420 : 0 ≤ ((ji41) : Int) := of_decide_eq_true dS
              have q420 : (ji41) < (x10_4.length : Int) := of_decide_eq_true dS
              obtain ⟨ad420, e420, hx420_0⟩ := Kd.at_int (Kd.R_reads' HO_10.out).2.2 (ji41) p420 q420
              obtain rfl : ad419 = ad420 := (by injection e420)
              replace p420 := eq_true p420
              replace q420 := eq_true q420
              have p44 : 0 ≤ (x13_4 : Int) := of_decide_eq_true dS
              have q44 : (x13_4 : Int) < ((x10_4.length : Int) : Int) := of_decide_eq_true dS
              obtain ⟨go44, co44, eo44, gb44, gl44, cl44, HG44⟩ := Kd.R_form HO_10.out (by omega)
              (first | cases eo44 | (injection eo44 with ea_ en_ ec_; (first | subst ea_ | (injection ea_ with ea_; subst ea_)); subst ec_; clear en_))
              have GB44 := aM gb44
              have GG44 := aM HG44
              clear gb44 gl44 HG44
              (first | simp only [add_plain] at hx419_0 | skip)
              (first | simp only [add_plain] at hx420_0 | skip)
              obtain ⟨hx44_0, hf44_0⟩ := Kd.R_celln 0 HO_10.out (x13_4 : Int) p44 q44
              replace p44 := eq_true p44
              replace q44 := eq_true q44
              have HP46 := Kd.R_putg HO_10.out (x13_4 : Int) (rd x10_4 (ji41))
              go_wp2_with (first | ((with_reducible refine gate_store (t := 5) (p := 101) rfl ?_); refine store_event (t := 5) (p := 101) (v := ?vo_w47) (w1 := (wr.setCell ⟨go44, (x13_4 : Int).toNat, none⟩ (.int .u8 (rd x10_4 (ji41))))) ?hg ?ho ?hn ?hr ?_; (case ho => rfl); (case hg => rfl); (case hn => rfl); (case hr => first | (go_simp; done) | (go_simp; rfl)); intro w47 hw; have hg : wr.grownBy w47 (some go44) := (by rw [hw]; exact HP46.2); have hp_ : Kd.R (Kd.int .u8) 5 w47 w.heap.size (fun _ => True) (.slice (some ⟨go44, 0, none⟩) x10_4.length co37) y421 := (by rw [hw, Ny421.out]; exact HP46.1); clear HP46; replace HO_10 := aM (hp_); replace HB := aM ((by rw [hw]; exact below_set (HB.out) GB44.out : Below w.heap.size w w47)); clear hg hw hp_; have p45 : 0 ≤ ((ji41) : Int) := of_decide_eq_true dS; have q45 : ((ji41) : Int) < ((x10_4.length : Int) : Int) := of_decide_eq_true dS; obtain ⟨hx45_0, hf45_0⟩ := Kd.R_celln 0 HO_10.out ((ji41) : Int) p45 q45; replace p45 := eq_true p45; replace q45 := eq_true q45; obtain ⟨hy48_, hz48_⟩ := Kd.R_celln 0 HO_10.out ((ji41) : Int) (of_decide_eq_true dS) (of_decide_eq_true dS); have HP48 := Kd.R_putg HO_10.out ((ji41) : Int) (rd x10_4 x13_4)) | ((with_reducible refine gate_store (t := 5) (p := 105) rfl ?_); refine store_event (t := 5) (p := 105) (v := ?vo_w49) (w1 := (w47.setCell ⟨go44, ((ji41) : Int).toNat, none⟩ (.int .u8 (rd x10_4 x13_4)))) ?hg ?ho ?hn ?hr ?_; (case ho => rfl); (case hg => rfl); (case hn => rfl); (case hr => first | (go_simp; done) | (go_simp; rfl)); intro w49 hw; have hg : w47.grownBy w49 (some go44) := (by rw [hw]; exact HP48.2); have hp_ : Kd.R (Kd.int .u8) 5 w49 w.heap.size (fun _ => True) (.slice (some ⟨go44, 0, none⟩) x10_4.length co37) y422 := (by rw [hw, Ny422.out]; exact HP48.1); clear HP48; replace HO_10 := aM (hp_); replace HB := aM ((by rw [hw]; exact below_set (HB.out) GB44.out : Below w.heap.size w w49)); clear hg hw hp_))
              (try simp only [← hl10_4])
              go_roundg k4
              case measure => have := HJ2.out; have := HK2.out; have := HJ22.out; have := HK4.out; omega
              case rel => exact ⟨(y422), (wrap64 (x13_4 + 1)), dF, H', ⟨by have := HJ2.out; have := HK2.out; have := HJ22.out; have := HK4.out; omega⟩, ⟨by (try simp only [hl10_4]); (with_reducible repeat (first | apply Kd.R_alloc | apply Kd.R_drewN | apply Kd.R_drew)); exact HO_10.out⟩, ⟨dB⟩⟩
             ·rw [if_neg c38] at H
              have c38b0 := decide_eq_false c38
              clear c38
              simp only [Option.some.injEq, Prod.mk.injEq] at H
              obtain ⟨rfl, rfl⟩ := H
              have hcv50 := own_string (P := Tryd.prog) Tryd.underlying45 Tryd.underlying5 Tryd.underlying9 (Kd.own_of_R HO_10.out)
              go_wp2
              go_ret2
              exact ⟨dE, dB⟩
def plumbref13_Digits.f (k : Nat) (a0 : Int) : Option (ByteArray × Int × Int) := (plumbref06_Split.f a0).bind fun bt423 => (if bt423.2.2.2 = 0 then (if bt423.2.1 = 0 then (some ((⟨#[48]⟩ : ByteArray), 0, 0)) else ((some (([bt423.2.1] : List Int) : List Int)).bind fun y427 => (if bt423.2.2.1 ≥ 0 then ((plumbref03_Shl.f k y427 bt423.2.2.1).bind fun t430 => ((plumbref04_Trim.f k t430).bind fun bt433 => ((plumbref04_Text.f k bt433.1 10).bind fun bt437 => (some (bt437.1, wrap64 (0 + bt433.2), 0))))) else ((plumbref04_Power.f k 5 (wrap64 (-bt423.2.2.1))).bind fun t439 => ((plumbref03_Mul.f k y427 t439).bind fun t442 => ((plumbref04_Trim.f k t442).bind fun bt445 => ((plumbref04_Text.f k bt445.1 10).bind fun bt449 => (some (bt449.1, wrap64 (bt423.2.2.1 + bt445.2), 0))))))))) else (some ((⟨#[]⟩ : ByteArray), 0, 60)))
set_option maxHeartbeats 8000000 in
set_option maxRecDepth 100000 in
theorem plumbref13_Digits.calls (k : Nat) (a0 : Int) (r1 : ByteArray) (r2 : Int) (r3 : Int) (w : World) (h : plumbref13_Digits.f k a0 = some (r1, r2, r3)) :
  Calls Tryd.prog 20 #[.int .u64 a0] w fun e w' => e = .returned (.tuple #[.string r1, .int .i64 r2, .int .i64 r3]) ∧ Below w.heap.size w w' := by
 have HB := aM (Below.refl w.heap.size w)
 have H := h
 clear h
 unfold plumbref13_Digits.f at H
 replace H := oA H
 obtain ⟨⟨t423, t424, t425, t426⟩, A2, H⟩ := H
 (try dsimp only at H)
 by_cases c3 : t426 = 0
 ·rw [if_pos c3] at H
  obtain ⟨c3b0, c3b1⟩ := bT c3
  clear c3
  by_cases c4 : t424 = 0
  ·rw [if_pos c4] at H
   obtain ⟨c4b0, c4b1⟩ := bT c4
   clear c4
   simp only [Option.some.injEq, Prod.mk.injEq] at H
   obtain ⟨rfl, rfl, rfl⟩ := H
   go_enter Tryd.func20, Tryd.ntmps20
   go_wp2_with (first | ((with_reducible refine gate_callee (f := 43) rfl ?_); refine gL (some 16) Tryd.func43 #[.int .u64 a0] ?_; (with_reducible refine (plumbref06_Split.calls a0 t423 t424 t425 t426 _ A2.out).mono ?_); rintro e w' ⟨rfl, ⟨nd, rfl⟩⟩; refine ⟨_, rfl, ?_⟩))
   go_ret3
   exact ⟨dE, dB⟩
  ·rw [if_neg c4] at H
   obtain ⟨c4b0, c4b1⟩ := bF c4
   obtain ⟨y427, hy427⟩ : ∃ y_ : List Int, y_ = (([t424] : List Int)) := ⟨_, rfl⟩
   replace H : (if t425 ≥ 0 then ((plumbref03_Shl.f k y427 t425).bind fun t430 => ((plumbref04_Trim.f k t430).bind fun bt433 => ((plumbref04_Text.f k bt433.1 10).bind fun bt437 => (some (bt437.1, wrap64 (0 + bt433.2), 0))))) else ((plumbref04_Power.f k 5 (wrap64 (-t425))).bind fun t439 => ((plumbref03_Mul.f k y427 t439).bind fun t442 => ((plumbref04_Trim.f k t442).bind fun bt445 => ((plumbref04_Text.f k bt445.1 10).bind fun bt449 => (some (bt449.1, wrap64 (t425 + bt445.2), 0))))))) = some (r1, r2, r3) := by first | (rw [hy427]; with_reducible exact H) | (have H2_ := (Option.bind_some _ _).symm.trans H; rw [hy427]; with_reducible exact H2_) | (have H2_ := (Option.bind_some _ _).symm.trans H; with_reducible exact H2_) | with_reducible exact H | (rw [hy427]; exact H) | exact H
   have Ny427 := aM hy427
   clear hy427
   by_cases c5 : t425 ≥ 0
   ·rw [if_pos c5] at H
    have c5b0 : decide (0 ≤ t425) = true := decide_eq_true c5
    clear c5
    replace H := oA H
    obtain ⟨t430, A6, H⟩ := H
    (try dsimp only at H)
    replace H := oA H
    obtain ⟨⟨t433, t434⟩, A7, H⟩ := H
    (try dsimp only at H)
    replace H := oA H
    obtain ⟨⟨t437, t438⟩, A8, H⟩ := H
    (try dsimp only at H)
    simp only [Option.some.injEq, Prod.mk.injEq] at H
    obtain ⟨rfl, rfl, rfl⟩ := H
    go_enter Tryd.func20, Tryd.ntmps20
    go_wp2_with (first | ((with_reducible refine gate_callee (f := 43) rfl ?_); refine gL (some 16) Tryd.func43 #[.int .u64 a0] ?_; (with_reducible refine (plumbref06_Split.calls a0 t423 t424 t425 t426 _ A2.out).mono ?_); rintro e w' ⟨rfl, ⟨nd, rfl⟩⟩; refine ⟨_, rfl, ?_⟩) | ((with_reducible refine gate_dst (N := 26) rfl ?_); refine Kd.R_lit (Kd.int .u64) _ 22 ?hg (N := 26) ?hd (xs := ([t424] : List Int)) (inner := [.int .u64 t424]) (ok := fun _ => True) (okp := fun _ => True) ?hr ?hp (fun _ hk => hk) trivial (Below.refl _ _) (Nat.le_refl _) (by simp) ?_; (case hd => rfl); (case hg => rfl); (case hr => first | (go_simp; done) | (go_simp; rfl)); (case hp => exact (Reps.one (show Kd.M (Kd.int .u64) _ _ _ t424 [.int .u64 t424] from rfl) (Reps.none _ _))); intro v428 w9 ho10 hb hg_ hnew_; clear hg_ hnew_; (first | rw [← Ny427.out] at ho10 | (simp only [Int.reduceToNat] at ho10; rw [← Ny427.out] at ho10)); have HO429 := aM (Kd.R_lower ho10 (below_size dB)); replace HB := hS HB.out hb; clear hb ho10; obtain ⟨Ao11, co11, rfl⟩ := Kd.R_slice HO429.out) | ((with_reducible refine gate_callee (f := 44) rfl ?_); refine gL (some 31) Tryd.func44 #[.slice Ao11 y427.length co11, .int .i64 t425] ?_; (with_reducible refine (plumbref03_Shl.calls k _ _ y427 t425 t430 _ ?side1 (Kd.R_reads' HO429.out).2.1 A6.out).mono ?_); (case side1 => exact dC (Kd.R_reads' HO429.out).2.2); rintro e w12 ⟨v431, rfl, ho0, hb⟩; refine ⟨_, rfl, ?_⟩; have HO432 := aM (Kd.R_lower (nW ho0 HO429.out) (below_size dB)); replace HO429 := oE HO429.out ho0 hb; replace HB := hS HB.out hb; (try clear hb); (try clear ho0); obtain ⟨Ao13, co13, rfl⟩ := Kd.R_slice HO432.out) | ((with_reducible refine gate_callee (f := 47) rfl ?_); refine gL (some 40) Tryd.func47 #[.slice Ao13 t430.length co13] ?_; (with_reducible refine (plumbref04_Trim.calls k _ _ t430 t433 t434 _ ?side1 (Kd.R_reads' HO432.out).2.1 A7.out).mono ?_); (case side1 => exact dC (Kd.R_reads' HO432.out).2.2); rintro e w14 ⟨v435, rfl, ho0, hb⟩; refine ⟨_, rfl, ?_⟩; have HO436 := aM (Kd.R_lower (nW (nW ho0 HO429.out) HO432.out) (below_size dB)); replace HO429 := oE HO429.out ho0 hb; replace HO432 := oE HO432.out ho0 hb; replace HB := hS HB.out hb; (try clear hb); (try clear ho0); obtain ⟨Ao15, co15, rfl⟩ := Kd.R_slice HO436.out) | ((with_reducible refine gate_callee (f := 48) rfl ?_); refine gL (some 45) Tryd.func48 #[.slice Ao15 t433.length co15, .int .i64 10] ?_; (with_reducible refine (plumbref04_Text.calls k _ _ t433 10 t437 t438 _ ?side1 (Kd.R_reads' HO436.out).2.1 A8.out).mono ?_); (case side1 => exact dC (Kd.R_reads' HO436.out).2.2); rintro e w16 ⟨rfl, hb⟩; refine ⟨_, rfl, ?_⟩; replace HO429 := oB HO429.out hb; replace HO432 := oB HO432.out hb; replace HO436 := oB HO436.out hb; replace HB := hS HB.out hb; (try clear hb)))
    go_ret3
    exact ⟨dE, dB⟩
   ·rw [if_neg c5] at H
    have c5b0 : decide (0 ≤ t425) = false := decide_eq_false c5
    clear c5
    replace H := oA H
    obtain ⟨t439, A17, H⟩ := H
    (try dsimp only at H)
    replace H := oA H
    obtain ⟨t442, A18, H⟩ := H
    (try dsimp only at H)
    replace H := oA H
    obtain ⟨⟨t445, t446⟩, A19, H⟩ := H
    (try dsimp only at H)
    replace H := oA H
    obtain ⟨⟨t449, t450⟩, A20, H⟩ := H
    (try dsimp only at H)
    simp only [Option.some.injEq, Prod.mk.injEq] at H
    obtain ⟨rfl, rfl, rfl⟩ := H
    go_enter Tryd.func20, Tryd.ntmps20
    go_wp2_with (first | ((with_reducible refine gate_callee (f := 43) rfl ?_); refine gL (some 16) Tryd.func43 #[.int .u64 a0] ?_; (with_reducible refine (plumbref06_Split.calls a0 t423 t424 t425 t426 _ A2.out).mono ?_); rintro e w' ⟨rfl, ⟨nd, rfl⟩⟩; refine ⟨_, rfl, ?_⟩) | ((with_reducible refine gate_dst (N := 26) rfl ?_); refine Kd.R_lit (Kd.int .u64) _ 22 ?hg (N := 26) ?hd (xs := ([t424] : List Int)) (inner := [.int .u64 t424]) (ok := fun _ => True) (okp := fun _ => True) ?hr ?hp (fun _ hk => hk) trivial (Below.refl _ _) (Nat.le_refl _) (by simp) ?_; (case hd => rfl); (case hg => rfl); (case hr => first | (go_simp; done) | (go_simp; rfl)); (case hp => exact (Reps.one (show Kd.M (Kd.int .u64) _ _ _ t424 [.int .u64 t424] from rfl) (Reps.none _ _))); intro v428 w21 ho22 hb hg_ hnew_; clear hg_ hnew_; (first | rw [← Ny427.out] at ho22 | (simp only [Int.reduceToNat] at ho22; rw [← Ny427.out] at ho22)); have HO429 := aM (Kd.R_lower ho22 (below_size dB)); replace HB := hS HB.out hb; clear hb ho22) | ((with_reducible refine gate_callee (f := 46) rfl ?_); refine gL (some 35) Tryd.func46 #[.int .u64 5, .int .i64 (wrap64 (-t425))] ?_; (with_reducible refine (plumbref04_Power.calls k 5 (wrap64 (-t425)) t439 _ A17.out).mono ?_); rintro e w23 ⟨v440, rfl, ho0, hb⟩; refine ⟨_, rfl, ?_⟩; have HO441 := aM (Kd.R_lower (nW ho0 HO429.out) (below_size dB)); replace HO429 := oE HO429.out ho0 hb; replace HB := hS HB.out hb; (try clear hb); (try clear ho0); obtain ⟨Ao24, co24, rfl⟩ := Kd.R_slice HO429.out; obtain ⟨Ao25, co25, rfl⟩ := Kd.R_slice HO441.out) | ((with_reducible refine gate_callee (f := 45) rfl ?_); refine gL (some 36) Tryd.func45 #[.slice Ao24 y427.length co24, .slice Ao25 t439.length co25] ?_; (with_reducible refine (plumbref03_Mul.calls k _ _ y427 _ _ t439 t442 _ ?side1 (Kd.R_reads' HO429.out).2.1 ?side3 (Kd.R_reads' HO441.out).2.1 A18.out).mono ?_); (case side1 => exact dC (Kd.R_reads' HO429.out).2.2); (case side3 => exact dC (Kd.R_reads' HO441.out).2.2); rintro e w26 ⟨v443, rfl, ho0, hb⟩; refine ⟨_, rfl, ?_⟩; have HO444 := aM (Kd.R_lower (nW (nW ho0 HO429.out) HO441.out) (below_size dB)); replace HO429 := oE HO429.out ho0 hb; replace HO441 := oE HO441.out ho0 hb; replace HB := hS HB.out hb; (try clear hb); (try clear ho0); obtain ⟨Ao27, co27, rfl⟩ := Kd.R_slice HO444.out) | ((with_reducible refine gate_callee (f := 47) rfl ?_); refine gL (some 40) Tryd.func47 #[.slice Ao27 t442.length co27] ?_; (with_reducible refine (plumbref04_Trim.calls k _ _ t442 t445 t446 _ ?side1 (Kd.R_reads' HO444.out).2.1 A19.out).mono ?_); (case side1 => exact dC (Kd.R_reads' HO444.out).2.2); rintro e w28 ⟨v447, rfl, ho0, hb⟩; refine ⟨_, rfl, ?_⟩; have HO448 := aM (Kd.R_lower (nW (nW (nW ho0 HO429.out) HO441.out) HO444.out) (below_size dB)); replace HO429 := oE HO429.out ho0 hb; replace HO441 := oE HO441.out ho0 hb; replace HO444 := oE HO444.out ho0 hb; replace HB := hS HB.out hb; (try clear hb); (try clear ho0); obtain ⟨Ao29, co29, rfl⟩ := Kd.R_slice HO448.out) | ((with_reducible refine gate_callee (f := 48) rfl ?_); refine gL (some 45) Tryd.func48 #[.slice Ao29 t445.length co29, .int .i64 10] ?_; (with_reducible refine (plumbref04_Text.calls k _ _ t445 10 t449 t450 _ ?side1 (Kd.R_reads' HO448.out).2.1 A20.out).mono ?_); (case side1 => exact dC (Kd.R_reads' HO448.out).2.2); rintro e w30 ⟨rfl, hb⟩; refine ⟨_, rfl, ?_⟩; replace HO429 := oB HO429.out hb; replace HO441 := oB HO441.out hb; replace HO444 := oB HO444.out hb; replace HO448 := oB HO448.out hb; replace HB := hS HB.out hb; (try clear hb)))
    go_ret3
    exact ⟨dE, dB⟩
 ·rw [if_neg c3] at H
  obtain ⟨c3b0, c3b1⟩ := bF c3
  simp only [Option.some.injEq, Prod.mk.injEq] at H
  obtain ⟨rfl, rfl, rfl⟩ := H
  go_enter Tryd.func20, Tryd.ntmps20
  go_wp2_with (first | ((with_reducible refine gate_callee (f := 43) rfl ?_); refine gL (some 16) Tryd.func43 #[.int .u64 a0] ?_; (with_reducible refine (plumbref06_Split.calls a0 t423 t424 t425 t426 _ A2.out).mono ?_); rintro e w' ⟨rfl, ⟨nd, rfl⟩⟩; refine ⟨_, rfl, ?_⟩))
  go_ret3
  exact ⟨dE, dB⟩
def plumbref13_zeros.l0 : Nat → Int → List Int → Int → Option (ByteArray)
 | 0, _, _, _ => none
 | k + 1, x0, x3, x4 => if x4 < x0 then (if x3.length < 140737488355328 then (plumbref13_zeros.l0 k x0 (x3 ++ [48]) (wrap64 (x4 + 1))) else (none)) else (some (strOfNums x3))
def plumbref13_zeros.f (k : Nat) (a0 : Int) : Option (ByteArray) := plumbref13_zeros.l0 k a0 ([] : List Int) 0
set_option maxHeartbeats 8000000 in
set_option maxRecDepth 100000 in
theorem plumbref13_zeros.calls (k : Nat) (a0 : Int) (r : ByteArray) (w : World) (h : plumbref13_zeros.f k a0 = some r) :
  Calls Tryd.prog 22 #[.int .i64 a0] w fun e w' => e = .returned (.string r) ∧ Below w.heap.size w w' := by
 have HB := aM (Below.refl w.heap.size w)
 have H := h
 clear h
 unfold plumbref13_zeros.f at H
 have H' := aM H
 clear H
 go_enter Tryd.func22, Tryd.ntmps22
 go_wp2
 go_loopg [3, 4] k (fun kq v3 v4 w' => ∃ (x3_1 : List Int) (x4_1 : Int), v4 = .int .i64 x4_1 ∧ Aside0 (plumbref13_zeros.l0 kq a0 x3_1 x4_1 = some r) ∧ Aside0 (kq ≤ k) ∧ Aside0 (Kd.R (Kd.int .u8) 5 w' w.heap.size (fun _ => True) v3 x3_1) ∧ Aside0 (Below w.heap.size w w'))
 case atStart => exact ⟨(([] : List Int)), (0), dF, H', ⟨Nat.le_refl _⟩, ⟨by first | exact Kd.R_nil _ _ _ _ _ | exact Kd.N_nil _ _ _ _ _ | exact Kd.V_nil _ _ _ _ _ | exact Kd.Q_nil _ _ _ _ _ | exact Kd.S_nil _ _ _ _ _⟩, ⟨dB⟩⟩
 case round =>
  clear H'
  obtain ⟨x3_1, x4_1, rfl, HA, HK1, HO_3, HB⟩ := hrel
  cases gk with
  | zero => exact absurd HA.out (by simp [plumbref13_zeros.l0])
  | succ k1 =>
   have H := HA.out
   clear HA
   simp only [plumbref13_zeros.l0] at H
   by_cases c2 : x4_1 < a0
   ·rw [if_pos c2] at H
    have c2b0 := decide_eq_true c2
    clear c2
    replace H := nO H
    obtain ⟨c3, H⟩ := H
    have LMc3 := aM c3
    clear c3
    obtain ⟨y451, hy451⟩ : ∃ y_ : List Int, y_ = (x3_1 ++ [48]) := ⟨_, rfl⟩
    replace H : (plumbref13_zeros.l0 k1 a0 y451 (wrap64 (x4_1 + 1))) = some r := by first | (rw [hy451]; with_reducible exact H) | (have H2_ := (Option.bind_some _ _).symm.trans H; rw [hy451]; with_reducible exact H2_) | (have H2_ := (Option.bind_some _ _).symm.trans H; with_reducible exact H2_) | with_reducible exact H | (rw [hy451]; exact H) | exact H
    have Ny451 := aM hy451
    clear hy451
    have H' := aM H
    clear H
    go_wp2_with (first | ((with_reducible refine gate_builtin (b := .append) (xs := #[.tmp 10, .tmp 11]) rfl ?_); at_builtin; refine Kd.R_append (Kd.int .u8) (w0 := w) w.heap.size rfl (.tmp 10) (.tmp 11) 45 5 (.int .u8 0) 1 rfl Tryd.underlying45 info5 rfl (by decide) (by omega) u3 x3_1 48 [.int .u8 48] (fun _ => True) (fun _ => False) rfl rfl ?aP (fun _ hk => hk.elim) ?aF ?aO ?aB ?aS ?aL ?_; (case aP => exact rfl); (case aB => exact dB); (case aF => exact (fun _ _ => trivial)); (case aO => exact (dR HO_3.out)); (case aS => exact (below_size dB)); (case aL => have := LMc3.out; omega); intro v452 w4 ho hb hg hat; rw [← Ny451.out] at ho; replace HB := aM (hb); have HO453 := aM (ho); clear HO_3; clear ho hb hg hat))
    go_roundg k1
    case measure => have := HK1.out; omega
    case rel => exact ⟨(y451), (wrap64 (x4_1 + 1)), dF, H', ⟨by have := HK1.out; omega⟩, ⟨dR HO453.out⟩, ⟨dB⟩⟩
   ·rw [if_neg c2] at H
    have c2b0 := decide_eq_false c2
    clear c2
    obtain rfl := Option.some.inj H
    have hcv5 := own_string (P := Tryd.prog) Tryd.underlying45 Tryd.underlying5 Tryd.underlying9 (Kd.own_of_R HO_3.out)
    go_wp2
    go_ret
    exact ⟨dE, dB⟩
def plumbref13_plus.l0 : Nat → List Int → Int → Option (ByteArray)
 | 0, _, _ => none
 | k + 1, x3, x4 => if x4 ≥ 0 then (if 0 ≤ x4 then (if x4 < (x3.length : Int) then (if (rd x3 x4) = 57 then (plumbref13_plus.l0 k (x3.set (x4 : Int).toNat 48) (wrap64 (x4 - 1))) else (if x4 < 0 then (if 1 + (strOfNums x3).size ≤ 9223372036854775807 then (some ((⟨#[49]⟩ : ByteArray) ++ (strOfNums x3))) else (none)) else (some (strOfNums (x3.set (x4 : Int).toNat (((rd x3 x4) + 1) % 256)))))) else (none)) else (none)) else (if x4 < 0 then (if 1 + (strOfNums x3).size ≤ 9223372036854775807 then (some ((⟨#[49]⟩ : ByteArray) ++ (strOfNums x3))) else (none)) else (if 0 ≤ x4 then (if x4 < (x3.length : Int) then (some (strOfNums (x3.set (x4 : Int).toNat (((rd x3 x4) + 1) % 256)))) else (none)) else (none)))
def plumbref13_plus.f (k : Nat) (a0 : ByteArray) : Option (ByteArray) := if a0.size ≤ 281474976710656 then ((some (bytesOfStr a0 : List Int)).bind fun y454 => (plumbref13_plus.l0 k y454 (wrap64 ((y454.length : Int) - 1)))) else (none)
set_option maxHeartbeats 8000000 in
set_option maxRecDepth 100000 in
theorem plumbref13_plus.calls (k : Nat) (a0 : ByteArray) (r : ByteArray) (w : World) (h : plumbref13_plus.f k a0 = some r) :
  Calls Tryd.prog 49 #[.string a0] w fun e w' => e = .returned (.string r) ∧ Below w.heap.size w w' := by
 have HB := aM (Below.refl w.heap.size w)
 have H := h
 clear h
 unfold plumbref13_plus.f at H
 replace H := nO H
 obtain ⟨c2, H⟩ := H
 have c2b0 := eq_true c2
 have c2b1 := decide_eq_true c2
 clear c2
 obtain ⟨y454, hy454⟩ : ∃ y_ : List Int, y_ = (bytesOfStr a0) := ⟨_, rfl⟩
 replace H : (plumbref13_plus.l0 k y454 (wrap64 ((y454.length : Int) - 1))) = some r := by first | (rw [hy454]; with_reducible exact H) | (have H2_ := (Option.bind_some _ _).symm.trans H; rw [hy454]; with_reducible exact H2_) | (have H2_ := (Option.bind_some _ _).symm.trans H; with_reducible exact H2_) | with_reducible exact H | (rw [hy454]; exact H) | exact H
 have Ny454 := aM hy454
 clear hy454
 have H' := aM H
 clear H
 go_enter Tryd.func49, Tryd.ntmps49
 go_wp2_with (first | ((with_reducible refine gate_dst (N := 6) rfl ?_); refine Kd.R_bytes _ 5 rfl (N := 6) rfl 9 45 _ rfl a0 rfl Tryd.underlying9 Tryd.underlying45 Tryd.underlying5 (ok := fun _ => True) trivial (of_decide_eq_true dS) (Below.refl _ _) (Nat.le_refl _) ?_; intro v455 w3 ho4 hb hg_ hnew_; clear hg_ hnew_; (first | rw [← Ny454.out] at ho4 | (simp only [Int.reduceToNat] at ho4; rw [← Ny454.out] at ho4)); have HO456 := aM (Kd.R_lower ho4 (below_size dB)); replace HB := hS HB.out hb; clear hb ho4; obtain ⟨Ao5, co5, rfl⟩ := Kd.R_slice HO456.out))
 go_loopg [4] k (fun kq v4 w' => ∃ (x3_1 : List Int) (x4_1 : Int), v4 = .int .i64 x4_1 ∧ Aside0 (plumbref13_plus.l0 kq x3_1 x4_1 = some r) ∧ Aside0 (kq ≤ k) ∧ Aside0 (Kd.R (Kd.int .u8) 5 w' w.heap.size (fun _ => True) (.slice Ao5 y454.length co5) x3_1) ∧ Aside0 (Below w.heap.size w w'))
 case atStart => exact ⟨(y454), (wrap64 ((y454.length : Int) - 1)), dF, H', ⟨Nat.le_refl _⟩, ⟨dR HO456.out⟩, ⟨dB⟩⟩
 case round =>
  clear H'
  try clear c2
  try clear c2b0 c2b1
  obtain ⟨x3_1, x4_1, rfl, HA, HK1, HO_3, HB⟩ := hrel
  have hl3_1 := (Kd.R_reads' HO_3.out).1
  rw [hl3_1] at HO_3
  (try simp only [hl3_1])
  cases gk with
  | zero => exact absurd HA.out (by simp [plumbref13_plus.l0])
  | succ k1 =>
   have H := HA.out
   clear HA
   simp only [plumbref13_plus.l0] at H
   by_cases c6 : x4_1 ≥ 0
   ·rw [if_pos c6] at H
    have c6b0 : decide (0 ≤ x4_1) = true := decide_eq_true c6
    clear c6
    replace H := nO H
    obtain ⟨c7, H⟩ := H
    have c7b0 : decide (0 ≤ x4_1) = true := decide_eq_true c7
    clear c7
    replace H := nO H
    obtain ⟨c8, H⟩ := H
    have c8b0 := decide_eq_true c8
    clear c8
    by_cases c9 : (rd x3_1 x4_1) = 57
    ·rw [if_pos c9] at H
     obtain ⟨c9b0, c9b1⟩ := bT c9
     clear c9
     obtain ⟨y458, hy458⟩ : ∃ y_ : List Int, y_ = (x3_1.set (x4_1 : Int).toNat 48) := ⟨_, rfl⟩
     replace H : (plumbref13_plus.l0 k1 y458 (wrap64 (x4_1 - 1))) = some r := by first | (rw [hy458]; with_reducible exact H) | (have H2_ := (Option.bind_some _ _).symm.trans H; rw [hy458]; with_reducible exact H2_) | (have H2_ := (Option.bind_some _ _).symm.trans H; with_reducible exact H2_) | with_reducible exact H | (rw [hy458]; exact H) | exact H
     have Ny458 := aM hy458
     clear hy458
     have H' := aM H
     clear H
     have p457 : 0 ≤ (x4_1 : Int) := of_decide_eq_true dS
     have q457 : x4_1 < (x3_1.length : Int) := of_decide_eq_true dS
     obtain ⟨ad457, e457, hx457_0⟩ := Kd.at_int (Kd.R_reads' HO_3.out).2.2 x4_1 p457 q457
     cases e457
     replace p457 := eq_true p457
     replace q457 := eq_true q457
     have p10 : 0 ≤ (x4_1 : Int) := of_decide_eq_true dS
     have q10 : (x4_1 : Int) < ((x3_1.length : Int) : Int) := of_decide_eq_true dS
     obtain ⟨go10, co10, eo10, gb10, gl10, cl10, HG10⟩ := Kd.R_form HO_3.out (by omega)
     (first | cases eo10 | (injection eo10 with ea_ en_ ec_; (first | subst ea_ | (injection ea_ with ea_; subst ea_)); subst ec_; clear en_))
     have GB10 := aM gb10
     have GG10 := aM HG10
     clear gb10 gl10 HG10
     (first | simp only [add_plain] at hx457_0 | skip)
     obtain ⟨hx10_0, hf10_0⟩ := Kd.R_celln 0 HO_3.out (x4_1 : Int) p10 q10
     replace p10 := eq_true p10
     replace q10 := eq_true q10
     have HP11 := Kd.R_putg HO_3.out (x4_1 : Int) 48
     go_wp2_with (first | ((with_reducible refine gate_store (t := 5) (p := 21) rfl ?_); refine store_event (t := 5) (p := 21) (v := ?vo_w12) (w1 := (wr.setCell ⟨go10, (x4_1 : Int).toNat, none⟩ (.int .u8 48))) ?hg ?ho ?hn ?hr ?_; (case ho => rfl); (case hg => rfl); (case hn => rfl); (case hr => first | (go_simp; done) | (go_simp; rfl)); intro w12 hw; have hg : wr.grownBy w12 (some go10) := (by rw [hw]; exact HP11.2); have hp_ : Kd.R (Kd.int .u8) 5 w12 w.heap.size (fun _ => True) (.slice (some ⟨go10, 0, none⟩) x3_1.length co5) y458 := (by rw [hw, Ny458.out]; exact HP11.1); clear HP11; replace HO_3 := aM (hp_); replace HB := aM ((by rw [hw]; exact below_set (HB.out) GB10.out : Below w.heap.size w w12)); clear hg hw hp_))
     (try simp only [← hl3_1])
     go_roundg k1
     case measure => have := HK1.out; omega
     case rel => exact ⟨(y458), (wrap64 (x4_1 - 1)), dF, H', ⟨by have := HK1.out; omega⟩, ⟨by (try simp only [hl3_1]); (with_reducible repeat (first | apply Kd.R_alloc | apply Kd.R_drewN | apply Kd.R_drew)); exact HO_3.out⟩, ⟨dB⟩⟩
    ·rw [if_neg c9] at H
     obtain ⟨c9b0, c9b1⟩ := bF c9
     by_cases c13 : x4_1 < 0
     ·rw [if_pos c13] at H
      have c13b0 := decide_eq_true c13
      clear c13
      replace H := nO H
      obtain ⟨c14, H⟩ := H
      have c14b0 := eq_true c14
      have c14b1 := decide_eq_true c14
      try have c14b2 : (9223372036854775807 < 1 + (strOfNums x3_1).size) = False := eq_false (Nat.not_lt.2 c14)
      obtain rfl := Option.some.inj H
      have p457 : 0 ≤ (x4_1 : Int) := of_decide_eq_true dS
      have q457 : x4_1 < (x3_1.length : Int) := of_decide_eq_true dS
      obtain ⟨ad457, e457, hx457_0⟩ := Kd.at_int (Kd.R_reads' HO_3.out).2.2 x4_1 p457 q457
      cases e457
      replace p457 := eq_true p457
      replace q457 := eq_true q457
      have hcv15 := own_string (P := Tryd.prog) Tryd.underlying45 Tryd.underlying5 Tryd.underlying9 (Kd.own_of_R HO_3.out)
      go_wp2
      go_ret
      exact ⟨dE, dB⟩
     ·rw [if_neg c13] at H
      have c13b0 := decide_eq_false c13
      clear c13
      obtain ⟨y460, hy460⟩ : ∃ y_ : List Int, y_ = (x3_1.set (x4_1 : Int).toNat (((rd x3_1 x4_1) + 1) % 256)) := ⟨_, rfl⟩
      replace H : (some (strOfNums y460)) = some r := by first | (rw [hy460]; with_reducible exact H) | (have H2_ := (Option.bind_some _ _).symm.trans H; rw [hy460]; with_reducible exact H2_) | (have H2_ := (Option.bind_some _ _).symm.trans H; with_reducible exact H2_) | with_reducible exact H | (rw [hy460]; exact H) | exact H
      have Ny460 := aM hy460
      clear hy460
      obtain rfl := Option.some.inj H
      have p457 : 0 ≤ (x4_1 : Int) := of_decide_eq_true dS
      have q457 : x4_1 < (x3_1.length : Int) := of_decide_eq_true dS
      obtain ⟨ad457, e457, hx457_0⟩ := Kd.at_int (Kd.R_reads' HO_3.out).2.2 x4_1 p457 q457
      cases e457
      replace p457 := eq_true p457
      replace q457 := eq_true q457
      have p459 : 0 ≤ (x4_1 : Int) := of_decide_eq_true dS
      have q459 : x4_1 < (x3_1.length : Int) := of_decide_eq_true dS
      obtain ⟨ad459, e459, hx459_0⟩ := Kd.at_int (Kd.R_reads' HO_3.out).2.2 x4_1 p459 q459
      obtain rfl : ad457 = ad459 := (by injection e459)
      replace p459 := eq_true p459
      replace q459 := eq_true q459
      have p16 : 0 ≤ (x4_1 : Int) := of_decide_eq_true dS
      have q16 : (x4_1 : Int) < ((x3_1.length : Int) : Int) := of_decide_eq_true dS
      obtain ⟨go16, co16, eo16, gb16, gl16, cl16, HG16⟩ := Kd.R_form HO_3.out (by omega)
      (first | cases eo16 | (injection eo16 with ea_ en_ ec_; (first | subst ea_ | (injection ea_ with ea_; subst ea_)); subst ec_; clear en_))
      have GB16 := aM gb16
      have GG16 := aM HG16
      clear gb16 gl16 HG16
      (first | simp only [add_plain] at hx457_0 | skip)
      (first | simp only [add_plain] at hx459_0 | skip)
      obtain ⟨hx16_0, hf16_0⟩ := Kd.R_celln 0 HO_3.out (x4_1 : Int) p16 q16
      replace p16 := eq_true p16
      replace q16 := eq_true q16
      have HP17 := Kd.R_putg HO_3.out (x4_1 : Int) (((rd x3_1 x4_1) + 1) % 256)
      go_wp2_with (first | ((with_reducible refine gate_store (t := 5) (p := 34) rfl ?_); refine store_event (t := 5) (p := 34) (v := ?vo_w18) (w1 := (wr.setCell ⟨go16, (x4_1 : Int).toNat, none⟩ (.int .u8 (((rd x3_1 x4_1) + 1) % 256)))) ?hg ?ho ?hn ?hr ?_; (case ho => rfl); (case hg => rfl); (case hn => rfl); (case hr => first | (go_simp; done) | (go_simp; rfl)); intro w18 hw; have hg : wr.grownBy w18 (some go16) := (by rw [hw]; exact HP17.2); have hp_ : Kd.R (Kd.int .u8) 5 w18 w.heap.size (fun _ => True) (.slice (some ⟨go16, 0, none⟩) x3_1.length co5) y460 := (by rw [hw, Ny460.out]; exact HP17.1); clear HP17; replace HO_3 := aM (hp_); replace HB := aM ((by rw [hw]; exact below_set (HB.out) GB16.out : Below w.heap.size w w18)); clear hg hw hp_; have hcv19 := own_string (P := Tryd.prog) Tryd.underlying45 Tryd.underlying5 Tryd.underlying9 (Kd.own_of_R HO_3.out)))
      go_ret
      exact ⟨dE, dB⟩
   ·rw [if_neg c6] at H
    have c6b0 : decide (0 ≤ x4_1) = false := decide_eq_false c6
    clear c6
    by_cases c20 : x4_1 < 0
    ·rw [if_pos c20] at H
     have c20b0 := decide_eq_true c20
     clear c20
     replace H := nO H
     obtain ⟨c21, H⟩ := H
     have c21b0 := eq_true c21
     have c21b1 := decide_eq_true c21
     try have c21b2 : (9223372036854775807 < 1 + (strOfNums x3_1).size) = False := eq_false (Nat.not_lt.2 c21)
     obtain rfl := Option.some.inj H
     have hcv22 := own_string (P := Tryd.prog) Tryd.underlying45 Tryd.underlying5 Tryd.underlying9 (Kd.own_of_R HO_3.out)
     go_wp2
     go_ret
     exact ⟨dE, dB⟩
    ·rw [if_neg c20] at H
     have c20b0 := decide_eq_false c20
     clear c20
     replace H := nO H
     obtain ⟨c23, H⟩ := H
     have c23b0 : decide (0 ≤ x4_1) = true := decide_eq_true c23
     exact absurd (c23b0.symm.trans c6b0) (by decide)
mutual
def plumbref13_rounded.j0 : Nat → ByteArray → Int → ByteArray → Bool → Option (ByteArray)
 | 0, _, _, _, _ => none
 | k + 1, x0, x1, x5, x7 => plumbref13_rounded.l0 k x0 x5 (!x7) (wrap64 (x1 + 1))
def plumbref13_rounded.l0 : Nat → ByteArray → ByteArray → Bool → Int → Option (ByteArray)
 | 0, _, _, _, _ => none
 | k + 1, x0, x5, x6, x8 => if x8 < (x0.size : Int) then (if x6 = true then (plumbref13_rounded.l0 k x0 x5 true (wrap64 (x8 + 1))) else (if 0 ≤ x8 then (plumbref13_rounded.l0 k x0 x5 ((bt x0 x8) != 48) (wrap64 (x8 + 1))) else (none))) else (if x6 = true then ((plumbref13_plus.f k x5).bind fun t464 => (some t464)) else (some x5))
end
def plumbref13_rounded.f (k : Nat) (a0 : ByteArray) (a1 : Int) : Option (ByteArray) := if a1 ≥ (a0.size : Int) then ((plumbref13_zeros.f k (wrap64 (a1 - (a0.size : Int)))).bind fun t463 => (if a0.size + t463.size ≤ 9223372036854775807 then (some (a0 ++ t463)) else (none))) else (if 0 ≤ a1 then (if a1 ≤ (a0.size : Int) then (if a1 < (a0.size : Int) then (if (bt a0 a1) = 53 then (if a1 = 0 then (plumbref13_rounded.j0 k a0 a1 (a0.extract 0 (a1 : Int).toNat) true) else (if 0 ≤ (wrap64 (a1 - 1)) then (if (wrap64 (a1 - 1)) < (a0.size : Int) then (plumbref13_rounded.j0 k a0 a1 (a0.extract 0 (a1 : Int).toNat) (((((bt a0 (wrap64 (a1 - 1))) - 48) % 256) % 2) == 0)) else (none)) else (none))) else (if (bt a0 a1) > 53 then ((plumbref13_plus.f k (a0.extract 0 (a1 : Int).toNat)).bind fun t465 => (some t465)) else (some (a0.extract 0 (a1 : Int).toNat)))) else (none)) else (none)) else (none))
set_option maxHeartbeats 8000000 in
set_option maxRecDepth 100000 in
theorem plumbref13_rounded.calls (k : Nat) (a0 : ByteArray) (a1 : Int) (r : ByteArray) (w : World) (h : plumbref13_rounded.f k a0 a1 = some r) :
  Calls Tryd.prog 21 #[.string a0, .int .i64 a1] w fun e w' => e = .returned (.string r) ∧ Below w.heap.size w w' := by
 have HB := aM (Below.refl w.heap.size w)
 have H := h
 clear h
 unfold plumbref13_rounded.f at H
 by_cases c3 : a1 ≥ (a0.size : Int)
 ·rw [if_pos c3] at H
  have c3b0 : decide ((a0.size : Int) ≤ a1) = true := decide_eq_true c3
  clear c3
  replace H := oA H
  obtain ⟨t463, A4, H⟩ := H
  (try dsimp only at H)
  replace H := nO H
  obtain ⟨c5, H⟩ := H
  have c5b0 := eq_true c5
  have c5b1 := decide_eq_true c5
  try have c5b2 : (9223372036854775807 < a0.size + t463.size) = False := eq_false (Nat.not_lt.2 c5)
  obtain rfl := Option.some.inj H
  go_enter Tryd.func21, Tryd.ntmps21
  go_wp2_with (first | ((with_reducible refine gate_callee (f := 22) rfl ?_); refine gL (some 18) Tryd.func22 #[.int .i64 (wrap64 (a1 - (a0.size : Int)))] ?_; (with_reducible refine (plumbref13_zeros.calls k (wrap64 (a1 - (a0.size : Int))) t463 _ A4.out).mono ?_); rintro e w6 ⟨rfl, hb⟩; refine ⟨_, rfl, ?_⟩; replace HB := hS HB.out hb; (try clear hb)))
  go_ret
  exact ⟨dE, dB⟩
 ·rw [if_neg c3] at H
  have c3b0 : decide ((a0.size : Int) ≤ a1) = false := decide_eq_false c3
  clear c3
  replace H := nO H
  obtain ⟨c7, H⟩ := H
  have c7b0 := eq_true c7
  have c7b1 : decide (0 ≤ a1) = true := decide_eq_true c7
  clear c7
  replace H := nO H
  obtain ⟨c8, H⟩ := H
  have c8b0 := eq_true c8
  have c8b1 := decide_eq_true c8
  clear c8
  replace H := nO H
  obtain ⟨c9, H⟩ := H
  have c9b0 := decide_eq_true c9
  clear c9
  by_cases c12 : (bt a0 a1) = 53
  ·rw [if_pos c12] at H
   obtain ⟨c12b0, c12b1⟩ := bT c12
   clear c12
   have HC13 := aM H
   clear H
   have p10 : 0 ≤ (a1 : Int) := of_decide_eq_true dS
   have q10 : a1 < (a0.size : Int) := of_decide_eq_true dS
   have hx10 := bt_at a0 a1
   replace p10 := eq_true p10
   replace q10 := eq_true q10
   have p11 : 0 ≤ (a1 : Int) := of_decide_eq_true dS
   have q11 : a1 < (a0.size : Int) := of_decide_eq_true dS
   have hx11 := bt_at a0 a1
   replace p11 := eq_true p11
   replace q11 := eq_true q11
   go_enter Tryd.func21, Tryd.ntmps21
   go_upto_region 6 with (fail)
   go_cut [7] (fun v7 wc => ∃ (kq : Nat) (x7_12 : Bool), v7 = .bool x7_12 ∧ Aside0 (plumbref13_rounded.j0 kq a0 a1 (a0.extract 0 (a1 : Int).toNat) x7_12 = some r) ∧ Aside0 (kq ≤ k) ∧ Aside0 (Below w.heap.size w wc))
   case first =>
    have H := HC13.out
    clear HC13
    by_cases c14 : a1 = 0
    ·rw [if_pos c14] at H
     obtain ⟨c14b0, c14b1⟩ := bT c14
     clear c14
     (first | rw [c14b0] | (simp only [i64_w, i32_w]; rw [c14b0]) | skip)
     have H' := aM H
     clear H
     go_wp2
     go_meet
     case rel => exact ⟨_, (true), dF, H', ⟨dN⟩, ⟨dB⟩⟩
    ·rw [if_neg c14] at H
     obtain ⟨c14b0, c14b1⟩ := bF c14
     (first | rw [c14b0] | (simp only [i64_w, i32_w]; rw [c14b0]) | skip)
     obtain ⟨ji15, hji15⟩ : ∃ j_ : Int, (wrap64 (a1 - 1)) = j_ := ⟨_, rfl⟩
     first | rw [hji15] at H | simp only [hji15] at H
     have hji15w : (IntKind.i64.wrap (a1 - 1)) = ji15 := (i64_w _).trans hji15
     replace H := nO H
     obtain ⟨c16, H⟩ := H
     have c16b0 : decide (0 ≤ (ji15)) = true := decide_eq_true c16
     clear c16
     replace H := nO H
     obtain ⟨c17, H⟩ := H
     have c17b0 := decide_eq_true c17
     clear c17
     have H' := aM H
     clear H
     have p18 : 0 ≤ ((ji15) : Int) := of_decide_eq_true dS
     have q18 : (ji15) < (a0.size : Int) := of_decide_eq_true dS
     have hx18 := bt_at a0 (ji15)
     replace p18 := eq_true p18
     replace q18 := eq_true q18
     go_wp2
     go_meet
     case rel => exact ⟨_, ((((((bt a0 (ji15)) - 48) % 256) % 2) == 0)), (by first | rfl | (simp; done) | (simp only [← hji15] <;> (first | rfl | simp)) | (simp [*]; done)), H', ⟨dN⟩, ⟨dB⟩⟩
   case rest =>
    clear HC13
    try clear c3
    try clear c3b0
    try clear c7
    try clear c7b0 c7b1
    try clear c8
    try clear c8b0 c8b1
    try clear c9
    try clear c9b0
    try clear p10
    try clear q10
    try clear hx10
    try clear p11
    try clear q11
    try clear hx11
    try clear c12
    try clear c12b0 c12b1
    try clear p10
    try clear p11
    try clear q10
    try clear q11
    obtain ⟨kq, x7_12, rfl, HA, HJ12, HB⟩ := hcut
    cases kq with
    | zero => exact absurd HA.out (by simp [plumbref13_rounded.j0])
    | succ kj12 =>
     have H := HA.out
     clear HA
     simp only [plumbref13_rounded.j0] at H
     have H' := aM H
     clear H
     go_wp2
     go_loopg [6, 8] kj12 (fun kq v6 v8 w' => ∃ (x6_2 : Bool) (x8_2 : Int), v6 = .bool x6_2 ∧ v8 = .int .i64 x8_2 ∧ Aside0 (plumbref13_rounded.l0 kq a0 (a0.extract 0 (a1 : Int).toNat) x6_2 x8_2 = some r) ∧ Aside0 (kq ≤ kj12) ∧ Aside0 (Below w.heap.size w w'))
     case atStart => exact ⟨(!x7_12), (wrap64 (a1 + 1)), dF, dF, H', ⟨Nat.le_refl _⟩, ⟨dB⟩⟩
     case round =>
      clear H'
      try clear c3
      try clear c3b0
      try clear c7
      try clear c7b0 c7b1
      try clear c8
      try clear c8b0 c8b1
      try clear c9
      try clear c9b0
      try clear p10
      try clear q10
      try clear hx10
      try clear p11
      try clear q11
      try clear hx11
      try clear c12
      try clear c12b0 c12b1
      try clear p10
      try clear p11
      try clear q10
      try clear q11
      obtain ⟨x6_2, x8_2, rfl, rfl, HA, HK2, HB⟩ := hrel
      cases gk with
      | zero => exact absurd HA.out (by simp [plumbref13_rounded.l0])
      | succ k2 =>
       have H := HA.out
       clear HA
       simp only [plumbref13_rounded.l0] at H
       by_cases c19 : x8_2 < (a0.size : Int)
       ·rw [if_pos c19] at H
        have c19b0 := decide_eq_true c19
        clear c19
        by_cases c20 : x6_2 = true
        ·subst c20
         rw [if_pos rfl] at H
         (try dsimp only at H)
         have H' := aM H
         clear H
         go_wp2
         go_roundg k2
         case measure => have := HJ12.out; have := HK2.out; omega
         case rel => exact ⟨(true), (wrap64 (x8_2 + 1)), dF, dF, H', ⟨by have := HJ12.out; have := HK2.out; omega⟩, ⟨dB⟩⟩
        ·replace c20 := Bool.eq_false_iff.mpr c20
         subst c20
         rw [if_neg (show ¬ (false = true) by decide)] at H
         (try dsimp only at H)
         replace H := nO H
         obtain ⟨c21, H⟩ := H
         have c21b0 : decide (0 ≤ x8_2) = true := decide_eq_true c21
         clear c21
         have H' := aM H
         clear H
         have p22 : 0 ≤ (x8_2 : Int) := of_decide_eq_true dS
         have q22 : x8_2 < (a0.size : Int) := of_decide_eq_true dS
         have hx22 := bt_at a0 x8_2
         replace p22 := eq_true p22
         replace q22 := eq_true q22
         go_wp2
         go_roundg k2
         case measure => have := HJ12.out; have := HK2.out; omega
         case rel => exact ⟨(((bt a0 x8_2) != 48)), (wrap64 (x8_2 + 1)), dF, dF, H', ⟨by have := HJ12.out; have := HK2.out; omega⟩, ⟨dB⟩⟩
       ·rw [if_neg c19] at H
        have c19b0 := decide_eq_false c19
        clear c19
        by_cases c23 : x6_2 = true
        ·subst c23
         rw [if_pos rfl] at H
         (try dsimp only at H)
         replace H := oA H
         obtain ⟨t464, A24, H⟩ := H
         (try dsimp only at H)
         obtain rfl := Option.some.inj H
         go_wp2_with (first | ((with_reducible refine gate_callee (f := 49) rfl ?_); refine gL (some 61) Tryd.func49 #[.string (a0.extract 0 (a1 : Int).toNat)] ?_; (with_reducible refine (plumbref13_plus.calls k2 (a0.extract 0 (a1 : Int).toNat) t464 _ A24.out).mono ?_); rintro e w25 ⟨rfl, hb⟩; refine ⟨_, rfl, ?_⟩; replace HB := hS HB.out hb; (try clear hb)))
         go_ret
         exact ⟨dE, dB⟩
        ·replace c23 := Bool.eq_false_iff.mpr c23
         subst c23
         rw [if_neg (show ¬ (false = true) by decide)] at H
         (try dsimp only at H)
         obtain rfl := Option.some.inj H
         go_wp2
         go_ret
         exact ⟨dE, dB⟩
  ·rw [if_neg c12] at H
   obtain ⟨c12b0, c12b1⟩ := bF c12
   by_cases c26 : (bt a0 a1) > 53
   ·rw [if_pos c26] at H
    have c26b0 : decide (53 < (bt a0 a1)) = true := decide_eq_true c26
    clear c26
    replace H := oA H
    obtain ⟨t465, A27, H⟩ := H
    (try dsimp only at H)
    obtain rfl := Option.some.inj H
    have p10 : 0 ≤ (a1 : Int) := of_decide_eq_true dS
    have q10 : a1 < (a0.size : Int) := of_decide_eq_true dS
    have hx10 := bt_at a0 a1
    replace p10 := eq_true p10
    replace q10 := eq_true q10
    have p11 : 0 ≤ (a1 : Int) := of_decide_eq_true dS
    have q11 : a1 < (a0.size : Int) := of_decide_eq_true dS
    have hx11 := bt_at a0 a1
    replace p11 := eq_true p11
    replace q11 := eq_true q11
    go_enter Tryd.func21, Tryd.ntmps21
    go_wp2_with (first | ((with_reducible refine gate_callee (f := 49) rfl ?_); refine gL (some 61) Tryd.func49 #[.string (a0.extract 0 (a1 : Int).toNat)] ?_; (with_reducible refine (plumbref13_plus.calls k (a0.extract 0 (a1 : Int).toNat) t465 _ A27.out).mono ?_); rintro e w28 ⟨rfl, hb⟩; refine ⟨_, rfl, ?_⟩; replace HB := hS HB.out hb; (try clear hb)))
    go_ret
    exact ⟨dE, dB⟩
   ·rw [if_neg c26] at H
    have c26b0 : decide (53 < (bt a0 a1)) = false := decide_eq_false c26
    clear c26
    obtain rfl := Option.some.inj H
    have p10 : 0 ≤ (a1 : Int) := of_decide_eq_true dS
    have q10 : a1 < (a0.size : Int) := of_decide_eq_true dS
    have hx10 := bt_at a0 a1
    replace p10 := eq_true p10
    replace q10 := eq_true q10
    have p11 : 0 ≤ (a1 : Int) := of_decide_eq_true dS
    have q11 : a1 < (a0.size : Int) := of_decide_eq_true dS
    have hx11 := bt_at a0 a1
    replace p11 := eq_true p11
    replace q11 := eq_true q11
    go_enter Tryd.func21, Tryd.ntmps21
    go_wp2
    go_ret
    exact ⟨dE, dB⟩
end Go.Proofs.YthjleohmlohgbaaDoor.PA
