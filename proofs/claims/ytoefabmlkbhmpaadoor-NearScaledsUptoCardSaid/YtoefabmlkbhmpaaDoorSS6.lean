/- A part of the proof (6). -/
import Derived.Test.YtoefabmlkbhmpaaDoorSS2
import Derived.Test.YtoefabmlkbhmpaaDoorSS4
import Derived.Test.YtoefabmlkbhmpaaDoorSS5
namespace Go.Proofs.YtoefabmlkbhmpaaDoor.PA
open Go.RowKit Go.Proofs.YtoefabmlkbhmpaaDoorW.PrintWords Go.Proofs.YtoefabmlkbhmpaaDoorW.PrintLast Go.Proofs.YtoefabmlkbhmpaaDoorW.PrintMore
attribute [local go_sem] max2_int min2_int max_two min_two max_three min_three max_four min_four   -- for this text's walks alone
set_option linter.unusedVariables false
set_option linter.unusedSimpArgs false

/-! ### plumbref07_Q_round: function 49 -/
def plumbref07_Q_round.j0 : Nat → Bool → Int → Bool → Option (Int × Int)
 | 0, _, _, _ => none
 | k + 1, x1, x8, x29 => if x29 = true then (if x8 = 9218868437227405311 then (some (0, 70)) else (if x1 = true then (some (Go.bits .or .u64 (IntKind.u64.wrap (x8 + 1)) 9223372036854775808, 0)) else (some (IntKind.u64.wrap (x8 + 1), 0)))) else (if x1 = true then (some (Go.bits .or .u64 x8 9223372036854775808, 0)) else (some (x8, 0)))
def plumbref07_Q_round.f (k : Nat) (l0_0 : List Int) (l0_1 : List Int) (a0_2 : Int) (a0_3 : Bool) (a1 : Bool) (a2 : Int) : Option (Int × Int) := (plumbref07_Q_below.f k l0_0 l0_1 a0_2 a0_3).bind fun t227 => ((plumbref07_parts.f t227).bind fun bt228 => ((plumbref07_Q_against.f k l0_0 l0_1 a0_2 a0_3 bt228.1 bt228.2).bind fun t230 => (if t230 = 0 then (plumbref07_Q_round.j0 k a1 t227 false) else ((plumbref07_Q_up.f k l0_0 l0_1 a0_2 a0_3 a1 t227 a2).bind fun t231 => (plumbref07_Q_round.j0 k a1 t227 t231)))))
theorem plumbref07_Q_round.mono_l : ∀ k, (∀ y0 y1 y2, LeO (plumbref07_Q_round.j0 k y0 y1 y2) (plumbref07_Q_round.j0 (k + 1) y0 y1 y2))
 | 0 => fun _ _ _ r h => by simp [plumbref07_Q_round.j0] at h
 | k + 1 => by
  have ih0 := plumbref07_Q_round.mono_l k
  ·intro y0 y1 y2
   unfold plumbref07_Q_round.j0
   repeat' first
   | (with_reducible exact ih0 _ _ _)
   | (with_reducible exact plumbref07_Q_against.mono _ _ _ _ _ _ _)
   | (with_reducible exact plumbref07_Q_below.mono _ _ _ _ _)
   | (with_reducible exact plumbref07_Q_up.mono _ _ _ _ _ _ _ _)
   | (with_reducible exact LeO.refl _)
   | (with_reducible exact LeO.none _)
   | (with_reducible refine LeO.ite ?_ ?_)
   | (with_reducible refine LeO.bind ?_ (fun _ => ?_))
   | exact ih0 _ _ _
   | exact plumbref07_Q_against.mono _ _ _ _ _ _ _
   | exact plumbref07_Q_below.mono _ _ _ _ _
   | exact plumbref07_Q_up.mono _ _ _ _ _ _ _ _
   | exact LeO.none _
   | refine LeO.ite ?_ ?_
   | refine LeO.bind ?_ (fun _ => ?_)
theorem plumbref07_Q_round.mono : ∀ a0 a1 a2 a3 a4 a5 k, LeO (plumbref07_Q_round.f k a0 a1 a2 a3 a4 a5) (plumbref07_Q_round.f (k + 1) a0 a1 a2 a3 a4 a5) := by
 intro a0 a1 a2 a3 a4 a5 k
 have ih0 := plumbref07_Q_round.mono_l k
 unfold plumbref07_Q_round.f
 repeat' first
   | (with_reducible exact ih0 _ _ _)
   | (with_reducible exact plumbref07_Q_against.mono _ _ _ _ _ _ _)
   | (with_reducible exact plumbref07_Q_below.mono _ _ _ _ _)
   | (with_reducible exact plumbref07_Q_up.mono _ _ _ _ _ _ _ _)
   | (with_reducible exact LeO.refl _)
   | (with_reducible exact LeO.none _)
   | (with_reducible refine LeO.ite ?_ ?_)
   | (with_reducible refine LeO.bind ?_ (fun _ => ?_))
   | exact ih0 _ _ _
   | exact plumbref07_Q_against.mono _ _ _ _ _ _ _
   | exact plumbref07_Q_below.mono _ _ _ _ _
   | exact plumbref07_Q_up.mono _ _ _ _ _ _ _ _
   | exact LeO.none _
   | refine LeO.ite ?_ ?_
   | refine LeO.bind ?_ (fun _ => ?_)
set_option maxHeartbeats 8000000 in
set_option maxRecDepth 100000 in
theorem plumbref07_Q_round.calls (k : Nat) (A0_0 : Option Addr) (c0_0 : Nat) (l0_0 : List Int) (A0_1 : Option Addr) (c0_1 : Nat) (l0_1 : List Int) (a0_2 : Int) (a0_3 : Bool) (a1 : Bool) (a2 : Int) (r1 : Int) (r2 : Int) (w : World) (hr0_0 : Kd.C (Kd.int .u64) w A0_0 l0_0.length l0_0) (hc0_0 : l0_0.length ≤ c0_0) (hr0_1 : Kd.C (Kd.int .u64) w A0_1 l0_1.length l0_1) (hc0_1 : l0_1.length ≤ c0_1) (h : plumbref07_Q_round.f k l0_0 l0_1 a0_2 a0_3 a1 a2 = some (r1, r2)) :
  Calls Tryd.prog 49 #[.agg #[.slice A0_0 l0_0.length c0_0, .slice A0_1 l0_1.length c0_1, .int .i64 a0_2, .bool a0_3], .bool a1, .int .i64 a2] w fun e w' => e = .returned (.tuple #[.int .u64 r1, .int .i64 r2]) ∧ Below w.heap.size w w' := by
 have hu77 := Tryd.underlying77
 have HR0_0 := Aside0.mk hr0_0
 have HC0_0 := Aside0.mk hc0_0
 clear hr0_0 hc0_0
 have HR0_1 := Aside0.mk hr0_1
 have HC0_1 := Aside0.mk hc0_1
 clear hr0_1 hc0_1
 have HB := Aside0.mk (Below.refl w.heap.size w)
 have H : ((plumbref07_Q_below.f k l0_0 l0_1 a0_2 a0_3).bind fun t227 => ((plumbref07_parts.f t227).bind fun bt228 => ((plumbref07_Q_against.f k l0_0 l0_1 a0_2 a0_3 bt228.1 bt228.2).bind fun t230 => (if t230 = 0 then (plumbref07_Q_round.j0 k a1 t227 false) else ((plumbref07_Q_up.f k l0_0 l0_1 a0_2 a0_3 a1 t227 a2).bind fun t231 => (plumbref07_Q_round.j0 k a1 t227 t231)))))) = some (r1, r2) := h
 clear h
 replace H := obe H
 obtain ⟨t227, A40, H⟩ := H
 replace H : ((plumbref07_parts.f t227).bind fun bt228 => ((plumbref07_Q_against.f k l0_0 l0_1 a0_2 a0_3 bt228.1 bt228.2).bind fun t230 => (if t230 = 0 then (plumbref07_Q_round.j0 k a1 t227 false) else ((plumbref07_Q_up.f k l0_0 l0_1 a0_2 a0_3 a1 t227 a2).bind fun t231 => (plumbref07_Q_round.j0 k a1 t227 t231))))) = some (r1, r2) := H
 have A4 := Aside0.mk A40
 clear A40
 replace H := obe H
 obtain ⟨⟨t228, t229⟩, A50, H⟩ := H
 replace H : ((plumbref07_Q_against.f k l0_0 l0_1 a0_2 a0_3 t228 t229).bind fun t230 => (if t230 = 0 then (plumbref07_Q_round.j0 k a1 t227 false) else ((plumbref07_Q_up.f k l0_0 l0_1 a0_2 a0_3 a1 t227 a2).bind fun t231 => (plumbref07_Q_round.j0 k a1 t227 t231)))) = some (r1, r2) := H
 have A5 := Aside0.mk A50
 clear A50
 have HC6 := Aside0.mk H
 clear H
 go_enter Tryd.func49, Tryd.ntmps49
 go_upto_region 3 with (first | ((with_reducible refine gate_dst (N := 3) rfl ?_); refine box_event ?hg (N := 3) ?hd (cs := #[.slice A0_0 l0_0.length c0_0, .slice A0_1 l0_1.length c0_1, .int .i64 a0_2, .bool a0_3]) (t := 77) ?hr ?_; (case hd => rfl); (case hg => rfl); (case hr => first | (go_simp; done) | (go_simp; rfl)); intro gb226 hg w7 hbox hb; have BK226 := Aside0.mk (hbox); have GW226 := Aside0.mk ((by rw [hg]; exact (below_size dB) : w.heap.size ≤ gb226)); have GE226 := Aside0.mk ((by rw [hg]; exact (below_size dB) : w.heap.size ≤ gb226)); replace HB := Aside0.mk (below_step dB hb); clear hb hbox hg; have hcz8_0 : w7.cell? ⟨gb226, 0, none⟩ = some (.slice A0_0 l0_0.length c0_0) := (blk_cell BK226.out 0).trans rfl; have hcz8_1 : w7.cell? ⟨gb226, 1, none⟩ = some (.slice A0_1 l0_1.length c0_1) := (blk_cell BK226.out 1).trans rfl; have hcz8_2 : w7.cell? ⟨gb226, 2, none⟩ = some (.int .i64 a0_2) := (blk_cell BK226.out 2).trans rfl; have hcz8_3 : w7.cell? ⟨gb226, 3, none⟩ = some (.bool a0_3) := (blk_cell BK226.out 3).trans rfl; have hfz8_0 := blk_frozen BK226.out 0; have hfz8_1 := blk_frozen BK226.out 1; have hfz8_2 := blk_frozen BK226.out 2; have hfz8_3 := blk_frozen BK226.out 3) | ((with_reducible refine gate_callee (f := 87) rfl ?_); refine gL (some 12) Tryd.func87 #[.agg #[.slice A0_0 l0_0.length c0_0, .slice A0_1 l0_1.length c0_1, .int .i64 a0_2, .bool a0_3]] ?_; (with_reducible refine (plumbref07_Q_below.calls k _ _ l0_0 _ _ l0_1 a0_2 a0_3 t227 _ ?side1 ?side2 ?side3 ?side4 A4.out).mono ?_); (case side1 => exact dC (Kd.C_below HR0_0.out HB.out)); (case side2 => exact HC0_0.out); (case side3 => exact dC (Kd.C_below HR0_1.out HB.out)); (case side4 => exact HC0_1.out); rintro e w9 ⟨rfl, hb⟩; refine ⟨_, rfl, ?_⟩; replace BK226 := Aside0.mk (blk_below (g := gb226) (o := .cells #[.slice A0_0 l0_0.length c0_0, .slice A0_1 l0_1.length c0_1, .int .i64 a0_2, .bool a0_3] 77 (0, 0)) (dK BK226.out) hb); replace HB := Aside0.mk (below_step (dG GE226.out) hb); (try clear hb)) | ((with_reducible refine gate_callee (f := 88) rfl ?_); refine gL (some 15) Tryd.func88 #[.int .u64 t227] ?_; (with_reducible refine (plumbref07_parts.calls t227 t228 t229 _ A5.out).mono ?_); rintro e w' ⟨rfl, ⟨nd, rfl⟩⟩; refine ⟨_, rfl, ?_⟩))
 (try simp only [Act.put, List.setIfInBounds_toArray, List.set_cons_zero, List.set_cons_succ])
 go_cut [29] (fun v29 wc => ∃ (kq : Nat) (x29_5 : Bool), v29 = .bool x29_5 ∧ Aside0 (plumbref07_Q_round.j0 kq a1 t227 x29_5 = some (r1, r2)) ∧ Aside0 (kq ≤ k) ∧ Aside0 (wc.heap[gb226]? = some (.cells #[(.slice A0_0 l0_0.length c0_0), (.slice A0_1 l0_1.length c0_1), .int .i64 a0_2, .bool a0_3] 77 (0, 0))) ∧ Aside0 (Below w.heap.size w wc))
 case first =>
  have H := HC6.out
  clear HC6
  replace H := obe H
  obtain ⟨t230, A100, H⟩ := H
  replace H : (if t230 = 0 then (plumbref07_Q_round.j0 k a1 t227 false) else ((plumbref07_Q_up.f k l0_0 l0_1 a0_2 a0_3 a1 t227 a2).bind fun t231 => (plumbref07_Q_round.j0 k a1 t227 t231))) = some (r1, r2) := H
  have A10 := Aside0.mk A100
  clear A100
  by_cases c11 : t230 = 0
  ·rw [if_pos c11] at H
   have c11b0 : (t230 == 0) = true := beq_iff_eq.mpr c11
   have c11b1 : (t230 != 0) = false := bne_eq_false_iff_eq.mpr c11
   clear c11
   (first | rw [c11b0] | (simp only [i64_w, i32_w]; rw [c11b0]) | skip)
   have H' := Aside0.mk H
   clear H
   have hcz12_0 : w9.cell? ⟨gb226, 0, none⟩ = some (.slice A0_0 l0_0.length c0_0) := (blk_cell BK226.out 0).trans rfl
   have hcz12_1 : w9.cell? ⟨gb226, 1, none⟩ = some (.slice A0_1 l0_1.length c0_1) := (blk_cell BK226.out 1).trans rfl
   have hcz12_2 : w9.cell? ⟨gb226, 2, none⟩ = some (.int .i64 a0_2) := (blk_cell BK226.out 2).trans rfl
   have hcz12_3 : w9.cell? ⟨gb226, 3, none⟩ = some (.bool a0_3) := (blk_cell BK226.out 3).trans rfl
   have hfz12_0 := blk_frozen BK226.out 0
   have hfz12_1 := blk_frozen BK226.out 1
   have hfz12_2 := blk_frozen BK226.out 2
   have hfz12_3 := blk_frozen BK226.out 3
   go_wp2_with (first | ((with_reducible refine gate_callee (f := 89) rfl ?_); refine gL (some 21) Tryd.func89 #[.agg #[.slice A0_0 l0_0.length c0_0, .slice A0_1 l0_1.length c0_1, .int .i64 a0_2, .bool a0_3], .int .u64 t228, .int .i64 t229] ?_; (with_reducible refine (plumbref07_Q_against.calls k _ _ l0_0 _ _ l0_1 a0_2 a0_3 t228 t229 t230 _ ?side1 ?side2 ?side3 ?side4 A10.out).mono ?_); (case side1 => exact dC (Kd.C_below HR0_0.out HB.out)); (case side2 => exact HC0_0.out); (case side3 => exact dC (Kd.C_below HR0_1.out HB.out)); (case side4 => exact HC0_1.out); rintro e w13 ⟨rfl, hb⟩; refine ⟨_, rfl, ?_⟩; replace BK226 := Aside0.mk (blk_below (g := gb226) (o := .cells #[.slice A0_0 l0_0.length c0_0, .slice A0_1 l0_1.length c0_1, .int .i64 a0_2, .bool a0_3] 77 (0, 0)) (dK BK226.out) hb); replace HB := Aside0.mk (below_step (dG GE226.out) hb); (try clear hb)))
   go_meet
   case rel => exact ⟨_, (false), dF, H', ⟨dN⟩, ⟨dK BK226.out⟩, ⟨dG GE226.out⟩⟩
  ·rw [if_neg c11] at H
   have c11b0 : (t230 == 0) = false := beq_eq_false_iff_ne.mpr c11
   have c11b1 : (t230 != 0) = true := bne_iff_ne.mpr c11
   (first | rw [c11b0] | (simp only [i64_w, i32_w]; rw [c11b0]) | skip)
   replace H := obe H
   obtain ⟨t231, A140, H⟩ := H
   replace H : (plumbref07_Q_round.j0 k a1 t227 t231) = some (r1, r2) := H
   have A14 := Aside0.mk A140
   clear A140
   have H' := Aside0.mk H
   clear H
   have hcz15_0 : w9.cell? ⟨gb226, 0, none⟩ = some (.slice A0_0 l0_0.length c0_0) := (blk_cell BK226.out 0).trans rfl
   have hcz15_1 : w9.cell? ⟨gb226, 1, none⟩ = some (.slice A0_1 l0_1.length c0_1) := (blk_cell BK226.out 1).trans rfl
   have hcz15_2 : w9.cell? ⟨gb226, 2, none⟩ = some (.int .i64 a0_2) := (blk_cell BK226.out 2).trans rfl
   have hcz15_3 : w9.cell? ⟨gb226, 3, none⟩ = some (.bool a0_3) := (blk_cell BK226.out 3).trans rfl
   have hfz15_0 := blk_frozen BK226.out 0
   have hfz15_1 := blk_frozen BK226.out 1
   have hfz15_2 := blk_frozen BK226.out 2
   have hfz15_3 := blk_frozen BK226.out 3
   go_wp2_with (first | ((with_reducible refine gate_callee (f := 89) rfl ?_); refine gL (some 21) Tryd.func89 #[.agg #[.slice A0_0 l0_0.length c0_0, .slice A0_1 l0_1.length c0_1, .int .i64 a0_2, .bool a0_3], .int .u64 t228, .int .i64 t229] ?_; (with_reducible refine (plumbref07_Q_against.calls k _ _ l0_0 _ _ l0_1 a0_2 a0_3 t228 t229 t230 _ ?side1 ?side2 ?side3 ?side4 A10.out).mono ?_); (case side1 => exact dC (Kd.C_below HR0_0.out HB.out)); (case side2 => exact HC0_0.out); (case side3 => exact dC (Kd.C_below HR0_1.out HB.out)); (case side4 => exact HC0_1.out); rintro e w16 ⟨rfl, hb⟩; refine ⟨_, rfl, ?_⟩; replace BK226 := Aside0.mk (blk_below (g := gb226) (o := .cells #[.slice A0_0 l0_0.length c0_0, .slice A0_1 l0_1.length c0_1, .int .i64 a0_2, .bool a0_3] 77 (0, 0)) (dK BK226.out) hb); replace HB := Aside0.mk (below_step (dG GE226.out) hb); (try clear hb); have hcz17_0 : w16.cell? ⟨gb226, 0, none⟩ = some (.slice A0_0 l0_0.length c0_0) := (blk_cell BK226.out 0).trans rfl; have hcz17_1 : w16.cell? ⟨gb226, 1, none⟩ = some (.slice A0_1 l0_1.length c0_1) := (blk_cell BK226.out 1).trans rfl; have hcz17_2 : w16.cell? ⟨gb226, 2, none⟩ = some (.int .i64 a0_2) := (blk_cell BK226.out 2).trans rfl; have hcz17_3 : w16.cell? ⟨gb226, 3, none⟩ = some (.bool a0_3) := (blk_cell BK226.out 3).trans rfl; have hfz17_0 := blk_frozen BK226.out 0; have hfz17_1 := blk_frozen BK226.out 1; have hfz17_2 := blk_frozen BK226.out 2; have hfz17_3 := blk_frozen BK226.out 3) | (go_at_call 90; (with_reducible refine (plumbref07_Q_up.calls k _ _ l0_0 _ _ l0_1 a0_2 a0_3 a1 t227 a2 t231 _ ?side1 ?side2 ?side3 ?side4 A14.out).mono ?_); (case side1 => exact dC (Kd.C_below HR0_0.out HB.out)); (case side2 => exact HC0_0.out); (case side3 => exact dC (Kd.C_below HR0_1.out HB.out)); (case side4 => exact HC0_1.out); rintro e w18 ⟨rfl, hb⟩; replace BK226 := Aside0.mk (blk_below (g := gb226) (o := .cells #[.slice A0_0 l0_0.length c0_0, .slice A0_1 l0_1.length c0_1, .int .i64 a0_2, .bool a0_3] 77 (0, 0)) (dK BK226.out) hb); replace HB := Aside0.mk (below_step (dG GE226.out) hb); (try clear hb)))
   go_meet
   case rel => exact ⟨_, (t231), dF, H', ⟨dN⟩, ⟨dK BK226.out⟩, ⟨dG GE226.out⟩⟩
 case rest =>
  clear HC6
  try clear c1
  try clear p2
  try clear c4
  try clear c8
  try clear c11
  try clear c11b0
  try clear c11b1
  try clear hcz12_0
  try clear hcz12_1
  try clear hcz12_2
  try clear hcz12_3
  try clear hcz15_0
  try clear hcz15_1
  try clear hcz15_2
  try clear hcz15_3
  try clear hcz17_0
  try clear hcz17_1
  try clear hcz17_2
  try clear hcz17_3
  try clear hcz8_0
  try clear hcz8_1
  try clear hcz8_2
  try clear hcz8_3
  try clear hfz12_0
  try clear hfz12_1
  try clear hfz12_2
  try clear hfz12_3
  try clear hfz15_0
  try clear hfz15_1
  try clear hfz15_2
  try clear hfz15_3
  try clear hfz17_0
  try clear hfz17_1
  try clear hfz17_2
  try clear hfz17_3
  try clear hfz8_0
  try clear hfz8_1
  try clear hfz8_2
  try clear hfz8_3
  obtain ⟨kq, x29_5, rfl, HA, HJ5, BK226, HB⟩ := hcut
  cases kq with
  | zero => exact absurd HA.out (by simp [plumbref07_Q_round.j0])
  | succ kj5 =>
   have H := HA.out
   clear HA
   simp only [plumbref07_Q_round.j0] at H
   by_cases c19 : x29_5 = true
   ·subst c19
    have H1 : (if t227 = 9218868437227405311 then (some (0, 70)) else (if a1 = true then (some (Go.bits .or .u64 (IntKind.u64.wrap (t227 + 1)) 9223372036854775808, 0)) else (some (IntKind.u64.wrap (t227 + 1), 0)))) = some (r1, r2) := by rw [if_pos rfl] at H; exact H
    clear H
    have H := H1
    clear H1
    by_cases c20 : t227 = 9218868437227405311
    ·rw [if_pos c20] at H
     have c20b0 : (t227 == 9218868437227405311) = true := beq_iff_eq.mpr c20
     have c20b1 : (t227 != 9218868437227405311) = false := bne_eq_false_iff_eq.mpr c20
     clear c20
     simp only [Option.some.injEq, Prod.mk.injEq] at H
     obtain ⟨rfl, rfl⟩ := H
     go_wp2
     go_ret2
     exact ⟨dE, dG GE226.out⟩
    ·rw [if_neg c20] at H
     have c20b0 : (t227 == 9218868437227405311) = false := beq_eq_false_iff_ne.mpr c20
     have c20b1 : (t227 != 9218868437227405311) = true := bne_iff_ne.mpr c20
     by_cases c21 : a1 = true
     ·subst c21
      have H1 : (some (Go.bits .or .u64 (IntKind.u64.wrap (t227 + 1)) 9223372036854775808, 0)) = some (r1, r2) := by rw [if_pos rfl] at H; exact H
      clear H
      have H := H1
      clear H1
      simp only [Option.some.injEq, Prod.mk.injEq] at H
      obtain ⟨rfl, rfl⟩ := H
      go_wp2
      go_ret2
      exact ⟨dE, dG GE226.out⟩
     ·replace c21 := Bool.eq_false_iff.mpr c21
      subst c21
      have H1 : (some (IntKind.u64.wrap (t227 + 1), 0)) = some (r1, r2) := by rw [if_neg (show ¬ (false = true) by decide)] at H; exact H
      clear H
      have H := H1
      clear H1
      simp only [Option.some.injEq, Prod.mk.injEq] at H
      obtain ⟨rfl, rfl⟩ := H
      go_wp2
      go_ret2
      exact ⟨dE, dG GE226.out⟩
   ·replace c19 := Bool.eq_false_iff.mpr c19
    subst c19
    have H1 : (if a1 = true then (some (Go.bits .or .u64 t227 9223372036854775808, 0)) else (some (t227, 0))) = some (r1, r2) := by rw [if_neg (show ¬ (false = true) by decide)] at H; exact H
    clear H
    have H := H1
    clear H1
    by_cases c22 : a1 = true
    ·subst c22
     have H1 : (some (Go.bits .or .u64 t227 9223372036854775808, 0)) = some (r1, r2) := by rw [if_pos rfl] at H; exact H
     clear H
     have H := H1
     clear H1
     simp only [Option.some.injEq, Prod.mk.injEq] at H
     obtain ⟨rfl, rfl⟩ := H
     go_wp2
     go_ret2
     exact ⟨dE, dG GE226.out⟩
    ·replace c22 := Bool.eq_false_iff.mpr c22
     subst c22
     have H1 : (some (t227, 0)) = some (r1, r2) := by rw [if_neg (show ¬ (false = true) by decide)] at H; exact H
     clear H
     have H := H1
     clear H1
     simp only [Option.some.injEq, Prod.mk.injEq] at H
     obtain ⟨rfl, rfl⟩ := H
     go_wp2
     go_ret2
     exact ⟨dE, dG GE226.out⟩

end Go.Proofs.YtoefabmlkbhmpaaDoor.PA

namespace Go.Proofs.YtoefabmlkbhmpaaDoor.PA
open Go.RowKit Go.Proofs.YtoefabmlkbhmpaaDoorW.PrintWords Go.Proofs.YtoefabmlkbhmpaaDoorW.PrintLast Go.Proofs.YtoefabmlkbhmpaaDoorW.PrintMore
attribute [local go_sem] max2_int min2_int max_two min_two max_three min_three max_four min_four   -- for this text's walks alone
set_option linter.unusedVariables false
set_option linter.unusedSimpArgs false

/-! ### plumbref07_Scaled: function 14 (by hand) -/
def plumbref07_Scaled.j0 : Nat → Bool → List Int → Int → Bool → Int → Bool → Option (Int × Int)
 | 0, _, _, _, _, _, _ => none
 | k + 1, x0, x1, x2, x3, x4, x20 => if x20 = true then (some (0, 71)) else ((plumbref03_Norm.f k x1).bind fun t431 => ((plumbref03_Bits.f k t431).bind fun t434 => ((some (([1] : List Int) : List Int)).bind fun y435 => (if t434 = 0 then (if x3 = true then ((plumbref07_Q_round.f k (([1] : List Int)) (([1] : List Int)) (-1300) false x0 x4).bind fun bt445 => (some (bt445.1, bt445.2))) else ((plumbref07_Q_round.f k t431 y435 0 x3 x0 x4).bind fun bt447 => (some (bt447.1, bt447.2)))) else (if x2 > (wrap64 (1100 - t434)) then ((plumbref07_Q_round.f k t431 y435 (wrap64 (1100 - t434)) x3 x0 x4).bind fun bt449 => (some (bt449.1, bt449.2))) else (if x2 < (wrap64 ((-1200) - t434)) then ((plumbref07_Q_round.f k (([1] : List Int)) (([1] : List Int)) (-1300) false x0 x4).bind fun bt457 => (some (bt457.1, bt457.2))) else ((plumbref07_Q_round.f k t431 y435 x2 x3 x0 x4).bind fun bt459 => (some (bt459.1, bt459.2)))))))))
def plumbref07_Scaled.f (k : Nat) (a0 : Bool) (l1 : List Int) (a2 : Int) (a3 : Bool) (a4 : Int) : Option (Int × Int) := if a4 < 0 then (plumbref07_Scaled.j0 k a0 l1 a2 a3 a4 true) else (plumbref07_Scaled.j0 k a0 l1 a2 a3 a4 (decide (a4 > 4)))
theorem plumbref07_Scaled.mono_l : ∀ k, (∀ y0 y1 y2 y3 y4 y5, LeO (plumbref07_Scaled.j0 k y0 y1 y2 y3 y4 y5) (plumbref07_Scaled.j0 (k + 1) y0 y1 y2 y3 y4 y5))
 | 0 => fun _ _ _ _ _ _ r h => by simp [plumbref07_Scaled.j0] at h
 | k + 1 => by
  have ih0 := plumbref07_Scaled.mono_l k
  ·intro y0 y1 y2 y3 y4 y5
   unfold plumbref07_Scaled.j0
   repeat' first
   | (with_reducible exact ih0 _ _ _ _ _ _)
   | (with_reducible exact plumbref03_Bits.mono _ _)
   | (with_reducible exact plumbref03_Norm.mono _ _)
   | (with_reducible exact plumbref07_Q_round.mono _ _ _ _ _ _ _)
   | (with_reducible exact LeO.refl _)
   | (with_reducible exact LeO.none _)
   | (with_reducible refine LeO.ite ?_ ?_)
   | (with_reducible refine LeO.bind ?_ (fun _ => ?_))
   | exact ih0 _ _ _ _ _ _
   | exact plumbref03_Bits.mono _ _
   | exact plumbref03_Norm.mono _ _
   | exact plumbref07_Q_round.mono _ _ _ _ _ _ _
   | exact LeO.none _
   | refine LeO.ite ?_ ?_
   | refine LeO.bind ?_ (fun _ => ?_)
theorem plumbref07_Scaled.mono : ∀ a0 a1 a2 a3 a4 k, LeO (plumbref07_Scaled.f k a0 a1 a2 a3 a4) (plumbref07_Scaled.f (k + 1) a0 a1 a2 a3 a4) := by
 intro a0 a1 a2 a3 a4 k
 have ih0 := plumbref07_Scaled.mono_l k
 unfold plumbref07_Scaled.f
 repeat' first
   | (with_reducible exact ih0 _ _ _ _ _ _)
   | (with_reducible exact plumbref03_Bits.mono _ _)
   | (with_reducible exact plumbref03_Norm.mono _ _)
   | (with_reducible exact plumbref07_Q_round.mono _ _ _ _ _ _ _)
   | (with_reducible exact LeO.refl _)
   | (with_reducible exact LeO.none _)
   | (with_reducible refine LeO.ite ?_ ?_)
   | (with_reducible refine LeO.bind ?_ (fun _ => ?_))
   | exact ih0 _ _ _ _ _ _
   | exact plumbref03_Bits.mono _ _
   | exact plumbref03_Norm.mono _ _
   | exact plumbref07_Q_round.mono _ _ _ _ _ _ _
   | exact LeO.none _
   | refine LeO.ite ?_ ?_
   | refine LeO.bind ?_ (fun _ => ?_)
set_option maxHeartbeats 8000000 in
set_option maxRecDepth 100000 in
theorem plumbref07_Scaled.calls (k : Nat) (a0 : Bool) (A1 : Option Addr) (c1 : Nat) (l1 : List Int) (a2 : Int) (a3 : Bool) (a4 : Int) (r1 : Int) (r2 : Int) (w : World) (hr1 : Kd.C (Kd.int .u64) w A1 l1.length l1) (hc1 : l1.length ≤ c1) (h : plumbref07_Scaled.f k a0 l1 a2 a3 a4 = some (r1, r2)) :
  Calls Tryd.prog 14 #[.bool a0, .slice A1 l1.length c1, .int .i64 a2, .bool a3, .int .i64 a4] w fun e w' => e = .returned (.tuple #[.int .u64 r1, .int .i64 r2]) ∧ Below w.heap.size w w' := by
 have hu101 := Tryd.underlying77
 have HR1 := Aside0.mk hr1
 have HC1 := Aside0.mk hc1
 clear hr1 hc1
 have HB := Aside0.mk (Below.refl w.heap.size w)
 have H : (if a4 < 0 then (plumbref07_Scaled.j0 k a0 l1 a2 a3 a4 true) else (plumbref07_Scaled.j0 k a0 l1 a2 a3 a4 (decide (a4 > 4)))) = some (r1, r2) := h
 clear h
 have HC6 := Aside0.mk H
 clear H
 go_enter Tryd.func14, Tryd.ntmps14
 go_upto_region 1 with (fail)
 go_cut [20] (fun v20 wc => ∃ (kq : Nat) (x20_5 : Bool), v20 = .bool x20_5 ∧ Aside0 (plumbref07_Scaled.j0 kq a0 l1 a2 a3 a4 x20_5 = some (r1, r2)) ∧ Aside0 (kq ≤ k) ∧ Aside0 (Below w.heap.size w wc))
 case first =>
  have H := HC6.out
  clear HC6
  by_cases c7 : a4 < 0
  ·rw [if_pos c7] at H
   have c7b0 : decide (a4 < 0) = true := decide_eq_true c7
   clear c7
   (first | rw [c7b0] | (simp only [i64_w, i32_w]; rw [c7b0]) | skip)
   have H' := Aside0.mk H
   clear H
   go_wp2
   go_meet
   case rel => exact ⟨_, (true), dF, H', ⟨dN⟩, ⟨dB⟩⟩
  ·rw [if_neg c7] at H
   have c7b0 : decide (a4 < 0) = false := decide_eq_false c7
   clear c7
   (first | rw [c7b0] | (simp only [i64_w, i32_w]; rw [c7b0]) | skip)
   have H' := Aside0.mk H
   clear H
   go_wp2
   go_meet
   case rel => exact ⟨_, (decide (a4 > 4)), dF, H', ⟨dN⟩, ⟨dB⟩⟩
 case rest =>
  clear HC6
  try clear c1
  try clear p2
  try clear c6
  try clear c7
  try clear c7b0
  obtain ⟨kq, x20_5, rfl, HA, HJ5, HB⟩ := hcut
  cases kq with
  | zero => exact absurd HA.out (by simp [plumbref07_Scaled.j0])
  | succ kj5 =>
   have H := HA.out
   clear HA
   simp only [plumbref07_Scaled.j0] at H
   by_cases c8 : x20_5 = true
   ·subst c8
    have H1 : (some (0, 71)) = some (r1, r2) := by rw [if_pos rfl] at H; exact H
    clear H
    have H := H1
    clear H1
    simp only [Option.some.injEq, Prod.mk.injEq] at H
    obtain ⟨rfl, rfl⟩ := H
    go_wp2
    go_ret2
    exact ⟨dE, dB⟩
   ·replace c8 := Bool.eq_false_iff.mpr c8
    subst c8
    have H1 : ((plumbref03_Norm.f kj5 l1).bind fun t431 => ((plumbref03_Bits.f kj5 t431).bind fun t434 => ((some (([1] : List Int) : List Int)).bind fun y435 => (if t434 = 0 then (if a3 = true then ((plumbref07_Q_round.f kj5 (([1] : List Int)) (([1] : List Int)) (-1300) false a0 a4).bind fun bt445 => (some (bt445.1, bt445.2))) else ((plumbref07_Q_round.f kj5 t431 y435 0 a3 a0 a4).bind fun bt447 => (some (bt447.1, bt447.2)))) else (if a2 > (wrap64 (1100 - t434)) then ((plumbref07_Q_round.f kj5 t431 y435 (wrap64 (1100 - t434)) a3 a0 a4).bind fun bt449 => (some (bt449.1, bt449.2))) else (if a2 < (wrap64 ((-1200) - t434)) then ((plumbref07_Q_round.f kj5 (([1] : List Int)) (([1] : List Int)) (-1300) false a0 a4).bind fun bt457 => (some (bt457.1, bt457.2))) else ((plumbref07_Q_round.f kj5 t431 y435 a2 a3 a0 a4).bind fun bt459 => (some (bt459.1, bt459.2))))))))) = some (r1, r2) := by rw [if_neg (show ¬ (false = true) by decide)] at H; exact H
    clear H
    have H := H1
    clear H1
    replace H := obe H
    obtain ⟨t431, A90, H⟩ := H
    replace H : ((plumbref03_Bits.f kj5 t431).bind fun t434 => ((some (([1] : List Int) : List Int)).bind fun y435 => (if t434 = 0 then (if a3 = true then ((plumbref07_Q_round.f kj5 (([1] : List Int)) (([1] : List Int)) (-1300) false a0 a4).bind fun bt445 => (some (bt445.1, bt445.2))) else ((plumbref07_Q_round.f kj5 t431 y435 0 a3 a0 a4).bind fun bt447 => (some (bt447.1, bt447.2)))) else (if a2 > (wrap64 (1100 - t434)) then ((plumbref07_Q_round.f kj5 t431 y435 (wrap64 (1100 - t434)) a3 a0 a4).bind fun bt449 => (some (bt449.1, bt449.2))) else (if a2 < (wrap64 ((-1200) - t434)) then ((plumbref07_Q_round.f kj5 (([1] : List Int)) (([1] : List Int)) (-1300) false a0 a4).bind fun bt457 => (some (bt457.1, bt457.2))) else ((plumbref07_Q_round.f kj5 t431 y435 a2 a3 a0 a4).bind fun bt459 => (some (bt459.1, bt459.2)))))))) = some (r1, r2) := H
    have A9 := Aside0.mk A90
    clear A90
    replace H := obe H
    obtain ⟨t434, A100, H⟩ := H
    replace H : ((some (([1] : List Int) : List Int)).bind fun y435 => (if t434 = 0 then (if a3 = true then ((plumbref07_Q_round.f kj5 (([1] : List Int)) (([1] : List Int)) (-1300) false a0 a4).bind fun bt445 => (some (bt445.1, bt445.2))) else ((plumbref07_Q_round.f kj5 t431 y435 0 a3 a0 a4).bind fun bt447 => (some (bt447.1, bt447.2)))) else (if a2 > (wrap64 (1100 - t434)) then ((plumbref07_Q_round.f kj5 t431 y435 (wrap64 (1100 - t434)) a3 a0 a4).bind fun bt449 => (some (bt449.1, bt449.2))) else (if a2 < (wrap64 ((-1200) - t434)) then ((plumbref07_Q_round.f kj5 (([1] : List Int)) (([1] : List Int)) (-1300) false a0 a4).bind fun bt457 => (some (bt457.1, bt457.2))) else ((plumbref07_Q_round.f kj5 t431 y435 a2 a3 a0 a4).bind fun bt459 => (some (bt459.1, bt459.2))))))) = some (r1, r2) := H
    have A10 := Aside0.mk A100
    clear A100
    obtain ⟨y435, hy435⟩ : ∃ y_ : List Int, y_ = (([1] : List Int)) := ⟨_, rfl⟩
    replace H : (if t434 = 0 then (if a3 = true then ((plumbref07_Q_round.f kj5 (([1] : List Int)) (([1] : List Int)) (-1300) false a0 a4).bind fun bt445 => (some (bt445.1, bt445.2))) else ((plumbref07_Q_round.f kj5 t431 y435 0 a3 a0 a4).bind fun bt447 => (some (bt447.1, bt447.2)))) else (if a2 > (wrap64 (1100 - t434)) then ((plumbref07_Q_round.f kj5 t431 y435 (wrap64 (1100 - t434)) a3 a0 a4).bind fun bt449 => (some (bt449.1, bt449.2))) else (if a2 < (wrap64 ((-1200) - t434)) then ((plumbref07_Q_round.f kj5 (([1] : List Int)) (([1] : List Int)) (-1300) false a0 a4).bind fun bt457 => (some (bt457.1, bt457.2))) else ((plumbref07_Q_round.f kj5 t431 y435 a2 a3 a0 a4).bind fun bt459 => (some (bt459.1, bt459.2)))))) = some (r1, r2) := by first | (rw [hy435]; with_reducible exact H) | (have H2_ := (Option.bind_some _ _).symm.trans H; rw [hy435]; with_reducible exact H2_) | (have H2_ := (Option.bind_some _ _).symm.trans H; with_reducible exact H2_) | with_reducible exact H | (rw [hy435]; exact H) | exact H
    have Ny435 := Aside0.mk hy435
    clear hy435
    by_cases c11 : t434 = 0
    ·rw [if_pos c11] at H
     have c11b0 : (t434 == 0) = true := beq_iff_eq.mpr c11
     have c11b1 : (t434 != 0) = false := bne_eq_false_iff_eq.mpr c11
     clear c11
     by_cases c12 : a3 = true
     ·subst c12
      have H1 : ((plumbref07_Q_round.f kj5 (([1] : List Int)) (([1] : List Int)) (-1300) false a0 a4).bind fun bt445 => (some (bt445.1, bt445.2))) = some (r1, r2) := by rw [if_pos rfl] at H; exact H
      clear H
      have H := H1
      clear H1
      obtain ⟨y439, hy439⟩ : ∃ y_ : List Int, y_ = (([1] : List Int)) := ⟨_, rfl⟩
      replace H : ((plumbref07_Q_round.f kj5 y439 (([1] : List Int)) (-1300) false a0 a4).bind fun bt445 => (some (bt445.1, bt445.2))) = some (r1, r2) := by first | (rw [hy439]; with_reducible exact H) | (have H2_ := (Option.bind_some _ _).symm.trans H; rw [hy439]; with_reducible exact H2_) | (have H2_ := (Option.bind_some _ _).symm.trans H; with_reducible exact H2_) | with_reducible exact H | (rw [hy439]; exact H) | exact H
      have Ny439 := Aside0.mk hy439
      clear hy439
      obtain ⟨y442, hy442⟩ : ∃ y_ : List Int, y_ = (([1] : List Int)) := ⟨_, rfl⟩
      replace H : ((plumbref07_Q_round.f kj5 y439 y442 (-1300) false a0 a4).bind fun bt445 => (some (bt445.1, bt445.2))) = some (r1, r2) := by first | (rw [hy442]; with_reducible exact H) | (have H2_ := (Option.bind_some _ _).symm.trans H; rw [hy442]; with_reducible exact H2_) | (have H2_ := (Option.bind_some _ _).symm.trans H; with_reducible exact H2_) | with_reducible exact H | (rw [hy442]; exact H) | exact H
      have Ny442 := Aside0.mk hy442
      clear hy442
      replace H := obe H
      obtain ⟨⟨t445, t446⟩, A130, H⟩ := H
      replace H : (some (t445, t446)) = some (r1, r2) := H
      have A13 := Aside0.mk A130
      clear A130
      simp only [Option.some.injEq, Prod.mk.injEq] at H
      obtain ⟨rfl, rfl⟩ := H
      go_wp2_with (first | ((with_reducible refine gate_callee (f := 47) rfl ?_); refine gL (some 22) Tryd.func47 #[.slice A1 l1.length c1] ?_; (with_reducible refine (plumbref03_Norm.calls kj5 _ _ l1 t431 _ ?side1 ?side2 A9.out).mono ?_); (case side1 => exact dC (Kd.C_below HR1.out HB.out)); (case side2 => exact HC1.out); rintro e w14 ⟨v432, rfl, ho0, hb⟩; refine ⟨_, rfl, ?_⟩; have HO433 := Aside0.mk (Kd.R_lower ho0 (below_size dB)); replace HB := Aside0.mk (below_step dB hb); (try clear hb); (try clear ho0); obtain ⟨Ao15, co15, eo15⟩ := Kd.R_slice HO433.out; subst eo15) | ((with_reducible refine gate_callee (f := 48) rfl ?_); refine gL (some 24) Tryd.func48 #[.slice Ao15 t431.length co15] ?_; (with_reducible refine (plumbref03_Bits.calls kj5 _ _ t431 t434 _ ?side1 ?side2 A10.out).mono ?_); (case side1 => exact dC (Kd.R_reads' HO433.out).2.2); (case side2 => exact (Kd.R_reads' HO433.out).2.1); rintro e w' ⟨rfl, ⟨nd, rfl⟩⟩; refine ⟨_, rfl, ?_⟩; (try (rw [drewN_self w14]; generalize hq_ : World.drewN w14 _ = w14; have n0_ : Aside0 (Kd.R (Kd.int .u64) 26 w14 w.heap.size (fun _ => True) (.slice Ao15 t431.length co15) t431) := ⟨by rw [← hq_]; exact (dR HO433.out)⟩; have n1_ : Aside0 (Below w.heap.size w w14) := ⟨by rw [← hq_]; exact dB⟩; clear HO433 HB hq_; have HO433 := n0_; have HB := n1_; clear n0_ n1_))) | ((with_reducible refine gate_dst (N := 26) rfl ?_); refine Kd.R_lit (Kd.int .u64) _ 26 ?hg (N := 26) ?hd (xs := ([1] : List Int)) (inner := [.int .u64 1]) (ok := fun _ => True) (okp := fun _ => True) ?hr ?hp (fun _ hk => hk) trivial (Below.refl _ _) (Nat.le_refl _) (by simp) ?_; (case hd => rfl); (case hg => rfl); (case hr => first | (go_simp; done) | (go_simp; rfl)); (case hp => exact (Reps.one (show Kd.M (Kd.int .u64) _ _ _ 1 [.int .u64 1] from rfl) (Reps.none _ _))); intro v436 w16 ho17 hb hg_ hnew_; clear hg_ hnew_; (first | rw [← Ny435.out] at ho17 | (simp only [Int.reduceToNat] at ho17; rw [← Ny435.out] at ho17)); have HO437 := Aside0.mk (Kd.R_lower (Kd.R_new' ho17 (Kd.R_lt (dR HO433.out))) (below_size dB)); replace HO433 := Aside0.mk (Kd.R_elder' (dR HO433.out) (Kd.R_base ho17) hb); replace HB := Aside0.mk (below_step dB hb); clear hb ho17; obtain ⟨Ao18, co18, eo18⟩ := Kd.R_slice HO437.out; subst eo18) | ((with_reducible refine gate_dst (N := 14) rfl ?_); refine box_event ?hg (N := 14) ?hd (cs := #[.slice none 0 0, .slice none 0 0, .int .i64 0, .bool false]) (t := 77) ?hr ?_; (case hd => rfl); (case hg => rfl); (case hr => first | (go_simp; done) | (go_simp; rfl)); intro gb438 hg w19 hbox hb; replace HO433 := Aside0.mk (Kd.R_below (dR HO433.out) hb); replace HO437 := Aside0.mk (Kd.R_below (dR HO437.out) hb); have BK438 := Aside0.mk (hbox); have GW438 := Aside0.mk ((by rw [hg]; exact (below_size dB) : w.heap.size ≤ gb438)); have GE438 := Aside0.mk ((by rw [hg]; exact (below_size dB) : w.heap.size ≤ gb438)); replace HB := Aside0.mk (below_step dB hb); clear hb hbox hg; have hcz20_0 : w19.cell? ⟨gb438, 0, none⟩ = some (.slice none 0 0) := (blk_cell BK438.out 0).trans rfl; have hcz20_1 : w19.cell? ⟨gb438, 1, none⟩ = some (.slice none 0 0) := (blk_cell BK438.out 1).trans rfl; have hcz20_2 : w19.cell? ⟨gb438, 2, none⟩ = some (.int .i64 0) := (blk_cell BK438.out 2).trans rfl; have hcz20_3 : w19.cell? ⟨gb438, 3, none⟩ = some (.bool false) := (blk_cell BK438.out 3).trans rfl; have hfz20_0 := blk_frozen BK438.out 0; have hfz20_1 := blk_frozen BK438.out 1; have hfz20_2 := blk_frozen BK438.out 2; have hfz20_3 := blk_frozen BK438.out 3) | ((with_reducible refine gate_dst (N := 35) rfl ?_); refine Kd.R_lit (Kd.int .u64) _ 26 ?hg (N := 35) ?hd (xs := ([1] : List Int)) (inner := [.int .u64 1]) (ok := fun _ => True) (okp := fun _ => True) ?hr ?hp (fun _ hk => hk) trivial (Below.refl _ _) (Nat.le_refl _) (by simp) ?_; (case hd => rfl); (case hg => rfl); (case hr => first | (go_simp; done) | (go_simp; rfl)); (case hp => exact (Reps.one (show Kd.M (Kd.int .u64) _ _ _ 1 [.int .u64 1] from rfl) (Reps.none _ _))); intro v440 w21 ho22 hb hg_ hnew_; clear hg_ hnew_; (first | rw [← Ny439.out] at ho22 | (simp only [Int.reduceToNat] at ho22; rw [← Ny439.out] at ho22)); have HO441 := Aside0.mk (Kd.R_lower (Kd.R_new' (Kd.R_new' ho22 (Kd.R_lt (by (with_reducible repeat (first | apply Kd.R_alloc | apply Kd.R_drewN | apply Kd.R_drew)); exact (Kd.R_mono (Kd.R_far (p := ⟨gb438, 2, none⟩) (Kd.R_far (p := ⟨gb438, 3, none⟩) (Kd.R_far (p := ⟨gb438, 2, none⟩) (Kd.R_far (p := ⟨gb438, 1, none⟩) (Kd.R_far (p := ⟨gb438, 0, none⟩) (Kd.R_types HO433.out BK438.out (by decide)) (fun _ hk => hk.2) (.slice Ao15 t431.length co15)) (fun _ hk => hk.2) (.slice Ao18 y435.length co18)) (fun _ hk => hk.2) (.int .i64 a2)) (fun _ hk => hk.2) (.bool true)) (fun _ hk => hk.2) (.int .i64 0)) (fun _ h_ => h_.1))))) (Kd.R_lt (by (with_reducible repeat (first | apply Kd.R_alloc | apply Kd.R_drewN | apply Kd.R_drew)); exact (Kd.R_mono (Kd.R_far (p := ⟨gb438, 2, none⟩) (Kd.R_far (p := ⟨gb438, 3, none⟩) (Kd.R_far (p := ⟨gb438, 2, none⟩) (Kd.R_far (p := ⟨gb438, 1, none⟩) (Kd.R_far (p := ⟨gb438, 0, none⟩) (Kd.R_types HO437.out BK438.out (by decide)) (fun _ hk => hk.2) (.slice Ao15 t431.length co15)) (fun _ hk => hk.2) (.slice Ao18 y435.length co18)) (fun _ hk => hk.2) (.int .i64 a2)) (fun _ hk => hk.2) (.bool true)) (fun _ hk => hk.2) (.int .i64 0)) (fun _ h_ => h_.1))))) (below_size (dG GE438.out))); replace HO433 := Aside0.mk (Kd.R_elder' (by (with_reducible repeat (first | apply Kd.R_alloc | apply Kd.R_drewN | apply Kd.R_drew)); exact (Kd.R_mono (Kd.R_far (p := ⟨gb438, 2, none⟩) (Kd.R_far (p := ⟨gb438, 3, none⟩) (Kd.R_far (p := ⟨gb438, 2, none⟩) (Kd.R_far (p := ⟨gb438, 1, none⟩) (Kd.R_far (p := ⟨gb438, 0, none⟩) (Kd.R_types HO433.out BK438.out (by decide)) (fun _ hk => hk.2) (.slice Ao15 t431.length co15)) (fun _ hk => hk.2) (.slice Ao18 y435.length co18)) (fun _ hk => hk.2) (.int .i64 a2)) (fun _ hk => hk.2) (.bool true)) (fun _ hk => hk.2) (.int .i64 0)) (fun _ h_ => h_.1))) (Kd.R_base ho22) hb); replace HO437 := Aside0.mk (Kd.R_elder' (by (with_reducible repeat (first | apply Kd.R_alloc | apply Kd.R_drewN | apply Kd.R_drew)); exact (Kd.R_mono (Kd.R_far (p := ⟨gb438, 2, none⟩) (Kd.R_far (p := ⟨gb438, 3, none⟩) (Kd.R_far (p := ⟨gb438, 2, none⟩) (Kd.R_far (p := ⟨gb438, 1, none⟩) (Kd.R_far (p := ⟨gb438, 0, none⟩) (Kd.R_types HO437.out BK438.out (by decide)) (fun _ hk => hk.2) (.slice Ao15 t431.length co15)) (fun _ hk => hk.2) (.slice Ao18 y435.length co18)) (fun _ hk => hk.2) (.int .i64 a2)) (fun _ hk => hk.2) (.bool true)) (fun _ hk => hk.2) (.int .i64 0)) (fun _ h_ => h_.1))) (Kd.R_base ho22) hb); replace BK438 := Aside0.mk (blk_below (g := gb438) (o := .cells #[.slice Ao15 t431.length co15, .slice Ao18 y435.length co18, .int .i64 0, .bool true] 77 (0, 0)) (by (with_reducible repeat (first | refine blk_drewN ?_ _ | refine blk_drew ?_ | refine blk_alloc ?_ _)); refine blk_put (cs := #[.slice Ao15 t431.length co15, .slice Ao18 y435.length co18, .int .i64 a2, .bool true]) ?_ 2 _ rfl; (with_reducible repeat (first | refine blk_drewN ?_ _ | refine blk_drew ?_ | refine blk_alloc ?_ _)); refine blk_put (cs := #[.slice Ao15 t431.length co15, .slice Ao18 y435.length co18, .int .i64 a2, .bool false]) ?_ 3 _ rfl; (with_reducible repeat (first | refine blk_drewN ?_ _ | refine blk_drew ?_ | refine blk_alloc ?_ _)); refine blk_put (cs := #[.slice Ao15 t431.length co15, .slice Ao18 y435.length co18, .int .i64 0, .bool false]) ?_ 2 _ rfl; (with_reducible repeat (first | refine blk_drewN ?_ _ | refine blk_drew ?_ | refine blk_alloc ?_ _)); refine blk_put (cs := #[.slice Ao15 t431.length co15, .slice none 0 0, .int .i64 0, .bool false]) ?_ 1 _ rfl; (with_reducible repeat (first | refine blk_drewN ?_ _ | refine blk_drew ?_ | refine blk_alloc ?_ _)); refine blk_put (cs := #[.slice none 0 0, .slice none 0 0, .int .i64 0, .bool false]) ?_ 0 _ rfl; (with_reducible repeat (first | refine blk_drewN ?_ _ | refine blk_drew ?_ | refine blk_alloc ?_ _)); exact BK438.out) hb); replace HB := Aside0.mk (below_step (dG GE438.out) hb); clear hb ho22) | ((with_reducible refine gate_dst (N := 36) rfl ?_); refine Kd.R_lit (Kd.int .u64) _ 26 ?hg (N := 36) ?hd (xs := ([1] : List Int)) (inner := [.int .u64 1]) (ok := fun _ => True) (okp := fun _ => True) ?hr ?hp (fun _ hk => hk) trivial (Below.refl _ _) (Nat.le_refl _) (by simp) ?_; (case hd => rfl); (case hg => rfl); (case hr => first | (go_simp; done) | (go_simp; rfl)); (case hp => exact (Reps.one (show Kd.M (Kd.int .u64) _ _ _ 1 [.int .u64 1] from rfl) (Reps.none _ _))); intro v443 w23 ho24 hb hg_ hnew_; clear hg_ hnew_; (first | rw [← Ny442.out] at ho24 | (simp only [Int.reduceToNat] at ho24; rw [← Ny442.out] at ho24)); have HO444 := Aside0.mk (Kd.R_lower (Kd.R_new' (Kd.R_new' (Kd.R_new' ho24 (Kd.R_lt (dR HO433.out))) (Kd.R_lt (dR HO437.out))) (Kd.R_lt (dR HO441.out))) (below_size (dG GE438.out))); replace HO433 := Aside0.mk (Kd.R_elder' (dR HO433.out) (Kd.R_base ho24) hb); replace HO437 := Aside0.mk (Kd.R_elder' (dR HO437.out) (Kd.R_base ho24) hb); replace HO441 := Aside0.mk (Kd.R_elder' (dR HO441.out) (Kd.R_base ho24) hb); replace BK438 := Aside0.mk (blk_below (g := gb438) (o := .cells #[.slice Ao15 t431.length co15, .slice Ao18 y435.length co18, .int .i64 0, .bool true] 77 (0, 0)) (dK BK438.out) hb); replace HB := Aside0.mk (below_step (dG GE438.out) hb); clear hb ho24; obtain ⟨Ao25, co25, eo25⟩ := Kd.R_slice HO444.out; subst eo25; obtain ⟨Ao26, co26, eo26⟩ := Kd.R_slice HO441.out; subst eo26; have hcz27_0 : w23.cell? ⟨gb438, 0, none⟩ = some (.slice Ao15 t431.length co15) := (blk_cell BK438.out 0).trans rfl; have hcz27_1 : w23.cell? ⟨gb438, 1, none⟩ = some (.slice Ao18 y435.length co18) := (blk_cell BK438.out 1).trans rfl; have hcz27_2 : w23.cell? ⟨gb438, 2, none⟩ = some (.int .i64 0) := (blk_cell BK438.out 2).trans rfl; have hcz27_3 : w23.cell? ⟨gb438, 3, none⟩ = some (.bool true) := (blk_cell BK438.out 3).trans rfl; have hfz27_0 := blk_frozen BK438.out 0; have hfz27_1 := blk_frozen BK438.out 1; have hfz27_2 := blk_frozen BK438.out 2; have hfz27_3 := blk_frozen BK438.out 3) | ((with_reducible refine gate_callee (f := 49) rfl ?_); refine gL (some 57) Tryd.func49 #[.agg #[.slice Ao26 y439.length co26, .slice Ao25 y442.length co25, .int .i64 (-1300), .bool false], .bool a0, .int .i64 a4] ?_; (with_reducible refine (plumbref07_Q_round.calls kj5 _ _ y439 _ _ y442 (-1300) false a0 a4 t445 t446 _ ?side1 ?side2 ?side3 ?side4 A13.out).mono ?_); (case side1 => refine (Kd.R_reads' (e := 26) (base := w.heap.size) (ok := fun k_ => (((True ∧ some k_ ≠ (.slice Ao15 t431.length co15 : Value).ownBlock) ∧ some k_ ≠ (.slice Ao18 y435.length co18 : Value).ownBlock) ∧ some k_ ≠ (.slice Ao25 y442.length co25 : Value).ownBlock)) (n := y439.length) (c := co26) ?_).2.2; exact (by (with_reducible repeat (first | apply Kd.R_alloc | apply Kd.R_drewN | apply Kd.R_drew)); exact (Kd.R_mono (Kd.R_far (p := ⟨gb438, 3, none⟩) (Kd.R_far (p := ⟨gb438, 2, none⟩) (Kd.R_far (p := ⟨gb438, 1, none⟩) (Kd.R_far (p := ⟨gb438, 0, none⟩) (Kd.R_types HO441.out BK438.out (by decide)) (fun _ hk => hk.2) (.slice Ao26 y439.length co26)) (fun _ hk => hk.2) (.slice Ao25 y442.length co25)) (fun _ hk => hk.2) (.int .i64 (-1300))) (fun _ hk => hk.2) (.bool false)) (fun _ h_ => h_.1)))); (case side2 => exact (Kd.R_reads' HO441.out).2.1); (case side3 => refine (Kd.R_reads' (e := 26) (base := w.heap.size) (ok := fun k_ => (((True ∧ some k_ ≠ (.slice Ao15 t431.length co15 : Value).ownBlock) ∧ some k_ ≠ (.slice Ao18 y435.length co18 : Value).ownBlock) ∧ some k_ ≠ (.slice Ao26 y439.length co26 : Value).ownBlock)) (n := y442.length) (c := co25) ?_).2.2; exact (by (with_reducible repeat (first | apply Kd.R_alloc | apply Kd.R_drewN | apply Kd.R_drew)); exact (Kd.R_mono (Kd.R_far (p := ⟨gb438, 3, none⟩) (Kd.R_far (p := ⟨gb438, 2, none⟩) (Kd.R_far (p := ⟨gb438, 1, none⟩) (Kd.R_far (p := ⟨gb438, 0, none⟩) (Kd.R_types HO444.out BK438.out (by decide)) (fun _ hk => hk.2) (.slice Ao26 y439.length co26)) (fun _ hk => hk.2) (.slice Ao25 y442.length co25)) (fun _ hk => hk.2) (.int .i64 (-1300))) (fun _ hk => hk.2) (.bool false)) (fun _ h_ => h_.1)))); (case side4 => exact (Kd.R_reads' HO444.out).2.1); rintro e w28 ⟨rfl, hb⟩; refine ⟨_, rfl, ?_⟩; replace HO433 := Aside0.mk (Kd.R_below (by (with_reducible repeat (first | apply Kd.R_alloc | apply Kd.R_drewN | apply Kd.R_drew)); exact (Kd.R_mono (Kd.R_far (p := ⟨gb438, 3, none⟩) (Kd.R_far (p := ⟨gb438, 2, none⟩) (Kd.R_far (p := ⟨gb438, 1, none⟩) (Kd.R_far (p := ⟨gb438, 0, none⟩) (Kd.R_types HO433.out BK438.out (by decide)) (fun _ hk => hk.2) (.slice Ao26 y439.length co26)) (fun _ hk => hk.2) (.slice Ao25 y442.length co25)) (fun _ hk => hk.2) (.int .i64 (-1300))) (fun _ hk => hk.2) (.bool false)) (fun _ h_ => h_.1))) hb); replace HO437 := Aside0.mk (Kd.R_below (by (with_reducible repeat (first | apply Kd.R_alloc | apply Kd.R_drewN | apply Kd.R_drew)); exact (Kd.R_mono (Kd.R_far (p := ⟨gb438, 3, none⟩) (Kd.R_far (p := ⟨gb438, 2, none⟩) (Kd.R_far (p := ⟨gb438, 1, none⟩) (Kd.R_far (p := ⟨gb438, 0, none⟩) (Kd.R_types HO437.out BK438.out (by decide)) (fun _ hk => hk.2) (.slice Ao26 y439.length co26)) (fun _ hk => hk.2) (.slice Ao25 y442.length co25)) (fun _ hk => hk.2) (.int .i64 (-1300))) (fun _ hk => hk.2) (.bool false)) (fun _ h_ => h_.1))) hb); replace HO441 := Aside0.mk (Kd.R_below (by (with_reducible repeat (first | apply Kd.R_alloc | apply Kd.R_drewN | apply Kd.R_drew)); exact (Kd.R_mono (Kd.R_far (p := ⟨gb438, 3, none⟩) (Kd.R_far (p := ⟨gb438, 2, none⟩) (Kd.R_far (p := ⟨gb438, 1, none⟩) (Kd.R_far (p := ⟨gb438, 0, none⟩) (Kd.R_types HO441.out BK438.out (by decide)) (fun _ hk => hk.2) (.slice Ao26 y439.length co26)) (fun _ hk => hk.2) (.slice Ao25 y442.length co25)) (fun _ hk => hk.2) (.int .i64 (-1300))) (fun _ hk => hk.2) (.bool false)) (fun _ h_ => h_.1))) hb); replace HO444 := Aside0.mk (Kd.R_below (by (with_reducible repeat (first | apply Kd.R_alloc | apply Kd.R_drewN | apply Kd.R_drew)); exact (Kd.R_mono (Kd.R_far (p := ⟨gb438, 3, none⟩) (Kd.R_far (p := ⟨gb438, 2, none⟩) (Kd.R_far (p := ⟨gb438, 1, none⟩) (Kd.R_far (p := ⟨gb438, 0, none⟩) (Kd.R_types HO444.out BK438.out (by decide)) (fun _ hk => hk.2) (.slice Ao26 y439.length co26)) (fun _ hk => hk.2) (.slice Ao25 y442.length co25)) (fun _ hk => hk.2) (.int .i64 (-1300))) (fun _ hk => hk.2) (.bool false)) (fun _ h_ => h_.1))) hb); replace BK438 := Aside0.mk (blk_below (g := gb438) (o := .cells #[.slice Ao26 y439.length co26, .slice Ao25 y442.length co25, .int .i64 (-1300), .bool false] 77 (0, 0)) (by (with_reducible repeat (first | refine blk_drewN ?_ _ | refine blk_drew ?_ | refine blk_alloc ?_ _)); refine blk_put (cs := #[.slice Ao26 y439.length co26, .slice Ao25 y442.length co25, .int .i64 (-1300), .bool true]) ?_ 3 _ rfl; (with_reducible repeat (first | refine blk_drewN ?_ _ | refine blk_drew ?_ | refine blk_alloc ?_ _)); refine blk_put (cs := #[.slice Ao26 y439.length co26, .slice Ao25 y442.length co25, .int .i64 0, .bool true]) ?_ 2 _ rfl; (with_reducible repeat (first | refine blk_drewN ?_ _ | refine blk_drew ?_ | refine blk_alloc ?_ _)); refine blk_put (cs := #[.slice Ao26 y439.length co26, .slice Ao18 y435.length co18, .int .i64 0, .bool true]) ?_ 1 _ rfl; (with_reducible repeat (first | refine blk_drewN ?_ _ | refine blk_drew ?_ | refine blk_alloc ?_ _)); refine blk_put (cs := #[.slice Ao15 t431.length co15, .slice Ao18 y435.length co18, .int .i64 0, .bool true]) ?_ 0 _ rfl; (with_reducible repeat (first | refine blk_drewN ?_ _ | refine blk_drew ?_ | refine blk_alloc ?_ _)); exact BK438.out) hb); replace HB := Aside0.mk (below_step (dG GE438.out) hb); (try clear hb)))
      go_ret2
      exact ⟨dE, dG GE438.out⟩
     ·replace c12 := Bool.eq_false_iff.mpr c12
      subst c12
      have H1 : ((plumbref07_Q_round.f kj5 t431 y435 0 false a0 a4).bind fun bt447 => (some (bt447.1, bt447.2))) = some (r1, r2) := by rw [if_neg (show ¬ (false = true) by decide)] at H; exact H
      clear H
      have H := H1
      clear H1
      replace H := obe H
      obtain ⟨⟨t447, t448⟩, A290, H⟩ := H
      replace H : (some (t447, t448)) = some (r1, r2) := H
      have A29 := Aside0.mk A290
      clear A290
      simp only [Option.some.injEq, Prod.mk.injEq] at H
      obtain ⟨rfl, rfl⟩ := H
      go_wp2_with (first | ((with_reducible refine gate_callee (f := 47) rfl ?_); refine gL (some 22) Tryd.func47 #[.slice A1 l1.length c1] ?_; (with_reducible refine (plumbref03_Norm.calls kj5 _ _ l1 t431 _ ?side1 ?side2 A9.out).mono ?_); (case side1 => exact dC (Kd.C_below HR1.out HB.out)); (case side2 => exact HC1.out); rintro e w30 ⟨v432, rfl, ho0, hb⟩; refine ⟨_, rfl, ?_⟩; have HO433 := Aside0.mk (Kd.R_lower ho0 (below_size dB)); replace HB := Aside0.mk (below_step dB hb); (try clear hb); (try clear ho0); obtain ⟨Ao31, co31, eo31⟩ := Kd.R_slice HO433.out; subst eo31) | ((with_reducible refine gate_callee (f := 48) rfl ?_); refine gL (some 24) Tryd.func48 #[.slice Ao31 t431.length co31] ?_; (with_reducible refine (plumbref03_Bits.calls kj5 _ _ t431 t434 _ ?side1 ?side2 A10.out).mono ?_); (case side1 => exact dC (Kd.R_reads' HO433.out).2.2); (case side2 => exact (Kd.R_reads' HO433.out).2.1); rintro e w' ⟨rfl, ⟨nd, rfl⟩⟩; refine ⟨_, rfl, ?_⟩; (try (rw [drewN_self w30]; generalize hq_ : World.drewN w30 _ = w30; have n0_ : Aside0 (Kd.R (Kd.int .u64) 26 w30 w.heap.size (fun _ => True) (.slice Ao31 t431.length co31) t431) := ⟨by rw [← hq_]; exact (dR HO433.out)⟩; have n1_ : Aside0 (Below w.heap.size w w30) := ⟨by rw [← hq_]; exact dB⟩; clear HO433 HB hq_; have HO433 := n0_; have HB := n1_; clear n0_ n1_))) | ((with_reducible refine gate_dst (N := 26) rfl ?_); refine Kd.R_lit (Kd.int .u64) _ 26 ?hg (N := 26) ?hd (xs := ([1] : List Int)) (inner := [.int .u64 1]) (ok := fun _ => True) (okp := fun _ => True) ?hr ?hp (fun _ hk => hk) trivial (Below.refl _ _) (Nat.le_refl _) (by simp) ?_; (case hd => rfl); (case hg => rfl); (case hr => first | (go_simp; done) | (go_simp; rfl)); (case hp => exact (Reps.one (show Kd.M (Kd.int .u64) _ _ _ 1 [.int .u64 1] from rfl) (Reps.none _ _))); intro v436 w32 ho33 hb hg_ hnew_; clear hg_ hnew_; (first | rw [← Ny435.out] at ho33 | (simp only [Int.reduceToNat] at ho33; rw [← Ny435.out] at ho33)); have HO437 := Aside0.mk (Kd.R_lower (Kd.R_new' ho33 (Kd.R_lt (dR HO433.out))) (below_size dB)); replace HO433 := Aside0.mk (Kd.R_elder' (dR HO433.out) (Kd.R_base ho33) hb); replace HB := Aside0.mk (below_step dB hb); clear hb ho33; obtain ⟨Ao34, co34, eo34⟩ := Kd.R_slice HO437.out; subst eo34) | ((with_reducible refine gate_dst (N := 14) rfl ?_); refine box_event ?hg (N := 14) ?hd (cs := #[.slice none 0 0, .slice none 0 0, .int .i64 0, .bool false]) (t := 77) ?hr ?_; (case hd => rfl); (case hg => rfl); (case hr => first | (go_simp; done) | (go_simp; rfl)); intro gb438 hg w35 hbox hb; replace HO433 := Aside0.mk (Kd.R_below (dR HO433.out) hb); replace HO437 := Aside0.mk (Kd.R_below (dR HO437.out) hb); have BK438 := Aside0.mk (hbox); have GW438 := Aside0.mk ((by rw [hg]; exact (below_size dB) : w.heap.size ≤ gb438)); have GE438 := Aside0.mk ((by rw [hg]; exact (below_size dB) : w.heap.size ≤ gb438)); replace HB := Aside0.mk (below_step dB hb); clear hb hbox hg; have hcz36_0 : w35.cell? ⟨gb438, 0, none⟩ = some (.slice none 0 0) := (blk_cell BK438.out 0).trans rfl; have hcz36_1 : w35.cell? ⟨gb438, 1, none⟩ = some (.slice none 0 0) := (blk_cell BK438.out 1).trans rfl; have hcz36_2 : w35.cell? ⟨gb438, 2, none⟩ = some (.int .i64 0) := (blk_cell BK438.out 2).trans rfl; have hcz36_3 : w35.cell? ⟨gb438, 3, none⟩ = some (.bool false) := (blk_cell BK438.out 3).trans rfl; have hfz36_0 := blk_frozen BK438.out 0; have hfz36_1 := blk_frozen BK438.out 1; have hfz36_2 := blk_frozen BK438.out 2; have hfz36_3 := blk_frozen BK438.out 3) | ((with_reducible refine gate_store (t := 77) (p := 14) rfl ?_); refine store_event (t := 77) (p := 14) (v := ?vo_) (w1 := ((((w35.setCell ⟨gb438, 0, none⟩ (.slice Ao31 t431.length co31)).setCell ⟨gb438, 1, none⟩ (.slice Ao34 y435.length co34)).setCell ⟨gb438, 2, none⟩ (.int .i64 a2)).setCell ⟨gb438, 3, none⟩ (.bool false))) ?hg ?ho ?hn ?hr ?_; (case ho => rfl); (case hg => rfl); (case hn => rfl); (case hr => first | (go_simp; done) | (go_simp; rfl)); intro w535 hw; replace HO433 := Aside0.mk (show Kd.R (Kd.int .u64) 26 w535 w.heap.size (fun k_ => True ∧ some k_ ≠ (.slice Ao34 y435.length co34 : Value).ownBlock) (.slice Ao31 t431.length co31) t431 from by rw [hw]; exact (Kd.R_mono (Kd.R_far (p := ⟨gb438, 3, none⟩) (Kd.R_far (p := ⟨gb438, 2, none⟩) (Kd.R_far (p := ⟨gb438, 1, none⟩) (Kd.R_far (p := ⟨gb438, 0, none⟩) (Kd.R_types HO433.out BK438.out (by decide)) (fun _ hk => hk.2) (.slice Ao31 t431.length co31)) (fun _ hk => hk.2) (.slice Ao34 y435.length co34)) (fun _ hk => hk.2) (.int .i64 a2)) (fun _ hk => hk.2) (.bool false)) (fun _ h_ => h_.1))); replace HO437 := Aside0.mk (show Kd.R (Kd.int .u64) 26 w535 w.heap.size (fun k_ => True ∧ some k_ ≠ (.slice Ao31 t431.length co31 : Value).ownBlock) (.slice Ao34 y435.length co34) y435 from by rw [hw]; exact (Kd.R_mono (Kd.R_far (p := ⟨gb438, 3, none⟩) (Kd.R_far (p := ⟨gb438, 2, none⟩) (Kd.R_far (p := ⟨gb438, 1, none⟩) (Kd.R_far (p := ⟨gb438, 0, none⟩) (Kd.R_types HO437.out BK438.out (by decide)) (fun _ hk => hk.2) (.slice Ao31 t431.length co31)) (fun _ hk => hk.2) (.slice Ao34 y435.length co34)) (fun _ hk => hk.2) (.int .i64 a2)) (fun _ hk => hk.2) (.bool false)) (fun _ h_ => h_.1))); replace BK438 := Aside0.mk (show w535.heap[gb438]? = some (.cells #[.slice Ao31 t431.length co31, .slice Ao34 y435.length co34, .int .i64 a2, .bool false] 77 (0, 0)) from by rw [hw]; exact blk_put (blk_put (blk_put (blk_put BK438.out 0 _ rfl) 1 _ rfl) 2 _ rfl) 3 _ rfl); replace HB := Aside0.mk ((by rw [hw]; exact below_set (below_set (below_set (below_set HB.out GE438.out) GE438.out) GE438.out) GE438.out : Below w.heap.size w w535)); clear hw; have hcy535_0 : w535.cell? ⟨gb438, 0, none⟩ = some (.slice Ao31 t431.length co31) := (blk_cell BK438.out 0).trans rfl; have hfy535_0 := blk_frozen BK438.out 0; have hcy535_1 : w535.cell? ⟨gb438, 1, none⟩ = some (.slice Ao34 y435.length co34) := (blk_cell BK438.out 1).trans rfl; have hfy535_1 := blk_frozen BK438.out 1; have hcy535_2 : w535.cell? ⟨gb438, 2, none⟩ = some (.int .i64 a2) := (blk_cell BK438.out 2).trans rfl; have hfy535_2 := blk_frozen BK438.out 2; have hcy535_3 : w535.cell? ⟨gb438, 3, none⟩ = some (.bool false) := (blk_cell BK438.out 3).trans rfl; have hfy535_3 := blk_frozen BK438.out 3) | ((with_reducible refine gate_callee (f := 49) rfl ?_); refine gL (some 57) Tryd.func49 #[.agg #[.slice Ao31 t431.length co31, .slice Ao34 y435.length co34, .int .i64 0, .bool false], .bool a0, .int .i64 a4] ?_; (with_reducible refine (plumbref07_Q_round.calls kj5 _ _ t431 _ _ y435 0 false a0 a4 t447 t448 _ ?side1 ?side2 ?side3 ?side4 A29.out).mono ?_); (case side1 => refine (Kd.R_reads' (e := 26) (base := w.heap.size) (ok := fun k_ => (True ∧ some k_ ≠ (.slice Ao34 y435.length co34 : Value).ownBlock)) (n := t431.length) (c := co31) ?_).2.2; exact (by (with_reducible repeat (first | apply Kd.R_alloc | apply Kd.R_drewN | apply Kd.R_drew)); exact (Kd.R_mono (Kd.R_far (p := ⟨gb438, 2, none⟩) (Kd.R_types HO433.out BK438.out (by decide)) (fun _ hk => hk.2) (.int .i64 0)) (fun _ h_ => h_.1)))); (case side2 => exact (Kd.R_reads' HO433.out).2.1); (case side3 => refine (Kd.R_reads' (e := 26) (base := w.heap.size) (ok := fun k_ => (True ∧ some k_ ≠ (.slice Ao31 t431.length co31 : Value).ownBlock)) (n := y435.length) (c := co34) ?_).2.2; exact (by (with_reducible repeat (first | apply Kd.R_alloc | apply Kd.R_drewN | apply Kd.R_drew)); exact (Kd.R_mono (Kd.R_far (p := ⟨gb438, 2, none⟩) (Kd.R_types HO437.out BK438.out (by decide)) (fun _ hk => hk.2) (.int .i64 0)) (fun _ h_ => h_.1)))); (case side4 => exact (Kd.R_reads' HO437.out).2.1); rintro e w37 ⟨rfl, hb⟩; refine ⟨_, rfl, ?_⟩; replace HO433 := Aside0.mk (Kd.R_below (by (with_reducible repeat (first | apply Kd.R_alloc | apply Kd.R_drewN | apply Kd.R_drew)); exact (Kd.R_mono (Kd.R_far (p := ⟨gb438, 2, none⟩) (Kd.R_types HO433.out BK438.out (by decide)) (fun _ hk => hk.2) (.int .i64 0)) (fun _ h_ => h_.1))) hb); replace HO437 := Aside0.mk (Kd.R_below (by (with_reducible repeat (first | apply Kd.R_alloc | apply Kd.R_drewN | apply Kd.R_drew)); exact (Kd.R_mono (Kd.R_far (p := ⟨gb438, 2, none⟩) (Kd.R_types HO437.out BK438.out (by decide)) (fun _ hk => hk.2) (.int .i64 0)) (fun _ h_ => h_.1))) hb); replace BK438 := Aside0.mk (blk_below (g := gb438) (o := .cells #[.slice Ao31 t431.length co31, .slice Ao34 y435.length co34, .int .i64 0, .bool false] 77 (0, 0)) (by (with_reducible repeat (first | refine blk_drewN ?_ _ | refine blk_drew ?_ | refine blk_alloc ?_ _)); refine blk_put (cs := #[.slice Ao31 t431.length co31, .slice Ao34 y435.length co34, .int .i64 a2, .bool false]) ?_ 2 _ rfl; (with_reducible repeat (first | refine blk_drewN ?_ _ | refine blk_drew ?_ | refine blk_alloc ?_ _)); exact BK438.out) hb); replace HB := Aside0.mk (below_step (dG GE438.out) hb); (try clear hb)))
      go_ret2
      exact ⟨dE, dG GE438.out⟩
    ·rw [if_neg c11] at H
     have c11b0 : (t434 == 0) = false := beq_eq_false_iff_ne.mpr c11
     have c11b1 : (t434 != 0) = true := bne_iff_ne.mpr c11
     by_cases c38 : a2 > (wrap64 (1100 - t434))
     ·rw [if_pos c38] at H
      have c38b0 : decide ((wrap64 (1100 - t434)) < a2) = true := decide_eq_true c38
      clear c38
      replace H := obe H
      obtain ⟨⟨t449, t450⟩, A390, H⟩ := H
      replace H : (some (t449, t450)) = some (r1, r2) := H
      have A39 := Aside0.mk A390
      clear A390
      simp only [Option.some.injEq, Prod.mk.injEq] at H
      obtain ⟨rfl, rfl⟩ := H
      go_wp2_with (first | ((with_reducible refine gate_callee (f := 47) rfl ?_); refine gL (some 22) Tryd.func47 #[.slice A1 l1.length c1] ?_; (with_reducible refine (plumbref03_Norm.calls kj5 _ _ l1 t431 _ ?side1 ?side2 A9.out).mono ?_); (case side1 => exact dC (Kd.C_below HR1.out HB.out)); (case side2 => exact HC1.out); rintro e w40 ⟨v432, rfl, ho0, hb⟩; refine ⟨_, rfl, ?_⟩; have HO433 := Aside0.mk (Kd.R_lower ho0 (below_size dB)); replace HB := Aside0.mk (below_step dB hb); (try clear hb); (try clear ho0); obtain ⟨Ao41, co41, eo41⟩ := Kd.R_slice HO433.out; subst eo41) | ((with_reducible refine gate_callee (f := 48) rfl ?_); refine gL (some 24) Tryd.func48 #[.slice Ao41 t431.length co41] ?_; (with_reducible refine (plumbref03_Bits.calls kj5 _ _ t431 t434 _ ?side1 ?side2 A10.out).mono ?_); (case side1 => exact dC (Kd.R_reads' HO433.out).2.2); (case side2 => exact (Kd.R_reads' HO433.out).2.1); rintro e w' ⟨rfl, ⟨nd, rfl⟩⟩; refine ⟨_, rfl, ?_⟩; (try (rw [drewN_self w40]; generalize hq_ : World.drewN w40 _ = w40; have n0_ : Aside0 (Kd.R (Kd.int .u64) 26 w40 w.heap.size (fun _ => True) (.slice Ao41 t431.length co41) t431) := ⟨by rw [← hq_]; exact (dR HO433.out)⟩; have n1_ : Aside0 (Below w.heap.size w w40) := ⟨by rw [← hq_]; exact dB⟩; clear HO433 HB hq_; have HO433 := n0_; have HB := n1_; clear n0_ n1_))) | ((with_reducible refine gate_dst (N := 26) rfl ?_); refine Kd.R_lit (Kd.int .u64) _ 26 ?hg (N := 26) ?hd (xs := ([1] : List Int)) (inner := [.int .u64 1]) (ok := fun _ => True) (okp := fun _ => True) ?hr ?hp (fun _ hk => hk) trivial (Below.refl _ _) (Nat.le_refl _) (by simp) ?_; (case hd => rfl); (case hg => rfl); (case hr => first | (go_simp; done) | (go_simp; rfl)); (case hp => exact (Reps.one (show Kd.M (Kd.int .u64) _ _ _ 1 [.int .u64 1] from rfl) (Reps.none _ _))); intro v436 w42 ho43 hb hg_ hnew_; clear hg_ hnew_; (first | rw [← Ny435.out] at ho43 | (simp only [Int.reduceToNat] at ho43; rw [← Ny435.out] at ho43)); have HO437 := Aside0.mk (Kd.R_lower (Kd.R_new' ho43 (Kd.R_lt (dR HO433.out))) (below_size dB)); replace HO433 := Aside0.mk (Kd.R_elder' (dR HO433.out) (Kd.R_base ho43) hb); replace HB := Aside0.mk (below_step dB hb); clear hb ho43; obtain ⟨Ao44, co44, eo44⟩ := Kd.R_slice HO437.out; subst eo44) | ((with_reducible refine gate_dst (N := 14) rfl ?_); refine box_event ?hg (N := 14) ?hd (cs := #[.slice none 0 0, .slice none 0 0, .int .i64 0, .bool false]) (t := 77) ?hr ?_; (case hd => rfl); (case hg => rfl); (case hr => first | (go_simp; done) | (go_simp; rfl)); intro gb438 hg w45 hbox hb; replace HO433 := Aside0.mk (Kd.R_below (dR HO433.out) hb); replace HO437 := Aside0.mk (Kd.R_below (dR HO437.out) hb); have BK438 := Aside0.mk (hbox); have GW438 := Aside0.mk ((by rw [hg]; exact (below_size dB) : w.heap.size ≤ gb438)); have GE438 := Aside0.mk ((by rw [hg]; exact (below_size dB) : w.heap.size ≤ gb438)); replace HB := Aside0.mk (below_step dB hb); clear hb hbox hg; have hcz46_0 : w45.cell? ⟨gb438, 0, none⟩ = some (.slice none 0 0) := (blk_cell BK438.out 0).trans rfl; have hcz46_1 : w45.cell? ⟨gb438, 1, none⟩ = some (.slice none 0 0) := (blk_cell BK438.out 1).trans rfl; have hcz46_2 : w45.cell? ⟨gb438, 2, none⟩ = some (.int .i64 0) := (blk_cell BK438.out 2).trans rfl; have hcz46_3 : w45.cell? ⟨gb438, 3, none⟩ = some (.bool false) := (blk_cell BK438.out 3).trans rfl; have hfz46_0 := blk_frozen BK438.out 0; have hfz46_1 := blk_frozen BK438.out 1; have hfz46_2 := blk_frozen BK438.out 2; have hfz46_3 := blk_frozen BK438.out 3) | ((with_reducible refine gate_store (t := 77) (p := 14) rfl ?_); refine store_event (t := 77) (p := 14) (v := ?vo_) (w1 := ((((w45.setCell ⟨gb438, 0, none⟩ (.slice Ao41 t431.length co41)).setCell ⟨gb438, 1, none⟩ (.slice Ao44 y435.length co44)).setCell ⟨gb438, 2, none⟩ (.int .i64 a2)).setCell ⟨gb438, 3, none⟩ (.bool a3))) ?hg ?ho ?hn ?hr ?_; (case ho => rfl); (case hg => rfl); (case hn => rfl); (case hr => first | (go_simp; done) | (go_simp; rfl)); intro w545 hw; replace HO433 := Aside0.mk (show Kd.R (Kd.int .u64) 26 w545 w.heap.size (fun k_ => True ∧ some k_ ≠ (.slice Ao44 y435.length co44 : Value).ownBlock) (.slice Ao41 t431.length co41) t431 from by rw [hw]; exact (Kd.R_mono (Kd.R_far (p := ⟨gb438, 3, none⟩) (Kd.R_far (p := ⟨gb438, 2, none⟩) (Kd.R_far (p := ⟨gb438, 1, none⟩) (Kd.R_far (p := ⟨gb438, 0, none⟩) (Kd.R_types HO433.out BK438.out (by decide)) (fun _ hk => hk.2) (.slice Ao41 t431.length co41)) (fun _ hk => hk.2) (.slice Ao44 y435.length co44)) (fun _ hk => hk.2) (.int .i64 a2)) (fun _ hk => hk.2) (.bool a3)) (fun _ h_ => h_.1))); replace HO437 := Aside0.mk (show Kd.R (Kd.int .u64) 26 w545 w.heap.size (fun k_ => True ∧ some k_ ≠ (.slice Ao41 t431.length co41 : Value).ownBlock) (.slice Ao44 y435.length co44) y435 from by rw [hw]; exact (Kd.R_mono (Kd.R_far (p := ⟨gb438, 3, none⟩) (Kd.R_far (p := ⟨gb438, 2, none⟩) (Kd.R_far (p := ⟨gb438, 1, none⟩) (Kd.R_far (p := ⟨gb438, 0, none⟩) (Kd.R_types HO437.out BK438.out (by decide)) (fun _ hk => hk.2) (.slice Ao41 t431.length co41)) (fun _ hk => hk.2) (.slice Ao44 y435.length co44)) (fun _ hk => hk.2) (.int .i64 a2)) (fun _ hk => hk.2) (.bool a3)) (fun _ h_ => h_.1))); replace BK438 := Aside0.mk (show w545.heap[gb438]? = some (.cells #[.slice Ao41 t431.length co41, .slice Ao44 y435.length co44, .int .i64 a2, .bool a3] 77 (0, 0)) from by rw [hw]; exact blk_put (blk_put (blk_put (blk_put BK438.out 0 _ rfl) 1 _ rfl) 2 _ rfl) 3 _ rfl); replace HB := Aside0.mk ((by rw [hw]; exact below_set (below_set (below_set (below_set HB.out GE438.out) GE438.out) GE438.out) GE438.out : Below w.heap.size w w545)); clear hw; have hcy545_0 : w545.cell? ⟨gb438, 0, none⟩ = some (.slice Ao41 t431.length co41) := (blk_cell BK438.out 0).trans rfl; have hfy545_0 := blk_frozen BK438.out 0; have hcy545_1 : w545.cell? ⟨gb438, 1, none⟩ = some (.slice Ao44 y435.length co44) := (blk_cell BK438.out 1).trans rfl; have hfy545_1 := blk_frozen BK438.out 1; have hcy545_2 : w545.cell? ⟨gb438, 2, none⟩ = some (.int .i64 a2) := (blk_cell BK438.out 2).trans rfl; have hfy545_2 := blk_frozen BK438.out 2; have hcy545_3 : w545.cell? ⟨gb438, 3, none⟩ = some (.bool a3) := (blk_cell BK438.out 3).trans rfl; have hfy545_3 := blk_frozen BK438.out 3) | ((with_reducible refine gate_callee (f := 49) rfl ?_); refine gL (some 57) Tryd.func49 #[.agg #[.slice Ao41 t431.length co41, .slice Ao44 y435.length co44, .int .i64 (wrap64 (1100 - t434)), .bool a3], .bool a0, .int .i64 a4] ?_; (with_reducible refine (plumbref07_Q_round.calls kj5 _ _ t431 _ _ y435 (wrap64 (1100 - t434)) a3 a0 a4 t449 t450 _ ?side1 ?side2 ?side3 ?side4 A39.out).mono ?_); (case side1 => refine (Kd.R_reads' (e := 26) (base := w.heap.size) (ok := fun k_ => (True ∧ some k_ ≠ (.slice Ao44 y435.length co44 : Value).ownBlock)) (n := t431.length) (c := co41) ?_).2.2; exact (by (with_reducible repeat (first | apply Kd.R_alloc | apply Kd.R_drewN | apply Kd.R_drew)); exact (Kd.R_mono (Kd.R_far (p := ⟨gb438, 2, none⟩) (Kd.R_types HO433.out BK438.out (by decide)) (fun _ hk => hk.2) (.int .i64 (wrap64 (1100 - t434)))) (fun _ h_ => h_.1)))); (case side2 => exact (Kd.R_reads' HO433.out).2.1); (case side3 => refine (Kd.R_reads' (e := 26) (base := w.heap.size) (ok := fun k_ => (True ∧ some k_ ≠ (.slice Ao41 t431.length co41 : Value).ownBlock)) (n := y435.length) (c := co44) ?_).2.2; exact (by (with_reducible repeat (first | apply Kd.R_alloc | apply Kd.R_drewN | apply Kd.R_drew)); exact (Kd.R_mono (Kd.R_far (p := ⟨gb438, 2, none⟩) (Kd.R_types HO437.out BK438.out (by decide)) (fun _ hk => hk.2) (.int .i64 (wrap64 (1100 - t434)))) (fun _ h_ => h_.1)))); (case side4 => exact (Kd.R_reads' HO437.out).2.1); rintro e w47 ⟨rfl, hb⟩; refine ⟨_, rfl, ?_⟩; replace HO433 := Aside0.mk (Kd.R_below (by (with_reducible repeat (first | apply Kd.R_alloc | apply Kd.R_drewN | apply Kd.R_drew)); exact (Kd.R_mono (Kd.R_far (p := ⟨gb438, 2, none⟩) (Kd.R_types HO433.out BK438.out (by decide)) (fun _ hk => hk.2) (.int .i64 (wrap64 (1100 - t434)))) (fun _ h_ => h_.1))) hb); replace HO437 := Aside0.mk (Kd.R_below (by (with_reducible repeat (first | apply Kd.R_alloc | apply Kd.R_drewN | apply Kd.R_drew)); exact (Kd.R_mono (Kd.R_far (p := ⟨gb438, 2, none⟩) (Kd.R_types HO437.out BK438.out (by decide)) (fun _ hk => hk.2) (.int .i64 (wrap64 (1100 - t434)))) (fun _ h_ => h_.1))) hb); replace BK438 := Aside0.mk (blk_below (g := gb438) (o := .cells #[.slice Ao41 t431.length co41, .slice Ao44 y435.length co44, .int .i64 (wrap64 (1100 - t434)), .bool a3] 77 (0, 0)) (by (with_reducible repeat (first | refine blk_drewN ?_ _ | refine blk_drew ?_ | refine blk_alloc ?_ _)); refine blk_put (cs := #[.slice Ao41 t431.length co41, .slice Ao44 y435.length co44, .int .i64 a2, .bool a3]) ?_ 2 _ rfl; (with_reducible repeat (first | refine blk_drewN ?_ _ | refine blk_drew ?_ | refine blk_alloc ?_ _)); exact BK438.out) hb); replace HB := Aside0.mk (below_step (dG GE438.out) hb); (try clear hb)))
      go_ret2
      exact ⟨dE, dG GE438.out⟩
     ·rw [if_neg c38] at H
      have c38b0 : decide ((wrap64 (1100 - t434)) < a2) = false := decide_eq_false c38
      clear c38
      by_cases c48 : a2 < (wrap64 ((-1200) - t434))
      ·rw [if_pos c48] at H
       have c48b0 : decide (a2 < (wrap64 ((-1200) - t434))) = true := decide_eq_true c48
       clear c48
       obtain ⟨y451, hy451⟩ : ∃ y_ : List Int, y_ = (([1] : List Int)) := ⟨_, rfl⟩
       replace H : ((plumbref07_Q_round.f kj5 y451 (([1] : List Int)) (-1300) false a0 a4).bind fun bt457 => (some (bt457.1, bt457.2))) = some (r1, r2) := by first | (rw [hy451]; with_reducible exact H) | (have H2_ := (Option.bind_some _ _).symm.trans H; rw [hy451]; with_reducible exact H2_) | (have H2_ := (Option.bind_some _ _).symm.trans H; with_reducible exact H2_) | with_reducible exact H | (rw [hy451]; exact H) | exact H
       have Ny451 := Aside0.mk hy451
       clear hy451
       obtain ⟨y454, hy454⟩ : ∃ y_ : List Int, y_ = (([1] : List Int)) := ⟨_, rfl⟩
       replace H : ((plumbref07_Q_round.f kj5 y451 y454 (-1300) false a0 a4).bind fun bt457 => (some (bt457.1, bt457.2))) = some (r1, r2) := by first | (rw [hy454]; with_reducible exact H) | (have H2_ := (Option.bind_some _ _).symm.trans H; rw [hy454]; with_reducible exact H2_) | (have H2_ := (Option.bind_some _ _).symm.trans H; with_reducible exact H2_) | with_reducible exact H | (rw [hy454]; exact H) | exact H
       have Ny454 := Aside0.mk hy454
       clear hy454
       replace H := obe H
       obtain ⟨⟨t457, t458⟩, A490, H⟩ := H
       replace H : (some (t457, t458)) = some (r1, r2) := H
       have A49 := Aside0.mk A490
       clear A490
       simp only [Option.some.injEq, Prod.mk.injEq] at H
       obtain ⟨rfl, rfl⟩ := H
       go_wp2_with (first | ((with_reducible refine gate_callee (f := 47) rfl ?_); refine gL (some 22) Tryd.func47 #[.slice A1 l1.length c1] ?_; (with_reducible refine (plumbref03_Norm.calls kj5 _ _ l1 t431 _ ?side1 ?side2 A9.out).mono ?_); (case side1 => exact dC (Kd.C_below HR1.out HB.out)); (case side2 => exact HC1.out); rintro e w50 ⟨v432, rfl, ho0, hb⟩; refine ⟨_, rfl, ?_⟩; have HO433 := Aside0.mk (Kd.R_lower ho0 (below_size dB)); replace HB := Aside0.mk (below_step dB hb); (try clear hb); (try clear ho0); obtain ⟨Ao51, co51, eo51⟩ := Kd.R_slice HO433.out; subst eo51) | ((with_reducible refine gate_callee (f := 48) rfl ?_); refine gL (some 24) Tryd.func48 #[.slice Ao51 t431.length co51] ?_; (with_reducible refine (plumbref03_Bits.calls kj5 _ _ t431 t434 _ ?side1 ?side2 A10.out).mono ?_); (case side1 => exact dC (Kd.R_reads' HO433.out).2.2); (case side2 => exact (Kd.R_reads' HO433.out).2.1); rintro e w' ⟨rfl, ⟨nd, rfl⟩⟩; refine ⟨_, rfl, ?_⟩; (try (rw [drewN_self w50]; generalize hq_ : World.drewN w50 _ = w50; have n0_ : Aside0 (Kd.R (Kd.int .u64) 26 w50 w.heap.size (fun _ => True) (.slice Ao51 t431.length co51) t431) := ⟨by rw [← hq_]; exact (dR HO433.out)⟩; have n1_ : Aside0 (Below w.heap.size w w50) := ⟨by rw [← hq_]; exact dB⟩; clear HO433 HB hq_; have HO433 := n0_; have HB := n1_; clear n0_ n1_))) | ((with_reducible refine gate_dst (N := 26) rfl ?_); refine Kd.R_lit (Kd.int .u64) _ 26 ?hg (N := 26) ?hd (xs := ([1] : List Int)) (inner := [.int .u64 1]) (ok := fun _ => True) (okp := fun _ => True) ?hr ?hp (fun _ hk => hk) trivial (Below.refl _ _) (Nat.le_refl _) (by simp) ?_; (case hd => rfl); (case hg => rfl); (case hr => first | (go_simp; done) | (go_simp; rfl)); (case hp => exact (Reps.one (show Kd.M (Kd.int .u64) _ _ _ 1 [.int .u64 1] from rfl) (Reps.none _ _))); intro v436 w52 ho53 hb hg_ hnew_; clear hg_ hnew_; (first | rw [← Ny435.out] at ho53 | (simp only [Int.reduceToNat] at ho53; rw [← Ny435.out] at ho53)); have HO437 := Aside0.mk (Kd.R_lower (Kd.R_new' ho53 (Kd.R_lt (dR HO433.out))) (below_size dB)); replace HO433 := Aside0.mk (Kd.R_elder' (dR HO433.out) (Kd.R_base ho53) hb); replace HB := Aside0.mk (below_step dB hb); clear hb ho53; obtain ⟨Ao54, co54, eo54⟩ := Kd.R_slice HO437.out; subst eo54) | ((with_reducible refine gate_dst (N := 14) rfl ?_); refine box_event ?hg (N := 14) ?hd (cs := #[.slice none 0 0, .slice none 0 0, .int .i64 0, .bool false]) (t := 77) ?hr ?_; (case hd => rfl); (case hg => rfl); (case hr => first | (go_simp; done) | (go_simp; rfl)); intro gb438 hg w55 hbox hb; replace HO433 := Aside0.mk (Kd.R_below (dR HO433.out) hb); replace HO437 := Aside0.mk (Kd.R_below (dR HO437.out) hb); have BK438 := Aside0.mk (hbox); have GW438 := Aside0.mk ((by rw [hg]; exact (below_size dB) : w.heap.size ≤ gb438)); have GE438 := Aside0.mk ((by rw [hg]; exact (below_size dB) : w.heap.size ≤ gb438)); replace HB := Aside0.mk (below_step dB hb); clear hb hbox hg; have hcz56_0 : w55.cell? ⟨gb438, 0, none⟩ = some (.slice none 0 0) := (blk_cell BK438.out 0).trans rfl; have hcz56_1 : w55.cell? ⟨gb438, 1, none⟩ = some (.slice none 0 0) := (blk_cell BK438.out 1).trans rfl; have hcz56_2 : w55.cell? ⟨gb438, 2, none⟩ = some (.int .i64 0) := (blk_cell BK438.out 2).trans rfl; have hcz56_3 : w55.cell? ⟨gb438, 3, none⟩ = some (.bool false) := (blk_cell BK438.out 3).trans rfl; have hfz56_0 := blk_frozen BK438.out 0; have hfz56_1 := blk_frozen BK438.out 1; have hfz56_2 := blk_frozen BK438.out 2; have hfz56_3 := blk_frozen BK438.out 3) | ((with_reducible refine gate_dst (N := 51) rfl ?_); refine Kd.R_lit (Kd.int .u64) _ 26 ?hg (N := 51) ?hd (xs := ([1] : List Int)) (inner := [.int .u64 1]) (ok := fun _ => True) (okp := fun _ => True) ?hr ?hp (fun _ hk => hk) trivial (Below.refl _ _) (Nat.le_refl _) (by simp) ?_; (case hd => rfl); (case hg => rfl); (case hr => first | (go_simp; done) | (go_simp; rfl)); (case hp => exact (Reps.one (show Kd.M (Kd.int .u64) _ _ _ 1 [.int .u64 1] from rfl) (Reps.none _ _))); intro v452 w57 ho58 hb hg_ hnew_; clear hg_ hnew_; (first | rw [← Ny451.out] at ho58 | (simp only [Int.reduceToNat] at ho58; rw [← Ny451.out] at ho58)); have HO453 := Aside0.mk (Kd.R_lower (Kd.R_new' (Kd.R_new' ho58 (Kd.R_lt (by (with_reducible repeat (first | apply Kd.R_alloc | apply Kd.R_drewN | apply Kd.R_drew)); exact (Kd.R_mono (Kd.R_far (p := ⟨gb438, 3, none⟩) (Kd.R_far (p := ⟨gb438, 2, none⟩) (Kd.R_far (p := ⟨gb438, 1, none⟩) (Kd.R_far (p := ⟨gb438, 0, none⟩) (Kd.R_types HO433.out BK438.out (by decide)) (fun _ hk => hk.2) (.slice Ao51 t431.length co51)) (fun _ hk => hk.2) (.slice Ao54 y435.length co54)) (fun _ hk => hk.2) (.int .i64 a2)) (fun _ hk => hk.2) (.bool a3)) (fun _ h_ => h_.1))))) (Kd.R_lt (by (with_reducible repeat (first | apply Kd.R_alloc | apply Kd.R_drewN | apply Kd.R_drew)); exact (Kd.R_mono (Kd.R_far (p := ⟨gb438, 3, none⟩) (Kd.R_far (p := ⟨gb438, 2, none⟩) (Kd.R_far (p := ⟨gb438, 1, none⟩) (Kd.R_far (p := ⟨gb438, 0, none⟩) (Kd.R_types HO437.out BK438.out (by decide)) (fun _ hk => hk.2) (.slice Ao51 t431.length co51)) (fun _ hk => hk.2) (.slice Ao54 y435.length co54)) (fun _ hk => hk.2) (.int .i64 a2)) (fun _ hk => hk.2) (.bool a3)) (fun _ h_ => h_.1))))) (below_size (dG GE438.out))); replace HO433 := Aside0.mk (Kd.R_elder' (by (with_reducible repeat (first | apply Kd.R_alloc | apply Kd.R_drewN | apply Kd.R_drew)); exact (Kd.R_mono (Kd.R_far (p := ⟨gb438, 3, none⟩) (Kd.R_far (p := ⟨gb438, 2, none⟩) (Kd.R_far (p := ⟨gb438, 1, none⟩) (Kd.R_far (p := ⟨gb438, 0, none⟩) (Kd.R_types HO433.out BK438.out (by decide)) (fun _ hk => hk.2) (.slice Ao51 t431.length co51)) (fun _ hk => hk.2) (.slice Ao54 y435.length co54)) (fun _ hk => hk.2) (.int .i64 a2)) (fun _ hk => hk.2) (.bool a3)) (fun _ h_ => h_.1))) (Kd.R_base ho58) hb); replace HO437 := Aside0.mk (Kd.R_elder' (by (with_reducible repeat (first | apply Kd.R_alloc | apply Kd.R_drewN | apply Kd.R_drew)); exact (Kd.R_mono (Kd.R_far (p := ⟨gb438, 3, none⟩) (Kd.R_far (p := ⟨gb438, 2, none⟩) (Kd.R_far (p := ⟨gb438, 1, none⟩) (Kd.R_far (p := ⟨gb438, 0, none⟩) (Kd.R_types HO437.out BK438.out (by decide)) (fun _ hk => hk.2) (.slice Ao51 t431.length co51)) (fun _ hk => hk.2) (.slice Ao54 y435.length co54)) (fun _ hk => hk.2) (.int .i64 a2)) (fun _ hk => hk.2) (.bool a3)) (fun _ h_ => h_.1))) (Kd.R_base ho58) hb); replace BK438 := Aside0.mk (blk_below (g := gb438) (o := .cells #[.slice Ao51 t431.length co51, .slice Ao54 y435.length co54, .int .i64 a2, .bool a3] 77 (0, 0)) (by (with_reducible repeat (first | refine blk_drewN ?_ _ | refine blk_drew ?_ | refine blk_alloc ?_ _)); refine blk_put (cs := #[.slice Ao51 t431.length co51, .slice Ao54 y435.length co54, .int .i64 a2, .bool false]) ?_ 3 _ rfl; (with_reducible repeat (first | refine blk_drewN ?_ _ | refine blk_drew ?_ | refine blk_alloc ?_ _)); refine blk_put (cs := #[.slice Ao51 t431.length co51, .slice Ao54 y435.length co54, .int .i64 0, .bool false]) ?_ 2 _ rfl; (with_reducible repeat (first | refine blk_drewN ?_ _ | refine blk_drew ?_ | refine blk_alloc ?_ _)); refine blk_put (cs := #[.slice Ao51 t431.length co51, .slice none 0 0, .int .i64 0, .bool false]) ?_ 1 _ rfl; (with_reducible repeat (first | refine blk_drewN ?_ _ | refine blk_drew ?_ | refine blk_alloc ?_ _)); refine blk_put (cs := #[.slice none 0 0, .slice none 0 0, .int .i64 0, .bool false]) ?_ 0 _ rfl; (with_reducible repeat (first | refine blk_drewN ?_ _ | refine blk_drew ?_ | refine blk_alloc ?_ _)); exact BK438.out) hb); replace HB := Aside0.mk (below_step (dG GE438.out) hb); clear hb ho58) | ((with_reducible refine gate_dst (N := 52) rfl ?_); refine Kd.R_lit (Kd.int .u64) _ 26 ?hg (N := 52) ?hd (xs := ([1] : List Int)) (inner := [.int .u64 1]) (ok := fun _ => True) (okp := fun _ => True) ?hr ?hp (fun _ hk => hk) trivial (Below.refl _ _) (Nat.le_refl _) (by simp) ?_; (case hd => rfl); (case hg => rfl); (case hr => first | (go_simp; done) | (go_simp; rfl)); (case hp => exact (Reps.one (show Kd.M (Kd.int .u64) _ _ _ 1 [.int .u64 1] from rfl) (Reps.none _ _))); intro v455 w59 ho60 hb hg_ hnew_; clear hg_ hnew_; (first | rw [← Ny454.out] at ho60 | (simp only [Int.reduceToNat] at ho60; rw [← Ny454.out] at ho60)); have HO456 := Aside0.mk (Kd.R_lower (Kd.R_new' (Kd.R_new' (Kd.R_new' ho60 (Kd.R_lt (dR HO433.out))) (Kd.R_lt (dR HO437.out))) (Kd.R_lt (dR HO453.out))) (below_size (dG GE438.out))); replace HO433 := Aside0.mk (Kd.R_elder' (dR HO433.out) (Kd.R_base ho60) hb); replace HO437 := Aside0.mk (Kd.R_elder' (dR HO437.out) (Kd.R_base ho60) hb); replace HO453 := Aside0.mk (Kd.R_elder' (dR HO453.out) (Kd.R_base ho60) hb); replace BK438 := Aside0.mk (blk_below (g := gb438) (o := .cells #[.slice Ao51 t431.length co51, .slice Ao54 y435.length co54, .int .i64 a2, .bool a3] 77 (0, 0)) (dK BK438.out) hb); replace HB := Aside0.mk (below_step (dG GE438.out) hb); clear hb ho60; obtain ⟨Ao61, co61, eo61⟩ := Kd.R_slice HO456.out; subst eo61; obtain ⟨Ao62, co62, eo62⟩ := Kd.R_slice HO453.out; subst eo62; have hcz63_0 : w59.cell? ⟨gb438, 0, none⟩ = some (.slice Ao51 t431.length co51) := (blk_cell BK438.out 0).trans rfl; have hcz63_1 : w59.cell? ⟨gb438, 1, none⟩ = some (.slice Ao54 y435.length co54) := (blk_cell BK438.out 1).trans rfl; have hcz63_2 : w59.cell? ⟨gb438, 2, none⟩ = some (.int .i64 a2) := (blk_cell BK438.out 2).trans rfl; have hcz63_3 : w59.cell? ⟨gb438, 3, none⟩ = some (.bool a3) := (blk_cell BK438.out 3).trans rfl; have hfz63_0 := blk_frozen BK438.out 0; have hfz63_1 := blk_frozen BK438.out 1; have hfz63_2 := blk_frozen BK438.out 2; have hfz63_3 := blk_frozen BK438.out 3) | ((with_reducible refine gate_callee (f := 49) rfl ?_); refine gL (some 57) Tryd.func49 #[.agg #[.slice Ao62 y451.length co62, .slice Ao61 y454.length co61, .int .i64 (-1300), .bool false], .bool a0, .int .i64 a4] ?_; (with_reducible refine (plumbref07_Q_round.calls kj5 _ _ y451 _ _ y454 (-1300) false a0 a4 t457 t458 _ ?side1 ?side2 ?side3 ?side4 A49.out).mono ?_); (case side1 => refine (Kd.R_reads' (e := 26) (base := w.heap.size) (ok := fun k_ => (((True ∧ some k_ ≠ (.slice Ao51 t431.length co51 : Value).ownBlock) ∧ some k_ ≠ (.slice Ao54 y435.length co54 : Value).ownBlock) ∧ some k_ ≠ (.slice Ao61 y454.length co61 : Value).ownBlock)) (n := y451.length) (c := co62) ?_).2.2; exact (by (with_reducible repeat (first | apply Kd.R_alloc | apply Kd.R_drewN | apply Kd.R_drew)); exact (Kd.R_mono (Kd.R_far (p := ⟨gb438, 3, none⟩) (Kd.R_far (p := ⟨gb438, 2, none⟩) (Kd.R_far (p := ⟨gb438, 1, none⟩) (Kd.R_far (p := ⟨gb438, 0, none⟩) (Kd.R_types HO453.out BK438.out (by decide)) (fun _ hk => hk.2) (.slice Ao62 y451.length co62)) (fun _ hk => hk.2) (.slice Ao61 y454.length co61)) (fun _ hk => hk.2) (.int .i64 (-1300))) (fun _ hk => hk.2) (.bool false)) (fun _ h_ => h_.1)))); (case side2 => exact (Kd.R_reads' HO453.out).2.1); (case side3 => refine (Kd.R_reads' (e := 26) (base := w.heap.size) (ok := fun k_ => (((True ∧ some k_ ≠ (.slice Ao51 t431.length co51 : Value).ownBlock) ∧ some k_ ≠ (.slice Ao54 y435.length co54 : Value).ownBlock) ∧ some k_ ≠ (.slice Ao62 y451.length co62 : Value).ownBlock)) (n := y454.length) (c := co61) ?_).2.2; exact (by (with_reducible repeat (first | apply Kd.R_alloc | apply Kd.R_drewN | apply Kd.R_drew)); exact (Kd.R_mono (Kd.R_far (p := ⟨gb438, 3, none⟩) (Kd.R_far (p := ⟨gb438, 2, none⟩) (Kd.R_far (p := ⟨gb438, 1, none⟩) (Kd.R_far (p := ⟨gb438, 0, none⟩) (Kd.R_types HO456.out BK438.out (by decide)) (fun _ hk => hk.2) (.slice Ao62 y451.length co62)) (fun _ hk => hk.2) (.slice Ao61 y454.length co61)) (fun _ hk => hk.2) (.int .i64 (-1300))) (fun _ hk => hk.2) (.bool false)) (fun _ h_ => h_.1)))); (case side4 => exact (Kd.R_reads' HO456.out).2.1); rintro e w64 ⟨rfl, hb⟩; refine ⟨_, rfl, ?_⟩; replace HO433 := Aside0.mk (Kd.R_below (by (with_reducible repeat (first | apply Kd.R_alloc | apply Kd.R_drewN | apply Kd.R_drew)); exact (Kd.R_mono (Kd.R_far (p := ⟨gb438, 3, none⟩) (Kd.R_far (p := ⟨gb438, 2, none⟩) (Kd.R_far (p := ⟨gb438, 1, none⟩) (Kd.R_far (p := ⟨gb438, 0, none⟩) (Kd.R_types HO433.out BK438.out (by decide)) (fun _ hk => hk.2) (.slice Ao62 y451.length co62)) (fun _ hk => hk.2) (.slice Ao61 y454.length co61)) (fun _ hk => hk.2) (.int .i64 (-1300))) (fun _ hk => hk.2) (.bool false)) (fun _ h_ => h_.1))) hb); replace HO437 := Aside0.mk (Kd.R_below (by (with_reducible repeat (first | apply Kd.R_alloc | apply Kd.R_drewN | apply Kd.R_drew)); exact (Kd.R_mono (Kd.R_far (p := ⟨gb438, 3, none⟩) (Kd.R_far (p := ⟨gb438, 2, none⟩) (Kd.R_far (p := ⟨gb438, 1, none⟩) (Kd.R_far (p := ⟨gb438, 0, none⟩) (Kd.R_types HO437.out BK438.out (by decide)) (fun _ hk => hk.2) (.slice Ao62 y451.length co62)) (fun _ hk => hk.2) (.slice Ao61 y454.length co61)) (fun _ hk => hk.2) (.int .i64 (-1300))) (fun _ hk => hk.2) (.bool false)) (fun _ h_ => h_.1))) hb); replace HO453 := Aside0.mk (Kd.R_below (by (with_reducible repeat (first | apply Kd.R_alloc | apply Kd.R_drewN | apply Kd.R_drew)); exact (Kd.R_mono (Kd.R_far (p := ⟨gb438, 3, none⟩) (Kd.R_far (p := ⟨gb438, 2, none⟩) (Kd.R_far (p := ⟨gb438, 1, none⟩) (Kd.R_far (p := ⟨gb438, 0, none⟩) (Kd.R_types HO453.out BK438.out (by decide)) (fun _ hk => hk.2) (.slice Ao62 y451.length co62)) (fun _ hk => hk.2) (.slice Ao61 y454.length co61)) (fun _ hk => hk.2) (.int .i64 (-1300))) (fun _ hk => hk.2) (.bool false)) (fun _ h_ => h_.1))) hb); replace HO456 := Aside0.mk (Kd.R_below (by (with_reducible repeat (first | apply Kd.R_alloc | apply Kd.R_drewN | apply Kd.R_drew)); exact (Kd.R_mono (Kd.R_far (p := ⟨gb438, 3, none⟩) (Kd.R_far (p := ⟨gb438, 2, none⟩) (Kd.R_far (p := ⟨gb438, 1, none⟩) (Kd.R_far (p := ⟨gb438, 0, none⟩) (Kd.R_types HO456.out BK438.out (by decide)) (fun _ hk => hk.2) (.slice Ao62 y451.length co62)) (fun _ hk => hk.2) (.slice Ao61 y454.length co61)) (fun _ hk => hk.2) (.int .i64 (-1300))) (fun _ hk => hk.2) (.bool false)) (fun _ h_ => h_.1))) hb); replace BK438 := Aside0.mk (blk_below (g := gb438) (o := .cells #[.slice Ao62 y451.length co62, .slice Ao61 y454.length co61, .int .i64 (-1300), .bool false] 77 (0, 0)) (by (with_reducible repeat (first | refine blk_drewN ?_ _ | refine blk_drew ?_ | refine blk_alloc ?_ _)); refine blk_put (cs := #[.slice Ao62 y451.length co62, .slice Ao61 y454.length co61, .int .i64 (-1300), .bool a3]) ?_ 3 _ rfl; (with_reducible repeat (first | refine blk_drewN ?_ _ | refine blk_drew ?_ | refine blk_alloc ?_ _)); refine blk_put (cs := #[.slice Ao62 y451.length co62, .slice Ao61 y454.length co61, .int .i64 a2, .bool a3]) ?_ 2 _ rfl; (with_reducible repeat (first | refine blk_drewN ?_ _ | refine blk_drew ?_ | refine blk_alloc ?_ _)); refine blk_put (cs := #[.slice Ao62 y451.length co62, .slice Ao54 y435.length co54, .int .i64 a2, .bool a3]) ?_ 1 _ rfl; (with_reducible repeat (first | refine blk_drewN ?_ _ | refine blk_drew ?_ | refine blk_alloc ?_ _)); refine blk_put (cs := #[.slice Ao51 t431.length co51, .slice Ao54 y435.length co54, .int .i64 a2, .bool a3]) ?_ 0 _ rfl; (with_reducible repeat (first | refine blk_drewN ?_ _ | refine blk_drew ?_ | refine blk_alloc ?_ _)); exact BK438.out) hb); replace HB := Aside0.mk (below_step (dG GE438.out) hb); (try clear hb)))
       go_ret2
       exact ⟨dE, dG GE438.out⟩
      ·rw [if_neg c48] at H
       have c48b0 : decide (a2 < (wrap64 ((-1200) - t434))) = false := decide_eq_false c48
       clear c48
       replace H := obe H
       obtain ⟨⟨t459, t460⟩, A650, H⟩ := H
       replace H : (some (t459, t460)) = some (r1, r2) := H
       have A65 := Aside0.mk A650
       clear A650
       simp only [Option.some.injEq, Prod.mk.injEq] at H
       obtain ⟨rfl, rfl⟩ := H
       go_wp2_with (first | ((with_reducible refine gate_callee (f := 47) rfl ?_); refine gL (some 22) Tryd.func47 #[.slice A1 l1.length c1] ?_; (with_reducible refine (plumbref03_Norm.calls kj5 _ _ l1 t431 _ ?side1 ?side2 A9.out).mono ?_); (case side1 => exact dC (Kd.C_below HR1.out HB.out)); (case side2 => exact HC1.out); rintro e w66 ⟨v432, rfl, ho0, hb⟩; refine ⟨_, rfl, ?_⟩; have HO433 := Aside0.mk (Kd.R_lower ho0 (below_size dB)); replace HB := Aside0.mk (below_step dB hb); (try clear hb); (try clear ho0); obtain ⟨Ao67, co67, eo67⟩ := Kd.R_slice HO433.out; subst eo67) | ((with_reducible refine gate_callee (f := 48) rfl ?_); refine gL (some 24) Tryd.func48 #[.slice Ao67 t431.length co67] ?_; (with_reducible refine (plumbref03_Bits.calls kj5 _ _ t431 t434 _ ?side1 ?side2 A10.out).mono ?_); (case side1 => exact dC (Kd.R_reads' HO433.out).2.2); (case side2 => exact (Kd.R_reads' HO433.out).2.1); rintro e w' ⟨rfl, ⟨nd, rfl⟩⟩; refine ⟨_, rfl, ?_⟩; (try (rw [drewN_self w66]; generalize hq_ : World.drewN w66 _ = w66; have n0_ : Aside0 (Kd.R (Kd.int .u64) 26 w66 w.heap.size (fun _ => True) (.slice Ao67 t431.length co67) t431) := ⟨by rw [← hq_]; exact (dR HO433.out)⟩; have n1_ : Aside0 (Below w.heap.size w w66) := ⟨by rw [← hq_]; exact dB⟩; clear HO433 HB hq_; have HO433 := n0_; have HB := n1_; clear n0_ n1_))) | ((with_reducible refine gate_dst (N := 26) rfl ?_); refine Kd.R_lit (Kd.int .u64) _ 26 ?hg (N := 26) ?hd (xs := ([1] : List Int)) (inner := [.int .u64 1]) (ok := fun _ => True) (okp := fun _ => True) ?hr ?hp (fun _ hk => hk) trivial (Below.refl _ _) (Nat.le_refl _) (by simp) ?_; (case hd => rfl); (case hg => rfl); (case hr => first | (go_simp; done) | (go_simp; rfl)); (case hp => exact (Reps.one (show Kd.M (Kd.int .u64) _ _ _ 1 [.int .u64 1] from rfl) (Reps.none _ _))); intro v436 w68 ho69 hb hg_ hnew_; clear hg_ hnew_; (first | rw [← Ny435.out] at ho69 | (simp only [Int.reduceToNat] at ho69; rw [← Ny435.out] at ho69)); have HO437 := Aside0.mk (Kd.R_lower (Kd.R_new' ho69 (Kd.R_lt (dR HO433.out))) (below_size dB)); replace HO433 := Aside0.mk (Kd.R_elder' (dR HO433.out) (Kd.R_base ho69) hb); replace HB := Aside0.mk (below_step dB hb); clear hb ho69; obtain ⟨Ao70, co70, eo70⟩ := Kd.R_slice HO437.out; subst eo70) | ((with_reducible refine gate_dst (N := 14) rfl ?_); refine box_event ?hg (N := 14) ?hd (cs := #[.slice none 0 0, .slice none 0 0, .int .i64 0, .bool false]) (t := 77) ?hr ?_; (case hd => rfl); (case hg => rfl); (case hr => first | (go_simp; done) | (go_simp; rfl)); intro gb438 hg w71 hbox hb; replace HO433 := Aside0.mk (Kd.R_below (dR HO433.out) hb); replace HO437 := Aside0.mk (Kd.R_below (dR HO437.out) hb); have BK438 := Aside0.mk (hbox); have GW438 := Aside0.mk ((by rw [hg]; exact (below_size dB) : w.heap.size ≤ gb438)); have GE438 := Aside0.mk ((by rw [hg]; exact (below_size dB) : w.heap.size ≤ gb438)); replace HB := Aside0.mk (below_step dB hb); clear hb hbox hg; have hcz72_0 : w71.cell? ⟨gb438, 0, none⟩ = some (.slice none 0 0) := (blk_cell BK438.out 0).trans rfl; have hcz72_1 : w71.cell? ⟨gb438, 1, none⟩ = some (.slice none 0 0) := (blk_cell BK438.out 1).trans rfl; have hcz72_2 : w71.cell? ⟨gb438, 2, none⟩ = some (.int .i64 0) := (blk_cell BK438.out 2).trans rfl; have hcz72_3 : w71.cell? ⟨gb438, 3, none⟩ = some (.bool false) := (blk_cell BK438.out 3).trans rfl; have hfz72_0 := blk_frozen BK438.out 0; have hfz72_1 := blk_frozen BK438.out 1; have hfz72_2 := blk_frozen BK438.out 2; have hfz72_3 := blk_frozen BK438.out 3) | ((with_reducible refine gate_callee (f := 49) rfl ?_); refine gL (some 57) Tryd.func49 #[.agg #[.slice Ao67 t431.length co67, .slice Ao70 y435.length co70, .int .i64 a2, .bool a3], .bool a0, .int .i64 a4] ?_; (with_reducible refine (plumbref07_Q_round.calls kj5 _ _ t431 _ _ y435 a2 a3 a0 a4 t459 t460 _ ?side1 ?side2 ?side3 ?side4 A65.out).mono ?_); (case side1 => refine (Kd.R_reads' (e := 26) (base := w.heap.size) (ok := fun k_ => (True ∧ some k_ ≠ (.slice Ao70 y435.length co70 : Value).ownBlock)) (n := t431.length) (c := co67) ?_).2.2; exact (by (with_reducible repeat (first | apply Kd.R_alloc | apply Kd.R_drewN | apply Kd.R_drew)); exact (Kd.R_mono (Kd.R_far (p := ⟨gb438, 3, none⟩) (Kd.R_far (p := ⟨gb438, 2, none⟩) (Kd.R_far (p := ⟨gb438, 1, none⟩) (Kd.R_far (p := ⟨gb438, 0, none⟩) (Kd.R_types HO433.out BK438.out (by decide)) (fun _ hk => hk.2) (.slice Ao67 t431.length co67)) (fun _ hk => hk.2) (.slice Ao70 y435.length co70)) (fun _ hk => hk.2) (.int .i64 a2)) (fun _ hk => hk.2) (.bool a3)) (fun _ h_ => h_.1)))); (case side2 => exact (Kd.R_reads' HO433.out).2.1); (case side3 => refine (Kd.R_reads' (e := 26) (base := w.heap.size) (ok := fun k_ => (True ∧ some k_ ≠ (.slice Ao67 t431.length co67 : Value).ownBlock)) (n := y435.length) (c := co70) ?_).2.2; exact (by (with_reducible repeat (first | apply Kd.R_alloc | apply Kd.R_drewN | apply Kd.R_drew)); exact (Kd.R_mono (Kd.R_far (p := ⟨gb438, 3, none⟩) (Kd.R_far (p := ⟨gb438, 2, none⟩) (Kd.R_far (p := ⟨gb438, 1, none⟩) (Kd.R_far (p := ⟨gb438, 0, none⟩) (Kd.R_types HO437.out BK438.out (by decide)) (fun _ hk => hk.2) (.slice Ao67 t431.length co67)) (fun _ hk => hk.2) (.slice Ao70 y435.length co70)) (fun _ hk => hk.2) (.int .i64 a2)) (fun _ hk => hk.2) (.bool a3)) (fun _ h_ => h_.1)))); (case side4 => exact (Kd.R_reads' HO437.out).2.1); rintro e w73 ⟨rfl, hb⟩; refine ⟨_, rfl, ?_⟩; replace HO433 := Aside0.mk (Kd.R_below (by (with_reducible repeat (first | apply Kd.R_alloc | apply Kd.R_drewN | apply Kd.R_drew)); exact (Kd.R_mono (Kd.R_far (p := ⟨gb438, 3, none⟩) (Kd.R_far (p := ⟨gb438, 2, none⟩) (Kd.R_far (p := ⟨gb438, 1, none⟩) (Kd.R_far (p := ⟨gb438, 0, none⟩) (Kd.R_types HO433.out BK438.out (by decide)) (fun _ hk => hk.2) (.slice Ao67 t431.length co67)) (fun _ hk => hk.2) (.slice Ao70 y435.length co70)) (fun _ hk => hk.2) (.int .i64 a2)) (fun _ hk => hk.2) (.bool a3)) (fun _ h_ => h_.1))) hb); replace HO437 := Aside0.mk (Kd.R_below (by (with_reducible repeat (first | apply Kd.R_alloc | apply Kd.R_drewN | apply Kd.R_drew)); exact (Kd.R_mono (Kd.R_far (p := ⟨gb438, 3, none⟩) (Kd.R_far (p := ⟨gb438, 2, none⟩) (Kd.R_far (p := ⟨gb438, 1, none⟩) (Kd.R_far (p := ⟨gb438, 0, none⟩) (Kd.R_types HO437.out BK438.out (by decide)) (fun _ hk => hk.2) (.slice Ao67 t431.length co67)) (fun _ hk => hk.2) (.slice Ao70 y435.length co70)) (fun _ hk => hk.2) (.int .i64 a2)) (fun _ hk => hk.2) (.bool a3)) (fun _ h_ => h_.1))) hb); replace BK438 := Aside0.mk (blk_below (g := gb438) (o := .cells #[.slice Ao67 t431.length co67, .slice Ao70 y435.length co70, .int .i64 a2, .bool a3] 77 (0, 0)) (by (with_reducible repeat (first | refine blk_drewN ?_ _ | refine blk_drew ?_ | refine blk_alloc ?_ _)); refine blk_put (cs := #[.slice Ao67 t431.length co67, .slice Ao70 y435.length co70, .int .i64 a2, .bool false]) ?_ 3 _ rfl; (with_reducible repeat (first | refine blk_drewN ?_ _ | refine blk_drew ?_ | refine blk_alloc ?_ _)); refine blk_put (cs := #[.slice Ao67 t431.length co67, .slice Ao70 y435.length co70, .int .i64 0, .bool false]) ?_ 2 _ rfl; (with_reducible repeat (first | refine blk_drewN ?_ _ | refine blk_drew ?_ | refine blk_alloc ?_ _)); refine blk_put (cs := #[.slice Ao67 t431.length co67, .slice none 0 0, .int .i64 0, .bool false]) ?_ 1 _ rfl; (with_reducible repeat (first | refine blk_drewN ?_ _ | refine blk_drew ?_ | refine blk_alloc ?_ _)); refine blk_put (cs := #[.slice none 0 0, .slice none 0 0, .int .i64 0, .bool false]) ?_ 0 _ rfl; (with_reducible repeat (first | refine blk_drewN ?_ _ | refine blk_drew ?_ | refine blk_alloc ?_ _)); exact BK438.out) hb); replace HB := Aside0.mk (below_step (dG GE438.out) hb); (try clear hb)))
       go_ret2
       exact ⟨dE, dG GE438.out⟩


/-! ### plumblaw07_num: function 15 -/
def plumblaw07_num.f (a0 : Int) : Option (Int) := some a0
set_option maxHeartbeats 8000000 in
set_option maxRecDepth 100000 in
theorem plumblaw07_num.calls (a0 : Int) (r : Int) (w : World) (h : plumblaw07_num.f a0 = some r) :
  Calls Tryd.prog 15 #[.int .i64 a0] w fun e w' => e = .returned (.int .i64 r) ∧ Drawn0 w w' := by
 have H : (some a0) = some r := h
 clear h
 obtain rfl := Option.some.inj H
 go_enter Tryd.func15, Tryd.ntmps15
 go_wp2
 go_ret
 exact ⟨by first | rfl | (simp; done) | (simp [*]; done), by repeat (first | exact Drawn0.refl _ | apply Drawn0.step)⟩

/-! ### plumblaw07_same: function 50 -/
def plumblaw07_same.l0 : Nat → List Int → List Int → Int → Option (Bool)
 | 0, _, _, _ => none
 | k + 1, x0, x1, x5 => if x5 < (x0.length : Int) then (if 0 ≤ x5 then (if x5 < (x1.length : Int) then (if (rd x0 x5) = (rd x1 x5) then (plumblaw07_same.l0 k x0 x1 (wrap64 (x5 + 1))) else (some false)) else (none)) else (none)) else (some true)
def plumblaw07_same.f (k : Nat) (l0 : List Int) (l1 : List Int) : Option (Bool) := if (l0.length : Int) = (l1.length : Int) then (plumblaw07_same.l0 k l0 l1 0) else (some false)
theorem plumblaw07_same.mono_l : ∀ k, (∀ y0 y1 y2, LeO (plumblaw07_same.l0 k y0 y1 y2) (plumblaw07_same.l0 (k + 1) y0 y1 y2))
 | 0 => fun _ _ _ r h => by simp [plumblaw07_same.l0] at h
 | k + 1 => by
  have ih0 := plumblaw07_same.mono_l k
  ·intro y0 y1 y2
   unfold plumblaw07_same.l0
   repeat' first
   | (with_reducible exact ih0 _ _ _)
   | (with_reducible exact LeO.refl _)
   | (with_reducible exact LeO.none _)
   | (with_reducible refine LeO.ite ?_ ?_)
   | (with_reducible refine LeO.bind ?_ (fun _ => ?_))
   | exact ih0 _ _ _
   | exact LeO.none _
   | refine LeO.ite ?_ ?_
   | refine LeO.bind ?_ (fun _ => ?_)
theorem plumblaw07_same.mono : ∀ a0 a1 k, LeO (plumblaw07_same.f k a0 a1) (plumblaw07_same.f (k + 1) a0 a1) := by
 intro a0 a1 k
 have ih0 := plumblaw07_same.mono_l k
 unfold plumblaw07_same.f
 repeat' first
   | (with_reducible exact ih0 _ _ _)
   | (with_reducible exact LeO.refl _)
   | (with_reducible exact LeO.none _)
   | (with_reducible refine LeO.ite ?_ ?_)
   | (with_reducible refine LeO.bind ?_ (fun _ => ?_))
   | exact ih0 _ _ _
   | exact LeO.none _
   | refine LeO.ite ?_ ?_
   | refine LeO.bind ?_ (fun _ => ?_)
set_option maxHeartbeats 8000000 in
set_option maxRecDepth 100000 in
theorem plumblaw07_same.calls (k : Nat) (A0 : Option Addr) (c0 : Nat) (l0 : List Int) (A1 : Option Addr) (c1 : Nat) (l1 : List Int) (r : Bool) (w : World) (hr0 : Kd.C (Kd.int .u64) w A0 l0.length l0) (hc0 : l0.length ≤ c0) (hr1 : Kd.C (Kd.int .u64) w A1 l1.length l1) (hc1 : l1.length ≤ c1) (h : plumblaw07_same.f k l0 l1 = some r) :
  Calls Tryd.prog 50 #[.slice A0 l0.length c0, .slice A1 l1.length c1] w fun e w' => e = .returned (.bool r) ∧ Drawn0 w w' := by
 have HR0 := Aside0.mk hr0
 have HC0 := Aside0.mk hc0
 clear hr0 hc0
 have HR1 := Aside0.mk hr1
 have HC1 := Aside0.mk hc1
 clear hr1 hc1
 have H : (if (l0.length : Int) = (l1.length : Int) then (plumblaw07_same.l0 k l0 l1 0) else (some false)) = some r := h
 clear h
 by_cases c3 : (l0.length : Int) = (l1.length : Int)
 ·rw [if_pos c3] at H
  have c3b0 : ((l0.length : Int) == (l1.length : Int)) = true := beq_iff_eq.mpr c3
  have c3b1 : ((l0.length : Int) != (l1.length : Int)) = false := bne_eq_false_iff_eq.mpr c3
  have c3b2 : (l0.length == l1.length) = true := by first | simpa using c3 | (simp at c3 ⊢; omega)
  clear c3
  have H' := Aside0.mk H
  clear H
  go_enter Tryd.func50, Tryd.ntmps50
  go_wp2
  repeat (go_quiet (fail); try go_wp2)
  go_loopg [5] k (fun kq v5 w' => ∃ (x5_1 : Int), v5 = .int .i64 x5_1 ∧ Aside0 (plumblaw07_same.l0 kq l0 l1 x5_1 = some r) ∧ Aside0 (kq ≤ k) ∧ Drawn0 w w')
  case atStart => exact ⟨(0), dF, H', ⟨Nat.le_refl _⟩, by repeat (first | exact Drawn0.refl _ | apply Drawn0.step)⟩
  case round =>
   clear H'
   try clear c1
   try clear p2
   try clear c3
   try clear c3b0
   try clear c3b1
   try clear c3b2
   obtain ⟨x5_1, rfl, HA, HK1, ⟨m1, rfl⟩⟩ := hrel
   cases gk with
   | zero => exact absurd HA.out (by simp [plumblaw07_same.l0])
   | succ k1 =>
    have H := HA.out
    clear HA
    simp only [plumblaw07_same.l0] at H
    by_cases c4 : x5_1 < (l0.length : Int)
    ·rw [if_pos c4] at H
     have c4b0 : decide (x5_1 < (l0.length : Int)) = true := decide_eq_true c4
     clear c4
     by_cases c5 : (0 : Int) ≤ x5_1
     ·rw [if_pos c5] at H
      have c5b0 : decide (0 ≤ x5_1) = true := decide_eq_true c5
      clear c5
      by_cases c6 : x5_1 < (l1.length : Int)
      ·rw [if_pos c6] at H
       have c6b0 : decide (x5_1 < (l1.length : Int)) = true := decide_eq_true c6
       clear c6
       by_cases c7 : (rd l0 x5_1) = (rd l1 x5_1)
       ·rw [if_pos c7] at H
        have c7b0 : ((rd l0 x5_1) == (rd l1 x5_1)) = true := beq_iff_eq.mpr c7
        have c7b1 : ((rd l0 x5_1) != (rd l1 x5_1)) = false := bne_eq_false_iff_eq.mpr c7
        clear c7
        have H' := Aside0.mk H
        clear H
        have p232 : 0 ≤ (x5_1 : Int) := of_decide_eq_true dS
        have q232 : x5_1 < (l0.length : Int) := of_decide_eq_true dS
        obtain ⟨ad232, e232, hx232_0⟩ := Kd.at_int HR0.out x5_1 p232 q232
        cases e232
        replace p232 := eq_true p232
        replace q232 := eq_true q232
        have p233 : 0 ≤ (x5_1 : Int) := of_decide_eq_true dS
        have q233 : x5_1 < (l1.length : Int) := of_decide_eq_true dS
        obtain ⟨ad233, e233, hx233_0⟩ := Kd.at_int HR1.out x5_1 p233 q233
        cases e233
        replace p233 := eq_true p233
        replace q233 := eq_true q233
        go_wp2
        repeat (go_quiet (fail); try go_wp2)
        go_roundg k1
        case measure => have := HK1.out; omega
        case rel => exact ⟨(wrap64 (x5_1 + 1)), dF, H', ⟨by have := HK1.out; omega⟩, by repeat (first | exact Drawn0.refl _ | apply Drawn0.step)⟩
       ·rw [if_neg c7] at H
        have c7b0 : ((rd l0 x5_1) == (rd l1 x5_1)) = false := beq_eq_false_iff_ne.mpr c7
        have c7b1 : ((rd l0 x5_1) != (rd l1 x5_1)) = true := bne_iff_ne.mpr c7
        obtain rfl := Option.some.inj H
        have p232 : 0 ≤ (x5_1 : Int) := of_decide_eq_true dS
        have q232 : x5_1 < (l0.length : Int) := of_decide_eq_true dS
        obtain ⟨ad232, e232, hx232_0⟩ := Kd.at_int HR0.out x5_1 p232 q232
        cases e232
        replace p232 := eq_true p232
        replace q232 := eq_true q232
        have p233 : 0 ≤ (x5_1 : Int) := of_decide_eq_true dS
        have q233 : x5_1 < (l1.length : Int) := of_decide_eq_true dS
        obtain ⟨ad233, e233, hx233_0⟩ := Kd.at_int HR1.out x5_1 p233 q233
        cases e233
        replace p233 := eq_true p233
        replace q233 := eq_true q233
        go_wp2
        repeat (go_quiet (fail); try go_wp2)
        go_ret
        exact ⟨by first | rfl | (simp; done) | (simp [*]; done), by repeat (first | exact Drawn0.refl _ | apply Drawn0.step)⟩
      ·rw [if_neg c6] at H
       exact absurd H (by simp)
     ·rw [if_neg c5] at H
      exact absurd H (by simp)
    ·rw [if_neg c4] at H
     have c4b0 : decide (x5_1 < (l0.length : Int)) = false := decide_eq_false c4
     clear c4
     obtain rfl := Option.some.inj H
     go_wp2
     repeat (go_quiet (fail); try go_wp2)
     go_ret
     exact ⟨by first | rfl | (simp; done) | (simp [*]; done), by repeat (first | exact Drawn0.refl _ | apply Drawn0.step)⟩
 ·rw [if_neg c3] at H
  have c3b0 : ((l0.length : Int) == (l1.length : Int)) = false := beq_eq_false_iff_ne.mpr c3
  have c3b1 : ((l0.length : Int) != (l1.length : Int)) = true := bne_iff_ne.mpr c3
  have c3b2 : (l0.length == l1.length) = false := by first | simpa using c3 | (simp at c3 ⊢; omega)
  obtain rfl := Option.some.inj H
  go_enter Tryd.func50, Tryd.ntmps50
  go_wp2
  repeat (go_quiet (fail); try go_wp2)
  go_ret
  exact ⟨by first | rfl | (simp; done) | (simp [*]; done), by repeat (first | exact Drawn0.refl _ | apply Drawn0.step)⟩

end Go.Proofs.YtoefabmlkbhmpaaDoor.PA

namespace Go.Proofs.YtoefabmlkbhmpaaDoor.PA
open Go.RowKit Go.Proofs.YtoefabmlkbhmpaaDoorW.PrintWords Go.Proofs.YtoefabmlkbhmpaaDoorW.PrintLast Go.Proofs.YtoefabmlkbhmpaaDoorW.PrintMore
attribute [local go_sem] max2_int min2_int max_two min_two max_three min_three max_four min_four   -- for this text's walks alone
set_option linter.unusedVariables false
set_option linter.unusedSimpArgs false

/-! ### plumblaw07_kept: function 16 (by hand) -/
def plumblaw07_kept.f (k : Nat) (l0 : List Int) (l1 : List Int) : Option (Bool) := if (l0.length : Int) = (wrap64 ((l1.length : Int) + 2)) then (if 0 ≤ (l1.length : Int) then (if (l1.length : Int) ≤ (l0.length : Int) then ((plumblaw07_same.f k (l0.take ((l1.length : Int) : Int).toNat) l1).bind fun t234 => (if t234 = true then (if (l1.length : Int) < (l0.length : Int) then (if (rd l0 (l1.length : Int)) = 7777 then (if 0 ≤ (wrap64 ((l1.length : Int) + 1)) then (if (wrap64 ((l1.length : Int) + 1)) < (l0.length : Int) then (some ((rd l0 (wrap64 ((l1.length : Int) + 1))) == 8888)) else (none)) else (none)) else (some false)) else (none)) else (some false))) else (none)) else (none)) else (some false)
theorem plumblaw07_kept.mono : ∀ a0 a1 k, LeO (plumblaw07_kept.f k a0 a1) (plumblaw07_kept.f (k + 1) a0 a1) := by
 intro a0 a1 k
 unfold plumblaw07_kept.f
 repeat' first
   | (with_reducible exact plumblaw07_same.mono _ _ _)
   | (with_reducible exact LeO.refl _)
   | (with_reducible exact LeO.none _)
   | (with_reducible refine LeO.ite ?_ ?_)
   | (with_reducible refine LeO.bind ?_ (fun _ => ?_))
   | exact plumblaw07_same.mono _ _ _
   | exact LeO.none _
   | refine LeO.ite ?_ ?_
   | refine LeO.bind ?_ (fun _ => ?_)
set_option maxHeartbeats 8000000 in
set_option maxRecDepth 100000 in
theorem plumblaw07_kept.calls (k : Nat) (A0 : Option Addr) (c0 : Nat) (l0 : List Int) (A1 : Option Addr) (c1 : Nat) (l1 : List Int) (r : Bool) (w : World) (hr0 : Kd.C (Kd.int .u64) w A0 l0.length l0) (hc0 : l0.length ≤ c0) (hr1 : Kd.C (Kd.int .u64) w A1 l1.length l1) (hc1 : l1.length ≤ c1) (h : plumblaw07_kept.f k l0 l1 = some r) :
  Calls Tryd.prog 16 #[.slice A0 l0.length c0, .slice A1 l1.length c1] w fun e w' => e = .returned (.bool r) ∧ Drawn0 w w' := by
 have HR0 := Aside0.mk hr0
 have HC0 := Aside0.mk hc0
 clear hr0 hc0
 have HR1 := Aside0.mk hr1
 have HC1 := Aside0.mk hc1
 clear hr1 hc1
 have H : (if (l0.length : Int) = (wrap64 ((l1.length : Int) + 2)) then (if 0 ≤ (l1.length : Int) then (if (l1.length : Int) ≤ (l0.length : Int) then ((plumblaw07_same.f k (l0.take ((l1.length : Int) : Int).toNat) l1).bind fun t234 => (if t234 = true then (if (l1.length : Int) < (l0.length : Int) then (if (rd l0 (l1.length : Int)) = 7777 then (if 0 ≤ (wrap64 ((l1.length : Int) + 1)) then (if (wrap64 ((l1.length : Int) + 1)) < (l0.length : Int) then (some ((rd l0 (wrap64 ((l1.length : Int) + 1))) == 8888)) else (none)) else (none)) else (some false)) else (none)) else (some false))) else (none)) else (none)) else (some false)) = some r := h
 clear h
 by_cases c3 : (l0.length : Int) = (wrap64 ((l1.length : Int) + 2))
 ·rw [if_pos c3] at H
  have c3b0 : ((l0.length : Int) == (wrap64 ((l1.length : Int) + 2))) = true := beq_iff_eq.mpr c3
  have c3b1 : ((l0.length : Int) != (wrap64 ((l1.length : Int) + 2))) = false := bne_eq_false_iff_eq.mpr c3
  clear c3
  by_cases c4 : (0 : Int) ≤ (l1.length : Int)
  ·rw [if_pos c4] at H
   have c4b0 := eq_true c4
   have c4b1 : decide (0 ≤ (l1.length : Int)) = true := decide_eq_true c4
   clear c4
   by_cases c5 : (l1.length : Int) ≤ (l0.length : Int)
   ·rw [if_pos c5] at H
    have c5b0 := eq_true c5
    have c5b1 : decide ((l1.length : Int) ≤ (l0.length : Int)) = true := decide_eq_true c5
    clear c5
    replace H := obe H
    obtain ⟨t234, A60, H⟩ := H
    replace H : (if t234 = true then (if (l1.length : Int) < (l0.length : Int) then (if (rd l0 (l1.length : Int)) = 7777 then (if 0 ≤ (wrap64 ((l1.length : Int) + 1)) then (if (wrap64 ((l1.length : Int) + 1)) < (l0.length : Int) then (some ((rd l0 (wrap64 ((l1.length : Int) + 1))) == 8888)) else (none)) else (none)) else (some false)) else (none)) else (some false)) = some r := H
    have A6 := Aside0.mk A60
    clear A60
    by_cases c7 : t234 = true
    ·subst c7
     have H1 : (if (l1.length : Int) < (l0.length : Int) then (if (rd l0 (l1.length : Int)) = 7777 then (if 0 ≤ (wrap64 ((l1.length : Int) + 1)) then (if (wrap64 ((l1.length : Int) + 1)) < (l0.length : Int) then (some ((rd l0 (wrap64 ((l1.length : Int) + 1))) == 8888)) else (none)) else (none)) else (some false)) else (none)) = some r := by rw [if_pos rfl] at H; exact H
     clear H
     have H := H1
     clear H1
     by_cases c8 : (l1.length : Int) < (l0.length : Int)
     ·rw [if_pos c8] at H
      have c8b0 : decide ((l1.length : Int) < (l0.length : Int)) = true := decide_eq_true c8
      have c8b1 : decide (l1.length < l0.length) = true := decide_eq_true (Int.ofNat_lt.mp c8)
      clear c8
      by_cases c9 : (rd l0 (l1.length : Int)) = 7777
      ·rw [if_pos c9] at H
       have c9b0 : ((rd l0 (l1.length : Int)) == 7777) = true := beq_iff_eq.mpr c9
       have c9b1 : ((rd l0 (l1.length : Int)) != 7777) = false := bne_eq_false_iff_eq.mpr c9
       clear c9
       obtain ⟨ji10, hji10⟩ : ∃ j_ : Int, (wrap64 ((l1.length : Int) + 1)) = j_ := ⟨_, rfl⟩
       replace H : (if 0 ≤ (ji10) then (if (ji10) < (l0.length : Int) then (some ((rd l0 (ji10)) == 8888)) else (none)) else (none)) = some r := by first | (rw [hji10] at H; exact H) | (simp only [hji10] at H ⊢; exact H)
       (try rw [hji10] at A6)
       have hji10w : (IntKind.i64.wrap ((l1.length : Int) + 1)) = ji10 := (i64_w _).trans hji10
       by_cases c11 : (0 : Int) ≤ (ji10)
       ·rw [if_pos c11] at H
        have c11b0 : decide (0 ≤ (ji10)) = true := decide_eq_true c11
        clear c11
        by_cases c12 : (ji10) < (l0.length : Int)
        ·rw [if_pos c12] at H
         have c12b0 : decide ((ji10) < (l0.length : Int)) = true := decide_eq_true c12
         clear c12
         obtain rfl := Option.some.inj H
         obtain ⟨i013, hi013, _, hsz13, _⟩ := info_parts info26
         obtain ⟨hcut13, hA13, hC13⟩ := print_take_of (P := Tryd.prog) (Value.int .u64) 0 22 26 .i64 Tryd.underlying22 hi013 hsz13 A0 c0 l0 (l1.length : Int) (of_decide_eq_true dS) (of_decide_eq_true dS) HC0.out
         have HR233 := Aside0.mk (Kd.C_of_reads (h1 := fun _ => rfl) (hA13 _ (Kd.reads_of_C HR0.out)))
         have HC233 := Aside0.mk hC13
         clear hA13 hC13 hi013 hsz13
         go_enter Tryd.func16, Tryd.ntmps16
         go_wp2_with (first | (go_at_call 50; refine calls_of_args (args' := #[.slice A0 (l0.take ((l1.length : Int) : Int).toNat).length c0, .slice A1 l1.length c1]) (by simp [List.length_take]) ?_; (with_reducible refine (plumblaw07_same.calls k _ _ (l0.take ((l1.length : Int) : Int).toNat) _ _ l1 true _ ?side1 ?side2 ?side3 ?side4 A6.out).mono ?_); (case side1 => exact dC HR233.out); (case side2 => exact HC233.out); (case side3 => exact dC HR1.out); (case side4 => exact HC1.out); rintro e w' ⟨rfl, ⟨nd, rfl⟩⟩; have p235 : 0 ≤ ((l1.length : Int) : Int) := of_decide_eq_true dS; have q235 : (l1.length : Int) < (l0.length : Int) := of_decide_eq_true dS; obtain ⟨ad235, e235, hx235_0⟩ := Kd.at_int HR0.out (l1.length : Int) p235 q235; cases e235; (try simp only [Go.IntWalk.toNatUp] at hx235_0); replace p235 := eq_true p235; replace q235 := eq_true q235; have p236 : 0 ≤ ((ji10) : Int) := of_decide_eq_true dS; have q236 : (ji10) < (l0.length : Int) := of_decide_eq_true dS; obtain ⟨ad236, e236, hx236_0⟩ := Kd.at_int HR0.out (ji10) p236 q236; obtain rfl : ad235 = ad236 := (by injection e236); replace p236 := eq_true p236; replace q236 := eq_true q236))
         go_ret
         exact ⟨by first | rfl | (simp; done) | (simp only [← hji10] <;> (first | rfl | simp)) | (simp [*]; done), by repeat (first | exact Drawn0.refl _ | apply Drawn0.step)⟩
        ·rw [if_neg c12] at H
         exact absurd H (by simp)
       ·rw [if_neg c11] at H
        exact absurd H (by simp)
      ·rw [if_neg c9] at H
       have c9b0 : ((rd l0 (l1.length : Int)) == 7777) = false := beq_eq_false_iff_ne.mpr c9
       have c9b1 : ((rd l0 (l1.length : Int)) != 7777) = true := bne_iff_ne.mpr c9
       obtain rfl := Option.some.inj H
       obtain ⟨i014, hi014, _, hsz14, _⟩ := info_parts info26
       obtain ⟨hcut14, hA14, hC14⟩ := print_take_of (P := Tryd.prog) (Value.int .u64) 0 22 26 .i64 Tryd.underlying22 hi014 hsz14 A0 c0 l0 (l1.length : Int) (of_decide_eq_true dS) (of_decide_eq_true dS) HC0.out
       have HR233 := Aside0.mk (Kd.C_of_reads (h1 := fun _ => rfl) (hA14 _ (Kd.reads_of_C HR0.out)))
       have HC233 := Aside0.mk hC14
       clear hA14 hC14 hi014 hsz14
       go_enter Tryd.func16, Tryd.ntmps16
       go_wp2_with (first | (go_at_call 50; refine calls_of_args (args' := #[.slice A0 (l0.take ((l1.length : Int) : Int).toNat).length c0, .slice A1 l1.length c1]) (by simp [List.length_take]) ?_; (with_reducible refine (plumblaw07_same.calls k _ _ (l0.take ((l1.length : Int) : Int).toNat) _ _ l1 true _ ?side1 ?side2 ?side3 ?side4 A6.out).mono ?_); (case side1 => exact dC HR233.out); (case side2 => exact HC233.out); (case side3 => exact dC HR1.out); (case side4 => exact HC1.out); rintro e w' ⟨rfl, ⟨nd, rfl⟩⟩; have p235 : 0 ≤ ((l1.length : Int) : Int) := of_decide_eq_true dS; have q235 : (l1.length : Int) < (l0.length : Int) := of_decide_eq_true dS; obtain ⟨ad235, e235, hx235_0⟩ := Kd.at_int HR0.out (l1.length : Int) p235 q235; cases e235; (try simp only [Go.IntWalk.toNatUp] at hx235_0); replace p235 := eq_true p235; replace q235 := eq_true q235))
       go_ret
       exact ⟨by first | rfl | (simp; done) | (simp [*]; done), by repeat (first | exact Drawn0.refl _ | apply Drawn0.step)⟩
     ·rw [if_neg c8] at H
      exact absurd H (by simp)
    ·replace c7 := Bool.eq_false_iff.mpr c7
     subst c7
     have H1 : (some false) = some r := by rw [if_neg (show ¬ (false = true) by decide)] at H; exact H
     clear H
     have H := H1
     clear H1
     obtain rfl := Option.some.inj H
     obtain ⟨i015, hi015, _, hsz15, _⟩ := info_parts info26
     obtain ⟨hcut15, hA15, hC15⟩ := print_take_of (P := Tryd.prog) (Value.int .u64) 0 22 26 .i64 Tryd.underlying22 hi015 hsz15 A0 c0 l0 (l1.length : Int) (of_decide_eq_true dS) (of_decide_eq_true dS) HC0.out
     have HR233 := Aside0.mk (Kd.C_of_reads (h1 := fun _ => rfl) (hA15 _ (Kd.reads_of_C HR0.out)))
     have HC233 := Aside0.mk hC15
     clear hA15 hC15 hi015 hsz15
     go_enter Tryd.func16, Tryd.ntmps16
     go_wp2_with (first | (go_at_call 50; refine calls_of_args (args' := #[.slice A0 (l0.take ((l1.length : Int) : Int).toNat).length c0, .slice A1 l1.length c1]) (by simp [List.length_take]) ?_; (with_reducible refine (plumblaw07_same.calls k _ _ (l0.take ((l1.length : Int) : Int).toNat) _ _ l1 false _ ?side1 ?side2 ?side3 ?side4 A6.out).mono ?_); (case side1 => exact dC HR233.out); (case side2 => exact HC233.out); (case side3 => exact dC HR1.out); (case side4 => exact HC1.out); rintro e w' ⟨rfl, ⟨nd, rfl⟩⟩))
     go_ret
     exact ⟨by first | rfl | (simp; done) | (simp [*]; done), by repeat (first | exact Drawn0.refl _ | apply Drawn0.step)⟩
   ·rw [if_neg c5] at H
    exact absurd H (by simp)
  ·rw [if_neg c4] at H
   exact absurd H (by simp)
 ·rw [if_neg c3] at H
  have c3b0 : ((l0.length : Int) == (wrap64 ((l1.length : Int) + 2))) = false := beq_eq_false_iff_ne.mpr c3
  have c3b1 : ((l0.length : Int) != (wrap64 ((l1.length : Int) + 2))) = true := bne_iff_ne.mpr c3
  obtain rfl := Option.some.inj H
  go_enter Tryd.func16, Tryd.ntmps16
  go_wp2
  go_ret
  exact ⟨by first | rfl | (simp; done) | (simp [*]; done), by repeat (first | exact Drawn0.refl _ | apply Drawn0.step)⟩

-- NOT PRINTED: function 3 (plumblaw07_NearScaleds)


end Go.Proofs.YtoefabmlkbhmpaaDoor.PA
