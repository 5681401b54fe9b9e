/- A part of the proof (7). -/
import Derived.Test.YtoefabmlkbhmpaaDoorSS2
import Derived.Test.YtoefabmlkbhmpaaDoorSS3
import Derived.Test.YtoefabmlkbhmpaaDoorSS4
import Derived.Test.YtoefabmlkbhmpaaDoorSS6
namespace Go.Proofs.YtoefabmlkbhmpaaDoor.PA
open Go.RowKit Go.Proofs.YtoefabmlkbhmpaaDoorW.PrintWords Go.Proofs.YtoefabmlkbhmpaaDoorW.PrintLast Go.Proofs.YtoefabmlkbhmpaaDoorW.PrintMore
attribute [local go_sem] max2_int min2_int max_two min_two max_three min_three max_four min_four   -- for this text's walks alone
set_option linter.unusedVariables false
set_option linter.unusedSimpArgs false

/-! ### plumblaw07_NearScaleds: function 3 -/
mutual
def plumblaw07_NearScaleds.l0 : Nat → Int → List Int → Int → Bool → List Int → Int → Bool → Option (Bool)
 | 0, _, _, _, _, _, _, _ => none
 | k + 1, x1, x5, x6, x235000, x235001, x235002, x235003 => if x6 ≤ 5 then (if x6 = 5 then (plumblaw07_NearScaleds.j1 k x1 x5 x6 x1 x235000 x235001 x235002 x235003) else (plumblaw07_NearScaleds.j1 k x1 x5 x6 x6 x235000 x235001 x235002 x235003)) else (some true)
def plumblaw07_NearScaleds.j1 : Nat → Int → List Int → Int → Int → Bool → List Int → Int → Bool → Option (Bool)
 | 0, _, _, _, _, _, _, _, _ => none
 | k + 1, x1, x5, x6, x7, x235000, x235001, x235002, x235003 => if 0 ≤ (x235001.length : Int) then (if (x235001.length : Int) ≤ (x5.length : Int) then ((near_Scaled.f k x235000 (x5.take ((x235001.length : Int) : Int).toNat) x235002 x235003 x7).bind fun bt242 => ((plumbref07_Scaled.f k x235000 x235001 x235002 x235003 x7).bind fun bt244 => (if bt242.1 = bt244.1 then ((plumblaw07_num.f bt242.2).bind fun t246 => (if t246 = bt244.2 then ((plumblaw07_kept.f k x5 x235001).bind fun t247 => (if t247 = true then (plumblaw07_NearScaleds.l0 k x1 x5 (wrap64 (x6 + 1)) x235000 x235001 x235002 x235003) else (some false))) else (some false))) else (some false)))) else (none)) else (none)
end
def plumblaw07_NearScaleds.f (k : Nat) (a0_0 : Bool) (l0_1 : List Int) (a0_2 : Int) (a0_3 : Bool) (a1 : Int) : Option (Bool) := (plumblaw07_lent.f l0_1).bind fun t235 => (plumblaw07_NearScaleds.l0 k a1 t235 0 a0_0 l0_1 a0_2 a0_3)
theorem plumblaw07_NearScaleds.mono_l : ∀ k, (∀ y0 y1 y2 y3 y4 y5 y6, LeO (plumblaw07_NearScaleds.l0 k y0 y1 y2 y3 y4 y5 y6) (plumblaw07_NearScaleds.l0 (k + 1) y0 y1 y2 y3 y4 y5 y6)) ∧ (∀ y0 y1 y2 y3 y4 y5 y6 y7, LeO (plumblaw07_NearScaleds.j1 k y0 y1 y2 y3 y4 y5 y6 y7) (plumblaw07_NearScaleds.j1 (k + 1) y0 y1 y2 y3 y4 y5 y6 y7))
 | 0 => ⟨fun _ _ _ _ _ _ _ r h => by simp [plumblaw07_NearScaleds.l0] at h, fun _ _ _ _ _ _ _ _ r h => by simp [plumblaw07_NearScaleds.j1] at h⟩
 | k + 1 => by
  obtain ⟨ih0, ih1⟩ := plumblaw07_NearScaleds.mono_l k
  refine ⟨?_, ?_⟩
  ·intro y0 y1 y2 y3 y4 y5 y6
   unfold plumblaw07_NearScaleds.l0
   repeat' first
   | (with_reducible exact ih0 _ _ _ _ _ _ _)
   | (with_reducible exact ih1 _ _ _ _ _ _ _ _)
   | (with_reducible exact near_Scaled.mono _ _ _ _ _ _)
   | (with_reducible exact plumblaw07_kept.mono _ _ _)
   | (with_reducible exact plumbref07_Scaled.mono _ _ _ _ _ _)
   | (with_reducible exact LeO.refl _)
   | (with_reducible exact LeO.none _)
   | (with_reducible refine LeO.ite ?_ ?_)
   | (with_reducible refine LeO.bind ?_ (fun _ => ?_))
   | exact ih0 _ _ _ _ _ _ _
   | exact ih1 _ _ _ _ _ _ _ _
   | exact near_Scaled.mono _ _ _ _ _ _
   | exact plumblaw07_kept.mono _ _ _
   | exact plumbref07_Scaled.mono _ _ _ _ _ _
   | exact LeO.none _
   | refine LeO.ite ?_ ?_
   | refine LeO.bind ?_ (fun _ => ?_)
  ·intro y0 y1 y2 y3 y4 y5 y6 y7
   unfold plumblaw07_NearScaleds.j1
   repeat' first
   | (with_reducible exact ih0 _ _ _ _ _ _ _)
   | (with_reducible exact ih1 _ _ _ _ _ _ _ _)
   | (with_reducible exact near_Scaled.mono _ _ _ _ _ _)
   | (with_reducible exact plumblaw07_kept.mono _ _ _)
   | (with_reducible exact plumbref07_Scaled.mono _ _ _ _ _ _)
   | (with_reducible exact LeO.refl _)
   | (with_reducible exact LeO.none _)
   | (with_reducible refine LeO.ite ?_ ?_)
   | (with_reducible refine LeO.bind ?_ (fun _ => ?_))
   | exact ih0 _ _ _ _ _ _ _
   | exact ih1 _ _ _ _ _ _ _ _
   | exact near_Scaled.mono _ _ _ _ _ _
   | exact plumblaw07_kept.mono _ _ _
   | exact plumbref07_Scaled.mono _ _ _ _ _ _
   | exact LeO.none _
   | refine LeO.ite ?_ ?_
   | refine LeO.bind ?_ (fun _ => ?_)
theorem plumblaw07_NearScaleds.mono : ∀ a0 a1 a2 a3 a4 k, LeO (plumblaw07_NearScaleds.f k a0 a1 a2 a3 a4) (plumblaw07_NearScaleds.f (k + 1) a0 a1 a2 a3 a4) := by
 intro a0 a1 a2 a3 a4 k
 obtain ⟨ih0, ih1⟩ := plumblaw07_NearScaleds.mono_l k
 unfold plumblaw07_NearScaleds.f
 repeat' first
   | (with_reducible exact ih0 _ _ _ _ _ _ _)
   | (with_reducible exact ih1 _ _ _ _ _ _ _ _)
   | (with_reducible exact near_Scaled.mono _ _ _ _ _ _)
   | (with_reducible exact plumblaw07_kept.mono _ _ _)
   | (with_reducible exact plumbref07_Scaled.mono _ _ _ _ _ _)
   | (with_reducible exact LeO.refl _)
   | (with_reducible exact LeO.none _)
   | (with_reducible refine LeO.ite ?_ ?_)
   | (with_reducible refine LeO.bind ?_ (fun _ => ?_))
   | exact ih0 _ _ _ _ _ _ _
   | exact ih1 _ _ _ _ _ _ _ _
   | exact near_Scaled.mono _ _ _ _ _ _
   | exact plumblaw07_kept.mono _ _ _
   | exact plumbref07_Scaled.mono _ _ _ _ _ _
   | exact LeO.none _
   | refine LeO.ite ?_ ?_
   | refine LeO.bind ?_ (fun _ => ?_)
def plumblaw07_NearScaleds.T8 : Bool × List (List Nat × List Nat) := (true, [([], []), ([0], [0]), ([], []), ([], []), ([3], [3]), ([4], [4]), ([2, 5], [2, 5]), ([], []), ([7], [7]), ([], []), ([9], [9]), ([], []), ([1, 6, 8, 10, 11], [1, 6, 8, 10, 11]), ([12], [12]), ([13], [13]), ([13], [13]), ([14, 12, 0, 1, 2, 3, 4, 5, 6, 7, 8, 9, 10, 11, 12, 13, 14], [14]), ([15, 16, 0, 1, 2, 3, 4, 5, 6, 7, 8, 9, 10, 11, 12, 13, 14, 15, 16], [15])])
def plumblaw07_NearScaleds.B8 : List Nat := [0, 1, 0, 0, 8, 24, 60, 0, 128, 0, 512, 0, 4095, 8191, 16383, 16383, 32767, 131071]
theorem plumblaw07_NearScaleds.tab8 : rtab .any (opsOf Tryd.f3 8) = plumblaw07_NearScaleds.T8 := by kernel_rfl
theorem plumblaw07_NearScaleds.bits8 : waitsOk plumblaw07_NearScaleds.T8.2 plumblaw07_NearScaleds.B8 = true := by kernel_rfl
set_option maxHeartbeats 8000000 in
set_option maxRecDepth 100000 in
theorem plumblaw07_NearScaleds.calls (k : Nat) (a0_0 : Bool) (A0_1 : Option Addr) (c0_1 : Nat) (l0_1 : List Int) (a0_2 : Int) (a0_3 : Bool) (a1 : Int) (r : Bool) (w : World) (hr0_1 : Kd.C (Kd.int .u64) w A0_1 l0_1.length l0_1) (hc0_1 : l0_1.length ≤ c0_1) (h : plumblaw07_NearScaleds.f k a0_0 l0_1 a0_2 a0_3 a1 = some r) (hS : StaysLaid w := by first | exact HS.out | exact hS | exact StaysLaid.below HS.out HB.out | exact StaysLaid.below HS.out dB) :
  Calls Tryd.prog 3 #[.agg #[.bool a0_0, .slice A0_1 l0_1.length c0_1, .int .i64 a0_2, .bool a0_3], .int .i64 a1] w fun e w' => e = .returned (.bool r) ∧ Below w.heap.size w w' := by
 have HS := Aside0.mk (show StaysLaid w from hS)
 clear hS
 have hu24 := Tryd.underlying24
 have HR0_1 := Aside0.mk hr0_1
 have HC0_1 := Aside0.mk hc0_1
 clear hr0_1 hc0_1
 have HB := Aside0.mk (Below.refl w.heap.size w)
 have H : ((plumblaw07_lent.f l0_1).bind fun t235 => (plumblaw07_NearScaleds.l0 k a1 t235 0 a0_0 l0_1 a0_2 a0_3)) = some r := h
 clear h
 replace H := obe H
 obtain ⟨t235, A30, H⟩ := H
 replace H : (plumblaw07_NearScaleds.l0 k a1 t235 0 a0_0 l0_1 a0_2 a0_3) = some r := H
 have A3 := Aside0.mk A30
 clear A30
 have H' := Aside0.mk H
 clear H
 go_enter Tryd.func3, Tryd.ntmps3
 go_wp2_with (first | ((with_reducible refine gate_dst (N := 2) rfl ?_); refine box_event ?hg (N := 2) ?hd (cs := #[.bool a0_0, .slice A0_1 l0_1.length c0_1, .int .i64 a0_2, .bool a0_3]) (t := 24) ?hr ?_; (case hd => rfl); (case hg => rfl); (case hr => first | (go_simp; done) | (go_simp; rfl)); intro gb234 hg w4 hbox hb; have BK234 := Aside0.mk (hbox); have GW234 := Aside0.mk ((by rw [hg]; exact (below_size dB) : w.heap.size ≤ gb234)); have GE234 := Aside0.mk ((by rw [hg]; exact (below_size dB) : w.heap.size ≤ gb234)); replace HB := Aside0.mk (below_step dB hb); clear hb hbox hg; have hcz5_0 : w4.cell? ⟨gb234, 0, none⟩ = some (.bool a0_0) := (blk_cell BK234.out 0).trans rfl; have hcz5_1 : w4.cell? ⟨gb234, 1, none⟩ = some (.slice A0_1 l0_1.length c0_1) := (blk_cell BK234.out 1).trans rfl; have hcz5_2 : w4.cell? ⟨gb234, 2, none⟩ = some (.int .i64 a0_2) := (blk_cell BK234.out 2).trans rfl; have hcz5_3 : w4.cell? ⟨gb234, 3, none⟩ = some (.bool a0_3) := (blk_cell BK234.out 3).trans rfl; have hfz5_0 := blk_frozen BK234.out 0; have hfz5_1 := blk_frozen BK234.out 1; have hfz5_2 := blk_frozen BK234.out 2; have hfz5_3 := blk_frozen BK234.out 3) | ((with_reducible refine gate_callee (f := 12) rfl ?_); refine gL (some 14) Tryd.func12 #[.slice A0_1 l0_1.length c0_1] ?_; (with_reducible refine (plumblaw07_lent.calls _ _ l0_1 t235 _ ?side1 ?side2 A3.out).mono ?_); (case side1 => exact dC (Kd.C_below HR0_1.out HB.out)); (case side2 => exact HC0_1.out); rintro e w6 ⟨v236, rfl, ho0, hb⟩; refine ⟨_, rfl, ?_⟩; have HO237 := Aside0.mk (Kd.R_lower ho0 (below_size (dG GE234.out))); replace BK234 := Aside0.mk (blk_below (g := gb234) (o := .cells #[.bool a0_0, .slice A0_1 l0_1.length c0_1, .int .i64 a0_2, .bool a0_3] 24 (0, 0)) (dK BK234.out) hb); replace HB := Aside0.mk (below_step (dG GE234.out) hb); (try clear hb); (try clear ho0)))
 go_loopg [6] k (fun kq v6 w' => ∃ (x6_1 : Int), v6 = .int .i64 x6_1 ∧ Aside0 (plumblaw07_NearScaleds.l0 kq a1 t235 x6_1 a0_0 l0_1 a0_2 a0_3 = some r) ∧ Aside0 (kq ≤ k) ∧ Aside0 (Kd.R (Kd.int .u64) 26 w' w.heap.size (fun _ => True) v236 t235) ∧ Aside0 (w'.heap[gb234]? = some (.cells #[.bool a0_0, (.slice A0_1 l0_1.length c0_1), .int .i64 a0_2, .bool a0_3] 24 (0, 0))) ∧ Aside0 (Below w.heap.size w w'))
 case atStart => exact ⟨(0), dF, H', ⟨Nat.le_refl _⟩, ⟨dR HO237.out⟩, ⟨dK BK234.out⟩, ⟨dG GE234.out⟩⟩
 case round =>
  clear H'
  try clear c1
  try clear p2
  try clear c3
  try clear hcz5_0
  try clear hcz5_1
  try clear hcz5_2
  try clear hcz5_3
  try clear hfz5_0
  try clear hfz5_1
  try clear hfz5_2
  try clear hfz5_3
  obtain ⟨x6_1, rfl, HA, HK1, HO_5, BK234, HB⟩ := hrel
  cases gk with
  | zero => exact absurd HA.out (by simp [plumblaw07_NearScaleds.l0])
  | succ k1 =>
   have H := HA.out
   clear HA
   simp only [plumblaw07_NearScaleds.l0] at H
   by_cases c7 : x6_1 ≤ 5
   ·rw [if_pos c7] at H
    have c7b0 : decide (x6_1 ≤ 5) = true := decide_eq_true c7
    clear c7
    have HC8 := Aside0.mk H
    clear H
    go_upto_if 21 with (fail)
    go_cut [7] (fun v7 wc => ∃ (kq : Nat) (x7_7 : Int), v7 = .int .i64 x7_7 ∧ Aside0 (plumblaw07_NearScaleds.j1 kq a1 t235 x6_1 x7_7 a0_0 l0_1 a0_2 a0_3 = some r) ∧ Aside0 (kq ≤ k1) ∧ Aside0 (Kd.R (Kd.int .u64) 26 wc w.heap.size (fun _ => True) v236 t235) ∧ Aside0 (wc.heap[gb234]? = some (.cells #[.bool a0_0, (.slice A0_1 l0_1.length c0_1), .int .i64 a0_2, .bool a0_3] 24 (0, 0))) ∧ Aside0 (Below w.heap.size w wc))
    case first =>
     have H := HC8.out
     clear HC8
     by_cases c9 : x6_1 = 5
     ·rw [if_pos c9] at H
      have c9b0 : (x6_1 == 5) = true := beq_iff_eq.mpr c9
      have c9b1 : (x6_1 != 5) = false := bne_eq_false_iff_eq.mpr c9
      clear c9
      (first | rw [c9b0] | (simp only [i64_w, i32_w]; rw [c9b0]) | skip)
      have H' := Aside0.mk H
      clear H
      go_wp2
      go_meet
      case rel => exact ⟨_, (a1), dF, H', ⟨by have := HK1.out; first | omega | exact Nat.le_refl _⟩, ⟨dR HO_5.out⟩, ⟨dK BK234.out⟩, ⟨dG GE234.out⟩⟩
     ·rw [if_neg c9] at H
      have c9b0 : (x6_1 == 5) = false := beq_eq_false_iff_ne.mpr c9
      have c9b1 : (x6_1 != 5) = true := bne_iff_ne.mpr c9
      (first | rw [c9b0] | (simp only [i64_w, i32_w]; rw [c9b0]) | skip)
      have H' := Aside0.mk H
      clear H
      go_wp2
      go_meet
      case rel => exact ⟨_, (x6_1), dF, H', ⟨by have := HK1.out; first | omega | exact Nat.le_refl _⟩, ⟨dR HO_5.out⟩, ⟨dK BK234.out⟩, ⟨dG GE234.out⟩⟩
    case rest =>
     clear HC8
     try clear c1
     try clear p2
     try clear c3
     try clear c7
     try clear c7b0
     try clear c9
     try clear c9b0
     try clear c9b1
     try clear hcz5_0
     try clear hcz5_1
     try clear hcz5_2
     try clear hcz5_3
     try clear hfz5_0
     try clear hfz5_1
     try clear hfz5_2
     try clear hfz5_3
     try clear p2
     obtain ⟨kq, x7_7, rfl, HA, HJ7, HO_5, BK234, HB⟩ := hcut
     cases kq with
     | zero => exact absurd HA.out (by simp [plumblaw07_NearScaleds.j1])
     | succ kj7 =>
      have H := HA.out
      clear HA
      simp only [plumblaw07_NearScaleds.j1] at H
      by_cases c10 : (0 : Int) ≤ (l0_1.length : Int)
      ·rw [if_pos c10] at H
       have c10b0 := eq_true c10
       have c10b1 : decide (0 ≤ (l0_1.length : Int)) = true := decide_eq_true c10
       clear c10
       by_cases c11 : (l0_1.length : Int) ≤ (t235.length : Int)
       ·rw [if_pos c11] at H
        have c11b0 := eq_true c11
        have c11b1 : decide ((l0_1.length : Int) ≤ (t235.length : Int)) = true := decide_eq_true c11
        clear c11
        obtain ⟨y238, hy238⟩ : ∃ y_ : List Int, y_ = (t235.take ((l0_1.length : Int) : Int).toNat) := ⟨_, rfl⟩
        replace H : ((near_Scaled.f kj7 a0_0 y238 a0_2 a0_3 x7_7).bind fun bt242 => ((plumbref07_Scaled.f kj7 a0_0 l0_1 a0_2 a0_3 x7_7).bind fun bt244 => (if bt242.1 = bt244.1 then ((plumblaw07_num.f bt242.2).bind fun t246 => (if t246 = bt244.2 then ((plumblaw07_kept.f kj7 t235 l0_1).bind fun t247 => (if t247 = true then (plumblaw07_NearScaleds.l0 kj7 a1 t235 (wrap64 (x6_1 + 1)) a0_0 l0_1 a0_2 a0_3) else (some false))) else (some false))) else (some false)))) = some r := by first | (rw [hy238]; with_reducible exact H) | (have H2_ := (Option.bind_some _ _).symm.trans H; rw [hy238]; with_reducible exact H2_) | (have H2_ := (Option.bind_some _ _).symm.trans H; with_reducible exact H2_) | with_reducible exact H | (rw [hy238]; exact H) | exact H
        have Ny238 := Aside0.mk hy238
        clear hy238
        replace H := obe H
        obtain ⟨⟨t242, t243⟩, A120, H⟩ := H
        replace H : ((plumbref07_Scaled.f kj7 a0_0 l0_1 a0_2 a0_3 x7_7).bind fun bt244 => (if t242 = bt244.1 then ((plumblaw07_num.f t243).bind fun t246 => (if t246 = bt244.2 then ((plumblaw07_kept.f kj7 t235 l0_1).bind fun t247 => (if t247 = true then (plumblaw07_NearScaleds.l0 kj7 a1 t235 (wrap64 (x6_1 + 1)) a0_0 l0_1 a0_2 a0_3) else (some false))) else (some false))) else (some false))) = some r := H
        have A12 := Aside0.mk A120
        clear A120
        replace H := obe H
        obtain ⟨⟨t244, t245⟩, A130, H⟩ := H
        replace H : (if t242 = t244 then ((plumblaw07_num.f t243).bind fun t246 => (if t246 = t245 then ((plumblaw07_kept.f kj7 t235 l0_1).bind fun t247 => (if t247 = true then (plumblaw07_NearScaleds.l0 kj7 a1 t235 (wrap64 (x6_1 + 1)) a0_0 l0_1 a0_2 a0_3) else (some false))) else (some false))) else (some false)) = some r := H
        have A13 := Aside0.mk A130
        clear A130
        by_cases c14 : t242 = t244
        ·rw [if_pos c14] at H
         have c14b0 : (t242 == t244) = true := beq_iff_eq.mpr c14
         have c14b1 : (t242 != t244) = false := bne_eq_false_iff_eq.mpr c14
         clear c14
         replace H := obe H
         obtain ⟨t246, A150, H⟩ := H
         replace H : (if t246 = t245 then ((plumblaw07_kept.f kj7 t235 l0_1).bind fun t247 => (if t247 = true then (plumblaw07_NearScaleds.l0 kj7 a1 t235 (wrap64 (x6_1 + 1)) a0_0 l0_1 a0_2 a0_3) else (some false))) else (some false)) = some r := H
         have A15 := Aside0.mk A150
         clear A150
         by_cases c16 : t246 = t245
         ·rw [if_pos c16] at H
          have c16b0 : (t246 == t245) = true := beq_iff_eq.mpr c16
          have c16b1 : (t246 != t245) = false := bne_eq_false_iff_eq.mpr c16
          clear c16
          replace H := obe H
          obtain ⟨t247, A170, H⟩ := H
          replace H : (if t247 = true then (plumblaw07_NearScaleds.l0 kj7 a1 t235 (wrap64 (x6_1 + 1)) a0_0 l0_1 a0_2 a0_3) else (some false)) = some r := H
          have A17 := Aside0.mk A170
          clear A170
          by_cases c18 : t247 = true
          ·subst c18
           have H1 : (plumblaw07_NearScaleds.l0 kj7 a1 t235 (wrap64 (x6_1 + 1)) a0_0 l0_1 a0_2 a0_3) = some r := by rw [if_pos rfl] at H; exact H
           clear H
           have H := H1
           clear H1
           have H' := Aside0.mk H
           clear H
           try go_wp2
           replace HO_5 := Aside0.mk (Kd.R_drew HO_5.out)
           replace BK234 := Aside0.mk (blk_drew BK234.out)
           replace HB := Aside0.mk (below_drew1 HB.out)
           obtain ⟨Ao21, co21, eo21⟩ := Kd.R_slice HO_5.out
           (first | subst eo21 | (injection eo21 with f1_ f2_ f3_; have f4_ := f1_.symm; have f5_ := f3_.symm; clear f1_ f2_ f3_; subst f4_; subst f5_))
           have q20 : ((l0_1.length : Int) : Int) ≤ ((t235.length : Int) : Int) := of_decide_eq_true dS
           obtain ⟨i020, hi020, _, hsz20, _⟩ := info_parts info26
           have hroom20 : t235.length ≤ co21 := (Kd.R_reads' HO_5.out).2.1
           have hC20 : Kd.C (Kd.int .u64) _ Ao21 t235.length t235 := (Kd.R_reads' HO_5.out).2.2
           have hcut20 := cut_to (P := Tryd.prog) 22 26 .i64 Tryd.underlying22 hi020 Ao21 t235.length co21 (l0_1.length : Int) (of_decide_eq_true dS) q20 hroom20
           have hr20 := Kd.C_take (m := ((l0_1.length : Int) : Int).toNat) hC20 (by omega)
           have hy20 : y238.length = ((l0_1.length : Int) : Int).toNat := (by rw [Ny238.out, List.length_take]; omega)
           rw [← Ny238.out] at hr20
           rw [← hy20] at hcut20
           have HR241 := Aside0.mk hr20
           have HC241 := Aside0.mk (show y238.length ≤ co21 from by omega)
           clear hr20 hC20 hroom20 hi020 hsz20
           have KY20 := Aside0.mk hy20
           clear hy20
           have KL20 := Aside0.mk (show ((l0_1.length : Int) : Int).toNat ≤ t235.length from by omega)
           replace q20 := eq_true q20
           refine start_ (n := 18) (S := fun w' => w'.cell? ⟨gb234, 0, none⟩ = some (.bool a0_0) ∧ w'.cell? ⟨gb234, 1, none⟩ = some (.slice A0_1 l0_1.length c0_1) ∧ w'.cell? ⟨gb234, 2, none⟩ = some (.int .i64 a0_2) ∧ w'.cell? ⟨gb234, 3, none⟩ = some (.bool a0_3)) (ds := []) #[false, false, false, false, false, false, false, false, false, false, false, false, false, false, false, false, false, false] (by kernel_rfl) rfl rfl ⟨(blk_cell BK234.out 0).trans rfl, (blk_cell BK234.out 1).trans rfl, (blk_cell BK234.out 2).trans rfl, (blk_cell BK234.out 3).trans rfl⟩ (fun hHeld => ?_); refine with_tabW plumblaw07_NearScaleds.tab8 plumblaw07_NearScaleds.bits8 (fun HT_ HW_ => ?_)
           generalize wc.drew = w19 at HO_5 BK234 HB HR241 hHeld ⊢
           refine pure_ (i := 0) (N := some 24) (v := ?_) (a' := ?_) #[true, false, false, false, false, false, false, false, false, false, false, false, false, false, false, false, false, false] rfl rfl dT (fun _ _ _ h => h) (Or.inl ⟨by rfl, ?_⟩) ?_ ?_
           rotate_left
           ·intro w'
            go_simp
            with_reducible rfl
           rotate_left
           ·simp only [Act.put, List.setIfInBounds_toArray, List.set_cons_zero, List.set_cons_succ, i64_w, i32_w]
            rfl
           refine pure_ (i := 2) (N := some 26) (v := ?_) (a' := ?_) #[true, false, true, false, false, false, false, false, false, false, false, false, false, false, false, false, false, false] rfl rfl dT (fun _ _ _ h => h) (Or.inl ⟨by rfl, ?_⟩) ?_ ?_
           rotate_left
           ·intro w'
            go_simp
            with_reducible rfl
           rotate_left
           ·simp only [Act.put, List.setIfInBounds_toArray, List.set_cons_zero, List.set_cons_succ, i64_w, i32_w]
            rfl
           refine pure_ (i := 3) (N := some 27) (v := ?_) (a' := ?_) #[true, false, true, true, false, false, false, false, false, false, false, false, false, false, false, false, false, false] rfl rfl dT (fun _ _ _ h => h) (Or.inl ⟨by rfl, ?_⟩) ?_ ?_
           rotate_left
           ·intro w'
            go_simp
            with_reducible rfl
           rotate_left
           ·simp only [Act.put, List.setIfInBounds_toArray, List.set_cons_zero, List.set_cons_succ, i64_w, i32_w]
            rfl
           refine pure_ (i := 7) (N := some 31) (v := ?_) (a' := ?_) #[true, false, true, true, false, false, false, true, false, false, false, false, false, false, false, false, false, false] rfl rfl dT (fun _ _ _ h => h) (Or.inl ⟨by rfl, ?_⟩) ?_ ?_
           rotate_left
           ·intro w'
            go_simp
            with_reducible rfl
           rotate_left
           ·simp only [Act.put, List.setIfInBounds_toArray, List.set_cons_zero, List.set_cons_succ, i64_w, i32_w]
            rfl
           refine pure_ (i := 9) (N := some 33) (v := ?_) (a' := ?_) #[true, false, true, true, false, false, false, true, false, true, false, false, false, false, false, false, false, false] rfl rfl dT (fun _ _ _ h => h) (Or.inl ⟨by rfl, ?_⟩) ?_ ?_
           rotate_left
           ·intro w'
            go_simp
            with_reducible rfl
           rotate_left
           ·simp only [Act.put, List.setIfInBounds_toArray, List.set_cons_zero, List.set_cons_succ, i64_w, i32_w]
            rfl
           refine pure_ (i := 11) (N := some 35) (v := ?_) (a' := ?_) #[true, false, true, true, false, false, false, true, false, true, false, true, false, false, false, false, false, false] rfl rfl dT (fun _ _ _ h => h) (Or.inl ⟨by rfl, ?_⟩) ?_ ?_
           rotate_left
           ·intro w'
            go_simp
            with_reducible rfl
           rotate_left
           ·simp only [Act.put, List.setIfInBounds_toArray, List.set_cons_zero, List.set_cons_succ, i64_w, i32_w]
            rfl
           refine take_ (i := 1) (N := some 25) (v := ?_) (a' := ?_) #[true, true, true, true, false, false, false, true, false, true, false, true, false, false, false, false, false, false] rfl rfl (take_ofW HT_.out HW_.out (by kernel_rfl)) (fun _ _ _ h => h) (Or.inl ⟨by rfl, ?_⟩) hHeld ?_ ?_
           rotate_left
           ·rintro w' ⟨s0, s1, s2, s3⟩
            go_simp
            with_reducible rfl
           rotate_left
           ·simp only [Act.put, List.setIfInBounds_toArray, List.set_cons_zero, List.set_cons_succ, i64_w, i32_w]
            rfl
           refine take_ (i := 4) (N := some 28) (v := ?_) (a' := ?_) #[true, true, true, true, true, false, false, true, false, true, false, true, false, false, false, false, false, false] rfl rfl (take_ofW HT_.out HW_.out (by kernel_rfl)) (fun _ _ _ h => h) (Or.inl ⟨by rfl, ?_⟩) hHeld ?_ ?_
           rotate_left
           ·rintro w' ⟨s0, s1, s2, s3⟩
            go_simp
            with_reducible rfl
           rotate_left
           ·simp only [Act.put, List.setIfInBounds_toArray, List.set_cons_zero, List.set_cons_succ, i64_w, i32_w]
            rfl
           refine pure_ (i := 5) (N := some 29) (v := ?_) (a' := ?_) #[true, true, true, true, true, true, false, true, false, true, false, true, false, false, false, false, false, false] rfl rfl dT (fun _ _ _ h => h) (Or.inl ⟨by rfl, ?_⟩) ?_ ?_
           rotate_left
           ·intro w'
            go_simp
            with_reducible rfl
           rotate_left
           ·simp only [Act.put, List.setIfInBounds_toArray, List.set_cons_zero, List.set_cons_succ, i64_w, i32_w]
            rfl
           refine pure_ (i := 6) (N := some 30) (v := ?_) (a' := ?_) #[true, true, true, true, true, true, true, true, false, true, false, true, false, false, false, false, false, false] rfl rfl dT (fun _ _ _ h => h) (Or.inl ⟨by rfl, ?_⟩) ?_ ?_
           rotate_left
           ·intro w'
            go_simp
            with_reducible rfl
           rotate_left
           ·simp only [Act.put, List.setIfInBounds_toArray, List.set_cons_zero, List.set_cons_succ, i64_w, i32_w]
            rfl
           refine take_ (i := 8) (N := some 32) (v := ?_) (a' := ?_) #[true, true, true, true, true, true, true, true, true, true, false, true, false, false, false, false, false, false] rfl rfl (take_ofW HT_.out HW_.out (by kernel_rfl)) (fun _ _ _ h => h) (Or.inl ⟨by rfl, ?_⟩) hHeld ?_ ?_
           rotate_left
           ·rintro w' ⟨s0, s1, s2, s3⟩
            go_simp
            with_reducible rfl
           rotate_left
           ·simp only [Act.put, List.setIfInBounds_toArray, List.set_cons_zero, List.set_cons_succ, i64_w, i32_w]
            rfl
           refine take_ (i := 10) (N := some 34) (v := ?_) (a' := ?_) #[true, true, true, true, true, true, true, true, true, true, true, true, false, false, false, false, false, false] rfl rfl (take_ofW HT_.out HW_.out (by kernel_rfl)) (fun _ _ _ h => h) (Or.inl ⟨by rfl, ?_⟩) hHeld ?_ ?_
           rotate_left
           ·rintro w' ⟨s0, s1, s2, s3⟩
            go_simp
            with_reducible rfl
           rotate_left
           ·simp only [Act.put, List.setIfInBounds_toArray, List.set_cons_zero, List.set_cons_succ, i64_w, i32_w]
            rfl
           refine one_ (i := 12) (N := some 36) #[true, true, true, true, true, true, true, true, true, true, true, true, true, false, false, false, false, false] rfl rfl (one_of HT_.out (by kernel_rfl)) (by decide) (fun K hK => ?_)
           refine goes_ Tryd.func13 (by kernel_rfl) rfl #[.bool a0_0, .slice Ao21 y238.length co21, .int .i64 a0_2, .bool a0_3, .int .i64 x7_7] (by rfl) rfl rfl dA ?_
           with_reducible refine (near_Scaled.calls kj7 a0_0 _ _ y238 a0_2 a0_3 x7_7 t242 t243 _ ?side1 ?side2 A12.out).mono ?_
           (case side1 => exact dC (by repeat (first | (with_reducible exact HR241.out) | (with_reducible refine Kd.C_alloc ?_ _) | (with_reducible refine Kd.C_drewN ?_ _) | (with_reducible refine Kd.C_drew ?_) | exact HR241.out)))
           (case side2 => exact HC241.out)
           rintro e w22 ⟨rfl, hb⟩
           refine ⟨_, rfl, ?_⟩
           replace HO_5 := Aside0.mk (Kd.R_below (dR HO_5.out) hb)
           replace BK234 := Aside0.mk (blk_below (g := gb234) (o := .cells #[.bool a0_0, .slice A0_1 l0_1.length c0_1, .int .i64 a0_2, .bool a0_3] 24 (0, 0)) (dK BK234.out) hb)
           replace HR241 := Aside0.mk (Kd.C_below (by repeat (first | (with_reducible exact HR241.out) | (with_reducible refine Kd.C_alloc ?_ _) | (with_reducible refine Kd.C_drewN ?_ _) | (with_reducible refine Kd.C_drew ?_) | exact HR241.out)) hb)
           replace HB := Aside0.mk (below_step (dG GE234.out) hb)
           (try clear hb)
           (try clear hb2)
           (try clear hk)
           (try clear hi)
           refine hK.out _ _ ⟨(blk_cell BK234.out 0).trans rfl, (blk_cell BK234.out 1).trans rfl, (blk_cell BK234.out 2).trans rfl, (blk_cell BK234.out 3).trans rfl⟩ (fun hHeld => ?_)
           clear hK K
           refine norm_ (a' := ?_) ?_ ?_
           rotate_left
           ·show Act.put _ (some 36) _ = _
            simp only [Act.put, List.setIfInBounds_toArray, List.set_cons_zero, List.set_cons_succ, i64_w, i32_w]
            rfl
           refine pure_ (i := 13) (N := some 23) (v := ?_) (a' := ?_) #[true, true, true, true, true, true, true, true, true, true, true, true, true, true, false, false, false, false] rfl rfl dT (fun _ _ _ h => h) (Or.inl ⟨by rfl, ?_⟩) ?_ ?_
           rotate_left
           ·intro w'
            go_simp
            with_reducible rfl
           rotate_left
           ·simp only [Act.put, List.setIfInBounds_toArray, List.set_cons_zero, List.set_cons_succ, i64_w, i32_w]
            rfl
           refine pure_ (i := 14) (N := some 37) (v := ?_) (a' := ?_) #[true, true, true, true, true, true, true, true, true, true, true, true, true, true, true, false, false, false] rfl rfl dT (fun _ _ _ h => h) (Or.inl ⟨by rfl, ?_⟩) ?_ ?_
           rotate_left
           ·intro w'
            go_simp
            with_reducible rfl
           rotate_left
           ·simp only [Act.put, List.setIfInBounds_toArray, List.set_cons_zero, List.set_cons_succ, i64_w, i32_w]
            rfl
           refine pure_ (i := 15) (N := some 38) (v := ?_) (a' := ?_) #[true, true, true, true, true, true, true, true, true, true, true, true, true, true, true, true, false, false] rfl rfl dT (fun _ _ _ h => h) (Or.inl ⟨by rfl, ?_⟩) ?_ ?_
           rotate_left
           ·intro w'
            go_simp
            with_reducible rfl
           rotate_left
           ·simp only [Act.put, List.setIfInBounds_toArray, List.set_cons_zero, List.set_cons_succ, i64_w, i32_w]
            rfl
           refine pure_ (i := 16) (N := some 8) (v := ?_) (a' := ?_) #[true, true, true, true, true, true, true, true, true, true, true, true, true, true, true, true, true, false] rfl rfl dT (fun _ _ _ h => h) (Or.inl ⟨by rfl, ?_⟩) ?_ ?_
           rotate_left
           ·intro w'
            go_simp
            with_reducible rfl
           rotate_left
           ·simp only [Act.put, List.setIfInBounds_toArray, List.set_cons_zero, List.set_cons_succ, i64_w, i32_w]
            rfl
           refine pure_ (i := 17) (N := some 9) (v := ?_) (a' := ?_) #[true, true, true, true, true, true, true, true, true, true, true, true, true, true, true, true, true, true] rfl rfl dT (fun _ _ _ h => h) (Or.inl ⟨by rfl, ?_⟩) ?_ ?_
           rotate_left
           ·intro w'
            go_simp
            with_reducible rfl
           rotate_left
           ·simp only [Act.put, List.setIfInBounds_toArray, List.set_cons_zero, List.set_cons_succ, i64_w, i32_w]
            rfl
           refine done_ (done_of HT_.out (by kernel_rfl)) ?_
           have hcz23_0 : w22.cell? ⟨gb234, 0, none⟩ = some (.bool a0_0) := (blk_cell BK234.out 0).trans rfl
           have hcz23_1 : w22.cell? ⟨gb234, 1, none⟩ = some (.slice A0_1 l0_1.length c0_1) := (blk_cell BK234.out 1).trans rfl
           have hcz23_2 : w22.cell? ⟨gb234, 2, none⟩ = some (.int .i64 a0_2) := (blk_cell BK234.out 2).trans rfl
           have hcz23_3 : w22.cell? ⟨gb234, 3, none⟩ = some (.bool a0_3) := (blk_cell BK234.out 3).trans rfl
           have hfz23_0 := blk_frozen BK234.out 0
           have hfz23_1 := blk_frozen BK234.out 1
           have hfz23_2 := blk_frozen BK234.out 2
           have hfz23_3 := blk_frozen BK234.out 3
           try go_wp2_with (first | ((with_reducible refine gate_callee (f := 14) rfl ?_); refine gL (some 49) Tryd.func14 #[.bool a0_0, .slice A0_1 l0_1.length c0_1, .int .i64 a0_2, .bool a0_3, .int .i64 x7_7] ?_; (with_reducible refine (plumbref07_Scaled.calls kj7 a0_0 _ _ l0_1 a0_2 a0_3 x7_7 t244 t245 _ ?side1 ?side2 A13.out).mono ?_); (case side1 => exact dC (Kd.C_below HR0_1.out HB.out)); (case side2 => exact HC0_1.out); rintro e w24 ⟨rfl, hb⟩; refine ⟨_, rfl, ?_⟩; replace HO_5 := Aside0.mk (Kd.R_below (dR HO_5.out) hb); replace BK234 := Aside0.mk (blk_below (g := gb234) (o := .cells #[.bool a0_0, .slice A0_1 l0_1.length c0_1, .int .i64 a0_2, .bool a0_3] 24 (0, 0)) (dK BK234.out) hb); replace HR241 := Aside0.mk (Kd.C_below (by repeat (first | (with_reducible exact HR241.out) | (with_reducible refine Kd.C_alloc ?_ _) | (with_reducible refine Kd.C_drewN ?_ _) | (with_reducible refine Kd.C_drew ?_) | exact HR241.out)) hb); replace HB := Aside0.mk (below_step (dG GE234.out) hb); (try clear hb)) | (go_at_call 15; (with_reducible refine (plumblaw07_num.calls t243 t246 _ A15.out).mono ?_); rintro e w' ⟨rfl, ⟨nd, rfl⟩⟩; have hcz25_0 : w24.cell? ⟨gb234, 0, none⟩ = some (.bool a0_0) := (blk_cell BK234.out 0).trans rfl; have hcz25_1 : w24.cell? ⟨gb234, 1, none⟩ = some (.slice A0_1 l0_1.length c0_1) := (blk_cell BK234.out 1).trans rfl; have hcz25_2 : w24.cell? ⟨gb234, 2, none⟩ = some (.int .i64 a0_2) := (blk_cell BK234.out 2).trans rfl; have hcz25_3 : w24.cell? ⟨gb234, 3, none⟩ = some (.bool a0_3) := (blk_cell BK234.out 3).trans rfl; have hfz25_0 := blk_frozen BK234.out 0; have hfz25_1 := blk_frozen BK234.out 1; have hfz25_2 := blk_frozen BK234.out 2; have hfz25_3 := blk_frozen BK234.out 3) | (go_at_call 16; (with_reducible refine (plumblaw07_kept.calls kj7 _ _ t235 _ _ l0_1 true _ ?side1 ?side2 ?side3 ?side4 A17.out).mono ?_); (case side1 => exact dC (Kd.R_reads' HO_5.out).2.2); (case side2 => exact (Kd.R_reads' HO_5.out).2.1); (case side3 => exact dC (Kd.C_below HR0_1.out (dG GE234.out))); (case side4 => exact HC0_1.out); rintro e w' ⟨rfl, ⟨nd, rfl⟩⟩))
           go_roundg kj7
           case measure => have := HK1.out; have := HJ7.out; omega
           case rel => exact ⟨(wrap64 (x6_1 + 1)), dF, H', ⟨by have := HK1.out; have := HJ7.out; omega⟩, ⟨dR HO_5.out⟩, ⟨dK BK234.out⟩, ⟨dG GE234.out⟩⟩
          ·replace c18 := Bool.eq_false_iff.mpr c18
           subst c18
           have H1 : (some false) = some r := by rw [if_neg (show ¬ (false = true) by decide)] at H; exact H
           clear H
           have H := H1
           clear H1
           obtain rfl := Option.some.inj H
           try go_wp2
           replace HO_5 := Aside0.mk (Kd.R_drew HO_5.out)
           replace BK234 := Aside0.mk (blk_drew BK234.out)
           replace HB := Aside0.mk (below_drew1 HB.out)
           obtain ⟨Ao28, co28, eo28⟩ := Kd.R_slice HO_5.out
           (first | subst eo28 | (injection eo28 with f1_ f2_ f3_; have f4_ := f1_.symm; have f5_ := f3_.symm; clear f1_ f2_ f3_; subst f4_; subst f5_))
           have q27 : ((l0_1.length : Int) : Int) ≤ ((t235.length : Int) : Int) := of_decide_eq_true dS
           obtain ⟨i027, hi027, _, hsz27, _⟩ := info_parts info26
           have hroom27 : t235.length ≤ co28 := (Kd.R_reads' HO_5.out).2.1
           have hC27 : Kd.C (Kd.int .u64) _ Ao28 t235.length t235 := (Kd.R_reads' HO_5.out).2.2
           have hcut27 := cut_to (P := Tryd.prog) 22 26 .i64 Tryd.underlying22 hi027 Ao28 t235.length co28 (l0_1.length : Int) (of_decide_eq_true dS) q27 hroom27
           have hr27 := Kd.C_take (m := ((l0_1.length : Int) : Int).toNat) hC27 (by omega)
           have hy27 : y238.length = ((l0_1.length : Int) : Int).toNat := (by rw [Ny238.out, List.length_take]; omega)
           rw [← Ny238.out] at hr27
           rw [← hy27] at hcut27
           have HR241 := Aside0.mk hr27
           have HC241 := Aside0.mk (show y238.length ≤ co28 from by omega)
           clear hr27 hC27 hroom27 hi027 hsz27
           have KY27 := Aside0.mk hy27
           clear hy27
           have KL27 := Aside0.mk (show ((l0_1.length : Int) : Int).toNat ≤ t235.length from by omega)
           replace q27 := eq_true q27
           refine start_ (n := 18) (S := fun w' => w'.cell? ⟨gb234, 0, none⟩ = some (.bool a0_0) ∧ w'.cell? ⟨gb234, 1, none⟩ = some (.slice A0_1 l0_1.length c0_1) ∧ w'.cell? ⟨gb234, 2, none⟩ = some (.int .i64 a0_2) ∧ w'.cell? ⟨gb234, 3, none⟩ = some (.bool a0_3)) (ds := []) #[false, false, false, false, false, false, false, false, false, false, false, false, false, false, false, false, false, false] (by kernel_rfl) rfl rfl ⟨(blk_cell BK234.out 0).trans rfl, (blk_cell BK234.out 1).trans rfl, (blk_cell BK234.out 2).trans rfl, (blk_cell BK234.out 3).trans rfl⟩ (fun hHeld => ?_); refine with_tabW plumblaw07_NearScaleds.tab8 plumblaw07_NearScaleds.bits8 (fun HT_ HW_ => ?_)
           generalize wc.drew = w26 at HO_5 BK234 HB HR241 hHeld ⊢
           refine pure_ (i := 0) (N := some 24) (v := ?_) (a' := ?_) #[true, false, false, false, false, false, false, false, false, false, false, false, false, false, false, false, false, false] rfl rfl dT (fun _ _ _ h => h) (Or.inl ⟨by rfl, ?_⟩) ?_ ?_
           rotate_left
           ·intro w'
            go_simp
            with_reducible rfl
           rotate_left
           ·simp only [Act.put, List.setIfInBounds_toArray, List.set_cons_zero, List.set_cons_succ, i64_w, i32_w]
            rfl
           refine pure_ (i := 2) (N := some 26) (v := ?_) (a' := ?_) #[true, false, true, false, false, false, false, false, false, false, false, false, false, false, false, false, false, false] rfl rfl dT (fun _ _ _ h => h) (Or.inl ⟨by rfl, ?_⟩) ?_ ?_
           rotate_left
           ·intro w'
            go_simp
            with_reducible rfl
           rotate_left
           ·simp only [Act.put, List.setIfInBounds_toArray, List.set_cons_zero, List.set_cons_succ, i64_w, i32_w]
            rfl
           refine pure_ (i := 3) (N := some 27) (v := ?_) (a' := ?_) #[true, false, true, true, false, false, false, false, false, false, false, false, false, false, false, false, false, false] rfl rfl dT (fun _ _ _ h => h) (Or.inl ⟨by rfl, ?_⟩) ?_ ?_
           rotate_left
           ·intro w'
            go_simp
            with_reducible rfl
           rotate_left
           ·simp only [Act.put, List.setIfInBounds_toArray, List.set_cons_zero, List.set_cons_succ, i64_w, i32_w]
            rfl
           refine pure_ (i := 7) (N := some 31) (v := ?_) (a' := ?_) #[true, false, true, true, false, false, false, true, false, false, false, false, false, false, false, false, false, false] rfl rfl dT (fun _ _ _ h => h) (Or.inl ⟨by rfl, ?_⟩) ?_ ?_
           rotate_left
           ·intro w'
            go_simp
            with_reducible rfl
           rotate_left
           ·simp only [Act.put, List.setIfInBounds_toArray, List.set_cons_zero, List.set_cons_succ, i64_w, i32_w]
            rfl
           refine pure_ (i := 9) (N := some 33) (v := ?_) (a' := ?_) #[true, false, true, true, false, false, false, true, false, true, false, false, false, false, false, false, false, false] rfl rfl dT (fun _ _ _ h => h) (Or.inl ⟨by rfl, ?_⟩) ?_ ?_
           rotate_left
           ·intro w'
            go_simp
            with_reducible rfl
           rotate_left
           ·simp only [Act.put, List.setIfInBounds_toArray, List.set_cons_zero, List.set_cons_succ, i64_w, i32_w]
            rfl
           refine pure_ (i := 11) (N := some 35) (v := ?_) (a' := ?_) #[true, false, true, true, false, false, false, true, false, true, false, true, false, false, false, false, false, false] rfl rfl dT (fun _ _ _ h => h) (Or.inl ⟨by rfl, ?_⟩) ?_ ?_
           rotate_left
           ·intro w'
            go_simp
            with_reducible rfl
           rotate_left
           ·simp only [Act.put, List.setIfInBounds_toArray, List.set_cons_zero, List.set_cons_succ, i64_w, i32_w]
            rfl
           refine take_ (i := 1) (N := some 25) (v := ?_) (a' := ?_) #[true, true, true, true, false, false, false, true, false, true, false, true, false, false, false, false, false, false] rfl rfl (take_ofW HT_.out HW_.out (by kernel_rfl)) (fun _ _ _ h => h) (Or.inl ⟨by rfl, ?_⟩) hHeld ?_ ?_
           rotate_left
           ·rintro w' ⟨s0, s1, s2, s3⟩
            go_simp
            with_reducible rfl
           rotate_left
           ·simp only [Act.put, List.setIfInBounds_toArray, List.set_cons_zero, List.set_cons_succ, i64_w, i32_w]
            rfl
           refine take_ (i := 4) (N := some 28) (v := ?_) (a' := ?_) #[true, true, true, true, true, false, false, true, false, true, false, true, false, false, false, false, false, false] rfl rfl (take_ofW HT_.out HW_.out (by kernel_rfl)) (fun _ _ _ h => h) (Or.inl ⟨by rfl, ?_⟩) hHeld ?_ ?_
           rotate_left
           ·rintro w' ⟨s0, s1, s2, s3⟩
            go_simp
            with_reducible rfl
           rotate_left
           ·simp only [Act.put, List.setIfInBounds_toArray, List.set_cons_zero, List.set_cons_succ, i64_w, i32_w]
            rfl
           refine pure_ (i := 5) (N := some 29) (v := ?_) (a' := ?_) #[true, true, true, true, true, true, false, true, false, true, false, true, false, false, false, false, false, false] rfl rfl dT (fun _ _ _ h => h) (Or.inl ⟨by rfl, ?_⟩) ?_ ?_
           rotate_left
           ·intro w'
            go_simp
            with_reducible rfl
           rotate_left
           ·simp only [Act.put, List.setIfInBounds_toArray, List.set_cons_zero, List.set_cons_succ, i64_w, i32_w]
            rfl
           refine pure_ (i := 6) (N := some 30) (v := ?_) (a' := ?_) #[true, true, true, true, true, true, true, true, false, true, false, true, false, false, false, false, false, false] rfl rfl dT (fun _ _ _ h => h) (Or.inl ⟨by rfl, ?_⟩) ?_ ?_
           rotate_left
           ·intro w'
            go_simp
            with_reducible rfl
           rotate_left
           ·simp only [Act.put, List.setIfInBounds_toArray, List.set_cons_zero, List.set_cons_succ, i64_w, i32_w]
            rfl
           refine take_ (i := 8) (N := some 32) (v := ?_) (a' := ?_) #[true, true, true, true, true, true, true, true, true, true, false, true, false, false, false, false, false, false] rfl rfl (take_ofW HT_.out HW_.out (by kernel_rfl)) (fun _ _ _ h => h) (Or.inl ⟨by rfl, ?_⟩) hHeld ?_ ?_
           rotate_left
           ·rintro w' ⟨s0, s1, s2, s3⟩
            go_simp
            with_reducible rfl
           rotate_left
           ·simp only [Act.put, List.setIfInBounds_toArray, List.set_cons_zero, List.set_cons_succ, i64_w, i32_w]
            rfl
           refine take_ (i := 10) (N := some 34) (v := ?_) (a' := ?_) #[true, true, true, true, true, true, true, true, true, true, true, true, false, false, false, false, false, false] rfl rfl (take_ofW HT_.out HW_.out (by kernel_rfl)) (fun _ _ _ h => h) (Or.inl ⟨by rfl, ?_⟩) hHeld ?_ ?_
           rotate_left
           ·rintro w' ⟨s0, s1, s2, s3⟩
            go_simp
            with_reducible rfl
           rotate_left
           ·simp only [Act.put, List.setIfInBounds_toArray, List.set_cons_zero, List.set_cons_succ, i64_w, i32_w]
            rfl
           refine one_ (i := 12) (N := some 36) #[true, true, true, true, true, true, true, true, true, true, true, true, true, false, false, false, false, false] rfl rfl (one_of HT_.out (by kernel_rfl)) (by decide) (fun K hK => ?_)
           refine goes_ Tryd.func13 (by kernel_rfl) rfl #[.bool a0_0, .slice Ao28 y238.length co28, .int .i64 a0_2, .bool a0_3, .int .i64 x7_7] (by rfl) rfl rfl dA ?_
           with_reducible refine (near_Scaled.calls kj7 a0_0 _ _ y238 a0_2 a0_3 x7_7 t242 t243 _ ?side1 ?side2 A12.out).mono ?_
           (case side1 => exact dC (by repeat (first | (with_reducible exact HR241.out) | (with_reducible refine Kd.C_alloc ?_ _) | (with_reducible refine Kd.C_drewN ?_ _) | (with_reducible refine Kd.C_drew ?_) | exact HR241.out)))
           (case side2 => exact HC241.out)
           rintro e w29 ⟨rfl, hb⟩
           refine ⟨_, rfl, ?_⟩
           replace HO_5 := Aside0.mk (Kd.R_below (dR HO_5.out) hb)
           replace BK234 := Aside0.mk (blk_below (g := gb234) (o := .cells #[.bool a0_0, .slice A0_1 l0_1.length c0_1, .int .i64 a0_2, .bool a0_3] 24 (0, 0)) (dK BK234.out) hb)
           replace HR241 := Aside0.mk (Kd.C_below (by repeat (first | (with_reducible exact HR241.out) | (with_reducible refine Kd.C_alloc ?_ _) | (with_reducible refine Kd.C_drewN ?_ _) | (with_reducible refine Kd.C_drew ?_) | exact HR241.out)) hb)
           replace HB := Aside0.mk (below_step (dG GE234.out) hb)
           (try clear hb)
           (try clear hb2)
           (try clear hk)
           (try clear hi)
           refine hK.out _ _ ⟨(blk_cell BK234.out 0).trans rfl, (blk_cell BK234.out 1).trans rfl, (blk_cell BK234.out 2).trans rfl, (blk_cell BK234.out 3).trans rfl⟩ (fun hHeld => ?_)
           clear hK K
           refine norm_ (a' := ?_) ?_ ?_
           rotate_left
           ·show Act.put _ (some 36) _ = _
            simp only [Act.put, List.setIfInBounds_toArray, List.set_cons_zero, List.set_cons_succ, i64_w, i32_w]
            rfl
           refine pure_ (i := 13) (N := some 23) (v := ?_) (a' := ?_) #[true, true, true, true, true, true, true, true, true, true, true, true, true, true, false, false, false, false] rfl rfl dT (fun _ _ _ h => h) (Or.inl ⟨by rfl, ?_⟩) ?_ ?_
           rotate_left
           ·intro w'
            go_simp
            with_reducible rfl
           rotate_left
           ·simp only [Act.put, List.setIfInBounds_toArray, List.set_cons_zero, List.set_cons_succ, i64_w, i32_w]
            rfl
           refine pure_ (i := 14) (N := some 37) (v := ?_) (a' := ?_) #[true, true, true, true, true, true, true, true, true, true, true, true, true, true, true, false, false, false] rfl rfl dT (fun _ _ _ h => h) (Or.inl ⟨by rfl, ?_⟩) ?_ ?_
           rotate_left
           ·intro w'
            go_simp
            with_reducible rfl
           rotate_left
           ·simp only [Act.put, List.setIfInBounds_toArray, List.set_cons_zero, List.set_cons_succ, i64_w, i32_w]
            rfl
           refine pure_ (i := 15) (N := some 38) (v := ?_) (a' := ?_) #[true, true, true, true, true, true, true, true, true, true, true, true, true, true, true, true, false, false] rfl rfl dT (fun _ _ _ h => h) (Or.inl ⟨by rfl, ?_⟩) ?_ ?_
           rotate_left
           ·intro w'
            go_simp
            with_reducible rfl
           rotate_left
           ·simp only [Act.put, List.setIfInBounds_toArray, List.set_cons_zero, List.set_cons_succ, i64_w, i32_w]
            rfl
           refine pure_ (i := 16) (N := some 8) (v := ?_) (a' := ?_) #[true, true, true, true, true, true, true, true, true, true, true, true, true, true, true, true, true, false] rfl rfl dT (fun _ _ _ h => h) (Or.inl ⟨by rfl, ?_⟩) ?_ ?_
           rotate_left
           ·intro w'
            go_simp
            with_reducible rfl
           rotate_left
           ·simp only [Act.put, List.setIfInBounds_toArray, List.set_cons_zero, List.set_cons_succ, i64_w, i32_w]
            rfl
           refine pure_ (i := 17) (N := some 9) (v := ?_) (a' := ?_) #[true, true, true, true, true, true, true, true, true, true, true, true, true, true, true, true, true, true] rfl rfl dT (fun _ _ _ h => h) (Or.inl ⟨by rfl, ?_⟩) ?_ ?_
           rotate_left
           ·intro w'
            go_simp
            with_reducible rfl
           rotate_left
           ·simp only [Act.put, List.setIfInBounds_toArray, List.set_cons_zero, List.set_cons_succ, i64_w, i32_w]
            rfl
           refine done_ (done_of HT_.out (by kernel_rfl)) ?_
           have hcz30_0 : w29.cell? ⟨gb234, 0, none⟩ = some (.bool a0_0) := (blk_cell BK234.out 0).trans rfl
           have hcz30_1 : w29.cell? ⟨gb234, 1, none⟩ = some (.slice A0_1 l0_1.length c0_1) := (blk_cell BK234.out 1).trans rfl
           have hcz30_2 : w29.cell? ⟨gb234, 2, none⟩ = some (.int .i64 a0_2) := (blk_cell BK234.out 2).trans rfl
           have hcz30_3 : w29.cell? ⟨gb234, 3, none⟩ = some (.bool a0_3) := (blk_cell BK234.out 3).trans rfl
           have hfz30_0 := blk_frozen BK234.out 0
           have hfz30_1 := blk_frozen BK234.out 1
           have hfz30_2 := blk_frozen BK234.out 2
           have hfz30_3 := blk_frozen BK234.out 3
           try go_wp2_with (first | ((with_reducible refine gate_callee (f := 14) rfl ?_); refine gL (some 49) Tryd.func14 #[.bool a0_0, .slice A0_1 l0_1.length c0_1, .int .i64 a0_2, .bool a0_3, .int .i64 x7_7] ?_; (with_reducible refine (plumbref07_Scaled.calls kj7 a0_0 _ _ l0_1 a0_2 a0_3 x7_7 t244 t245 _ ?side1 ?side2 A13.out).mono ?_); (case side1 => exact dC (Kd.C_below HR0_1.out HB.out)); (case side2 => exact HC0_1.out); rintro e w31 ⟨rfl, hb⟩; refine ⟨_, rfl, ?_⟩; replace HO_5 := Aside0.mk (Kd.R_below (dR HO_5.out) hb); replace BK234 := Aside0.mk (blk_below (g := gb234) (o := .cells #[.bool a0_0, .slice A0_1 l0_1.length c0_1, .int .i64 a0_2, .bool a0_3] 24 (0, 0)) (dK BK234.out) hb); replace HR241 := Aside0.mk (Kd.C_below (by repeat (first | (with_reducible exact HR241.out) | (with_reducible refine Kd.C_alloc ?_ _) | (with_reducible refine Kd.C_drewN ?_ _) | (with_reducible refine Kd.C_drew ?_) | exact HR241.out)) hb); replace HB := Aside0.mk (below_step (dG GE234.out) hb); (try clear hb)) | (go_at_call 15; (with_reducible refine (plumblaw07_num.calls t243 t246 _ A15.out).mono ?_); rintro e w' ⟨rfl, ⟨nd, rfl⟩⟩; have hcz32_0 : w31.cell? ⟨gb234, 0, none⟩ = some (.bool a0_0) := (blk_cell BK234.out 0).trans rfl; have hcz32_1 : w31.cell? ⟨gb234, 1, none⟩ = some (.slice A0_1 l0_1.length c0_1) := (blk_cell BK234.out 1).trans rfl; have hcz32_2 : w31.cell? ⟨gb234, 2, none⟩ = some (.int .i64 a0_2) := (blk_cell BK234.out 2).trans rfl; have hcz32_3 : w31.cell? ⟨gb234, 3, none⟩ = some (.bool a0_3) := (blk_cell BK234.out 3).trans rfl; have hfz32_0 := blk_frozen BK234.out 0; have hfz32_1 := blk_frozen BK234.out 1; have hfz32_2 := blk_frozen BK234.out 2; have hfz32_3 := blk_frozen BK234.out 3) | (go_at_call 16; (with_reducible refine (plumblaw07_kept.calls kj7 _ _ t235 _ _ l0_1 false _ ?side1 ?side2 ?side3 ?side4 A17.out).mono ?_); (case side1 => exact dC (Kd.R_reads' HO_5.out).2.2); (case side2 => exact (Kd.R_reads' HO_5.out).2.1); (case side3 => exact dC (Kd.C_below HR0_1.out (dG GE234.out))); (case side4 => exact HC0_1.out); rintro e w' ⟨rfl, ⟨nd, rfl⟩⟩))
           go_ret
           exact ⟨dE, dG GE234.out⟩
         ·rw [if_neg c16] at H
          have c16b0 : (t246 == t245) = false := beq_eq_false_iff_ne.mpr c16
          have c16b1 : (t246 != t245) = true := bne_iff_ne.mpr c16
          obtain rfl := Option.some.inj H
          try go_wp2
          replace HO_5 := Aside0.mk (Kd.R_drew HO_5.out)
          replace BK234 := Aside0.mk (blk_drew BK234.out)
          replace HB := Aside0.mk (below_drew1 HB.out)
          obtain ⟨Ao35, co35, eo35⟩ := Kd.R_slice HO_5.out
          (first | subst eo35 | (injection eo35 with f1_ f2_ f3_; have f4_ := f1_.symm; have f5_ := f3_.symm; clear f1_ f2_ f3_; subst f4_; subst f5_))
          have q34 : ((l0_1.length : Int) : Int) ≤ ((t235.length : Int) : Int) := of_decide_eq_true dS
          obtain ⟨i034, hi034, _, hsz34, _⟩ := info_parts info26
          have hroom34 : t235.length ≤ co35 := (Kd.R_reads' HO_5.out).2.1
          have hC34 : Kd.C (Kd.int .u64) _ Ao35 t235.length t235 := (Kd.R_reads' HO_5.out).2.2
          have hcut34 := cut_to (P := Tryd.prog) 22 26 .i64 Tryd.underlying22 hi034 Ao35 t235.length co35 (l0_1.length : Int) (of_decide_eq_true dS) q34 hroom34
          have hr34 := Kd.C_take (m := ((l0_1.length : Int) : Int).toNat) hC34 (by omega)
          have hy34 : y238.length = ((l0_1.length : Int) : Int).toNat := (by rw [Ny238.out, List.length_take]; omega)
          rw [← Ny238.out] at hr34
          rw [← hy34] at hcut34
          have HR241 := Aside0.mk hr34
          have HC241 := Aside0.mk (show y238.length ≤ co35 from by omega)
          clear hr34 hC34 hroom34 hi034 hsz34
          have KY34 := Aside0.mk hy34
          clear hy34
          have KL34 := Aside0.mk (show ((l0_1.length : Int) : Int).toNat ≤ t235.length from by omega)
          replace q34 := eq_true q34
          refine start_ (n := 18) (S := fun w' => w'.cell? ⟨gb234, 0, none⟩ = some (.bool a0_0) ∧ w'.cell? ⟨gb234, 1, none⟩ = some (.slice A0_1 l0_1.length c0_1) ∧ w'.cell? ⟨gb234, 2, none⟩ = some (.int .i64 a0_2) ∧ w'.cell? ⟨gb234, 3, none⟩ = some (.bool a0_3)) (ds := []) #[false, false, false, false, false, false, false, false, false, false, false, false, false, false, false, false, false, false] (by kernel_rfl) rfl rfl ⟨(blk_cell BK234.out 0).trans rfl, (blk_cell BK234.out 1).trans rfl, (blk_cell BK234.out 2).trans rfl, (blk_cell BK234.out 3).trans rfl⟩ (fun hHeld => ?_); refine with_tabW plumblaw07_NearScaleds.tab8 plumblaw07_NearScaleds.bits8 (fun HT_ HW_ => ?_)
          generalize wc.drew = w33 at HO_5 BK234 HB HR241 hHeld ⊢
          refine pure_ (i := 0) (N := some 24) (v := ?_) (a' := ?_) #[true, false, false, false, false, false, false, false, false, false, false, false, false, false, false, false, false, false] rfl rfl dT (fun _ _ _ h => h) (Or.inl ⟨by rfl, ?_⟩) ?_ ?_
          rotate_left
          ·intro w'
           go_simp
           with_reducible rfl
          rotate_left
          ·simp only [Act.put, List.setIfInBounds_toArray, List.set_cons_zero, List.set_cons_succ, i64_w, i32_w]
           rfl
          refine pure_ (i := 2) (N := some 26) (v := ?_) (a' := ?_) #[true, false, true, false, false, false, false, false, false, false, false, false, false, false, false, false, false, false] rfl rfl dT (fun _ _ _ h => h) (Or.inl ⟨by rfl, ?_⟩) ?_ ?_
          rotate_left
          ·intro w'
           go_simp
           with_reducible rfl
          rotate_left
          ·simp only [Act.put, List.setIfInBounds_toArray, List.set_cons_zero, List.set_cons_succ, i64_w, i32_w]
           rfl
          refine pure_ (i := 3) (N := some 27) (v := ?_) (a' := ?_) #[true, false, true, true, false, false, false, false, false, false, false, false, false, false, false, false, false, false] rfl rfl dT (fun _ _ _ h => h) (Or.inl ⟨by rfl, ?_⟩) ?_ ?_
          rotate_left
          ·intro w'
           go_simp
           with_reducible rfl
          rotate_left
          ·simp only [Act.put, List.setIfInBounds_toArray, List.set_cons_zero, List.set_cons_succ, i64_w, i32_w]
           rfl
          refine pure_ (i := 7) (N := some 31) (v := ?_) (a' := ?_) #[true, false, true, true, false, false, false, true, false, false, false, false, false, false, false, false, false, false] rfl rfl dT (fun _ _ _ h => h) (Or.inl ⟨by rfl, ?_⟩) ?_ ?_
          rotate_left
          ·intro w'
           go_simp
           with_reducible rfl
          rotate_left
          ·simp only [Act.put, List.setIfInBounds_toArray, List.set_cons_zero, List.set_cons_succ, i64_w, i32_w]
           rfl
          refine pure_ (i := 9) (N := some 33) (v := ?_) (a' := ?_) #[true, false, true, true, false, false, false, true, false, true, false, false, false, false, false, false, false, false] rfl rfl dT (fun _ _ _ h => h) (Or.inl ⟨by rfl, ?_⟩) ?_ ?_
          rotate_left
          ·intro w'
           go_simp
           with_reducible rfl
          rotate_left
          ·simp only [Act.put, List.setIfInBounds_toArray, List.set_cons_zero, List.set_cons_succ, i64_w, i32_w]
           rfl
          refine pure_ (i := 11) (N := some 35) (v := ?_) (a' := ?_) #[true, false, true, true, false, false, false, true, false, true, false, true, false, false, false, false, false, false] rfl rfl dT (fun _ _ _ h => h) (Or.inl ⟨by rfl, ?_⟩) ?_ ?_
          rotate_left
          ·intro w'
           go_simp
           with_reducible rfl
          rotate_left
          ·simp only [Act.put, List.setIfInBounds_toArray, List.set_cons_zero, List.set_cons_succ, i64_w, i32_w]
           rfl
          refine take_ (i := 1) (N := some 25) (v := ?_) (a' := ?_) #[true, true, true, true, false, false, false, true, false, true, false, true, false, false, false, false, false, false] rfl rfl (take_ofW HT_.out HW_.out (by kernel_rfl)) (fun _ _ _ h => h) (Or.inl ⟨by rfl, ?_⟩) hHeld ?_ ?_
          rotate_left
          ·rintro w' ⟨s0, s1, s2, s3⟩
           go_simp
           with_reducible rfl
          rotate_left
          ·simp only [Act.put, List.setIfInBounds_toArray, List.set_cons_zero, List.set_cons_succ, i64_w, i32_w]
           rfl
          refine take_ (i := 4) (N := some 28) (v := ?_) (a' := ?_) #[true, true, true, true, true, false, false, true, false, true, false, true, false, false, false, false, false, false] rfl rfl (take_ofW HT_.out HW_.out (by kernel_rfl)) (fun _ _ _ h => h) (Or.inl ⟨by rfl, ?_⟩) hHeld ?_ ?_
          rotate_left
          ·rintro w' ⟨s0, s1, s2, s3⟩
           go_simp
           with_reducible rfl
          rotate_left
          ·simp only [Act.put, List.setIfInBounds_toArray, List.set_cons_zero, List.set_cons_succ, i64_w, i32_w]
           rfl
          refine pure_ (i := 5) (N := some 29) (v := ?_) (a' := ?_) #[true, true, true, true, true, true, false, true, false, true, false, true, false, false, false, false, false, false] rfl rfl dT (fun _ _ _ h => h) (Or.inl ⟨by rfl, ?_⟩) ?_ ?_
          rotate_left
          ·intro w'
           go_simp
           with_reducible rfl
          rotate_left
          ·simp only [Act.put, List.setIfInBounds_toArray, List.set_cons_zero, List.set_cons_succ, i64_w, i32_w]
           rfl
          refine pure_ (i := 6) (N := some 30) (v := ?_) (a' := ?_) #[true, true, true, true, true, true, true, true, false, true, false, true, false, false, false, false, false, false] rfl rfl dT (fun _ _ _ h => h) (Or.inl ⟨by rfl, ?_⟩) ?_ ?_
          rotate_left
          ·intro w'
           go_simp
           with_reducible rfl
          rotate_left
          ·simp only [Act.put, List.setIfInBounds_toArray, List.set_cons_zero, List.set_cons_succ, i64_w, i32_w]
           rfl
          refine take_ (i := 8) (N := some 32) (v := ?_) (a' := ?_) #[true, true, true, true, true, true, true, true, true, true, false, true, false, false, false, false, false, false] rfl rfl (take_ofW HT_.out HW_.out (by kernel_rfl)) (fun _ _ _ h => h) (Or.inl ⟨by rfl, ?_⟩) hHeld ?_ ?_
          rotate_left
          ·rintro w' ⟨s0, s1, s2, s3⟩
           go_simp
           with_reducible rfl
          rotate_left
          ·simp only [Act.put, List.setIfInBounds_toArray, List.set_cons_zero, List.set_cons_succ, i64_w, i32_w]
           rfl
          refine take_ (i := 10) (N := some 34) (v := ?_) (a' := ?_) #[true, true, true, true, true, true, true, true, true, true, true, true, false, false, false, false, false, false] rfl rfl (take_ofW HT_.out HW_.out (by kernel_rfl)) (fun _ _ _ h => h) (Or.inl ⟨by rfl, ?_⟩) hHeld ?_ ?_
          rotate_left
          ·rintro w' ⟨s0, s1, s2, s3⟩
           go_simp
           with_reducible rfl
          rotate_left
          ·simp only [Act.put, List.setIfInBounds_toArray, List.set_cons_zero, List.set_cons_succ, i64_w, i32_w]
           rfl
          refine one_ (i := 12) (N := some 36) #[true, true, true, true, true, true, true, true, true, true, true, true, true, false, false, false, false, false] rfl rfl (one_of HT_.out (by kernel_rfl)) (by decide) (fun K hK => ?_)
          refine goes_ Tryd.func13 (by kernel_rfl) rfl #[.bool a0_0, .slice Ao35 y238.length co35, .int .i64 a0_2, .bool a0_3, .int .i64 x7_7] (by rfl) rfl rfl dA ?_
          with_reducible refine (near_Scaled.calls kj7 a0_0 _ _ y238 a0_2 a0_3 x7_7 t242 t243 _ ?side1 ?side2 A12.out).mono ?_
          (case side1 => exact dC (by repeat (first | (with_reducible exact HR241.out) | (with_reducible refine Kd.C_alloc ?_ _) | (with_reducible refine Kd.C_drewN ?_ _) | (with_reducible refine Kd.C_drew ?_) | exact HR241.out)))
          (case side2 => exact HC241.out)
          rintro e w36 ⟨rfl, hb⟩
          refine ⟨_, rfl, ?_⟩
          replace HO_5 := Aside0.mk (Kd.R_below (dR HO_5.out) hb)
          replace BK234 := Aside0.mk (blk_below (g := gb234) (o := .cells #[.bool a0_0, .slice A0_1 l0_1.length c0_1, .int .i64 a0_2, .bool a0_3] 24 (0, 0)) (dK BK234.out) hb)
          replace HR241 := Aside0.mk (Kd.C_below (by repeat (first | (with_reducible exact HR241.out) | (with_reducible refine Kd.C_alloc ?_ _) | (with_reducible refine Kd.C_drewN ?_ _) | (with_reducible refine Kd.C_drew ?_) | exact HR241.out)) hb)
          replace HB := Aside0.mk (below_step (dG GE234.out) hb)
          (try clear hb)
          (try clear hb2)
          (try clear hk)
          (try clear hi)
          refine hK.out _ _ ⟨(blk_cell BK234.out 0).trans rfl, (blk_cell BK234.out 1).trans rfl, (blk_cell BK234.out 2).trans rfl, (blk_cell BK234.out 3).trans rfl⟩ (fun hHeld => ?_)
          clear hK K
          refine norm_ (a' := ?_) ?_ ?_
          rotate_left
          ·show Act.put _ (some 36) _ = _
           simp only [Act.put, List.setIfInBounds_toArray, List.set_cons_zero, List.set_cons_succ, i64_w, i32_w]
           rfl
          refine pure_ (i := 13) (N := some 23) (v := ?_) (a' := ?_) #[true, true, true, true, true, true, true, true, true, true, true, true, true, true, false, false, false, false] rfl rfl dT (fun _ _ _ h => h) (Or.inl ⟨by rfl, ?_⟩) ?_ ?_
          rotate_left
          ·intro w'
           go_simp
           with_reducible rfl
          rotate_left
          ·simp only [Act.put, List.setIfInBounds_toArray, List.set_cons_zero, List.set_cons_succ, i64_w, i32_w]
           rfl
          refine pure_ (i := 14) (N := some 37) (v := ?_) (a' := ?_) #[true, true, true, true, true, true, true, true, true, true, true, true, true, true, true, false, false, false] rfl rfl dT (fun _ _ _ h => h) (Or.inl ⟨by rfl, ?_⟩) ?_ ?_
          rotate_left
          ·intro w'
           go_simp
           with_reducible rfl
          rotate_left
          ·simp only [Act.put, List.setIfInBounds_toArray, List.set_cons_zero, List.set_cons_succ, i64_w, i32_w]
           rfl
          refine pure_ (i := 15) (N := some 38) (v := ?_) (a' := ?_) #[true, true, true, true, true, true, true, true, true, true, true, true, true, true, true, true, false, false] rfl rfl dT (fun _ _ _ h => h) (Or.inl ⟨by rfl, ?_⟩) ?_ ?_
          rotate_left
          ·intro w'
           go_simp
           with_reducible rfl
          rotate_left
          ·simp only [Act.put, List.setIfInBounds_toArray, List.set_cons_zero, List.set_cons_succ, i64_w, i32_w]
           rfl
          refine pure_ (i := 16) (N := some 8) (v := ?_) (a' := ?_) #[true, true, true, true, true, true, true, true, true, true, true, true, true, true, true, true, true, false] rfl rfl dT (fun _ _ _ h => h) (Or.inl ⟨by rfl, ?_⟩) ?_ ?_
          rotate_left
          ·intro w'
           go_simp
           with_reducible rfl
          rotate_left
          ·simp only [Act.put, List.setIfInBounds_toArray, List.set_cons_zero, List.set_cons_succ, i64_w, i32_w]
           rfl
          refine pure_ (i := 17) (N := some 9) (v := ?_) (a' := ?_) #[true, true, true, true, true, true, true, true, true, true, true, true, true, true, true, true, true, true] rfl rfl dT (fun _ _ _ h => h) (Or.inl ⟨by rfl, ?_⟩) ?_ ?_
          rotate_left
          ·intro w'
           go_simp
           with_reducible rfl
          rotate_left
          ·simp only [Act.put, List.setIfInBounds_toArray, List.set_cons_zero, List.set_cons_succ, i64_w, i32_w]
           rfl
          refine done_ (done_of HT_.out (by kernel_rfl)) ?_
          have hcz37_0 : w36.cell? ⟨gb234, 0, none⟩ = some (.bool a0_0) := (blk_cell BK234.out 0).trans rfl
          have hcz37_1 : w36.cell? ⟨gb234, 1, none⟩ = some (.slice A0_1 l0_1.length c0_1) := (blk_cell BK234.out 1).trans rfl
          have hcz37_2 : w36.cell? ⟨gb234, 2, none⟩ = some (.int .i64 a0_2) := (blk_cell BK234.out 2).trans rfl
          have hcz37_3 : w36.cell? ⟨gb234, 3, none⟩ = some (.bool a0_3) := (blk_cell BK234.out 3).trans rfl
          have hfz37_0 := blk_frozen BK234.out 0
          have hfz37_1 := blk_frozen BK234.out 1
          have hfz37_2 := blk_frozen BK234.out 2
          have hfz37_3 := blk_frozen BK234.out 3
          try go_wp2_with (first | ((with_reducible refine gate_callee (f := 14) rfl ?_); refine gL (some 49) Tryd.func14 #[.bool a0_0, .slice A0_1 l0_1.length c0_1, .int .i64 a0_2, .bool a0_3, .int .i64 x7_7] ?_; (with_reducible refine (plumbref07_Scaled.calls kj7 a0_0 _ _ l0_1 a0_2 a0_3 x7_7 t244 t245 _ ?side1 ?side2 A13.out).mono ?_); (case side1 => exact dC (Kd.C_below HR0_1.out HB.out)); (case side2 => exact HC0_1.out); rintro e w38 ⟨rfl, hb⟩; refine ⟨_, rfl, ?_⟩; replace HO_5 := Aside0.mk (Kd.R_below (dR HO_5.out) hb); replace BK234 := Aside0.mk (blk_below (g := gb234) (o := .cells #[.bool a0_0, .slice A0_1 l0_1.length c0_1, .int .i64 a0_2, .bool a0_3] 24 (0, 0)) (dK BK234.out) hb); replace HR241 := Aside0.mk (Kd.C_below (by repeat (first | (with_reducible exact HR241.out) | (with_reducible refine Kd.C_alloc ?_ _) | (with_reducible refine Kd.C_drewN ?_ _) | (with_reducible refine Kd.C_drew ?_) | exact HR241.out)) hb); replace HB := Aside0.mk (below_step (dG GE234.out) hb); (try clear hb)) | (go_at_call 15; (with_reducible refine (plumblaw07_num.calls t243 t246 _ A15.out).mono ?_); rintro e w' ⟨rfl, ⟨nd, rfl⟩⟩))
          go_ret
          exact ⟨dE, dG GE234.out⟩
        ·rw [if_neg c14] at H
         have c14b0 : (t242 == t244) = false := beq_eq_false_iff_ne.mpr c14
         have c14b1 : (t242 != t244) = true := bne_iff_ne.mpr c14
         obtain rfl := Option.some.inj H
         try go_wp2
         replace HO_5 := Aside0.mk (Kd.R_drew HO_5.out)
         replace BK234 := Aside0.mk (blk_drew BK234.out)
         replace HB := Aside0.mk (below_drew1 HB.out)
         obtain ⟨Ao41, co41, eo41⟩ := Kd.R_slice HO_5.out
         (first | subst eo41 | (injection eo41 with f1_ f2_ f3_; have f4_ := f1_.symm; have f5_ := f3_.symm; clear f1_ f2_ f3_; subst f4_; subst f5_))
         have q40 : ((l0_1.length : Int) : Int) ≤ ((t235.length : Int) : Int) := of_decide_eq_true dS
         obtain ⟨i040, hi040, _, hsz40, _⟩ := info_parts info26
         have hroom40 : t235.length ≤ co41 := (Kd.R_reads' HO_5.out).2.1
         have hC40 : Kd.C (Kd.int .u64) _ Ao41 t235.length t235 := (Kd.R_reads' HO_5.out).2.2
         have hcut40 := cut_to (P := Tryd.prog) 22 26 .i64 Tryd.underlying22 hi040 Ao41 t235.length co41 (l0_1.length : Int) (of_decide_eq_true dS) q40 hroom40
         have hr40 := Kd.C_take (m := ((l0_1.length : Int) : Int).toNat) hC40 (by omega)
         have hy40 : y238.length = ((l0_1.length : Int) : Int).toNat := (by rw [Ny238.out, List.length_take]; omega)
         rw [← Ny238.out] at hr40
         rw [← hy40] at hcut40
         have HR241 := Aside0.mk hr40
         have HC241 := Aside0.mk (show y238.length ≤ co41 from by omega)
         clear hr40 hC40 hroom40 hi040 hsz40
         have KY40 := Aside0.mk hy40
         clear hy40
         have KL40 := Aside0.mk (show ((l0_1.length : Int) : Int).toNat ≤ t235.length from by omega)
         replace q40 := eq_true q40
         refine start_ (n := 18) (S := fun w' => w'.cell? ⟨gb234, 0, none⟩ = some (.bool a0_0) ∧ w'.cell? ⟨gb234, 1, none⟩ = some (.slice A0_1 l0_1.length c0_1) ∧ w'.cell? ⟨gb234, 2, none⟩ = some (.int .i64 a0_2) ∧ w'.cell? ⟨gb234, 3, none⟩ = some (.bool a0_3)) (ds := []) #[false, false, false, false, false, false, false, false, false, false, false, false, false, false, false, false, false, false] (by kernel_rfl) rfl rfl ⟨(blk_cell BK234.out 0).trans rfl, (blk_cell BK234.out 1).trans rfl, (blk_cell BK234.out 2).trans rfl, (blk_cell BK234.out 3).trans rfl⟩ (fun hHeld => ?_); refine with_tabW plumblaw07_NearScaleds.tab8 plumblaw07_NearScaleds.bits8 (fun HT_ HW_ => ?_)
         generalize wc.drew = w39 at HO_5 BK234 HB HR241 hHeld ⊢
         refine pure_ (i := 0) (N := some 24) (v := ?_) (a' := ?_) #[true, false, false, false, false, false, false, false, false, false, false, false, false, false, false, false, false, false] rfl rfl dT (fun _ _ _ h => h) (Or.inl ⟨by rfl, ?_⟩) ?_ ?_
         rotate_left
         ·intro w'
          go_simp
          with_reducible rfl
         rotate_left
         ·simp only [Act.put, List.setIfInBounds_toArray, List.set_cons_zero, List.set_cons_succ, i64_w, i32_w]
          rfl
         refine pure_ (i := 2) (N := some 26) (v := ?_) (a' := ?_) #[true, false, true, false, false, false, false, false, false, false, false, false, false, false, false, false, false, false] rfl rfl dT (fun _ _ _ h => h) (Or.inl ⟨by rfl, ?_⟩) ?_ ?_
         rotate_left
         ·intro w'
          go_simp
          with_reducible rfl
         rotate_left
         ·simp only [Act.put, List.setIfInBounds_toArray, List.set_cons_zero, List.set_cons_succ, i64_w, i32_w]
          rfl
         refine pure_ (i := 3) (N := some 27) (v := ?_) (a' := ?_) #[true, false, true, true, false, false, false, false, false, false, false, false, false, false, false, false, false, false] rfl rfl dT (fun _ _ _ h => h) (Or.inl ⟨by rfl, ?_⟩) ?_ ?_
         rotate_left
         ·intro w'
          go_simp
          with_reducible rfl
         rotate_left
         ·simp only [Act.put, List.setIfInBounds_toArray, List.set_cons_zero, List.set_cons_succ, i64_w, i32_w]
          rfl
         refine pure_ (i := 7) (N := some 31) (v := ?_) (a' := ?_) #[true, false, true, true, false, false, false, true, false, false, false, false, false, false, false, false, false, false] rfl rfl dT (fun _ _ _ h => h) (Or.inl ⟨by rfl, ?_⟩) ?_ ?_
         rotate_left
         ·intro w'
          go_simp
          with_reducible rfl
         rotate_left
         ·simp only [Act.put, List.setIfInBounds_toArray, List.set_cons_zero, List.set_cons_succ, i64_w, i32_w]
          rfl
         refine pure_ (i := 9) (N := some 33) (v := ?_) (a' := ?_) #[true, false, true, true, false, false, false, true, false, true, false, false, false, false, false, false, false, false] rfl rfl dT (fun _ _ _ h => h) (Or.inl ⟨by rfl, ?_⟩) ?_ ?_
         rotate_left
         ·intro w'
          go_simp
          with_reducible rfl
         rotate_left
         ·simp only [Act.put, List.setIfInBounds_toArray, List.set_cons_zero, List.set_cons_succ, i64_w, i32_w]
          rfl
         refine pure_ (i := 11) (N := some 35) (v := ?_) (a' := ?_) #[true, false, true, true, false, false, false, true, false, true, false, true, false, false, false, false, false, false] rfl rfl dT (fun _ _ _ h => h) (Or.inl ⟨by rfl, ?_⟩) ?_ ?_
         rotate_left
         ·intro w'
          go_simp
          with_reducible rfl
         rotate_left
         ·simp only [Act.put, List.setIfInBounds_toArray, List.set_cons_zero, List.set_cons_succ, i64_w, i32_w]
          rfl
         refine take_ (i := 1) (N := some 25) (v := ?_) (a' := ?_) #[true, true, true, true, false, false, false, true, false, true, false, true, false, false, false, false, false, false] rfl rfl (take_ofW HT_.out HW_.out (by kernel_rfl)) (fun _ _ _ h => h) (Or.inl ⟨by rfl, ?_⟩) hHeld ?_ ?_
         rotate_left
         ·rintro w' ⟨s0, s1, s2, s3⟩
          go_simp
          with_reducible rfl
         rotate_left
         ·simp only [Act.put, List.setIfInBounds_toArray, List.set_cons_zero, List.set_cons_succ, i64_w, i32_w]
          rfl
         refine take_ (i := 4) (N := some 28) (v := ?_) (a' := ?_) #[true, true, true, true, true, false, false, true, false, true, false, true, false, false, false, false, false, false] rfl rfl (take_ofW HT_.out HW_.out (by kernel_rfl)) (fun _ _ _ h => h) (Or.inl ⟨by rfl, ?_⟩) hHeld ?_ ?_
         rotate_left
         ·rintro w' ⟨s0, s1, s2, s3⟩
          go_simp
          with_reducible rfl
         rotate_left
         ·simp only [Act.put, List.setIfInBounds_toArray, List.set_cons_zero, List.set_cons_succ, i64_w, i32_w]
          rfl
         refine pure_ (i := 5) (N := some 29) (v := ?_) (a' := ?_) #[true, true, true, true, true, true, false, true, false, true, false, true, false, false, false, false, false, false] rfl rfl dT (fun _ _ _ h => h) (Or.inl ⟨by rfl, ?_⟩) ?_ ?_
         rotate_left
         ·intro w'
          go_simp
          with_reducible rfl
         rotate_left
         ·simp only [Act.put, List.setIfInBounds_toArray, List.set_cons_zero, List.set_cons_succ, i64_w, i32_w]
          rfl
         refine pure_ (i := 6) (N := some 30) (v := ?_) (a' := ?_) #[true, true, true, true, true, true, true, true, false, true, false, true, false, false, false, false, false, false] rfl rfl dT (fun _ _ _ h => h) (Or.inl ⟨by rfl, ?_⟩) ?_ ?_
         rotate_left
         ·intro w'
          go_simp
          with_reducible rfl
         rotate_left
         ·simp only [Act.put, List.setIfInBounds_toArray, List.set_cons_zero, List.set_cons_succ, i64_w, i32_w]
          rfl
         refine take_ (i := 8) (N := some 32) (v := ?_) (a' := ?_) #[true, true, true, true, true, true, true, true, true, true, false, true, false, false, false, false, false, false] rfl rfl (take_ofW HT_.out HW_.out (by kernel_rfl)) (fun _ _ _ h => h) (Or.inl ⟨by rfl, ?_⟩) hHeld ?_ ?_
         rotate_left
         ·rintro w' ⟨s0, s1, s2, s3⟩
          go_simp
          with_reducible rfl
         rotate_left
         ·simp only [Act.put, List.setIfInBounds_toArray, List.set_cons_zero, List.set_cons_succ, i64_w, i32_w]
          rfl
         refine take_ (i := 10) (N := some 34) (v := ?_) (a' := ?_) #[true, true, true, true, true, true, true, true, true, true, true, true, false, false, false, false, false, false] rfl rfl (take_ofW HT_.out HW_.out (by kernel_rfl)) (fun _ _ _ h => h) (Or.inl ⟨by rfl, ?_⟩) hHeld ?_ ?_
         rotate_left
         ·rintro w' ⟨s0, s1, s2, s3⟩
          go_simp
          with_reducible rfl
         rotate_left
         ·simp only [Act.put, List.setIfInBounds_toArray, List.set_cons_zero, List.set_cons_succ, i64_w, i32_w]
          rfl
         refine one_ (i := 12) (N := some 36) #[true, true, true, true, true, true, true, true, true, true, true, true, true, false, false, false, false, false] rfl rfl (one_of HT_.out (by kernel_rfl)) (by decide) (fun K hK => ?_)
         refine goes_ Tryd.func13 (by kernel_rfl) rfl #[.bool a0_0, .slice Ao41 y238.length co41, .int .i64 a0_2, .bool a0_3, .int .i64 x7_7] (by rfl) rfl rfl dA ?_
         with_reducible refine (near_Scaled.calls kj7 a0_0 _ _ y238 a0_2 a0_3 x7_7 t242 t243 _ ?side1 ?side2 A12.out).mono ?_
         (case side1 => exact dC (by repeat (first | (with_reducible exact HR241.out) | (with_reducible refine Kd.C_alloc ?_ _) | (with_reducible refine Kd.C_drewN ?_ _) | (with_reducible refine Kd.C_drew ?_) | exact HR241.out)))
         (case side2 => exact HC241.out)
         rintro e w42 ⟨rfl, hb⟩
         refine ⟨_, rfl, ?_⟩
         replace HO_5 := Aside0.mk (Kd.R_below (dR HO_5.out) hb)
         replace BK234 := Aside0.mk (blk_below (g := gb234) (o := .cells #[.bool a0_0, .slice A0_1 l0_1.length c0_1, .int .i64 a0_2, .bool a0_3] 24 (0, 0)) (dK BK234.out) hb)
         replace HR241 := Aside0.mk (Kd.C_below (by repeat (first | (with_reducible exact HR241.out) | (with_reducible refine Kd.C_alloc ?_ _) | (with_reducible refine Kd.C_drewN ?_ _) | (with_reducible refine Kd.C_drew ?_) | exact HR241.out)) hb)
         replace HB := Aside0.mk (below_step (dG GE234.out) hb)
         (try clear hb)
         (try clear hb2)
         (try clear hk)
         (try clear hi)
         refine hK.out _ _ ⟨(blk_cell BK234.out 0).trans rfl, (blk_cell BK234.out 1).trans rfl, (blk_cell BK234.out 2).trans rfl, (blk_cell BK234.out 3).trans rfl⟩ (fun hHeld => ?_)
         clear hK K
         refine norm_ (a' := ?_) ?_ ?_
         rotate_left
         ·show Act.put _ (some 36) _ = _
          simp only [Act.put, List.setIfInBounds_toArray, List.set_cons_zero, List.set_cons_succ, i64_w, i32_w]
          rfl
         refine pure_ (i := 13) (N := some 23) (v := ?_) (a' := ?_) #[true, true, true, true, true, true, true, true, true, true, true, true, true, true, false, false, false, false] rfl rfl dT (fun _ _ _ h => h) (Or.inl ⟨by rfl, ?_⟩) ?_ ?_
         rotate_left
         ·intro w'
          go_simp
          with_reducible rfl
         rotate_left
         ·simp only [Act.put, List.setIfInBounds_toArray, List.set_cons_zero, List.set_cons_succ, i64_w, i32_w]
          rfl
         refine pure_ (i := 14) (N := some 37) (v := ?_) (a' := ?_) #[true, true, true, true, true, true, true, true, true, true, true, true, true, true, true, false, false, false] rfl rfl dT (fun _ _ _ h => h) (Or.inl ⟨by rfl, ?_⟩) ?_ ?_
         rotate_left
         ·intro w'
          go_simp
          with_reducible rfl
         rotate_left
         ·simp only [Act.put, List.setIfInBounds_toArray, List.set_cons_zero, List.set_cons_succ, i64_w, i32_w]
          rfl
         refine pure_ (i := 15) (N := some 38) (v := ?_) (a' := ?_) #[true, true, true, true, true, true, true, true, true, true, true, true, true, true, true, true, false, false] rfl rfl dT (fun _ _ _ h => h) (Or.inl ⟨by rfl, ?_⟩) ?_ ?_
         rotate_left
         ·intro w'
          go_simp
          with_reducible rfl
         rotate_left
         ·simp only [Act.put, List.setIfInBounds_toArray, List.set_cons_zero, List.set_cons_succ, i64_w, i32_w]
          rfl
         refine pure_ (i := 16) (N := some 8) (v := ?_) (a' := ?_) #[true, true, true, true, true, true, true, true, true, true, true, true, true, true, true, true, true, false] rfl rfl dT (fun _ _ _ h => h) (Or.inl ⟨by rfl, ?_⟩) ?_ ?_
         rotate_left
         ·intro w'
          go_simp
          with_reducible rfl
         rotate_left
         ·simp only [Act.put, List.setIfInBounds_toArray, List.set_cons_zero, List.set_cons_succ, i64_w, i32_w]
          rfl
         refine pure_ (i := 17) (N := some 9) (v := ?_) (a' := ?_) #[true, true, true, true, true, true, true, true, true, true, true, true, true, true, true, true, true, true] rfl rfl dT (fun _ _ _ h => h) (Or.inl ⟨by rfl, ?_⟩) ?_ ?_
         rotate_left
         ·intro w'
          go_simp
          with_reducible rfl
         rotate_left
         ·simp only [Act.put, List.setIfInBounds_toArray, List.set_cons_zero, List.set_cons_succ, i64_w, i32_w]
          rfl
         refine done_ (done_of HT_.out (by kernel_rfl)) ?_
         have hcz43_0 : w42.cell? ⟨gb234, 0, none⟩ = some (.bool a0_0) := (blk_cell BK234.out 0).trans rfl
         have hcz43_1 : w42.cell? ⟨gb234, 1, none⟩ = some (.slice A0_1 l0_1.length c0_1) := (blk_cell BK234.out 1).trans rfl
         have hcz43_2 : w42.cell? ⟨gb234, 2, none⟩ = some (.int .i64 a0_2) := (blk_cell BK234.out 2).trans rfl
         have hcz43_3 : w42.cell? ⟨gb234, 3, none⟩ = some (.bool a0_3) := (blk_cell BK234.out 3).trans rfl
         have hfz43_0 := blk_frozen BK234.out 0
         have hfz43_1 := blk_frozen BK234.out 1
         have hfz43_2 := blk_frozen BK234.out 2
         have hfz43_3 := blk_frozen BK234.out 3
         try go_wp2_with (first | ((with_reducible refine gate_callee (f := 14) rfl ?_); refine gL (some 49) Tryd.func14 #[.bool a0_0, .slice A0_1 l0_1.length c0_1, .int .i64 a0_2, .bool a0_3, .int .i64 x7_7] ?_; (with_reducible refine (plumbref07_Scaled.calls kj7 a0_0 _ _ l0_1 a0_2 a0_3 x7_7 t244 t245 _ ?side1 ?side2 A13.out).mono ?_); (case side1 => exact dC (Kd.C_below HR0_1.out HB.out)); (case side2 => exact HC0_1.out); rintro e w44 ⟨rfl, hb⟩; refine ⟨_, rfl, ?_⟩; replace HO_5 := Aside0.mk (Kd.R_below (dR HO_5.out) hb); replace BK234 := Aside0.mk (blk_below (g := gb234) (o := .cells #[.bool a0_0, .slice A0_1 l0_1.length c0_1, .int .i64 a0_2, .bool a0_3] 24 (0, 0)) (dK BK234.out) hb); replace HR241 := Aside0.mk (Kd.C_below (by repeat (first | (with_reducible exact HR241.out) | (with_reducible refine Kd.C_alloc ?_ _) | (with_reducible refine Kd.C_drewN ?_ _) | (with_reducible refine Kd.C_drew ?_) | exact HR241.out)) hb); replace HB := Aside0.mk (below_step (dG GE234.out) hb); (try clear hb)))
         go_ret
         exact ⟨dE, dG GE234.out⟩
       ·rw [if_neg c11] at H
        exact absurd H (by simp)
      ·rw [if_neg c10] at H
       exact absurd H (by simp)
   ·rw [if_neg c7] at H
    have c7b0 : decide (x6_1 ≤ 5) = false := decide_eq_false c7
    clear c7
    obtain rfl := Option.some.inj H
    go_wp2
    go_ret
    exact ⟨dE, dG GE234.out⟩

end Go.Proofs.YtoefabmlkbhmpaaDoor.PA

namespace Go.Proofs.YtoefabmlkbhmpaaDoor.PA
open Go.RowKit Go.Proofs.YtoefabmlkbhmpaaDoorW.PrintWords Go.Proofs.YtoefabmlkbhmpaaDoorW.PrintLast Go.Proofs.YtoefabmlkbhmpaaDoorW.PrintMore
attribute [local go_sem] max2_int min2_int max_two min_two max_three min_three max_four min_four   -- for this text's walks alone
set_option linter.unusedVariables false
set_option linter.unusedSimpArgs false

/-! ### wide_Shl: function 55 -/
def wide_Shl.f (a0 : Int) (a1 : Int) (a2 : Int) : Option (Int × Int) := (wide_within.f a2).bind fun t248 => (if t248 ≥ 64 then (if 0 ≤ (wrap64 (t248 - 64)) then (some (shl .u64 a1 (wrap64 (t248 - 64)), 0)) else (none)) else (if 0 ≤ t248 then (if 0 ≤ (wrap64 (64 - t248)) then (some (Go.bits .or .u64 (shl .u64 a0 t248) (shr .u64 a1 (wrap64 (64 - t248))), shl .u64 a1 t248)) else (none)) else (none)))
set_option maxHeartbeats 8000000 in
set_option maxRecDepth 100000 in
theorem wide_Shl.calls (a0 : Int) (a1 : Int) (a2 : Int) (r1 : Int) (r2 : Int) (w : World) (h : wide_Shl.f a0 a1 a2 = some (r1, r2)) :
  Calls Tryd.prog 55 #[.int .u64 a0, .int .u64 a1, .int .i64 a2] w fun e w' => e = .returned (.tuple #[.int .u64 r1, .int .u64 r2]) ∧ Below w.heap.size w w' := by
 have HB := Aside0.mk (Below.refl w.heap.size w)
 have H : ((wide_within.f a2).bind fun t248 => (if t248 ≥ 64 then (if 0 ≤ (wrap64 (t248 - 64)) then (some (shl .u64 a1 (wrap64 (t248 - 64)), 0)) else (none)) else (if 0 ≤ t248 then (if 0 ≤ (wrap64 (64 - t248)) then (some (Go.bits .or .u64 (shl .u64 a0 t248) (shr .u64 a1 (wrap64 (64 - t248))), shl .u64 a1 t248)) else (none)) else (none)))) = some (r1, r2) := h
 clear h
 replace H := obe H
 obtain ⟨t248, A40, H⟩ := H
 replace H : (if t248 ≥ 64 then (if 0 ≤ (wrap64 (t248 - 64)) then (some (shl .u64 a1 (wrap64 (t248 - 64)), 0)) else (none)) else (if 0 ≤ t248 then (if 0 ≤ (wrap64 (64 - t248)) then (some (Go.bits .or .u64 (shl .u64 a0 t248) (shr .u64 a1 (wrap64 (64 - t248))), shl .u64 a1 t248)) else (none)) else (none))) = some (r1, r2) := H
 have A4 := Aside0.mk A40
 clear A40
 by_cases c5 : t248 ≥ 64
 ·rw [if_pos c5] at H
  have c5b0 : decide (64 ≤ t248) = true := decide_eq_true c5
  clear c5
  obtain ⟨ji6, hji6⟩ : ∃ j_ : Int, (wrap64 (t248 - 64)) = j_ := ⟨_, rfl⟩
  replace H : (if 0 ≤ (ji6) then (some (shl .u64 a1 (ji6), 0)) else (none)) = some (r1, r2) := by first | (rw [hji6] at H; exact H) | (simp only [hji6] at H ⊢; exact H)
  (try rw [hji6] at A4)
  have hji6w : (IntKind.i64.wrap (t248 - 64)) = ji6 := (i64_w _).trans hji6
  by_cases c7 : (0 : Int) ≤ (ji6)
  ·rw [if_pos c7] at H
   have c7b0 := eq_true c7
   have c7b1 : decide (0 ≤ (ji6)) = true := decide_eq_true c7
   clear c7
   obtain ⟨ji8, hji8⟩ : ∃ j_ : Int, (shl .u64 a1 (ji6)) = j_ := ⟨_, rfl⟩
   replace H : (some (ji8, 0)) = some (r1, r2) := by first | (rw [hji8] at H; exact H) | (simp only [hji8] at H ⊢; exact H)
   (try rw [hji8] at A4)
   have hji8_ : (IntKind.u64.wrap (a1 * 2 ^ min (ji6).toNat 64)) = ji8 := hji8
   have hji8z : (ji6) ≤ 64 → (IntKind.u64.wrap (a1 * 2 ^ (ji6).toNat)) = ji8 := shl_small hji8
   simp only [Option.some.injEq, Prod.mk.injEq] at H
   obtain ⟨rfl, rfl⟩ := H
   go_enter Tryd.func55, Tryd.ntmps55
   go_wp2_with (first | (go_at_call 93; (with_reducible refine (wide_within.calls a2 t248 _ A4.out).mono ?_); rintro e w9 ⟨rfl, hb⟩; replace HB := Aside0.mk (below_step dB hb); (try clear hb)))
   repeat (go_quiet (first | (go_at_call 93; (with_reducible refine (wide_within.calls a2 t248 _ A4.out).mono ?_); rintro e w9 ⟨rfl, hb⟩; replace HB := Aside0.mk (below_step dB hb); (try clear hb))); try go_wp2_with (first | (go_at_call 93; (with_reducible refine (wide_within.calls a2 t248 _ A4.out).mono ?_); rintro e w9 ⟨rfl, hb⟩; replace HB := Aside0.mk (below_step dB hb); (try clear hb))))
   go_ret2
   exact ⟨by first | rfl | (simp [errW_none, errW_some] <;> rfl) | (simp only [← hji6, ← hji8]; first | rfl | (simp [errW_none, errW_some] <;> rfl)) | (simp [*, errW_none, errW_some] <;> rfl), dB⟩
  ·rw [if_neg c7] at H
   exact absurd H (by simp)
 ·rw [if_neg c5] at H
  have c5b0 : decide (64 ≤ t248) = false := decide_eq_false c5
  clear c5
  by_cases c10 : (0 : Int) ≤ t248
  ·rw [if_pos c10] at H
   have c10b0 := eq_true c10
   have c10b1 : decide (0 ≤ t248) = true := decide_eq_true c10
   clear c10
   obtain ⟨ji11, hji11⟩ : ∃ j_ : Int, (shl .u64 a0 t248) = j_ := ⟨_, rfl⟩
   replace H : (if 0 ≤ (wrap64 (64 - t248)) then (some (Go.bits .or .u64 (ji11) (shr .u64 a1 (wrap64 (64 - t248))), shl .u64 a1 t248)) else (none)) = some (r1, r2) := by first | (rw [hji11] at H; exact H) | (simp only [hji11] at H ⊢; exact H)
   (try rw [hji11] at A4)
   have hji11_ : (IntKind.u64.wrap (a0 * 2 ^ min t248.toNat 64)) = ji11 := hji11
   have hji11z : t248 ≤ 64 → (IntKind.u64.wrap (a0 * 2 ^ t248.toNat)) = ji11 := shl_small hji11
   obtain ⟨ji12, hji12⟩ : ∃ j_ : Int, (wrap64 (64 - t248)) = j_ := ⟨_, rfl⟩
   replace H : (if 0 ≤ (ji12) then (some (Go.bits .or .u64 (ji11) (shr .u64 a1 (ji12)), shl .u64 a1 t248)) else (none)) = some (r1, r2) := by first | (rw [hji12] at H; exact H) | (simp only [hji12] at H ⊢; exact H)
   (try rw [hji12] at A4)
   have hji12w : (IntKind.i64.wrap (64 - t248)) = ji12 := (i64_w _).trans hji12
   by_cases c13 : (0 : Int) ≤ (ji12)
   ·rw [if_pos c13] at H
    have c13b0 := eq_true c13
    have c13b1 : decide (0 ≤ (ji12)) = true := decide_eq_true c13
    clear c13
    obtain ⟨ji14, hji14⟩ : ∃ j_ : Int, (shr .u64 a1 (ji12)) = j_ := ⟨_, rfl⟩
    replace H : (some (Go.bits .or .u64 (ji11) (ji14), shl .u64 a1 t248)) = some (r1, r2) := by first | (rw [hji14] at H; exact H) | (simp only [hji14] at H ⊢; exact H)
    (try rw [hji14] at A4)
    have hji14_ : (a1 / 2 ^ min (ji12).toNat 64) = ji14 := hji14
    have hji14z : (ji12) ≤ 64 → (a1 / 2 ^ (ji12).toNat) = ji14 := shr_small hji14
    have c15b0 := eq_true (of_decide_eq_true dS : 0 ≤ t248)
    obtain ⟨ji16, hji16⟩ : ∃ j_ : Int, (shl .u64 a1 t248) = j_ := ⟨_, rfl⟩
    replace H : (some (Go.bits .or .u64 (ji11) (ji14), ji16)) = some (r1, r2) := by first | (rw [hji16] at H; exact H) | (simp only [hji16] at H ⊢; exact H)
    (try rw [hji16] at A4)
    have hji16_ : (IntKind.u64.wrap (a1 * 2 ^ min t248.toNat 64)) = ji16 := hji16
    have hji16z : t248 ≤ 64 → (IntKind.u64.wrap (a1 * 2 ^ t248.toNat)) = ji16 := shl_small hji16
    simp only [Option.some.injEq, Prod.mk.injEq] at H
    obtain ⟨rfl, rfl⟩ := H
    go_enter Tryd.func55, Tryd.ntmps55
    go_wp2_with (first | (go_at_call 93; (with_reducible refine (wide_within.calls a2 t248 _ A4.out).mono ?_); rintro e w17 ⟨rfl, hb⟩; replace HB := Aside0.mk (below_step dB hb); (try clear hb)))
    repeat (go_quiet (first | (go_at_call 93; (with_reducible refine (wide_within.calls a2 t248 _ A4.out).mono ?_); rintro e w17 ⟨rfl, hb⟩; replace HB := Aside0.mk (below_step dB hb); (try clear hb))); try go_wp2_with (first | (go_at_call 93; (with_reducible refine (wide_within.calls a2 t248 _ A4.out).mono ?_); rintro e w17 ⟨rfl, hb⟩; replace HB := Aside0.mk (below_step dB hb); (try clear hb))))
    go_ret2
    exact ⟨by first | rfl | (simp [errW_none, errW_some] <;> rfl) | (simp only [← hji11, ← hji12, ← hji14, ← hji16]; first | rfl | (simp [errW_none, errW_some] <;> rfl)) | (simp [*, errW_none, errW_some] <;> rfl), dB⟩
   ·rw [if_neg c13] at H
    exact absurd H (by simp)
  ·rw [if_neg c10] at H
   exact absurd H (by simp)

end Go.Proofs.YtoefabmlkbhmpaaDoor.PA

namespace Go.Proofs.YtoefabmlkbhmpaaDoor.PA
open Go.RowKit Go.Proofs.YtoefabmlkbhmpaaDoorW.PrintWords Go.Proofs.YtoefabmlkbhmpaaDoorW.PrintLast Go.Proofs.YtoefabmlkbhmpaaDoorW.PrintMore
attribute [local go_sem] max2_int min2_int max_two min_two max_three min_three max_four min_four   -- for this text's walks alone
set_option linter.unusedVariables false
set_option linter.unusedSimpArgs false

/-! ### wide_Cmp: function 94 -/
def wide_Cmp.j0 : Nat → Int → Int → Int → Int → Bool → Option (Int)
 | 0, _, _, _, _, _ => none
 | k + 1, x0, x1, x2, x3, x9 => if x9 = true then (some (-1)) else (if x0 = x2 then (if x1 = x3 then (some 0) else (some 1)) else (some 1))
def wide_Cmp.f (k : Nat) (a0 : Int) (a1 : Int) (a2 : Int) (a3 : Int) : Option (Int) := if a0 < a2 then (wide_Cmp.j0 k a0 a1 a2 a3 true) else (if a0 = a2 then (wide_Cmp.j0 k a0 a1 a2 a3 (decide (a1 < a3))) else (wide_Cmp.j0 k a0 a1 a2 a3 false))
theorem wide_Cmp.mono_l : ∀ k, (∀ y0 y1 y2 y3 y4, LeO (wide_Cmp.j0 k y0 y1 y2 y3 y4) (wide_Cmp.j0 (k + 1) y0 y1 y2 y3 y4))
 | 0 => fun _ _ _ _ _ r h => by simp [wide_Cmp.j0] at h
 | k + 1 => by
  have ih0 := wide_Cmp.mono_l k
  ·intro y0 y1 y2 y3 y4
   unfold wide_Cmp.j0
   repeat' first
   | (with_reducible exact ih0 _ _ _ _ _)
   | (with_reducible exact LeO.refl _)
   | (with_reducible exact LeO.none _)
   | (with_reducible refine LeO.ite ?_ ?_)
   | (with_reducible refine LeO.bind ?_ (fun _ => ?_))
   | exact ih0 _ _ _ _ _
   | exact LeO.none _
   | refine LeO.ite ?_ ?_
   | refine LeO.bind ?_ (fun _ => ?_)
theorem wide_Cmp.mono : ∀ a0 a1 a2 a3 k, LeO (wide_Cmp.f k a0 a1 a2 a3) (wide_Cmp.f (k + 1) a0 a1 a2 a3) := by
 intro a0 a1 a2 a3 k
 have ih0 := wide_Cmp.mono_l k
 unfold wide_Cmp.f
 repeat' first
   | (with_reducible exact ih0 _ _ _ _ _)
   | (with_reducible exact LeO.refl _)
   | (with_reducible exact LeO.none _)
   | (with_reducible refine LeO.ite ?_ ?_)
   | (with_reducible refine LeO.bind ?_ (fun _ => ?_))
   | exact ih0 _ _ _ _ _
   | exact LeO.none _
   | refine LeO.ite ?_ ?_
   | refine LeO.bind ?_ (fun _ => ?_)
set_option maxHeartbeats 8000000 in
set_option maxRecDepth 100000 in
theorem wide_Cmp.calls (k : Nat) (a0 : Int) (a1 : Int) (a2 : Int) (a3 : Int) (r : Int) (w : World) (h : wide_Cmp.f k a0 a1 a2 a3 = some r) :
  Calls Tryd.prog 94 #[.int .u64 a0, .int .u64 a1, .int .u64 a2, .int .u64 a3] w fun e w' => e = .returned (.int .i64 r) ∧ Drawn0 w w' := by
 have H : (if a0 < a2 then (wide_Cmp.j0 k a0 a1 a2 a3 true) else (if a0 = a2 then (wide_Cmp.j0 k a0 a1 a2 a3 (decide (a1 < a3))) else (wide_Cmp.j0 k a0 a1 a2 a3 false))) = some r := h
 clear h
 have HC5 := Aside0.mk H
 clear H
 go_enter Tryd.func94, Tryd.ntmps94
 go_upto_region 1 with (fail)
 go_cut [9] (fun v9 wc => ∃ (kq : Nat) (x9_4 : Bool), v9 = .bool x9_4 ∧ Aside0 (wide_Cmp.j0 kq a0 a1 a2 a3 x9_4 = some r) ∧ Aside0 (kq ≤ k) ∧ Drawn0 w wc)
 case first =>
  have H := HC5.out
  clear HC5
  by_cases c6 : a0 < a2
  ·rw [if_pos c6] at H
   have c6b0 : decide (a0 < a2) = true := decide_eq_true c6
   clear c6
   (first | rw [c6b0] | (simp only [i64_w, i32_w]; rw [c6b0]) | skip)
   have H' := Aside0.mk H
   clear H
   go_wp2
   go_meet
   case rel => exact ⟨_, (true), dF, H', ⟨dN⟩, by repeat (first | exact Drawn0.refl _ | apply Drawn0.step)⟩
  ·rw [if_neg c6] at H
   have c6b0 : decide (a0 < a2) = false := decide_eq_false c6
   clear c6
   (first | rw [c6b0] | (simp only [i64_w, i32_w]; rw [c6b0]) | skip)
   by_cases c7 : a0 = a2
   ·rw [if_pos c7] at H
    have c7b0 : (a0 == a2) = true := beq_iff_eq.mpr c7
    have c7b1 : (a0 != a2) = false := bne_eq_false_iff_eq.mpr c7
    clear c7
    have H' := Aside0.mk H
    clear H
    go_wp2
    go_meet
    case rel => exact ⟨_, (decide (a1 < a3)), dF, H', ⟨dN⟩, by repeat (first | exact Drawn0.refl _ | apply Drawn0.step)⟩
   ·rw [if_neg c7] at H
    have c7b0 : (a0 == a2) = false := beq_eq_false_iff_ne.mpr c7
    have c7b1 : (a0 != a2) = true := bne_iff_ne.mpr c7
    have H' := Aside0.mk H
    clear H
    go_wp2
    go_meet
    case rel => exact ⟨_, (false), dF, H', ⟨dN⟩, by repeat (first | exact Drawn0.refl _ | apply Drawn0.step)⟩
 case rest =>
  clear HC5
  try clear p2
  try clear c6
  try clear c6b0
  try clear c7
  try clear c7b0
  try clear c7b1
  obtain ⟨kq, x9_4, rfl, HA, HJ4, ⟨mc4, rfl⟩⟩ := hcut
  cases kq with
  | zero => exact absurd HA.out (by simp [wide_Cmp.j0])
  | succ kj4 =>
   have H := HA.out
   clear HA
   simp only [wide_Cmp.j0] at H
   by_cases c8 : x9_4 = true
   ·subst c8
    have H1 : (some (-1)) = some r := by rw [if_pos rfl] at H; exact H
    clear H
    have H := H1
    clear H1
    obtain rfl := Option.some.inj H
    go_wp2
    go_ret
    exact ⟨by first | rfl | (simp; done) | (simp [*]; done), by repeat (first | exact Drawn0.refl _ | apply Drawn0.step)⟩
   ·replace c8 := Bool.eq_false_iff.mpr c8
    subst c8
    have H1 : (if a0 = a2 then (if a1 = a3 then (some 0) else (some 1)) else (some 1)) = some r := by rw [if_neg (show ¬ (false = true) by decide)] at H; exact H
    clear H
    have H := H1
    clear H1
    by_cases c9 : a0 = a2
    ·rw [if_pos c9] at H
     have c9b0 : (a0 == a2) = true := beq_iff_eq.mpr c9
     have c9b1 : (a0 != a2) = false := bne_eq_false_iff_eq.mpr c9
     clear c9
     by_cases c10 : a1 = a3
     ·rw [if_pos c10] at H
      have c10b0 : (a1 == a3) = true := beq_iff_eq.mpr c10
      have c10b1 : (a1 != a3) = false := bne_eq_false_iff_eq.mpr c10
      clear c10
      obtain rfl := Option.some.inj H
      go_wp2
      go_ret
      exact ⟨by first | rfl | (simp; done) | (simp [*]; done), by repeat (first | exact Drawn0.refl _ | apply Drawn0.step)⟩
     ·rw [if_neg c10] at H
      have c10b0 : (a1 == a3) = false := beq_eq_false_iff_ne.mpr c10
      have c10b1 : (a1 != a3) = true := bne_iff_ne.mpr c10
      obtain rfl := Option.some.inj H
      go_wp2
      go_ret
      exact ⟨by first | rfl | (simp; done) | (simp [*]; done), by repeat (first | exact Drawn0.refl _ | apply Drawn0.step)⟩
    ·rw [if_neg c9] at H
     have c9b0 : (a0 == a2) = false := beq_eq_false_iff_ne.mpr c9
     have c9b1 : (a0 != a2) = true := bne_iff_ne.mpr c9
     obtain rfl := Option.some.inj H
     go_wp2
     go_ret
     exact ⟨by first | rfl | (simp; done) | (simp [*]; done), by repeat (first | exact Drawn0.refl _ | apply Drawn0.step)⟩

end Go.Proofs.YtoefabmlkbhmpaaDoor.PA

namespace Go.Proofs.YtoefabmlkbhmpaaDoor.PA
open Go.RowKit Go.Proofs.YtoefabmlkbhmpaaDoorW.PrintWords Go.Proofs.YtoefabmlkbhmpaaDoorW.PrintLast Go.Proofs.YtoefabmlkbhmpaaDoorW.PrintMore
attribute [local go_sem] max2_int min2_int max_two min_two max_three min_three max_four min_four   -- for this text's walks alone
set_option linter.unusedVariables false
set_option linter.unusedSimpArgs false

/-! ### wide_Div: function 114 (by hand) -/
def wide_Div.f (a0 : Int) (a1 : Int) (a2 : Int) : Option (Int × Int × Int) := if u64B a0 = true ∧ u64B a1 = true ∧ u64B a2 = true then (if a2 = 0 then some (0, 0, 10) else if a2 ≤ a0 then some (0, 0, 11) else some ((a0 * 18446744073709551616 + a1) / a2, (a0 * 18446744073709551616 + a1) % a2, 0)) else none
/-- the state of the loop that mends a guessed digit -/
structure Mend (B r l d f : Int) : Prop where
 sum : d * (B / 4294967296) + f = r
 f0 : 0 ≤ f
 f1 : f < 4294967296
 le : (r * 4294967296 + l) / B ≤ d
structure DivIn (B r l : Int) : Prop where
 B0 : 9223372036854775808 ≤ B
 B1 : B < 18446744073709551616
 r0 : 0 ≤ r
 r1 : r < B
 l0 : 0 ≤ l
 l1 : l < 4294967296
theorem DivIn.q {B r l : Int} (h : DivIn B r l) : 0 ≤ (r * 4294967296 + l) / B ∧ (r * 4294967296 + l) / B < 4294967296 := by
 obtain ⟨h1, h2, h3, h4, h5, h6⟩ := h
 refine ⟨Int.ediv_nonneg (by omega) (by omega), ?_⟩
 exact Int.ediv_lt_of_lt_mul (by omega) (by omega)
theorem or_zero {y : Int} (h0 : 0 ≤ y) (h1 : y < 18446744073709551616) : Go.bits .or .u64 0 y = y := by rw [or_join 64 (by omega) (by omega) rfl h0 h1 h1]; omega
theorem Mend.start {B r l : Int} (h : DivIn B r l) : Mend B r l (r / (B / 4294967296)) (r % (B / 4294967296)) := by
 obtain ⟨h1, h2, h3, h4, h5, h6⟩ := h
 have hb : 0 < B / 4294967296 := by omega
 have e := Int.mul_ediv_add_emod r (B / 4294967296)
 have m0 := Int.emod_nonneg r (show B / 4294967296 ≠ 0 by omega)
 have m1 := Int.emod_lt_of_pos r hb
 refine ⟨by rw [Int.mul_comm]; exact e, m0, by omega, ?_⟩
 have hq : 0 ≤ r / (B / 4294967296) := Int.ediv_nonneg h3 (by omega)
 -- by the smaller divisor
 have hlt : r * 4294967296 + l < (r / (B / 4294967296) + 1) * B := by
  generalize r / (B / 4294967296) = q at *
  generalize hB : B / 4294967296 = b at *
  have h7 : b * 4294967296 ≤ B := by omega
  have h8 : (q + 1) * (b * 4294967296) ≤ (q + 1) * B := Int.mul_le_mul_of_nonneg_left h7 (by omega)
  have h9 : (q + 1) * (b * 4294967296) = (b * q + b) * 4294967296 := by grind
  omega
 have := Int.ediv_lt_of_lt_mul (by omega) hlt
 omega
theorem Mend.big {B r l d f : Int} (h : DivIn B r l) (m : Mend B r l d f) : 0 ≤ d ∧ d ≤ 4294967297 := by
 obtain ⟨h1, h2, h3, h4, h5, h6⟩ := h
 have h0 := Int.ediv_nonneg (show 0 ≤ r * 4294967296 + l by omega) (show 0 ≤ B by omega)
 refine ⟨Int.le_trans h0 m.le, ?_⟩
 apply Classical.byContradiction
 intro hc
 have h7 : 4294967298 * (B / 4294967296) ≤ d * (B / 4294967296) := Int.mul_le_mul_of_nonneg_right (by omega) (by omega)
 have := m.sum
 have := m.f0
 omega
/-- what the test says, without wraps -/
theorem Mend.test {B r l d f : Int} (h : DivIn B r l) (m : Mend B r l d f) (hd : d ≤ 4294967295) :
  Go.bits .or .u64 (IntKind.u64.wrap (f * 4294967296)) l = f * 4294967296 + l ∧ IntKind.u64.wrap (d * Go.bits .and .u64 B 4294967295) = d * (B % 4294967296) ∧
  (f * 4294967296 + l < d * (B % 4294967296) ↔ (r * 4294967296 + l) / B < d) := by
 have hb := m.big h
 obtain ⟨h1, h2, h3, h4, h5, h6⟩ := h
 have f0 := m.f0
 have f1 := m.f1
 have e := m.sum
 rw [join_half f0 f1 h5 h6, and_half (by omega) h2]
 have p := mul_half (x := d) (y := B % 4294967296) (by omega) (by omega) (by omega) (by omega)
 refine ⟨rfl, u64w_of (by omega) (by omega), ?_⟩
 have eB : d * B = d * (B / 4294967296) * 4294967296 + d * (B % 4294967296) := by
  have : B = B / 4294967296 * 4294967296 + B % 4294967296 := by omega
  generalize B / 4294967296 = u at *
  generalize B % 4294967296 = v at *
  rw [this]; grind
 rw [Int.ediv_lt_iff_lt_mul (by omega), eB]
 omega
theorem Mend.lower {B r l d f : Int} (h : DivIn B r l) (m : Mend B r l d f) (ht : 4294967295 < d ∨ (r * 4294967296 + l) / B < d) :
  1 ≤ d ∧ (d - 1) * (B / 4294967296) + (f + B / 4294967296) = r ∧ (r * 4294967296 + l) / B ≤ d - 1 := by
 have hq := h.q
 have := m.le
 refine ⟨by omega, ?_, by omega⟩
 have := m.sum
 rw [Int.sub_mul]; omega
theorem Mend.next {B r l d f : Int} (h : DivIn B r l) (m : Mend B r l d f) (ht : 4294967295 < d ∨ (r * 4294967296 + l) / B < d) (hf : f + B / 4294967296 < 4294967296) : Mend B r l (d - 1) (f + B / 4294967296) := by
 have h1 := m.lower h ht
 have := m.f0
 have := h.B0
 exact ⟨h1.2.1, by omega, hf, h1.2.2⟩
theorem Mend.stop {B r l d f : Int} (h : DivIn B r l) (m : Mend B r l d f) (ht : 4294967295 < d ∨ (r * 4294967296 + l) / B < d) (hf : 4294967296 ≤ f + B / 4294967296) : d - 1 = (r * 4294967296 + l) / B := by
 have h1 := m.lower h ht
 have hb := m.big h
 obtain ⟨g1, g2, g3, g4, g5, g6⟩ := h
 have : d - 1 ≤ (r * 4294967296 + l) / B := by
  refine Int.le_ediv_of_mul_le (by omega) ?_
  have eB : (d - 1) * B = (d - 1) * (B / 4294967296) * 4294967296 + (d - 1) * (B % 4294967296) := by
   have : B = B / 4294967296 * 4294967296 + B % 4294967296 := by omega
   generalize B / 4294967296 = u at *
   generalize B % 4294967296 = v at *
   rw [this]; grind
  have h5 : (d - 1) * (B % 4294967296) ≤ 4294967296 * (B % 4294967296) := Int.mul_le_mul_of_nonneg_right (by omega) (by omega)
  rw [eB]
  have := h1.2.1
  omega
 omega
/-- the rest of a step -/
theorem div_rest {B r l : Int} (h : DivIn B r l) : IntKind.u64.wrap (IntKind.u64.wrap (IntKind.u64.wrap (r * 4294967296) + l) - IntKind.u64.wrap ((r * 4294967296 + l) / B * B)) = (r * 4294967296 + l) % B := by
 have e := Int.mul_ediv_add_emod (r * 4294967296 + l) B
 have m0 := Int.emod_nonneg (r * 4294967296 + l) (show B ≠ 0 by have := h.B0; omega)
 have m1 := Int.emod_lt_of_pos (r * 4294967296 + l) (show 0 < B by have := h.B0; omega)
 have := h.B1
 rw [Int.mul_comm] at e
 generalize (r * 4294967296 + l) / B * B = p at *
 simp only [u64w]
 omega
theorem DivIn.next {B r l l' : Int} (h : DivIn B r l) (h0 : 0 ≤ l') (h1 : l' < 4294967296) : DivIn B ((r * 4294967296 + l) % B) l' :=
 ⟨h.B0, h.B1, Int.emod_nonneg _ (by have := h.B0; omega), Int.emod_lt_of_pos _ (by have := h.B0; omega), h0, h1⟩
/-- two digits and the rest are quotient and rest of the whole -/
theorem div_two {B r l l' : Int} (h : DivIn B r l) (h0 : 0 ≤ l') (h1 : l' < 4294967296) :
  (r * 4294967296 + l) / B * 4294967296 + ((r * 4294967296 + l) % B * 4294967296 + l') / B = ((r * 4294967296 + l) * 4294967296 + l') / B ∧
  ((r * 4294967296 + l) % B * 4294967296 + l') % B = ((r * 4294967296 + l) * 4294967296 + l') % B := by
 have hB : 0 < B := by have := h.B0; omega
 have e := Int.mul_ediv_add_emod (r * 4294967296 + l) B
 generalize r * 4294967296 + l = n at *
 generalize hq : n / B = q at *
 generalize hr : n % B = s at *
 have e2 : n * 4294967296 + l' = (s * 4294967296 + l') + B * (q * 4294967296) := by rw [← e]; grind
 rw [e2, Int.add_mul_ediv_left _ _ (by omega), Int.add_mul_emod_self_left]
 exact ⟨by omega, rfl⟩
theorem div_scaled {n b : Int} (s : Nat) (hb : 0 < b) : n * 2 ^ s / (b * 2 ^ s) = n / b ∧ n * 2 ^ s % (b * 2 ^ s) / 2 ^ s = n % b := by
 have hs := two_pow_pos s
 refine ⟨Int.mul_ediv_mul_of_pos_left n b hs, ?_⟩
 rw [Int.mul_comm n, Int.mul_comm b, Int.mul_emod_mul_of_pos _ _ hs, Int.mul_ediv_cancel_left _ (by omega)]
theorem div_begin {a0 a1 a2 L : Int} (h0 : 0 ≤ a0) (h1a : 0 ≤ a1) (h1b : a1 < 18446744073709551616) (h2 : a2 < 18446744073709551616) (h02 : a0 < a2) (hL : L = bitsN a2) :
  0 ≤ L ∧ 1 ≤ L ∧ L ≤ 64 ∧ IntKind.u64.wrap (a2 * 2 ^ (64 - L).toNat) = a2 * 2 ^ (64 - L).toNat ∧
  DivIn (a2 * 2 ^ (64 - L).toNat) (Go.bits .or .u64 (IntKind.u64.wrap (a0 * 2 ^ (64 - L).toNat)) (a1 / 2 ^ (64 - (64 - L)).toNat)) (IntKind.u64.wrap (a1 * 2 ^ (64 - L).toNat) / 4294967296) ∧
  0 ≤ Go.bits .and .u64 (IntKind.u64.wrap (a1 * 2 ^ (64 - L).toNat)) 4294967295 ∧ Go.bits .and .u64 (IntKind.u64.wrap (a1 * 2 ^ (64 - L).toNat)) 4294967295 < 4294967296 ∧
  (Go.bits .or .u64 (IntKind.u64.wrap (a0 * 2 ^ (64 - L).toNat)) (a1 / 2 ^ (64 - (64 - L)).toNat) * 4294967296 + IntKind.u64.wrap (a1 * 2 ^ (64 - L).toNat) / 4294967296) * 4294967296 + Go.bits .and .u64 (IntKind.u64.wrap (a1 * 2 ^ (64 - L).toNat)) 4294967295 = (a0 * 18446744073709551616 + a1) * 2 ^ (64 - L).toNat := by
 have hp : 0 < a2 := by omega
 have hL1 : 1 ≤ L := by rw [hL, bitsN_pos hp]; omega
 have hL2 : L ≤ 64 := by rw [hL]; exact bitsN_le_of_lt (n := 64) (by omega) h2
 have hlt := bitsN_lt hp
 have hge := bitsN_ge hp
 rw [← hL] at hlt hge
 obtain ⟨l, rfl⟩ : ∃ l : Nat, L = l + 1 := ⟨(L - 1).toNat, by omega⟩
 have e1 : ((l : Int) + 1).toNat = l + 1 := by omega
 rw [e1] at hlt hge
 simp only [Nat.add_sub_cancel] at hge
 have e2 : (64 - ((l : Int) + 1)).toNat = 63 - l := by omega
 have e3 : (64 - (64 - ((l : Int) + 1))).toNat = l + 1 := by omega
 rw [e2, e3]
 have hs := two_pow_pos (63 - l)
 have hs2 := two_pow_pos (l + 1)
 have p64 : (2 : Int) ^ (l + 1) * 2 ^ (63 - l) = 18446744073709551616 := by rw [← Int.pow_add, show l + 1 + (63 - l) = 64 from by omega]; rfl
 have p63 : (2 : Int) ^ l * 2 ^ (63 - l) = 9223372036854775808 := by rw [← Int.pow_add, show l + (63 - l) = 63 from by omega]; rfl
 have hSle : (2 : Int) ^ (63 - l) ≤ 2 ^ 63 := pow_mono (by omega)
 have hS63 : (2 : Int) ^ 63 = 9223372036854775808 := rfl
 have hB1 : a2 * 2 ^ (63 - l) < 18446744073709551616 := by
  rw [← p64]; exact Int.mul_lt_mul_of_pos_right hlt hs
 have hB0 : 9223372036854775808 ≤ a2 * 2 ^ (63 - l) := by
  rw [← p63]; exact Int.mul_le_mul_of_nonneg_right hge (Int.le_of_lt hs)
 have hA : a0 * 2 ^ (63 - l) + 2 ^ (63 - l) ≤ a2 * 2 ^ (63 - l) := by
  have : (a0 + 1) * 2 ^ (63 - l) ≤ a2 * 2 ^ (63 - l) := Int.mul_le_mul_of_nonneg_right (by omega) (Int.le_of_lt hs)
  rw [Int.add_mul, Int.one_mul] at this; exact this
 have hA0 : 0 ≤ a0 * 2 ^ (63 - l) := Int.mul_nonneg h0 (Int.le_of_lt hs)
 have hd0 : 0 ≤ a1 / 2 ^ (l + 1) := Int.ediv_nonneg h1a (Int.le_of_lt hs2)
 have hd1 : a1 / 2 ^ (l + 1) < 2 ^ (63 - l) := Int.ediv_lt_of_lt_mul hs2 (by rw [Int.mul_comm, p64]; exact h1b)
 have hw0 : IntKind.u64.wrap (a0 * 2 ^ (63 - l)) = a0 * 2 ^ (63 - l) := u64w_of hA0 (by omega)
 have hor : Go.bits .or .u64 (a0 * 2 ^ (63 - l)) (a1 / 2 ^ (l + 1)) = a0 * 2 ^ (63 - l) + a1 / 2 ^ (l + 1) :=
  or_join (63 - l) hA0 (by omega) (Int.mul_emod_left _ _) hd0 hd1 (by omega)
 have hand := and_half (x := IntKind.u64.wrap (a1 * 2 ^ (63 - l))) (u64w_range _).1 (u64w_range _).2
 have hw := u64w_range (a1 * 2 ^ (63 - l))
 have hsplit : a1 * 2 ^ (63 - l) = 18446744073709551616 * (a1 / 2 ^ (l + 1)) + IntKind.u64.wrap (a1 * 2 ^ (63 - l)) := by
  rw [u64w]
  have h9 : a1 * 2 ^ (63 - l) / 18446744073709551616 = a1 / 2 ^ (l + 1) := by
   rw [← p64]; exact Int.mul_ediv_mul_of_pos_left _ _ hs
  have := Int.mul_ediv_add_emod (a1 * 2 ^ (63 - l)) 18446744073709551616
  rw [h9] at this; omega
 rw [hw0, hor, hand]
 generalize IntKind.u64.wrap (a1 * 2 ^ (63 - l)) = v at *
 refine ⟨by omega, hL1, hL2, u64w_of (by omega) hB1, ⟨hB0, hB1, by omega, by omega, by omega, by omega⟩, by omega, by omega, ?_⟩
 have e9 : (a0 * 18446744073709551616 + a1) * 2 ^ (63 - l) = a0 * 2 ^ (63 - l) * 18446744073709551616 + a1 * 2 ^ (63 - l) := by grind
 rw [e9, hsplit]
 omega
set_option maxHeartbeats 8000000 in
theorem wide_Div.calls (a0 : Int) (a1 : Int) (a2 : Int) (r1 : Int) (r2 : Int) (r3 : Int) (w : World) (h : wide_Div.f a0 a1 a2 = some (r1, r2, r3)) :
  Calls Tryd.prog 114 #[.int .u64 a0, .int .u64 a1, .int .u64 a2] w fun e w' => e = .returned (.tuple #[.int .u64 r1, .int .u64 r2, .int .i64 r3]) ∧ Below w.heap.size w w' := by
 unfold wide_Div.f at h
 split at h
 case isFalse => cases h
 rename_i hh
 simp only [u64B_iff] at hh
 obtain ⟨⟨h0a, h0b⟩, ⟨h1a, h1b⟩, h2a, h2b⟩ := hh
 split at h
 case isTrue hz =>
  subst hz
  simp only [Option.some.injEq, Prod.mk.injEq] at h
  obtain ⟨rfl, rfl, rfl⟩ := h
  go_enter Tryd.func114, Tryd.ntmps114
  go_wp2
  go_ret3
  exact ⟨rfl, Below.refl _ _⟩
 rename_i hz
 have g1 : (a2 == 0) = false := beq_eq_false_iff_ne.mpr hz
 split at h
 case isTrue hge =>
  simp only [Option.some.injEq, Prod.mk.injEq] at h
  obtain ⟨rfl, rfl, rfl⟩ := h
  have g2 : decide (a2 ≤ a0) = true := decide_eq_true hge
  clear hz
  go_enter Tryd.func114, Tryd.ntmps114
  go_wp2
  go_ret3
  exact ⟨rfl, Below.refl _ _⟩
 rename_i hge
 have g2 : decide (a2 ≤ a0) = false := decide_eq_false hge
 simp only [Option.some.injEq, Prod.mk.injEq] at h
 obtain ⟨e1, e2, rfl⟩ := h
 have E1 := Aside0.mk e1
 have E2 := Aside0.mk e2
 clear e1 e2 hz
 obtain ⟨L, hL⟩ : ∃ L, L = bitsN a2 := ⟨_, rfl⟩
 obtain ⟨hL0, hL1, hL2, hB, hin, hl0, hl1, hN⟩ := div_begin h0a h1a h1b h2b (by omega) hL
 have HL := Aside0.mk (wide_Len.f_eq h2a h2b 7 (by omega))
 rw [← hL] at HL
 have HB := Aside0.mk hB; have HI := Aside0.mk hin; have HN := Aside0.mk hN; have Hl0 := Aside0.mk hl0; have Hl1 := Aside0.mk hl1
 clear hL hB hin hN hl0 hl1 hge
 go_enter Tryd.func114, Tryd.ntmps114
 go_wp2_with (first | (go_at_call 81; (with_reducible refine (wide_Len.calls 7 _ _ _ HL.out).mono ?_); rintro e w' ⟨rfl, ⟨n, rfl⟩⟩))
 go_quiet (fail)
 go_wp2
 have kc : ∀ (m j : Nat), j < 2 → ((w.drewN m).alloc (Obj.cells #[Value.int IntKind.u64 0, Value.int IntKind.u64 0] 126)).cell? ⟨w.heap.size, j, none⟩ = some (.int .u64 0) := by
  intro m j hj
  rw [blk_cell (blk_new' (w.drewN m) _ (g := w.heap.size) rfl) j]
  rcases j with _ | _ | j
  ·rfl
  ·rfl
  ·omega
 have kf : ∀ (m j : Nat), ((w.drewN m).alloc (Obj.cells #[Value.int IntKind.u64 0, Value.int IntKind.u64 0] 126)).frozen? ⟨w.heap.size, j, none⟩ = false := by
  intro m j
  exact blk_frozen (blk_new' (w.drewN m) _ (g := w.heap.size) rfl) j
 have kc0 := fun m => kc m 0 (by omega)
 have kc1 := fun m => kc m 1 (by omega)
 clear kc
 go_region
 clear kc0 kc1 kf
 go_upto_block 0 with (fail)
 rw [HB.out]
 generalize hBd : a2 * 2 ^ (64 - L).toNat = B at *
 generalize hRd : Go.bits BinOp.or IntKind.u64 (IntKind.u64.wrap (a0 * 2 ^ (64 - L).toNat)) (a1 / 2 ^ (64 - (64 - L)).toNat) = R at *
 generalize hl0d : IntKind.u64.wrap (a1 * 2 ^ (64 - L).toNat) / 4294967296 = l0 at *
 generalize hl1d : Go.bits BinOp.and IntKind.u64 (IntKind.u64.wrap (a1 * 2 ^ (64 - L).toNat)) 4294967295 = l1 at *
 have HC : ((((w.drewN (n + nq + 1)).alloc (Obj.cells #[Value.int IntKind.u64 0, Value.int IntKind.u64 0] 126)).setCell ⟨w.heap.size, 0, none⟩ (Value.int IntKind.u64 l0)).setCell ⟨w.heap.size, 1, none⟩ (Value.int IntKind.u64 l1)).heap[w.heap.size]? = some (.cells #[.int .u64 l0, .int .u64 l1] 126 (0, 0)) := blk_set (blk_set (blk_new' (w.drewN (n + nq + 1)) _ (g := w.heap.size) rfl) 0 _) 1 _
 have HW := Aside0.mk (show Below w.heap.size w ((((w.drewN (n + nq + 1)).alloc (Obj.cells #[Value.int IntKind.u64 0, Value.int IntKind.u64 0] 126)).setCell ⟨w.heap.size, 0, none⟩ (Value.int IntKind.u64 l0)).setCell ⟨w.heap.size, 1, none⟩ (Value.int IntKind.u64 l1)) from below_set (below_set (below_alloc (pw_below_drewN (Below.refl _ _) _) _) (Nat.le_refl _)) (Nat.le_refl _))
 generalize ((((w.drewN (n + nq + 1)).alloc (Obj.cells #[Value.int IntKind.u64 0, Value.int IntKind.u64 0] 126)).setCell ⟨w.heap.size, 0, none⟩ (Value.int IntKind.u64 l0)).setCell ⟨w.heap.size, 1, none⟩ (Value.int IntKind.u64 l1)) = W1 at *
 have HC0 := blk_cell HC 0
 have HC1 := blk_cell HC 1
 replace HC0 : W1.cell? ⟨w.heap.size, 0, none⟩ = some (.int .u64 l0) := HC0
 replace HC1 : W1.cell? ⟨w.heap.size, 1, none⟩ = some (.int .u64 l1) := HC1
 clear HC
 have HI0 := HI
 have HI1 := Aside0.mk (HI.out.next Hl0.out Hl1.out)
 go_cut [10, 12] (fun v10 v12 wx => v10 = .int .u64 (((R * 4294967296 + l0) % B * 4294967296 + l1) % B) ∧ v12 = .int .u64 ((R * 4294967296 + l0) / B * 4294967296 + ((R * 4294967296 + l0) % B * 4294967296 + l1) / B) ∧ Aside0 (Below w.heap.size w wx))
 case first =>
  have hB0 := HI.out.B0; have hB1 := HI.out.B1; have hR0 := HI.out.r0; have hR1 := HI.out.r1; have hl00 := HI.out.l0; have hl01 := HI.out.l1; have hl10 := HI1.out.l0; have hl11 := HI1.out.l1
  have hq0 := HI.out.q
  obtain ⟨hq0a, hq0b⟩ := hq0
  go_wp2
  refine wp_loop_rounds 3 ?_
  rw [rounds_succ]
  go_upto_block 2 with (fail)
  go_cut [14, 15] (fun v14 v15 wx => ∃ f : Int, v14 = .int .u64 ((R * 4294967296 + l0) / B) ∧ v15 = .int .u64 f ∧ wx.cell? ⟨w.heap.size, 0, none⟩ = some (.int .u64 l0) ∧ wx.cell? ⟨w.heap.size, 1, none⟩ = some (.int .u64 l1) ∧ Aside0 (Below w.heap.size w wx))
  case first =>
   go_wp2
   go_loopw [14, 15] (fun v14 v15 wr => ∃ d f : Int, v14 = .int .u64 d ∧ v15 = .int .u64 f ∧ Mend B R l0 d f ∧ wr.cell? ⟨w.heap.size, 0, none⟩ = some (.int .u64 l0) ∧ wr.cell? ⟨w.heap.size, 1, none⟩ = some (.int .u64 l1) ∧ Aside0 (Below w.heap.size w wr)) (fun v14 _ _ => (intOf v14).toNat)
   case atStart => exact ⟨_, _, rfl, rfl, Mend.start HI0.out, HC0, HC1, HW⟩
   case round =>
    obtain ⟨d, f, rfl, rfl, hm, hc0, hc1, hb⟩ := hrel
    have hbig := hm.big HI0.out
    obtain ⟨hd0, hd1⟩ := hbig
    have hf0 := hm.f0; have hf1 := hm.f1
    by_cases ht : 4294967295 < d ∨ (R * 4294967296 + l0) / B < d
    ·have hlow := hm.lower HI0.out ht
     have hd2 : 1 ≤ d := hlow.1
     have hT := Aside0.mk ht
     have hg : (decide (4294967295 < d) = true) ∨ (decide (4294967295 < d) = false ∧ decide (Go.bits .or .u64 (f * 4294967296) l0 < IntKind.u64.wrap (d * Go.bits .and .u64 B 4294967295)) = true) := by
      by_cases c1 : 4294967295 < d
      ·exact .inl (decide_eq_true c1)
      ·have h3 := hm.test HI0.out (by omega)
       refine .inr ⟨decide_eq_false c1, ?_⟩
       rw [← u64w_of (x := f * 4294967296) (by omega) (by omega), h3.1, h3.2.1]
       exact decide_eq_true (h3.2.2.2 (by omega))
     clear ht hlow
     by_cases hf2 : f + B / 4294967296 < 4294967296
     ·have hf3 : decide (4294967295 < f + B / 4294967296) = false := decide_eq_false (by omega)
      have hnx := hm.next HI0.out hT.out hf2
      clear hf2
      rcases hg with hg | ⟨hg, hg2⟩
      all_goals
       go_wp2
       go_roundw
       case rel => exact ⟨_, _, rfl, rfl, hnx, hc0, hc1, hb⟩
       case measure => simp only [intOf]; omega
     ·have hf3 : decide (4294967295 < f + B / 4294967296) = true := decide_eq_true (by omega)
      have hst := Aside0.mk (hm.stop HI0.out hT.out (by omega))
      clear hf2
      rcases hg with hg | ⟨hg, hg2⟩
      all_goals
       go_wp2
       go_meet
       exact ⟨_, by rw [hst.out], rfl, hc0, hc1, hb⟩
    ·have c1 : decide (4294967295 < d) = false := decide_eq_false (by omega)
     have h3 := hm.test HI0.out (by omega)
     have c2 : decide (Go.bits .or .u64 (f * 4294967296) l0 < IntKind.u64.wrap (d * Go.bits .and .u64 B 4294967295)) = false := by
      rw [← u64w_of (x := f * 4294967296) (by omega) (by omega), h3.1, h3.2.1]
      exact decide_eq_false (fun h4 => ht (.inr (h3.2.2.1 h4)))
     have hst := Aside0.mk (show d = (R * 4294967296 + l0) / B from by have := hm.le; omega)
     clear h3 ht
     go_wp2
     go_meet
     exact ⟨_, by rw [hst.out], rfl, hc0, hc1, hb⟩
  case rest =>
   obtain ⟨f0, rfl, rfl, hc0, hc1, hb⟩ := hcut
   have hR10 := HI1.out.r0; have hR11 := HI1.out.r1
   have hq1 := HI1.out.q
   obtain ⟨hq1a, hq1b⟩ := hq1
   go_wp2
   rw [div_rest HI.out, or_zero hq0a (by omega), rounds_succ]
   clear HC0 HC1
   go_upto_block 2 with (fail)
   go_cut [14, 15] (fun v14 v15 wx => ∃ f : Int, v14 = .int .u64 ((((R * 4294967296 + l0) % B) * 4294967296 + l1) / B) ∧ v15 = .int .u64 f ∧ wx.cell? ⟨w.heap.size, 0, none⟩ = some (.int .u64 l0) ∧ wx.cell? ⟨w.heap.size, 1, none⟩ = some (.int .u64 l1) ∧ Aside0 (Below w.heap.size w wx))
   case first =>
    go_wp2
    go_loopw [14, 15] (fun v14 v15 wr => ∃ d f : Int, v14 = .int .u64 d ∧ v15 = .int .u64 f ∧ Mend B ((R * 4294967296 + l0) % B) l1 d f ∧ wr.cell? ⟨w.heap.size, 0, none⟩ = some (.int .u64 l0) ∧ wr.cell? ⟨w.heap.size, 1, none⟩ = some (.int .u64 l1) ∧ Aside0 (Below w.heap.size w wr)) (fun v14 _ _ => (intOf v14).toNat)
    case atStart => exact ⟨_, _, rfl, rfl, Mend.start HI1.out, hc0, hc1, hb⟩
    case round =>
     obtain ⟨d, f, rfl, rfl, hm, hc0, hc1, hb⟩ := hrel
     have hbig := hm.big HI1.out
     obtain ⟨hd0, hd1⟩ := hbig
     have hf0 := hm.f0; have hf1 := hm.f1
     by_cases ht : 4294967295 < d ∨ (((R * 4294967296 + l0) % B) * 4294967296 + l1) / B < d
     ·have hlow := hm.lower HI1.out ht
      have hd2 : 1 ≤ d := hlow.1
      have hT := Aside0.mk ht
      have hg : (decide (4294967295 < d) = true) ∨ (decide (4294967295 < d) = false ∧ decide (Go.bits .or .u64 (f * 4294967296) l1 < IntKind.u64.wrap (d * Go.bits .and .u64 B 4294967295)) = true) := by
       by_cases c1 : 4294967295 < d
       ·exact .inl (decide_eq_true c1)
       ·have h3 := hm.test HI1.out (by omega)
        refine .inr ⟨decide_eq_false c1, ?_⟩
        rw [← u64w_of (x := f * 4294967296) (by omega) (by omega), h3.1, h3.2.1]
        exact decide_eq_true (h3.2.2.2 (by omega))
      clear ht hlow
      by_cases hf2 : f + B / 4294967296 < 4294967296
      ·have hf3 : decide (4294967295 < f + B / 4294967296) = false := decide_eq_false (by omega)
       have hnx := hm.next HI1.out hT.out hf2
       clear hf2
       rcases hg with hg | ⟨hg, hg2⟩
       all_goals
        go_wp2
        go_roundw
        case rel => exact ⟨_, _, rfl, rfl, hnx, hc0, hc1, hb⟩
        case measure => simp only [intOf]; omega
      ·have hf3 : decide (4294967295 < f + B / 4294967296) = true := decide_eq_true (by omega)
       have hst := Aside0.mk (hm.stop HI1.out hT.out (by omega))
       clear hf2
       rcases hg with hg | ⟨hg, hg2⟩
       all_goals
        go_wp2
        go_meet
        exact ⟨_, by rw [hst.out], rfl, hc0, hc1, hb⟩
     ·have c1 : decide (4294967295 < d) = false := decide_eq_false (by omega)
      have h3 := hm.test HI1.out (by omega)
      have c2 : decide (Go.bits .or .u64 (f * 4294967296) l1 < IntKind.u64.wrap (d * Go.bits .and .u64 B 4294967295)) = false := by
       rw [← u64w_of (x := f * 4294967296) (by omega) (by omega), h3.1, h3.2.1]
       exact decide_eq_false (fun h4 => ht (.inr (h3.2.2.1 h4)))
      have hst := Aside0.mk (show d = (((R * 4294967296 + l0) % B) * 4294967296 + l1) / B from by have := hm.le; omega)
      clear h3 ht
      go_wp2
      go_meet
      exact ⟨_, by rw [hst.out], rfl, hc0, hc1, hb⟩
   case rest =>
    obtain ⟨f1, rfl, rfl, hc0, hc1, hb⟩ := hcut
    go_wp2
    rw [div_rest HI1.out, or_join 32 (by omega) (by omega) (by show _ % 4294967296 = 0; omega) hq1a (by exact hq1b) (by omega), rounds_succ]
    go_wp2
    go_meet
    exact ⟨rfl, rfl, hb⟩
 case rest =>
  obtain ⟨rfl, rfl, hb⟩ := hcut
  have hR20 : 0 ≤ ((R * 4294967296 + l0) % B * 4294967296 + l1) % B := Int.emod_nonneg _ (by have := HI.out.B0; omega)
  have hd2 := div_two HI.out Hl0.out Hl1.out
  have hsc := div_scaled (n := a0 * 18446744073709551616 + a1) (b := a2) (64 - L).toNat (by have := of_decide_eq_false g2; omega)
  rw [HN.out, ← hBd] at hd2
  rw [hsc.1] at hd2
  have hQ := Aside0.mk (hd2.1.trans E1.out)
  have hr2 : ((R * 4294967296 + l0) % B * 4294967296 + l1) % B / 2 ^ (64 - L).toNat = r2 := by
   rw [← hBd, hd2.2, hsc.2, E2.out]
  have hR2 := Aside0.mk hr2
  rw [hBd] at hQ
  generalize ((R * 4294967296 + l0) % B * 4294967296 + l1) % B = R2 at *
  generalize (R * 4294967296 + l0) / B * 4294967296 + ((R * 4294967296 + l0) % B * 4294967296 + l1) / B = Q at *
  clear hd2 hsc hr2
  go_wp2
  go_quiet (fail)
  go_wp2
  go_ret3
  exact ⟨by rw [hQ.out, hR2.out]; rfl, pw_below_drewN hb.out _⟩

end Go.Proofs.YtoefabmlkbhmpaaDoor.PA

namespace Go.Proofs.YtoefabmlkbhmpaaDoor.PA
open Go.RowKit Go.Proofs.YtoefabmlkbhmpaaDoorW.PrintWords Go.Proofs.YtoefabmlkbhmpaaDoorW.PrintLast Go.Proofs.YtoefabmlkbhmpaaDoorW.PrintMore
attribute [local go_sem] max2_int min2_int max_two min_two max_three min_three max_four min_four   -- for this text's walks alone
set_option linter.unusedVariables false
set_option linter.unusedSimpArgs false

/-! ### wide_Mul: function 60 (by hand) -/
def wide_Mul.f (a0 : Int) (a1 : Int) : Option (Int × Int) := if u64B a0 = true then (if u64B a1 = true then some (a0 * a1 / 18446744073709551616, a0 * a1 % 18446744073709551616) else none) else none
theorem mul_sum {p o c : Int} (hp : 0 ≤ p ∧ p ≤ 18446744065119617025) (ho0 : 0 ≤ o) (ho : o < 4294967296) (hc0 : 0 ≤ c) (hc : c < 4294967296) :
  IntKind.u64.wrap (IntKind.u64.wrap (IntKind.u64.wrap p + o) + c) = p + o + c := by simp only [u64w]; omega
theorem mul_sum1 {p c : Int} (hp : 0 ≤ p ∧ p ≤ 18446744065119617025) (hc0 : 0 ≤ c) (hc : c < 4294967296) :
  IntKind.u64.wrap (IntKind.u64.wrap (IntKind.u64.wrap p) + c) = p + c := by simp only [u64w]; omega
theorem mul_sum2 {p o : Int} (hp : 0 ≤ p ∧ p ≤ 18446744065119617025) (ho0 : 0 ≤ o) (ho : o < 4294967296) :
  IntKind.u64.wrap (IntKind.u64.wrap (IntKind.u64.wrap p + o)) = p + o := by simp only [u64w]; omega
theorem mul_sum0 {p : Int} (hp : 0 ≤ p ∧ p ≤ 18446744065119617025) :
  IntKind.u64.wrap (IntKind.u64.wrap (IntKind.u64.wrap p)) = p := by simp only [u64w]; omega
/-- the product by halves, as the code makes it -/
theorem mul_halves {a b x0 x1 y0 y1 t1 t2 t3 t4 : Int} (ha0 : 0 ≤ a) (ha : a < 18446744073709551616) (hb0 : 0 ≤ b) (hb : b < 18446744073709551616)
  (hx0 : x0 = Go.bits .and .u64 a 4294967295) (hx1 : x1 = a / 4294967296) (hy0 : y0 = Go.bits .and .u64 b 4294967295) (hy1 : y1 = b / 4294967296)
  (h1 : t1 = IntKind.u64.wrap (IntKind.u64.wrap (IntKind.u64.wrap (x0 * y0)))) (h2 : t2 = IntKind.u64.wrap (IntKind.u64.wrap (IntKind.u64.wrap (x0 * y1)) + t1 / 4294967296))
  (h3 : t3 = IntKind.u64.wrap (IntKind.u64.wrap (IntKind.u64.wrap (x1 * y0) + Go.bits .and .u64 t2 4294967295))) (h4 : t4 = IntKind.u64.wrap (IntKind.u64.wrap (IntKind.u64.wrap (x1 * y1) + t2 / 4294967296) + t3 / 4294967296)) :
  Go.bits .or .u64 (IntKind.u64.wrap (t4 / 4294967296 * 4294967296)) (Go.bits .and .u64 t4 4294967295) = a * b / 18446744073709551616 ∧
  Go.bits .or .u64 (IntKind.u64.wrap (Go.bits .and .u64 t3 4294967295 * 4294967296)) (Go.bits .and .u64 t1 4294967295) = a * b % 18446744073709551616 := by
 rw [and_half ha0 ha] at hx0
 rw [and_half hb0 hb] at hy0
 have p00 := mul_half (x := x0) (y := y0) (by omega) (by omega) (by omega) (by omega)
 have p01 := mul_half (x := x0) (y := y1) (by omega) (by omega) (by omega) (by omega)
 have p10 := mul_half (x := x1) (y := y0) (by omega) (by omega) (by omega) (by omega)
 have p11 := mul_half (x := x1) (y := y1) (by omega) (by omega) (by omega) (by omega)
 have e : a * b = x0 * y0 + 4294967296 * (x0 * y1 + x1 * y0) + 18446744073709551616 * (x1 * y1) := by
  have ea : a = x0 + 4294967296 * x1 := by omega
  have eb : b = y0 + 4294967296 * y1 := by omega
  rw [ea, eb]; grind
 rw [e]
 generalize x0 * y0 = p at *
 generalize x0 * y1 = q at *
 generalize x1 * y0 = r at *
 generalize x1 * y1 = s at *
 rw [mul_sum0 p00] at h1
 rw [mul_sum1 p01 (by omega) (by omega)] at h2
 rw [and_half (by omega) (by omega), mul_sum2 p10 (by omega) (by omega)] at h3
 rw [mul_sum p11 (by omega) (by omega) (by omega) (by omega)] at h4
 rw [and_half (x := t4) (by omega) (by omega), and_half (x := t3) (by omega) (by omega), and_half (x := t1) (by omega) (by omega), join_half (by omega) (by omega) (by omega) (by omega), join_half (by omega) (by omega) (by omega) (by omega)]
 omega
/-- what stands behind the loops: the four halves -/
def MulOut (w W : World) (r1 r2 : Int) : Prop := ∃ o0 o1 o2 o3 : Int, (W.cell? ⟨w.heap.size + 1 + 1, 0, none⟩ = some (.int .u64 o0) ∧ W.cell? ⟨w.heap.size + 1 + 1, 1, none⟩ = some (.int .u64 o1) ∧ W.cell? ⟨w.heap.size + 1 + 1, 2, none⟩ = some (.int .u64 o2) ∧ W.cell? ⟨w.heap.size + 1 + 1, 3, none⟩ = some (.int .u64 o3)) ∧ (r1 = Go.bits .or .u64 (IntKind.u64.wrap (o3 * 4294967296)) o2 ∧ r2 = Go.bits .or .u64 (IntKind.u64.wrap (o1 * 4294967296)) o0) ∧ Below w.heap.size w W
theorem MulOut.mk {w W : World} {r1 r2 o0 o1 o2 o3 : Int} (h : ∃ (t : TypeId) (cs : Array Value), W.heap[w.heap.size + 1 + 1]? = some (.cells cs t (0, 0)) ∧ cs.toList = [.int .u64 o0, .int .u64 o1, .int .u64 o2, .int .u64 o3]) (h1 : r1 = Go.bits .or .u64 (IntKind.u64.wrap (o3 * 4294967296)) o2) (h2 : r2 = Go.bits .or .u64 (IntKind.u64.wrap (o1 * 4294967296)) o0) (hb : Below w.heap.size w W) : MulOut w W r1 r2 := by
 obtain ⟨t, cs, hc, hl⟩ := h
 obtain rfl : cs = #[.int .u64 o0, .int .u64 o1, .int .u64 o2, .int .u64 o3] := by cases cs; simp_all
 exact ⟨o0, o1, o2, o3, ⟨blk_cell hc 0, blk_cell hc 1, blk_cell hc 2, blk_cell hc 3⟩, ⟨h1, h2⟩, hb⟩
set_option maxHeartbeats 4000000 in
theorem wide_Mul.calls (a0 : Int) (a1 : Int) (r1 : Int) (r2 : Int) (w : World) (h : wide_Mul.f a0 a1 = some (r1, r2)) :
  Calls Tryd.prog 60 #[.int .u64 a0, .int .u64 a1] w fun e w' => e = .returned (.tuple #[.int .u64 r1, .int .u64 r2]) ∧ Below w.heap.size w w' := by
 unfold wide_Mul.f at h
 split at h
 case isFalse => cases h
 rename_i h0
 split at h
 case isFalse => cases h
 rename_i h1
 rw [u64B_iff] at h0 h1
 injection h with h
 injection h with e1 e2
 have E1 := Aside0.mk e1
 have E2 := Aside0.mk e2
 clear e1 e2
 obtain ⟨h0a, h0b⟩ := h0
 obtain ⟨h1a, h1b⟩ := h1
 go_enter Tryd.func60, Tryd.ntmps60
 go_upto_block 0 with (fail)
 generalize hx0 : Go.bits BinOp.and IntKind.u64 a0 4294967295 = x0
 generalize hx1 : a0 / 4294967296 = x1
 generalize hy0 : Go.bits BinOp.and IntKind.u64 a1 4294967295 = y0
 generalize hy1 : a1 / 4294967296 = y1
 have X0 := Aside0.mk hx0.symm; have X1 := Aside0.mk hx1.symm; have Y0 := Aside0.mk hy0.symm; have Y1 := Aside0.mk hy1.symm
 clear hx0 hx1 hy0 hy1
 go_cut [8] (fun v8 wx => v8 = .pointer (some ⟨w.heap.size + 1 + 1, 0, none⟩) ∧ MulOut w wx r1 r2)
 case first =>
  go_wp2
  refine wp_loop_rounds 3 ?_
  rw [rounds_succ]
  go_wp2
  refine wp_loop_rounds 3 ?_
  rw [rounds_succ]
  go_wp2
  go_quiet (fail)
  go_wp2
  generalize ht1 : IntKind.u64.wrap (IntKind.u64.wrap (IntKind.u64.wrap (x0 * y0))) = t1
  have T1 := Aside0.mk ht1.symm
  clear ht1
  rw [rounds_succ]
  go_wp2
  go_quiet (fail)
  go_wp2
  generalize ht2 : IntKind.u64.wrap (IntKind.u64.wrap (IntKind.u64.wrap (x0 * y1)) + t1 / 4294967296) = t2
  have T2 := Aside0.mk ht2.symm
  clear ht2
  rw [rounds_succ]
  go_wp2
  rw [rounds_succ]
  go_wp2
  refine wp_loop_rounds 3 ?_
  rw [rounds_succ]
  go_wp2
  go_quiet (fail)
  go_wp2
  generalize ht3 : IntKind.u64.wrap (IntKind.u64.wrap (IntKind.u64.wrap (x1 * y0) + Go.bits BinOp.and IntKind.u64 t2 4294967295)) = t3
  have T3 := Aside0.mk ht3.symm
  clear ht3
  rw [rounds_succ]
  go_wp2
  go_quiet (fail)
  go_wp2
  generalize ht4 : IntKind.u64.wrap (IntKind.u64.wrap (IntKind.u64.wrap (x1 * y1) + t2 / 4294967296) + t3 / 4294967296) = t4
  have T4 := Aside0.mk ht4.symm
  clear ht4
  rw [rounds_succ]
  go_wp2
  rw [rounds_succ]
  go_wp2
  go_meet
  go_light
  have hm := mul_halves h0a h0b h1a h1b X0.out X1.out Y0.out Y1.out T1.out T2.out T3.out T4.out
  refine ⟨rfl, MulOut.mk ?h (E1.out.symm.trans hm.1.symm) (E2.out.symm.trans hm.2.symm) ?_⟩
  case h =>
   apply Exists.intro
   apply Exists.intro
   apply And.intro
   ·repeat (first | (with_reducible apply blk_drewN) | (with_reducible apply blk_set))
    exact blk_new' _ _ (by simp)
   ·simp only [Array.toList_setIfInBounds, List.set_cons_zero, List.set_cons_succ]
  ·repeat (first | (with_reducible exact Below.refl _ _) | (with_reducible apply pw_below_drewN) | (with_reducible apply below_alloc) | (with_reducible refine below_set ?_ (by omega)))
 case rest =>
  obtain ⟨rfl, o0, o1, o2, o3, ⟨hc0, hc1, hc2, hc3⟩, hr, hb⟩ := hcut
  have hr' := Aside0.mk hr; have hb' := Aside0.mk hb
  clear E1 E2 X0 X1 Y0 Y1 hr hb
  go_wp2
  go_quiet (fail)
  go_wp2
  go_ret2
  refine ⟨?_, by repeat (first | exact hb'.out | (with_reducible apply pw_below_drewN) | (with_reducible apply below_drew1))⟩
  rw [hr'.out.1, hr'.out.2]; rfl

/-! ### wide_Add: function 61 -/
def wide_Add.f (a0 : Int) (a1 : Int) (a2 : Int) : Option (Int × Int) := if (IntKind.u64.wrap (a0 + a1)) < a0 then (some (IntKind.u64.wrap ((IntKind.u64.wrap (a0 + a1)) + (Go.bits .and .u64 a2 1)), 1)) else (if (IntKind.u64.wrap ((IntKind.u64.wrap (a0 + a1)) + (Go.bits .and .u64 a2 1))) < (IntKind.u64.wrap (a0 + a1)) then (some (IntKind.u64.wrap ((IntKind.u64.wrap (a0 + a1)) + (Go.bits .and .u64 a2 1)), 1)) else (some (IntKind.u64.wrap ((IntKind.u64.wrap (a0 + a1)) + (Go.bits .and .u64 a2 1)), 0)))
set_option maxHeartbeats 8000000 in
set_option maxRecDepth 100000 in
theorem wide_Add.calls (a0 : Int) (a1 : Int) (a2 : Int) (r1 : Int) (r2 : Int) (w : World) (h : wide_Add.f a0 a1 a2 = some (r1, r2)) :
  Calls Tryd.prog 61 #[.int .u64 a0, .int .u64 a1, .int .u64 a2] w fun e w' => e = .returned (.tuple #[.int .u64 r1, .int .u64 r2]) ∧ Drawn0 w w' := by
 have H : (if (IntKind.u64.wrap (a0 + a1)) < a0 then (some (IntKind.u64.wrap ((IntKind.u64.wrap (a0 + a1)) + (Go.bits .and .u64 a2 1)), 1)) else (if (IntKind.u64.wrap ((IntKind.u64.wrap (a0 + a1)) + (Go.bits .and .u64 a2 1))) < (IntKind.u64.wrap (a0 + a1)) then (some (IntKind.u64.wrap ((IntKind.u64.wrap (a0 + a1)) + (Go.bits .and .u64 a2 1)), 1)) else (some (IntKind.u64.wrap ((IntKind.u64.wrap (a0 + a1)) + (Go.bits .and .u64 a2 1)), 0)))) = some (r1, r2) := h
 clear h
 by_cases c4 : (IntKind.u64.wrap (a0 + a1)) < a0
 ·rw [if_pos c4] at H
  have c4b0 : decide ((IntKind.u64.wrap (a0 + a1)) < a0) = true := decide_eq_true c4
  clear c4
  simp only [Option.some.injEq, Prod.mk.injEq] at H
  obtain ⟨rfl, rfl⟩ := H
  go_enter Tryd.func61, Tryd.ntmps61
  go_wp2
  go_ret2
  exact ⟨by first | rfl | (simp; done) | (simp [*]; done), by repeat (first | exact Drawn0.refl _ | apply Drawn0.step)⟩
 ·rw [if_neg c4] at H
  have c4b0 : decide ((IntKind.u64.wrap (a0 + a1)) < a0) = false := decide_eq_false c4
  clear c4
  by_cases c5 : (IntKind.u64.wrap ((IntKind.u64.wrap (a0 + a1)) + (Go.bits .and .u64 a2 1))) < (IntKind.u64.wrap (a0 + a1))
  ·rw [if_pos c5] at H
   have c5b0 : decide ((IntKind.u64.wrap ((IntKind.u64.wrap (a0 + a1)) + (Go.bits .and .u64 a2 1))) < (IntKind.u64.wrap (a0 + a1))) = true := decide_eq_true c5
   clear c5
   simp only [Option.some.injEq, Prod.mk.injEq] at H
   obtain ⟨rfl, rfl⟩ := H
   go_enter Tryd.func61, Tryd.ntmps61
   go_wp2
   go_ret2
   exact ⟨by first | rfl | (simp; done) | (simp [*]; done), by repeat (first | exact Drawn0.refl _ | apply Drawn0.step)⟩
  ·rw [if_neg c5] at H
   have c5b0 : decide ((IntKind.u64.wrap ((IntKind.u64.wrap (a0 + a1)) + (Go.bits .and .u64 a2 1))) < (IntKind.u64.wrap (a0 + a1))) = false := decide_eq_false c5
   clear c5
   simp only [Option.some.injEq, Prod.mk.injEq] at H
   obtain ⟨rfl, rfl⟩ := H
   go_enter Tryd.func61, Tryd.ntmps61
   go_wp2
   go_ret2
   exact ⟨by first | rfl | (simp; done) | (simp [*]; done), by repeat (first | exact Drawn0.refl _ | apply Drawn0.step)⟩

-- what is known of it
theorem and_one {c : Int} (h0 : 0 ≤ c) (h1 : c < 18446744073709551616) : Go.bits .and .u64 c 1 = c % 2 := and_mask h0 h1 1 (by omega) _ rfl
theorem wide_Add.f_eq {a b c : Int} (ha0 : 0 ≤ a) (ha : a < 18446744073709551616) (hb0 : 0 ≤ b) (hb : b < 18446744073709551616) (hc0 : 0 ≤ c) (hc : c ≤ 1) :
  wide_Add.f a b c = some ((a + b + c) % 18446744073709551616, (a + b + c) / 18446744073709551616) := by
 unfold wide_Add.f
 rw [and_one hc0 (by omega)]
 simp only [u64w]
 split
 ·congr 2 <;> omega
 ·split <;> (congr 2 <;> omega)

end Go.Proofs.YtoefabmlkbhmpaaDoor.PA
