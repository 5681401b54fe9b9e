/- A part of the proof (9). -/
import Derived.Test.YtoefabmlkbhmpaaDoorSQ2
import Derived.Test.YtoefabmlkbhmpaaDoorSQ3
import Derived.Test.YtoefabmlkbhmpaaDoorSQ5
import Derived.Test.YtoefabmlkbhmpaaDoorSQ8
namespace Go.Proofs.YtoefabmlkbhmpaaDoor.PA
open Go.RowKit Go.Proofs.YtoefabmlkbhmpaaDoorW.PrintWords Go.Proofs.YtoefabmlkbhmpaaDoorW.PrintLast Go.Proofs.YtoefabmlkbhmpaaDoorW.PrintMore
attribute [local go_sem] max2_int min2_int max_two min_two max_three min_three max_four min_four   -- for this text's walks alone
set_option linter.unusedVariables false
set_option linter.unusedSimpArgs false

/-! ### plumblaw07_NearQuotients: function 4 -/
mutual
def plumblaw07_NearQuotients.l0 : Nat → Int → List Int → List Int → Int → Bool → List Int → List Int → Option (Bool)
 | 0, _, _, _, _, _, _, _ => none
 | k + 1, x1, x5, x6, x7, x342000, x342001, x342002 => if x7 ≤ 5 then (if x7 = 5 then (plumblaw07_NearQuotients.j1 k x1 x5 x6 x7 x1 x342000 x342001 x342002) else (plumblaw07_NearQuotients.j1 k x1 x5 x6 x7 x7 x342000 x342001 x342002)) else (plumblaw07_NearQuotients.l1 k x5 x6 0 x342000 x342001 x342002)
def plumblaw07_NearQuotients.j1 : Nat → Int → List Int → List Int → Int → Int → Bool → List Int → List Int → Option (Bool)
 | 0, _, _, _, _, _, _, _, _ => none
 | k + 1, x1, x5, x6, x7, x8, x342000, x342001, x342002 => if 0 ≤ (x342001.length : Int) then (if (x342001.length : Int) ≤ (x5.length : Int) then (if 0 ≤ (x342002.length : Int) then (if (x342002.length : Int) ≤ (x6.length : Int) then ((near_Quotient.f k x342000 (x5.take ((x342001.length : Int) : Int).toNat) (x6.take ((x342002.length : Int) : Int).toNat) x8).bind fun bt356 => ((plumbref07_Quotient.f k x342000 x342001 x342002 x8).bind fun bt358 => (if bt356.1 = bt358.1 then ((plumblaw07_num.f bt356.2).bind fun t360 => (if t360 = bt358.2 then ((plumblaw07_kept.f k x5 x342001).bind fun t361 => (if t361 = true then ((plumblaw07_kept.f k x6 x342002).bind fun t362 => (if t362 = true then (plumblaw07_NearQuotients.l0 k x1 x5 x6 (wrap64 (x7 + 1)) x342000 x342001 x342002) else (some false))) else (some false))) else (some false))) else (some false)))) else (none)) else (none)) else (none)) else (none)
def plumblaw07_NearQuotients.l1 : Nat → List Int → List Int → Int → Bool → List Int → List Int → Option (Bool)
 | 0, _, _, _, _, _, _ => none
 | k + 1, x5, x6, x13, x342000, x342001, x342002 => if x13 < (x342001.length : Int) then (if 0 ≤ x13 then (if x13 < (x5.length : Int) then (plumblaw07_NearQuotients.l1 k (x5.set (x13 : Int).toNat (Go.bits .xor .u64 18446744073709551615 (rd x5 x13))) x6 (wrap64 (x13 + 1)) x342000 x342001 x342002) else (none)) else (none)) else (if 0 ≤ (x342001.length : Int) then (if (x342001.length : Int) ≤ (x5.length : Int) then (if 0 ≤ (x342002.length : Int) then (if (x342002.length : Int) ≤ (x6.length : Int) then ((near_Quotient.f k x342000 (x5.take ((x342001.length : Int) : Int).toNat) (x6.take ((x342002.length : Int) : Int).toNat) 0).bind fun bt373 => ((some (([] : List Int) : List Int)).bind fun y375 => ((some (x5.take ((x342001.length : Int) : Int).toNat : List Int)).bind fun y378 => (if y375.length + y378.length < 17592186044416 then ((plumbref07_Quotient.f k x342000 (y375 ++ y378) x342002 0).bind fun bt385 => (if bt373.1 = bt385.1 then ((plumblaw07_num.f bt373.2).bind fun t387 => (some (t387 == bt385.2))) else (some false))) else (none))))) else (none)) else (none)) else (none)) else (none))
end
def plumblaw07_NearQuotients.f (k : Nat) (a0_0 : Bool) (l0_1 : List Int) (l0_2 : List Int) (a1 : Int) : Option (Bool) := (plumblaw07_lent.f l0_1).bind fun t342 => ((plumblaw07_lent.f l0_2).bind fun t345 => (plumblaw07_NearQuotients.l0 k a1 t342 t345 0 a0_0 l0_1 l0_2))
def plumblaw07_NearQuotients.T9 : Bool × List (List Nat × List Nat) := (true, [([], []), ([0], [0]), ([], []), ([], []), ([3], [3]), ([4], [4]), ([2, 5], [2, 5]), ([], []), ([], []), ([8], [8]), ([9], [9]), ([7, 10], [7, 10]), ([], []), ([1, 6, 11, 12], [1, 6, 11, 12]), ([13], [13]), ([14], [14]), ([14], [14]), ([15, 13, 0, 1, 2, 3, 4, 5, 6, 7, 8, 9, 10, 11, 12, 13, 14, 15], [15]), ([16, 17, 0, 1, 2, 3, 4, 5, 6, 7, 8, 9, 10, 11, 12, 13, 14, 15, 16, 17], [16])])
def plumblaw07_NearQuotients.B9 : List Nat := [0, 1, 0, 0, 8, 24, 60, 0, 0, 256, 768, 1920, 0, 8191, 16383, 32767, 32767, 65535, 262143]
theorem plumblaw07_NearQuotients.tab9 : rtab .any (opsOf Tryd.f4 9) = plumblaw07_NearQuotients.T9 := by kernel_rfl
theorem plumblaw07_NearQuotients.bits9 : waitsOk plumblaw07_NearQuotients.T9.2 plumblaw07_NearQuotients.B9 = true := by kernel_rfl
def plumblaw07_NearQuotients.T17 : Bool × List (List Nat × List Nat) := (true, [([], []), ([0], [0]), ([], []), ([], []), ([3], [3]), ([4], [4]), ([2, 5], [2, 5]), ([], []), ([], []), ([8], [8]), ([9], [9]), ([7, 10], [7, 10]), ([1, 6, 11], [1, 6, 11]), ([12], [12]), ([13], [13]), ([13], [13]), ([14, 12, 0, 1, 2, 3, 4, 5, 6, 7, 8, 9, 10, 11, 12, 13, 14], [14]), ([15, 16, 0, 1, 2, 3, 4, 5, 6, 7, 8, 9, 10, 11, 12, 13, 14, 15, 16], [15])])
def plumblaw07_NearQuotients.B17 : List Nat := [0, 1, 0, 0, 8, 24, 60, 0, 0, 256, 768, 1920, 4095, 8191, 16383, 16383, 32767, 131071]
theorem plumblaw07_NearQuotients.tab17 : rtab .any (opsOf Tryd.f4 17) = plumblaw07_NearQuotients.T17 := by kernel_rfl
theorem plumblaw07_NearQuotients.bits17 : waitsOk plumblaw07_NearQuotients.T17.2 plumblaw07_NearQuotients.B17 = true := by kernel_rfl
def plumblaw07_NearQuotients.T18 : Bool × List (List Nat × List Nat) := (true, [([], []), ([0], [0]), ([], []), ([], []), ([], []), ([4], [4]), ([5], [5]), ([3, 6], [3, 6]), ([2, 7], [2, 7]), ([], []), ([9], [9]), ([1, 8, 10, 8], [1, 8, 10]), ([11], [11]), ([12], [12]), ([12], [12]), ([13, 11, 0, 1, 2, 3, 4, 5, 6, 7, 8, 9, 10, 11, 12, 13], [13]), ([14, 15, 0, 1, 2, 3, 4, 5, 6, 7, 8, 9, 10, 11, 12, 13, 14, 15], [14])])
def plumblaw07_NearQuotients.B18 : List Nat := [0, 1, 0, 0, 0, 16, 48, 120, 252, 0, 512, 2047, 4095, 8191, 8191, 16383, 65535]
theorem plumblaw07_NearQuotients.tab18 : rtab .any (opsOf Tryd.f4 18) = plumblaw07_NearQuotients.T18 := by kernel_rfl
theorem plumblaw07_NearQuotients.bits18 : waitsOk plumblaw07_NearQuotients.T18.2 plumblaw07_NearQuotients.B18 = true := by kernel_rfl
set_option maxHeartbeats 8000000 in
set_option maxRecDepth 100000 in
theorem plumblaw07_NearQuotients.calls (k : Nat) (a0_0 : Bool) (A0_1 : Option Addr) (c0_1 : Nat) (l0_1 : List Int) (A0_2 : Option Addr) (c0_2 : Nat) (l0_2 : List Int) (a1 : Int) (r : Bool) (w : World) (hr0_1 : Kd.C (Kd.int .u64) w A0_1 l0_1.length l0_1) (hc0_1 : l0_1.length ≤ c0_1) (hr0_2 : Kd.C (Kd.int .u64) w A0_2 l0_2.length l0_2) (hc0_2 : l0_2.length ≤ c0_2) (h : plumblaw07_NearQuotients.f k a0_0 l0_1 l0_2 a1 = some r) (hS : StaysLaid w := by first | exact HS.out | exact hS | exact StaysLaid.below HS.out HB.out | exact StaysLaid.below HS.out dB) :
  Calls Tryd.prog 4 #[.agg #[.bool a0_0, .slice A0_1 l0_1.length c0_1, .slice A0_2 l0_2.length c0_2], .int .i64 a1] w fun e w' => e = .returned (.bool r) ∧ Below w.heap.size w w' := by
 have HS := Aside0.mk (show StaysLaid w from hS)
 clear hS
 have hu36 := Tryd.underlying36
 have HR0_1 := Aside0.mk hr0_1
 have HC0_1 := Aside0.mk hc0_1
 clear hr0_1 hc0_1
 have HR0_2 := Aside0.mk hr0_2
 have HC0_2 := Aside0.mk hc0_2
 clear hr0_2 hc0_2
 have HB := Aside0.mk (Below.refl w.heap.size w)
 have H : ((plumblaw07_lent.f l0_1).bind fun t342 => ((plumblaw07_lent.f l0_2).bind fun t345 => (plumblaw07_NearQuotients.l0 k a1 t342 t345 0 a0_0 l0_1 l0_2))) = some r := h
 clear h
 replace H := obe H
 obtain ⟨t342, A30, H⟩ := H
 replace H : ((plumblaw07_lent.f l0_2).bind fun t345 => (plumblaw07_NearQuotients.l0 k a1 t342 t345 0 a0_0 l0_1 l0_2)) = some r := H
 have A3 := Aside0.mk A30
 clear A30
 replace H := obe H
 obtain ⟨t345, A40, H⟩ := H
 replace H : (plumblaw07_NearQuotients.l0 k a1 t342 t345 0 a0_0 l0_1 l0_2) = some r := H
 have A4 := Aside0.mk A40
 clear A40
 have H' := Aside0.mk H
 clear H
 go_enter Tryd.func4, Tryd.ntmps4
 go_wp2_with (first | ((with_reducible refine gate_dst (N := 2) rfl ?_); refine box_event ?hg (N := 2) ?hd (cs := #[.bool a0_0, .slice A0_1 l0_1.length c0_1, .slice A0_2 l0_2.length c0_2]) (t := 36) ?hr ?_; (case hd => rfl); (case hg => rfl); (case hr => first | (go_simp; done) | (go_simp; rfl)); intro gb341 hg w5 hbox hb; have BK341 := Aside0.mk (hbox); have GW341 := Aside0.mk ((by rw [hg]; exact (below_size dB) : w.heap.size ≤ gb341)); have GE341 := Aside0.mk ((by rw [hg]; exact (below_size dB) : w.heap.size ≤ gb341)); replace HB := Aside0.mk (below_step dB hb); clear hb hbox hg; have hcz6_0 : w5.cell? ⟨gb341, 0, none⟩ = some (.bool a0_0) := (blk_cell BK341.out 0).trans rfl; have hcz6_1 : w5.cell? ⟨gb341, 1, none⟩ = some (.slice A0_1 l0_1.length c0_1) := (blk_cell BK341.out 1).trans rfl; have hcz6_2 : w5.cell? ⟨gb341, 2, none⟩ = some (.slice A0_2 l0_2.length c0_2) := (blk_cell BK341.out 2).trans rfl; have hfz6_0 := blk_frozen BK341.out 0; have hfz6_1 := blk_frozen BK341.out 1; have hfz6_2 := blk_frozen BK341.out 2) | ((with_reducible refine gate_callee (f := 12) rfl ?_); refine gL (some 20) Tryd.func12 #[.slice A0_1 l0_1.length c0_1] ?_; (with_reducible refine (plumblaw07_lent.calls _ _ l0_1 t342 _ ?side1 ?side2 A3.out).mono ?_); (case side1 => exact dC (Kd.C_below HR0_1.out HB.out)); (case side2 => exact HC0_1.out); rintro e w7 ⟨v343, rfl, ho0, hb⟩; refine ⟨_, rfl, ?_⟩; have HO344 := Aside0.mk (Kd.R_lower ho0 (below_size (dG GE341.out))); replace BK341 := Aside0.mk (blk_below (g := gb341) (o := .cells #[.bool a0_0, .slice A0_1 l0_1.length c0_1, .slice A0_2 l0_2.length c0_2] 36 (0, 0)) (dK BK341.out) hb); replace HB := Aside0.mk (below_step (dG GE341.out) hb); (try clear hb); (try clear ho0); have hcz8_0 : w7.cell? ⟨gb341, 0, none⟩ = some (.bool a0_0) := (blk_cell BK341.out 0).trans rfl; have hcz8_1 : w7.cell? ⟨gb341, 1, none⟩ = some (.slice A0_1 l0_1.length c0_1) := (blk_cell BK341.out 1).trans rfl; have hcz8_2 : w7.cell? ⟨gb341, 2, none⟩ = some (.slice A0_2 l0_2.length c0_2) := (blk_cell BK341.out 2).trans rfl; have hfz8_0 := blk_frozen BK341.out 0; have hfz8_1 := blk_frozen BK341.out 1; have hfz8_2 := blk_frozen BK341.out 2) | ((with_reducible refine gate_callee (f := 12) rfl ?_); refine gL (some 23) Tryd.func12 #[.slice A0_2 l0_2.length c0_2] ?_; (with_reducible refine (plumblaw07_lent.calls _ _ l0_2 t345 _ ?side1 ?side2 A4.out).mono ?_); (case side1 => exact dC (Kd.C_below HR0_2.out HB.out)); (case side2 => exact HC0_2.out); rintro e w9 ⟨v346, rfl, ho0, hb⟩; refine ⟨_, rfl, ?_⟩; have HO347 := Aside0.mk (Kd.R_lower (Kd.R_new' ho0 (Kd.R_lt (dR HO344.out))) (below_size (dG GE341.out))); replace HO344 := Aside0.mk (Kd.R_elder' (dR HO344.out) (Kd.R_base ho0) hb); replace BK341 := Aside0.mk (blk_below (g := gb341) (o := .cells #[.bool a0_0, .slice A0_1 l0_1.length c0_1, .slice A0_2 l0_2.length c0_2] 36 (0, 0)) (dK BK341.out) hb); replace HB := Aside0.mk (below_step (dG GE341.out) hb); (try clear hb); (try clear ho0)))
 go_loopg [7] k (fun kq v7 w' => ∃ (x7_1 : Int), v7 = .int .i64 x7_1 ∧ Aside0 (plumblaw07_NearQuotients.l0 kq a1 t342 t345 x7_1 a0_0 l0_1 l0_2 = some r) ∧ Aside0 (kq ≤ k) ∧ Aside0 (Kd.R (Kd.int .u64) 26 w' w.heap.size (fun k_ => some k_ ≠ (v346 : Value).ownBlock) v343 t342) ∧ Aside0 (Kd.R (Kd.int .u64) 26 w' w.heap.size (fun k_ => some k_ ≠ (v343 : Value).ownBlock) v346 t345) ∧ Aside0 (w'.heap[gb341]? = some (.cells #[.bool a0_0, (.slice A0_1 l0_1.length c0_1), (.slice A0_2 l0_2.length c0_2)] 36 (0, 0))) ∧ Aside0 (Below w.heap.size w w'))
 case atStart => exact ⟨(0), dF, H', ⟨Nat.le_refl _⟩, ⟨by (with_reducible repeat (first | apply Kd.R_alloc | apply Kd.R_drewN | apply Kd.R_drew)); exact Kd.R_mono HO344.out (fun _ hk => hk.2)⟩, ⟨by (with_reducible repeat (first | apply Kd.R_alloc | apply Kd.R_drewN | apply Kd.R_drew)); exact Kd.R_mono HO347.out (fun _ hk => hk.2)⟩, ⟨dK BK341.out⟩, ⟨dG GE341.out⟩⟩
 case round =>
  clear H'
  try clear c1
  try clear p2
  try clear c4
  try clear hcz6_0
  try clear hcz6_1
  try clear hcz6_2
  try clear hcz8_0
  try clear hcz8_1
  try clear hcz8_2
  try clear hfz6_0
  try clear hfz6_1
  try clear hfz6_2
  try clear hfz8_0
  try clear hfz8_1
  try clear hfz8_2
  obtain ⟨x7_1, rfl, HA, HK1, HO_5, HO_6, BK341, HB⟩ := hrel
  cases gk with
  | zero => exact absurd HA.out (by simp [plumblaw07_NearQuotients.l0])
  | succ k1 =>
   have H := HA.out
   clear HA
   simp only [plumblaw07_NearQuotients.l0] at H
   by_cases c10 : x7_1 ≤ 5
   ·rw [if_pos c10] at H
    have c10b0 : decide (x7_1 ≤ 5) = true := decide_eq_true c10
    clear c10
    have HC11 := Aside0.mk H
    clear H
    go_upto_if 30 with (fail)
    go_cut [8] (fun v8 wc => ∃ (kq : Nat) (x8_10 : Int), v8 = .int .i64 x8_10 ∧ Aside0 (plumblaw07_NearQuotients.j1 kq a1 t342 t345 x7_1 x8_10 a0_0 l0_1 l0_2 = some r) ∧ Aside0 (kq ≤ k1) ∧ Aside0 (Kd.R (Kd.int .u64) 26 wc w.heap.size (fun k_ => some k_ ≠ (v346 : Value).ownBlock) v343 t342) ∧ Aside0 (Kd.R (Kd.int .u64) 26 wc w.heap.size (fun k_ => some k_ ≠ (v343 : Value).ownBlock) v346 t345) ∧ Aside0 (wc.heap[gb341]? = some (.cells #[.bool a0_0, (.slice A0_1 l0_1.length c0_1), (.slice A0_2 l0_2.length c0_2)] 36 (0, 0))) ∧ Aside0 (Below w.heap.size w wc))
    case first =>
     have H := HC11.out
     clear HC11
     by_cases c12 : x7_1 = 5
     ·rw [if_pos c12] at H
      have c12b0 : (x7_1 == 5) = true := beq_iff_eq.mpr c12
      have c12b1 : (x7_1 != 5) = false := bne_eq_false_iff_eq.mpr c12
      clear c12
      (first | rw [c12b0] | (simp only [i64_w, i32_w]; rw [c12b0]) | skip)
      have H' := Aside0.mk H
      clear H
      go_wp2
      go_meet
      case rel => exact ⟨_, (a1), dF, H', ⟨by have := HK1.out; first | omega | exact Nat.le_refl _⟩, ⟨dR HO_5.out⟩, ⟨dR HO_6.out⟩, ⟨dK BK341.out⟩, ⟨dG GE341.out⟩⟩
     ·rw [if_neg c12] at H
      have c12b0 : (x7_1 == 5) = false := beq_eq_false_iff_ne.mpr c12
      have c12b1 : (x7_1 != 5) = true := bne_iff_ne.mpr c12
      (first | rw [c12b0] | (simp only [i64_w, i32_w]; rw [c12b0]) | skip)
      have H' := Aside0.mk H
      clear H
      go_wp2
      go_meet
      case rel => exact ⟨_, (x7_1), dF, H', ⟨by have := HK1.out; first | omega | exact Nat.le_refl _⟩, ⟨dR HO_5.out⟩, ⟨dR HO_6.out⟩, ⟨dK BK341.out⟩, ⟨dG GE341.out⟩⟩
    case rest =>
     clear HC11
     try clear c1
     try clear p2
     try clear c4
     try clear c10
     try clear c10b0
     try clear c12
     try clear c12b0
     try clear c12b1
     try clear hcz6_0
     try clear hcz6_1
     try clear hcz6_2
     try clear hcz8_0
     try clear hcz8_1
     try clear hcz8_2
     try clear hfz6_0
     try clear hfz6_1
     try clear hfz6_2
     try clear hfz8_0
     try clear hfz8_1
     try clear hfz8_2
     try clear p2
     obtain ⟨kq, x8_10, rfl, HA, HJ10, HO_5, HO_6, BK341, HB⟩ := hcut
     cases kq with
     | zero => exact absurd HA.out (by simp [plumblaw07_NearQuotients.j1])
     | succ kj10 =>
      have H := HA.out
      clear HA
      simp only [plumblaw07_NearQuotients.j1] at H
      by_cases c13 : (0 : Int) ≤ (l0_1.length : Int)
      ·rw [if_pos c13] at H
       have c13b0 := eq_true c13
       have c13b1 : decide (0 ≤ (l0_1.length : Int)) = true := decide_eq_true c13
       clear c13
       by_cases c14 : (l0_1.length : Int) ≤ (t342.length : Int)
       ·rw [if_pos c14] at H
        have c14b0 := eq_true c14
        have c14b1 : decide ((l0_1.length : Int) ≤ (t342.length : Int)) = true := decide_eq_true c14
        clear c14
        obtain ⟨y348, hy348⟩ : ∃ y_ : List Int, y_ = (t342.take ((l0_1.length : Int) : Int).toNat) := ⟨_, rfl⟩
        replace H : (if 0 ≤ (l0_2.length : Int) then (if (l0_2.length : Int) ≤ (t345.length : Int) then ((near_Quotient.f kj10 a0_0 y348 (t345.take ((l0_2.length : Int) : Int).toNat) x8_10).bind fun bt356 => ((plumbref07_Quotient.f kj10 a0_0 l0_1 l0_2 x8_10).bind fun bt358 => (if bt356.1 = bt358.1 then ((plumblaw07_num.f bt356.2).bind fun t360 => (if t360 = bt358.2 then ((plumblaw07_kept.f kj10 t342 l0_1).bind fun t361 => (if t361 = true then ((plumblaw07_kept.f kj10 t345 l0_2).bind fun t362 => (if t362 = true then (plumblaw07_NearQuotients.l0 kj10 a1 t342 t345 (wrap64 (x7_1 + 1)) a0_0 l0_1 l0_2) else (some false))) else (some false))) else (some false))) else (some false)))) else (none)) else (none)) = some r := by first | (rw [hy348]; with_reducible exact H) | (have H2_ := (Option.bind_some _ _).symm.trans H; rw [hy348]; with_reducible exact H2_) | (have H2_ := (Option.bind_some _ _).symm.trans H; with_reducible exact H2_) | with_reducible exact H | (rw [hy348]; exact H) | exact H
        have Ny348 := Aside0.mk hy348
        clear hy348
        by_cases c15 : (0 : Int) ≤ (l0_2.length : Int)
        ·rw [if_pos c15] at H
         have c15b0 := eq_true c15
         have c15b1 : decide (0 ≤ (l0_2.length : Int)) = true := decide_eq_true c15
         clear c15
         by_cases c16 : (l0_2.length : Int) ≤ (t345.length : Int)
         ·rw [if_pos c16] at H
          have c16b0 := eq_true c16
          have c16b1 : decide ((l0_2.length : Int) ≤ (t345.length : Int)) = true := decide_eq_true c16
          clear c16
          obtain ⟨y352, hy352⟩ : ∃ y_ : List Int, y_ = (t345.take ((l0_2.length : Int) : Int).toNat) := ⟨_, rfl⟩
          replace H : ((near_Quotient.f kj10 a0_0 y348 y352 x8_10).bind fun bt356 => ((plumbref07_Quotient.f kj10 a0_0 l0_1 l0_2 x8_10).bind fun bt358 => (if bt356.1 = bt358.1 then ((plumblaw07_num.f bt356.2).bind fun t360 => (if t360 = bt358.2 then ((plumblaw07_kept.f kj10 t342 l0_1).bind fun t361 => (if t361 = true then ((plumblaw07_kept.f kj10 t345 l0_2).bind fun t362 => (if t362 = true then (plumblaw07_NearQuotients.l0 kj10 a1 t342 t345 (wrap64 (x7_1 + 1)) a0_0 l0_1 l0_2) else (some false))) else (some false))) else (some false))) else (some false)))) = some r := by first | (rw [hy352]; with_reducible exact H) | (have H2_ := (Option.bind_some _ _).symm.trans H; rw [hy352]; with_reducible exact H2_) | (have H2_ := (Option.bind_some _ _).symm.trans H; with_reducible exact H2_) | with_reducible exact H | (rw [hy352]; exact H) | exact H
          have Ny352 := Aside0.mk hy352
          clear hy352
          replace H := obe H
          obtain ⟨⟨t356, t357⟩, A170, H⟩ := H
          replace H : ((plumbref07_Quotient.f kj10 a0_0 l0_1 l0_2 x8_10).bind fun bt358 => (if t356 = bt358.1 then ((plumblaw07_num.f t357).bind fun t360 => (if t360 = bt358.2 then ((plumblaw07_kept.f kj10 t342 l0_1).bind fun t361 => (if t361 = true then ((plumblaw07_kept.f kj10 t345 l0_2).bind fun t362 => (if t362 = true then (plumblaw07_NearQuotients.l0 kj10 a1 t342 t345 (wrap64 (x7_1 + 1)) a0_0 l0_1 l0_2) else (some false))) else (some false))) else (some false))) else (some false))) = some r := H
          have A17 := Aside0.mk A170
          clear A170
          replace H := obe H
          obtain ⟨⟨t358, t359⟩, A180, H⟩ := H
          replace H : (if t356 = t358 then ((plumblaw07_num.f t357).bind fun t360 => (if t360 = t359 then ((plumblaw07_kept.f kj10 t342 l0_1).bind fun t361 => (if t361 = true then ((plumblaw07_kept.f kj10 t345 l0_2).bind fun t362 => (if t362 = true then (plumblaw07_NearQuotients.l0 kj10 a1 t342 t345 (wrap64 (x7_1 + 1)) a0_0 l0_1 l0_2) else (some false))) else (some false))) else (some false))) else (some false)) = some r := H
          have A18 := Aside0.mk A180
          clear A180
          by_cases c19 : t356 = t358
          ·rw [if_pos c19] at H
           have c19b0 : (t356 == t358) = true := beq_iff_eq.mpr c19
           have c19b1 : (t356 != t358) = false := bne_eq_false_iff_eq.mpr c19
           clear c19
           replace H := obe H
           obtain ⟨t360, A200, H⟩ := H
           replace H : (if t360 = t359 then ((plumblaw07_kept.f kj10 t342 l0_1).bind fun t361 => (if t361 = true then ((plumblaw07_kept.f kj10 t345 l0_2).bind fun t362 => (if t362 = true then (plumblaw07_NearQuotients.l0 kj10 a1 t342 t345 (wrap64 (x7_1 + 1)) a0_0 l0_1 l0_2) else (some false))) else (some false))) else (some false)) = some r := H
           have A20 := Aside0.mk A200
           clear A200
           by_cases c21 : t360 = t359
           ·rw [if_pos c21] at H
            have c21b0 : (t360 == t359) = true := beq_iff_eq.mpr c21
            have c21b1 : (t360 != t359) = false := bne_eq_false_iff_eq.mpr c21
            clear c21
            replace H := obe H
            obtain ⟨t361, A220, H⟩ := H
            replace H : (if t361 = true then ((plumblaw07_kept.f kj10 t345 l0_2).bind fun t362 => (if t362 = true then (plumblaw07_NearQuotients.l0 kj10 a1 t342 t345 (wrap64 (x7_1 + 1)) a0_0 l0_1 l0_2) else (some false))) else (some false)) = some r := H
            have A22 := Aside0.mk A220
            clear A220
            by_cases c23 : t361 = true
            ·subst c23
             have H1 : ((plumblaw07_kept.f kj10 t345 l0_2).bind fun t362 => (if t362 = true then (plumblaw07_NearQuotients.l0 kj10 a1 t342 t345 (wrap64 (x7_1 + 1)) a0_0 l0_1 l0_2) else (some false))) = some r := by rw [if_pos rfl] at H; exact H
             clear H
             have H := H1
             clear H1
             replace H := obe H
             obtain ⟨t362, A240, H⟩ := H
             replace H : (if t362 = true then (plumblaw07_NearQuotients.l0 kj10 a1 t342 t345 (wrap64 (x7_1 + 1)) a0_0 l0_1 l0_2) else (some false)) = some r := H
             have A24 := Aside0.mk A240
             clear A240
             by_cases c25 : t362 = true
             ·subst c25
              have H1 : (plumblaw07_NearQuotients.l0 kj10 a1 t342 t345 (wrap64 (x7_1 + 1)) a0_0 l0_1 l0_2) = some r := by rw [if_pos rfl] at H; exact H
              clear H
              have H := H1
              clear H1
              have H' := Aside0.mk H
              clear H
              try go_wp2
              replace HO_5 := Aside0.mk (Kd.R_drew HO_5.out)
              replace HO_6 := Aside0.mk (Kd.R_drew HO_6.out)
              replace BK341 := Aside0.mk (blk_drew BK341.out)
              replace HB := Aside0.mk (below_drew1 HB.out)
              obtain ⟨Ao28, co28, eo28⟩ := Kd.R_slice HO_5.out
              (first | subst eo28 | (injection eo28 with f1_ f2_ f3_; have f4_ := f1_.symm; have f5_ := f3_.symm; clear f1_ f2_ f3_; subst f4_; subst f5_))
              have q27 : ((l0_1.length : Int) : Int) ≤ ((t342.length : Int) : Int) := of_decide_eq_true dS
              obtain ⟨i027, hi027, _, hsz27, _⟩ := info_parts info26
              have hroom27 : t342.length ≤ co28 := (Kd.R_reads' HO_5.out).2.1
              have hC27 : Kd.C (Kd.int .u64) _ Ao28 t342.length t342 := (Kd.R_reads' HO_5.out).2.2
              have hcut27 := cut_to (P := Tryd.prog) 22 26 .i64 Tryd.underlying22 hi027 Ao28 t342.length co28 (l0_1.length : Int) (of_decide_eq_true dS) q27 hroom27
              have hr27 := Kd.C_take (m := ((l0_1.length : Int) : Int).toNat) hC27 (by omega)
              have hy27 : y348.length = ((l0_1.length : Int) : Int).toNat := (by rw [Ny348.out, List.length_take]; omega)
              rw [← Ny348.out] at hr27
              rw [← hy27] at hcut27
              have HR351 := Aside0.mk hr27
              have HC351 := Aside0.mk (show y348.length ≤ co28 from by omega)
              clear hr27 hC27 hroom27 hi027 hsz27
              have KY27 := Aside0.mk hy27
              clear hy27
              have KL27 := Aside0.mk (show ((l0_1.length : Int) : Int).toNat ≤ t342.length from by omega)
              replace q27 := eq_true q27
              obtain ⟨Ao30, co30, eo30⟩ := Kd.R_slice HO_6.out
              (first | subst eo30 | (injection eo30 with f1_ f2_ f3_; have f4_ := f1_.symm; have f5_ := f3_.symm; clear f1_ f2_ f3_; subst f4_; subst f5_))
              have q29 : ((l0_2.length : Int) : Int) ≤ ((t345.length : Int) : Int) := of_decide_eq_true dS
              obtain ⟨i029, hi029, _, hsz29, _⟩ := info_parts info26
              have hroom29 : t345.length ≤ co30 := (Kd.R_reads' HO_6.out).2.1
              have hC29 : Kd.C (Kd.int .u64) _ Ao30 t345.length t345 := (Kd.R_reads' HO_6.out).2.2
              have hcut29 := cut_to (P := Tryd.prog) 22 26 .i64 Tryd.underlying22 hi029 Ao30 t345.length co30 (l0_2.length : Int) (of_decide_eq_true dS) q29 hroom29
              have hr29 := Kd.C_take (m := ((l0_2.length : Int) : Int).toNat) hC29 (by omega)
              have hy29 : y352.length = ((l0_2.length : Int) : Int).toNat := (by rw [Ny352.out, List.length_take]; omega)
              rw [← Ny352.out] at hr29
              rw [← hy29] at hcut29
              have HR355 := Aside0.mk hr29
              have HC355 := Aside0.mk (show y352.length ≤ co30 from by omega)
              clear hr29 hC29 hroom29 hi029 hsz29
              have KY29 := Aside0.mk hy29
              clear hy29
              have KL29 := Aside0.mk (show ((l0_2.length : Int) : Int).toNat ≤ t345.length from by omega)
              replace q29 := eq_true q29
              refine start_ (n := 19) (S := fun w' => w'.cell? ⟨gb341, 0, none⟩ = some (.bool a0_0) ∧ w'.cell? ⟨gb341, 1, none⟩ = some (.slice A0_1 l0_1.length c0_1) ∧ w'.cell? ⟨gb341, 2, none⟩ = some (.slice A0_2 l0_2.length c0_2)) (ds := []) #[false, false, false, false, false, false, false, false, false, false, false, false, false, false, false, false, false, false, false] (by kernel_rfl) rfl rfl ⟨(blk_cell BK341.out 0).trans rfl, (blk_cell BK341.out 1).trans rfl, (blk_cell BK341.out 2).trans rfl⟩ (fun hHeld => ?_); refine with_tabW plumblaw07_NearQuotients.tab9 plumblaw07_NearQuotients.bits9 (fun HT_ HW_ => ?_)
              generalize wc.drew = w26 at HO_5 HO_6 BK341 HB HR351 HR355 hHeld ⊢
              refine pure_ (i := 0) (N := some 33) (v := ?_) (a' := ?_) #[true, false, false, false, false, false, false, false, false, false, false, false, false, false, false, false, false, false, false] rfl rfl dT (fun _ _ _ h => h) (Or.inl ⟨by rfl, ?_⟩) ?_ ?_
              rotate_left
              ·intro w'
               go_simp
               with_reducible rfl
              rotate_left
              ·simp only [Act.put, List.setIfInBounds_toArray, List.set_cons_zero, List.set_cons_succ, i64_w, i32_w]
               rfl
              refine pure_ (i := 2) (N := some 35) (v := ?_) (a' := ?_) #[true, false, true, false, false, false, false, false, false, false, false, false, false, false, false, false, false, false, false] rfl rfl dT (fun _ _ _ h => h) (Or.inl ⟨by rfl, ?_⟩) ?_ ?_
              rotate_left
              ·intro w'
               go_simp
               with_reducible rfl
              rotate_left
              ·simp only [Act.put, List.setIfInBounds_toArray, List.set_cons_zero, List.set_cons_succ, i64_w, i32_w]
               rfl
              refine pure_ (i := 3) (N := some 36) (v := ?_) (a' := ?_) #[true, false, true, true, false, false, false, false, false, false, false, false, false, false, false, false, false, false, false] rfl rfl dT (fun _ _ _ h => h) (Or.inl ⟨by rfl, ?_⟩) ?_ ?_
              rotate_left
              ·intro w'
               go_simp
               with_reducible rfl
              rotate_left
              ·simp only [Act.put, List.setIfInBounds_toArray, List.set_cons_zero, List.set_cons_succ, i64_w, i32_w]
               rfl
              refine pure_ (i := 7) (N := some 40) (v := ?_) (a' := ?_) #[true, false, true, true, false, false, false, true, false, false, false, false, false, false, false, false, false, false, false] rfl rfl dT (fun _ _ _ h => h) (Or.inl ⟨by rfl, ?_⟩) ?_ ?_
              rotate_left
              ·intro w'
               go_simp
               with_reducible rfl
              rotate_left
              ·simp only [Act.put, List.setIfInBounds_toArray, List.set_cons_zero, List.set_cons_succ, i64_w, i32_w]
               rfl
              refine pure_ (i := 8) (N := some 41) (v := ?_) (a' := ?_) #[true, false, true, true, false, false, false, true, true, false, false, false, false, false, false, false, false, false, false] rfl rfl dT (fun _ _ _ h => h) (Or.inl ⟨by rfl, ?_⟩) ?_ ?_
              rotate_left
              ·intro w'
               go_simp
               with_reducible rfl
              rotate_left
              ·simp only [Act.put, List.setIfInBounds_toArray, List.set_cons_zero, List.set_cons_succ, i64_w, i32_w]
               rfl
              refine pure_ (i := 12) (N := some 45) (v := ?_) (a' := ?_) #[true, false, true, true, false, false, false, true, true, false, false, false, true, false, false, false, false, false, false] rfl rfl dT (fun _ _ _ h => h) (Or.inl ⟨by rfl, ?_⟩) ?_ ?_
              rotate_left
              ·intro w'
               go_simp
               with_reducible rfl
              rotate_left
              ·simp only [Act.put, List.setIfInBounds_toArray, List.set_cons_zero, List.set_cons_succ, i64_w, i32_w]
               rfl
              refine take_ (i := 1) (N := some 34) (v := ?_) (a' := ?_) #[true, true, true, true, false, false, false, true, true, false, false, false, true, false, false, false, false, false, false] rfl rfl (take_ofW HT_.out HW_.out (by kernel_rfl)) (fun _ _ _ h => h) (Or.inl ⟨by rfl, ?_⟩) hHeld ?_ ?_
              rotate_left
              ·rintro w' ⟨s0, s1, s2⟩
               go_simp
               with_reducible rfl
              rotate_left
              ·simp only [Act.put, List.setIfInBounds_toArray, List.set_cons_zero, List.set_cons_succ, i64_w, i32_w]
               rfl
              refine take_ (i := 4) (N := some 37) (v := ?_) (a' := ?_) #[true, true, true, true, true, false, false, true, true, false, false, false, true, false, false, false, false, false, false] rfl rfl (take_ofW HT_.out HW_.out (by kernel_rfl)) (fun _ _ _ h => h) (Or.inl ⟨by rfl, ?_⟩) hHeld ?_ ?_
              rotate_left
              ·rintro w' ⟨s0, s1, s2⟩
               go_simp
               with_reducible rfl
              rotate_left
              ·simp only [Act.put, List.setIfInBounds_toArray, List.set_cons_zero, List.set_cons_succ, i64_w, i32_w]
               rfl
              refine pure_ (i := 5) (N := some 38) (v := ?_) (a' := ?_) #[true, true, true, true, true, true, false, true, true, false, false, false, true, false, false, false, false, false, false] rfl rfl dT (fun _ _ _ h => h) (Or.inl ⟨by rfl, ?_⟩) ?_ ?_
              rotate_left
              ·intro w'
               go_simp
               with_reducible rfl
              rotate_left
              ·simp only [Act.put, List.setIfInBounds_toArray, List.set_cons_zero, List.set_cons_succ, i64_w, i32_w]
               rfl
              refine pure_ (i := 6) (N := some 39) (v := ?_) (a' := ?_) #[true, true, true, true, true, true, true, true, true, false, false, false, true, false, false, false, false, false, false] rfl rfl dT (fun _ _ _ h => h) (Or.inl ⟨by rfl, ?_⟩) ?_ ?_
              rotate_left
              ·intro w'
               go_simp
               with_reducible rfl
              rotate_left
              ·simp only [Act.put, List.setIfInBounds_toArray, List.set_cons_zero, List.set_cons_succ, i64_w, i32_w]
               rfl
              refine take_ (i := 9) (N := some 42) (v := ?_) (a' := ?_) #[true, true, true, true, true, true, true, true, true, true, false, false, true, false, false, false, false, false, false] rfl rfl (take_ofW HT_.out HW_.out (by kernel_rfl)) (fun _ _ _ h => h) (Or.inl ⟨by rfl, ?_⟩) hHeld ?_ ?_
              rotate_left
              ·rintro w' ⟨s0, s1, s2⟩
               go_simp
               with_reducible rfl
              rotate_left
              ·simp only [Act.put, List.setIfInBounds_toArray, List.set_cons_zero, List.set_cons_succ, i64_w, i32_w]
               rfl
              refine pure_ (i := 10) (N := some 43) (v := ?_) (a' := ?_) #[true, true, true, true, true, true, true, true, true, true, true, false, true, false, false, false, false, false, false] rfl rfl dT (fun _ _ _ h => h) (Or.inl ⟨by rfl, ?_⟩) ?_ ?_
              rotate_left
              ·intro w'
               go_simp
               with_reducible rfl
              rotate_left
              ·simp only [Act.put, List.setIfInBounds_toArray, List.set_cons_zero, List.set_cons_succ, i64_w, i32_w]
               rfl
              refine pure_ (i := 11) (N := some 44) (v := ?_) (a' := ?_) #[true, true, true, true, true, true, true, true, true, true, true, true, true, false, false, false, false, false, false] rfl rfl dT (fun _ _ _ h => h) (Or.inl ⟨by rfl, ?_⟩) ?_ ?_
              rotate_left
              ·intro w'
               go_simp
               with_reducible rfl
              rotate_left
              ·simp only [Act.put, List.setIfInBounds_toArray, List.set_cons_zero, List.set_cons_succ, i64_w, i32_w]
               rfl
              refine one_ (i := 13) (N := some 46) #[true, true, true, true, true, true, true, true, true, true, true, true, true, true, false, false, false, false, false] rfl rfl (one_of HT_.out (by kernel_rfl)) (by decide) (fun K hK => ?_)
              refine goes_ Tryd.func17 (by kernel_rfl) rfl #[.bool a0_0, .slice Ao28 y348.length co28, .slice Ao30 y352.length co30, .int .i64 x8_10] (by rfl) rfl rfl dA ?_
              with_reducible refine (near_Quotient.calls kj10 a0_0 _ _ y348 _ _ y352 x8_10 t356 t357 _ ?side1 ?side2 ?side3 ?side4 A17.out).mono ?_
              (case side1 => exact dC (by repeat (first | (with_reducible exact HR351.out) | (with_reducible refine Kd.C_alloc ?_ _) | (with_reducible refine Kd.C_drewN ?_ _) | (with_reducible refine Kd.C_drew ?_) | exact HR351.out)))
              (case side2 => exact HC351.out)
              (case side3 => exact dC (by repeat (first | (with_reducible exact HR355.out) | (with_reducible refine Kd.C_alloc ?_ _) | (with_reducible refine Kd.C_drewN ?_ _) | (with_reducible refine Kd.C_drew ?_) | exact HR355.out)))
              (case side4 => exact HC355.out)
              rintro e w31 ⟨rfl, hb⟩
              refine ⟨_, rfl, ?_⟩
              replace HO_5 := Aside0.mk (Kd.R_below (dR HO_5.out) hb)
              replace HO_6 := Aside0.mk (Kd.R_below (dR HO_6.out) hb)
              replace BK341 := Aside0.mk (blk_below (g := gb341) (o := .cells #[.bool a0_0, .slice A0_1 l0_1.length c0_1, .slice A0_2 l0_2.length c0_2] 36 (0, 0)) (dK BK341.out) hb)
              replace HR351 := Aside0.mk (Kd.C_below (by repeat (first | (with_reducible exact HR351.out) | (with_reducible refine Kd.C_alloc ?_ _) | (with_reducible refine Kd.C_drewN ?_ _) | (with_reducible refine Kd.C_drew ?_) | exact HR351.out)) hb)
              replace HR355 := Aside0.mk (Kd.C_below (by repeat (first | (with_reducible exact HR355.out) | (with_reducible refine Kd.C_alloc ?_ _) | (with_reducible refine Kd.C_drewN ?_ _) | (with_reducible refine Kd.C_drew ?_) | exact HR355.out)) hb)
              replace HB := Aside0.mk (below_step (dG GE341.out) hb)
              (try clear hb)
              (try clear hb2)
              (try clear hk)
              (try clear hi)
              refine hK.out _ _ ⟨(blk_cell BK341.out 0).trans rfl, (blk_cell BK341.out 1).trans rfl, (blk_cell BK341.out 2).trans rfl⟩ (fun hHeld => ?_)
              clear hK K
              refine norm_ (a' := ?_) ?_ ?_
              rotate_left
              ·show Act.put _ (some 46) _ = _
               simp only [Act.put, List.setIfInBounds_toArray, List.set_cons_zero, List.set_cons_succ, i64_w, i32_w]
               rfl
              refine pure_ (i := 14) (N := some 32) (v := ?_) (a' := ?_) #[true, true, true, true, true, true, true, true, true, true, true, true, true, true, true, false, false, false, false] rfl rfl dT (fun _ _ _ h => h) (Or.inl ⟨by rfl, ?_⟩) ?_ ?_
              rotate_left
              ·intro w'
               go_simp
               with_reducible rfl
              rotate_left
              ·simp only [Act.put, List.setIfInBounds_toArray, List.set_cons_zero, List.set_cons_succ, i64_w, i32_w]
               rfl
              refine pure_ (i := 15) (N := some 47) (v := ?_) (a' := ?_) #[true, true, true, true, true, true, true, true, true, true, true, true, true, true, true, true, false, false, false] rfl rfl dT (fun _ _ _ h => h) (Or.inl ⟨by rfl, ?_⟩) ?_ ?_
              rotate_left
              ·intro w'
               go_simp
               with_reducible rfl
              rotate_left
              ·simp only [Act.put, List.setIfInBounds_toArray, List.set_cons_zero, List.set_cons_succ, i64_w, i32_w]
               rfl
              refine pure_ (i := 16) (N := some 48) (v := ?_) (a' := ?_) #[true, true, true, true, true, true, true, true, true, true, true, true, true, true, true, true, true, false, false] rfl rfl dT (fun _ _ _ h => h) (Or.inl ⟨by rfl, ?_⟩) ?_ ?_
              rotate_left
              ·intro w'
               go_simp
               with_reducible rfl
              rotate_left
              ·simp only [Act.put, List.setIfInBounds_toArray, List.set_cons_zero, List.set_cons_succ, i64_w, i32_w]
               rfl
              refine pure_ (i := 17) (N := some 9) (v := ?_) (a' := ?_) #[true, true, true, true, true, true, true, true, true, true, true, true, true, true, true, true, true, true, false] rfl rfl dT (fun _ _ _ h => h) (Or.inl ⟨by rfl, ?_⟩) ?_ ?_
              rotate_left
              ·intro w'
               go_simp
               with_reducible rfl
              rotate_left
              ·simp only [Act.put, List.setIfInBounds_toArray, List.set_cons_zero, List.set_cons_succ, i64_w, i32_w]
               rfl
              refine pure_ (i := 18) (N := some 10) (v := ?_) (a' := ?_) #[true, true, true, true, true, true, true, true, true, true, true, true, true, true, true, true, true, true, true] rfl rfl dT (fun _ _ _ h => h) (Or.inl ⟨by rfl, ?_⟩) ?_ ?_
              rotate_left
              ·intro w'
               go_simp
               with_reducible rfl
              rotate_left
              ·simp only [Act.put, List.setIfInBounds_toArray, List.set_cons_zero, List.set_cons_succ, i64_w, i32_w]
               rfl
              refine done_ (done_of HT_.out (by kernel_rfl)) ?_
              have hcz32_0 : w31.cell? ⟨gb341, 0, none⟩ = some (.bool a0_0) := (blk_cell BK341.out 0).trans rfl
              have hcz32_1 : w31.cell? ⟨gb341, 1, none⟩ = some (.slice A0_1 l0_1.length c0_1) := (blk_cell BK341.out 1).trans rfl
              have hcz32_2 : w31.cell? ⟨gb341, 2, none⟩ = some (.slice A0_2 l0_2.length c0_2) := (blk_cell BK341.out 2).trans rfl
              have hfz32_0 := blk_frozen BK341.out 0
              have hfz32_1 := blk_frozen BK341.out 1
              have hfz32_2 := blk_frozen BK341.out 2
              try go_wp2_with (first | ((with_reducible refine gate_callee (f := 18) rfl ?_); refine gL (some 57) Tryd.func18 #[.bool a0_0, .slice A0_1 l0_1.length c0_1, .slice A0_2 l0_2.length c0_2, .int .i64 x8_10] ?_; (with_reducible refine (plumbref07_Quotient.calls kj10 a0_0 _ _ l0_1 _ _ l0_2 x8_10 t358 t359 _ ?side1 ?side2 ?side3 ?side4 A18.out).mono ?_); (case side1 => exact dC (Kd.C_below HR0_1.out HB.out)); (case side2 => exact HC0_1.out); (case side3 => exact dC (Kd.C_below HR0_2.out HB.out)); (case side4 => exact HC0_2.out); rintro e w33 ⟨rfl, hb⟩; refine ⟨_, rfl, ?_⟩; replace HO_5 := Aside0.mk (Kd.R_below (dR HO_5.out) hb); replace HO_6 := Aside0.mk (Kd.R_below (dR HO_6.out) hb); replace BK341 := Aside0.mk (blk_below (g := gb341) (o := .cells #[.bool a0_0, .slice A0_1 l0_1.length c0_1, .slice A0_2 l0_2.length c0_2] 36 (0, 0)) (dK BK341.out) hb); replace HR351 := Aside0.mk (Kd.C_below (by repeat (first | (with_reducible exact HR351.out) | (with_reducible refine Kd.C_alloc ?_ _) | (with_reducible refine Kd.C_drewN ?_ _) | (with_reducible refine Kd.C_drew ?_) | exact HR351.out)) hb); replace HR355 := Aside0.mk (Kd.C_below (by repeat (first | (with_reducible exact HR355.out) | (with_reducible refine Kd.C_alloc ?_ _) | (with_reducible refine Kd.C_drewN ?_ _) | (with_reducible refine Kd.C_drew ?_) | exact HR355.out)) hb); replace HB := Aside0.mk (below_step (dG GE341.out) hb); (try clear hb)) | (go_at_call 15; (with_reducible refine (plumblaw07_num.calls t357 t360 _ A20.out).mono ?_); rintro e w' ⟨rfl, ⟨nd, rfl⟩⟩; have hcz34_0 : w33.cell? ⟨gb341, 0, none⟩ = some (.bool a0_0) := (blk_cell BK341.out 0).trans rfl; have hcz34_1 : w33.cell? ⟨gb341, 1, none⟩ = some (.slice A0_1 l0_1.length c0_1) := (blk_cell BK341.out 1).trans rfl; have hcz34_2 : w33.cell? ⟨gb341, 2, none⟩ = some (.slice A0_2 l0_2.length c0_2) := (blk_cell BK341.out 2).trans rfl; have hfz34_0 := blk_frozen BK341.out 0; have hfz34_1 := blk_frozen BK341.out 1; have hfz34_2 := blk_frozen BK341.out 2) | (go_at_call 16; (with_reducible refine (plumblaw07_kept.calls kj10 _ _ t342 _ _ l0_1 true _ ?side1 ?side2 ?side3 ?side4 A22.out).mono ?_); (case side1 => exact dC (Kd.R_reads' HO_5.out).2.2); (case side2 => exact (Kd.R_reads' HO_5.out).2.1); (case side3 => exact dC (Kd.C_below HR0_1.out (dG GE341.out))); (case side4 => exact HC0_1.out); rintro e w' ⟨rfl, ⟨nd, rfl⟩⟩) | (go_at_call 16; (with_reducible refine (plumblaw07_kept.calls kj10 _ _ t345 _ _ l0_2 true _ ?side1 ?side2 ?side3 ?side4 A24.out).mono ?_); (case side1 => exact dC (Kd.R_reads' HO_6.out).2.2); (case side2 => exact (Kd.R_reads' HO_6.out).2.1); (case side3 => exact dC (Kd.C_below HR0_2.out (dG GE341.out))); (case side4 => exact HC0_2.out); rintro e w' ⟨rfl, ⟨nd, rfl⟩⟩))
              go_roundg kj10
              case measure => have := HK1.out; have := HJ10.out; omega
              case rel => exact ⟨(wrap64 (x7_1 + 1)), dF, H', ⟨by have := HK1.out; have := HJ10.out; omega⟩, ⟨dR HO_5.out⟩, ⟨dR HO_6.out⟩, ⟨dK BK341.out⟩, ⟨dG GE341.out⟩⟩
             ·replace c25 := Bool.eq_false_iff.mpr c25
              subst c25
              have H1 : (some false) = some r := by rw [if_neg (show ¬ (false = true) by decide)] at H; exact H
              clear H
              have H := H1
              clear H1
              obtain rfl := Option.some.inj H
              try go_wp2
              replace HO_5 := Aside0.mk (Kd.R_drew HO_5.out)
              replace HO_6 := Aside0.mk (Kd.R_drew HO_6.out)
              replace BK341 := Aside0.mk (blk_drew BK341.out)
              replace HB := Aside0.mk (below_drew1 HB.out)
              obtain ⟨Ao37, co37, eo37⟩ := Kd.R_slice HO_5.out
              (first | subst eo37 | (injection eo37 with f1_ f2_ f3_; have f4_ := f1_.symm; have f5_ := f3_.symm; clear f1_ f2_ f3_; subst f4_; subst f5_))
              have q36 : ((l0_1.length : Int) : Int) ≤ ((t342.length : Int) : Int) := of_decide_eq_true dS
              obtain ⟨i036, hi036, _, hsz36, _⟩ := info_parts info26
              have hroom36 : t342.length ≤ co37 := (Kd.R_reads' HO_5.out).2.1
              have hC36 : Kd.C (Kd.int .u64) _ Ao37 t342.length t342 := (Kd.R_reads' HO_5.out).2.2
              have hcut36 := cut_to (P := Tryd.prog) 22 26 .i64 Tryd.underlying22 hi036 Ao37 t342.length co37 (l0_1.length : Int) (of_decide_eq_true dS) q36 hroom36
              have hr36 := Kd.C_take (m := ((l0_1.length : Int) : Int).toNat) hC36 (by omega)
              have hy36 : y348.length = ((l0_1.length : Int) : Int).toNat := (by rw [Ny348.out, List.length_take]; omega)
              rw [← Ny348.out] at hr36
              rw [← hy36] at hcut36
              have HR351 := Aside0.mk hr36
              have HC351 := Aside0.mk (show y348.length ≤ co37 from by omega)
              clear hr36 hC36 hroom36 hi036 hsz36
              have KY36 := Aside0.mk hy36
              clear hy36
              have KL36 := Aside0.mk (show ((l0_1.length : Int) : Int).toNat ≤ t342.length from by omega)
              replace q36 := eq_true q36
              obtain ⟨Ao39, co39, eo39⟩ := Kd.R_slice HO_6.out
              (first | subst eo39 | (injection eo39 with f1_ f2_ f3_; have f4_ := f1_.symm; have f5_ := f3_.symm; clear f1_ f2_ f3_; subst f4_; subst f5_))
              have q38 : ((l0_2.length : Int) : Int) ≤ ((t345.length : Int) : Int) := of_decide_eq_true dS
              obtain ⟨i038, hi038, _, hsz38, _⟩ := info_parts info26
              have hroom38 : t345.length ≤ co39 := (Kd.R_reads' HO_6.out).2.1
              have hC38 : Kd.C (Kd.int .u64) _ Ao39 t345.length t345 := (Kd.R_reads' HO_6.out).2.2
              have hcut38 := cut_to (P := Tryd.prog) 22 26 .i64 Tryd.underlying22 hi038 Ao39 t345.length co39 (l0_2.length : Int) (of_decide_eq_true dS) q38 hroom38
              have hr38 := Kd.C_take (m := ((l0_2.length : Int) : Int).toNat) hC38 (by omega)
              have hy38 : y352.length = ((l0_2.length : Int) : Int).toNat := (by rw [Ny352.out, List.length_take]; omega)
              rw [← Ny352.out] at hr38
              rw [← hy38] at hcut38
              have HR355 := Aside0.mk hr38
              have HC355 := Aside0.mk (show y352.length ≤ co39 from by omega)
              clear hr38 hC38 hroom38 hi038 hsz38
              have KY38 := Aside0.mk hy38
              clear hy38
              have KL38 := Aside0.mk (show ((l0_2.length : Int) : Int).toNat ≤ t345.length from by omega)
              replace q38 := eq_true q38
              refine start_ (n := 19) (S := fun w' => w'.cell? ⟨gb341, 0, none⟩ = some (.bool a0_0) ∧ w'.cell? ⟨gb341, 1, none⟩ = some (.slice A0_1 l0_1.length c0_1) ∧ w'.cell? ⟨gb341, 2, none⟩ = some (.slice A0_2 l0_2.length c0_2)) (ds := []) #[false, false, false, false, false, false, false, false, false, false, false, false, false, false, false, false, false, false, false] (by kernel_rfl) rfl rfl ⟨(blk_cell BK341.out 0).trans rfl, (blk_cell BK341.out 1).trans rfl, (blk_cell BK341.out 2).trans rfl⟩ (fun hHeld => ?_); refine with_tabW plumblaw07_NearQuotients.tab9 plumblaw07_NearQuotients.bits9 (fun HT_ HW_ => ?_)
              generalize wc.drew = w35 at HO_5 HO_6 BK341 HB HR351 HR355 hHeld ⊢
              refine pure_ (i := 0) (N := some 33) (v := ?_) (a' := ?_) #[true, false, false, false, false, false, false, false, false, false, false, false, false, false, false, false, false, false, false] rfl rfl dT (fun _ _ _ h => h) (Or.inl ⟨by rfl, ?_⟩) ?_ ?_
              rotate_left
              ·intro w'
               go_simp
               with_reducible rfl
              rotate_left
              ·simp only [Act.put, List.setIfInBounds_toArray, List.set_cons_zero, List.set_cons_succ, i64_w, i32_w]
               rfl
              refine pure_ (i := 2) (N := some 35) (v := ?_) (a' := ?_) #[true, false, true, false, false, false, false, false, false, false, false, false, false, false, false, false, false, false, false] rfl rfl dT (fun _ _ _ h => h) (Or.inl ⟨by rfl, ?_⟩) ?_ ?_
              rotate_left
              ·intro w'
               go_simp
               with_reducible rfl
              rotate_left
              ·simp only [Act.put, List.setIfInBounds_toArray, List.set_cons_zero, List.set_cons_succ, i64_w, i32_w]
               rfl
              refine pure_ (i := 3) (N := some 36) (v := ?_) (a' := ?_) #[true, false, true, true, false, false, false, false, false, false, false, false, false, false, false, false, false, false, false] rfl rfl dT (fun _ _ _ h => h) (Or.inl ⟨by rfl, ?_⟩) ?_ ?_
              rotate_left
              ·intro w'
               go_simp
               with_reducible rfl
              rotate_left
              ·simp only [Act.put, List.setIfInBounds_toArray, List.set_cons_zero, List.set_cons_succ, i64_w, i32_w]
               rfl
              refine pure_ (i := 7) (N := some 40) (v := ?_) (a' := ?_) #[true, false, true, true, false, false, false, true, false, false, false, false, false, false, false, false, false, false, false] rfl rfl dT (fun _ _ _ h => h) (Or.inl ⟨by rfl, ?_⟩) ?_ ?_
              rotate_left
              ·intro w'
               go_simp
               with_reducible rfl
              rotate_left
              ·simp only [Act.put, List.setIfInBounds_toArray, List.set_cons_zero, List.set_cons_succ, i64_w, i32_w]
               rfl
              refine pure_ (i := 8) (N := some 41) (v := ?_) (a' := ?_) #[true, false, true, true, false, false, false, true, true, false, false, false, false, false, false, false, false, false, false] rfl rfl dT (fun _ _ _ h => h) (Or.inl ⟨by rfl, ?_⟩) ?_ ?_
              rotate_left
              ·intro w'
               go_simp
               with_reducible rfl
              rotate_left
              ·simp only [Act.put, List.setIfInBounds_toArray, List.set_cons_zero, List.set_cons_succ, i64_w, i32_w]
               rfl
              refine pure_ (i := 12) (N := some 45) (v := ?_) (a' := ?_) #[true, false, true, true, false, false, false, true, true, false, false, false, true, false, false, false, false, false, false] rfl rfl dT (fun _ _ _ h => h) (Or.inl ⟨by rfl, ?_⟩) ?_ ?_
              rotate_left
              ·intro w'
               go_simp
               with_reducible rfl
              rotate_left
              ·simp only [Act.put, List.setIfInBounds_toArray, List.set_cons_zero, List.set_cons_succ, i64_w, i32_w]
               rfl
              refine take_ (i := 1) (N := some 34) (v := ?_) (a' := ?_) #[true, true, true, true, false, false, false, true, true, false, false, false, true, false, false, false, false, false, false] rfl rfl (take_ofW HT_.out HW_.out (by kernel_rfl)) (fun _ _ _ h => h) (Or.inl ⟨by rfl, ?_⟩) hHeld ?_ ?_
              rotate_left
              ·rintro w' ⟨s0, s1, s2⟩
               go_simp
               with_reducible rfl
              rotate_left
              ·simp only [Act.put, List.setIfInBounds_toArray, List.set_cons_zero, List.set_cons_succ, i64_w, i32_w]
               rfl
              refine take_ (i := 4) (N := some 37) (v := ?_) (a' := ?_) #[true, true, true, true, true, false, false, true, true, false, false, false, true, false, false, false, false, false, false] rfl rfl (take_ofW HT_.out HW_.out (by kernel_rfl)) (fun _ _ _ h => h) (Or.inl ⟨by rfl, ?_⟩) hHeld ?_ ?_
              rotate_left
              ·rintro w' ⟨s0, s1, s2⟩
               go_simp
               with_reducible rfl
              rotate_left
              ·simp only [Act.put, List.setIfInBounds_toArray, List.set_cons_zero, List.set_cons_succ, i64_w, i32_w]
               rfl
              refine pure_ (i := 5) (N := some 38) (v := ?_) (a' := ?_) #[true, true, true, true, true, true, false, true, true, false, false, false, true, false, false, false, false, false, false] rfl rfl dT (fun _ _ _ h => h) (Or.inl ⟨by rfl, ?_⟩) ?_ ?_
              rotate_left
              ·intro w'
               go_simp
               with_reducible rfl
              rotate_left
              ·simp only [Act.put, List.setIfInBounds_toArray, List.set_cons_zero, List.set_cons_succ, i64_w, i32_w]
               rfl
              refine pure_ (i := 6) (N := some 39) (v := ?_) (a' := ?_) #[true, true, true, true, true, true, true, true, true, false, false, false, true, false, false, false, false, false, false] rfl rfl dT (fun _ _ _ h => h) (Or.inl ⟨by rfl, ?_⟩) ?_ ?_
              rotate_left
              ·intro w'
               go_simp
               with_reducible rfl
              rotate_left
              ·simp only [Act.put, List.setIfInBounds_toArray, List.set_cons_zero, List.set_cons_succ, i64_w, i32_w]
               rfl
              refine take_ (i := 9) (N := some 42) (v := ?_) (a' := ?_) #[true, true, true, true, true, true, true, true, true, true, false, false, true, false, false, false, false, false, false] rfl rfl (take_ofW HT_.out HW_.out (by kernel_rfl)) (fun _ _ _ h => h) (Or.inl ⟨by rfl, ?_⟩) hHeld ?_ ?_
              rotate_left
              ·rintro w' ⟨s0, s1, s2⟩
               go_simp
               with_reducible rfl
              rotate_left
              ·simp only [Act.put, List.setIfInBounds_toArray, List.set_cons_zero, List.set_cons_succ, i64_w, i32_w]
               rfl
              refine pure_ (i := 10) (N := some 43) (v := ?_) (a' := ?_) #[true, true, true, true, true, true, true, true, true, true, true, false, true, false, false, false, false, false, false] rfl rfl dT (fun _ _ _ h => h) (Or.inl ⟨by rfl, ?_⟩) ?_ ?_
              rotate_left
              ·intro w'
               go_simp
               with_reducible rfl
              rotate_left
              ·simp only [Act.put, List.setIfInBounds_toArray, List.set_cons_zero, List.set_cons_succ, i64_w, i32_w]
               rfl
              refine pure_ (i := 11) (N := some 44) (v := ?_) (a' := ?_) #[true, true, true, true, true, true, true, true, true, true, true, true, true, false, false, false, false, false, false] rfl rfl dT (fun _ _ _ h => h) (Or.inl ⟨by rfl, ?_⟩) ?_ ?_
              rotate_left
              ·intro w'
               go_simp
               with_reducible rfl
              rotate_left
              ·simp only [Act.put, List.setIfInBounds_toArray, List.set_cons_zero, List.set_cons_succ, i64_w, i32_w]
               rfl
              refine one_ (i := 13) (N := some 46) #[true, true, true, true, true, true, true, true, true, true, true, true, true, true, false, false, false, false, false] rfl rfl (one_of HT_.out (by kernel_rfl)) (by decide) (fun K hK => ?_)
              refine goes_ Tryd.func17 (by kernel_rfl) rfl #[.bool a0_0, .slice Ao37 y348.length co37, .slice Ao39 y352.length co39, .int .i64 x8_10] (by rfl) rfl rfl dA ?_
              with_reducible refine (near_Quotient.calls kj10 a0_0 _ _ y348 _ _ y352 x8_10 t356 t357 _ ?side1 ?side2 ?side3 ?side4 A17.out).mono ?_
              (case side1 => exact dC (by repeat (first | (with_reducible exact HR351.out) | (with_reducible refine Kd.C_alloc ?_ _) | (with_reducible refine Kd.C_drewN ?_ _) | (with_reducible refine Kd.C_drew ?_) | exact HR351.out)))
              (case side2 => exact HC351.out)
              (case side3 => exact dC (by repeat (first | (with_reducible exact HR355.out) | (with_reducible refine Kd.C_alloc ?_ _) | (with_reducible refine Kd.C_drewN ?_ _) | (with_reducible refine Kd.C_drew ?_) | exact HR355.out)))
              (case side4 => exact HC355.out)
              rintro e w40 ⟨rfl, hb⟩
              refine ⟨_, rfl, ?_⟩
              replace HO_5 := Aside0.mk (Kd.R_below (dR HO_5.out) hb)
              replace HO_6 := Aside0.mk (Kd.R_below (dR HO_6.out) hb)
              replace BK341 := Aside0.mk (blk_below (g := gb341) (o := .cells #[.bool a0_0, .slice A0_1 l0_1.length c0_1, .slice A0_2 l0_2.length c0_2] 36 (0, 0)) (dK BK341.out) hb)
              replace HR351 := Aside0.mk (Kd.C_below (by repeat (first | (with_reducible exact HR351.out) | (with_reducible refine Kd.C_alloc ?_ _) | (with_reducible refine Kd.C_drewN ?_ _) | (with_reducible refine Kd.C_drew ?_) | exact HR351.out)) hb)
              replace HR355 := Aside0.mk (Kd.C_below (by repeat (first | (with_reducible exact HR355.out) | (with_reducible refine Kd.C_alloc ?_ _) | (with_reducible refine Kd.C_drewN ?_ _) | (with_reducible refine Kd.C_drew ?_) | exact HR355.out)) hb)
              replace HB := Aside0.mk (below_step (dG GE341.out) hb)
              (try clear hb)
              (try clear hb2)
              (try clear hk)
              (try clear hi)
              refine hK.out _ _ ⟨(blk_cell BK341.out 0).trans rfl, (blk_cell BK341.out 1).trans rfl, (blk_cell BK341.out 2).trans rfl⟩ (fun hHeld => ?_)
              clear hK K
              refine norm_ (a' := ?_) ?_ ?_
              rotate_left
              ·show Act.put _ (some 46) _ = _
               simp only [Act.put, List.setIfInBounds_toArray, List.set_cons_zero, List.set_cons_succ, i64_w, i32_w]
               rfl
              refine pure_ (i := 14) (N := some 32) (v := ?_) (a' := ?_) #[true, true, true, true, true, true, true, true, true, true, true, true, true, true, true, false, false, false, false] rfl rfl dT (fun _ _ _ h => h) (Or.inl ⟨by rfl, ?_⟩) ?_ ?_
              rotate_left
              ·intro w'
               go_simp
               with_reducible rfl
              rotate_left
              ·simp only [Act.put, List.setIfInBounds_toArray, List.set_cons_zero, List.set_cons_succ, i64_w, i32_w]
               rfl
              refine pure_ (i := 15) (N := some 47) (v := ?_) (a' := ?_) #[true, true, true, true, true, true, true, true, true, true, true, true, true, true, true, true, false, false, false] rfl rfl dT (fun _ _ _ h => h) (Or.inl ⟨by rfl, ?_⟩) ?_ ?_
              rotate_left
              ·intro w'
               go_simp
               with_reducible rfl
              rotate_left
              ·simp only [Act.put, List.setIfInBounds_toArray, List.set_cons_zero, List.set_cons_succ, i64_w, i32_w]
               rfl
              refine pure_ (i := 16) (N := some 48) (v := ?_) (a' := ?_) #[true, true, true, true, true, true, true, true, true, true, true, true, true, true, true, true, true, false, false] rfl rfl dT (fun _ _ _ h => h) (Or.inl ⟨by rfl, ?_⟩) ?_ ?_
              rotate_left
              ·intro w'
               go_simp
               with_reducible rfl
              rotate_left
              ·simp only [Act.put, List.setIfInBounds_toArray, List.set_cons_zero, List.set_cons_succ, i64_w, i32_w]
               rfl
              refine pure_ (i := 17) (N := some 9) (v := ?_) (a' := ?_) #[true, true, true, true, true, true, true, true, true, true, true, true, true, true, true, true, true, true, false] rfl rfl dT (fun _ _ _ h => h) (Or.inl ⟨by rfl, ?_⟩) ?_ ?_
              rotate_left
              ·intro w'
               go_simp
               with_reducible rfl
              rotate_left
              ·simp only [Act.put, List.setIfInBounds_toArray, List.set_cons_zero, List.set_cons_succ, i64_w, i32_w]
               rfl
              refine pure_ (i := 18) (N := some 10) (v := ?_) (a' := ?_) #[true, true, true, true, true, true, true, true, true, true, true, true, true, true, true, true, true, true, true] rfl rfl dT (fun _ _ _ h => h) (Or.inl ⟨by rfl, ?_⟩) ?_ ?_
              rotate_left
              ·intro w'
               go_simp
               with_reducible rfl
              rotate_left
              ·simp only [Act.put, List.setIfInBounds_toArray, List.set_cons_zero, List.set_cons_succ, i64_w, i32_w]
               rfl
              refine done_ (done_of HT_.out (by kernel_rfl)) ?_
              have hcz41_0 : w40.cell? ⟨gb341, 0, none⟩ = some (.bool a0_0) := (blk_cell BK341.out 0).trans rfl
              have hcz41_1 : w40.cell? ⟨gb341, 1, none⟩ = some (.slice A0_1 l0_1.length c0_1) := (blk_cell BK341.out 1).trans rfl
              have hcz41_2 : w40.cell? ⟨gb341, 2, none⟩ = some (.slice A0_2 l0_2.length c0_2) := (blk_cell BK341.out 2).trans rfl
              have hfz41_0 := blk_frozen BK341.out 0
              have hfz41_1 := blk_frozen BK341.out 1
              have hfz41_2 := blk_frozen BK341.out 2
              try go_wp2_with (first | ((with_reducible refine gate_callee (f := 18) rfl ?_); refine gL (some 57) Tryd.func18 #[.bool a0_0, .slice A0_1 l0_1.length c0_1, .slice A0_2 l0_2.length c0_2, .int .i64 x8_10] ?_; (with_reducible refine (plumbref07_Quotient.calls kj10 a0_0 _ _ l0_1 _ _ l0_2 x8_10 t358 t359 _ ?side1 ?side2 ?side3 ?side4 A18.out).mono ?_); (case side1 => exact dC (Kd.C_below HR0_1.out HB.out)); (case side2 => exact HC0_1.out); (case side3 => exact dC (Kd.C_below HR0_2.out HB.out)); (case side4 => exact HC0_2.out); rintro e w42 ⟨rfl, hb⟩; refine ⟨_, rfl, ?_⟩; replace HO_5 := Aside0.mk (Kd.R_below (dR HO_5.out) hb); replace HO_6 := Aside0.mk (Kd.R_below (dR HO_6.out) hb); replace BK341 := Aside0.mk (blk_below (g := gb341) (o := .cells #[.bool a0_0, .slice A0_1 l0_1.length c0_1, .slice A0_2 l0_2.length c0_2] 36 (0, 0)) (dK BK341.out) hb); replace HR351 := Aside0.mk (Kd.C_below (by repeat (first | (with_reducible exact HR351.out) | (with_reducible refine Kd.C_alloc ?_ _) | (with_reducible refine Kd.C_drewN ?_ _) | (with_reducible refine Kd.C_drew ?_) | exact HR351.out)) hb); replace HR355 := Aside0.mk (Kd.C_below (by repeat (first | (with_reducible exact HR355.out) | (with_reducible refine Kd.C_alloc ?_ _) | (with_reducible refine Kd.C_drewN ?_ _) | (with_reducible refine Kd.C_drew ?_) | exact HR355.out)) hb); replace HB := Aside0.mk (below_step (dG GE341.out) hb); (try clear hb)) | (go_at_call 15; (with_reducible refine (plumblaw07_num.calls t357 t360 _ A20.out).mono ?_); rintro e w' ⟨rfl, ⟨nd, rfl⟩⟩; have hcz43_0 : w42.cell? ⟨gb341, 0, none⟩ = some (.bool a0_0) := (blk_cell BK341.out 0).trans rfl; have hcz43_1 : w42.cell? ⟨gb341, 1, none⟩ = some (.slice A0_1 l0_1.length c0_1) := (blk_cell BK341.out 1).trans rfl; have hcz43_2 : w42.cell? ⟨gb341, 2, none⟩ = some (.slice A0_2 l0_2.length c0_2) := (blk_cell BK341.out 2).trans rfl; have hfz43_0 := blk_frozen BK341.out 0; have hfz43_1 := blk_frozen BK341.out 1; have hfz43_2 := blk_frozen BK341.out 2) | (go_at_call 16; (with_reducible refine (plumblaw07_kept.calls kj10 _ _ t342 _ _ l0_1 true _ ?side1 ?side2 ?side3 ?side4 A22.out).mono ?_); (case side1 => exact dC (Kd.R_reads' HO_5.out).2.2); (case side2 => exact (Kd.R_reads' HO_5.out).2.1); (case side3 => exact dC (Kd.C_below HR0_1.out (dG GE341.out))); (case side4 => exact HC0_1.out); rintro e w' ⟨rfl, ⟨nd, rfl⟩⟩) | (go_at_call 16; (with_reducible refine (plumblaw07_kept.calls kj10 _ _ t345 _ _ l0_2 false _ ?side1 ?side2 ?side3 ?side4 A24.out).mono ?_); (case side1 => exact dC (Kd.R_reads' HO_6.out).2.2); (case side2 => exact (Kd.R_reads' HO_6.out).2.1); (case side3 => exact dC (Kd.C_below HR0_2.out (dG GE341.out))); (case side4 => exact HC0_2.out); rintro e w' ⟨rfl, ⟨nd, rfl⟩⟩))
              go_ret
              exact ⟨dE, dG GE341.out⟩
            ·replace c23 := Bool.eq_false_iff.mpr c23
             subst c23
             have H1 : (some false) = some r := by rw [if_neg (show ¬ (false = true) by decide)] at H; exact H
             clear H
             have H := H1
             clear H1
             obtain rfl := Option.some.inj H
             try go_wp2
             replace HO_5 := Aside0.mk (Kd.R_drew HO_5.out)
             replace HO_6 := Aside0.mk (Kd.R_drew HO_6.out)
             replace BK341 := Aside0.mk (blk_drew BK341.out)
             replace HB := Aside0.mk (below_drew1 HB.out)
             obtain ⟨Ao46, co46, eo46⟩ := Kd.R_slice HO_5.out
             (first | subst eo46 | (injection eo46 with f1_ f2_ f3_; have f4_ := f1_.symm; have f5_ := f3_.symm; clear f1_ f2_ f3_; subst f4_; subst f5_))
             have q45 : ((l0_1.length : Int) : Int) ≤ ((t342.length : Int) : Int) := of_decide_eq_true dS
             obtain ⟨i045, hi045, _, hsz45, _⟩ := info_parts info26
             have hroom45 : t342.length ≤ co46 := (Kd.R_reads' HO_5.out).2.1
             have hC45 : Kd.C (Kd.int .u64) _ Ao46 t342.length t342 := (Kd.R_reads' HO_5.out).2.2
             have hcut45 := cut_to (P := Tryd.prog) 22 26 .i64 Tryd.underlying22 hi045 Ao46 t342.length co46 (l0_1.length : Int) (of_decide_eq_true dS) q45 hroom45
             have hr45 := Kd.C_take (m := ((l0_1.length : Int) : Int).toNat) hC45 (by omega)
             have hy45 : y348.length = ((l0_1.length : Int) : Int).toNat := (by rw [Ny348.out, List.length_take]; omega)
             rw [← Ny348.out] at hr45
             rw [← hy45] at hcut45
             have HR351 := Aside0.mk hr45
             have HC351 := Aside0.mk (show y348.length ≤ co46 from by omega)
             clear hr45 hC45 hroom45 hi045 hsz45
             have KY45 := Aside0.mk hy45
             clear hy45
             have KL45 := Aside0.mk (show ((l0_1.length : Int) : Int).toNat ≤ t342.length from by omega)
             replace q45 := eq_true q45
             obtain ⟨Ao48, co48, eo48⟩ := Kd.R_slice HO_6.out
             (first | subst eo48 | (injection eo48 with f1_ f2_ f3_; have f4_ := f1_.symm; have f5_ := f3_.symm; clear f1_ f2_ f3_; subst f4_; subst f5_))
             have q47 : ((l0_2.length : Int) : Int) ≤ ((t345.length : Int) : Int) := of_decide_eq_true dS
             obtain ⟨i047, hi047, _, hsz47, _⟩ := info_parts info26
             have hroom47 : t345.length ≤ co48 := (Kd.R_reads' HO_6.out).2.1
             have hC47 : Kd.C (Kd.int .u64) _ Ao48 t345.length t345 := (Kd.R_reads' HO_6.out).2.2
             have hcut47 := cut_to (P := Tryd.prog) 22 26 .i64 Tryd.underlying22 hi047 Ao48 t345.length co48 (l0_2.length : Int) (of_decide_eq_true dS) q47 hroom47
             have hr47 := Kd.C_take (m := ((l0_2.length : Int) : Int).toNat) hC47 (by omega)
             have hy47 : y352.length = ((l0_2.length : Int) : Int).toNat := (by rw [Ny352.out, List.length_take]; omega)
             rw [← Ny352.out] at hr47
             rw [← hy47] at hcut47
             have HR355 := Aside0.mk hr47
             have HC355 := Aside0.mk (show y352.length ≤ co48 from by omega)
             clear hr47 hC47 hroom47 hi047 hsz47
             have KY47 := Aside0.mk hy47
             clear hy47
             have KL47 := Aside0.mk (show ((l0_2.length : Int) : Int).toNat ≤ t345.length from by omega)
             replace q47 := eq_true q47
             refine start_ (n := 19) (S := fun w' => w'.cell? ⟨gb341, 0, none⟩ = some (.bool a0_0) ∧ w'.cell? ⟨gb341, 1, none⟩ = some (.slice A0_1 l0_1.length c0_1) ∧ w'.cell? ⟨gb341, 2, none⟩ = some (.slice A0_2 l0_2.length c0_2)) (ds := []) #[false, false, false, false, false, false, false, false, false, false, false, false, false, false, false, false, false, false, false] (by kernel_rfl) rfl rfl ⟨(blk_cell BK341.out 0).trans rfl, (blk_cell BK341.out 1).trans rfl, (blk_cell BK341.out 2).trans rfl⟩ (fun hHeld => ?_); refine with_tabW plumblaw07_NearQuotients.tab9 plumblaw07_NearQuotients.bits9 (fun HT_ HW_ => ?_)
             generalize wc.drew = w44 at HO_5 HO_6 BK341 HB HR351 HR355 hHeld ⊢
             refine pure_ (i := 0) (N := some 33) (v := ?_) (a' := ?_) #[true, false, false, false, false, false, false, false, false, false, false, false, false, false, false, false, false, false, false] rfl rfl dT (fun _ _ _ h => h) (Or.inl ⟨by rfl, ?_⟩) ?_ ?_
             rotate_left
             ·intro w'
              go_simp
              with_reducible rfl
             rotate_left
             ·simp only [Act.put, List.setIfInBounds_toArray, List.set_cons_zero, List.set_cons_succ, i64_w, i32_w]
              rfl
             refine pure_ (i := 2) (N := some 35) (v := ?_) (a' := ?_) #[true, false, true, false, false, false, false, false, false, false, false, false, false, false, false, false, false, false, false] rfl rfl dT (fun _ _ _ h => h) (Or.inl ⟨by rfl, ?_⟩) ?_ ?_
             rotate_left
             ·intro w'
              go_simp
              with_reducible rfl
             rotate_left
             ·simp only [Act.put, List.setIfInBounds_toArray, List.set_cons_zero, List.set_cons_succ, i64_w, i32_w]
              rfl
             refine pure_ (i := 3) (N := some 36) (v := ?_) (a' := ?_) #[true, false, true, true, false, false, false, false, false, false, false, false, false, false, false, false, false, false, false] rfl rfl dT (fun _ _ _ h => h) (Or.inl ⟨by rfl, ?_⟩) ?_ ?_
             rotate_left
             ·intro w'
              go_simp
              with_reducible rfl
             rotate_left
             ·simp only [Act.put, List.setIfInBounds_toArray, List.set_cons_zero, List.set_cons_succ, i64_w, i32_w]
              rfl
             refine pure_ (i := 7) (N := some 40) (v := ?_) (a' := ?_) #[true, false, true, true, false, false, false, true, false, false, false, false, false, false, false, false, false, false, false] rfl rfl dT (fun _ _ _ h => h) (Or.inl ⟨by rfl, ?_⟩) ?_ ?_
             rotate_left
             ·intro w'
              go_simp
              with_reducible rfl
             rotate_left
             ·simp only [Act.put, List.setIfInBounds_toArray, List.set_cons_zero, List.set_cons_succ, i64_w, i32_w]
              rfl
             refine pure_ (i := 8) (N := some 41) (v := ?_) (a' := ?_) #[true, false, true, true, false, false, false, true, true, false, false, false, false, false, false, false, false, false, false] rfl rfl dT (fun _ _ _ h => h) (Or.inl ⟨by rfl, ?_⟩) ?_ ?_
             rotate_left
             ·intro w'
              go_simp
              with_reducible rfl
             rotate_left
             ·simp only [Act.put, List.setIfInBounds_toArray, List.set_cons_zero, List.set_cons_succ, i64_w, i32_w]
              rfl
             refine pure_ (i := 12) (N := some 45) (v := ?_) (a' := ?_) #[true, false, true, true, false, false, false, true, true, false, false, false, true, false, false, false, false, false, false] rfl rfl dT (fun _ _ _ h => h) (Or.inl ⟨by rfl, ?_⟩) ?_ ?_
             rotate_left
             ·intro w'
              go_simp
              with_reducible rfl
             rotate_left
             ·simp only [Act.put, List.setIfInBounds_toArray, List.set_cons_zero, List.set_cons_succ, i64_w, i32_w]
              rfl
             refine take_ (i := 1) (N := some 34) (v := ?_) (a' := ?_) #[true, true, true, true, false, false, false, true, true, false, false, false, true, false, false, false, false, false, false] rfl rfl (take_ofW HT_.out HW_.out (by kernel_rfl)) (fun _ _ _ h => h) (Or.inl ⟨by rfl, ?_⟩) hHeld ?_ ?_
             rotate_left
             ·rintro w' ⟨s0, s1, s2⟩
              go_simp
              with_reducible rfl
             rotate_left
             ·simp only [Act.put, List.setIfInBounds_toArray, List.set_cons_zero, List.set_cons_succ, i64_w, i32_w]
              rfl
             refine take_ (i := 4) (N := some 37) (v := ?_) (a' := ?_) #[true, true, true, true, true, false, false, true, true, false, false, false, true, false, false, false, false, false, false] rfl rfl (take_ofW HT_.out HW_.out (by kernel_rfl)) (fun _ _ _ h => h) (Or.inl ⟨by rfl, ?_⟩) hHeld ?_ ?_
             rotate_left
             ·rintro w' ⟨s0, s1, s2⟩
              go_simp
              with_reducible rfl
             rotate_left
             ·simp only [Act.put, List.setIfInBounds_toArray, List.set_cons_zero, List.set_cons_succ, i64_w, i32_w]
              rfl
             refine pure_ (i := 5) (N := some 38) (v := ?_) (a' := ?_) #[true, true, true, true, true, true, false, true, true, false, false, false, true, false, false, false, false, false, false] rfl rfl dT (fun _ _ _ h => h) (Or.inl ⟨by rfl, ?_⟩) ?_ ?_
             rotate_left
             ·intro w'
              go_simp
              with_reducible rfl
             rotate_left
             ·simp only [Act.put, List.setIfInBounds_toArray, List.set_cons_zero, List.set_cons_succ, i64_w, i32_w]
              rfl
             refine pure_ (i := 6) (N := some 39) (v := ?_) (a' := ?_) #[true, true, true, true, true, true, true, true, true, false, false, false, true, false, false, false, false, false, false] rfl rfl dT (fun _ _ _ h => h) (Or.inl ⟨by rfl, ?_⟩) ?_ ?_
             rotate_left
             ·intro w'
              go_simp
              with_reducible rfl
             rotate_left
             ·simp only [Act.put, List.setIfInBounds_toArray, List.set_cons_zero, List.set_cons_succ, i64_w, i32_w]
              rfl
             refine take_ (i := 9) (N := some 42) (v := ?_) (a' := ?_) #[true, true, true, true, true, true, true, true, true, true, false, false, true, false, false, false, false, false, false] rfl rfl (take_ofW HT_.out HW_.out (by kernel_rfl)) (fun _ _ _ h => h) (Or.inl ⟨by rfl, ?_⟩) hHeld ?_ ?_
             rotate_left
             ·rintro w' ⟨s0, s1, s2⟩
              go_simp
              with_reducible rfl
             rotate_left
             ·simp only [Act.put, List.setIfInBounds_toArray, List.set_cons_zero, List.set_cons_succ, i64_w, i32_w]
              rfl
             refine pure_ (i := 10) (N := some 43) (v := ?_) (a' := ?_) #[true, true, true, true, true, true, true, true, true, true, true, false, true, false, false, false, false, false, false] rfl rfl dT (fun _ _ _ h => h) (Or.inl ⟨by rfl, ?_⟩) ?_ ?_
             rotate_left
             ·intro w'
              go_simp
              with_reducible rfl
             rotate_left
             ·simp only [Act.put, List.setIfInBounds_toArray, List.set_cons_zero, List.set_cons_succ, i64_w, i32_w]
              rfl
             refine pure_ (i := 11) (N := some 44) (v := ?_) (a' := ?_) #[true, true, true, true, true, true, true, true, true, true, true, true, true, false, false, false, false, false, false] rfl rfl dT (fun _ _ _ h => h) (Or.inl ⟨by rfl, ?_⟩) ?_ ?_
             rotate_left
             ·intro w'
              go_simp
              with_reducible rfl
             rotate_left
             ·simp only [Act.put, List.setIfInBounds_toArray, List.set_cons_zero, List.set_cons_succ, i64_w, i32_w]
              rfl
             refine one_ (i := 13) (N := some 46) #[true, true, true, true, true, true, true, true, true, true, true, true, true, true, false, false, false, false, false] rfl rfl (one_of HT_.out (by kernel_rfl)) (by decide) (fun K hK => ?_)
             refine goes_ Tryd.func17 (by kernel_rfl) rfl #[.bool a0_0, .slice Ao46 y348.length co46, .slice Ao48 y352.length co48, .int .i64 x8_10] (by rfl) rfl rfl dA ?_
             with_reducible refine (near_Quotient.calls kj10 a0_0 _ _ y348 _ _ y352 x8_10 t356 t357 _ ?side1 ?side2 ?side3 ?side4 A17.out).mono ?_
             (case side1 => exact dC (by repeat (first | (with_reducible exact HR351.out) | (with_reducible refine Kd.C_alloc ?_ _) | (with_reducible refine Kd.C_drewN ?_ _) | (with_reducible refine Kd.C_drew ?_) | exact HR351.out)))
             (case side2 => exact HC351.out)
             (case side3 => exact dC (by repeat (first | (with_reducible exact HR355.out) | (with_reducible refine Kd.C_alloc ?_ _) | (with_reducible refine Kd.C_drewN ?_ _) | (with_reducible refine Kd.C_drew ?_) | exact HR355.out)))
             (case side4 => exact HC355.out)
             rintro e w49 ⟨rfl, hb⟩
             refine ⟨_, rfl, ?_⟩
             replace HO_5 := Aside0.mk (Kd.R_below (dR HO_5.out) hb)
             replace HO_6 := Aside0.mk (Kd.R_below (dR HO_6.out) hb)
             replace BK341 := Aside0.mk (blk_below (g := gb341) (o := .cells #[.bool a0_0, .slice A0_1 l0_1.length c0_1, .slice A0_2 l0_2.length c0_2] 36 (0, 0)) (dK BK341.out) hb)
             replace HR351 := Aside0.mk (Kd.C_below (by repeat (first | (with_reducible exact HR351.out) | (with_reducible refine Kd.C_alloc ?_ _) | (with_reducible refine Kd.C_drewN ?_ _) | (with_reducible refine Kd.C_drew ?_) | exact HR351.out)) hb)
             replace HR355 := Aside0.mk (Kd.C_below (by repeat (first | (with_reducible exact HR355.out) | (with_reducible refine Kd.C_alloc ?_ _) | (with_reducible refine Kd.C_drewN ?_ _) | (with_reducible refine Kd.C_drew ?_) | exact HR355.out)) hb)
             replace HB := Aside0.mk (below_step (dG GE341.out) hb)
             (try clear hb)
             (try clear hb2)
             (try clear hk)
             (try clear hi)
             refine hK.out _ _ ⟨(blk_cell BK341.out 0).trans rfl, (blk_cell BK341.out 1).trans rfl, (blk_cell BK341.out 2).trans rfl⟩ (fun hHeld => ?_)
             clear hK K
             refine norm_ (a' := ?_) ?_ ?_
             rotate_left
             ·show Act.put _ (some 46) _ = _
              simp only [Act.put, List.setIfInBounds_toArray, List.set_cons_zero, List.set_cons_succ, i64_w, i32_w]
              rfl
             refine pure_ (i := 14) (N := some 32) (v := ?_) (a' := ?_) #[true, true, true, true, true, true, true, true, true, true, true, true, true, true, true, false, false, false, false] rfl rfl dT (fun _ _ _ h => h) (Or.inl ⟨by rfl, ?_⟩) ?_ ?_
             rotate_left
             ·intro w'
              go_simp
              with_reducible rfl
             rotate_left
             ·simp only [Act.put, List.setIfInBounds_toArray, List.set_cons_zero, List.set_cons_succ, i64_w, i32_w]
              rfl
             refine pure_ (i := 15) (N := some 47) (v := ?_) (a' := ?_) #[true, true, true, true, true, true, true, true, true, true, true, true, true, true, true, true, false, false, false] rfl rfl dT (fun _ _ _ h => h) (Or.inl ⟨by rfl, ?_⟩) ?_ ?_
             rotate_left
             ·intro w'
              go_simp
              with_reducible rfl
             rotate_left
             ·simp only [Act.put, List.setIfInBounds_toArray, List.set_cons_zero, List.set_cons_succ, i64_w, i32_w]
              rfl
             refine pure_ (i := 16) (N := some 48) (v := ?_) (a' := ?_) #[true, true, true, true, true, true, true, true, true, true, true, true, true, true, true, true, true, false, false] rfl rfl dT (fun _ _ _ h => h) (Or.inl ⟨by rfl, ?_⟩) ?_ ?_
             rotate_left
             ·intro w'
              go_simp
              with_reducible rfl
             rotate_left
             ·simp only [Act.put, List.setIfInBounds_toArray, List.set_cons_zero, List.set_cons_succ, i64_w, i32_w]
              rfl
             refine pure_ (i := 17) (N := some 9) (v := ?_) (a' := ?_) #[true, true, true, true, true, true, true, true, true, true, true, true, true, true, true, true, true, true, false] rfl rfl dT (fun _ _ _ h => h) (Or.inl ⟨by rfl, ?_⟩) ?_ ?_
             rotate_left
             ·intro w'
              go_simp
              with_reducible rfl
             rotate_left
             ·simp only [Act.put, List.setIfInBounds_toArray, List.set_cons_zero, List.set_cons_succ, i64_w, i32_w]
              rfl
             refine pure_ (i := 18) (N := some 10) (v := ?_) (a' := ?_) #[true, true, true, true, true, true, true, true, true, true, true, true, true, true, true, true, true, true, true] rfl rfl dT (fun _ _ _ h => h) (Or.inl ⟨by rfl, ?_⟩) ?_ ?_
             rotate_left
             ·intro w'
              go_simp
              with_reducible rfl
             rotate_left
             ·simp only [Act.put, List.setIfInBounds_toArray, List.set_cons_zero, List.set_cons_succ, i64_w, i32_w]
              rfl
             refine done_ (done_of HT_.out (by kernel_rfl)) ?_
             have hcz50_0 : w49.cell? ⟨gb341, 0, none⟩ = some (.bool a0_0) := (blk_cell BK341.out 0).trans rfl
             have hcz50_1 : w49.cell? ⟨gb341, 1, none⟩ = some (.slice A0_1 l0_1.length c0_1) := (blk_cell BK341.out 1).trans rfl
             have hcz50_2 : w49.cell? ⟨gb341, 2, none⟩ = some (.slice A0_2 l0_2.length c0_2) := (blk_cell BK341.out 2).trans rfl
             have hfz50_0 := blk_frozen BK341.out 0
             have hfz50_1 := blk_frozen BK341.out 1
             have hfz50_2 := blk_frozen BK341.out 2
             try go_wp2_with (first | ((with_reducible refine gate_callee (f := 18) rfl ?_); refine gL (some 57) Tryd.func18 #[.bool a0_0, .slice A0_1 l0_1.length c0_1, .slice A0_2 l0_2.length c0_2, .int .i64 x8_10] ?_; (with_reducible refine (plumbref07_Quotient.calls kj10 a0_0 _ _ l0_1 _ _ l0_2 x8_10 t358 t359 _ ?side1 ?side2 ?side3 ?side4 A18.out).mono ?_); (case side1 => exact dC (Kd.C_below HR0_1.out HB.out)); (case side2 => exact HC0_1.out); (case side3 => exact dC (Kd.C_below HR0_2.out HB.out)); (case side4 => exact HC0_2.out); rintro e w51 ⟨rfl, hb⟩; refine ⟨_, rfl, ?_⟩; replace HO_5 := Aside0.mk (Kd.R_below (dR HO_5.out) hb); replace HO_6 := Aside0.mk (Kd.R_below (dR HO_6.out) hb); replace BK341 := Aside0.mk (blk_below (g := gb341) (o := .cells #[.bool a0_0, .slice A0_1 l0_1.length c0_1, .slice A0_2 l0_2.length c0_2] 36 (0, 0)) (dK BK341.out) hb); replace HR351 := Aside0.mk (Kd.C_below (by repeat (first | (with_reducible exact HR351.out) | (with_reducible refine Kd.C_alloc ?_ _) | (with_reducible refine Kd.C_drewN ?_ _) | (with_reducible refine Kd.C_drew ?_) | exact HR351.out)) hb); replace HR355 := Aside0.mk (Kd.C_below (by repeat (first | (with_reducible exact HR355.out) | (with_reducible refine Kd.C_alloc ?_ _) | (with_reducible refine Kd.C_drewN ?_ _) | (with_reducible refine Kd.C_drew ?_) | exact HR355.out)) hb); replace HB := Aside0.mk (below_step (dG GE341.out) hb); (try clear hb)) | (go_at_call 15; (with_reducible refine (plumblaw07_num.calls t357 t360 _ A20.out).mono ?_); rintro e w' ⟨rfl, ⟨nd, rfl⟩⟩; have hcz52_0 : w51.cell? ⟨gb341, 0, none⟩ = some (.bool a0_0) := (blk_cell BK341.out 0).trans rfl; have hcz52_1 : w51.cell? ⟨gb341, 1, none⟩ = some (.slice A0_1 l0_1.length c0_1) := (blk_cell BK341.out 1).trans rfl; have hcz52_2 : w51.cell? ⟨gb341, 2, none⟩ = some (.slice A0_2 l0_2.length c0_2) := (blk_cell BK341.out 2).trans rfl; have hfz52_0 := blk_frozen BK341.out 0; have hfz52_1 := blk_frozen BK341.out 1; have hfz52_2 := blk_frozen BK341.out 2) | (go_at_call 16; (with_reducible refine (plumblaw07_kept.calls kj10 _ _ t342 _ _ l0_1 false _ ?side1 ?side2 ?side3 ?side4 A22.out).mono ?_); (case side1 => exact dC (Kd.R_reads' HO_5.out).2.2); (case side2 => exact (Kd.R_reads' HO_5.out).2.1); (case side3 => exact dC (Kd.C_below HR0_1.out (dG GE341.out))); (case side4 => exact HC0_1.out); rintro e w' ⟨rfl, ⟨nd, rfl⟩⟩))
             go_ret
             exact ⟨dE, dG GE341.out⟩
           ·rw [if_neg c21] at H
            have c21b0 : (t360 == t359) = false := beq_eq_false_iff_ne.mpr c21
            have c21b1 : (t360 != t359) = true := bne_iff_ne.mpr c21
            obtain rfl := Option.some.inj H
            try go_wp2
            replace HO_5 := Aside0.mk (Kd.R_drew HO_5.out)
            replace HO_6 := Aside0.mk (Kd.R_drew HO_6.out)
            replace BK341 := Aside0.mk (blk_drew BK341.out)
            replace HB := Aside0.mk (below_drew1 HB.out)
            obtain ⟨Ao55, co55, eo55⟩ := Kd.R_slice HO_5.out
            (first | subst eo55 | (injection eo55 with f1_ f2_ f3_; have f4_ := f1_.symm; have f5_ := f3_.symm; clear f1_ f2_ f3_; subst f4_; subst f5_))
            have q54 : ((l0_1.length : Int) : Int) ≤ ((t342.length : Int) : Int) := of_decide_eq_true dS
            obtain ⟨i054, hi054, _, hsz54, _⟩ := info_parts info26
            have hroom54 : t342.length ≤ co55 := (Kd.R_reads' HO_5.out).2.1
            have hC54 : Kd.C (Kd.int .u64) _ Ao55 t342.length t342 := (Kd.R_reads' HO_5.out).2.2
            have hcut54 := cut_to (P := Tryd.prog) 22 26 .i64 Tryd.underlying22 hi054 Ao55 t342.length co55 (l0_1.length : Int) (of_decide_eq_true dS) q54 hroom54
            have hr54 := Kd.C_take (m := ((l0_1.length : Int) : Int).toNat) hC54 (by omega)
            have hy54 : y348.length = ((l0_1.length : Int) : Int).toNat := (by rw [Ny348.out, List.length_take]; omega)
            rw [← Ny348.out] at hr54
            rw [← hy54] at hcut54
            have HR351 := Aside0.mk hr54
            have HC351 := Aside0.mk (show y348.length ≤ co55 from by omega)
            clear hr54 hC54 hroom54 hi054 hsz54
            have KY54 := Aside0.mk hy54
            clear hy54
            have KL54 := Aside0.mk (show ((l0_1.length : Int) : Int).toNat ≤ t342.length from by omega)
            replace q54 := eq_true q54
            obtain ⟨Ao57, co57, eo57⟩ := Kd.R_slice HO_6.out
            (first | subst eo57 | (injection eo57 with f1_ f2_ f3_; have f4_ := f1_.symm; have f5_ := f3_.symm; clear f1_ f2_ f3_; subst f4_; subst f5_))
            have q56 : ((l0_2.length : Int) : Int) ≤ ((t345.length : Int) : Int) := of_decide_eq_true dS
            obtain ⟨i056, hi056, _, hsz56, _⟩ := info_parts info26
            have hroom56 : t345.length ≤ co57 := (Kd.R_reads' HO_6.out).2.1
            have hC56 : Kd.C (Kd.int .u64) _ Ao57 t345.length t345 := (Kd.R_reads' HO_6.out).2.2
            have hcut56 := cut_to (P := Tryd.prog) 22 26 .i64 Tryd.underlying22 hi056 Ao57 t345.length co57 (l0_2.length : Int) (of_decide_eq_true dS) q56 hroom56
            have hr56 := Kd.C_take (m := ((l0_2.length : Int) : Int).toNat) hC56 (by omega)
            have hy56 : y352.length = ((l0_2.length : Int) : Int).toNat := (by rw [Ny352.out, List.length_take]; omega)
            rw [← Ny352.out] at hr56
            rw [← hy56] at hcut56
            have HR355 := Aside0.mk hr56
            have HC355 := Aside0.mk (show y352.length ≤ co57 from by omega)
            clear hr56 hC56 hroom56 hi056 hsz56
            have KY56 := Aside0.mk hy56
            clear hy56
            have KL56 := Aside0.mk (show ((l0_2.length : Int) : Int).toNat ≤ t345.length from by omega)
            replace q56 := eq_true q56
            refine start_ (n := 19) (S := fun w' => w'.cell? ⟨gb341, 0, none⟩ = some (.bool a0_0) ∧ w'.cell? ⟨gb341, 1, none⟩ = some (.slice A0_1 l0_1.length c0_1) ∧ w'.cell? ⟨gb341, 2, none⟩ = some (.slice A0_2 l0_2.length c0_2)) (ds := []) #[false, false, false, false, false, false, false, false, false, false, false, false, false, false, false, false, false, false, false] (by kernel_rfl) rfl rfl ⟨(blk_cell BK341.out 0).trans rfl, (blk_cell BK341.out 1).trans rfl, (blk_cell BK341.out 2).trans rfl⟩ (fun hHeld => ?_); refine with_tabW plumblaw07_NearQuotients.tab9 plumblaw07_NearQuotients.bits9 (fun HT_ HW_ => ?_)
            generalize wc.drew = w53 at HO_5 HO_6 BK341 HB HR351 HR355 hHeld ⊢
            refine pure_ (i := 0) (N := some 33) (v := ?_) (a' := ?_) #[true, false, false, false, false, false, false, false, false, false, false, false, false, false, false, false, false, false, false] rfl rfl dT (fun _ _ _ h => h) (Or.inl ⟨by rfl, ?_⟩) ?_ ?_
            rotate_left
            ·intro w'
             go_simp
             with_reducible rfl
            rotate_left
            ·simp only [Act.put, List.setIfInBounds_toArray, List.set_cons_zero, List.set_cons_succ, i64_w, i32_w]
             rfl
            refine pure_ (i := 2) (N := some 35) (v := ?_) (a' := ?_) #[true, false, true, false, false, false, false, false, false, false, false, false, false, false, false, false, false, false, false] rfl rfl dT (fun _ _ _ h => h) (Or.inl ⟨by rfl, ?_⟩) ?_ ?_
            rotate_left
            ·intro w'
             go_simp
             with_reducible rfl
            rotate_left
            ·simp only [Act.put, List.setIfInBounds_toArray, List.set_cons_zero, List.set_cons_succ, i64_w, i32_w]
             rfl
            refine pure_ (i := 3) (N := some 36) (v := ?_) (a' := ?_) #[true, false, true, true, false, false, false, false, false, false, false, false, false, false, false, false, false, false, false] rfl rfl dT (fun _ _ _ h => h) (Or.inl ⟨by rfl, ?_⟩) ?_ ?_
            rotate_left
            ·intro w'
             go_simp
             with_reducible rfl
            rotate_left
            ·simp only [Act.put, List.setIfInBounds_toArray, List.set_cons_zero, List.set_cons_succ, i64_w, i32_w]
             rfl
            refine pure_ (i := 7) (N := some 40) (v := ?_) (a' := ?_) #[true, false, true, true, false, false, false, true, false, false, false, false, false, false, false, false, false, false, false] rfl rfl dT (fun _ _ _ h => h) (Or.inl ⟨by rfl, ?_⟩) ?_ ?_
            rotate_left
            ·intro w'
             go_simp
             with_reducible rfl
            rotate_left
            ·simp only [Act.put, List.setIfInBounds_toArray, List.set_cons_zero, List.set_cons_succ, i64_w, i32_w]
             rfl
            refine pure_ (i := 8) (N := some 41) (v := ?_) (a' := ?_) #[true, false, true, true, false, false, false, true, true, false, false, false, false, false, false, false, false, false, false] rfl rfl dT (fun _ _ _ h => h) (Or.inl ⟨by rfl, ?_⟩) ?_ ?_
            rotate_left
            ·intro w'
             go_simp
             with_reducible rfl
            rotate_left
            ·simp only [Act.put, List.setIfInBounds_toArray, List.set_cons_zero, List.set_cons_succ, i64_w, i32_w]
             rfl
            refine pure_ (i := 12) (N := some 45) (v := ?_) (a' := ?_) #[true, false, true, true, false, false, false, true, true, false, false, false, true, false, false, false, false, false, false] rfl rfl dT (fun _ _ _ h => h) (Or.inl ⟨by rfl, ?_⟩) ?_ ?_
            rotate_left
            ·intro w'
             go_simp
             with_reducible rfl
            rotate_left
            ·simp only [Act.put, List.setIfInBounds_toArray, List.set_cons_zero, List.set_cons_succ, i64_w, i32_w]
             rfl
            refine take_ (i := 1) (N := some 34) (v := ?_) (a' := ?_) #[true, true, true, true, false, false, false, true, true, false, false, false, true, false, false, false, false, false, false] rfl rfl (take_ofW HT_.out HW_.out (by kernel_rfl)) (fun _ _ _ h => h) (Or.inl ⟨by rfl, ?_⟩) hHeld ?_ ?_
            rotate_left
            ·rintro w' ⟨s0, s1, s2⟩
             go_simp
             with_reducible rfl
            rotate_left
            ·simp only [Act.put, List.setIfInBounds_toArray, List.set_cons_zero, List.set_cons_succ, i64_w, i32_w]
             rfl
            refine take_ (i := 4) (N := some 37) (v := ?_) (a' := ?_) #[true, true, true, true, true, false, false, true, true, false, false, false, true, false, false, false, false, false, false] rfl rfl (take_ofW HT_.out HW_.out (by kernel_rfl)) (fun _ _ _ h => h) (Or.inl ⟨by rfl, ?_⟩) hHeld ?_ ?_
            rotate_left
            ·rintro w' ⟨s0, s1, s2⟩
             go_simp
             with_reducible rfl
            rotate_left
            ·simp only [Act.put, List.setIfInBounds_toArray, List.set_cons_zero, List.set_cons_succ, i64_w, i32_w]
             rfl
            refine pure_ (i := 5) (N := some 38) (v := ?_) (a' := ?_) #[true, true, true, true, true, true, false, true, true, false, false, false, true, false, false, false, false, false, false] rfl rfl dT (fun _ _ _ h => h) (Or.inl ⟨by rfl, ?_⟩) ?_ ?_
            rotate_left
            ·intro w'
             go_simp
             with_reducible rfl
            rotate_left
            ·simp only [Act.put, List.setIfInBounds_toArray, List.set_cons_zero, List.set_cons_succ, i64_w, i32_w]
             rfl
            refine pure_ (i := 6) (N := some 39) (v := ?_) (a' := ?_) #[true, true, true, true, true, true, true, true, true, false, false, false, true, false, false, false, false, false, false] rfl rfl dT (fun _ _ _ h => h) (Or.inl ⟨by rfl, ?_⟩) ?_ ?_
            rotate_left
            ·intro w'
             go_simp
             with_reducible rfl
            rotate_left
            ·simp only [Act.put, List.setIfInBounds_toArray, List.set_cons_zero, List.set_cons_succ, i64_w, i32_w]
             rfl
            refine take_ (i := 9) (N := some 42) (v := ?_) (a' := ?_) #[true, true, true, true, true, true, true, true, true, true, false, false, true, false, false, false, false, false, false] rfl rfl (take_ofW HT_.out HW_.out (by kernel_rfl)) (fun _ _ _ h => h) (Or.inl ⟨by rfl, ?_⟩) hHeld ?_ ?_
            rotate_left
            ·rintro w' ⟨s0, s1, s2⟩
             go_simp
             with_reducible rfl
            rotate_left
            ·simp only [Act.put, List.setIfInBounds_toArray, List.set_cons_zero, List.set_cons_succ, i64_w, i32_w]
             rfl
            refine pure_ (i := 10) (N := some 43) (v := ?_) (a' := ?_) #[true, true, true, true, true, true, true, true, true, true, true, false, true, false, false, false, false, false, false] rfl rfl dT (fun _ _ _ h => h) (Or.inl ⟨by rfl, ?_⟩) ?_ ?_
            rotate_left
            ·intro w'
             go_simp
             with_reducible rfl
            rotate_left
            ·simp only [Act.put, List.setIfInBounds_toArray, List.set_cons_zero, List.set_cons_succ, i64_w, i32_w]
             rfl
            refine pure_ (i := 11) (N := some 44) (v := ?_) (a' := ?_) #[true, true, true, true, true, true, true, true, true, true, true, true, true, false, false, false, false, false, false] rfl rfl dT (fun _ _ _ h => h) (Or.inl ⟨by rfl, ?_⟩) ?_ ?_
            rotate_left
            ·intro w'
             go_simp
             with_reducible rfl
            rotate_left
            ·simp only [Act.put, List.setIfInBounds_toArray, List.set_cons_zero, List.set_cons_succ, i64_w, i32_w]
             rfl
            refine one_ (i := 13) (N := some 46) #[true, true, true, true, true, true, true, true, true, true, true, true, true, true, false, false, false, false, false] rfl rfl (one_of HT_.out (by kernel_rfl)) (by decide) (fun K hK => ?_)
            refine goes_ Tryd.func17 (by kernel_rfl) rfl #[.bool a0_0, .slice Ao55 y348.length co55, .slice Ao57 y352.length co57, .int .i64 x8_10] (by rfl) rfl rfl dA ?_
            with_reducible refine (near_Quotient.calls kj10 a0_0 _ _ y348 _ _ y352 x8_10 t356 t357 _ ?side1 ?side2 ?side3 ?side4 A17.out).mono ?_
            (case side1 => exact dC (by repeat (first | (with_reducible exact HR351.out) | (with_reducible refine Kd.C_alloc ?_ _) | (with_reducible refine Kd.C_drewN ?_ _) | (with_reducible refine Kd.C_drew ?_) | exact HR351.out)))
            (case side2 => exact HC351.out)
            (case side3 => exact dC (by repeat (first | (with_reducible exact HR355.out) | (with_reducible refine Kd.C_alloc ?_ _) | (with_reducible refine Kd.C_drewN ?_ _) | (with_reducible refine Kd.C_drew ?_) | exact HR355.out)))
            (case side4 => exact HC355.out)
            rintro e w58 ⟨rfl, hb⟩
            refine ⟨_, rfl, ?_⟩
            replace HO_5 := Aside0.mk (Kd.R_below (dR HO_5.out) hb)
            replace HO_6 := Aside0.mk (Kd.R_below (dR HO_6.out) hb)
            replace BK341 := Aside0.mk (blk_below (g := gb341) (o := .cells #[.bool a0_0, .slice A0_1 l0_1.length c0_1, .slice A0_2 l0_2.length c0_2] 36 (0, 0)) (dK BK341.out) hb)
            replace HR351 := Aside0.mk (Kd.C_below (by repeat (first | (with_reducible exact HR351.out) | (with_reducible refine Kd.C_alloc ?_ _) | (with_reducible refine Kd.C_drewN ?_ _) | (with_reducible refine Kd.C_drew ?_) | exact HR351.out)) hb)
            replace HR355 := Aside0.mk (Kd.C_below (by repeat (first | (with_reducible exact HR355.out) | (with_reducible refine Kd.C_alloc ?_ _) | (with_reducible refine Kd.C_drewN ?_ _) | (with_reducible refine Kd.C_drew ?_) | exact HR355.out)) hb)
            replace HB := Aside0.mk (below_step (dG GE341.out) hb)
            (try clear hb)
            (try clear hb2)
            (try clear hk)
            (try clear hi)
            refine hK.out _ _ ⟨(blk_cell BK341.out 0).trans rfl, (blk_cell BK341.out 1).trans rfl, (blk_cell BK341.out 2).trans rfl⟩ (fun hHeld => ?_)
            clear hK K
            refine norm_ (a' := ?_) ?_ ?_
            rotate_left
            ·show Act.put _ (some 46) _ = _
             simp only [Act.put, List.setIfInBounds_toArray, List.set_cons_zero, List.set_cons_succ, i64_w, i32_w]
             rfl
            refine pure_ (i := 14) (N := some 32) (v := ?_) (a' := ?_) #[true, true, true, true, true, true, true, true, true, true, true, true, true, true, true, false, false, false, false] rfl rfl dT (fun _ _ _ h => h) (Or.inl ⟨by rfl, ?_⟩) ?_ ?_
            rotate_left
            ·intro w'
             go_simp
             with_reducible rfl
            rotate_left
            ·simp only [Act.put, List.setIfInBounds_toArray, List.set_cons_zero, List.set_cons_succ, i64_w, i32_w]
             rfl
            refine pure_ (i := 15) (N := some 47) (v := ?_) (a' := ?_) #[true, true, true, true, true, true, true, true, true, true, true, true, true, true, true, true, false, false, false] rfl rfl dT (fun _ _ _ h => h) (Or.inl ⟨by rfl, ?_⟩) ?_ ?_
            rotate_left
            ·intro w'
             go_simp
             with_reducible rfl
            rotate_left
            ·simp only [Act.put, List.setIfInBounds_toArray, List.set_cons_zero, List.set_cons_succ, i64_w, i32_w]
             rfl
            refine pure_ (i := 16) (N := some 48) (v := ?_) (a' := ?_) #[true, true, true, true, true, true, true, true, true, true, true, true, true, true, true, true, true, false, false] rfl rfl dT (fun _ _ _ h => h) (Or.inl ⟨by rfl, ?_⟩) ?_ ?_
            rotate_left
            ·intro w'
             go_simp
             with_reducible rfl
            rotate_left
            ·simp only [Act.put, List.setIfInBounds_toArray, List.set_cons_zero, List.set_cons_succ, i64_w, i32_w]
             rfl
            refine pure_ (i := 17) (N := some 9) (v := ?_) (a' := ?_) #[true, true, true, true, true, true, true, true, true, true, true, true, true, true, true, true, true, true, false] rfl rfl dT (fun _ _ _ h => h) (Or.inl ⟨by rfl, ?_⟩) ?_ ?_
            rotate_left
            ·intro w'
             go_simp
             with_reducible rfl
            rotate_left
            ·simp only [Act.put, List.setIfInBounds_toArray, List.set_cons_zero, List.set_cons_succ, i64_w, i32_w]
             rfl
            refine pure_ (i := 18) (N := some 10) (v := ?_) (a' := ?_) #[true, true, true, true, true, true, true, true, true, true, true, true, true, true, true, true, true, true, true] rfl rfl dT (fun _ _ _ h => h) (Or.inl ⟨by rfl, ?_⟩) ?_ ?_
            rotate_left
            ·intro w'
             go_simp
             with_reducible rfl
            rotate_left
            ·simp only [Act.put, List.setIfInBounds_toArray, List.set_cons_zero, List.set_cons_succ, i64_w, i32_w]
             rfl
            refine done_ (done_of HT_.out (by kernel_rfl)) ?_
            have hcz59_0 : w58.cell? ⟨gb341, 0, none⟩ = some (.bool a0_0) := (blk_cell BK341.out 0).trans rfl
            have hcz59_1 : w58.cell? ⟨gb341, 1, none⟩ = some (.slice A0_1 l0_1.length c0_1) := (blk_cell BK341.out 1).trans rfl
            have hcz59_2 : w58.cell? ⟨gb341, 2, none⟩ = some (.slice A0_2 l0_2.length c0_2) := (blk_cell BK341.out 2).trans rfl
            have hfz59_0 := blk_frozen BK341.out 0
            have hfz59_1 := blk_frozen BK341.out 1
            have hfz59_2 := blk_frozen BK341.out 2
            try go_wp2_with (first | ((with_reducible refine gate_callee (f := 18) rfl ?_); refine gL (some 57) Tryd.func18 #[.bool a0_0, .slice A0_1 l0_1.length c0_1, .slice A0_2 l0_2.length c0_2, .int .i64 x8_10] ?_; (with_reducible refine (plumbref07_Quotient.calls kj10 a0_0 _ _ l0_1 _ _ l0_2 x8_10 t358 t359 _ ?side1 ?side2 ?side3 ?side4 A18.out).mono ?_); (case side1 => exact dC (Kd.C_below HR0_1.out HB.out)); (case side2 => exact HC0_1.out); (case side3 => exact dC (Kd.C_below HR0_2.out HB.out)); (case side4 => exact HC0_2.out); rintro e w60 ⟨rfl, hb⟩; refine ⟨_, rfl, ?_⟩; replace HO_5 := Aside0.mk (Kd.R_below (dR HO_5.out) hb); replace HO_6 := Aside0.mk (Kd.R_below (dR HO_6.out) hb); replace BK341 := Aside0.mk (blk_below (g := gb341) (o := .cells #[.bool a0_0, .slice A0_1 l0_1.length c0_1, .slice A0_2 l0_2.length c0_2] 36 (0, 0)) (dK BK341.out) hb); replace HR351 := Aside0.mk (Kd.C_below (by repeat (first | (with_reducible exact HR351.out) | (with_reducible refine Kd.C_alloc ?_ _) | (with_reducible refine Kd.C_drewN ?_ _) | (with_reducible refine Kd.C_drew ?_) | exact HR351.out)) hb); replace HR355 := Aside0.mk (Kd.C_below (by repeat (first | (with_reducible exact HR355.out) | (with_reducible refine Kd.C_alloc ?_ _) | (with_reducible refine Kd.C_drewN ?_ _) | (with_reducible refine Kd.C_drew ?_) | exact HR355.out)) hb); replace HB := Aside0.mk (below_step (dG GE341.out) hb); (try clear hb)) | (go_at_call 15; (with_reducible refine (plumblaw07_num.calls t357 t360 _ A20.out).mono ?_); rintro e w' ⟨rfl, ⟨nd, rfl⟩⟩))
            go_ret
            exact ⟨dE, dG GE341.out⟩
          ·rw [if_neg c19] at H
           have c19b0 : (t356 == t358) = false := beq_eq_false_iff_ne.mpr c19
           have c19b1 : (t356 != t358) = true := bne_iff_ne.mpr c19
           obtain rfl := Option.some.inj H
           try go_wp2
           replace HO_5 := Aside0.mk (Kd.R_drew HO_5.out)
           replace HO_6 := Aside0.mk (Kd.R_drew HO_6.out)
           replace BK341 := Aside0.mk (blk_drew BK341.out)
           replace HB := Aside0.mk (below_drew1 HB.out)
           obtain ⟨Ao63, co63, eo63⟩ := Kd.R_slice HO_5.out
           (first | subst eo63 | (injection eo63 with f1_ f2_ f3_; have f4_ := f1_.symm; have f5_ := f3_.symm; clear f1_ f2_ f3_; subst f4_; subst f5_))
           have q62 : ((l0_1.length : Int) : Int) ≤ ((t342.length : Int) : Int) := of_decide_eq_true dS
           obtain ⟨i062, hi062, _, hsz62, _⟩ := info_parts info26
           have hroom62 : t342.length ≤ co63 := (Kd.R_reads' HO_5.out).2.1
           have hC62 : Kd.C (Kd.int .u64) _ Ao63 t342.length t342 := (Kd.R_reads' HO_5.out).2.2
           have hcut62 := cut_to (P := Tryd.prog) 22 26 .i64 Tryd.underlying22 hi062 Ao63 t342.length co63 (l0_1.length : Int) (of_decide_eq_true dS) q62 hroom62
           have hr62 := Kd.C_take (m := ((l0_1.length : Int) : Int).toNat) hC62 (by omega)
           have hy62 : y348.length = ((l0_1.length : Int) : Int).toNat := (by rw [Ny348.out, List.length_take]; omega)
           rw [← Ny348.out] at hr62
           rw [← hy62] at hcut62
           have HR351 := Aside0.mk hr62
           have HC351 := Aside0.mk (show y348.length ≤ co63 from by omega)
           clear hr62 hC62 hroom62 hi062 hsz62
           have KY62 := Aside0.mk hy62
           clear hy62
           have KL62 := Aside0.mk (show ((l0_1.length : Int) : Int).toNat ≤ t342.length from by omega)
           replace q62 := eq_true q62
           obtain ⟨Ao65, co65, eo65⟩ := Kd.R_slice HO_6.out
           (first | subst eo65 | (injection eo65 with f1_ f2_ f3_; have f4_ := f1_.symm; have f5_ := f3_.symm; clear f1_ f2_ f3_; subst f4_; subst f5_))
           have q64 : ((l0_2.length : Int) : Int) ≤ ((t345.length : Int) : Int) := of_decide_eq_true dS
           obtain ⟨i064, hi064, _, hsz64, _⟩ := info_parts info26
           have hroom64 : t345.length ≤ co65 := (Kd.R_reads' HO_6.out).2.1
           have hC64 : Kd.C (Kd.int .u64) _ Ao65 t345.length t345 := (Kd.R_reads' HO_6.out).2.2
           have hcut64 := cut_to (P := Tryd.prog) 22 26 .i64 Tryd.underlying22 hi064 Ao65 t345.length co65 (l0_2.length : Int) (of_decide_eq_true dS) q64 hroom64
           have hr64 := Kd.C_take (m := ((l0_2.length : Int) : Int).toNat) hC64 (by omega)
           have hy64 : y352.length = ((l0_2.length : Int) : Int).toNat := (by rw [Ny352.out, List.length_take]; omega)
           rw [← Ny352.out] at hr64
           rw [← hy64] at hcut64
           have HR355 := Aside0.mk hr64
           have HC355 := Aside0.mk (show y352.length ≤ co65 from by omega)
           clear hr64 hC64 hroom64 hi064 hsz64
           have KY64 := Aside0.mk hy64
           clear hy64
           have KL64 := Aside0.mk (show ((l0_2.length : Int) : Int).toNat ≤ t345.length from by omega)
           replace q64 := eq_true q64
           refine start_ (n := 19) (S := fun w' => w'.cell? ⟨gb341, 0, none⟩ = some (.bool a0_0) ∧ w'.cell? ⟨gb341, 1, none⟩ = some (.slice A0_1 l0_1.length c0_1) ∧ w'.cell? ⟨gb341, 2, none⟩ = some (.slice A0_2 l0_2.length c0_2)) (ds := []) #[false, false, false, false, false, false, false, false, false, false, false, false, false, false, false, false, false, false, false] (by kernel_rfl) rfl rfl ⟨(blk_cell BK341.out 0).trans rfl, (blk_cell BK341.out 1).trans rfl, (blk_cell BK341.out 2).trans rfl⟩ (fun hHeld => ?_); refine with_tabW plumblaw07_NearQuotients.tab9 plumblaw07_NearQuotients.bits9 (fun HT_ HW_ => ?_)
           generalize wc.drew = w61 at HO_5 HO_6 BK341 HB HR351 HR355 hHeld ⊢
           refine pure_ (i := 0) (N := some 33) (v := ?_) (a' := ?_) #[true, false, false, false, false, false, false, false, false, false, false, false, false, false, false, false, false, false, false] rfl rfl dT (fun _ _ _ h => h) (Or.inl ⟨by rfl, ?_⟩) ?_ ?_
           rotate_left
           ·intro w'
            go_simp
            with_reducible rfl
           rotate_left
           ·simp only [Act.put, List.setIfInBounds_toArray, List.set_cons_zero, List.set_cons_succ, i64_w, i32_w]
            rfl
           refine pure_ (i := 2) (N := some 35) (v := ?_) (a' := ?_) #[true, false, true, false, false, false, false, false, false, false, false, false, false, false, false, false, false, false, false] rfl rfl dT (fun _ _ _ h => h) (Or.inl ⟨by rfl, ?_⟩) ?_ ?_
           rotate_left
           ·intro w'
            go_simp
            with_reducible rfl
           rotate_left
           ·simp only [Act.put, List.setIfInBounds_toArray, List.set_cons_zero, List.set_cons_succ, i64_w, i32_w]
            rfl
           refine pure_ (i := 3) (N := some 36) (v := ?_) (a' := ?_) #[true, false, true, true, false, false, false, false, false, false, false, false, false, false, false, false, false, false, false] rfl rfl dT (fun _ _ _ h => h) (Or.inl ⟨by rfl, ?_⟩) ?_ ?_
           rotate_left
           ·intro w'
            go_simp
            with_reducible rfl
           rotate_left
           ·simp only [Act.put, List.setIfInBounds_toArray, List.set_cons_zero, List.set_cons_succ, i64_w, i32_w]
            rfl
           refine pure_ (i := 7) (N := some 40) (v := ?_) (a' := ?_) #[true, false, true, true, false, false, false, true, false, false, false, false, false, false, false, false, false, false, false] rfl rfl dT (fun _ _ _ h => h) (Or.inl ⟨by rfl, ?_⟩) ?_ ?_
           rotate_left
           ·intro w'
            go_simp
            with_reducible rfl
           rotate_left
           ·simp only [Act.put, List.setIfInBounds_toArray, List.set_cons_zero, List.set_cons_succ, i64_w, i32_w]
            rfl
           refine pure_ (i := 8) (N := some 41) (v := ?_) (a' := ?_) #[true, false, true, true, false, false, false, true, true, false, false, false, false, false, false, false, false, false, false] rfl rfl dT (fun _ _ _ h => h) (Or.inl ⟨by rfl, ?_⟩) ?_ ?_
           rotate_left
           ·intro w'
            go_simp
            with_reducible rfl
           rotate_left
           ·simp only [Act.put, List.setIfInBounds_toArray, List.set_cons_zero, List.set_cons_succ, i64_w, i32_w]
            rfl
           refine pure_ (i := 12) (N := some 45) (v := ?_) (a' := ?_) #[true, false, true, true, false, false, false, true, true, false, false, false, true, false, false, false, false, false, false] rfl rfl dT (fun _ _ _ h => h) (Or.inl ⟨by rfl, ?_⟩) ?_ ?_
           rotate_left
           ·intro w'
            go_simp
            with_reducible rfl
           rotate_left
           ·simp only [Act.put, List.setIfInBounds_toArray, List.set_cons_zero, List.set_cons_succ, i64_w, i32_w]
            rfl
           refine take_ (i := 1) (N := some 34) (v := ?_) (a' := ?_) #[true, true, true, true, false, false, false, true, true, false, false, false, true, false, false, false, false, false, false] rfl rfl (take_ofW HT_.out HW_.out (by kernel_rfl)) (fun _ _ _ h => h) (Or.inl ⟨by rfl, ?_⟩) hHeld ?_ ?_
           rotate_left
           ·rintro w' ⟨s0, s1, s2⟩
            go_simp
            with_reducible rfl
           rotate_left
           ·simp only [Act.put, List.setIfInBounds_toArray, List.set_cons_zero, List.set_cons_succ, i64_w, i32_w]
            rfl
           refine take_ (i := 4) (N := some 37) (v := ?_) (a' := ?_) #[true, true, true, true, true, false, false, true, true, false, false, false, true, false, false, false, false, false, false] rfl rfl (take_ofW HT_.out HW_.out (by kernel_rfl)) (fun _ _ _ h => h) (Or.inl ⟨by rfl, ?_⟩) hHeld ?_ ?_
           rotate_left
           ·rintro w' ⟨s0, s1, s2⟩
            go_simp
            with_reducible rfl
           rotate_left
           ·simp only [Act.put, List.setIfInBounds_toArray, List.set_cons_zero, List.set_cons_succ, i64_w, i32_w]
            rfl
           refine pure_ (i := 5) (N := some 38) (v := ?_) (a' := ?_) #[true, true, true, true, true, true, false, true, true, false, false, false, true, false, false, false, false, false, false] rfl rfl dT (fun _ _ _ h => h) (Or.inl ⟨by rfl, ?_⟩) ?_ ?_
           rotate_left
           ·intro w'
            go_simp
            with_reducible rfl
           rotate_left
           ·simp only [Act.put, List.setIfInBounds_toArray, List.set_cons_zero, List.set_cons_succ, i64_w, i32_w]
            rfl
           refine pure_ (i := 6) (N := some 39) (v := ?_) (a' := ?_) #[true, true, true, true, true, true, true, true, true, false, false, false, true, false, false, false, false, false, false] rfl rfl dT (fun _ _ _ h => h) (Or.inl ⟨by rfl, ?_⟩) ?_ ?_
           rotate_left
           ·intro w'
            go_simp
            with_reducible rfl
           rotate_left
           ·simp only [Act.put, List.setIfInBounds_toArray, List.set_cons_zero, List.set_cons_succ, i64_w, i32_w]
            rfl
           refine take_ (i := 9) (N := some 42) (v := ?_) (a' := ?_) #[true, true, true, true, true, true, true, true, true, true, false, false, true, false, false, false, false, false, false] rfl rfl (take_ofW HT_.out HW_.out (by kernel_rfl)) (fun _ _ _ h => h) (Or.inl ⟨by rfl, ?_⟩) hHeld ?_ ?_
           rotate_left
           ·rintro w' ⟨s0, s1, s2⟩
            go_simp
            with_reducible rfl
           rotate_left
           ·simp only [Act.put, List.setIfInBounds_toArray, List.set_cons_zero, List.set_cons_succ, i64_w, i32_w]
            rfl
           refine pure_ (i := 10) (N := some 43) (v := ?_) (a' := ?_) #[true, true, true, true, true, true, true, true, true, true, true, false, true, false, false, false, false, false, false] rfl rfl dT (fun _ _ _ h => h) (Or.inl ⟨by rfl, ?_⟩) ?_ ?_
           rotate_left
           ·intro w'
            go_simp
            with_reducible rfl
           rotate_left
           ·simp only [Act.put, List.setIfInBounds_toArray, List.set_cons_zero, List.set_cons_succ, i64_w, i32_w]
            rfl
           refine pure_ (i := 11) (N := some 44) (v := ?_) (a' := ?_) #[true, true, true, true, true, true, true, true, true, true, true, true, true, false, false, false, false, false, false] rfl rfl dT (fun _ _ _ h => h) (Or.inl ⟨by rfl, ?_⟩) ?_ ?_
           rotate_left
           ·intro w'
            go_simp
            with_reducible rfl
           rotate_left
           ·simp only [Act.put, List.setIfInBounds_toArray, List.set_cons_zero, List.set_cons_succ, i64_w, i32_w]
            rfl
           refine one_ (i := 13) (N := some 46) #[true, true, true, true, true, true, true, true, true, true, true, true, true, true, false, false, false, false, false] rfl rfl (one_of HT_.out (by kernel_rfl)) (by decide) (fun K hK => ?_)
           refine goes_ Tryd.func17 (by kernel_rfl) rfl #[.bool a0_0, .slice Ao63 y348.length co63, .slice Ao65 y352.length co65, .int .i64 x8_10] (by rfl) rfl rfl dA ?_
           with_reducible refine (near_Quotient.calls kj10 a0_0 _ _ y348 _ _ y352 x8_10 t356 t357 _ ?side1 ?side2 ?side3 ?side4 A17.out).mono ?_
           (case side1 => exact dC (by repeat (first | (with_reducible exact HR351.out) | (with_reducible refine Kd.C_alloc ?_ _) | (with_reducible refine Kd.C_drewN ?_ _) | (with_reducible refine Kd.C_drew ?_) | exact HR351.out)))
           (case side2 => exact HC351.out)
           (case side3 => exact dC (by repeat (first | (with_reducible exact HR355.out) | (with_reducible refine Kd.C_alloc ?_ _) | (with_reducible refine Kd.C_drewN ?_ _) | (with_reducible refine Kd.C_drew ?_) | exact HR355.out)))
           (case side4 => exact HC355.out)
           rintro e w66 ⟨rfl, hb⟩
           refine ⟨_, rfl, ?_⟩
           replace HO_5 := Aside0.mk (Kd.R_below (dR HO_5.out) hb)
           replace HO_6 := Aside0.mk (Kd.R_below (dR HO_6.out) hb)
           replace BK341 := Aside0.mk (blk_below (g := gb341) (o := .cells #[.bool a0_0, .slice A0_1 l0_1.length c0_1, .slice A0_2 l0_2.length c0_2] 36 (0, 0)) (dK BK341.out) hb)
           replace HR351 := Aside0.mk (Kd.C_below (by repeat (first | (with_reducible exact HR351.out) | (with_reducible refine Kd.C_alloc ?_ _) | (with_reducible refine Kd.C_drewN ?_ _) | (with_reducible refine Kd.C_drew ?_) | exact HR351.out)) hb)
           replace HR355 := Aside0.mk (Kd.C_below (by repeat (first | (with_reducible exact HR355.out) | (with_reducible refine Kd.C_alloc ?_ _) | (with_reducible refine Kd.C_drewN ?_ _) | (with_reducible refine Kd.C_drew ?_) | exact HR355.out)) hb)
           replace HB := Aside0.mk (below_step (dG GE341.out) hb)
           (try clear hb)
           (try clear hb2)
           (try clear hk)
           (try clear hi)
           refine hK.out _ _ ⟨(blk_cell BK341.out 0).trans rfl, (blk_cell BK341.out 1).trans rfl, (blk_cell BK341.out 2).trans rfl⟩ (fun hHeld => ?_)
           clear hK K
           refine norm_ (a' := ?_) ?_ ?_
           rotate_left
           ·show Act.put _ (some 46) _ = _
            simp only [Act.put, List.setIfInBounds_toArray, List.set_cons_zero, List.set_cons_succ, i64_w, i32_w]
            rfl
           refine pure_ (i := 14) (N := some 32) (v := ?_) (a' := ?_) #[true, true, true, true, true, true, true, true, true, true, true, true, true, true, true, false, false, false, false] rfl rfl dT (fun _ _ _ h => h) (Or.inl ⟨by rfl, ?_⟩) ?_ ?_
           rotate_left
           ·intro w'
            go_simp
            with_reducible rfl
           rotate_left
           ·simp only [Act.put, List.setIfInBounds_toArray, List.set_cons_zero, List.set_cons_succ, i64_w, i32_w]
            rfl
           refine pure_ (i := 15) (N := some 47) (v := ?_) (a' := ?_) #[true, true, true, true, true, true, true, true, true, true, true, true, true, true, true, true, false, false, false] rfl rfl dT (fun _ _ _ h => h) (Or.inl ⟨by rfl, ?_⟩) ?_ ?_
           rotate_left
           ·intro w'
            go_simp
            with_reducible rfl
           rotate_left
           ·simp only [Act.put, List.setIfInBounds_toArray, List.set_cons_zero, List.set_cons_succ, i64_w, i32_w]
            rfl
           refine pure_ (i := 16) (N := some 48) (v := ?_) (a' := ?_) #[true, true, true, true, true, true, true, true, true, true, true, true, true, true, true, true, true, false, false] rfl rfl dT (fun _ _ _ h => h) (Or.inl ⟨by rfl, ?_⟩) ?_ ?_
           rotate_left
           ·intro w'
            go_simp
            with_reducible rfl
           rotate_left
           ·simp only [Act.put, List.setIfInBounds_toArray, List.set_cons_zero, List.set_cons_succ, i64_w, i32_w]
            rfl
           refine pure_ (i := 17) (N := some 9) (v := ?_) (a' := ?_) #[true, true, true, true, true, true, true, true, true, true, true, true, true, true, true, true, true, true, false] rfl rfl dT (fun _ _ _ h => h) (Or.inl ⟨by rfl, ?_⟩) ?_ ?_
           rotate_left
           ·intro w'
            go_simp
            with_reducible rfl
           rotate_left
           ·simp only [Act.put, List.setIfInBounds_toArray, List.set_cons_zero, List.set_cons_succ, i64_w, i32_w]
            rfl
           refine pure_ (i := 18) (N := some 10) (v := ?_) (a' := ?_) #[true, true, true, true, true, true, true, true, true, true, true, true, true, true, true, true, true, true, true] rfl rfl dT (fun _ _ _ h => h) (Or.inl ⟨by rfl, ?_⟩) ?_ ?_
           rotate_left
           ·intro w'
            go_simp
            with_reducible rfl
           rotate_left
           ·simp only [Act.put, List.setIfInBounds_toArray, List.set_cons_zero, List.set_cons_succ, i64_w, i32_w]
            rfl
           refine done_ (done_of HT_.out (by kernel_rfl)) ?_
           have hcz67_0 : w66.cell? ⟨gb341, 0, none⟩ = some (.bool a0_0) := (blk_cell BK341.out 0).trans rfl
           have hcz67_1 : w66.cell? ⟨gb341, 1, none⟩ = some (.slice A0_1 l0_1.length c0_1) := (blk_cell BK341.out 1).trans rfl
           have hcz67_2 : w66.cell? ⟨gb341, 2, none⟩ = some (.slice A0_2 l0_2.length c0_2) := (blk_cell BK341.out 2).trans rfl
           have hfz67_0 := blk_frozen BK341.out 0
           have hfz67_1 := blk_frozen BK341.out 1
           have hfz67_2 := blk_frozen BK341.out 2
           try go_wp2_with (first | ((with_reducible refine gate_callee (f := 18) rfl ?_); refine gL (some 57) Tryd.func18 #[.bool a0_0, .slice A0_1 l0_1.length c0_1, .slice A0_2 l0_2.length c0_2, .int .i64 x8_10] ?_; (with_reducible refine (plumbref07_Quotient.calls kj10 a0_0 _ _ l0_1 _ _ l0_2 x8_10 t358 t359 _ ?side1 ?side2 ?side3 ?side4 A18.out).mono ?_); (case side1 => exact dC (Kd.C_below HR0_1.out HB.out)); (case side2 => exact HC0_1.out); (case side3 => exact dC (Kd.C_below HR0_2.out HB.out)); (case side4 => exact HC0_2.out); rintro e w68 ⟨rfl, hb⟩; refine ⟨_, rfl, ?_⟩; replace HO_5 := Aside0.mk (Kd.R_below (dR HO_5.out) hb); replace HO_6 := Aside0.mk (Kd.R_below (dR HO_6.out) hb); replace BK341 := Aside0.mk (blk_below (g := gb341) (o := .cells #[.bool a0_0, .slice A0_1 l0_1.length c0_1, .slice A0_2 l0_2.length c0_2] 36 (0, 0)) (dK BK341.out) hb); replace HR351 := Aside0.mk (Kd.C_below (by repeat (first | (with_reducible exact HR351.out) | (with_reducible refine Kd.C_alloc ?_ _) | (with_reducible refine Kd.C_drewN ?_ _) | (with_reducible refine Kd.C_drew ?_) | exact HR351.out)) hb); replace HR355 := Aside0.mk (Kd.C_below (by repeat (first | (with_reducible exact HR355.out) | (with_reducible refine Kd.C_alloc ?_ _) | (with_reducible refine Kd.C_drewN ?_ _) | (with_reducible refine Kd.C_drew ?_) | exact HR355.out)) hb); replace HB := Aside0.mk (below_step (dG GE341.out) hb); (try clear hb)))
           go_ret
           exact ⟨dE, dG GE341.out⟩
         ·rw [if_neg c16] at H
          exact absurd H (by simp)
        ·rw [if_neg c15] at H
         exact absurd H (by simp)
       ·rw [if_neg c14] at H
        exact absurd H (by simp)
      ·rw [if_neg c13] at H
       exact absurd H (by simp)
   ·rw [if_neg c10] at H
    have c10b0 : decide (x7_1 ≤ 5) = false := decide_eq_false c10
    clear c10
    have H' := Aside0.mk H
    clear H
    go_wp2
    go_loopg [13] k1 (fun kq v13 w' => ∃ (x5_2 : List Int) (x13_2 : Int), v13 = .int .i64 x13_2 ∧ Aside0 (plumblaw07_NearQuotients.l1 kq x5_2 t345 x13_2 a0_0 l0_1 l0_2 = some r) ∧ Aside0 (kq ≤ k1) ∧ Aside0 (Kd.R (Kd.int .u64) 26 w' w.heap.size (fun k_ => some k_ ≠ (v346 : Value).ownBlock) v343 x5_2) ∧ Aside0 (Kd.R (Kd.int .u64) 26 w' w.heap.size (fun k_ => some k_ ≠ (v343 : Value).ownBlock) v346 t345) ∧ Aside0 (w'.heap[gb341]? = some (.cells #[.bool a0_0, (.slice A0_1 l0_1.length c0_1), (.slice A0_2 l0_2.length c0_2)] 36 (0, 0))) ∧ Aside0 (Below w.heap.size w w'))
    case atStart => exact ⟨(t342), (0), dF, H', ⟨Nat.le_refl _⟩, ⟨dR HO_5.out⟩, ⟨dR HO_6.out⟩, ⟨dK BK341.out⟩, ⟨dG GE341.out⟩⟩
    case round =>
     clear H'
     try clear c1
     try clear c2
     try clear p2
     try clear q5
     try clear q6
     try clear c10
     try clear c10b0
     try clear c13
     try clear c14
     try clear c15
     try clear c16
     try clear c17
     try clear c18
     try clear c19
     try clear c19b0
     try clear c19b1
     try clear c21
     try clear c21b0
     try clear c21b1
     try clear q54
     try clear q56
     try clear q62
     try clear q64
     try clear hcz50_0
     try clear hcz50_1
     try clear hcz50_2
     try clear hcz52_0
     try clear hcz52_1
     try clear hcz52_2
     try clear hcz59_0
     try clear hcz59_1
     try clear hcz59_2
     try clear hcz67_0
     try clear hcz67_1
     try clear hcz67_2
     try clear hfz50_0
     try clear hfz50_1
     try clear hfz50_2
     try clear hfz52_0
     try clear hfz52_1
     try clear hfz52_2
     try clear hfz59_0
     try clear hfz59_1
     try clear hfz59_2
     try clear hfz67_0
     try clear hfz67_1
     try clear hfz67_2
     try clear q54
     try clear q56
     try clear q62
     try clear q64
     obtain ⟨x5_2, x13_2, rfl, HA, HK2, HO_5, HO_6, BK341, HB⟩ := hrel
     cases gk with
     | zero => exact absurd HA.out (by simp [plumblaw07_NearQuotients.l1])
     | succ k2 =>
      have H := HA.out
      clear HA
      simp only [plumblaw07_NearQuotients.l1] at H
      by_cases c69 : x13_2 < (l0_1.length : Int)
      ·rw [if_pos c69] at H
       have c69b0 : decide (x13_2 < (l0_1.length : Int)) = true := decide_eq_true c69
       clear c69
       by_cases c70 : (0 : Int) ≤ x13_2
       ·rw [if_pos c70] at H
        have c70b0 : decide (0 ≤ x13_2) = true := decide_eq_true c70
        clear c70
        by_cases c71 : x13_2 < (x5_2.length : Int)
        ·rw [if_pos c71] at H
         have c71b0 : decide (x13_2 < (x5_2.length : Int)) = true := decide_eq_true c71
         clear c71
         obtain ⟨y364, hy364⟩ : ∃ y_ : List Int, y_ = (x5_2.set (x13_2 : Int).toNat (Go.bits .xor .u64 18446744073709551615 (rd x5_2 x13_2))) := ⟨_, rfl⟩
         replace H : (plumblaw07_NearQuotients.l1 k2 y364 t345 (wrap64 (x13_2 + 1)) a0_0 l0_1 l0_2) = some r := by first | (rw [hy364]; with_reducible exact H) | (have H2_ := (Option.bind_some _ _).symm.trans H; rw [hy364]; with_reducible exact H2_) | (have H2_ := (Option.bind_some _ _).symm.trans H; with_reducible exact H2_) | with_reducible exact H | (rw [hy364]; exact H) | exact H
         have Ny364 := Aside0.mk hy364
         clear hy364
         have H' := Aside0.mk H
         clear H
         have hcz73_0 : wr.cell? ⟨gb341, 0, none⟩ = some (.bool a0_0) := (blk_cell BK341.out 0).trans rfl
         have hcz73_1 : wr.cell? ⟨gb341, 1, none⟩ = some (.slice A0_1 l0_1.length c0_1) := (blk_cell BK341.out 1).trans rfl
         have hcz73_2 : wr.cell? ⟨gb341, 2, none⟩ = some (.slice A0_2 l0_2.length c0_2) := (blk_cell BK341.out 2).trans rfl
         have hfz73_0 := blk_frozen BK341.out 0
         have hfz73_1 := blk_frozen BK341.out 1
         have hfz73_2 := blk_frozen BK341.out 2
         obtain ⟨Ao74, co74, eo74⟩ := Kd.R_slice HO_5.out
         subst eo74
         have p363 : 0 ≤ (x13_2 : Int) := of_decide_eq_true dS
         have q363 : x13_2 < (x5_2.length : Int) := of_decide_eq_true dS
         obtain ⟨ad363, e363, hx363_0⟩ := Kd.at_int (Kd.R_reads' HO_5.out).2.2 x13_2 p363 q363
         cases e363
         replace p363 := eq_true p363
         replace q363 := eq_true q363
         have p72 : 0 ≤ (x13_2 : Int) := of_decide_eq_true dS
         have q72 : (x13_2 : Int) < ((x5_2.length : Int) : Int) := of_decide_eq_true dS
         obtain ⟨go72, co72, eo72, gb72, gl72, cl72, HG72⟩ := Kd.R_form HO_5.out (by omega)
         (first | cases eo72 | (injection eo72 with ea_ en_ ec_; (first | subst ea_ | (injection ea_ with ea_; subst ea_)); subst ec_; clear en_))
         have GB72 := Aside0.mk gb72
         have GG72 := Aside0.mk HG72
         clear gb72 gl72 HG72
         (first | simp only [add_plain] at hx363_0 | skip)
         obtain ⟨hx72_0, hf72_0⟩ := Kd.R_celln 0 HO_5.out (x13_2 : Int) p72 q72
         replace p72 := eq_true p72
         replace q72 := eq_true q72
         have HP75 := Kd.R_putg HO_5.out (x13_2 : Int) (Go.bits .xor .u64 18446744073709551615 (rd x5_2 x13_2))
         go_wp2_with (first | ((with_reducible refine gate_store (t := 26) (p := 97) rfl ?_); refine store_event (t := 26) (p := 97) (v := ?vo_w76) (w1 := (wr.setCell ⟨go72, (x13_2 : Int).toNat, none⟩ (.int .u64 (Go.bits .xor .u64 18446744073709551615 (rd x5_2 x13_2))))) ?hg ?ho ?hn ?hr ?_; (case ho => rfl); (case hg => rfl); (case hn => rfl); (case hr => first | (go_simp; done) | (go_simp; rfl)); intro w76 hw; have hg : wr.grownBy w76 (some go72) := (by rw [hw]; exact HP75.2); have hp_ : Kd.R (Kd.int .u64) 26 w76 w.heap.size (fun k_ => some k_ ≠ (v346 : Value).ownBlock) (.slice (some ⟨go72, 0, none⟩) x5_2.length co74) y364 := (by rw [hw, Ny364.out]; exact HP75.1); clear HP75; replace HO_6 := Aside0.mk (Kd.R_after (v := (.slice (some ⟨go72, 0, none⟩) x5_2.length co74)) (v1 := (.slice (some ⟨go72, 0, none⟩) x5_2.length co74)) (ok := (fun _ => True)) (by (with_reducible repeat (first | apply Kd.R_alloc | apply Kd.R_drewN | apply Kd.R_drew)); exact Kd.R_mono HO_6.out (fun _ hk => ⟨trivial, hk⟩)) hg (.inl rfl)); replace BK341 := Aside0.mk (blk_grown (g := gb341) (o := .cells #[.bool a0_0, .slice A0_1 l0_1.length c0_1, .slice A0_2 l0_2.length c0_2] 36 (0, 0)) (dK BK341.out) hg (Kd.R_ne HO_5.out BK341.out (by decide))); replace HO_5 := Aside0.mk (hp_); replace HB := Aside0.mk ((by rw [hw]; exact below_set (HB.out) GB72.out : Below w.heap.size w w76)); clear hg hw hp_))
         go_roundg k2
         case measure => have := HK1.out; have := HK2.out; omega
         case rel => exact ⟨(y364), (wrap64 (x13_2 + 1)), dF, H', ⟨by have := HK1.out; have := HK2.out; omega⟩, ⟨dR HO_5.out⟩, ⟨by (with_reducible repeat (first | apply Kd.R_alloc | apply Kd.R_drewN | apply Kd.R_drew)); exact Kd.R_mono HO_6.out (fun _ hk => hk.2)⟩, ⟨dK BK341.out⟩, ⟨dG GE341.out⟩⟩
        ·rw [if_neg c71] at H
         exact absurd H (by simp)
       ·rw [if_neg c70] at H
        exact absurd H (by simp)
      ·rw [if_neg c69] at H
       have c69b0 : decide (x13_2 < (l0_1.length : Int)) = false := decide_eq_false c69
       clear c69
       by_cases c77 : (0 : Int) ≤ (l0_1.length : Int)
       ·rw [if_pos c77] at H
        have c77b0 := eq_true c77
        have c77b1 : decide (0 ≤ (l0_1.length : Int)) = true := decide_eq_true c77
        clear c77
        by_cases c78 : (l0_1.length : Int) ≤ (x5_2.length : Int)
        ·rw [if_pos c78] at H
         have c78b0 := eq_true c78
         have c78b1 : decide ((l0_1.length : Int) ≤ (x5_2.length : Int)) = true := decide_eq_true c78
         clear c78
         obtain ⟨y365, hy365⟩ : ∃ y_ : List Int, y_ = (x5_2.take ((l0_1.length : Int) : Int).toNat) := ⟨_, rfl⟩
         replace H : (if 0 ≤ (l0_2.length : Int) then (if (l0_2.length : Int) ≤ (t345.length : Int) then ((near_Quotient.f k2 a0_0 y365 (t345.take ((l0_2.length : Int) : Int).toNat) 0).bind fun bt373 => ((some (([] : List Int) : List Int)).bind fun y375 => ((some (x5_2.take ((l0_1.length : Int) : Int).toNat : List Int)).bind fun y378 => (if y375.length + y378.length < 17592186044416 then ((plumbref07_Quotient.f k2 a0_0 (y375 ++ y378) l0_2 0).bind fun bt385 => (if bt373.1 = bt385.1 then ((plumblaw07_num.f bt373.2).bind fun t387 => (some (t387 == bt385.2))) else (some false))) else (none))))) else (none)) else (none)) = some r := by first | (rw [hy365]; with_reducible exact H) | (have H2_ := (Option.bind_some _ _).symm.trans H; rw [hy365]; with_reducible exact H2_) | (have H2_ := (Option.bind_some _ _).symm.trans H; with_reducible exact H2_) | with_reducible exact H | (rw [hy365]; exact H) | exact H
         have Ny365 := Aside0.mk hy365
         clear hy365
         by_cases c79 : (0 : Int) ≤ (l0_2.length : Int)
         ·rw [if_pos c79] at H
          have c79b0 := eq_true c79
          have c79b1 : decide (0 ≤ (l0_2.length : Int)) = true := decide_eq_true c79
          clear c79
          by_cases c80 : (l0_2.length : Int) ≤ (t345.length : Int)
          ·rw [if_pos c80] at H
           have c80b0 := eq_true c80
           have c80b1 : decide ((l0_2.length : Int) ≤ (t345.length : Int)) = true := decide_eq_true c80
           clear c80
           obtain ⟨y369, hy369⟩ : ∃ y_ : List Int, y_ = (t345.take ((l0_2.length : Int) : Int).toNat) := ⟨_, rfl⟩
           replace H : ((near_Quotient.f k2 a0_0 y365 y369 0).bind fun bt373 => ((some (([] : List Int) : List Int)).bind fun y375 => ((some (x5_2.take ((l0_1.length : Int) : Int).toNat : List Int)).bind fun y378 => (if y375.length + y378.length < 17592186044416 then ((plumbref07_Quotient.f k2 a0_0 (y375 ++ y378) l0_2 0).bind fun bt385 => (if bt373.1 = bt385.1 then ((plumblaw07_num.f bt373.2).bind fun t387 => (some (t387 == bt385.2))) else (some false))) else (none))))) = some r := by first | (rw [hy369]; with_reducible exact H) | (have H2_ := (Option.bind_some _ _).symm.trans H; rw [hy369]; with_reducible exact H2_) | (have H2_ := (Option.bind_some _ _).symm.trans H; with_reducible exact H2_) | with_reducible exact H | (rw [hy369]; exact H) | exact H
           have Ny369 := Aside0.mk hy369
           clear hy369
           replace H := obe H
           obtain ⟨⟨t373, t374⟩, A810, H⟩ := H
           replace H : ((some (([] : List Int) : List Int)).bind fun y375 => ((some (x5_2.take ((l0_1.length : Int) : Int).toNat : List Int)).bind fun y378 => (if y375.length + y378.length < 17592186044416 then ((plumbref07_Quotient.f k2 a0_0 (y375 ++ y378) l0_2 0).bind fun bt385 => (if t373 = bt385.1 then ((plumblaw07_num.f t374).bind fun t387 => (some (t387 == bt385.2))) else (some false))) else (none)))) = some r := H
           have A81 := Aside0.mk A810
           clear A810
           obtain ⟨y375, hy375⟩ : ∃ y_ : List Int, y_ = (([] : List Int)) := ⟨_, rfl⟩
           replace H : ((some (x5_2.take ((l0_1.length : Int) : Int).toNat : List Int)).bind fun y378 => (if y375.length + y378.length < 17592186044416 then ((plumbref07_Quotient.f k2 a0_0 (y375 ++ y378) l0_2 0).bind fun bt385 => (if t373 = bt385.1 then ((plumblaw07_num.f t374).bind fun t387 => (some (t387 == bt385.2))) else (some false))) else (none))) = some r := by first | (rw [hy375]; with_reducible exact H) | (have H2_ := (Option.bind_some _ _).symm.trans H; rw [hy375]; with_reducible exact H2_) | (have H2_ := (Option.bind_some _ _).symm.trans H; with_reducible exact H2_) | with_reducible exact H | (rw [hy375]; exact H) | exact H
           have Ny375 := Aside0.mk hy375
           clear hy375
           have c82b0 := eq_true (of_decide_eq_true dS : 0 ≤ (l0_1.length : Int))
           have c83b0 := eq_true (of_decide_eq_true dS : (l0_1.length : Int) ≤ (x5_2.length : Int))
           obtain ⟨y378, hy378⟩ : ∃ y_ : List Int, y_ = (x5_2.take ((l0_1.length : Int) : Int).toNat) := ⟨_, rfl⟩
           replace H : (if y375.length + y378.length < 17592186044416 then ((plumbref07_Quotient.f k2 a0_0 (y375 ++ y378) l0_2 0).bind fun bt385 => (if t373 = bt385.1 then ((plumblaw07_num.f t374).bind fun t387 => (some (t387 == bt385.2))) else (some false))) else (none)) = some r := by first | (rw [hy378]; with_reducible exact H) | (have H2_ := (Option.bind_some _ _).symm.trans H; rw [hy378]; with_reducible exact H2_) | (have H2_ := (Option.bind_some _ _).symm.trans H; with_reducible exact H2_) | with_reducible exact H | (rw [hy378]; exact H) | exact H
           have Ny378 := Aside0.mk hy378
           clear hy378
           by_cases c84 : y375.length + y378.length < 17592186044416
           ·rw [if_pos c84] at H
            have LMc84 := Aside0.mk c84
            clear c84
            obtain ⟨y382, hy382⟩ : ∃ y_ : List Int, y_ = (y375 ++ y378) := ⟨_, rfl⟩
            replace H : ((plumbref07_Quotient.f k2 a0_0 y382 l0_2 0).bind fun bt385 => (if t373 = bt385.1 then ((plumblaw07_num.f t374).bind fun t387 => (some (t387 == bt385.2))) else (some false))) = some r := by first | (rw [hy382]; with_reducible exact H) | (have H2_ := (Option.bind_some _ _).symm.trans H; rw [hy382]; with_reducible exact H2_) | (have H2_ := (Option.bind_some _ _).symm.trans H; with_reducible exact H2_) | with_reducible exact H | (rw [hy382]; exact H) | exact H
            have Ny382 := Aside0.mk hy382
            clear hy382
            replace H := obe H
            obtain ⟨⟨t385, t386⟩, A850, H⟩ := H
            replace H : (if t373 = t385 then ((plumblaw07_num.f t374).bind fun t387 => (some (t387 == t386))) else (some false)) = some r := H
            have A85 := Aside0.mk A850
            clear A850
            by_cases c86 : t373 = t385
            ·rw [if_pos c86] at H
             have c86b0 : (t373 == t385) = true := beq_iff_eq.mpr c86
             have c86b1 : (t373 != t385) = false := bne_eq_false_iff_eq.mpr c86
             clear c86
             replace H := obe H
             obtain ⟨t387, A870, H⟩ := H
             replace H : (some (t387 == t386)) = some r := H
             have A87 := Aside0.mk A870
             clear A870
             obtain rfl := Option.some.inj H
             have hcz88_0 : wr.cell? ⟨gb341, 0, none⟩ = some (.bool a0_0) := (blk_cell BK341.out 0).trans rfl
             have hcz88_1 : wr.cell? ⟨gb341, 1, none⟩ = some (.slice A0_1 l0_1.length c0_1) := (blk_cell BK341.out 1).trans rfl
             have hcz88_2 : wr.cell? ⟨gb341, 2, none⟩ = some (.slice A0_2 l0_2.length c0_2) := (blk_cell BK341.out 2).trans rfl
             have hfz88_0 := blk_frozen BK341.out 0
             have hfz88_1 := blk_frozen BK341.out 1
             have hfz88_2 := blk_frozen BK341.out 2
             try go_wp2
             replace HO_5 := Aside0.mk (Kd.R_drew HO_5.out)
             replace HO_6 := Aside0.mk (Kd.R_drew HO_6.out)
             replace BK341 := Aside0.mk (blk_drew BK341.out)
             replace HB := Aside0.mk (below_drew1 HB.out)
             obtain ⟨Ao91, co91, eo91⟩ := Kd.R_slice HO_5.out
             (first | subst eo91 | (injection eo91 with f1_ f2_ f3_; have f4_ := f1_.symm; have f5_ := f3_.symm; clear f1_ f2_ f3_; subst f4_; subst f5_))
             have q90 : ((l0_1.length : Int) : Int) ≤ ((x5_2.length : Int) : Int) := of_decide_eq_true dS
             obtain ⟨i090, hi090, _, hsz90, _⟩ := info_parts info26
             have hroom90 : x5_2.length ≤ co91 := (Kd.R_reads' HO_5.out).2.1
             have hC90 : Kd.C (Kd.int .u64) _ Ao91 x5_2.length x5_2 := (Kd.R_reads' HO_5.out).2.2
             have hcut90 := cut_to (P := Tryd.prog) 22 26 .i64 Tryd.underlying22 hi090 Ao91 x5_2.length co91 (l0_1.length : Int) (of_decide_eq_true dS) q90 hroom90
             have hr90 := Kd.C_take (m := ((l0_1.length : Int) : Int).toNat) hC90 (by omega)
             have hy90 : y365.length = ((l0_1.length : Int) : Int).toNat := (by rw [Ny365.out, List.length_take]; omega)
             rw [← Ny365.out] at hr90
             rw [← hy90] at hcut90
             have HR368 := Aside0.mk hr90
             have HC368 := Aside0.mk (show y365.length ≤ co91 from by omega)
             clear hr90 hC90 hroom90 hi090 hsz90
             have KY90 := Aside0.mk hy90
             clear hy90
             have KL90 := Aside0.mk (show ((l0_1.length : Int) : Int).toNat ≤ x5_2.length from by omega)
             replace q90 := eq_true q90
             obtain ⟨Ao93, co93, eo93⟩ := Kd.R_slice HO_6.out
             (first | subst eo93 | (injection eo93 with f1_ f2_ f3_; have f4_ := f1_.symm; have f5_ := f3_.symm; clear f1_ f2_ f3_; subst f4_; subst f5_))
             have q92 : ((l0_2.length : Int) : Int) ≤ ((t345.length : Int) : Int) := of_decide_eq_true dS
             obtain ⟨i092, hi092, _, hsz92, _⟩ := info_parts info26
             have hroom92 : t345.length ≤ co93 := (Kd.R_reads' HO_6.out).2.1
             have hC92 : Kd.C (Kd.int .u64) _ Ao93 t345.length t345 := (Kd.R_reads' HO_6.out).2.2
             have hcut92 := cut_to (P := Tryd.prog) 22 26 .i64 Tryd.underlying22 hi092 Ao93 t345.length co93 (l0_2.length : Int) (of_decide_eq_true dS) q92 hroom92
             have hr92 := Kd.C_take (m := ((l0_2.length : Int) : Int).toNat) hC92 (by omega)
             have hy92 : y369.length = ((l0_2.length : Int) : Int).toNat := (by rw [Ny369.out, List.length_take]; omega)
             rw [← Ny369.out] at hr92
             rw [← hy92] at hcut92
             have HR372 := Aside0.mk hr92
             have HC372 := Aside0.mk (show y369.length ≤ co93 from by omega)
             clear hr92 hC92 hroom92 hi092 hsz92
             have KY92 := Aside0.mk hy92
             clear hy92
             have KL92 := Aside0.mk (show ((l0_2.length : Int) : Int).toNat ≤ t345.length from by omega)
             replace q92 := eq_true q92
             refine start_ (n := 18) (S := fun w' => w'.cell? ⟨gb341, 0, none⟩ = some (.bool a0_0) ∧ w'.cell? ⟨gb341, 1, none⟩ = some (.slice A0_1 l0_1.length c0_1) ∧ w'.cell? ⟨gb341, 2, none⟩ = some (.slice A0_2 l0_2.length c0_2)) (ds := []) #[false, false, false, false, false, false, false, false, false, false, false, false, false, false, false, false, false, false] (by kernel_rfl) rfl rfl ⟨(blk_cell BK341.out 0).trans rfl, (blk_cell BK341.out 1).trans rfl, (blk_cell BK341.out 2).trans rfl⟩ (fun hHeld => ?_); refine with_tabW plumblaw07_NearQuotients.tab17 plumblaw07_NearQuotients.bits17 (fun HT_ HW_ => ?_)
             generalize wr.drew = w89 at HO_5 HO_6 BK341 HB HR368 HR372 hHeld ⊢
             refine pure_ (i := 0) (N := some 99) (v := ?_) (a' := ?_) #[true, false, false, false, false, false, false, false, false, false, false, false, false, false, false, false, false, false] rfl rfl dT (fun _ _ _ h => h) (Or.inl ⟨by rfl, ?_⟩) ?_ ?_
             rotate_left
             ·intro w'
              go_simp
              with_reducible rfl
             rotate_left
             ·simp only [Act.put, List.setIfInBounds_toArray, List.set_cons_zero, List.set_cons_succ, i64_w, i32_w]
              rfl
             refine pure_ (i := 2) (N := some 101) (v := ?_) (a' := ?_) #[true, false, true, false, false, false, false, false, false, false, false, false, false, false, false, false, false, false] rfl rfl dT (fun _ _ _ h => h) (Or.inl ⟨by rfl, ?_⟩) ?_ ?_
             rotate_left
             ·intro w'
              go_simp
              with_reducible rfl
             rotate_left
             ·simp only [Act.put, List.setIfInBounds_toArray, List.set_cons_zero, List.set_cons_succ, i64_w, i32_w]
              rfl
             refine pure_ (i := 3) (N := some 102) (v := ?_) (a' := ?_) #[true, false, true, true, false, false, false, false, false, false, false, false, false, false, false, false, false, false] rfl rfl dT (fun _ _ _ h => h) (Or.inl ⟨by rfl, ?_⟩) ?_ ?_
             rotate_left
             ·intro w'
              go_simp
              with_reducible rfl
             rotate_left
             ·simp only [Act.put, List.setIfInBounds_toArray, List.set_cons_zero, List.set_cons_succ, i64_w, i32_w]
              rfl
             refine pure_ (i := 7) (N := some 106) (v := ?_) (a' := ?_) #[true, false, true, true, false, false, false, true, false, false, false, false, false, false, false, false, false, false] rfl rfl dT (fun _ _ _ h => h) (Or.inl ⟨by rfl, ?_⟩) ?_ ?_
             rotate_left
             ·intro w'
              go_simp
              with_reducible rfl
             rotate_left
             ·simp only [Act.put, List.setIfInBounds_toArray, List.set_cons_zero, List.set_cons_succ, i64_w, i32_w]
              rfl
             refine pure_ (i := 8) (N := some 107) (v := ?_) (a' := ?_) #[true, false, true, true, false, false, false, true, true, false, false, false, false, false, false, false, false, false] rfl rfl dT (fun _ _ _ h => h) (Or.inl ⟨by rfl, ?_⟩) ?_ ?_
             rotate_left
             ·intro w'
              go_simp
              with_reducible rfl
             rotate_left
             ·simp only [Act.put, List.setIfInBounds_toArray, List.set_cons_zero, List.set_cons_succ, i64_w, i32_w]
              rfl
             refine take_ (i := 1) (N := some 100) (v := ?_) (a' := ?_) #[true, true, true, true, false, false, false, true, true, false, false, false, false, false, false, false, false, false] rfl rfl (take_ofW HT_.out HW_.out (by kernel_rfl)) (fun _ _ _ h => h) (Or.inl ⟨by rfl, ?_⟩) hHeld ?_ ?_
             rotate_left
             ·rintro w' ⟨s0, s1, s2⟩
              go_simp
              with_reducible rfl
             rotate_left
             ·simp only [Act.put, List.setIfInBounds_toArray, List.set_cons_zero, List.set_cons_succ, i64_w, i32_w]
              rfl
             refine take_ (i := 4) (N := some 103) (v := ?_) (a' := ?_) #[true, true, true, true, true, false, false, true, true, false, false, false, false, false, false, false, false, false] rfl rfl (take_ofW HT_.out HW_.out (by kernel_rfl)) (fun _ _ _ h => h) (Or.inl ⟨by rfl, ?_⟩) hHeld ?_ ?_
             rotate_left
             ·rintro w' ⟨s0, s1, s2⟩
              go_simp
              with_reducible rfl
             rotate_left
             ·simp only [Act.put, List.setIfInBounds_toArray, List.set_cons_zero, List.set_cons_succ, i64_w, i32_w]
              rfl
             refine pure_ (i := 5) (N := some 104) (v := ?_) (a' := ?_) #[true, true, true, true, true, true, false, true, true, false, false, false, false, false, false, false, false, false] rfl rfl dT (fun _ _ _ h => h) (Or.inl ⟨by rfl, ?_⟩) ?_ ?_
             rotate_left
             ·intro w'
              go_simp
              with_reducible rfl
             rotate_left
             ·simp only [Act.put, List.setIfInBounds_toArray, List.set_cons_zero, List.set_cons_succ, i64_w, i32_w]
              rfl
             refine pure_ (i := 6) (N := some 105) (v := ?_) (a' := ?_) #[true, true, true, true, true, true, true, true, true, false, false, false, false, false, false, false, false, false] rfl rfl dT (fun _ _ _ h => h) (Or.inl ⟨by rfl, ?_⟩) ?_ ?_
             rotate_left
             ·intro w'
              go_simp
              with_reducible rfl
             rotate_left
             ·simp only [Act.put, List.setIfInBounds_toArray, List.set_cons_zero, List.set_cons_succ, i64_w, i32_w]
              rfl
             refine take_ (i := 9) (N := some 108) (v := ?_) (a' := ?_) #[true, true, true, true, true, true, true, true, true, true, false, false, false, false, false, false, false, false] rfl rfl (take_ofW HT_.out HW_.out (by kernel_rfl)) (fun _ _ _ h => h) (Or.inl ⟨by rfl, ?_⟩) hHeld ?_ ?_
             rotate_left
             ·rintro w' ⟨s0, s1, s2⟩
              go_simp
              with_reducible rfl
             rotate_left
             ·simp only [Act.put, List.setIfInBounds_toArray, List.set_cons_zero, List.set_cons_succ, i64_w, i32_w]
              rfl
             refine pure_ (i := 10) (N := some 109) (v := ?_) (a' := ?_) #[true, true, true, true, true, true, true, true, true, true, true, false, false, false, false, false, false, false] rfl rfl dT (fun _ _ _ h => h) (Or.inl ⟨by rfl, ?_⟩) ?_ ?_
             rotate_left
             ·intro w'
              go_simp
              with_reducible rfl
             rotate_left
             ·simp only [Act.put, List.setIfInBounds_toArray, List.set_cons_zero, List.set_cons_succ, i64_w, i32_w]
              rfl
             refine pure_ (i := 11) (N := some 110) (v := ?_) (a' := ?_) #[true, true, true, true, true, true, true, true, true, true, true, true, false, false, false, false, false, false] rfl rfl dT (fun _ _ _ h => h) (Or.inl ⟨by rfl, ?_⟩) ?_ ?_
             rotate_left
             ·intro w'
              go_simp
              with_reducible rfl
             rotate_left
             ·simp only [Act.put, List.setIfInBounds_toArray, List.set_cons_zero, List.set_cons_succ, i64_w, i32_w]
              rfl
             refine one_ (i := 12) (N := some 111) #[true, true, true, true, true, true, true, true, true, true, true, true, true, false, false, false, false, false] rfl rfl (one_of HT_.out (by kernel_rfl)) (by decide) (fun K hK => ?_)
             refine goes_ Tryd.func17 (by kernel_rfl) rfl #[.bool a0_0, .slice Ao91 y365.length co91, .slice Ao93 y369.length co93, .int .i64 0] (by rfl) rfl rfl dA ?_
             with_reducible refine (near_Quotient.calls k2 a0_0 _ _ y365 _ _ y369 0 t373 t374 _ ?side1 ?side2 ?side3 ?side4 A81.out).mono ?_
             (case side1 => exact dC (by repeat (first | (with_reducible exact HR368.out) | (with_reducible refine Kd.C_alloc ?_ _) | (with_reducible refine Kd.C_drewN ?_ _) | (with_reducible refine Kd.C_drew ?_) | exact HR368.out)))
             (case side2 => exact HC368.out)
             (case side3 => exact dC (by repeat (first | (with_reducible exact HR372.out) | (with_reducible refine Kd.C_alloc ?_ _) | (with_reducible refine Kd.C_drewN ?_ _) | (with_reducible refine Kd.C_drew ?_) | exact HR372.out)))
             (case side4 => exact HC372.out)
             rintro e w94 ⟨rfl, hb⟩
             refine ⟨_, rfl, ?_⟩
             replace HO_5 := Aside0.mk (Kd.R_below (dR HO_5.out) hb)
             replace HO_6 := Aside0.mk (Kd.R_below (dR HO_6.out) hb)
             replace BK341 := Aside0.mk (blk_below (g := gb341) (o := .cells #[.bool a0_0, .slice A0_1 l0_1.length c0_1, .slice A0_2 l0_2.length c0_2] 36 (0, 0)) (dK BK341.out) hb)
             replace HR368 := Aside0.mk (Kd.C_below (by repeat (first | (with_reducible exact HR368.out) | (with_reducible refine Kd.C_alloc ?_ _) | (with_reducible refine Kd.C_drewN ?_ _) | (with_reducible refine Kd.C_drew ?_) | exact HR368.out)) hb)
             replace HR372 := Aside0.mk (Kd.C_below (by repeat (first | (with_reducible exact HR372.out) | (with_reducible refine Kd.C_alloc ?_ _) | (with_reducible refine Kd.C_drewN ?_ _) | (with_reducible refine Kd.C_drew ?_) | exact HR372.out)) hb)
             replace HB := Aside0.mk (below_step (dG GE341.out) hb)
             (try clear hb)
             (try clear hb2)
             (try clear hk)
             (try clear hi)
             refine hK.out _ _ ⟨(blk_cell BK341.out 0).trans rfl, (blk_cell BK341.out 1).trans rfl, (blk_cell BK341.out 2).trans rfl⟩ (fun hHeld => ?_)
             clear hK K
             refine norm_ (a' := ?_) ?_ ?_
             rotate_left
             ·show Act.put _ (some 111) _ = _
              simp only [Act.put, List.setIfInBounds_toArray, List.set_cons_zero, List.set_cons_succ, i64_w, i32_w]
              rfl
             refine pure_ (i := 13) (N := some 98) (v := ?_) (a' := ?_) #[true, true, true, true, true, true, true, true, true, true, true, true, true, true, false, false, false, false] rfl rfl dT (fun _ _ _ h => h) (Or.inl ⟨by rfl, ?_⟩) ?_ ?_
             rotate_left
             ·intro w'
              go_simp
              with_reducible rfl
             rotate_left
             ·simp only [Act.put, List.setIfInBounds_toArray, List.set_cons_zero, List.set_cons_succ, i64_w, i32_w]
              rfl
             refine pure_ (i := 14) (N := some 112) (v := ?_) (a' := ?_) #[true, true, true, true, true, true, true, true, true, true, true, true, true, true, true, false, false, false] rfl rfl dT (fun _ _ _ h => h) (Or.inl ⟨by rfl, ?_⟩) ?_ ?_
             rotate_left
             ·intro w'
              go_simp
              with_reducible rfl
             rotate_left
             ·simp only [Act.put, List.setIfInBounds_toArray, List.set_cons_zero, List.set_cons_succ, i64_w, i32_w]
              rfl
             refine pure_ (i := 15) (N := some 113) (v := ?_) (a' := ?_) #[true, true, true, true, true, true, true, true, true, true, true, true, true, true, true, true, false, false] rfl rfl dT (fun _ _ _ h => h) (Or.inl ⟨by rfl, ?_⟩) ?_ ?_
             rotate_left
             ·intro w'
              go_simp
              with_reducible rfl
             rotate_left
             ·simp only [Act.put, List.setIfInBounds_toArray, List.set_cons_zero, List.set_cons_succ, i64_w, i32_w]
              rfl
             refine pure_ (i := 16) (N := some 14) (v := ?_) (a' := ?_) #[true, true, true, true, true, true, true, true, true, true, true, true, true, true, true, true, true, false] rfl rfl dT (fun _ _ _ h => h) (Or.inl ⟨by rfl, ?_⟩) ?_ ?_
             rotate_left
             ·intro w'
              go_simp
              with_reducible rfl
             rotate_left
             ·simp only [Act.put, List.setIfInBounds_toArray, List.set_cons_zero, List.set_cons_succ, i64_w, i32_w]
              rfl
             refine pure_ (i := 17) (N := some 15) (v := ?_) (a' := ?_) #[true, true, true, true, true, true, true, true, true, true, true, true, true, true, true, true, true, true] rfl rfl dT (fun _ _ _ h => h) (Or.inl ⟨by rfl, ?_⟩) ?_ ?_
             rotate_left
             ·intro w'
              go_simp
              with_reducible rfl
             rotate_left
             ·simp only [Act.put, List.setIfInBounds_toArray, List.set_cons_zero, List.set_cons_succ, i64_w, i32_w]
              rfl
             refine done_ (done_of HT_.out (by kernel_rfl)) ?_
             try go_wp2
             replace HO_5 := Aside0.mk (Kd.R_drew HO_5.out)
             replace HO_6 := Aside0.mk (Kd.R_drew HO_6.out)
             replace BK341 := Aside0.mk (blk_drew BK341.out)
             replace HR368 := Aside0.mk (Kd.C_drew HR368.out)
             replace HR372 := Aside0.mk (Kd.C_drew HR372.out)
             replace HB := Aside0.mk (below_drew1 HB.out)
             have q96 : ((l0_1.length : Int) : Int) ≤ ((x5_2.length : Int) : Int) := of_decide_eq_true dS
             obtain ⟨i096, hi096, _, hsz96, _⟩ := info_parts info26
             have hroom96 : x5_2.length ≤ co91 := (Kd.R_reads' HO_5.out).2.1
             have hC96 : Kd.C (Kd.int .u64) _ Ao91 x5_2.length x5_2 := (Kd.R_reads' HO_5.out).2.2
             have hcut96 := cut_to (P := Tryd.prog) 22 26 .i64 Tryd.underlying22 hi096 Ao91 x5_2.length co91 (l0_1.length : Int) (of_decide_eq_true dS) q96 hroom96
             have hr96 := Kd.C_take (m := ((l0_1.length : Int) : Int).toNat) hC96 (by omega)
             have hy96 : y378.length = ((l0_1.length : Int) : Int).toNat := (by rw [Ny378.out, List.length_take]; omega)
             rw [← Ny378.out] at hr96
             rw [← hy96] at hcut96
             have HR381 := Aside0.mk hr96
             have HC381 := Aside0.mk (show y378.length ≤ co91 from by omega)
             clear hr96 hC96 hroom96 hi096 hsz96
             have KY96 := Aside0.mk hy96
             clear hy96
             have KL96 := Aside0.mk (show ((l0_1.length : Int) : Int).toNat ≤ x5_2.length from by omega)
             replace q96 := eq_true q96
             refine start_ (n := 17) (S := fun w' => w'.cell? ⟨gb341, 0, none⟩ = some (.bool a0_0) ∧ w'.cell? ⟨gb341, 1, none⟩ = some (.slice A0_1 l0_1.length c0_1) ∧ w'.cell? ⟨gb341, 2, none⟩ = some (.slice A0_2 l0_2.length c0_2)) (ds := []) #[false, false, false, false, false, false, false, false, false, false, false, false, false, false, false, false, false] (by kernel_rfl) rfl rfl ⟨(blk_cell BK341.out 0).trans rfl, (blk_cell BK341.out 1).trans rfl, (blk_cell BK341.out 2).trans rfl⟩ (fun hHeld => ?_); refine with_tabW plumblaw07_NearQuotients.tab18 plumblaw07_NearQuotients.bits18 (fun HT_ HW_ => ?_)
             generalize w94.drew = w95 at HO_5 HO_6 BK341 HR368 HR372 HB HR381 hHeld ⊢
             refine pure_ (i := 0) (N := some 115) (v := ?_) (a' := ?_) #[true, false, false, false, false, false, false, false, false, false, false, false, false, false, false, false, false] rfl rfl dT (fun _ _ _ h => h) (Or.inl ⟨by rfl, ?_⟩) ?_ ?_
             rotate_left
             ·intro w'
              go_simp
              with_reducible rfl
             rotate_left
             ·simp only [Act.put, List.setIfInBounds_toArray, List.set_cons_zero, List.set_cons_succ, i64_w, i32_w]
              rfl
             refine pure_ (i := 3) (N := some 118) (v := ?_) (a' := ?_) #[true, false, false, true, false, false, false, false, false, false, false, false, false, false, false, false, false] rfl rfl dT (fun _ _ _ h => h) (Or.inl ⟨by rfl, ?_⟩) ?_ ?_
             rotate_left
             ·intro w'
              go_simp
              with_reducible rfl
             rotate_left
             ·simp only [Act.put, List.setIfInBounds_toArray, List.set_cons_zero, List.set_cons_succ, i64_w, i32_w]
              rfl
             refine pure_ (i := 4) (N := some 119) (v := ?_) (a' := ?_) #[true, false, false, true, true, false, false, false, false, false, false, false, false, false, false, false, false] rfl rfl dT (fun _ _ _ h => h) (Or.inl ⟨by rfl, ?_⟩) ?_ ?_
             rotate_left
             ·intro w'
              go_simp
              with_reducible rfl
             rotate_left
             ·simp only [Act.put, List.setIfInBounds_toArray, List.set_cons_zero, List.set_cons_succ, i64_w, i32_w]
              rfl
             refine pure_ (i := 9) (N := some 124) (v := ?_) (a' := ?_) #[true, false, false, true, true, false, false, false, false, true, false, false, false, false, false, false, false] rfl rfl dT (fun _ _ _ h => h) (Or.inl ⟨by rfl, ?_⟩) ?_ ?_
             rotate_left
             ·intro w'
              go_simp
              with_reducible rfl
             rotate_left
             ·simp only [Act.put, List.setIfInBounds_toArray, List.set_cons_zero, List.set_cons_succ, i64_w, i32_w]
              rfl
             refine take_ (i := 1) (N := some 116) (v := ?_) (a' := ?_) #[true, true, false, true, true, false, false, false, false, true, false, false, false, false, false, false, false] rfl rfl (take_ofW HT_.out HW_.out (by kernel_rfl)) (fun _ _ _ h => h) (Or.inl ⟨by rfl, ?_⟩) hHeld ?_ ?_
             rotate_left
             ·rintro w' ⟨s0, s1, s2⟩
              go_simp
              with_reducible rfl
             rotate_left
             ·simp only [Act.put, List.setIfInBounds_toArray, List.set_cons_zero, List.set_cons_succ, i64_w, i32_w]
              rfl
             refine take_ (i := 5) (N := some 120) (v := ?_) (a' := ?_) #[true, true, false, true, true, true, false, false, false, true, false, false, false, false, false, false, false] rfl rfl (take_ofW HT_.out HW_.out (by kernel_rfl)) (fun _ _ _ h => h) (Or.inl ⟨by rfl, ?_⟩) hHeld ?_ ?_
             rotate_left
             ·rintro w' ⟨s0, s1, s2⟩
              go_simp
              with_reducible rfl
             rotate_left
             ·simp only [Act.put, List.setIfInBounds_toArray, List.set_cons_zero, List.set_cons_succ, i64_w, i32_w]
              rfl
             refine pure_ (i := 6) (N := some 121) (v := ?_) (a' := ?_) #[true, true, false, true, true, true, true, false, false, true, false, false, false, false, false, false, false] rfl rfl dT (fun _ _ _ h => h) (Or.inl ⟨by rfl, ?_⟩) ?_ ?_
             rotate_left
             ·intro w'
              go_simp
              with_reducible rfl
             rotate_left
             ·simp only [Act.put, List.setIfInBounds_toArray, List.set_cons_zero, List.set_cons_succ, i64_w, i32_w]
              rfl
             refine pure_ (i := 7) (N := some 122) (v := ?_) (a' := ?_) #[true, true, false, true, true, true, true, true, false, true, false, false, false, false, false, false, false] rfl rfl dT (fun _ _ _ h => h) (Or.inl ⟨by rfl, ?_⟩) ?_ ?_
             rotate_left
             ·intro w'
              go_simp
              with_reducible rfl
             rotate_left
             ·simp only [Act.put, List.setIfInBounds_toArray, List.set_cons_zero, List.set_cons_succ, i64_w, i32_w]
              rfl
             refine take_ (i := 10) (N := some 125) (v := ?_) (a' := ?_) #[true, true, false, true, true, true, true, true, false, true, true, false, false, false, false, false, false] rfl rfl (take_ofW HT_.out HW_.out (by kernel_rfl)) (fun _ _ _ h => h) (Or.inl ⟨by rfl, ?_⟩) hHeld ?_ ?_
             rotate_left
             ·rintro w' ⟨s0, s1, s2⟩
              go_simp
              with_reducible rfl
             rotate_left
             ·simp only [Act.put, List.setIfInBounds_toArray, List.set_cons_zero, List.set_cons_succ, i64_w, i32_w]
              rfl
             refine one_ (i := 2) (N := some 117) #[true, true, true, true, true, true, true, true, false, true, true, false, false, false, false, false, false] rfl rfl (one_of HT_.out (by kernel_rfl)) (by decide) (fun K hK => ?_)
             refine Kd.R_lit_step (Kd.int .u64) _ 26 ?hg (N := 117) ?hd (xs := ([] : List Int)) (inner := []) (ok := fun _ => True) (okp := fun _ => True) ?hr ?hp (fun _ hk => hk) trivial (Below.refl _ _) (Nat.le_refl _) (by simp) ?_; (case hd => rfl); (case hg => rfl); (case hr => first | (go_simp; done) | (go_simp; rfl)); (case hp => exact (Reps.none _ _))
             intro v376 w97 ho98 hb hg_ hnew_
             clear hg_ hnew_
             (first | rw [← Ny375.out] at ho98 | (simp only [Int.reduceToNat] at ho98; rw [← Ny375.out] at ho98))
             have HO377 := Aside0.mk (Kd.R_lower (Kd.R_new' (Kd.R_new' ho98 (Kd.R_lt (dR HO_5.out))) (Kd.R_lt (dR HO_6.out))) (below_size (dG GE341.out)))
             replace HO_5 := Aside0.mk (Kd.R_elder' (dR HO_5.out) (Kd.R_base ho98) hb)
             replace HO_6 := Aside0.mk (Kd.R_elder' (dR HO_6.out) (Kd.R_base ho98) hb)
             replace BK341 := Aside0.mk (blk_below (g := gb341) (o := .cells #[.bool a0_0, .slice A0_1 l0_1.length c0_1, .slice A0_2 l0_2.length c0_2] 36 (0, 0)) (dK BK341.out) hb)
             replace HR368 := Aside0.mk (Kd.C_below (by repeat (first | (with_reducible exact HR368.out) | (with_reducible refine Kd.C_alloc ?_ _) | (with_reducible refine Kd.C_drewN ?_ _) | (with_reducible refine Kd.C_drew ?_) | exact HR368.out)) hb)
             replace HR372 := Aside0.mk (Kd.C_below (by repeat (first | (with_reducible exact HR372.out) | (with_reducible refine Kd.C_alloc ?_ _) | (with_reducible refine Kd.C_drewN ?_ _) | (with_reducible refine Kd.C_drew ?_) | exact HR372.out)) hb)
             replace HR381 := Aside0.mk (Kd.C_below (by repeat (first | (with_reducible exact HR381.out) | (with_reducible refine Kd.C_alloc ?_ _) | (with_reducible refine Kd.C_drewN ?_ _) | (with_reducible refine Kd.C_drew ?_) | exact HR381.out)) hb)
             replace HB := Aside0.mk (below_step (dG GE341.out) hb)
             clear hb ho98
             refine hK.out _ _ ⟨(blk_cell BK341.out 0).trans rfl, (blk_cell BK341.out 1).trans rfl, (blk_cell BK341.out 2).trans rfl⟩ (fun hHeld => ?_)
             clear hK K
             refine norm_ (a' := ?_) ?_ ?_
             rotate_left
             ·show Act.put _ (some 117) _ = _
              simp only [Act.put, List.setIfInBounds_toArray, List.set_cons_zero, List.set_cons_succ, i64_w, i32_w]
              rfl
             refine one_ (i := 8) (N := some 123) #[true, true, true, true, true, true, true, true, true, true, true, false, false, false, false, false, false] rfl rfl (one_of HT_.out (by kernel_rfl)) (by decide) (fun K hK => ?_)
             have eL_ : y365.length = y378.length := by rw [Ny378.out, Ny365.out]
             refine Kd.R_append_rows_step (Kd.int .u64) (w0 := w) w.heap.size (by rfl) (.tmp 117) (.tmp 122) 22 26 (.int .u64 0) 8 rfl Tryd.underlying22 info26 rfl (by decide) (by omega) v376 y375 y378 _ _ _ (fun k_ => some k_ ≠ (.slice Ao91 x5_2.length co91 : Value).ownBlock ∧ some k_ ≠ (.slice Ao93 t345.length co93 : Value).ownBlock) (fun _ => False) rfl rfl ?aO ?aR (fun _ _ h => h) (fun _ h => h.elim) ?aF ?aB ?aS ?aL ?_
             (case aR => (try rw [eL_]); repeat (first | exact (by repeat (first | (with_reducible exact HR381.out) | (with_reducible refine Kd.C_alloc ?_ _) | (with_reducible refine Kd.C_drewN ?_ _) | (with_reducible refine Kd.C_drew ?_) | exact HR381.out)) | (with_reducible refine Kd.C_alloc ?_ _) | (with_reducible refine Kd.C_drewN ?_ _) | (with_reducible refine Kd.C_drew ?_)))
             (case aB => exact (dG GE341.out))
             (case aF => exact (fun k_ hk => ⟨Kd.fresh' (Kd.R_lt (dR HO_5.out)) k_ hk, Kd.fresh' (Kd.R_lt (dR HO_6.out)) k_ hk⟩))
             (case aO => exact (by (with_reducible repeat (first | apply Kd.R_alloc | apply Kd.R_drewN | apply Kd.R_drew)); exact Kd.R_mono HO377.out (fun _ hk => ⟨hk.1.2, hk.2⟩)))
             (case aS => exact (below_size (dG GE341.out)))
             (case aL => have := LMc84.out; omega)
             intro v383 w99 ho hb hg hat
             rw [← Ny382.out] at ho
             replace BK341 := Aside0.mk (blk_grown (g := gb341) (o := .cells #[.bool a0_0, .slice A0_1 l0_1.length c0_1, .slice A0_2 l0_2.length c0_2] 36 (0, 0)) (dK BK341.out) hg (Kd.R_ne HO377.out BK341.out (by decide)))
             replace HB := Aside0.mk (hb)
             replace HR368 := Aside0.mk ((show Kd.C (Kd.int .u64) w99 Ao91 y365.length y365 from by rw [Ny365.out]; exact Kd.C_take (m := ((l0_1.length : Int) : Int).toNat) ((Kd.R_reads' (Kd.R_after (ok := (fun k_ => some k_ ≠ (.slice Ao93 t345.length co93 : Value).ownBlock)) (dR HO_5.out) hg hat)).2.2) KL90.out))
             replace HR372 := Aside0.mk ((show Kd.C (Kd.int .u64) w99 Ao93 y369.length y369 from by rw [Ny369.out]; exact Kd.C_take (m := ((l0_2.length : Int) : Int).toNat) ((Kd.R_reads' (Kd.R_after (ok := (fun k_ => some k_ ≠ (.slice Ao91 x5_2.length co91 : Value).ownBlock)) (dR HO_6.out) hg hat)).2.2) KL92.out))
             replace HO_6 := Aside0.mk (Kd.R_after (ok := (fun k_ => some k_ ≠ (.slice Ao91 x5_2.length co91 : Value).ownBlock)) (dR HO_6.out) hg hat)
             replace HR381 := Aside0.mk ((show Kd.C (Kd.int .u64) w99 Ao91 y378.length y378 from by rw [Ny378.out]; exact Kd.C_take (m := ((l0_1.length : Int) : Int).toNat) ((Kd.R_reads' (Kd.R_after (ok := (fun k_ => some k_ ≠ (.slice Ao93 t345.length co93 : Value).ownBlock)) (dR HO_5.out) hg hat)).2.2) KL96.out))
             replace HO_5 := Aside0.mk (Kd.R_after (ok := (fun k_ => some k_ ≠ (.slice Ao93 t345.length co93 : Value).ownBlock)) (dR HO_5.out) hg hat)
             have HO384 := Aside0.mk (ho)
             clear HO377
             clear ho hb hg hat
             obtain ⟨Ao100, co100, eo100⟩ := Kd.R_slice HO384.out
             (first | subst eo100 | (injection eo100 with f1_ f2_ f3_; have f4_ := f1_.symm; have f5_ := f3_.symm; clear f1_ f2_ f3_; subst f4_; subst f5_))
             refine hK.out _ _ ⟨(blk_cell BK341.out 0).trans rfl, (blk_cell BK341.out 1).trans rfl, (blk_cell BK341.out 2).trans rfl⟩ (fun hHeld => ?_)
             clear hK K
             refine norm_ (a' := ?_) ?_ ?_
             rotate_left
             ·show Act.put _ (some 123) _ = _
              simp only [Act.put, List.setIfInBounds_toArray, List.set_cons_zero, List.set_cons_succ, i64_w, i32_w]
              rfl
             refine one_ (i := 11) (N := some 126) #[true, true, true, true, true, true, true, true, true, true, true, true, false, false, false, false, false] rfl rfl (one_of HT_.out (by kernel_rfl)) (by decide) (fun K hK => ?_)
             refine goes_ Tryd.func18 (by kernel_rfl) rfl #[.bool a0_0, .slice Ao100 y382.length co100, .slice A0_2 l0_2.length c0_2, .int .i64 0] (by rfl) rfl rfl dA ?_
             with_reducible refine (plumbref07_Quotient.calls k2 a0_0 _ _ y382 _ _ l0_2 0 t385 t386 _ ?side1 ?side2 ?side3 ?side4 A85.out).mono ?_
             (case side1 => exact dC (Kd.R_reads' HO384.out).2.2)
             (case side2 => exact (Kd.R_reads' HO384.out).2.1)
             (case side3 => exact dC (Kd.C_below HR0_2.out HB.out))
             (case side4 => exact HC0_2.out)
             rintro e w101 ⟨rfl, hb⟩
             refine ⟨_, rfl, ?_⟩
             replace HO_5 := Aside0.mk (Kd.R_below (dR HO_5.out) hb)
             replace HO_6 := Aside0.mk (Kd.R_below (dR HO_6.out) hb)
             replace HO384 := Aside0.mk (Kd.R_below (dR HO384.out) hb)
             replace BK341 := Aside0.mk (blk_below (g := gb341) (o := .cells #[.bool a0_0, .slice A0_1 l0_1.length c0_1, .slice A0_2 l0_2.length c0_2] 36 (0, 0)) (dK BK341.out) hb)
             replace HR368 := Aside0.mk (Kd.C_below (by repeat (first | (with_reducible exact HR368.out) | (with_reducible refine Kd.C_alloc ?_ _) | (with_reducible refine Kd.C_drewN ?_ _) | (with_reducible refine Kd.C_drew ?_) | exact HR368.out)) hb)
             replace HR372 := Aside0.mk (Kd.C_below (by repeat (first | (with_reducible exact HR372.out) | (with_reducible refine Kd.C_alloc ?_ _) | (with_reducible refine Kd.C_drewN ?_ _) | (with_reducible refine Kd.C_drew ?_) | exact HR372.out)) hb)
             replace HR381 := Aside0.mk (Kd.C_below (by repeat (first | (with_reducible exact HR381.out) | (with_reducible refine Kd.C_alloc ?_ _) | (with_reducible refine Kd.C_drewN ?_ _) | (with_reducible refine Kd.C_drew ?_) | exact HR381.out)) hb)
             replace HB := Aside0.mk (below_step (dG GE341.out) hb)
             (try clear hb)
             (try clear hb2)
             (try clear hk)
             (try clear hi)
             refine hK.out _ _ ⟨(blk_cell BK341.out 0).trans rfl, (blk_cell BK341.out 1).trans rfl, (blk_cell BK341.out 2).trans rfl⟩ (fun hHeld => ?_)
             clear hK K
             refine norm_ (a' := ?_) ?_ ?_
             rotate_left
             ·show Act.put _ (some 126) _ = _
              simp only [Act.put, List.setIfInBounds_toArray, List.set_cons_zero, List.set_cons_succ, i64_w, i32_w]
              rfl
             refine pure_ (i := 12) (N := some 114) (v := ?_) (a' := ?_) #[true, true, true, true, true, true, true, true, true, true, true, true, true, false, false, false, false] rfl rfl dT (fun _ _ _ h => h) (Or.inl ⟨by rfl, ?_⟩) ?_ ?_
             rotate_left
             ·intro w'
              go_simp
              with_reducible rfl
             rotate_left
             ·simp only [Act.put, List.setIfInBounds_toArray, List.set_cons_zero, List.set_cons_succ, i64_w, i32_w]
              rfl
             refine pure_ (i := 13) (N := some 127) (v := ?_) (a' := ?_) #[true, true, true, true, true, true, true, true, true, true, true, true, true, true, false, false, false] rfl rfl dT (fun _ _ _ h => h) (Or.inl ⟨by rfl, ?_⟩) ?_ ?_
             rotate_left
             ·intro w'
              go_simp
              with_reducible rfl
             rotate_left
             ·simp only [Act.put, List.setIfInBounds_toArray, List.set_cons_zero, List.set_cons_succ, i64_w, i32_w]
              rfl
             refine pure_ (i := 14) (N := some 128) (v := ?_) (a' := ?_) #[true, true, true, true, true, true, true, true, true, true, true, true, true, true, true, false, false] rfl rfl dT (fun _ _ _ h => h) (Or.inl ⟨by rfl, ?_⟩) ?_ ?_
             rotate_left
             ·intro w'
              go_simp
              with_reducible rfl
             rotate_left
             ·simp only [Act.put, List.setIfInBounds_toArray, List.set_cons_zero, List.set_cons_succ, i64_w, i32_w]
              rfl
             refine pure_ (i := 15) (N := some 16) (v := ?_) (a' := ?_) #[true, true, true, true, true, true, true, true, true, true, true, true, true, true, true, true, false] rfl rfl dT (fun _ _ _ h => h) (Or.inl ⟨by rfl, ?_⟩) ?_ ?_
             rotate_left
             ·intro w'
              go_simp
              with_reducible rfl
             rotate_left
             ·simp only [Act.put, List.setIfInBounds_toArray, List.set_cons_zero, List.set_cons_succ, i64_w, i32_w]
              rfl
             refine pure_ (i := 16) (N := some 17) (v := ?_) (a' := ?_) #[true, true, true, true, true, true, true, true, true, true, true, true, true, true, true, true, true] rfl rfl dT (fun _ _ _ h => h) (Or.inl ⟨by rfl, ?_⟩) ?_ ?_
             rotate_left
             ·intro w'
              go_simp
              with_reducible rfl
             rotate_left
             ·simp only [Act.put, List.setIfInBounds_toArray, List.set_cons_zero, List.set_cons_succ, i64_w, i32_w]
              rfl
             refine done_ (done_of HT_.out (by kernel_rfl)) ?_
             try go_wp2_with (first | (go_at_call 15; (with_reducible refine (plumblaw07_num.calls t374 t387 _ A87.out).mono ?_); rintro e w' ⟨rfl, ⟨nd, rfl⟩⟩))
             go_ret
             exact ⟨dE, dG GE341.out⟩
            ·rw [if_neg c86] at H
             have c86b0 : (t373 == t385) = false := beq_eq_false_iff_ne.mpr c86
             have c86b1 : (t373 != t385) = true := bne_iff_ne.mpr c86
             obtain rfl := Option.some.inj H
             have hcz102_0 : wr.cell? ⟨gb341, 0, none⟩ = some (.bool a0_0) := (blk_cell BK341.out 0).trans rfl
             have hcz102_1 : wr.cell? ⟨gb341, 1, none⟩ = some (.slice A0_1 l0_1.length c0_1) := (blk_cell BK341.out 1).trans rfl
             have hcz102_2 : wr.cell? ⟨gb341, 2, none⟩ = some (.slice A0_2 l0_2.length c0_2) := (blk_cell BK341.out 2).trans rfl
             have hfz102_0 := blk_frozen BK341.out 0
             have hfz102_1 := blk_frozen BK341.out 1
             have hfz102_2 := blk_frozen BK341.out 2
             try go_wp2
             replace HO_5 := Aside0.mk (Kd.R_drew HO_5.out)
             replace HO_6 := Aside0.mk (Kd.R_drew HO_6.out)
             replace BK341 := Aside0.mk (blk_drew BK341.out)
             replace HB := Aside0.mk (below_drew1 HB.out)
             obtain ⟨Ao105, co105, eo105⟩ := Kd.R_slice HO_5.out
             (first | subst eo105 | (injection eo105 with f1_ f2_ f3_; have f4_ := f1_.symm; have f5_ := f3_.symm; clear f1_ f2_ f3_; subst f4_; subst f5_))
             have q104 : ((l0_1.length : Int) : Int) ≤ ((x5_2.length : Int) : Int) := of_decide_eq_true dS
             obtain ⟨i0104, hi0104, _, hsz104, _⟩ := info_parts info26
             have hroom104 : x5_2.length ≤ co105 := (Kd.R_reads' HO_5.out).2.1
             have hC104 : Kd.C (Kd.int .u64) _ Ao105 x5_2.length x5_2 := (Kd.R_reads' HO_5.out).2.2
             have hcut104 := cut_to (P := Tryd.prog) 22 26 .i64 Tryd.underlying22 hi0104 Ao105 x5_2.length co105 (l0_1.length : Int) (of_decide_eq_true dS) q104 hroom104
             have hr104 := Kd.C_take (m := ((l0_1.length : Int) : Int).toNat) hC104 (by omega)
             have hy104 : y365.length = ((l0_1.length : Int) : Int).toNat := (by rw [Ny365.out, List.length_take]; omega)
             rw [← Ny365.out] at hr104
             rw [← hy104] at hcut104
             have HR368 := Aside0.mk hr104
             have HC368 := Aside0.mk (show y365.length ≤ co105 from by omega)
             clear hr104 hC104 hroom104 hi0104 hsz104
             have KY104 := Aside0.mk hy104
             clear hy104
             have KL104 := Aside0.mk (show ((l0_1.length : Int) : Int).toNat ≤ x5_2.length from by omega)
             replace q104 := eq_true q104
             obtain ⟨Ao107, co107, eo107⟩ := Kd.R_slice HO_6.out
             (first | subst eo107 | (injection eo107 with f1_ f2_ f3_; have f4_ := f1_.symm; have f5_ := f3_.symm; clear f1_ f2_ f3_; subst f4_; subst f5_))
             have q106 : ((l0_2.length : Int) : Int) ≤ ((t345.length : Int) : Int) := of_decide_eq_true dS
             obtain ⟨i0106, hi0106, _, hsz106, _⟩ := info_parts info26
             have hroom106 : t345.length ≤ co107 := (Kd.R_reads' HO_6.out).2.1
             have hC106 : Kd.C (Kd.int .u64) _ Ao107 t345.length t345 := (Kd.R_reads' HO_6.out).2.2
             have hcut106 := cut_to (P := Tryd.prog) 22 26 .i64 Tryd.underlying22 hi0106 Ao107 t345.length co107 (l0_2.length : Int) (of_decide_eq_true dS) q106 hroom106
             have hr106 := Kd.C_take (m := ((l0_2.length : Int) : Int).toNat) hC106 (by omega)
             have hy106 : y369.length = ((l0_2.length : Int) : Int).toNat := (by rw [Ny369.out, List.length_take]; omega)
             rw [← Ny369.out] at hr106
             rw [← hy106] at hcut106
             have HR372 := Aside0.mk hr106
             have HC372 := Aside0.mk (show y369.length ≤ co107 from by omega)
             clear hr106 hC106 hroom106 hi0106 hsz106
             have KY106 := Aside0.mk hy106
             clear hy106
             have KL106 := Aside0.mk (show ((l0_2.length : Int) : Int).toNat ≤ t345.length from by omega)
             replace q106 := eq_true q106
             refine start_ (n := 18) (S := fun w' => w'.cell? ⟨gb341, 0, none⟩ = some (.bool a0_0) ∧ w'.cell? ⟨gb341, 1, none⟩ = some (.slice A0_1 l0_1.length c0_1) ∧ w'.cell? ⟨gb341, 2, none⟩ = some (.slice A0_2 l0_2.length c0_2)) (ds := []) #[false, false, false, false, false, false, false, false, false, false, false, false, false, false, false, false, false, false] (by kernel_rfl) rfl rfl ⟨(blk_cell BK341.out 0).trans rfl, (blk_cell BK341.out 1).trans rfl, (blk_cell BK341.out 2).trans rfl⟩ (fun hHeld => ?_); refine with_tabW plumblaw07_NearQuotients.tab17 plumblaw07_NearQuotients.bits17 (fun HT_ HW_ => ?_)
             generalize wr.drew = w103 at HO_5 HO_6 BK341 HB HR368 HR372 hHeld ⊢
             refine pure_ (i := 0) (N := some 99) (v := ?_) (a' := ?_) #[true, false, false, false, false, false, false, false, false, false, false, false, false, false, false, false, false, false] rfl rfl dT (fun _ _ _ h => h) (Or.inl ⟨by rfl, ?_⟩) ?_ ?_
             rotate_left
             ·intro w'
              go_simp
              with_reducible rfl
             rotate_left
             ·simp only [Act.put, List.setIfInBounds_toArray, List.set_cons_zero, List.set_cons_succ, i64_w, i32_w]
              rfl
             refine pure_ (i := 2) (N := some 101) (v := ?_) (a' := ?_) #[true, false, true, false, false, false, false, false, false, false, false, false, false, false, false, false, false, false] rfl rfl dT (fun _ _ _ h => h) (Or.inl ⟨by rfl, ?_⟩) ?_ ?_
             rotate_left
             ·intro w'
              go_simp
              with_reducible rfl
             rotate_left
             ·simp only [Act.put, List.setIfInBounds_toArray, List.set_cons_zero, List.set_cons_succ, i64_w, i32_w]
              rfl
             refine pure_ (i := 3) (N := some 102) (v := ?_) (a' := ?_) #[true, false, true, true, false, false, false, false, false, false, false, false, false, false, false, false, false, false] rfl rfl dT (fun _ _ _ h => h) (Or.inl ⟨by rfl, ?_⟩) ?_ ?_
             rotate_left
             ·intro w'
              go_simp
              with_reducible rfl
             rotate_left
             ·simp only [Act.put, List.setIfInBounds_toArray, List.set_cons_zero, List.set_cons_succ, i64_w, i32_w]
              rfl
             refine pure_ (i := 7) (N := some 106) (v := ?_) (a' := ?_) #[true, false, true, true, false, false, false, true, false, false, false, false, false, false, false, false, false, false] rfl rfl dT (fun _ _ _ h => h) (Or.inl ⟨by rfl, ?_⟩) ?_ ?_
             rotate_left
             ·intro w'
              go_simp
              with_reducible rfl
             rotate_left
             ·simp only [Act.put, List.setIfInBounds_toArray, List.set_cons_zero, List.set_cons_succ, i64_w, i32_w]
              rfl
             refine pure_ (i := 8) (N := some 107) (v := ?_) (a' := ?_) #[true, false, true, true, false, false, false, true, true, false, false, false, false, false, false, false, false, false] rfl rfl dT (fun _ _ _ h => h) (Or.inl ⟨by rfl, ?_⟩) ?_ ?_
             rotate_left
             ·intro w'
              go_simp
              with_reducible rfl
             rotate_left
             ·simp only [Act.put, List.setIfInBounds_toArray, List.set_cons_zero, List.set_cons_succ, i64_w, i32_w]
              rfl
             refine take_ (i := 1) (N := some 100) (v := ?_) (a' := ?_) #[true, true, true, true, false, false, false, true, true, false, false, false, false, false, false, false, false, false] rfl rfl (take_ofW HT_.out HW_.out (by kernel_rfl)) (fun _ _ _ h => h) (Or.inl ⟨by rfl, ?_⟩) hHeld ?_ ?_
             rotate_left
             ·rintro w' ⟨s0, s1, s2⟩
              go_simp
              with_reducible rfl
             rotate_left
             ·simp only [Act.put, List.setIfInBounds_toArray, List.set_cons_zero, List.set_cons_succ, i64_w, i32_w]
              rfl
             refine take_ (i := 4) (N := some 103) (v := ?_) (a' := ?_) #[true, true, true, true, true, false, false, true, true, false, false, false, false, false, false, false, false, false] rfl rfl (take_ofW HT_.out HW_.out (by kernel_rfl)) (fun _ _ _ h => h) (Or.inl ⟨by rfl, ?_⟩) hHeld ?_ ?_
             rotate_left
             ·rintro w' ⟨s0, s1, s2⟩
              go_simp
              with_reducible rfl
             rotate_left
             ·simp only [Act.put, List.setIfInBounds_toArray, List.set_cons_zero, List.set_cons_succ, i64_w, i32_w]
              rfl
             refine pure_ (i := 5) (N := some 104) (v := ?_) (a' := ?_) #[true, true, true, true, true, true, false, true, true, false, false, false, false, false, false, false, false, false] rfl rfl dT (fun _ _ _ h => h) (Or.inl ⟨by rfl, ?_⟩) ?_ ?_
             rotate_left
             ·intro w'
              go_simp
              with_reducible rfl
             rotate_left
             ·simp only [Act.put, List.setIfInBounds_toArray, List.set_cons_zero, List.set_cons_succ, i64_w, i32_w]
              rfl
             refine pure_ (i := 6) (N := some 105) (v := ?_) (a' := ?_) #[true, true, true, true, true, true, true, true, true, false, false, false, false, false, false, false, false, false] rfl rfl dT (fun _ _ _ h => h) (Or.inl ⟨by rfl, ?_⟩) ?_ ?_
             rotate_left
             ·intro w'
              go_simp
              with_reducible rfl
             rotate_left
             ·simp only [Act.put, List.setIfInBounds_toArray, List.set_cons_zero, List.set_cons_succ, i64_w, i32_w]
              rfl
             refine take_ (i := 9) (N := some 108) (v := ?_) (a' := ?_) #[true, true, true, true, true, true, true, true, true, true, false, false, false, false, false, false, false, false] rfl rfl (take_ofW HT_.out HW_.out (by kernel_rfl)) (fun _ _ _ h => h) (Or.inl ⟨by rfl, ?_⟩) hHeld ?_ ?_
             rotate_left
             ·rintro w' ⟨s0, s1, s2⟩
              go_simp
              with_reducible rfl
             rotate_left
             ·simp only [Act.put, List.setIfInBounds_toArray, List.set_cons_zero, List.set_cons_succ, i64_w, i32_w]
              rfl
             refine pure_ (i := 10) (N := some 109) (v := ?_) (a' := ?_) #[true, true, true, true, true, true, true, true, true, true, true, false, false, false, false, false, false, false] rfl rfl dT (fun _ _ _ h => h) (Or.inl ⟨by rfl, ?_⟩) ?_ ?_
             rotate_left
             ·intro w'
              go_simp
              with_reducible rfl
             rotate_left
             ·simp only [Act.put, List.setIfInBounds_toArray, List.set_cons_zero, List.set_cons_succ, i64_w, i32_w]
              rfl
             refine pure_ (i := 11) (N := some 110) (v := ?_) (a' := ?_) #[true, true, true, true, true, true, true, true, true, true, true, true, false, false, false, false, false, false] rfl rfl dT (fun _ _ _ h => h) (Or.inl ⟨by rfl, ?_⟩) ?_ ?_
             rotate_left
             ·intro w'
              go_simp
              with_reducible rfl
             rotate_left
             ·simp only [Act.put, List.setIfInBounds_toArray, List.set_cons_zero, List.set_cons_succ, i64_w, i32_w]
              rfl
             refine one_ (i := 12) (N := some 111) #[true, true, true, true, true, true, true, true, true, true, true, true, true, false, false, false, false, false] rfl rfl (one_of HT_.out (by kernel_rfl)) (by decide) (fun K hK => ?_)
             refine goes_ Tryd.func17 (by kernel_rfl) rfl #[.bool a0_0, .slice Ao105 y365.length co105, .slice Ao107 y369.length co107, .int .i64 0] (by rfl) rfl rfl dA ?_
             with_reducible refine (near_Quotient.calls k2 a0_0 _ _ y365 _ _ y369 0 t373 t374 _ ?side1 ?side2 ?side3 ?side4 A81.out).mono ?_
             (case side1 => exact dC (by repeat (first | (with_reducible exact HR368.out) | (with_reducible refine Kd.C_alloc ?_ _) | (with_reducible refine Kd.C_drewN ?_ _) | (with_reducible refine Kd.C_drew ?_) | exact HR368.out)))
             (case side2 => exact HC368.out)
             (case side3 => exact dC (by repeat (first | (with_reducible exact HR372.out) | (with_reducible refine Kd.C_alloc ?_ _) | (with_reducible refine Kd.C_drewN ?_ _) | (with_reducible refine Kd.C_drew ?_) | exact HR372.out)))
             (case side4 => exact HC372.out)
             rintro e w108 ⟨rfl, hb⟩
             refine ⟨_, rfl, ?_⟩
             replace HO_5 := Aside0.mk (Kd.R_below (dR HO_5.out) hb)
             replace HO_6 := Aside0.mk (Kd.R_below (dR HO_6.out) hb)
             replace BK341 := Aside0.mk (blk_below (g := gb341) (o := .cells #[.bool a0_0, .slice A0_1 l0_1.length c0_1, .slice A0_2 l0_2.length c0_2] 36 (0, 0)) (dK BK341.out) hb)
             replace HR368 := Aside0.mk (Kd.C_below (by repeat (first | (with_reducible exact HR368.out) | (with_reducible refine Kd.C_alloc ?_ _) | (with_reducible refine Kd.C_drewN ?_ _) | (with_reducible refine Kd.C_drew ?_) | exact HR368.out)) hb)
             replace HR372 := Aside0.mk (Kd.C_below (by repeat (first | (with_reducible exact HR372.out) | (with_reducible refine Kd.C_alloc ?_ _) | (with_reducible refine Kd.C_drewN ?_ _) | (with_reducible refine Kd.C_drew ?_) | exact HR372.out)) hb)
             replace HB := Aside0.mk (below_step (dG GE341.out) hb)
             (try clear hb)
             (try clear hb2)
             (try clear hk)
             (try clear hi)
             refine hK.out _ _ ⟨(blk_cell BK341.out 0).trans rfl, (blk_cell BK341.out 1).trans rfl, (blk_cell BK341.out 2).trans rfl⟩ (fun hHeld => ?_)
             clear hK K
             refine norm_ (a' := ?_) ?_ ?_
             rotate_left
             ·show Act.put _ (some 111) _ = _
              simp only [Act.put, List.setIfInBounds_toArray, List.set_cons_zero, List.set_cons_succ, i64_w, i32_w]
              rfl
             refine pure_ (i := 13) (N := some 98) (v := ?_) (a' := ?_) #[true, true, true, true, true, true, true, true, true, true, true, true, true, true, false, false, false, false] rfl rfl dT (fun _ _ _ h => h) (Or.inl ⟨by rfl, ?_⟩) ?_ ?_
             rotate_left
             ·intro w'
              go_simp
              with_reducible rfl
             rotate_left
             ·simp only [Act.put, List.setIfInBounds_toArray, List.set_cons_zero, List.set_cons_succ, i64_w, i32_w]
              rfl
             refine pure_ (i := 14) (N := some 112) (v := ?_) (a' := ?_) #[true, true, true, true, true, true, true, true, true, true, true, true, true, true, true, false, false, false] rfl rfl dT (fun _ _ _ h => h) (Or.inl ⟨by rfl, ?_⟩) ?_ ?_
             rotate_left
             ·intro w'
              go_simp
              with_reducible rfl
             rotate_left
             ·simp only [Act.put, List.setIfInBounds_toArray, List.set_cons_zero, List.set_cons_succ, i64_w, i32_w]
              rfl
             refine pure_ (i := 15) (N := some 113) (v := ?_) (a' := ?_) #[true, true, true, true, true, true, true, true, true, true, true, true, true, true, true, true, false, false] rfl rfl dT (fun _ _ _ h => h) (Or.inl ⟨by rfl, ?_⟩) ?_ ?_
             rotate_left
             ·intro w'
              go_simp
              with_reducible rfl
             rotate_left
             ·simp only [Act.put, List.setIfInBounds_toArray, List.set_cons_zero, List.set_cons_succ, i64_w, i32_w]
              rfl
             refine pure_ (i := 16) (N := some 14) (v := ?_) (a' := ?_) #[true, true, true, true, true, true, true, true, true, true, true, true, true, true, true, true, true, false] rfl rfl dT (fun _ _ _ h => h) (Or.inl ⟨by rfl, ?_⟩) ?_ ?_
             rotate_left
             ·intro w'
              go_simp
              with_reducible rfl
             rotate_left
             ·simp only [Act.put, List.setIfInBounds_toArray, List.set_cons_zero, List.set_cons_succ, i64_w, i32_w]
              rfl
             refine pure_ (i := 17) (N := some 15) (v := ?_) (a' := ?_) #[true, true, true, true, true, true, true, true, true, true, true, true, true, true, true, true, true, true] rfl rfl dT (fun _ _ _ h => h) (Or.inl ⟨by rfl, ?_⟩) ?_ ?_
             rotate_left
             ·intro w'
              go_simp
              with_reducible rfl
             rotate_left
             ·simp only [Act.put, List.setIfInBounds_toArray, List.set_cons_zero, List.set_cons_succ, i64_w, i32_w]
              rfl
             refine done_ (done_of HT_.out (by kernel_rfl)) ?_
             try go_wp2
             replace HO_5 := Aside0.mk (Kd.R_drew HO_5.out)
             replace HO_6 := Aside0.mk (Kd.R_drew HO_6.out)
             replace BK341 := Aside0.mk (blk_drew BK341.out)
             replace HR368 := Aside0.mk (Kd.C_drew HR368.out)
             replace HR372 := Aside0.mk (Kd.C_drew HR372.out)
             replace HB := Aside0.mk (below_drew1 HB.out)
             have q110 : ((l0_1.length : Int) : Int) ≤ ((x5_2.length : Int) : Int) := of_decide_eq_true dS
             obtain ⟨i0110, hi0110, _, hsz110, _⟩ := info_parts info26
             have hroom110 : x5_2.length ≤ co105 := (Kd.R_reads' HO_5.out).2.1
             have hC110 : Kd.C (Kd.int .u64) _ Ao105 x5_2.length x5_2 := (Kd.R_reads' HO_5.out).2.2
             have hcut110 := cut_to (P := Tryd.prog) 22 26 .i64 Tryd.underlying22 hi0110 Ao105 x5_2.length co105 (l0_1.length : Int) (of_decide_eq_true dS) q110 hroom110
             have hr110 := Kd.C_take (m := ((l0_1.length : Int) : Int).toNat) hC110 (by omega)
             have hy110 : y378.length = ((l0_1.length : Int) : Int).toNat := (by rw [Ny378.out, List.length_take]; omega)
             rw [← Ny378.out] at hr110
             rw [← hy110] at hcut110
             have HR381 := Aside0.mk hr110
             have HC381 := Aside0.mk (show y378.length ≤ co105 from by omega)
             clear hr110 hC110 hroom110 hi0110 hsz110
             have KY110 := Aside0.mk hy110
             clear hy110
             have KL110 := Aside0.mk (show ((l0_1.length : Int) : Int).toNat ≤ x5_2.length from by omega)
             replace q110 := eq_true q110
             refine start_ (n := 17) (S := fun w' => w'.cell? ⟨gb341, 0, none⟩ = some (.bool a0_0) ∧ w'.cell? ⟨gb341, 1, none⟩ = some (.slice A0_1 l0_1.length c0_1) ∧ w'.cell? ⟨gb341, 2, none⟩ = some (.slice A0_2 l0_2.length c0_2)) (ds := []) #[false, false, false, false, false, false, false, false, false, false, false, false, false, false, false, false, false] (by kernel_rfl) rfl rfl ⟨(blk_cell BK341.out 0).trans rfl, (blk_cell BK341.out 1).trans rfl, (blk_cell BK341.out 2).trans rfl⟩ (fun hHeld => ?_); refine with_tabW plumblaw07_NearQuotients.tab18 plumblaw07_NearQuotients.bits18 (fun HT_ HW_ => ?_)
             generalize w108.drew = w109 at HO_5 HO_6 BK341 HR368 HR372 HB HR381 hHeld ⊢
             refine pure_ (i := 0) (N := some 115) (v := ?_) (a' := ?_) #[true, false, false, false, false, false, false, false, false, false, false, false, false, false, false, false, false] rfl rfl dT (fun _ _ _ h => h) (Or.inl ⟨by rfl, ?_⟩) ?_ ?_
             rotate_left
             ·intro w'
              go_simp
              with_reducible rfl
             rotate_left
             ·simp only [Act.put, List.setIfInBounds_toArray, List.set_cons_zero, List.set_cons_succ, i64_w, i32_w]
              rfl
             refine pure_ (i := 3) (N := some 118) (v := ?_) (a' := ?_) #[true, false, false, true, false, false, false, false, false, false, false, false, false, false, false, false, false] rfl rfl dT (fun _ _ _ h => h) (Or.inl ⟨by rfl, ?_⟩) ?_ ?_
             rotate_left
             ·intro w'
              go_simp
              with_reducible rfl
             rotate_left
             ·simp only [Act.put, List.setIfInBounds_toArray, List.set_cons_zero, List.set_cons_succ, i64_w, i32_w]
              rfl
             refine pure_ (i := 4) (N := some 119) (v := ?_) (a' := ?_) #[true, false, false, true, true, false, false, false, false, false, false, false, false, false, false, false, false] rfl rfl dT (fun _ _ _ h => h) (Or.inl ⟨by rfl, ?_⟩) ?_ ?_
             rotate_left
             ·intro w'
              go_simp
              with_reducible rfl
             rotate_left
             ·simp only [Act.put, List.setIfInBounds_toArray, List.set_cons_zero, List.set_cons_succ, i64_w, i32_w]
              rfl
             refine pure_ (i := 9) (N := some 124) (v := ?_) (a' := ?_) #[true, false, false, true, true, false, false, false, false, true, false, false, false, false, false, false, false] rfl rfl dT (fun _ _ _ h => h) (Or.inl ⟨by rfl, ?_⟩) ?_ ?_
             rotate_left
             ·intro w'
              go_simp
              with_reducible rfl
             rotate_left
             ·simp only [Act.put, List.setIfInBounds_toArray, List.set_cons_zero, List.set_cons_succ, i64_w, i32_w]
              rfl
             refine take_ (i := 1) (N := some 116) (v := ?_) (a' := ?_) #[true, true, false, true, true, false, false, false, false, true, false, false, false, false, false, false, false] rfl rfl (take_ofW HT_.out HW_.out (by kernel_rfl)) (fun _ _ _ h => h) (Or.inl ⟨by rfl, ?_⟩) hHeld ?_ ?_
             rotate_left
             ·rintro w' ⟨s0, s1, s2⟩
              go_simp
              with_reducible rfl
             rotate_left
             ·simp only [Act.put, List.setIfInBounds_toArray, List.set_cons_zero, List.set_cons_succ, i64_w, i32_w]
              rfl
             refine take_ (i := 5) (N := some 120) (v := ?_) (a' := ?_) #[true, true, false, true, true, true, false, false, false, true, false, false, false, false, false, false, false] rfl rfl (take_ofW HT_.out HW_.out (by kernel_rfl)) (fun _ _ _ h => h) (Or.inl ⟨by rfl, ?_⟩) hHeld ?_ ?_
             rotate_left
             ·rintro w' ⟨s0, s1, s2⟩
              go_simp
              with_reducible rfl
             rotate_left
             ·simp only [Act.put, List.setIfInBounds_toArray, List.set_cons_zero, List.set_cons_succ, i64_w, i32_w]
              rfl
             refine pure_ (i := 6) (N := some 121) (v := ?_) (a' := ?_) #[true, true, false, true, true, true, true, false, false, true, false, false, false, false, false, false, false] rfl rfl dT (fun _ _ _ h => h) (Or.inl ⟨by rfl, ?_⟩) ?_ ?_
             rotate_left
             ·intro w'
              go_simp
              with_reducible rfl
             rotate_left
             ·simp only [Act.put, List.setIfInBounds_toArray, List.set_cons_zero, List.set_cons_succ, i64_w, i32_w]
              rfl
             refine pure_ (i := 7) (N := some 122) (v := ?_) (a' := ?_) #[true, true, false, true, true, true, true, true, false, true, false, false, false, false, false, false, false] rfl rfl dT (fun _ _ _ h => h) (Or.inl ⟨by rfl, ?_⟩) ?_ ?_
             rotate_left
             ·intro w'
              go_simp
              with_reducible rfl
             rotate_left
             ·simp only [Act.put, List.setIfInBounds_toArray, List.set_cons_zero, List.set_cons_succ, i64_w, i32_w]
              rfl
             refine take_ (i := 10) (N := some 125) (v := ?_) (a' := ?_) #[true, true, false, true, true, true, true, true, false, true, true, false, false, false, false, false, false] rfl rfl (take_ofW HT_.out HW_.out (by kernel_rfl)) (fun _ _ _ h => h) (Or.inl ⟨by rfl, ?_⟩) hHeld ?_ ?_
             rotate_left
             ·rintro w' ⟨s0, s1, s2⟩
              go_simp
              with_reducible rfl
             rotate_left
             ·simp only [Act.put, List.setIfInBounds_toArray, List.set_cons_zero, List.set_cons_succ, i64_w, i32_w]
              rfl
             refine one_ (i := 2) (N := some 117) #[true, true, true, true, true, true, true, true, false, true, true, false, false, false, false, false, false] rfl rfl (one_of HT_.out (by kernel_rfl)) (by decide) (fun K hK => ?_)
             refine Kd.R_lit_step (Kd.int .u64) _ 26 ?hg (N := 117) ?hd (xs := ([] : List Int)) (inner := []) (ok := fun _ => True) (okp := fun _ => True) ?hr ?hp (fun _ hk => hk) trivial (Below.refl _ _) (Nat.le_refl _) (by simp) ?_; (case hd => rfl); (case hg => rfl); (case hr => first | (go_simp; done) | (go_simp; rfl)); (case hp => exact (Reps.none _ _))
             intro v376 w111 ho112 hb hg_ hnew_
             clear hg_ hnew_
             (first | rw [← Ny375.out] at ho112 | (simp only [Int.reduceToNat] at ho112; rw [← Ny375.out] at ho112))
             have HO377 := Aside0.mk (Kd.R_lower (Kd.R_new' (Kd.R_new' ho112 (Kd.R_lt (dR HO_5.out))) (Kd.R_lt (dR HO_6.out))) (below_size (dG GE341.out)))
             replace HO_5 := Aside0.mk (Kd.R_elder' (dR HO_5.out) (Kd.R_base ho112) hb)
             replace HO_6 := Aside0.mk (Kd.R_elder' (dR HO_6.out) (Kd.R_base ho112) hb)
             replace BK341 := Aside0.mk (blk_below (g := gb341) (o := .cells #[.bool a0_0, .slice A0_1 l0_1.length c0_1, .slice A0_2 l0_2.length c0_2] 36 (0, 0)) (dK BK341.out) hb)
             replace HR368 := Aside0.mk (Kd.C_below (by repeat (first | (with_reducible exact HR368.out) | (with_reducible refine Kd.C_alloc ?_ _) | (with_reducible refine Kd.C_drewN ?_ _) | (with_reducible refine Kd.C_drew ?_) | exact HR368.out)) hb)
             replace HR372 := Aside0.mk (Kd.C_below (by repeat (first | (with_reducible exact HR372.out) | (with_reducible refine Kd.C_alloc ?_ _) | (with_reducible refine Kd.C_drewN ?_ _) | (with_reducible refine Kd.C_drew ?_) | exact HR372.out)) hb)
             replace HR381 := Aside0.mk (Kd.C_below (by repeat (first | (with_reducible exact HR381.out) | (with_reducible refine Kd.C_alloc ?_ _) | (with_reducible refine Kd.C_drewN ?_ _) | (with_reducible refine Kd.C_drew ?_) | exact HR381.out)) hb)
             replace HB := Aside0.mk (below_step (dG GE341.out) hb)
             clear hb ho112
             refine hK.out _ _ ⟨(blk_cell BK341.out 0).trans rfl, (blk_cell BK341.out 1).trans rfl, (blk_cell BK341.out 2).trans rfl⟩ (fun hHeld => ?_)
             clear hK K
             refine norm_ (a' := ?_) ?_ ?_
             rotate_left
             ·show Act.put _ (some 117) _ = _
              simp only [Act.put, List.setIfInBounds_toArray, List.set_cons_zero, List.set_cons_succ, i64_w, i32_w]
              rfl
             refine one_ (i := 8) (N := some 123) #[true, true, true, true, true, true, true, true, true, true, true, false, false, false, false, false, false] rfl rfl (one_of HT_.out (by kernel_rfl)) (by decide) (fun K hK => ?_)
             have eL_ : y365.length = y378.length := by rw [Ny378.out, Ny365.out]
             refine Kd.R_append_rows_step (Kd.int .u64) (w0 := w) w.heap.size (by rfl) (.tmp 117) (.tmp 122) 22 26 (.int .u64 0) 8 rfl Tryd.underlying22 info26 rfl (by decide) (by omega) v376 y375 y378 _ _ _ (fun k_ => some k_ ≠ (.slice Ao105 x5_2.length co105 : Value).ownBlock ∧ some k_ ≠ (.slice Ao107 t345.length co107 : Value).ownBlock) (fun _ => False) rfl rfl ?aO ?aR (fun _ _ h => h) (fun _ h => h.elim) ?aF ?aB ?aS ?aL ?_
             (case aR => (try rw [eL_]); repeat (first | exact (by repeat (first | (with_reducible exact HR381.out) | (with_reducible refine Kd.C_alloc ?_ _) | (with_reducible refine Kd.C_drewN ?_ _) | (with_reducible refine Kd.C_drew ?_) | exact HR381.out)) | (with_reducible refine Kd.C_alloc ?_ _) | (with_reducible refine Kd.C_drewN ?_ _) | (with_reducible refine Kd.C_drew ?_)))
             (case aB => exact (dG GE341.out))
             (case aF => exact (fun k_ hk => ⟨Kd.fresh' (Kd.R_lt (dR HO_5.out)) k_ hk, Kd.fresh' (Kd.R_lt (dR HO_6.out)) k_ hk⟩))
             (case aO => exact (by (with_reducible repeat (first | apply Kd.R_alloc | apply Kd.R_drewN | apply Kd.R_drew)); exact Kd.R_mono HO377.out (fun _ hk => ⟨hk.1.2, hk.2⟩)))
             (case aS => exact (below_size (dG GE341.out)))
             (case aL => have := LMc84.out; omega)
             intro v383 w113 ho hb hg hat
             rw [← Ny382.out] at ho
             replace BK341 := Aside0.mk (blk_grown (g := gb341) (o := .cells #[.bool a0_0, .slice A0_1 l0_1.length c0_1, .slice A0_2 l0_2.length c0_2] 36 (0, 0)) (dK BK341.out) hg (Kd.R_ne HO377.out BK341.out (by decide)))
             replace HB := Aside0.mk (hb)
             replace HR368 := Aside0.mk ((show Kd.C (Kd.int .u64) w113 Ao105 y365.length y365 from by rw [Ny365.out]; exact Kd.C_take (m := ((l0_1.length : Int) : Int).toNat) ((Kd.R_reads' (Kd.R_after (ok := (fun k_ => some k_ ≠ (.slice Ao107 t345.length co107 : Value).ownBlock)) (dR HO_5.out) hg hat)).2.2) KL104.out))
             replace HR372 := Aside0.mk ((show Kd.C (Kd.int .u64) w113 Ao107 y369.length y369 from by rw [Ny369.out]; exact Kd.C_take (m := ((l0_2.length : Int) : Int).toNat) ((Kd.R_reads' (Kd.R_after (ok := (fun k_ => some k_ ≠ (.slice Ao105 x5_2.length co105 : Value).ownBlock)) (dR HO_6.out) hg hat)).2.2) KL106.out))
             replace HO_6 := Aside0.mk (Kd.R_after (ok := (fun k_ => some k_ ≠ (.slice Ao105 x5_2.length co105 : Value).ownBlock)) (dR HO_6.out) hg hat)
             replace HR381 := Aside0.mk ((show Kd.C (Kd.int .u64) w113 Ao105 y378.length y378 from by rw [Ny378.out]; exact Kd.C_take (m := ((l0_1.length : Int) : Int).toNat) ((Kd.R_reads' (Kd.R_after (ok := (fun k_ => some k_ ≠ (.slice Ao107 t345.length co107 : Value).ownBlock)) (dR HO_5.out) hg hat)).2.2) KL110.out))
             replace HO_5 := Aside0.mk (Kd.R_after (ok := (fun k_ => some k_ ≠ (.slice Ao107 t345.length co107 : Value).ownBlock)) (dR HO_5.out) hg hat)
             have HO384 := Aside0.mk (ho)
             clear HO377
             clear ho hb hg hat
             obtain ⟨Ao114, co114, eo114⟩ := Kd.R_slice HO384.out
             (first | subst eo114 | (injection eo114 with f1_ f2_ f3_; have f4_ := f1_.symm; have f5_ := f3_.symm; clear f1_ f2_ f3_; subst f4_; subst f5_))
             refine hK.out _ _ ⟨(blk_cell BK341.out 0).trans rfl, (blk_cell BK341.out 1).trans rfl, (blk_cell BK341.out 2).trans rfl⟩ (fun hHeld => ?_)
             clear hK K
             refine norm_ (a' := ?_) ?_ ?_
             rotate_left
             ·show Act.put _ (some 123) _ = _
              simp only [Act.put, List.setIfInBounds_toArray, List.set_cons_zero, List.set_cons_succ, i64_w, i32_w]
              rfl
             refine one_ (i := 11) (N := some 126) #[true, true, true, true, true, true, true, true, true, true, true, true, false, false, false, false, false] rfl rfl (one_of HT_.out (by kernel_rfl)) (by decide) (fun K hK => ?_)
             refine goes_ Tryd.func18 (by kernel_rfl) rfl #[.bool a0_0, .slice Ao114 y382.length co114, .slice A0_2 l0_2.length c0_2, .int .i64 0] (by rfl) rfl rfl dA ?_
             with_reducible refine (plumbref07_Quotient.calls k2 a0_0 _ _ y382 _ _ l0_2 0 t385 t386 _ ?side1 ?side2 ?side3 ?side4 A85.out).mono ?_
             (case side1 => exact dC (Kd.R_reads' HO384.out).2.2)
             (case side2 => exact (Kd.R_reads' HO384.out).2.1)
             (case side3 => exact dC (Kd.C_below HR0_2.out HB.out))
             (case side4 => exact HC0_2.out)
             rintro e w115 ⟨rfl, hb⟩
             refine ⟨_, rfl, ?_⟩
             replace HO_5 := Aside0.mk (Kd.R_below (dR HO_5.out) hb)
             replace HO_6 := Aside0.mk (Kd.R_below (dR HO_6.out) hb)
             replace HO384 := Aside0.mk (Kd.R_below (dR HO384.out) hb)
             replace BK341 := Aside0.mk (blk_below (g := gb341) (o := .cells #[.bool a0_0, .slice A0_1 l0_1.length c0_1, .slice A0_2 l0_2.length c0_2] 36 (0, 0)) (dK BK341.out) hb)
             replace HR368 := Aside0.mk (Kd.C_below (by repeat (first | (with_reducible exact HR368.out) | (with_reducible refine Kd.C_alloc ?_ _) | (with_reducible refine Kd.C_drewN ?_ _) | (with_reducible refine Kd.C_drew ?_) | exact HR368.out)) hb)
             replace HR372 := Aside0.mk (Kd.C_below (by repeat (first | (with_reducible exact HR372.out) | (with_reducible refine Kd.C_alloc ?_ _) | (with_reducible refine Kd.C_drewN ?_ _) | (with_reducible refine Kd.C_drew ?_) | exact HR372.out)) hb)
             replace HR381 := Aside0.mk (Kd.C_below (by repeat (first | (with_reducible exact HR381.out) | (with_reducible refine Kd.C_alloc ?_ _) | (with_reducible refine Kd.C_drewN ?_ _) | (with_reducible refine Kd.C_drew ?_) | exact HR381.out)) hb)
             replace HB := Aside0.mk (below_step (dG GE341.out) hb)
             (try clear hb)
             (try clear hb2)
             (try clear hk)
             (try clear hi)
             refine hK.out _ _ ⟨(blk_cell BK341.out 0).trans rfl, (blk_cell BK341.out 1).trans rfl, (blk_cell BK341.out 2).trans rfl⟩ (fun hHeld => ?_)
             clear hK K
             refine norm_ (a' := ?_) ?_ ?_
             rotate_left
             ·show Act.put _ (some 126) _ = _
              simp only [Act.put, List.setIfInBounds_toArray, List.set_cons_zero, List.set_cons_succ, i64_w, i32_w]
              rfl
             refine pure_ (i := 12) (N := some 114) (v := ?_) (a' := ?_) #[true, true, true, true, true, true, true, true, true, true, true, true, true, false, false, false, false] rfl rfl dT (fun _ _ _ h => h) (Or.inl ⟨by rfl, ?_⟩) ?_ ?_
             rotate_left
             ·intro w'
              go_simp
              with_reducible rfl
             rotate_left
             ·simp only [Act.put, List.setIfInBounds_toArray, List.set_cons_zero, List.set_cons_succ, i64_w, i32_w]
              rfl
             refine pure_ (i := 13) (N := some 127) (v := ?_) (a' := ?_) #[true, true, true, true, true, true, true, true, true, true, true, true, true, true, false, false, false] rfl rfl dT (fun _ _ _ h => h) (Or.inl ⟨by rfl, ?_⟩) ?_ ?_
             rotate_left
             ·intro w'
              go_simp
              with_reducible rfl
             rotate_left
             ·simp only [Act.put, List.setIfInBounds_toArray, List.set_cons_zero, List.set_cons_succ, i64_w, i32_w]
              rfl
             refine pure_ (i := 14) (N := some 128) (v := ?_) (a' := ?_) #[true, true, true, true, true, true, true, true, true, true, true, true, true, true, true, false, false] rfl rfl dT (fun _ _ _ h => h) (Or.inl ⟨by rfl, ?_⟩) ?_ ?_
             rotate_left
             ·intro w'
              go_simp
              with_reducible rfl
             rotate_left
             ·simp only [Act.put, List.setIfInBounds_toArray, List.set_cons_zero, List.set_cons_succ, i64_w, i32_w]
              rfl
             refine pure_ (i := 15) (N := some 16) (v := ?_) (a' := ?_) #[true, true, true, true, true, true, true, true, true, true, true, true, true, true, true, true, false] rfl rfl dT (fun _ _ _ h => h) (Or.inl ⟨by rfl, ?_⟩) ?_ ?_
             rotate_left
             ·intro w'
              go_simp
              with_reducible rfl
             rotate_left
             ·simp only [Act.put, List.setIfInBounds_toArray, List.set_cons_zero, List.set_cons_succ, i64_w, i32_w]
              rfl
             refine pure_ (i := 16) (N := some 17) (v := ?_) (a' := ?_) #[true, true, true, true, true, true, true, true, true, true, true, true, true, true, true, true, true] rfl rfl dT (fun _ _ _ h => h) (Or.inl ⟨by rfl, ?_⟩) ?_ ?_
             rotate_left
             ·intro w'
              go_simp
              with_reducible rfl
             rotate_left
             ·simp only [Act.put, List.setIfInBounds_toArray, List.set_cons_zero, List.set_cons_succ, i64_w, i32_w]
              rfl
             refine done_ (done_of HT_.out (by kernel_rfl)) ?_
             try go_wp2
             go_ret
             exact ⟨dE, dG GE341.out⟩
           ·rw [if_neg c84] at H
            exact absurd H (by simp)
          ·rw [if_neg c80] at H
           exact absurd H (by simp)
         ·rw [if_neg c79] at H
          exact absurd H (by simp)
        ·rw [if_neg c78] at H
         exact absurd H (by simp)
       ·rw [if_neg c77] at H
        exact absurd H (by simp)

end Go.Proofs.YtoefabmlkbhmpaaDoor.PA
