/- A part of the proof (4). -/
import Derived.Test.YtoefabmlkbhmpaaDoorSQ2
import Derived.Test.YtoefabmlkbhmpaaDoorSQ3
namespace Go.Proofs.YtoefabmlkbhmpaaDoor.PA
open Go.RowKit Go.Proofs.YtoefabmlkbhmpaaDoorW.PrintWords Go.Proofs.YtoefabmlkbhmpaaDoorW.PrintLast Go.Proofs.YtoefabmlkbhmpaaDoorW.PrintMore
attribute [local go_sem] max2_int min2_int max_two min_two max_three min_three max_four min_four   -- for this text's walks alone
set_option linter.unusedVariables false
set_option linter.unusedSimpArgs false

/-! ### plumbref03_Word: function 111 -/
def plumbref03_Word.f (k : Nat) (a0 : Int) : Option (List Int) := (plumbref03_Norm.f k (([a0] : List Int))).bind fun t195 => (some t195)
set_option maxHeartbeats 8000000 in
set_option maxRecDepth 100000 in
theorem plumbref03_Word.calls (k : Nat) (a0 : Int) (r : List Int) (w : World) (h : plumbref03_Word.f k a0 = some r) :
  Calls Tryd.prog 111 #[.int .u64 a0] w fun e w' => ∃ v0_ : Value, e = .returned (v0_) ∧ Kd.R (Kd.int .u64) 26 w' w.heap.size (fun _ => True) v0_ r ∧ Below w.heap.size w w' := by
 have HB := Aside0.mk (Below.refl w.heap.size w)
 have H : ((plumbref03_Norm.f k (([a0] : List Int))).bind fun t195 => (some t195)) = some r := h
 clear h
 obtain ⟨y192, hy192⟩ : ∃ y_ : List Int, y_ = (([a0] : List Int)) := ⟨_, rfl⟩
 replace H : ((plumbref03_Norm.f k y192).bind fun t195 => (some t195)) = some r := by first | (rw [hy192]; with_reducible exact H) | (have H2_ := (Option.bind_some _ _).symm.trans H; rw [hy192]; with_reducible exact H2_) | (have H2_ := (Option.bind_some _ _).symm.trans H; with_reducible exact H2_) | with_reducible exact H | (rw [hy192]; exact H) | exact H
 have Ny192 := Aside0.mk hy192
 clear hy192
 replace H := obe H
 obtain ⟨t195, A20, H⟩ := H
 replace H : (some t195) = some r := H
 have A2 := Aside0.mk A20
 clear A20
 obtain rfl := Option.some.inj H
 go_enter Tryd.func111, Tryd.ntmps111
 go_wp2_with (first | ((with_reducible refine gate_dst (N := 4) rfl ?_); refine Kd.R_lit (Kd.int .u64) _ 26 ?hg (N := 4) ?hd (xs := ([a0] : List Int)) (inner := [.int .u64 a0]) (ok := fun _ => True) (okp := fun _ => True) ?hr ?hp (fun _ hk => hk) trivial (Below.refl _ _) (Nat.le_refl _) (by simp) ?_; (case hd => rfl); (case hg => rfl); (case hr => first | (go_simp; done) | (go_simp; rfl)); (case hp => exact (Reps.one (show Kd.M (Kd.int .u64) _ _ _ a0 [.int .u64 a0] from rfl) (Reps.none _ _))); intro v193 w3 ho4 hb hg_ hnew_; clear hg_ hnew_; (first | rw [← Ny192.out] at ho4 | (simp only [Int.reduceToNat] at ho4; rw [← Ny192.out] at ho4)); have HO194 := Aside0.mk (Kd.R_lower ho4 (below_size dB)); replace HB := Aside0.mk (below_step dB hb); clear hb ho4; obtain ⟨Ao5, co5, eo5⟩ := Kd.R_slice HO194.out; subst eo5) | ((with_reducible refine gate_callee (f := 47) rfl ?_); refine gL (some 5) Tryd.func47 #[.slice Ao5 y192.length co5] ?_; (with_reducible refine (plumbref03_Norm.calls k _ _ y192 t195 _ ?side1 ?side2 A2.out).mono ?_); (case side1 => exact dC (Kd.R_reads' HO194.out).2.2); (case side2 => exact (Kd.R_reads' HO194.out).2.1); rintro e w6 ⟨v196, rfl, ho0, hb⟩; refine ⟨_, rfl, ?_⟩; have HO197 := Aside0.mk (Kd.R_lower (Kd.R_new' ho0 (Kd.R_lt (dR HO194.out))) (below_size dB)); replace HO194 := Aside0.mk (Kd.R_elder' (dR HO194.out) (Kd.R_base ho0) hb); replace HB := Aside0.mk (below_step dB hb); (try clear hb); (try clear ho0)))
 go_ret
 exact ⟨_, dE, by (with_reducible repeat (first | apply Kd.R_alloc | apply Kd.R_drewN | apply Kd.R_drew)); exact Kd.R_mono HO197.out (fun _ hk => trivial), dB⟩

/-! ### plumbref03_Shl: function 112 (by hand) -/
mutual
def plumbref03_Shl.l0 : Nat → List Int → Int → List Int → Int → Option (List Int)
 | 0, _, _, _, _ => none
 | k + 1, x0, x1, x5, x6 => if x6 < (wrap64 (Int.tdiv x1 64)) then (if x5.length < 17592186044416 then (plumbref03_Shl.l0 k x0 x1 (x5 ++ [0]) (wrap64 (x6 + 1))) else (none)) else (plumbref03_Shl.l1 k x0 x5 (Int.tmod x1 64) 0 0)
def plumbref03_Shl.l1 : Nat → List Int → List Int → Int → Int → Int → Option (List Int)
 | 0, _, _, _, _, _ => none
 | k + 1, x0, x5, x7, x8, x9 => if x9 < (x0.length : Int) then (if 0 ≤ x9 then (if 0 ≤ x7 then (if x5.length < 17592186044416 then ((some (x5 ++ [Go.bits .or .u64 (shl .u64 (rd x0 x9) x7) x8] : List Int)).bind fun y331 => (if x7 > 0 then (if 0 ≤ (wrap64 (64 - x7)) then (plumbref03_Shl.l1 k x0 y331 x7 (shr .u64 (rd x0 x9) (wrap64 (64 - x7))) (wrap64 (x9 + 1))) else (none)) else (plumbref03_Shl.l1 k x0 y331 x7 0 (wrap64 (x9 + 1))))) else (none)) else (none)) else (none)) else (if x5.length < 17592186044416 then ((plumbref03_Norm.f k (x5 ++ [x8])).bind fun t338 => (some t338)) else (none))
end
def plumbref03_Shl.f (k : Nat) (l0 : List Int) (a1 : Int) : Option (List Int) := plumbref03_Shl.l0 k l0 a1 ([] : List Int) 0
set_option maxHeartbeats 8000000 in
set_option maxRecDepth 100000 in
theorem plumbref03_Shl.calls (k : Nat) (A0 : Option Addr) (c0 : Nat) (l0 : List Int) (a1 : Int) (r : List Int) (w : World) (hr0 : Kd.C (Kd.int .u64) w A0 l0.length l0) (hc0 : l0.length ≤ c0) (h : plumbref03_Shl.f k l0 a1 = some r) :
  Calls Tryd.prog 112 #[.slice A0 l0.length c0, .int .i64 a1] w fun e w' => ∃ v0_ : Value, e = .returned (v0_) ∧ Kd.R (Kd.int .u64) 26 w' w.heap.size (fun _ => True) v0_ r ∧ Below w.heap.size w w' := by
 have HR0 := Aside0.mk hr0
 have HC0 := Aside0.mk hc0
 clear hr0 hc0
 have HB := Aside0.mk (Below.refl w.heap.size w)
 have H : (plumbref03_Shl.l0 k l0 a1 ([] : List Int) 0) = some r := h
 clear h
 have H' := Aside0.mk H
 clear H
 go_enter Tryd.func112, Tryd.ntmps112
 go_wp2
 go_loopg [5, 6] k (fun kq v5 v6 w' => ∃ (x5_1 : List Int) (x6_1 : Int), v6 = .int .i64 x6_1 ∧ Aside0 (plumbref03_Shl.l0 kq l0 a1 x5_1 x6_1 = some r) ∧ Aside0 (kq ≤ k) ∧ Aside0 (Kd.R (Kd.int .u64) 26 w' w.heap.size (fun _ => True) v5 x5_1) ∧ Aside0 (Below w.heap.size w w'))
 case atStart => exact ⟨(([] : List Int)), (0), dF, H', ⟨Nat.le_refl _⟩, ⟨by first | exact Kd.R_nil _ _ _ _ _ | exact Kd.N_nil _ _ _ _ _ | exact Kd.V_nil _ _ _ _ _ | exact Kd.Q_nil _ _ _ _ _ | exact Kd.S_nil _ _ _ _ _⟩, ⟨dB⟩⟩
 case round =>
  clear H'
  try clear p2
  obtain ⟨x5_1, x6_1, rfl, HA, HK1, HO_5, HB⟩ := hrel
  cases gk with
  | zero => exact absurd HA.out (by simp [plumbref03_Shl.l0])
  | succ k1 =>
   have H := HA.out
   clear HA
   simp only [plumbref03_Shl.l0] at H
   by_cases c3 : x6_1 < (wrap64 (Int.tdiv a1 64))
   ·rw [if_pos c3] at H
    have c3b0 : decide (x6_1 < (wrap64 (Int.tdiv a1 64))) = true := decide_eq_true c3
    clear c3
    by_cases c4 : x5_1.length < 17592186044416
    ·rw [if_pos c4] at H
     have LMc4 := Aside0.mk c4
     clear c4
     obtain ⟨y327, hy327⟩ : ∃ y_ : List Int, y_ = (x5_1 ++ [0]) := ⟨_, rfl⟩
     replace H : (plumbref03_Shl.l0 k1 l0 a1 y327 (wrap64 (x6_1 + 1))) = some r := by first | (rw [hy327]; with_reducible exact H) | (have H2_ := (Option.bind_some _ _).symm.trans H; rw [hy327]; with_reducible exact H2_) | (have H2_ := (Option.bind_some _ _).symm.trans H; with_reducible exact H2_) | with_reducible exact H | (rw [hy327]; exact H) | exact H
     have Ny327 := Aside0.mk hy327
     clear hy327
     have H' := Aside0.mk H
     clear H
     go_wp2_with (first | ((with_reducible refine gate_builtin (b := .append) (xs := #[.tmp 16, .tmp 17]) rfl ?_); at_builtin; refine Kd.R_append (Kd.int .u64) (w0 := w) w.heap.size rfl (.tmp 16) (.tmp 17) 22 26 (.int .u64 0) 8 rfl Tryd.underlying22 info26 rfl (by decide) (by omega) u5 x5_1 0 [.int .u64 0] (fun _ => True) (fun _ => False) rfl rfl ?aP (fun _ hk => hk.elim) ?aF ?aO ?aB ?aS ?aL ?_; (case aP => exact rfl); (case aB => exact dB); (case aF => exact (fun _ _ => trivial)); (case aO => exact (dR HO_5.out)); (case aS => exact (below_size dB)); (case aL => have := LMc4.out; omega); intro v328 w5 ho hb hg hat; rw [← Ny327.out] at ho; replace HB := Aside0.mk (hb); have HO329 := Aside0.mk (ho); clear HO_5; clear ho hb hg hat))
     (try subst hji8)
     go_roundg k1
     case measure => have := HK1.out; omega
     case rel => exact ⟨(y327), (wrap64 (x6_1 + 1)), dF, H', ⟨by have := HK1.out; omega⟩, ⟨dR HO329.out⟩, ⟨dB⟩⟩
    ·rw [if_neg c4] at H
     exact absurd H (by simp)
   ·rw [if_neg c3] at H
    have c3b0 : decide (x6_1 < (wrap64 (Int.tdiv a1 64))) = false := decide_eq_false c3
    clear c3
    have H' := Aside0.mk H
    clear H
    go_wp2
    go_loopg [5, 8, 9] k1 (fun kq v5 v8 v9 w' => ∃ (x5_2 : List Int) (x8_2 : Int) (x9_2 : Int), v8 = .int .u64 x8_2 ∧ v9 = .int .i64 x9_2 ∧ Aside0 (plumbref03_Shl.l1 kq l0 x5_2 (Int.tmod a1 64) x8_2 x9_2 = some r) ∧ Aside0 (kq ≤ k1) ∧ Aside0 (Kd.R (Kd.int .u64) 26 w' w.heap.size (fun _ => True) v5 x5_2) ∧ Aside0 (Below w.heap.size w w'))
    case atStart => exact ⟨(x5_1), (0), (0), dF, dF, H', ⟨Nat.le_refl _⟩, ⟨dR HO_5.out⟩, ⟨dB⟩⟩
    case round =>
     clear H'
     try clear p2
     try clear c3
     try clear c3b0
     try clear c4
     try clear p2
     obtain ⟨x5_2, x8_2, x9_2, rfl, rfl, HA, HK2, HO_5, HB⟩ := hrel
     cases gk with
     | zero => exact absurd HA.out (by simp [plumbref03_Shl.l1])
     | succ k2 =>
      have H := HA.out
      clear HA
      simp only [plumbref03_Shl.l1] at H
      by_cases c6 : x9_2 < (l0.length : Int)
      ·rw [if_pos c6] at H
       have c6b0 : decide (x9_2 < (l0.length : Int)) = true := decide_eq_true c6
       clear c6
       by_cases c7 : (0 : Int) ≤ x9_2
       ·rw [if_pos c7] at H
        have c7b0 : decide (0 ≤ x9_2) = true := decide_eq_true c7
        clear c7
        obtain ⟨ji8, hji8⟩ : ∃ j_ : Int, (Int.tmod a1 64) = j_ := ⟨_, rfl⟩
        replace H : (if 0 ≤ (ji8) then (if x5_2.length < 17592186044416 then ((some (x5_2 ++ [Go.bits .or .u64 (shl .u64 (rd l0 x9_2) (ji8)) x8_2] : List Int)).bind fun y331 => (if (ji8) > 0 then (if 0 ≤ (wrap64 (64 - (ji8))) then (plumbref03_Shl.l1 k2 l0 y331 (ji8) (shr .u64 (rd l0 x9_2) (wrap64 (64 - (ji8)))) (wrap64 (x9_2 + 1))) else (none)) else (plumbref03_Shl.l1 k2 l0 y331 (ji8) 0 (wrap64 (x9_2 + 1))))) else (none)) else (none)) = some r := by first | (rw [hji8] at H; exact H) | (simp only [hji8] at H ⊢; exact H)
        by_cases c9 : (0 : Int) ≤ (ji8)
        ·rw [if_pos c9] at H
         have c9b0 := eq_true c9
         have c9b1 : decide (0 ≤ (ji8)) = true := decide_eq_true c9
         clear c9
         obtain ⟨ji10, hji10⟩ : ∃ j_ : Int, (shl .u64 (rd l0 x9_2) (ji8)) = j_ := ⟨_, rfl⟩
         replace H : (if x5_2.length < 17592186044416 then ((some (x5_2 ++ [Go.bits .or .u64 (ji10) x8_2] : List Int)).bind fun y331 => (if (ji8) > 0 then (if 0 ≤ (wrap64 (64 - (ji8))) then (plumbref03_Shl.l1 k2 l0 y331 (ji8) (shr .u64 (rd l0 x9_2) (wrap64 (64 - (ji8)))) (wrap64 (x9_2 + 1))) else (none)) else (plumbref03_Shl.l1 k2 l0 y331 (ji8) 0 (wrap64 (x9_2 + 1))))) else (none)) = some r := by first | (rw [hji10] at H; exact H) | (simp only [hji10] at H ⊢; exact H)
         have hji10_ : (IntKind.u64.wrap ((rd l0 x9_2) * 2 ^ min (ji8).toNat 64)) = ji10 := hji10
         have hji10z : (ji8) ≤ 64 → (IntKind.u64.wrap ((rd l0 x9_2) * 2 ^ (ji8).toNat)) = ji10 := shl_small hji10
         by_cases c11 : x5_2.length < 17592186044416
         ·rw [if_pos c11] at H
          have LMc11 := Aside0.mk c11
          clear c11
          obtain ⟨y331, hy331⟩ : ∃ y_ : List Int, y_ = (x5_2 ++ [Go.bits .or .u64 (ji10) x8_2]) := ⟨_, rfl⟩
          replace H : (if (ji8) > 0 then (if 0 ≤ (wrap64 (64 - (ji8))) then (plumbref03_Shl.l1 k2 l0 y331 (ji8) (shr .u64 (rd l0 x9_2) (wrap64 (64 - (ji8)))) (wrap64 (x9_2 + 1))) else (none)) else (plumbref03_Shl.l1 k2 l0 y331 (ji8) 0 (wrap64 (x9_2 + 1)))) = some r := by first | (rw [hy331]; with_reducible exact H) | (have H2_ := (Option.bind_some _ _).symm.trans H; rw [hy331]; with_reducible exact H2_) | (have H2_ := (Option.bind_some _ _).symm.trans H; with_reducible exact H2_) | with_reducible exact H | (rw [hy331]; exact H) | exact H
          have Ny331 := Aside0.mk hy331
          clear hy331
          by_cases c12 : (ji8) > 0
          ·rw [if_pos c12] at H
           have c12b0 : decide (0 < (ji8)) = true := decide_eq_true c12
           clear c12
           obtain ⟨ji13, hji13⟩ : ∃ j_ : Int, (wrap64 (64 - (ji8))) = j_ := ⟨_, rfl⟩
           replace H : (if 0 ≤ (ji13) then (plumbref03_Shl.l1 k2 l0 y331 (ji8) (shr .u64 (rd l0 x9_2) (ji13)) (wrap64 (x9_2 + 1))) else (none)) = some r := by first | (rw [hji13] at H; exact H) | (simp only [hji13] at H ⊢; exact H)
           have hji13w : (IntKind.i64.wrap (64 - (ji8))) = ji13 := (i64_w _).trans hji13
           by_cases c14 : (0 : Int) ≤ (ji13)
           ·rw [if_pos c14] at H
            have c14b0 := eq_true c14
            have c14b1 : decide (0 ≤ (ji13)) = true := decide_eq_true c14
            clear c14
            obtain ⟨ji15, hji15⟩ : ∃ j_ : Int, (shr .u64 (rd l0 x9_2) (ji13)) = j_ := ⟨_, rfl⟩
            replace H : (plumbref03_Shl.l1 k2 l0 y331 (ji8) ji15 (wrap64 (x9_2 + 1))) = some r := by first | (rw [hji15] at H; exact H) | (simp only [hji15] at H ⊢; exact H)
            have hji15_ : ((rd l0 x9_2) / 2 ^ min (ji13).toNat 64) = ji15 := hji15
            have hji15z : (ji13) ≤ 64 → ((rd l0 x9_2) / 2 ^ (ji13).toNat) = ji15 := shr_small hji15
            have H' := Aside0.mk H
            clear H
            have p330 : 0 ≤ (x9_2 : Int) := of_decide_eq_true dS
            have q330 : x9_2 < (l0.length : Int) := of_decide_eq_true dS
            obtain ⟨ad330, e330, hx330_0⟩ := Kd.at_int HR0.out x9_2 p330 q330
            cases e330
            replace hx330_0 := (HB.out.cell (World.block_lt_of_cell? w _ hx330_0)).trans hx330_0
            replace p330 := eq_true p330
            replace q330 := eq_true q330
            go_wp2_with (first | ((with_reducible refine gate_builtin (b := .append) (xs := #[.tmp 27, .tmp 36]) rfl ?_); at_builtin; refine Kd.R_append (Kd.int .u64) (w0 := w) w.heap.size rfl (.tmp 27) (.tmp 36) 22 26 (.int .u64 0) 8 rfl Tryd.underlying22 info26 rfl (by decide) (by omega) u5 x5_2 (Go.bits .or .u64 (ji10) x8_2) [.int .u64 (Go.bits .or .u64 (ji10) x8_2)] (fun _ => True) (fun _ => False) rfl rfl ?aP (fun _ hk => hk.elim) ?aF ?aO ?aB ?aS ?aL ?_; (case aP => exact rfl); (case aB => exact dB); (case aF => exact (fun _ _ => trivial)); (case aO => exact (dR HO_5.out)); (case aS => exact (below_size dB)); (case aL => have := LMc11.out; omega); intro v332 w16 ho hb hg hat; rw [← Ny331.out] at ho; replace HB := Aside0.mk (hb); have HO333 := Aside0.mk (ho); clear HO_5; clear ho hb hg hat; have p334 : 0 ≤ (x9_2 : Int) := of_decide_eq_true dS; have q334 : x9_2 < (l0.length : Int) := of_decide_eq_true dS; obtain ⟨ad334, e334, hx334_0⟩ := Kd.at_int HR0.out x9_2 p334 q334; obtain rfl : ad330 = ad334 := (by injection e334); replace hx334_0 := (HB.out.cell (World.block_lt_of_cell? w _ hx334_0)).trans hx334_0; replace p334 := eq_true p334; replace q334 := eq_true q334))
            (try subst hji8)
            go_roundg k2
            case measure => have := HK1.out; have := HK2.out; omega
            case rel => exact ⟨(y331), (ji15), (wrap64 (x9_2 + 1)), (by first | rfl | (simp; done) | (simp only [← hji15] <;> (first | rfl | simp)) | (simp [*]; done)), dF, H', ⟨by have := HK1.out; have := HK2.out; omega⟩, ⟨dR HO333.out⟩, ⟨dB⟩⟩
           ·rw [if_neg c14] at H
            exact absurd H (by simp)
          ·rw [if_neg c12] at H
           have c12b0 : decide (0 < (ji8)) = false := decide_eq_false c12
           clear c12
           have H' := Aside0.mk H
           clear H
           have p330 : 0 ≤ (x9_2 : Int) := of_decide_eq_true dS
           have q330 : x9_2 < (l0.length : Int) := of_decide_eq_true dS
           obtain ⟨ad330, e330, hx330_0⟩ := Kd.at_int HR0.out x9_2 p330 q330
           cases e330
           replace hx330_0 := (HB.out.cell (World.block_lt_of_cell? w _ hx330_0)).trans hx330_0
           replace p330 := eq_true p330
           replace q330 := eq_true q330
           go_wp2_with (first | ((with_reducible refine gate_builtin (b := .append) (xs := #[.tmp 27, .tmp 36]) rfl ?_); at_builtin; refine Kd.R_append (Kd.int .u64) (w0 := w) w.heap.size rfl (.tmp 27) (.tmp 36) 22 26 (.int .u64 0) 8 rfl Tryd.underlying22 info26 rfl (by decide) (by omega) u5 x5_2 (Go.bits .or .u64 (ji10) x8_2) [.int .u64 (Go.bits .or .u64 (ji10) x8_2)] (fun _ => True) (fun _ => False) rfl rfl ?aP (fun _ hk => hk.elim) ?aF ?aO ?aB ?aS ?aL ?_; (case aP => exact rfl); (case aB => exact dB); (case aF => exact (fun _ _ => trivial)); (case aO => exact (dR HO_5.out)); (case aS => exact (below_size dB)); (case aL => have := LMc11.out; omega); intro v332 w17 ho hb hg hat; rw [← Ny331.out] at ho; replace HB := Aside0.mk (hb); have HO333 := Aside0.mk (ho); clear HO_5; clear ho hb hg hat))
           (try subst hji8)
           go_roundg k2
           case measure => have := HK1.out; have := HK2.out; omega
           case rel => exact ⟨(y331), (0), (wrap64 (x9_2 + 1)), dF, dF, H', ⟨by have := HK1.out; have := HK2.out; omega⟩, ⟨dR HO333.out⟩, ⟨dB⟩⟩
         ·rw [if_neg c11] at H
          exact absurd H (by simp)
        ·rw [if_neg c9] at H
         exact absurd H (by simp)
       ·rw [if_neg c7] at H
        exact absurd H (by simp)
      ·rw [if_neg c6] at H
       have c6b0 : decide (x9_2 < (l0.length : Int)) = false := decide_eq_false c6
       clear c6
       by_cases c18 : x5_2.length < 17592186044416
       ·rw [if_pos c18] at H
        have LMc18 := Aside0.mk c18
        clear c18
        obtain ⟨y335, hy335⟩ : ∃ y_ : List Int, y_ = (x5_2 ++ [x8_2]) := ⟨_, rfl⟩
        replace H : ((plumbref03_Norm.f k2 y335).bind fun t338 => (some t338)) = some r := by first | (rw [hy335]; with_reducible exact H) | (have H2_ := (Option.bind_some _ _).symm.trans H; rw [hy335]; with_reducible exact H2_) | (have H2_ := (Option.bind_some _ _).symm.trans H; with_reducible exact H2_) | with_reducible exact H | (rw [hy335]; exact H) | exact H
        have Ny335 := Aside0.mk hy335
        clear hy335
        replace H := obe H
        obtain ⟨t338, A190, H⟩ := H
        replace H : (some t338) = some r := H
        have A19 := Aside0.mk A190
        clear A190
        obtain rfl := Option.some.inj H
        go_wp2_with (first | ((with_reducible refine gate_builtin (b := .append) (xs := #[.tmp 47, .tmp 49]) rfl ?_); at_builtin; refine Kd.R_append (Kd.int .u64) (w0 := w) w.heap.size rfl (.tmp 47) (.tmp 49) 22 26 (.int .u64 0) 8 rfl Tryd.underlying22 info26 rfl (by decide) (by omega) u5 x5_2 x8_2 [.int .u64 x8_2] (fun _ => True) (fun _ => False) rfl rfl ?aP (fun _ hk => hk.elim) ?aF ?aO ?aB ?aS ?aL ?_; (case aP => exact rfl); (case aB => exact dB); (case aF => exact (fun _ _ => trivial)); (case aO => exact (dR HO_5.out)); (case aS => exact (below_size dB)); (case aL => have := LMc18.out; omega); intro v336 w20 ho hb hg hat; rw [← Ny335.out] at ho; replace HB := Aside0.mk (hb); have HO337 := Aside0.mk (ho); clear HO_5; clear ho hb hg hat; obtain ⟨Ao21, co21, eo21⟩ := Kd.R_slice HO337.out; subst eo21) | ((with_reducible refine gate_callee (f := 47) rfl ?_); refine gL (some 51) Tryd.func47 #[.slice Ao21 y335.length co21] ?_; (with_reducible refine (plumbref03_Norm.calls k2 _ _ y335 t338 _ ?side1 ?side2 A19.out).mono ?_); (case side1 => exact dC (Kd.R_reads' HO337.out).2.2); (case side2 => exact (Kd.R_reads' HO337.out).2.1); rintro e w22 ⟨v339, rfl, ho0, hb⟩; refine ⟨_, rfl, ?_⟩; have HO340 := Aside0.mk (Kd.R_lower (Kd.R_new' ho0 (Kd.R_lt (dR HO337.out))) (below_size dB)); replace HO337 := Aside0.mk (Kd.R_elder' (dR HO337.out) (Kd.R_base ho0) hb); replace HB := Aside0.mk (below_step dB hb); (try clear hb); (try clear ho0)))
        go_ret
        exact ⟨_, dE, by (with_reducible repeat (first | apply Kd.R_alloc | apply Kd.R_drewN | apply Kd.R_drew)); exact Kd.R_mono HO340.out (fun _ hk => trivial), dB⟩
       ·rw [if_neg c18] at H
        exact absurd H (by simp)


/-! ### plumbref03_at: function 119 -/
def plumbref03_at.f (l0 : List Int) (a1 : Int) : Option (Int) := if a1 < (l0.length : Int) then (if 0 ≤ a1 then (some (rd l0 a1)) else (none)) else (some 0)
set_option maxHeartbeats 8000000 in
set_option maxRecDepth 100000 in
theorem plumbref03_at.calls (A0 : Option Addr) (c0 : Nat) (l0 : List Int) (a1 : Int) (r : Int) (w : World) (hr0 : Kd.C (Kd.int .u64) w A0 l0.length l0) (hc0 : l0.length ≤ c0) (h : plumbref03_at.f l0 a1 = some r) :
  Calls Tryd.prog 119 #[.slice A0 l0.length c0, .int .i64 a1] w fun e w' => e = .returned (.int .u64 r) ∧ Drawn0 w w' := by
 have HR0 := Aside0.mk hr0
 have HC0 := Aside0.mk hc0
 clear hr0 hc0
 have H : (if a1 < (l0.length : Int) then (if 0 ≤ a1 then (some (rd l0 a1)) else (none)) else (some 0)) = some r := h
 clear h
 by_cases c3 : a1 < (l0.length : Int)
 ·rw [if_pos c3] at H
  have c3b0 : decide (a1 < (l0.length : Int)) = true := decide_eq_true c3
  clear c3
  by_cases c4 : (0 : Int) ≤ a1
  ·rw [if_pos c4] at H
   have c4b0 : decide (0 ≤ a1) = true := decide_eq_true c4
   clear c4
   obtain rfl := Option.some.inj H
   have p198 : 0 ≤ (a1 : Int) := of_decide_eq_true dS
   have q198 : a1 < (l0.length : Int) := of_decide_eq_true dS
   obtain ⟨ad198, e198, hx198_0⟩ := Kd.at_int HR0.out a1 p198 q198
   cases e198
   replace p198 := eq_true p198
   replace q198 := eq_true q198
   go_enter Tryd.func119, Tryd.ntmps119
   go_wp2
   go_ret
   exact ⟨by first | rfl | (simp; done) | (simp [*]; done), by repeat (first | exact Drawn0.refl _ | apply Drawn0.step)⟩
  ·rw [if_neg c4] at H
   exact absurd H (by simp)
 ·rw [if_neg c3] at H
  have c3b0 : decide (a1 < (l0.length : Int)) = false := decide_eq_false c3
  clear c3
  obtain rfl := Option.some.inj H
  go_enter Tryd.func119, Tryd.ntmps119
  go_wp2
  go_ret
  exact ⟨by first | rfl | (simp; done) | (simp [*]; done), by repeat (first | exact Drawn0.refl _ | apply Drawn0.step)⟩

end Go.Proofs.YtoefabmlkbhmpaaDoor.PA

namespace Go.Proofs.YtoefabmlkbhmpaaDoor.PA
open Go.RowKit Go.Proofs.YtoefabmlkbhmpaaDoorW.PrintWords Go.Proofs.YtoefabmlkbhmpaaDoorW.PrintLast Go.Proofs.YtoefabmlkbhmpaaDoorW.PrintMore
attribute [local go_sem] max2_int min2_int max_two min_two max_three min_three max_four min_four   -- for this text's walks alone
set_option linter.unusedVariables false
set_option linter.unusedSimpArgs false

/-! ### plumbref03_Cmp: function 113 -/
mutual
def plumbref03_Cmp.j0 : Nat → List Int → List Int → Int → Option (Int)
 | 0, _, _, _ => none
 | k + 1, x0, x1, x5 => plumbref03_Cmp.l0 k x0 x1 (wrap64 (x5 - 1))
def plumbref03_Cmp.l0 : Nat → List Int → List Int → Int → Option (Int)
 | 0, _, _, _ => none
 | k + 1, x0, x1, x6 => if x6 ≥ 0 then ((plumbref03_at.f x0 x6).bind fun t199 => ((plumbref03_at.f x1 x6).bind fun t200 => (if t199 < t200 then (some (-1)) else ((plumbref03_at.f x0 x6).bind fun t201 => ((plumbref03_at.f x1 x6).bind fun t202 => (if t201 > t202 then (some 1) else (plumbref03_Cmp.l0 k x0 x1 (wrap64 (x6 - 1))))))))) else (some 0)
end
def plumbref03_Cmp.f (k : Nat) (l0 : List Int) (l1 : List Int) : Option (Int) := if (l1.length : Int) > (l0.length : Int) then (plumbref03_Cmp.j0 k l0 l1 (l1.length : Int)) else (plumbref03_Cmp.j0 k l0 l1 (l0.length : Int))
set_option maxHeartbeats 8000000 in
set_option maxRecDepth 100000 in
theorem plumbref03_Cmp.calls (k : Nat) (A0 : Option Addr) (c0 : Nat) (l0 : List Int) (A1 : Option Addr) (c1 : Nat) (l1 : List Int) (r : Int) (w : World) (hr0 : Kd.C (Kd.int .u64) w A0 l0.length l0) (hc0 : l0.length ≤ c0) (hr1 : Kd.C (Kd.int .u64) w A1 l1.length l1) (hc1 : l1.length ≤ c1) (h : plumbref03_Cmp.f k l0 l1 = some r) :
  Calls Tryd.prog 113 #[.slice A0 l0.length c0, .slice A1 l1.length c1] w fun e w' => e = .returned (.int .i64 r) ∧ Drawn0 w w' := by
 have HR0 := Aside0.mk hr0
 have HC0 := Aside0.mk hc0
 clear hr0 hc0
 have HR1 := Aside0.mk hr1
 have HC1 := Aside0.mk hc1
 clear hr1 hc1
 have H : (if (l1.length : Int) > (l0.length : Int) then (plumbref03_Cmp.j0 k l0 l1 (l1.length : Int)) else (plumbref03_Cmp.j0 k l0 l1 (l0.length : Int))) = some r := h
 clear h
 have HC3 := Aside0.mk H
 clear H
 go_enter Tryd.func113, Tryd.ntmps113
 go_upto_if 12 with (fail)
 go_cut [5] (fun v5 wc => ∃ (kq : Nat) (x5_2 : Int), v5 = .int .i64 x5_2 ∧ Aside0 (plumbref03_Cmp.j0 kq l0 l1 x5_2 = some r) ∧ Aside0 (kq ≤ k) ∧ Drawn0 w wc)
 case first =>
  have H := HC3.out
  clear HC3
  by_cases c4 : (l1.length : Int) > (l0.length : Int)
  ·rw [if_pos c4] at H
   have c4b0 : decide ((l0.length : Int) < (l1.length : Int)) = true := decide_eq_true c4
   have c4b1 : decide (l0.length < l1.length) = true := decide_eq_true (Int.ofNat_lt.mp c4)
   clear c4
   (first | rw [c4b0] | (simp only [i64_w, i32_w]; rw [c4b0]) | rw [c4b1] | skip)
   have H' := Aside0.mk H
   clear H
   go_wp2
   go_meet
   case rel => exact ⟨_, ((l1.length : Int)), dF, H', ⟨dN⟩, by repeat (first | exact Drawn0.refl _ | apply Drawn0.step)⟩
  ·rw [if_neg c4] at H
   have c4b0 : decide ((l0.length : Int) < (l1.length : Int)) = false := decide_eq_false c4
   have c4b1 : decide (l0.length < l1.length) = false := decide_eq_false (fun h => c4 (Int.ofNat_lt.mpr h))
   clear c4
   (first | rw [c4b0] | (simp only [i64_w, i32_w]; rw [c4b0]) | rw [c4b1] | skip)
   have H' := Aside0.mk H
   clear H
   go_wp2
   go_meet
   case rel => exact ⟨_, ((l0.length : Int)), dF, H', ⟨dN⟩, by repeat (first | exact Drawn0.refl _ | apply Drawn0.step)⟩
 case rest =>
  clear HC3
  try clear c1
  try clear p2
  try clear c4
  try clear c4b0
  try clear c4b1
  obtain ⟨kq, x5_2, rfl, HA, HJ2, ⟨mc2, rfl⟩⟩ := hcut
  cases kq with
  | zero => exact absurd HA.out (by simp [plumbref03_Cmp.j0])
  | succ kj2 =>
   have H := HA.out
   clear HA
   simp only [plumbref03_Cmp.j0] at H
   have H' := Aside0.mk H
   clear H
   go_wp2
   go_loopg [6] kj2 (fun kq v6 w' => ∃ (x6_2 : Int), v6 = .int .i64 x6_2 ∧ Aside0 (plumbref03_Cmp.l0 kq l0 l1 x6_2 = some r) ∧ Aside0 (kq ≤ kj2) ∧ Drawn0 w w')
   case atStart => exact ⟨(wrap64 (x5_2 - 1)), dF, H', ⟨Nat.le_refl _⟩, by repeat (first | exact Drawn0.refl _ | apply Drawn0.step)⟩
   case round =>
    clear H'
    try clear c1
    try clear c2
    try clear p2
    try clear c4
    try clear c4b0
    try clear c4b1
    try clear p2
    obtain ⟨x6_2, rfl, HA, HK2, ⟨m2, rfl⟩⟩ := hrel
    cases gk with
    | zero => exact absurd HA.out (by simp [plumbref03_Cmp.l0])
    | succ k2 =>
     have H := HA.out
     clear HA
     simp only [plumbref03_Cmp.l0] at H
     by_cases c5 : x6_2 ≥ 0
     ·rw [if_pos c5] at H
      have c5b0 : decide (0 ≤ x6_2) = true := decide_eq_true c5
      clear c5
      replace H := obe H
      obtain ⟨t199, A60, H⟩ := H
      replace H : ((plumbref03_at.f l1 x6_2).bind fun t200 => (if t199 < t200 then (some (-1)) else ((plumbref03_at.f l0 x6_2).bind fun t201 => ((plumbref03_at.f l1 x6_2).bind fun t202 => (if t201 > t202 then (some 1) else (plumbref03_Cmp.l0 k2 l0 l1 (wrap64 (x6_2 - 1)))))))) = some r := H
      have A6 := Aside0.mk A60
      clear A60
      replace H := obe H
      obtain ⟨t200, A70, H⟩ := H
      replace H : (if t199 < t200 then (some (-1)) else ((plumbref03_at.f l0 x6_2).bind fun t201 => ((plumbref03_at.f l1 x6_2).bind fun t202 => (if t201 > t202 then (some 1) else (plumbref03_Cmp.l0 k2 l0 l1 (wrap64 (x6_2 - 1))))))) = some r := H
      have A7 := Aside0.mk A70
      clear A70
      by_cases c8 : t199 < t200
      ·rw [if_pos c8] at H
       have c8b0 : decide (t199 < t200) = true := decide_eq_true c8
       clear c8
       obtain rfl := Option.some.inj H
       go_wp2_with (first | ((with_reducible refine gate_callee (f := 119) rfl ?_); refine gL (some 23) Tryd.func119 #[.slice A0 l0.length c0, .int .i64 x6_2] ?_; (with_reducible refine (plumbref03_at.calls _ _ l0 x6_2 t199 _ ?side1 ?side2 A6.out).mono ?_); (case side1 => exact dC HR0.out); (case side2 => exact HC0.out); rintro e w' ⟨rfl, ⟨nd, rfl⟩⟩; refine ⟨_, rfl, ?_⟩) | ((with_reducible refine gate_callee (f := 119) rfl ?_); refine gL (some 26) Tryd.func119 #[.slice A1 l1.length c1, .int .i64 x6_2] ?_; (with_reducible refine (plumbref03_at.calls _ _ l1 x6_2 t200 _ ?side1 ?side2 A7.out).mono ?_); (case side1 => exact dC HR1.out); (case side2 => exact HC1.out); rintro e w' ⟨rfl, ⟨nd, rfl⟩⟩; refine ⟨_, rfl, ?_⟩))
       go_ret
       exact ⟨by first | rfl | (simp; done) | (simp [*]; done), by repeat (first | exact Drawn0.refl _ | apply Drawn0.step)⟩
      ·rw [if_neg c8] at H
       have c8b0 : decide (t199 < t200) = false := decide_eq_false c8
       clear c8
       replace H := obe H
       obtain ⟨t201, A90, H⟩ := H
       replace H : ((plumbref03_at.f l1 x6_2).bind fun t202 => (if t201 > t202 then (some 1) else (plumbref03_Cmp.l0 k2 l0 l1 (wrap64 (x6_2 - 1))))) = some r := H
       have A9 := Aside0.mk A90
       clear A90
       replace H := obe H
       obtain ⟨t202, A100, H⟩ := H
       replace H : (if t201 > t202 then (some 1) else (plumbref03_Cmp.l0 k2 l0 l1 (wrap64 (x6_2 - 1)))) = some r := H
       have A10 := Aside0.mk A100
       clear A100
       by_cases c11 : t201 > t202
       ·rw [if_pos c11] at H
        have c11b0 : decide (t202 < t201) = true := decide_eq_true c11
        clear c11
        obtain rfl := Option.some.inj H
        go_wp2_with (first | ((with_reducible refine gate_callee (f := 119) rfl ?_); refine gL (some 23) Tryd.func119 #[.slice A0 l0.length c0, .int .i64 x6_2] ?_; (with_reducible refine (plumbref03_at.calls _ _ l0 x6_2 t199 _ ?side1 ?side2 A6.out).mono ?_); (case side1 => exact dC HR0.out); (case side2 => exact HC0.out); rintro e w' ⟨rfl, ⟨nd, rfl⟩⟩; refine ⟨_, rfl, ?_⟩) | ((with_reducible refine gate_callee (f := 119) rfl ?_); refine gL (some 26) Tryd.func119 #[.slice A1 l1.length c1, .int .i64 x6_2] ?_; (with_reducible refine (plumbref03_at.calls _ _ l1 x6_2 t200 _ ?side1 ?side2 A7.out).mono ?_); (case side1 => exact dC HR1.out); (case side2 => exact HC1.out); rintro e w' ⟨rfl, ⟨nd, rfl⟩⟩; refine ⟨_, rfl, ?_⟩) | ((with_reducible refine gate_callee (f := 119) rfl ?_); refine gL (some 30) Tryd.func119 #[.slice A0 l0.length c0, .int .i64 x6_2] ?_; (with_reducible refine (plumbref03_at.calls _ _ l0 x6_2 t201 _ ?side1 ?side2 A9.out).mono ?_); (case side1 => exact dC HR0.out); (case side2 => exact HC0.out); rintro e w' ⟨rfl, ⟨nd, rfl⟩⟩; refine ⟨_, rfl, ?_⟩) | ((with_reducible refine gate_callee (f := 119) rfl ?_); refine gL (some 33) Tryd.func119 #[.slice A1 l1.length c1, .int .i64 x6_2] ?_; (with_reducible refine (plumbref03_at.calls _ _ l1 x6_2 t202 _ ?side1 ?side2 A10.out).mono ?_); (case side1 => exact dC HR1.out); (case side2 => exact HC1.out); rintro e w' ⟨rfl, ⟨nd, rfl⟩⟩; refine ⟨_, rfl, ?_⟩))
        go_ret
        exact ⟨by first | rfl | (simp; done) | (simp [*]; done), by repeat (first | exact Drawn0.refl _ | apply Drawn0.step)⟩
       ·rw [if_neg c11] at H
        have c11b0 : decide (t202 < t201) = false := decide_eq_false c11
        clear c11
        have H' := Aside0.mk H
        clear H
        go_wp2_with (first | ((with_reducible refine gate_callee (f := 119) rfl ?_); refine gL (some 23) Tryd.func119 #[.slice A0 l0.length c0, .int .i64 x6_2] ?_; (with_reducible refine (plumbref03_at.calls _ _ l0 x6_2 t199 _ ?side1 ?side2 A6.out).mono ?_); (case side1 => exact dC HR0.out); (case side2 => exact HC0.out); rintro e w' ⟨rfl, ⟨nd, rfl⟩⟩; refine ⟨_, rfl, ?_⟩) | ((with_reducible refine gate_callee (f := 119) rfl ?_); refine gL (some 26) Tryd.func119 #[.slice A1 l1.length c1, .int .i64 x6_2] ?_; (with_reducible refine (plumbref03_at.calls _ _ l1 x6_2 t200 _ ?side1 ?side2 A7.out).mono ?_); (case side1 => exact dC HR1.out); (case side2 => exact HC1.out); rintro e w' ⟨rfl, ⟨nd, rfl⟩⟩; refine ⟨_, rfl, ?_⟩) | ((with_reducible refine gate_callee (f := 119) rfl ?_); refine gL (some 30) Tryd.func119 #[.slice A0 l0.length c0, .int .i64 x6_2] ?_; (with_reducible refine (plumbref03_at.calls _ _ l0 x6_2 t201 _ ?side1 ?side2 A9.out).mono ?_); (case side1 => exact dC HR0.out); (case side2 => exact HC0.out); rintro e w' ⟨rfl, ⟨nd, rfl⟩⟩; refine ⟨_, rfl, ?_⟩) | ((with_reducible refine gate_callee (f := 119) rfl ?_); refine gL (some 33) Tryd.func119 #[.slice A1 l1.length c1, .int .i64 x6_2] ?_; (with_reducible refine (plumbref03_at.calls _ _ l1 x6_2 t202 _ ?side1 ?side2 A10.out).mono ?_); (case side1 => exact dC HR1.out); (case side2 => exact HC1.out); rintro e w' ⟨rfl, ⟨nd, rfl⟩⟩; refine ⟨_, rfl, ?_⟩))
        go_roundg k2
        case measure => have := HJ2.out; have := HK2.out; omega
        case rel => exact ⟨(wrap64 (x6_2 - 1)), dF, H', ⟨by have := HJ2.out; have := HK2.out; omega⟩, by repeat (first | exact Drawn0.refl _ | apply Drawn0.step)⟩
     ·rw [if_neg c5] at H
      have c5b0 : decide (0 ≤ x6_2) = false := decide_eq_false c5
      clear c5
      obtain rfl := Option.some.inj H
      go_wp2
      go_ret
      exact ⟨by first | rfl | (simp; done) | (simp [*]; done), by repeat (first | exact Drawn0.refl _ | apply Drawn0.step)⟩

end Go.Proofs.YtoefabmlkbhmpaaDoor.PA

namespace Go.Proofs.YtoefabmlkbhmpaaDoor.PA
open Go.RowKit Go.Proofs.YtoefabmlkbhmpaaDoorW.PrintWords Go.Proofs.YtoefabmlkbhmpaaDoorW.PrintLast Go.Proofs.YtoefabmlkbhmpaaDoorW.PrintMore
attribute [local go_sem] max2_int min2_int max_two min_two max_three min_three max_four min_four   -- for this text's walks alone
set_option linter.unusedVariables false
set_option linter.unusedSimpArgs false

/-! ### plumbref07_Q_against: function 89 -/
def plumbref07_Q_against.f (k : Nat) (l0_0 : List Int) (l0_1 : List Int) (a0_2 : Int) (a0_3 : Bool) (a1 : Int) (a2 : Int) : Option (Int) := (plumbref03_Word.f k a1).bind fun t204 => ((plumbref03_Mul.f k t204 l0_1).bind fun t207 => (if (wrap64 (a0_2 - a2)) > 0 then ((plumbref03_Shl.f k l0_0 (wrap64 (a0_2 - a2))).bind fun t210 => ((plumbref03_Cmp.f k t210 t207).bind fun t213 => (if t213 = 0 then (if a0_3 = true then (some 1) else (some t213)) else (some t213)))) else ((plumbref03_Shl.f k t207 (wrap64 (-(wrap64 (a0_2 - a2))))).bind fun t214 => ((plumbref03_Cmp.f k l0_0 t214).bind fun t217 => (if t217 = 0 then (if a0_3 = true then (some 1) else (some t217)) else (some t217))))))
set_option maxHeartbeats 8000000 in
set_option maxRecDepth 100000 in
theorem plumbref07_Q_against.calls (k : Nat) (A0_0 : Option Addr) (c0_0 : Nat) (l0_0 : List Int) (A0_1 : Option Addr) (c0_1 : Nat) (l0_1 : List Int) (a0_2 : Int) (a0_3 : Bool) (a1 : Int) (a2 : Int) (r : Int) (w : World) (hr0_0 : Kd.C (Kd.int .u64) w A0_0 l0_0.length l0_0) (hc0_0 : l0_0.length ≤ c0_0) (hr0_1 : Kd.C (Kd.int .u64) w A0_1 l0_1.length l0_1) (hc0_1 : l0_1.length ≤ c0_1) (h : plumbref07_Q_against.f k l0_0 l0_1 a0_2 a0_3 a1 a2 = some r) :
  Calls Tryd.prog 89 #[.agg #[.slice A0_0 l0_0.length c0_0, .slice A0_1 l0_1.length c0_1, .int .i64 a0_2, .bool a0_3], .int .u64 a1, .int .i64 a2] w fun e w' => e = .returned (.int .i64 r) ∧ Below w.heap.size w w' := by
 have hu77 := Tryd.underlying77
 have HR0_0 := Aside0.mk hr0_0
 have HC0_0 := Aside0.mk hc0_0
 clear hr0_0 hc0_0
 have HR0_1 := Aside0.mk hr0_1
 have HC0_1 := Aside0.mk hc0_1
 clear hr0_1 hc0_1
 have HB := Aside0.mk (Below.refl w.heap.size w)
 have H : ((plumbref03_Word.f k a1).bind fun t204 => ((plumbref03_Mul.f k t204 l0_1).bind fun t207 => (if (wrap64 (a0_2 - a2)) > 0 then ((plumbref03_Shl.f k l0_0 (wrap64 (a0_2 - a2))).bind fun t210 => ((plumbref03_Cmp.f k t210 t207).bind fun t213 => (if t213 = 0 then (if a0_3 = true then (some 1) else (some t213)) else (some t213)))) else ((plumbref03_Shl.f k t207 (wrap64 (-(wrap64 (a0_2 - a2))))).bind fun t214 => ((plumbref03_Cmp.f k l0_0 t214).bind fun t217 => (if t217 = 0 then (if a0_3 = true then (some 1) else (some t217)) else (some t217))))))) = some r := h
 clear h
 replace H := obe H
 obtain ⟨t204, A40, H⟩ := H
 replace H : ((plumbref03_Mul.f k t204 l0_1).bind fun t207 => (if (wrap64 (a0_2 - a2)) > 0 then ((plumbref03_Shl.f k l0_0 (wrap64 (a0_2 - a2))).bind fun t210 => ((plumbref03_Cmp.f k t210 t207).bind fun t213 => (if t213 = 0 then (if a0_3 = true then (some 1) else (some t213)) else (some t213)))) else ((plumbref03_Shl.f k t207 (wrap64 (-(wrap64 (a0_2 - a2))))).bind fun t214 => ((plumbref03_Cmp.f k l0_0 t214).bind fun t217 => (if t217 = 0 then (if a0_3 = true then (some 1) else (some t217)) else (some t217)))))) = some r := H
 have A4 := Aside0.mk A40
 clear A40
 replace H := obe H
 obtain ⟨t207, A50, H⟩ := H
 replace H : (if (wrap64 (a0_2 - a2)) > 0 then ((plumbref03_Shl.f k l0_0 (wrap64 (a0_2 - a2))).bind fun t210 => ((plumbref03_Cmp.f k t210 t207).bind fun t213 => (if t213 = 0 then (if a0_3 = true then (some 1) else (some t213)) else (some t213)))) else ((plumbref03_Shl.f k t207 (wrap64 (-(wrap64 (a0_2 - a2))))).bind fun t214 => ((plumbref03_Cmp.f k l0_0 t214).bind fun t217 => (if t217 = 0 then (if a0_3 = true then (some 1) else (some t217)) else (some t217))))) = some r := H
 have A5 := Aside0.mk A50
 clear A50
 by_cases c6 : (wrap64 (a0_2 - a2)) > 0
 ·rw [if_pos c6] at H
  have c6b0 : decide (0 < (wrap64 (a0_2 - a2))) = true := decide_eq_true c6
  clear c6
  replace H := obe H
  obtain ⟨t210, A70, H⟩ := H
  replace H : ((plumbref03_Cmp.f k t210 t207).bind fun t213 => (if t213 = 0 then (if a0_3 = true then (some 1) else (some t213)) else (some t213))) = some r := H
  have A7 := Aside0.mk A70
  clear A70
  replace H := obe H
  obtain ⟨t213, A80, H⟩ := H
  replace H : (if t213 = 0 then (if a0_3 = true then (some 1) else (some t213)) else (some t213)) = some r := H
  have A8 := Aside0.mk A80
  clear A80
  by_cases c9 : t213 = 0
  ·rw [if_pos c9] at H
   have c9b0 : (t213 == 0) = true := beq_iff_eq.mpr c9
   have c9b1 : (t213 != 0) = false := bne_eq_false_iff_eq.mpr c9
   clear c9
   by_cases c10 : a0_3 = true
   ·subst c10
    have H1 : (some 1) = some r := by rw [if_pos rfl] at H; exact H
    clear H
    have H := H1
    clear H1
    obtain rfl := Option.some.inj H
    go_enter Tryd.func89, Tryd.ntmps89
    try go_wp2_with (first | ((with_reducible refine gate_dst (N := 3) rfl ?_); refine box_event ?hg (N := 3) ?hd (cs := #[.slice A0_0 l0_0.length c0_0, .slice A0_1 l0_1.length c0_1, .int .i64 a0_2, .bool true]) (t := 77) ?hr ?_; (case hd => rfl); (case hg => rfl); (case hr => first | (go_simp; done) | (go_simp; rfl)); intro gb203 hg w11 hbox hb; have BK203 := Aside0.mk (hbox); have GW203 := Aside0.mk ((by rw [hg]; exact (below_size dB) : w.heap.size ≤ gb203)); have GE203 := Aside0.mk ((by rw [hg]; exact (below_size dB) : w.heap.size ≤ gb203)); replace HB := Aside0.mk (below_step dB hb); clear hb hbox hg; have hcz12_0 : w11.cell? ⟨gb203, 0, none⟩ = some (.slice A0_0 l0_0.length c0_0) := (blk_cell BK203.out 0).trans rfl; have hcz12_1 : w11.cell? ⟨gb203, 1, none⟩ = some (.slice A0_1 l0_1.length c0_1) := (blk_cell BK203.out 1).trans rfl; have hcz12_2 : w11.cell? ⟨gb203, 2, none⟩ = some (.int .i64 a0_2) := (blk_cell BK203.out 2).trans rfl; have hcz12_3 : w11.cell? ⟨gb203, 3, none⟩ = some (.bool true) := (blk_cell BK203.out 3).trans rfl; have hfz12_0 := blk_frozen BK203.out 0; have hfz12_1 := blk_frozen BK203.out 1; have hfz12_2 := blk_frozen BK203.out 2; have hfz12_3 := blk_frozen BK203.out 3))
    replace BK203 := Aside0.mk (blk_drew BK203.out)
    replace HB := Aside0.mk (below_drew1 HB.out)
    refine start_ (n := 6) (S := fun w' => w'.cell? ⟨gb203, 0, none⟩ = some (.slice A0_0 l0_0.length c0_0) ∧ w'.cell? ⟨gb203, 1, none⟩ = some (.slice A0_1 l0_1.length c0_1) ∧ w'.cell? ⟨gb203, 2, none⟩ = some (.int .i64 a0_2) ∧ w'.cell? ⟨gb203, 3, none⟩ = some (.bool true)) (ds := []) #[false, false, false, false, false, false] (by kernel_rfl) rfl rfl ⟨(blk_cell BK203.out 0).trans rfl, (blk_cell BK203.out 1).trans rfl, (blk_cell BK203.out 2).trans rfl, (blk_cell BK203.out 3).trans rfl⟩ (fun hHeld => ?_)
    generalize w11.drew = w13 at BK203 HB hHeld ⊢
    refine pure_ (i := 0) (N := some 13) (v := ?_) (a' := ?_) #[true, false, false, false, false, false] rfl rfl (by kernel_rfl) (fun _ _ _ h => h) (Or.inl ⟨by rfl, ?_⟩) ?_ ?_
    rotate_left
    ·intro w'
     go_simp
     with_reducible rfl
    rotate_left
    ·simp only [Act.put, List.setIfInBounds_toArray, List.set_cons_zero, List.set_cons_succ, i64_w, i32_w]
     rfl
    refine pure_ (i := 2) (N := some 15) (v := ?_) (a' := ?_) #[true, false, true, false, false, false] rfl rfl (by kernel_rfl) (fun _ _ _ h => h) (Or.inl ⟨by rfl, ?_⟩) ?_ ?_
    rotate_left
    ·intro w'
     go_simp
     with_reducible rfl
    rotate_left
    ·simp only [Act.put, List.setIfInBounds_toArray, List.set_cons_zero, List.set_cons_succ, i64_w, i32_w]
     rfl
    refine take_ (i := 3) (N := some 16) (v := ?_) (a' := ?_) #[true, false, true, true, false, false] rfl rfl (by kernel_rfl) (fun _ _ _ h => h) (Or.inl ⟨by rfl, ?_⟩) hHeld ?_ ?_
    rotate_left
    ·rintro w' ⟨s0, s1, s2, s3⟩
     go_simp
     with_reducible rfl
    rotate_left
    ·simp only [Act.put, List.setIfInBounds_toArray, List.set_cons_zero, List.set_cons_succ, i64_w, i32_w]
     rfl
    refine one_ (i := 1) (N := some 14) #[true, true, true, true, false, false] rfl rfl (by kernel_rfl) (by decide) (fun K hK => ?_)
    refine goes_ Tryd.func111 (by kernel_rfl) rfl #[.int .u64 a1] (by rfl) rfl rfl dA ?_
    with_reducible refine (plumbref03_Word.calls k a1 t204 _ A4.out).mono ?_
    rintro e w14 ⟨v205, rfl, ho0, hb⟩
    refine ⟨_, rfl, ?_⟩
    have HO206 := Aside0.mk (Kd.R_lower ho0 (below_size (dG GE203.out)))
    replace BK203 := Aside0.mk (blk_below (g := gb203) (o := .cells #[.slice A0_0 l0_0.length c0_0, .slice A0_1 l0_1.length c0_1, .int .i64 a0_2, .bool true] 77 (0, 0)) (dK BK203.out) hb)
    replace HB := Aside0.mk (below_step (dG GE203.out) hb)
    (try clear hb)
    (try clear hb2)
    (try clear hk)
    (try clear hi)
    (try clear ho0)
    obtain ⟨Ao15, co15, eo15⟩ := Kd.R_slice HO206.out
    (first | subst eo15 | (injection eo15 with f1_ f2_ f3_; have f4_ := f1_.symm; have f5_ := f3_.symm; clear f1_ f2_ f3_; subst f4_; subst f5_))
    refine hK.out _ _ ⟨(blk_cell BK203.out 0).trans rfl, (blk_cell BK203.out 1).trans rfl, (blk_cell BK203.out 2).trans rfl, (blk_cell BK203.out 3).trans rfl⟩ (fun hHeld => ?_)
    clear hK K
    refine norm_ (a' := ?_) ?_ ?_
    rotate_left
    ·show Act.put _ (some 14) _ = _
     simp only [Act.put, List.setIfInBounds_toArray, List.set_cons_zero, List.set_cons_succ, i64_w, i32_w]
     rfl
    refine one_ (i := 4) (N := some 17) #[true, true, true, true, true, false] rfl rfl (by kernel_rfl) (by decide) (fun K hK => ?_)
    refine goes_ Tryd.func110 (by kernel_rfl) rfl #[.slice Ao15 t204.length co15, .slice A0_1 l0_1.length c0_1] (by rfl) rfl rfl dA ?_
    with_reducible refine (plumbref03_Mul.calls k _ _ t204 _ _ l0_1 t207 _ ?side1 ?side2 ?side3 ?side4 A5.out).mono ?_
    (case side1 => exact dC (Kd.R_reads' HO206.out).2.2)
    (case side2 => exact (Kd.R_reads' HO206.out).2.1)
    (case side3 => exact dC (Kd.C_below HR0_1.out HB.out))
    (case side4 => exact HC0_1.out)
    rintro e w16 ⟨v208, rfl, ho0, hb⟩
    refine ⟨_, rfl, ?_⟩
    have HO209 := Aside0.mk (Kd.R_lower (Kd.R_new' ho0 (Kd.R_lt (dR HO206.out))) (below_size (dG GE203.out)))
    replace HO206 := Aside0.mk (Kd.R_elder' (dR HO206.out) (Kd.R_base ho0) hb)
    replace BK203 := Aside0.mk (blk_below (g := gb203) (o := .cells #[.slice A0_0 l0_0.length c0_0, .slice A0_1 l0_1.length c0_1, .int .i64 a0_2, .bool true] 77 (0, 0)) (dK BK203.out) hb)
    replace HB := Aside0.mk (below_step (dG GE203.out) hb)
    (try clear hb)
    (try clear hb2)
    (try clear hk)
    (try clear hi)
    (try clear ho0)
    refine hK.out _ _ ⟨(blk_cell BK203.out 0).trans rfl, (blk_cell BK203.out 1).trans rfl, (blk_cell BK203.out 2).trans rfl, (blk_cell BK203.out 3).trans rfl⟩ (fun hHeld => ?_)
    clear hK K
    refine norm_ (a' := ?_) ?_ ?_
    rotate_left
    ·show Act.put _ (some 17) _ = _
     simp only [Act.put, List.setIfInBounds_toArray, List.set_cons_zero, List.set_cons_succ, i64_w, i32_w]
     rfl
    refine pure_ (i := 5) (N := some 8) (v := ?_) (a' := ?_) #[true, true, true, true, true, true] rfl rfl (by kernel_rfl) (fun _ _ _ h => h) (Or.inl ⟨by rfl, ?_⟩) ?_ ?_
    rotate_left
    ·intro w'
     go_simp
     with_reducible rfl
    rotate_left
    ·simp only [Act.put, List.setIfInBounds_toArray, List.set_cons_zero, List.set_cons_succ, i64_w, i32_w]
     rfl
    refine done_ (by kernel_rfl) ?_
    have hcz17_0 : w16.cell? ⟨gb203, 0, none⟩ = some (.slice A0_0 l0_0.length c0_0) := (blk_cell BK203.out 0).trans rfl
    have hcz17_1 : w16.cell? ⟨gb203, 1, none⟩ = some (.slice A0_1 l0_1.length c0_1) := (blk_cell BK203.out 1).trans rfl
    have hcz17_2 : w16.cell? ⟨gb203, 2, none⟩ = some (.int .i64 a0_2) := (blk_cell BK203.out 2).trans rfl
    have hcz17_3 : w16.cell? ⟨gb203, 3, none⟩ = some (.bool true) := (blk_cell BK203.out 3).trans rfl
    have hfz17_0 := blk_frozen BK203.out 0
    have hfz17_1 := blk_frozen BK203.out 1
    have hfz17_2 := blk_frozen BK203.out 2
    have hfz17_3 := blk_frozen BK203.out 3
    try go_wp2_with (first | ((with_reducible refine gate_callee (f := 112) rfl ?_); refine gL (some 26) Tryd.func112 #[.slice A0_0 l0_0.length c0_0, .int .i64 (wrap64 (a0_2 - a2))] ?_; (with_reducible refine (plumbref03_Shl.calls k _ _ l0_0 (wrap64 (a0_2 - a2)) t210 _ ?side1 ?side2 A7.out).mono ?_); (case side1 => exact dC (Kd.C_below HR0_0.out HB.out)); (case side2 => exact HC0_0.out); rintro e w18 ⟨v211, rfl, ho0, hb⟩; refine ⟨_, rfl, ?_⟩; have HO212 := Aside0.mk (Kd.R_lower (Kd.R_new' (Kd.R_new' ho0 (Kd.R_lt (dR HO206.out))) (Kd.R_lt (dR HO209.out))) (below_size (dG GE203.out))); replace HO206 := Aside0.mk (Kd.R_elder' (dR HO206.out) (Kd.R_base ho0) hb); replace HO209 := Aside0.mk (Kd.R_elder' (dR HO209.out) (Kd.R_base ho0) hb); replace BK203 := Aside0.mk (blk_below (g := gb203) (o := .cells #[.slice A0_0 l0_0.length c0_0, .slice A0_1 l0_1.length c0_1, .int .i64 a0_2, .bool true] 77 (0, 0)) (dK BK203.out) hb); replace HB := Aside0.mk (below_step (dG GE203.out) hb); (try clear hb); (try clear ho0); obtain ⟨Ao19, co19, eo19⟩ := Kd.R_slice HO212.out; subst eo19; obtain ⟨Ao20, co20, eo20⟩ := Kd.R_slice HO209.out; subst eo20) | ((with_reducible refine gate_callee (f := 113) rfl ?_); refine gL (some 33) Tryd.func113 #[.slice Ao19 t210.length co19, .slice Ao20 t207.length co20] ?_; (with_reducible refine (plumbref03_Cmp.calls k _ _ t210 _ _ t207 t213 _ ?side1 ?side2 ?side3 ?side4 A8.out).mono ?_); (case side1 => exact dC (Kd.R_reads' HO212.out).2.2); (case side2 => exact (Kd.R_reads' HO212.out).2.1); (case side3 => exact dC (Kd.R_reads' HO209.out).2.2); (case side4 => exact (Kd.R_reads' HO209.out).2.1); rintro e w' ⟨rfl, ⟨nd, rfl⟩⟩; refine ⟨_, rfl, ?_⟩; have hcz21_0 : w18.cell? ⟨gb203, 0, none⟩ = some (.slice A0_0 l0_0.length c0_0) := (blk_cell BK203.out 0).trans rfl; have hcz21_1 : w18.cell? ⟨gb203, 1, none⟩ = some (.slice A0_1 l0_1.length c0_1) := (blk_cell BK203.out 1).trans rfl; have hcz21_2 : w18.cell? ⟨gb203, 2, none⟩ = some (.int .i64 a0_2) := (blk_cell BK203.out 2).trans rfl; have hcz21_3 : w18.cell? ⟨gb203, 3, none⟩ = some (.bool true) := (blk_cell BK203.out 3).trans rfl; have hfz21_0 := blk_frozen BK203.out 0; have hfz21_1 := blk_frozen BK203.out 1; have hfz21_2 := blk_frozen BK203.out 2; have hfz21_3 := blk_frozen BK203.out 3))
    go_ret
    exact ⟨dE, dG GE203.out⟩
   ·replace c10 := Bool.eq_false_iff.mpr c10
    subst c10
    have H1 : (some t213) = some r := by rw [if_neg (show ¬ (false = true) by decide)] at H; exact H
    clear H
    have H := H1
    clear H1
    obtain rfl := Option.some.inj H
    go_enter Tryd.func89, Tryd.ntmps89
    try go_wp2_with (first | ((with_reducible refine gate_dst (N := 3) rfl ?_); refine box_event ?hg (N := 3) ?hd (cs := #[.slice A0_0 l0_0.length c0_0, .slice A0_1 l0_1.length c0_1, .int .i64 a0_2, .bool false]) (t := 77) ?hr ?_; (case hd => rfl); (case hg => rfl); (case hr => first | (go_simp; done) | (go_simp; rfl)); intro gb203 hg w22 hbox hb; have BK203 := Aside0.mk (hbox); have GW203 := Aside0.mk ((by rw [hg]; exact (below_size dB) : w.heap.size ≤ gb203)); have GE203 := Aside0.mk ((by rw [hg]; exact (below_size dB) : w.heap.size ≤ gb203)); replace HB := Aside0.mk (below_step dB hb); clear hb hbox hg; have hcz23_0 : w22.cell? ⟨gb203, 0, none⟩ = some (.slice A0_0 l0_0.length c0_0) := (blk_cell BK203.out 0).trans rfl; have hcz23_1 : w22.cell? ⟨gb203, 1, none⟩ = some (.slice A0_1 l0_1.length c0_1) := (blk_cell BK203.out 1).trans rfl; have hcz23_2 : w22.cell? ⟨gb203, 2, none⟩ = some (.int .i64 a0_2) := (blk_cell BK203.out 2).trans rfl; have hcz23_3 : w22.cell? ⟨gb203, 3, none⟩ = some (.bool false) := (blk_cell BK203.out 3).trans rfl; have hfz23_0 := blk_frozen BK203.out 0; have hfz23_1 := blk_frozen BK203.out 1; have hfz23_2 := blk_frozen BK203.out 2; have hfz23_3 := blk_frozen BK203.out 3))
    replace BK203 := Aside0.mk (blk_drew BK203.out)
    replace HB := Aside0.mk (below_drew1 HB.out)
    refine start_ (n := 6) (S := fun w' => w'.cell? ⟨gb203, 0, none⟩ = some (.slice A0_0 l0_0.length c0_0) ∧ w'.cell? ⟨gb203, 1, none⟩ = some (.slice A0_1 l0_1.length c0_1) ∧ w'.cell? ⟨gb203, 2, none⟩ = some (.int .i64 a0_2) ∧ w'.cell? ⟨gb203, 3, none⟩ = some (.bool false)) (ds := []) #[false, false, false, false, false, false] (by kernel_rfl) rfl rfl ⟨(blk_cell BK203.out 0).trans rfl, (blk_cell BK203.out 1).trans rfl, (blk_cell BK203.out 2).trans rfl, (blk_cell BK203.out 3).trans rfl⟩ (fun hHeld => ?_)
    generalize w22.drew = w24 at BK203 HB hHeld ⊢
    refine pure_ (i := 0) (N := some 13) (v := ?_) (a' := ?_) #[true, false, false, false, false, false] rfl rfl (by kernel_rfl) (fun _ _ _ h => h) (Or.inl ⟨by rfl, ?_⟩) ?_ ?_
    rotate_left
    ·intro w'
     go_simp
     with_reducible rfl
    rotate_left
    ·simp only [Act.put, List.setIfInBounds_toArray, List.set_cons_zero, List.set_cons_succ, i64_w, i32_w]
     rfl
    refine pure_ (i := 2) (N := some 15) (v := ?_) (a' := ?_) #[true, false, true, false, false, false] rfl rfl (by kernel_rfl) (fun _ _ _ h => h) (Or.inl ⟨by rfl, ?_⟩) ?_ ?_
    rotate_left
    ·intro w'
     go_simp
     with_reducible rfl
    rotate_left
    ·simp only [Act.put, List.setIfInBounds_toArray, List.set_cons_zero, List.set_cons_succ, i64_w, i32_w]
     rfl
    refine take_ (i := 3) (N := some 16) (v := ?_) (a' := ?_) #[true, false, true, true, false, false] rfl rfl (by kernel_rfl) (fun _ _ _ h => h) (Or.inl ⟨by rfl, ?_⟩) hHeld ?_ ?_
    rotate_left
    ·rintro w' ⟨s0, s1, s2, s3⟩
     go_simp
     with_reducible rfl
    rotate_left
    ·simp only [Act.put, List.setIfInBounds_toArray, List.set_cons_zero, List.set_cons_succ, i64_w, i32_w]
     rfl
    refine one_ (i := 1) (N := some 14) #[true, true, true, true, false, false] rfl rfl (by kernel_rfl) (by decide) (fun K hK => ?_)
    refine goes_ Tryd.func111 (by kernel_rfl) rfl #[.int .u64 a1] (by rfl) rfl rfl dA ?_
    with_reducible refine (plumbref03_Word.calls k a1 t204 _ A4.out).mono ?_
    rintro e w25 ⟨v205, rfl, ho0, hb⟩
    refine ⟨_, rfl, ?_⟩
    have HO206 := Aside0.mk (Kd.R_lower ho0 (below_size (dG GE203.out)))
    replace BK203 := Aside0.mk (blk_below (g := gb203) (o := .cells #[.slice A0_0 l0_0.length c0_0, .slice A0_1 l0_1.length c0_1, .int .i64 a0_2, .bool false] 77 (0, 0)) (dK BK203.out) hb)
    replace HB := Aside0.mk (below_step (dG GE203.out) hb)
    (try clear hb)
    (try clear hb2)
    (try clear hk)
    (try clear hi)
    (try clear ho0)
    obtain ⟨Ao26, co26, eo26⟩ := Kd.R_slice HO206.out
    (first | subst eo26 | (injection eo26 with f1_ f2_ f3_; have f4_ := f1_.symm; have f5_ := f3_.symm; clear f1_ f2_ f3_; subst f4_; subst f5_))
    refine hK.out _ _ ⟨(blk_cell BK203.out 0).trans rfl, (blk_cell BK203.out 1).trans rfl, (blk_cell BK203.out 2).trans rfl, (blk_cell BK203.out 3).trans rfl⟩ (fun hHeld => ?_)
    clear hK K
    refine norm_ (a' := ?_) ?_ ?_
    rotate_left
    ·show Act.put _ (some 14) _ = _
     simp only [Act.put, List.setIfInBounds_toArray, List.set_cons_zero, List.set_cons_succ, i64_w, i32_w]
     rfl
    refine one_ (i := 4) (N := some 17) #[true, true, true, true, true, false] rfl rfl (by kernel_rfl) (by decide) (fun K hK => ?_)
    refine goes_ Tryd.func110 (by kernel_rfl) rfl #[.slice Ao26 t204.length co26, .slice A0_1 l0_1.length c0_1] (by rfl) rfl rfl dA ?_
    with_reducible refine (plumbref03_Mul.calls k _ _ t204 _ _ l0_1 t207 _ ?side1 ?side2 ?side3 ?side4 A5.out).mono ?_
    (case side1 => exact dC (Kd.R_reads' HO206.out).2.2)
    (case side2 => exact (Kd.R_reads' HO206.out).2.1)
    (case side3 => exact dC (Kd.C_below HR0_1.out HB.out))
    (case side4 => exact HC0_1.out)
    rintro e w27 ⟨v208, rfl, ho0, hb⟩
    refine ⟨_, rfl, ?_⟩
    have HO209 := Aside0.mk (Kd.R_lower (Kd.R_new' ho0 (Kd.R_lt (dR HO206.out))) (below_size (dG GE203.out)))
    replace HO206 := Aside0.mk (Kd.R_elder' (dR HO206.out) (Kd.R_base ho0) hb)
    replace BK203 := Aside0.mk (blk_below (g := gb203) (o := .cells #[.slice A0_0 l0_0.length c0_0, .slice A0_1 l0_1.length c0_1, .int .i64 a0_2, .bool false] 77 (0, 0)) (dK BK203.out) hb)
    replace HB := Aside0.mk (below_step (dG GE203.out) hb)
    (try clear hb)
    (try clear hb2)
    (try clear hk)
    (try clear hi)
    (try clear ho0)
    refine hK.out _ _ ⟨(blk_cell BK203.out 0).trans rfl, (blk_cell BK203.out 1).trans rfl, (blk_cell BK203.out 2).trans rfl, (blk_cell BK203.out 3).trans rfl⟩ (fun hHeld => ?_)
    clear hK K
    refine norm_ (a' := ?_) ?_ ?_
    rotate_left
    ·show Act.put _ (some 17) _ = _
     simp only [Act.put, List.setIfInBounds_toArray, List.set_cons_zero, List.set_cons_succ, i64_w, i32_w]
     rfl
    refine pure_ (i := 5) (N := some 8) (v := ?_) (a' := ?_) #[true, true, true, true, true, true] rfl rfl (by kernel_rfl) (fun _ _ _ h => h) (Or.inl ⟨by rfl, ?_⟩) ?_ ?_
    rotate_left
    ·intro w'
     go_simp
     with_reducible rfl
    rotate_left
    ·simp only [Act.put, List.setIfInBounds_toArray, List.set_cons_zero, List.set_cons_succ, i64_w, i32_w]
     rfl
    refine done_ (by kernel_rfl) ?_
    have hcz28_0 : w27.cell? ⟨gb203, 0, none⟩ = some (.slice A0_0 l0_0.length c0_0) := (blk_cell BK203.out 0).trans rfl
    have hcz28_1 : w27.cell? ⟨gb203, 1, none⟩ = some (.slice A0_1 l0_1.length c0_1) := (blk_cell BK203.out 1).trans rfl
    have hcz28_2 : w27.cell? ⟨gb203, 2, none⟩ = some (.int .i64 a0_2) := (blk_cell BK203.out 2).trans rfl
    have hcz28_3 : w27.cell? ⟨gb203, 3, none⟩ = some (.bool false) := (blk_cell BK203.out 3).trans rfl
    have hfz28_0 := blk_frozen BK203.out 0
    have hfz28_1 := blk_frozen BK203.out 1
    have hfz28_2 := blk_frozen BK203.out 2
    have hfz28_3 := blk_frozen BK203.out 3
    try go_wp2_with (first | ((with_reducible refine gate_callee (f := 112) rfl ?_); refine gL (some 26) Tryd.func112 #[.slice A0_0 l0_0.length c0_0, .int .i64 (wrap64 (a0_2 - a2))] ?_; (with_reducible refine (plumbref03_Shl.calls k _ _ l0_0 (wrap64 (a0_2 - a2)) t210 _ ?side1 ?side2 A7.out).mono ?_); (case side1 => exact dC (Kd.C_below HR0_0.out HB.out)); (case side2 => exact HC0_0.out); rintro e w29 ⟨v211, rfl, ho0, hb⟩; refine ⟨_, rfl, ?_⟩; have HO212 := Aside0.mk (Kd.R_lower (Kd.R_new' (Kd.R_new' ho0 (Kd.R_lt (dR HO206.out))) (Kd.R_lt (dR HO209.out))) (below_size (dG GE203.out))); replace HO206 := Aside0.mk (Kd.R_elder' (dR HO206.out) (Kd.R_base ho0) hb); replace HO209 := Aside0.mk (Kd.R_elder' (dR HO209.out) (Kd.R_base ho0) hb); replace BK203 := Aside0.mk (blk_below (g := gb203) (o := .cells #[.slice A0_0 l0_0.length c0_0, .slice A0_1 l0_1.length c0_1, .int .i64 a0_2, .bool false] 77 (0, 0)) (dK BK203.out) hb); replace HB := Aside0.mk (below_step (dG GE203.out) hb); (try clear hb); (try clear ho0); obtain ⟨Ao30, co30, eo30⟩ := Kd.R_slice HO212.out; subst eo30; obtain ⟨Ao31, co31, eo31⟩ := Kd.R_slice HO209.out; subst eo31) | ((with_reducible refine gate_callee (f := 113) rfl ?_); refine gL (some 33) Tryd.func113 #[.slice Ao30 t210.length co30, .slice Ao31 t207.length co31] ?_; (with_reducible refine (plumbref03_Cmp.calls k _ _ t210 _ _ t207 t213 _ ?side1 ?side2 ?side3 ?side4 A8.out).mono ?_); (case side1 => exact dC (Kd.R_reads' HO212.out).2.2); (case side2 => exact (Kd.R_reads' HO212.out).2.1); (case side3 => exact dC (Kd.R_reads' HO209.out).2.2); (case side4 => exact (Kd.R_reads' HO209.out).2.1); rintro e w' ⟨rfl, ⟨nd, rfl⟩⟩; refine ⟨_, rfl, ?_⟩; have hcz32_0 : w29.cell? ⟨gb203, 0, none⟩ = some (.slice A0_0 l0_0.length c0_0) := (blk_cell BK203.out 0).trans rfl; have hcz32_1 : w29.cell? ⟨gb203, 1, none⟩ = some (.slice A0_1 l0_1.length c0_1) := (blk_cell BK203.out 1).trans rfl; have hcz32_2 : w29.cell? ⟨gb203, 2, none⟩ = some (.int .i64 a0_2) := (blk_cell BK203.out 2).trans rfl; have hcz32_3 : w29.cell? ⟨gb203, 3, none⟩ = some (.bool false) := (blk_cell BK203.out 3).trans rfl; have hfz32_0 := blk_frozen BK203.out 0; have hfz32_1 := blk_frozen BK203.out 1; have hfz32_2 := blk_frozen BK203.out 2; have hfz32_3 := blk_frozen BK203.out 3))
    go_ret
    exact ⟨dE, dG GE203.out⟩
  ·rw [if_neg c9] at H
   have c9b0 : (t213 == 0) = false := beq_eq_false_iff_ne.mpr c9
   have c9b1 : (t213 != 0) = true := bne_iff_ne.mpr c9
   obtain rfl := Option.some.inj H
   go_enter Tryd.func89, Tryd.ntmps89
   try go_wp2_with (first | ((with_reducible refine gate_dst (N := 3) rfl ?_); refine box_event ?hg (N := 3) ?hd (cs := #[.slice A0_0 l0_0.length c0_0, .slice A0_1 l0_1.length c0_1, .int .i64 a0_2, .bool a0_3]) (t := 77) ?hr ?_; (case hd => rfl); (case hg => rfl); (case hr => first | (go_simp; done) | (go_simp; rfl)); intro gb203 hg w33 hbox hb; have BK203 := Aside0.mk (hbox); have GW203 := Aside0.mk ((by rw [hg]; exact (below_size dB) : w.heap.size ≤ gb203)); have GE203 := Aside0.mk ((by rw [hg]; exact (below_size dB) : w.heap.size ≤ gb203)); replace HB := Aside0.mk (below_step dB hb); clear hb hbox hg; have hcz34_0 : w33.cell? ⟨gb203, 0, none⟩ = some (.slice A0_0 l0_0.length c0_0) := (blk_cell BK203.out 0).trans rfl; have hcz34_1 : w33.cell? ⟨gb203, 1, none⟩ = some (.slice A0_1 l0_1.length c0_1) := (blk_cell BK203.out 1).trans rfl; have hcz34_2 : w33.cell? ⟨gb203, 2, none⟩ = some (.int .i64 a0_2) := (blk_cell BK203.out 2).trans rfl; have hcz34_3 : w33.cell? ⟨gb203, 3, none⟩ = some (.bool a0_3) := (blk_cell BK203.out 3).trans rfl; have hfz34_0 := blk_frozen BK203.out 0; have hfz34_1 := blk_frozen BK203.out 1; have hfz34_2 := blk_frozen BK203.out 2; have hfz34_3 := blk_frozen BK203.out 3))
   replace BK203 := Aside0.mk (blk_drew BK203.out)
   replace HB := Aside0.mk (below_drew1 HB.out)
   refine start_ (n := 6) (S := fun w' => w'.cell? ⟨gb203, 0, none⟩ = some (.slice A0_0 l0_0.length c0_0) ∧ w'.cell? ⟨gb203, 1, none⟩ = some (.slice A0_1 l0_1.length c0_1) ∧ w'.cell? ⟨gb203, 2, none⟩ = some (.int .i64 a0_2) ∧ w'.cell? ⟨gb203, 3, none⟩ = some (.bool a0_3)) (ds := []) #[false, false, false, false, false, false] (by kernel_rfl) rfl rfl ⟨(blk_cell BK203.out 0).trans rfl, (blk_cell BK203.out 1).trans rfl, (blk_cell BK203.out 2).trans rfl, (blk_cell BK203.out 3).trans rfl⟩ (fun hHeld => ?_)
   generalize w33.drew = w35 at BK203 HB hHeld ⊢
   refine pure_ (i := 0) (N := some 13) (v := ?_) (a' := ?_) #[true, false, false, false, false, false] rfl rfl (by kernel_rfl) (fun _ _ _ h => h) (Or.inl ⟨by rfl, ?_⟩) ?_ ?_
   rotate_left
   ·intro w'
    go_simp
    with_reducible rfl
   rotate_left
   ·simp only [Act.put, List.setIfInBounds_toArray, List.set_cons_zero, List.set_cons_succ, i64_w, i32_w]
    rfl
   refine pure_ (i := 2) (N := some 15) (v := ?_) (a' := ?_) #[true, false, true, false, false, false] rfl rfl (by kernel_rfl) (fun _ _ _ h => h) (Or.inl ⟨by rfl, ?_⟩) ?_ ?_
   rotate_left
   ·intro w'
    go_simp
    with_reducible rfl
   rotate_left
   ·simp only [Act.put, List.setIfInBounds_toArray, List.set_cons_zero, List.set_cons_succ, i64_w, i32_w]
    rfl
   refine take_ (i := 3) (N := some 16) (v := ?_) (a' := ?_) #[true, false, true, true, false, false] rfl rfl (by kernel_rfl) (fun _ _ _ h => h) (Or.inl ⟨by rfl, ?_⟩) hHeld ?_ ?_
   rotate_left
   ·rintro w' ⟨s0, s1, s2, s3⟩
    go_simp
    with_reducible rfl
   rotate_left
   ·simp only [Act.put, List.setIfInBounds_toArray, List.set_cons_zero, List.set_cons_succ, i64_w, i32_w]
    rfl
   refine one_ (i := 1) (N := some 14) #[true, true, true, true, false, false] rfl rfl (by kernel_rfl) (by decide) (fun K hK => ?_)
   refine goes_ Tryd.func111 (by kernel_rfl) rfl #[.int .u64 a1] (by rfl) rfl rfl dA ?_
   with_reducible refine (plumbref03_Word.calls k a1 t204 _ A4.out).mono ?_
   rintro e w36 ⟨v205, rfl, ho0, hb⟩
   refine ⟨_, rfl, ?_⟩
   have HO206 := Aside0.mk (Kd.R_lower ho0 (below_size (dG GE203.out)))
   replace BK203 := Aside0.mk (blk_below (g := gb203) (o := .cells #[.slice A0_0 l0_0.length c0_0, .slice A0_1 l0_1.length c0_1, .int .i64 a0_2, .bool a0_3] 77 (0, 0)) (dK BK203.out) hb)
   replace HB := Aside0.mk (below_step (dG GE203.out) hb)
   (try clear hb)
   (try clear hb2)
   (try clear hk)
   (try clear hi)
   (try clear ho0)
   obtain ⟨Ao37, co37, eo37⟩ := Kd.R_slice HO206.out
   (first | subst eo37 | (injection eo37 with f1_ f2_ f3_; have f4_ := f1_.symm; have f5_ := f3_.symm; clear f1_ f2_ f3_; subst f4_; subst f5_))
   refine hK.out _ _ ⟨(blk_cell BK203.out 0).trans rfl, (blk_cell BK203.out 1).trans rfl, (blk_cell BK203.out 2).trans rfl, (blk_cell BK203.out 3).trans rfl⟩ (fun hHeld => ?_)
   clear hK K
   refine norm_ (a' := ?_) ?_ ?_
   rotate_left
   ·show Act.put _ (some 14) _ = _
    simp only [Act.put, List.setIfInBounds_toArray, List.set_cons_zero, List.set_cons_succ, i64_w, i32_w]
    rfl
   refine one_ (i := 4) (N := some 17) #[true, true, true, true, true, false] rfl rfl (by kernel_rfl) (by decide) (fun K hK => ?_)
   refine goes_ Tryd.func110 (by kernel_rfl) rfl #[.slice Ao37 t204.length co37, .slice A0_1 l0_1.length c0_1] (by rfl) rfl rfl dA ?_
   with_reducible refine (plumbref03_Mul.calls k _ _ t204 _ _ l0_1 t207 _ ?side1 ?side2 ?side3 ?side4 A5.out).mono ?_
   (case side1 => exact dC (Kd.R_reads' HO206.out).2.2)
   (case side2 => exact (Kd.R_reads' HO206.out).2.1)
   (case side3 => exact dC (Kd.C_below HR0_1.out HB.out))
   (case side4 => exact HC0_1.out)
   rintro e w38 ⟨v208, rfl, ho0, hb⟩
   refine ⟨_, rfl, ?_⟩
   have HO209 := Aside0.mk (Kd.R_lower (Kd.R_new' ho0 (Kd.R_lt (dR HO206.out))) (below_size (dG GE203.out)))
   replace HO206 := Aside0.mk (Kd.R_elder' (dR HO206.out) (Kd.R_base ho0) hb)
   replace BK203 := Aside0.mk (blk_below (g := gb203) (o := .cells #[.slice A0_0 l0_0.length c0_0, .slice A0_1 l0_1.length c0_1, .int .i64 a0_2, .bool a0_3] 77 (0, 0)) (dK BK203.out) hb)
   replace HB := Aside0.mk (below_step (dG GE203.out) hb)
   (try clear hb)
   (try clear hb2)
   (try clear hk)
   (try clear hi)
   (try clear ho0)
   refine hK.out _ _ ⟨(blk_cell BK203.out 0).trans rfl, (blk_cell BK203.out 1).trans rfl, (blk_cell BK203.out 2).trans rfl, (blk_cell BK203.out 3).trans rfl⟩ (fun hHeld => ?_)
   clear hK K
   refine norm_ (a' := ?_) ?_ ?_
   rotate_left
   ·show Act.put _ (some 17) _ = _
    simp only [Act.put, List.setIfInBounds_toArray, List.set_cons_zero, List.set_cons_succ, i64_w, i32_w]
    rfl
   refine pure_ (i := 5) (N := some 8) (v := ?_) (a' := ?_) #[true, true, true, true, true, true] rfl rfl (by kernel_rfl) (fun _ _ _ h => h) (Or.inl ⟨by rfl, ?_⟩) ?_ ?_
   rotate_left
   ·intro w'
    go_simp
    with_reducible rfl
   rotate_left
   ·simp only [Act.put, List.setIfInBounds_toArray, List.set_cons_zero, List.set_cons_succ, i64_w, i32_w]
    rfl
   refine done_ (by kernel_rfl) ?_
   have hcz39_0 : w38.cell? ⟨gb203, 0, none⟩ = some (.slice A0_0 l0_0.length c0_0) := (blk_cell BK203.out 0).trans rfl
   have hcz39_1 : w38.cell? ⟨gb203, 1, none⟩ = some (.slice A0_1 l0_1.length c0_1) := (blk_cell BK203.out 1).trans rfl
   have hcz39_2 : w38.cell? ⟨gb203, 2, none⟩ = some (.int .i64 a0_2) := (blk_cell BK203.out 2).trans rfl
   have hcz39_3 : w38.cell? ⟨gb203, 3, none⟩ = some (.bool a0_3) := (blk_cell BK203.out 3).trans rfl
   have hfz39_0 := blk_frozen BK203.out 0
   have hfz39_1 := blk_frozen BK203.out 1
   have hfz39_2 := blk_frozen BK203.out 2
   have hfz39_3 := blk_frozen BK203.out 3
   try go_wp2_with (first | ((with_reducible refine gate_callee (f := 112) rfl ?_); refine gL (some 26) Tryd.func112 #[.slice A0_0 l0_0.length c0_0, .int .i64 (wrap64 (a0_2 - a2))] ?_; (with_reducible refine (plumbref03_Shl.calls k _ _ l0_0 (wrap64 (a0_2 - a2)) t210 _ ?side1 ?side2 A7.out).mono ?_); (case side1 => exact dC (Kd.C_below HR0_0.out HB.out)); (case side2 => exact HC0_0.out); rintro e w40 ⟨v211, rfl, ho0, hb⟩; refine ⟨_, rfl, ?_⟩; have HO212 := Aside0.mk (Kd.R_lower (Kd.R_new' (Kd.R_new' ho0 (Kd.R_lt (dR HO206.out))) (Kd.R_lt (dR HO209.out))) (below_size (dG GE203.out))); replace HO206 := Aside0.mk (Kd.R_elder' (dR HO206.out) (Kd.R_base ho0) hb); replace HO209 := Aside0.mk (Kd.R_elder' (dR HO209.out) (Kd.R_base ho0) hb); replace BK203 := Aside0.mk (blk_below (g := gb203) (o := .cells #[.slice A0_0 l0_0.length c0_0, .slice A0_1 l0_1.length c0_1, .int .i64 a0_2, .bool a0_3] 77 (0, 0)) (dK BK203.out) hb); replace HB := Aside0.mk (below_step (dG GE203.out) hb); (try clear hb); (try clear ho0); obtain ⟨Ao41, co41, eo41⟩ := Kd.R_slice HO212.out; subst eo41; obtain ⟨Ao42, co42, eo42⟩ := Kd.R_slice HO209.out; subst eo42) | ((with_reducible refine gate_callee (f := 113) rfl ?_); refine gL (some 33) Tryd.func113 #[.slice Ao41 t210.length co41, .slice Ao42 t207.length co42] ?_; (with_reducible refine (plumbref03_Cmp.calls k _ _ t210 _ _ t207 t213 _ ?side1 ?side2 ?side3 ?side4 A8.out).mono ?_); (case side1 => exact dC (Kd.R_reads' HO212.out).2.2); (case side2 => exact (Kd.R_reads' HO212.out).2.1); (case side3 => exact dC (Kd.R_reads' HO209.out).2.2); (case side4 => exact (Kd.R_reads' HO209.out).2.1); rintro e w' ⟨rfl, ⟨nd, rfl⟩⟩; refine ⟨_, rfl, ?_⟩))
   go_ret
   exact ⟨dE, dG GE203.out⟩
 ·rw [if_neg c6] at H
  have c6b0 : decide (0 < (wrap64 (a0_2 - a2))) = false := decide_eq_false c6
  clear c6
  replace H := obe H
  obtain ⟨t214, A430, H⟩ := H
  replace H : ((plumbref03_Cmp.f k l0_0 t214).bind fun t217 => (if t217 = 0 then (if a0_3 = true then (some 1) else (some t217)) else (some t217))) = some r := H
  have A43 := Aside0.mk A430
  clear A430
  replace H := obe H
  obtain ⟨t217, A440, H⟩ := H
  replace H : (if t217 = 0 then (if a0_3 = true then (some 1) else (some t217)) else (some t217)) = some r := H
  have A44 := Aside0.mk A440
  clear A440
  by_cases c45 : t217 = 0
  ·rw [if_pos c45] at H
   have c45b0 : (t217 == 0) = true := beq_iff_eq.mpr c45
   have c45b1 : (t217 != 0) = false := bne_eq_false_iff_eq.mpr c45
   clear c45
   by_cases c46 : a0_3 = true
   ·subst c46
    have H1 : (some 1) = some r := by rw [if_pos rfl] at H; exact H
    clear H
    have H := H1
    clear H1
    obtain rfl := Option.some.inj H
    go_enter Tryd.func89, Tryd.ntmps89
    try go_wp2_with (first | ((with_reducible refine gate_dst (N := 3) rfl ?_); refine box_event ?hg (N := 3) ?hd (cs := #[.slice A0_0 l0_0.length c0_0, .slice A0_1 l0_1.length c0_1, .int .i64 a0_2, .bool true]) (t := 77) ?hr ?_; (case hd => rfl); (case hg => rfl); (case hr => first | (go_simp; done) | (go_simp; rfl)); intro gb203 hg w47 hbox hb; have BK203 := Aside0.mk (hbox); have GW203 := Aside0.mk ((by rw [hg]; exact (below_size dB) : w.heap.size ≤ gb203)); have GE203 := Aside0.mk ((by rw [hg]; exact (below_size dB) : w.heap.size ≤ gb203)); replace HB := Aside0.mk (below_step dB hb); clear hb hbox hg; have hcz48_0 : w47.cell? ⟨gb203, 0, none⟩ = some (.slice A0_0 l0_0.length c0_0) := (blk_cell BK203.out 0).trans rfl; have hcz48_1 : w47.cell? ⟨gb203, 1, none⟩ = some (.slice A0_1 l0_1.length c0_1) := (blk_cell BK203.out 1).trans rfl; have hcz48_2 : w47.cell? ⟨gb203, 2, none⟩ = some (.int .i64 a0_2) := (blk_cell BK203.out 2).trans rfl; have hcz48_3 : w47.cell? ⟨gb203, 3, none⟩ = some (.bool true) := (blk_cell BK203.out 3).trans rfl; have hfz48_0 := blk_frozen BK203.out 0; have hfz48_1 := blk_frozen BK203.out 1; have hfz48_2 := blk_frozen BK203.out 2; have hfz48_3 := blk_frozen BK203.out 3))
    replace BK203 := Aside0.mk (blk_drew BK203.out)
    replace HB := Aside0.mk (below_drew1 HB.out)
    refine start_ (n := 6) (S := fun w' => w'.cell? ⟨gb203, 0, none⟩ = some (.slice A0_0 l0_0.length c0_0) ∧ w'.cell? ⟨gb203, 1, none⟩ = some (.slice A0_1 l0_1.length c0_1) ∧ w'.cell? ⟨gb203, 2, none⟩ = some (.int .i64 a0_2) ∧ w'.cell? ⟨gb203, 3, none⟩ = some (.bool true)) (ds := []) #[false, false, false, false, false, false] (by kernel_rfl) rfl rfl ⟨(blk_cell BK203.out 0).trans rfl, (blk_cell BK203.out 1).trans rfl, (blk_cell BK203.out 2).trans rfl, (blk_cell BK203.out 3).trans rfl⟩ (fun hHeld => ?_)
    generalize w47.drew = w49 at BK203 HB hHeld ⊢
    refine pure_ (i := 0) (N := some 13) (v := ?_) (a' := ?_) #[true, false, false, false, false, false] rfl rfl (by kernel_rfl) (fun _ _ _ h => h) (Or.inl ⟨by rfl, ?_⟩) ?_ ?_
    rotate_left
    ·intro w'
     go_simp
     with_reducible rfl
    rotate_left
    ·simp only [Act.put, List.setIfInBounds_toArray, List.set_cons_zero, List.set_cons_succ, i64_w, i32_w]
     rfl
    refine pure_ (i := 2) (N := some 15) (v := ?_) (a' := ?_) #[true, false, true, false, false, false] rfl rfl (by kernel_rfl) (fun _ _ _ h => h) (Or.inl ⟨by rfl, ?_⟩) ?_ ?_
    rotate_left
    ·intro w'
     go_simp
     with_reducible rfl
    rotate_left
    ·simp only [Act.put, List.setIfInBounds_toArray, List.set_cons_zero, List.set_cons_succ, i64_w, i32_w]
     rfl
    refine take_ (i := 3) (N := some 16) (v := ?_) (a' := ?_) #[true, false, true, true, false, false] rfl rfl (by kernel_rfl) (fun _ _ _ h => h) (Or.inl ⟨by rfl, ?_⟩) hHeld ?_ ?_
    rotate_left
    ·rintro w' ⟨s0, s1, s2, s3⟩
     go_simp
     with_reducible rfl
    rotate_left
    ·simp only [Act.put, List.setIfInBounds_toArray, List.set_cons_zero, List.set_cons_succ, i64_w, i32_w]
     rfl
    refine one_ (i := 1) (N := some 14) #[true, true, true, true, false, false] rfl rfl (by kernel_rfl) (by decide) (fun K hK => ?_)
    refine goes_ Tryd.func111 (by kernel_rfl) rfl #[.int .u64 a1] (by rfl) rfl rfl dA ?_
    with_reducible refine (plumbref03_Word.calls k a1 t204 _ A4.out).mono ?_
    rintro e w50 ⟨v205, rfl, ho0, hb⟩
    refine ⟨_, rfl, ?_⟩
    have HO206 := Aside0.mk (Kd.R_lower ho0 (below_size (dG GE203.out)))
    replace BK203 := Aside0.mk (blk_below (g := gb203) (o := .cells #[.slice A0_0 l0_0.length c0_0, .slice A0_1 l0_1.length c0_1, .int .i64 a0_2, .bool true] 77 (0, 0)) (dK BK203.out) hb)
    replace HB := Aside0.mk (below_step (dG GE203.out) hb)
    (try clear hb)
    (try clear hb2)
    (try clear hk)
    (try clear hi)
    (try clear ho0)
    obtain ⟨Ao51, co51, eo51⟩ := Kd.R_slice HO206.out
    (first | subst eo51 | (injection eo51 with f1_ f2_ f3_; have f4_ := f1_.symm; have f5_ := f3_.symm; clear f1_ f2_ f3_; subst f4_; subst f5_))
    refine hK.out _ _ ⟨(blk_cell BK203.out 0).trans rfl, (blk_cell BK203.out 1).trans rfl, (blk_cell BK203.out 2).trans rfl, (blk_cell BK203.out 3).trans rfl⟩ (fun hHeld => ?_)
    clear hK K
    refine norm_ (a' := ?_) ?_ ?_
    rotate_left
    ·show Act.put _ (some 14) _ = _
     simp only [Act.put, List.setIfInBounds_toArray, List.set_cons_zero, List.set_cons_succ, i64_w, i32_w]
     rfl
    refine one_ (i := 4) (N := some 17) #[true, true, true, true, true, false] rfl rfl (by kernel_rfl) (by decide) (fun K hK => ?_)
    refine goes_ Tryd.func110 (by kernel_rfl) rfl #[.slice Ao51 t204.length co51, .slice A0_1 l0_1.length c0_1] (by rfl) rfl rfl dA ?_
    with_reducible refine (plumbref03_Mul.calls k _ _ t204 _ _ l0_1 t207 _ ?side1 ?side2 ?side3 ?side4 A5.out).mono ?_
    (case side1 => exact dC (Kd.R_reads' HO206.out).2.2)
    (case side2 => exact (Kd.R_reads' HO206.out).2.1)
    (case side3 => exact dC (Kd.C_below HR0_1.out HB.out))
    (case side4 => exact HC0_1.out)
    rintro e w52 ⟨v208, rfl, ho0, hb⟩
    refine ⟨_, rfl, ?_⟩
    have HO209 := Aside0.mk (Kd.R_lower (Kd.R_new' ho0 (Kd.R_lt (dR HO206.out))) (below_size (dG GE203.out)))
    replace HO206 := Aside0.mk (Kd.R_elder' (dR HO206.out) (Kd.R_base ho0) hb)
    replace BK203 := Aside0.mk (blk_below (g := gb203) (o := .cells #[.slice A0_0 l0_0.length c0_0, .slice A0_1 l0_1.length c0_1, .int .i64 a0_2, .bool true] 77 (0, 0)) (dK BK203.out) hb)
    replace HB := Aside0.mk (below_step (dG GE203.out) hb)
    (try clear hb)
    (try clear hb2)
    (try clear hk)
    (try clear hi)
    (try clear ho0)
    refine hK.out _ _ ⟨(blk_cell BK203.out 0).trans rfl, (blk_cell BK203.out 1).trans rfl, (blk_cell BK203.out 2).trans rfl, (blk_cell BK203.out 3).trans rfl⟩ (fun hHeld => ?_)
    clear hK K
    refine norm_ (a' := ?_) ?_ ?_
    rotate_left
    ·show Act.put _ (some 17) _ = _
     simp only [Act.put, List.setIfInBounds_toArray, List.set_cons_zero, List.set_cons_succ, i64_w, i32_w]
     rfl
    refine pure_ (i := 5) (N := some 8) (v := ?_) (a' := ?_) #[true, true, true, true, true, true] rfl rfl (by kernel_rfl) (fun _ _ _ h => h) (Or.inl ⟨by rfl, ?_⟩) ?_ ?_
    rotate_left
    ·intro w'
     go_simp
     with_reducible rfl
    rotate_left
    ·simp only [Act.put, List.setIfInBounds_toArray, List.set_cons_zero, List.set_cons_succ, i64_w, i32_w]
     rfl
    refine done_ (by kernel_rfl) ?_
    have hcz53_0 : w52.cell? ⟨gb203, 0, none⟩ = some (.slice A0_0 l0_0.length c0_0) := (blk_cell BK203.out 0).trans rfl
    have hcz53_1 : w52.cell? ⟨gb203, 1, none⟩ = some (.slice A0_1 l0_1.length c0_1) := (blk_cell BK203.out 1).trans rfl
    have hcz53_2 : w52.cell? ⟨gb203, 2, none⟩ = some (.int .i64 a0_2) := (blk_cell BK203.out 2).trans rfl
    have hcz53_3 : w52.cell? ⟨gb203, 3, none⟩ = some (.bool true) := (blk_cell BK203.out 3).trans rfl
    have hfz53_0 := blk_frozen BK203.out 0
    have hfz53_1 := blk_frozen BK203.out 1
    have hfz53_2 := blk_frozen BK203.out 2
    have hfz53_3 := blk_frozen BK203.out 3
    obtain ⟨Ao54, co54, eo54⟩ := Kd.R_slice HO209.out
    subst eo54
    try go_wp2_with (first | ((with_reducible refine gate_callee (f := 112) rfl ?_); refine gL (some 30) Tryd.func112 #[.slice Ao54 t207.length co54, .int .i64 (wrap64 (-(wrap64 (a0_2 - a2))))] ?_; (with_reducible refine (plumbref03_Shl.calls k _ _ t207 (wrap64 (-(wrap64 (a0_2 - a2)))) t214 _ ?side1 ?side2 A43.out).mono ?_); (case side1 => exact dC (Kd.R_reads' HO209.out).2.2); (case side2 => exact (Kd.R_reads' HO209.out).2.1); rintro e w55 ⟨v215, rfl, ho0, hb⟩; refine ⟨_, rfl, ?_⟩; have HO216 := Aside0.mk (Kd.R_lower (Kd.R_new' (Kd.R_new' ho0 (Kd.R_lt (dR HO206.out))) (Kd.R_lt (dR HO209.out))) (below_size (dG GE203.out))); replace HO206 := Aside0.mk (Kd.R_elder' (dR HO206.out) (Kd.R_base ho0) hb); replace HO209 := Aside0.mk (Kd.R_elder' (dR HO209.out) (Kd.R_base ho0) hb); replace BK203 := Aside0.mk (blk_below (g := gb203) (o := .cells #[.slice A0_0 l0_0.length c0_0, .slice A0_1 l0_1.length c0_1, .int .i64 a0_2, .bool true] 77 (0, 0)) (dK BK203.out) hb); replace HB := Aside0.mk (below_step (dG GE203.out) hb); (try clear hb); (try clear ho0); obtain ⟨Ao56, co56, eo56⟩ := Kd.R_slice HO216.out; subst eo56) | ((with_reducible refine gate_callee (f := 113) rfl ?_); refine gL (some 33) Tryd.func113 #[.slice A0_0 l0_0.length c0_0, .slice Ao56 t214.length co56] ?_; (with_reducible refine (plumbref03_Cmp.calls k _ _ l0_0 _ _ t214 t217 _ ?side1 ?side2 ?side3 ?side4 A44.out).mono ?_); (case side1 => exact dC (Kd.C_below HR0_0.out HB.out)); (case side2 => exact HC0_0.out); (case side3 => exact dC (Kd.R_reads' HO216.out).2.2); (case side4 => exact (Kd.R_reads' HO216.out).2.1); rintro e w' ⟨rfl, ⟨nd, rfl⟩⟩; refine ⟨_, rfl, ?_⟩; have hcz57_0 : w55.cell? ⟨gb203, 0, none⟩ = some (.slice A0_0 l0_0.length c0_0) := (blk_cell BK203.out 0).trans rfl; have hcz57_1 : w55.cell? ⟨gb203, 1, none⟩ = some (.slice A0_1 l0_1.length c0_1) := (blk_cell BK203.out 1).trans rfl; have hcz57_2 : w55.cell? ⟨gb203, 2, none⟩ = some (.int .i64 a0_2) := (blk_cell BK203.out 2).trans rfl; have hcz57_3 : w55.cell? ⟨gb203, 3, none⟩ = some (.bool true) := (blk_cell BK203.out 3).trans rfl; have hfz57_0 := blk_frozen BK203.out 0; have hfz57_1 := blk_frozen BK203.out 1; have hfz57_2 := blk_frozen BK203.out 2; have hfz57_3 := blk_frozen BK203.out 3))
    go_ret
    exact ⟨dE, dG GE203.out⟩
   ·replace c46 := Bool.eq_false_iff.mpr c46
    subst c46
    have H1 : (some t217) = some r := by rw [if_neg (show ¬ (false = true) by decide)] at H; exact H
    clear H
    have H := H1
    clear H1
    obtain rfl := Option.some.inj H
    go_enter Tryd.func89, Tryd.ntmps89
    try go_wp2_with (first | ((with_reducible refine gate_dst (N := 3) rfl ?_); refine box_event ?hg (N := 3) ?hd (cs := #[.slice A0_0 l0_0.length c0_0, .slice A0_1 l0_1.length c0_1, .int .i64 a0_2, .bool false]) (t := 77) ?hr ?_; (case hd => rfl); (case hg => rfl); (case hr => first | (go_simp; done) | (go_simp; rfl)); intro gb203 hg w58 hbox hb; have BK203 := Aside0.mk (hbox); have GW203 := Aside0.mk ((by rw [hg]; exact (below_size dB) : w.heap.size ≤ gb203)); have GE203 := Aside0.mk ((by rw [hg]; exact (below_size dB) : w.heap.size ≤ gb203)); replace HB := Aside0.mk (below_step dB hb); clear hb hbox hg; have hcz59_0 : w58.cell? ⟨gb203, 0, none⟩ = some (.slice A0_0 l0_0.length c0_0) := (blk_cell BK203.out 0).trans rfl; have hcz59_1 : w58.cell? ⟨gb203, 1, none⟩ = some (.slice A0_1 l0_1.length c0_1) := (blk_cell BK203.out 1).trans rfl; have hcz59_2 : w58.cell? ⟨gb203, 2, none⟩ = some (.int .i64 a0_2) := (blk_cell BK203.out 2).trans rfl; have hcz59_3 : w58.cell? ⟨gb203, 3, none⟩ = some (.bool false) := (blk_cell BK203.out 3).trans rfl; have hfz59_0 := blk_frozen BK203.out 0; have hfz59_1 := blk_frozen BK203.out 1; have hfz59_2 := blk_frozen BK203.out 2; have hfz59_3 := blk_frozen BK203.out 3))
    replace BK203 := Aside0.mk (blk_drew BK203.out)
    replace HB := Aside0.mk (below_drew1 HB.out)
    refine start_ (n := 6) (S := fun w' => w'.cell? ⟨gb203, 0, none⟩ = some (.slice A0_0 l0_0.length c0_0) ∧ w'.cell? ⟨gb203, 1, none⟩ = some (.slice A0_1 l0_1.length c0_1) ∧ w'.cell? ⟨gb203, 2, none⟩ = some (.int .i64 a0_2) ∧ w'.cell? ⟨gb203, 3, none⟩ = some (.bool false)) (ds := []) #[false, false, false, false, false, false] (by kernel_rfl) rfl rfl ⟨(blk_cell BK203.out 0).trans rfl, (blk_cell BK203.out 1).trans rfl, (blk_cell BK203.out 2).trans rfl, (blk_cell BK203.out 3).trans rfl⟩ (fun hHeld => ?_)
    generalize w58.drew = w60 at BK203 HB hHeld ⊢
    refine pure_ (i := 0) (N := some 13) (v := ?_) (a' := ?_) #[true, false, false, false, false, false] rfl rfl (by kernel_rfl) (fun _ _ _ h => h) (Or.inl ⟨by rfl, ?_⟩) ?_ ?_
    rotate_left
    ·intro w'
     go_simp
     with_reducible rfl
    rotate_left
    ·simp only [Act.put, List.setIfInBounds_toArray, List.set_cons_zero, List.set_cons_succ, i64_w, i32_w]
     rfl
    refine pure_ (i := 2) (N := some 15) (v := ?_) (a' := ?_) #[true, false, true, false, false, false] rfl rfl (by kernel_rfl) (fun _ _ _ h => h) (Or.inl ⟨by rfl, ?_⟩) ?_ ?_
    rotate_left
    ·intro w'
     go_simp
     with_reducible rfl
    rotate_left
    ·simp only [Act.put, List.setIfInBounds_toArray, List.set_cons_zero, List.set_cons_succ, i64_w, i32_w]
     rfl
    refine take_ (i := 3) (N := some 16) (v := ?_) (a' := ?_) #[true, false, true, true, false, false] rfl rfl (by kernel_rfl) (fun _ _ _ h => h) (Or.inl ⟨by rfl, ?_⟩) hHeld ?_ ?_
    rotate_left
    ·rintro w' ⟨s0, s1, s2, s3⟩
     go_simp
     with_reducible rfl
    rotate_left
    ·simp only [Act.put, List.setIfInBounds_toArray, List.set_cons_zero, List.set_cons_succ, i64_w, i32_w]
     rfl
    refine one_ (i := 1) (N := some 14) #[true, true, true, true, false, false] rfl rfl (by kernel_rfl) (by decide) (fun K hK => ?_)
    refine goes_ Tryd.func111 (by kernel_rfl) rfl #[.int .u64 a1] (by rfl) rfl rfl dA ?_
    with_reducible refine (plumbref03_Word.calls k a1 t204 _ A4.out).mono ?_
    rintro e w61 ⟨v205, rfl, ho0, hb⟩
    refine ⟨_, rfl, ?_⟩
    have HO206 := Aside0.mk (Kd.R_lower ho0 (below_size (dG GE203.out)))
    replace BK203 := Aside0.mk (blk_below (g := gb203) (o := .cells #[.slice A0_0 l0_0.length c0_0, .slice A0_1 l0_1.length c0_1, .int .i64 a0_2, .bool false] 77 (0, 0)) (dK BK203.out) hb)
    replace HB := Aside0.mk (below_step (dG GE203.out) hb)
    (try clear hb)
    (try clear hb2)
    (try clear hk)
    (try clear hi)
    (try clear ho0)
    obtain ⟨Ao62, co62, eo62⟩ := Kd.R_slice HO206.out
    (first | subst eo62 | (injection eo62 with f1_ f2_ f3_; have f4_ := f1_.symm; have f5_ := f3_.symm; clear f1_ f2_ f3_; subst f4_; subst f5_))
    refine hK.out _ _ ⟨(blk_cell BK203.out 0).trans rfl, (blk_cell BK203.out 1).trans rfl, (blk_cell BK203.out 2).trans rfl, (blk_cell BK203.out 3).trans rfl⟩ (fun hHeld => ?_)
    clear hK K
    refine norm_ (a' := ?_) ?_ ?_
    rotate_left
    ·show Act.put _ (some 14) _ = _
     simp only [Act.put, List.setIfInBounds_toArray, List.set_cons_zero, List.set_cons_succ, i64_w, i32_w]
     rfl
    refine one_ (i := 4) (N := some 17) #[true, true, true, true, true, false] rfl rfl (by kernel_rfl) (by decide) (fun K hK => ?_)
    refine goes_ Tryd.func110 (by kernel_rfl) rfl #[.slice Ao62 t204.length co62, .slice A0_1 l0_1.length c0_1] (by rfl) rfl rfl dA ?_
    with_reducible refine (plumbref03_Mul.calls k _ _ t204 _ _ l0_1 t207 _ ?side1 ?side2 ?side3 ?side4 A5.out).mono ?_
    (case side1 => exact dC (Kd.R_reads' HO206.out).2.2)
    (case side2 => exact (Kd.R_reads' HO206.out).2.1)
    (case side3 => exact dC (Kd.C_below HR0_1.out HB.out))
    (case side4 => exact HC0_1.out)
    rintro e w63 ⟨v208, rfl, ho0, hb⟩
    refine ⟨_, rfl, ?_⟩
    have HO209 := Aside0.mk (Kd.R_lower (Kd.R_new' ho0 (Kd.R_lt (dR HO206.out))) (below_size (dG GE203.out)))
    replace HO206 := Aside0.mk (Kd.R_elder' (dR HO206.out) (Kd.R_base ho0) hb)
    replace BK203 := Aside0.mk (blk_below (g := gb203) (o := .cells #[.slice A0_0 l0_0.length c0_0, .slice A0_1 l0_1.length c0_1, .int .i64 a0_2, .bool false] 77 (0, 0)) (dK BK203.out) hb)
    replace HB := Aside0.mk (below_step (dG GE203.out) hb)
    (try clear hb)
    (try clear hb2)
    (try clear hk)
    (try clear hi)
    (try clear ho0)
    refine hK.out _ _ ⟨(blk_cell BK203.out 0).trans rfl, (blk_cell BK203.out 1).trans rfl, (blk_cell BK203.out 2).trans rfl, (blk_cell BK203.out 3).trans rfl⟩ (fun hHeld => ?_)
    clear hK K
    refine norm_ (a' := ?_) ?_ ?_
    rotate_left
    ·show Act.put _ (some 17) _ = _
     simp only [Act.put, List.setIfInBounds_toArray, List.set_cons_zero, List.set_cons_succ, i64_w, i32_w]
     rfl
    refine pure_ (i := 5) (N := some 8) (v := ?_) (a' := ?_) #[true, true, true, true, true, true] rfl rfl (by kernel_rfl) (fun _ _ _ h => h) (Or.inl ⟨by rfl, ?_⟩) ?_ ?_
    rotate_left
    ·intro w'
     go_simp
     with_reducible rfl
    rotate_left
    ·simp only [Act.put, List.setIfInBounds_toArray, List.set_cons_zero, List.set_cons_succ, i64_w, i32_w]
     rfl
    refine done_ (by kernel_rfl) ?_
    have hcz64_0 : w63.cell? ⟨gb203, 0, none⟩ = some (.slice A0_0 l0_0.length c0_0) := (blk_cell BK203.out 0).trans rfl
    have hcz64_1 : w63.cell? ⟨gb203, 1, none⟩ = some (.slice A0_1 l0_1.length c0_1) := (blk_cell BK203.out 1).trans rfl
    have hcz64_2 : w63.cell? ⟨gb203, 2, none⟩ = some (.int .i64 a0_2) := (blk_cell BK203.out 2).trans rfl
    have hcz64_3 : w63.cell? ⟨gb203, 3, none⟩ = some (.bool false) := (blk_cell BK203.out 3).trans rfl
    have hfz64_0 := blk_frozen BK203.out 0
    have hfz64_1 := blk_frozen BK203.out 1
    have hfz64_2 := blk_frozen BK203.out 2
    have hfz64_3 := blk_frozen BK203.out 3
    obtain ⟨Ao65, co65, eo65⟩ := Kd.R_slice HO209.out
    subst eo65
    try go_wp2_with (first | ((with_reducible refine gate_callee (f := 112) rfl ?_); refine gL (some 30) Tryd.func112 #[.slice Ao65 t207.length co65, .int .i64 (wrap64 (-(wrap64 (a0_2 - a2))))] ?_; (with_reducible refine (plumbref03_Shl.calls k _ _ t207 (wrap64 (-(wrap64 (a0_2 - a2)))) t214 _ ?side1 ?side2 A43.out).mono ?_); (case side1 => exact dC (Kd.R_reads' HO209.out).2.2); (case side2 => exact (Kd.R_reads' HO209.out).2.1); rintro e w66 ⟨v215, rfl, ho0, hb⟩; refine ⟨_, rfl, ?_⟩; have HO216 := Aside0.mk (Kd.R_lower (Kd.R_new' (Kd.R_new' ho0 (Kd.R_lt (dR HO206.out))) (Kd.R_lt (dR HO209.out))) (below_size (dG GE203.out))); replace HO206 := Aside0.mk (Kd.R_elder' (dR HO206.out) (Kd.R_base ho0) hb); replace HO209 := Aside0.mk (Kd.R_elder' (dR HO209.out) (Kd.R_base ho0) hb); replace BK203 := Aside0.mk (blk_below (g := gb203) (o := .cells #[.slice A0_0 l0_0.length c0_0, .slice A0_1 l0_1.length c0_1, .int .i64 a0_2, .bool false] 77 (0, 0)) (dK BK203.out) hb); replace HB := Aside0.mk (below_step (dG GE203.out) hb); (try clear hb); (try clear ho0); obtain ⟨Ao67, co67, eo67⟩ := Kd.R_slice HO216.out; subst eo67) | ((with_reducible refine gate_callee (f := 113) rfl ?_); refine gL (some 33) Tryd.func113 #[.slice A0_0 l0_0.length c0_0, .slice Ao67 t214.length co67] ?_; (with_reducible refine (plumbref03_Cmp.calls k _ _ l0_0 _ _ t214 t217 _ ?side1 ?side2 ?side3 ?side4 A44.out).mono ?_); (case side1 => exact dC (Kd.C_below HR0_0.out HB.out)); (case side2 => exact HC0_0.out); (case side3 => exact dC (Kd.R_reads' HO216.out).2.2); (case side4 => exact (Kd.R_reads' HO216.out).2.1); rintro e w' ⟨rfl, ⟨nd, rfl⟩⟩; refine ⟨_, rfl, ?_⟩; have hcz68_0 : w66.cell? ⟨gb203, 0, none⟩ = some (.slice A0_0 l0_0.length c0_0) := (blk_cell BK203.out 0).trans rfl; have hcz68_1 : w66.cell? ⟨gb203, 1, none⟩ = some (.slice A0_1 l0_1.length c0_1) := (blk_cell BK203.out 1).trans rfl; have hcz68_2 : w66.cell? ⟨gb203, 2, none⟩ = some (.int .i64 a0_2) := (blk_cell BK203.out 2).trans rfl; have hcz68_3 : w66.cell? ⟨gb203, 3, none⟩ = some (.bool false) := (blk_cell BK203.out 3).trans rfl; have hfz68_0 := blk_frozen BK203.out 0; have hfz68_1 := blk_frozen BK203.out 1; have hfz68_2 := blk_frozen BK203.out 2; have hfz68_3 := blk_frozen BK203.out 3))
    go_ret
    exact ⟨dE, dG GE203.out⟩
  ·rw [if_neg c45] at H
   have c45b0 : (t217 == 0) = false := beq_eq_false_iff_ne.mpr c45
   have c45b1 : (t217 != 0) = true := bne_iff_ne.mpr c45
   obtain rfl := Option.some.inj H
   go_enter Tryd.func89, Tryd.ntmps89
   try go_wp2_with (first | ((with_reducible refine gate_dst (N := 3) rfl ?_); refine box_event ?hg (N := 3) ?hd (cs := #[.slice A0_0 l0_0.length c0_0, .slice A0_1 l0_1.length c0_1, .int .i64 a0_2, .bool a0_3]) (t := 77) ?hr ?_; (case hd => rfl); (case hg => rfl); (case hr => first | (go_simp; done) | (go_simp; rfl)); intro gb203 hg w69 hbox hb; have BK203 := Aside0.mk (hbox); have GW203 := Aside0.mk ((by rw [hg]; exact (below_size dB) : w.heap.size ≤ gb203)); have GE203 := Aside0.mk ((by rw [hg]; exact (below_size dB) : w.heap.size ≤ gb203)); replace HB := Aside0.mk (below_step dB hb); clear hb hbox hg; have hcz70_0 : w69.cell? ⟨gb203, 0, none⟩ = some (.slice A0_0 l0_0.length c0_0) := (blk_cell BK203.out 0).trans rfl; have hcz70_1 : w69.cell? ⟨gb203, 1, none⟩ = some (.slice A0_1 l0_1.length c0_1) := (blk_cell BK203.out 1).trans rfl; have hcz70_2 : w69.cell? ⟨gb203, 2, none⟩ = some (.int .i64 a0_2) := (blk_cell BK203.out 2).trans rfl; have hcz70_3 : w69.cell? ⟨gb203, 3, none⟩ = some (.bool a0_3) := (blk_cell BK203.out 3).trans rfl; have hfz70_0 := blk_frozen BK203.out 0; have hfz70_1 := blk_frozen BK203.out 1; have hfz70_2 := blk_frozen BK203.out 2; have hfz70_3 := blk_frozen BK203.out 3))
   replace BK203 := Aside0.mk (blk_drew BK203.out)
   replace HB := Aside0.mk (below_drew1 HB.out)
   refine start_ (n := 6) (S := fun w' => w'.cell? ⟨gb203, 0, none⟩ = some (.slice A0_0 l0_0.length c0_0) ∧ w'.cell? ⟨gb203, 1, none⟩ = some (.slice A0_1 l0_1.length c0_1) ∧ w'.cell? ⟨gb203, 2, none⟩ = some (.int .i64 a0_2) ∧ w'.cell? ⟨gb203, 3, none⟩ = some (.bool a0_3)) (ds := []) #[false, false, false, false, false, false] (by kernel_rfl) rfl rfl ⟨(blk_cell BK203.out 0).trans rfl, (blk_cell BK203.out 1).trans rfl, (blk_cell BK203.out 2).trans rfl, (blk_cell BK203.out 3).trans rfl⟩ (fun hHeld => ?_)
   generalize w69.drew = w71 at BK203 HB hHeld ⊢
   refine pure_ (i := 0) (N := some 13) (v := ?_) (a' := ?_) #[true, false, false, false, false, false] rfl rfl (by kernel_rfl) (fun _ _ _ h => h) (Or.inl ⟨by rfl, ?_⟩) ?_ ?_
   rotate_left
   ·intro w'
    go_simp
    with_reducible rfl
   rotate_left
   ·simp only [Act.put, List.setIfInBounds_toArray, List.set_cons_zero, List.set_cons_succ, i64_w, i32_w]
    rfl
   refine pure_ (i := 2) (N := some 15) (v := ?_) (a' := ?_) #[true, false, true, false, false, false] rfl rfl (by kernel_rfl) (fun _ _ _ h => h) (Or.inl ⟨by rfl, ?_⟩) ?_ ?_
   rotate_left
   ·intro w'
    go_simp
    with_reducible rfl
   rotate_left
   ·simp only [Act.put, List.setIfInBounds_toArray, List.set_cons_zero, List.set_cons_succ, i64_w, i32_w]
    rfl
   refine take_ (i := 3) (N := some 16) (v := ?_) (a' := ?_) #[true, false, true, true, false, false] rfl rfl (by kernel_rfl) (fun _ _ _ h => h) (Or.inl ⟨by rfl, ?_⟩) hHeld ?_ ?_
   rotate_left
   ·rintro w' ⟨s0, s1, s2, s3⟩
    go_simp
    with_reducible rfl
   rotate_left
   ·simp only [Act.put, List.setIfInBounds_toArray, List.set_cons_zero, List.set_cons_succ, i64_w, i32_w]
    rfl
   refine one_ (i := 1) (N := some 14) #[true, true, true, true, false, false] rfl rfl (by kernel_rfl) (by decide) (fun K hK => ?_)
   refine goes_ Tryd.func111 (by kernel_rfl) rfl #[.int .u64 a1] (by rfl) rfl rfl dA ?_
   with_reducible refine (plumbref03_Word.calls k a1 t204 _ A4.out).mono ?_
   rintro e w72 ⟨v205, rfl, ho0, hb⟩
   refine ⟨_, rfl, ?_⟩
   have HO206 := Aside0.mk (Kd.R_lower ho0 (below_size (dG GE203.out)))
   replace BK203 := Aside0.mk (blk_below (g := gb203) (o := .cells #[.slice A0_0 l0_0.length c0_0, .slice A0_1 l0_1.length c0_1, .int .i64 a0_2, .bool a0_3] 77 (0, 0)) (dK BK203.out) hb)
   replace HB := Aside0.mk (below_step (dG GE203.out) hb)
   (try clear hb)
   (try clear hb2)
   (try clear hk)
   (try clear hi)
   (try clear ho0)
   obtain ⟨Ao73, co73, eo73⟩ := Kd.R_slice HO206.out
   (first | subst eo73 | (injection eo73 with f1_ f2_ f3_; have f4_ := f1_.symm; have f5_ := f3_.symm; clear f1_ f2_ f3_; subst f4_; subst f5_))
   refine hK.out _ _ ⟨(blk_cell BK203.out 0).trans rfl, (blk_cell BK203.out 1).trans rfl, (blk_cell BK203.out 2).trans rfl, (blk_cell BK203.out 3).trans rfl⟩ (fun hHeld => ?_)
   clear hK K
   refine norm_ (a' := ?_) ?_ ?_
   rotate_left
   ·show Act.put _ (some 14) _ = _
    simp only [Act.put, List.setIfInBounds_toArray, List.set_cons_zero, List.set_cons_succ, i64_w, i32_w]
    rfl
   refine one_ (i := 4) (N := some 17) #[true, true, true, true, true, false] rfl rfl (by kernel_rfl) (by decide) (fun K hK => ?_)
   refine goes_ Tryd.func110 (by kernel_rfl) rfl #[.slice Ao73 t204.length co73, .slice A0_1 l0_1.length c0_1] (by rfl) rfl rfl dA ?_
   with_reducible refine (plumbref03_Mul.calls k _ _ t204 _ _ l0_1 t207 _ ?side1 ?side2 ?side3 ?side4 A5.out).mono ?_
   (case side1 => exact dC (Kd.R_reads' HO206.out).2.2)
   (case side2 => exact (Kd.R_reads' HO206.out).2.1)
   (case side3 => exact dC (Kd.C_below HR0_1.out HB.out))
   (case side4 => exact HC0_1.out)
   rintro e w74 ⟨v208, rfl, ho0, hb⟩
   refine ⟨_, rfl, ?_⟩
   have HO209 := Aside0.mk (Kd.R_lower (Kd.R_new' ho0 (Kd.R_lt (dR HO206.out))) (below_size (dG GE203.out)))
   replace HO206 := Aside0.mk (Kd.R_elder' (dR HO206.out) (Kd.R_base ho0) hb)
   replace BK203 := Aside0.mk (blk_below (g := gb203) (o := .cells #[.slice A0_0 l0_0.length c0_0, .slice A0_1 l0_1.length c0_1, .int .i64 a0_2, .bool a0_3] 77 (0, 0)) (dK BK203.out) hb)
   replace HB := Aside0.mk (below_step (dG GE203.out) hb)
   (try clear hb)
   (try clear hb2)
   (try clear hk)
   (try clear hi)
   (try clear ho0)
   refine hK.out _ _ ⟨(blk_cell BK203.out 0).trans rfl, (blk_cell BK203.out 1).trans rfl, (blk_cell BK203.out 2).trans rfl, (blk_cell BK203.out 3).trans rfl⟩ (fun hHeld => ?_)
   clear hK K
   refine norm_ (a' := ?_) ?_ ?_
   rotate_left
   ·show Act.put _ (some 17) _ = _
    simp only [Act.put, List.setIfInBounds_toArray, List.set_cons_zero, List.set_cons_succ, i64_w, i32_w]
    rfl
   refine pure_ (i := 5) (N := some 8) (v := ?_) (a' := ?_) #[true, true, true, true, true, true] rfl rfl (by kernel_rfl) (fun _ _ _ h => h) (Or.inl ⟨by rfl, ?_⟩) ?_ ?_
   rotate_left
   ·intro w'
    go_simp
    with_reducible rfl
   rotate_left
   ·simp only [Act.put, List.setIfInBounds_toArray, List.set_cons_zero, List.set_cons_succ, i64_w, i32_w]
    rfl
   refine done_ (by kernel_rfl) ?_
   have hcz75_0 : w74.cell? ⟨gb203, 0, none⟩ = some (.slice A0_0 l0_0.length c0_0) := (blk_cell BK203.out 0).trans rfl
   have hcz75_1 : w74.cell? ⟨gb203, 1, none⟩ = some (.slice A0_1 l0_1.length c0_1) := (blk_cell BK203.out 1).trans rfl
   have hcz75_2 : w74.cell? ⟨gb203, 2, none⟩ = some (.int .i64 a0_2) := (blk_cell BK203.out 2).trans rfl
   have hcz75_3 : w74.cell? ⟨gb203, 3, none⟩ = some (.bool a0_3) := (blk_cell BK203.out 3).trans rfl
   have hfz75_0 := blk_frozen BK203.out 0
   have hfz75_1 := blk_frozen BK203.out 1
   have hfz75_2 := blk_frozen BK203.out 2
   have hfz75_3 := blk_frozen BK203.out 3
   obtain ⟨Ao76, co76, eo76⟩ := Kd.R_slice HO209.out
   subst eo76
   try go_wp2_with (first | ((with_reducible refine gate_callee (f := 112) rfl ?_); refine gL (some 30) Tryd.func112 #[.slice Ao76 t207.length co76, .int .i64 (wrap64 (-(wrap64 (a0_2 - a2))))] ?_; (with_reducible refine (plumbref03_Shl.calls k _ _ t207 (wrap64 (-(wrap64 (a0_2 - a2)))) t214 _ ?side1 ?side2 A43.out).mono ?_); (case side1 => exact dC (Kd.R_reads' HO209.out).2.2); (case side2 => exact (Kd.R_reads' HO209.out).2.1); rintro e w77 ⟨v215, rfl, ho0, hb⟩; refine ⟨_, rfl, ?_⟩; have HO216 := Aside0.mk (Kd.R_lower (Kd.R_new' (Kd.R_new' ho0 (Kd.R_lt (dR HO206.out))) (Kd.R_lt (dR HO209.out))) (below_size (dG GE203.out))); replace HO206 := Aside0.mk (Kd.R_elder' (dR HO206.out) (Kd.R_base ho0) hb); replace HO209 := Aside0.mk (Kd.R_elder' (dR HO209.out) (Kd.R_base ho0) hb); replace BK203 := Aside0.mk (blk_below (g := gb203) (o := .cells #[.slice A0_0 l0_0.length c0_0, .slice A0_1 l0_1.length c0_1, .int .i64 a0_2, .bool a0_3] 77 (0, 0)) (dK BK203.out) hb); replace HB := Aside0.mk (below_step (dG GE203.out) hb); (try clear hb); (try clear ho0); obtain ⟨Ao78, co78, eo78⟩ := Kd.R_slice HO216.out; subst eo78) | ((with_reducible refine gate_callee (f := 113) rfl ?_); refine gL (some 33) Tryd.func113 #[.slice A0_0 l0_0.length c0_0, .slice Ao78 t214.length co78] ?_; (with_reducible refine (plumbref03_Cmp.calls k _ _ l0_0 _ _ t214 t217 _ ?side1 ?side2 ?side3 ?side4 A44.out).mono ?_); (case side1 => exact dC (Kd.C_below HR0_0.out HB.out)); (case side2 => exact HC0_0.out); (case side3 => exact dC (Kd.R_reads' HO216.out).2.2); (case side4 => exact (Kd.R_reads' HO216.out).2.1); rintro e w' ⟨rfl, ⟨nd, rfl⟩⟩; refine ⟨_, rfl, ?_⟩))
   go_ret
   exact ⟨dE, dG GE203.out⟩

end Go.Proofs.YtoefabmlkbhmpaaDoor.PA

namespace Go.Proofs.YtoefabmlkbhmpaaDoor.PA
open Go.RowKit Go.Proofs.YtoefabmlkbhmpaaDoorW.PrintWords Go.Proofs.YtoefabmlkbhmpaaDoorW.PrintLast Go.Proofs.YtoefabmlkbhmpaaDoorW.PrintMore
attribute [local go_sem] max2_int min2_int max_two min_two max_three min_three max_four min_four   -- for this text's walks alone
set_option linter.unusedVariables false
set_option linter.unusedSimpArgs false

/-! ### plumbref07_Q_below: function 87 -/
def plumbref07_Q_below.l0 : Nat → Int → Int → List Int → List Int → Int → Bool → Option (Int)
 | 0, _, _, _, _, _, _ => none
 | k + 1, x3, x4, x219000, x219001, x219002, x219003 => if x3 < x4 then ((plumbref07_parts.f (IntKind.u64.wrap (x3 + (IntKind.u64.wrap (Int.tdiv (IntKind.u64.wrap ((IntKind.u64.wrap (x4 - x3)) + 1)) 2))))).bind fun bt219 => ((plumbref07_Q_against.f k x219000 x219001 x219002 x219003 bt219.1 bt219.2).bind fun t221 => (if t221 ≥ 0 then (plumbref07_Q_below.l0 k (IntKind.u64.wrap (x3 + (IntKind.u64.wrap (Int.tdiv (IntKind.u64.wrap ((IntKind.u64.wrap (x4 - x3)) + 1)) 2)))) x4 x219000 x219001 x219002 x219003) else (plumbref07_Q_below.l0 k x3 (IntKind.u64.wrap ((IntKind.u64.wrap (x3 + (IntKind.u64.wrap (Int.tdiv (IntKind.u64.wrap ((IntKind.u64.wrap (x4 - x3)) + 1)) 2)))) - 1)) x219000 x219001 x219002 x219003)))) else (some x3)
def plumbref07_Q_below.f (k : Nat) (l0_0 : List Int) (l0_1 : List Int) (a0_2 : Int) (a0_3 : Bool) : Option (Int) := plumbref07_Q_below.l0 k 0 9218868437227405311 l0_0 l0_1 a0_2 a0_3
set_option maxHeartbeats 8000000 in
set_option maxRecDepth 100000 in
theorem plumbref07_Q_below.calls (k : Nat) (A0_0 : Option Addr) (c0_0 : Nat) (l0_0 : List Int) (A0_1 : Option Addr) (c0_1 : Nat) (l0_1 : List Int) (a0_2 : Int) (a0_3 : Bool) (r : Int) (w : World) (hr0_0 : Kd.C (Kd.int .u64) w A0_0 l0_0.length l0_0) (hc0_0 : l0_0.length ≤ c0_0) (hr0_1 : Kd.C (Kd.int .u64) w A0_1 l0_1.length l0_1) (hc0_1 : l0_1.length ≤ c0_1) (h : plumbref07_Q_below.f k l0_0 l0_1 a0_2 a0_3 = some r) :
  Calls Tryd.prog 87 #[.agg #[.slice A0_0 l0_0.length c0_0, .slice A0_1 l0_1.length c0_1, .int .i64 a0_2, .bool a0_3]] w fun e w' => e = .returned (.int .u64 r) ∧ Below w.heap.size w w' := by
 have hu77 := Tryd.underlying77
 have HR0_0 := Aside0.mk hr0_0
 have HC0_0 := Aside0.mk hc0_0
 clear hr0_0 hc0_0
 have HR0_1 := Aside0.mk hr0_1
 have HC0_1 := Aside0.mk hc0_1
 clear hr0_1 hc0_1
 have HB := Aside0.mk (Below.refl w.heap.size w)
 have H : (plumbref07_Q_below.l0 k 0 9218868437227405311 l0_0 l0_1 a0_2 a0_3) = some r := h
 clear h
 have H' := Aside0.mk H
 clear H
 go_enter Tryd.func87, Tryd.ntmps87
 go_wp2_with (first | ((with_reducible refine gate_dst (N := 1) rfl ?_); refine box_event ?hg (N := 1) ?hd (cs := #[.slice A0_0 l0_0.length c0_0, .slice A0_1 l0_1.length c0_1, .int .i64 a0_2, .bool a0_3]) (t := 77) ?hr ?_; (case hd => rfl); (case hg => rfl); (case hr => first | (go_simp; done) | (go_simp; rfl)); intro gb218 hg w2 hbox hb; have BK218 := Aside0.mk (hbox); have GW218 := Aside0.mk ((by rw [hg]; exact (below_size dB) : w.heap.size ≤ gb218)); have GE218 := Aside0.mk ((by rw [hg]; exact (below_size dB) : w.heap.size ≤ gb218)); replace HB := Aside0.mk (below_step dB hb); clear hb hbox hg))
 go_loopg [3, 4] k (fun kq v3 v4 w' => ∃ (x3_1 : Int) (x4_1 : Int), v3 = .int .u64 x3_1 ∧ v4 = .int .u64 x4_1 ∧ Aside0 (plumbref07_Q_below.l0 kq x3_1 x4_1 l0_0 l0_1 a0_2 a0_3 = some r) ∧ Aside0 (kq ≤ k) ∧ Aside0 (w'.heap[gb218]? = some (.cells #[(.slice A0_0 l0_0.length c0_0), (.slice A0_1 l0_1.length c0_1), .int .i64 a0_2, .bool a0_3] 77 (0, 0))) ∧ Aside0 (Below w.heap.size w w'))
 case atStart => exact ⟨(0), (9218868437227405311), dF, dF, H', ⟨Nat.le_refl _⟩, ⟨dK BK218.out⟩, ⟨dG GE218.out⟩⟩
 case round =>
  clear H'
  try clear p2
  obtain ⟨x3_1, x4_1, rfl, rfl, HA, HK1, BK218, HB⟩ := hrel
  cases gk with
  | zero => exact absurd HA.out (by simp [plumbref07_Q_below.l0])
  | succ k1 =>
   have H := HA.out
   clear HA
   simp only [plumbref07_Q_below.l0] at H
   by_cases c3 : x3_1 < x4_1
   ·rw [if_pos c3] at H
    have c3b0 : decide (x3_1 < x4_1) = true := decide_eq_true c3
    clear c3
    replace H := obe H
    obtain ⟨⟨t219, t220⟩, A40, H⟩ := H
    replace H : ((plumbref07_Q_against.f k1 l0_0 l0_1 a0_2 a0_3 t219 t220).bind fun t221 => (if t221 ≥ 0 then (plumbref07_Q_below.l0 k1 (IntKind.u64.wrap (x3_1 + (IntKind.u64.wrap (Int.tdiv (IntKind.u64.wrap ((IntKind.u64.wrap (x4_1 - x3_1)) + 1)) 2)))) x4_1 l0_0 l0_1 a0_2 a0_3) else (plumbref07_Q_below.l0 k1 x3_1 (IntKind.u64.wrap ((IntKind.u64.wrap (x3_1 + (IntKind.u64.wrap (Int.tdiv (IntKind.u64.wrap ((IntKind.u64.wrap (x4_1 - x3_1)) + 1)) 2)))) - 1)) l0_0 l0_1 a0_2 a0_3))) = some r := H
    have A4 := Aside0.mk A40
    clear A40
    replace H := obe H
    obtain ⟨t221, A50, H⟩ := H
    replace H : (if t221 ≥ 0 then (plumbref07_Q_below.l0 k1 (IntKind.u64.wrap (x3_1 + (IntKind.u64.wrap (Int.tdiv (IntKind.u64.wrap ((IntKind.u64.wrap (x4_1 - x3_1)) + 1)) 2)))) x4_1 l0_0 l0_1 a0_2 a0_3) else (plumbref07_Q_below.l0 k1 x3_1 (IntKind.u64.wrap ((IntKind.u64.wrap (x3_1 + (IntKind.u64.wrap (Int.tdiv (IntKind.u64.wrap ((IntKind.u64.wrap (x4_1 - x3_1)) + 1)) 2)))) - 1)) l0_0 l0_1 a0_2 a0_3)) = some r := H
    have A5 := Aside0.mk A50
    clear A50
    by_cases c6 : t221 ≥ 0
    ·rw [if_pos c6] at H
     have c6b0 : decide (0 ≤ t221) = true := decide_eq_true c6
     clear c6
     have H' := Aside0.mk H
     clear H
     go_wp2_with (first | ((with_reducible refine gate_callee (f := 88) rfl ?_); refine gL (some 20) Tryd.func88 #[.int .u64 (IntKind.u64.wrap (x3_1 + (IntKind.u64.wrap (Int.tdiv (IntKind.u64.wrap ((IntKind.u64.wrap (x4_1 - x3_1)) + 1)) 2))))] ?_; (with_reducible refine (plumbref07_parts.calls (IntKind.u64.wrap (x3_1 + (IntKind.u64.wrap (Int.tdiv (IntKind.u64.wrap ((IntKind.u64.wrap (x4_1 - x3_1)) + 1)) 2)))) t219 t220 _ A4.out).mono ?_); rintro e w' ⟨rfl, ⟨nd, rfl⟩⟩; refine ⟨_, rfl, ?_⟩; have hcz7_0 : wr.cell? ⟨gb218, 0, none⟩ = some (.slice A0_0 l0_0.length c0_0) := (blk_cell BK218.out 0).trans rfl; have hcz7_1 : wr.cell? ⟨gb218, 1, none⟩ = some (.slice A0_1 l0_1.length c0_1) := (blk_cell BK218.out 1).trans rfl; have hcz7_2 : wr.cell? ⟨gb218, 2, none⟩ = some (.int .i64 a0_2) := (blk_cell BK218.out 2).trans rfl; have hcz7_3 : wr.cell? ⟨gb218, 3, none⟩ = some (.bool a0_3) := (blk_cell BK218.out 3).trans rfl; have hfz7_0 := blk_frozen BK218.out 0; have hfz7_1 := blk_frozen BK218.out 1; have hfz7_2 := blk_frozen BK218.out 2; have hfz7_3 := blk_frozen BK218.out 3) | ((with_reducible refine gate_callee (f := 89) rfl ?_); refine gL (some 26) Tryd.func89 #[.agg #[.slice A0_0 l0_0.length c0_0, .slice A0_1 l0_1.length c0_1, .int .i64 a0_2, .bool a0_3], .int .u64 t219, .int .i64 t220] ?_; (with_reducible refine (plumbref07_Q_against.calls k1 _ _ l0_0 _ _ l0_1 a0_2 a0_3 t219 t220 t221 _ ?side1 ?side2 ?side3 ?side4 A5.out).mono ?_); (case side1 => exact dC (Kd.C_below HR0_0.out (dG GE218.out))); (case side2 => exact HC0_0.out); (case side3 => exact dC (Kd.C_below HR0_1.out (dG GE218.out))); (case side4 => exact HC0_1.out); rintro e w8 ⟨rfl, hb⟩; refine ⟨_, rfl, ?_⟩; replace BK218 := Aside0.mk (blk_below (g := gb218) (o := .cells #[.slice A0_0 l0_0.length c0_0, .slice A0_1 l0_1.length c0_1, .int .i64 a0_2, .bool a0_3] 77 (0, 0)) (dK BK218.out) hb); replace HB := Aside0.mk (below_step (dG GE218.out) hb); (try clear hb)))
     go_roundg k1
     case measure => have := HK1.out; omega
     case rel => exact ⟨(IntKind.u64.wrap (x3_1 + (IntKind.u64.wrap (Int.tdiv (IntKind.u64.wrap ((IntKind.u64.wrap (x4_1 - x3_1)) + 1)) 2)))), (x4_1), dF, dF, H', ⟨by have := HK1.out; omega⟩, ⟨dK BK218.out⟩, ⟨dG GE218.out⟩⟩
    ·rw [if_neg c6] at H
     have c6b0 : decide (0 ≤ t221) = false := decide_eq_false c6
     clear c6
     have H' := Aside0.mk H
     clear H
     go_wp2_with (first | ((with_reducible refine gate_callee (f := 88) rfl ?_); refine gL (some 20) Tryd.func88 #[.int .u64 (IntKind.u64.wrap (x3_1 + (IntKind.u64.wrap (Int.tdiv (IntKind.u64.wrap ((IntKind.u64.wrap (x4_1 - x3_1)) + 1)) 2))))] ?_; (with_reducible refine (plumbref07_parts.calls (IntKind.u64.wrap (x3_1 + (IntKind.u64.wrap (Int.tdiv (IntKind.u64.wrap ((IntKind.u64.wrap (x4_1 - x3_1)) + 1)) 2)))) t219 t220 _ A4.out).mono ?_); rintro e w' ⟨rfl, ⟨nd, rfl⟩⟩; refine ⟨_, rfl, ?_⟩; have hcz9_0 : wr.cell? ⟨gb218, 0, none⟩ = some (.slice A0_0 l0_0.length c0_0) := (blk_cell BK218.out 0).trans rfl; have hcz9_1 : wr.cell? ⟨gb218, 1, none⟩ = some (.slice A0_1 l0_1.length c0_1) := (blk_cell BK218.out 1).trans rfl; have hcz9_2 : wr.cell? ⟨gb218, 2, none⟩ = some (.int .i64 a0_2) := (blk_cell BK218.out 2).trans rfl; have hcz9_3 : wr.cell? ⟨gb218, 3, none⟩ = some (.bool a0_3) := (blk_cell BK218.out 3).trans rfl; have hfz9_0 := blk_frozen BK218.out 0; have hfz9_1 := blk_frozen BK218.out 1; have hfz9_2 := blk_frozen BK218.out 2; have hfz9_3 := blk_frozen BK218.out 3) | ((with_reducible refine gate_callee (f := 89) rfl ?_); refine gL (some 26) Tryd.func89 #[.agg #[.slice A0_0 l0_0.length c0_0, .slice A0_1 l0_1.length c0_1, .int .i64 a0_2, .bool a0_3], .int .u64 t219, .int .i64 t220] ?_; (with_reducible refine (plumbref07_Q_against.calls k1 _ _ l0_0 _ _ l0_1 a0_2 a0_3 t219 t220 t221 _ ?side1 ?side2 ?side3 ?side4 A5.out).mono ?_); (case side1 => exact dC (Kd.C_below HR0_0.out (dG GE218.out))); (case side2 => exact HC0_0.out); (case side3 => exact dC (Kd.C_below HR0_1.out (dG GE218.out))); (case side4 => exact HC0_1.out); rintro e w10 ⟨rfl, hb⟩; refine ⟨_, rfl, ?_⟩; replace BK218 := Aside0.mk (blk_below (g := gb218) (o := .cells #[.slice A0_0 l0_0.length c0_0, .slice A0_1 l0_1.length c0_1, .int .i64 a0_2, .bool a0_3] 77 (0, 0)) (dK BK218.out) hb); replace HB := Aside0.mk (below_step (dG GE218.out) hb); (try clear hb)))
     go_roundg k1
     case measure => have := HK1.out; omega
     case rel => exact ⟨(x3_1), (IntKind.u64.wrap ((IntKind.u64.wrap (x3_1 + (IntKind.u64.wrap (Int.tdiv (IntKind.u64.wrap ((IntKind.u64.wrap (x4_1 - x3_1)) + 1)) 2)))) - 1)), dF, dF, H', ⟨by have := HK1.out; omega⟩, ⟨dK BK218.out⟩, ⟨dG GE218.out⟩⟩
   ·rw [if_neg c3] at H
    have c3b0 : decide (x3_1 < x4_1) = false := decide_eq_false c3
    clear c3
    obtain rfl := Option.some.inj H
    go_wp2
    go_ret
    exact ⟨dE, dG GE218.out⟩

/-! ### plumbref07_Q_up: function 90 -/
def plumbref07_Q_up.f (k : Nat) (l0_0 : List Int) (l0_1 : List Int) (a0_2 : Int) (a0_3 : Bool) (a1 : Bool) (a2 : Int) (a3 : Int) : Option (Bool) := if a3 = 1 then (some false) else (if a3 = 2 then (some true) else (if a3 = 3 then (some (!a1)) else (if a3 = 4 then (some a1) else ((plumbref07_parts.f a2).bind fun bt223 => ((plumbref07_Q_against.f k l0_0 l0_1 a0_2 a0_3 (IntKind.u64.wrap ((IntKind.u64.wrap (2 * bt223.1)) + 1)) (wrap64 (bt223.2 - 1))).bind fun t225 => (if t225 > 0 then (some true) else (if t225 = 0 then (some ((Go.bits .and .u64 a2 1) == 1)) else (some false))))))))
set_option maxHeartbeats 8000000 in
set_option maxRecDepth 100000 in
theorem plumbref07_Q_up.calls (k : Nat) (A0_0 : Option Addr) (c0_0 : Nat) (l0_0 : List Int) (A0_1 : Option Addr) (c0_1 : Nat) (l0_1 : List Int) (a0_2 : Int) (a0_3 : Bool) (a1 : Bool) (a2 : Int) (a3 : Int) (r : Bool) (w : World) (hr0_0 : Kd.C (Kd.int .u64) w A0_0 l0_0.length l0_0) (hc0_0 : l0_0.length ≤ c0_0) (hr0_1 : Kd.C (Kd.int .u64) w A0_1 l0_1.length l0_1) (hc0_1 : l0_1.length ≤ c0_1) (h : plumbref07_Q_up.f k l0_0 l0_1 a0_2 a0_3 a1 a2 a3 = some r) :
  Calls Tryd.prog 90 #[.agg #[.slice A0_0 l0_0.length c0_0, .slice A0_1 l0_1.length c0_1, .int .i64 a0_2, .bool a0_3], .bool a1, .int .u64 a2, .int .i64 a3] w fun e w' => e = .returned (.bool r) ∧ Below w.heap.size w w' := by
 have hu77 := Tryd.underlying77
 have HR0_0 := Aside0.mk hr0_0
 have HC0_0 := Aside0.mk hc0_0
 clear hr0_0 hc0_0
 have HR0_1 := Aside0.mk hr0_1
 have HC0_1 := Aside0.mk hc0_1
 clear hr0_1 hc0_1
 have HB := Aside0.mk (Below.refl w.heap.size w)
 have H : (if a3 = 1 then (some false) else (if a3 = 2 then (some true) else (if a3 = 3 then (some (!a1)) else (if a3 = 4 then (some a1) else ((plumbref07_parts.f a2).bind fun bt223 => ((plumbref07_Q_against.f k l0_0 l0_1 a0_2 a0_3 (IntKind.u64.wrap ((IntKind.u64.wrap (2 * bt223.1)) + 1)) (wrap64 (bt223.2 - 1))).bind fun t225 => (if t225 > 0 then (some true) else (if t225 = 0 then (some ((Go.bits .and .u64 a2 1) == 1)) else (some false))))))))) = some r := h
 clear h
 by_cases c5 : a3 = 1
 ·rw [if_pos c5] at H
  have c5b0 : (a3 == 1) = true := beq_iff_eq.mpr c5
  have c5b1 : (a3 != 1) = false := bne_eq_false_iff_eq.mpr c5
  clear c5
  obtain rfl := Option.some.inj H
  go_enter Tryd.func90, Tryd.ntmps90
  go_wp2_with (first | ((with_reducible refine gate_dst (N := 4) rfl ?_); refine box_event ?hg (N := 4) ?hd (cs := #[.slice A0_0 l0_0.length c0_0, .slice A0_1 l0_1.length c0_1, .int .i64 a0_2, .bool a0_3]) (t := 77) ?hr ?_; (case hd => rfl); (case hg => rfl); (case hr => first | (go_simp; done) | (go_simp; rfl)); intro gb222 hg w6 hbox hb; have BK222 := Aside0.mk (hbox); have GW222 := Aside0.mk ((by rw [hg]; exact (below_size dB) : w.heap.size ≤ gb222)); have GE222 := Aside0.mk ((by rw [hg]; exact (below_size dB) : w.heap.size ≤ gb222)); replace HB := Aside0.mk (below_step dB hb); clear hb hbox hg))
  go_ret
  exact ⟨dE, dG GE222.out⟩
 ·rw [if_neg c5] at H
  have c5b0 : (a3 == 1) = false := beq_eq_false_iff_ne.mpr c5
  have c5b1 : (a3 != 1) = true := bne_iff_ne.mpr c5
  by_cases c7 : a3 = 2
  ·rw [if_pos c7] at H
   have c7b0 : (a3 == 2) = true := beq_iff_eq.mpr c7
   have c7b1 : (a3 != 2) = false := bne_eq_false_iff_eq.mpr c7
   clear c7
   obtain rfl := Option.some.inj H
   go_enter Tryd.func90, Tryd.ntmps90
   go_wp2_with (first | ((with_reducible refine gate_dst (N := 4) rfl ?_); refine box_event ?hg (N := 4) ?hd (cs := #[.slice A0_0 l0_0.length c0_0, .slice A0_1 l0_1.length c0_1, .int .i64 a0_2, .bool a0_3]) (t := 77) ?hr ?_; (case hd => rfl); (case hg => rfl); (case hr => first | (go_simp; done) | (go_simp; rfl)); intro gb222 hg w8 hbox hb; have BK222 := Aside0.mk (hbox); have GW222 := Aside0.mk ((by rw [hg]; exact (below_size dB) : w.heap.size ≤ gb222)); have GE222 := Aside0.mk ((by rw [hg]; exact (below_size dB) : w.heap.size ≤ gb222)); replace HB := Aside0.mk (below_step dB hb); clear hb hbox hg))
   go_ret
   exact ⟨dE, dG GE222.out⟩
  ·rw [if_neg c7] at H
   have c7b0 : (a3 == 2) = false := beq_eq_false_iff_ne.mpr c7
   have c7b1 : (a3 != 2) = true := bne_iff_ne.mpr c7
   by_cases c9 : a3 = 3
   ·rw [if_pos c9] at H
    have c9b0 : (a3 == 3) = true := beq_iff_eq.mpr c9
    have c9b1 : (a3 != 3) = false := bne_eq_false_iff_eq.mpr c9
    clear c9
    obtain rfl := Option.some.inj H
    go_enter Tryd.func90, Tryd.ntmps90
    go_wp2_with (first | ((with_reducible refine gate_dst (N := 4) rfl ?_); refine box_event ?hg (N := 4) ?hd (cs := #[.slice A0_0 l0_0.length c0_0, .slice A0_1 l0_1.length c0_1, .int .i64 a0_2, .bool a0_3]) (t := 77) ?hr ?_; (case hd => rfl); (case hg => rfl); (case hr => first | (go_simp; done) | (go_simp; rfl)); intro gb222 hg w10 hbox hb; have BK222 := Aside0.mk (hbox); have GW222 := Aside0.mk ((by rw [hg]; exact (below_size dB) : w.heap.size ≤ gb222)); have GE222 := Aside0.mk ((by rw [hg]; exact (below_size dB) : w.heap.size ≤ gb222)); replace HB := Aside0.mk (below_step dB hb); clear hb hbox hg))
    go_ret
    exact ⟨dE, dG GE222.out⟩
   ·rw [if_neg c9] at H
    have c9b0 : (a3 == 3) = false := beq_eq_false_iff_ne.mpr c9
    have c9b1 : (a3 != 3) = true := bne_iff_ne.mpr c9
    by_cases c11 : a3 = 4
    ·rw [if_pos c11] at H
     have c11b0 : (a3 == 4) = true := beq_iff_eq.mpr c11
     have c11b1 : (a3 != 4) = false := bne_eq_false_iff_eq.mpr c11
     clear c11
     obtain rfl := Option.some.inj H
     go_enter Tryd.func90, Tryd.ntmps90
     go_wp2_with (first | ((with_reducible refine gate_dst (N := 4) rfl ?_); refine box_event ?hg (N := 4) ?hd (cs := #[.slice A0_0 l0_0.length c0_0, .slice A0_1 l0_1.length c0_1, .int .i64 a0_2, .bool a0_3]) (t := 77) ?hr ?_; (case hd => rfl); (case hg => rfl); (case hr => first | (go_simp; done) | (go_simp; rfl)); intro gb222 hg w12 hbox hb; have BK222 := Aside0.mk (hbox); have GW222 := Aside0.mk ((by rw [hg]; exact (below_size dB) : w.heap.size ≤ gb222)); have GE222 := Aside0.mk ((by rw [hg]; exact (below_size dB) : w.heap.size ≤ gb222)); replace HB := Aside0.mk (below_step dB hb); clear hb hbox hg))
     go_ret
     exact ⟨dE, dG GE222.out⟩
    ·rw [if_neg c11] at H
     have c11b0 : (a3 == 4) = false := beq_eq_false_iff_ne.mpr c11
     have c11b1 : (a3 != 4) = true := bne_iff_ne.mpr c11
     replace H := obe H
     obtain ⟨⟨t223, t224⟩, A130, H⟩ := H
     replace H : ((plumbref07_Q_against.f k l0_0 l0_1 a0_2 a0_3 (IntKind.u64.wrap ((IntKind.u64.wrap (2 * t223)) + 1)) (wrap64 (t224 - 1))).bind fun t225 => (if t225 > 0 then (some true) else (if t225 = 0 then (some ((Go.bits .and .u64 a2 1) == 1)) else (some false)))) = some r := H
     have A13 := Aside0.mk A130
     clear A130
     replace H := obe H
     obtain ⟨t225, A140, H⟩ := H
     replace H : (if t225 > 0 then (some true) else (if t225 = 0 then (some ((Go.bits .and .u64 a2 1) == 1)) else (some false))) = some r := H
     have A14 := Aside0.mk A140
     clear A140
     by_cases c15 : t225 > 0
     ·rw [if_pos c15] at H
      have c15b0 : decide (0 < t225) = true := decide_eq_true c15
      clear c15
      obtain rfl := Option.some.inj H
      go_enter Tryd.func90, Tryd.ntmps90
      go_wp2_with (first | ((with_reducible refine gate_dst (N := 4) rfl ?_); refine box_event ?hg (N := 4) ?hd (cs := #[.slice A0_0 l0_0.length c0_0, .slice A0_1 l0_1.length c0_1, .int .i64 a0_2, .bool a0_3]) (t := 77) ?hr ?_; (case hd => rfl); (case hg => rfl); (case hr => first | (go_simp; done) | (go_simp; rfl)); intro gb222 hg w16 hbox hb; have BK222 := Aside0.mk (hbox); have GW222 := Aside0.mk ((by rw [hg]; exact (below_size dB) : w.heap.size ≤ gb222)); have GE222 := Aside0.mk ((by rw [hg]; exact (below_size dB) : w.heap.size ≤ gb222)); replace HB := Aside0.mk (below_step dB hb); clear hb hbox hg) | ((with_reducible refine gate_callee (f := 88) rfl ?_); refine gL (some 26) Tryd.func88 #[.int .u64 a2] ?_; (with_reducible refine (plumbref07_parts.calls a2 t223 t224 _ A13.out).mono ?_); rintro e w' ⟨rfl, ⟨nd, rfl⟩⟩; refine ⟨_, rfl, ?_⟩; have hcz17_0 : w16.cell? ⟨gb222, 0, none⟩ = some (.slice A0_0 l0_0.length c0_0) := (blk_cell BK222.out 0).trans rfl; have hcz17_1 : w16.cell? ⟨gb222, 1, none⟩ = some (.slice A0_1 l0_1.length c0_1) := (blk_cell BK222.out 1).trans rfl; have hcz17_2 : w16.cell? ⟨gb222, 2, none⟩ = some (.int .i64 a0_2) := (blk_cell BK222.out 2).trans rfl; have hcz17_3 : w16.cell? ⟨gb222, 3, none⟩ = some (.bool a0_3) := (blk_cell BK222.out 3).trans rfl; have hfz17_0 := blk_frozen BK222.out 0; have hfz17_1 := blk_frozen BK222.out 1; have hfz17_2 := blk_frozen BK222.out 2; have hfz17_3 := blk_frozen BK222.out 3) | ((with_reducible refine gate_callee (f := 89) rfl ?_); refine gL (some 35) Tryd.func89 #[.agg #[.slice A0_0 l0_0.length c0_0, .slice A0_1 l0_1.length c0_1, .int .i64 a0_2, .bool a0_3], .int .u64 (IntKind.u64.wrap ((IntKind.u64.wrap (2 * t223)) + 1)), .int .i64 (wrap64 (t224 - 1))] ?_; (with_reducible refine (plumbref07_Q_against.calls k _ _ l0_0 _ _ l0_1 a0_2 a0_3 (IntKind.u64.wrap ((IntKind.u64.wrap (2 * t223)) + 1)) (wrap64 (t224 - 1)) t225 _ ?side1 ?side2 ?side3 ?side4 A14.out).mono ?_); (case side1 => exact dC (Kd.C_below HR0_0.out (dG GE222.out))); (case side2 => exact HC0_0.out); (case side3 => exact dC (Kd.C_below HR0_1.out (dG GE222.out))); (case side4 => exact HC0_1.out); rintro e w18 ⟨rfl, hb⟩; refine ⟨_, rfl, ?_⟩; replace BK222 := Aside0.mk (blk_below (g := gb222) (o := .cells #[.slice A0_0 l0_0.length c0_0, .slice A0_1 l0_1.length c0_1, .int .i64 a0_2, .bool a0_3] 77 (0, 0)) (dK BK222.out) hb); replace HB := Aside0.mk (below_step (dG GE222.out) hb); (try clear hb)))
      go_ret
      exact ⟨dE, dG GE222.out⟩
     ·rw [if_neg c15] at H
      have c15b0 : decide (0 < t225) = false := decide_eq_false c15
      clear c15
      by_cases c19 : t225 = 0
      ·rw [if_pos c19] at H
       have c19b0 : (t225 == 0) = true := beq_iff_eq.mpr c19
       have c19b1 : (t225 != 0) = false := bne_eq_false_iff_eq.mpr c19
       clear c19
       obtain rfl := Option.some.inj H
       go_enter Tryd.func90, Tryd.ntmps90
       go_wp2_with (first | ((with_reducible refine gate_dst (N := 4) rfl ?_); refine box_event ?hg (N := 4) ?hd (cs := #[.slice A0_0 l0_0.length c0_0, .slice A0_1 l0_1.length c0_1, .int .i64 a0_2, .bool a0_3]) (t := 77) ?hr ?_; (case hd => rfl); (case hg => rfl); (case hr => first | (go_simp; done) | (go_simp; rfl)); intro gb222 hg w20 hbox hb; have BK222 := Aside0.mk (hbox); have GW222 := Aside0.mk ((by rw [hg]; exact (below_size dB) : w.heap.size ≤ gb222)); have GE222 := Aside0.mk ((by rw [hg]; exact (below_size dB) : w.heap.size ≤ gb222)); replace HB := Aside0.mk (below_step dB hb); clear hb hbox hg) | ((with_reducible refine gate_callee (f := 88) rfl ?_); refine gL (some 26) Tryd.func88 #[.int .u64 a2] ?_; (with_reducible refine (plumbref07_parts.calls a2 t223 t224 _ A13.out).mono ?_); rintro e w' ⟨rfl, ⟨nd, rfl⟩⟩; refine ⟨_, rfl, ?_⟩; have hcz21_0 : w20.cell? ⟨gb222, 0, none⟩ = some (.slice A0_0 l0_0.length c0_0) := (blk_cell BK222.out 0).trans rfl; have hcz21_1 : w20.cell? ⟨gb222, 1, none⟩ = some (.slice A0_1 l0_1.length c0_1) := (blk_cell BK222.out 1).trans rfl; have hcz21_2 : w20.cell? ⟨gb222, 2, none⟩ = some (.int .i64 a0_2) := (blk_cell BK222.out 2).trans rfl; have hcz21_3 : w20.cell? ⟨gb222, 3, none⟩ = some (.bool a0_3) := (blk_cell BK222.out 3).trans rfl; have hfz21_0 := blk_frozen BK222.out 0; have hfz21_1 := blk_frozen BK222.out 1; have hfz21_2 := blk_frozen BK222.out 2; have hfz21_3 := blk_frozen BK222.out 3) | ((with_reducible refine gate_callee (f := 89) rfl ?_); refine gL (some 35) Tryd.func89 #[.agg #[.slice A0_0 l0_0.length c0_0, .slice A0_1 l0_1.length c0_1, .int .i64 a0_2, .bool a0_3], .int .u64 (IntKind.u64.wrap ((IntKind.u64.wrap (2 * t223)) + 1)), .int .i64 (wrap64 (t224 - 1))] ?_; (with_reducible refine (plumbref07_Q_against.calls k _ _ l0_0 _ _ l0_1 a0_2 a0_3 (IntKind.u64.wrap ((IntKind.u64.wrap (2 * t223)) + 1)) (wrap64 (t224 - 1)) t225 _ ?side1 ?side2 ?side3 ?side4 A14.out).mono ?_); (case side1 => exact dC (Kd.C_below HR0_0.out (dG GE222.out))); (case side2 => exact HC0_0.out); (case side3 => exact dC (Kd.C_below HR0_1.out (dG GE222.out))); (case side4 => exact HC0_1.out); rintro e w22 ⟨rfl, hb⟩; refine ⟨_, rfl, ?_⟩; replace BK222 := Aside0.mk (blk_below (g := gb222) (o := .cells #[.slice A0_0 l0_0.length c0_0, .slice A0_1 l0_1.length c0_1, .int .i64 a0_2, .bool a0_3] 77 (0, 0)) (dK BK222.out) hb); replace HB := Aside0.mk (below_step (dG GE222.out) hb); (try clear hb)))
       go_ret
       exact ⟨dE, dG GE222.out⟩
      ·rw [if_neg c19] at H
       have c19b0 : (t225 == 0) = false := beq_eq_false_iff_ne.mpr c19
       have c19b1 : (t225 != 0) = true := bne_iff_ne.mpr c19
       obtain rfl := Option.some.inj H
       go_enter Tryd.func90, Tryd.ntmps90
       go_wp2_with (first | ((with_reducible refine gate_dst (N := 4) rfl ?_); refine box_event ?hg (N := 4) ?hd (cs := #[.slice A0_0 l0_0.length c0_0, .slice A0_1 l0_1.length c0_1, .int .i64 a0_2, .bool a0_3]) (t := 77) ?hr ?_; (case hd => rfl); (case hg => rfl); (case hr => first | (go_simp; done) | (go_simp; rfl)); intro gb222 hg w23 hbox hb; have BK222 := Aside0.mk (hbox); have GW222 := Aside0.mk ((by rw [hg]; exact (below_size dB) : w.heap.size ≤ gb222)); have GE222 := Aside0.mk ((by rw [hg]; exact (below_size dB) : w.heap.size ≤ gb222)); replace HB := Aside0.mk (below_step dB hb); clear hb hbox hg) | ((with_reducible refine gate_callee (f := 88) rfl ?_); refine gL (some 26) Tryd.func88 #[.int .u64 a2] ?_; (with_reducible refine (plumbref07_parts.calls a2 t223 t224 _ A13.out).mono ?_); rintro e w' ⟨rfl, ⟨nd, rfl⟩⟩; refine ⟨_, rfl, ?_⟩; have hcz24_0 : w23.cell? ⟨gb222, 0, none⟩ = some (.slice A0_0 l0_0.length c0_0) := (blk_cell BK222.out 0).trans rfl; have hcz24_1 : w23.cell? ⟨gb222, 1, none⟩ = some (.slice A0_1 l0_1.length c0_1) := (blk_cell BK222.out 1).trans rfl; have hcz24_2 : w23.cell? ⟨gb222, 2, none⟩ = some (.int .i64 a0_2) := (blk_cell BK222.out 2).trans rfl; have hcz24_3 : w23.cell? ⟨gb222, 3, none⟩ = some (.bool a0_3) := (blk_cell BK222.out 3).trans rfl; have hfz24_0 := blk_frozen BK222.out 0; have hfz24_1 := blk_frozen BK222.out 1; have hfz24_2 := blk_frozen BK222.out 2; have hfz24_3 := blk_frozen BK222.out 3) | ((with_reducible refine gate_callee (f := 89) rfl ?_); refine gL (some 35) Tryd.func89 #[.agg #[.slice A0_0 l0_0.length c0_0, .slice A0_1 l0_1.length c0_1, .int .i64 a0_2, .bool a0_3], .int .u64 (IntKind.u64.wrap ((IntKind.u64.wrap (2 * t223)) + 1)), .int .i64 (wrap64 (t224 - 1))] ?_; (with_reducible refine (plumbref07_Q_against.calls k _ _ l0_0 _ _ l0_1 a0_2 a0_3 (IntKind.u64.wrap ((IntKind.u64.wrap (2 * t223)) + 1)) (wrap64 (t224 - 1)) t225 _ ?side1 ?side2 ?side3 ?side4 A14.out).mono ?_); (case side1 => exact dC (Kd.C_below HR0_0.out (dG GE222.out))); (case side2 => exact HC0_0.out); (case side3 => exact dC (Kd.C_below HR0_1.out (dG GE222.out))); (case side4 => exact HC0_1.out); rintro e w25 ⟨rfl, hb⟩; refine ⟨_, rfl, ?_⟩; replace BK222 := Aside0.mk (blk_below (g := gb222) (o := .cells #[.slice A0_0 l0_0.length c0_0, .slice A0_1 l0_1.length c0_1, .int .i64 a0_2, .bool a0_3] 77 (0, 0)) (dK BK222.out) hb); replace HB := Aside0.mk (below_step (dG GE222.out) hb); (try clear hb)))
       go_ret
       exact ⟨dE, dG GE222.out⟩

end Go.Proofs.YtoefabmlkbhmpaaDoor.PA

namespace Go.Proofs.YtoefabmlkbhmpaaDoor.PA
open Go.RowKit Go.Proofs.YtoefabmlkbhmpaaDoorW.PrintWords Go.Proofs.YtoefabmlkbhmpaaDoorW.PrintLast Go.Proofs.YtoefabmlkbhmpaaDoorW.PrintMore
attribute [local go_sem] max2_int min2_int max_two min_two max_three min_three max_four min_four   -- for this text's walks alone
set_option linter.unusedVariables false
set_option linter.unusedSimpArgs false

/-! ### plumbref07_Q_round: function 49 -/
def plumbref07_Q_round.j0 : Nat → Bool → Int → Bool → Option (Int × Int)
 | 0, _, _, _ => none
 | k + 1, x1, x8, x29 => if x29 = true then (if x8 = 9218868437227405311 then (some (0, 70)) else (if x1 = true then (some (Go.bits .or .u64 (IntKind.u64.wrap (x8 + 1)) 9223372036854775808, 0)) else (some (IntKind.u64.wrap (x8 + 1), 0)))) else (if x1 = true then (some (Go.bits .or .u64 x8 9223372036854775808, 0)) else (some (x8, 0)))
def plumbref07_Q_round.f (k : Nat) (l0_0 : List Int) (l0_1 : List Int) (a0_2 : Int) (a0_3 : Bool) (a1 : Bool) (a2 : Int) : Option (Int × Int) := (plumbref07_Q_below.f k l0_0 l0_1 a0_2 a0_3).bind fun t227 => ((plumbref07_parts.f t227).bind fun bt228 => ((plumbref07_Q_against.f k l0_0 l0_1 a0_2 a0_3 bt228.1 bt228.2).bind fun t230 => (if t230 = 0 then (plumbref07_Q_round.j0 k a1 t227 false) else ((plumbref07_Q_up.f k l0_0 l0_1 a0_2 a0_3 a1 t227 a2).bind fun t231 => (plumbref07_Q_round.j0 k a1 t227 t231)))))
set_option maxHeartbeats 8000000 in
set_option maxRecDepth 100000 in
theorem plumbref07_Q_round.calls (k : Nat) (A0_0 : Option Addr) (c0_0 : Nat) (l0_0 : List Int) (A0_1 : Option Addr) (c0_1 : Nat) (l0_1 : List Int) (a0_2 : Int) (a0_3 : Bool) (a1 : Bool) (a2 : Int) (r1 : Int) (r2 : Int) (w : World) (hr0_0 : Kd.C (Kd.int .u64) w A0_0 l0_0.length l0_0) (hc0_0 : l0_0.length ≤ c0_0) (hr0_1 : Kd.C (Kd.int .u64) w A0_1 l0_1.length l0_1) (hc0_1 : l0_1.length ≤ c0_1) (h : plumbref07_Q_round.f k l0_0 l0_1 a0_2 a0_3 a1 a2 = some (r1, r2)) :
  Calls Tryd.prog 49 #[.agg #[.slice A0_0 l0_0.length c0_0, .slice A0_1 l0_1.length c0_1, .int .i64 a0_2, .bool a0_3], .bool a1, .int .i64 a2] w fun e w' => e = .returned (.tuple #[.int .u64 r1, .int .i64 r2]) ∧ Below w.heap.size w w' := by
 have hu77 := Tryd.underlying77
 have HR0_0 := Aside0.mk hr0_0
 have HC0_0 := Aside0.mk hc0_0
 clear hr0_0 hc0_0
 have HR0_1 := Aside0.mk hr0_1
 have HC0_1 := Aside0.mk hc0_1
 clear hr0_1 hc0_1
 have HB := Aside0.mk (Below.refl w.heap.size w)
 have H : ((plumbref07_Q_below.f k l0_0 l0_1 a0_2 a0_3).bind fun t227 => ((plumbref07_parts.f t227).bind fun bt228 => ((plumbref07_Q_against.f k l0_0 l0_1 a0_2 a0_3 bt228.1 bt228.2).bind fun t230 => (if t230 = 0 then (plumbref07_Q_round.j0 k a1 t227 false) else ((plumbref07_Q_up.f k l0_0 l0_1 a0_2 a0_3 a1 t227 a2).bind fun t231 => (plumbref07_Q_round.j0 k a1 t227 t231)))))) = some (r1, r2) := h
 clear h
 replace H := obe H
 obtain ⟨t227, A40, H⟩ := H
 replace H : ((plumbref07_parts.f t227).bind fun bt228 => ((plumbref07_Q_against.f k l0_0 l0_1 a0_2 a0_3 bt228.1 bt228.2).bind fun t230 => (if t230 = 0 then (plumbref07_Q_round.j0 k a1 t227 false) else ((plumbref07_Q_up.f k l0_0 l0_1 a0_2 a0_3 a1 t227 a2).bind fun t231 => (plumbref07_Q_round.j0 k a1 t227 t231))))) = some (r1, r2) := H
 have A4 := Aside0.mk A40
 clear A40
 replace H := obe H
 obtain ⟨⟨t228, t229⟩, A50, H⟩ := H
 replace H : ((plumbref07_Q_against.f k l0_0 l0_1 a0_2 a0_3 t228 t229).bind fun t230 => (if t230 = 0 then (plumbref07_Q_round.j0 k a1 t227 false) else ((plumbref07_Q_up.f k l0_0 l0_1 a0_2 a0_3 a1 t227 a2).bind fun t231 => (plumbref07_Q_round.j0 k a1 t227 t231)))) = some (r1, r2) := H
 have A5 := Aside0.mk A50
 clear A50
 have HC6 := Aside0.mk H
 clear H
 go_enter Tryd.func49, Tryd.ntmps49
 go_upto_region 3 with (first | ((with_reducible refine gate_dst (N := 3) rfl ?_); refine box_event ?hg (N := 3) ?hd (cs := #[.slice A0_0 l0_0.length c0_0, .slice A0_1 l0_1.length c0_1, .int .i64 a0_2, .bool a0_3]) (t := 77) ?hr ?_; (case hd => rfl); (case hg => rfl); (case hr => first | (go_simp; done) | (go_simp; rfl)); intro gb226 hg w7 hbox hb; have BK226 := Aside0.mk (hbox); have GW226 := Aside0.mk ((by rw [hg]; exact (below_size dB) : w.heap.size ≤ gb226)); have GE226 := Aside0.mk ((by rw [hg]; exact (below_size dB) : w.heap.size ≤ gb226)); replace HB := Aside0.mk (below_step dB hb); clear hb hbox hg; have hcz8_0 : w7.cell? ⟨gb226, 0, none⟩ = some (.slice A0_0 l0_0.length c0_0) := (blk_cell BK226.out 0).trans rfl; have hcz8_1 : w7.cell? ⟨gb226, 1, none⟩ = some (.slice A0_1 l0_1.length c0_1) := (blk_cell BK226.out 1).trans rfl; have hcz8_2 : w7.cell? ⟨gb226, 2, none⟩ = some (.int .i64 a0_2) := (blk_cell BK226.out 2).trans rfl; have hcz8_3 : w7.cell? ⟨gb226, 3, none⟩ = some (.bool a0_3) := (blk_cell BK226.out 3).trans rfl; have hfz8_0 := blk_frozen BK226.out 0; have hfz8_1 := blk_frozen BK226.out 1; have hfz8_2 := blk_frozen BK226.out 2; have hfz8_3 := blk_frozen BK226.out 3) | ((with_reducible refine gate_callee (f := 87) rfl ?_); refine gL (some 12) Tryd.func87 #[.agg #[.slice A0_0 l0_0.length c0_0, .slice A0_1 l0_1.length c0_1, .int .i64 a0_2, .bool a0_3]] ?_; (with_reducible refine (plumbref07_Q_below.calls k _ _ l0_0 _ _ l0_1 a0_2 a0_3 t227 _ ?side1 ?side2 ?side3 ?side4 A4.out).mono ?_); (case side1 => exact dC (Kd.C_below HR0_0.out HB.out)); (case side2 => exact HC0_0.out); (case side3 => exact dC (Kd.C_below HR0_1.out HB.out)); (case side4 => exact HC0_1.out); rintro e w9 ⟨rfl, hb⟩; refine ⟨_, rfl, ?_⟩; replace BK226 := Aside0.mk (blk_below (g := gb226) (o := .cells #[.slice A0_0 l0_0.length c0_0, .slice A0_1 l0_1.length c0_1, .int .i64 a0_2, .bool a0_3] 77 (0, 0)) (dK BK226.out) hb); replace HB := Aside0.mk (below_step (dG GE226.out) hb); (try clear hb)) | ((with_reducible refine gate_callee (f := 88) rfl ?_); refine gL (some 15) Tryd.func88 #[.int .u64 t227] ?_; (with_reducible refine (plumbref07_parts.calls t227 t228 t229 _ A5.out).mono ?_); rintro e w' ⟨rfl, ⟨nd, rfl⟩⟩; refine ⟨_, rfl, ?_⟩))
 (try simp only [Act.put, List.setIfInBounds_toArray, List.set_cons_zero, List.set_cons_succ])
 go_cut [29] (fun v29 wc => ∃ (kq : Nat) (x29_5 : Bool), v29 = .bool x29_5 ∧ Aside0 (plumbref07_Q_round.j0 kq a1 t227 x29_5 = some (r1, r2)) ∧ Aside0 (kq ≤ k) ∧ Aside0 (wc.heap[gb226]? = some (.cells #[(.slice A0_0 l0_0.length c0_0), (.slice A0_1 l0_1.length c0_1), .int .i64 a0_2, .bool a0_3] 77 (0, 0))) ∧ Aside0 (Below w.heap.size w wc))
 case first =>
  have H := HC6.out
  clear HC6
  replace H := obe H
  obtain ⟨t230, A100, H⟩ := H
  replace H : (if t230 = 0 then (plumbref07_Q_round.j0 k a1 t227 false) else ((plumbref07_Q_up.f k l0_0 l0_1 a0_2 a0_3 a1 t227 a2).bind fun t231 => (plumbref07_Q_round.j0 k a1 t227 t231))) = some (r1, r2) := H
  have A10 := Aside0.mk A100
  clear A100
  by_cases c11 : t230 = 0
  ·rw [if_pos c11] at H
   have c11b0 : (t230 == 0) = true := beq_iff_eq.mpr c11
   have c11b1 : (t230 != 0) = false := bne_eq_false_iff_eq.mpr c11
   clear c11
   (first | rw [c11b0] | (simp only [i64_w, i32_w]; rw [c11b0]) | skip)
   have H' := Aside0.mk H
   clear H
   have hcz12_0 : w9.cell? ⟨gb226, 0, none⟩ = some (.slice A0_0 l0_0.length c0_0) := (blk_cell BK226.out 0).trans rfl
   have hcz12_1 : w9.cell? ⟨gb226, 1, none⟩ = some (.slice A0_1 l0_1.length c0_1) := (blk_cell BK226.out 1).trans rfl
   have hcz12_2 : w9.cell? ⟨gb226, 2, none⟩ = some (.int .i64 a0_2) := (blk_cell BK226.out 2).trans rfl
   have hcz12_3 : w9.cell? ⟨gb226, 3, none⟩ = some (.bool a0_3) := (blk_cell BK226.out 3).trans rfl
   have hfz12_0 := blk_frozen BK226.out 0
   have hfz12_1 := blk_frozen BK226.out 1
   have hfz12_2 := blk_frozen BK226.out 2
   have hfz12_3 := blk_frozen BK226.out 3
   go_wp2_with (first | ((with_reducible refine gate_callee (f := 89) rfl ?_); refine gL (some 21) Tryd.func89 #[.agg #[.slice A0_0 l0_0.length c0_0, .slice A0_1 l0_1.length c0_1, .int .i64 a0_2, .bool a0_3], .int .u64 t228, .int .i64 t229] ?_; (with_reducible refine (plumbref07_Q_against.calls k _ _ l0_0 _ _ l0_1 a0_2 a0_3 t228 t229 t230 _ ?side1 ?side2 ?side3 ?side4 A10.out).mono ?_); (case side1 => exact dC (Kd.C_below HR0_0.out HB.out)); (case side2 => exact HC0_0.out); (case side3 => exact dC (Kd.C_below HR0_1.out HB.out)); (case side4 => exact HC0_1.out); rintro e w13 ⟨rfl, hb⟩; refine ⟨_, rfl, ?_⟩; replace BK226 := Aside0.mk (blk_below (g := gb226) (o := .cells #[.slice A0_0 l0_0.length c0_0, .slice A0_1 l0_1.length c0_1, .int .i64 a0_2, .bool a0_3] 77 (0, 0)) (dK BK226.out) hb); replace HB := Aside0.mk (below_step (dG GE226.out) hb); (try clear hb)))
   go_meet
   case rel => exact ⟨_, (false), dF, H', ⟨dN⟩, ⟨dK BK226.out⟩, ⟨dG GE226.out⟩⟩
  ·rw [if_neg c11] at H
   have c11b0 : (t230 == 0) = false := beq_eq_false_iff_ne.mpr c11
   have c11b1 : (t230 != 0) = true := bne_iff_ne.mpr c11
   (first | rw [c11b0] | (simp only [i64_w, i32_w]; rw [c11b0]) | skip)
   replace H := obe H
   obtain ⟨t231, A140, H⟩ := H
   replace H : (plumbref07_Q_round.j0 k a1 t227 t231) = some (r1, r2) := H
   have A14 := Aside0.mk A140
   clear A140
   have H' := Aside0.mk H
   clear H
   have hcz15_0 : w9.cell? ⟨gb226, 0, none⟩ = some (.slice A0_0 l0_0.length c0_0) := (blk_cell BK226.out 0).trans rfl
   have hcz15_1 : w9.cell? ⟨gb226, 1, none⟩ = some (.slice A0_1 l0_1.length c0_1) := (blk_cell BK226.out 1).trans rfl
   have hcz15_2 : w9.cell? ⟨gb226, 2, none⟩ = some (.int .i64 a0_2) := (blk_cell BK226.out 2).trans rfl
   have hcz15_3 : w9.cell? ⟨gb226, 3, none⟩ = some (.bool a0_3) := (blk_cell BK226.out 3).trans rfl
   have hfz15_0 := blk_frozen BK226.out 0
   have hfz15_1 := blk_frozen BK226.out 1
   have hfz15_2 := blk_frozen BK226.out 2
   have hfz15_3 := blk_frozen BK226.out 3
   go_wp2_with (first | ((with_reducible refine gate_callee (f := 89) rfl ?_); refine gL (some 21) Tryd.func89 #[.agg #[.slice A0_0 l0_0.length c0_0, .slice A0_1 l0_1.length c0_1, .int .i64 a0_2, .bool a0_3], .int .u64 t228, .int .i64 t229] ?_; (with_reducible refine (plumbref07_Q_against.calls k _ _ l0_0 _ _ l0_1 a0_2 a0_3 t228 t229 t230 _ ?side1 ?side2 ?side3 ?side4 A10.out).mono ?_); (case side1 => exact dC (Kd.C_below HR0_0.out HB.out)); (case side2 => exact HC0_0.out); (case side3 => exact dC (Kd.C_below HR0_1.out HB.out)); (case side4 => exact HC0_1.out); rintro e w16 ⟨rfl, hb⟩; refine ⟨_, rfl, ?_⟩; replace BK226 := Aside0.mk (blk_below (g := gb226) (o := .cells #[.slice A0_0 l0_0.length c0_0, .slice A0_1 l0_1.length c0_1, .int .i64 a0_2, .bool a0_3] 77 (0, 0)) (dK BK226.out) hb); replace HB := Aside0.mk (below_step (dG GE226.out) hb); (try clear hb); have hcz17_0 : w16.cell? ⟨gb226, 0, none⟩ = some (.slice A0_0 l0_0.length c0_0) := (blk_cell BK226.out 0).trans rfl; have hcz17_1 : w16.cell? ⟨gb226, 1, none⟩ = some (.slice A0_1 l0_1.length c0_1) := (blk_cell BK226.out 1).trans rfl; have hcz17_2 : w16.cell? ⟨gb226, 2, none⟩ = some (.int .i64 a0_2) := (blk_cell BK226.out 2).trans rfl; have hcz17_3 : w16.cell? ⟨gb226, 3, none⟩ = some (.bool a0_3) := (blk_cell BK226.out 3).trans rfl; have hfz17_0 := blk_frozen BK226.out 0; have hfz17_1 := blk_frozen BK226.out 1; have hfz17_2 := blk_frozen BK226.out 2; have hfz17_3 := blk_frozen BK226.out 3) | (go_at_call 90; (with_reducible refine (plumbref07_Q_up.calls k _ _ l0_0 _ _ l0_1 a0_2 a0_3 a1 t227 a2 t231 _ ?side1 ?side2 ?side3 ?side4 A14.out).mono ?_); (case side1 => exact dC (Kd.C_below HR0_0.out HB.out)); (case side2 => exact HC0_0.out); (case side3 => exact dC (Kd.C_below HR0_1.out HB.out)); (case side4 => exact HC0_1.out); rintro e w18 ⟨rfl, hb⟩; replace BK226 := Aside0.mk (blk_below (g := gb226) (o := .cells #[.slice A0_0 l0_0.length c0_0, .slice A0_1 l0_1.length c0_1, .int .i64 a0_2, .bool a0_3] 77 (0, 0)) (dK BK226.out) hb); replace HB := Aside0.mk (below_step (dG GE226.out) hb); (try clear hb)))
   go_meet
   case rel => exact ⟨_, (t231), dF, H', ⟨dN⟩, ⟨dK BK226.out⟩, ⟨dG GE226.out⟩⟩
 case rest =>
  clear HC6
  try clear c1
  try clear p2
  try clear c4
  try clear c8
  try clear c11
  try clear c11b0
  try clear c11b1
  try clear hcz12_0
  try clear hcz12_1
  try clear hcz12_2
  try clear hcz12_3
  try clear hcz15_0
  try clear hcz15_1
  try clear hcz15_2
  try clear hcz15_3
  try clear hcz17_0
  try clear hcz17_1
  try clear hcz17_2
  try clear hcz17_3
  try clear hcz8_0
  try clear hcz8_1
  try clear hcz8_2
  try clear hcz8_3
  try clear hfz12_0
  try clear hfz12_1
  try clear hfz12_2
  try clear hfz12_3
  try clear hfz15_0
  try clear hfz15_1
  try clear hfz15_2
  try clear hfz15_3
  try clear hfz17_0
  try clear hfz17_1
  try clear hfz17_2
  try clear hfz17_3
  try clear hfz8_0
  try clear hfz8_1
  try clear hfz8_2
  try clear hfz8_3
  obtain ⟨kq, x29_5, rfl, HA, HJ5, BK226, HB⟩ := hcut
  cases kq with
  | zero => exact absurd HA.out (by simp [plumbref07_Q_round.j0])
  | succ kj5 =>
   have H := HA.out
   clear HA
   simp only [plumbref07_Q_round.j0] at H
   by_cases c19 : x29_5 = true
   ·subst c19
    have H1 : (if t227 = 9218868437227405311 then (some (0, 70)) else (if a1 = true then (some (Go.bits .or .u64 (IntKind.u64.wrap (t227 + 1)) 9223372036854775808, 0)) else (some (IntKind.u64.wrap (t227 + 1), 0)))) = some (r1, r2) := by rw [if_pos rfl] at H; exact H
    clear H
    have H := H1
    clear H1
    by_cases c20 : t227 = 9218868437227405311
    ·rw [if_pos c20] at H
     have c20b0 : (t227 == 9218868437227405311) = true := beq_iff_eq.mpr c20
     have c20b1 : (t227 != 9218868437227405311) = false := bne_eq_false_iff_eq.mpr c20
     clear c20
     simp only [Option.some.injEq, Prod.mk.injEq] at H
     obtain ⟨rfl, rfl⟩ := H
     go_wp2
     go_ret2
     exact ⟨dE, dG GE226.out⟩
    ·rw [if_neg c20] at H
     have c20b0 : (t227 == 9218868437227405311) = false := beq_eq_false_iff_ne.mpr c20
     have c20b1 : (t227 != 9218868437227405311) = true := bne_iff_ne.mpr c20
     by_cases c21 : a1 = true
     ·subst c21
      have H1 : (some (Go.bits .or .u64 (IntKind.u64.wrap (t227 + 1)) 9223372036854775808, 0)) = some (r1, r2) := by rw [if_pos rfl] at H; exact H
      clear H
      have H := H1
      clear H1
      simp only [Option.some.injEq, Prod.mk.injEq] at H
      obtain ⟨rfl, rfl⟩ := H
      go_wp2
      go_ret2
      exact ⟨dE, dG GE226.out⟩
     ·replace c21 := Bool.eq_false_iff.mpr c21
      subst c21
      have H1 : (some (IntKind.u64.wrap (t227 + 1), 0)) = some (r1, r2) := by rw [if_neg (show ¬ (false = true) by decide)] at H; exact H
      clear H
      have H := H1
      clear H1
      simp only [Option.some.injEq, Prod.mk.injEq] at H
      obtain ⟨rfl, rfl⟩ := H
      go_wp2
      go_ret2
      exact ⟨dE, dG GE226.out⟩
   ·replace c19 := Bool.eq_false_iff.mpr c19
    subst c19
    have H1 : (if a1 = true then (some (Go.bits .or .u64 t227 9223372036854775808, 0)) else (some (t227, 0))) = some (r1, r2) := by rw [if_neg (show ¬ (false = true) by decide)] at H; exact H
    clear H
    have H := H1
    clear H1
    by_cases c22 : a1 = true
    ·subst c22
     have H1 : (some (Go.bits .or .u64 t227 9223372036854775808, 0)) = some (r1, r2) := by rw [if_pos rfl] at H; exact H
     clear H
     have H := H1
     clear H1
     simp only [Option.some.injEq, Prod.mk.injEq] at H
     obtain ⟨rfl, rfl⟩ := H
     go_wp2
     go_ret2
     exact ⟨dE, dG GE226.out⟩
    ·replace c22 := Bool.eq_false_iff.mpr c22
     subst c22
     have H1 : (some (t227, 0)) = some (r1, r2) := by rw [if_neg (show ¬ (false = true) by decide)] at H; exact H
     clear H
     have H := H1
     clear H1
     simp only [Option.some.injEq, Prod.mk.injEq] at H
     obtain ⟨rfl, rfl⟩ := H
     go_wp2
     go_ret2
     exact ⟨dE, dG GE226.out⟩

end Go.Proofs.YtoefabmlkbhmpaaDoor.PA
