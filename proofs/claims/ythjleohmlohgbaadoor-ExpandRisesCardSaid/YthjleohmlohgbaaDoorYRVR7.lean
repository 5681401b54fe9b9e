/- A part of the proof (7). -/
import Derived.Test.YthjleohmlohgbaaDoorYRVR2
import Derived.Test.YthjleohmlohgbaaDoorYRVR5
import Derived.Test.YthjleohmlohgbaaDoorYRVR6
import Derived.Test.YthjleohmlohgbaaDoorYRVR3
import Derived.Test.YthjleohmlohgbaaDoorYRVR4
namespace Go.Proofs.YthjleohmlohgbaaDoor.PA
open Go.RowKit Go.Proofs.YthjleohmlohgbaaDoorW.PrintWords Go.Proofs.YthjleohmlohgbaaDoorW.PrintLast Go.Proofs.YthjleohmlohgbaaDoorW.PrintMore
attribute [local go_sem] max2_int min2_int max_two min_two max_three min_three max_four min_four
set_option linter.unusedVariables false
set_option linter.unusedSimpArgs false
def expand_Precise.j0 : Nat → Int → Int → Bool → Option (ByteArray × Int × Int)
 | 0, _, _, _ => none
 | k + 1, x0, x1, x17 => if x17 = true then (some ((⟨#[]⟩ : ByteArray), 0, 130)) else ((expand_all.f k x0).bind fun bt471 => (if bt471.2.2 = 0 then (if (bt471.1.length : Int) = 0 then ((bytes_Repeat.f (([48] : List Int)) x1).bind fun t479 => (some (strOfNums t479, 0, 0))) else ((expand_cut.f k bt471.1 x1).bind fun t482 => (if (t482.length : Int) > x1 then (if 0 ≤ x1 then (if x1 ≤ (t482.length : Int) then (some (strOfNums (t482.take (x1 : Int).toNat), wrap64 ((wrap64 ((wrap64 (bt471.2.1 + (bt471.1.length : Int))) - x1)) + 1), 0)) else (none)) else (none)) else (some (strOfNums t482, wrap64 ((wrap64 (bt471.2.1 + (bt471.1.length : Int))) - x1), 0))))) else (some ((⟨#[]⟩ : ByteArray), 0, bt471.2.2))))
def expand_Precise.f (k : Nat) (a0 : Int) (a1 : Int) : Option (ByteArray × Int × Int) := if a1 < 1 then (expand_Precise.j0 k a0 a1 true) else (expand_Precise.j0 k a0 a1 (decide (a1 > 1100)))
theorem expand_Precise.mono_l : ∀ k, (∀ y0 y1 y2, LeO (expand_Precise.j0 k y0 y1 y2) (expand_Precise.j0 (k + 1) y0 y1 y2))
 | 0 => fun _ _ _ r h => by simp [expand_Precise.j0] at h
 | k + 1 => by
  have ih0 := expand_Precise.mono_l k
  ·intro y0 y1 y2
   unfold expand_Precise.j0
   have m0_ := expand_all.mono
   have m1_ := expand_cut.mono
   exact mX
theorem expand_Precise.mono : ∀ a0 a1 k, LeO (expand_Precise.f k a0 a1) (expand_Precise.f (k + 1) a0 a1) := by
 intro a0 a1 k
 have ih0 := expand_Precise.mono_l k
 unfold expand_Precise.f
 have m0_ := expand_all.mono
 have m1_ := expand_cut.mono
 exact mX
set_option maxHeartbeats 8000000 in
set_option maxRecDepth 100000 in
theorem expand_Precise.calls (k : Nat) (a0 : Int) (a1 : Int) (r1 : ByteArray) (r2 : Int) (r3 : Int) (w : World) (h : expand_Precise.f k a0 a1 = some (r1, r2, r3)) :
  Calls Tryd.prog 9 #[.int .u64 a0, .int .i64 a1] w fun e w' => e = .returned (.tuple #[.string r1, .int .i64 r2, .int .i64 r3]) ∧ Below w.heap.size w w' := by
 have HB := aM (Below.refl w.heap.size w)
 have H := h
 clear h
 unfold expand_Precise.f at H
 have HC3 := aM H
 clear H
 go_enter Tryd.func9, Tryd.ntmps9
 go_upto_region 1 with (fail)
 go_cut [17] (fun v17 wc => ∃ (kq : Nat) (x17_2 : Bool), v17 = .bool x17_2 ∧ Aside0 (expand_Precise.j0 kq a0 a1 x17_2 = some (r1, r2, r3)) ∧ Aside0 (kq ≤ k) ∧ Aside0 (Below w.heap.size w wc))
 case first =>
  have H := HC3.out
  clear HC3
  by_cases c4 : a1 < 1
  ·rw [if_pos c4] at H
   have c4b0 := decide_eq_true c4
   clear c4
   (first | rw [c4b0] | (simp only [i64_w, i32_w]; rw [c4b0]) | skip)
   have H' := aM H
   clear H
   go_wp2
   go_meet
   case rel => exact ⟨_, (true), dF, H', ⟨dN⟩, ⟨dB⟩⟩
  ·rw [if_neg c4] at H
   have c4b0 := decide_eq_false c4
   clear c4
   (first | rw [c4b0] | (simp only [i64_w, i32_w]; rw [c4b0]) | skip)
   have H' := aM H
   clear H
   go_wp2
   go_meet
   case rel => exact ⟨_, (decide (a1 > 1100)), dF, H', ⟨dN⟩, ⟨dB⟩⟩
 case rest =>
  clear HC3
  obtain ⟨kq, x17_2, rfl, HA, HJ2, HB⟩ := hcut
  cases kq with
  | zero => exact absurd HA.out (by simp [expand_Precise.j0])
  | succ kj2 =>
   have H := HA.out
   clear HA
   simp only [expand_Precise.j0] at H
   by_cases c5 : x17_2 = true
   ·subst c5
    rw [if_pos rfl] at H
    (try dsimp only at H)
    simp only [Option.some.injEq, Prod.mk.injEq] at H
    obtain ⟨rfl, rfl, rfl⟩ := H
    go_wp2
    go_ret3
    exact ⟨dE, dB⟩
   ·replace c5 := Bool.eq_false_iff.mpr c5
    subst c5
    rw [if_neg (show ¬ (false = true) by decide)] at H
    (try dsimp only at H)
    replace H := oA H
    obtain ⟨⟨t471, t472, t473⟩, A6, H⟩ := H
    (try dsimp only at H)
    by_cases c7 : t473 = 0
    ·rw [if_pos c7] at H
     obtain ⟨c7b0, c7b1⟩ := bT c7
     clear c7
     by_cases c8 : (t471.length : Int) = 0
     ·rw [if_pos c8] at H
      obtain ⟨c8b0, c8b1⟩ := bT c8
      clear c8
      obtain ⟨y476, hy476⟩ : ∃ y_ : List Int, y_ = (([48] : List Int)) := ⟨_, rfl⟩
      replace H : ((bytes_Repeat.f y476 a1).bind fun t479 => (some (strOfNums t479, 0, 0))) = some (r1, r2, r3) := by first | (rw [hy476]; with_reducible exact H) | (have H2_ := (Option.bind_some _ _).symm.trans H; rw [hy476]; with_reducible exact H2_) | (have H2_ := (Option.bind_some _ _).symm.trans H; with_reducible exact H2_) | with_reducible exact H | (rw [hy476]; exact H) | exact H
      have Ny476 := aM hy476
      clear hy476
      replace H := oA H
      obtain ⟨t479, A9, H⟩ := H
      (try dsimp only at H)
      simp only [Option.some.injEq, Prod.mk.injEq] at H
      obtain ⟨rfl, rfl, rfl⟩ := H
      go_wp2_with (first | ((with_reducible refine gate_callee (f := 16) rfl ?_); refine gL (some 20) Tryd.func16 #[.int .u64 a0] ?_; (with_reducible refine (expand_all.calls kj2 a0 t471 t472 t473 _ A6.out).mono ?_); rintro e w10 ⟨v474, rfl, ho0, hb⟩; refine ⟨_, rfl, ?_⟩; have HO475 := aM (Kd.R_lower ho0 (below_size dB)); replace HB := hS HB.out hb; (try clear hb); (try clear ho0); obtain ⟨Ao11, co11, rfl⟩ := Kd.R_slice HO475.out) | ((with_reducible refine gate_dst (N := 30) rfl ?_); refine Kd.R_lit (Kd.int .u8) _ 5 ?hg (N := 30) ?hd (xs := ([48] : List Int)) (inner := [.int .u8 48]) (ok := fun _ => True) (okp := fun _ => True) ?hr ?hp (fun _ hk => hk) trivial (Below.refl _ _) (Nat.le_refl _) (by simp) ?_; (case hd => rfl); (case hg => rfl); (case hr => first | (go_simp; done) | (go_simp; rfl)); (case hp => exact (Reps.one (show Kd.M (Kd.int .u8) _ _ _ 48 [.int .u8 48] from rfl) (Reps.none _ _))); intro v477 w12 ho13 hb hg_ hnew_; clear hg_ hnew_; (first | rw [← Ny476.out] at ho13 | (simp only [Int.reduceToNat] at ho13; rw [← Ny476.out] at ho13)); have HO478 := aM (Kd.R_lower (nW ho13 HO475.out) (below_size dB)); replace HO475 := oE HO475.out ho13 hb; replace HB := hS HB.out hb; clear hb ho13; obtain ⟨Ao14, co14, rfl⟩ := Kd.R_slice HO478.out) | ((with_reducible refine gate_callee (f := 18) rfl ?_); refine gL (some 32) Tryd.func18 #[.slice Ao14 y476.length co14, .int .i64 a1] ?_; (with_reducible refine (bytes_Repeat.calls _ _ y476 a1 t479 _ ?side1 (Kd.R_reads' HO478.out).2.1 A9.out).mono ?_); (case side1 => exact dC (Kd.R_reads' HO478.out).2.2); rintro e w15 ⟨v480, rfl, ho0, hb⟩; refine ⟨_, rfl, ?_⟩; have HO481 := aM (Kd.R_lower (nW (nW ho0 HO475.out) HO478.out) (below_size dB)); replace HO475 := oE HO475.out ho0 hb; replace HO478 := oE HO478.out ho0 hb; replace HB := hS HB.out hb; (try clear hb); (try clear ho0); have hcv16 := own_string (P := Tryd.prog) Tryd.underlying45 Tryd.underlying5 Tryd.underlying9 (Kd.own_of_R HO481.out)))
      go_ret3
      exact ⟨dE, dB⟩
     ·rw [if_neg c8] at H
      obtain ⟨c8b0, c8b1⟩ := bF c8
      have c8b2 : ¬ (t471 = []) := fun h_ => c8 (by rw [h_]; rfl)
      replace H := oA H
      obtain ⟨t482, A17, H⟩ := H
      (try dsimp only at H)
      by_cases c18 : (t482.length : Int) > a1
      ·rw [if_pos c18] at H
       have c18b0 : decide (a1 < (t482.length : Int)) = true := decide_eq_true c18
       clear c18
       replace H := nO H
       obtain ⟨c19, H⟩ := H
       have c19b0 := eq_true c19
       have c19b1 : decide (0 ≤ a1) = true := decide_eq_true c19
       clear c19
       replace H := nO H
       obtain ⟨c20, H⟩ := H
       have c20b0 := eq_true c20
       have c20b1 := decide_eq_true c20
       clear c20
       obtain ⟨y485, hy485⟩ : ∃ y_ : List Int, y_ = (t482.take (a1 : Int).toNat) := ⟨_, rfl⟩
       replace H : (some (strOfNums y485, wrap64 ((wrap64 ((wrap64 (t472 + (t471.length : Int))) - a1)) + 1), 0)) = some (r1, r2, r3) := by first | (rw [hy485]; with_reducible exact H) | (have H2_ := (Option.bind_some _ _).symm.trans H; rw [hy485]; with_reducible exact H2_) | (have H2_ := (Option.bind_some _ _).symm.trans H; with_reducible exact H2_) | with_reducible exact H | (rw [hy485]; exact H) | exact H
       have Ny485 := aM hy485
       clear hy485
       simp only [Option.some.injEq, Prod.mk.injEq] at H
       obtain ⟨rfl, rfl, rfl⟩ := H
       go_wp2_with (first | ((with_reducible refine gate_callee (f := 16) rfl ?_); refine gL (some 20) Tryd.func16 #[.int .u64 a0] ?_; (with_reducible refine (expand_all.calls kj2 a0 t471 t472 t473 _ A6.out).mono ?_); rintro e w21 ⟨v474, rfl, ho0, hb⟩; refine ⟨_, rfl, ?_⟩; have HO475 := aM (Kd.R_lower ho0 (below_size dB)); replace HB := hS HB.out hb; (try clear hb); (try clear ho0); obtain ⟨Ao22, co22, rfl⟩ := Kd.R_slice HO475.out) | ((with_reducible refine gate_callee (f := 17) rfl ?_); refine gL (some 42) Tryd.func17 #[.slice Ao22 t471.length co22, .int .i64 a1] ?_; (with_reducible refine (expand_cut.calls kj2 _ _ t471 a1 t482 _ ?side1 (Kd.R_reads' HO475.out).2.1 A17.out).mono ?_); (case side1 => exact dC (Kd.R_reads' HO475.out).2.2); rintro e w23 ⟨v483, rfl, ho0, hb⟩; refine ⟨_, rfl, ?_⟩; have HO484 := aM (Kd.Q_lower (Kd.Q_new' ho0 (Kd.R_lt (dR HO475.out))) (below_size dB)); replace HO475 := aM (Kd.R_elder' (dR HO475.out) (Kd.Q_base ho0) hb); replace HB := hS HB.out hb; (try clear hb); (try clear ho0); obtain ⟨Ao24, co24, eo24, _⟩ := Kd.Q_slice HO484.out; subst eo24; have q25 : (a1 : Int) ≤ ((t482.length : Int) : Int) := of_decide_eq_true dS; obtain ⟨i025, hi025, _, hsz25, _⟩ := info_parts info5; have hroom25 : t482.length ≤ co24 := (Kd.Q_reads' HO484.out).2.1; have hC25 : Kd.C (Kd.int .u8) _ Ao24 t482.length t482 := (Kd.Q_reads' HO484.out).2.2; have hcut25 := cut_to (P := Tryd.prog) 45 5 .i64 Tryd.underlying45 hi025 Ao24 t482.length co24 a1 (of_decide_eq_true dS) q25 hroom25; have hr25 := Kd.C_take (m := (a1 : Int).toNat) hC25 (by omega); have hy25 : y485.length = (a1 : Int).toNat := (by rw [Ny485.out, List.length_take]; omega); rw [← Ny485.out] at hr25; rw [← hy25] at hcut25; have HR488 := aM hr25; have HC488 := aM (show y485.length ≤ co24 from by omega); clear hr25 hC25 hroom25 hi025 hsz25; have KY25 := aM hy25; clear hy25; have KL25 := aM (show (a1 : Int).toNat ≤ t482.length from by omega); replace q25 := eq_true q25; have hcv26 := Kd.C_string (P := Tryd.prog) (A := Ao24) (c := co24) Tryd.underlying45 Tryd.underlying5 Tryd.underlying9 (by repeat (first | (with_reducible exact HR488.out) | (with_reducible refine Kd.C_alloc ?_ _) | (with_reducible refine Kd.C_drewN ?_ _) | (with_reducible refine Kd.C_drew ?_) | exact HR488.out))))
       go_ret3
       exact ⟨dE, dB⟩
      ·rw [if_neg c18] at H
       have c18b0 : decide (a1 < (t482.length : Int)) = false := decide_eq_false c18
       clear c18
       simp only [Option.some.injEq, Prod.mk.injEq] at H
       obtain ⟨rfl, rfl, rfl⟩ := H
       go_wp2_with (first | ((with_reducible refine gate_callee (f := 16) rfl ?_); refine gL (some 20) Tryd.func16 #[.int .u64 a0] ?_; (with_reducible refine (expand_all.calls kj2 a0 t471 t472 t473 _ A6.out).mono ?_); rintro e w27 ⟨v474, rfl, ho0, hb⟩; refine ⟨_, rfl, ?_⟩; have HO475 := aM (Kd.R_lower ho0 (below_size dB)); replace HB := hS HB.out hb; (try clear hb); (try clear ho0); obtain ⟨Ao28, co28, rfl⟩ := Kd.R_slice HO475.out) | ((with_reducible refine gate_callee (f := 17) rfl ?_); refine gL (some 42) Tryd.func17 #[.slice Ao28 t471.length co28, .int .i64 a1] ?_; (with_reducible refine (expand_cut.calls kj2 _ _ t471 a1 t482 _ ?side1 (Kd.R_reads' HO475.out).2.1 A17.out).mono ?_); (case side1 => exact dC (Kd.R_reads' HO475.out).2.2); rintro e w29 ⟨v483, rfl, ho0, hb⟩; refine ⟨_, rfl, ?_⟩; have HO484 := aM (Kd.Q_lower (Kd.Q_new' ho0 (Kd.R_lt (dR HO475.out))) (below_size dB)); replace HO475 := aM (Kd.R_elder' (dR HO475.out) (Kd.Q_base ho0) hb); replace HB := hS HB.out hb; (try clear hb); (try clear ho0); obtain ⟨Ao30, co30, eo30, _⟩ := Kd.Q_slice HO484.out; subst eo30; have hcv31 := Kd.C_string (P := Tryd.prog) (A := Ao30) (c := co30) Tryd.underlying45 Tryd.underlying5 Tryd.underlying9 (Kd.Q_reads' HO484.out).2.2))
       go_ret3
       exact ⟨dE, dB⟩
    ·rw [if_neg c7] at H
     obtain ⟨c7b0, c7b1⟩ := bF c7
     simp only [Option.some.injEq, Prod.mk.injEq] at H
     obtain ⟨rfl, rfl, rfl⟩ := H
     go_wp2_with (first | ((with_reducible refine gate_callee (f := 16) rfl ?_); refine gL (some 20) Tryd.func16 #[.int .u64 a0] ?_; (with_reducible refine (expand_all.calls kj2 a0 t471 t472 t473 _ A6.out).mono ?_); rintro e w32 ⟨v474, rfl, ho0, hb⟩; refine ⟨_, rfl, ?_⟩; have HO475 := aM (Kd.R_lower ho0 (below_size dB)); replace HB := hS HB.out hb; (try clear hb); (try clear ho0)))
     go_ret3
     exact ⟨dE, dB⟩
def expand_Digits.f (k : Nat) (a0 : Int) : Option (ByteArray × Int × Int) := (expand_all.f k a0).bind fun bt489 => (if bt489.2.2 = 0 then (if (bt489.1.length : Int) = 0 then (some ((⟨#[48]⟩ : ByteArray), 0, 0)) else (some (strOfNums bt489.1, bt489.2.1, 0))) else (some ((⟨#[]⟩ : ByteArray), 0, bt489.2.2)))
theorem expand_Digits.mono : ∀ a0 k, LeO (expand_Digits.f k a0) (expand_Digits.f (k + 1) a0) := by
 intro a0 k
 unfold expand_Digits.f
 have m0_ := expand_all.mono
 exact mX
set_option maxHeartbeats 8000000 in
set_option maxRecDepth 100000 in
theorem expand_Digits.calls (k : Nat) (a0 : Int) (r1 : ByteArray) (r2 : Int) (r3 : Int) (w : World) (h : expand_Digits.f k a0 = some (r1, r2, r3)) :
  Calls Tryd.prog 23 #[.int .u64 a0] w fun e w' => e = .returned (.tuple #[.string r1, .int .i64 r2, .int .i64 r3]) ∧ Below w.heap.size w w' := by
 have HB := aM (Below.refl w.heap.size w)
 have H := h
 clear h
 unfold expand_Digits.f at H
 replace H := oA H
 obtain ⟨⟨t489, t490, t491⟩, A2, H⟩ := H
 (try dsimp only at H)
 by_cases c3 : t491 = 0
 ·rw [if_pos c3] at H
  obtain ⟨c3b0, c3b1⟩ := bT c3
  clear c3
  by_cases c4 : (t489.length : Int) = 0
  ·rw [if_pos c4] at H
   obtain ⟨c4b0, c4b1⟩ := bT c4
   clear c4
   simp only [Option.some.injEq, Prod.mk.injEq] at H
   obtain ⟨rfl, rfl, rfl⟩ := H
   go_enter Tryd.func23, Tryd.ntmps23
   go_wp2_with (first | ((with_reducible refine gate_callee (f := 16) rfl ?_); refine gL (some 10) Tryd.func16 #[.int .u64 a0] ?_; (with_reducible refine (expand_all.calls k a0 t489 t490 t491 _ A2.out).mono ?_); rintro e w5 ⟨v492, rfl, ho0, hb⟩; refine ⟨_, rfl, ?_⟩; have HO493 := aM (Kd.R_lower ho0 (below_size dB)); replace HB := hS HB.out hb; (try clear hb); (try clear ho0); obtain ⟨Ao6, co6, rfl⟩ := Kd.R_slice HO493.out))
   go_ret3
   exact ⟨dE, dB⟩
  ·rw [if_neg c4] at H
   obtain ⟨c4b0, c4b1⟩ := bF c4
   have c4b2 : ¬ (t489 = []) := fun h_ => c4 (by rw [h_]; rfl)
   simp only [Option.some.injEq, Prod.mk.injEq] at H
   obtain ⟨rfl, rfl, rfl⟩ := H
   go_enter Tryd.func23, Tryd.ntmps23
   go_wp2_with (first | ((with_reducible refine gate_callee (f := 16) rfl ?_); refine gL (some 10) Tryd.func16 #[.int .u64 a0] ?_; (with_reducible refine (expand_all.calls k a0 t489 t490 t491 _ A2.out).mono ?_); rintro e w7 ⟨v492, rfl, ho0, hb⟩; refine ⟨_, rfl, ?_⟩; have HO493 := aM (Kd.R_lower ho0 (below_size dB)); replace HB := hS HB.out hb; (try clear hb); (try clear ho0); obtain ⟨Ao8, co8, rfl⟩ := Kd.R_slice HO493.out; have hcv9 := own_string (P := Tryd.prog) Tryd.underlying45 Tryd.underlying5 Tryd.underlying9 (Kd.own_of_R HO493.out)))
   go_ret3
   exact ⟨dE, dB⟩
 ·rw [if_neg c3] at H
  obtain ⟨c3b0, c3b1⟩ := bF c3
  simp only [Option.some.injEq, Prod.mk.injEq] at H
  obtain ⟨rfl, rfl, rfl⟩ := H
  go_enter Tryd.func23, Tryd.ntmps23
  go_wp2_with (first | ((with_reducible refine gate_callee (f := 16) rfl ?_); refine gL (some 10) Tryd.func16 #[.int .u64 a0] ?_; (with_reducible refine (expand_all.calls k a0 t489 t490 t491 _ A2.out).mono ?_); rintro e w10 ⟨v492, rfl, ho0, hb⟩; refine ⟨_, rfl, ?_⟩; have HO493 := aM (Kd.R_lower ho0 (below_size dB)); replace HB := hS HB.out hb; (try clear hb); (try clear ho0)))
  go_ret3
  exact ⟨dE, dB⟩
def plumblaw13_alive.f (k : Nat)  : Option (Bool) := (expand_Digits.f k 4609434218613702656).bind fun bt494 => ((expand_Fixed.f k 4591870180066957722 20).bind fun bt497 => ((expand_Precise.f k 4652002910794678272 3).bind fun bt499 => (if bt494.1.toList = ([49, 53] : List UInt8) then (if bt494.2.1 = (-1) then (if bt494.2.2 = 0 then (if bt497.1.toList = ([48, 46, 49, 48, 48, 48, 48, 48, 48, 48, 48, 48, 48, 48, 48, 48, 48, 48, 48, 53, 53, 53] : List UInt8) then (if bt497.2 = 0 then (if bt499.1.toList = ([49, 48, 48] : List UInt8) then (if bt499.2.1 = 1 then (some (bt499.2.2 == 0)) else (none)) else (none)) else (none)) else (none)) else (none)) else (none)) else (none))))
theorem plumblaw13_alive.mono : ∀ k, LeO (plumblaw13_alive.f k ) (plumblaw13_alive.f (k + 1) ) := by
 intro  k
 unfold plumblaw13_alive.f
 have m0_ := expand_Digits.mono
 have m1_ := expand_Fixed.mono
 have m2_ := expand_Precise.mono
 exact mX
set_option maxHeartbeats 8000000 in
set_option maxRecDepth 100000 in
theorem plumblaw13_alive.calls (k : Nat)  (r : Bool) (w : World) (h : plumblaw13_alive.f k  = some r) :
  Calls Tryd.prog 8 #[] w fun e w' => e = .returned (.bool r) ∧ Below w.heap.size w w' := by
 have HB := aM (Below.refl w.heap.size w)
 have H := h
 clear h
 unfold plumblaw13_alive.f at H
 replace H := oA H
 obtain ⟨⟨t494, t495, t496⟩, A1, H⟩ := H
 (try dsimp only at H)
 replace H := oA H
 obtain ⟨⟨t497, t498⟩, A2, H⟩ := H
 (try dsimp only at H)
 replace H := oA H
 obtain ⟨⟨t499, t500, t501⟩, A3, H⟩ := H
 (try dsimp only at H)
 replace H := nO H
 obtain ⟨c4, H⟩ := H
 obtain ⟨c4b0, c4b1⟩ := bT c4
 clear c4
 replace H := nO H
 obtain ⟨c5, H⟩ := H
 obtain ⟨c5b0, c5b1⟩ := bT c5
 clear c5
 replace H := nO H
 obtain ⟨c6, H⟩ := H
 obtain ⟨c6b0, c6b1⟩ := bT c6
 clear c6
 replace H := nO H
 obtain ⟨c7, H⟩ := H
 obtain ⟨c7b0, c7b1⟩ := bT c7
 clear c7
 replace H := nO H
 obtain ⟨c8, H⟩ := H
 obtain ⟨c8b0, c8b1⟩ := bT c8
 clear c8
 replace H := nO H
 obtain ⟨c9, H⟩ := H
 obtain ⟨c9b0, c9b1⟩ := bT c9
 clear c9
 replace H := nO H
 obtain ⟨c10, H⟩ := H
 obtain ⟨c10b0, c10b1⟩ := bT c10
 clear c10
 obtain rfl := Option.some.inj H
 go_enter Tryd.func8, Tryd.ntmps8
 go_wp2_with (first | ((with_reducible refine gate_callee (f := 23) rfl ?_); refine gL (some 10) Tryd.func23 #[.int .u64 4609434218613702656] ?_; (with_reducible refine (expand_Digits.calls k 4609434218613702656 t494 t495 t496 _ A1.out).mono ?_); rintro e w11 ⟨rfl, hb⟩; refine ⟨_, rfl, ?_⟩; replace HB := hS HB.out hb; (try clear hb)) | ((with_reducible refine gate_callee (f := 6) rfl ?_); refine gL (some 15) Tryd.func6 #[.int .u64 4591870180066957722, .int .i64 20] ?_; (with_reducible refine (expand_Fixed.calls k 4591870180066957722 20 t497 t498 _ A2.out).mono ?_); rintro e w12 ⟨rfl, hb⟩; refine ⟨_, rfl, ?_⟩; replace HB := hS HB.out hb; (try clear hb)) | ((with_reducible refine gate_callee (f := 9) rfl ?_); refine gL (some 19) Tryd.func9 #[.int .u64 4652002910794678272, .int .i64 3] ?_; (with_reducible refine (expand_Precise.calls k 4652002910794678272 3 t499 t500 t501 _ A3.out).mono ?_); rintro e w13 ⟨rfl, hb⟩; refine ⟨_, rfl, ?_⟩; replace HB := hS HB.out hb; (try clear hb)))
 go_ret
 exact ⟨dE, dB⟩
def plumbref06_fields.f (a0 : Int) : Option (Bool × Int × Int) := some (((a0 / 9223372036854775808) == 1), wrap64 (Go.bits .and .u64 (a0 / 4503599627370496) 2047), Go.bits .and .u64 a0 4503599627370495)
def plumbref06_Split.f (a0 : Int) : Option (Bool × Int × Int × Int) := (plumbref06_fields.f a0).bind fun bt310 => (if bt310.2.1 = 2047 then (some (false, 0, 0, 60)) else (if bt310.2.1 = 0 then (some (bt310.1, bt310.2.2, (-1074), 0)) else (some (bt310.1, IntKind.u64.wrap (4503599627370496 + bt310.2.2), wrap64 (bt310.2.1 - 1075), 0))))
def plumblaw13_finite.f (k : Nat) (a0 : Int) : Option (Bool) := (f64_Class.f k a0).bind fun t519 => (some (decide (t519 < 3)))
set_option maxHeartbeats 8000000 in
set_option maxRecDepth 100000 in
theorem plumblaw13_finite.calls (k : Nat) (a0 : Int) (r : Bool) (w : World) (h : plumblaw13_finite.f k a0 = some r) :
  Calls Tryd.prog 11 #[.int .u64 a0] w fun e w' => e = .returned (.bool r) ∧ Drawn0 w w' := by
 have H := h
 clear h
 unfold plumblaw13_finite.f at H
 replace H := oA H
 obtain ⟨t519, A2, H⟩ := H
 (try dsimp only at H)
 obtain rfl := Option.some.inj H
 go_enter Tryd.func11, Tryd.ntmps11
 go_wp2_with (first | ((with_reducible refine gate_callee (f := 24) rfl ?_); refine gL (some 4) Tryd.func24 #[.int .u64 a0] ?_; (with_reducible refine (f64_Class.calls k a0 t519 _ A2.out).mono ?_); rintro e w' ⟨rfl, ⟨nd, rfl⟩⟩; refine ⟨_, rfl, ?_⟩))
 go_ret
 exact ⟨dF, dD⟩
def plumblaw13_size.f (a0 : Int) : Option (Int) := some (Go.bits .andNot .u64 a0 9223372036854775808)
set_option maxHeartbeats 8000000 in
set_option maxRecDepth 100000 in
theorem plumblaw13_size.calls (a0 : Int) (r : Int) (w : World) (h : plumblaw13_size.f a0 = some r) :
  Calls Tryd.prog 12 #[.int .u64 a0] w fun e w' => e = .returned (.int .u64 r) ∧ Drawn0 w w' := by
 have H := h
 clear h
 unfold plumblaw13_size.f at H
 obtain rfl := Option.some.inj H
 go_enter Tryd.func12, Tryd.ntmps12
 go_wp2
 go_ret
 exact ⟨dF, dD⟩
mutual
def radix_value.j0 : Nat → Int → Bool → Option (Int)
 | 0, _, _ => none
 | k + 1, x0, x3 => if x3 = true then (some (IntKind.u64.wrap (wrap32 (x0 - 48)))) else (if x0 ≥ 97 then (radix_value.j1 k x0 (decide (x0 ≤ 122))) else (radix_value.j1 k x0 false))
def radix_value.j1 : Nat → Int → Bool → Option (Int)
 | 0, _, _ => none
 | k + 1, x0, x13 => if x13 = true then (some (IntKind.u64.wrap ((IntKind.u64.wrap (wrap32 (x0 - 97))) + 10))) else (if x0 ≥ 65 then (if x0 ≤ 90 then (some (IntKind.u64.wrap ((IntKind.u64.wrap (wrap32 (x0 - 65))) + 10))) else (some 36)) else (some 36))
end
def radix_value.f (k : Nat) (a0 : Int) : Option (Int) := if a0 ≥ 48 then (radix_value.j0 k a0 (decide (a0 ≤ 57))) else (radix_value.j0 k a0 false)
set_option maxHeartbeats 8000000 in
set_option maxRecDepth 100000 in
theorem radix_value.calls (k : Nat) (a0 : Int) (r : Int) (w : World) (h : radix_value.f k a0 = some r) :
  Calls Tryd.prog 27 #[.int .i32 a0] w fun e w' => e = .returned (.int .u64 r) ∧ Drawn0 w w' := by
 have H := h
 clear h
 unfold radix_value.f at H
 have HC2 := aM H
 clear H
 go_enter Tryd.func27, Tryd.ntmps27
 go_upto_region 1 with (fail)
 go_cut [3] (fun v3 wc => ∃ (kq : Nat) (x3_1 : Bool), v3 = .bool x3_1 ∧ Aside0 (radix_value.j0 kq a0 x3_1 = some r) ∧ Aside0 (kq ≤ k) ∧ Drawn0 w wc)
 case first =>
  have H := HC2.out
  clear HC2
  by_cases c3 : a0 ≥ 48
  ·rw [if_pos c3] at H
   have c3b0 : decide (48 ≤ a0) = true := decide_eq_true c3
   clear c3
   (first | rw [c3b0] | (simp only [i64_w, i32_w]; rw [c3b0]) | skip)
   have H' := aM H
   clear H
   go_wp2
   go_meet
   case rel => exact ⟨_, (decide (a0 ≤ 57)), dF, H', ⟨dN⟩, dD⟩
  ·rw [if_neg c3] at H
   have c3b0 : decide (48 ≤ a0) = false := decide_eq_false c3
   clear c3
   (first | rw [c3b0] | (simp only [i64_w, i32_w]; rw [c3b0]) | skip)
   have H' := aM H
   clear H
   go_wp2
   go_meet
   case rel => exact ⟨_, (false), dF, H', ⟨dN⟩, dD⟩
 case rest =>
  clear HC2
  obtain ⟨kq, x3_1, rfl, HA, HJ1, ⟨mc1, rfl⟩⟩ := hcut
  cases kq with
  | zero => exact absurd HA.out (by simp [radix_value.j0])
  | succ kj1 =>
   have H := HA.out
   clear HA
   simp only [radix_value.j0] at H
   by_cases c4 : x3_1 = true
   ·subst c4
    rw [if_pos rfl] at H
    (try dsimp only at H)
    obtain rfl := Option.some.inj H
    go_wp2
    go_ret
    exact ⟨dF, dD⟩
   ·replace c4 := Bool.eq_false_iff.mpr c4
    subst c4
    rw [if_neg (show ¬ (false = true) by decide)] at H
    (try dsimp only at H)
    have HC5 := aM H
    clear H
    go_upto_region 3 with (fail)
    go_cut [13] (fun v13 wc => ∃ (kq : Nat) (x13_4 : Bool), v13 = .bool x13_4 ∧ Aside0 (radix_value.j1 kq a0 x13_4 = some r) ∧ Aside0 (kq ≤ kj1) ∧ Drawn0 w wc)
    case first =>
     have H := HC5.out
     clear HC5
     by_cases c6 : a0 ≥ 97
     ·rw [if_pos c6] at H
      have c6b0 : decide (97 ≤ a0) = true := decide_eq_true c6
      clear c6
      (first | rw [c6b0] | (simp only [i64_w, i32_w]; rw [c6b0]) | skip)
      have H' := aM H
      clear H
      go_wp2
      go_meet
      case rel => exact ⟨_, (decide (a0 ≤ 122)), dF, H', ⟨by have := HJ1.out; first | omega | exact Nat.le_refl _⟩, dD⟩
     ·rw [if_neg c6] at H
      have c6b0 : decide (97 ≤ a0) = false := decide_eq_false c6
      clear c6
      (first | rw [c6b0] | (simp only [i64_w, i32_w]; rw [c6b0]) | skip)
      have H' := aM H
      clear H
      go_wp2
      go_meet
      case rel => exact ⟨_, (false), dF, H', ⟨by have := HJ1.out; first | omega | exact Nat.le_refl _⟩, dD⟩
    case rest =>
     clear HC5
     try clear c4
     obtain ⟨kq, x13_4, rfl, HA, HJ4, ⟨mc4, rfl⟩⟩ := hcut
     cases kq with
     | zero => exact absurd HA.out (by simp [radix_value.j1])
     | succ kj4 =>
      have H := HA.out
      clear HA
      simp only [radix_value.j1] at H
      by_cases c7 : x13_4 = true
      ·subst c7
       rw [if_pos rfl] at H
       (try dsimp only at H)
       obtain rfl := Option.some.inj H
       go_wp2
       go_ret
       exact ⟨dF, dD⟩
      ·replace c7 := Bool.eq_false_iff.mpr c7
       subst c7
       rw [if_neg (show ¬ (false = true) by decide)] at H
       (try dsimp only at H)
       by_cases c8 : a0 ≥ 65
       ·rw [if_pos c8] at H
        have c8b0 : decide (65 ≤ a0) = true := decide_eq_true c8
        clear c8
        by_cases c9 : a0 ≤ 90
        ·rw [if_pos c9] at H
         have c9b0 := decide_eq_true c9
         clear c9
         obtain rfl := Option.some.inj H
         go_wp2
         go_ret
         exact ⟨dF, dD⟩
        ·rw [if_neg c9] at H
         have c9b0 := decide_eq_false c9
         clear c9
         obtain rfl := Option.some.inj H
         go_wp2
         go_ret
         exact ⟨dF, dD⟩
       ·rw [if_neg c8] at H
        have c8b0 : decide (65 ≤ a0) = false := decide_eq_false c8
        clear c8
        obtain rfl := Option.some.inj H
        go_wp2
        go_ret
        exact ⟨dF, dD⟩
def nat_sum.f (l0 : List Int) (l1 : List Int) : Option (List Int) := if wsB l0 = true ∧ wsB l1 = true ∧ l0.length < 35184372088832 ∧ l1.length < 35184372088832 then some (wn (max l0.length l1.length + 1) (nv l0 + nv l1)) else none
mutual
def nat_sum.l0 : Nat → List Int → List Int → Int → List Int → Int → Int → Option (List Int)
 | 0, _, _, _, _, _, _ => none
 | k + 1, x1, x5, x6, x24, x25, x26 => if x26 < x25 then (if 0 ≤ x26 then (if x26 < (x24.length : Int) then (if x26 < (x5.length : Int) then ((wide_Add.f (rd x5 x26) (rd x24 x26) x6).bind fun bt111 => (nat_sum.l0 k x1 (x5.set (x26 : Int).toNat bt111.1) bt111.2 x24 x25 (wrap64 (x26 + 1)))) else (none)) else (none)) else (none)) else (nat_sum.l1 k x5 x6 (x1.length : Int))
def nat_sum.l1 : Nat → List Int → Int → Int → Option (List Int)
 | 0, _, _, _ => none
 | k + 1, x5, x6, x9 => if x6 > 0 then (if 0 ≤ x9 then (if x9 < (x5.length : Int) then ((wide_Add.f (rd x5 x9) 0 x6).bind fun bt115 => (nat_sum.l1 k (x5.set (x9 : Int).toNat bt115.1) bt115.2 (wrap64 (x9 + 1)))) else (none)) else (none)) else (some x5)
end
theorem sum_copied {l0 : List Int} : l0.take (min l0.length (List.replicate (l0.length + 1) (0 : Int)).length) ++ (List.replicate (l0.length + 1) (0 : Int)).drop (min l0.length (List.replicate (l0.length + 1) (0 : Int)).length) = l0 ++ [0] := by
 rw [List.length_replicate, Nat.min_eq_left (by omega), List.take_length, List.drop_replicate]
 simp
set_option maxHeartbeats 8000000 in
set_option maxRecDepth 100000 in
theorem nat_sum.coreA (k : Nat) (A0 : Option Addr) (c0 : Nat) (l0 : List Int) (A1 : Option Addr) (c1 : Nat) (l1 : List Int) (r : List Int) (w : World) (hr0 : Kd.C (Kd.int .u64) w A0 l0.length l0) (hr1 : Kd.C (Kd.int .u64) w A1 l1.length l1) (hlen : l0.length < 35184372088832) (g : decide (l0.length < l1.length) = false) (h : nat_sum.l0 k l1 (l0 ++ [0]) 0 l1 (l1.length : Int) 0 = some r) :
  Calls Tryd.prog 55 #[.slice A0 l0.length c0, .slice A1 l1.length c1] w fun e w' => ∃ v0_ : Value, e = .returned (v0_) ∧ Kd.R (Kd.int .u64) 22 w' w.heap.size (fun _ => True) v0_ r ∧ Below w.heap.size w w' := by
 have HR0 := Aside0.mk hr0
 have HR1 := Aside0.mk hr1
 clear hr0 hr1
 have H' := Aside0.mk h
 clear h
 go_enter Tryd.func55, Tryd.ntmps55
 go_wp2_with (first
  | ((with_reducible refine gate_dst (N := 20) rfl ?_); refine Kd.R_make (Kd.int .u64) _ 22 rfl (N := 20) rfl 37 _ _ rfl ((l0.length : Int) + 1) rfl rfl Tryd.underlying37 (.int .u64 0) 8 info22 rfl (by decide) (by omega) 0 (ok := fun _ => True) (okp := fun _ => True) rfl (fun _ hk => hk) trivial (by omega) (by omega) (Below.refl _ _) (Nat.le_refl _) ?_; intro v107 w6 ho7 hb hg_ hnew_; clear hg_ hnew_; have HO107 := Aside0.mk (show Kd.R (Kd.int .u64) 22 w6 w.heap.size (fun _ => True) v107 (List.replicate (l0.length + 1) 0) from ho7); have HB := Aside0.mk hb; clear hb ho7)
  | ((with_reducible refine gate_dst (N := 23) rfl ?_); refine Kd.R_copy (enc := Value.int .u64) (h1 := fun _ => rfl) (0 : Int) w.heap.size rfl (.tmp 21) (.tmp 22) 37 37 22 rfl Tryd.underlying37 (by kernel_rfl) v107 (List.replicate (l0.length + 1) 0) l0 A0 l0.length c0 (fun _ => True) rfl rfl HO107.out (Kd.C_below HR0.out HB.out) HB.out HB.out.size ?_; intro w7 ho8 hb _; rw [sum_copied] at ho8; have HO108 := Aside0.mk ho8; clear HO107 HB; have HB := Aside0.mk hb; clear hb ho8))
 go_loopg [6, 26] k (fun kq v6 v26 w' => ∃ (x5_1 : List Int) (x6_1 : Int) (x26_1 : Int), v6 = .int .u64 x6_1 ∧ v26 = .int .i64 x26_1 ∧ Aside0 (nat_sum.l0 kq l1 x5_1 x6_1 l1 (l1.length : Int) x26_1 = some r) ∧ Aside0 (kq ≤ k) ∧ Aside0 (Kd.R (Kd.int .u64) 22 w' w.heap.size (fun _ => True) v107 x5_1) ∧ Aside0 (Below w.heap.size w w'))
 case atStart => exact ⟨(l0 ++ [0]), (0), (0), dF, dF, H', ⟨Nat.le_refl _⟩, ⟨dR HO108.out⟩, ⟨dB⟩⟩
 case round =>
  clear H'
  try clear c1
  try clear p2
  try clear c4
  try clear c4b0
  try clear c4b1
  try clear c5
  try clear c5b0
  try clear c5b1
  try clear p6
  obtain ⟨x5_1, x6_1, x26_1, rfl, rfl, HA, HK1, HO_5, HB⟩ := hrel
  cases gk with
  | zero => exact absurd HA.out (by simp [nat_sum.l0])
  | succ k1 =>
   have H := HA.out
   clear HA
   simp only [nat_sum.l0] at H
   by_cases c8 : x26_1 < (l1.length : Int)
   ·rw [if_pos c8] at H
    have c8b0 : decide (x26_1 < (l1.length : Int)) = true := decide_eq_true c8
    clear c8
    by_cases c9 : (0 : Int) ≤ x26_1
    ·rw [if_pos c9] at H
     have c9b0 : decide (0 ≤ x26_1) = true := decide_eq_true c9
     clear c9
     by_cases c10 : x26_1 < (l1.length : Int)
     ·rw [if_pos c10] at H
      have c10b0 : decide (x26_1 < (l1.length : Int)) = true := decide_eq_true c10
      clear c10
      by_cases c11 : x26_1 < (x5_1.length : Int)
      ·rw [if_pos c11] at H
       have c11b0 : decide (x26_1 < (x5_1.length : Int)) = true := decide_eq_true c11
       clear c11
       replace H := obe H
       obtain ⟨⟨t111, t112⟩, A120, H⟩ := H
       replace H : (nat_sum.l0 k1 l1 (x5_1.set (x26_1 : Int).toNat t111) t112 l1 (l1.length : Int) (wrap64 (x26_1 + 1))) = some r := H
       have A12 := Aside0.mk A120
       clear A120
       obtain ⟨y113, hy113⟩ : ∃ y_ : List Int, y_ = (x5_1.set (x26_1 : Int).toNat t111) := ⟨_, rfl⟩
       replace H : (nat_sum.l0 k1 l1 y113 t112 l1 (l1.length : Int) (wrap64 (x26_1 + 1))) = some r := by first | (rw [hy113]; with_reducible exact H) | (have H2_ := (Option.bind_some _ _).symm.trans H; rw [hy113]; with_reducible exact H2_) | (have H2_ := (Option.bind_some _ _).symm.trans H; with_reducible exact H2_) | with_reducible exact H | (rw [hy113]; exact H) | exact H
       have Ny113 := Aside0.mk hy113
       clear hy113
       have H' := Aside0.mk H
       clear H
       have p109 : 0 ≤ (x26_1 : Int) := of_decide_eq_true dS
       have q109 : x26_1 < (l1.length : Int) := of_decide_eq_true dS
       obtain ⟨ad109, e109, hx109_0⟩ := Kd.at_int HR1.out x26_1 p109 q109
       cases e109
       replace hx109_0 := (HB.out.cell (World.block_lt_of_cell? w _ hx109_0)).trans hx109_0
       replace p109 := eq_true p109
       replace q109 := eq_true q109
       obtain ⟨Ao14, co14, eo14⟩ := Kd.R_slice HO_5.out
       subst eo14
       have p110 : 0 ≤ (x26_1 : Int) := of_decide_eq_true dS
       have q110 : x26_1 < (x5_1.length : Int) := of_decide_eq_true dS
       obtain ⟨ad110, e110, hx110_0⟩ := Kd.at_int (Kd.R_reads' HO_5.out).2.2 x26_1 p110 q110
       cases e110
       replace p110 := eq_true p110
       replace q110 := eq_true q110
       go_wp2_with (first | ((with_reducible refine gate_callee (f := 52) rfl ?_); refine gL (some 40) Tryd.func52 #[.int .u64 (rd x5_1 x26_1), .int .u64 (rd l1 x26_1), .int .u64 x6_1] ?_; (with_reducible refine (wide_Add.calls (rd x5_1 x26_1) (rd l1 x26_1) x6_1 t111 t112 _ A12.out).mono ?_); rintro e w' ⟨rfl, ⟨nd, rfl⟩⟩; refine ⟨_, rfl, ?_⟩; (try (rw [drewN_self wr]; generalize hq_ : World.drewN wr _ = wr; have n0_ : Aside0 (Kd.R (Kd.int .u64) 22 wr w.heap.size (fun _ => True) (.slice (some ad110) x5_1.length co14) x5_1) := ⟨by rw [← hq_]; exact (dR HO_5.out)⟩; have n1_ : Aside0 (Below w.heap.size w wr) := ⟨by rw [← hq_]; exact dB⟩; clear HO_5 HB hq_; have HO_5 := n0_; have HB := n1_; clear n0_ n1_)); have p13 : 0 ≤ (x26_1 : Int) := of_decide_eq_true dS; have q13 : (x26_1 : Int) < ((x5_1.length : Int) : Int) := of_decide_eq_true dS; obtain ⟨go13, co13, eo13, gb13, gl13, cl13, HG13⟩ := Kd.R_form HO_5.out (by omega); (first | cases eo13 | (injection eo13 with ea_ en_ ec_; (first | subst ea_ | (injection ea_ with ea_; subst ea_)); subst ec_; clear en_)); have GB13 := Aside0.mk gb13; have GG13 := Aside0.mk HG13; clear gb13 gl13 HG13; (first | simp only [add_plain] at hx110_0 | skip); obtain ⟨hx13_0, hf13_0⟩ := Kd.R_celln 0 HO_5.out (x26_1 : Int) p13 q13; replace p13 := eq_true p13; replace q13 := eq_true q13; obtain ⟨hy15_, hz15_⟩ := Kd.R_celln 0 HO_5.out (x26_1 : Int) (of_decide_eq_true dS) (of_decide_eq_true dS); have HP15 := Kd.R_putg HO_5.out (x26_1 : Int) t111) | ((with_reducible refine gate_store (t := 22) (p := 43) rfl ?_); refine store_event (t := 22) (p := 43) (v := ?vo_w16) (w1 := (wr.setCell ⟨go13, (x26_1 : Int).toNat, none⟩ (.int .u64 t111))) ?hg ?ho ?hn ?hr ?_; (case ho => rfl); (case hg => rfl); (case hn => rfl); (case hr => first | (go_simp; done) | (go_simp; rfl)); intro w16 hw; have hg : wr.grownBy w16 (some go13) := (by rw [hw]; exact HP15.2); have hp_ : Kd.R (Kd.int .u64) 22 w16 w.heap.size (fun _ => True) (.slice (some ⟨go13, 0, none⟩) x5_1.length co14) y113 := (by rw [hw, Ny113.out]; exact HP15.1); clear HP15; replace HO_5 := Aside0.mk (hp_); replace HB := Aside0.mk ((by rw [hw]; exact below_set (HB.out) GB13.out : Below w.heap.size w w16)); clear hg hw hp_))
       go_roundg k1
       case measure => have := HK1.out; omega
       case rel => exact ⟨(y113), (t112), (wrap64 (x26_1 + 1)), dF, dF, H', ⟨by have := HK1.out; omega⟩, ⟨dR HO_5.out⟩, ⟨dB⟩⟩
      ·rw [if_neg c11] at H
       exact absurd H (by simp)
     ·rw [if_neg c10] at H
      exact absurd H (by simp)
    ·rw [if_neg c9] at H
     exact absurd H (by simp)
   ·rw [if_neg c8] at H
    have c8b0 : decide (x26_1 < (l1.length : Int)) = false := decide_eq_false c8
    clear c8
    have H' := Aside0.mk H
    clear H
    go_wp2
    go_loopg [6, 9] k1 (fun kq v6 v9 w' => ∃ (x5_2 : List Int) (x6_2 : Int) (x9_2 : Int), v6 = .int .u64 x6_2 ∧ v9 = .int .i64 x9_2 ∧ Aside0 (nat_sum.l1 kq x5_2 x6_2 x9_2 = some r) ∧ Aside0 (kq ≤ k1) ∧ Aside0 (Kd.R (Kd.int .u64) 22 w' w.heap.size (fun _ => True) v107 x5_2) ∧ Aside0 (Below w.heap.size w w'))
    case atStart => exact ⟨(x5_1), (x6_1), ((l1.length : Int)), dF, dF, H', ⟨Nat.le_refl _⟩, ⟨dR HO_5.out⟩, ⟨dB⟩⟩
    case round =>
     clear H'
     try clear c1
     try clear p1
     try clear q1
     try clear hx1
     try clear p2
     try clear c4
     try clear c4b0
     try clear c4b1
     try clear c5
     try clear c5b0
     try clear c5b1
     try clear p6
     try clear c8
     try clear c8b0
     try clear c9
     try clear c9b0
     try clear c10
     try clear c10b0
     try clear p10
     try clear q10
     try clear hx10
     try clear c11
     try clear c11b0
     try clear p11
     try clear q11
     try clear hx11
     try clear p13
     try clear q13
     try clear hx13
     try clear hf13
     try clear hx109_0
     try clear hx110_0
     try clear hx13_0
     try clear p109
     try clear p110
     try clear p13
     try clear p2
     try clear p6
     try clear q109
     try clear q110
     try clear q13
     obtain ⟨x5_2, x6_2, x9_2, rfl, rfl, HA, HK2, HO_5, HB⟩ := hrel
     cases gk with
     | zero => exact absurd HA.out (by simp [nat_sum.l1])
     | succ k2 =>
      have H := HA.out
      clear HA
      simp only [nat_sum.l1] at H
      by_cases c17 : x6_2 > 0
      ·rw [if_pos c17] at H
       have c17b0 : decide (0 < x6_2) = true := decide_eq_true c17
       clear c17
       by_cases c18 : (0 : Int) ≤ x9_2
       ·rw [if_pos c18] at H
        have c18b0 : decide (0 ≤ x9_2) = true := decide_eq_true c18
        clear c18
        by_cases c19 : x9_2 < (x5_2.length : Int)
        ·rw [if_pos c19] at H
         have c19b0 : decide (x9_2 < (x5_2.length : Int)) = true := decide_eq_true c19
         clear c19
         replace H := obe H
         obtain ⟨⟨t115, t116⟩, A200, H⟩ := H
         replace H : (nat_sum.l1 k2 (x5_2.set (x9_2 : Int).toNat t115) t116 (wrap64 (x9_2 + 1))) = some r := H
         have A20 := Aside0.mk A200
         clear A200
         obtain ⟨y117, hy117⟩ : ∃ y_ : List Int, y_ = (x5_2.set (x9_2 : Int).toNat t115) := ⟨_, rfl⟩
         replace H : (nat_sum.l1 k2 y117 t116 (wrap64 (x9_2 + 1))) = some r := by first | (rw [hy117]; with_reducible exact H) | (have H2_ := (Option.bind_some _ _).symm.trans H; rw [hy117]; with_reducible exact H2_) | (have H2_ := (Option.bind_some _ _).symm.trans H; with_reducible exact H2_) | with_reducible exact H | (rw [hy117]; exact H) | exact H
         have Ny117 := Aside0.mk hy117
         clear hy117
         have H' := Aside0.mk H
         clear H
         obtain ⟨Ao22, co22, eo22⟩ := Kd.R_slice HO_5.out
         subst eo22
         have p114 : 0 ≤ (x9_2 : Int) := of_decide_eq_true dS
         have q114 : x9_2 < (x5_2.length : Int) := of_decide_eq_true dS
         obtain ⟨ad114, e114, hx114_0⟩ := Kd.at_int (Kd.R_reads' HO_5.out).2.2 x9_2 p114 q114
         cases e114
         replace p114 := eq_true p114
         replace q114 := eq_true q114
         go_wp2_with (first | ((with_reducible refine gate_callee (f := 52) rfl ?_); refine gL (some 59) Tryd.func52 #[.int .u64 (rd x5_2 x9_2), .int .u64 0, .int .u64 x6_2] ?_; (with_reducible refine (wide_Add.calls (rd x5_2 x9_2) 0 x6_2 t115 t116 _ A20.out).mono ?_); rintro e w' ⟨rfl, ⟨nd, rfl⟩⟩; refine ⟨_, rfl, ?_⟩; (try (rw [drewN_self wr]; generalize hq_ : World.drewN wr _ = wr; have n0_ : Aside0 (Kd.R (Kd.int .u64) 22 wr w.heap.size (fun _ => True) (.slice (some ad114) x5_2.length co22) x5_2) := ⟨by rw [← hq_]; exact (dR HO_5.out)⟩; have n1_ : Aside0 (Below w.heap.size w wr) := ⟨by rw [← hq_]; exact dB⟩; clear HO_5 HB hq_; have HO_5 := n0_; have HB := n1_; clear n0_ n1_)); have p21 : 0 ≤ (x9_2 : Int) := of_decide_eq_true dS; have q21 : (x9_2 : Int) < ((x5_2.length : Int) : Int) := of_decide_eq_true dS; obtain ⟨go21, co21, eo21, gb21, gl21, cl21, HG21⟩ := Kd.R_form HO_5.out (by omega); (first | cases eo21 | (injection eo21 with ea_ en_ ec_; (first | subst ea_ | (injection ea_ with ea_; subst ea_)); subst ec_; clear en_)); have GB21 := Aside0.mk gb21; have GG21 := Aside0.mk HG21; clear gb21 gl21 HG21; (first | simp only [add_plain] at hx114_0 | skip); obtain ⟨hx21_0, hf21_0⟩ := Kd.R_celln 0 HO_5.out (x9_2 : Int) p21 q21; replace p21 := eq_true p21; replace q21 := eq_true q21; obtain ⟨hy23_, hz23_⟩ := Kd.R_celln 0 HO_5.out (x9_2 : Int) (of_decide_eq_true dS) (of_decide_eq_true dS); have HP23 := Kd.R_putg HO_5.out (x9_2 : Int) t115) | ((with_reducible refine gate_store (t := 22) (p := 62) rfl ?_); refine store_event (t := 22) (p := 62) (v := ?vo_w24) (w1 := (wr.setCell ⟨go21, (x9_2 : Int).toNat, none⟩ (.int .u64 t115))) ?hg ?ho ?hn ?hr ?_; (case ho => rfl); (case hg => rfl); (case hn => rfl); (case hr => first | (go_simp; done) | (go_simp; rfl)); intro w24 hw; have hg : wr.grownBy w24 (some go21) := (by rw [hw]; exact HP23.2); have hp_ : Kd.R (Kd.int .u64) 22 w24 w.heap.size (fun _ => True) (.slice (some ⟨go21, 0, none⟩) x5_2.length co22) y117 := (by rw [hw, Ny117.out]; exact HP23.1); clear HP23; replace HO_5 := Aside0.mk (hp_); replace HB := Aside0.mk ((by rw [hw]; exact below_set (HB.out) GB21.out : Below w.heap.size w w24)); clear hg hw hp_))
         go_roundg k2
         case measure => have := HK1.out; have := HK2.out; omega
         case rel => exact ⟨(y117), (t116), (wrap64 (x9_2 + 1)), dF, dF, H', ⟨by have := HK1.out; have := HK2.out; omega⟩, ⟨dR HO_5.out⟩, ⟨dB⟩⟩
        ·rw [if_neg c19] at H
         exact absurd H (by simp)
       ·rw [if_neg c18] at H
        exact absurd H (by simp)
      ·rw [if_neg c17] at H
       have c17b0 : decide (0 < x6_2) = false := decide_eq_false c17
       clear c17
       obtain rfl := Option.some.inj H
       go_wp2
       go_ret
       exact ⟨_, by first | rfl | (simp [errW_none, errW_some] <;> rfl) | (simp only [← hji3]; first | rfl | (simp [errW_none, errW_some] <;> rfl)) | (simp [*, errW_none, errW_some] <;> rfl), dR HO_5.out, dB⟩
set_option maxHeartbeats 8000000 in
set_option maxRecDepth 100000 in
theorem nat_sum.coreB (k : Nat) (A0 : Option Addr) (c0 : Nat) (l0 : List Int) (A1 : Option Addr) (c1 : Nat) (l1 : List Int) (r : List Int) (w : World) (hr0 : Kd.C (Kd.int .u64) w A0 l0.length l0) (hr1 : Kd.C (Kd.int .u64) w A1 l1.length l1) (hlen : l0.length < 35184372088832) (g : decide (l1.length < l0.length) = true) (h : nat_sum.l0 k l1 (l0 ++ [0]) 0 l1 (l1.length : Int) 0 = some r) :
  Calls Tryd.prog 55 #[.slice A1 l1.length c1, .slice A0 l0.length c0] w fun e w' => ∃ v0_ : Value, e = .returned (v0_) ∧ Kd.R (Kd.int .u64) 22 w' w.heap.size (fun _ => True) v0_ r ∧ Below w.heap.size w w' := by
 have HR0 := Aside0.mk hr0
 have HR1 := Aside0.mk hr1
 clear hr0 hr1
 have H' := Aside0.mk h
 clear h
 go_enter Tryd.func55, Tryd.ntmps55
 go_wp2_with (first
  | ((with_reducible refine gate_dst (N := 20) rfl ?_); refine Kd.R_make (Kd.int .u64) _ 22 rfl (N := 20) rfl 37 _ _ rfl ((l0.length : Int) + 1) rfl rfl Tryd.underlying37 (.int .u64 0) 8 info22 rfl (by decide) (by omega) 0 (ok := fun _ => True) (okp := fun _ => True) rfl (fun _ hk => hk) trivial (by omega) (by omega) (Below.refl _ _) (Nat.le_refl _) ?_; intro v107 w6 ho7 hb hg_ hnew_; clear hg_ hnew_; have HO107 := Aside0.mk (show Kd.R (Kd.int .u64) 22 w6 w.heap.size (fun _ => True) v107 (List.replicate (l0.length + 1) 0) from ho7); have HB := Aside0.mk hb; clear hb ho7)
  | ((with_reducible refine gate_dst (N := 23) rfl ?_); refine Kd.R_copy (enc := Value.int .u64) (h1 := fun _ => rfl) (0 : Int) w.heap.size rfl (.tmp 21) (.tmp 22) 37 37 22 rfl Tryd.underlying37 (by kernel_rfl) v107 (List.replicate (l0.length + 1) 0) l0 A0 l0.length c0 (fun _ => True) rfl rfl HO107.out (Kd.C_below HR0.out HB.out) HB.out HB.out.size ?_; intro w7 ho8 hb _; rw [sum_copied] at ho8; have HO108 := Aside0.mk ho8; clear HO107 HB; have HB := Aside0.mk hb; clear hb ho8))
 go_loopg [6, 26] k (fun kq v6 v26 w' => ∃ (x5_1 : List Int) (x6_1 : Int) (x26_1 : Int), v6 = .int .u64 x6_1 ∧ v26 = .int .i64 x26_1 ∧ Aside0 (nat_sum.l0 kq l1 x5_1 x6_1 l1 (l1.length : Int) x26_1 = some r) ∧ Aside0 (kq ≤ k) ∧ Aside0 (Kd.R (Kd.int .u64) 22 w' w.heap.size (fun _ => True) v107 x5_1) ∧ Aside0 (Below w.heap.size w w'))
 case atStart => exact ⟨(l0 ++ [0]), (0), (0), dF, dF, H', ⟨Nat.le_refl _⟩, ⟨dR HO108.out⟩, ⟨dB⟩⟩
 case round =>
  clear H'
  try clear c1
  try clear p2
  try clear c4
  try clear c4b0
  try clear c4b1
  try clear c5
  try clear c5b0
  try clear c5b1
  try clear p6
  obtain ⟨x5_1, x6_1, x26_1, rfl, rfl, HA, HK1, HO_5, HB⟩ := hrel
  cases gk with
  | zero => exact absurd HA.out (by simp [nat_sum.l0])
  | succ k1 =>
   have H := HA.out
   clear HA
   simp only [nat_sum.l0] at H
   by_cases c8 : x26_1 < (l1.length : Int)
   ·rw [if_pos c8] at H
    have c8b0 : decide (x26_1 < (l1.length : Int)) = true := decide_eq_true c8
    clear c8
    by_cases c9 : (0 : Int) ≤ x26_1
    ·rw [if_pos c9] at H
     have c9b0 : decide (0 ≤ x26_1) = true := decide_eq_true c9
     clear c9
     by_cases c10 : x26_1 < (l1.length : Int)
     ·rw [if_pos c10] at H
      have c10b0 : decide (x26_1 < (l1.length : Int)) = true := decide_eq_true c10
      clear c10
      by_cases c11 : x26_1 < (x5_1.length : Int)
      ·rw [if_pos c11] at H
       have c11b0 : decide (x26_1 < (x5_1.length : Int)) = true := decide_eq_true c11
       clear c11
       replace H := obe H
       obtain ⟨⟨t111, t112⟩, A120, H⟩ := H
       replace H : (nat_sum.l0 k1 l1 (x5_1.set (x26_1 : Int).toNat t111) t112 l1 (l1.length : Int) (wrap64 (x26_1 + 1))) = some r := H
       have A12 := Aside0.mk A120
       clear A120
       obtain ⟨y113, hy113⟩ : ∃ y_ : List Int, y_ = (x5_1.set (x26_1 : Int).toNat t111) := ⟨_, rfl⟩
       replace H : (nat_sum.l0 k1 l1 y113 t112 l1 (l1.length : Int) (wrap64 (x26_1 + 1))) = some r := by first | (rw [hy113]; with_reducible exact H) | (have H2_ := (Option.bind_some _ _).symm.trans H; rw [hy113]; with_reducible exact H2_) | (have H2_ := (Option.bind_some _ _).symm.trans H; with_reducible exact H2_) | with_reducible exact H | (rw [hy113]; exact H) | exact H
       have Ny113 := Aside0.mk hy113
       clear hy113
       have H' := Aside0.mk H
       clear H
       have p109 : 0 ≤ (x26_1 : Int) := of_decide_eq_true dS
       have q109 : x26_1 < (l1.length : Int) := of_decide_eq_true dS
       obtain ⟨ad109, e109, hx109_0⟩ := Kd.at_int HR1.out x26_1 p109 q109
       cases e109
       replace hx109_0 := (HB.out.cell (World.block_lt_of_cell? w _ hx109_0)).trans hx109_0
       replace p109 := eq_true p109
       replace q109 := eq_true q109
       obtain ⟨Ao14, co14, eo14⟩ := Kd.R_slice HO_5.out
       subst eo14
       have p110 : 0 ≤ (x26_1 : Int) := of_decide_eq_true dS
       have q110 : x26_1 < (x5_1.length : Int) := of_decide_eq_true dS
       obtain ⟨ad110, e110, hx110_0⟩ := Kd.at_int (Kd.R_reads' HO_5.out).2.2 x26_1 p110 q110
       cases e110
       replace p110 := eq_true p110
       replace q110 := eq_true q110
       go_wp2_with (first | ((with_reducible refine gate_callee (f := 52) rfl ?_); refine gL (some 40) Tryd.func52 #[.int .u64 (rd x5_1 x26_1), .int .u64 (rd l1 x26_1), .int .u64 x6_1] ?_; (with_reducible refine (wide_Add.calls (rd x5_1 x26_1) (rd l1 x26_1) x6_1 t111 t112 _ A12.out).mono ?_); rintro e w' ⟨rfl, ⟨nd, rfl⟩⟩; refine ⟨_, rfl, ?_⟩; (try (rw [drewN_self wr]; generalize hq_ : World.drewN wr _ = wr; have n0_ : Aside0 (Kd.R (Kd.int .u64) 22 wr w.heap.size (fun _ => True) (.slice (some ad110) x5_1.length co14) x5_1) := ⟨by rw [← hq_]; exact (dR HO_5.out)⟩; have n1_ : Aside0 (Below w.heap.size w wr) := ⟨by rw [← hq_]; exact dB⟩; clear HO_5 HB hq_; have HO_5 := n0_; have HB := n1_; clear n0_ n1_)); have p13 : 0 ≤ (x26_1 : Int) := of_decide_eq_true dS; have q13 : (x26_1 : Int) < ((x5_1.length : Int) : Int) := of_decide_eq_true dS; obtain ⟨go13, co13, eo13, gb13, gl13, cl13, HG13⟩ := Kd.R_form HO_5.out (by omega); (first | cases eo13 | (injection eo13 with ea_ en_ ec_; (first | subst ea_ | (injection ea_ with ea_; subst ea_)); subst ec_; clear en_)); have GB13 := Aside0.mk gb13; have GG13 := Aside0.mk HG13; clear gb13 gl13 HG13; (first | simp only [add_plain] at hx110_0 | skip); obtain ⟨hx13_0, hf13_0⟩ := Kd.R_celln 0 HO_5.out (x26_1 : Int) p13 q13; replace p13 := eq_true p13; replace q13 := eq_true q13; obtain ⟨hy15_, hz15_⟩ := Kd.R_celln 0 HO_5.out (x26_1 : Int) (of_decide_eq_true dS) (of_decide_eq_true dS); have HP15 := Kd.R_putg HO_5.out (x26_1 : Int) t111) | ((with_reducible refine gate_store (t := 22) (p := 43) rfl ?_); refine store_event (t := 22) (p := 43) (v := ?vo_w16) (w1 := (wr.setCell ⟨go13, (x26_1 : Int).toNat, none⟩ (.int .u64 t111))) ?hg ?ho ?hn ?hr ?_; (case ho => rfl); (case hg => rfl); (case hn => rfl); (case hr => first | (go_simp; done) | (go_simp; rfl)); intro w16 hw; have hg : wr.grownBy w16 (some go13) := (by rw [hw]; exact HP15.2); have hp_ : Kd.R (Kd.int .u64) 22 w16 w.heap.size (fun _ => True) (.slice (some ⟨go13, 0, none⟩) x5_1.length co14) y113 := (by rw [hw, Ny113.out]; exact HP15.1); clear HP15; replace HO_5 := Aside0.mk (hp_); replace HB := Aside0.mk ((by rw [hw]; exact below_set (HB.out) GB13.out : Below w.heap.size w w16)); clear hg hw hp_))
       go_roundg k1
       case measure => have := HK1.out; omega
       case rel => exact ⟨(y113), (t112), (wrap64 (x26_1 + 1)), dF, dF, H', ⟨by have := HK1.out; omega⟩, ⟨dR HO_5.out⟩, ⟨dB⟩⟩
      ·rw [if_neg c11] at H
       exact absurd H (by simp)
     ·rw [if_neg c10] at H
      exact absurd H (by simp)
    ·rw [if_neg c9] at H
     exact absurd H (by simp)
   ·rw [if_neg c8] at H
    have c8b0 : decide (x26_1 < (l1.length : Int)) = false := decide_eq_false c8
    clear c8
    have H' := Aside0.mk H
    clear H
    go_wp2
    go_loopg [6, 9] k1 (fun kq v6 v9 w' => ∃ (x5_2 : List Int) (x6_2 : Int) (x9_2 : Int), v6 = .int .u64 x6_2 ∧ v9 = .int .i64 x9_2 ∧ Aside0 (nat_sum.l1 kq x5_2 x6_2 x9_2 = some r) ∧ Aside0 (kq ≤ k1) ∧ Aside0 (Kd.R (Kd.int .u64) 22 w' w.heap.size (fun _ => True) v107 x5_2) ∧ Aside0 (Below w.heap.size w w'))
    case atStart => exact ⟨(x5_1), (x6_1), ((l1.length : Int)), dF, dF, H', ⟨Nat.le_refl _⟩, ⟨dR HO_5.out⟩, ⟨dB⟩⟩
    case round =>
     clear H'
     try clear c1
     try clear p1
     try clear q1
     try clear hx1
     try clear p2
     try clear c4
     try clear c4b0
     try clear c4b1
     try clear c5
     try clear c5b0
     try clear c5b1
     try clear p6
     try clear c8
     try clear c8b0
     try clear c9
     try clear c9b0
     try clear c10
     try clear c10b0
     try clear p10
     try clear q10
     try clear hx10
     try clear c11
     try clear c11b0
     try clear p11
     try clear q11
     try clear hx11
     try clear p13
     try clear q13
     try clear hx13
     try clear hf13
     try clear hx109_0
     try clear hx110_0
     try clear hx13_0
     try clear p109
     try clear p110
     try clear p13
     try clear p2
     try clear p6
     try clear q109
     try clear q110
     try clear q13
     obtain ⟨x5_2, x6_2, x9_2, rfl, rfl, HA, HK2, HO_5, HB⟩ := hrel
     cases gk with
     | zero => exact absurd HA.out (by simp [nat_sum.l1])
     | succ k2 =>
      have H := HA.out
      clear HA
      simp only [nat_sum.l1] at H
      by_cases c17 : x6_2 > 0
      ·rw [if_pos c17] at H
       have c17b0 : decide (0 < x6_2) = true := decide_eq_true c17
       clear c17
       by_cases c18 : (0 : Int) ≤ x9_2
       ·rw [if_pos c18] at H
        have c18b0 : decide (0 ≤ x9_2) = true := decide_eq_true c18
        clear c18
        by_cases c19 : x9_2 < (x5_2.length : Int)
        ·rw [if_pos c19] at H
         have c19b0 : decide (x9_2 < (x5_2.length : Int)) = true := decide_eq_true c19
         clear c19
         replace H := obe H
         obtain ⟨⟨t115, t116⟩, A200, H⟩ := H
         replace H : (nat_sum.l1 k2 (x5_2.set (x9_2 : Int).toNat t115) t116 (wrap64 (x9_2 + 1))) = some r := H
         have A20 := Aside0.mk A200
         clear A200
         obtain ⟨y117, hy117⟩ : ∃ y_ : List Int, y_ = (x5_2.set (x9_2 : Int).toNat t115) := ⟨_, rfl⟩
         replace H : (nat_sum.l1 k2 y117 t116 (wrap64 (x9_2 + 1))) = some r := by first | (rw [hy117]; with_reducible exact H) | (have H2_ := (Option.bind_some _ _).symm.trans H; rw [hy117]; with_reducible exact H2_) | (have H2_ := (Option.bind_some _ _).symm.trans H; with_reducible exact H2_) | with_reducible exact H | (rw [hy117]; exact H) | exact H
         have Ny117 := Aside0.mk hy117
         clear hy117
         have H' := Aside0.mk H
         clear H
         obtain ⟨Ao22, co22, eo22⟩ := Kd.R_slice HO_5.out
         subst eo22
         have p114 : 0 ≤ (x9_2 : Int) := of_decide_eq_true dS
         have q114 : x9_2 < (x5_2.length : Int) := of_decide_eq_true dS
         obtain ⟨ad114, e114, hx114_0⟩ := Kd.at_int (Kd.R_reads' HO_5.out).2.2 x9_2 p114 q114
         cases e114
         replace p114 := eq_true p114
         replace q114 := eq_true q114
         go_wp2_with (first | ((with_reducible refine gate_callee (f := 52) rfl ?_); refine gL (some 59) Tryd.func52 #[.int .u64 (rd x5_2 x9_2), .int .u64 0, .int .u64 x6_2] ?_; (with_reducible refine (wide_Add.calls (rd x5_2 x9_2) 0 x6_2 t115 t116 _ A20.out).mono ?_); rintro e w' ⟨rfl, ⟨nd, rfl⟩⟩; refine ⟨_, rfl, ?_⟩; (try (rw [drewN_self wr]; generalize hq_ : World.drewN wr _ = wr; have n0_ : Aside0 (Kd.R (Kd.int .u64) 22 wr w.heap.size (fun _ => True) (.slice (some ad114) x5_2.length co22) x5_2) := ⟨by rw [← hq_]; exact (dR HO_5.out)⟩; have n1_ : Aside0 (Below w.heap.size w wr) := ⟨by rw [← hq_]; exact dB⟩; clear HO_5 HB hq_; have HO_5 := n0_; have HB := n1_; clear n0_ n1_)); have p21 : 0 ≤ (x9_2 : Int) := of_decide_eq_true dS; have q21 : (x9_2 : Int) < ((x5_2.length : Int) : Int) := of_decide_eq_true dS; obtain ⟨go21, co21, eo21, gb21, gl21, cl21, HG21⟩ := Kd.R_form HO_5.out (by omega); (first | cases eo21 | (injection eo21 with ea_ en_ ec_; (first | subst ea_ | (injection ea_ with ea_; subst ea_)); subst ec_; clear en_)); have GB21 := Aside0.mk gb21; have GG21 := Aside0.mk HG21; clear gb21 gl21 HG21; (first | simp only [add_plain] at hx114_0 | skip); obtain ⟨hx21_0, hf21_0⟩ := Kd.R_celln 0 HO_5.out (x9_2 : Int) p21 q21; replace p21 := eq_true p21; replace q21 := eq_true q21; obtain ⟨hy23_, hz23_⟩ := Kd.R_celln 0 HO_5.out (x9_2 : Int) (of_decide_eq_true dS) (of_decide_eq_true dS); have HP23 := Kd.R_putg HO_5.out (x9_2 : Int) t115) | ((with_reducible refine gate_store (t := 22) (p := 62) rfl ?_); refine store_event (t := 22) (p := 62) (v := ?vo_w24) (w1 := (wr.setCell ⟨go21, (x9_2 : Int).toNat, none⟩ (.int .u64 t115))) ?hg ?ho ?hn ?hr ?_; (case ho => rfl); (case hg => rfl); (case hn => rfl); (case hr => first | (go_simp; done) | (go_simp; rfl)); intro w24 hw; have hg : wr.grownBy w24 (some go21) := (by rw [hw]; exact HP23.2); have hp_ : Kd.R (Kd.int .u64) 22 w24 w.heap.size (fun _ => True) (.slice (some ⟨go21, 0, none⟩) x5_2.length co22) y117 := (by rw [hw, Ny117.out]; exact HP23.1); clear HP23; replace HO_5 := Aside0.mk (hp_); replace HB := Aside0.mk ((by rw [hw]; exact below_set (HB.out) GB21.out : Below w.heap.size w w24)); clear hg hw hp_))
         go_roundg k2
         case measure => have := HK1.out; have := HK2.out; omega
         case rel => exact ⟨(y117), (t116), (wrap64 (x9_2 + 1)), dF, dF, H', ⟨by have := HK1.out; have := HK2.out; omega⟩, ⟨dR HO_5.out⟩, ⟨dB⟩⟩
        ·rw [if_neg c19] at H
         exact absurd H (by simp)
       ·rw [if_neg c18] at H
        exact absurd H (by simp)
      ·rw [if_neg c17] at H
       have c17b0 : decide (0 < x6_2) = false := decide_eq_false c17
       clear c17
       obtain rfl := Option.some.inj H
       go_wp2
       go_ret
       exact ⟨_, by first | rfl | (simp [errW_none, errW_some] <;> rfl) | (simp only [← hji3]; first | rfl | (simp [errW_none, errW_some] <;> rfl)) | (simp [*, errW_none, errW_some] <;> rfl), dR HO_5.out, dB⟩
theorem rd_eq (xs : List Int) (n : Nat) : rd xs (n : Int) = xs.getD n 0 := rfl
theorem nat_sum.l1_eq (N : Int) (m : Nat) (hN : N < 2 ^ (64 * m)) : ∀ (d k : Nat) (os : List Int) (c : Int) (i : Nat), d = m - i → d < k → m < 35184372088833 → i ≤ m → os.length = m → Ws os → 0 ≤ c → c ≤ 1 → nv os + c * 2 ^ (64 * i) = N →
  nat_sum.l1 k os c i = some (wn m N) := by
 intro d
 induction d with
 | zero =>
  intro k os c i hd hk hm hi hl hw hc0 hc1 hv
  obtain ⟨k, rfl⟩ : ∃ j, k = j + 1 := ⟨k - 1, by omega⟩
  obtain rfl : i = m := by omega
  have hn := nv_nonneg hw
  have hc : c = 0 := by
   apply Classical.byContradiction
   intro h
   have : c = 1 := by omega
   subst this
   omega
  subst hc
  simp only [nat_sum.l1]
  rw [if_neg (by omega)]
  congr 1
  rw [Int.zero_mul, Int.add_zero] at hv
  rw [← hv]
  exact eq_wn hw hl
 | succ d ih =>
  intro k os c i hd hk hm hi hl hw hc0 hc1 hv
  obtain ⟨k, rfl⟩ : ∃ j, k = j + 1 := ⟨k - 1, by omega⟩
  simp only [nat_sum.l1]
  by_cases hc : c = 0
  ·subst hc
   rw [if_neg (by omega)]
   congr 1
   rw [Int.zero_mul, Int.add_zero] at hv
   rw [← hv]
   exact eq_wn hw hl
  ·have h1 : c = 1 := by omega
   subst h1
   have ho := hw.getD i
   rw [if_pos (by omega), if_pos (by omega), if_pos (by omega), rd_eq, wide_Add.f_eq ho.1 ho.2 (by omega) (by omega) (by omega) (by omega)]
   simp only [Option.bind_some]
   have ew : wrap64 ((i : Int) + 1) = ((i + 1 : Nat) : Int) := by unfold wrap64; omega
   rw [ew, Int.toNat_natCast]
   clear ew
   refine ih k _ _ _ (by omega) (by omega) hm (by omega) (by rw [List.length_set, hl]) (hw.set _ (by omega) (by omega)) (by omega) (by omega) ?_
   rw [nv_set (by omega), pow64, ← hv]
   generalize (2 : Int) ^ (64 * i) = p
   generalize os.getD i 0 = o at *
   have e : (o + 0 + 1) % 18446744073709551616 + 18446744073709551616 * ((o + 0 + 1) / 18446744073709551616) = o + 1 := by omega
   generalize (o + 0 + 1) % 18446744073709551616 = u at *
   generalize (o + 0 + 1) / 18446744073709551616 = v at *
   obtain rfl : u = o + 1 - 18446744073709551616 * v := by omega
   grind
theorem nat_sum.l0_eq (l1 : List Int) (N : Int) (m : Nat) (hN : N < 2 ^ (64 * m)) (hm : m < 35184372088833) (h1 : Ws l1) (hlm : l1.length < m) : ∀ (d k : Nat) (os : List Int) (c : Int) (i : Nat), d = l1.length - i → d + m + 1 < k → i ≤ l1.length → os.length = m → Ws os → 0 ≤ c → c ≤ 1 → nv os + c * 2 ^ (64 * i) + nv l1 = N + nv (l1.take i) →
  nat_sum.l0 k l1 os c l1 (l1.length : Int) i = some (wn m N) := by
 intro d
 induction d with
 | zero =>
  intro k os c i hd hk hi hl hw hc0 hc1 hv
  obtain ⟨k, rfl⟩ : ∃ j, k = j + 1 := ⟨k - 1, by omega⟩
  obtain rfl : i = l1.length := by omega
  rw [List.take_length] at hv
  simp only [nat_sum.l0]
  rw [if_neg (by omega)]
  exact nat_sum.l1_eq N m hN (m - l1.length) k os c l1.length rfl (by omega) hm (by omega) hl hw hc0 hc1 (by omega)
 | succ d ih =>
  intro k os c i hd hk hi hl hw hc0 hc1 hv
  obtain ⟨k, rfl⟩ : ∃ j, k = j + 1 := ⟨k - 1, by omega⟩
  simp only [nat_sum.l0]
  have ho := hw.getD i
  have hy := h1.getD i
  rw [if_pos (by omega), if_pos (by omega), if_pos (by omega), if_pos (by omega), rd_eq, rd_eq, wide_Add.f_eq ho.1 ho.2 hy.1 hy.2 hc0 hc1]
  simp only [Option.bind_some]
  have ew : wrap64 ((i : Int) + 1) = ((i + 1 : Nat) : Int) := by unfold wrap64; omega
  rw [ew, Int.toNat_natCast]
  clear ew
  refine ih k _ _ _ (by omega) (by omega) (by omega) (by rw [List.length_set, hl]) (hw.set _ (by omega) (by omega)) (by omega) (by omega) ?_
  rw [nv_set (by omega), pow64, nv_take_succ (by omega)]
  generalize (2 : Int) ^ (64 * i) = p at *
  generalize os.getD i 0 = o at *
  generalize l1.getD i 0 = y at *
  have e : (o + y + c) % 18446744073709551616 + 18446744073709551616 * ((o + y + c) / 18446744073709551616) = o + y + c := by omega
  generalize (o + y + c) % 18446744073709551616 = u at *
  generalize (o + y + c) / 18446744073709551616 = v at *
  obtain rfl : u = o + y + c - 18446744073709551616 * v := by omega
  grind
theorem nat_sum.go {l0 l1 : List Int} (h0 : Ws l0) (h1 : Ws l1) (hl : l1.length ≤ l0.length) (hb : l0.length < 35184372088832) :
  ∃ k, nat_sum.l0 k l1 (l0 ++ [0]) 0 l1 (l1.length : Int) 0 = some (wn (l0.length + 1) (nv l0 + nv l1)) := by
 have e0 := nv_lt h0
 have e1 := nv_lt h1
 have ep : (2 : Int) ^ (64 * l1.length) ≤ 2 ^ (64 * l0.length) := by
  rw [p2cast, p2cast]; exact Int.ofNat_le.2 (Nat.pow_le_pow_right (by omega) (by omega))
 have hp := pow64 l0.length
 have hp0 := two_pow_pos (64 * l0.length)
 refine ⟨l1.length + (l0.length + 1) + 2, ?_⟩
 refine nat_sum.l0_eq l1 _ (l0.length + 1) (by omega) (by omega) h1 (by omega) l1.length _ (l0 ++ [0]) 0 0 (by omega) (by omega) (by omega) (by simp) (h0.append (Ws.cons (by omega) (by omega) Ws.nil)) (by omega) (by omega) ?_
 rw [nv_append]
 simp [nv]
theorem nat_sum.calls (A0 : Option Addr) (c0 : Nat) (l0 : List Int) (A1 : Option Addr) (c1 : Nat) (l1 : List Int) (r : List Int) (w : World) (hr0 : Kd.C (Kd.int .u64) w A0 l0.length l0) (hc0 : l0.length ≤ c0) (hr1 : Kd.C (Kd.int .u64) w A1 l1.length l1) (hc1 : l1.length ≤ c1) (h : nat_sum.f l0 l1 = some r) :
  Calls Tryd.prog 55 #[.slice A0 l0.length c0, .slice A1 l1.length c1] w fun e w' => ∃ v0_ : Value, e = .returned (v0_) ∧ Kd.R (Kd.int .u64) 22 w' w.heap.size (fun _ => True) v0_ r ∧ Below w.heap.size w w' := by
 unfold nat_sum.f at h
 split at h
 case isFalse => cases h
 rename_i hh
 rw [wsB_iff, wsB_iff] at hh
 obtain ⟨h0, h1, hb0, hb1⟩ := hh
 injection h with h
 subst h
 by_cases hl : l1.length ≤ l0.length
 ·obtain ⟨k, hk⟩ := nat_sum.go h0 h1 hl hb0
  rw [Nat.max_eq_left hl]
  exact nat_sum.coreA k A0 c0 l0 A1 c1 l1 _ w hr0 hr1 hb0 (decide_eq_false (by omega)) hk
 ·obtain ⟨k, hk⟩ := nat_sum.go h1 h0 (by omega) hb1
  rw [Nat.max_eq_right (by omega), Int.add_comm]
  exact nat_sum.coreB k A1 c1 l1 A0 c0 l0 _ w hr1 hr0 hb1 (decide_eq_true (by omega)) hk
def nat_Add.f (k : Nat) (l0 : List Int) (l1 : List Int) : Option (List Int × Int) := (nat_sum.f l0 l1).bind fun t520 => ((nat_bound.f k t520).bind fun bt523 => (some (bt523.1, bt523.2)))
set_option maxHeartbeats 8000000 in
set_option maxRecDepth 100000 in
theorem nat_Add.calls (k : Nat) (A0 : Option Addr) (c0 : Nat) (l0 : List Int) (A1 : Option Addr) (c1 : Nat) (l1 : List Int) (r1 : List Int) (r2 : Int) (w : World) (hr0 : Kd.C (Kd.int .u64) w A0 l0.length l0) (hc0 : l0.length ≤ c0) (hr1 : Kd.C (Kd.int .u64) w A1 l1.length l1) (hc1 : l1.length ≤ c1) (h : nat_Add.f k l0 l1 = some (r1, r2)) :
  Calls Tryd.prog 31 #[.slice A0 l0.length c0, .slice A1 l1.length c1] w fun e w' => ∃ v0_ : Value, e = .returned (.tuple #[v0_, .int .i64 r2]) ∧ Kd.R (Kd.int .u64) 22 w' w.heap.size (fun _ => True) v0_ r1 ∧ Below w.heap.size w w' := by
 have HR0 := aM hr0
 have HC0 := aM hc0
 clear hr0 hc0
 have HR1 := aM hr1
 have HC1 := aM hc1
 clear hr1 hc1
 have HB := aM (Below.refl w.heap.size w)
 have H := h
 clear h
 unfold nat_Add.f at H
 replace H := oA H
 obtain ⟨t520, A3, H⟩ := H
 (try dsimp only at H)
 replace H := oA H
 obtain ⟨⟨t523, t526⟩, A4, H⟩ := H
 (try dsimp only at H)
 simp only [Option.some.injEq, Prod.mk.injEq] at H
 obtain ⟨rfl, rfl⟩ := H
 go_enter Tryd.func31, Tryd.ntmps31
 go_wp2_with (first | ((with_reducible refine gate_callee (f := 55) rfl ?_); refine gL (some 8) Tryd.func55 #[.slice A0 l0.length c0, .slice A1 l1.length c1] ?_; (with_reducible refine (nat_sum.calls _ _ l0 _ _ l1 t520 _ ?side1 HC0.out ?side3 HC1.out A3.out).mono ?_); (case side1 => exact dC HR0.out); (case side3 => exact dC HR1.out); rintro e w5 ⟨v521, rfl, ho0, hb⟩; refine ⟨_, rfl, ?_⟩; have HO522 := aM (Kd.R_lower ho0 (below_size dB)); replace HB := hS HB.out hb; (try clear hb); (try clear ho0); obtain ⟨Ao6, co6, rfl⟩ := Kd.R_slice HO522.out) | ((with_reducible refine gate_callee (f := 53) rfl ?_); refine gL (some 9) Tryd.func53 #[.slice Ao6 t520.length co6] ?_; (with_reducible refine (nat_bound.calls k (fun k_ => some k_ = (.slice Ao6 t520.length co6 : Value).ownBlock) (.slice Ao6 t520.length co6) t520 t523 t526 w _ ?side1 ?side2 A4.out).mono ?_); (case side1 => repeat (first | (with_reducible first | exact HB.out | apply below_alloc | apply pw_below_drewN | apply below_drew1) | exact HB.out)); (case side2 => exact Kd.R_tight rfl HO522.out); rintro e w7 ⟨v524, rfl, ho0, hb, hkp⟩; refine ⟨_, rfl, ?_⟩; have HO525 := aM (Kd.R_mono (ok' := fun k_ => True) ho0 (fun k_ hk_ => trivial)); replace HB := aM (hb); clear HO522; (try clear hb); (try clear hkp); (try clear ho0)))
 go_ret2
 exact ⟨_, dE, dR HO525.out, dB⟩
def radix_word.l0 : Nat → ByteArray → Int → Nat → Int → Option Int
 | 0, _, _, _, _ => none
 | k + 1, s, b, pos, acc => if pos < s.size then (radix_value.f 8 ((Utf8.decode s pos).1 : Int)).bind fun v => radix_word.l0 k s b (pos + (Utf8.decode s pos).2) (IntKind.u64.wrap (IntKind.u64.wrap (acc * IntKind.u64.wrap b) + v)) else some acc
def radix_word.f (s : ByteArray) (b : Int) : Option Int := radix_word.l0 (s.size + 1) s b 0 0
theorem rune_width (s : ByteArray) (pos : Nat) (h : pos < s.size) : 1 ≤ (Utf8.decode s pos).2 := by
 by_cases ha : (s[pos]'h).toNat < 128
 ·rw [decode_ascii s pos h ha]
  exact Nat.le_refl _
 ·exact (decode_high s pos h (by omega)).2
theorem iter_drewN (w : World) (a b : Nat) (s : ByteArray) (p : Nat) : ((w.drewN a).iter s p).drewN b = (w.drewN (a + b)).iter s p := by
 simp [World.iter, World.alloc, World.drewN, Nat.add_assoc]
set_option maxHeartbeats 8000000 in
set_option maxRecDepth 100000 in
theorem radix_word.calls (s : ByteArray) (a1 : Int) (r : Int) (w : World) (h : radix_word.f s a1 = some r) :
  Calls Tryd.prog 32 #[.string s, .int .i64 a1] w fun e w' => e = .returned (.int .u64 r) ∧ Below w.heap.size w w' := by
 have H' := aM (show radix_word.l0 (s.size + 1) s a1 0 0 = some r from h)
 clear h
 go_enter Tryd.func32, Tryd.ntmps32
 go_wp2
 go_loopw [5] (fun n w' => ∃ (pos k nd : Nat) (acc : Int), w' = (w.drewN nd).iter s pos ∧ n = .int .u64 acc ∧ Aside0 (radix_word.l0 k s a1 pos acc = some r)) (fun _ w' => s.size - w'.iterPos w.heap.size)
 case atStart => exact ⟨0, s.size + 1, 0, 0, rfl, rfl, H'⟩
 case round =>
  clear H'
  obtain ⟨pos, k, nd, acc, rfl, rfl, HA⟩ := hrel
  cases k with
  | zero => exact absurd HA.out (by simp [radix_word.l0])
  | succ k =>
   have H := HA.out
   clear HA
   simp only [radix_word.l0] at H
   by_cases hp : pos < s.size
   ·rw [if_pos hp] at H
    replace H := obe H
    obtain ⟨v, A1, H⟩ := H
    have A10 := aM A1
    have HN := aM H
    clear A1 H
    have hnx : ∀ ty, (Instr.next (.pointer (some ⟨w.heap.size, 0, none⟩)) true ty).run Tryd.prog ((w.drewN nd).iter s pos) = _ := fun ty => run_next_any (w.drewN nd) s pos ty hp
    go_wp2_with (fail)
    refine (radix_value.calls 8 _ v _ A10.out).mono ?_
    rintro e w' ⟨rfl, ⟨nq, rfl⟩⟩
    go_wp2
    have hwd := rune_width s pos hp
    go_roundw
    case rel => exact ⟨pos + (Utf8.decode s pos).2, k, nd + nq, _, iter_drewN w nd nq s _, rfl, HN⟩
    case measure =>
     have e1 : World.iterPos (((w.drewN nd).iter s (pos + (Utf8.decode s pos).2)).drewN nq) w.heap.size = pos + (Utf8.decode s pos).2 := World.iterPos_iter (w.drewN nd) s _
     have e2 : World.iterPos ((w.drewN nd).iter s pos) w.heap.size = pos := World.iterPos_iter (w.drewN nd) s _
     rw [e1, e2]
     omega
   ·rw [if_neg hp] at H
    obtain rfl := Option.some.inj H
    have hnx : ∀ ty, (Instr.next (.pointer (some ⟨w.heap.size, 0, none⟩)) true ty).run Tryd.prog ((w.drewN nd).iter s pos) = _ := fun ty => run_next_end (w.drewN nd) s pos ty hp
    go_wp2
    go_ret
    exact ⟨rfl, below_alloc (pw_below_drewN (Below.refl _ _) _) _⟩
set_option maxHeartbeats 8000000 in
set_option maxRecDepth 100000 in
theorem api_Wrap.calls (a0 a1 : Int) (w : World) :
  Calls Tryd.prog 26 #[.int .i64 a0, .int .i64 a1] w fun e w' => e = .returned (.iface 84 (.pointer (some ⟨w.heap.size, 0, none⟩))) ∧ ∃ nd, w' = (w.drewN nd).alloc (.cells #[.int .i64 a0, .iface 23 (.int .i64 a1)] 86) := by
 go_enter Tryd.func26, Tryd.ntmps26
 go_wp2
 go_ret
 exact ⟨rfl, 0, rfl⟩
mutual
def radix_Parse.j1 : Nat → ByteArray → Int → Option (List Int × Int)
 | 0, _, _ => none
 | k + 1, x0, x1 => if (x0.size : Int) > 262144 then (some (([] : List Int), 21)) else ((radix_chunk.f x1).bind fun bt122 => (radix_Parse.l1 k x0 x1 bt122.1 bt122.2 ([] : List Int)))
def radix_Parse.l1 : Nat → ByteArray → Int → Int → Int → List Int → Option (List Int × Int)
 | 0, _, _, _, _, _ => none
 | k + 1, x0, x1, x8, x9, x10 => if x0.toList = ([] : List UInt8) then (some (x10, 0)) else (if (mn x9 (x0.size : Int)) < x9 then (radix_Parse.l2 k x0 x1 x8 x9 x10 (mn x9 (x0.size : Int)) 1 (mn x9 (x0.size : Int)) 0) else (radix_Parse.j4 k x0 x1 x8 x9 x10 (mn x9 (x0.size : Int)) x8))
def radix_Parse.j4 : Nat → ByteArray → Int → Int → Int → List Int → Int → Int → Option (List Int × Int)
 | 0, _, _, _, _, _, _, _ => none
 | k + 1, x0, x1, x8, x9, x10, x11, x12 => (nat_From.f x12).bind fun t124 => ((nat_Mul.f k x10 t124).bind fun bt127 => (if bt127.2 = 0 then (if 0 ≤ x11 then (if x11 ≤ (x0.size : Int) then ((radix_word.f (x0.extract 0 (x11 : Int).toNat) x1).bind fun t131 => ((nat_From.f t131).bind fun t132 => ((nat_Add.f k bt127.1 t132).bind fun bt135 => (if bt135.2 = 0 then (radix_Parse.l1 k (x0.extract (x11 : Int).toNat x0.size) x1 x8 x9 bt135.1) else (some (([] : List Int), bt135.2)))))) else (none)) else (none)) else (some (([] : List Int), bt127.2))))
def radix_Parse.l2 : Nat → ByteArray → Int → Int → Int → List Int → Int → Int → Int → Int → Option (List Int × Int)
 | 0, _, _, _, _, _, _, _, _, _ => none
 | k + 1, x0, x1, x8, x9, x10, x11, x12, x63, x64 => if x64 < x63 then (radix_Parse.l2 k x0 x1 x8 x9 x10 x11 (IntKind.u64.wrap (x12 * (IntKind.u64.wrap (x1)))) x63 (wrap64 (x64 + 1))) else (radix_Parse.j4 k x0 x1 x8 x9 x10 x11 x12)
def radix_Parse.l0 : Nat → ByteArray → Int → Option (List Int × Int)
 | 0, _, _ => none
 | k + 1, x0, x1 => if x0.toList = ([] : List UInt8) then (radix_Parse.j1 k x0 x1) else (if 0 < (x0.size : Int) then (if (bt x0 0) = 48 then (if 1 ≤ (x0.size : Int) then (radix_Parse.l0 k (x0.extract 1 x0.size) x1) else (none)) else (radix_Parse.j1 k x0 x1)) else (none))
end
def radix_Parse.s0 (b : Int) (s : ByteArray) : Nat → Nat → Option Int
 | 0, _ => none
 | k + 1, pos => if pos < s.size then (radix_value.f 8 ((Utf8.decode s pos).1 : Int)).bind fun v => (if v ≥ IntKind.u64.wrap b then some (pos : Int) else radix_Parse.s0 b s k (pos + (Utf8.decode s pos).2)) else some (-1)
def radix_Parse.f (k : Nat) (a0 : ByteArray) (a1 : Int) : Option (List Int × Int × Int) :=
 (radix_based.f a1).bind fun t => (if t = true then ((radix_Parse.s0 a1 a0 (a0.size + 1) 0).bind fun p => (if p ≥ 0 then some (([] : List Int), 41, p) else (if a0.toList = ([] : List UInt8) then some (([] : List Int), 41, 0) else ((radix_Parse.l0 k a0 a1).bind fun y => some (y.1, y.2, 0))))) else some (([] : List Int), 40, 0))
def faultIs (w' : World) (base : Nat) (ve : Value) (c p : Int) : Prop :=
 if c = 0 then ve = .nilIface else ∃ g, ve = .iface 84 (.pointer (some ⟨g, 0, none⟩)) ∧ base ≤ g ∧ w'.heap[g]? = some (.cells #[.int .i64 p, .iface 23 (.int .i64 c)] 86 (0, 0))
theorem fault_none (w : World) (base : Nat) : faultIs w base .nilIface 0 0 := by simp [faultIs]
theorem fault_new {base : Nat} {wr : World} {c p : Int} (nd : Nat) (hc : c ≠ 0) (h : base ≤ wr.heap.size) :
  faultIs ((wr.drewN nd).alloc (.cells #[.int .i64 p, .iface 23 (.int .i64 c)] 86)) base (.iface 84 (.pointer (some ⟨wr.heap.size, 0, none⟩))) c p := by
 unfold faultIs
 rw [if_neg hc]
 exact ⟨_, rfl, h, blk_new (wr.drewN nd) _⟩
set_option maxHeartbeats 8000000 in
set_option maxRecDepth 100000 in
theorem radix_Parse.calls (k : Nat) (a0 : ByteArray) (a1 : Int) (r1 : List Int) (r2 r3 : Int) (w : World) (h : radix_Parse.f k a0 a1 = some (r1, r2, r3)) :
  Calls Tryd.prog 13 #[.string a0, .int .i64 a1] w fun e w' => ∃ v0_ ve_ : Value, e = .returned (.tuple #[v0_, ve_]) ∧ Kd.R (Kd.int .u64) 22 w' w.heap.size (fun _ => True) v0_ r1 ∧ Below w.heap.size w w' ∧ faultIs w' w.heap.size ve_ r2 r3 := by
 have HB := aM (Below.refl w.heap.size w)
 unfold radix_Parse.f at h
 replace h := Option.bind_eq_some_iff.mp h
 obtain ⟨t, AB0, h⟩ := h
 have AB := aM AB0
 clear AB0
 by_cases ct : t = true
 case neg =>
  rw [if_neg ct] at h
  simp only [Option.some.injEq, Prod.mk.injEq] at h
  obtain ⟨rfl, rfl, rfl⟩ := h
  obtain rfl : t = false := by simpa using ct
  go_enter Tryd.func13, Tryd.ntmps13
  go_wp2_with (first | ((with_reducible refine gate_callee (f := 25) rfl ?_); refine goesL_ (some 16) rfl rfl Tryd.func25 (by kernel_rfl) rfl #[.int .i64 a1] rfl (by (try simp only [List.map_toArray, List.map_cons, List.map_nil]); first | done | rfl) ?_; (with_reducible refine (radix_based.calls a1 _ _ AB.out).mono ?_); rintro e w' ⟨rfl, ⟨ndb, rfl⟩⟩; refine ⟨_, rfl, ?_⟩) | ((with_reducible refine gate_callee (f := 26) rfl ?_); refine goesL_ (some 18) rfl rfl Tryd.func26 (by kernel_rfl) rfl #[.int .i64 0, .int .i64 40] rfl (by (try simp only [List.map_toArray, List.map_cons, List.map_nil]); first | done | rfl) ?_; (with_reducible refine (api_Wrap.calls 0 40 _).mono ?_); rintro e w' ⟨rfl, ⟨nde, rfl⟩⟩; refine ⟨_, rfl, ?_⟩))
  go_ret2
  exact ⟨_, _, by first | rfl | (simp; done) | (simp [*]; done), Kd.R_nil _ _ _ _ _, dB, fault_new _ (by decide) (below_size dB)⟩
 rw [if_pos ct] at h
 subst ct
 replace h := Option.bind_eq_some_iff.mp h
 obtain ⟨p, AS0, h⟩ := h
 have AS := aM AS0
 have HH := aM h
 clear AS0 h
 go_enter Tryd.func13, Tryd.ntmps13
 go_upto_block 0 with (first | ((with_reducible refine gate_callee (f := 25) rfl ?_); refine goesL_ (some 16) rfl rfl Tryd.func25 (by kernel_rfl) rfl #[.int .i64 a1] rfl (by (try simp only [List.map_toArray, List.map_cons, List.map_nil]); first | done | rfl) ?_; (with_reducible refine (radix_based.calls a1 _ _ AB.out).mono ?_); rintro e w' ⟨rfl, ⟨ndb, rfl⟩⟩; refine ⟨_, rfl, ?_⟩))
 go_cut [0] (fun v0 wc => v0 = .string a0 ∧ Aside0 (p = -1) ∧ Aside0 (Below w.heap.size w wc))
 case first =>
  go_wp2
  go_loopw [6] (fun v6 w' => ∃ (pos kq nd : Nat), w' = (w.drewN nd).iter a0 pos ∧ Aside0 (radix_Parse.s0 a1 a0 kq pos = some p)) (fun _ w' => a0.size - w'.iterPos w.heap.size)
  case atStart => exact ⟨0, a0.size + 1, ndb, rfl, AS⟩
  case round =>
   clear AS
   obtain ⟨pos, kq, nd, rfl, HA⟩ := hrel
   cases kq with
   | zero => exact absurd HA.out (by simp [radix_Parse.s0])
   | succ kq =>
    have H := HA.out
    clear HA
    simp only [radix_Parse.s0] at H
    by_cases hp : pos < a0.size
    ·rw [if_pos hp] at H
     replace H := oA H
     obtain ⟨v, A1, H⟩ := H
     have hnx : ∀ ty, (Instr.next (.pointer (some ⟨w.heap.size, 0, none⟩)) true ty).run Tryd.prog ((w.drewN nd).iter a0 pos) = _ := fun ty => run_next_any (w.drewN nd) a0 pos ty hp
     by_cases c2 : v ≥ IntKind.u64.wrap a1
     ·rw [if_pos c2] at H
      obtain rfl := Option.some.inj H
      have c2b0 : decide (IntKind.u64.wrap a1 ≤ v) = true := decide_eq_true c2
      have h := HH.out
      clear HH H
      rw [if_pos (by omega)] at h
      simp only [Option.some.injEq, Prod.mk.injEq] at h
      obtain ⟨rfl, rfl, rfl⟩ := h
      go_wp2_with (first | ((with_reducible refine gate_callee (f := 27) rfl ?_); refine goesL_ (some 26) rfl rfl Tryd.func27 (by kernel_rfl) rfl #[.int .i32 (Utf8.decode a0 pos).1] rfl (by (try simp only [List.map_toArray, List.map_cons, List.map_nil]); first | done | rfl) ?_; (with_reducible refine (radix_value.calls 8 _ _ _ A1.out).mono ?_); rintro e w' ⟨rfl, ⟨ndv, rfl⟩⟩; refine ⟨_, rfl, ?_⟩) | ((with_reducible refine gate_callee (f := 26) rfl ?_); refine goesL_ (some 31) rfl rfl Tryd.func26 (by kernel_rfl) rfl #[.int .i64 (pos : Int), .int .i64 41] rfl (by (try simp only [List.map_toArray, List.map_cons, List.map_nil]); first | done | rfl) ?_; (with_reducible refine (api_Wrap.calls (pos : Int) 41 _).mono ?_); rintro e w' ⟨rfl, ⟨nde, rfl⟩⟩; refine ⟨_, rfl, ?_⟩))
      go_ret2
      exact ⟨_, _, by first | rfl | (simp; done) | (simp [*]; done), Kd.R_nil _ _ _ _ _, by unfold World.iter; repeat (with_reducible first | exact Below.refl _ _ | apply below_alloc | apply pw_below_drewN), fault_new _ (by decide) (below_size (by unfold World.iter; repeat (with_reducible first | exact Below.refl _ _ | apply below_alloc | apply pw_below_drewN)))⟩
     ·rw [if_neg c2] at H
      have c2b0 : decide (IntKind.u64.wrap a1 ≤ v) = false := decide_eq_false c2
      have HN := aM H
      clear H
      go_wp2_with (first | ((with_reducible refine gate_callee (f := 27) rfl ?_); refine goesL_ (some 26) rfl rfl Tryd.func27 (by kernel_rfl) rfl #[.int .i32 (Utf8.decode a0 pos).1] rfl (by (try simp only [List.map_toArray, List.map_cons, List.map_nil]); first | done | rfl) ?_; (with_reducible refine (radix_value.calls 8 _ _ _ A1.out).mono ?_); rintro e w' ⟨rfl, ⟨ndv, rfl⟩⟩; refine ⟨_, rfl, ?_⟩))
      have hwd := rune_width a0 pos hp
      go_roundw
      case rel => exact ⟨pos + (Utf8.decode a0 pos).2, kq, _, iter_drewN w nd _ a0 _, HN⟩
      case measure =>
       have e1 : ∀ nq, World.iterPos (((w.drewN nd).iter a0 (pos + (Utf8.decode a0 pos).2)).drewN nq) w.heap.size = pos + (Utf8.decode a0 pos).2 := fun nq => World.iterPos_iter (w.drewN nd) a0 _
       have e2 : World.iterPos ((w.drewN nd).iter a0 pos) w.heap.size = pos := World.iterPos_iter (w.drewN nd) a0 _
       rw [e1, e2]
       omega
    ·rw [if_neg hp] at H
     have hpe : p = -1 := (Option.some.inj H).symm
     clear H
     have hnx : ∀ ty, (Instr.next (.pointer (some ⟨w.heap.size, 0, none⟩)) true ty).run Tryd.prog ((w.drewN nd).iter a0 pos) = _ := fun ty => run_next_end (w.drewN nd) a0 pos ty hp
     go_wp2
     go_meet
     case rel => exact ⟨rfl, ⟨hpe⟩, ⟨below_alloc (pw_below_drewN (Below.refl _ _) _) _⟩⟩
 case rest =>
  clear AS
  obtain ⟨rfl, hpe, HB⟩ := hcut
  have h := HH.out
  clear HH
  rw [hpe.out] at h
  clear hpe
  rw [if_neg (by omega)] at h
  by_cases ce : a0.toList = ([] : List UInt8)
  ·rw [if_pos ce] at h
   simp only [Option.some.injEq, Prod.mk.injEq] at h
   obtain ⟨rfl, rfl, rfl⟩ := h
   have ceb0 : (a0.toList == ([] : List UInt8)) = true := beq_iff_eq.mpr ce
   have ceb1 : (a0.toList != ([] : List UInt8)) = false := bne_eq_false_iff_eq.mpr ce
   go_wp2_with (first | ((with_reducible refine gate_callee (f := 26) rfl ?_); refine goesL_ (some 34) rfl rfl Tryd.func26 (by kernel_rfl) rfl #[.int .i64 0, .int .i64 41] rfl (by (try simp only [List.map_toArray, List.map_cons, List.map_nil]); first | done | rfl) ?_; (with_reducible refine (api_Wrap.calls 0 41 _).mono ?_); rintro e w' ⟨rfl, ⟨nde, rfl⟩⟩; refine ⟨_, rfl, ?_⟩))
   go_ret2
   exact ⟨_, _, by first | rfl | (simp; done) | (simp [*]; done), Kd.R_nil _ _ _ _ _, dB, fault_new _ (by decide) (below_size dB)⟩
  rw [if_neg ce] at h
  have ceb0 : (a0.toList == ([] : List UInt8)) = false := beq_eq_false_iff_ne.mpr ce
  have ceb1 : (a0.toList != ([] : List UInt8)) = true := bne_iff_ne.mpr ce
  clear ce
  replace h := Option.bind_eq_some_iff.mp h
  obtain ⟨⟨r1, r2⟩, HC0, h⟩ := h
  simp only [Option.some.injEq, Prod.mk.injEq] at h
  obtain ⟨rfl, rfl, rfl⟩ := h
  have HC3 := aM HC0
  clear HC0
  go_upto_block 2 with (fail)
  go_cut [0] (fun v0 wc => ∃ (kq : Nat) (x0_2 : ByteArray), v0 = .string x0_2 ∧ Aside0 (radix_Parse.j1 kq x0_2 a1 = some (r1, r2)) ∧ Aside0 (kq ≤ k) ∧ Aside0 (Below w.heap.size w wc))
  case first =>
   have H := HC3.out
   clear HC3
   have H' := aM H
   clear H
   go_wp2
   go_loopg [0] k (fun kq v0 w' => ∃ (x0_1 : ByteArray), v0 = .string x0_1 ∧ Aside0 (radix_Parse.l0 kq x0_1 a1 = some (r1, r2)) ∧ Aside0 (kq ≤ k) ∧ Aside0 (Below w.heap.size w w'))
   case atStart => exact ⟨(a0), dF, H', ⟨Nat.le_refl _⟩, ⟨dB⟩⟩
   case round =>
    clear H'
    obtain ⟨x0_1, rfl, HA, HK1, HB⟩ := hrel
    cases gk with
    | zero => exact absurd HA.out (by simp [radix_Parse.l0])
    | succ k1 =>
     have H := HA.out
     clear HA
     simp only [radix_Parse.l0] at H
     by_cases c4 : x0_1.toList = ([] : List UInt8)
     ·rw [if_pos c4] at H
      obtain ⟨c4b0, c4b1⟩ := bT c4
      clear c4
      (first | rw [c4b0] | (simp only [i64_w, i32_w]; rw [c4b0]) | skip)
      have H' := aM H
      clear H
      go_wp2
      go_meet
      case rel => exact ⟨_, (x0_1), dF, H', ⟨by have := HK1.out; first | omega | exact Nat.le_refl _⟩, ⟨dB⟩⟩
     ·rw [if_neg c4] at H
      obtain ⟨c4b0, c4b1⟩ := bF c4
      (first | rw [c4b0] | (simp only [i64_w, i32_w]; rw [c4b0]) | skip)
      replace H := nO H
      obtain ⟨c5, H⟩ := H
      have c5b0 : decide (0 < (x0_1.size : Int)) = true := decide_eq_true c5
      have c5b1 : decide (0 < x0_1.size) = true := decide_eq_true (by omega)
      clear c5
      by_cases c7 : (bt x0_1 0) = 48
      ·rw [if_pos c7] at H
       obtain ⟨c7b0, c7b1⟩ := bT c7
       clear c7
       replace H := nO H
       obtain ⟨c8, H⟩ := H
       have c8b0 := eq_true c8
       have c8b1 : decide (1 ≤ (x0_1.size : Int)) = true := decide_eq_true c8
       clear c8
       have H' := aM H
       clear H
       have p6 : 0 ≤ (0 : Int) := (by omega)
       have q6 : 0 < x0_1.size := (by have : (0 : Int) < (x0_1.size : Int) := of_decide_eq_true dS; omega)
       have hx6 : ∀ h : 0 < x0_1.size, ((x0_1[0]'h).toNat : Int) = bt x0_1 0 := bt_at x0_1 0
       clear p6
       have qi6 : (0 < (x0_1.size : Int)) = True := eq_true (of_decide_eq_true dS)
       replace q6 := eq_true q6
       go_wp2
       go_roundg k1
       case measure => have := HK1.out; omega
       case rel => exact ⟨(x0_1.extract 1 x0_1.size), dF, H', ⟨by have := HK1.out; omega⟩, ⟨dB⟩⟩
      ·rw [if_neg c7] at H
       obtain ⟨c7b0, c7b1⟩ := bF c7
       have H' := aM H
       clear H
       have p6 : 0 ≤ (0 : Int) := (by omega)
       have q6 : 0 < x0_1.size := (by have : (0 : Int) < (x0_1.size : Int) := of_decide_eq_true dS; omega)
       have hx6 : ∀ h : 0 < x0_1.size, ((x0_1[0]'h).toNat : Int) = bt x0_1 0 := bt_at x0_1 0
       clear p6
       have qi6 : (0 < (x0_1.size : Int)) = True := eq_true (of_decide_eq_true dS)
       replace q6 := eq_true q6
       go_wp2
       go_meet
       case rel => exact ⟨_, (x0_1), dF, H', ⟨by have := HK1.out; first | omega | exact Nat.le_refl _⟩, ⟨dB⟩⟩
  case rest =>
   clear HC3
   obtain ⟨kq, x0_2, rfl, HA, HJ2, HB⟩ := hcut
   cases kq with
   | zero => exact absurd HA.out (by simp [radix_Parse.j1])
   | succ kj2 =>
    have H := HA.out
    clear HA
    simp only [radix_Parse.j1] at H
    by_cases c9 : (x0_2.size : Int) > 262144
    ·rw [if_pos c9] at H
     have c9b0 : decide (262144 < (x0_2.size : Int)) = true := decide_eq_true c9
     have c9b1 : decide (262144 < x0_2.size) = true := decide_eq_true (by omega)
     clear c9
     simp only [Option.some.injEq, Prod.mk.injEq] at H
     obtain ⟨rfl, rfl⟩ := H
     go_wp2_with (first | ((with_reducible refine gate_callee (f := 26) rfl ?_); refine goesL_ (some 47) rfl rfl Tryd.func26 (by kernel_rfl) rfl #[.int .i64 0, .int .i64 21] rfl (by (try simp only [List.map_toArray, List.map_cons, List.map_nil]); first | done | rfl) ?_; (with_reducible refine (api_Wrap.calls 0 21 _).mono ?_); rintro e w' ⟨rfl, ⟨nde, rfl⟩⟩; refine ⟨_, rfl, ?_⟩))
     go_ret2
     exact ⟨_, _, by first | rfl | (simp; done) | (simp [*]; done), Kd.R_nil _ _ _ _ _, dB, fault_new _ (by decide) (below_size dB)⟩
    ·rw [if_neg c9] at H
     have c9b0 : decide (262144 < (x0_2.size : Int)) = false := decide_eq_false c9
     have c9b1 : decide (262144 < x0_2.size) = false := decide_eq_false (by omega)
     clear c9
     replace H := oA H
     obtain ⟨⟨t122, t123⟩, A10, H⟩ := H
     (try dsimp only at H)
     have H' := aM H
     clear H
     go_wp2_with (first | ((with_reducible refine gate_callee (f := 28) rfl ?_); refine gL (some 50) Tryd.func28 #[.int .i64 a1] ?_; (with_reducible refine (radix_chunk.calls a1 t122 t123 _ A10.out).mono ?_); rintro e w' ⟨rfl, ⟨nd, rfl⟩⟩; refine ⟨_, rfl, ?_⟩))
     go_loopg [0, 10] kj2 (fun kq v0 v10 w' => ∃ (x0_2 : ByteArray) (x10_2 : List Int), v0 = .string x0_2 ∧ Aside0 (radix_Parse.l1 kq x0_2 a1 t122 t123 x10_2 = some (r1, r2)) ∧ Aside0 (kq ≤ kj2) ∧ Aside0 (Kd.R (Kd.int .u64) 22 w' w.heap.size (fun _ => True) v10 x10_2) ∧ Aside0 (Below w.heap.size w w'))
     case atStart => exact ⟨(x0_2), (([] : List Int)), dF, H', ⟨Nat.le_refl _⟩, ⟨by first | exact Kd.R_nil _ _ _ _ _ | exact Kd.N_nil _ _ _ _ _ | exact Kd.V_nil _ _ _ _ _ | exact Kd.Q_nil _ _ _ _ _ | exact Kd.S_nil _ _ _ _ _⟩, ⟨dB⟩⟩
     case round =>
      clear H'
      try clear c9
      try clear c9b0 c9b1
      obtain ⟨x0_2, x10_2, rfl, HA, HK2, HO_10, HB⟩ := hrel
      cases gk with
      | zero => exact absurd HA.out (by simp [radix_Parse.l1])
      | succ k2 =>
       have H := HA.out
       clear HA
       simp only [radix_Parse.l1] at H
       by_cases c11 : x0_2.toList = ([] : List UInt8)
       ·rw [if_pos c11] at H
        obtain ⟨c11b0, c11b1⟩ := bT c11
        clear c11
        simp only [Option.some.injEq, Prod.mk.injEq] at H
        obtain ⟨rfl, rfl⟩ := H
        go_wp2
        go_ret2
        exact ⟨_, _, dE, dR HO_10.out, dB, fault_none _ _⟩
       ·rw [if_neg c11] at H
        obtain ⟨c11b0, c11b1⟩ := bF c11
        obtain ⟨ji12, hji12⟩ : ∃ j_ : Int, (mn t123 (x0_2.size : Int)) = j_ := ⟨_, rfl⟩
        first | rw [hji12] at H | simp only [hji12] at H
        have hji12_ : (if (x0_2.size : Int) < t123 then (x0_2.size : Int) else t123) = ji12 := hji12
        have HC13 := aM H
        clear H
        go_upto_if 62 with (fail)
        go_cut [12] (fun v12 wc => ∃ (kq : Nat) (x12_12 : Int), v12 = .int .u64 x12_12 ∧ Aside0 (radix_Parse.j4 kq x0_2 a1 t122 t123 x10_2 ji12 x12_12 = some (r1, r2)) ∧ Aside0 (kq ≤ k2) ∧ Aside0 (Kd.R (Kd.int .u64) 22 wc w.heap.size (fun _ => True) u10 x10_2) ∧ Aside0 (Below w.heap.size w wc))
        case first =>
         have H := HC13.out
         clear HC13
         by_cases c14 : (ji12) < t123
         ·rw [if_pos c14] at H
          have c14b0 := decide_eq_true c14
          clear c14
          (first | rw [c14b0] | (simp only [i64_w, i32_w]; rw [c14b0]) | skip)
          have H' := aM H
          clear H
          go_wp2
          go_loopg [12, 64] k2 (fun kq v12 v64 w' => ∃ (x12_3 : Int) (x64_3 : Int), v12 = .int .u64 x12_3 ∧ v64 = .int .i64 x64_3 ∧ Aside0 (radix_Parse.l2 kq x0_2 a1 t122 t123 x10_2 ji12 x12_3 ji12 x64_3 = some (r1, r2)) ∧ Aside0 (kq ≤ k2) ∧ Aside0 (Kd.R (Kd.int .u64) 22 w' w.heap.size (fun _ => True) u10 x10_2) ∧ Aside0 (Below w.heap.size w w'))
          case atStart => exact ⟨(1), (0), dF, dF, H', ⟨Nat.le_refl _⟩, ⟨dR HO_10.out⟩, ⟨dB⟩⟩
          case round =>
           clear H'
           try clear c9
           try clear c9b0 c9b1
           try clear c11
           try clear c11b0 c11b1
           try clear c14
           try clear c14b0
           obtain ⟨x12_3, x64_3, rfl, rfl, HA, HK3, HO_10, HB⟩ := hrel
           cases gk with
           | zero => exact absurd HA.out (by simp [radix_Parse.l2])
           | succ k3 =>
            have H := HA.out
            clear HA
            simp only [radix_Parse.l2] at H
            by_cases c15 : x64_3 < ji12
            ·rw [if_pos c15] at H
             have c15b0 := decide_eq_true c15
             clear c15
             have H' := aM H
             clear H
             go_wp2
             go_roundg k3
             case measure => have := HJ2.out; have := HK2.out; have := HK3.out; omega
             case rel => exact ⟨(IntKind.u64.wrap (x12_3 * (IntKind.u64.wrap (a1)))), (wrap64 (x64_3 + 1)), dF, dF, H', ⟨by have := HJ2.out; have := HK2.out; have := HK3.out; omega⟩, ⟨dR HO_10.out⟩, ⟨dB⟩⟩
            ·rw [if_neg c15] at H
             have c15b0 := decide_eq_false c15
             clear c15
             have H' := aM H
             clear H
             go_wp2
             go_meet
             case rel => exact ⟨_, (x12_3), dF, H', ⟨by have := HJ2.out; have := HK2.out; have := HK3.out; first | omega | exact Nat.le_refl _⟩, ⟨dR HO_10.out⟩, ⟨dB⟩⟩
         ·rw [if_neg c14] at H
          have c14b0 := decide_eq_false c14
          clear c14
          (first | rw [c14b0] | (simp only [i64_w, i32_w]; rw [c14b0]) | skip)
          have H' := aM H
          clear H
          go_wp2
          go_meet
          case rel => exact ⟨_, (t122), dF, H', ⟨by have := HJ2.out; have := HK2.out; first | omega | exact Nat.le_refl _⟩, ⟨dR HO_10.out⟩, ⟨dB⟩⟩
        case rest =>
         clear HC13
         try clear c9
         try clear c9b0 c9b1
         try clear c11
         try clear c11b0 c11b1
         obtain ⟨kq, x12_12, rfl, HA, HJ12, HO_10, HB⟩ := hcut
         cases kq with
         | zero => exact absurd HA.out (by simp [radix_Parse.j4])
         | succ kj12 =>
          have H := HA.out
          clear HA
          simp only [radix_Parse.j4] at H
          replace H := oA H
          obtain ⟨t124, A16, H⟩ := H
          (try dsimp only at H)
          replace H := oA H
          obtain ⟨⟨t127, t128⟩, A17, H⟩ := H
          (try dsimp only at H)
          by_cases c18 : t128 = 0
          ·rw [if_pos c18] at H
           obtain ⟨c18b0, c18b1⟩ := bT c18
           clear c18
           replace H := nO H
           obtain ⟨c19, H⟩ := H
           have c19b0 := eq_true c19
           have c19b1 : decide (0 ≤ ji12) = true := decide_eq_true c19
           clear c19
           replace H := nO H
           obtain ⟨c20, H⟩ := H
           have c20b0 := eq_true c20
           have c20b1 := decide_eq_true c20
           clear c20
           replace H := oA H
           obtain ⟨t131, A21, H⟩ := H
           (try dsimp only at H)
           replace H := oA H
           obtain ⟨t132, A22, H⟩ := H
           (try dsimp only at H)
           replace H := oA H
           obtain ⟨⟨t135, t136⟩, A23, H⟩ := H
           (try dsimp only at H)
           by_cases c24 : t136 = 0
           ·rw [if_pos c24] at H
            obtain ⟨c24b0, c24b1⟩ := bT c24
            clear c24
            have c25b0 := eq_true (of_decide_eq_true dS : 0 ≤ ji12)
            have c26b0 := eq_true (of_decide_eq_true dS : ji12 ≤ (x0_2.size : Int))
            have H' := aM H
            clear H
            go_wp2_with (first | ((with_reducible refine gate_callee (f := 30) rfl ?_); refine gL (some 74) Tryd.func30 #[.int .u64 x12_12] ?_; (with_reducible refine (nat_From.calls x12_12 t124 _ A16.out).mono ?_); rintro e w27 ⟨v125, rfl, ho0, hb⟩; refine ⟨_, rfl, ?_⟩; have HO126 := aM (Kd.R_lower (nW ho0 HO_10.out) (below_size dB)); replace HO_10 := oE HO_10.out ho0 hb; replace HB := hS HB.out hb; (try clear hb); (try clear ho0); obtain ⟨Ao28, co28, rfl⟩ := Kd.R_slice HO_10.out; obtain ⟨Ao29, co29, rfl⟩ := Kd.R_slice HO126.out) | ((with_reducible refine gate_callee (f := 29) rfl ?_); refine gL (some 75) Tryd.func29 #[.slice Ao28 x10_2.length co28, .slice Ao29 t124.length co29] ?_; (with_reducible refine (nat_Mul.calls kj12 _ _ x10_2 _ _ t124 t127 t128 _ ?side1 (Kd.R_reads' HO_10.out).2.1 ?side3 (Kd.R_reads' HO126.out).2.1 A17.out).mono ?_); (case side1 => exact dC (Kd.R_reads' HO_10.out).2.2); (case side3 => exact dC (Kd.R_reads' HO126.out).2.2); rintro e w30 ⟨v129, rfl, ho0, hb⟩; refine ⟨_, rfl, ?_⟩; have HO130 := aM (Kd.R_lower (nW (nW ho0 HO_10.out) HO126.out) (below_size dB)); replace HO_10 := oE HO_10.out ho0 hb; replace HO126 := oE HO126.out ho0 hb; replace HB := hS HB.out hb; (try clear hb); (try clear ho0)) | ((with_reducible refine gate_callee (f := 32) rfl ?_); refine goesL_ (some 88) rfl rfl Tryd.func32 (by kernel_rfl) rfl #[.string (x0_2.extract 0 (ji12 : Int).toNat), .int .i64 a1] rfl (by (try simp only [List.map_toArray, List.map_cons, List.map_nil]); first | done | (simp only [hji12]; rfl) | rfl | (simp only [List.length_drop, List.length_take]; rfl)) ?_; (with_reducible refine (radix_word.calls (x0_2.extract 0 (ji12 : Int).toNat) a1 t131 _ A21.out).mono ?_); rintro e w31 ⟨rfl, hb⟩; refine ⟨_, rfl, ?_⟩; replace HO_10 := oB HO_10.out hb; replace HO126 := oB HO126.out hb; replace HO130 := oB HO130.out hb; replace HB := hS HB.out hb; (try clear hb)) | ((with_reducible refine gate_callee (f := 30) rfl ?_); refine gL (some 89) Tryd.func30 #[.int .u64 t131] ?_; (with_reducible refine (nat_From.calls t131 t132 _ A22.out).mono ?_); rintro e w32 ⟨v133, rfl, ho0, hb⟩; refine ⟨_, rfl, ?_⟩; have HO134 := aM (Kd.R_lower (nW (nW (nW ho0 HO_10.out) HO126.out) HO130.out) (below_size dB)); replace HO_10 := oE HO_10.out ho0 hb; replace HO126 := oE HO126.out ho0 hb; replace HO130 := oE HO130.out ho0 hb; replace HB := hS HB.out hb; (try clear hb); (try clear ho0); obtain ⟨Ao33, co33, rfl⟩ := Kd.R_slice HO130.out; obtain ⟨Ao34, co34, rfl⟩ := Kd.R_slice HO134.out) | ((with_reducible refine gate_callee (f := 31) rfl ?_); refine gL (some 90) Tryd.func31 #[.slice Ao33 t127.length co33, .slice Ao34 t132.length co34] ?_; (with_reducible refine (nat_Add.calls kj12 _ _ t127 _ _ t132 t135 t136 _ ?side1 (Kd.R_reads' HO130.out).2.1 ?side3 (Kd.R_reads' HO134.out).2.1 A23.out).mono ?_); (case side1 => exact dC (Kd.R_reads' HO130.out).2.2); (case side3 => exact dC (Kd.R_reads' HO134.out).2.2); rintro e w35 ⟨v137, rfl, ho0, hb⟩; refine ⟨_, rfl, ?_⟩; have HO138 := aM (Kd.R_lower (nW (nW (nW (nW ho0 HO_10.out) HO126.out) HO130.out) HO134.out) (below_size dB)); replace HO_10 := oE HO_10.out ho0 hb; replace HO126 := oE HO126.out ho0 hb; replace HO130 := oE HO130.out ho0 hb; replace HO134 := oE HO134.out ho0 hb; replace HB := hS HB.out hb; (try clear hb); (try clear ho0)))
            go_roundg kj12
            case measure => have := HJ2.out; have := HK2.out; have := HJ12.out; omega
            case rel => exact ⟨(x0_2.extract (ji12 : Int).toNat x0_2.size), (t135), (by first | rfl | (simp; done) | (simp only [← hji12] <;> (first | rfl | simp)) | (simp [*]; done)), H', ⟨by have := HJ2.out; have := HK2.out; have := HJ12.out; omega⟩, ⟨oM HO138.out (fun _ hk => trivial)⟩, ⟨dB⟩⟩
           ·rw [if_neg c24] at H
            obtain ⟨c24b0, c24b1⟩ := bF c24
            simp only [Option.some.injEq, Prod.mk.injEq] at H
            obtain ⟨rfl, rfl⟩ := H
            go_wp2_with (first | ((with_reducible refine gate_callee (f := 30) rfl ?_); refine gL (some 74) Tryd.func30 #[.int .u64 x12_12] ?_; (with_reducible refine (nat_From.calls x12_12 t124 _ A16.out).mono ?_); rintro e w36 ⟨v125, rfl, ho0, hb⟩; refine ⟨_, rfl, ?_⟩; have HO126 := aM (Kd.R_lower (nW ho0 HO_10.out) (below_size dB)); replace HO_10 := oE HO_10.out ho0 hb; replace HB := hS HB.out hb; (try clear hb); (try clear ho0); obtain ⟨Ao37, co37, rfl⟩ := Kd.R_slice HO_10.out; obtain ⟨Ao38, co38, rfl⟩ := Kd.R_slice HO126.out) | ((with_reducible refine gate_callee (f := 29) rfl ?_); refine gL (some 75) Tryd.func29 #[.slice Ao37 x10_2.length co37, .slice Ao38 t124.length co38] ?_; (with_reducible refine (nat_Mul.calls kj12 _ _ x10_2 _ _ t124 t127 t128 _ ?side1 (Kd.R_reads' HO_10.out).2.1 ?side3 (Kd.R_reads' HO126.out).2.1 A17.out).mono ?_); (case side1 => exact dC (Kd.R_reads' HO_10.out).2.2); (case side3 => exact dC (Kd.R_reads' HO126.out).2.2); rintro e w39 ⟨v129, rfl, ho0, hb⟩; refine ⟨_, rfl, ?_⟩; have HO130 := aM (Kd.R_lower (nW (nW ho0 HO_10.out) HO126.out) (below_size dB)); replace HO_10 := oE HO_10.out ho0 hb; replace HO126 := oE HO126.out ho0 hb; replace HB := hS HB.out hb; (try clear hb); (try clear ho0)) | ((with_reducible refine gate_callee (f := 32) rfl ?_); refine goesL_ (some 88) rfl rfl Tryd.func32 (by kernel_rfl) rfl #[.string (x0_2.extract 0 (ji12 : Int).toNat), .int .i64 a1] rfl (by (try simp only [List.map_toArray, List.map_cons, List.map_nil]); first | done | (simp only [hji12]; rfl) | rfl | (simp only [List.length_drop, List.length_take]; rfl)) ?_; (with_reducible refine (radix_word.calls (x0_2.extract 0 (ji12 : Int).toNat) a1 t131 _ A21.out).mono ?_); rintro e w40 ⟨rfl, hb⟩; refine ⟨_, rfl, ?_⟩; replace HO_10 := oB HO_10.out hb; replace HO126 := oB HO126.out hb; replace HO130 := oB HO130.out hb; replace HB := hS HB.out hb; (try clear hb)) | ((with_reducible refine gate_callee (f := 30) rfl ?_); refine gL (some 89) Tryd.func30 #[.int .u64 t131] ?_; (with_reducible refine (nat_From.calls t131 t132 _ A22.out).mono ?_); rintro e w41 ⟨v133, rfl, ho0, hb⟩; refine ⟨_, rfl, ?_⟩; have HO134 := aM (Kd.R_lower (nW (nW (nW ho0 HO_10.out) HO126.out) HO130.out) (below_size dB)); replace HO_10 := oE HO_10.out ho0 hb; replace HO126 := oE HO126.out ho0 hb; replace HO130 := oE HO130.out ho0 hb; replace HB := hS HB.out hb; (try clear hb); (try clear ho0); obtain ⟨Ao42, co42, rfl⟩ := Kd.R_slice HO130.out; obtain ⟨Ao43, co43, rfl⟩ := Kd.R_slice HO134.out) | ((with_reducible refine gate_callee (f := 31) rfl ?_); refine gL (some 90) Tryd.func31 #[.slice Ao42 t127.length co42, .slice Ao43 t132.length co43] ?_; (with_reducible refine (nat_Add.calls kj12 _ _ t127 _ _ t132 t135 t136 _ ?side1 (Kd.R_reads' HO130.out).2.1 ?side3 (Kd.R_reads' HO134.out).2.1 A23.out).mono ?_); (case side1 => exact dC (Kd.R_reads' HO130.out).2.2); (case side3 => exact dC (Kd.R_reads' HO134.out).2.2); rintro e w44 ⟨v137, rfl, ho0, hb⟩; refine ⟨_, rfl, ?_⟩; have HO138 := aM (Kd.R_lower (nW (nW (nW (nW ho0 HO_10.out) HO126.out) HO130.out) HO134.out) (below_size dB)); replace HO_10 := oE HO_10.out ho0 hb; replace HO126 := oE HO126.out ho0 hb; replace HO130 := oE HO130.out ho0 hb; replace HO134 := oE HO134.out ho0 hb; replace HB := hS HB.out hb; (try clear hb); (try clear ho0)) | ((with_reducible refine gate_callee (f := 26) rfl ?_); refine goesL_ (some 96) rfl rfl Tryd.func26 (by kernel_rfl) rfl #[.int .i64 0, .int .i64 t136] rfl (by (try simp only [List.map_toArray, List.map_cons, List.map_nil]); first | done | rfl) ?_; (with_reducible refine (api_Wrap.calls 0 t136 _).mono ?_); rintro e w' ⟨rfl, ⟨nde, rfl⟩⟩; refine ⟨_, rfl, ?_⟩))
            go_ret2
            exact ⟨_, _, by first | rfl | (simp; done) | (simp [*]; done), Kd.R_nil _ _ _ _ _, dB, fault_new _ c24 (below_size dB)⟩
          ·rw [if_neg c18] at H
           obtain ⟨c18b0, c18b1⟩ := bF c18
           simp only [Option.some.injEq, Prod.mk.injEq] at H
           obtain ⟨rfl, rfl⟩ := H
           go_wp2_with (first | ((with_reducible refine gate_callee (f := 30) rfl ?_); refine gL (some 74) Tryd.func30 #[.int .u64 x12_12] ?_; (with_reducible refine (nat_From.calls x12_12 t124 _ A16.out).mono ?_); rintro e w45 ⟨v125, rfl, ho0, hb⟩; refine ⟨_, rfl, ?_⟩; have HO126 := aM (Kd.R_lower (nW ho0 HO_10.out) (below_size dB)); replace HO_10 := oE HO_10.out ho0 hb; replace HB := hS HB.out hb; (try clear hb); (try clear ho0); obtain ⟨Ao46, co46, rfl⟩ := Kd.R_slice HO_10.out; obtain ⟨Ao47, co47, rfl⟩ := Kd.R_slice HO126.out) | ((with_reducible refine gate_callee (f := 29) rfl ?_); refine gL (some 75) Tryd.func29 #[.slice Ao46 x10_2.length co46, .slice Ao47 t124.length co47] ?_; (with_reducible refine (nat_Mul.calls kj12 _ _ x10_2 _ _ t124 t127 t128 _ ?side1 (Kd.R_reads' HO_10.out).2.1 ?side3 (Kd.R_reads' HO126.out).2.1 A17.out).mono ?_); (case side1 => exact dC (Kd.R_reads' HO_10.out).2.2); (case side3 => exact dC (Kd.R_reads' HO126.out).2.2); rintro e w48 ⟨v129, rfl, ho0, hb⟩; refine ⟨_, rfl, ?_⟩; have HO130 := aM (Kd.R_lower (nW (nW ho0 HO_10.out) HO126.out) (below_size dB)); replace HO_10 := oE HO_10.out ho0 hb; replace HO126 := oE HO126.out ho0 hb; replace HB := hS HB.out hb; (try clear hb); (try clear ho0)) | ((with_reducible refine gate_callee (f := 26) rfl ?_); refine goesL_ (some 81) rfl rfl Tryd.func26 (by kernel_rfl) rfl #[.int .i64 0, .int .i64 t128] rfl (by (try simp only [List.map_toArray, List.map_cons, List.map_nil]); first | done | rfl) ?_; (with_reducible refine (api_Wrap.calls 0 t128 _).mono ?_); rintro e w' ⟨rfl, ⟨nde, rfl⟩⟩; refine ⟨_, rfl, ?_⟩))
           go_ret2
           exact ⟨_, _, by first | rfl | (simp; done) | (simp [*]; done), Kd.R_nil _ _ _ _ _, dB, fault_new _ c18 (below_size dB)⟩
end Go.Proofs.YthjleohmlohgbaaDoor.PA
