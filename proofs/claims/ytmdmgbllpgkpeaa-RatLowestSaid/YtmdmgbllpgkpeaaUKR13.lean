/- A part of the proof (13). -/
import Derived.Test.YtmdmgbllpgkpeaaUKR11
import Derived.Test.YtmdmgbllpgkpeaaUKR12
import Derived.OpenShut
import Derived.LaidLaws
import Derived.LaidHandle
import Derived.MakeChecks
import Derived.WideShapes
import Derived.ChangeArms
namespace Go.Proofs.Ytmdmgbllpgkpeaa.Pure
open Go Go.RowKit Go.Proofs.Ytmdmgbllpgkpeaa.PA Go.Proofs.YtmdmgbllpgkpeaaW.PrintWords Go.Proofs.YtmdmgbllpgkpeaaW.PrintLast
set_option linter.unusedVariables false
theorem ratLowest_pure (neg : Bool) (l1 l2 : List Int) (hl1 : ∀ x ∈ l1, 0 ≤ x ∧ x < 18446744073709551616) (hl2 : ∀ x ∈ l2, 0 ≤ x ∧ x < 18446744073709551616) (w v : Int) (hw0 : 0 ≤ w) (hw1 : w < 18446744073709551616) (hv0 : -9223372036854775808 ≤ v) (hv1 : v < 9223372036854775808) : ∃ k, plumblaw05_RatLowest.f k neg l1 l2 w v = some true := by
  obtain ⟨t, ht⟩ : ∃ t : Nat, t = 768 := ⟨_, rfl⟩
  obtain ⟨c, hc⟩ : ∃ c : Nat, c = 262144 := ⟨_, rfl⟩
  obtain ⟨x, y, A, B, hx, hy, lx, ly, vx, vy, hB, bA, bB, hwh⟩ := part_whole neg l1 l2 hl1 hl2 t ht
  obtain ⟨W, hW, W0, W1⟩ : ∃ W : Nat, (if w = 0 then 1 else w) = (W : Int) ∧ W ≠ 0 ∧ W < 2 ^ 64 := by
    have e64 : (2 : Nat) ^ 64 = 18446744073709551616 := by decide
    by_cases h : w = 0
    · exact ⟨1, by rw [if_pos h]; rfl, by decide, by rw [e64]; decide⟩
    · exact ⟨w.toNat, by rw [if_neg h]; omega, by omega, by rw [e64]; omega⟩
  obtain ⟨N, D, hR, hcr, lN, lD⟩ := rzv_is (sg neg A) (Nat.ne_of_gt hB)
  rw [sg_abs] at lN
  obtain ⟨k, hk⟩ : ∃ k : Nat, k = B * W + B + 300000000 := ⟨_, rfl⟩
  have hmade := part_made neg l1 l2 x y A B hx hy lx ly vx vy hB t ht bA bB hwh (k + 4) (by omega)
  have hBW : B * W ≠ 0 := Nat.mul_ne_zero (Nat.ne_of_gt hB) W0
  rw [hR.eq] at hmade
  have hN0 : N < 0 ↔ (neg = true ∧ A ≠ 0) := by
    have h1 := sg_neg neg A
    have e := congrArg Prod.fst hR.eq
    have e2 : decide (sg neg A < 0) = decide (N < 0) := e
    rw [h1] at e2
    rw [← decide_eq_true_iff (p := N < 0), ← e2]
    simp
  have hcr2 : A * D = N.natAbs * B := by
    have := congrArg Int.natAbs hcr
    rwa [Int.natAbs_mul, Int.natAbs_mul, Int.natAbs_natCast, Int.natAbs_natCast, sg_abs] at this
  have hA0 : N.natAbs = 0 ↔ A = 0 := by
    constructor
    · intro h
      rw [h, Nat.zero_mul] at hcr2
      rcases Nat.mul_eq_zero.1 hcr2 with h | h
      · exact h
      · exact absurd h hR.pos
    · intro h
      rw [h, Nat.zero_mul] at hcr2
      rcases Nat.mul_eq_zero.1 hcr2.symm with h | h
      · exact h
      · omega
  have bN : N.natAbs < 2 ^ t := Nat.lt_of_le_of_lt lN bA
  have bD : D < 2 ^ t := Nat.lt_of_le_of_lt lD bB
  have prod : ∀ X Y : Nat, X < 2 ^ t → Y < 2 ^ t → X * Y < 2 ^ (t + t) := fun X Y hX hY => by rw [Nat.pow_add]; exact Nat.mul_lt_mul'' hX hY
  have lens : ∀ n : Nat, n < 2 ^ t → (wd n).length ≤ 1000 := fun n hn => wd_lenb hn 1000 (by omega)
  have m1 : nat_Mul.f (k + 3) x (wd D) = some (wd (A * D), 0) := mul_wd x (wd D) hx (wd_ws _) (by omega) (lens D bD) A D vx (nv_wd _) (prod A D bA bD) c hc (by omega) (k + 3) (by omega)
  have m2 : nat_Mul.f (k + 3) (wd N.natAbs) y = some (wd (A * D), 0) := by rw [hcr2]; exact mul_wd (wd N.natAbs) y (wd_ws _) hy (lens _ bN) (by omega) N.natAbs B (nv_wd _) vy (prod _ B bN bB) c hc (by omega) (k + 3) (by omega)
  have wW : Ws [(W : Int)] := by
    rw [show (2 : Nat) ^ 64 = 18446744073709551616 from by decide] at W1
    exact Ws.cons (by omega) (by omega) Ws.nil
  have wW0 : Ws [(W : Int), 0] := by
    rw [show (2 : Nat) ^ 64 = 18446744073709551616 from by decide] at W1
    exact Ws.cons (by omega) (by omega) (Ws.cons (by decide) (by decide) Ws.nil)
  have one_len : ∀ v : Int, [v].length ≤ 1000 := fun _ => Nat.le_of_ble_eq_true rfl
  have two_len : ∀ v : Int, [v, 0].length ≤ 1000 := fun _ => Nat.le_of_ble_eq_true rfl
  have bAW : A * W < 2 ^ (t + 64) := by rw [Nat.pow_add]; exact Nat.mul_lt_mul'' bA W1
  have bBW : B * W < 2 ^ (t + 64) := by rw [Nat.pow_add]; exact Nat.mul_lt_mul'' bB W1
  have m3 : nat_Mul.f (k + 1) x [(W : Int)] = some (wd (A * W), 0) := mul_wd x _ hx wW (by omega) (one_len _) A W vx (by simp [nv]) bAW c hc (by omega) (k + 1) (by omega)
  have m4 : nat_Mul.f (k + 1) y [(W : Int), 0] = some (wd (B * W), 0) := mul_wd y _ hy wW0 (by omega) (two_len _) B W vy (by simp [nv]) bBW c hc (by omega) (k + 1) (by omega)
  have hsame : rzv (sg neg (A * W)) (B * W) = (decide (N < 0), wd N.natAbs, wd D) := by
    rw [← hR.eq]
    refine rzv_same hBW (Nat.ne_of_gt hB) ?_
    rw [← sg_mul neg A W, Int.natCast_mul]
    generalize sg neg A = P
    grind
  have n1 : rat_New.f (k + 1) neg (wd (A * W)) (wd (B * W)) = some (decide (N < 0), wd N.natAbs, wd D, 0) := by
    rw [rat_New.rz neg _ _ (wd_ws _) (wd_ws _) (wd_lenb bAW 4096 (by omega)) (wd_lenb bBW 4096 (by omega)) (A * W) (B * W) (nv_wd _) (nv_wd _) hBW (k + 1) (by omega), hsame]
  obtain ⟨u, hu⟩ : ∃ u : Int, u = (v.natAbs : Int) := ⟨_, rfl⟩
  have hint : rat_Int.f v = some (decide (v < 0), wd v.natAbs, wd 1) := rat_Int.eq v hv0 hv1
  have n2 : rat_New.f k (decide (v < 0)) [u, 0] [1] = some (decide (v < 0), wd v.natAbs, wd 1, 0) := by
    have wu : Ws [u, 0] := Ws.cons (by omega) (by omega) (Ws.cons (by decide) (by decide) Ws.nil)
    have w1 : Ws [(1 : Int)] := Ws.cons (by decide) (by decide) Ws.nil
    have es : sg (decide (v < 0)) v.natAbs = v := by unfold sg; by_cases h : v < 0 <;> simp [h] <;> omega
    rw [rat_New.rz (decide (v < 0)) _ _ wu w1 (Nat.le_of_ble_eq_true rfl) (Nat.le_of_ble_eq_true rfl) v.natAbs 1 (by rw [hu]; simp [nv]) (by simp [nv]) (by decide) k (by omega), es]
    unfold rzv
    rw [Nat.gcd_one_right, Nat.div_one, Nat.div_one]
  have kbig : 300000000 ≤ k := by rw [hk]; exact Nat.le_add_left _ _
  have hlN : (wd N.natAbs).length < k ∧ (wd N.natAbs).length ≤ 1000000 := by have h := lens _ bN; clear bA bB bN bD bAW bBW; omega
  have hlD : (wd D).length < k ∧ (wd D).length ≤ 1000000 := by have h := lens _ bD; clear bA bB bN bD bAW bBW; omega
  have hlv : (wd v.natAbs).length < k ∧ (wd v.natAbs).length ≤ 1000000 := by have h := wd_int_len v hv0 hv1; clear bA bB bN bD bAW bBW; omega
  have hl1 : (wd 1).length < k ∧ (wd 1).length ≤ 1000000 := by have h := wd_one_len; clear bA bB bN bD bAW bBW; omega
  have hlAD : (wd (A * D)).length < k + 3 ∧ (wd (A * D)).length ≤ 1000000 := by have h := wd_lenb (prod A D bA bD) 1000 (by omega); clear bA bB bN bD bAW bBW; omega
  have hlo : ([(1 : Int)]).length < k + 3 ∧ ([(1 : Int)]).length ≤ 1000000 := ⟨by show 1 < k + 3; omega, Nat.le_of_ble_eq_true rfl⟩
  have j3 : ∀ q : Bool, q = decide (v < 0) → plumblaw05_RatLowest.j3 (k + 1) v 0 0 0 u (decide (N < 0)) (wd N.natAbs) (wd D) (decide (N < 0)) (wd N.natAbs) (wd D) = some true := by
    intro _ _
    rw [plumblaw05_RatLowest.j3, n2, Option.bind_some, if_pos rfl, if_pos rfl, if_pos rfl, if_pos rfl, one_refl _ _ _ k hlN hlD, Option.bind_some, if_pos rfl, hint, Option.bind_some, one_refl _ _ _ k hlv hl1, Option.bind_some]
  have j2 : plumblaw05_RatLowest.j2 (k + 2) (W : Int) v x y neg l1 l2 (decide (N < 0)) (wd N.natAbs) (wd D) = some true := by
    rw [plumblaw05_RatLowest.j2, m3, Option.bind_some, m4, Option.bind_some, n1, Option.bind_some]
    by_cases h : v < 0
    · have e : IntKind.u64.wrap (-(IntKind.u64.wrap v)) = u := by rw [hu]; exact wrap_neg v h hv0
      rw [if_pos h, e]; exact j3 _ rfl
    · have e : IntKind.u64.wrap v = u := by rw [hu]; exact wrap_pos v h hv1
      rw [if_neg h, e]; exact j3 _ rfl
  have j1 : plumblaw05_RatLowest.j1 (k + 3) w v x y false neg l1 l2 (decide (N < 0)) (wd N.natAbs) (wd D) = some true := by
    rw [plumblaw05_RatLowest.j1, if_neg (by decide)]
    by_cases h : w = 0
    · rw [if_pos h] at hW ⊢; rw [hW]; exact j2
    · rw [if_neg h] at hW ⊢; rw [hW]; exact j2
  have hg : quot_Gcd.f (k + 3) (wd N.natAbs) (wd D) = some [1] := by
    rw [quot_Gcd.f_eq _ _ (wd_ws _) (wd_ws _) (by have := lens _ bN; omega) (by have := lens _ bD; omega) N.natAbs D (nv_wd _) (nv_wd _) (k + 3) (by omega), hR.low, wd_one]
  have j0 : plumblaw05_RatLowest.j0 (k + 4) w v x y (!true) neg l1 l2 (decide (N < 0)) (wd N.natAbs) (wd D) = some true := by
    rw [plumblaw05_RatLowest.j0, if_neg (by decide), m1, Option.bind_some, m2, Option.bind_some, hg, Option.bind_some, if_pos rfl, if_pos rfl, same_refl _ (k + 3) hlAD, Option.bind_some, if_pos rfl, same_refl _ (k + 3) hlo, Option.bind_some, if_pos rfl]
    have hpos : ((wd N.natAbs).length : Int) > 0 ↔ A ≠ 0 := by rw [wd_pos_len]; exact not_congr hA0
    have hlen0 : ((wd N.natAbs).length : Int) = 0 → A = 0 := fun h => Decidable.byContradiction fun h0 => by have := hpos.2 h0; omega
    have tail : (if neg = true then (plumblaw05_RatLowest.j1 (k + 3) w v x y ((decide (((wd N.natAbs).length : Int) > 0)) != (decide (N < 0))) neg l1 l2 (decide (N < 0)) (wd N.natAbs) (wd D)) else (plumblaw05_RatLowest.j1 (k + 3) w v x y (false != (decide (N < 0))) neg l1 l2 (decide (N < 0)) (wd N.natAbs) (wd D))) = some true := by
      by_cases hn : neg = true
      · have e : ((decide (((wd N.natAbs).length : Int) > 0)) != (decide (N < 0))) = false := by
          rw [bne_eq_false_iff_eq, decide_eq_decide, hpos, hN0]; simp [hn]
        rw [if_pos hn, e]; exact j1
      · have e : (false != (decide (N < 0))) = false := by
          rw [bne_eq_false_iff_eq]; symm; rw [decide_eq_false_iff_not, hN0]; simp [hn]
        rw [if_neg hn, e]; exact j1
    by_cases hs : N < 0
    · have hA := (hN0.1 hs).2
      rw [if_pos (decide_eq_true hs), if_neg (fun h => hA (hlen0 h))]
      exact tail
    · rw [if_neg (show ¬ decide (N < 0) = true by rw [decide_eq_true_iff]; exact hs)]
      exact tail
  refine ⟨k + 4, ?_⟩
  rw [plumblaw05_RatLowest.f, hwh (k + 4) (by omega), Option.bind_some, hmade, Option.bind_some, if_pos rfl, alive05 (k + 4) (by omega), Option.bind_some]
  exact j0
end Go.Proofs.Ytmdmgbllpgkpeaa.Pure

namespace Go.Proofs.YtmdmgbllpgkpeaaW.PrintWords
open Go
/-- a struct of three fields of one cell, opened -/
theorem open_three {H : Type} {enc : TypeId × Value → H} {P : Program} {w : World} {base b0 : Nat} {spare : Nat → Bool} {held : Bool} {r : Reach} {t : TypeId} {f0 f1 f2 : Field} {v : Value} {d : DataW H} {p : List MemPlace} (hs : P.underlying t = some (.struct #[f0, f1, f2]))
    (hC : P.cellsOf t = 3) (o0 : f0.offset = 0) (o1 : f1.offset = 1) (o2 : f2.offset = 2) (k0 : P.cellsOf f0.type = 1) (k1 : P.cellsOf f1.type = 1) (k2 : P.cellsOf f2.type = 1)
    (hv : Value.okWide P w r b0 t v) (h : DataW.Trod enc P w base spare held t v d p) :
    ∃ (v0 v1 v2 : Value) (y0 y1 y2 : DataW H × List MemPlace) (n : Nat), v = .agg #[v0, v1, v2] ∧ d = .agg [y0.1, y1.1, y2.1] ∧
      DataW.trod enc P w base spare held n f0.type [v0] = some y0 ∧ DataW.trod enc P w base spare held n f1.type [v1] = some y1 ∧ DataW.trod enc P w base spare held n f2.type [v2] = some y2 := by
  obtain ⟨cs, rfl, hsz⟩ := WideShapes.okWide_struct hs hv
  rw [hC] at hsz
  obtain ⟨l⟩ := cs
  match l, hsz with
  | [c0, c1, c2], _ =>
    obtain ⟨fuel, hf⟩ := h
    obtain ⟨xs, n, _, hx, hl, hlen, hg⟩ := DataW.trod_struct hs hf
    match xs, hlen with
    | [y0, y1, y2], _ =>
      have g0 := hg 0 f0 rfl
      have g1 := hg 1 f1 rfl
      have g2 := hg 2 f2 rfl
      rw [o0, k0] at g0
      rw [o1, k1] at g1
      rw [o2, k2] at g2
      simp only [Prod.mk.injEq, List.map_cons, List.map_nil] at hx
      exact ⟨c0, c1, c2, y0, y1, y2, n, rfl, hx.1, by simpa [Value.cells] using g0, by simpa [Value.cells] using g1, by simpa [Value.cells] using g2⟩
end Go.Proofs.YtmdmgbllpgkpeaaW.PrintWords
