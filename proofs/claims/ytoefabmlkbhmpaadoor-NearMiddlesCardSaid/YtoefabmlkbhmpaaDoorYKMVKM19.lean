/- A part of the proof (19). -/
import Derived.Test.YtoefabmlkbhmpaaDoorYKMVKM18
import Derived.Test.YtoefabmlkbhmpaaDoorYKMVKM16
import Derived.OpenShut
import Derived.LaidLaws
import Derived.LaidHandle
import Derived.MakeChecks
import Derived.WideShapes
import Derived.ChangeArms
namespace Go.Proofs.YtoefabmlkbhmpaaDoor.PA
open Go Go.RowKit Go.Proofs.YtoefabmlkbhmpaaDoorW.PrintWords Go.Proofs.YtoefabmlkbhmpaaDoorW.PrintLast Go.Proofs.YtoefabmlkbhmpaaDoorW.PrintMore
set_option linter.unusedVariables false
set_option linter.unusedSimpArgs false
theorem sub_wd (x y : List Int) (hx : Ws x) (hy : Ws y) (lx : x.length ≤ 1000000) (ly : y.length ≤ 1000000) (X Y : Nat) (vx : nv x = (X : Int)) (vy : nv y = (Y : Int)) (hle : Y ≤ X) {n : Nat} (h : X < 2 ^ n) (c : Nat) (hc : c = 262144) (hn : n ≤ c) (k : Nat) (hk : 3000000 < k) :
  nat_Sub.f k x y = some (wd (X - Y), 0) := by
 have e : (X : Int) - (Y : Int) = ((X - Y : Nat) : Int) := by omega
 rw [nat_Sub.f_eq x y hx hy lx ly (by rw [vx, vy]; exact Int.ofNat_le.2 hle) k hk, vx, vy, e, bnd_nat hc (Nat.lt_of_le_of_lt (Nat.sub_le _ _) h) hn]
theorem rat_AddC1.ok (s1 s2 : Bool) (A1 D1 A2 D2 : Nat) (h1 : s1 = true → A1 ≠ 0) (h2 : s2 = true → A2 ≠ 0) (d1 : D1 ≠ 0) (d2 : D2 ≠ 0) (b : Nat) (hb : b ≤ 60000) (bA1 : A1 < 2 ^ b) (bD1 : D1 < 2 ^ b) (bA2 : A2 < 2 ^ b) (bD2 : D2 < 2 ^ b) (k : Nat) (hk : D1 * D2 + 20000000 < k) :
  rat_AddC1.f k s1 (wd A1) (wd D1) s2 (wd A2) (wd D2) = some (rzv (sg s1 A1 * D2 + sg s2 A2 * D1) (D1 * D2)) := by
 obtain ⟨k, rfl⟩ : ∃ j, k = j + 1 := ⟨k - 1, by omega⟩
 obtain ⟨c, hc⟩ : ∃ c : Nat, c = 262144 := ⟨_, rfl⟩
 have lens : ∀ n : Nat, n < 2 ^ b → (wd n).length ≤ 1000 := fun n hn => wd_lenb hn 1000 (by omega)
 have prod : ∀ X Y : Nat, X < 2 ^ b → Y < 2 ^ b → X * Y < 2 ^ (b + b) := fun X Y hX hY => by rw [Nat.pow_add]; exact Nat.mul_lt_mul'' hX hY
 have mulE : ∀ X Y : Nat, X < 2 ^ b → Y < 2 ^ b → rat_mul.f (k + 1) (wd X) (wd Y) = some (wd (X * Y)) := fun X Y hX hY => rat_mul.ok _ _ (wd_ws _) (wd_ws _) (lens X hX) (lens Y hY) X Y (nv_wd _) (nv_wd _) (prod X Y hX hY) c hc (by omega) (k + 1) (by omega)
 have len2 : ∀ n : Nat, n < 2 ^ (b + b + 1) → (wd n).length ≤ 1000000 := fun n hn => wd_lenb hn 1000000 (by omega)
 have grow : ∀ n : Nat, n < 2 ^ (b + b) → n < 2 ^ (b + b + 1) := fun n hn => Nat.lt_of_lt_of_le hn (Nat.pow_le_pow_right (by decide) (by omega))
 have pn := prod A1 D2 bA1 bD2
 have pm := prod A2 D1 bA2 bD1
 have pd := prod D1 D2 bD1 bD2
 have hd : D1 * D2 ≠ 0 := Nat.mul_ne_zero d1 d2
 rw [rat_AddC1.f, mulE A1 D2 bA1 bD2, Option.bind_some, mulE A2 D1 bA2 bD1, Option.bind_some, mulE D1 D2 bD1 bD2, Option.bind_some, sg_mul, sg_mul]
 have z1 : A1 * D2 = 0 → s1 = false := by
  intro h
  rcases Nat.mul_eq_zero.1 h with h | h
  ·cases s1
   ·rfl
   ·exact absurd h (h1 rfl)
  ·exact absurd h d2
 have z2 : A2 * D1 = 0 → s2 = false := by
  intro h
  rcases Nat.mul_eq_zero.1 h with h | h
  ·cases s2
   ·rfl
   ·exact absurd h (h2 rfl)
  ·exact absurd h d1
 generalize A1 * D2 = n at *
 generalize A2 * D1 = m at *
 generalize D1 * D2 = D at *
 clear mulE prod h1 h2 d1 d2 bA1 bA2 bD1 bD2
 have low : ∀ (s : Bool) (X : Nat), X < 2 ^ (b + b + 1) → rat_lowest.f k s (wd X) (wd D) = some (rzv (sg s X) D) := fun s X hX => rat_lowest.rz s _ _ (wd_ws _) (wd_ws _) (len2 X hX) (len2 D (grow D pd)) X D (nv_wd _) (nv_wd _) hd k (by omega)
 have psum : n + m < 2 ^ (b + b + 1) := by rw [Nat.pow_succ]; omega
 have sum : nat_Add.f k (wd n) (wd m) = some (wd (n + m), 0) := (add_ok _ _ (wd_ws _) (wd_ws _) (len2 n (grow n pn)) (len2 m (grow m pm)) n m (nv_wd _) (nv_wd _) psum c hc (by omega) k (by omega)).1
 have viaSum : (s1 = s2 ∨ n = 0 ∨ m = 0) → rat_AddC1.j0 (k + 1) (wd n) (wd m) (wd D) true s1 (wd A1) (wd D1) s2 (wd A2) (wd D2) = some (rzv (sg s1 n + sg s2 m) D) := by
  intro hh
  rw [rat_AddC1.j0, if_pos rfl]
  have fin : ∀ s : Bool, sg s (n + m) = sg s1 n + sg s2 m → ((nat_Add.f k (wd n) (wd m)).bind fun bt421 => ((rat_fits.f bt421.1 bt421.2).bind fun t425 => ((rat_lowest.f k s t425 (wd D)).bind fun bt428 => (some (bt428.1, bt428.2.1, bt428.2.2))))) = some (rzv (sg s1 n + sg s2 m) D) := by
   intro s hs
   rw [sum, Option.bind_some, rat_fits.f, if_pos rfl, Option.bind_some, low s (n + m) psum, Option.bind_some, hs]
  by_cases c1 : s1 = true
  ·rw [if_pos c1]
   apply fin
   rcases hh with h | h | h
   ·rw [← h, c1, sg_add_same]
   ·have := z1 h; rw [c1] at this; cases this
   ·have := z2 h; rw [this, h, Nat.add_zero, sg_zero, Int.add_zero, c1]
  ·have c1' := Bool.eq_false_iff.mpr c1
   rw [if_neg c1]
   apply fin
   rcases hh with h | h | h
   ·rw [h, sg_add_same]
   ·rw [h, sg_zero, Nat.zero_add, Int.zero_add]
   ·have := z2 h; rw [this, c1', h, Nat.add_zero, sg_zero, Int.add_zero]
 have nlen : ∀ z : Nat, ((wd z).length : Int) = 0 ↔ z = 0 := by
  intro z
  have := wd_pos_len z
  constructor
  ·intro h; exact Decidable.byContradiction fun h0 => by have := this.2 h0; omega
  ·intro h; rw [h, wd_zero]; rfl
 by_cases c0 : s1 = s2
 ·have e : (s1 == s2) = true := beq_iff_eq.2 c0
  rw [if_pos e]; exact viaSum (.inl c0)
 ·have e : ¬ (s1 == s2) = true := fun h => c0 (beq_iff_eq.1 h)
  rw [if_neg e]
  by_cases c1 : n = 0
  ·rw [if_pos ((nlen n).2 c1)]; exact viaSum (.inr (.inl c1))
  ·rw [if_neg (fun h => c1 ((nlen n).1 h))]
   by_cases c2 : m = 0
   ·rw [beq_iff_eq.2 ((nlen m).2 c2)]; exact viaSum (.inr (.inr c2))
   ·rw [beq_eq_false_iff_ne.2 (fun h => c2 ((nlen m).1 h))]
    rw [rat_AddC1.j0, if_neg (by decide), cmp_wd n m (len2 n (grow n pn)) (len2 m (grow m pm)) k (by omega), Option.bind_some]
    by_cases c3 : n < m
    ·have q : cmpI (n : Int) (m : Int) < 0 := by unfold cmpI; rw [if_pos (by omega)]; decide
     have es : sg s2 (m - n) = sg s1 n + sg s2 m := by rw [Int.add_comm, sg_add_sub s2 s1 m n (fun h => c0 h.symm) (by omega)]
     rw [if_pos q, sub_wd _ _ (wd_ws _) (wd_ws _) (len2 m (grow m pm)) (len2 n (grow n pn)) m n (nv_wd _) (nv_wd _) (by omega) pm c hc (by omega) k (by omega), Option.bind_some, rat_fits.f, if_pos rfl, Option.bind_some, low s2 (m - n) (Nat.lt_of_le_of_lt (Nat.sub_le _ _) (grow m pm)), Option.bind_some, es]
    ·have q : ¬ cmpI (n : Int) (m : Int) < 0 := by unfold cmpI; rw [if_neg (by omega)]; split <;> decide
     have es : sg s1 (n - m) = sg s1 n + sg s2 m := by rw [sg_add_sub s1 s2 n m c0 (by omega)]
     rw [if_neg q, sub_wd _ _ (wd_ws _) (wd_ws _) (len2 n (grow n pn)) (len2 m (grow m pm)) n m (nv_wd _) (nv_wd _) (by omega) pn c hc (by omega) k (by omega), Option.bind_some, rat_fits.f, if_pos rfl, Option.bind_some, low s1 (n - m) (Nat.lt_of_le_of_lt (Nat.sub_le _ _) (grow n pn)), Option.bind_some, es]
theorem reck_ok {b : Nat} {v u : Bool × List Int × List Int} {N M : Int} {D E : Nat} (hv : IsB b v N D) (hu : IsB b u M E) (hb : b ≤ 60000) (k : Nat) (hk : D + 20000000 < k) (hk2 : E + 20000000 < k) (r : Bool × List Int × List Int) :
  rat_reckoned.f k v.1 v.2.1 v.2.2 u.1 u.2.1 u.2.2 (some r) = some (r.1, r.2.1, r.2.2, 0) := by
 rw [rat_reckoned.f, hv.check hb k hk, Option.bind_some, if_pos rfl, hu.check hb k hk2, Option.bind_some, if_pos rfl, Option.bind_some]
theorem rat_Add.ok {b : Nat} {v u : Bool × List Int × List Int} {N M : Int} {D E : Nat} (hv : IsB b v N D) (hu : IsB b u M E) (hb : b ≤ 60000) (k : Nat) (hk : D * E + D + E + 30000000 < k) :
  rat_Add.f k v.1 v.2.1 v.2.2 u.1 u.2.1 u.2.2 = some ((rzv (N * E + M * D) (D * E)).1, (rzv (N * E + M * D) (D * E)).2.1, (rzv (N * E + M * D) (D * E)).2.2, 0) := by
 have hc : rat_AddC1.f k v.1 v.2.1 v.2.2 u.1 u.2.1 u.2.2 = some (rzv (N * E + M * D) (D * E)) := by
  rw [hv.eq, hu.eq]
  have h := rat_AddC1.ok (decide (N < 0)) (decide (M < 0)) N.natAbs D M.natAbs E (by intro h; have := of_decide_eq_true h; omega) (by intro h; have := of_decide_eq_true h; omega) hv.pos hu.pos b hb hv.num hv.den hu.num hu.den k (by omega)
  rw [sg_self, sg_self] at h
  exact h
 rw [rat_Add.f, rat_reckonedAdd.f, hc, reck_ok hv hu hb k (by omega) (by omega), Option.bind_some]
theorem rat_Add.rz {b : Nat} {P P' : Int} {Q Q' : Nat} (hQ : Q ≠ 0) (hQ' : Q' ≠ 0) (hp : P.natAbs < 2 ^ b) (hq : Q < 2 ^ b) (hp' : P'.natAbs < 2 ^ b) (hq' : Q' < 2 ^ b) (hb : b ≤ 60000) (k : Nat) (hk : Q * Q' + Q + Q' + 30000000 < k) :
  rat_Add.f k (rzv P Q).1 (rzv P Q).2.1 (rzv P Q).2.2 (rzv P' Q').1 (rzv P' Q').2.1 (rzv P' Q').2.2 = some ((rzv (P * Q' + P' * Q) (Q * Q')).1, (rzv (P * Q' + P' * Q) (Q * Q')).2.1, (rzv (P * Q' + P' * Q) (Q * Q')).2.2, 0) := by
 obtain ⟨N, D, h, e, _, l⟩ := rzv_d P hQ hp hq
 obtain ⟨M, E, h', e', _, l'⟩ := rzv_d P' hQ' hp' hq'
 have hm : D * E ≤ Q * Q' := Nat.mul_le_mul l l'
 rw [rat_Add.ok h h' hb k (by omega)]
 have s : rzv (N * E + M * D) (D * E) = rzv (P * Q' + P' * Q) (Q * Q') := rzv_same (Nat.mul_ne_zero h.pos h'.pos) (Nat.mul_ne_zero hQ hQ') (by rw [Int.natCast_mul, Int.natCast_mul]; grind)
 rw [s]
theorem IsB.neg {b : Nat} {u : Bool × List Int × List Int} {M : Int} {E : Nat} (h : IsB b u M E) : ∃ s, rat_turned.f u.1 u.2.1 u.2.2 = some s ∧ IsB b (s, u.2.1, u.2.2) (-M) E := by
 have hn : (-M).natAbs = M.natAbs := Int.natAbs_neg M
 refine ⟨decide (-M < 0), ?_, ⟨⟨h.pos, by rw [hn]; exact h.low, ?_⟩, by rw [hn]; exact h.num, h.den⟩⟩
 ·rw [h.eq, rat_turned.f]
  by_cases hM : M < 0
  ·rw [if_pos (decide_eq_true hM), decide_eq_false (show ¬ -M < 0 by omega)]
  ·rw [if_neg (show ¬ decide (M < 0) = true from fun h => hM (of_decide_eq_true h))]
   have hl := wd_pos_len M.natAbs
   congr 1
   rw [decide_eq_decide]
   show ((wd M.natAbs).length : Int) > 0 ↔ -M < 0
   rw [hl]
   omega
 ·have e := h.eq
  rw [hn]
  rw [Prod.ext_iff] at e
  exact Prod.ext rfl e.2
theorem rat_Sub.ok {b : Nat} {v u : Bool × List Int × List Int} {N M : Int} {D E : Nat} (hv : IsB b v N D) (hu : IsB b u M E) (hb : b ≤ 60000) (k : Nat) (hk : D * E + D + E + 30000000 < k) :
  rat_Sub.f k v.1 v.2.1 v.2.2 u.1 u.2.1 u.2.2 = some ((rzv (N * E - M * D) (D * E)).1, (rzv (N * E - M * D) (D * E)).2.1, (rzv (N * E - M * D) (D * E)).2.2, 0) := by
 obtain ⟨s, hs, hn⟩ := hu.neg
 have ha := rat_Add.ok hv hn hb k hk
 rw [Int.neg_mul, ← Int.sub_eq_add_neg] at ha
 have ha' : rat_Add.f k v.1 v.2.1 v.2.2 s u.2.1 u.2.2 = _ := ha
 rw [rat_Sub.f, hu.check hb k (by omega), Option.bind_some, if_pos rfl, hs, Option.bind_some, ha', Option.bind_some]
theorem rat_Sub.rz {b : Nat} {P P' : Int} {Q Q' : Nat} (hQ : Q ≠ 0) (hQ' : Q' ≠ 0) (hp : P.natAbs < 2 ^ b) (hq : Q < 2 ^ b) (hp' : P'.natAbs < 2 ^ b) (hq' : Q' < 2 ^ b) (hb : b ≤ 60000) (k : Nat) (hk : Q * Q' + Q + Q' + 30000000 < k) :
  rat_Sub.f k (rzv P Q).1 (rzv P Q).2.1 (rzv P Q).2.2 (rzv P' Q').1 (rzv P' Q').2.1 (rzv P' Q').2.2 = some ((rzv (P * Q' - P' * Q) (Q * Q')).1, (rzv (P * Q' - P' * Q) (Q * Q')).2.1, (rzv (P * Q' - P' * Q) (Q * Q')).2.2, 0) := by
 obtain ⟨N, D, h, e, _, l⟩ := rzv_d P hQ hp hq
 obtain ⟨M, E, h', e', _, l'⟩ := rzv_d P' hQ' hp' hq'
 have hm : D * E ≤ Q * Q' := Nat.mul_le_mul l l'
 rw [rat_Sub.ok h h' hb k (by omega)]
 have s : rzv (N * E - M * D) (D * E) = rzv (P * Q' - P' * Q) (Q * Q') := rzv_same (Nat.mul_ne_zero h.pos h'.pos) (Nat.mul_ne_zero hQ hQ') (by rw [Int.natCast_mul, Int.natCast_mul]; grind)
 rw [s]
theorem sg_mulsg (s t : Bool) (X Y : Nat) : sg s X * sg t Y = sg (s != t) (X * Y) := by
 cases s <;> cases t <;> simp [sg, Int.mul_neg, Int.neg_mul]
theorem rat_MulC1.ok (s1 s2 : Bool) (A1 D1 A2 D2 : Nat) (d1 : D1 ≠ 0) (d2 : D2 ≠ 0) (b : Nat) (hb : b ≤ 60000) (bA1 : A1 < 2 ^ b) (bD1 : D1 < 2 ^ b) (bA2 : A2 < 2 ^ b) (bD2 : D2 < 2 ^ b) (k : Nat) (hk : D1 * D2 + 20000000 < k) :
  rat_MulC1.f k s1 (wd A1) (wd D1) s2 (wd A2) (wd D2) = some (rzv (sg s1 A1 * sg s2 A2) (D1 * D2)) := by
 obtain ⟨c, hc⟩ : ∃ c : Nat, c = 262144 := ⟨_, rfl⟩
 have lens : ∀ n : Nat, n < 2 ^ b → (wd n).length ≤ 1000 := fun n hn => wd_lenb hn 1000 (by omega)
 have prod : ∀ X Y : Nat, X < 2 ^ b → Y < 2 ^ b → X * Y < 2 ^ (b + b) := fun X Y hX hY => by rw [Nat.pow_add]; exact Nat.mul_lt_mul'' hX hY
 have mulE : ∀ X Y : Nat, X < 2 ^ b → Y < 2 ^ b → rat_mul.f k (wd X) (wd Y) = some (wd (X * Y)) := fun X Y hX hY => rat_mul.ok _ _ (wd_ws _) (wd_ws _) (lens X hX) (lens Y hY) X Y (nv_wd _) (nv_wd _) (prod X Y hX hY) c hc (by omega) k (by omega)
 have len2 : ∀ n : Nat, n < 2 ^ (b + b) → (wd n).length ≤ 1000000 := fun n hn => wd_lenb hn 1000000 (by omega)
 rw [rat_MulC1.f, mulE A1 A2 bA1 bA2, Option.bind_some, mulE D1 D2 bD1 bD2, Option.bind_some, rat_lowest.rz (s1 != s2) _ _ (wd_ws _) (wd_ws _) (len2 _ (prod A1 A2 bA1 bA2)) (len2 _ (prod D1 D2 bD1 bD2)) (A1 * A2) (D1 * D2) (nv_wd _) (nv_wd _) (Nat.mul_ne_zero d1 d2) k (by omega), Option.bind_some, sg_mulsg]
theorem rat_DivC1.ok (s1 s2 : Bool) (A1 D1 A2 D2 : Nat) (d1 : D1 ≠ 0) (a2 : A2 ≠ 0) (b : Nat) (hb : b ≤ 60000) (bA1 : A1 < 2 ^ b) (bD1 : D1 < 2 ^ b) (bA2 : A2 < 2 ^ b) (bD2 : D2 < 2 ^ b) (k : Nat) (hk : D1 * A2 + 20000000 < k) :
  rat_DivC1.f k s1 (wd A1) (wd D1) s2 (wd A2) (wd D2) = some (rzv (sg (s1 != s2) (A1 * D2)) (D1 * A2)) := by
 obtain ⟨c, hc⟩ : ∃ c : Nat, c = 262144 := ⟨_, rfl⟩
 have lens : ∀ n : Nat, n < 2 ^ b → (wd n).length ≤ 1000 := fun n hn => wd_lenb hn 1000 (by omega)
 have prod : ∀ X Y : Nat, X < 2 ^ b → Y < 2 ^ b → X * Y < 2 ^ (b + b) := fun X Y hX hY => by rw [Nat.pow_add]; exact Nat.mul_lt_mul'' hX hY
 have mulE : ∀ X Y : Nat, X < 2 ^ b → Y < 2 ^ b → rat_mul.f k (wd X) (wd Y) = some (wd (X * Y)) := fun X Y hX hY => rat_mul.ok _ _ (wd_ws _) (wd_ws _) (lens X hX) (lens Y hY) X Y (nv_wd _) (nv_wd _) (prod X Y hX hY) c hc (by omega) k (by omega)
 have len2 : ∀ n : Nat, n < 2 ^ (b + b) → (wd n).length ≤ 1000000 := fun n hn => wd_lenb hn 1000000 (by omega)
 rw [rat_DivC1.f, mulE A1 D2 bA1 bD2, Option.bind_some, mulE D1 A2 bD1 bA2, Option.bind_some, rat_lowest.rz (s1 != s2) _ _ (wd_ws _) (wd_ws _) (len2 _ (prod A1 D2 bA1 bD2)) (len2 _ (prod D1 A2 bD1 bA2)) (A1 * D2) (D1 * A2) (nv_wd _) (nv_wd _) (Nat.mul_ne_zero d1 a2) k (by omega), Option.bind_some]
theorem rat_Mul.ok {b : Nat} {v u : Bool × List Int × List Int} {N M : Int} {D E : Nat} (hv : IsB b v N D) (hu : IsB b u M E) (hb : b ≤ 60000) (k : Nat) (hk : D * E + D + E + 30000000 < k) :
  rat_Mul.f k v.1 v.2.1 v.2.2 u.1 u.2.1 u.2.2 = some ((rzv (N * M) (D * E)).1, (rzv (N * M) (D * E)).2.1, (rzv (N * M) (D * E)).2.2, 0) := by
 have hc : rat_MulC1.f k v.1 v.2.1 v.2.2 u.1 u.2.1 u.2.2 = some (rzv (N * M) (D * E)) := by
  rw [hv.eq, hu.eq]
  have h := rat_MulC1.ok (decide (N < 0)) (decide (M < 0)) N.natAbs D M.natAbs E hv.pos hu.pos b hb hv.num hv.den hu.num hu.den k (by omega)
  rw [sg_self, sg_self] at h
  exact h
 rw [rat_Mul.f, rat_reckonedMul.f, hc, reck_ok hv hu hb k (by omega) (by omega), Option.bind_some]
theorem rat_Div.ok {b : Nat} {v u : Bool × List Int × List Int} {N M : Int} {D E : Nat} (hv : IsB b v N D) (hu : IsB b u M E) (hM : M ≠ 0) (hb : b ≤ 60000) (k : Nat) (hk : D * M.natAbs + D + E + 30000000 < k) :
  rat_Div.f k v.1 v.2.1 v.2.2 u.1 u.2.1 u.2.2 = some ((rzv (N * E * M.sign) (D * M.natAbs)).1, (rzv (N * E * M.sign) (D * M.natAbs)).2.1, (rzv (N * E * M.sign) (D * M.natAbs)).2.2, 0) := by
 have es : sg (decide (N < 0) != decide (M < 0)) (N.natAbs * E) = N * E * M.sign := by
  have h := sg_mulsg (decide (N < 0)) (decide (M < 0)) (N.natAbs * E) 1
  rw [Nat.mul_one] at h
  rw [← h, ← sg_mul, sg_self]
  congr 1
  unfold sg
  by_cases h : M < 0
  ·rw [if_pos (decide_eq_true h), Int.sign_eq_neg_one_of_neg h]; rfl
  ·rw [if_neg (by simp [h]), Int.sign_eq_one_of_pos (by omega)]; rfl
 have hc : rat_DivC1.f k v.1 v.2.1 v.2.2 u.1 u.2.1 u.2.2 = some (rzv (N * E * M.sign) (D * M.natAbs)) := by
  rw [hv.eq, hu.eq, ← es]
  exact rat_DivC1.ok (decide (N < 0)) (decide (M < 0)) N.natAbs D M.natAbs E hv.pos (by omega) b hb hv.num hv.den hu.num hu.den k (by omega)
 have hl : ¬ ((u.2.1.length : Nat) : Int) = 0 := by
  rw [hu.eq]
  have := (wd_pos_len M.natAbs).2 (by omega)
  show ¬ ((wd M.natAbs).length : Int) = 0
  omega
 rw [rat_Div.f, hv.check hb k (by omega), Option.bind_some, if_pos rfl, hu.check hb k (by omega), Option.bind_some, if_pos rfl, if_neg hl, rat_reckonedDiv.f, hc, reck_ok hv hu hb k (by omega) (by omega), Option.bind_some]
theorem rat_Mul.rz {b : Nat} {P P' : Int} {Q Q' : Nat} (hQ : Q ≠ 0) (hQ' : Q' ≠ 0) (hp : P.natAbs < 2 ^ b) (hq : Q < 2 ^ b) (hp' : P'.natAbs < 2 ^ b) (hq' : Q' < 2 ^ b) (hb : b ≤ 60000) (k : Nat) (hk : Q * Q' + Q + Q' + 30000000 < k) :
  rat_Mul.f k (rzv P Q).1 (rzv P Q).2.1 (rzv P Q).2.2 (rzv P' Q').1 (rzv P' Q').2.1 (rzv P' Q').2.2 = some ((rzv (P * P') (Q * Q')).1, (rzv (P * P') (Q * Q')).2.1, (rzv (P * P') (Q * Q')).2.2, 0) := by
 obtain ⟨N, D, h, e, _, l⟩ := rzv_d P hQ hp hq
 obtain ⟨M, E, h', e', _, l'⟩ := rzv_d P' hQ' hp' hq'
 have hm : D * E ≤ Q * Q' := Nat.mul_le_mul l l'
 rw [rat_Mul.ok h h' hb k (by omega)]
 have s : rzv (N * M) (D * E) = rzv (P * P') (Q * Q') := rzv_same (Nat.mul_ne_zero h.pos h'.pos) (Nat.mul_ne_zero hQ hQ') (by rw [Int.natCast_mul, Int.natCast_mul]; grind)
 rw [s]
theorem rat_Div.rz {b : Nat} {P P' : Int} {Q Q' : Nat} (hQ : Q ≠ 0) (hQ' : Q' ≠ 0) (hP' : P' ≠ 0) (hp : P.natAbs < 2 ^ b) (hq : Q < 2 ^ b) (hp' : P'.natAbs < 2 ^ b) (hq' : Q' < 2 ^ b) (hb : b ≤ 60000) (k : Nat) (hk : Q * P'.natAbs + Q + Q' + 30000000 < k) :
  rat_Div.f k (rzv P Q).1 (rzv P Q).2.1 (rzv P Q).2.2 (rzv P' Q').1 (rzv P' Q').2.1 (rzv P' Q').2.2 = some ((rzv (P * Q' * P'.sign) (Q * P'.natAbs)).1, (rzv (P * Q' * P'.sign) (Q * P'.natAbs)).2.1, (rzv (P * Q' * P'.sign) (Q * P'.natAbs)).2.2, 0) := by
 obtain ⟨N, D, h, e, _, l⟩ := rzv_d P hQ hp hq
 obtain ⟨M, E, h', e', l2, l'⟩ := rzv_d P' hQ' hp' hq'
 have hm : D * M.natAbs ≤ Q * P'.natAbs := Nat.mul_le_mul l l2
 have q2 : (0 : Int) < Q' := by omega
 have hE : (0 : Int) < E := by have := h'.pos; omega
 have hM : M ≠ 0 := by
  intro hz
  rw [hz, Int.zero_mul] at e'
  rcases Int.mul_eq_zero.1 e' with h1 | h1
  ·exact hP' h1
  ·omega
 have hs : M.sign = P'.sign := by
  have h1 := congrArg Int.sign e'
  rw [Int.sign_mul, Int.sign_mul, Int.sign_eq_one_of_pos q2, Int.sign_eq_one_of_pos hE, Int.mul_one, Int.mul_one] at h1
  exact h1.symm
 have hab : (P'.natAbs : Int) * E = (M.natAbs : Int) * Q' := by
  have := congrArg Int.natAbs e'
  rw [Int.natAbs_mul, Int.natAbs_mul, Int.natAbs_natCast, Int.natAbs_natCast] at this
  exact_mod_cast this
 rw [rat_Div.ok h h' hM hb k (by omega)]
 have s : rzv (N * E * M.sign) (D * M.natAbs) = rzv (P * Q' * P'.sign) (Q * P'.natAbs) := rzv_same (Nat.mul_ne_zero h.pos (by omega)) (Nat.mul_ne_zero hQ (by omega)) (by rw [hs, Int.natCast_mul, Int.natCast_mul]; grind)
 rw [s]
def cB : Nat := 60000
def fB : Nat := 2 ^ cB
theorem cB_eq : cB = 60000 := rfl
structure Bd (b : Nat) (P : Int) (Q : Nat) : Prop where
 nz : Q ≠ 0
 num : P.natAbs < 2 ^ b
 den : Q < 2 ^ b
theorem Bd.mono {b c : Nat} {P : Int} {Q : Nat} (h : Bd b P Q) (hb : b ≤ c) : Bd c P Q :=
 ⟨h.nz, Nat.lt_of_lt_of_le h.num (Nat.pow_le_pow_right (by decide) hb), Nat.lt_of_lt_of_le h.den (Nat.pow_le_pow_right (by decide) hb)⟩
theorem prod_lt {b x y : Nat} (hx : x < 2 ^ b) (hy : y < 2 ^ b) : x * y < 2 ^ (b + b) := by rw [Nat.pow_add]; exact Nat.mul_lt_mul'' hx hy
theorem Bd.add {b : Nat} {P P' : Int} {Q Q' : Nat} (h : Bd b P Q) (h' : Bd b P' Q') : Bd (b + b + 1) (P * Q' + P' * Q) (Q * Q') := by
 refine ⟨Nat.mul_ne_zero h.nz h'.nz, ?_, Nat.lt_of_lt_of_le (prod_lt h.den h'.den) (Nat.pow_le_pow_right (by decide) (by omega))⟩
 have h1 := prod_lt h.num h'.den
 have h2 := prod_lt h'.num h.den
 have e1 : (P * Q').natAbs = P.natAbs * Q' := by rw [Int.natAbs_mul, Int.natAbs_natCast]
 have e2 : (P' * Q).natAbs = P'.natAbs * Q := by rw [Int.natAbs_mul, Int.natAbs_natCast]
 have := Int.natAbs_add_le (P * Q') (P' * Q)
 rw [Nat.pow_succ]
 omega
theorem Bd.neg {b : Nat} {P : Int} {Q : Nat} (h : Bd b P Q) : Bd b (-P) Q := ⟨h.nz, by rw [Int.natAbs_neg]; exact h.num, h.den⟩
theorem Bd.sub {b : Nat} {P P' : Int} {Q Q' : Nat} (h : Bd b P Q) (h' : Bd b P' Q') : Bd (b + b + 1) (P * Q' - P' * Q) (Q * Q') := by
 have := h.add h'.neg
 rwa [Int.neg_mul, ← Int.sub_eq_add_neg] at this
theorem Bd.le {b : Nat} {P : Int} {Q : Nat} (h : Bd b P Q) (hb : b ≤ 60000) : Q ≤ fB ∧ P.natAbs ≤ fB := by
 have h1 := h.mono hb
 rw [← cB_eq] at h1
 exact ⟨Nat.le_of_lt h1.den, Nat.le_of_lt h1.num⟩
def Fu (k : Nat) : Prop := fB * fB + 2 * fB + 300000000 < k
theorem Fu.of {b : Nat} {P P' : Int} {Q Q' k : Nat} (hk : Fu k) (h : Bd b P Q) (h' : Bd b P' Q') (hb : b ≤ 60000) : Q * Q' + Q + Q' + 30000000 < k := by
 have h1 := h.le hb
 have h2 := h'.le hb
 have h3 := Nat.mul_le_mul h1.1 h2.1
 unfold Fu at hk
 omega
theorem Fu.of2 {b : Nat} {P P' : Int} {Q Q' k : Nat} (hk : Fu k) (h : Bd b P Q) (h' : Bd b P' Q') (hb : b ≤ 60000) : Q * P'.natAbs + Q + Q' + 30000000 < k := by
 have h1 := h.le hb
 have h2 := h'.le hb
 have h3 := Nat.mul_le_mul h1.1 h2.2
 unfold Fu at hk
 omega
theorem Fu.big {k : Nat} (hk : Fu k) : 300000000 < k := by unfold Fu at hk; omega
theorem Fu.one {k : Nat} (hk : Fu k) : fB + 30000000 < k := by unfold Fu at hk; generalize fB = F at hk ⊢; omega
theorem Fu.two {b : Nat} {P P' : Int} {Q Q' k : Nat} (hk : Fu k) (h : Bd b P Q) (h' : Bd b P' Q') (hb : b ≤ 60000) : Q + Q' + 30000000 < k := by
 have h1 := h.le hb
 have h2 := h'.le hb
 unfold Fu at hk
 omega
theorem Fu.far {b : Nat} {P : Int} {Q k : Nat} (hk : Fu k) (h : Bd b P Q) (hb : b ≤ 60000) : Q + 200000000 < k := by
 have h1 := h.le hb
 unfold Fu at hk
 omega
theorem Bd.addf {b : Nat} {P P' : Int} {Q Q' : Nat} (h : Bd b P Q) (h' : Bd b P' Q') (hb : b ≤ 60000) {k : Nat} (hk : Fu k) :
  rat_Add.f k (rzv P Q).1 (rzv P Q).2.1 (rzv P Q).2.2 (rzv P' Q').1 (rzv P' Q').2.1 (rzv P' Q').2.2 = some ((rzv (P * Q' + P' * Q) (Q * Q')).1, (rzv (P * Q' + P' * Q) (Q * Q')).2.1, (rzv (P * Q' + P' * Q) (Q * Q')).2.2, 0) :=
 rat_Add.rz h.nz h'.nz h.num h.den h'.num h'.den hb k (hk.of h h' hb)
theorem Bd.subf {b : Nat} {P P' : Int} {Q Q' : Nat} (h : Bd b P Q) (h' : Bd b P' Q') (hb : b ≤ 60000) {k : Nat} (hk : Fu k) :
  rat_Sub.f k (rzv P Q).1 (rzv P Q).2.1 (rzv P Q).2.2 (rzv P' Q').1 (rzv P' Q').2.1 (rzv P' Q').2.2 = some ((rzv (P * Q' - P' * Q) (Q * Q')).1, (rzv (P * Q' - P' * Q) (Q * Q')).2.1, (rzv (P * Q' - P' * Q) (Q * Q')).2.2, 0) :=
 rat_Sub.rz h.nz h'.nz h.num h.den h'.num h'.den hb k (hk.of h h' hb)
theorem Bd.mulf {b : Nat} {P P' : Int} {Q Q' : Nat} (h : Bd b P Q) (h' : Bd b P' Q') (hb : b ≤ 60000) {k : Nat} (hk : Fu k) :
  rat_Mul.f k (rzv P Q).1 (rzv P Q).2.1 (rzv P Q).2.2 (rzv P' Q').1 (rzv P' Q').2.1 (rzv P' Q').2.2 = some ((rzv (P * P') (Q * Q')).1, (rzv (P * P') (Q * Q')).2.1, (rzv (P * P') (Q * Q')).2.2, 0) :=
 rat_Mul.rz h.nz h'.nz h.num h.den h'.num h'.den hb k (hk.of h h' hb)
theorem Bd.divf {b : Nat} {P P' : Int} {Q Q' : Nat} (h : Bd b P Q) (h' : Bd b P' Q') (hP : P' ≠ 0) (hb : b ≤ 60000) {k : Nat} (hk : Fu k) :
  rat_Div.f k (rzv P Q).1 (rzv P Q).2.1 (rzv P Q).2.2 (rzv P' Q').1 (rzv P' Q').2.1 (rzv P' Q').2.2 = some ((rzv (P * Q' * P'.sign) (Q * P'.natAbs)).1, (rzv (P * Q' * P'.sign) (Q * P'.natAbs)).2.1, (rzv (P * Q' * P'.sign) (Q * P'.natAbs)).2.2, 0) :=
 rat_Div.rz h.nz h'.nz hP h.num h.den h'.num h'.den hb k (hk.of2 h h' hb)
theorem Bd.cmpf {b : Nat} {P P' : Int} {Q Q' : Nat} (h : Bd b P Q) (h' : Bd b P' Q') (hb : b ≤ 60000) {k : Nat} (hk : Fu k) :
  rat_Cmp.f k (rzv P Q).1 (rzv P Q).2.1 (rzv P Q).2.2 (rzv P' Q').1 (rzv P' Q').2.1 (rzv P' Q').2.2 = some (cmpI (P * Q') (P' * Q), 0) :=
 rat_Cmp.rz h.nz h'.nz h.num h.den h'.num h'.den hb k (hk.two h h' hb)
theorem Fu.unit {k u : Nat} (hk : Fu k) (hu : u ≤ 60000) : 2 ^ u + 30000000 < k := Nat.lt_of_le_of_lt (Nat.add_le_add_right (show 2 ^ u ≤ fB from Nat.pow_le_pow_right (by decide) hu) _) hk.one
end Go.Proofs.YtoefabmlkbhmpaaDoor.PA
namespace Go.Proofs.YtoefabmlkbhmpaaDoor.Pure
open Go Go.RowKit Go.Proofs.YtoefabmlkbhmpaaDoor.PA Go.Proofs.YtoefabmlkbhmpaaDoorW.PrintWords Go.Proofs.YtoefabmlkbhmpaaDoorW.PrintLast
set_option linter.unusedVariables false
theorem bd_mix {b : Nat} {x y : Int} {U : Nat} (hx : Bd b x U) (hy : Bd b y U) (m n : Int) (c : Nat) (hm : m.natAbs ≤ 9) (hn : n.natAbs ≤ 9) (hc : c ≠ 0) (hc2 : c ≤ 16) : Bd (b + 5) (m * x + n * y) (c * U) := by
 have h1 := hx.num
 have h2 := hy.num
 have h3 := hx.den
 have e5 : 2 ^ (b + 5) = 2 ^ b * 32 := by rw [Nat.pow_add]
 have a1 : (m * x).natAbs ≤ 9 * x.natAbs := by rw [Int.natAbs_mul]; exact Nat.mul_le_mul_right _ hm
 have a2 : (n * y).natAbs ≤ 9 * y.natAbs := by rw [Int.natAbs_mul]; exact Nat.mul_le_mul_right _ hn
 have a3 := Int.natAbs_add_le (m * x) (n * y)
 have a4 : c * U ≤ 16 * U := Nat.mul_le_mul_right _ hc2
 exact ⟨Nat.mul_ne_zero hc hx.nz, by rw [e5]; omega, by rw [e5]; omega⟩
theorem alike_self (x : Int) : plumblaw07_alike.f x x = some true := by rw [plumblaw07_alike.f, if_pos rfl]
theorem num_eq (x : Int) : plumblaw07_num.f x = some x := by rw [plumblaw07_num.f]
theorem wd_eight : wd 8 = [8] := by rw [wd_pos (by decide), show (8 : Nat) / 18446744073709551616 = 0 from by decide, wd_zero]; rfl
theorem wd_uno : wd 1 = [1] := by rw [wd_pos (by decide), show (1 : Nat) / 18446744073709551616 = 0 from by decide, wd_zero]; rfl
theorem eighth_rz : rzv 1 8 = (false, [1], [8]) := by
 show (decide ((1 : Int) < 0), wd (1 / Nat.gcd 1 8), wd (8 / Nat.gcd 1 8)) = _
 rw [Nat.gcd_one_left, Nat.div_one, Nat.div_one, wd_eight, wd_uno]
 rfl
theorem two_rz : rat_Int.f 2 = some (rzv 2 1) := by
 have f1 : nat_From.f 1 = some (wd 1) := nat_From.f_eq (by decide) (by decide)
 have f2 : nat_From.f 2 = some (wd 2) := nat_From.f_eq (by decide) (by decide)
 have hw : IntKind.u64.wrap 2 = 2 := by rw [u64w_of (by decide) (by decide)]
 have e : rzv 2 1 = (false, wd 2, wd 1) := by
  show (decide ((2 : Int) < 0), wd (2 / Nat.gcd 2 1), wd (1 / Nat.gcd 2 1)) = _
  rw [Nat.gcd_one_right, Nat.div_one, Nat.div_one]
  rfl
 rw [rat_Int.f, if_neg (by decide), hw, f2, Option.bind_some, f1, Option.bind_some, e]
theorem ring_d (x y : Int) (U : Nat) : (y * ((2 * U : Nat) : Int) - (x + y) * (U : Int)) * ((2 * U : Nat) : Int) = (y - x) * ((U * (2 * U) : Nat) : Int) := by simp only [Int.natCast_mul]; grind
theorem ring_e (x y : Int) (U : Nat) : (y - x) * 1 * ((16 * U : Nat) : Int) = (y - x) * ((2 * U * 8 : Nat) : Int) := by simp only [Int.natCast_mul]; grind
theorem ring_l (x y : Int) (U : Nat) : ((x + y) * ((16 * U : Nat) : Int) - (y - x) * ((2 * U : Nat) : Int)) * ((16 * U : Nat) : Int) = (9 * x + 7 * y) * ((2 * U * (16 * U) : Nat) : Int) := by simp only [Int.natCast_mul]; grind
theorem ring_r (x y : Int) (U : Nat) : ((x + y) * ((16 * U : Nat) : Int) + (y - x) * ((2 * U : Nat) : Int)) * ((16 * U : Nat) : Int) = (7 * x + 9 * y) * ((2 * U * (16 * U) : Nat) : Int) := by simp only [Int.natCast_mul]; grind
theorem ring_m (x y : Int) (U : Nat) : (x * (U : Int) + y * (U : Int)) * 1 * 1 * ((2 * U : Nat) : Int) = (x + y) * ((U * U * 2 : Nat) : Int) := by simp only [Int.natCast_mul]; grind
theorem ring_t (x y : Int) (U : Nat) : ((x + y) * ((2 * U : Nat) : Int) + (x + y) * ((2 * U : Nat) : Int)) * ((U * U : Nat) : Int) = (x * (U : Int) + y * (U : Int)) * ((2 * U * (2 * U) : Nat) : Int) := by simp only [Int.natCast_mul]; grind
theorem mids_twice {b : Nat} {pl ph : Int} {U : Nat} (dl : Bd b pl U) (dh : Bd b ph U) (hb : b ≤ 5000) (k : Nat) (hk : Fu k) :
  plumblaw07_twice.f k (rzv pl U).1 (rzv pl U).2.1 (rzv pl U).2.2 (rzv ph U).1 (rzv ph U).2.1 (rzv ph U).2.2 (rzv (pl + ph) (2 * U)).1 (rzv (pl + ph) (2 * U)).2.1 (rzv (pl + ph) (2 * U)).2.2 = some 0 := by
 have dr : Bd (b + 5) (pl + ph) (2 * U) := by
  have h := bd_mix dl dh 1 1 2 (by decide) (by decide) (by decide) (by decide)
  rwa [Int.one_mul, Int.one_mul] at h
 have d1 := (dl.add dh).mono (show b + b + 1 ≤ b + 5 + (b + 5) + 1 by omega)
 have d2 := dr.add dr
 have hc : plumblaw07_cmp.f k (rzv ((pl + ph) * ((2 * U : Nat) : Int) + (pl + ph) * ((2 * U : Nat) : Int)) (2 * U * (2 * U))).1 (rzv ((pl + ph) * ((2 * U : Nat) : Int) + (pl + ph) * ((2 * U : Nat) : Int)) (2 * U * (2 * U))).2.1 (rzv ((pl + ph) * ((2 * U : Nat) : Int) + (pl + ph) * ((2 * U : Nat) : Int)) (2 * U * (2 * U))).2.2 (rzv (pl * U + ph * U) (U * U)).1 (rzv (pl * U + ph * U) (U * U)).2.1 (rzv (pl * U + ph * U) (U * U)).2.2 = some 0 := by
  rw [plumblaw07_cmp.f, d2.cmpf d1 (by omega) hk, Option.bind_some, num_eq, Option.bind_some, if_pos rfl, cmpI_eq (ring_t pl ph U)]
 rw [plumblaw07_twice.f, dl.addf dh (by omega) hk, Option.bind_some, dr.addf dr (by omega) hk, Option.bind_some, num_eq, Option.bind_some, if_pos rfl, Option.bind_some, if_pos rfl, hc, Option.bind_some]
theorem mids_j2 {b : Nat} {pl ph : Int} {U : Nat} (eU : U = 2 ^ uN) (dl : Bd b pl U) (dh : Bd b ph U) (hb : b = 3840) (lo hi mean : Int) (k : Nat) (hk : Fu k) (vl : plumblaw07_value.f (k + 3) lo = some ((rzv pl U).1, (rzv pl U).2.1, (rzv pl U).2.2, true)) (vh : plumblaw07_value.f (k + 3) hi = some ((rzv ph U).1, (rzv ph U).2.1, (rzv ph U).2.2, true))
  (r1 : quo 0 (decide (pl + ph < 0)) (pl + ph).natAbs (2 * U) = (mean, 0)) (r2 : quo 0 (decide (9 * pl + 7 * ph < 0)) (9 * pl + 7 * ph).natAbs (16 * U) = (lo, 0)) (r3 : quo 0 (decide (7 * pl + 9 * ph < 0)) (7 * pl + 9 * ph).natAbs (16 * U) = (hi, 0))
  (hm : mean = if Go.bits .and .u64 lo 1 = 1 then hi else lo) :
  plumblaw07_NearMiddles.j2 (k + 4) 0 lo hi (rzv (pl + ph) (2 * U)).1 (rzv (pl + ph) (2 * U)).2.1 (rzv (pl + ph) (2 * U)).2.2 = some true := by
 have hU0 : U ≠ 0 := dl.nz
 have hk1 : Fu (k + 1) := by unfold Fu at hk ⊢; omega
 have hk2 : Fu (k + 2) := by unfold Fu at hk ⊢; omega
 have hk3 : Fu (k + 3) := by unfold Fu at hk ⊢; omega
 have dr : Bd (b + 5) (pl + ph) (2 * U) := by
  have h := bd_mix dl dh 1 1 2 (by decide) (by decide) (by decide) (by decide)
  rwa [Int.one_mul, Int.one_mul] at h
 have dd : Bd (b + 5) (ph - pl) (2 * U) := by
  have h := bd_mix dl dh (-1) 1 2 (by decide) (by decide) (by decide) (by decide)
  rwa [Int.one_mul, show (-1 : Int) * pl + ph = ph - pl from by omega] at h
 have de : Bd (b + 5) (ph - pl) (16 * U) := by
  have h := bd_mix dl dh (-1) 1 16 (by decide) (by decide) (by decide) (by decide)
  rwa [Int.one_mul, show (-1 : Int) * pl + ph = ph - pl from by omega] at h
 have d8 : Bd (b + 5) 1 8 := by
  have e4 : (2 : Nat) ^ 4 = 16 := by decide
  exact (show Bd 4 1 8 from ⟨by decide, by rw [e4]; decide, by rw [e4]; decide⟩).mono (by omega)
 have dL : Bd (b + 5) (9 * pl + 7 * ph) (16 * U) := bd_mix dl dh 9 7 16 (by decide) (by decide) (by decide) (by decide)
 have dR : Bd (b + 5) (7 * pl + 9 * ph) (16 * U) := bd_mix dl dh 7 9 16 (by decide) (by decide) (by decide) (by decide)
 have dh5 : Bd (b + 5) ph U := dh.mono (by omega)
 have hb6 : b + 5 ≤ 60000 := by omega
 have s1 : rat_Sub.f (k + 1) (rzv ph U).1 (rzv ph U).2.1 (rzv ph U).2.2 (rzv (pl + ph) (2 * U)).1 (rzv (pl + ph) (2 * U)).2.1 (rzv (pl + ph) (2 * U)).2.2 = some ((rzv (ph - pl) (2 * U)).1, (rzv (ph - pl) (2 * U)).2.1, (rzv (ph - pl) (2 * U)).2.2, 0) := by
  rw [dh5.subf dr hb6 hk1, rzv_same (Nat.mul_ne_zero hU0 dr.nz) dd.nz (ring_d pl ph U)]
 have s2 : rat_Mul.f (k + 1) (rzv (ph - pl) (2 * U)).1 (rzv (ph - pl) (2 * U)).2.1 (rzv (ph - pl) (2 * U)).2.2 false (([1] : List Int)) (([8] : List Int)) = some ((rzv (ph - pl) (16 * U)).1, (rzv (ph - pl) (16 * U)).2.1, (rzv (ph - pl) (16 * U)).2.2, 0) := by
  have h := dd.mulf d8 hb6 hk1
  rw [rzv_same (Nat.mul_ne_zero dd.nz d8.nz) de.nz (ring_e pl ph U), eighth_rz] at h
  exact h
 have s3 : rat_Sub.f (k + 1) (rzv (pl + ph) (2 * U)).1 (rzv (pl + ph) (2 * U)).2.1 (rzv (pl + ph) (2 * U)).2.2 (rzv (ph - pl) (16 * U)).1 (rzv (ph - pl) (16 * U)).2.1 (rzv (ph - pl) (16 * U)).2.2 = some ((rzv (9 * pl + 7 * ph) (16 * U)).1, (rzv (9 * pl + 7 * ph) (16 * U)).2.1, (rzv (9 * pl + 7 * ph) (16 * U)).2.2, 0) := by
  rw [dr.subf de hb6 hk1, rzv_same (Nat.mul_ne_zero dr.nz de.nz) dL.nz (ring_l pl ph U)]
 have s4 : rat_Add.f (k + 1) (rzv (pl + ph) (2 * U)).1 (rzv (pl + ph) (2 * U)).2.1 (rzv (pl + ph) (2 * U)).2.2 (rzv (ph - pl) (16 * U)).1 (rzv (ph - pl) (16 * U)).2.1 (rzv (ph - pl) (16 * U)).2.2 = some ((rzv (7 * pl + 9 * ph) (16 * U)).1, (rzv (7 * pl + 9 * ph) (16 * U)).2.1, (rzv (7 * pl + 9 * ph) (16 * U)).2.2, 0) := by
  rw [dr.addf de hb6 hk1, rzv_same (Nat.mul_ne_zero dr.nz de.nz) dR.nz (ring_r pl ph U)]
 have n1 : near_Rat.f (k + 2) (rzv (pl + ph) (2 * U)).1 (rzv (pl + ph) (2 * U)).2.1 (rzv (pl + ph) (2 * U)).2.2 0 = some (mean, 0) := by
  rw [near_Rat.rz (pl + ph) dr.nz dr.num dr.den hb6 0 (by decide) (by decide) (k + 2) (hk2.far dr hb6), r1]
 have n2 : near_Rat.f (k + 1) (rzv (9 * pl + 7 * ph) (16 * U)).1 (rzv (9 * pl + 7 * ph) (16 * U)).2.1 (rzv (9 * pl + 7 * ph) (16 * U)).2.2 0 = some (lo, 0) := by
  rw [near_Rat.rz (9 * pl + 7 * ph) dL.nz dL.num dL.den hb6 0 (by decide) (by decide) (k + 1) (hk1.far dL hb6), r2]
 have n3 : near_Rat.f (k + 1) (rzv (7 * pl + 9 * ph) (16 * U)).1 (rzv (7 * pl + 9 * ph) (16 * U)).2.1 (rzv (7 * pl + 9 * ph) (16 * U)).2.2 0 = some (hi, 0) := by
  rw [near_Rat.rz (7 * pl + 9 * ph) dR.nz dR.num dR.den hb6 0 (by decide) (by decide) (k + 1) (hk1.far dR hb6), r3]
 have j5 : plumblaw07_NearMiddles.j5 (k + 1) lo hi mean mean lo hi false = some true := by
  rw [plumblaw07_NearMiddles.j5, if_neg (by decide), alike_self, Option.bind_some, if_pos rfl, alike_self, Option.bind_some, if_pos rfl, alike_self, Option.bind_some]
 have j4 : plumblaw07_NearMiddles.j4 (k + 2) lo hi mean 0 mean (rzv (pl + ph) (2 * U)).1 (rzv (pl + ph) (2 * U)).2.1 (rzv (pl + ph) (2 * U)).2.2 (rzv ph U).1 (rzv ph U).2.1 (rzv ph U).2.2 = some true := by
  rw [plumblaw07_NearMiddles.j4, s1, Option.bind_some, s2, Option.bind_some, s3, Option.bind_some, s4, Option.bind_some, n2, Option.bind_some, n3, Option.bind_some, num_eq, Option.bind_some, if_pos rfl, Option.bind_some, if_pos rfl, Option.bind_some, if_pos rfl, Option.bind_some, if_pos rfl, Option.bind_some, if_pos rfl, Option.bind_some, if_pos rfl, Option.bind_some]
  exact j5
 have j3 : plumblaw07_NearMiddles.j3 (k + 3) lo hi false (rzv (pl + ph) (2 * U)).1 (rzv (pl + ph) (2 * U)).2.1 (rzv (pl + ph) (2 * U)).2.2 (rzv ph U).1 (rzv ph U).2.1 (rzv ph U).2.2 = some true := by
  rw [plumblaw07_NearMiddles.j3, if_neg (by decide), n1, Option.bind_some]
  by_cases h : Go.bits .and .u64 lo 1 = 1
  ·rw [if_pos h] at hm ⊢
   have j := j4
   rw [hm] at j ⊢
   exact j
  ·rw [if_neg h] at hm ⊢
   have j := j4
   rw [hm] at j ⊢
   exact j
 rw [plumblaw07_NearMiddles.j2, vl, Option.bind_some, vh, Option.bind_some, num_eq, Option.bind_some, if_pos rfl, if_pos rfl, if_pos rfl, mids_twice dl dh (by omega) (k + 3) hk3, Option.bind_some]
 exact j3
theorem mid_ok {b : Nat} {pl ph : Int} {U : Nat} (dl : Bd b pl U) (dh : Bd b ph U) (hb : b ≤ 5000) (x y : Int) (k : Nat) (hk : Fu k) (vl : near_Value.f k x = some ((rzv pl U).1, (rzv pl U).2.1, (rzv pl U).2.2, 0)) (hn : f64_Next.f k x = some (y, 0)) (vh : near_Value.f k y = some ((rzv ph U).1, (rzv ph U).2.1, (rzv ph U).2.2, 0)) :
  near_Mid.f k x = some ((rzv (pl + ph) (2 * U)).1, (rzv (pl + ph) (2 * U)).2.1, (rzv (pl + ph) (2 * U)).2.2, 0) := by
 have dr : Bd (b + 5) (pl + ph) (2 * U) := by
  have h := bd_mix dl dh 1 1 2 (by decide) (by decide) (by decide) (by decide)
  rwa [Int.one_mul, Int.one_mul] at h
 have hU0 : U ≠ 0 := dl.nz
 have d2 : Bd (b + b + 3) 2 1 := by
  have e2 : (2 : Nat) ^ 2 = 4 := by decide
  exact (show Bd 2 2 1 from ⟨by decide, by rw [e2]; decide, by rw [e2]; decide⟩).mono (by omega)
 have ds := (dl.add dh).mono (show b + b + 1 ≤ b + b + 3 by omega)
 have hd := ds.divf d2 (by decide) (by omega) hk
 have e : rzv ((pl * U + ph * U) * ((1 : Nat) : Int) * (2 : Int).sign) (U * U * (2 : Int).natAbs) = rzv (pl + ph) (2 * U) := by
  refine rzv_same (Nat.mul_ne_zero ds.nz (by decide)) dr.nz ?_
  rw [show (2 : Int).sign = 1 from by decide, show (2 : Int).natAbs = 2 from by decide, show ((1 : Nat) : Int) = 1 from rfl]
  exact ring_m pl ph U
 rw [e] at hd
 rw [near_Mid.f, vl, Option.bind_some, if_pos rfl, hn, Option.bind_some, if_pos rfl, vh, Option.bind_some, dl.addf dh (by omega) hk, Option.bind_some, two_rz, Option.bind_some, hd, Option.bind_some]
theorem class_fin (z : Nat) : ¬ (if z = 0 then (0 : Int) else if z < 4503599627370496 then 1 else 2) > 2 := by
 by_cases h0 : z = 0
 ·rw [if_pos h0]; decide
 ·rw [if_neg h0]
  by_cases h1 : z < 4503599627370496
  ·rw [if_pos h1]; decide
  ·rw [if_neg h1]; decide
theorem next_eq (neg : Bool) {z : Nat} (hz : z < 9218868437227405312) (k : Nat) (hk : 1 ≤ k) :
  f64_Next.f k (sgn neg + (z : Int)) = if sgn neg + (z : Int) = 9218868437227405311 then some (0, 62) else if sgn neg + (z : Int) = 9223372036854775808 then some (1, 0) else if neg = false then some (sgn neg + (z : Int) + 1, 0) else some (sgn neg + (z : Int) - 1, 0) := by
 have hs : (neg = false ∧ sgn neg = 0) ∨ (neg = true ∧ sgn neg = 9223372036854775808) := by cases neg <;> simp [sgn]
 have hc := class_fin z
 have hfin : f64_finite.f k (sgn neg + (z : Int)) = some true := by
  rw [f64_finite.f, f64_Class.f_eq neg hz k hk, Option.bind_some, if_neg (by omega), if_neg (by omega)]
 have ha := and_sgn neg (show z < 9223372036854775808 by omega)
 rw [f64_Next.f, hfin, Option.bind_some, if_pos rfl]
 by_cases h1 : sgn neg + (z : Int) = 9218868437227405311
 ·rw [if_pos h1, if_pos h1]
 ·rw [if_neg h1, if_neg h1]
  by_cases h2 : sgn neg + (z : Int) = 9223372036854775808
  ·rw [if_pos h2, if_pos h2]
  ·rw [if_neg h2, if_neg h2]
   rcases hs with ⟨n, s⟩ | ⟨n, s⟩
   ·rw [n] at ha
    subst n
    rw [if_pos (bne_eq_false_iff_eq.1 ha), if_pos rfl, u64w_of (by omega) (by omega)]
   ·rw [n] at ha
    subst n
    rw [if_neg (bne_iff_ne.1 ha), if_neg (show ¬ (true = false) by decide), u64w_of (by omega) (by omega)]
theorem odd_of {x : Nat} (hx : x < 18446744073709551616) : Go.bits .and .u64 (x : Int) 1 = ((x % 2 : Nat) : Int) := by
 rw [show Go.bits .and .u64 (x : Int) 1 = (x : Int) % 2 ^ 1 from and_mask (by omega) (by omega) 1 (by omega) _ rfl, show (2 : Int) ^ 1 = 2 from by decide]; omega
theorem fu_unit {k : Nat} (hk : Fu k) : 2 ^ uN + 30000000 < k := hk.unit (by rw [uN_eq]; decide)
theorem bd_pV (s : Bool) {z : Nat} (hz : z ≤ 9218868437227405312) {b : Nat} (hb : b = 3840) : Bd b (sg s (pV z)) (2 ^ uN) :=
 ⟨Nat.ne_of_gt (Nat.pow_pos (by decide)), by rw [sg_abs]; exact pV_ltb (by omega) hz, uN_ltb (by omega)⟩
theorem mids_pos {y : Nat} (hy : y < gP) (k : Nat) (hk : Fu k) : plumblaw07_NearMiddles.j2 (k + 4) 0 (y : Int) ((y + 1 : Nat) : Int) (rzv (sg false (pV y) + sg false (pV (y + 1))) (2 * 2 ^ uN)).1 (rzv (sg false (pV y) + sg false (pV (y + 1))) (2 * 2 ^ uN)).2.1 (rzv (sg false (pV y) + sg false (pV (y + 1))) (2 * 2 ^ uN)).2.2 = some true := by
 obtain ⟨b, hb⟩ : ∃ b : Nat, b = 3840 := ⟨_, rfl⟩
 have hg : gP = 9218868437227405311 := rfl
 have hk3 : Fu (k + 3) := by unfold Fu at hk ⊢; omega
 have K3 := Aside0.mk (fu_unit hk3)
 obtain ⟨q1, q2, q3⟩ := quo_three false hy
 have e0 : ∀ z : Nat, sgn false + (z : Int) = (z : Int) := fun z => by show (0 : Int) + _ = _; omega
 rw [e0] at q1 q2 q3
 have s0 : ∀ z : Nat, sg false z = (z : Int) := fun z => rfl
 have v1 := value_ok false (show y < 9218868437227405312 by omega) (k + 3) K3.out
 have v2 := value_ok false (show y + 1 < 9218868437227405312 by omega) (k + 3) K3.out
 rw [e0] at v1 v2
 refine mids_j2 rfl (bd_pV false (by omega) hb) (bd_pV false (by omega) hb) hb _ _ ((if y % 2 = 1 then y + 1 else y : Nat) : Int) k hk v1 v2 ?_ ?_ ?_ ?_
 ·rw [s0, s0, decide_eq_false (by omega), show ((pV y : Int) + (pV (y + 1) : Int)).natAbs = pV y + pV (y + 1) from by omega]; exact q3
 ·rw [s0, s0, decide_eq_false (by omega), show (9 * (pV y : Int) + 7 * (pV (y + 1) : Int)).natAbs = 9 * pV y + 7 * pV (y + 1) from by omega]; exact q1
 ·rw [s0, s0, decide_eq_false (by omega), show (7 * (pV y : Int) + 9 * (pV (y + 1) : Int)).natAbs = 7 * pV y + 9 * pV (y + 1) from by omega]; exact q2
 ·rw [odd_of (by omega)]
  by_cases h : y % 2 = 1
  ·rw [if_pos h, if_pos (by omega)]
  ·rw [if_neg h, if_neg (by omega)]
theorem mids_neg {y : Nat} (hy : y < gP) (k : Nat) (hk : Fu k) : plumblaw07_NearMiddles.j2 (k + 4) 0 (sgn true + ((y + 1 : Nat) : Int)) (sgn true + (y : Int)) (rzv (sg true (pV (y + 1)) + sg true (pV y)) (2 * 2 ^ uN)).1 (rzv (sg true (pV (y + 1)) + sg true (pV y)) (2 * 2 ^ uN)).2.1 (rzv (sg true (pV (y + 1)) + sg true (pV y)) (2 * 2 ^ uN)).2.2 = some true := by
 obtain ⟨b, hb⟩ : ∃ b : Nat, b = 3840 := ⟨_, rfl⟩
 have hg : gP = 9218868437227405311 := rfl
 have hk3 : Fu (k + 3) := by unfold Fu at hk ⊢; omega
 have K3 := Aside0.mk (fu_unit hk3)
 obtain ⟨q1, q2, q3⟩ := quo_three true hy
 have hlt := pV_lt_succ y
 have e0 : sgn true = 9223372036854775808 := rfl
 have s0 : ∀ z : Nat, sg true z = -(z : Int) := fun z => rfl
 have v1 := value_ok true (show y + 1 < 9218868437227405312 by omega) (k + 3) K3.out
 have v2 := value_ok true (show y < 9218868437227405312 by omega) (k + 3) K3.out
 refine mids_j2 rfl (bd_pV true (by omega) hb) (bd_pV true (by omega) hb) hb _ _ (sgn true + ((if y % 2 = 1 then y + 1 else y : Nat) : Int)) k hk v1 v2 ?_ ?_ ?_ ?_
 ·rw [s0, s0, decide_eq_true (by omega), show (-(pV (y + 1) : Int) + -(pV y : Int)).natAbs = pV y + pV (y + 1) from by omega]; exact q3
 ·rw [s0, s0, decide_eq_true (by omega), show (9 * -(pV (y + 1) : Int) + 7 * -(pV y : Int)).natAbs = 7 * pV y + 9 * pV (y + 1) from by omega]; exact q2
 ·rw [s0, s0, decide_eq_true (by omega), show (7 * -(pV (y + 1) : Int) + 9 * -(pV y : Int)).natAbs = 9 * pV y + 7 * pV (y + 1) from by omega]; exact q1
 ·have eo : sgn true + ((y + 1 : Nat) : Int) = ((9223372036854775808 + (y + 1) : Nat) : Int) := by rw [e0]; omega
  rw [show Go.bits .and .u64 (sgn true + ((y + 1 : Nat) : Int)) 1 = (((9223372036854775808 + (y + 1)) % 2 : Nat) : Int) from by rw [eo]; exact odd_of (by omega)]
  by_cases h : y % 2 = 1
  ·rw [if_pos h, if_neg (by omega)]
  ·rw [if_neg h, if_pos (by omega)]
theorem nearMiddles_finite (neg : Bool) (z : Nat) (hz : z < 9218868437227405312) : ∃ k, plumblaw07_NearMiddles.f k (sgn neg + (z : Int)) = some true := by
 obtain ⟨b, hb⟩ : ∃ b : Nat, b = 3840 := ⟨_, rfl⟩
 have hb5 : b ≤ 5000 := by omega
 have hg : gP = 9218868437227405311 := rfl
 obtain ⟨k, hk⟩ : ∃ k : Nat, Fu k := ⟨fB * fB + 2 * fB + 300000001, by unfold Fu; omega⟩
 have hk5 : Fu (k + 5) := by unfold Fu at hk ⊢; omega
 have big := hk5.big
 have K5 := Aside0.mk (fu_unit hk5)
 have hc := class_fin z
 have hfix : plumblaw07_fixed.f (k + 6) = some true := fixed_at (k + 6) (by omega)
 have head : plumblaw07_NearMiddles.f (k + 6) (sgn neg + (z : Int)) = plumblaw07_NearMiddles.j0 (k + 5 + 1) (sgn neg + (z : Int)) false := by
  rw [plumblaw07_NearMiddles.f, f64_Class.f_eq neg hz (k + 6) (by omega), Option.bind_some, if_neg hc, hfix, Option.bind_some]
  rfl
 have hnext := next_eq neg hz (k + 5) (by omega)
 have vz := near_Value.ok neg hz (k + 5) K5.out
 have ha := and_sgn neg (show z < 9223372036854775808 by omega)
 have hs : (neg = false ∧ sgn neg = 0) ∨ (neg = true ∧ sgn neg = 9223372036854775808) := by cases neg <;> simp [sgn]
 refine ⟨k + 6, ?_⟩
 rw [head, plumblaw07_NearMiddles.j0, if_neg (by decide)]
 by_cases hmax : sgn neg + (z : Int) = 9218868437227405311
 ·rw [if_pos hmax] at hnext
  have hm : near_Mid.f (k + 5) (sgn neg + (z : Int)) = some (false, [], [], 62) := by
   rw [near_Mid.f, vz, Option.bind_some, if_pos rfl, hnext, Option.bind_some]
   rfl
  rw [hm, Option.bind_some, if_pos hmax, num_eq, Option.bind_some]
  rfl
 ·rw [if_neg hmax] at hnext
  rcases hs with ⟨n, s⟩ | ⟨n, s⟩
  ·subst n
   have ez : sgn false + (z : Int) = (z : Int) := by rw [s]; omega
   have hz1 : z < gP := by omega
   have nt : ¬ (sgn false + (z : Int)) = 9223372036854775808 := by omega
   rw [if_neg nt, if_pos rfl] at hnext
   have v1 := near_Value.ok false (show z + 1 < 9218868437227405312 by omega) (k + 5) K5.out
   have e1 : sgn false + ((z + 1 : Nat) : Int) = sgn false + (z : Int) + 1 := by omega
   rw [e1] at v1
   have hm := mid_ok (bd_pV false (by omega) hb) (bd_pV false (by omega) hb) hb5 _ _ (k + 5) hk5 vz hnext v1
   have w1 : IntKind.u64.wrap (sgn false + (z : Int) + 1) = ((z + 1 : Nat) : Int) := by rw [u64w_of (by omega) (by omega)]; omega
   rw [hm, Option.bind_some, if_neg hmax, if_pos (bne_eq_false_iff_eq.1 ha), w1, show k + 5 = (k + 4) + 1 from rfl, plumblaw07_NearMiddles.j1, if_neg nt, ez]
   exact mids_pos hz1 k hk
  ·subst n
   by_cases h0 : z = 0
   ·subst h0
    have nt : (sgn true + ((0 : Nat) : Int)) = 9223372036854775808 := by rw [s]; rfl
    rw [if_pos nt] at hnext
    have v1 := near_Value.ok false (show 1 < 9218868437227405312 by omega) (k + 5) K5.out
    have e1 : sgn false + ((1 : Nat) : Int) = 1 := rfl
    rw [e1] at v1
    have e2 : sg true (pV 0) = sg false (pV 0) := by rw [pV_zero, sg_zero, sg_zero]
    rw [e2] at vz
    have hm := mid_ok (bd_pV false (by omega) hb) (bd_pV false (by omega) hb) hb5 _ _ (k + 5) hk5 vz hnext v1
    have fin := mids_pos (y := 0) (by omega) k hk
    rw [Nat.zero_add, show ((0 : Nat) : Int) = 0 from rfl, show ((1 : Nat) : Int) = 1 from rfl] at fin
    have w0 : Go.bits .and .u64 (sgn true + ((0 : Nat) : Int)) 9223372036854775808 ≠ 0 := bne_iff_ne.1 ha
    rw [hm, Option.bind_some, if_neg hmax, if_neg w0, show k + 5 = (k + 4) + 1 from rfl, plumblaw07_NearMiddles.j1, if_pos nt]
    exact fin
   ·obtain ⟨y, rfl⟩ : ∃ y, z = y + 1 := ⟨z - 1, by omega⟩
    have nt : ¬ (sgn true + ((y + 1 : Nat) : Int)) = 9223372036854775808 := by omega
    have hy : y < gP := by omega
    rw [if_neg nt, if_neg (by decide)] at hnext
    have v1 := near_Value.ok true (show y < 9218868437227405312 by omega) (k + 5) K5.out
    have e1 : sgn true + ((y + 1 : Nat) : Int) - 1 = sgn true + (y : Int) := by omega
    rw [e1] at hnext
    have hm := mid_ok (bd_pV true (by omega) hb) (bd_pV true (by omega) hb) hb5 _ _ (k + 5) hk5 vz hnext v1
    have w0 : Go.bits .and .u64 (sgn true + ((y + 1 : Nat) : Int)) 9223372036854775808 ≠ 0 := bne_iff_ne.1 ha
    have w1 : IntKind.u64.wrap (sgn true + ((y + 1 : Nat) : Int) - 1) = sgn true + (y : Int) := by rw [u64w_of (by omega) (by omega)]; omega
    rw [hm, Option.bind_some, if_neg hmax, if_neg w0, w1, show k + 5 = (k + 4) + 1 from rfl, plumblaw07_NearMiddles.j1, if_neg nt]
    exact mids_neg hy k hk
theorem nearMiddles_other (x : Nat) (hx : x < 18446744073709551616) (hb : 9218868437227405312 ≤ x % 9223372036854775808) (k : Nat) : plumblaw07_NearMiddles.f (k + 2) (x : Int) = some true := by
 have e1 : Go.bits .and .u64 (x : Int) 4503599627370495 = ((x % 4503599627370496 : Nat) : Int) := by
  rw [show Go.bits .and .u64 (x : Int) 4503599627370495 = (x : Int) % 2 ^ 52 from and_mask (by omega) (by omega) 52 (by omega) _ rfl, show (2 : Int) ^ 52 = 4503599627370496 from by decide]; omega
 have e2 : Go.bits .and .u64 ((x : Int) / 4503599627370496) 2047 = 2047 := by
  rw [show Go.bits .and .u64 ((x : Int) / 4503599627370496) 2047 = ((x : Int) / 4503599627370496) % 2 ^ 11 from and_mask (by omega) (by omega) 11 (by omega) _ rfl, show (2 : Int) ^ 11 = 2048 from by decide]; omega
 have hf : f64_fields.f (x : Int) = some (2047, ((x % 4503599627370496 : Nat) : Int)) := by
  rw [f64_fields.f, e1, e2, w64_of (by decide) (by decide)]
 have hc : ∀ k : Nat, ∃ c : Int, f64_Class.f (k + 1) (x : Int) = some c ∧ 2 < c := by
  intro k
  rw [f64_Class.f, hf, Option.bind_some]
  show ∃ c : Int, (if (2047 : Int) = 0 then _ else f64_Class.j0 (k + 1) 2047 ((x % 4503599627370496 : Nat) : Int) false) = some c ∧ 2 < c
  rw [if_neg (by decide), f64_Class.j0, if_neg (by decide), if_neg (by decide), if_neg (by decide)]
  by_cases h : ((x % 4503599627370496 : Nat) : Int) = 0
  ·rw [if_pos h]; exact ⟨3, rfl, by decide⟩
  ·rw [if_neg h]; exact ⟨4, rfl, by decide⟩
 obtain ⟨c, hc1, hc2⟩ := hc (k + 1)
 obtain ⟨c', hc1', hc2'⟩ := hc k
 have hsp : f64_Split.f (k + 1) (x : Int) = some (false, 0, 0, 60) := by
  rw [f64_Split.f, hf, Option.bind_some, hc1', Option.bind_some, if_neg (by omega), if_neg (by omega), if_neg (by omega)]
 have hv : near_Value.f (k + 1) (x : Int) = some (false, [], [], 60) := by
  rw [near_Value.f, hsp, Option.bind_some]
  rfl
 have hm : near_Mid.f (k + 1) (x : Int) = some (false, [], [], 60) := by
  rw [near_Mid.f, hv, Option.bind_some]
  rfl
 rw [plumblaw07_NearMiddles.f, show k + 2 = k + 1 + 1 from rfl, hc1, Option.bind_some, if_pos (show c > 2 from hc2), plumblaw07_NearMiddles.j0, if_pos rfl, hm, Option.bind_some, num_eq, Option.bind_some]
 rfl
theorem nearMiddles_pure (a0 : Int) (h0 : 0 ≤ a0) (h1 : a0 < 18446744073709551616) : ∃ k, plumblaw07_NearMiddles.f k a0 = some true := by
 obtain ⟨x, rfl⟩ := Int.eq_ofNat_of_zero_le h0
 have hx : x < 18446744073709551616 := by omega
 by_cases hb : 9218868437227405312 ≤ x % 9223372036854775808
 ·exact ⟨2, nearMiddles_other x hx hb 0⟩
 ·by_cases hn : x < 9223372036854775808
  ·obtain ⟨k, hk⟩ := nearMiddles_finite false x (by omega)
   have e : sgn false + (x : Int) = (x : Int) := by show (0 : Int) + _ = _; omega
   rw [e] at hk
   exact ⟨k, hk⟩
  ·obtain ⟨k, hk⟩ := nearMiddles_finite true (x - 9223372036854775808) (by omega)
   have e : sgn true + ((x - 9223372036854775808 : Nat) : Int) = (x : Int) := by show (9223372036854775808 : Int) + _ = _; omega
   rw [e] at hk
   exact ⟨k, hk⟩
end Go.Proofs.YtoefabmlkbhmpaaDoor.Pure
namespace Go.Proofs.YtoefabmlkbhmpaaDoorW.PrintWords
open Go
theorem trod_pairs {H : Type} {enc : TypeId × Value → H} {P : Program} {w : World} {base : Nat} {spare : Nat → Bool} {held : Bool} {fuel : Nat} {ty e1 e2 : TypeId} {n : Nat} {cs : List Value} {L : List (List Bool)} {p : List MemPlace}
  (hu : P.underlying ty = some (.array n e1)) (he : P.underlying e1 = some (.array 2 e2)) (hb : P.underlying e2 = some .bool) (hc1 : P.cellsOf e1 = 2) (hc2 : P.cellsOf e2 = 1)
  (h : DataW.trod enc P w base spare held fuel ty cs = some (.agg (L.map fun r => .agg (r.map fun b => .lit (.bool b))), p)) : ∀ i, i < n → ∀ j, j < 2 → cs[2 * i + j]? = some (.bool ((L.getD i []).getD j false)) := by
 obtain ⟨xs, m, rfl, hx, hlen, hn, hel⟩ := DataW.trod_array hu h
 intro i hi j hj
 have h1 := hel i hi
 rw [hc1] at h1
 have hxi : i < xs.length := by omega
 rw [List.getElem?_eq_getElem hxi] at h1
 obtain ⟨ys, m2, rfl, hy, hlen2, hn2, hel2⟩ := DataW.trod_array he h1
 have h2 := hel2 j hj
 rw [hc2, Nat.mul_one] at h2
 have hyj : j < ys.length := by omega
 rw [List.getElem?_eq_getElem hyj] at h2
 obtain ⟨b, e1_, e2_⟩ := DataW.trod_bool hb h2
 simp only [Prod.mk.injEq, DataW.agg.injEq] at hx
 have h3 : (L.map fun r => (DataW.agg (r.map fun b => .lit (.bool b)) : DataW H))[i]? = (xs.map (·.1))[i]? := by rw [hx.1]
 rw [List.getElem?_map, List.getElem?_map, List.getElem?_eq_getElem hxi] at h3
 simp only [Option.map_some] at h3
 cases hL : L[i]? with
 | none => rw [hL] at h3; simp at h3
 | some r =>
  rw [hL] at h3
  simp only [Option.map_some, Option.some.injEq] at h3
  rw [hy] at h3
  simp only [DataW.agg.injEq] at h3
  have h4 : (r.map fun b => (DataW.lit (.bool b) : DataW H))[j]? = (ys.map (·.1))[j]? := by rw [h3]
  rw [List.getElem?_map, List.getElem?_map, List.getElem?_eq_getElem hyj, Option.map_some, e2_] at h4
  have h5 : r[j]? = some b := by
   cases hr : r[j]? with
   | none => rw [hr] at h4; simp at h4
   | some y => rw [hr] at h4; simp at h4; rw [h4]
  have h6 : ((((cs.drop (i * 2)).take 2).drop j).take 1)[0]? = some (.bool b) := by rw [e1_]; rfl
  rw [List.getElem?_take, if_pos (by decide), List.getElem?_drop, Nat.add_zero, List.getElem?_take, if_pos hj, List.getElem?_drop] at h6
  rw [Nat.mul_comm, h6, List.getD_eq_getElem?_getD, List.getD_eq_getElem?_getD, hL, Option.getD_some, h5]
  rfl
end Go.Proofs.YtoefabmlkbhmpaaDoorW.PrintWords
