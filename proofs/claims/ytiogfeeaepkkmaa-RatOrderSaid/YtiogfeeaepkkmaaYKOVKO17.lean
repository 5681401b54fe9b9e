/- A part of the proof (17). -/
import Derived.Test.YtiogfeeaepkkmaaYKOVKO16
import Derived.Test.YtiogfeeaepkkmaaYKOVKO15
import Derived.OpenShut
import Derived.LaidLaws
import Derived.LaidHandle
import Derived.MakeChecks
import Derived.WideShapes
import Derived.ChangeArms
namespace Go.Proofs.Ytiogfeeaepkkmaa.PA
open Go Go.RowKit Go.Proofs.YtiogfeeaepkkmaaW.PrintWords Go.Proofs.YtiogfeeaepkkmaaW.PrintLast Go.Proofs.YtiogfeeaepkkmaaW.PrintMore
set_option linter.unusedVariables false
set_option linter.unusedSimpArgs false
theorem alive05_at : plumblaw05_alive.f 400 = some true := by kernel_rfl
theorem alive05 (k : Nat) (hk : 400 ≤ k) : plumblaw05_alive.f k = some true := by
 obtain ⟨d, rfl⟩ : ∃ d, k = 400 + d := ⟨k - 400, by omega⟩
 clear hk
 induction d with
 | zero => exact alive05_at
 | succ d ih => exact plumblaw05_alive.mono _ _ ih
theorem cut05_l0 (l : List Int) : ∀ (d k i : Nat), d = 12 - i → d < k → i ≤ 12 → i ≤ l.length → plumblaw05_cut.l0 k l (l.take i) (i : Int) = some (l.take 12) := by
 intro d
 induction d with
 | zero =>
  intro k i hd hk hi hl
  obtain ⟨k, rfl⟩ : ∃ j, k = j + 1 := ⟨k - 1, by omega⟩
  obtain rfl : i = 12 := by omega
  have q : ¬ ((12 : Nat) : Int) < 12 := by decide
  rw [plumblaw05_cut.l0, if_neg q]
  split <;> rfl
 | succ d ih =>
  intro k i hd hk hi hl
  obtain ⟨k, rfl⟩ : ∃ j, k = j + 1 := ⟨k - 1, by omega⟩
  rw [plumblaw05_cut.l0]
  by_cases h : i < l.length
  ·have q1 : (i : Int) < (l.length : Int) := by omega
   have q2 : (i : Int) < 12 := by omega
   have q3 : (0 : Int) ≤ (i : Int) := by omega
   have q4 : (l.take i).length < 17592186044416 := by rw [List.length_take]; omega
   have e : l.take (i + 1) = l.take i ++ [l.getD i 0] := by rw [List.take_succ_eq_append_getElem h, List.getD_eq_getElem?_getD, List.getElem?_eq_getElem h]; rfl
   rw [if_pos q1, if_pos q2, if_pos q3, if_pos q4, rdn, ← e, w64_s i (by omega)]
   exact ih k (i + 1) (by omega) (by omega) (by omega) (by omega)
  ·have q1 : ¬ (i : Int) < (l.length : Int) := by omega
   rw [if_neg q1, List.take_of_length_le (by omega), List.take_of_length_le (by omega)]
theorem cut05_eq (l : List Int) (k : Nat) (hk : 20 < k) : plumblaw05_cut.f k l = some (l.take 12) := by
 rw [plumblaw05_cut.f]
 exact cut05_l0 l 12 k 0 (by omega) (by omega) (by omega) (by omega)
theorem same05_l0 (l : List Int) (hl : l.length ≤ 1000000) : ∀ (d k i : Nat), d = l.length - i → d < k → i ≤ l.length → plumblaw05_same.l0 k l l (i : Int) = some true := by
 intro d
 induction d with
 | zero =>
  intro k i hd hk hi
  obtain ⟨k, rfl⟩ : ∃ j, k = j + 1 := ⟨k - 1, by omega⟩
  have q : ¬ (i : Int) < (l.length : Int) := by omega
  rw [plumblaw05_same.l0, if_neg q]
 | succ d ih =>
  intro k i hd hk hi
  obtain ⟨k, rfl⟩ : ∃ j, k = j + 1 := ⟨k - 1, by omega⟩
  have q : (i : Int) < (l.length : Int) := by omega
  have q0 : (0 : Int) ≤ (i : Int) := by omega
  rw [plumblaw05_same.l0, if_pos q, if_pos q0, if_pos q, if_pos rfl, w64_s i (by omega)]
  exact ih k (i + 1) (by omega) (by omega) (by omega)
theorem same_refl (l : List Int) (k : Nat) (hk : l.length < k ∧ l.length ≤ 1000000) : plumblaw05_same.f k l l = some true := by
 rw [plumblaw05_same.f, if_pos rfl]
 exact same05_l0 l hk.2 l.length k 0 (by omega) hk.1 (by omega)
theorem one_refl (s : Bool) (x y : List Int) (k : Nat) (hx : x.length < k ∧ x.length ≤ 1000000) (hy : y.length < k ∧ y.length ≤ 1000000) : plumblaw05_one.f k s x y s x y = some true := by
 have e : (s == s) = true := by cases s <;> rfl
 rw [plumblaw05_one.f, if_pos e, same_refl x k hx, Option.bind_some, if_pos rfl, same_refl y k hy, Option.bind_some]
theorem whole05_l0 (x d : List Int) (hd : d.length ≤ 1000000) (hw : Ws d) : ∀ (n k i : Nat) (z : Bool), n = d.length - i → n < k → i ≤ d.length → (z = true ↔ nv (d.take i) = 0) →
  plumblaw05_Part_whole.l0 k x d z (i : Int) = some (x, if nv d = 0 then [1] else d) := by
 intro n
 induction n with
 | zero =>
  intro k i z hn hk hi hz
  obtain ⟨k, rfl⟩ : ∃ j, k = j + 1 := ⟨k - 1, by omega⟩
  have q : ¬ (i : Int) < (d.length : Int) := by omega
  rw [List.take_of_length_le (by omega)] at hz
  rw [plumblaw05_Part_whole.l0, if_neg q]
  by_cases h : nv d = 0
  ·rw [if_pos (hz.2 h), if_pos h]
  ·rw [if_neg (fun h2 => h (hz.1 h2)), if_neg h]
 | succ n ih =>
  intro k i z hn hk hi hz
  obtain ⟨k, rfl⟩ : ∃ j, k = j + 1 := ⟨k - 1, by omega⟩
  have hil : i < d.length := by omega
  have q : (i : Int) < (d.length : Int) := by omega
  have q0 : (0 : Int) ≤ (i : Int) := by omega
  have hp : (0 : Int) < 2 ^ (64 * i) := two_pow_pos _
  have h1 := nv_nonneg (hw.take i)
  have h2 := (hw.getD i).1
  have hs := nv_take_succ hil
  have hm : 0 ≤ d.getD i 0 * 2 ^ (64 * i) := Int.mul_nonneg h2 (Int.le_of_lt hp)
  rw [plumblaw05_Part_whole.l0, if_pos q, w64_s i (by omega)]
  by_cases hc : z = true
  ·rw [if_pos hc, if_pos q0, rdn]
   refine ih k (i + 1) _ (by omega) (by omega) (by omega) ?_
   rw [hs, hz.1 hc, Int.zero_add, beq_iff_eq]
   constructor
   ·intro h; rw [h, Int.zero_mul]
   ·intro h
    rcases Int.mul_eq_zero.1 h with h | h
    ·exact h
    ·omega
  ·rw [if_neg hc]
   refine ih k (i + 1) _ (by omega) (by omega) (by omega) ?_
   constructor
   ·intro h; cases h
   ·intro h
    exact absurd (hz.2 (by omega)) hc
theorem take12_lt {l : List Int} (hl : Ws l) {t : Nat} (ht : t = 768) {a : Nat} (ha : nv (l.take 12) = (a : Int)) : a < 2 ^ t := by
 have h1 := nv_lt (hl.take 12)
 rw [ha, p2cast] at h1
 refine Nat.lt_of_lt_of_le (Int.ofNat_lt.1 h1) (Nat.pow_le_pow_right (by decide) ?_)
 have h2 : (l.take 12).length ≤ 12 := by rw [List.length_take]; omega
 omega
theorem part_whole (neg : Bool) (l1 l2 : List Int) (h1 : Ws l1) (h2 : Ws l2) (t : Nat) (ht : t = 768) : ∃ (x y : List Int) (A B : Nat), Ws x ∧ Ws y ∧ x.length ≤ 12 ∧ y.length ≤ 12 ∧ nv x = (A : Int) ∧ nv y = (B : Int) ∧ 0 < B ∧ A < 2 ^ t ∧ B < 2 ^ t ∧
  ∀ k, 100 < k → plumblaw05_Part_whole.f k neg l1 l2 = some (x, y) := by
 have hx : Ws (l1.take 12) := h1.take 12
 have hy : Ws (l2.take 12) := h2.take 12
 have lx : (l1.take 12).length ≤ 12 := by rw [List.length_take]; omega
 have ly : (l2.take 12).length ≤ 12 := by rw [List.length_take]; omega
 obtain ⟨A, hA⟩ := Int.eq_ofNat_of_zero_le (nv_nonneg hx)
 obtain ⟨B, hB⟩ := Int.eq_ofNat_of_zero_le (nv_nonneg hy)
 have bA := take12_lt h1 ht hA
 have bB := take12_lt h2 ht hB
 have hw : ∀ k, 100 < k → plumblaw05_Part_whole.f k neg l1 l2 = some (l1.take 12, if nv (l2.take 12) = 0 then [1] else l2.take 12) := by
  intro k hk
  rw [plumblaw05_Part_whole.f, cut05_eq l1 k (by omega), Option.bind_some, cut05_eq l2 k (by omega), Option.bind_some]
  exact whole05_l0 _ _ (by omega) hy _ k 0 true rfl (by omega) (by omega) (by simp [nv])
 by_cases b0 : B = 0
 ·have w1 : Ws [(1 : Int)] := Ws.cons (by decide) (by decide) Ws.nil
  refine ⟨l1.take 12, [1], A, 1, hx, w1, lx, Nat.le_of_ble_eq_true rfl, hA, by simp [nv], by decide, bA, ?_, fun k hk => ?_⟩
  ·exact Nat.lt_of_lt_of_le (by decide : 1 < 2 ^ 1) (Nat.pow_le_pow_right (by decide) (by omega))
  ·rw [hw k hk, if_pos (by rw [hB, b0]; rfl)]
 ·refine ⟨l1.take 12, l2.take 12, A, B, hx, hy, lx, ly, hA, hB, by omega, bA, bB, fun k hk => ?_⟩
  rw [hw k hk, if_neg (by rw [hB]; omega)]
theorem part_made (neg : Bool) (l1 l2 x y : List Int) (A B : Nat) (hx : Ws x) (hy : Ws y) (lx : x.length ≤ 12) (ly : y.length ≤ 12) (vx : nv x = (A : Int)) (vy : nv y = (B : Int)) (hB : 0 < B) (t : Nat) (ht : t = 768) (bA : A < 2 ^ t) (bB : B < 2 ^ t) (hw : ∀ k, 100 < k → plumblaw05_Part_whole.f k neg l1 l2 = some (x, y)) (k : Nat) (hk : B + 20000000 < k) :
  plumblaw05_Part_made.f k neg l1 l2 = some ((rzv (sg neg A) B).1, (rzv (sg neg A) B).2.1, (rzv (sg neg A) B).2.2, true) := by
 obtain ⟨N, D, hR, hcr, lN, lD⟩ := rzv_is (sg neg A) (Nat.ne_of_gt hB)
 rw [sg_abs] at lN
 have hch : rat_Check.f k (decide (N < 0)) (wd N.natAbs) (wd D) = some 0 := rat_Check.ok _ _ _ (by intro h; have := of_decide_eq_true h; omega) hR.pos hR.low (wd_lenb (Nat.lt_of_le_of_lt lN bA) 4096 (by omega)) (wd_lenb (Nat.lt_of_le_of_lt lD bB) 4096 (by omega)) k (by omega)
 rw [plumblaw05_Part_made.f, hw k (by omega), Option.bind_some, rat_New.rz neg x y hx hy (by omega) (by omega) A B vx vy (Nat.ne_of_gt hB) k (by omega), Option.bind_some, if_pos rfl]
 rw [hR.eq]
 show ((rat_Check.f k (decide (N < 0)) (wd N.natAbs) (wd D)).bind _) = _
 rw [hch, Option.bind_some]
 rfl
structure IsB (b : Nat) (v : Bool × List Int × List Int) (N : Int) (D : Nat) : Prop extends IsR v N D where
 num : N.natAbs < 2 ^ b
 den : D < 2 ^ b
theorem IsB.check {b : Nat} {v : Bool × List Int × List Int} {N : Int} {D : Nat} (h : IsB b v N D) (hb : b ≤ 60000) (k : Nat) (hk : D + 20000000 < k) : rat_Check.f k v.1 v.2.1 v.2.2 = some 0 := by
 rw [h.eq]
 exact rat_Check.ok _ _ _ (by intro h; have := of_decide_eq_true h; omega) h.pos h.low (wd_lenb h.num 4096 (by omega)) (wd_lenb h.den 4096 (by omega)) k (by omega)
theorem sg_self (N : Int) : sg (decide (N < 0)) N.natAbs = N := by unfold sg; by_cases h : N < 0 <;> simp [h] <;> omega
theorem rzv_d {b : Nat} (P : Int) {Q : Nat} (hQ : Q ≠ 0) (hp : P.natAbs < 2 ^ b) (hq : Q < 2 ^ b) : ∃ N D, IsB b (rzv P Q) N D ∧ P * D = N * Q ∧ N.natAbs ≤ P.natAbs ∧ D ≤ Q := by
 obtain ⟨N, D, h, e, l1, l2⟩ := rzv_is P hQ
 exact ⟨N, D, ⟨h, Nat.lt_of_le_of_lt l1 hp, Nat.lt_of_le_of_lt l2 hq⟩, e, l1, l2⟩
theorem idx_l0 (l : List Int) (hl : l.length ≤ 1000000) : ∀ (d k i : Nat), d = l.length - i → d < k → i ≤ l.length → ∃ r, slices_IndexFunc_uint64_uint64.l0 k l (l.length : Int) (i : Int) = some r ∧ ((r = -1 ∧ ∀ j, i ≤ j → j < l.length → l.getD j 0 = 0) ∨ (0 ≤ r ∧ ∃ j, j < l.length ∧ l.getD j 0 ≠ 0)) := by
 intro d
 induction d with
 | zero =>
  intro k i hd hk hi
  obtain ⟨k, rfl⟩ : ∃ j, k = j + 1 := ⟨k - 1, by omega⟩
  obtain rfl : i = l.length := by omega
  rw [slices_IndexFunc_uint64_uint64.l0, if_neg (by omega)]
  exact ⟨-1, rfl, .inl ⟨rfl, fun j h1 h2 => by omega⟩⟩
 | succ d ih =>
  intro k i hd hk hi
  obtain ⟨k, rfl⟩ : ∃ j, k = j + 1 := ⟨k - 1, by omega⟩
  rw [slices_IndexFunc_uint64_uint64.l0, if_pos (by omega), if_pos (by omega), if_pos (by omega), rat_SignC1.f, Option.bind_some, rdn]
  by_cases h : l.getD i 0 = 0
  ·have hb : ¬ (l.getD i 0 != 0) = true := by rw [h]; decide
   rw [if_neg hb, w64_s i (by omega)]
   obtain ⟨r, h1, h2⟩ := ih k (i + 1) (by omega) (by omega) (by omega)
   refine ⟨r, h1, ?_⟩
   rcases h2 with ⟨e, h2⟩ | h2
   ·refine .inl ⟨e, fun j j1 j2 => ?_⟩
    by_cases ej : j = i
    ·subst ej; exact h
    ·exact h2 j (by omega) j2
   ·exact .inr h2
  ·have hb : (l.getD i 0 != 0) = true := bne_iff_ne.2 h
   rw [if_pos hb]
   exact ⟨_, rfl, .inr ⟨by omega, i, by omega, h⟩⟩
theorem rat_Sign.ok (s : Bool) (A : Nat) (y : List Int) (hl : (wd A).length ≤ 1000000) (k : Nat) (hk : 1000000 < k) : rat_Sign.f k s (wd A) y = some (sg s A).sign := by
 obtain ⟨r, h1, h2⟩ := idx_l0 (wd A) hl ((wd A).length) k 0 (by omega) (by omega) (by omega)
 have h1' : slices_IndexFunc_uint64_uint64.l0 k (wd A) ((wd A).length : Int) 0 = some r := h1
 rw [rat_Sign.f, slices_ContainsFunc_uint64_uint64.f, slices_IndexFunc_uint64_uint64.f, h1', Option.bind_some, Option.bind_some]
 rcases h2 with ⟨rfl, h2⟩ | ⟨h0, j, j1, j2⟩
 ·have hA : A = 0 := by
   apply Classical.byContradiction
   intro h
   have hp := (wd_pos_len A).2 h
   exact wd_last A h (h2 _ (Nat.zero_le _) (by omega))
  subst hA
  rw [sg_zero]
  rfl
 ·have hA : A ≠ 0 := by
   intro h
   subst h
   rw [wd_zero] at j1
   exact absurd j1 (Nat.not_lt_zero _)
  rw [decide_eq_true (show r ≥ 0 from h0), if_pos rfl]
  cases s
  ·rw [if_neg (by decide)]
   have : (sg false A).sign = 1 := Int.sign_eq_one_of_pos (by unfold sg; rw [if_neg (by decide)]; omega)
   rw [this]
  ·rw [if_pos rfl]
   have : (sg true A).sign = -1 := Int.sign_eq_neg_one_of_neg (by unfold sg; rw [if_pos rfl]; omega)
   rw [this]
theorem cmpI_lt {a b : Int} (h : a < b) : cmpI a b = -1 := by unfold cmpI; rw [if_pos h]
theorem cmpI_gt {a b : Int} (h : b < a) : cmpI a b = 1 := by unfold cmpI; rw [if_neg (by omega), if_neg (by omega)]
theorem cmpI_eq {a b : Int} (h : a = b) : cmpI a b = 0 := by unfold cmpI; rw [if_neg (by omega), if_pos h]
theorem cmpI_cases (a b : Int) : (a < b ∧ cmpI a b = -1) ∨ (a = b ∧ cmpI a b = 0) ∨ (b < a ∧ cmpI a b = 1) := by
 rcases Int.lt_trichotomy a b with h | h | h
 ·exact .inl ⟨h, cmpI_lt h⟩
 ·exact .inr (.inl ⟨h, cmpI_eq h⟩)
 ·exact .inr (.inr ⟨h, cmpI_gt h⟩)
theorem cmpI_neg (a b : Int) : cmpI (-a) (-b) = -cmpI a b := by
 rcases cmpI_cases a b with ⟨h, e⟩ | ⟨h, e⟩ | ⟨h, e⟩
 ·rw [e, cmpI_gt (by omega)]; rfl
 ·rw [e, cmpI_eq (by omega)]; rfl
 ·rw [e, cmpI_lt (by omega)]
theorem cmpI_swap (a b : Int) : cmpI b a = -cmpI a b := by
 rcases cmpI_cases a b with ⟨h, e⟩ | ⟨h, e⟩ | ⟨h, e⟩
 ·rw [e, cmpI_gt h]; rfl
 ·rw [e, cmpI_eq h.symm]; rfl
 ·rw [e, cmpI_lt h]
theorem cmpI_scale (a b : Int) {c : Int} (h : 0 < c) : cmpI (a * c) (b * c) = cmpI a b := by
 rcases cmpI_cases a b with ⟨h1, e⟩ | ⟨h1, e⟩ | ⟨h1, e⟩
 ·rw [e, cmpI_lt (Int.mul_lt_mul_of_pos_right h1 h)]
 ·rw [e, cmpI_eq (by rw [h1])]
 ·rw [e, cmpI_gt (Int.mul_lt_mul_of_pos_right h1 h)]
theorem rat_CmpC1.ok {b : Nat} {v u : Bool × List Int × List Int} {N M : Int} {D E : Nat} (hv : IsB b v N D) (hu : IsB b u M E) (hb : b ≤ 60000) (k : Nat) (hk : 30000000 < k) :
  rat_CmpC1.f k v.1 v.2.1 v.2.2 u.1 u.2.1 u.2.2 = some (cmpI (N * E) (M * D)) := by
 obtain ⟨c, hc⟩ : ∃ c : Nat, c = 262144 := ⟨_, rfl⟩
 have lens : ∀ n : Nat, n < 2 ^ b → (wd n).length ≤ 1000 := fun n hn => wd_lenb hn 1000 (by omega)
 have prod : ∀ X Y : Nat, X < 2 ^ b → Y < 2 ^ b → X * Y < 2 ^ (b + b) := fun X Y hX hY => by rw [Nat.pow_add]; exact Nat.mul_lt_mul'' hX hY
 have mulE : ∀ X Y : Nat, X < 2 ^ b → Y < 2 ^ b → rat_mul.f k (wd X) (wd Y) = some (wd (X * Y)) := fun X Y hX hY => rat_mul.ok _ _ (wd_ws _) (wd_ws _) (lens X hX) (lens Y hY) X Y (nv_wd _) (nv_wd _) (prod X Y hX hY) c hc (by omega) k (by omega)
 have len2 : ∀ n : Nat, n < 2 ^ (b + b) → (wd n).length ≤ 1000000 := fun n hn => wd_lenb hn 1000000 (by omega)
 have s1 : rat_Sign.f k (decide (N < 0)) (wd N.natAbs) (wd D) = some N.sign := by rw [rat_Sign.ok _ _ _ (by have := lens _ hv.num; omega) k (by omega), sg_self]
 have s2 : rat_Sign.f k (decide (M < 0)) (wd M.natAbs) (wd E) = some M.sign := by rw [rat_Sign.ok _ _ _ (by have := lens _ hu.num; omega) k (by omega), sg_self]
 have hD : (0 : Int) < D := by have := hv.pos; omega
 have hE : (0 : Int) < E := by have := hu.pos; omega
 rw [hv.eq, hu.eq, rat_CmpC1.f, s1, Option.bind_some, s2, Option.bind_some, mulE _ _ hv.num hu.den, Option.bind_some, mulE _ _ hu.num hv.den, Option.bind_some, cmp_wd _ _ (len2 _ (prod _ _ hv.num hu.den)) (len2 _ (prod _ _ hu.num hv.den)) k (by omega), Option.bind_some]
 have cN : ((N.natAbs * E : Nat) : Int) = (N.natAbs : Int) * E := Int.natCast_mul _ _
 have cM : ((M.natAbs * D : Nat) : Int) = (M.natAbs : Int) * D := Int.natCast_mul _ _
 rw [cN, cM]
 rcases Int.lt_trichotomy N 0 with h1 | h1 | h1 <;> rcases Int.lt_trichotomy M 0 with h2 | h2 | h2
 ·rw [Int.sign_eq_neg_one_of_neg h1, Int.sign_eq_neg_one_of_neg h2, if_neg (by decide), if_neg (by decide), if_pos (by decide)]
  have e1 : (N.natAbs : Int) = -N := by omega
  have e2 : (M.natAbs : Int) = -M := by omega
  rw [e1, e2, Int.neg_mul, Int.neg_mul, cmpI_neg]
  rcases cmpI_cases (N * E) (M * D) with ⟨_, e⟩ | ⟨_, e⟩ | ⟨_, e⟩ <;> rw [e, w64_of (by decide) (by decide)] <;> rfl
 ·subst h2
  rw [Int.sign_eq_neg_one_of_neg h1, Int.sign_zero, if_pos (by decide), Int.zero_mul, cmpI_lt (Int.mul_neg_of_neg_of_pos h1 hE)]
 ·rw [Int.sign_eq_neg_one_of_neg h1, Int.sign_eq_one_of_pos h2, if_pos (by decide), cmpI_lt (Int.lt_trans (Int.mul_neg_of_neg_of_pos h1 hE) (Int.mul_pos h2 hD))]
 ·subst h1
  rw [Int.sign_zero, Int.sign_eq_neg_one_of_neg h2, if_neg (by decide), if_pos (by decide), Int.zero_mul, cmpI_gt (Int.mul_neg_of_neg_of_pos h2 hD)]
 ·subst h1 h2
  rw [Int.sign_zero, if_neg (by decide), if_neg (by decide), if_neg (by decide), Int.natAbs_zero, Int.zero_mul, Int.zero_mul]
  show some (cmpI (0 * (E : Int)) (0 * (D : Int))) = _
  rw [Int.zero_mul, Int.zero_mul]
 ·subst h1
  rw [Int.sign_zero, Int.sign_eq_one_of_pos h2, if_pos (by decide), Int.zero_mul, cmpI_lt (Int.mul_pos h2 hD)]
 ·rw [Int.sign_eq_one_of_pos h1, Int.sign_eq_neg_one_of_neg h2, if_neg (by decide), if_pos (by decide), cmpI_gt (Int.lt_trans (Int.mul_neg_of_neg_of_pos h2 hD) (Int.mul_pos h1 hE))]
 ·subst h2
  rw [Int.sign_eq_one_of_pos h1, Int.sign_zero, if_neg (by decide), if_pos (by decide), Int.zero_mul, cmpI_gt (Int.mul_pos h1 hE)]
 ·rw [Int.sign_eq_one_of_pos h1, Int.sign_eq_one_of_pos h2, if_neg (by decide), if_neg (by decide), if_neg (by decide)]
  have e1 : (N.natAbs : Int) = N := by omega
  have e2 : (M.natAbs : Int) = M := by omega
  rw [e1, e2]
theorem rat_Cmp.ok {b : Nat} {v u : Bool × List Int × List Int} {N M : Int} {D E : Nat} (hv : IsB b v N D) (hu : IsB b u M E) (hb : b ≤ 60000) (k : Nat) (hk : D + E + 30000000 < k) :
  rat_Cmp.f k v.1 v.2.1 v.2.2 u.1 u.2.1 u.2.2 = some (cmpI (N * E) (M * D), 0) := by
 rw [rat_Cmp.f, rat_reckonedCmp.f, rat_reckonedO.f, hv.check hb k (by omega), Option.bind_some, if_pos rfl, hu.check hb k (by omega), Option.bind_some, if_pos rfl, rat_CmpC1.ok hv hu hb k (by omega), Option.bind_some, Option.bind_some]
 rfl
theorem rat_Cmp.rz {b : Nat} {P P' : Int} {Q Q' : Nat} (hQ : Q ≠ 0) (hQ' : Q' ≠ 0) (hp : P.natAbs < 2 ^ b) (hq : Q < 2 ^ b) (hp' : P'.natAbs < 2 ^ b) (hq' : Q' < 2 ^ b) (hb : b ≤ 60000) (k : Nat) (hk : Q + Q' + 30000000 < k) :
  rat_Cmp.f k (rzv P Q).1 (rzv P Q).2.1 (rzv P Q).2.2 (rzv P' Q').1 (rzv P' Q').2.1 (rzv P' Q').2.2 = some (cmpI (P * Q') (P' * Q), 0) := by
 obtain ⟨N, D, h, e, _, l⟩ := rzv_d P hQ hp hq
 obtain ⟨M, E, h', e', _, l'⟩ := rzv_d P' hQ' hp' hq'
 rw [rat_Cmp.ok h h' hb k (by omega)]
 have hD : (0 : Int) < D := by have := h.pos; omega
 have hE : (0 : Int) < E := by have := h'.pos; omega
 have q1 : (0 : Int) < Q := by omega
 have q2 : (0 : Int) < Q' := by omega
 have e1 : cmpI (N * E) (M * D) = cmpI (P * Q') (P' * Q) := by
  rw [← cmpI_scale (N * E) (M * D) (Int.mul_pos q1 q2), ← cmpI_scale (P * Q') (P' * Q) (Int.mul_pos hD hE)]
  congr 1 <;> grind
 rw [e1]
theorem reck_ok {b : Nat} {v u : Bool × List Int × List Int} {N M : Int} {D E : Nat} (hv : IsB b v N D) (hu : IsB b u M E) (hb : b ≤ 60000) (k : Nat) (hk : D + 20000000 < k) (hk2 : E + 20000000 < k) (r : Bool × List Int × List Int) :
  rat_reckoned.f k v.1 v.2.1 v.2.2 u.1 u.2.1 u.2.2 (some r) = some (r.1, r.2.1, r.2.2, 0) := by
 rw [rat_reckoned.f, hv.check hb k hk, Option.bind_some, if_pos rfl, hu.check hb k hk2, Option.bind_some, if_pos rfl, Option.bind_some]
theorem rat_Add.ok {b : Nat} {v u : Bool × List Int × List Int} {N M : Int} {D E : Nat} (hv : IsB b v N D) (hu : IsB b u M E) (hb : b ≤ 60000) (k : Nat) (hk : D * E + D + E + 30000000 < k) :
  rat_Add.f k v.1 v.2.1 v.2.2 u.1 u.2.1 u.2.2 = some ((rzv (N * E + M * D) (D * E)).1, (rzv (N * E + M * D) (D * E)).2.1, (rzv (N * E + M * D) (D * E)).2.2, 0) := by
 have hc : rat_AddC1.f k v.1 v.2.1 v.2.2 u.1 u.2.1 u.2.2 = some (rzv (N * E + M * D) (D * E)) := by
  rw [hv.eq, hu.eq]
  have h := rat_AddC1.ok (decide (N < 0)) (decide (M < 0)) N.natAbs D M.natAbs E (by intro h; have := of_decide_eq_true h; omega) (by intro h; have := of_decide_eq_true h; omega) hv.pos hu.pos b hb hv.num hv.den hu.num hu.den k (by omega)
  rw [sg_self, sg_self] at h
  exact h
 rw [rat_Add.f, rat_reckonedAdd.f, hc, reck_ok hv hu hb k (by omega) (by omega), Option.bind_some]
theorem rat_Add.rz {b : Nat} {P P' : Int} {Q Q' : Nat} (hQ : Q ≠ 0) (hQ' : Q' ≠ 0) (hp : P.natAbs < 2 ^ b) (hq : Q < 2 ^ b) (hp' : P'.natAbs < 2 ^ b) (hq' : Q' < 2 ^ b) (hb : b ≤ 60000) (k : Nat) (hk : Q * Q' + Q + Q' + 30000000 < k) :
  rat_Add.f k (rzv P Q).1 (rzv P Q).2.1 (rzv P Q).2.2 (rzv P' Q').1 (rzv P' Q').2.1 (rzv P' Q').2.2 = some ((rzv (P * Q' + P' * Q) (Q * Q')).1, (rzv (P * Q' + P' * Q) (Q * Q')).2.1, (rzv (P * Q' + P' * Q) (Q * Q')).2.2, 0) := by
 obtain ⟨N, D, h, e, _, l⟩ := rzv_d P hQ hp hq
 obtain ⟨M, E, h', e', _, l'⟩ := rzv_d P' hQ' hp' hq'
 have hm : D * E ≤ Q * Q' := Nat.mul_le_mul l l'
 rw [rat_Add.ok h h' hb k (by omega)]
 have s : rzv (N * E + M * D) (D * E) = rzv (P * Q' + P' * Q) (Q * Q') := rzv_same (Nat.mul_ne_zero h.pos h'.pos) (Nat.mul_ne_zero hQ hQ') (by rw [Int.natCast_mul, Int.natCast_mul]; grind)
 rw [s]
theorem IsB.neg {b : Nat} {u : Bool × List Int × List Int} {M : Int} {E : Nat} (h : IsB b u M E) : ∃ s, rat_turned.f u.1 u.2.1 u.2.2 = some s ∧ IsB b (s, u.2.1, u.2.2) (-M) E := by
 have hn : (-M).natAbs = M.natAbs := Int.natAbs_neg M
 refine ⟨decide (-M < 0), ?_, ⟨⟨h.pos, by rw [hn]; exact h.low, ?_⟩, by rw [hn]; exact h.num, h.den⟩⟩
 ·rw [h.eq, rat_turned.f]
  by_cases hM : M < 0
  ·rw [if_pos (decide_eq_true hM), decide_eq_false (show ¬ -M < 0 by omega)]
  ·rw [if_neg (show ¬ decide (M < 0) = true from fun h => hM (of_decide_eq_true h))]
   have hl := wd_pos_len M.natAbs
   congr 1
   rw [decide_eq_decide]
   show ((wd M.natAbs).length : Int) > 0 ↔ -M < 0
   rw [hl]
   omega
 ·have e := h.eq
  rw [hn]
  rw [Prod.ext_iff] at e
  exact Prod.ext rfl e.2
theorem rat_Sub.ok {b : Nat} {v u : Bool × List Int × List Int} {N M : Int} {D E : Nat} (hv : IsB b v N D) (hu : IsB b u M E) (hb : b ≤ 60000) (k : Nat) (hk : D * E + D + E + 30000000 < k) :
  rat_Sub.f k v.1 v.2.1 v.2.2 u.1 u.2.1 u.2.2 = some ((rzv (N * E - M * D) (D * E)).1, (rzv (N * E - M * D) (D * E)).2.1, (rzv (N * E - M * D) (D * E)).2.2, 0) := by
 obtain ⟨s, hs, hn⟩ := hu.neg
 have ha := rat_Add.ok hv hn hb k hk
 rw [Int.neg_mul, ← Int.sub_eq_add_neg] at ha
 have ha' : rat_Add.f k v.1 v.2.1 v.2.2 s u.2.1 u.2.2 = _ := ha
 rw [rat_Sub.f, hu.check hb k (by omega), Option.bind_some, if_pos rfl, hs, Option.bind_some, ha', Option.bind_some]
theorem rat_Sub.rz {b : Nat} {P P' : Int} {Q Q' : Nat} (hQ : Q ≠ 0) (hQ' : Q' ≠ 0) (hp : P.natAbs < 2 ^ b) (hq : Q < 2 ^ b) (hp' : P'.natAbs < 2 ^ b) (hq' : Q' < 2 ^ b) (hb : b ≤ 60000) (k : Nat) (hk : Q * Q' + Q + Q' + 30000000 < k) :
  rat_Sub.f k (rzv P Q).1 (rzv P Q).2.1 (rzv P Q).2.2 (rzv P' Q').1 (rzv P' Q').2.1 (rzv P' Q').2.2 = some ((rzv (P * Q' - P' * Q) (Q * Q')).1, (rzv (P * Q' - P' * Q) (Q * Q')).2.1, (rzv (P * Q' - P' * Q) (Q * Q')).2.2, 0) := by
 obtain ⟨N, D, h, e, _, l⟩ := rzv_d P hQ hp hq
 obtain ⟨M, E, h', e', _, l'⟩ := rzv_d P' hQ' hp' hq'
 have hm : D * E ≤ Q * Q' := Nat.mul_le_mul l l'
 rw [rat_Sub.ok h h' hb k (by omega)]
 have s : rzv (N * E - M * D) (D * E) = rzv (P * Q' - P' * Q) (Q * Q') := rzv_same (Nat.mul_ne_zero h.pos h'.pos) (Nat.mul_ne_zero hQ hQ') (by rw [Int.natCast_mul, Int.natCast_mul]; grind)
 rw [s]
theorem sg_mulsg (s t : Bool) (X Y : Nat) : sg s X * sg t Y = sg (s != t) (X * Y) := by
 cases s <;> cases t <;> simp [sg, Int.mul_neg, Int.neg_mul]
theorem rat_MulC1.ok (s1 s2 : Bool) (A1 D1 A2 D2 : Nat) (d1 : D1 ≠ 0) (d2 : D2 ≠ 0) (b : Nat) (hb : b ≤ 60000) (bA1 : A1 < 2 ^ b) (bD1 : D1 < 2 ^ b) (bA2 : A2 < 2 ^ b) (bD2 : D2 < 2 ^ b) (k : Nat) (hk : D1 * D2 + 20000000 < k) :
  rat_MulC1.f k s1 (wd A1) (wd D1) s2 (wd A2) (wd D2) = some (rzv (sg s1 A1 * sg s2 A2) (D1 * D2)) := by
 obtain ⟨c, hc⟩ : ∃ c : Nat, c = 262144 := ⟨_, rfl⟩
 have lens : ∀ n : Nat, n < 2 ^ b → (wd n).length ≤ 1000 := fun n hn => wd_lenb hn 1000 (by omega)
 have prod : ∀ X Y : Nat, X < 2 ^ b → Y < 2 ^ b → X * Y < 2 ^ (b + b) := fun X Y hX hY => by rw [Nat.pow_add]; exact Nat.mul_lt_mul'' hX hY
 have mulE : ∀ X Y : Nat, X < 2 ^ b → Y < 2 ^ b → rat_mul.f k (wd X) (wd Y) = some (wd (X * Y)) := fun X Y hX hY => rat_mul.ok _ _ (wd_ws _) (wd_ws _) (lens X hX) (lens Y hY) X Y (nv_wd _) (nv_wd _) (prod X Y hX hY) c hc (by omega) k (by omega)
 have len2 : ∀ n : Nat, n < 2 ^ (b + b) → (wd n).length ≤ 1000000 := fun n hn => wd_lenb hn 1000000 (by omega)
 rw [rat_MulC1.f, mulE A1 A2 bA1 bA2, Option.bind_some, mulE D1 D2 bD1 bD2, Option.bind_some, rat_lowest.rz (s1 != s2) _ _ (wd_ws _) (wd_ws _) (len2 _ (prod A1 A2 bA1 bA2)) (len2 _ (prod D1 D2 bD1 bD2)) (A1 * A2) (D1 * D2) (nv_wd _) (nv_wd _) (Nat.mul_ne_zero d1 d2) k (by omega), Option.bind_some, sg_mulsg]
theorem rat_Mul.ok {b : Nat} {v u : Bool × List Int × List Int} {N M : Int} {D E : Nat} (hv : IsB b v N D) (hu : IsB b u M E) (hb : b ≤ 60000) (k : Nat) (hk : D * E + D + E + 30000000 < k) :
  rat_Mul.f k v.1 v.2.1 v.2.2 u.1 u.2.1 u.2.2 = some ((rzv (N * M) (D * E)).1, (rzv (N * M) (D * E)).2.1, (rzv (N * M) (D * E)).2.2, 0) := by
 have hc : rat_MulC1.f k v.1 v.2.1 v.2.2 u.1 u.2.1 u.2.2 = some (rzv (N * M) (D * E)) := by
  rw [hv.eq, hu.eq]
  have h := rat_MulC1.ok (decide (N < 0)) (decide (M < 0)) N.natAbs D M.natAbs E hv.pos hu.pos b hb hv.num hv.den hu.num hu.den k (by omega)
  rw [sg_self, sg_self] at h
  exact h
 rw [rat_Mul.f, rat_reckonedMul.f, hc, reck_ok hv hu hb k (by omega) (by omega), Option.bind_some]
theorem rat_Mul.rz {b : Nat} {P P' : Int} {Q Q' : Nat} (hQ : Q ≠ 0) (hQ' : Q' ≠ 0) (hp : P.natAbs < 2 ^ b) (hq : Q < 2 ^ b) (hp' : P'.natAbs < 2 ^ b) (hq' : Q' < 2 ^ b) (hb : b ≤ 60000) (k : Nat) (hk : Q * Q' + Q + Q' + 30000000 < k) :
  rat_Mul.f k (rzv P Q).1 (rzv P Q).2.1 (rzv P Q).2.2 (rzv P' Q').1 (rzv P' Q').2.1 (rzv P' Q').2.2 = some ((rzv (P * P') (Q * Q')).1, (rzv (P * P') (Q * Q')).2.1, (rzv (P * P') (Q * Q')).2.2, 0) := by
 obtain ⟨N, D, h, e, _, l⟩ := rzv_d P hQ hp hq
 obtain ⟨M, E, h', e', _, l'⟩ := rzv_d P' hQ' hp' hq'
 have hm : D * E ≤ Q * Q' := Nat.mul_le_mul l l'
 rw [rat_Mul.ok h h' hb k (by omega)]
 have s : rzv (N * M) (D * E) = rzv (P * P') (Q * Q') := rzv_same (Nat.mul_ne_zero h.pos h'.pos) (Nat.mul_ne_zero hQ hQ') (by rw [Int.natCast_mul, Int.natCast_mul]; grind)
 rw [s]
def cB : Nat := 60000
def fB : Nat := 2 ^ cB
theorem cB_eq : cB = 60000 := rfl
structure Bd (b : Nat) (P : Int) (Q : Nat) : Prop where
 nz : Q ≠ 0
 num : P.natAbs < 2 ^ b
 den : Q < 2 ^ b
theorem Bd.mono {b c : Nat} {P : Int} {Q : Nat} (h : Bd b P Q) (hb : b ≤ c) : Bd c P Q :=
 ⟨h.nz, Nat.lt_of_lt_of_le h.num (Nat.pow_le_pow_right (by decide) hb), Nat.lt_of_lt_of_le h.den (Nat.pow_le_pow_right (by decide) hb)⟩
theorem prod_lt {b x y : Nat} (hx : x < 2 ^ b) (hy : y < 2 ^ b) : x * y < 2 ^ (b + b) := by rw [Nat.pow_add]; exact Nat.mul_lt_mul'' hx hy
theorem Bd.add {b : Nat} {P P' : Int} {Q Q' : Nat} (h : Bd b P Q) (h' : Bd b P' Q') : Bd (b + b + 1) (P * Q' + P' * Q) (Q * Q') := by
 refine ⟨Nat.mul_ne_zero h.nz h'.nz, ?_, Nat.lt_of_lt_of_le (prod_lt h.den h'.den) (Nat.pow_le_pow_right (by decide) (by omega))⟩
 have h1 := prod_lt h.num h'.den
 have h2 := prod_lt h'.num h.den
 have e1 : (P * Q').natAbs = P.natAbs * Q' := by rw [Int.natAbs_mul, Int.natAbs_natCast]
 have e2 : (P' * Q).natAbs = P'.natAbs * Q := by rw [Int.natAbs_mul, Int.natAbs_natCast]
 have := Int.natAbs_add_le (P * Q') (P' * Q)
 rw [Nat.pow_succ]
 omega
theorem Bd.neg {b : Nat} {P : Int} {Q : Nat} (h : Bd b P Q) : Bd b (-P) Q := ⟨h.nz, by rw [Int.natAbs_neg]; exact h.num, h.den⟩
theorem Bd.sub {b : Nat} {P P' : Int} {Q Q' : Nat} (h : Bd b P Q) (h' : Bd b P' Q') : Bd (b + b + 1) (P * Q' - P' * Q) (Q * Q') := by
 have := h.add h'.neg
 rwa [Int.neg_mul, ← Int.sub_eq_add_neg] at this
theorem Bd.mul {b : Nat} {P P' : Int} {Q Q' : Nat} (h : Bd b P Q) (h' : Bd b P' Q') : Bd (b + b) (P * P') (Q * Q') :=
 ⟨Nat.mul_ne_zero h.nz h'.nz, by rw [Int.natAbs_mul]; exact prod_lt h.num h'.num, prod_lt h.den h'.den⟩
theorem Bd.le {b : Nat} {P : Int} {Q : Nat} (h : Bd b P Q) (hb : b ≤ 60000) : Q ≤ fB ∧ P.natAbs ≤ fB := by
 have h1 := h.mono hb
 rw [← cB_eq] at h1
 exact ⟨Nat.le_of_lt h1.den, Nat.le_of_lt h1.num⟩
def Fu (k : Nat) : Prop := fB * fB + 2 * fB + 300000000 < k
theorem Fu.of {b : Nat} {P P' : Int} {Q Q' k : Nat} (hk : Fu k) (h : Bd b P Q) (h' : Bd b P' Q') (hb : b ≤ 60000) : Q * Q' + Q + Q' + 30000000 < k := by
 have h1 := h.le hb
 have h2 := h'.le hb
 have h3 := Nat.mul_le_mul h1.1 h2.1
 unfold Fu at hk
 omega
theorem Fu.big {k : Nat} (hk : Fu k) : 300000000 < k := by unfold Fu at hk; omega
theorem Fu.one {k : Nat} (hk : Fu k) : fB + 30000000 < k := by unfold Fu at hk; generalize fB = F at hk ⊢; omega
theorem Fu.chk {b : Nat} {P : Int} {Q k : Nat} (hk : Fu k) (h : Bd b P Q) (hb : b ≤ 60000) : Q + 20000000 < k := by
 have h1 := h.le hb
 unfold Fu at hk
 omega
theorem rzv_check {b : Nat} {P : Int} {Q : Nat} (h : Bd b P Q) (hb : b ≤ 60000) (k : Nat) (hk : Fu k) : rat_Check.f k (rzv P Q).1 (rzv P Q).2.1 (rzv P Q).2.2 = some 0 := by
 obtain ⟨N, D, i, _, _, l⟩ := rzv_d P h.nz h.num h.den
 exact i.check hb k (by have := hk.chk h hb; omega)
theorem rzv_lens {b : Nat} {P : Int} {Q : Nat} (h : Bd b P Q) (hb : b ≤ 60000) : (rzv P Q).2.1.length ≤ 1000 ∧ (rzv P Q).2.2.length ≤ 1000 := by
 obtain ⟨N, D, i, _, _, l⟩ := rzv_d P h.nz h.num h.den
 rw [i.eq]
 exact ⟨wd_lenb i.num 1000 (by omega), wd_lenb i.den 1000 (by omega)⟩
theorem sign_rz {b : Nat} {P : Int} {Q : Nat} (h : Bd b P Q) (hb : b ≤ 60000) (k : Nat) (hk : Fu k) : rat_Sign.f k (rzv P Q).1 (rzv P Q).2.1 (rzv P Q).2.2 = some P.sign := by
 obtain ⟨N, D, i, e, _, l⟩ := rzv_d P h.nz h.num h.den
 have hl := rzv_lens h hb
 rw [i.eq] at hl ⊢
 have := hk.big
 have l1 : (wd N.natAbs).length ≤ 1000 := hl.1
 show rat_Sign.f k (decide (N < 0)) (wd N.natAbs) (wd D) = _
 rw [rat_Sign.ok _ _ _ (by omega) k (by omega), sg_self]
 have hQ : (0 : Int) < Q := by have := h.nz; omega
 have hD : (0 : Int) < D := by have := i.pos; omega
 have s := congrArg Int.sign e
 rw [Int.sign_mul, Int.sign_mul, Int.sign_eq_one_of_pos hQ, Int.sign_eq_one_of_pos hD, Int.mul_one, Int.mul_one] at s
 rw [s]
theorem Fu.two {b : Nat} {P P' : Int} {Q Q' k : Nat} (hk : Fu k) (h : Bd b P Q) (h' : Bd b P' Q') (hb : b ≤ 60000) : Q + Q' + 30000000 < k := by
 have h1 := h.le hb
 have h2 := h'.le hb
 unfold Fu at hk
 omega
theorem Bd.addf {b : Nat} {P P' : Int} {Q Q' : Nat} (h : Bd b P Q) (h' : Bd b P' Q') (hb : b ≤ 60000) {k : Nat} (hk : Fu k) :
  rat_Add.f k (rzv P Q).1 (rzv P Q).2.1 (rzv P Q).2.2 (rzv P' Q').1 (rzv P' Q').2.1 (rzv P' Q').2.2 = some ((rzv (P * Q' + P' * Q) (Q * Q')).1, (rzv (P * Q' + P' * Q) (Q * Q')).2.1, (rzv (P * Q' + P' * Q) (Q * Q')).2.2, 0) :=
 rat_Add.rz h.nz h'.nz h.num h.den h'.num h'.den hb k (hk.of h h' hb)
theorem Bd.subf {b : Nat} {P P' : Int} {Q Q' : Nat} (h : Bd b P Q) (h' : Bd b P' Q') (hb : b ≤ 60000) {k : Nat} (hk : Fu k) :
  rat_Sub.f k (rzv P Q).1 (rzv P Q).2.1 (rzv P Q).2.2 (rzv P' Q').1 (rzv P' Q').2.1 (rzv P' Q').2.2 = some ((rzv (P * Q' - P' * Q) (Q * Q')).1, (rzv (P * Q' - P' * Q) (Q * Q')).2.1, (rzv (P * Q' - P' * Q) (Q * Q')).2.2, 0) :=
 rat_Sub.rz h.nz h'.nz h.num h.den h'.num h'.den hb k (hk.of h h' hb)
theorem Bd.mulf {b : Nat} {P P' : Int} {Q Q' : Nat} (h : Bd b P Q) (h' : Bd b P' Q') (hb : b ≤ 60000) {k : Nat} (hk : Fu k) :
  rat_Mul.f k (rzv P Q).1 (rzv P Q).2.1 (rzv P Q).2.2 (rzv P' Q').1 (rzv P' Q').2.1 (rzv P' Q').2.2 = some ((rzv (P * P') (Q * Q')).1, (rzv (P * P') (Q * Q')).2.1, (rzv (P * P') (Q * Q')).2.2, 0) :=
 rat_Mul.rz h.nz h'.nz h.num h.den h'.num h'.den hb k (hk.of h h' hb)
theorem Bd.cmpf {b : Nat} {P P' : Int} {Q Q' : Nat} (h : Bd b P Q) (h' : Bd b P' Q') (hb : b ≤ 60000) {k : Nat} (hk : Fu k) :
  rat_Cmp.f k (rzv P Q).1 (rzv P Q).2.1 (rzv P Q).2.2 (rzv P' Q').1 (rzv P' Q').2.1 (rzv P' Q').2.2 = some (cmpI (P * Q') (P' * Q), 0) :=
 rat_Cmp.rz h.nz h'.nz h.num h.den h'.num h'.den hb k (hk.two h h' hb)
theorem one05.self {b : Nat} {P : Int} {Q : Nat} (h : Bd b P Q) (hb : b ≤ 60000) (k : Nat) (hk : Fu k) : plumblaw05_one.f k (rzv P Q).1 (rzv P Q).2.1 (rzv P Q).2.2 (rzv P Q).1 (rzv P Q).2.1 (rzv P Q).2.2 = some true := by
 have hl := rzv_lens h hb
 have := hk.big
 exact one_refl _ _ _ k (by omega) (by omega)
theorem one05.ok {b : Nat} {P P' : Int} {Q Q' : Nat} (h : Bd b P Q) (hQ' : Q' ≠ 0) (hb : b ≤ 60000) (k : Nat) (hk : Fu k) (e : P * Q' = P' * Q) : plumblaw05_one.f k (rzv P Q).1 (rzv P Q).2.1 (rzv P Q).2.2 (rzv P' Q').1 (rzv P' Q').2.1 (rzv P' Q').2.2 = some true := by
 rw [← rzv_same h.nz hQ' e]
 exact one05.self h hb k hk
theorem add05.ok {b : Nat} {P P' : Int} {Q Q' : Nat} (h : Bd b P Q) (h' : Bd b P' Q') (hb : b + b + 1 ≤ 60000) {k : Nat} (hk : Fu k) :
  plumblaw05_add.f k (rzv P Q).1 (rzv P Q).2.1 (rzv P Q).2.2 (rzv P' Q').1 (rzv P' Q').2.1 (rzv P' Q').2.2 = some ((rzv (P * Q' + P' * Q) (Q * Q')).1, (rzv (P * Q' + P' * Q) (Q * Q')).2.1, (rzv (P * Q' + P' * Q) (Q * Q')).2.2, true) := by
 rw [plumblaw05_add.f, h.addf h' (by omega) hk, Option.bind_some, if_pos rfl]
 show (rat_Check.f k _ _ _).bind _ = _
 rw [rzv_check (h.add h') hb k hk, Option.bind_some]
 rfl
theorem sub05.ok {b : Nat} {P P' : Int} {Q Q' : Nat} (h : Bd b P Q) (h' : Bd b P' Q') (hb : b + b + 1 ≤ 60000) {k : Nat} (hk : Fu k) :
  plumblaw05_sub.f k (rzv P Q).1 (rzv P Q).2.1 (rzv P Q).2.2 (rzv P' Q').1 (rzv P' Q').2.1 (rzv P' Q').2.2 = some ((rzv (P * Q' - P' * Q) (Q * Q')).1, (rzv (P * Q' - P' * Q) (Q * Q')).2.1, (rzv (P * Q' - P' * Q) (Q * Q')).2.2, true) := by
 rw [plumblaw05_sub.f, h.subf h' (by omega) hk, Option.bind_some, if_pos rfl]
 show (rat_Check.f k _ _ _).bind _ = _
 rw [rzv_check (h.sub h') hb k hk, Option.bind_some]
 rfl
theorem mul05.ok {b : Nat} {P P' : Int} {Q Q' : Nat} (h : Bd b P Q) (h' : Bd b P' Q') (hb : b + b ≤ 60000) {k : Nat} (hk : Fu k) :
  plumblaw05_mul.f k (rzv P Q).1 (rzv P Q).2.1 (rzv P Q).2.2 (rzv P' Q').1 (rzv P' Q').2.1 (rzv P' Q').2.2 = some ((rzv (P * P') (Q * Q')).1, (rzv (P * P') (Q * Q')).2.1, (rzv (P * P') (Q * Q')).2.2, true) := by
 rw [plumblaw05_mul.f, h.mulf h' (by omega) hk, Option.bind_some, if_pos rfl]
 show (rat_Check.f k _ _ _).bind _ = _
 rw [rzv_check (h.mul h') hb k hk, Option.bind_some]
 rfl
theorem part_bd (neg : Bool) (l1 l2 : List Int) (h1 : Ws l1) (h2 : Ws l2) (t : Nat) (ht : t = 768) : ∃ (P : Int) (Q : Nat), Bd t P Q ∧ ∀ k, Fu k → plumblaw05_Part_made.f k neg l1 l2 = some ((rzv P Q).1, (rzv P Q).2.1, (rzv P Q).2.2, true) := by
 obtain ⟨x, y, A, B, hx, hy, lx, ly, vx, vy, hB, bA, bB, hwh⟩ := part_whole neg l1 l2 h1 h2 t ht
 have d : Bd t (sg neg A) B := ⟨Nat.ne_of_gt hB, by rw [sg_abs]; exact bA, bB⟩
 exact ⟨sg neg A, B, d, fun k hk => part_made neg l1 l2 x y A B hx hy lx ly vx vy hB t ht bA bB hwh k (hk.chk d (by omega))⟩
theorem three_bd (n1 : Bool) (x1 y1 : List Int) (n2 : Bool) (x2 y2 : List Int) (n3 : Bool) (x3 y3 : List Int) (hx1 : Ws x1) (hy1 : Ws y1) (hx2 : Ws x2) (hy2 : Ws y2) (hx3 : Ws x3) (hy3 : Ws y3) (t : Nat) (ht : t = 768) :
  ∃ (a b c : Int) (p q r : Nat), Bd t a p ∧ Bd t b q ∧ Bd t c r ∧ ∀ k, Fu k → plumblaw05_three.f k n1 x1 y1 n2 x2 y2 n3 x3 y3 = some ((rzv a p).1, (rzv a p).2.1, (rzv a p).2.2, (rzv b q).1, (rzv b q).2.1, (rzv b q).2.2, (rzv c r).1, (rzv c r).2.1, (rzv c r).2.2, true) := by
 obtain ⟨a, p, da, fa⟩ := part_bd n1 x1 y1 hx1 hy1 t ht
 obtain ⟨b, q, db, fb⟩ := part_bd n2 x2 y2 hx2 hy2 t ht
 obtain ⟨c, r, dc, fc⟩ := part_bd n3 x3 y3 hx3 hy3 t ht
 refine ⟨a, b, c, p, q, r, da, db, dc, fun k hk => ?_⟩
 have big := hk.big
 rw [plumblaw05_three.f, fa k hk, Option.bind_some, fb k hk, Option.bind_some, fc k hk, Option.bind_some, if_pos rfl, if_pos rfl, if_pos rfl, alive05 k (by omega), Option.bind_some]
theorem cmpI_sign (a b : Int) : cmpI a b = (a - b).sign := by
 rcases Int.lt_trichotomy a b with h | h | h
 ·rw [cmpI_lt h, Int.sign_eq_neg_one_of_neg (by omega)]
 ·rw [cmpI_eq h, h, Int.sub_self, Int.sign_zero]
 ·rw [cmpI_gt h, Int.sign_eq_one_of_pos (by omega)]
theorem ord_add (a b c : Int) (p q : Nat) {r : Nat} (hr : r ≠ 0) : cmpI ((a * (r : Int) + c * (p : Int)) * ((q * r : Nat) : Int)) ((b * (r : Int) + c * (q : Int)) * ((p * r : Nat) : Int)) = cmpI (a * (q : Int)) (b * (p : Int)) := by
 have hr' : (0 : Int) < r := by omega
 have e : (a * (r : Int) + c * (p : Int)) * ((q * r : Nat) : Int) - (b * (r : Int) + c * (q : Int)) * ((p * r : Nat) : Int) = (a * (q : Int) - b * (p : Int)) * ((r : Int) * r) := by simp only [Int.natCast_mul]; grind
 rw [cmpI_sign, cmpI_sign, e, Int.sign_mul, Int.sign_eq_one_of_pos (Int.mul_pos hr' hr'), Int.mul_one]
theorem ord_mul (a b c : Int) (p q : Nat) {r : Nat} (hr : r ≠ 0) : cmpI ((a * c) * ((q * r : Nat) : Int)) ((b * c) * ((p * r : Nat) : Int)) = cmpI (a * (q : Int)) (b * (p : Int)) * c.sign := by
 have hr' : (0 : Int) < r := by omega
 have e : (a * c) * ((q * r : Nat) : Int) - (b * c) * ((p * r : Nat) : Int) = (a * (q : Int) - b * (p : Int)) * c * (r : Int) := by simp only [Int.natCast_mul]; grind
 rw [cmpI_sign, cmpI_sign, e, Int.sign_mul, Int.sign_mul, Int.sign_eq_one_of_pos hr', Int.mul_one]
theorem cmpI_le {a b : Int} : cmpI a b ≤ 0 ↔ a ≤ b := by
 rcases cmpI_cases a b with ⟨h, e⟩ | ⟨h, e⟩ | ⟨h, e⟩ <;> rw [e] <;> omega
theorem ord_trans (a b c : Int) {p q r : Nat} (hp : p ≠ 0) (hq : q ≠ 0) (hr : r ≠ 0) (h1 : cmpI (a * (q : Int)) (b * (p : Int)) ≤ 0) (h2 : cmpI (b * (r : Int)) (c * (q : Int)) ≤ 0) : cmpI (a * (r : Int)) (c * (p : Int)) ≤ 0 := by
 rw [cmpI_le] at *
 have hp' : (0 : Int) ≤ p := by omega
 have hq' : (0 : Int) < q := by omega
 have hr' : (0 : Int) ≤ r := by omega
 have m1 := Int.mul_le_mul_of_nonneg_right h1 hr'
 have m2 := Int.mul_le_mul_of_nonneg_right h2 hp'
 have e1 : a * (q : Int) * r = a * r * q := by grind
 have e2 : b * (p : Int) * r = b * r * p := by grind
 have e3 : c * (q : Int) * p = c * p * q := by grind
 rw [e1, e2] at m1
 rw [e3] at m2
 exact Int.le_of_mul_le_mul_right (Int.le_trans m1 m2) hq'
theorem same05_ne_l0 (x y : List Int) (hx : x.length = y.length) (hl : x.length ≤ 1000000) : ∀ (d k i : Nat), d = x.length - i → d < k → i ≤ x.length → plumblaw05_same.l0 k x y (i : Int) = some (decide (x.drop i = y.drop i)) := by
 intro d
 induction d with
 | zero =>
  intro k i hd hk hi
  obtain ⟨k, rfl⟩ : ∃ j, k = j + 1 := ⟨k - 1, by omega⟩
  have q : ¬ (i : Int) < (x.length : Int) := by omega
  rw [plumblaw05_same.l0, if_neg q, List.drop_eq_nil_of_le (by omega), List.drop_eq_nil_of_le (by omega)]
  rfl
 | succ d ih =>
  intro k i hd hk hi
  obtain ⟨k, rfl⟩ : ∃ j, k = j + 1 := ⟨k - 1, by omega⟩
  have q : (i : Int) < (x.length : Int) := by omega
  have q2 : (i : Int) < (y.length : Int) := by omega
  have q0 : (0 : Int) ≤ (i : Int) := by omega
  have i1 : i < x.length := by omega
  have i2 : i < y.length := by omega
  have hd1 : x.drop i = x[i] :: x.drop (i + 1) := List.drop_eq_getElem_cons i1
  have hd2 : y.drop i = y[i] :: y.drop (i + 1) := List.drop_eq_getElem_cons i2
  have g1 : rd x (i : Int) = x[i] := by rw [rdn, List.getD_eq_getElem?_getD, List.getElem?_eq_getElem i1]; rfl
  have g2 : rd y (i : Int) = y[i] := by rw [rdn, List.getD_eq_getElem?_getD, List.getElem?_eq_getElem i2]; rfl
  rw [plumblaw05_same.l0, if_pos q, if_pos q0, if_pos q2, g1, g2, hd1, hd2]
  by_cases e : x[i] = y[i]
  ·rw [if_pos e, w64_s i (by omega), ih k (i + 1) (by omega) (by omega) (by omega)]
   congr 1
   rw [decide_eq_decide, e]
   exact ⟨fun h => by rw [h], fun h => (List.cons.inj h).2⟩
  ·rw [if_neg e]
   congr 1
   symm
   rw [decide_eq_false_iff_not]
   exact fun h => e (List.cons.inj h).1
theorem same05_eq (x y : List Int) (hx : x.length ≤ 1000000) (k : Nat) (hk : 1000000 < k) : plumblaw05_same.f k x y = some (decide (x = y)) := by
 rw [plumblaw05_same.f]
 by_cases h : (x.length : Int) = (y.length : Int)
 ·rw [if_pos h]
  have := same05_ne_l0 x y (by omega) hx x.length k 0 (by omega) (by omega) (by omega)
  exact this
 ·rw [if_neg h]
  congr 1
  symm
  rw [decide_eq_false_iff_not]
  exact fun e => h (by rw [e])
theorem rzv_inj {P P' : Int} {Q Q' : Nat} (hQ : Q ≠ 0) (hQ' : Q' ≠ 0) (h : rzv P Q = rzv P' Q') : P * (Q' : Int) = P' * (Q : Int) := by
 obtain ⟨N, D, i, e, _, _⟩ := rzv_is P hQ
 obtain ⟨M, E, i', e', _, _⟩ := rzv_is P' hQ'
 rw [i.eq, i'.eq] at h
 have h1 : decide (N < 0) = decide (M < 0) := congrArg Prod.fst h
 have h2 : wd N.natAbs = wd M.natAbs := congrArg (fun x => x.2.1) h
 have h3 : wd D = wd E := congrArg (fun x => x.2.2) h
 have n2 := congrArg nv h2
 have n3 := congrArg nv h3
 rw [nv_wd, nv_wd] at n2 n3
 have hDE : D = E := by omega
 have hNM : N = M := by
  rw [decide_eq_decide] at h1
  omega
 subst hDE hNM
 have hD : (D : Int) ≠ 0 := by have := i.pos; omega
 have : (P * (Q' : Int)) * D = (P' * (Q : Int)) * D := by
  have e1 : (P * (Q' : Int)) * D = P * D * Q' := by grind
  have e2 : (P' * (Q : Int)) * D = P' * D * Q := by grind
  rw [e1, e2, e, e']
  grind
 exact Int.eq_of_mul_eq_mul_right hD this
theorem one05_eq {b c : Nat} {P P' : Int} {Q Q' : Nat} (h : Bd b P Q) (h' : Bd c P' Q') (hb : b ≤ 60000) (hc : c ≤ 60000) (k : Nat) (hk : Fu k) : plumblaw05_one.f k (rzv P Q).1 (rzv P Q).2.1 (rzv P Q).2.2 (rzv P' Q').1 (rzv P' Q').2.1 (rzv P' Q').2.2 = some (decide (P * (Q' : Int) = P' * (Q : Int))) := by
 have hl := rzv_lens h hb
 have big := hk.big
 have key : (P * (Q' : Int) = P' * (Q : Int)) ↔ rzv P Q = rzv P' Q' := ⟨fun e => rzv_same h.nz h'.nz e, fun e => rzv_inj h.nz h'.nz e⟩
 generalize hv : rzv P Q = v at *
 generalize hu : rzv P' Q' = u at *
 obtain ⟨s, x, y⟩ := v
 obtain ⟨t, z, w⟩ := u
 have lx : x.length ≤ 1000000 := by have : x.length ≤ 1000 := hl.1; omega
 have ly : y.length ≤ 1000000 := by have : y.length ≤ 1000 := hl.2; omega
 have ek : decide (P * (Q' : Int) = P' * (Q : Int)) = decide ((s, x, y) = (t, z, w)) := decide_eq_decide.2 key
 rw [ek]
 show plumblaw05_one.f k s x y t z w = _
 rw [plumblaw05_one.f, same05_eq x z lx k (by omega), Option.bind_some, same05_eq y w ly k (by omega), Option.bind_some]
 by_cases a1 : s = t
 ·subst a1
  rw [if_pos (by cases s <;> rfl)]
  by_cases a2 : x = z
  ·subst a2
   rw [if_pos (decide_eq_true rfl)]
   congr 1
   rw [decide_eq_decide]
   exact ⟨fun h => by rw [h], fun h => congrArg (fun x => x.2.2) h⟩
  ·rw [if_neg (by rw [decide_eq_false a2]; decide)]
   congr 1
   symm
   rw [decide_eq_false_iff_not]
   exact fun h => a2 (congrArg (fun x => x.2.1) h)
 ·rw [if_neg (by intro h; exact a1 (eq_of_beq h))]
  congr 1
  symm
  rw [decide_eq_false_iff_not]
  exact fun h => a1 (congrArg Prod.fst h)
end Go.Proofs.Ytiogfeeaepkkmaa.PA
namespace Go.Proofs.Ytiogfeeaepkkmaa.Pure
open Go Go.RowKit Go.Proofs.Ytiogfeeaepkkmaa.PA Go.Proofs.YtiogfeeaepkkmaaW.PrintWords Go.Proofs.YtiogfeeaepkkmaaW.PrintLast
set_option linter.unusedVariables false
theorem cmpI_small (a b : Int) : -1 ≤ cmpI a b ∧ cmpI a b ≤ 1 := by
 rcases cmpI_cases a b with ⟨_, e⟩ | ⟨_, e⟩ | ⟨_, e⟩ <;> rw [e] <;> exact ⟨by decide, by decide⟩
theorem cmpI_zero {a b : Int} : cmpI a b = 0 ↔ a = b := by
 rcases cmpI_cases a b with ⟨h, e⟩ | ⟨h, e⟩ | ⟨h, e⟩ <;> rw [e]
 ·exact ⟨fun q => absurd q (by decide), fun q => by omega⟩
 ·exact ⟨fun _ => h, fun _ => rfl⟩
 ·exact ⟨fun q => absurd q (by decide), fun q => by omega⟩
theorem sign_small (c : Int) : c.sign = -1 ∨ c.sign = 0 ∨ c.sign = 1 := by
 rcases Int.lt_trichotomy c 0 with h | h | h
 ·exact .inl (Int.sign_eq_neg_one_of_neg h)
 ·subst h; exact .inr (.inl rfl)
 ·exact .inr (.inr (Int.sign_eq_one_of_pos h))
theorem mul_small {n s : Int} (hn : -1 ≤ n ∧ n ≤ 1) (hs : s = -1 ∨ s = 0 ∨ s = 1) : wrap64 (n * s) = n * s := by
 rcases hs with rfl | rfl | rfl <;> exact w64_of (by omega) (by omega)
theorem order_j1 {t : Nat} {a b c : Int} {p q r : Nat} (da : Bd t a p) (db : Bd t b q) (dc : Bd t c r) (ht : t = 768) (k : Nat) (hk : Fu k) :
  plumblaw05_RatOrder.j1 (k + 1) (cmpI (a * (q : Int)) (b * (p : Int))) false (rzv a p).1 (rzv a p).2.1 (rzv a p).2.2 (rzv b q).1 (rzv b q).2.1 (rzv b q).2.2 (rzv c r).1 (rzv c r).2.1 (rzv c r).2.2 = some true := by
 have hb : t ≤ 60000 := by omega
 rw [plumblaw05_RatOrder.j1, if_neg (by decide), db.cmpf dc hb hk, Option.bind_some, da.cmpf dc hb hk, Option.bind_some, if_pos rfl, if_pos rfl]
 by_cases h1 : cmpI (a * (q : Int)) (b * (p : Int)) > 0
 ·rw [if_pos h1]
 ·rw [if_neg h1]
  by_cases h2 : cmpI (b * (r : Int)) (c * (q : Int)) > 0
  ·rw [if_pos h2]
  ·rw [if_neg h2]
   exact congrArg some (decide_eq_true (ord_trans a b c da.nz db.nz dc.nz (by omega) (by omega)))
theorem order_j0 {t : Nat} {a b c : Int} {p q r : Nat} (da : Bd t a p) (db : Bd t b q) (dc : Bd t c r) (ht : t = 768) (k : Nat) (hk : Fu k) (n : Int) (hn : n = cmpI (a * (q : Int)) (b * (p : Int))) :
  plumblaw05_RatOrder.j0 (k + 2) n false (rzv a p).1 (rzv a p).2.1 (rzv a p).2.2 (rzv b q).1 (rzv b q).2.1 (rzv b q).2.2 (rzv c r).1 (rzv c r).2.1 (rzv c r).2.2
   (rzv (a * (r : Int) + c * (p : Int)) (p * r)).1 (rzv (a * (r : Int) + c * (p : Int)) (p * r)).2.1 (rzv (a * (r : Int) + c * (p : Int)) (p * r)).2.2 (rzv (b * (r : Int) + c * (q : Int)) (q * r)).1 (rzv (b * (r : Int) + c * (q : Int)) (q * r)).2.1 (rzv (b * (r : Int) + c * (q : Int)) (q * r)).2.2
   (rzv (a * c) (p * r)).1 (rzv (a * c) (p * r)).2.1 (rzv (a * c) (p * r)).2.2 (rzv (b * c) (q * r)).1 (rzv (b * c) (q * r)).2.1 (rzv (b * c) (q * r)).2.2 = some true := by
 have hk1 : Fu (k + 1) := by unfold Fu at hk ⊢; omega
 have hb : t ≤ 60000 := by omega
 have s1 := da.add dc
 have s2 := db.add dc
 have m1 := da.mul dc
 have m2 := db.mul dc
 have c1 := s1.cmpf s2 (by omega) hk1
 have c2 := m1.cmpf m2 (by omega) hk1
 rw [ord_add a b c p q dc.nz, ← hn] at c1
 rw [ord_mul a b c p q dc.nz, ← hn] at c2
 have hs : -1 ≤ n ∧ n ≤ 1 := by rw [hn]; exact cmpI_small _ _
 have j1 := order_j1 da db dc ht k hk
 rw [← hn] at j1
 rw [plumblaw05_RatOrder.j0, if_neg (by decide), c1, Option.bind_some, c2, Option.bind_some, if_pos rfl, if_pos rfl, if_pos rfl, sign_rz dc hb (k + 1) hk1, Option.bind_some, mul_small hs (sign_small c), show (n * c.sign != n * c.sign) = false from bne_self_eq_false _]
 exact j1
theorem ratOrder_pure (n1 : Bool) (x1 y1 : List Int) (n2 : Bool) (x2 y2 : List Int) (n3 : Bool) (x3 y3 : List Int) (hx1 : ∀ x ∈ x1, 0 ≤ x ∧ x < 18446744073709551616) (hy1 : ∀ x ∈ y1, 0 ≤ x ∧ x < 18446744073709551616) (hx2 : ∀ x ∈ x2, 0 ≤ x ∧ x < 18446744073709551616) (hy2 : ∀ x ∈ y2, 0 ≤ x ∧ x < 18446744073709551616) (hx3 : ∀ x ∈ x3, 0 ≤ x ∧ x < 18446744073709551616) (hy3 : ∀ x ∈ y3, 0 ≤ x ∧ x < 18446744073709551616) :
  ∃ k, plumblaw05_RatOrder.f k n1 x1 y1 n2 x2 y2 n3 x3 y3 = some true := by
 obtain ⟨t, ht⟩ : ∃ t : Nat, t = 768 := ⟨_, rfl⟩
 obtain ⟨a, b, c, p, q, r, da, db, dc, h3⟩ := three_bd n1 x1 y1 n2 x2 y2 n3 x3 y3 hx1 hy1 hx2 hy2 hx3 hy3 t ht
 obtain ⟨k, hk⟩ : ∃ k : Nat, Fu k := ⟨fB * fB + 2 * fB + 300000001, by unfold Fu; omega⟩
 have hk2 : Fu (k + 2) := by unfold Fu at hk ⊢; omega
 have hb : t ≤ 60000 := by omega
 have hb2 : t + t + 1 ≤ 60000 := by omega
 obtain ⟨n, hn⟩ : ∃ n, n = cmpI (a * (q : Int)) (b * (p : Int)) := ⟨_, rfl⟩
 have hs : -1 ≤ n ∧ n ≤ 1 := by rw [hn]; exact cmpI_small _ _
 have hm : cmpI (b * (p : Int)) (a * (q : Int)) = -n := by rw [hn]; exact cmpI_swap _ _
 have c1 := da.cmpf db hb hk2
 have c2 := db.cmpf da hb hk2
 rw [← hn] at c1
 rw [hm] at c2
 have hw : wrap64 (-(-n)) = n := by rw [w64_of (by omega) (by omega)]; omega
 have hsg : (a * (q : Int) - b * (p : Int)).sign = n := by rw [hn, cmpI_sign]
 have hone : ((n == 0) != decide (a * (q : Int) = b * (p : Int))) = false := by
  have e : (n == 0) = decide (a * (q : Int) = b * (p : Int)) := by
   show decide (n = 0) = _
   rw [decide_eq_decide, hn, cmpI_zero]
  rw [e, bne_self_eq_false]
 refine ⟨k + 2, ?_⟩
 rw [plumblaw05_RatOrder.f, h3 (k + 2) hk2, Option.bind_some, if_pos rfl, c1, Option.bind_some, c2, Option.bind_some, sub05.ok da db hb2 hk2, Option.bind_some, add05.ok da dc hb2 hk2, Option.bind_some, add05.ok db dc hb2 hk2, Option.bind_some, mul05.ok da dc (by omega) hk2, Option.bind_some, mul05.ok db dc (by omega) hk2, Option.bind_some,
  if_pos rfl, if_pos rfl, if_pos rfl, if_pos rfl, if_pos rfl, if_pos rfl, if_pos rfl, hw, if_pos rfl, sign_rz (da.sub db) (by omega) (k + 2) hk2, Option.bind_some, hsg, if_pos rfl, one05_eq da db hb hb (k + 2) hk2, Option.bind_some, hone]
 exact order_j0 da db dc ht k hk n hn
end Go.Proofs.Ytiogfeeaepkkmaa.Pure
namespace Go.Proofs.YtiogfeeaepkkmaaW.PrintWords
open Go
theorem open_three {H : Type} {enc : TypeId × Value → H} {P : Program} {w : World} {base b0 : Nat} {spare : Nat → Bool} {held : Bool} {r : Reach} {t : TypeId} {f0 f1 f2 : Field} {v : Value} {d : DataW H} {p : List MemPlace} (hs : P.underlying t = some (.struct #[f0, f1, f2]))
  (hC : P.cellsOf t = 3) (o0 : f0.offset = 0) (o1 : f1.offset = 1) (o2 : f2.offset = 2) (k0 : P.cellsOf f0.type = 1) (k1 : P.cellsOf f1.type = 1) (k2 : P.cellsOf f2.type = 1)
  (hv : Value.okWide P w r b0 t v) (h : DataW.Trod enc P w base spare held t v d p) :
  ∃ (v0 v1 v2 : Value) (y0 y1 y2 : DataW H × List MemPlace) (n : Nat), v = .agg #[v0, v1, v2] ∧ d = .agg [y0.1, y1.1, y2.1] ∧
   DataW.trod enc P w base spare held n f0.type [v0] = some y0 ∧ DataW.trod enc P w base spare held n f1.type [v1] = some y1 ∧ DataW.trod enc P w base spare held n f2.type [v2] = some y2 := by
 obtain ⟨cs, rfl, hsz⟩ := WideShapes.okWide_struct hs hv
 rw [hC] at hsz
 obtain ⟨l⟩ := cs
 match l, hsz with
 | [c0, c1, c2], _ =>
  obtain ⟨fuel, hf⟩ := h
  obtain ⟨xs, n, _, hx, hl, hlen, hg⟩ := DataW.trod_struct hs hf
  match xs, hlen with
  | [y0, y1, y2], _ =>
   have g0 := hg 0 f0 rfl
   have g1 := hg 1 f1 rfl
   have g2 := hg 2 f2 rfl
   rw [o0, k0] at g0
   rw [o1, k1] at g1
   rw [o2, k2] at g2
   simp only [Prod.mk.injEq, List.map_cons, List.map_nil] at hx
   exact ⟨c0, c1, c2, y0, y1, y2, n, rfl, hx.1, by simpa [Value.cells] using g0, by simpa [Value.cells] using g1, by simpa [Value.cells] using g2⟩
end Go.Proofs.YtiogfeeaepkkmaaW.PrintWords
