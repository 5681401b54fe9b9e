/- A part of the proof (17). -/
import Derived.Test.YtiogfeeaepkkmaaYKGVKG16
import Derived.Test.YtiogfeeaepkkmaaYKGVKG15
import Derived.OpenShut
import Derived.LaidLaws
import Derived.LaidHandle
import Derived.MakeChecks
import Derived.WideShapes
import Derived.ChangeArms
namespace Go.Proofs.Ytiogfeeaepkkmaa.PA
open Go Go.RowKit Go.Proofs.YtiogfeeaepkkmaaW.PrintWords Go.Proofs.YtiogfeeaepkkmaaW.PrintLast Go.Proofs.YtiogfeeaepkkmaaW.PrintMore
set_option linter.unusedVariables false
set_option linter.unusedSimpArgs false
theorem alive05_at : plumblaw05_alive.f 400 = some true := by kernel_rfl
theorem alive05 (k : Nat) (hk : 400 ≤ k) : plumblaw05_alive.f k = some true := by
 obtain ⟨d, rfl⟩ : ∃ d, k = 400 + d := ⟨k - 400, by omega⟩
 clear hk
 induction d with
 | zero => exact alive05_at
 | succ d ih => exact plumblaw05_alive.mono _ _ ih
theorem cut05_l0 (l : List Int) : ∀ (d k i : Nat), d = 12 - i → d < k → i ≤ 12 → i ≤ l.length → plumblaw05_cut.l0 k l (l.take i) (i : Int) = some (l.take 12) := by
 intro d
 induction d with
 | zero =>
  intro k i hd hk hi hl
  obtain ⟨k, rfl⟩ : ∃ j, k = j + 1 := ⟨k - 1, by omega⟩
  obtain rfl : i = 12 := by omega
  have q : ¬ ((12 : Nat) : Int) < 12 := by decide
  rw [plumblaw05_cut.l0, if_neg q]
  split <;> rfl
 | succ d ih =>
  intro k i hd hk hi hl
  obtain ⟨k, rfl⟩ : ∃ j, k = j + 1 := ⟨k - 1, by omega⟩
  rw [plumblaw05_cut.l0]
  by_cases h : i < l.length
  ·have q1 : (i : Int) < (l.length : Int) := by omega
   have q2 : (i : Int) < 12 := by omega
   have q3 : (0 : Int) ≤ (i : Int) := by omega
   have q4 : (l.take i).length < 17592186044416 := by rw [List.length_take]; omega
   have e : l.take (i + 1) = l.take i ++ [l.getD i 0] := by rw [List.take_succ_eq_append_getElem h, List.getD_eq_getElem?_getD, List.getElem?_eq_getElem h]; rfl
   rw [if_pos q1, if_pos q2, if_pos q3, if_pos q4, rdn, ← e, w64_s i (by omega)]
   exact ih k (i + 1) (by omega) (by omega) (by omega) (by omega)
  ·have q1 : ¬ (i : Int) < (l.length : Int) := by omega
   rw [if_neg q1, List.take_of_length_le (by omega), List.take_of_length_le (by omega)]
theorem cut05_eq (l : List Int) (k : Nat) (hk : 20 < k) : plumblaw05_cut.f k l = some (l.take 12) := by
 rw [plumblaw05_cut.f]
 exact cut05_l0 l 12 k 0 (by omega) (by omega) (by omega) (by omega)
theorem same05_l0 (l : List Int) (hl : l.length ≤ 1000000) : ∀ (d k i : Nat), d = l.length - i → d < k → i ≤ l.length → plumblaw05_same.l0 k l l (i : Int) = some true := by
 intro d
 induction d with
 | zero =>
  intro k i hd hk hi
  obtain ⟨k, rfl⟩ : ∃ j, k = j + 1 := ⟨k - 1, by omega⟩
  have q : ¬ (i : Int) < (l.length : Int) := by omega
  rw [plumblaw05_same.l0, if_neg q]
 | succ d ih =>
  intro k i hd hk hi
  obtain ⟨k, rfl⟩ : ∃ j, k = j + 1 := ⟨k - 1, by omega⟩
  have q : (i : Int) < (l.length : Int) := by omega
  have q0 : (0 : Int) ≤ (i : Int) := by omega
  rw [plumblaw05_same.l0, if_pos q, if_pos q0, if_pos q, if_pos rfl, w64_s i (by omega)]
  exact ih k (i + 1) (by omega) (by omega) (by omega)
theorem same_refl (l : List Int) (k : Nat) (hk : l.length < k ∧ l.length ≤ 1000000) : plumblaw05_same.f k l l = some true := by
 rw [plumblaw05_same.f, if_pos rfl]
 exact same05_l0 l hk.2 l.length k 0 (by omega) hk.1 (by omega)
theorem one_refl (s : Bool) (x y : List Int) (k : Nat) (hx : x.length < k ∧ x.length ≤ 1000000) (hy : y.length < k ∧ y.length ≤ 1000000) : plumblaw05_one.f k s x y s x y = some true := by
 have e : (s == s) = true := by cases s <;> rfl
 rw [plumblaw05_one.f, if_pos e, same_refl x k hx, Option.bind_some, if_pos rfl, same_refl y k hy, Option.bind_some]
theorem wrap_u64 (v : Int) : IntKind.u64.wrap v = v % 18446744073709551616 := by first | rfl | (simp [IntKind.wrap]; done) | (unfold IntKind.wrap; rfl)
theorem wrap_pos (v : Int) (h : ¬ v < 0) (h1 : v < 9223372036854775808) : IntKind.u64.wrap v = (v.natAbs : Int) := by rw [wrap_u64]; omega
theorem wrap_neg (v : Int) (h : v < 0) (h0 : -9223372036854775808 ≤ v) : IntKind.u64.wrap (-(IntKind.u64.wrap v)) = (v.natAbs : Int) := by rw [wrap_u64, wrap_u64]; omega
theorem rat_Int.eq (v : Int) (h0 : -9223372036854775808 ≤ v) (h1 : v < 9223372036854775808) : rat_Int.f v = some (decide (v < 0), wd v.natAbs, wd 1) := by
 have f1 : nat_From.f 1 = some (wd 1) := nat_From.f_eq (by decide) (by decide)
 have f2 : nat_From.f (v.natAbs : Int) = some (wd v.natAbs) := by
  rw [nat_From.f_eq (by omega) (by omega), Int.toNat_natCast]
 rw [rat_Int.f]
 by_cases h : v < 0
 ·rw [if_pos h, wrap_neg v h h0, f2, Option.bind_some, f1, Option.bind_some, decide_eq_true h]
 ·rw [if_neg h, wrap_pos v h h1, f2, Option.bind_some, f1, Option.bind_some, decide_eq_false h]
theorem whole05_l0 (x d : List Int) (hd : d.length ≤ 1000000) (hw : Ws d) : ∀ (n k i : Nat) (z : Bool), n = d.length - i → n < k → i ≤ d.length → (z = true ↔ nv (d.take i) = 0) →
  plumblaw05_Part_whole.l0 k x d z (i : Int) = some (x, if nv d = 0 then [1] else d) := by
 intro n
 induction n with
 | zero =>
  intro k i z hn hk hi hz
  obtain ⟨k, rfl⟩ : ∃ j, k = j + 1 := ⟨k - 1, by omega⟩
  have q : ¬ (i : Int) < (d.length : Int) := by omega
  rw [List.take_of_length_le (by omega)] at hz
  rw [plumblaw05_Part_whole.l0, if_neg q]
  by_cases h : nv d = 0
  ·rw [if_pos (hz.2 h), if_pos h]
  ·rw [if_neg (fun h2 => h (hz.1 h2)), if_neg h]
 | succ n ih =>
  intro k i z hn hk hi hz
  obtain ⟨k, rfl⟩ : ∃ j, k = j + 1 := ⟨k - 1, by omega⟩
  have hil : i < d.length := by omega
  have q : (i : Int) < (d.length : Int) := by omega
  have q0 : (0 : Int) ≤ (i : Int) := by omega
  have hp : (0 : Int) < 2 ^ (64 * i) := two_pow_pos _
  have h1 := nv_nonneg (hw.take i)
  have h2 := (hw.getD i).1
  have hs := nv_take_succ hil
  have hm : 0 ≤ d.getD i 0 * 2 ^ (64 * i) := Int.mul_nonneg h2 (Int.le_of_lt hp)
  rw [plumblaw05_Part_whole.l0, if_pos q, w64_s i (by omega)]
  by_cases hc : z = true
  ·rw [if_pos hc, if_pos q0, rdn]
   refine ih k (i + 1) _ (by omega) (by omega) (by omega) ?_
   rw [hs, hz.1 hc, Int.zero_add, beq_iff_eq]
   constructor
   ·intro h; rw [h, Int.zero_mul]
   ·intro h
    rcases Int.mul_eq_zero.1 h with h | h
    ·exact h
    ·omega
  ·rw [if_neg hc]
   refine ih k (i + 1) _ (by omega) (by omega) (by omega) ?_
   constructor
   ·intro h; cases h
   ·intro h
    exact absurd (hz.2 (by omega)) hc
theorem take12_lt {l : List Int} (hl : Ws l) {t : Nat} (ht : t = 768) {a : Nat} (ha : nv (l.take 12) = (a : Int)) : a < 2 ^ t := by
 have h1 := nv_lt (hl.take 12)
 rw [ha, p2cast] at h1
 refine Nat.lt_of_lt_of_le (Int.ofNat_lt.1 h1) (Nat.pow_le_pow_right (by decide) ?_)
 have h2 : (l.take 12).length ≤ 12 := by rw [List.length_take]; omega
 omega
theorem part_whole (neg : Bool) (l1 l2 : List Int) (h1 : Ws l1) (h2 : Ws l2) (t : Nat) (ht : t = 768) : ∃ (x y : List Int) (A B : Nat), Ws x ∧ Ws y ∧ x.length ≤ 12 ∧ y.length ≤ 12 ∧ nv x = (A : Int) ∧ nv y = (B : Int) ∧ 0 < B ∧ A < 2 ^ t ∧ B < 2 ^ t ∧
  ∀ k, 100 < k → plumblaw05_Part_whole.f k neg l1 l2 = some (x, y) := by
 have hx : Ws (l1.take 12) := h1.take 12
 have hy : Ws (l2.take 12) := h2.take 12
 have lx : (l1.take 12).length ≤ 12 := by rw [List.length_take]; omega
 have ly : (l2.take 12).length ≤ 12 := by rw [List.length_take]; omega
 obtain ⟨A, hA⟩ := Int.eq_ofNat_of_zero_le (nv_nonneg hx)
 obtain ⟨B, hB⟩ := Int.eq_ofNat_of_zero_le (nv_nonneg hy)
 have bA := take12_lt h1 ht hA
 have bB := take12_lt h2 ht hB
 have hw : ∀ k, 100 < k → plumblaw05_Part_whole.f k neg l1 l2 = some (l1.take 12, if nv (l2.take 12) = 0 then [1] else l2.take 12) := by
  intro k hk
  rw [plumblaw05_Part_whole.f, cut05_eq l1 k (by omega), Option.bind_some, cut05_eq l2 k (by omega), Option.bind_some]
  exact whole05_l0 _ _ (by omega) hy _ k 0 true rfl (by omega) (by omega) (by simp [nv])
 by_cases b0 : B = 0
 ·have w1 : Ws [(1 : Int)] := Ws.cons (by decide) (by decide) Ws.nil
  refine ⟨l1.take 12, [1], A, 1, hx, w1, lx, Nat.le_of_ble_eq_true rfl, hA, by simp [nv], by decide, bA, ?_, fun k hk => ?_⟩
  ·exact Nat.lt_of_lt_of_le (by decide : 1 < 2 ^ 1) (Nat.pow_le_pow_right (by decide) (by omega))
  ·rw [hw k hk, if_pos (by rw [hB, b0]; rfl)]
 ·refine ⟨l1.take 12, l2.take 12, A, B, hx, hy, lx, ly, hA, hB, by omega, bA, bB, fun k hk => ?_⟩
  rw [hw k hk, if_neg (by rw [hB]; omega)]
theorem part_made (neg : Bool) (l1 l2 x y : List Int) (A B : Nat) (hx : Ws x) (hy : Ws y) (lx : x.length ≤ 12) (ly : y.length ≤ 12) (vx : nv x = (A : Int)) (vy : nv y = (B : Int)) (hB : 0 < B) (t : Nat) (ht : t = 768) (bA : A < 2 ^ t) (bB : B < 2 ^ t) (hw : ∀ k, 100 < k → plumblaw05_Part_whole.f k neg l1 l2 = some (x, y)) (k : Nat) (hk : B + 20000000 < k) :
  plumblaw05_Part_made.f k neg l1 l2 = some ((rzv (sg neg A) B).1, (rzv (sg neg A) B).2.1, (rzv (sg neg A) B).2.2, true) := by
 obtain ⟨N, D, hR, hcr, lN, lD⟩ := rzv_is (sg neg A) (Nat.ne_of_gt hB)
 rw [sg_abs] at lN
 have hch : rat_Check.f k (decide (N < 0)) (wd N.natAbs) (wd D) = some 0 := rat_Check.ok _ _ _ (by intro h; have := of_decide_eq_true h; omega) hR.pos hR.low (wd_lenb (Nat.lt_of_le_of_lt lN bA) 4096 (by omega)) (wd_lenb (Nat.lt_of_le_of_lt lD bB) 4096 (by omega)) k (by omega)
 rw [plumblaw05_Part_made.f, hw k (by omega), Option.bind_some, rat_New.rz neg x y hx hy (by omega) (by omega) A B vx vy (Nat.ne_of_gt hB) k (by omega), Option.bind_some, if_pos rfl]
 rw [hR.eq]
 show ((rat_Check.f k (decide (N < 0)) (wd N.natAbs) (wd D)).bind _) = _
 rw [hch, Option.bind_some]
 rfl
structure IsB (b : Nat) (v : Bool × List Int × List Int) (N : Int) (D : Nat) : Prop extends IsR v N D where
 num : N.natAbs < 2 ^ b
 den : D < 2 ^ b
theorem IsB.check {b : Nat} {v : Bool × List Int × List Int} {N : Int} {D : Nat} (h : IsB b v N D) (hb : b ≤ 60000) (k : Nat) (hk : D + 20000000 < k) : rat_Check.f k v.1 v.2.1 v.2.2 = some 0 := by
 rw [h.eq]
 exact rat_Check.ok _ _ _ (by intro h; have := of_decide_eq_true h; omega) h.pos h.low (wd_lenb h.num 4096 (by omega)) (wd_lenb h.den 4096 (by omega)) k (by omega)
theorem sg_self (N : Int) : sg (decide (N < 0)) N.natAbs = N := by unfold sg; by_cases h : N < 0 <;> simp [h] <;> omega
theorem rzv_d {b : Nat} (P : Int) {Q : Nat} (hQ : Q ≠ 0) (hp : P.natAbs < 2 ^ b) (hq : Q < 2 ^ b) : ∃ N D, IsB b (rzv P Q) N D ∧ P * D = N * Q ∧ N.natAbs ≤ P.natAbs ∧ D ≤ Q := by
 obtain ⟨N, D, h, e, l1, l2⟩ := rzv_is P hQ
 exact ⟨N, D, ⟨h, Nat.lt_of_le_of_lt l1 hp, Nat.lt_of_le_of_lt l2 hq⟩, e, l1, l2⟩
theorem idx_l0 (l : List Int) (hl : l.length ≤ 1000000) : ∀ (d k i : Nat), d = l.length - i → d < k → i ≤ l.length → ∃ r, slices_IndexFunc_uint64_uint64.l0 k l (l.length : Int) (i : Int) = some r ∧ ((r = -1 ∧ ∀ j, i ≤ j → j < l.length → l.getD j 0 = 0) ∨ (0 ≤ r ∧ ∃ j, j < l.length ∧ l.getD j 0 ≠ 0)) := by
 intro d
 induction d with
 | zero =>
  intro k i hd hk hi
  obtain ⟨k, rfl⟩ : ∃ j, k = j + 1 := ⟨k - 1, by omega⟩
  obtain rfl : i = l.length := by omega
  rw [slices_IndexFunc_uint64_uint64.l0, if_neg (by omega)]
  exact ⟨-1, rfl, .inl ⟨rfl, fun j h1 h2 => by omega⟩⟩
 | succ d ih =>
  intro k i hd hk hi
  obtain ⟨k, rfl⟩ : ∃ j, k = j + 1 := ⟨k - 1, by omega⟩
  rw [slices_IndexFunc_uint64_uint64.l0, if_pos (by omega), if_pos (by omega), if_pos (by omega), rat_SignC1.f, Option.bind_some, rdn]
  by_cases h : l.getD i 0 = 0
  ·have hb : ¬ (l.getD i 0 != 0) = true := by rw [h]; decide
   rw [if_neg hb, w64_s i (by omega)]
   obtain ⟨r, h1, h2⟩ := ih k (i + 1) (by omega) (by omega) (by omega)
   refine ⟨r, h1, ?_⟩
   rcases h2 with ⟨e, h2⟩ | h2
   ·refine .inl ⟨e, fun j j1 j2 => ?_⟩
    by_cases ej : j = i
    ·subst ej; exact h
    ·exact h2 j (by omega) j2
   ·exact .inr h2
  ·have hb : (l.getD i 0 != 0) = true := bne_iff_ne.2 h
   rw [if_pos hb]
   exact ⟨_, rfl, .inr ⟨by omega, i, by omega, h⟩⟩
theorem rat_Sign.ok (s : Bool) (A : Nat) (y : List Int) (hl : (wd A).length ≤ 1000000) (k : Nat) (hk : 1000000 < k) : rat_Sign.f k s (wd A) y = some (sg s A).sign := by
 obtain ⟨r, h1, h2⟩ := idx_l0 (wd A) hl ((wd A).length) k 0 (by omega) (by omega) (by omega)
 have h1' : slices_IndexFunc_uint64_uint64.l0 k (wd A) ((wd A).length : Int) 0 = some r := h1
 rw [rat_Sign.f, slices_ContainsFunc_uint64_uint64.f, slices_IndexFunc_uint64_uint64.f, h1', Option.bind_some, Option.bind_some]
 rcases h2 with ⟨rfl, h2⟩ | ⟨h0, j, j1, j2⟩
 ·have hA : A = 0 := by
   apply Classical.byContradiction
   intro h
   have hp := (wd_pos_len A).2 h
   exact wd_last A h (h2 _ (Nat.zero_le _) (by omega))
  subst hA
  rw [sg_zero]
  rfl
 ·have hA : A ≠ 0 := by
   intro h
   subst h
   rw [wd_zero] at j1
   exact absurd j1 (Nat.not_lt_zero _)
  rw [decide_eq_true (show r ≥ 0 from h0), if_pos rfl]
  cases s
  ·rw [if_neg (by decide)]
   have : (sg false A).sign = 1 := Int.sign_eq_one_of_pos (by unfold sg; rw [if_neg (by decide)]; omega)
   rw [this]
  ·rw [if_pos rfl]
   have : (sg true A).sign = -1 := Int.sign_eq_neg_one_of_neg (by unfold sg; rw [if_pos rfl]; omega)
   rw [this]
theorem reck_ok {b : Nat} {v u : Bool × List Int × List Int} {N M : Int} {D E : Nat} (hv : IsB b v N D) (hu : IsB b u M E) (hb : b ≤ 60000) (k : Nat) (hk : D + 20000000 < k) (hk2 : E + 20000000 < k) (r : Bool × List Int × List Int) :
  rat_reckoned.f k v.1 v.2.1 v.2.2 u.1 u.2.1 u.2.2 (some r) = some (r.1, r.2.1, r.2.2, 0) := by
 rw [rat_reckoned.f, hv.check hb k hk, Option.bind_some, if_pos rfl, hu.check hb k hk2, Option.bind_some, if_pos rfl, Option.bind_some]
theorem rat_Add.ok {b : Nat} {v u : Bool × List Int × List Int} {N M : Int} {D E : Nat} (hv : IsB b v N D) (hu : IsB b u M E) (hb : b ≤ 60000) (k : Nat) (hk : D * E + D + E + 30000000 < k) :
  rat_Add.f k v.1 v.2.1 v.2.2 u.1 u.2.1 u.2.2 = some ((rzv (N * E + M * D) (D * E)).1, (rzv (N * E + M * D) (D * E)).2.1, (rzv (N * E + M * D) (D * E)).2.2, 0) := by
 have hc : rat_AddC1.f k v.1 v.2.1 v.2.2 u.1 u.2.1 u.2.2 = some (rzv (N * E + M * D) (D * E)) := by
  rw [hv.eq, hu.eq]
  have h := rat_AddC1.ok (decide (N < 0)) (decide (M < 0)) N.natAbs D M.natAbs E (by intro h; have := of_decide_eq_true h; omega) (by intro h; have := of_decide_eq_true h; omega) hv.pos hu.pos b hb hv.num hv.den hu.num hu.den k (by omega)
  rw [sg_self, sg_self] at h
  exact h
 rw [rat_Add.f, rat_reckonedAdd.f, hc, reck_ok hv hu hb k (by omega) (by omega), Option.bind_some]
theorem rat_Add.rz {b : Nat} {P P' : Int} {Q Q' : Nat} (hQ : Q ≠ 0) (hQ' : Q' ≠ 0) (hp : P.natAbs < 2 ^ b) (hq : Q < 2 ^ b) (hp' : P'.natAbs < 2 ^ b) (hq' : Q' < 2 ^ b) (hb : b ≤ 60000) (k : Nat) (hk : Q * Q' + Q + Q' + 30000000 < k) :
  rat_Add.f k (rzv P Q).1 (rzv P Q).2.1 (rzv P Q).2.2 (rzv P' Q').1 (rzv P' Q').2.1 (rzv P' Q').2.2 = some ((rzv (P * Q' + P' * Q) (Q * Q')).1, (rzv (P * Q' + P' * Q) (Q * Q')).2.1, (rzv (P * Q' + P' * Q) (Q * Q')).2.2, 0) := by
 obtain ⟨N, D, h, e, _, l⟩ := rzv_d P hQ hp hq
 obtain ⟨M, E, h', e', _, l'⟩ := rzv_d P' hQ' hp' hq'
 have hm : D * E ≤ Q * Q' := Nat.mul_le_mul l l'
 rw [rat_Add.ok h h' hb k (by omega)]
 have s : rzv (N * E + M * D) (D * E) = rzv (P * Q' + P' * Q) (Q * Q') := rzv_same (Nat.mul_ne_zero h.pos h'.pos) (Nat.mul_ne_zero hQ hQ') (by rw [Int.natCast_mul, Int.natCast_mul]; grind)
 rw [s]
theorem IsB.neg {b : Nat} {u : Bool × List Int × List Int} {M : Int} {E : Nat} (h : IsB b u M E) : ∃ s, rat_turned.f u.1 u.2.1 u.2.2 = some s ∧ IsB b (s, u.2.1, u.2.2) (-M) E := by
 have hn : (-M).natAbs = M.natAbs := Int.natAbs_neg M
 refine ⟨decide (-M < 0), ?_, ⟨⟨h.pos, by rw [hn]; exact h.low, ?_⟩, by rw [hn]; exact h.num, h.den⟩⟩
 ·rw [h.eq, rat_turned.f]
  by_cases hM : M < 0
  ·rw [if_pos (decide_eq_true hM), decide_eq_false (show ¬ -M < 0 by omega)]
  ·rw [if_neg (show ¬ decide (M < 0) = true from fun h => hM (of_decide_eq_true h))]
   have hl := wd_pos_len M.natAbs
   congr 1
   rw [decide_eq_decide]
   show ((wd M.natAbs).length : Int) > 0 ↔ -M < 0
   rw [hl]
   omega
 ·have e := h.eq
  rw [hn]
  rw [Prod.ext_iff] at e
  exact Prod.ext rfl e.2
theorem rat_Sub.ok {b : Nat} {v u : Bool × List Int × List Int} {N M : Int} {D E : Nat} (hv : IsB b v N D) (hu : IsB b u M E) (hb : b ≤ 60000) (k : Nat) (hk : D * E + D + E + 30000000 < k) :
  rat_Sub.f k v.1 v.2.1 v.2.2 u.1 u.2.1 u.2.2 = some ((rzv (N * E - M * D) (D * E)).1, (rzv (N * E - M * D) (D * E)).2.1, (rzv (N * E - M * D) (D * E)).2.2, 0) := by
 obtain ⟨s, hs, hn⟩ := hu.neg
 have ha := rat_Add.ok hv hn hb k hk
 rw [Int.neg_mul, ← Int.sub_eq_add_neg] at ha
 have ha' : rat_Add.f k v.1 v.2.1 v.2.2 s u.2.1 u.2.2 = _ := ha
 rw [rat_Sub.f, hu.check hb k (by omega), Option.bind_some, if_pos rfl, hs, Option.bind_some, ha', Option.bind_some]
theorem rat_Sub.rz {b : Nat} {P P' : Int} {Q Q' : Nat} (hQ : Q ≠ 0) (hQ' : Q' ≠ 0) (hp : P.natAbs < 2 ^ b) (hq : Q < 2 ^ b) (hp' : P'.natAbs < 2 ^ b) (hq' : Q' < 2 ^ b) (hb : b ≤ 60000) (k : Nat) (hk : Q * Q' + Q + Q' + 30000000 < k) :
  rat_Sub.f k (rzv P Q).1 (rzv P Q).2.1 (rzv P Q).2.2 (rzv P' Q').1 (rzv P' Q').2.1 (rzv P' Q').2.2 = some ((rzv (P * Q' - P' * Q) (Q * Q')).1, (rzv (P * Q' - P' * Q) (Q * Q')).2.1, (rzv (P * Q' - P' * Q) (Q * Q')).2.2, 0) := by
 obtain ⟨N, D, h, e, _, l⟩ := rzv_d P hQ hp hq
 obtain ⟨M, E, h', e', _, l'⟩ := rzv_d P' hQ' hp' hq'
 have hm : D * E ≤ Q * Q' := Nat.mul_le_mul l l'
 rw [rat_Sub.ok h h' hb k (by omega)]
 have s : rzv (N * E - M * D) (D * E) = rzv (P * Q' - P' * Q) (Q * Q') := rzv_same (Nat.mul_ne_zero h.pos h'.pos) (Nat.mul_ne_zero hQ hQ') (by rw [Int.natCast_mul, Int.natCast_mul]; grind)
 rw [s]
theorem sg_mulsg (s t : Bool) (X Y : Nat) : sg s X * sg t Y = sg (s != t) (X * Y) := by
 cases s <;> cases t <;> simp [sg, Int.mul_neg, Int.neg_mul]
theorem rat_MulC1.ok (s1 s2 : Bool) (A1 D1 A2 D2 : Nat) (d1 : D1 ≠ 0) (d2 : D2 ≠ 0) (b : Nat) (hb : b ≤ 60000) (bA1 : A1 < 2 ^ b) (bD1 : D1 < 2 ^ b) (bA2 : A2 < 2 ^ b) (bD2 : D2 < 2 ^ b) (k : Nat) (hk : D1 * D2 + 20000000 < k) :
  rat_MulC1.f k s1 (wd A1) (wd D1) s2 (wd A2) (wd D2) = some (rzv (sg s1 A1 * sg s2 A2) (D1 * D2)) := by
 obtain ⟨c, hc⟩ : ∃ c : Nat, c = 262144 := ⟨_, rfl⟩
 have lens : ∀ n : Nat, n < 2 ^ b → (wd n).length ≤ 1000 := fun n hn => wd_lenb hn 1000 (by omega)
 have prod : ∀ X Y : Nat, X < 2 ^ b → Y < 2 ^ b → X * Y < 2 ^ (b + b) := fun X Y hX hY => by rw [Nat.pow_add]; exact Nat.mul_lt_mul'' hX hY
 have mulE : ∀ X Y : Nat, X < 2 ^ b → Y < 2 ^ b → rat_mul.f k (wd X) (wd Y) = some (wd (X * Y)) := fun X Y hX hY => rat_mul.ok _ _ (wd_ws _) (wd_ws _) (lens X hX) (lens Y hY) X Y (nv_wd _) (nv_wd _) (prod X Y hX hY) c hc (by omega) k (by omega)
 have len2 : ∀ n : Nat, n < 2 ^ (b + b) → (wd n).length ≤ 1000000 := fun n hn => wd_lenb hn 1000000 (by omega)
 rw [rat_MulC1.f, mulE A1 A2 bA1 bA2, Option.bind_some, mulE D1 D2 bD1 bD2, Option.bind_some, rat_lowest.rz (s1 != s2) _ _ (wd_ws _) (wd_ws _) (len2 _ (prod A1 A2 bA1 bA2)) (len2 _ (prod D1 D2 bD1 bD2)) (A1 * A2) (D1 * D2) (nv_wd _) (nv_wd _) (Nat.mul_ne_zero d1 d2) k (by omega), Option.bind_some, sg_mulsg]
theorem rat_DivC1.ok (s1 s2 : Bool) (A1 D1 A2 D2 : Nat) (d1 : D1 ≠ 0) (a2 : A2 ≠ 0) (b : Nat) (hb : b ≤ 60000) (bA1 : A1 < 2 ^ b) (bD1 : D1 < 2 ^ b) (bA2 : A2 < 2 ^ b) (bD2 : D2 < 2 ^ b) (k : Nat) (hk : D1 * A2 + 20000000 < k) :
  rat_DivC1.f k s1 (wd A1) (wd D1) s2 (wd A2) (wd D2) = some (rzv (sg (s1 != s2) (A1 * D2)) (D1 * A2)) := by
 obtain ⟨c, hc⟩ : ∃ c : Nat, c = 262144 := ⟨_, rfl⟩
 have lens : ∀ n : Nat, n < 2 ^ b → (wd n).length ≤ 1000 := fun n hn => wd_lenb hn 1000 (by omega)
 have prod : ∀ X Y : Nat, X < 2 ^ b → Y < 2 ^ b → X * Y < 2 ^ (b + b) := fun X Y hX hY => by rw [Nat.pow_add]; exact Nat.mul_lt_mul'' hX hY
 have mulE : ∀ X Y : Nat, X < 2 ^ b → Y < 2 ^ b → rat_mul.f k (wd X) (wd Y) = some (wd (X * Y)) := fun X Y hX hY => rat_mul.ok _ _ (wd_ws _) (wd_ws _) (lens X hX) (lens Y hY) X Y (nv_wd _) (nv_wd _) (prod X Y hX hY) c hc (by omega) k (by omega)
 have len2 : ∀ n : Nat, n < 2 ^ (b + b) → (wd n).length ≤ 1000000 := fun n hn => wd_lenb hn 1000000 (by omega)
 rw [rat_DivC1.f, mulE A1 D2 bA1 bD2, Option.bind_some, mulE D1 A2 bD1 bA2, Option.bind_some, rat_lowest.rz (s1 != s2) _ _ (wd_ws _) (wd_ws _) (len2 _ (prod A1 D2 bA1 bD2)) (len2 _ (prod D1 A2 bD1 bA2)) (A1 * D2) (D1 * A2) (nv_wd _) (nv_wd _) (Nat.mul_ne_zero d1 a2) k (by omega), Option.bind_some]
theorem rat_Mul.ok {b : Nat} {v u : Bool × List Int × List Int} {N M : Int} {D E : Nat} (hv : IsB b v N D) (hu : IsB b u M E) (hb : b ≤ 60000) (k : Nat) (hk : D * E + D + E + 30000000 < k) :
  rat_Mul.f k v.1 v.2.1 v.2.2 u.1 u.2.1 u.2.2 = some ((rzv (N * M) (D * E)).1, (rzv (N * M) (D * E)).2.1, (rzv (N * M) (D * E)).2.2, 0) := by
 have hc : rat_MulC1.f k v.1 v.2.1 v.2.2 u.1 u.2.1 u.2.2 = some (rzv (N * M) (D * E)) := by
  rw [hv.eq, hu.eq]
  have h := rat_MulC1.ok (decide (N < 0)) (decide (M < 0)) N.natAbs D M.natAbs E hv.pos hu.pos b hb hv.num hv.den hu.num hu.den k (by omega)
  rw [sg_self, sg_self] at h
  exact h
 rw [rat_Mul.f, rat_reckonedMul.f, hc, reck_ok hv hu hb k (by omega) (by omega), Option.bind_some]
theorem rat_Div.ok {b : Nat} {v u : Bool × List Int × List Int} {N M : Int} {D E : Nat} (hv : IsB b v N D) (hu : IsB b u M E) (hM : M ≠ 0) (hb : b ≤ 60000) (k : Nat) (hk : D * M.natAbs + D + E + 30000000 < k) :
  rat_Div.f k v.1 v.2.1 v.2.2 u.1 u.2.1 u.2.2 = some ((rzv (N * E * M.sign) (D * M.natAbs)).1, (rzv (N * E * M.sign) (D * M.natAbs)).2.1, (rzv (N * E * M.sign) (D * M.natAbs)).2.2, 0) := by
 have es : sg (decide (N < 0) != decide (M < 0)) (N.natAbs * E) = N * E * M.sign := by
  have h := sg_mulsg (decide (N < 0)) (decide (M < 0)) (N.natAbs * E) 1
  rw [Nat.mul_one] at h
  rw [← h, ← sg_mul, sg_self]
  congr 1
  unfold sg
  by_cases h : M < 0
  ·rw [if_pos (decide_eq_true h), Int.sign_eq_neg_one_of_neg h]; rfl
  ·rw [if_neg (by simp [h]), Int.sign_eq_one_of_pos (by omega)]; rfl
 have hc : rat_DivC1.f k v.1 v.2.1 v.2.2 u.1 u.2.1 u.2.2 = some (rzv (N * E * M.sign) (D * M.natAbs)) := by
  rw [hv.eq, hu.eq, ← es]
  exact rat_DivC1.ok (decide (N < 0)) (decide (M < 0)) N.natAbs D M.natAbs E hv.pos (by omega) b hb hv.num hv.den hu.num hu.den k (by omega)
 have hl : ¬ ((u.2.1.length : Nat) : Int) = 0 := by
  rw [hu.eq]
  have := (wd_pos_len M.natAbs).2 (by omega)
  show ¬ ((wd M.natAbs).length : Int) = 0
  omega
 rw [rat_Div.f, hv.check hb k (by omega), Option.bind_some, if_pos rfl, hu.check hb k (by omega), Option.bind_some, if_pos rfl, if_neg hl, rat_reckonedDiv.f, hc, reck_ok hv hu hb k (by omega) (by omega), Option.bind_some]
theorem rat_Mul.rz {b : Nat} {P P' : Int} {Q Q' : Nat} (hQ : Q ≠ 0) (hQ' : Q' ≠ 0) (hp : P.natAbs < 2 ^ b) (hq : Q < 2 ^ b) (hp' : P'.natAbs < 2 ^ b) (hq' : Q' < 2 ^ b) (hb : b ≤ 60000) (k : Nat) (hk : Q * Q' + Q + Q' + 30000000 < k) :
  rat_Mul.f k (rzv P Q).1 (rzv P Q).2.1 (rzv P Q).2.2 (rzv P' Q').1 (rzv P' Q').2.1 (rzv P' Q').2.2 = some ((rzv (P * P') (Q * Q')).1, (rzv (P * P') (Q * Q')).2.1, (rzv (P * P') (Q * Q')).2.2, 0) := by
 obtain ⟨N, D, h, e, _, l⟩ := rzv_d P hQ hp hq
 obtain ⟨M, E, h', e', _, l'⟩ := rzv_d P' hQ' hp' hq'
 have hm : D * E ≤ Q * Q' := Nat.mul_le_mul l l'
 rw [rat_Mul.ok h h' hb k (by omega)]
 have s : rzv (N * M) (D * E) = rzv (P * P') (Q * Q') := rzv_same (Nat.mul_ne_zero h.pos h'.pos) (Nat.mul_ne_zero hQ hQ') (by rw [Int.natCast_mul, Int.natCast_mul]; grind)
 rw [s]
theorem rat_Div.rz {b : Nat} {P P' : Int} {Q Q' : Nat} (hQ : Q ≠ 0) (hQ' : Q' ≠ 0) (hP' : P' ≠ 0) (hp : P.natAbs < 2 ^ b) (hq : Q < 2 ^ b) (hp' : P'.natAbs < 2 ^ b) (hq' : Q' < 2 ^ b) (hb : b ≤ 60000) (k : Nat) (hk : Q * P'.natAbs + Q + Q' + 30000000 < k) :
  rat_Div.f k (rzv P Q).1 (rzv P Q).2.1 (rzv P Q).2.2 (rzv P' Q').1 (rzv P' Q').2.1 (rzv P' Q').2.2 = some ((rzv (P * Q' * P'.sign) (Q * P'.natAbs)).1, (rzv (P * Q' * P'.sign) (Q * P'.natAbs)).2.1, (rzv (P * Q' * P'.sign) (Q * P'.natAbs)).2.2, 0) := by
 obtain ⟨N, D, h, e, _, l⟩ := rzv_d P hQ hp hq
 obtain ⟨M, E, h', e', l2, l'⟩ := rzv_d P' hQ' hp' hq'
 have hm : D * M.natAbs ≤ Q * P'.natAbs := Nat.mul_le_mul l l2
 have q2 : (0 : Int) < Q' := by omega
 have hE : (0 : Int) < E := by have := h'.pos; omega
 have hM : M ≠ 0 := by
  intro hz
  rw [hz, Int.zero_mul] at e'
  rcases Int.mul_eq_zero.1 e' with h1 | h1
  ·exact hP' h1
  ·omega
 have hs : M.sign = P'.sign := by
  have h1 := congrArg Int.sign e'
  rw [Int.sign_mul, Int.sign_mul, Int.sign_eq_one_of_pos q2, Int.sign_eq_one_of_pos hE, Int.mul_one, Int.mul_one] at h1
  exact h1.symm
 have hab : (P'.natAbs : Int) * E = (M.natAbs : Int) * Q' := by
  have := congrArg Int.natAbs e'
  rw [Int.natAbs_mul, Int.natAbs_mul, Int.natAbs_natCast, Int.natAbs_natCast] at this
  exact_mod_cast this
 rw [rat_Div.ok h h' hM hb k (by omega)]
 have s : rzv (N * E * M.sign) (D * M.natAbs) = rzv (P * Q' * P'.sign) (Q * P'.natAbs) := rzv_same (Nat.mul_ne_zero h.pos (by omega)) (Nat.mul_ne_zero hQ (by omega)) (by rw [hs, Int.natCast_mul, Int.natCast_mul]; grind)
 rw [s]
def cB : Nat := 60000
def fB : Nat := 2 ^ cB
theorem cB_eq : cB = 60000 := rfl
structure Bd (b : Nat) (P : Int) (Q : Nat) : Prop where
 nz : Q ≠ 0
 num : P.natAbs < 2 ^ b
 den : Q < 2 ^ b
theorem Bd.mono {b c : Nat} {P : Int} {Q : Nat} (h : Bd b P Q) (hb : b ≤ c) : Bd c P Q :=
 ⟨h.nz, Nat.lt_of_lt_of_le h.num (Nat.pow_le_pow_right (by decide) hb), Nat.lt_of_lt_of_le h.den (Nat.pow_le_pow_right (by decide) hb)⟩
theorem prod_lt {b x y : Nat} (hx : x < 2 ^ b) (hy : y < 2 ^ b) : x * y < 2 ^ (b + b) := by rw [Nat.pow_add]; exact Nat.mul_lt_mul'' hx hy
theorem Bd.add {b : Nat} {P P' : Int} {Q Q' : Nat} (h : Bd b P Q) (h' : Bd b P' Q') : Bd (b + b + 1) (P * Q' + P' * Q) (Q * Q') := by
 refine ⟨Nat.mul_ne_zero h.nz h'.nz, ?_, Nat.lt_of_lt_of_le (prod_lt h.den h'.den) (Nat.pow_le_pow_right (by decide) (by omega))⟩
 have h1 := prod_lt h.num h'.den
 have h2 := prod_lt h'.num h.den
 have e1 : (P * Q').natAbs = P.natAbs * Q' := by rw [Int.natAbs_mul, Int.natAbs_natCast]
 have e2 : (P' * Q).natAbs = P'.natAbs * Q := by rw [Int.natAbs_mul, Int.natAbs_natCast]
 have := Int.natAbs_add_le (P * Q') (P' * Q)
 rw [Nat.pow_succ]
 omega
theorem Bd.neg {b : Nat} {P : Int} {Q : Nat} (h : Bd b P Q) : Bd b (-P) Q := ⟨h.nz, by rw [Int.natAbs_neg]; exact h.num, h.den⟩
theorem Bd.sub {b : Nat} {P P' : Int} {Q Q' : Nat} (h : Bd b P Q) (h' : Bd b P' Q') : Bd (b + b + 1) (P * Q' - P' * Q) (Q * Q') := by
 have := h.add h'.neg
 rwa [Int.neg_mul, ← Int.sub_eq_add_neg] at this
theorem Bd.mul {b : Nat} {P P' : Int} {Q Q' : Nat} (h : Bd b P Q) (h' : Bd b P' Q') : Bd (b + b) (P * P') (Q * Q') :=
 ⟨Nat.mul_ne_zero h.nz h'.nz, by rw [Int.natAbs_mul]; exact prod_lt h.num h'.num, prod_lt h.den h'.den⟩
theorem Bd.div {b : Nat} {P P' : Int} {Q Q' : Nat} (h : Bd b P Q) (h' : Bd b P' Q') (hP : P' ≠ 0) : Bd (b + b) (P * Q' * P'.sign) (Q * P'.natAbs) := by
 refine ⟨Nat.mul_ne_zero h.nz (by omega), ?_, prod_lt h.den h'.num⟩
 have hs : P'.sign.natAbs ≤ 1 := by
  rcases Int.lt_trichotomy P' 0 with h | h | h
  ·rw [Int.sign_eq_neg_one_of_neg h]; decide
  ·exact absurd h hP
  ·rw [Int.sign_eq_one_of_pos h]; decide
 rw [Int.natAbs_mul, Int.natAbs_mul, Int.natAbs_natCast]
 have h1 := prod_lt h.num h'.den
 have h2 := Nat.mul_le_mul_left (P.natAbs * Q') hs
 omega
theorem Bd.le {b : Nat} {P : Int} {Q : Nat} (h : Bd b P Q) (hb : b ≤ 60000) : Q ≤ fB ∧ P.natAbs ≤ fB := by
 have h1 := h.mono hb
 rw [← cB_eq] at h1
 exact ⟨Nat.le_of_lt h1.den, Nat.le_of_lt h1.num⟩
def Fu (k : Nat) : Prop := fB * fB + 2 * fB + 300000000 < k
theorem Fu.of {b : Nat} {P P' : Int} {Q Q' k : Nat} (hk : Fu k) (h : Bd b P Q) (h' : Bd b P' Q') (hb : b ≤ 60000) : Q * Q' + Q + Q' + 30000000 < k := by
 have h1 := h.le hb
 have h2 := h'.le hb
 have h3 := Nat.mul_le_mul h1.1 h2.1
 unfold Fu at hk
 omega
theorem Fu.of2 {b : Nat} {P P' : Int} {Q Q' k : Nat} (hk : Fu k) (h : Bd b P Q) (h' : Bd b P' Q') (hb : b ≤ 60000) : Q * P'.natAbs + Q + Q' + 30000000 < k := by
 have h1 := h.le hb
 have h2 := h'.le hb
 have h3 := Nat.mul_le_mul h1.1 h2.2
 unfold Fu at hk
 omega
theorem Fu.big {k : Nat} (hk : Fu k) : 300000000 < k := by unfold Fu at hk; omega
theorem Fu.one {k : Nat} (hk : Fu k) : fB + 30000000 < k := by unfold Fu at hk; generalize fB = F at hk ⊢; omega
theorem Fu.chk {b : Nat} {P : Int} {Q k : Nat} (hk : Fu k) (h : Bd b P Q) (hb : b ≤ 60000) : Q + 20000000 < k := by
 have h1 := h.le hb
 unfold Fu at hk
 omega
theorem rzv_check {b : Nat} {P : Int} {Q : Nat} (h : Bd b P Q) (hb : b ≤ 60000) (k : Nat) (hk : Fu k) : rat_Check.f k (rzv P Q).1 (rzv P Q).2.1 (rzv P Q).2.2 = some 0 := by
 obtain ⟨N, D, i, _, _, l⟩ := rzv_d P h.nz h.num h.den
 exact i.check hb k (by have := hk.chk h hb; omega)
theorem rzv_lens {b : Nat} {P : Int} {Q : Nat} (h : Bd b P Q) (hb : b ≤ 60000) : (rzv P Q).2.1.length ≤ 1000 ∧ (rzv P Q).2.2.length ≤ 1000 := by
 obtain ⟨N, D, i, _, _, l⟩ := rzv_d P h.nz h.num h.den
 rw [i.eq]
 exact ⟨wd_lenb i.num 1000 (by omega), wd_lenb i.den 1000 (by omega)⟩
theorem sign_rz {b : Nat} {P : Int} {Q : Nat} (h : Bd b P Q) (hb : b ≤ 60000) (k : Nat) (hk : Fu k) : rat_Sign.f k (rzv P Q).1 (rzv P Q).2.1 (rzv P Q).2.2 = some P.sign := by
 obtain ⟨N, D, i, e, _, l⟩ := rzv_d P h.nz h.num h.den
 have hl := rzv_lens h hb
 rw [i.eq] at hl ⊢
 have := hk.big
 have l1 : (wd N.natAbs).length ≤ 1000 := hl.1
 show rat_Sign.f k (decide (N < 0)) (wd N.natAbs) (wd D) = _
 rw [rat_Sign.ok _ _ _ (by omega) k (by omega), sg_self]
 have hQ : (0 : Int) < Q := by have := h.nz; omega
 have hD : (0 : Int) < D := by have := i.pos; omega
 have s := congrArg Int.sign e
 rw [Int.sign_mul, Int.sign_mul, Int.sign_eq_one_of_pos hQ, Int.sign_eq_one_of_pos hD, Int.mul_one, Int.mul_one] at s
 rw [s]
theorem Bd.addf {b : Nat} {P P' : Int} {Q Q' : Nat} (h : Bd b P Q) (h' : Bd b P' Q') (hb : b ≤ 60000) {k : Nat} (hk : Fu k) :
  rat_Add.f k (rzv P Q).1 (rzv P Q).2.1 (rzv P Q).2.2 (rzv P' Q').1 (rzv P' Q').2.1 (rzv P' Q').2.2 = some ((rzv (P * Q' + P' * Q) (Q * Q')).1, (rzv (P * Q' + P' * Q) (Q * Q')).2.1, (rzv (P * Q' + P' * Q) (Q * Q')).2.2, 0) :=
 rat_Add.rz h.nz h'.nz h.num h.den h'.num h'.den hb k (hk.of h h' hb)
theorem Bd.subf {b : Nat} {P P' : Int} {Q Q' : Nat} (h : Bd b P Q) (h' : Bd b P' Q') (hb : b ≤ 60000) {k : Nat} (hk : Fu k) :
  rat_Sub.f k (rzv P Q).1 (rzv P Q).2.1 (rzv P Q).2.2 (rzv P' Q').1 (rzv P' Q').2.1 (rzv P' Q').2.2 = some ((rzv (P * Q' - P' * Q) (Q * Q')).1, (rzv (P * Q' - P' * Q) (Q * Q')).2.1, (rzv (P * Q' - P' * Q) (Q * Q')).2.2, 0) :=
 rat_Sub.rz h.nz h'.nz h.num h.den h'.num h'.den hb k (hk.of h h' hb)
theorem Bd.mulf {b : Nat} {P P' : Int} {Q Q' : Nat} (h : Bd b P Q) (h' : Bd b P' Q') (hb : b ≤ 60000) {k : Nat} (hk : Fu k) :
  rat_Mul.f k (rzv P Q).1 (rzv P Q).2.1 (rzv P Q).2.2 (rzv P' Q').1 (rzv P' Q').2.1 (rzv P' Q').2.2 = some ((rzv (P * P') (Q * Q')).1, (rzv (P * P') (Q * Q')).2.1, (rzv (P * P') (Q * Q')).2.2, 0) :=
 rat_Mul.rz h.nz h'.nz h.num h.den h'.num h'.den hb k (hk.of h h' hb)
theorem Bd.divf {b : Nat} {P P' : Int} {Q Q' : Nat} (h : Bd b P Q) (h' : Bd b P' Q') (hP : P' ≠ 0) (hb : b ≤ 60000) {k : Nat} (hk : Fu k) :
  rat_Div.f k (rzv P Q).1 (rzv P Q).2.1 (rzv P Q).2.2 (rzv P' Q').1 (rzv P' Q').2.1 (rzv P' Q').2.2 = some ((rzv (P * Q' * P'.sign) (Q * P'.natAbs)).1, (rzv (P * Q' * P'.sign) (Q * P'.natAbs)).2.1, (rzv (P * Q' * P'.sign) (Q * P'.natAbs)).2.2, 0) :=
 rat_Div.rz h.nz h'.nz hP h.num h.den h'.num h'.den hb k (hk.of2 h h' hb)
theorem one05.self {b : Nat} {P : Int} {Q : Nat} (h : Bd b P Q) (hb : b ≤ 60000) (k : Nat) (hk : Fu k) : plumblaw05_one.f k (rzv P Q).1 (rzv P Q).2.1 (rzv P Q).2.2 (rzv P Q).1 (rzv P Q).2.1 (rzv P Q).2.2 = some true := by
 have hl := rzv_lens h hb
 have := hk.big
 exact one_refl _ _ _ k (by omega) (by omega)
theorem one05.ok {b : Nat} {P P' : Int} {Q Q' : Nat} (h : Bd b P Q) (hQ' : Q' ≠ 0) (hb : b ≤ 60000) (k : Nat) (hk : Fu k) (e : P * Q' = P' * Q) : plumblaw05_one.f k (rzv P Q).1 (rzv P Q).2.1 (rzv P Q).2.2 (rzv P' Q').1 (rzv P' Q').2.1 (rzv P' Q').2.2 = some true := by
 rw [← rzv_same h.nz hQ' e]
 exact one05.self h hb k hk
theorem int_rz (v : Int) (h0 : -9223372036854775808 ≤ v) (h1 : v < 9223372036854775808) : rat_Int.f v = some (rzv v 1) := by
 rw [rat_Int.eq v h0 h1, rzv, Nat.gcd_one_right, Nat.div_one, Nat.div_one]
theorem int_bd (v : Int) (h0 : -9223372036854775808 ≤ v) (h1 : v < 9223372036854775808) : Bd 64 v 1 := by
 have e64 : (2 : Nat) ^ 64 = 18446744073709551616 := by decide
 exact ⟨by decide, by rw [e64]; omega, by rw [e64]; decide⟩
theorem add05.ok {b : Nat} {P P' : Int} {Q Q' : Nat} (h : Bd b P Q) (h' : Bd b P' Q') (hb : b + b + 1 ≤ 60000) {k : Nat} (hk : Fu k) :
  plumblaw05_add.f k (rzv P Q).1 (rzv P Q).2.1 (rzv P Q).2.2 (rzv P' Q').1 (rzv P' Q').2.1 (rzv P' Q').2.2 = some ((rzv (P * Q' + P' * Q) (Q * Q')).1, (rzv (P * Q' + P' * Q) (Q * Q')).2.1, (rzv (P * Q' + P' * Q) (Q * Q')).2.2, true) := by
 rw [plumblaw05_add.f, h.addf h' (by omega) hk, Option.bind_some, if_pos rfl]
 show (rat_Check.f k _ _ _).bind _ = _
 rw [rzv_check (h.add h') hb k hk, Option.bind_some]
 rfl
theorem sub05.ok {b : Nat} {P P' : Int} {Q Q' : Nat} (h : Bd b P Q) (h' : Bd b P' Q') (hb : b + b + 1 ≤ 60000) {k : Nat} (hk : Fu k) :
  plumblaw05_sub.f k (rzv P Q).1 (rzv P Q).2.1 (rzv P Q).2.2 (rzv P' Q').1 (rzv P' Q').2.1 (rzv P' Q').2.2 = some ((rzv (P * Q' - P' * Q) (Q * Q')).1, (rzv (P * Q' - P' * Q) (Q * Q')).2.1, (rzv (P * Q' - P' * Q) (Q * Q')).2.2, true) := by
 rw [plumblaw05_sub.f, h.subf h' (by omega) hk, Option.bind_some, if_pos rfl]
 show (rat_Check.f k _ _ _).bind _ = _
 rw [rzv_check (h.sub h') hb k hk, Option.bind_some]
 rfl
theorem mul05.ok {b : Nat} {P P' : Int} {Q Q' : Nat} (h : Bd b P Q) (h' : Bd b P' Q') (hb : b + b ≤ 60000) {k : Nat} (hk : Fu k) :
  plumblaw05_mul.f k (rzv P Q).1 (rzv P Q).2.1 (rzv P Q).2.2 (rzv P' Q').1 (rzv P' Q').2.1 (rzv P' Q').2.2 = some ((rzv (P * P') (Q * Q')).1, (rzv (P * P') (Q * Q')).2.1, (rzv (P * P') (Q * Q')).2.2, true) := by
 rw [plumblaw05_mul.f, h.mulf h' (by omega) hk, Option.bind_some, if_pos rfl]
 show (rat_Check.f k _ _ _).bind _ = _
 rw [rzv_check (h.mul h') hb k hk, Option.bind_some]
 rfl
theorem part_bd (neg : Bool) (l1 l2 : List Int) (h1 : Ws l1) (h2 : Ws l2) (t : Nat) (ht : t = 768) : ∃ (P : Int) (Q : Nat), Bd t P Q ∧ ∀ k, Fu k → plumblaw05_Part_made.f k neg l1 l2 = some ((rzv P Q).1, (rzv P Q).2.1, (rzv P Q).2.2, true) := by
 obtain ⟨x, y, A, B, hx, hy, lx, ly, vx, vy, hB, bA, bB, hwh⟩ := part_whole neg l1 l2 h1 h2 t ht
 have d : Bd t (sg neg A) B := ⟨Nat.ne_of_gt hB, by rw [sg_abs]; exact bA, bB⟩
 exact ⟨sg neg A, B, d, fun k hk => part_made neg l1 l2 x y A B hx hy lx ly vx vy hB t ht bA bB hwh k (hk.chk d (by omega))⟩
theorem three_bd (n1 : Bool) (x1 y1 : List Int) (n2 : Bool) (x2 y2 : List Int) (n3 : Bool) (x3 y3 : List Int) (hx1 : Ws x1) (hy1 : Ws y1) (hx2 : Ws x2) (hy2 : Ws y2) (hx3 : Ws x3) (hy3 : Ws y3) (t : Nat) (ht : t = 768) :
  ∃ (a b c : Int) (p q r : Nat), Bd t a p ∧ Bd t b q ∧ Bd t c r ∧ ∀ k, Fu k → plumblaw05_three.f k n1 x1 y1 n2 x2 y2 n3 x3 y3 = some ((rzv a p).1, (rzv a p).2.1, (rzv a p).2.2, (rzv b q).1, (rzv b q).2.1, (rzv b q).2.2, (rzv c r).1, (rzv c r).2.1, (rzv c r).2.2, true) := by
 obtain ⟨a, p, da, fa⟩ := part_bd n1 x1 y1 hx1 hy1 t ht
 obtain ⟨b, q, db, fb⟩ := part_bd n2 x2 y2 hx2 hy2 t ht
 obtain ⟨c, r, dc, fc⟩ := part_bd n3 x3 y3 hx3 hy3 t ht
 refine ⟨a, b, c, p, q, r, da, db, dc, fun k hk => ?_⟩
 have big := hk.big
 rw [plumblaw05_three.f, fa k hk, Option.bind_some, fb k hk, Option.bind_some, fc k hk, Option.bind_some, if_pos rfl, if_pos rfl, if_pos rfl, alive05 k (by omega), Option.bind_some]
theorem fld_comm (a b : Int) (p q : Nat) : (a * (q : Int) + b * (p : Int)) * ((q * p : Nat) : Int) = (b * (p : Int) + a * (q : Int)) * ((p * q : Nat) : Int) := by
 simp only [Int.natCast_mul]; grind
theorem fld_assoc (a b c : Int) (p q r : Nat) : ((a * (q : Int) + b * (p : Int)) * (r : Int) + c * ((p * q : Nat) : Int)) * ((p * (q * r) : Nat) : Int) = (a * ((q * r : Nat) : Int) + (b * (r : Int) + c * (q : Int)) * (p : Int)) * ((p * q * r : Nat) : Int) := by
 simp only [Int.natCast_mul]; grind
theorem fld_mcomm (a b : Int) (p q : Nat) : (a * b) * ((q * p : Nat) : Int) = (b * a) * ((p * q : Nat) : Int) := by
 simp only [Int.natCast_mul]; grind
theorem fld_massoc (a b c : Int) (p q r : Nat) : (a * b * c) * ((p * (q * r) : Nat) : Int) = (a * (b * c)) * ((p * q * r : Nat) : Int) := by
 simp only [Int.natCast_mul]; grind
theorem fld_dist (a b c : Int) (p q r : Nat) : (a * (b * (r : Int) + c * (q : Int))) * ((p * q * (p * r) : Nat) : Int) = (a * b * ((p * r : Nat) : Int) + a * c * ((p * q : Nat) : Int)) * ((p * (q * r) : Nat) : Int) := by
 simp only [Int.natCast_mul]; grind
theorem fld_back (a b : Int) (p q : Nat) : ((a * (q : Int) + b * (p : Int)) * (q : Int) - b * ((p * q : Nat) : Int)) * (p : Int) = a * ((p * q * q : Nat) : Int) := by
 simp only [Int.natCast_mul]; grind
theorem fld_self (a : Int) (p : Nat) : (a * (p : Int) - a * (p : Int)) * ((1 : Nat) : Int) = 0 * ((p * p : Nat) : Int) := by
 rw [Int.sub_self, Int.zero_mul, Int.zero_mul]
theorem fld_one (a : Int) (p : Nat) : (a * 1) * (p : Int) = a * ((p * 1 : Nat) : Int) := by rw [Int.mul_one, Nat.mul_one]
theorem fld_zero (a : Int) (p : Nat) : (a * ((1 : Nat) : Int) + 0 * (p : Int)) * (p : Int) = a * ((p * 1 : Nat) : Int) := by
 rw [Nat.mul_one, Int.zero_mul, Int.add_zero, show ((1 : Nat) : Int) = 1 from rfl, Int.mul_one]
theorem fld_div (a b : Int) (p q : Nat) : (a * b * (q : Int) * b.sign) * (p : Int) = a * ((p * q * b.natAbs : Nat) : Int) := by
 have h : b * b.sign = (b.natAbs : Int) := Int.mul_sign_self b
 simp only [Int.natCast_mul]
 rw [← h]; grind
theorem fld_unit (b : Int) (q : Nat) : (b * (q : Int) * b.sign) * ((1 : Nat) : Int) = 1 * ((q * b.natAbs : Nat) : Int) := by
 have h : b * b.sign = (b.natAbs : Int) := Int.mul_sign_self b
 simp only [Int.natCast_mul]
 rw [← h, show ((1 : Nat) : Int) = 1 from rfl]; grind
theorem div05.ok {b : Nat} {P P' : Int} {Q Q' : Nat} (h : Bd b P Q) (h' : Bd b P' Q') (hP : P' ≠ 0) (hb : b + b ≤ 60000) {k : Nat} (hk : Fu k) :
  plumblaw05_div.f k (rzv P Q).1 (rzv P Q).2.1 (rzv P Q).2.2 (rzv P' Q').1 (rzv P' Q').2.1 (rzv P' Q').2.2 = some ((rzv (P * Q' * P'.sign) (Q * P'.natAbs)).1, (rzv (P * Q' * P'.sign) (Q * P'.natAbs)).2.1, (rzv (P * Q' * P'.sign) (Q * P'.natAbs)).2.2, true) := by
 rw [plumblaw05_div.f, h.divf h' hP (by omega) hk, Option.bind_some, if_pos rfl]
 show (rat_Check.f k _ _ _).bind _ = _
 rw [rzv_check (h.div h' hP) hb k hk, Option.bind_some]
 rfl
theorem div_zero {b : Nat} {P : Int} {Q Q' : Nat} (h : Bd b P Q) (h' : Bd b 0 Q') (hb : b ≤ 60000) {k : Nat} (hk : Fu k) :
  rat_Div.f k (rzv P Q).1 (rzv P Q).2.1 (rzv P Q).2.2 (rzv 0 Q').1 (rzv 0 Q').2.1 (rzv 0 Q').2.2 = some (false, [], [], 50) := by
 have e0 : (rzv 0 Q').2.1 = [] := by
  show wd ((0 : Int).natAbs / _) = []
  rw [Int.natAbs_zero, Nat.zero_div, wd_zero]
 have c2 := rzv_check h' hb k hk
 rw [e0] at c2
 rw [rat_Div.f, rzv_check h hb k hk, Option.bind_some, if_pos rfl, e0, c2, Option.bind_some, if_pos rfl]
 rfl
end Go.Proofs.Ytiogfeeaepkkmaa.PA
namespace Go.Proofs.Ytiogfeeaepkkmaa.Pure
open Go Go.RowKit Go.Proofs.Ytiogfeeaepkkmaa.PA Go.Proofs.YtiogfeeaepkkmaaW.PrintWords Go.Proofs.YtiogfeeaepkkmaaW.PrintLast
set_option linter.unusedVariables false
theorem field_j3 {t : Nat} {a b : Int} {p q : Nat} (da : Bd t a p) (db : Bd t b q) (ht : t = 768) (k : Nat) (hk : Fu k) :
  plumblaw05_RatField.j3 (k + 1) false (rzv a p).1 (rzv a p).2.1 (rzv a p).2.2 (rzv b q).1 (rzv b q).2.1 (rzv b q).2.2 (rzv (a * b) (p * q)).1 (rzv (a * b) (p * q)).2.1 (rzv (a * b) (p * q)).2.2 = some true := by
 have hb : t ≤ 60000 := by omega
 have hb2 : t + t + (t + t) ≤ 60000 := by omega
 have hb3 : t + t ≤ 60000 := by omega
 rw [plumblaw05_RatField.j3, if_neg (by decide), sign_rz db hb k hk, Option.bind_some]
 by_cases h0 : b = 0
 ·subst h0
  rw [if_pos Int.sign_zero, div_zero da db hb hk, Option.bind_some]
  rfl
 ·have hs : ¬ b.sign = 0 := by
   intro e
   exact h0 (Int.sign_eq_zero_iff_zero.1 e)
  have dx := da.mul db
  have db2 := db.mono (show t ≤ t + t by omega)
  have dh := dx.div db2 h0
  have di := db.div db h0
  rw [if_neg hs, div05.ok dx db2 h0 hb2 hk, Option.bind_some, div05.ok db db h0 hb3 hk, Option.bind_some, if_pos rfl, if_pos rfl, one05.ok dh da.nz hb2 k hk (fld_div a b p q), Option.bind_some, if_pos rfl, int_rz 1 (by decide) (by decide), Option.bind_some, one05.ok di (by decide) hb3 k hk (fld_unit b q), Option.bind_some]
theorem field_j2 {t : Nat} {a b : Int} {p q : Nat} (da : Bd t a p) (db : Bd t b q) (ht : t = 768) (k : Nat) (hk : Fu k) :
  plumblaw05_RatField.j2 (k + 2) false (rzv a p).1 (rzv a p).2.1 (rzv a p).2.2 (rzv b q).1 (rzv b q).2.1 (rzv b q).2.2 (rzv (a * b) (p * q)).1 (rzv (a * b) (p * q)).2.1 (rzv (a * b) (p * q)).2.2 = some true := by
 have hk1 : Fu (k + 1) := by unfold Fu at hk ⊢; omega
 have hb2 : t + t ≤ 60000 := by omega
 have hb3 : t + t + 1 ≤ 60000 := by omega
 have d1 : Bd t 1 1 := (int_bd 1 (by decide) (by decide)).mono (by omega)
 have d0 : Bd t 0 1 := (int_bd 0 (by decide) (by decide)).mono (by omega)
 have df := da.mul d1
 have dg := da.add d0
 have j3 := field_j3 da db ht k hk
 rw [plumblaw05_RatField.j2, if_neg (by decide), int_rz 1 (by decide) (by decide), Option.bind_some, mul05.ok da d1 hb2 hk1, Option.bind_some, int_rz 0 (by decide) (by decide), Option.bind_some, add05.ok da d0 hb3 hk1, Option.bind_some, if_pos rfl, if_pos rfl,
  one05.ok df da.nz hb2 (k + 1) hk1 (fld_one a p), Option.bind_some, if_pos rfl, one05.ok dg da.nz hb3 (k + 1) hk1 (fld_zero a p), Option.bind_some]
 exact j3
theorem field_j1 {t : Nat} {a b c : Int} {p q r : Nat} (da : Bd t a p) (db : Bd t b q) (dc : Bd t c r) (ht : t = 768) (k : Nat) (hk : Fu k) :
  plumblaw05_RatField.j1 (k + 3) false (rzv a p).1 (rzv a p).2.1 (rzv a p).2.2 (rzv b q).1 (rzv b q).2.1 (rzv b q).2.2 (rzv c r).1 (rzv c r).2.1 (rzv c r).2.2
   (rzv (a * (q : Int) + b * (p : Int)) (p * q)).1 (rzv (a * (q : Int) + b * (p : Int)) (p * q)).2.1 (rzv (a * (q : Int) + b * (p : Int)) (p * q)).2.2 (rzv (b * (r : Int) + c * (q : Int)) (q * r)).1 (rzv (b * (r : Int) + c * (q : Int)) (q * r)).2.1 (rzv (b * (r : Int) + c * (q : Int)) (q * r)).2.2
   (rzv (a * b) (p * q)).1 (rzv (a * b) (p * q)).2.1 (rzv (a * b) (p * q)).2.2 = some true := by
 have hk2 : Fu (k + 2) := by unfold Fu at hk ⊢; omega
 have hb1 : t + t + 1 ≤ 60000 := by omega
 have hb2 : t + t + 1 + (t + t + 1) ≤ 60000 := by omega
 have hb3 : t + t + 1 + (t + t + 1) + 1 ≤ 60000 := by omega
 have hb4 : t + t ≤ 60000 := by omega
 have hb5 : t + t + (t + t) + 1 ≤ 60000 := by omega
 have le1 : t ≤ t + t + 1 := by omega
 have ds := da.add db
 have dv := db.add dc
 have dx := da.mul db
 have dn := da.mul dc
 have dm := (da.mono le1).mul dv
 have dd := ds.sub (db.mono le1)
 have de := da.sub da
 have j2 := field_j2 da db ht k hk
 rw [plumblaw05_RatField.j1, if_neg (by decide), mul05.ok (da.mono le1) dv hb2 hk2, Option.bind_some, mul05.ok da dc hb4 hk2, Option.bind_some, add05.ok dx dn hb5 hk2, Option.bind_some, sub05.ok ds (db.mono le1) hb3 hk2, Option.bind_some, sub05.ok da da hb1 hk2, Option.bind_some,
  if_pos rfl, if_pos rfl, if_pos rfl, if_pos rfl, if_pos rfl, one05.ok dm (Nat.mul_ne_zero dx.nz dn.nz) hb2 (k + 2) hk2 (fld_dist a b c p q r), Option.bind_some, if_pos rfl, one05.ok dd da.nz hb3 (k + 2) hk2 (fld_back a b p q), Option.bind_some, if_pos rfl,
  int_rz 0 (by decide) (by decide), Option.bind_some, one05.ok de (by decide) hb1 (k + 2) hk2 (fld_self a p), Option.bind_some]
 exact j2
theorem field_j0 {t : Nat} {a b c : Int} {p q r : Nat} (da : Bd t a p) (db : Bd t b q) (dc : Bd t c r) (ht : t = 768) (k : Nat) (hk : Fu k) :
  plumblaw05_RatField.j0 (k + 4) false (rzv a p).1 (rzv a p).2.1 (rzv a p).2.2 (rzv b q).1 (rzv b q).2.1 (rzv b q).2.2 (rzv c r).1 (rzv c r).2.1 (rzv c r).2.2
   (rzv (a * (q : Int) + b * (p : Int)) (p * q)).1 (rzv (a * (q : Int) + b * (p : Int)) (p * q)).2.1 (rzv (a * (q : Int) + b * (p : Int)) (p * q)).2.2 (rzv (b * (r : Int) + c * (q : Int)) (q * r)).1 (rzv (b * (r : Int) + c * (q : Int)) (q * r)).2.1 (rzv (b * (r : Int) + c * (q : Int)) (q * r)).2.2 = some true := by
 have hk3 : Fu (k + 3) := by unfold Fu at hk ⊢; omega
 have hb1 : t + t ≤ 60000 := by omega
 have hb2 : t + t + (t + t) ≤ 60000 := by omega
 have le1 : t ≤ t + t := by omega
 have dx := da.mul db
 have dk := db.mul dc
 have dz := dx.mul (dc.mono le1)
 have j1 := field_j1 da db dc ht k hk
 rw [plumblaw05_RatField.j0, if_neg (by decide), mul05.ok da db hb1 hk3, Option.bind_some, mul05.ok db da hb1 hk3, Option.bind_some, mul05.ok dx (dc.mono le1) hb2 hk3, Option.bind_some, mul05.ok db dc hb1 hk3, Option.bind_some, mul05.ok (da.mono le1) dk hb2 hk3, Option.bind_some,
  if_pos rfl, if_pos rfl, if_pos rfl, if_pos rfl, if_pos rfl, one05.ok dx (Nat.mul_ne_zero db.nz da.nz) hb1 (k + 3) hk3 (fld_mcomm a b p q), Option.bind_some, if_pos rfl, one05.ok dz (Nat.mul_ne_zero da.nz dk.nz) hb2 (k + 3) hk3 (fld_massoc a b c p q r), Option.bind_some]
 exact j1
theorem ratField_pure (n1 : Bool) (x1 y1 : List Int) (n2 : Bool) (x2 y2 : List Int) (n3 : Bool) (x3 y3 : List Int) (hx1 : ∀ x ∈ x1, 0 ≤ x ∧ x < 18446744073709551616) (hy1 : ∀ x ∈ y1, 0 ≤ x ∧ x < 18446744073709551616) (hx2 : ∀ x ∈ x2, 0 ≤ x ∧ x < 18446744073709551616) (hy2 : ∀ x ∈ y2, 0 ≤ x ∧ x < 18446744073709551616) (hx3 : ∀ x ∈ x3, 0 ≤ x ∧ x < 18446744073709551616) (hy3 : ∀ x ∈ y3, 0 ≤ x ∧ x < 18446744073709551616) :
  ∃ k, plumblaw05_RatField.f k n1 x1 y1 n2 x2 y2 n3 x3 y3 = some true := by
 obtain ⟨t, ht⟩ : ∃ t : Nat, t = 768 := ⟨_, rfl⟩
 obtain ⟨a, b, c, p, q, r, da, db, dc, h3⟩ := three_bd n1 x1 y1 n2 x2 y2 n3 x3 y3 hx1 hy1 hx2 hy2 hx3 hy3 t ht
 obtain ⟨k, hk⟩ : ∃ k : Nat, Fu k := ⟨fB * fB + 2 * fB + 300000001, by unfold Fu; omega⟩
 have hk4 : Fu (k + 4) := by unfold Fu at hk ⊢; omega
 have hb1 : t + t + 1 ≤ 60000 := by omega
 have hb2 : t + t + 1 + (t + t + 1) + 1 ≤ 60000 := by omega
 have le1 : t ≤ t + t + 1 := by omega
 have ds := da.add db
 have dv := db.add dc
 have du := ds.add (dc.mono le1)
 have j0 := field_j0 da db dc ht k hk
 refine ⟨k + 4, ?_⟩
 rw [plumblaw05_RatField.f, h3 (k + 4) hk4, Option.bind_some, if_pos rfl, add05.ok da db hb1 hk4, Option.bind_some, add05.ok db da hb1 hk4, Option.bind_some, add05.ok ds (dc.mono le1) hb2 hk4, Option.bind_some, add05.ok db dc hb1 hk4, Option.bind_some, add05.ok (da.mono le1) dv hb2 hk4, Option.bind_some,
  if_pos rfl, if_pos rfl, if_pos rfl, if_pos rfl, if_pos rfl, one05.ok ds (Nat.mul_ne_zero db.nz da.nz) hb1 (k + 4) hk4 (fld_comm a b p q), Option.bind_some, if_pos rfl, one05.ok du (Nat.mul_ne_zero da.nz dv.nz) hb2 (k + 4) hk4 (fld_assoc a b c p q r), Option.bind_some]
 exact j0
end Go.Proofs.Ytiogfeeaepkkmaa.Pure
namespace Go.Proofs.YtiogfeeaepkkmaaW.PrintWords
open Go
theorem open_three {H : Type} {enc : TypeId × Value → H} {P : Program} {w : World} {base b0 : Nat} {spare : Nat → Bool} {held : Bool} {r : Reach} {t : TypeId} {f0 f1 f2 : Field} {v : Value} {d : DataW H} {p : List MemPlace} (hs : P.underlying t = some (.struct #[f0, f1, f2]))
  (hC : P.cellsOf t = 3) (o0 : f0.offset = 0) (o1 : f1.offset = 1) (o2 : f2.offset = 2) (k0 : P.cellsOf f0.type = 1) (k1 : P.cellsOf f1.type = 1) (k2 : P.cellsOf f2.type = 1)
  (hv : Value.okWide P w r b0 t v) (h : DataW.Trod enc P w base spare held t v d p) :
  ∃ (v0 v1 v2 : Value) (y0 y1 y2 : DataW H × List MemPlace) (n : Nat), v = .agg #[v0, v1, v2] ∧ d = .agg [y0.1, y1.1, y2.1] ∧
   DataW.trod enc P w base spare held n f0.type [v0] = some y0 ∧ DataW.trod enc P w base spare held n f1.type [v1] = some y1 ∧ DataW.trod enc P w base spare held n f2.type [v2] = some y2 := by
 obtain ⟨cs, rfl, hsz⟩ := WideShapes.okWide_struct hs hv
 rw [hC] at hsz
 obtain ⟨l⟩ := cs
 match l, hsz with
 | [c0, c1, c2], _ =>
  obtain ⟨fuel, hf⟩ := h
  obtain ⟨xs, n, _, hx, hl, hlen, hg⟩ := DataW.trod_struct hs hf
  match xs, hlen with
  | [y0, y1, y2], _ =>
   have g0 := hg 0 f0 rfl
   have g1 := hg 1 f1 rfl
   have g2 := hg 2 f2 rfl
   rw [o0, k0] at g0
   rw [o1, k1] at g1
   rw [o2, k2] at g2
   simp only [Prod.mk.injEq, List.map_cons, List.map_nil] at hx
   exact ⟨c0, c1, c2, y0, y1, y2, n, rfl, hx.1, by simpa [Value.cells] using g0, by simpa [Value.cells] using g1, by simpa [Value.cells] using g2⟩
end Go.Proofs.YtiogfeeaepkkmaaW.PrintWords
