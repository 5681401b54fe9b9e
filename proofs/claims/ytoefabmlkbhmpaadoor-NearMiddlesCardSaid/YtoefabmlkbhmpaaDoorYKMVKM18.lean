/- A part of the proof (18). -/
import Derived.Test.YtoefabmlkbhmpaaDoorYKMVKM17
namespace Go.Proofs.YtoefabmlkbhmpaaDoor.PA
open Go Go.RowKit Go.Proofs.YtoefabmlkbhmpaaDoorW.PrintWords Go.Proofs.YtoefabmlkbhmpaaDoorW.PrintLast Go.Proofs.YtoefabmlkbhmpaaDoorW.PrintMore
set_option linter.unusedVariables false
set_option linter.unusedSimpArgs false
def rzv (P : Int) (Q : Nat) : Bool × List Int × List Int := (decide (P < 0), wd (P.natAbs / Nat.gcd P.natAbs Q), wd (Q / Nat.gcd P.natAbs Q))
theorem low_same {a b c d : Nat} (hb : b ≠ 0) (hd : d ≠ 0) (h : a * d = c * b) : a / Nat.gcd a b = c / Nat.gcd c d ∧ b / Nat.gcd a b = d / Nat.gcd c d := by
 have g1 : 0 < Nat.gcd a b := Nat.gcd_pos_of_pos_right a (Nat.pos_of_ne_zero hb)
 have g2 : 0 < Nat.gcd c d := Nat.gcd_pos_of_pos_right c (Nat.pos_of_ne_zero hd)
 have k1 := Nat.coprime_div_gcd_div_gcd g1
 have k2 := Nat.coprime_div_gcd_div_gcd g2
 have ea := Nat.mul_div_cancel' (Nat.gcd_dvd_left a b)
 have eb := Nat.mul_div_cancel' (Nat.gcd_dvd_right a b)
 have ec := Nat.mul_div_cancel' (Nat.gcd_dvd_left c d)
 have ed := Nat.mul_div_cancel' (Nat.gcd_dvd_right c d)
 generalize hg : Nat.gcd a b = g at *
 generalize hh : Nat.gcd c d = g' at *
 generalize ha1 : a / g = a1 at *
 generalize hb1 : b / g = b1 at *
 generalize hc1 : c / g' = c1 at *
 generalize hd1 : d / g' = d1 at *
 have e : a1 * d1 = c1 * b1 := by
  have e1 : g * g' * (a1 * d1) = g * g' * (c1 * b1) := by
   have : g * a1 * (g' * d1) = g' * c1 * (g * b1) := by rw [ea, eb, ec, ed]; exact h
   grind
  exact Nat.eq_of_mul_eq_mul_left (Nat.mul_pos g1 g2) e1
 have x1 : a1 ∣ c1 := k1.dvd_of_dvd_mul_right (by rw [← e]; exact Nat.dvd_mul_right _ _)
 have x2 : c1 ∣ a1 := k2.dvd_of_dvd_mul_right (by rw [e]; exact Nat.dvd_mul_right _ _)
 have x3 : b1 ∣ d1 := k1.symm.dvd_of_dvd_mul_left (by rw [e]; exact Nat.dvd_mul_left _ _)
 have x4 : d1 ∣ b1 := k2.symm.dvd_of_dvd_mul_left (by rw [← e]; exact Nat.dvd_mul_left _ _)
 exact ⟨Nat.dvd_antisymm x1 x2, Nat.dvd_antisymm x3 x4⟩
theorem rzv_same {P P' : Int} {Q Q' : Nat} (hQ : Q ≠ 0) (hQ' : Q' ≠ 0) (h : P * Q' = P' * Q) : rzv P Q = rzv P' Q' := by
 have hn : P.natAbs * Q' = P'.natAbs * Q := by
  have := congrArg Int.natAbs h
  rwa [Int.natAbs_mul, Int.natAbs_mul, Int.natAbs_natCast, Int.natAbs_natCast] at this
 obtain ⟨h1, h2⟩ := low_same hQ hQ' hn
 have hs : decide (P < 0) = decide (P' < 0) := by
  rw [decide_eq_decide]
  have q1 : (0 : Int) < Q := by omega
  have q2 : (0 : Int) < Q' := by omega
  constructor
  ·intro hp
   have h3 : P * Q' < 0 := Int.mul_neg_of_neg_of_pos hp q2
   rw [h] at h3
   rcases (show P' < 0 ∨ 0 ≤ P' by omega) with h4 | h4
   ·exact h4
   ·exact absurd (Int.mul_nonneg h4 (Int.le_of_lt q1)) (by omega)
  ·intro hp
   have h3 : P' * Q < 0 := Int.mul_neg_of_neg_of_pos hp q1
   rw [← h] at h3
   rcases (show P < 0 ∨ 0 ≤ P by omega) with h4 | h4
   ·exact h4
   ·exact absurd (Int.mul_nonneg h4 (Int.le_of_lt q2)) (by omega)
 unfold rzv
 rw [h1, h2, hs]
def sg (s : Bool) (A : Nat) : Int := if s = true then -(A : Int) else (A : Int)
theorem sg_abs (s : Bool) (A : Nat) : (sg s A).natAbs = A := by unfold sg; split <;> omega
theorem sg_neg (s : Bool) (A : Nat) : decide (sg s A < 0) = (s && decide (A ≠ 0)) := by
 unfold sg
 cases s
 ·rw [if_neg (by decide)]; simp
 ·rw [if_pos rfl, Bool.true_and, decide_eq_decide]; omega
theorem rat_lowest.rz (neg : Bool) (x y : List Int) (hx : Ws x) (hy : Ws y) (lx : x.length ≤ 1000000) (ly : y.length ≤ 1000000) (A B : Nat) (vx : nv x = (A : Int)) (vy : nv y = (B : Int)) (hB : B ≠ 0) (k : Nat) (hk : B + 10000001 < k) :
  rat_lowest.f k neg x y = some (rzv (sg neg A) B) := by
 rw [rat_lowest.f_eq neg x y hx hy lx ly A B vx vy hB k hk, rzv, sg_abs, sg_neg]
theorem rat_New.rz (neg : Bool) (x y : List Int) (hx : Ws x) (hy : Ws y) (lx : x.length ≤ 4096) (ly : y.length ≤ 4096) (A B : Nat) (vx : nv x = (A : Int)) (vy : nv y = (B : Int)) (hB : B ≠ 0) (k : Nat) (hk : B + 10000001 < k) :
  rat_New.f k neg x y = some ((rzv (sg neg A) B).1, (rzv (sg neg A) B).2.1, (rzv (sg neg A) B).2.2, 0) := by
 rw [rat_New.f_eq neg x y hx hy lx ly A B vx vy hB k hk, rzv, sg_abs, sg_neg]
structure IsR (v : Bool × List Int × List Int) (N : Int) (D : Nat) : Prop where
 pos : D ≠ 0
 low : Nat.gcd N.natAbs D = 1
 eq : v = (decide (N < 0), wd N.natAbs, wd D)
theorem IsR.rz {v : Bool × List Int × List Int} {N : Int} {D : Nat} (h : IsR v N D) : v = rzv N D := by rw [h.eq, rzv, h.low, Nat.div_one, Nat.div_one]
theorem rzv_is (P : Int) {Q : Nat} (hQ : Q ≠ 0) : ∃ N D, IsR (rzv P Q) N D ∧ P * D = N * Q ∧ N.natAbs ≤ P.natAbs ∧ D ≤ Q := by
 have g1 : 0 < Nat.gcd P.natAbs Q := Nat.gcd_pos_of_pos_right _ (Nat.pos_of_ne_zero hQ)
 have k1 := Nat.coprime_div_gcd_div_gcd g1
 have eq1 := Nat.mul_div_cancel' (Nat.gcd_dvd_left P.natAbs Q)
 have eq2 := Nat.mul_div_cancel' (Nat.gcd_dvd_right P.natAbs Q)
 have hD : Q / Nat.gcd P.natAbs Q ≠ 0 := by intro h; rw [h, Nat.mul_zero] at eq2; omega
 have l1 := Nat.div_le_self P.natAbs (Nat.gcd P.natAbs Q)
 have l2 := Nat.div_le_self Q (Nat.gcd P.natAbs Q)
 have hz : P < 0 → P.natAbs / Nat.gcd P.natAbs Q ≠ 0 := by intro hp h; rw [h, Nat.mul_zero] at eq1; omega
 unfold rzv
 generalize hg : Nat.gcd P.natAbs Q = g at *
 generalize hA : P.natAbs / g = A at *
 generalize hE : Q / g = D at *
 refine ⟨sg (decide (P < 0)) A, D, ⟨hD, by rw [sg_abs]; exact k1, ?_⟩, ?_, by rw [sg_abs]; exact l1, l2⟩
 ·rw [sg_abs, sg_neg]
  congr 1
  by_cases hp : P < 0
  ·have := hz hp; simp [hp, this]
  ·simp [hp]
 ·have hP : P = sg (decide (P < 0)) P.natAbs := by
   unfold sg
   by_cases hp : P < 0
   ·rw [if_pos (decide_eq_true hp)]; omega
   ·rw [if_neg (by simp [hp])]; omega
  have h2 : sg (decide (P < 0)) P.natAbs * (D : Int) = sg (decide (P < 0)) A * (Q : Int) := by
   have e3 : P.natAbs * D = A * Q := by rw [← eq1, ← eq2]; grind
   have e4 : (P.natAbs : Int) * D = A * Q := by exact_mod_cast e3
   unfold sg
   split
   ·rw [Int.neg_mul, Int.neg_mul, e4]
   ·exact e4
  rw [← hP] at h2
  exact h2
theorem wd_last (n : Nat) (h : n ≠ 0) : (wd n).getD ((wd n).length - 1) 0 ≠ 0 := by
 have hp : 0 < (wd n).length := by have := (wd_pos_len n).2 h; omega
 have h1 := strip_last (xs := wd n) (by rw [strip_wd]; exact hp)
 rwa [strip_wd] at h1
theorem nat_Add.f_eq (x y : List Int) (hx : Ws x) (hy : Ws y) (hlx : x.length ≤ 1000000) (hly : y.length ≤ 1000000) (k : Nat) (hk : 1000010 < k) : nat_Add.f k x y = some (bnd (nv x + nv y)) := by
 have h1 : nv x + nv y < 2 ^ (64 * (max x.length y.length + 1)) := by
  have a := nv_lt hx
  have b := nv_lt hy
  have c := pow_mono (show 64 * x.length ≤ 64 * max x.length y.length from by omega)
  have d := pow_mono (show 64 * y.length ≤ 64 * max x.length y.length from by omega)
  rw [pow64]
  have p := two_pow_pos (64 * max x.length y.length)
  omega
 have h0 : 0 ≤ nv x + nv y := Int.add_nonneg (nv_nonneg hx) (nv_nonneg hy)
 rw [nat_Add.f, nat_sum.f, if_pos ⟨wsB_iff.2 hx, wsB_iff.2 hy, by clear h1; omega, by clear h1; omega⟩, Option.bind_some, nat_bound.f_bnd (wn_ws _ _) (by rw [wn_length]; clear h1; omega) k (by rw [wn_length]; clear h1; omega), nv_wn _ h0 h1, Option.bind_some]
theorem bnd_nat {x n c : Nat} (hc : c = 262144) (h : x < 2 ^ n) (hn : n ≤ c) : bnd (x : Int) = (wd x, 0) := by
 have h1 : (x : Int) < 2 ^ c := by
  rw [p2cast]
  exact Int.ofNat_lt.2 (Nat.lt_of_lt_of_le h (Nat.pow_le_pow_right (by decide) hn))
 rw [hc] at h1
 have h2 := bnd_small h1
 rw [Int.toNat_natCast] at h2
 exact h2
theorem wd_lenb {x n : Nat} (h : x < 2 ^ n) (m : Nat) (hm : n ≤ 64 * m) : (wd x).length ≤ m := wd_length_le (Nat.lt_of_lt_of_le h (Nat.pow_le_pow_right (by decide) hm))
theorem shl_ok (l : List Int) (hl : Ws l) (hlen : l.length ≤ 1000000) (X s : Nat) (hv : nv l = (X : Int)) (hs : s ≤ 1000000) {n : Nat} (h : X * 2 ^ s < 2 ^ n) (c : Nat) (hc : c = 262144) (hn : n ≤ c) (k : Nat) (hk : 3000000 < k) :
  ∃ r, nat_Shl.f k l (s : Int) = some (r, 0) ∧ Ws r ∧ nv r = ((X * 2 ^ s : Nat) : Int) ∧ r.length ≤ 4096 := by
 have q : ¬ (s : Int) < 0 := by omega
 rw [nat_Shl.f_eq l hl hlen s (by omega) k hk, if_neg q, hv]
 by_cases h0 : X = 0
 ·subst h0
  refine ⟨[], by rw [if_pos (show ((0 : Nat) : Int) = 0 from rfl)], Ws.nil, ?_, Nat.zero_le _⟩
  rw [Nat.zero_mul]; rfl
 ·have q1 : ¬ (X : Int) = 0 := by omega
  have e : (X : Int) * 2 ^ (s : Int).toNat = ((X * 2 ^ s : Nat) : Int) := by rw [Int.natCast_mul, Int.toNat_natCast, p2cast]
  rw [if_neg q1, e, bnd_nat hc h hn]
  exact ⟨_, rfl, wd_ws _, nv_wd _, wd_lenb h 4096 (by omega)⟩
theorem add_ok (x y : List Int) (hx : Ws x) (hy : Ws y) (lx : x.length ≤ 1000000) (ly : y.length ≤ 1000000) (X Y : Nat) (vx : nv x = (X : Int)) (vy : nv y = (Y : Int)) {n : Nat} (h : X + Y < 2 ^ n) (c : Nat) (hc : c = 262144) (hn : n ≤ c) (k : Nat) (hk : 3000000 < k) :
  nat_Add.f k x y = some (wd (X + Y), 0) ∧ (wd (X + Y)).length ≤ 4096 := by
 have e : (X : Int) + (Y : Int) = ((X + Y : Nat) : Int) := by rw [Int.natCast_add]
 rw [nat_Add.f_eq x y hx hy lx ly k (by omega), vx, vy, e, bnd_nat hc h hn]
 exact ⟨rfl, wd_lenb h 4096 (by omega)⟩
theorem mul_wd (x y : List Int) (hx : Ws x) (hy : Ws y) (lx : x.length ≤ 1000) (ly : y.length ≤ 1000) (X Y : Nat) (vx : nv x = (X : Int)) (vy : nv y = (Y : Int)) {n : Nat} (h : X * Y < 2 ^ n) (c : Nat) (hc : c = 262144) (hn : n ≤ c) (k : Nat) (hk : 3000000 < k) :
  nat_Mul.f k x y = some (wd (X * Y), 0) := by
 have e : (X : Int) * (Y : Int) = ((X * Y : Nat) : Int) := by rw [Int.natCast_mul]
 have hf : x.length * (y.length + 2) + x.length + y.length + 20 < k := by
  have h1 : x.length * (y.length + 2) ≤ 1000 * 1002 := Nat.mul_le_mul lx (by omega)
  omega
 rw [nat_Mul.f_eq x y hx hy (by omega) (by omega) k hf, vx, vy, e]
 by_cases h0 : X * Y = 0
 ·have q : ((X * Y : Nat) : Int) = 0 := by rw [h0]; rfl
  rw [if_pos q, h0, wd_zero]
 ·have q : ¬ ((X * Y : Nat) : Int) = 0 := by
   generalize X * Y = z at *
   omega
  rw [if_neg q, bnd_nat hc h hn]
theorem rat_mul.ok (x y : List Int) (hx : Ws x) (hy : Ws y) (lx : x.length ≤ 1000) (ly : y.length ≤ 1000) (X Y : Nat) (vx : nv x = (X : Int)) (vy : nv y = (Y : Int)) {n : Nat} (h : X * Y < 2 ^ n) (c : Nat) (hc : c = 262144) (hn : n ≤ c) (k : Nat) (hk : 3000000 < k) :
  rat_mul.f k x y = some (wd (X * Y)) := by
 rw [rat_mul.f, mul_wd x y hx hy lx ly X Y vx vy h c hc hn k hk, Option.bind_some, rat_fits.f, if_pos rfl, Option.bind_some]
theorem cmp_wd (X Y : Nat) (lx : (wd X).length ≤ 1000000) (ly : (wd Y).length ≤ 1000000) (k : Nat) (hk : 1000000 < k) : nat_Cmp.f k (wd X) (wd Y) = some (cmpI X Y) := by
 rw [nat_Cmp.f_eq _ _ (wd_ws _) (wd_ws _) (by omega) (by omega) k (by omega) (by omega), nv_wd, nv_wd]
theorem nat_Word.one (k : Nat) (hk : 3 ≤ k) : nat_Word.f k (wd 1) = some (1, true) := by
 have h1 : wd 1 = [1] := by rw [wd_pos (by decide), show (1 : Nat) / 18446744073709551616 = 0 from by decide, wd_zero]; rfl
 rw [nat_Word.f, nat_size.f_eq (wd 1) (by rw [h1]; decide) k (by rw [h1]; simp; omega), Option.bind_some, strip_wd, h1]
 rfl
theorem rat_normal.ok (n : Nat) (h : (wd n).length ≤ 4096) : rat_normal.f (wd n) = some true := by
 rw [rat_normal.f, if_pos (by omega)]
 by_cases h0 : n = 0
 ·have : ((wd n).length : Int) = 0 := by rw [h0, wd_zero]; rfl
  rw [if_pos this]
 ·have hp := (wd_pos_len n).2 h0
  have q : ¬ ((wd n).length : Int) = 0 := by omega
  have e : wrap64 (((wd n).length : Int) - 1) = (((wd n).length - 1 : Nat) : Int) := by rw [w64_of (by omega) (by omega)]; omega
  have hl := wd_last n h0
  rw [if_neg q, e, if_pos (by omega), if_pos (by omega), rdn, bne_iff_ne.2 hl]
theorem rat_Check.ok (s : Bool) (A D : Nat) (hs : s = true → A ≠ 0) (hD : D ≠ 0) (hg : Nat.gcd A D = 1) (la : (wd A).length ≤ 4096) (ld : (wd D).length ≤ 4096) (k : Nat) (hk : D + 10000010 < k) : rat_Check.f k s (wd A) (wd D) = some 0 := by
 obtain ⟨k, rfl⟩ : ∃ j, k = j + 1 := ⟨k - 1, by omega⟩
 have q0 : ¬ ((wd D).length : Int) = 0 := by have := (wd_pos_len D).2 hD; omega
 have hj : rat_Check.j0 (k + 1) false s (wd A) (wd D) = some 0 := by
  rw [rat_Check.j0, if_neg (by decide), quot_Gcd.f_eq _ _ (wd_ws _) (wd_ws _) (by omega) (by omega) A D (nv_wd _) (nv_wd _) k (by omega), Option.bind_some, hg, nat_Word.one k (by omega), Option.bind_some, if_pos rfl, if_pos rfl]
 rw [rat_Check.f, rat_normal.ok A la, Option.bind_some, if_pos rfl, rat_normal.ok D ld, Option.bind_some, if_pos rfl, if_neg q0]
 cases s
 ·rw [if_neg (by decide)]; exact hj
 ·have : (((wd A).length : Int) == 0) = false := by
   have := (wd_pos_len A).2 (hs rfl)
   rw [beq_eq_false_iff_ne]; omega
  rw [if_pos rfl, this]; exact hj
theorem sg_mul (s : Bool) (A D : Nat) : sg s A * (D : Int) = sg s (A * D) := by
 unfold sg
 split
 ·rw [Int.neg_mul, Int.natCast_mul]
 ·rw [Int.natCast_mul]
theorem sg_add_same (s : Bool) (X Y : Nat) : sg s X + sg s Y = sg s (X + Y) := by unfold sg; split <;> omega
theorem sg_add_sub (s t : Bool) (X Y : Nat) (hst : s ≠ t) (h : Y ≤ X) : sg s X + sg t Y = sg s (X - Y) := by
 cases s <;> cases t <;> first | exact absurd rfl hst | (unfold sg; simp; omega)
theorem sg_zero (s : Bool) : sg s 0 = 0 := by unfold sg; split <;> rfl
structure IsB (b : Nat) (v : Bool × List Int × List Int) (N : Int) (D : Nat) : Prop extends IsR v N D where
 num : N.natAbs < 2 ^ b
 den : D < 2 ^ b
theorem IsB.check {b : Nat} {v : Bool × List Int × List Int} {N : Int} {D : Nat} (h : IsB b v N D) (hb : b ≤ 60000) (k : Nat) (hk : D + 20000000 < k) : rat_Check.f k v.1 v.2.1 v.2.2 = some 0 := by
 rw [h.eq]
 exact rat_Check.ok _ _ _ (by intro h; have := of_decide_eq_true h; omega) h.pos h.low (wd_lenb h.num 4096 (by omega)) (wd_lenb h.den 4096 (by omega)) k (by omega)
theorem sg_self (N : Int) : sg (decide (N < 0)) N.natAbs = N := by unfold sg; by_cases h : N < 0 <;> simp [h] <;> omega
theorem rzv_d {b : Nat} (P : Int) {Q : Nat} (hQ : Q ≠ 0) (hp : P.natAbs < 2 ^ b) (hq : Q < 2 ^ b) : ∃ N D, IsB b (rzv P Q) N D ∧ P * D = N * Q ∧ N.natAbs ≤ P.natAbs ∧ D ≤ Q := by
 obtain ⟨N, D, h, e, l1, l2⟩ := rzv_is P hQ
 exact ⟨N, D, ⟨h, Nat.lt_of_le_of_lt l1 hp, Nat.lt_of_le_of_lt l2 hq⟩, e, l1, l2⟩
theorem idx_l0 (l : List Int) (hl : l.length ≤ 1000000) : ∀ (d k i : Nat), d = l.length - i → d < k → i ≤ l.length → ∃ r, slices_IndexFunc_uint64_uint64.l0 k l (l.length : Int) (i : Int) = some r ∧ ((r = -1 ∧ ∀ j, i ≤ j → j < l.length → l.getD j 0 = 0) ∨ (0 ≤ r ∧ ∃ j, j < l.length ∧ l.getD j 0 ≠ 0)) := by
 intro d
 induction d with
 | zero =>
  intro k i hd hk hi
  obtain ⟨k, rfl⟩ : ∃ j, k = j + 1 := ⟨k - 1, by omega⟩
  obtain rfl : i = l.length := by omega
  rw [slices_IndexFunc_uint64_uint64.l0, if_neg (by omega)]
  exact ⟨-1, rfl, .inl ⟨rfl, fun j h1 h2 => by omega⟩⟩
 | succ d ih =>
  intro k i hd hk hi
  obtain ⟨k, rfl⟩ : ∃ j, k = j + 1 := ⟨k - 1, by omega⟩
  rw [slices_IndexFunc_uint64_uint64.l0, if_pos (by omega), if_pos (by omega), if_pos (by omega), rat_SignC1.f, Option.bind_some, rdn]
  by_cases h : l.getD i 0 = 0
  ·have hb : ¬ (l.getD i 0 != 0) = true := by rw [h]; decide
   rw [if_neg hb, w64_s i (by omega)]
   obtain ⟨r, h1, h2⟩ := ih k (i + 1) (by omega) (by omega) (by omega)
   refine ⟨r, h1, ?_⟩
   rcases h2 with ⟨e, h2⟩ | h2
   ·refine .inl ⟨e, fun j j1 j2 => ?_⟩
    by_cases ej : j = i
    ·subst ej; exact h
    ·exact h2 j (by omega) j2
   ·exact .inr h2
  ·have hb : (l.getD i 0 != 0) = true := bne_iff_ne.2 h
   rw [if_pos hb]
   exact ⟨_, rfl, .inr ⟨by omega, i, by omega, h⟩⟩
theorem rat_Sign.ok (s : Bool) (A : Nat) (y : List Int) (hl : (wd A).length ≤ 1000000) (k : Nat) (hk : 1000000 < k) : rat_Sign.f k s (wd A) y = some (sg s A).sign := by
 obtain ⟨r, h1, h2⟩ := idx_l0 (wd A) hl ((wd A).length) k 0 (by omega) (by omega) (by omega)
 have h1' : slices_IndexFunc_uint64_uint64.l0 k (wd A) ((wd A).length : Int) 0 = some r := h1
 rw [rat_Sign.f, slices_ContainsFunc_uint64_uint64.f, slices_IndexFunc_uint64_uint64.f, h1', Option.bind_some, Option.bind_some]
 rcases h2 with ⟨rfl, h2⟩ | ⟨h0, j, j1, j2⟩
 ·have hA : A = 0 := by
   apply Classical.byContradiction
   intro h
   have hp := (wd_pos_len A).2 h
   exact wd_last A h (h2 _ (Nat.zero_le _) (by omega))
  subst hA
  rw [sg_zero]
  rfl
 ·have hA : A ≠ 0 := by
   intro h
   subst h
   rw [wd_zero] at j1
   exact absurd j1 (Nat.not_lt_zero _)
  rw [decide_eq_true (show r ≥ 0 from h0), if_pos rfl]
  cases s
  ·rw [if_neg (by decide)]
   have : (sg false A).sign = 1 := Int.sign_eq_one_of_pos (by unfold sg; rw [if_neg (by decide)]; omega)
   rw [this]
  ·rw [if_pos rfl]
   have : (sg true A).sign = -1 := Int.sign_eq_neg_one_of_neg (by unfold sg; rw [if_pos rfl]; omega)
   rw [this]
theorem cmpI_lt {a b : Int} (h : a < b) : cmpI a b = -1 := by unfold cmpI; rw [if_pos h]
theorem cmpI_gt {a b : Int} (h : b < a) : cmpI a b = 1 := by unfold cmpI; rw [if_neg (by omega), if_neg (by omega)]
theorem cmpI_eq {a b : Int} (h : a = b) : cmpI a b = 0 := by unfold cmpI; rw [if_neg (by omega), if_pos h]
theorem cmpI_cases (a b : Int) : (a < b ∧ cmpI a b = -1) ∨ (a = b ∧ cmpI a b = 0) ∨ (b < a ∧ cmpI a b = 1) := by
 rcases Int.lt_trichotomy a b with h | h | h
 ·exact .inl ⟨h, cmpI_lt h⟩
 ·exact .inr (.inl ⟨h, cmpI_eq h⟩)
 ·exact .inr (.inr ⟨h, cmpI_gt h⟩)
theorem cmpI_neg (a b : Int) : cmpI (-a) (-b) = -cmpI a b := by
 rcases cmpI_cases a b with ⟨h, e⟩ | ⟨h, e⟩ | ⟨h, e⟩
 ·rw [e, cmpI_gt (by omega)]; rfl
 ·rw [e, cmpI_eq (by omega)]; rfl
 ·rw [e, cmpI_lt (by omega)]
theorem cmpI_scale (a b : Int) {c : Int} (h : 0 < c) : cmpI (a * c) (b * c) = cmpI a b := by
 rcases cmpI_cases a b with ⟨h1, e⟩ | ⟨h1, e⟩ | ⟨h1, e⟩
 ·rw [e, cmpI_lt (Int.mul_lt_mul_of_pos_right h1 h)]
 ·rw [e, cmpI_eq (by rw [h1])]
 ·rw [e, cmpI_gt (Int.mul_lt_mul_of_pos_right h1 h)]
theorem rat_CmpC1.ok {b : Nat} {v u : Bool × List Int × List Int} {N M : Int} {D E : Nat} (hv : IsB b v N D) (hu : IsB b u M E) (hb : b ≤ 60000) (k : Nat) (hk : 30000000 < k) :
  rat_CmpC1.f k v.1 v.2.1 v.2.2 u.1 u.2.1 u.2.2 = some (cmpI (N * E) (M * D)) := by
 obtain ⟨c, hc⟩ : ∃ c : Nat, c = 262144 := ⟨_, rfl⟩
 have lens : ∀ n : Nat, n < 2 ^ b → (wd n).length ≤ 1000 := fun n hn => wd_lenb hn 1000 (by omega)
 have prod : ∀ X Y : Nat, X < 2 ^ b → Y < 2 ^ b → X * Y < 2 ^ (b + b) := fun X Y hX hY => by rw [Nat.pow_add]; exact Nat.mul_lt_mul'' hX hY
 have mulE : ∀ X Y : Nat, X < 2 ^ b → Y < 2 ^ b → rat_mul.f k (wd X) (wd Y) = some (wd (X * Y)) := fun X Y hX hY => rat_mul.ok _ _ (wd_ws _) (wd_ws _) (lens X hX) (lens Y hY) X Y (nv_wd _) (nv_wd _) (prod X Y hX hY) c hc (by omega) k (by omega)
 have len2 : ∀ n : Nat, n < 2 ^ (b + b) → (wd n).length ≤ 1000000 := fun n hn => wd_lenb hn 1000000 (by omega)
 have s1 : rat_Sign.f k (decide (N < 0)) (wd N.natAbs) (wd D) = some N.sign := by rw [rat_Sign.ok _ _ _ (by have := lens _ hv.num; omega) k (by omega), sg_self]
 have s2 : rat_Sign.f k (decide (M < 0)) (wd M.natAbs) (wd E) = some M.sign := by rw [rat_Sign.ok _ _ _ (by have := lens _ hu.num; omega) k (by omega), sg_self]
 have hD : (0 : Int) < D := by have := hv.pos; omega
 have hE : (0 : Int) < E := by have := hu.pos; omega
 rw [hv.eq, hu.eq, rat_CmpC1.f, s1, Option.bind_some, s2, Option.bind_some, mulE _ _ hv.num hu.den, Option.bind_some, mulE _ _ hu.num hv.den, Option.bind_some, cmp_wd _ _ (len2 _ (prod _ _ hv.num hu.den)) (len2 _ (prod _ _ hu.num hv.den)) k (by omega), Option.bind_some]
 have cN : ((N.natAbs * E : Nat) : Int) = (N.natAbs : Int) * E := Int.natCast_mul _ _
 have cM : ((M.natAbs * D : Nat) : Int) = (M.natAbs : Int) * D := Int.natCast_mul _ _
 rw [cN, cM]
 rcases Int.lt_trichotomy N 0 with h1 | h1 | h1 <;> rcases Int.lt_trichotomy M 0 with h2 | h2 | h2
 ·rw [Int.sign_eq_neg_one_of_neg h1, Int.sign_eq_neg_one_of_neg h2, if_neg (by decide), if_neg (by decide), if_pos (by decide)]
  have e1 : (N.natAbs : Int) = -N := by omega
  have e2 : (M.natAbs : Int) = -M := by omega
  rw [e1, e2, Int.neg_mul, Int.neg_mul, cmpI_neg]
  rcases cmpI_cases (N * E) (M * D) with ⟨_, e⟩ | ⟨_, e⟩ | ⟨_, e⟩ <;> rw [e, w64_of (by decide) (by decide)] <;> rfl
 ·subst h2
  rw [Int.sign_eq_neg_one_of_neg h1, Int.sign_zero, if_pos (by decide), Int.zero_mul, cmpI_lt (Int.mul_neg_of_neg_of_pos h1 hE)]
 ·rw [Int.sign_eq_neg_one_of_neg h1, Int.sign_eq_one_of_pos h2, if_pos (by decide), cmpI_lt (Int.lt_trans (Int.mul_neg_of_neg_of_pos h1 hE) (Int.mul_pos h2 hD))]
 ·subst h1
  rw [Int.sign_zero, Int.sign_eq_neg_one_of_neg h2, if_neg (by decide), if_pos (by decide), Int.zero_mul, cmpI_gt (Int.mul_neg_of_neg_of_pos h2 hD)]
 ·subst h1 h2
  rw [Int.sign_zero, if_neg (by decide), if_neg (by decide), if_neg (by decide), Int.natAbs_zero, Int.zero_mul, Int.zero_mul]
  show some (cmpI (0 * (E : Int)) (0 * (D : Int))) = _
  rw [Int.zero_mul, Int.zero_mul]
 ·subst h1
  rw [Int.sign_zero, Int.sign_eq_one_of_pos h2, if_pos (by decide), Int.zero_mul, cmpI_lt (Int.mul_pos h2 hD)]
 ·rw [Int.sign_eq_one_of_pos h1, Int.sign_eq_neg_one_of_neg h2, if_neg (by decide), if_pos (by decide), cmpI_gt (Int.lt_trans (Int.mul_neg_of_neg_of_pos h2 hD) (Int.mul_pos h1 hE))]
 ·subst h2
  rw [Int.sign_eq_one_of_pos h1, Int.sign_zero, if_neg (by decide), if_pos (by decide), Int.zero_mul, cmpI_gt (Int.mul_pos h1 hE)]
 ·rw [Int.sign_eq_one_of_pos h1, Int.sign_eq_one_of_pos h2, if_neg (by decide), if_neg (by decide), if_neg (by decide)]
  have e1 : (N.natAbs : Int) = N := by omega
  have e2 : (M.natAbs : Int) = M := by omega
  rw [e1, e2]
theorem rat_Cmp.ok {b : Nat} {v u : Bool × List Int × List Int} {N M : Int} {D E : Nat} (hv : IsB b v N D) (hu : IsB b u M E) (hb : b ≤ 60000) (k : Nat) (hk : D + E + 30000000 < k) :
  rat_Cmp.f k v.1 v.2.1 v.2.2 u.1 u.2.1 u.2.2 = some (cmpI (N * E) (M * D), 0) := by
 rw [rat_Cmp.f, rat_reckonedCmp.f, rat_reckonedO.f, hv.check hb k (by omega), Option.bind_some, if_pos rfl, hu.check hb k (by omega), Option.bind_some, if_pos rfl, rat_CmpC1.ok hv hu hb k (by omega), Option.bind_some, Option.bind_some]
 rfl
theorem rat_Cmp.rz {b : Nat} {P P' : Int} {Q Q' : Nat} (hQ : Q ≠ 0) (hQ' : Q' ≠ 0) (hp : P.natAbs < 2 ^ b) (hq : Q < 2 ^ b) (hp' : P'.natAbs < 2 ^ b) (hq' : Q' < 2 ^ b) (hb : b ≤ 60000) (k : Nat) (hk : Q + Q' + 30000000 < k) :
  rat_Cmp.f k (rzv P Q).1 (rzv P Q).2.1 (rzv P Q).2.2 (rzv P' Q').1 (rzv P' Q').2.1 (rzv P' Q').2.2 = some (cmpI (P * Q') (P' * Q), 0) := by
 obtain ⟨N, D, h, e, _, l⟩ := rzv_d P hQ hp hq
 obtain ⟨M, E, h', e', _, l'⟩ := rzv_d P' hQ' hp' hq'
 rw [rat_Cmp.ok h h' hb k (by omega)]
 have hD : (0 : Int) < D := by have := h.pos; omega
 have hE : (0 : Int) < E := by have := h'.pos; omega
 have q1 : (0 : Int) < Q := by omega
 have q2 : (0 : Int) < Q' := by omega
 have e1 : cmpI (N * E) (M * D) = cmpI (P * Q') (P' * Q) := by
  rw [← cmpI_scale (N * E) (M * D) (Int.mul_pos q1 q2), ← cmpI_scale (P * Q') (P' * Q) (Int.mul_pos hD hE)]
  congr 1 <;> grind
 rw [e1]
def pV (d : Nat) : Nat := if d < 4503599627370496 then d else (4503599627370496 + d % 4503599627370496) * 2 ^ (d / 4503599627370496 - 1)
def pU (d : Nat) : Nat := 2 ^ (d / 4503599627370496 - 1)
theorem pV_succ (d : Nat) : pV (d + 1) = pV d + pU d := by
 unfold pV pU
 by_cases h1 : d + 1 < 4503599627370496
 ·rw [if_pos h1, if_pos (by omega), Nat.div_eq_of_lt (by omega)]
 ·rw [if_neg h1]
  by_cases h2 : d < 4503599627370496
  ·obtain rfl : d = 4503599627370496 - 1 := by omega
   rw [if_pos h2]
  ·rw [if_neg h2]
   by_cases h3 : d % 4503599627370496 + 1 < 4503599627370496
   ·have e1 : (d + 1) % 4503599627370496 = d % 4503599627370496 + 1 := by omega
    have e2 : (d + 1) / 4503599627370496 = d / 4503599627370496 := by omega
    rw [e1, e2, ← Nat.add_assoc, Nat.add_mul _ 1, Nat.one_mul]
   ·have e1 : (d + 1) % 4503599627370496 = 0 := by omega
    have e2 : (d + 1) / 4503599627370496 = d / 4503599627370496 + 1 := by omega
    have e3 : d % 4503599627370496 = 4503599627370496 - 1 := by omega
    have e4 : 1 ≤ d / 4503599627370496 := by omega
    obtain ⟨j, hj⟩ : ∃ j, d / 4503599627370496 = j + 1 := ⟨d / 4503599627370496 - 1, by omega⟩
    rw [e1, e2, e3, hj, Nat.add_sub_cancel, Nat.add_sub_cancel, Nat.pow_succ, Nat.add_zero, ← Nat.succ_mul, Nat.mul_comm (2 ^ j) 2, ← Nat.mul_assoc]
theorem pU_pos (d : Nat) : 0 < pU d := Nat.pow_pos (by decide)
theorem pV_lt_succ (d : Nat) : pV d < pV (d + 1) := by have := pU_pos d; rw [pV_succ]; omega
theorem pV_le {a b : Nat} (h : a ≤ b) : pV a ≤ pV b := by
  induction b with
  | zero => obtain rfl : a = 0 := by omega
            exact Nat.le_refl _
  | succ b ih =>
    by_cases h1 : a = b + 1
    · subst h1; exact Nat.le_refl _
    · exact Nat.le_trans (ih (by omega)) (Nat.le_of_lt (pV_lt_succ b))
theorem pV_zero : pV 0 = 0 := rfl
theorem pV_at {s q : Nat} (hq : q < 9007199254740992) (h : s = 0 ∨ 4503599627370496 ≤ q) : pV (s * 4503599627370496 + q) = q * 2 ^ s ∧ pU (s * 4503599627370496 + q) = 2 ^ s := by
 unfold pV pU
 by_cases h0 : q < 4503599627370496
 ·obtain rfl : s = 0 := by omega
  rw [Nat.zero_mul, Nat.zero_add, if_pos h0, Nat.div_eq_of_lt h0]
  simp
 ·have e1 : (s * 4503599627370496 + q) / 4503599627370496 = s + 1 := by
   rw [Nat.mul_comm, Nat.mul_add_div (by omega)]
   have : q / 4503599627370496 = 1 := by omega
   omega
  have e2 : (s * 4503599627370496 + q) % 4503599627370496 = q - 4503599627370496 := by
   rw [Nat.mul_comm, Nat.mul_add_mod]
   omega
  have e3 : ¬ s * 4503599627370496 + q < 4503599627370496 := by omega
  rw [if_neg e3, e1, e2, Nat.add_sub_cancel, show 4503599627370496 + (q - 4503599627370496) = q from by omega]
  exact ⟨rfl, rfl⟩
structure Rd (P Q d : Nat) : Prop where
 lo : pV d * Q ≤ P
 hi : P < pV (d + 1) * Q
theorem Rd.uniq {P Q d e : Nat} (h : Rd P Q d) (k : Rd P Q e) : d = e := by
 apply Classical.byContradiction
 intro hne
 rcases Nat.lt_or_gt_of_ne hne with hlt | hlt
 ·have := Nat.mul_le_mul_right Q (pV_le (show d + 1 ≤ e from hlt))
  have h1 := h.hi; have h2 := k.lo; omega
 ·have := Nat.mul_le_mul_right Q (pV_le (show e + 1 ≤ d from hlt))
  have h1 := k.hi; have h2 := h.lo; omega
theorem Rd.le_iff {P Q d : Nat} (h : Rd P Q d) (e : Nat) : pV e * Q ≤ P ↔ e ≤ d := by
 constructor
 ·intro h1
  apply Classical.byContradiction
  intro hn
  have := Nat.mul_le_mul_right Q (pV_le (show d + 1 ≤ e by omega))
  have := h.hi; omega
 ·intro h1
  exact Nat.le_trans (Nat.mul_le_mul_right Q (pV_le h1)) h.lo
def tl (P Q : Nat) (more : Bool) (d : Nat) : Nat :=
 if P = pV d * Q then (if more then 1 else 0) else if 2 * P < (2 * pV d + pU d) * Q then 1 else if 2 * P = (2 * pV d + pU d) * Q then (if more then 3 else 2) else 3
def tailOf (r k : Nat) (st : Bool) : Nat := if r = 0 then (if st then 1 else 0) else if 2 * r < 2 ^ k then 1 else if 2 * r = 2 ^ k then (if st then 3 else 2) else 3
theorem Rd.of_div {P Q m k s a b : Nat} {more st : Bool} (hQ : 0 < Q) (hk : 1 ≤ k) (hs : s + b = k + a) (h1 : m * 2 ^ a * Q ≤ P * 2 ^ b) (h2 : P * 2 ^ b < (m + 1) * 2 ^ a * Q)
  (hst : st = true ↔ (P * 2 ^ b ≠ m * 2 ^ a * Q ∨ more = true)) (hq : m / 2 ^ k < 9007199254740992) (hsq : s = 0 ∨ 4503599627370496 ≤ m / 2 ^ k) :
  Rd P Q (s * 4503599627370496 + m / 2 ^ k) ∧ tl P Q more (s * 4503599627370496 + m / 2 ^ k) = tailOf (m % 2 ^ k) k st := by
 obtain ⟨eV, eU⟩ := pV_at hq hsq
 have hb : 0 < 2 ^ b := Nat.pow_pos (by decide)
 have ha : 0 < 2 ^ a := Nat.pow_pos (by decide)
 have hm : m = 2 ^ k * (m / 2 ^ k) + m % 2 ^ k := (Nat.div_add_mod m (2 ^ k)).symm
 have hr : m % 2 ^ k < 2 ^ k := Nat.mod_lt _ (Nat.pow_pos (by decide))
 have hU : 0 < 2 ^ a * Q := Nat.mul_pos ha hQ
 have ep : 2 ^ s * 2 ^ b = 2 ^ k * 2 ^ a := by rw [← Nat.pow_add, ← Nat.pow_add, hs]
 have hodd : 2 ∣ 2 ^ k := ⟨2 ^ (k - 1), by rw [Nat.mul_comm, ← Nat.pow_succ]; congr 1; omega⟩
 generalize m / 2 ^ k = q at *
 generalize m % 2 ^ k = r at *
 generalize hU' : 2 ^ a * Q = U at *
 have eA : m * 2 ^ a * Q = m * U := by rw [Nat.mul_assoc, hU']
 have eB : (m + 1) * 2 ^ a * Q = m * U + U := by rw [Nat.mul_assoc, hU', Nat.add_mul, Nat.one_mul]
 rw [eA] at h1 hst
 rw [eB] at h2
 have bd : ∀ z, z * 2 ^ s * Q * 2 ^ b = z * 2 ^ k * U := by
  intro z
  rw [← hU', Nat.mul_assoc, Nat.mul_comm Q, ← Nat.mul_assoc, Nat.mul_assoc z, ep, ← Nat.mul_assoc, Nat.mul_assoc (z * 2 ^ k)]
 have lo : q * 2 ^ s * Q ≤ P := by
  apply Nat.le_of_mul_le_mul_right _ hb
  rw [bd]
  refine Nat.le_trans (Nat.mul_le_mul_right U ?_) h1
  rw [hm, Nat.mul_comm q]; omega
 have hi : P < (q + 1) * 2 ^ s * Q := by
  apply Nat.lt_of_mul_lt_mul_right (a := 2 ^ b)
  rw [bd]
  refine Nat.lt_of_lt_of_le h2 ?_
  have h3 : (m + 1) * U ≤ (q + 1) * 2 ^ k * U := Nat.mul_le_mul_right U (by rw [hm, Nat.add_mul, Nat.one_mul, Nat.mul_comm q]; omega)
  rw [Nat.add_mul, Nat.one_mul] at h3
  exact h3
 refine ⟨⟨by rw [eV]; exact lo, by rw [pV_succ, eV, eU, ← Nat.succ_mul]; exact hi⟩, ?_⟩
 have e0 : (P = q * 2 ^ s * Q) ↔ P * 2 ^ b = (m - r) * U := by
  have e1 : (m - r) * U = q * 2 ^ s * Q * 2 ^ b := by rw [bd]; congr 1; rw [Nat.mul_comm]; omega
  rw [e1]
  exact ⟨fun h => by rw [h], fun h => Nat.eq_of_mul_eq_mul_right hb h⟩
 have eh : ∀ z, 2 * z * 2 ^ b = 2 * (z * 2 ^ b) := fun z => Nat.mul_assoc _ _ _
 have ehalf : (2 * (q * 2 ^ s) + 2 ^ s) * Q * 2 ^ b = (2 * (m - r) + 2 ^ k) * U := by
  have e1 : (2 * (q * 2 ^ s) + 2 ^ s) = (2 * q + 1) * 2 ^ s := by rw [Nat.add_mul, Nat.one_mul, Nat.mul_assoc]
  rw [e1, bd, Nat.add_mul (2 * q), Nat.one_mul]
  congr 1
  have : q * 2 ^ k = m - r := by rw [Nat.mul_comm]; omega
  rw [Nat.mul_assoc, this]
 have cmp2 : ∀ (f : Nat → Nat → Prop), True := fun _ => trivial
 have lt_half : (2 * P < (2 * (q * 2 ^ s) + 2 ^ s) * Q) ↔ 2 * (P * 2 ^ b) < (2 * (m - r) + 2 ^ k) * U := by
  rw [← ehalf, ← eh]
  exact ⟨fun h => Nat.mul_lt_mul_of_pos_right h hb, fun h => Nat.lt_of_mul_lt_mul_right h⟩
 have eq_half : (2 * P = (2 * (q * 2 ^ s) + 2 ^ s) * Q) ↔ 2 * (P * 2 ^ b) = (2 * (m - r) + 2 ^ k) * U := by
  rw [← ehalf, ← eh]
  exact ⟨fun h => by rw [h], fun h => Nat.eq_of_mul_eq_mul_right hb h⟩
 obtain ⟨x, hx⟩ : ∃ x, P * 2 ^ b = m * U + x := ⟨P * 2 ^ b - m * U, by omega⟩
 have hxU : x < U := by omega
 have hmr : m * U = (m - r) * U + r * U := by rw [← Nat.add_mul]; congr 1; omega
 obtain ⟨h, hh⟩ := hodd
 have hkU : (2 * (m - r) + 2 ^ k) * U = 2 * ((m - r) * U) + 2 * (h * U) := by rw [hh, Nat.add_mul, Nat.mul_assoc, Nat.mul_assoc]
 rw [hx, hmr] at e0 lt_half eq_half hst
 rw [hkU] at lt_half eq_half
 have hst' : st = true ↔ (x ≠ 0 ∨ more = true) := by
  rw [hst]
  constructor
  ·rintro (h1 | h1)
   ·exact .inl (by omega)
   ·exact .inr h1
  ·rintro (h1 | h1)
   ·exact .inl (by omega)
   ·exact .inr h1
 unfold tl tailOf
 rw [eV, eU]
 by_cases r0 : r = 0
 ·subst r0
  rw [if_pos rfl]
  rw [Nat.zero_mul] at e0 lt_half eq_half
  by_cases x0 : x = 0
  ·rw [if_pos (e0.2 (by omega))]
   have : st = more := Bool.eq_iff_iff.2 ⟨fun z => (hst'.1 z).resolve_left (fun y => y x0), fun z => hst'.2 (.inr z)⟩
   rw [this]
  ·have hs1 : st = true := hst'.2 (.inl x0)
   have hh1 : 1 * U ≤ h * U := Nat.mul_le_mul_right U (by
    have : 0 < 2 ^ k := Nat.pow_pos (by decide)
    omega)
   rw [if_neg (fun z => x0 (by have := e0.1 z; omega)), if_pos (lt_half.2 (by omega)), hs1]
   rfl
 ·rw [if_neg r0]
  have hrU : 1 * U ≤ r * U := Nat.mul_le_mul_right U (by omega)
  rw [if_neg (fun z => by have := e0.1 z; omega)]
  by_cases c1 : 2 * r < 2 ^ k
  ·have hc : (r + 1) * U ≤ h * U := Nat.mul_le_mul_right U (by omega)
   rw [Nat.add_mul, Nat.one_mul] at hc
   rw [if_pos c1, if_pos (lt_half.2 (by omega))]
  ·have hc : h * U ≤ r * U := Nat.mul_le_mul_right U (by omega)
   rw [if_neg c1, if_neg (fun z => by have := lt_half.1 z; omega)]
   by_cases c2 : 2 * r = 2 ^ k
   ·have hc2 : h * U = r * U := by congr 1; omega
    rw [if_pos c2]
    by_cases x0 : x = 0
    ·rw [if_pos (eq_half.2 (by omega))]
     have : st = more := Bool.eq_iff_iff.2 ⟨fun z => (hst'.1 z).resolve_left (fun y => y x0), fun z => hst'.2 (.inr z)⟩
     rw [this]
    ·have hs1 : st = true := hst'.2 (.inl x0)
     rw [if_neg (fun z => by have := eq_half.1 z; omega), hs1]
     rfl
   ·have hc2 : (h + 1) * U ≤ r * U := Nat.mul_le_mul_right U (by omega)
    rw [Nat.add_mul, Nat.one_mul] at hc2
    rw [if_neg c2, if_neg (fun z => by have := eq_half.1 z; omega)]
def pM (d : Nat) : Nat := if d < 4503599627370496 then d else 4503599627370496 + d % 4503599627370496
def pS (d : Nat) : Nat := d / 4503599627370496 - 1
theorem pV_parts (d : Nat) : pV d = pM d * 2 ^ pS d := by
 unfold pV pM pS
 by_cases h : d < 4503599627370496
 ·rw [if_pos h, if_pos h, Nat.div_eq_of_lt h]; simp
 ·rw [if_neg h, if_neg h]
theorem pM_lt (d : Nat) : pM d < 9007199254740992 := by unfold pM; split <;> omega
theorem odd_part : ∀ n : Nat, 0 < n → ∃ o z, n = o * 2 ^ z ∧ o % 2 = 1 := by
 intro n
 induction n using Nat.strongRecOn with
 | ind n ih =>
  intro hn
  by_cases h : n % 2 = 1
  ·exact ⟨n, 0, by simp, h⟩
  ·obtain ⟨o, z, e, ho⟩ := ih (n / 2) (by omega) (by omega)
   exact ⟨o, z + 1, by rw [Nat.pow_succ, ← Nat.mul_assoc, ← e]; omega, ho⟩
theorem and_neg_odd' (n w : Nat) (h : w < 2 ^ n) (ho : w % 2 = 1) : w &&& (2 ^ n - w) = 1 := by
 apply Nat.eq_of_testBit_eq
 intro i
 have hw : w - 1 < 2 ^ n := by omega
 have e : 2 ^ n - w = 2 ^ n - ((w - 1) + 1) := by omega
 have hn : 0 < n := by
  rcases Nat.eq_zero_or_pos n with h0 | h0
  ·subst h0; simp at h; omega
  ·exact h0
 rw [e, Nat.testBit_and, Nat.testBit_two_pow_sub_succ hw]
 cases i with
 | zero =>
  have h1 : w.testBit 0 = true := by rw [Nat.testBit_zero]; exact decide_eq_true ho
  have h2 : (w - 1).testBit 0 = false := by rw [Nat.testBit_zero]; exact decide_eq_false (by omega)
  rw [h1, h2, decide_eq_true hn]
  rfl
 | succ i =>
  rw [Nat.testBit_succ, Nat.testBit_succ, Nat.testBit_succ, show (w - 1) / 2 = w / 2 from by omega]
  simp
  intro h1 _
  exact h1
theorem and_neg (o z : Nat) (hz : z < 64) (h : o * 2 ^ z < 18446744073709551616) (ho : o % 2 = 1) : (o * 2 ^ z) &&& (18446744073709551616 - o * 2 ^ z) = 2 ^ z := by
 have e64 : (18446744073709551616 : Nat) = 2 ^ (64 - z) * 2 ^ z := by rw [← Nat.pow_add, show 64 - z + z = 64 from by omega]
 have hp : 0 < 2 ^ z := Nat.pow_pos (by decide)
 have hlt : o < 2 ^ (64 - z) := by
  rw [e64] at h
  exact Nat.lt_of_mul_lt_mul_right h
 rw [e64, ← Nat.sub_mul, ← Nat.shiftLeft_eq, ← Nat.shiftLeft_eq, ← Nat.shiftLeft_and_distrib, and_neg_odd' _ _ hlt ho, Nat.shiftLeft_eq, Nat.one_mul]
theorem bitsN_pow (z : Nat) : bitsN (((2 ^ z : Nat) : Nat) : Int) = z + 1 := by
 have h1 : ((2 ^ z : Nat) : Int) = 2 ^ z := by rw [p2cast]
 refine (bitsN_iff (by rw [h1]; exact two_pow_pos z) z).2 ⟨by rw [h1]; exact Int.le_refl _, ?_⟩
 rw [h1, Int.pow_succ]
 have := two_pow_pos z
 omega
theorem wide_Zeros.f_eq {o z : Nat} (h : o * 2 ^ z < 18446744073709551616) (ho : o % 2 = 1) (k : Nat) (hk : 7 ≤ k) : wide_Zeros.f k ((o * 2 ^ z : Nat) : Int) = some (z : Int) := by
 have hp : 0 < 2 ^ z := Nat.pow_pos (by decide)
 have hw0 : 0 < o * 2 ^ z := Nat.mul_pos (by omega) hp
 have hz : z < 64 := by
  apply Classical.byContradiction
  intro hn
  have h1 : 2 ^ 64 ≤ 2 ^ z := Nat.pow_le_pow_right (by decide) (by omega)
  have h2 : 1 * 2 ^ z ≤ o * 2 ^ z := Nat.mul_le_mul_right _ (by omega)
  rw [show (2 : Nat) ^ 64 = 18446744073709551616 from by decide] at h1
  omega
 have ea := and_neg o z hz h ho
 generalize hx : o * 2 ^ z = x at *
 have en : IntKind.u64.wrap (-(x : Int)) = ((18446744073709551616 - x : Nat) : Int) := by rw [u64w]; omega
 rw [wide_Zeros.f, if_neg (by omega), en]
 have e1 := u64_and_nat x (18446744073709551616 - x) h (by omega)
 rw [ea] at e1
 have hz2 : ((2 ^ z : Nat) : Int) < 18446744073709551616 := by
  have h1 : 2 ^ z < 2 ^ 64 := Nat.pow_lt_pow_right (by decide) hz
  rw [show (2 : Nat) ^ 64 = 18446744073709551616 from by decide] at h1
  omega
 rw [e1, wide_Len.f_eq (Int.natCast_nonneg _) hz2 k hk, bitsN_pow]
 rw [Option.bind_some]
 congr 1
 rw [w64_of (by omega) (by omega)]
 omega
def sgn (neg : Bool) : Int := if neg then 9223372036854775808 else 0
theorem or_sgn (neg : Bool) {x : Int} (h0 : 0 ≤ x) (h1 : x < 9223372036854775808) : Go.bits .or .u64 (sgn neg) x = sgn neg + x := by
 cases neg
 ·exact or_join 63 (by decide) (by decide) (by decide) h0 (by rw [show (2 : Int) ^ 63 = 9223372036854775808 from by decide]; exact h1) (by omega)
 ·exact or_join 63 (by decide) (by decide) (by decide) h0 (by rw [show (2 : Int) ^ 63 = 9223372036854775808 from by decide]; exact h1) (by omega)
theorem bitsN_mul_pow {o : Nat} (ho : 0 < o) (z : Nat) : bitsN ((o * 2 ^ z : Nat) : Int) = bitsN (o : Int) + z := by
 have hb := bitsN_pos (x := (o : Int)) (by omega)
 obtain ⟨n, hn⟩ : ∃ n : Nat, bitsN (o : Int) = n + 1 := ⟨(bitsN (o : Int) - 1).toNat, by omega⟩
 have h1 := (bitsN_iff (by omega) n).1 hn
 have e : ((o * 2 ^ z : Nat) : Int) = (o : Int) * 2 ^ z := by rw [Int.natCast_mul, p2cast]
 have hp := two_pow_pos z
 have := (bitsN_iff (x := ((o * 2 ^ z : Nat) : Int)) (by rw [e]; exact Int.mul_pos (by omega) hp) (n + z)).2 ⟨by rw [e, Int.pow_add]; exact Int.mul_le_mul_of_nonneg_right h1.1 (by omega), by
  rw [e, show n + z + 1 = n + 1 + z from by omega, Int.pow_add]
  exact Int.mul_lt_mul_of_pos_right h1.2 hp⟩
 rw [this, hn]
 omega
theorem shr_nat (o z : Nat) (hz : z < 64) : shr .u64 ((o * 2 ^ z : Nat) : Int) (z : Int) = (o : Int) := by
 rw [shr_eq, Int.toNat_natCast, Nat.min_eq_left (by omega), p2cast, ← Int.natCast_ediv, Nat.mul_div_cancel _ (Nat.pow_pos (by decide))]
theorem shl_nat (o z : Nat) (hz : z < 64) (h : o * 2 ^ z < 18446744073709551616) : shl .u64 (o : Int) (z : Int) = ((o * 2 ^ z : Nat) : Int) := by
 rw [shl_eq, Int.toNat_natCast, Nat.min_eq_left (by omega), p2cast, ← Int.natCast_mul, Int.emod_eq_of_lt (Int.natCast_nonneg _) (by omega)]
theorem f64_Join.f_eq (neg : Bool) (m s : Nat) (hm : m < 9007199254740992) (hs : s = 0 ∨ 4503599627370496 ≤ m) (hs2 : s ≤ 2045) (k : Nat) (hk : 20 ≤ k) :
  f64_Join.f k neg (m : Int) ((s : Int) - 1074) = some (sgn neg + ((s * 4503599627370496 + m : Nat) : Int), 0) := by
 obtain ⟨k, rfl⟩ : ∃ j, k = j + 3 := ⟨k - 3, by omega⟩
 have e0 : f64_Join.f (k + 3) neg (m : Int) ((s : Int) - 1074) = f64_Join.j0 (k + 3) (m : Int) ((s : Int) - 1074) (sgn neg) := by
  unfold f64_Join.f sgn
  cases neg <;> simp
 rw [e0]
 rw [show k + 3 = (k + 2) + 1 from rfl, f64_Join.j0]
 by_cases h0 : m = 0
 ·subst h0
  obtain rfl : s = 0 := by omega
  rw [if_pos (show ((0 : Nat) : Int) = 0 from rfl)]
  simp
 ·rw [if_neg (by omega), if_neg (by omega), decide_eq_false (by omega)]
  rw [show k + 2 = (k + 1) + 1 from rfl, f64_Join.j1]
  rw [if_neg (by decide)]
  obtain ⟨o, z, he, ho⟩ := odd_part m (by omega)
  have hz53 : z < 53 := by
   apply Classical.byContradiction
   intro hn
   have h1 : 2 ^ 53 ≤ 2 ^ z := Nat.pow_le_pow_right (by decide) (by omega)
   have h2 : 1 * 2 ^ z ≤ o * 2 ^ z := Nat.mul_le_mul_right _ (by omega)
   rw [show (2 : Nat) ^ 53 = 9007199254740992 from by decide] at h1
   omega
  have hopos : 0 < o := by omega
  have ole : o ≤ m := by rw [he]; exact Nat.le_mul_of_pos_right _ (Nat.pow_pos (by decide))
  have eb := bitsN_mul_pow hopos z
  rw [← he] at eb
  have b1 := bitsN_le_of_lt (x := (m : Int)) (n := 53) (by omega) (by rw [show (2 : Int) ^ 53 = 9007199254740992 from by decide]; omega)
  have b2 := bitsN_pos (x := (o : Int)) (by omega)
  have b3 : s ≠ 0 → bitsN (m : Int) = 53 := by
   intro hs0
   have := (bitsN_iff (x := (m : Int)) (by omega) 52).2 ⟨by rw [show (2 : Int) ^ 52 = 4503599627370496 from by decide]; omega, by rw [show (2 : Int) ^ (52 + 1) = 9007199254740992 from by decide]; omega⟩
   rw [this]; rfl
  have b4 : s = 0 → bitsN (m : Int) = 53 ∨ bitsN (m : Int) ≤ 52 := fun _ => by omega
  have hzf : wide_Zeros.f (k + 1) (m : Int) = some (z : Int) := by
   have := wide_Zeros.f_eq (o := o) (z := z) (by rw [← he]; omega) ho (k + 1) (by omega)
   rwa [← he] at this
  have hshr : shr .u64 (m : Int) (z : Int) = (o : Int) := by
   have := shr_nat o z (by omega)
   rwa [← he] at this
  rw [hzf, Option.bind_some, if_pos (by omega), hshr, wide_Len.f_eq (by omega) (by omega) (k + 1) (by omega), Option.bind_some]
  have ebo : bitsN (o : Int) = bitsN (m : Int) - z := by omega
  rw [ebo]
  have w1 : wrap64 ((s : Int) - 1074 + (z : Int)) = (s : Int) - 1074 + z := w64_of (by omega) (by omega)
  have w2 : wrap64 ((s : Int) - 1074 + z + (bitsN (m : Int) - z)) = (s : Int) - 1074 + bitsN (m : Int) := by rw [w64_of (by omega) (by omega)]; omega
  rw [w1, w2, if_neg (by omega), if_neg (by omega), decide_eq_false (by omega)]
  clear w1 w2
  rw [f64_Join.j2]
  rw [if_neg (by decide)]
  have w3 : wrap64 (53 - (bitsN (m : Int) - z)) = 53 - bitsN (m : Int) + z := by rw [w64_of (by omega) (by omega)]; omega
  have w4 : wrap64 ((s : Int) - 1074 + z + 1074) = (s : Int) + z := by rw [w64_of (by omega) (by omega)]; omega
  have e5 : mn (53 - bitsN (m : Int) + z) ((s : Int) + z) = (z : Int) := by
   unfold mn
   clear w3 w4
   by_cases hs0 : s = 0
   ·split <;> omega
   ·have := b3 hs0
    split <;> omega
  rw [w3, w4, e5]
  clear w3 w4 e5
  have hshl : shl .u64 (o : Int) (z : Int) = (m : Int) := by
   have := shl_nat o z (by omega) (by rw [← he]; omega)
   rwa [← he] at this
  rw [if_pos (by omega), hshl]
  by_cases hh : m < 4503599627370496
  ·obtain rfl : s = 0 := by omega
   rw [if_pos (by omega), or_sgn neg (by omega) (by omega)]
   simp
  ·rw [if_neg (by omega)]
   have w6 : wrap64 ((s : Int) - 1074 + z - z) = (s : Int) - 1074 := by rw [w64_of (by omega) (by omega)]; omega
   have w7 : wrap64 ((s : Int) - 1074 + 1075) = (s : Int) + 1 := by rw [w64_of (by omega) (by omega)]; omega
   rw [w6, w7]
   clear w6 w7
   rw [u64w_of (x := (s : Int) + 1) (by omega) (by omega), u64w_of (x := ((s : Int) + 1) * 4503599627370496) (by omega) (by omega)]
   rw [and_mask (x := (m : Int)) (by omega) (by omega) 52 (by decide) 4503599627370495 (by decide), show (2 : Int) ^ 52 = 4503599627370496 from by decide, or_sgn neg (by omega) (by omega)]
   have hm2 : (m : Int) % 4503599627370496 = (m : Int) - 4503599627370496 := by omega
   rw [hm2]
   rw [or_join (x := sgn neg + ((s : Int) + 1) * 4503599627370496) 52 (by unfold sgn; split <;> omega) (by unfold sgn; split <;> omega) (by rw [show (2 : Int) ^ 52 = 4503599627370496 from by decide]; unfold sgn; split <;> omega) (by omega) (by rw [show (2 : Int) ^ 52 = 4503599627370496 from by decide]; omega) (by omega)]
   congr 2
   omega
def upB (mode : Int) (neg odd : Bool) (t : Nat) : Bool :=
 if mode = 0 then (t == 3 || (t == 2 && odd)) else if mode = 1 then false else if mode = 2 then t != 0 else if mode = 3 then (!neg && t != 0) else (neg && t != 0)
def staysB (mode : Int) (neg : Bool) : Bool := if mode = 1 then true else if mode = 3 then neg else if mode = 4 then !neg else false
def outP (mode : Int) (neg : Bool) (d : Nat) : Int × Int :=
 if 9218868437227405311 < d then (if staysB mode neg then (sgn neg + 9218868437227405311, 0) else (0, 70)) else (sgn neg + (d : Int), 0)
def RS (mode : Int) (neg : Bool) (d t : Nat) : Int × Int := outP mode neg (if upB mode neg (d % 2 == 1) t then d + 1 else d)
def flo (m : Nat) (e : Int) (st : Bool) : Nat × Nat :=
 if m = 0 then (0, if st then 1 else 0)
 else
  if 1 ≤ ((e + 1074 + bitsN (m : Int) - 53).toNat : Int) - (e + 1074) then
   ((e + 1074 + bitsN (m : Int) - 53).toNat * 4503599627370496 + m / 2 ^ (((e + 1074 + bitsN (m : Int) - 53).toNat : Int) - (e + 1074)).toNat,
    tailOf (m % 2 ^ (((e + 1074 + bitsN (m : Int) - 53).toNat : Int) - (e + 1074)).toNat) (((e + 1074 + bitsN (m : Int) - 53).toNat : Int) - (e + 1074)).toNat st)
  else ((e + 1074 + bitsN (m : Int) - 53).toNat * 4503599627370496 + m * 2 ^ (e + 1074 - ((e + 1074 + bitsN (m : Int) - 53).toNat : Int)).toNat, if st then 1 else 0)
theorem bits_bounds {m : Nat} (h : 0 < m) : ∃ L : Nat, bitsN (m : Int) = L + 1 ∧ 2 ^ L ≤ m ∧ m < 2 ^ (L + 1) := by
 have hb := bitsN_pos (x := (m : Int)) (by omega)
 obtain ⟨L, hL⟩ : ∃ n : Nat, bitsN (m : Int) = n + 1 := ⟨(bitsN (m : Int) - 1).toNat, by omega⟩
 have h1 := (bitsN_iff (by omega) L).1 hL
 rw [p2cast, p2cast] at h1
 exact ⟨L, hL, Int.ofNat_le.1 h1.1, Int.ofNat_lt.1 h1.2⟩
theorem flo_q {m L s j : Nat} (h1 : 2 ^ L ≤ m) (h2 : m < 2 ^ (L + 1)) (hj : L + 1 ≤ 53 + j) (hs : s = 0 ∨ L + 1 = 53 + j) : m / 2 ^ j < 9007199254740992 ∧ (s = 0 ∨ 4503599627370496 ≤ m / 2 ^ j) := by
 have hp : 0 < 2 ^ j := Nat.pow_pos (by decide)
 constructor
 ·rw [Nat.div_lt_iff_lt_mul hp, show (9007199254740992 : Nat) = 2 ^ 53 from by decide, ← Nat.pow_add]
  exact Nat.lt_of_lt_of_le h2 (Nat.pow_le_pow_right (by decide) hj)
 ·rcases hs with h | h
  ·exact .inl h
  ·refine .inr ?_
   rw [Nat.le_div_iff_mul_le hp, show (4503599627370496 : Nat) = 2 ^ 52 from by decide, ← Nat.pow_add, show 52 + j = L from by omega]
   exact h1
theorem flo_p {m L s j : Nat} (h1 : 2 ^ L ≤ m) (h2 : m < 2 ^ (L + 1)) (hj : L + 1 + j ≤ 53) (hs : s = 0 ∨ L + 1 + j = 53) : m * 2 ^ j < 9007199254740992 ∧ (s = 0 ∨ 4503599627370496 ≤ m * 2 ^ j) := by
 have hp : 0 < 2 ^ j := Nat.pow_pos (by decide)
 constructor
 ·have h3 : m * 2 ^ j < 2 ^ (L + 1) * 2 ^ j := Nat.mul_lt_mul_of_pos_right h2 hp
  rw [← Nat.pow_add] at h3
  rw [show (9007199254740992 : Nat) = 2 ^ 53 from by decide]
  exact Nat.lt_of_lt_of_le h3 (Nat.pow_le_pow_right (by decide) hj)
 ·rcases hs with h | h
  ·exact .inl h
  ·refine .inr ?_
   have h3 : 2 ^ L * 2 ^ j ≤ m * 2 ^ j := Nat.mul_le_mul_right _ h1
   rw [← Nat.pow_add] at h3
   rw [show (4503599627370496 : Nat) = 2 ^ 52 from by decide, show 52 = L + j from by omega]
   exact h3
theorem near_way.f_eq (mode : Int) (neg odd : Bool) (t : Nat) : near_way.f mode neg odd (t : Int) = some (upB mode neg odd t) := by
 have b3 : ((t : Int) = 3) ↔ t = 3 := by omega
 have b2 : ((t : Int) = 2) ↔ t = 2 := by omega
 have b0 : ((t : Int) = 0) ↔ t = 0 := by omega
 unfold near_way.f upB near_wayC1.f near_wayC2.f near_wayC3.f near_wayC4.f near_wayC5.f
 by_cases c0 : mode = 0
 ·rw [if_pos c0, if_pos c0]
  by_cases c3 : t = 3
  ·rw [if_pos (b3.2 c3), Option.bind_some]; simp [c3]
  ·rw [if_neg (fun h => c3 (b3.1 h))]
   by_cases c2 : t = 2
   ·rw [if_pos (b2.2 c2), Option.bind_some]; simp [c2]
   ·rw [if_neg (fun h => c2 (b2.1 h)), Option.bind_some]; simp [c3, c2]
 ·rw [if_neg c0, if_neg c0]
  by_cases c1 : mode = 1
  ·rw [if_pos c1, if_pos c1]; rfl
  ·rw [if_neg c1, if_neg c1]
   have hne : ((t : Int) != 0) = (t != 0) := by rw [Bool.eq_iff_iff]; simp
   by_cases c2 : mode = 2
   ·rw [if_pos c2, if_pos c2, Option.bind_some, hne]
   ·rw [if_neg c2, if_neg c2]
    by_cases c3 : mode = 3
    ·rw [if_pos c3, if_pos c3]; cases neg <;> simp [hne]
    ·rw [if_neg c3, if_neg c3]; cases neg <;> simp [hne]
theorem near_stays.f_eq {mode : Int} (h0 : 0 ≤ mode) (h4 : mode ≤ 4) (neg : Bool) : near_stays.f mode (if neg then 1 else 0) = some (staysB mode neg) := by
 have : mode = 0 ∨ mode = 1 ∨ mode = 2 ∨ mode = 3 ∨ mode = 4 := by omega
 rcases this with h | h | h | h | h <;> subst h <;> cases neg <;> rfl
theorem near_finish.j7_eq (neg : Bool) (mode : Int) (h0 : 0 ≤ mode) (h4 : mode ≤ 4) (m s : Nat) (hm : m < 9007199254740992) (hs : s = 0 ∨ 4503599627370496 ≤ m) (hsb : s ≤ 4398046511104) (k : Nat) (hk : 20 ≤ k) :
  near_finish.j7 (k + 1) neg (m : Int) mode (sgn neg) (if neg then 1 else 0) ((s : Int) - 1074) = some (outP mode neg (s * 4503599627370496 + m)) := by
 rw [near_finish.j7]
 unfold outP
 by_cases hbig : 971 < (s : Int) - 1074
 ·have hb : 9218868437227405311 < s * 4503599627370496 + m := by omega
  rw [if_pos hbig, near_stays.f_eq h0 h4 neg, Option.bind_some, if_pos hb]
  cases hst : staysB mode neg
  ·rw [if_neg (by decide), if_neg (by decide)]
  ·rw [if_pos rfl, if_pos rfl, or_sgn neg (by decide) (by decide)]
 ·rw [if_neg hbig, f64_Join.f_eq neg m s hm hs (by omega) k hk, Option.bind_some, if_neg (by omega)]
theorem near_finish.j6_eq (neg : Bool) (mode : Int) (h0 : 0 ≤ mode) (h4 : mode ≤ 4) (m s : Nat) (hm : m ≤ 9007199254740992) (hs : s = 0 ∨ 4503599627370496 ≤ m) (hsb : s ≤ 4398046511103) (k : Nat) (hk : 20 ≤ k) :
  near_finish.j6 (k + 2) neg (m : Int) mode (sgn neg) (if neg then 1 else 0) ((s : Int) - 1074) = some (outP mode neg (s * 4503599627370496 + m)) := by
 rw [near_finish.j6]
 by_cases he : m = 9007199254740992
 ·have w1 : wrap64 ((s : Int) - 1074 + 1) = ((s + 1 : Nat) : Int) - 1074 := by rw [w64_of (by omega) (by omega)]; omega
  have r := near_finish.j7_eq neg mode h0 h4 4503599627370496 (s + 1) (by omega) (.inr (Nat.le_refl _)) (by omega) k hk
  rw [if_pos (by omega), w1]
  rw [show (s + 1) * 4503599627370496 + 4503599627370496 = s * 4503599627370496 + m from by omega] at r
  exact r
 ·rw [if_neg (by omega)]
  exact near_finish.j7_eq neg mode h0 h4 m s (by omega) hs (by omega) k hk
theorem near_finish.j5_eq (neg : Bool) (mode : Int) (h0 : 0 ≤ mode) (h4 : mode ≤ 4) (m s t : Nat) (hm : m < 9007199254740992) (hs : s = 0 ∨ 4503599627370496 ≤ m) (hsb : s ≤ 4398046511103) (k : Nat) (hk : 20 ≤ k) :
  near_finish.j5 (k + 3) neg (m : Int) mode (sgn neg) (if neg then 1 else 0) ((s : Int) - 1074) (t : Int) = some (RS mode neg (s * 4503599627370496 + m) t) := by
 rw [near_finish.j5]
 have eo : ((Go.bits .and .u64 (m : Int) 1) == 1) = ((s * 4503599627370496 + m) % 2 == 1) := by
  rw [show Go.bits .and .u64 (m : Int) 1 = (m : Int) % 2 from and_mask (by omega) (by omega) 1 (by omega) _ rfl, Bool.eq_iff_iff, beq_iff_eq, beq_iff_eq]
  omega
 rw [near_way.f_eq, Option.bind_some, eo]
 unfold RS
 by_cases hu : upB mode neg ((s * 4503599627370496 + m) % 2 == 1) t = true
 ·rw [if_pos hu, if_pos hu, u64w_of (by omega) (by omega)]
  have r := near_finish.j6_eq neg mode h0 h4 (m + 1) s (by omega) (by omega) hsb k hk
  have e : s * 4503599627370496 + (m + 1) = s * 4503599627370496 + m + 1 := by omega
  have ec : ((m + 1 : Nat) : Int) = (m : Int) + 1 := by omega
  rw [e, ec] at r
  exact r
 ·rw [if_neg hu, if_neg hu]
  exact near_finish.j6_eq neg mode h0 h4 m s (by omega) hs hsb k hk
def bump (t : Nat) (st : Bool) : Nat := if st then (if t = 0 then 1 else if t = 2 then 3 else t) else t
theorem near_finish.j3_eq (neg : Bool) (mode : Int) (h0 : 0 ≤ mode) (h4 : mode ≤ 4) (m s t : Nat) (st : Bool) (hm : m < 9007199254740992) (hs : s = 0 ∨ 4503599627370496 ≤ m) (hsb : s ≤ 4398046511103) (ht : t ≤ 3) (k : Nat) (hk : 20 ≤ k) :
  near_finish.j3 (k + 5) neg (m : Int) st mode (sgn neg) (if neg then 1 else 0) ((s : Int) - 1074) (t : Int) = some (RS mode neg (s * 4503599627370496 + m) (bump t st)) := by
 have a4 : ∀ b : Bool, near_finish.j4 (k + 4) neg (m : Int) mode (sgn neg) (if neg then 1 else 0) ((s : Int) - 1074) (t : Int) b = some (RS mode neg (s * 4503599627370496 + m) (if b then t + 1 else t)) := by
  intro b
  rw [near_finish.j4]
  cases b
  ·rw [if_neg (by decide)]
   exact near_finish.j5_eq neg mode h0 h4 m s t hm hs hsb k hk
  ·have w1 : wrap64 ((t : Int) + 1) = ((t + 1 : Nat) : Int) := by rw [w64_of (by omega) (by omega)]; omega
   rw [if_pos rfl, w1]
   exact near_finish.j5_eq neg mode h0 h4 m s (t + 1) hm hs hsb k hk
 rw [near_finish.j3]
 unfold bump
 cases st
 ·rw [if_neg (by decide), a4]; rfl
 ·rw [if_pos rfl]
  by_cases t0 : t = 0
  ·rw [if_pos (by omega), a4, t0]; rfl
  ·rw [if_neg (by omega), a4]
   by_cases t2 : t = 2
   ·subst t2; rfl
   ·have : ((t : Int) == 2) = false := beq_eq_false_iff_ne.2 (by omega)
    rw [this]
    simp [t0, t2]
theorem bump_tail (r k : Nat) (st : Bool) : bump (tailOf r k false) st = tailOf r k st := by
 unfold bump tailOf
 cases st
 ·simp
 ·by_cases h0 : r = 0
  ·simp [h0]
  ·by_cases h1 : 2 * r < 2 ^ k
   ·simp [h0, h1]
   ·by_cases h2 : 2 * r = 2 ^ k
    ·simp [h0, h2]
    ·simp [h0, h1, h2]
theorem flo_Rd {P Q m : Nat} {e : Int} {more st : Bool} (hQ : 0 < Q) (hm : 0 < m) (h1 : m * 2 ^ (e + 1074).toNat * Q ≤ P * 2 ^ (-(e + 1074)).toNat) (h2 : P * 2 ^ (-(e + 1074)).toNat < (m + 1) * 2 ^ (e + 1074).toNat * Q)
  (hst : st = true ↔ (P * 2 ^ (-(e + 1074)).toNat ≠ m * 2 ^ (e + 1074).toNat * Q ∨ more = true)) (hx : P * 2 ^ (-(e + 1074)).toNat = m * 2 ^ (e + 1074).toNat * Q ∨ 9007199254740992 ≤ m) :
  Rd P Q (flo m e st).1 ∧ tl P Q more (flo m e st).1 = (flo m e st).2 := by
 obtain ⟨L, hL, hb1, hb2⟩ := bits_bounds hm
 unfold flo
 rw [if_neg (by omega), hL]
 generalize hs : (e + 1074 + ((L : Int) + 1) - 53).toNat = s at *
 by_cases hc : 1 ≤ (s : Int) - (e + 1074)
 ·obtain ⟨j, hj⟩ : ∃ j : Nat, (s : Int) - (e + 1074) = (j : Int) := ⟨((s : Int) - (e + 1074)).toNat, by omega⟩
  obtain ⟨q1, q2⟩ := flo_q (s := s) (j := j) hb1 hb2 (by omega) (by omega)
  rw [if_pos hc, hj, Int.toNat_natCast]
  exact Rd.of_div hQ (by omega) (by omega) h1 h2 hst q1 q2
 ·have hex : P * 2 ^ (-(e + 1074)).toNat = m * 2 ^ (e + 1074).toNat * Q := by
   rcases hx with h | h
   ·exact h
   ·exfalso
    have h3 : 2 ^ 53 < 2 ^ (L + 1) := Nat.lt_of_le_of_lt h hb2
    have h4 := (Nat.pow_lt_pow_iff_right (a := 2) (by decide)).1 h3
    omega
  have e0 : (-(e + 1074)).toNat = 0 := by omega
  obtain ⟨j, hj⟩ : ∃ j : Nat, e + 1074 - (s : Int) = (j : Int) := ⟨(e + 1074 - (s : Int)).toNat, by omega⟩
  obtain ⟨q1, q2⟩ := flo_p (s := s) (j := j) hb1 hb2 (by omega) (by omega)
  rw [if_neg hc, hj, Int.toNat_natCast]
  obtain ⟨eV, eU⟩ := pV_at q1 q2
  have ep : (e + 1074).toNat = j + s := by omega
  rw [e0, Nat.pow_zero, Nat.mul_one, ep, Nat.pow_add, ← Nat.mul_assoc, ← eV] at hex
  have hst2 : st = more := by
   rw [e0, Nat.pow_zero, Nat.mul_one, ep, Nat.pow_add, ← Nat.mul_assoc, ← eV] at hst
   exact Bool.eq_iff_iff.2 ⟨fun z => (hst.1 z).resolve_left (fun y => y hex), fun z => hst.2 (.inr z)⟩
  refine ⟨⟨Nat.le_of_eq hex.symm, ?_⟩, ?_⟩
  ·rw [hex]
   exact Nat.mul_lt_mul_of_pos_right (pV_lt_succ _) hQ
  ·show tl P Q more (s * 4503599627370496 + m * 2 ^ j) = if st = true then 1 else 0
   unfold tl
   rw [if_pos hex, hst2]
theorem flo_exact {m : Nat} (hm : 0 < m) (e : Int) (st : Bool) : Rd (m * 2 ^ (e + 1074).toNat) (2 ^ (-(e + 1074)).toNat) (flo m e st).1 ∧ tl (m * 2 ^ (e + 1074).toNat) (2 ^ (-(e + 1074)).toNat) st (flo m e st).1 = (flo m e st).2 := by
 have hb : 0 < 2 ^ (-(e + 1074)).toNat := Nat.pow_pos (by decide)
 have ha : 0 < 2 ^ (e + 1074).toNat := Nat.pow_pos (by decide)
 refine flo_Rd hb hm (Nat.le_refl _) ?_ ?_ (.inl rfl)
 ·exact Nat.mul_lt_mul_of_pos_right (Nat.mul_lt_mul_of_pos_right (Nat.lt_succ_self m) ha) hb
 ·simp
theorem Rd.scale {P Q d c : Nat} (hc : 0 < c) : Rd (P * c) (Q * c) d ↔ Rd P Q d := by
 constructor
 ·rintro ⟨h1, h2⟩
  exact ⟨Nat.le_of_mul_le_mul_right (by rw [Nat.mul_assoc]; exact h1) hc, Nat.lt_of_mul_lt_mul_right (a := c) (by rw [Nat.mul_assoc]; exact h2)⟩
 ·rintro ⟨h1, h2⟩
  refine ⟨?_, ?_⟩
  ·rw [← Nat.mul_assoc]; exact Nat.mul_le_mul_right c h1
  ·rw [← Nat.mul_assoc]; exact Nat.mul_lt_mul_of_pos_right h2 hc
theorem tl_scale {P Q c : Nat} (hc : 0 < c) (more : Bool) (d : Nat) : tl (P * c) (Q * c) more d = tl P Q more d := by
 have e1 : (P * c = pV d * (Q * c)) = (P = pV d * Q) := propext (by
  rw [← Nat.mul_assoc]; exact ⟨fun h => Nat.eq_of_mul_eq_mul_right hc h, fun h => by rw [h]⟩)
 have e2 : (2 * (P * c) < (2 * pV d + pU d) * (Q * c)) = (2 * P < (2 * pV d + pU d) * Q) := propext (by
  rw [← Nat.mul_assoc, ← Nat.mul_assoc]; exact ⟨fun h => Nat.lt_of_mul_lt_mul_right h, fun h => Nat.mul_lt_mul_of_pos_right h hc⟩)
 have e3 : (2 * (P * c) = (2 * pV d + pU d) * (Q * c)) = (2 * P = (2 * pV d + pU d) * Q) := propext (by
  rw [← Nat.mul_assoc, ← Nat.mul_assoc]; exact ⟨fun h => Nat.eq_of_mul_eq_mul_right hc h, fun h => by rw [h]⟩)
 unfold tl
 simp only [e1, e2, e3]
theorem Rd.cross {P Q P' Q' d : Nat} (hQ : 0 < Q) (hQ' : 0 < Q') (e : P * Q' = P' * Q) (h : Rd P Q d) : Rd P' Q' d := by
 have h1 := (Rd.scale (c := Q') hQ').2 h
 rw [e, Nat.mul_comm Q Q'] at h1
 exact (Rd.scale hQ).1 h1
theorem tl_cross {P Q P' Q' : Nat} (hQ : 0 < Q) (hQ' : 0 < Q') (e : P * Q' = P' * Q) (more : Bool) (d : Nat) : tl P Q more d = tl P' Q' more d := by
 rw [← tl_scale hQ', e, Nat.mul_comm Q Q', tl_scale hQ]
theorem tl_le (P Q : Nat) (more : Bool) (d : Nat) : tl P Q more d ≤ 3 := by
 unfold tl
 split
 ·split <;> decide
 ·split
  ·decide
  ·split
   ·split <;> decide
   ·decide
theorem Rd.mono {P Q P' Q' d d' : Nat} (hQ : 0 < Q) (hQ' : 0 < Q') (h : Rd P Q d) (h' : Rd P' Q' d') (le : P * Q' ≤ P' * Q) : d < d' ∨ (d = d' ∧ tl P Q false d ≤ tl P' Q' false d') := by
 have h1 := (Rd.scale (c := Q') hQ').2 h
 have h2 := (Rd.scale (c := Q) hQ).2 h'
 rw [Nat.mul_comm Q' Q] at h2
 rw [← tl_scale (P := P) hQ', ← tl_scale (P := P') hQ, Nat.mul_comm Q' Q]
 have hD : 0 < Q * Q' := Nat.mul_pos hQ hQ'
 generalize P * Q' = A at *
 generalize P' * Q = B at *
 generalize Q * Q' = D at *
 by_cases hlt : d < d'
 ·exact .inl hlt
 ·have hd : d ≤ d' := (h2.le_iff d).1 (Nat.le_trans h1.lo le)
  obtain rfl : d = d' := by omega
  refine .inr ⟨rfl, ?_⟩
  have hl := h1.lo
  have hu : 1 * 1 ≤ pU d * D := Nat.mul_le_mul (pU_pos d) hD
  have ey : (2 * pV d + pU d) * D = 2 * (pV d * D) + pU d * D := by rw [Nat.add_mul, Nat.mul_assoc]
  unfold tl
  rw [ey]
  generalize pV d * D = x at *
  generalize pU d * D = y at *
  clear h1 h2 h h'
  by_cases a1 : A = x
  ·rw [if_pos a1]
   exact Nat.zero_le _
  ·rw [if_neg a1, if_neg (show ¬ B = x by omega)]
   by_cases a2 : 2 * A < 2 * x + y
   ·rw [if_pos a2]
    by_cases b2 : 2 * B < 2 * x + y
    ·rw [if_pos b2]; exact Nat.le_refl _
    ·rw [if_neg b2]
     split <;> decide
   ·rw [if_neg a2, if_neg (show ¬ 2 * B < 2 * x + y by omega)]
    by_cases a3 : 2 * A = 2 * x + y
    ·rw [if_pos a3]
     by_cases b3 : 2 * B = 2 * x + y
     ·rw [if_pos b3]; exact Nat.le_refl _
     ·rw [if_neg b3]; decide
    ·rw [if_neg a3, if_neg (show ¬ 2 * B = 2 * x + y by omega)]
     exact Nat.le_refl _
def rn (d t : Nat) : Nat := if upB 0 false (d % 2 == 1) t then d + 1 else d
theorem upB_even (odd : Bool) (t : Nat) : upB 0 false odd t = (t == 3 || (t == 2 && odd)) := rfl
theorem rn_mono {d t d' t' : Nat} (ht : t' ≤ 3) (h : d < d' ∨ (d = d' ∧ t ≤ t')) : rn d t ≤ rn d' t' := by
 unfold rn
 rw [upB_even, upB_even]
 rcases h with h | ⟨rfl, h⟩
 ·split <;> split <;> omega
 ·by_cases a : t = 3
  ·obtain rfl : t' = 3 := by omega
   subst a
   exact Nat.le_refl _
  ·have a3 : (t == 3) = false := beq_eq_false_iff_ne.2 a
   by_cases b : t = 2
   ·subst b
    have : t' = 2 ∨ t' = 3 := by omega
    rcases this with rfl | rfl
    ·exact Nat.le_refl _
    ·rw [if_pos (show ((3 : Nat) == 3 || ((3 : Nat) == 2 && d % 2 == 1)) = true from rfl)]
     split <;> omega
   ·have b3 : (t == 2) = false := beq_eq_false_iff_ne.2 b
    rw [a3, b3, if_neg (by simp)]
    split <;> omega
def Rnd (P Q z : Nat) : Prop := ∃ d, Rd P Q d ∧ z = rn d (tl P Q false d)
theorem Rnd.mono {P Q P' Q' z z' : Nat} (hQ : 0 < Q) (hQ' : 0 < Q') (h : Rnd P Q z) (h' : Rnd P' Q' z') (le : P * Q' ≤ P' * Q) : z ≤ z' := by
 obtain ⟨d, h1, rfl⟩ := h
 obtain ⟨d', h2, rfl⟩ := h'
 exact rn_mono (tl_le _ _ _ _) (Rd.mono hQ hQ' h1 h2 le)
theorem Rnd.uniq {P Q P' Q' z z' : Nat} (hQ : 0 < Q) (hQ' : 0 < Q') (h : Rnd P Q z) (h' : Rnd P' Q' z') (e : P * Q' = P' * Q) : z = z' :=
 Nat.le_antisymm (h.mono hQ hQ' h' (Nat.le_of_eq e)) (h'.mono hQ' hQ h (Nat.le_of_eq e.symm))
theorem Rnd.cross {P Q P' Q' z : Nat} (hQ : 0 < Q) (hQ' : 0 < Q') (e : P * Q' = P' * Q) (h : Rnd P Q z) : Rnd P' Q' z := by
 obtain ⟨d, h1, rfl⟩ := h
 exact ⟨d, h1.cross hQ hQ' e, by rw [tl_cross hQ hQ' e]⟩
theorem Rnd.flo {m : Nat} (hm : 0 < m) (e : Int) : Rnd (m * 2 ^ (e + 1074).toNat) (2 ^ (-(e + 1074)).toNat) (rn (PA.flo m e false).1 (PA.flo m e false).2) := by
 obtain ⟨h1, h2⟩ := flo_exact hm e false
 exact ⟨_, h1, by rw [h2]⟩
def uN : Nat := 1074
theorem uN_eq : uN = 1074 := rfl
theorem pV_pow (n : Nat) : pV (n * 4503599627370496 + 4503599627370496) = 2 ^ (52 + n) := by
 rw [(pV_at (s := n) (q := 4503599627370496) (by decide) (.inr (Nat.le_refl _))).1, show (4503599627370496 : Nat) = 2 ^ 52 from by decide, ← Nat.pow_add]
theorem and_top_nat {z : Nat} (hz : z < 9223372036854775808) : z &&& 9223372036854775808 = 0 := by
 rw [show (9223372036854775808 : Nat) = 2 ^ 63 from by decide]
 apply Nat.eq_of_testBit_eq
 intro i
 rw [Nat.testBit_and, Nat.testBit_two_pow, Nat.zero_testBit]
 by_cases h : 63 = i
 ·subst h
  rw [Nat.testBit_lt_two_pow (by rw [show (2 : Nat) ^ 63 = 9223372036854775808 from by decide]; omega)]
  rfl
 ·rw [decide_eq_false h, Bool.and_false]
theorem and_sgn (neg : Bool) {z : Nat} (hz : z < 9223372036854775808) : (Go.bits .and .u64 (sgn neg + (z : Int)) 9223372036854775808 != 0) = neg := by
 cases neg
 ·have h := u64_and_nat z 9223372036854775808 (by omega) (by decide)
  rw [and_top_nat hz] at h
  have e : sgn false + (z : Int) = (z : Int) := by show (0 : Int) + (z : Int) = _; omega
  have h' : Go.bits .and .u64 (sgn false + (z : Int)) 9223372036854775808 = 0 := by rw [e]; exact h
  rw [h']
  rfl
 ·have h := u64_and_nat (z + 9223372036854775808) 9223372036854775808 (by omega) (by decide)
  have e : sgn true + (z : Int) = ((z + 9223372036854775808 : Nat) : Int) := by show (9223372036854775808 : Int) + (z : Int) = _; omega
  have e2 : (z + 9223372036854775808) &&& 9223372036854775808 = 9223372036854775808 := by
   rw [show (9223372036854775808 : Nat) = 2 ^ 63 from by decide]
   apply Nat.eq_of_testBit_eq
   intro i
   rw [Nat.testBit_and, Nat.testBit_two_pow]
   by_cases h : 63 = i
   ·subst h
    rw [Nat.add_comm, Nat.testBit_two_pow_add_eq, Nat.testBit_lt_two_pow (by rw [show (2 : Nat) ^ 63 = 9223372036854775808 from by decide]; omega)]
    rfl
   ·rw [decide_eq_false h, Bool.and_false]
  rw [e2] at h
  have h' : Go.bits .and .u64 (sgn true + (z : Int)) 9223372036854775808 = 9223372036854775808 := by rw [e]; exact h
  rw [h']
  rfl
theorem f64_fields.f_eq (neg : Bool) {z : Nat} (hz : z < 9223372036854775808) : f64_fields.f (sgn neg + (z : Int)) = some (((z / 4503599627370496 : Nat) : Int), ((z % 4503599627370496 : Nat) : Int)) := by
 have hs : sgn neg = 0 ∨ sgn neg = 9223372036854775808 := by cases neg <;> simp [sgn]
 have e1 : Go.bits .and .u64 (sgn neg + (z : Int)) 4503599627370495 = ((z % 4503599627370496 : Nat) : Int) := by
  rw [show Go.bits .and .u64 (sgn neg + (z : Int)) 4503599627370495 = (sgn neg + (z : Int)) % 2 ^ 52 from and_mask (by omega) (by omega) 52 (by omega) _ rfl, show (2 : Int) ^ 52 = 4503599627370496 from by decide]; omega
 have e2 : Go.bits .and .u64 ((sgn neg + (z : Int)) / 4503599627370496) 2047 = ((z / 4503599627370496 : Nat) : Int) := by
  rw [show Go.bits .and .u64 ((sgn neg + (z : Int)) / 4503599627370496) 2047 = ((sgn neg + (z : Int)) / 4503599627370496) % 2 ^ 11 from and_mask (by omega) (by omega) 11 (by omega) _ rfl, show (2 : Int) ^ 11 = 2048 from by decide]; omega
 rw [f64_fields.f, e1, e2, w64_of (by omega) (by omega)]
theorem f64_Class.f_eq (neg : Bool) {z : Nat} (hz : z < 9218868437227405312) (k : Nat) (hk : 1 ≤ k) : f64_Class.f k (sgn neg + (z : Int)) = some (if z = 0 then 0 else if z < 4503599627370496 then 1 else 2) := by
 obtain ⟨k, rfl⟩ : ∃ j, k = j + 1 := ⟨k - 1, by omega⟩
 rw [f64_Class.f, f64_fields.f_eq neg (by omega), Option.bind_some]
 show (if ((z / 4503599627370496 : Nat) : Int) = 0 then f64_Class.j0 (k + 1) ((z / 4503599627370496 : Nat) : Int) ((z % 4503599627370496 : Nat) : Int) (((z % 4503599627370496 : Nat) : Int) == 0) else f64_Class.j0 (k + 1) ((z / 4503599627370496 : Nat) : Int) ((z % 4503599627370496 : Nat) : Int) false) = _
 by_cases h : z < 4503599627370496
 ·rw [Nat.div_eq_of_lt h, Nat.mod_eq_of_lt h, if_pos (show ((0 : Nat) : Int) = 0 from rfl), f64_Class.j0]
  by_cases h0 : z = 0
  ·subst h0
   rfl
  ·rw [if_neg (by intro e; have := beq_iff_eq.1 e; omega), if_pos (show ((0 : Nat) : Int) = 0 from rfl), if_neg h0, if_pos h]
 ·rw [if_neg (show ¬ ((z / 4503599627370496 : Nat) : Int) = 0 by omega), f64_Class.j0, if_neg (by decide), if_neg (by omega), if_pos (by omega), if_neg (by omega), if_neg h]
theorem f64_Split.f_eq (neg : Bool) {z : Nat} (hz : z < 9218868437227405312) (k : Nat) (hk : 1 ≤ k) : f64_Split.f k (sgn neg + (z : Int)) = some (neg, (pM z : Int), (pS z : Int) - 1074, 0) := by
 have hc := f64_Class.f_eq neg hz k hk
 rw [f64_Split.f, f64_fields.f_eq neg (by omega), Option.bind_some, hc, Option.bind_some, and_sgn neg (by omega)]
 by_cases h : z < 4503599627370496
 ·have e1 : pM z = z := by unfold pM; rw [if_pos h]
  have e2 : pS z = 0 := by unfold pS; omega
  have e3 : z % 4503599627370496 = z := Nat.mod_eq_of_lt h
  rw [e1, e2]
  by_cases h0 : z = 0
  ·rw [if_pos h0, if_pos rfl, e3]; rfl
  ·rw [if_neg h0, if_pos h, if_neg (by decide), if_pos rfl, e3]; rfl
 ·have eo : Go.bits .or .u64 4503599627370496 ((z % 4503599627370496 : Nat) : Int) = ((4503599627370496 + z % 4503599627370496 : Nat) : Int) := by
   rw [or_join 52 (by decide) (by decide) (by decide) (by omega) (by rw [show (2 : Int) ^ 52 = 4503599627370496 from by decide]; omega) (by omega)]; omega
  rw [if_neg (show ¬ z = 0 by omega), if_neg h, if_neg (by decide), if_neg (by decide), if_pos rfl]
  show some (neg, Go.bits .or .u64 4503599627370496 ((z % 4503599627370496 : Nat) : Int), wrap64 (((z / 4503599627370496 : Nat) : Int) - 1075), (0 : Int)) = _
  rw [eo, w64_of (by omega) (by omega)]
  unfold pM pS
  rw [if_neg h]
  congr 3
  congr 1
  omega
theorem pV_top (N : Nat) (hN : N = 2098) {z : Nat} (hz : z ≤ 9218868437227405312) : pV z ≤ 2 ^ N := by
 have h := pV_le hz
 obtain ⟨n, hn⟩ : ∃ n : Nat, n = 2046 := ⟨_, rfl⟩
 have e := pV_pow n
 rw [show n * 4503599627370496 + 4503599627370496 = 9218868437227405312 from by rw [hn]] at e
 rw [e] at h
 rw [show N = 52 + n from by omega]
 exact h
theorem sgz_nat (neg : Bool) (X Y : Nat) : sg neg (X * Y) = sg neg X * (Y : Int) := (sg_mul neg X Y).symm
theorem whole_ok (neg : Bool) (m n : Nat) (hm : m < 18446744073709551616) (hn : n ≤ 3000) (k : Nat) (hk : 20000000 < k) :
  plumblaw07_whole.f k neg (m : Int) (n : Int) = some (rzv (sg neg (m * 2 ^ n)) 1) := by
 obtain ⟨c, hc⟩ : ∃ c : Nat, c = 262144 := ⟨_, rfl⟩
 have w1 : Ws [(1 : Int)] := Ws.cons (by decide) (by decide) Ws.nil
 have wm : Ws [(m : Int)] := Ws.cons (by omega) (by omega) Ws.nil
 have vm : nv [(m : Int)] = (m : Int) := by simp [nv]
 have hb : m * 2 ^ n < 2 ^ (64 + n) := by
  rw [Nat.pow_add]
  exact Nat.mul_lt_mul_of_pos_right (by rw [show (2 : Nat) ^ 64 = 18446744073709551616 from by decide]; exact hm) (Nat.pow_pos (by decide))
 obtain ⟨s, s1, s2, s3, s4⟩ := shl_ok [(m : Int)] wm (Nat.le_of_ble_eq_true rfl) m n vm (by omega) hb c hc (by omega) k (by omega)
 have l1 : [(1 : Int)].length ≤ 4096 := Nat.le_of_ble_eq_true rfl
 rw [plumblaw07_whole.f, s1, Option.bind_some]
 show (rat_New.f k neg s [1]).bind _ = _
 rw [rat_New.rz neg s [1] s2 w1 (by omega) l1 (m * 2 ^ n) 1 s3 rfl (by decide) k (by omega), Option.bind_some]
theorem value_ok (neg : Bool) {z : Nat} (hz : z < 9218868437227405312) (k : Nat) (hk : 2 ^ uN + 30000000 < k) :
  plumblaw07_value.f k (sgn neg + (z : Int)) = some ((rzv (sg neg (pV z)) (2 ^ uN)).1, (rzv (sg neg (pV z)) (2 ^ uN)).2.1, (rzv (sg neg (pV z)) (2 ^ uN)).2.2, true) := by
 have hu := uN_eq
 have hm := pM_lt z
 have hS : pS z ≤ 2045 := by unfold pS; omega
 have hU1 : 0 < 2 ^ uN := Nat.pow_pos (by decide)
 have hU : 2 ^ uN ≠ 0 := Nat.ne_of_gt hU1
 rw [plumblaw07_value.f, f64_Split.f_eq neg hz k (by omega), Option.bind_some, plumblaw07_num.f, Option.bind_some, if_pos rfl]
 by_cases h : pS z < 1074
 ·have he : ¬ ((pS z : Int) - 1074) ≥ 0 := by omega
  obtain ⟨n, hn⟩ : ∃ n : Nat, n = uN - pS z := ⟨_, rfl⟩
  have wn : wrap64 (-((pS z : Int) - 1074)) = (n : Int) := by rw [w64_of (by omega) (by omega)]; omega
  obtain ⟨c, hc⟩ : ∃ c : Nat, c = 262144 := ⟨_, rfl⟩
  have w1 : Ws [(1 : Int)] := Ws.cons (by decide) (by decide) Ws.nil
  have wm : Ws [(pM z : Int)] := Ws.cons (by omega) (by omega) Ws.nil
  have vm : nv [(pM z : Int)] = (pM z : Int) := by simp [nv]
  have hb : 1 * 2 ^ n < 2 ^ (n + 1) := by rw [Nat.one_mul]; exact Nat.pow_lt_pow_right (by decide) (by omega)
  obtain ⟨s, s1, s2, s3, s4⟩ := shl_ok [(1 : Int)] w1 (Nat.le_of_ble_eq_true rfl) 1 n rfl (by omega) hb c hc (by omega) k (by omega)
  rw [Nat.one_mul] at s3
  have l1 : [(pM z : Int)].length ≤ 4096 := Nat.le_of_ble_eq_true rfl
  have hle : 2 ^ n ≤ 2 ^ uN := Nat.pow_le_pow_right (by decide) (by omega)
  have hn0 : 2 ^ n ≠ 0 := Nat.ne_of_gt (Nat.pow_pos (by decide))
  rw [if_neg he]
  show (nat_Shl.f k [1] (wrap64 (-((pS z : Int) - 1074)))).bind _ = _
  rw [wn, s1, Option.bind_some]
  show (rat_New.f k neg [(pM z : Int)] s).bind _ = _
  rw [rat_New.rz neg [(pM z : Int)] s wm s2 l1 (by omega) (pM z) (2 ^ n) vm s3 hn0 k (by omega), Option.bind_some, plumblaw07_num.f, Option.bind_some, if_pos rfl, Option.bind_some]
  have e : rzv (sg neg (pM z)) (2 ^ n) = rzv (sg neg (pV z)) (2 ^ uN) := by
   refine rzv_same hn0 hU ?_
   rw [pV_parts, sgz_nat, Int.mul_assoc, ← Int.natCast_mul, ← Nat.pow_add, show pS z + n = uN from by omega]
  rw [e]
  rfl
 ·have he : ((pS z : Int) - 1074) ≥ 0 := by omega
  obtain ⟨n, hn⟩ : ∃ n : Nat, pS z = n + uN := ⟨pS z - uN, by omega⟩
  have en : (pS z : Int) - 1074 = (n : Int) := by omega
  rw [if_pos he]
  show (plumblaw07_whole.f k neg (pM z : Int) ((pS z : Int) - 1074)).bind _ = _
  rw [en, whole_ok neg (pM z) n (by omega) (by omega) k (by omega), Option.bind_some]
  have e : rzv (sg neg (pM z * 2 ^ n)) 1 = rzv (sg neg (pV z)) (2 ^ uN) := by
   refine rzv_same (by decide) hU ?_
   rw [pV_parts, hn, sgz_nat, sgz_nat, Nat.pow_add, Int.natCast_mul]
   grind
  rw [e]
theorem pow_nat_lt {j : Nat} (h : j ≤ 63) : 2 ^ j ≤ 9223372036854775808 := by
 rw [show (9223372036854775808 : Nat) = 2 ^ 63 from by decide]
 exact Nat.pow_le_pow_right (by decide) h
theorem cut_maskE (j : Nat) (h1 : 1 ≤ j) (h2 : j ≤ 64) : shl .u64 1 ((j - 1 : Nat) : Int) = ((2 ^ (j - 1) : Nat) : Int) ∧ IntKind.u64.wrap (IntKind.u64.wrap (((2 ^ (j - 1) : Nat) : Int) * 2) - 1) = 2 ^ j - 1 := by
 have hp := pow_nat_lt (j := j - 1) (by omega)
 constructor
 ·have := shl_nat 1 (j - 1) (by omega) (by omega)
  rw [Nat.one_mul] at this
  exact this
 ·have e : (2 : Int) ^ j = ((2 ^ (j - 1) : Nat) : Int) * 2 := by
   rw [p2cast]
   have : 2 ^ j = 2 ^ (j - 1) * 2 := by rw [← Nat.pow_succ]; congr 1; omega
   rw [this, Int.natCast_mul]; rfl
  by_cases h64 : j = 64
  ·subst h64; decide
  ·have hp2 := pow_nat_lt (j := j) (by omega)
   have hp3 : 0 < 2 ^ (j - 1) := Nat.pow_pos (by decide)
   rw [p2cast] at e
   rw [p2cast, e]
   generalize 2 ^ (j - 1) = z at *
   rw [u64w_of (x := (z : Int) * 2) (by omega) (by omega), u64w_of (by omega) (by omega)]
theorem near_cut.f_eq (m j : Nat) (hm : m < 18446744073709551616) (h1 : 1 ≤ j) (hj : j ≤ 9007199254740992) (k : Nat) (hk : 1 ≤ k) : near_cut.f k (m : Int) (j : Int) = some (((m / 2 ^ j : Nat) : Int), ((tailOf (m % 2 ^ j) j false : Nat) : Int)) := by
 obtain ⟨k, rfl⟩ : ∃ i, k = i + 1 := ⟨k - 1, by omega⟩
 rw [near_cut.f]
 by_cases h0 : m = 0
 ·subst h0
  rw [if_pos (show ((0 : Nat) : Int) = 0 from rfl), near_cut.j0, if_pos rfl, Nat.zero_div, Nat.zero_mod]
  rfl
 ·rw [if_neg (by omega), decide_eq_false (by omega), near_cut.j0, if_neg (by decide)]
  by_cases hbig : j > 64
  ·have hp : 2 ^ 65 ≤ 2 ^ j := Nat.pow_le_pow_right (by decide) hbig
   rw [show (2 : Nat) ^ 65 = 36893488147419103232 from by decide] at hp
   have hq : m / 2 ^ j = 0 := Nat.div_eq_of_lt (by omega)
   have hr : m % 2 ^ j = m := Nat.mod_eq_of_lt (by omega)
   rw [if_pos (by omega), hq, hr]
   unfold tailOf
   rw [if_neg h0, if_pos (by omega)]
   rfl
  ·rw [if_neg (by omega)]
   obtain ⟨m1, m2⟩ := cut_maskE j h1 (by omega)
   have hw : wrap64 ((j : Int) - 1) = ((j - 1 : Nat) : Int) := w64x (by omega) (by omega)
   have hand : Go.bits .and .u64 (m : Int) (IntKind.u64.wrap (IntKind.u64.wrap (((2 ^ (j - 1) : Nat) : Int) * 2) - 1)) = ((m % 2 ^ j : Nat) : Int) := by
    rw [m2, and_mask (x := (m : Int)) (by omega) (by omega) j (by omega) _ rfl, p2cast, Int.natCast_emod]
   have hS : ∃ x, wide_Shr.f 0 (m : Int) (j : Int) = some (x, ((m / 2 ^ j : Nat) : Int), decide (m % 2 ^ j ≠ 0)) := by
    by_cases h64 : j = 64
    ·subst h64
     have hq : m / 2 ^ 64 = 0 := Nat.div_eq_of_lt (by rw [show (2 : Nat) ^ 64 = 18446744073709551616 from by decide]; exact hm)
     have hr : m % 2 ^ 64 = m := Nat.mod_eq_of_lt (by rw [show (2 : Nat) ^ 64 = 18446744073709551616 from by decide]; exact hm)
     refine ⟨0, ?_⟩
     rw [hq, hr, wide_Shr.f, wide_within.f, Option.bind_some]
     have e1 : mn (mx ((64 : Nat) : Int) 0) 128 = 64 := by decide
     have e2 : wrap64 (64 - 64) = 0 := by rw [w64_of (by omega) (by omega)]; rfl
     have e3 : wrap64 (128 - 64) = 64 := by rw [w64_of (by omega) (by omega)]; rfl
     rw [e1, e2, e3, if_pos (by decide)]
     rw [if_neg (by omega), if_pos (by decide), decide_eq_true h0]
     rfl
    ·refine ⟨0, ?_⟩
     rw [wide_Shr.f_eq (hi := 0) (lo := (m : Int)) (s := j) (by omega) (by decide) (by decide) (by omega) (by omega)]
     have hR := two_pow_pos (64 - j)
     have hl := shl_low (x := (m : Int)) hR (pow_split' (s := j) (by omega))
     rw [hl, Int.zero_ediv, Int.zero_mul, Int.zero_emod, Int.zero_add, p2cast j, ← Int.natCast_ediv, ← Int.natCast_emod]
     congr 3
     rw [decide_eq_decide]
     constructor
     ·intro h hz; exact h (by rw [hz]; simp)
     ·intro h hz
      rcases Int.mul_eq_zero.1 hz with h3 | h3
      ·omega
      ·exact h (Int.ofNat.inj h3)
   obtain ⟨x, hS⟩ := hS
   rw [hS, Option.bind_some]
   by_cases hl : m % 2 ^ j = 0
   ·rw [if_neg (by simp [hl]), hl]; rfl
   ·rw [if_pos (by simp [hl]), hw, if_pos (Int.natCast_nonneg _), m1, hand]
    have h2 : 2 ^ j = 2 * 2 ^ (j - 1) := by rw [Nat.mul_comm, ← Nat.pow_succ]; congr 1; omega
    unfold tailOf
    rw [if_neg hl]
    generalize m % 2 ^ j = r at *
    generalize hz : 2 ^ (j - 1) = z at *
    rw [h2]
    by_cases c1 : r < z
    ·rw [if_pos (by omega), if_pos (by omega)]; rfl
    ·rw [if_neg (by omega)]
     by_cases c2 : r = z
     ·rw [if_neg (by omega), if_neg (by omega), if_pos (by omega)]; rfl
     ·rw [if_pos (by omega), if_neg (by omega), if_neg (by omega)]; rfl
theorem RS_zero (mode : Int) (neg : Bool) : RS mode neg 0 0 = (sgn neg, 0) := by
 have hu : upB mode neg (0 % 2 == 1) 0 = false := by
  unfold upB
  split <;> (try rfl)
  split <;> (try rfl)
  split <;> (try rfl)
  split <;> simp
 unfold RS
 rw [hu, if_neg (by decide)]
 unfold outP
 rw [if_neg (by decide)]
 simp
theorem near_finish.f_eq (neg : Bool) (mode : Int) (h0 : 0 ≤ mode) (h4 : mode ≤ 4) (m : Nat) (hm : m < 18446744073709551616) (exp : Int) (he1 : -2199023255552 ≤ exp) (he2 : exp ≤ 2199023255552) (st : Bool) (k : Nat) (hk : 60 ≤ k) :
  near_finish.f k neg (m : Int) exp st mode = some (RS mode neg (flo m exp st).1 (flo m exp st).2) := by
 obtain ⟨k, rfl⟩ : ∃ i, k = i + 8 := ⟨k - 8, by omega⟩
 have e0 : near_finish.f (k + 8) neg (m : Int) exp st mode = near_finish.j0 (k + 8) neg (m : Int) exp st mode (sgn neg) (if neg then 1 else 0) := by
  unfold near_finish.f sgn
  cases neg <;> simp
 rw [e0, near_finish.j0]
 by_cases hz : m = 0
 ·subst hz
  have h00 : ((0 : Nat) : Int) = 0 := rfl
  rw [if_pos h00]
  unfold flo
  rw [if_pos rfl]
  cases st
  ·rw [near_finish.j1, if_pos (by decide)]
   exact congrArg some (RS_zero mode neg).symm
  ·have r := near_finish.j3_eq neg mode h0 h4 0 0 0 true (by decide) (.inl rfl) (by decide) (by decide) k (by omega)
   have hl : wide_Len.f (k + 6) ((0 : Nat) : Int) = some (bitsN ((0 : Nat) : Int)) := wide_Len.f_eq (by decide) (by decide) (k + 6) (by omega)
   rw [near_finish.j1, if_neg (by decide), hl, Option.bind_some, if_pos h00, near_finish.j2]
   by_cases hc : (-1074 : Int) > exp
   ·have hw : wrap64 (-1074 - exp) = ((-1074 - exp).toNat : Int) := w64x (by omega) (by omega)
    rw [if_pos hc, hw, near_cut.f_eq 0 (-1074 - exp).toNat (by decide) (by omega) (by omega) (k + 5) (by omega), Option.bind_some, Nat.zero_div, Nat.zero_mod]
    exact r
   ·rw [if_neg hc, if_pos h00]
    exact r
 ·obtain ⟨L, hL, hb1, hb2⟩ := bits_bounds (m := m) (by omega)
  have hL64 : L ≤ 63 := by
   apply Classical.byContradiction
   intro hn
   have h1 : 2 ^ 64 ≤ 2 ^ L := Nat.pow_le_pow_right (by decide) (by omega)
   rw [show (2 : Nat) ^ 64 = 18446744073709551616 from by decide] at h1
   omega
  have hl : wide_Len.f (k + 6) (m : Int) = some (bitsN (m : Int)) := wide_Len.f_eq (by omega) (by omega) (k + 6) (by omega)
  have hlast : mx (wrap64 (wrap64 (exp + bitsN (m : Int)) - 53)) (-1074) = (((exp + 1074 + bitsN (m : Int) - 53).toNat : Nat) : Int) - 1074 := by
   rw [hL, w64_of (x := exp + (L + 1)) (by omega) (by omega), w64_of (by omega) (by omega)]
   unfold mx
   split <;> omega
  rw [if_neg (by omega), near_finish.j1, if_neg (by decide), hl, Option.bind_some, if_neg (by omega), hlast, near_finish.j2]
  unfold flo
  rw [if_neg hz]
  clear hlast hl
  generalize hs : (exp + 1074 + bitsN (m : Int) - 53).toNat = s at *
  rw [hL] at hs
  by_cases hc : 1 ≤ (s : Int) - (exp + 1074)
  ·rw [if_pos hc, if_pos (by omega)]
   obtain ⟨j, hj⟩ : ∃ j : Nat, (s : Int) - (exp + 1074) = (j : Int) := ⟨((s : Int) - (exp + 1074)).toNat, by omega⟩
   have hw : wrap64 ((s : Int) - 1074 - exp) = (j : Int) := w64x (by omega) (by omega)
   obtain ⟨q1, q2⟩ := flo_q (s := s) (j := j) hb1 hb2 (by omega) (by omega)
   rw [hw, hj, Int.toNat_natCast, near_cut.f_eq m j hm (by omega) (by omega) (k + 5) (by omega), Option.bind_some]
   have ht : tailOf (m % 2 ^ j) j false ≤ 3 := by
    unfold tailOf
    split
    ·decide
    ·split
     ·decide
     ·split <;> decide
   have r := near_finish.j3_eq neg mode h0 h4 (m / 2 ^ j) s (tailOf (m % 2 ^ j) j false) st q1 q2 (by omega) ht k (by omega)
   rw [bump_tail] at r
   exact r
  ·rw [if_neg hc, if_neg (by omega), if_neg (by omega)]
   obtain ⟨j, hj⟩ : ∃ j : Nat, exp + 1074 - (s : Int) = (j : Int) := ⟨(exp + 1074 - (s : Int)).toNat, by omega⟩
   have hw : wrap64 (exp - ((s : Int) - 1074)) = (j : Int) := w64x (by omega) (by omega)
   obtain ⟨q1, q2⟩ := flo_p (s := s) (j := j) hb1 hb2 (by omega) (by omega)
   rw [hw, hj, Int.toNat_natCast, if_pos (Int.natCast_nonneg _), shl_nat m j (by omega) (by omega)]
   have r := near_finish.j3_eq neg mode h0 h4 (m * 2 ^ j) s 0 st q1 q2 (by omega) (by decide) k (by omega)
   exact r
def Hs (xs : List Int) : Prop := ∀ x ∈ xs, 0 ≤ x ∧ x < 4294967296
def hv : List Int → Int
 | [] => 0
 | x :: xs => x + 4294967296 * hv xs
theorem Hs.getD {xs : List Int} (h : Hs xs) (n : Nat) : 0 ≤ xs.getD n 0 ∧ xs.getD n 0 < 4294967296 := by
 rw [List.getD_eq_getElem?_getD]
 cases e : xs[n]? with
 | none => simp
 | some v => simpa using h v (List.mem_of_getElem? e)
theorem Hs.set {xs : List Int} (h : Hs xs) (n : Nat) {v : Int} (h0 : 0 ≤ v) (h1 : v < 4294967296) : Hs (xs.set n v) := by
 intro y hy
 rcases List.mem_or_eq_of_mem_set hy with hy | rfl
 ·exact h y hy
 ·exact ⟨h0, h1⟩
theorem Hs.snoc {xs : List Int} (h : Hs xs) {v : Int} (h0 : 0 ≤ v) (h1 : v < 4294967296) : Hs (xs ++ [v]) := by
 intro y hy
 rcases List.mem_append.1 hy with hy | hy
 ·exact h y hy
 ·rcases List.mem_singleton.1 hy with rfl
  exact ⟨h0, h1⟩
theorem wd_len {n : Int} {t : Nat} (h0 : 0 ≤ n) (h : n < 2 ^ (64 * t)) : (wd n.toNat).length ≤ t := by
 have hw := wd_ws n.toNat
 have h1 := (strip_len_le hw t).2 (by rw [nv_wd, Int.toNat_of_nonneg h0]; exact h)
 rw [strip_wd] at h1
 exact h1
def qP (a : Nat) (exp : Int) : Nat := a * 2 ^ (exp + 1074).toNat
def qQ (b : Nat) (exp : Int) : Nat := b * 2 ^ (-(exp + 1074)).toNat
theorem qQ_pos {b : Nat} (h : 0 < b) (exp : Int) : 0 < qQ b exp := Nat.mul_pos h (Nat.pow_pos (by decide))
structure QOk (A B : List Int) (exp : Int) (a b N k : Nat) : Prop where
 hA : Ws A
 hB : Ws B
 ea : nv A = (a : Int)
 eb : nv B = (b : Int)
 hb : 0 < b
 hAN : A.length ≤ N
 hBN : B.length + 2 ≤ N
 hN : N ≤ 1000000000000
 he1 : exp + 1075 ≤ 64 * N
 he2 : 971 - exp ≤ 64 * N
 hk : 100 * N + 1000 < k
theorem outP_big (mode : Int) (neg : Bool) {d : Nat} (h : 9218868437227405311 < d) : outP mode neg d = if staysB mode neg then (sgn neg + 9218868437227405311, 0) else (0, 70) := by
 unfold outP; rw [if_pos h]
theorem RS_big (mode : Int) (neg : Bool) {d : Nat} (h : 9218868437227405311 < d) (t : Nat) : RS mode neg d t = if staysB mode neg then (sgn neg + 9218868437227405311, 0) else (0, 70) := by
 unfold RS
 split <;> exact outP_big mode neg (by omega)
theorem bits_lt_pow {a : Nat} (s : Nat) : bitsN (a : Int) ≤ (s : Int) ↔ a < 2 ^ s := by
 by_cases h0 : a = 0
 ·subst h0
  rw [show bitsN ((0 : Nat) : Int) = 0 from bitsN_zero]
  exact ⟨fun _ => Nat.pow_pos (by decide), fun _ => by omega⟩
 ·have hb := bitsN_pos (x := (a : Int)) (by omega)
  obtain ⟨L, hL⟩ : ∃ n : Nat, bitsN (a : Int) = n + 1 := ⟨(bitsN (a : Int) - 1).toNat, by omega⟩
  have h1 := (bitsN_iff (by omega) L).1 hL
  rw [p2cast, p2cast] at h1
  have h2 : 2 ^ L ≤ a := Int.ofNat_le.1 h1.1
  have h3 : a < 2 ^ (L + 1) := Int.ofNat_lt.1 h1.2
  rw [hL]
  constructor
  ·intro h
   exact Nat.lt_of_lt_of_le h3 (Nat.pow_le_pow_right (by decide) (by omega))
  ·intro h
   have := (Nat.pow_lt_pow_iff_right (a := 2) (by decide)).1 (Nat.lt_of_le_of_lt h2 h)
   omega
theorem nat_Word.f_eq {n : Nat} (h : n < 18446744073709551616) (k : Nat) (hk : 3 ≤ k) : nat_Word.f k (wd n) = some ((n : Int), true) := by
 have hw := wd_ws n
 have hlen : (wd n).length ≤ 1 := by
  have := wd_len (n := (n : Int)) (t := 1) (by omega) (by rw [show (2 : Int) ^ (64 * 1) = 18446744073709551616 from by decide]; omega)
  rwa [Int.toNat_natCast] at this
 rw [nat_Word.f, nat_size.f_eq (wd n) (by omega) k (by omega), Option.bind_some, strip_wd]
 by_cases h0 : n = 0
 ·subst h0
  rw [wd_zero]; rfl
 ·rw [wd_pos h0, Nat.div_eq_of_lt h, wd_zero, Nat.mod_eq_of_lt h]
  rfl
theorem near_known.f_eq (m : Int) : near_known.f m = some (decide (0 ≤ m ∧ m ≤ 4)) := by
 unfold near_known.f
 by_cases h : m ≥ 0
 ·rw [if_pos h]; congr 1; rw [decide_eq_decide]; omega
 ·rw [if_neg h, decide_eq_false (by omega)]
theorem bits_len {l : List Int} (hl : Ws l) {a : Nat} (ha : nv l = (a : Int)) : bitsN (a : Int) ≤ ((64 * l.length : Nat) : Int) := by
 rw [bits_lt_pow]
 have := nv_lt hl
 rw [ha, p2cast] at this
 exact Int.ofNat_lt.1 this
theorem flo_big {m : Nat} (hm : 0 < m) {e : Int} (h : 1100 ≤ e + bitsN (m : Int)) (st : Bool) : 9218868437227405311 < (flo m e st).1 := by
 unfold flo
 rw [if_neg (by omega)]
 have hs : 2048 ≤ (e + 1074 + bitsN (m : Int) - 53).toNat := by omega
 generalize (e + 1074 + bitsN (m : Int) - 53).toNat = s at *
 have hb : 9218868437227405311 < s * 4503599627370496 := by omega
 split
 ·exact Nat.lt_of_lt_of_le hb (Nat.le_add_right _ _)
 ·exact Nat.lt_of_lt_of_le hb (Nat.le_add_right _ _)
theorem flo_small {m : Nat} (hm : 0 < m) {e : Int} (h : e + bitsN (m : Int) < -1199) (st : Bool) : flo m e st = (0, 1) := by
 obtain ⟨L, hL, hb1, hb2⟩ := bits_bounds hm
 unfold flo
 rw [if_neg (by omega)]
 have hs : (e + 1074 + bitsN (m : Int) - 53).toNat = 0 := by omega
 obtain ⟨j, hj⟩ : ∃ j : Nat, ((0 : Nat) : Int) - (e + 1074) = (j : Int) := ⟨(((0 : Nat) : Int) - (e + 1074)).toNat, by omega⟩
 rw [hs, hj, if_pos (by omega), Int.toNat_natCast]
 have h1 : 2 ^ (L + 2) ≤ 2 ^ j := Nat.pow_le_pow_right (by decide) (by omega)
 rw [Nat.pow_succ] at h1
 have hlt : m < 2 ^ j := by omega
 rw [Nat.div_eq_of_lt hlt, Nat.mod_eq_of_lt hlt]
 unfold tailOf
 rw [if_neg (by omega), if_pos (by omega)]
theorem near_shl.l0_eq (x : List Int) (hx : Ws x) (q s : Nat) (a1 : Int) (ea : Int.tmod a1 64 = (s : Int)) (hs : s ≤ 63) (hm : x.length + q ≤ 17592186044414) : ∀ (d k i : Nat) (acc : List Int) (c : Int), d = x.length - i → d < k → i ≤ x.length → acc.length = q + i → Ws acc → 0 ≤ c → c < 2 ^ s → nv acc + 2 ^ (64 * (q + i)) * c = nv (x.take i) * 2 ^ s * 2 ^ (64 * q) →
  ∃ r, near_shl.l0 k a1 acc c x (x.length : Int) (i : Int) = some r ∧ Ws r ∧ nv r = nv x * 2 ^ (64 * q + s) ∧ r.length = q + x.length + 1 := by
 have hP := two_pow_pos s
 have hR := two_pow_pos (64 - s)
 have hPR := pow_split (s := s) (by omega)
 have hle : (2 : Int) ^ s ≤ 2 ^ 63 := pow_mono hs
 rw [show (2 : Int) ^ 63 = 9223372036854775808 from by decide] at hle
 intro d
 induction d with
 | zero =>
  intro k i acc c hd hk hi hl hw hc0 hc he
  obtain ⟨k, rfl⟩ : ∃ j, k = j + 1 := ⟨k - 1, by omega⟩
  obtain rfl : i = x.length := by omega
  rw [List.take_length] at he
  refine ⟨acc ++ [c], ?_, hw.append (Ws.cons hc0 (by omega) Ws.nil), ?_, by rw [List.length_append, List.length_singleton]; omega⟩
  ·rw [near_shl.l0, if_neg (by omega), if_pos (by omega)]
  ·rw [nv_append, hl]
   simp only [nv_cons, nv_nil, Int.mul_zero, Int.add_zero]
   rw [he, Int.mul_assoc, ← Int.pow_add, Nat.add_comm s]
 | succ d ih =>
  intro k i acc c hd hk hi hl hw hc0 hc he
  obtain ⟨k, rfl⟩ : ∃ j, k = j + 1 := ⟨k - 1, by omega⟩
  have ho := hx.getD i
  have hy : x.getD i 0 / 2 ^ (64 - s) < 2 ^ s := Int.ediv_lt_of_lt_mul hR (by rw [hPR]; exact ho.2)
  have hy0 : 0 ≤ x.getD i 0 / 2 ^ (64 - s) := Int.ediv_nonneg ho.1 (Int.le_of_lt hR)
  have hlow := shl_low (x := x.getD i 0) hP hPR
  have hm1 := Int.emod_nonneg (x.getD i 0 * 2 ^ s) (show (18446744073709551616 : Int) ≠ 0 by decide)
  have hm2 := Int.emod_lt_of_pos (x.getD i 0 * 2 ^ s) (show (0 : Int) < 18446744073709551616 by decide)
  have g1 : x.getD i 0 % 2 ^ (64 - s) < 2 ^ (64 - s) := Int.emod_lt_of_pos _ hR
  have hsum : x.getD i 0 * 2 ^ s % 18446744073709551616 + c < 18446744073709551616 := by
   rw [hlow, ← hPR]
   have h3 : 2 ^ s * (x.getD i 0 % 2 ^ (64 - s) + 1) ≤ 2 ^ s * 2 ^ (64 - s) := Int.mul_le_mul_of_nonneg_left g1 (Int.le_of_lt hP)
   rw [Int.mul_add, Int.mul_one] at h3
   omega
  have e2 : Go.bits .or .u64 (x.getD i 0 * 2 ^ s % 18446744073709551616) c = x.getD i 0 * 2 ^ s % 18446744073709551616 + c := or_join s hm1 hm2 (by rw [hlow, Int.mul_emod_right]) hc0 hc (by omega)
  have e3 : nv (acc ++ [x.getD i 0 * 2 ^ s % 18446744073709551616 + c]) + 2 ^ (64 * (q + (i + 1))) * (x.getD i 0 / 2 ^ (64 - s)) = nv (x.take (i + 1)) * 2 ^ s * 2 ^ (64 * q) := by
   rw [nv_append, hl, nv_take_succ (by omega), show q + (i + 1) = (q + i) + 1 from rfl, pow64, Int.add_mul, Int.add_mul, ← he]
   simp only [nv_cons, nv_nil, Int.mul_zero, Int.add_zero]
   have h2 := shl_word (x := x.getD i 0) hP hPR
   have e4 : x.getD i 0 * 2 ^ (64 * i) * 2 ^ s * 2 ^ (64 * q) = x.getD i 0 * 2 ^ s * 2 ^ (64 * (q + i)) := by
    rw [show 64 * (q + i) = 64 * i + 64 * q from by omega, Int.pow_add]; grind
   rw [e4]
   generalize x.getD i 0 * 2 ^ s % 18446744073709551616 = v at *
   rw [h2]
   generalize x.getD i 0 / 2 ^ (64 - s) = u
   generalize (2 : Int) ^ (64 * (q + i)) = p
   grind
  have hz : (0 : Int) * 2 ^ s % 18446744073709551616 + x.getD i 0 / 2 ^ (64 - s) = x.getD i 0 / 2 ^ (64 - s) := by rw [Int.zero_mul, Int.zero_emod, Int.zero_add]
  obtain ⟨r, h1, h2, h3, h4⟩ := ih k (i + 1) (acc ++ [x.getD i 0 * 2 ^ s % 18446744073709551616 + c]) (x.getD i 0 / 2 ^ (64 - s)) (by omega) (by omega) (by omega) (by rw [List.length_append, List.length_singleton]; omega) (hw.append (Ws.cons (by omega) hsum Ws.nil)) hy0 hy e3
  refine ⟨r, ?_, h2, h3, h4⟩
  rw [near_shl.l0, if_pos (by omega), if_pos (by omega), if_pos (by omega), rdn, ea, wide_Shl.f_eq0 hs (by decide) (by decide) ho.1 ho.2, Option.bind_some, if_pos (by omega), e2, hz, w64_s i (by omega)]
  exact h1
theorem near_shl.f_eq (x : List Int) (hx : Ws x) (n : Nat) (hn : n ≤ 4503599627370496) (hm : x.length + n / 64 ≤ 17592186044414) (k : Nat) (hk : x.length < k) : ∃ r, near_shl.f k x (n : Int) = some r ∧ Ws r ∧ nv r = nv x * 2 ^ n ∧ r.length = n / 64 + x.length + 1 := by
 have e1 : wrap64 (Int.tdiv (n : Int) 64) = ((n / 64 : Nat) : Int) := by
  rw [Int.tdiv_eq_ediv_of_nonneg (by omega), w64_of (by omega) (by omega)]; omega
 have e2 : Int.tmod (n : Int) 64 = ((n % 64 : Nat) : Int) := by
  rw [Int.tmod_eq_emod_of_nonneg (by omega)]; omega
 obtain ⟨r, h1, h2, h3, h4⟩ := near_shl.l0_eq x hx (n / 64) (n % 64) (n : Int) e2 (by omega) hm x.length k 0 (List.replicate (n / 64) 0) 0 (by omega) hk (by omega) (by simp) (Ws.zeros _) (by decide) (two_pow_pos _) (by rw [nv_zeros]; simp [nv])
 rw [show 64 * (n / 64) + n % 64 = n from by omega] at h3
 refine ⟨r, ?_, h2, h3, h4⟩
 rw [near_shl.f, e1, if_pos (by omega), Int.toNat_natCast, if_pos (by omega)]
 exact h1
def qX (A : Nat) (e : Int) : Nat := A * 2 ^ (-e).toNat
def qY (B : Nat) (e : Int) : Nat := B * 2 ^ e.toNat
theorem qY_pos {B : Nat} (h : 0 < B) (e : Int) : 0 < qY B e := Nat.mul_pos h (Nat.pow_pos (by decide))
theorem quo_key (A B : Nat) (e : Int) (m : Nat) : (m * qY B e) * 2 ^ (e + 1074).toNat = (m * 2 ^ (e + 1074).toNat * qQ B 0) * 2 ^ e.toNat ∧ qX A e * 2 ^ (e + 1074).toNat = (qP A 0 * 2 ^ (-(e + 1074)).toNat) * 2 ^ e.toNat := by
 have e0 : qQ B 0 = B := by unfold qQ; rw [show (-((0 : Int) + 1074)).toNat = 0 from rfl, Nat.pow_zero, Nat.mul_one]
 constructor
 ·rw [e0]
  unfold qY
  generalize 2 ^ e.toNat = x
  generalize 2 ^ (e + 1074).toNat = y
  grind
 ·obtain ⟨z, e1, ez⟩ : ∃ z : Nat, ((0 : Int) + 1074).toNat = z ∧ (z : Int) = 1074 := ⟨_, rfl, rfl⟩
  unfold qX qP
  rw [e1, Nat.mul_assoc, Nat.mul_assoc, Nat.mul_assoc, ← Nat.pow_add, ← Nat.pow_add, ← Nat.pow_add]
  congr 2
  omega
theorem quo_Rd {A B : Nat} (hB : 0 < B) (e : Int) (hm : 9007199254740992 ≤ qX A e / qY B e) :
  Rd (qP A 0) (qQ B 0) (flo (qX A e / qY B e) e (decide (qX A e % qY B e ≠ 0))).1 ∧ tl (qP A 0) (qQ B 0) false (flo (qX A e / qY B e) e (decide (qX A e % qY B e ≠ 0))).1 = (flo (qX A e / qY B e) e (decide (qX A e % qY B e ≠ 0))).2 := by
 have hY := qY_pos hB e
 have hp : 0 < 2 ^ e.toNat := Nat.pow_pos (by decide)
 have hT : 0 < 2 ^ (e + 1074).toNat := Nat.pow_pos (by decide)
 have hdm := Nat.div_add_mod (qX A e) (qY B e)
 have hmod := Nat.mod_lt (qX A e) hY
 obtain ⟨k1, k2⟩ := quo_key A B e (qX A e / qY B e)
 obtain ⟨k3, _⟩ := quo_key A B e (qX A e / qY B e + 1)
 have hle : qX A e / qY B e * qY B e ≤ qX A e := Nat.div_mul_le_self _ _
 have hlt : qX A e < (qX A e / qY B e + 1) * qY B e := by rw [Nat.add_mul, Nat.one_mul, Nat.mul_comm (qX A e / qY B e)]; omega
 refine flo_Rd (qQ_pos hB 0) (by omega) ?_ ?_ ?_ (.inr hm)
 ·apply Nat.le_of_mul_le_mul_right _ hp
  rw [← k1, ← k2]
  exact Nat.mul_le_mul_right _ hle
 ·apply Nat.lt_of_mul_lt_mul_right (a := 2 ^ e.toNat)
  rw [← k3, ← k2]
  exact Nat.mul_lt_mul_of_pos_right hlt hT
 ·have : (qP A 0 * 2 ^ (-(e + 1074)).toNat ≠ qX A e / qY B e * 2 ^ (e + 1074).toNat * qQ B 0) ↔ qX A e % qY B e ≠ 0 := by
   constructor
   ·intro h hz
    apply h
    apply Nat.eq_of_mul_eq_mul_right hp
    rw [← k1, ← k2]
    congr 1
    rw [Nat.mul_comm]; omega
   ·intro h hz
    apply h
    have h2 : qX A e * 2 ^ (e + 1074).toNat = qX A e / qY B e * qY B e * 2 ^ (e + 1074).toNat := by rw [k1, k2, hz]
    have h3 := Nat.eq_of_mul_eq_mul_right hT h2
    rw [Nat.mul_comm] at h3
    omega
  rw [this]
  simp
theorem quo_bits {A B a b : Nat} (hA1 : 2 ^ a ≤ A) (hA2 : A < 2 ^ (a + 1)) (hB1 : 2 ^ b ≤ B) (hB2 : B < 2 ^ (b + 1)) (e : Int) (he : e = (a : Int) - b - 62) :
  2 ^ 61 ≤ qX A e / qY B e ∧ qX A e / qY B e < 2 ^ 63 := by
 have hB : 0 < B := Nat.lt_of_lt_of_le (Nat.pow_pos (by decide)) hB1
 have hY := qY_pos hB e
 have hp : 0 < 2 ^ (-e).toNat := Nat.pow_pos (by decide)
 have hq : 0 < 2 ^ e.toNat := Nat.pow_pos (by decide)
 constructor
 ·rw [Nat.le_div_iff_mul_le hY]
  unfold qX qY
  have h1 : 2 ^ 61 * (B * 2 ^ e.toNat) ≤ 2 ^ 61 * (2 ^ (b + 1) * 2 ^ e.toNat) := Nat.mul_le_mul_left _ (Nat.mul_le_mul_right _ (Nat.le_of_lt hB2))
  have h2 : 2 ^ a * 2 ^ (-e).toNat ≤ A * 2 ^ (-e).toNat := Nat.mul_le_mul_right _ hA1
  have h3 : 2 ^ 61 * (2 ^ (b + 1) * 2 ^ e.toNat) = 2 ^ a * 2 ^ (-e).toNat := by
   rw [← Nat.pow_add, ← Nat.pow_add, ← Nat.pow_add]; congr 1; omega
  exact Nat.le_trans h1 (by rw [h3]; exact h2)
 ·rw [Nat.div_lt_iff_lt_mul hY]
  unfold qX qY
  have h1 : A * 2 ^ (-e).toNat < 2 ^ (a + 1) * 2 ^ (-e).toNat := Nat.mul_lt_mul_of_pos_right hA2 hp
  have h2 : 2 ^ 63 * (2 ^ b * 2 ^ e.toNat) ≤ 2 ^ 63 * (B * 2 ^ e.toNat) := Nat.mul_le_mul_left _ (Nat.mul_le_mul_right _ hB1)
  have h3 : 2 ^ (a + 1) * 2 ^ (-e).toNat = 2 ^ 63 * (2 ^ b * 2 ^ e.toNat) := by
   rw [← Nat.pow_add, ← Nat.pow_add, ← Nat.pow_add]; congr 1; omega
  exact Nat.lt_of_lt_of_le h1 (by rw [h3]; exact h2)
def quoR (mode : Int) (neg : Bool) (A B : Nat) (e : Int) : Int × Int :=
 RS mode neg (flo (qX A e / qY B e) e (decide (qX A e % qY B e ≠ 0))).1 (flo (qX A e / qY B e) e (decide (qX A e % qY B e ≠ 0))).2
def quo (mode : Int) (neg : Bool) (A B : Nat) : Int × Int :=
 if 0 ≤ mode ∧ mode ≤ 4 then
  (if B = 0 then (0, 50) else if A = 0 then RS mode neg 0 0 else quoR mode neg A B (bitsN (A : Int) - bitsN (B : Int) - 62))
 else (0, 71)
theorem strip_len_zero {l : List Int} (hl : Ws l) {A : Nat} (ha : nv l = (A : Int)) : ((strip l).length : Int) = 0 ↔ A = 0 := by
 have h := strip_length_pos hl
 rw [ha] at h
 omega
theorem near_Quotient.f_eq (neg : Bool) (x y : List Int) (hx : Ws x) (hy : Ws y) (hmx : x.length ≤ 1048576) (hmy : y.length ≤ 1048576) (A B : Nat) (eA : nv x = (A : Int)) (eB : nv y = (B : Int)) (mode : Int) (k : Nat) (hk : 100000000 < k) :
  near_Quotient.f k neg x y mode = some (quo mode neg A B) := by
 have hX : Ws (strip x) := hx.strip
 have hY : Ws (strip y) := hy.strip
 have lX : (strip x).length ≤ 1048576 := Nat.le_trans (strip_length_le x) hmx
 have lY : (strip y).length ≤ 1048576 := Nat.le_trans (strip_length_le y) hmy
 have eX : nv (strip x) = (A : Int) := by rw [nv_strip, eA]
 have eY : nv (strip y) = (B : Int) := by rw [nv_strip, eB]
 rw [near_Quotient.f, nat_Norm.f, if_pos (by omega), Option.bind_some, nat_Norm.f, if_pos (by omega), Option.bind_some, near_known.f_eq, Option.bind_some]
 unfold quo
 by_cases hmode : 0 ≤ mode ∧ mode ≤ 4
 ·rw [decide_eq_true hmode, if_pos rfl, if_pos hmode]
  have zB := strip_len_zero hy eB
  have zA := strip_len_zero hx eA
  by_cases hB : B = 0
  ·rw [if_pos (zB.2 hB), if_pos hB]
  ·rw [if_neg (fun h => hB (zB.1 h)), if_neg hB]
   by_cases hA : A = 0
   ·have r := near_finish.f_eq neg mode hmode.1 hmode.2 0 (by decide) 0 (by decide) (by decide) false k (by omega)
    have hfl : flo 0 0 false = (0, 0) := by unfold flo; rw [if_pos rfl]; rfl
    rw [hfl] at r
    have r' : near_finish.f k neg 0 0 false mode = some (RS mode neg 0 0) := r
    rw [if_pos (zA.2 hA), if_pos hA, r', Option.bind_some]
   ·rw [if_neg (fun h => hA (zA.1 h)), if_neg hA, nat_Bits.f_eq _ hX (by omega) k (by omega) (by omega), Option.bind_some, nat_Bits.f_eq _ hY (by omega) k (by omega) (by omega), Option.bind_some, eX, eY]
    obtain ⟨a, ha, hA1, hA2⟩ := bits_bounds (m := A) (by omega)
    obtain ⟨b, hb, hB1, hB2⟩ := bits_bounds (m := B) (by omega)
    have bA := bits_len hX eX
    have bB := bits_len hY eY
    have hbits := quo_bits hA1 hA2 hB1 hB2 ((a : Int) - b - 62) rfl
    rw [ha] at bA
    rw [hb] at bB
    have ee : ((a : Int) + 1 - ((b : Int) + 1) - 62) = (a : Int) - b - 62 := by omega
    have w1 : wrap64 ((a : Int) + 1 - ((b : Int) + 1)) = (a : Int) - b := by rw [w64_of (by omega) (by omega)]; omega
    have w2 : wrap64 ((a : Int) - b - 62) = (a : Int) - b - 62 := w64_of (by omega) (by omega)
    rw [ha, hb, ee, w1, w2]
    unfold quoR
    rw [show (2 : Nat) ^ 61 = 2305843009213693952 from by decide, show (2 : Nat) ^ 63 = 9223372036854775808 from by decide] at hbits
    generalize hm : qX A ((a : Int) - b - 62) / qY B ((a : Int) - b - 62) = m at *
    generalize hst : decide (qX A ((a : Int) - b - 62) % qY B ((a : Int) - b - 62) ≠ 0) = st at *
    have bm : 62 ≤ bitsN (m : Int) ∧ bitsN (m : Int) ≤ 63 := by
     constructor
     ·apply Classical.byContradiction
      intro h
      have := (bits_lt_pow (a := m) 61).1 (by omega)
      rw [show (2 : Nat) ^ 61 = 2305843009213693952 from by decide] at this
      omega
     ·have := (bits_lt_pow (a := m) 63).2 (by rw [show (2 : Nat) ^ 63 = 9223372036854775808 from by decide]; omega)
      omega
    have hF := near_finish.f_eq neg mode hmode.1 hmode.2
    by_cases c1 : (a : Int) - b > 1100
    ·have r := hF 1 (by decide) ((a : Int) - b) (by omega) (by omega) true k (by omega)
     have r' : near_finish.f k neg 1 ((a : Int) - b) true mode = _ := r
     have b1 : bitsN ((1 : Nat) : Int) = 1 := rfl
     rw [if_pos c1, r', Option.bind_some, RS_big mode neg (flo_big (m := 1) (e := (a : Int) - b) (by decide) (by omega) true), RS_big mode neg (flo_big (m := m) (e := (a : Int) - b - 62) (by omega) (by omega) st)]
    ·rw [if_neg c1]
     by_cases c2 : (a : Int) - b < -1200
     ·have r := hF 0 (by decide) 0 (by decide) (by decide) true k (by omega)
      have hfl : flo 0 0 true = (0, 1) := by unfold flo; rw [if_pos rfl]; rfl
      rw [hfl] at r
      have r' : near_finish.f k neg 0 0 true mode = some (RS mode neg 0 1) := r
      rw [if_pos c2, r', Option.bind_some, flo_small (m := m) (e := (a : Int) - b - 62) (by omega) (by omega) st]
     ·rw [if_neg c2]
      have rr := hF m (by omega) ((a : Int) - b - 62) (by omega) (by omega) st k (by omega)
      have hlen : ∀ z : Nat, decide (((wd z).length : Int) > 0) = decide (z ≠ 0) := by
       intro z
       rw [decide_eq_decide]
       have := @wd_eq_nil z
       constructor
       ·intro h hz
        rw [this.2 hz] at h
        exact absurd h (by decide)
       ·intro h
        rcases Nat.eq_zero_or_pos (wd z).length with h0 | h0
        ·exact absurd (this.1 (List.eq_nil_of_length_eq_zero h0)) h
        ·omega
      have hdm : ∀ (p q : List Int) (P Q : Nat), Ws p → Ws q → p.length ≤ 2000000 → q.length ≤ 2000000 → nv p = (P : Int) → nv q = (Q : Int) → Q ≠ 0 → quot_DivMod.f k p q = some (wd (P / Q), wd (P % Q), 0) := by
       intro p q P Q hp hq lp lq ep eq_ hQ
       rw [quot_DivMod.f_eq p q hp hq (by omega) (by omega) k (by omega) (by omega), ep, eq_, if_neg (by omega), ← Int.natCast_ediv, ← Int.natCast_emod, Int.toNat_natCast, Int.toNat_natCast]
      by_cases c3 : (a : Int) - b - 62 > 0
      ·obtain ⟨n, hn⟩ : ∃ n : Nat, (a : Int) - b - 62 = (n : Int) := ⟨((a : Int) - b - 62).toNat, by omega⟩
       obtain ⟨r, h1, h2, h3, h4⟩ := near_shl.f_eq (strip y) hY n (by omega) (by omega) k (by omega)
       have eqX : qX A ((a : Int) - b - 62) = A := by unfold qX; rw [hn, show (-(n : Int)).toNat = 0 from by omega, Nat.pow_zero, Nat.mul_one]
       have eqY : nv r = ((qY B ((a : Int) - b - 62) : Nat) : Int) := by unfold qY; rw [h3, eY, hn, Int.toNat_natCast, p2cast, Int.natCast_mul]
       have hd := hdm (strip x) r A _ hX h2 (by omega) (by omega) eX eqY (Nat.ne_of_gt (qY_pos (by omega) _))
       rw [eqX] at hm hst
       rw [hm] at hd
       rw [if_pos c3, hn, h1, Option.bind_some, hd, Option.bind_some, nat_Word.f_eq (by omega) k (by omega), Option.bind_some, hlen, hst, ← hn, rr, Option.bind_some]
      ·obtain ⟨n, hn⟩ : ∃ n : Nat, -((a : Int) - b - 62) = (n : Int) := ⟨(-((a : Int) - b - 62)).toNat, by omega⟩
       have w3 : wrap64 (-((a : Int) - b - 62)) = (n : Int) := by rw [hn, w64_of (by omega) (by omega)]
       obtain ⟨r, h1, h2, h3, h4⟩ := near_shl.f_eq (strip x) hX n (by omega) (by omega) k (by omega)
       have eqY : qY B ((a : Int) - b - 62) = B := by unfold qY; rw [show ((a : Int) - b - 62).toNat = 0 from by omega, Nat.pow_zero, Nat.mul_one]
       have eqX : nv r = ((qX A ((a : Int) - b - 62) : Nat) : Int) := by unfold qX; rw [h3, eX, hn, Int.toNat_natCast, p2cast, Int.natCast_mul]
       have hd := hdm r (strip y) _ B h2 hY (by omega) (by omega) eqX eY hB
       rw [eqY] at hm hst
       rw [hm] at hd
       rw [if_neg c3, w3, h1, Option.bind_some, hd, Option.bind_some, nat_Word.f_eq (by omega) k (by omega), Option.bind_some, hlen, hst, rr, Option.bind_some]
 ·rw [decide_eq_false hmode, if_neg (by decide), if_neg hmode]
theorem quo_pos (mode : Int) (neg : Bool) {A B : Nat} (hA : 0 < A) (hB : 0 < B) (h0 : 0 ≤ mode) (h4 : mode ≤ 4) : ∃ d t, Rd (qP A 0) (qQ B 0) d ∧ tl (qP A 0) (qQ B 0) false d = t ∧ quo mode neg A B = RS mode neg d t := by
 obtain ⟨a, ha, hA1, hA2⟩ := bits_bounds (m := A) hA
 obtain ⟨b, hb, hB1, hB2⟩ := bits_bounds (m := B) hB
 have hbits := quo_bits hA1 hA2 hB1 hB2 ((a : Int) - b - 62) rfl
 rw [show (2 : Nat) ^ 61 = 2305843009213693952 from by decide] at hbits
 obtain ⟨r1, r2⟩ := quo_Rd (A := A) (B := B) hB ((a : Int) - b - 62) (by omega)
 refine ⟨_, _, r1, r2, ?_⟩
 unfold quo
 rw [if_pos ⟨h0, h4⟩, if_neg (by omega), if_neg (by omega), ha, hb, show ((a : Int) + 1 - ((b : Int) + 1) - 62) = (a : Int) - b - 62 from by omega]
 rfl
theorem qP_zero (A : Nat) : qP A 0 = A * 2 ^ uN := by
 unfold qP
 rw [show ((0 : Int) + 1074).toNat = uN from rfl]
theorem qQ_zero (B : Nat) : qQ B 0 = B := by unfold qQ; rw [show (-((0 : Int) + 1074)).toNat = 0 from rfl, Nat.pow_zero, Nat.mul_one]
theorem quo_zero (mode : Int) (neg : Bool) {B : Nat} (hB : 0 < B) (h0 : 0 ≤ mode) (h4 : mode ≤ 4) : quo mode neg 0 B = RS mode neg 0 0 := by
 unfold quo
 rw [if_pos ⟨h0, h4⟩, if_neg (by omega), if_pos rfl]
theorem quo_same (mode : Int) (neg : Bool) (h0 : 0 ≤ mode) (h4 : mode ≤ 4) {A B A' B' : Nat} (hB : 0 < B) (hB' : 0 < B') (e : A * B' = A' * B) : quo mode neg A B = quo mode neg A' B' := by
 by_cases hA : A = 0
 ·have hA' : A' = 0 := by
   rw [hA, Nat.zero_mul] at e
   rcases Nat.mul_eq_zero.1 e.symm with h | h
   ·exact h
   ·omega
  rw [hA, hA', quo_zero mode neg hB h0 h4, quo_zero mode neg hB' h0 h4]
 ·have hA' : 0 < A' := by
   rcases Nat.eq_zero_or_pos A' with h | h
   ·rw [h, Nat.zero_mul] at e
    rcases Nat.mul_eq_zero.1 e with h | h
    ·exact absurd h hA
    ·omega
   ·exact h
  obtain ⟨d, t, r1, r2, r3⟩ := quo_pos mode neg (A := A) (B := B) (by omega) hB h0 h4
  obtain ⟨d', t', s1, s2, s3⟩ := quo_pos mode neg (A := A') (B := B') hA' hB' h0 h4
  rw [qP_zero, qQ_zero] at r1 r2 s1 s2
  have ec : A * 2 ^ uN * B' = A' * 2 ^ uN * B := by rw [Nat.mul_right_comm, e, Nat.mul_right_comm]
  have hd := (r1.cross hB hB' ec).uniq s1
  rw [tl_cross hB hB' ec, hd, s2] at r2
  rw [r3, s3, hd, r2]
theorem quo_RS {A B : Nat} (hB : 0 < B) : ∃ d t, Rd (A * 2 ^ uN) B d ∧ tl (A * 2 ^ uN) B false d = t ∧ ∀ (mode : Int) (neg : Bool), 0 ≤ mode → mode ≤ 4 → quo mode neg A B = RS mode neg d t := by
 by_cases hA : A = 0
 ·subst hA
  refine ⟨0, 0, ⟨?_, ?_⟩, ?_, fun mode neg h0 h4 => quo_zero mode neg hB h0 h4⟩
  ·rw [pV_zero, Nat.zero_mul]; exact Nat.zero_le _
  ·have : pV (0 + 1) = 1 := by decide
   rw [this, Nat.zero_mul, Nat.one_mul]; exact hB
  ·unfold tl
   rw [pV_zero, Nat.zero_mul, Nat.zero_mul, if_pos rfl]
   rfl
 ·have hA' : 0 < A := Nat.pos_of_ne_zero hA
  obtain ⟨d, t, r1, r2, r3⟩ := quo_pos 0 false hA' hB (Int.le_refl 0) (by decide)
  refine ⟨d, t, by rw [qP_zero, qQ_zero] at r1; exact r1, by rw [qP_zero, qQ_zero] at r2; exact r2, fun mode neg h0 h4 => ?_⟩
  obtain ⟨d', t', s1, s2, s3⟩ := quo_pos mode neg hA' hB h0 h4
  obtain rfl := r1.uniq s1
  rw [s3, ← s2, r2]
def gP : Nat := 9218868437227405311
def nx (d t : Nat) : Nat := if t = 0 then d else d + 1
theorem RS_even (neg : Bool) (d t : Nat) : RS 0 neg d t = if gP < rn d t then (0, 70) else (sgn neg + ((rn d t : Nat) : Int), 0) := by
 unfold RS outP
 rfl
theorem fixed_true : plumblaw07_fixed.f 400 = some true := by kernel_rfl
theorem fixed_at (k : Nat) (hk : 400 ≤ k) : plumblaw07_fixed.f k = some true := by
 obtain ⟨d, rfl⟩ : ∃ d, k = 400 + d := ⟨k - 400, by omega⟩
 clear hk
 induction d with
 | zero => exact fixed_true
 | succ d ih => exact plumblaw07_fixed.mono _ _ ih
theorem pV_ltb {b z : Nat} (hb : 3840 ≤ b) (hz : z ≤ 9218868437227405312) : pV z < 2 ^ b := by
 obtain ⟨M, hM⟩ : ∃ M : Nat, M = 2098 := ⟨_, rfl⟩
 exact Nat.lt_of_le_of_lt (pV_top M hM hz) (Nat.pow_lt_pow_right (by decide) (by omega))
theorem uN_ltb {b : Nat} (hb : 3840 ≤ b) : 2 ^ uN < 2 ^ b := Nat.pow_lt_pow_right (by decide) (by have := uN_eq; omega)
theorem near_Rat.rz {b : Nat} (P : Int) {Q : Nat} (hQ : Q ≠ 0) (hp : P.natAbs < 2 ^ b) (hq : Q < 2 ^ b) (hb : b ≤ 60000) (mode : Int) (h0 : 0 ≤ mode) (h4 : mode ≤ 4) (k : Nat) (hk : Q + 200000000 < k) :
  near_Rat.f k (rzv P Q).1 (rzv P Q).2.1 (rzv P Q).2.2 mode = some (quo mode (decide (P < 0)) P.natAbs Q) := by
 obtain ⟨N, D, h, e, _, l⟩ := rzv_d P hQ hp hq
 have hc := h.check hb k (by omega)
 have hs : decide (P < 0) = decide (N < 0) := congrArg Prod.fst h.eq
 have lN : (wd N.natAbs).length ≤ 4096 := wd_lenb h.num 4096 (by omega)
 have lD : (wd D).length ≤ 4096 := wd_lenb h.den 4096 (by omega)
 have hD0 := h.pos
 have en : N.natAbs * Q = P.natAbs * D := by
  have := congrArg Int.natAbs e
  rw [Int.natAbs_mul, Int.natAbs_mul, Int.natAbs_natCast, Int.natAbs_natCast] at this
  exact this.symm
 rw [near_Rat.f, near_known.f_eq, Option.bind_some, decide_eq_true (show 0 ≤ mode ∧ mode ≤ 4 from ⟨h0, h4⟩), if_pos rfl, hc, Option.bind_some, if_pos rfl, h.eq]
 rw [near_Quotient.f_eq (decide (N < 0)) (wd N.natAbs) (wd D) (wd_ws _) (wd_ws _) (by omega) (by omega) N.natAbs D (nv_wd _) (nv_wd _) mode k (by omega), Option.bind_some, quo_same mode (decide (N < 0)) h0 h4 (by omega) (by omega) en, hs]
theorem near_Value.ok (neg : Bool) {z : Nat} (hz : z < 9218868437227405312) (k : Nat) (hk : 2 ^ uN + 30000000 < k) :
  near_Value.f k (sgn neg + (z : Int)) = some ((rzv (sg neg (pV z)) (2 ^ uN)).1, (rzv (sg neg (pV z)) (2 ^ uN)).2.1, (rzv (sg neg (pV z)) (2 ^ uN)).2.2, 0) := by
 have hu := uN_eq
 have hm := pM_lt z
 have hS : pS z ≤ 2045 := by unfold pS; omega
 have hU1 : 0 < 2 ^ uN := Nat.pow_pos (by decide)
 have hU : 2 ^ uN ≠ 0 := Nat.ne_of_gt hU1
 obtain ⟨c, hc⟩ : ∃ c : Nat, c = 262144 := ⟨_, rfl⟩
 have fm : nat_From.f (pM z : Int) = some (wd (pM z)) := by rw [nat_From.f_eq (by omega) (by omega)]; rfl
 have f1 : nat_From.f 1 = some (wd 1) := nat_From.f_eq (by decide) (by decide)
 have lm : (wd (pM z)).length ≤ 1 := wd_length_le (by rw [show (2 : Nat) ^ (64 * 1) = 18446744073709551616 from by decide]; omega)
 have l1 : (wd 1).length ≤ 1 := wd_length_le (by decide)
 rw [near_Value.f, f64_Split.f_eq neg hz k (by omega), Option.bind_some, if_pos rfl]
 show (nat_From.f (pM z : Int)).bind _ = _
 rw [fm, Option.bind_some, f1, Option.bind_some]
 by_cases h : pS z < 1074
 ·have he : ((pS z : Int) - 1074) < 0 := by omega
  obtain ⟨n, hn⟩ : ∃ n : Nat, n = uN - pS z := ⟨_, rfl⟩
  have wn : wrap64 (-((pS z : Int) - 1074)) = (n : Int) := by rw [w64_of (by omega) (by omega)]; omega
  have hb : 1 * 2 ^ n < 2 ^ (n + 1) := by rw [Nat.one_mul]; exact Nat.pow_lt_pow_right (by decide) (by omega)
  obtain ⟨s, s1, s2, s3, s4⟩ := shl_ok (wd 1) (wd_ws _) (by omega) 1 n (nv_wd _) (by omega) hb c hc (by omega) k (by omega)
  rw [Nat.one_mul] at s3
  have hle : 2 ^ n ≤ 2 ^ uN := Nat.pow_le_pow_right (by decide) (by omega)
  have hn0 : 2 ^ n ≠ 0 := Nat.ne_of_gt (Nat.pow_pos (by decide))
  rw [if_pos he]
  show (nat_Shl.f k (wd 1) (wrap64 (-((pS z : Int) - 1074)))).bind _ = _
  rw [wn, s1, Option.bind_some]
  show (rat_New.f k neg (wd (pM z)) s).bind _ = _
  rw [rat_New.rz neg (wd (pM z)) s (wd_ws _) s2 (by omega) (by omega) (pM z) (2 ^ n) (nv_wd _) s3 hn0 k (by omega), Option.bind_some]
  have e : rzv (sg neg (pM z)) (2 ^ n) = rzv (sg neg (pV z)) (2 ^ uN) := by
   refine rzv_same hn0 hU ?_
   rw [pV_parts, sgz_nat, Int.mul_assoc, ← Int.natCast_mul, ← Nat.pow_add, show pS z + n = uN from by omega]
  rw [e]
 ·have he : ¬ ((pS z : Int) - 1074) < 0 := by omega
  obtain ⟨n, hn⟩ : ∃ n : Nat, pS z = n + uN := ⟨pS z - uN, by omega⟩
  have en : (pS z : Int) - 1074 = (n : Int) := by omega
  have hb : pM z * 2 ^ n < 2 ^ (64 + n) := by
   rw [Nat.pow_add]
   exact Nat.mul_lt_mul_of_pos_right (by rw [show (2 : Nat) ^ 64 = 18446744073709551616 from by decide]; omega) (Nat.pow_pos (by decide))
  obtain ⟨s, s1, s2, s3, s4⟩ := shl_ok (wd (pM z)) (wd_ws _) (by omega) (pM z) n (nv_wd _) (by omega) hb c hc (by omega) k (by omega)
  rw [if_neg he]
  show (nat_Shl.f k (wd (pM z)) ((pS z : Int) - 1074)).bind _ = _
  rw [en, s1, Option.bind_some]
  show (rat_New.f k neg s (wd 1)).bind _ = _
  rw [rat_New.rz neg s (wd 1) s2 (wd_ws _) (by omega) (by omega) (pM z * 2 ^ n) 1 s3 (nv_wd _) (by decide) k (by omega), Option.bind_some]
  have e : rzv (sg neg (pM z * 2 ^ n)) 1 = rzv (sg neg (pV z)) (2 ^ uN) := by
   refine rzv_same (by decide) hU ?_
   rw [pV_parts, hn, sgz_nat, sgz_nat, Nat.pow_add, Int.natCast_mul]
   grind
  rw [e]
theorem mid_sum (z Q : Nat) : (2 * pV z + pU z) * Q = (pV z + pV (z + 1)) * Q := by rw [pV_succ]; congr 1; omega
theorem quo_at {neg : Bool} {A B z : Nat} (hB : 0 < B) (h1 : pV z * B < A * 2 ^ uN) (h2 : A * 2 ^ uN < pV (z + 1) * B) : quo 0 neg A B = if gP < rn z (tl (A * 2 ^ uN) B false z) then (0, 70) else (sgn neg + ((rn z (tl (A * 2 ^ uN) B false z) : Nat) : Int), 0) := by
 obtain ⟨d, t, r, htl, hq⟩ := quo_RS (A := A) hB
 obtain rfl := r.uniq ⟨Nat.le_of_lt h1, h2⟩
 rw [hq 0 neg (by decide) (by decide), htl, RS_even]
theorem rn_one (z : Nat) : rn z 1 = z := by
 show (if ((1 : Nat) == 3 || ((1 : Nat) == 2 && z % 2 == 1)) = true then z + 1 else z) = _
 exact if_neg (by simp)
theorem rn_two (z : Nat) : rn z 2 = if z % 2 = 1 then z + 1 else z := by
 by_cases h : z % 2 = 1
 ·rw [if_pos h]
  show (if ((2 : Nat) == 3 || ((2 : Nat) == 2 && z % 2 == 1)) = true then z + 1 else z) = _
  rw [h]; rfl
 ·rw [if_neg h]
  show (if ((2 : Nat) == 3 || ((2 : Nat) == 2 && z % 2 == 1)) = true then z + 1 else z) = _
  rw [show z % 2 = 0 from by omega]; rfl
theorem rn_three (z : Nat) : rn z 3 = z + 1 := rfl
theorem quo_left {neg : Bool} {A B z : Nat} (hB : 0 < B) (hz : z < gP) (h1 : pV z * B < A * 2 ^ uN) (h : 2 * (A * 2 ^ uN) < (pV z + pV (z + 1)) * B) : quo 0 neg A B = (sgn neg + (z : Int), 0) := by
 have hs : (pV z + pV (z + 1)) * B = pV z * B + pV (z + 1) * B := Nat.add_mul _ _ _
 have ht : tl (A * 2 ^ uN) B false z = 1 := by
  unfold tl
  rw [if_neg (by omega), mid_sum, if_pos h]
 rw [quo_at (z := z) hB h1 (by omega), ht, rn_one, if_neg (by omega)]
theorem quo_right {neg : Bool} {A B z : Nat} (hB : 0 < B) (hz : z < gP) (h2 : A * 2 ^ uN < pV (z + 1) * B) (h : (pV z + pV (z + 1)) * B < 2 * (A * 2 ^ uN)) : quo 0 neg A B = (sgn neg + ((z + 1 : Nat) : Int), 0) := by
 have hs : (pV z + pV (z + 1)) * B = pV z * B + pV (z + 1) * B := Nat.add_mul _ _ _
 have ht : tl (A * 2 ^ uN) B false z = 3 := by
  unfold tl
  rw [if_neg (by omega), mid_sum, if_neg (by omega), if_neg (by omega)]
 rw [quo_at (z := z) hB (by omega) h2, ht, rn_three, if_neg (by omega)]
theorem quo_mid {neg : Bool} {A B z : Nat} (hB : 0 < B) (hz : z < gP) (h : 2 * (A * 2 ^ uN) = (pV z + pV (z + 1)) * B) : quo 0 neg A B = (sgn neg + ((if z % 2 = 1 then z + 1 else z : Nat) : Int), 0) := by
 have hs : (pV z + pV (z + 1)) * B = pV z * B + pV (z + 1) * B := Nat.add_mul _ _ _
 have hlt : pV z * B < pV (z + 1) * B := Nat.mul_lt_mul_of_pos_right (pV_lt_succ z) hB
 have ht : tl (A * 2 ^ uN) B false z = 2 := by
  unfold tl
  rw [if_neg (by omega), mid_sum, if_neg (by omega), if_pos h]
  rfl
 rw [quo_at (z := z) hB (by omega) (by omega), ht, rn_two]
 by_cases o : z % 2 = 1
 ·rw [if_pos o, if_neg (by omega)]
 ·rw [if_neg o, if_neg (by omega)]
theorem quo_three (neg : Bool) {y : Nat} (hy : y < gP) :
  quo 0 neg (9 * pV y + 7 * pV (y + 1)) (16 * 2 ^ uN) = (sgn neg + (y : Int), 0) ∧ quo 0 neg (7 * pV y + 9 * pV (y + 1)) (16 * 2 ^ uN) = (sgn neg + ((y + 1 : Nat) : Int), 0) ∧
   quo 0 neg (pV y + pV (y + 1)) (2 * 2 ^ uN) = (sgn neg + ((if y % 2 = 1 then y + 1 else y : Nat) : Int), 0) := by
 have hU1 : 0 < 2 ^ uN := Nat.pow_pos (by decide)
 have lt : pV y * 2 ^ uN < pV (y + 1) * 2 ^ uN := Nat.mul_lt_mul_of_pos_right (pV_lt_succ y) hU1
 have m16 : ∀ X : Nat, X * (16 * 2 ^ uN) = 16 * (X * 2 ^ uN) := fun X => Nat.mul_left_comm _ _ _
 have m2 : ∀ X : Nat, X * (2 * 2 ^ uN) = 2 * (X * 2 ^ uN) := fun X => Nat.mul_left_comm _ _ _
 have e1 : (9 * pV y + 7 * pV (y + 1)) * 2 ^ uN = 9 * (pV y * 2 ^ uN) + 7 * (pV (y + 1) * 2 ^ uN) := by rw [Nat.add_mul, Nat.mul_assoc, Nat.mul_assoc]
 have e2 : (7 * pV y + 9 * pV (y + 1)) * 2 ^ uN = 7 * (pV y * 2 ^ uN) + 9 * (pV (y + 1) * 2 ^ uN) := by rw [Nat.add_mul, Nat.mul_assoc, Nat.mul_assoc]
 have e3 : (pV y + pV (y + 1)) * 2 ^ uN = pV y * 2 ^ uN + pV (y + 1) * 2 ^ uN := Nat.add_mul _ _ _
 have p16 : 0 < 16 * 2 ^ uN := by omega
 have p2 : 0 < 2 * 2 ^ uN := by omega
 refine ⟨quo_left p16 hy ?_ ?_, quo_right p16 hy ?_ ?_, quo_mid p2 hy ?_⟩
 ·rw [m16, e1]; omega
 ·rw [m16, e1, e3]; omega
 ·rw [m16, e2]; omega
 ·rw [m16, e2, e3]; omega
 ·rw [m2, e3]
theorem nv_take_all (xs : List Int) (i : Nat) : nv (xs.take (i + 1)) = nv (xs.take i) + xs.getD i 0 * 2 ^ (64 * i) := by
 by_cases h : i < xs.length
 ·exact nv_take_succ h
 ·rw [List.take_of_length_le (by omega), List.take_of_length_le (by omega), List.getD_eq_getElem?_getD, List.getElem?_eq_none (by omega)]
  simp
theorem sub_step {X Y O b xw yw : Int} {P : Int} (hP : 0 < P) (hb0 : 0 ≤ b) (hb1 : b ≤ 1) (hx0 : 0 ≤ xw) (hx : xw < 18446744073709551616) (hy0 : 0 ≤ yw) (hy : yw < 18446744073709551616) (h : O = X - Y + b * P) :
  O + (xw - yw - b) % 18446744073709551616 * P = (X + xw * P) - (Y + yw * P) + (if xw < yw + b then 1 else 0) * (P * 18446744073709551616) := by
 have e : (xw - yw - b) % 18446744073709551616 = xw - yw - b + (if xw < yw + b then 1 else 0) * 18446744073709551616 := by split <;> omega
 rw [e, h]
 generalize (if xw < yw + b then (1 : Int) else 0) = c
 grind
theorem nat_Sub.l0_eq (x y : List Int) (hx : Ws x) (hy : Ws y) (hm : x.length ≤ 17592186044416) (hmy : y.length ≤ 17592186044416) : ∀ (d k : Nat) (out : List Int) (b : Int) (i : Nat), d = x.length - i → d + 1 + x.length < k → i ≤ x.length → out.length = x.length → Ws out → 0 ≤ b → b ≤ 1 → out.drop i = x.drop i → nv (out.take i) = nv (x.take i) - nv (y.take i) + b * 2 ^ (64 * i) → nv y ≤ nv x →
  nat_Sub.l0 k y out b (x.length : Int) (i : Int) = some (bnd (nv x - nv y)) := by
 intro d
 induction d with
 | zero =>
  intro k out b i hd hk hi hl ho hb0 hb1 hdr hv hle
  obtain ⟨k, rfl⟩ : ∃ j, k = j + 1 := ⟨k - 1, by omega⟩
  obtain rfl : i = x.length := by omega
  have q : ¬ (x.length : Int) < (x.length : Int) := by omega
  have ht : out.take x.length = out := List.take_of_length_le (by omega)
  have hxt : x.take x.length = x := List.take_of_length_le (Nat.le_refl _)
  have hyt : nv (y.take x.length) = nv y := by
   rcases Nat.le_total y.length x.length with h | h
   ·rw [List.take_of_length_le h]
   ·exact nv_take_of_lt hy h (Int.lt_of_le_of_lt hle (nv_lt hx))
  rw [ht, hxt, hyt] at hv
  have hb : b = 0 := by
   have h1 := nv_lt ho
   rw [hl] at h1
   rcases (show b = 0 ∨ b = 1 by omega) with h | h
   ·exact h
   ·rw [h, Int.one_mul] at hv; omega
  rw [hb, Int.zero_mul, Int.add_zero] at hv
  rw [nat_Sub.l0, if_neg q, nat_bound.f_bnd ho (by omega) k (by omega), hv, Option.bind_some]
 | succ d ih =>
  intro k out b i hd hk hi hl ho hb0 hb1 hdr hv hle
  obtain ⟨k, rfl⟩ : ∃ j, k = j + 1 := ⟨k - 1, by omega⟩
  have hil : i < x.length := by omega
  have q : (i : Int) < (x.length : Int) := by omega
  have q0 : (0 : Int) ≤ (i : Int) := by omega
  have q1 : (i : Int) < (out.length : Int) := by omega
  have hox : out.getD i 0 = x.getD i 0 := by
   have := congrArg (fun l => l.getD 0 0) hdr
   simpa [List.getD_eq_getElem?_getD, List.getElem?_drop] using this
  have wx := hx.getD i
  have wy := hy.getD i
  have hP : (0 : Int) < 2 ^ (64 * i) := two_pow_pos _
  have hstep : ∀ yw : Int, yw = y.getD i 0 → ∀ (c : Int), c = (if x.getD i 0 < yw + b then 1 else 0) → nat_Sub.l0 k y (out.set i ((x.getD i 0 - yw - b) % 18446744073709551616)) c (x.length : Int) ((i + 1 : Nat) : Int) = some (bnd (nv x - nv y)) := by
   intro yw hyw c hc
   have hyb : 0 ≤ yw ∧ yw < 18446744073709551616 := by rw [hyw]; exact wy
   have hm0 : 0 ≤ (x.getD i 0 - yw - b) % 18446744073709551616 ∧ (x.getD i 0 - yw - b) % 18446744073709551616 < 18446744073709551616 := by omega
   refine ih k _ c (i + 1) (by omega) (by omega) (by omega) (by rw [List.length_set]; exact hl) (ho.set i hm0.1 hm0.2) (by rw [hc]; split <;> decide) (by rw [hc]; split <;> decide) ?_ ?_ hle
   ·rw [List.drop_set_of_lt (by omega)]
    have := congrArg (List.drop 1) hdr
    rwa [List.drop_drop, List.drop_drop] at this
   ·have hs : (out.set i ((x.getD i 0 - yw - b) % 18446744073709551616)).getD i 0 = (x.getD i 0 - yw - b) % 18446744073709551616 := by
     rw [List.getD_eq_getElem?_getD, List.getElem?_set_self (by omega)]; rfl
    rw [nv_take_all, nv_take_all x, nv_take_all y, hs, List.take_set_of_le (Nat.le_refl i), ← hyw, hc, show 64 * (i + 1) = 64 * i + 64 from by omega, Int.pow_add]
    have e64 : (2 : Int) ^ 64 = 18446744073709551616 := by decide
    rw [e64]
    exact sub_step hP hb0 hb1 wx.1 wx.2 hyb.1 hyb.2 hv
  rw [nat_Sub.l0, if_pos q]
  by_cases hiy : i < y.length
  ·have q2 : (i : Int) < (y.length : Int) := by omega
   rw [if_pos q2, if_pos q0, if_pos q1, rdn, rdn, hox, wide_Sub.f_eq wx.1 wx.2 wy.1 wy.2 hb0 hb1, Option.bind_some, w64_s i (by omega), Int.toNat_natCast]
   exact hstep _ rfl _ rfl
  ·have q2 : ¬ (i : Int) < (y.length : Int) := by omega
   have hz : y.getD i 0 = 0 := by rw [List.getD_eq_getElem?_getD, List.getElem?_eq_none (by omega)]; rfl
   rw [if_neg q2, if_pos q0, if_pos q1, rdn, hox, wide_Sub.f_eq wx.1 wx.2 (by decide) (by decide) hb0 hb1, Option.bind_some, w64_s i (by omega), Int.toNat_natCast]
   exact hstep 0 hz.symm _ rfl
theorem nat_Sub.f_eq (x y : List Int) (hx : Ws x) (hy : Ws y) (hmx : x.length ≤ 1000000) (hmy : y.length ≤ 1000000) (hle : nv y ≤ nv x) (k : Nat) (hk : 3000000 < k) : nat_Sub.f k x y = some (bnd (nv x - nv y)) := by
 have hc : ¬ cmpI (nv x) (nv y) < 0 := by unfold cmpI; split <;> (try split) <;> omega
 have hsx := strip_length_le x
 have hsw := hx.strip
 have hsv : nv (strip x) = nv x := nv_strip x
 rw [nat_Sub.f, nat_Cmp.f_eq x y hx hy (by omega) (by omega) k (by omega) (by omega), Option.bind_some, if_neg hc, nat_Norm.f, if_pos (by omega), Option.bind_some]
 have h := nat_Sub.l0_eq (strip x) y hsw hy (by omega) (by omega) (strip x).length k (strip x) 0 0 (by omega) (by omega) (by omega) rfl hsw (by decide) (by decide) rfl (by simp [nv]) (by rw [hsv]; exact hle)
 rw [hsv] at h
 exact h
end Go.Proofs.YtoefabmlkbhmpaaDoor.PA
