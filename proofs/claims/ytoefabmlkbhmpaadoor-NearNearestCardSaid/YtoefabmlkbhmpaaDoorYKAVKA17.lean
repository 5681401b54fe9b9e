/- A part of the proof (17). -/
import Derived.Test.YtoefabmlkbhmpaaDoorYKAVKA16
import Derived.Test.YtoefabmlkbhmpaaDoorYKAVKA14
import Derived.OpenShut
import Derived.LaidLaws
import Derived.LaidHandle
import Derived.MakeChecks
import Derived.WideShapes
import Derived.ChangeArms
namespace Go.Proofs.YtoefabmlkbhmpaaDoor.PA
open Go Go.RowKit Go.Proofs.YtoefabmlkbhmpaaDoorW.PrintWords Go.Proofs.YtoefabmlkbhmpaaDoorW.PrintLast Go.Proofs.YtoefabmlkbhmpaaDoorW.PrintMore
set_option linter.unusedVariables false
set_option linter.unusedSimpArgs false
theorem quo_RS {A B : Nat} (hB : 0 < B) : ∃ d t, Rd (A * 2 ^ uN) B d ∧ tl (A * 2 ^ uN) B false d = t ∧ ∀ (mode : Int) (neg : Bool), 0 ≤ mode → mode ≤ 4 → quo mode neg A B = RS mode neg d t := by
 by_cases hA : A = 0
 ·subst hA
  refine ⟨0, 0, ⟨?_, ?_⟩, ?_, fun mode neg h0 h4 => quo_zero mode neg hB h0 h4⟩
  ·rw [pV_zero, Nat.zero_mul]; exact Nat.zero_le _
  ·have : pV (0 + 1) = 1 := by decide
   rw [this, Nat.zero_mul, Nat.one_mul]; exact hB
  ·unfold tl
   rw [pV_zero, Nat.zero_mul, Nat.zero_mul, if_pos rfl]
   rfl
 ·have hA' : 0 < A := Nat.pos_of_ne_zero hA
  obtain ⟨d, t, r1, r2, r3⟩ := quo_pos 0 false hA' hB (Int.le_refl 0) (by decide)
  refine ⟨d, t, by rw [qP_zero, qQ_zero] at r1; exact r1, by rw [qP_zero, qQ_zero] at r2; exact r2, fun mode neg h0 h4 => ?_⟩
  obtain ⟨d', t', s1, s2, s3⟩ := quo_pos mode neg hA' hB h0 h4
  obtain rfl := r1.uniq s1
  rw [s3, ← s2, r2]
def gP : Nat := 9218868437227405311
def nx (d t : Nat) : Nat := if t = 0 then d else d + 1
theorem RS_even (neg : Bool) (d t : Nat) : RS 0 neg d t = if gP < rn d t then (0, 70) else (sgn neg + ((rn d t : Nat) : Int), 0) := by
 unfold RS outP
 rfl
theorem fixed_true : plumblaw07_fixed.f 400 = some true := by kernel_rfl
theorem fixed_at (k : Nat) (hk : 400 ≤ k) : plumblaw07_fixed.f k = some true := by
 obtain ⟨d, rfl⟩ : ∃ d, k = 400 + d := ⟨k - 400, by omega⟩
 clear hk
 induction d with
 | zero => exact fixed_true
 | succ d ih => exact plumblaw07_fixed.mono _ _ ih
theorem bounded_l0 (l : List Int) (n : Nat) (hn : n ≤ 1000000) : ∀ (d k i : Nat), d = n - i → d < k → i ≤ n → i ≤ l.length → plumblaw07_bounded.l0 k l (n : Int) (l.take i) (i : Int) = some (l.take n) := by
 intro d
 induction d with
 | zero =>
  intro k i hd hk hi hl
  obtain ⟨k, rfl⟩ : ∃ j, k = j + 1 := ⟨k - 1, by omega⟩
  obtain rfl : i = n := by omega
  have q : ¬ (i : Int) < (i : Int) := by omega
  rw [plumblaw07_bounded.l0, if_neg q]
  split <;> rfl
 | succ d ih =>
  intro k i hd hk hi hl
  obtain ⟨k, rfl⟩ : ∃ j, k = j + 1 := ⟨k - 1, by omega⟩
  rw [plumblaw07_bounded.l0]
  by_cases h : i < l.length
  ·have q1 : (i : Int) < (l.length : Int) := by omega
   have q2 : (i : Int) < (n : Int) := by omega
   have q3 : (0 : Int) ≤ (i : Int) := by omega
   have q4 : (l.take i).length < 17592186044416 := by rw [List.length_take]; omega
   have e : l.take (i + 1) = l.take i ++ [l.getD i 0] := by rw [List.take_succ_eq_append_getElem h, List.getD_eq_getElem?_getD, List.getElem?_eq_getElem h]; rfl
   rw [if_pos q1, if_pos q2, if_pos q3, if_pos q4, rdn, ← e, w64_s i (by omega)]
   exact ih k (i + 1) (by omega) (by omega) (by omega) (by omega)
  ·have q1 : ¬ (i : Int) < (l.length : Int) := by omega
   rw [if_neg q1, List.take_of_length_le (by omega), List.take_of_length_le (by omega)]
theorem bounded_eq (l : List Int) (k : Nat) (hk : 100 < k) : plumblaw07_bounded.f k l 60 = some (l.take 60) := by
 rw [plumblaw07_bounded.f]
 exact bounded_l0 l 60 (by decide) 60 k 0 (by omega) (by omega) (by omega) (by omega)
theorem take_lt {l : List Int} (hl : Ws l) {n t : Nat} (ht : 64 * n ≤ t) {a : Nat} (ha : nv (l.take n) = (a : Int)) : a < 2 ^ t := by
 have h1 := nv_lt (hl.take n)
 rw [ha, p2cast] at h1
 refine Nat.lt_of_lt_of_le (Int.ofNat_lt.1 h1) (Nat.pow_le_pow_right (by decide) ?_)
 have h2 : (l.take n).length ≤ n := by rw [List.length_take]; omega
 omega
theorem exact_ok (neg : Bool) (l1 l2 : List Int) (h1 : Ws l1) (h2 : Ws l2) (t : Nat) (ht : t = 3840) : ∃ (x y : List Int) (A B : Nat), Ws x ∧ Ws y ∧ x.length ≤ 60 ∧ y.length ≤ 60 ∧ nv x = (A : Int) ∧ nv y = (B : Int) ∧ 0 < B ∧ A < 2 ^ t ∧ B < 2 ^ t ∧
  ∀ k, B + 10000100 < k → plumblaw07_exact.f k neg l1 l2 = some (neg, x, y, (rzv (sg neg A) B).1, (rzv (sg neg A) B).2.1, (rzv (sg neg A) B).2.2, true) := by
 have hx : Ws (l1.take 60) := h1.take 60
 have hy : Ws (l2.take 60) := h2.take 60
 have lx : (l1.take 60).length ≤ 60 := by rw [List.length_take]; omega
 have ly : (l2.take 60).length ≤ 60 := by rw [List.length_take]; omega
 obtain ⟨A, hA⟩ := Int.eq_ofNat_of_zero_le (nv_nonneg hx)
 obtain ⟨B, hB⟩ := Int.eq_ofNat_of_zero_le (nv_nonneg hy)
 have bA := take_lt h1 (n := 60) (t := t) (by omega) hA
 have bB := take_lt h2 (n := 60) (t := t) (by omega) hB
 have hcmp : ∀ k, 100 < k → nat_Cmp.f k (l2.take 60) [] = some (cmpI (B : Int) 0) := by
  intro k hk
  rw [nat_Cmp.f_eq _ [] hy Ws.nil (by omega) (Nat.zero_le _) k (by omega) (by show 0 < k; omega), hB]
  rfl
 by_cases b0 : B = 0
 ·have w1 : Ws [(1 : Int)] := Ws.cons (by decide) (by decide) Ws.nil
  refine ⟨l1.take 60, [1], A, 1, hx, w1, lx, Nat.le_of_ble_eq_true rfl, hA, rfl, by decide, bA, ?_, fun k hk => ?_⟩
  ·exact Nat.lt_of_lt_of_le (by decide : 1 < 2 ^ 1) (Nat.pow_le_pow_right (by decide) (by omega))
  ·have hc : cmpI (B : Int) 0 = 0 := by rw [b0]; rfl
   rw [plumblaw07_exact.f, bounded_eq l1 k (by omega), Option.bind_some, bounded_eq l2 k (by omega), Option.bind_some, hcmp k (by omega), Option.bind_some, if_pos hc, Option.bind_some, rat_New.rz neg _ [1] hx w1 (by omega) (Nat.le_of_ble_eq_true rfl) A 1 hA rfl (by decide) k (by omega), Option.bind_some, plumblaw07_num.f, Option.bind_some]
   rfl
 ·refine ⟨l1.take 60, l2.take 60, A, B, hx, hy, lx, ly, hA, hB, by omega, bA, bB, fun k hk => ?_⟩
  have hc : ¬ cmpI (B : Int) 0 = 0 := by
   unfold cmpI
   rw [if_neg (by omega), if_neg (by omega)]
   decide
  rw [plumblaw07_exact.f, bounded_eq l1 k (by omega), Option.bind_some, bounded_eq l2 k (by omega), Option.bind_some, hcmp k (by omega), Option.bind_some, if_neg hc, rat_New.rz neg _ _ hx hy (by omega) (by omega) A B hA hB b0 k (by omega), Option.bind_some, plumblaw07_num.f, Option.bind_some]
  rfl
theorem size_rz (neg : Bool) (A B : Nat) : plumblaw07_size.f (rzv (sg neg A) B).1 (rzv (sg neg A) B).2.1 (rzv (sg neg A) B).2.2 = some (rzv (A : Int) B) := by
 unfold plumblaw07_size.f rzv
 rw [sg_abs, Int.natAbs_natCast, decide_eq_false (show ¬ (A : Int) < 0 by omega)]
theorem value_nat {z : Nat} (hz : z < 9218868437227405312) (k : Nat) (hk : 2 ^ uN + 30000000 < k) :
  plumblaw07_value.f k (z : Int) = some ((rzv (pV z) (2 ^ uN)).1, (rzv (pV z) (2 ^ uN)).2.1, (rzv (pV z) (2 ^ uN)).2.2, true) := by
 have h := value_ok false hz k hk
 have e : sgn false + (z : Int) = (z : Int) := by show (0 : Int) + _ = _; omega
 rw [e] at h
 exact h
theorem pV_ltb {b z : Nat} (hb : 3840 ≤ b) (hz : z ≤ 9218868437227405312) : pV z < 2 ^ b := by
 obtain ⟨M, hM⟩ : ∃ M : Nat, M = 2098 := ⟨_, rfl⟩
 exact Nat.lt_of_le_of_lt (pV_top M hM hz) (Nat.pow_lt_pow_right (by decide) (by omega))
theorem uN_ltb {b : Nat} (hb : 3840 ≤ b) : 2 ^ uN < 2 ^ b := Nat.pow_lt_pow_right (by decide) (by have := uN_eq; omega)
end Go.Proofs.YtoefabmlkbhmpaaDoor.PA
namespace Go.Proofs.YtoefabmlkbhmpaaDoor.Pure
open Go Go.RowKit Go.Proofs.YtoefabmlkbhmpaaDoor.PA Go.Proofs.YtoefabmlkbhmpaaDoorW.PrintWords Go.Proofs.YtoefabmlkbhmpaaDoorW.PrintLast
set_option linter.unusedVariables false
theorem nbne_self (b : Bool) : (b != b) = false := by cases b <;> rfl
theorem rn_half {P Q d t : Nat} (hQ : 0 < Q) (r : Rd P Q d) (htl : tl P Q false d = t) :
  2 * P ≤ (pV (rn d t) + pV (rn d t + 1)) * Q ∧ (2 * P = (pV (rn d t) + pV (rn d t + 1)) * Q → rn d t % 2 = 0) ∧
   ∀ z, rn d t = z + 1 → (pV z + pV (rn d t)) * Q ≤ 2 * P ∧ ((pV z + pV (rn d t)) * Q = 2 * P → rn d t % 2 = 0) := by
 have lo := r.lo
 have hi := r.hi
 have hs := pV_succ d
 have hs2 := pV_lt_succ (d + 1)
 have hup : 0 < pU d * Q := Nat.mul_pos (pU_pos d) hQ
 have e1 : (2 * pV d + pU d) * Q = 2 * (pV d * Q) + pU d * Q := by rw [Nat.add_mul, Nat.mul_assoc]
 have e2 : pV (d + 1) * Q = pV d * Q + pU d * Q := by rw [hs, Nat.add_mul]
 have e3 : (pV d + pV (d + 1)) * Q = pV d * Q + pV (d + 1) * Q := Nat.add_mul _ _ _
 have e4 : (pV (d + 1) + pV (d + 1 + 1)) * Q = pV (d + 1) * Q + pV (d + 1 + 1) * Q := Nat.add_mul _ _ _
 have h5 : pV (d + 1) * Q < pV (d + 1 + 1) * Q := Nat.mul_lt_mul_of_pos_right hs2 hQ
 have low : ∀ z, d = z + 1 → (pV z + pV d) * Q < 2 * (pV d * Q) := by
  intro z hz
  have h1 : pV z * Q < pV d * Q := Nat.mul_lt_mul_of_pos_right (by rw [hz]; exact pV_lt_succ z) hQ
  rw [Nat.add_mul]
  omega
 unfold tl at htl
 rw [e1] at htl
 have hr : rn d t = if (t == 3 || (t == 2 && d % 2 == 1)) = true then d + 1 else d := rfl
 by_cases a1 : P = pV d * Q
 ·rw [if_pos a1] at htl
  obtain rfl : t = 0 := htl.symm
  have e : rn d 0 = d := by rw [hr]; exact if_neg (by simp)
  rw [e, e3]
  refine ⟨by omega, fun h => by omega, fun z hz => ?_⟩
  have := low z hz
  exact ⟨by omega, fun h => by omega⟩
 ·rw [if_neg a1] at htl
  by_cases a2 : 2 * P < 2 * (pV d * Q) + pU d * Q
  ·rw [if_pos a2] at htl
   obtain rfl : t = 1 := htl.symm
   have e : rn d 1 = d := by rw [hr]; exact if_neg (by simp)
   rw [e, e3]
   refine ⟨by omega, fun h => by omega, fun z hz => ?_⟩
   have := low z hz
   exact ⟨by omega, fun h => by omega⟩
  ·rw [if_neg a2] at htl
   by_cases a3 : 2 * P = 2 * (pV d * Q) + pU d * Q
   ·rw [if_pos a3] at htl
    obtain rfl : t = 2 := htl.symm
    by_cases od : d % 2 = 1
    ·have e : rn d 2 = d + 1 := by rw [hr, od]; rfl
     rw [e, e4]
     refine ⟨by omega, fun h => by omega, fun z hz => ?_⟩
     obtain rfl : d = z := by omega
     rw [e3]
     exact ⟨by omega, fun h => by omega⟩
    ·have e : rn d 2 = d := by
      rw [hr, show d % 2 = 0 from by omega]; rfl
     rw [e, e3]
     refine ⟨by omega, fun h => by omega, fun z hz => ?_⟩
     have := low z hz
     exact ⟨by omega, fun h => by omega⟩
   ·rw [if_neg a3] at htl
    obtain rfl : t = 3 := htl.symm
    have e : rn d 3 = d + 1 := by rw [hr]; rfl
    rw [e, e4]
    refine ⟨by omega, fun h => by omega, fun z hz => ?_⟩
    obtain rfl : d = z := by omega
    rw [e3]
    exact ⟨by omega, fun h => by omega⟩
theorem rz_big {m n : Nat} {X U : Nat} (hU : U ≠ 0) (h : m * 2 ^ n * U = X) : rzv (sg false (m * 2 ^ n)) 1 = rzv (X : Int) U := by
 refine rzv_same (by decide) hU ?_
 have e : sg false (m * 2 ^ n) = ((m * 2 ^ n : Nat) : Int) := rfl
 rw [e, ← Int.natCast_mul, h]
 exact (Int.mul_one _).symm
theorem whole_big (m j X : Nat) (mi c : Int) (hmi : mi = (m : Int)) (hc : c = (j : Int)) (hm : m < 18446744073709551616) (hj : j ≤ 3000) (hX : m * 2 ^ j * 2 ^ uN = X) (k : Nat) (hk : 20000000 < k) : plumblaw07_whole.f k false mi c = some (rzv (X : Int) (2 ^ uN)) := by
 rw [hmi, hc, whole_ok false m j hm hj k hk, rz_big (Nat.ne_of_gt (Nat.pow_pos (by decide))) hX]
theorem top_ok (k : Nat) (hk : 20000000 < k) : plumblaw07_whole.f k false 1 1024 = some (rzv (pV (gP + 1)) (2 ^ uN)) := by
 have hu := uN_eq
 obtain ⟨n, hn⟩ : ∃ n : Nat, n = 2046 := ⟨_, rfl⟩
 obtain ⟨j, hj⟩ : ∃ j : Nat, j = 1024 := ⟨_, rfl⟩
 have e := pV_pow n
 have hg : n * 4503599627370496 + 4503599627370496 = gP + 1 := by rw [show gP = 9218868437227405311 from rfl]; omega
 rw [hg] at e
 exact whole_big 1 j (pV (gP + 1)) 1 1024 rfl (by omega) (by decide) (by omega) (by rw [e, Nat.one_mul, ← Nat.pow_add, show j + uN = 52 + n from by omega]) k hk
theorem last_ok (k : Nat) (hk : 20000000 < k) : plumblaw07_whole.f k false 9007199254740991 971 = some (rzv (pV gP) (2 ^ uN)) := by
 have hu := uN_eq
 obtain ⟨n, hn⟩ : ∃ n : Nat, n = 2045 := ⟨_, rfl⟩
 obtain ⟨j, hj⟩ : ∃ j : Nat, j = 971 := ⟨_, rfl⟩
 have e := (pV_at (s := n) (q := 9007199254740991) (by decide) (.inr (by decide))).1
 have hg : n * 4503599627370496 + 9007199254740991 = gP := by rw [show gP = 9218868437227405311 from rfl]; omega
 rw [hg] at e
 exact whole_big 9007199254740991 j (pV gP) 9007199254740991 971 rfl (by omega) (by decide) (by omega) (by rw [e, Nat.mul_assoc, ← Nat.pow_add, show j + uN = n from by omega]) k hk
theorem above_ok {z : Nat} (hz : z < 9218868437227405312) (k : Nat) (hk : 2 ^ uN + 30000000 < k) :
  plumblaw07_above.f k (z : Int) = some ((rzv (pV (z + 1)) (2 ^ uN)).1, (rzv (pV (z + 1)) (2 ^ uN)).2.1, (rzv (pV (z + 1)) (2 ^ uN)).2.2, true) := by
 have hU1 : 0 < 2 ^ uN := Nat.pow_pos (by decide)
 have k0 : 20000000 < k := by omega
 rw [plumblaw07_above.f]
 by_cases h : z = 9218868437227405311
 ·have hg : gP + 1 = z + 1 := by rw [h]; rfl
  have w := top_ok k k0
  rw [hg] at w
  rw [if_pos (by rw [h]; rfl), w, Option.bind_some]
 ·have hw : IntKind.u64.wrap ((z : Int) + 1) = ((z + 1 : Nat) : Int) := by rw [u64w_of (by omega) (by omega)]; omega
  rw [if_neg (by omega), hw, value_nat (by omega) k hk, Option.bind_some]
theorem and_one_nat {z : Nat} (hz : z < 9223372036854775808) : Go.bits .and .u64 (z : Int) 1 = ((z % 2 : Nat) : Int) := by
 rw [show Go.bits .and .u64 (z : Int) 1 = (z : Int) % 2 ^ 1 from and_mask (by omega) (by omega) 1 (by omega) _ rfl, show (2 : Int) ^ 1 = 2 from by decide]; omega
theorem near_j2 (A B z : Nat) (hB : 0 < B) (hz : z < 9218868437227405312) (b : Nat) (hb1 : 3840 ≤ b) (hb2 : b ≤ 20000) (bA : A < 2 ^ b) (bB : B < 2 ^ b)
  (hlow : ∀ y, z = y + 1 → (pV y + pV z) * B ≤ 2 * (A * 2 ^ uN) ∧ ((pV y + pV z) * B = 2 * (A * 2 ^ uN) → z % 2 = 0)) (k : Nat) (hk : (2 ^ uN * 2 ^ uN + B * B) * 2 + 2 * 2 ^ uN + 2 * B + 30000010 < k) :
  plumblaw07_NearNearest.j2 (k + 1) (z : Int) false (rzv (A : Int) B).1 (rzv (A : Int) B).2.1 (rzv (A : Int) B).2.2 (rzv (pV z) (2 ^ uN)).1 (rzv (pV z) (2 ^ uN)).2.1 (rzv (pV z) (2 ^ uN)).2.2 = some true := by
 have hU1 : 0 < 2 ^ uN := Nat.pow_pos (by decide)
 have k1 : 2 ^ uN + 30000000 < k := by omega
 have k2 : (2 ^ uN * 2 ^ uN + B * B) * 2 + 2 * 2 ^ uN + 2 * B + 30000000 < k := by omega
 rw [plumblaw07_NearNearest.j2, if_neg (by decide)]
 by_cases h0 : z = 0
 ·rw [if_pos (by omega)]
 ·obtain ⟨y, rfl⟩ : ∃ y, z = y + 1 := ⟨z - 1, by omega⟩
  obtain ⟨l1, l2⟩ := hlow y rfl
  have hw : IntKind.u64.wrap (((y + 1 : Nat) : Int) - 1) = (y : Int) := by rw [u64w_of (by omega) (by omega)]; omega
  have z1 : y < 9218868437227405312 := by omega
  have z2 : y ≤ 9218868437227405312 := by omega
  have z3 : y + 1 ≤ 9218868437227405312 := by omega
  have z4 : y + 1 < 9223372036854775808 := by omega
  have n0 : ¬ ((y + 1 : Nat) : Int) = 0 := by omega
  have hB0 : B ≠ 0 := by omega
  have hU0 : 2 ^ uN ≠ 0 := by omega
  rw [if_neg n0, hw, value_nat z1 k k1, Option.bind_some]
  rw [twice_ok (b := b) hU0 hB0 (pV_ltb hb1 z2) (pV_ltb hb1 z3) (uN_ltb hb1) bA bB hb2 k k2, Option.bind_some, if_pos rfl]
  rw [Nat.mul_assoc 2 A]
  rcases cmpI_cases ((2 * (A * 2 ^ uN) : Nat) : Int) (((pV y + pV (y + 1)) * B : Nat) : Int) with ⟨h, e⟩ | ⟨h, e⟩ | ⟨h, e⟩
  ·exact absurd (Int.ofNat_lt.1 h) (Nat.not_lt.2 l1)
  ·have h2 := l2 (Int.ofNat_inj.1 h).symm
   rw [e, if_pos (show (0 : Int) ≥ 0 by decide), if_pos (show (0 : Int) < 9 by decide), if_neg (show ¬ (0 : Int) > 0 by decide), and_one_nat z4, h2]
   rfl
  ·rw [e, if_pos (show (1 : Int) ≥ 0 by decide), if_pos (show (1 : Int) < 9 by decide), if_pos (show (1 : Int) > 0 by decide)]
theorem near_j1 (neg : Bool) (A B z : Nat) (hB : 0 < B) (hz : z < 9218868437227405312) (b : Nat) (hb1 : 3840 ≤ b) (hb2 : b ≤ 20000) (bA : A < 2 ^ b) (bB : B < 2 ^ b)
  (hup : 2 * (A * 2 ^ uN) ≤ (pV z + pV (z + 1)) * B) (hev : 2 * (A * 2 ^ uN) = (pV z + pV (z + 1)) * B → z % 2 = 0)
  (hlow : ∀ y, z = y + 1 → (pV y + pV z) * B ≤ 2 * (A * 2 ^ uN) ∧ ((pV y + pV z) * B = 2 * (A * 2 ^ uN) → z % 2 = 0)) (k : Nat) (hk : (2 ^ uN * 2 ^ uN + B * B) * 2 + 2 * 2 ^ uN + 2 * B + 30000020 < k) :
  plumblaw07_NearNearest.j1 k (sgn neg + (z : Int)) false (rzv (A : Int) B).1 (rzv (A : Int) B).2.1 (rzv (A : Int) B).2.2 = some true := by
 have hU1 : 0 < 2 ^ uN := Nat.pow_pos (by decide)
 obtain ⟨k, rfl⟩ : ∃ j, k = j + 2 := ⟨k - 2, by omega⟩
 have k1 : 2 ^ uN + 30000000 < k + 1 := by omega
 have k2 : (2 ^ uN * 2 ^ uN + B * B) * 2 + 2 * 2 ^ uN + 2 * B + 30000000 < k + 1 := by omega
 have k3 : (2 ^ uN * 2 ^ uN + B * B) * 2 + 2 * 2 ^ uN + 2 * B + 30000010 < k := by omega
 have h2 := near_j2 A B z hB hz b hb1 hb2 bA bB hlow k k3
 have z2 : z ≤ 9218868437227405312 := by omega
 have z3 : z + 1 ≤ 9218868437227405312 := by omega
 have z4 : z < 9223372036854775808 := by omega
 have hB0 : B ≠ 0 := by omega
 have hU0 : 2 ^ uN ≠ 0 := by omega
 have hM : z % 2 = 0 → ((z : Int) == 9218868437227405311) = false := fun h => beq_eq_false_iff_ne.2 (by omega)
 have hO : z % 2 = 0 → ¬ ((z % 2 : Nat) : Int) = 1 := fun h => by omega
 rw [plumblaw07_NearNearest.j1, if_neg (by decide), andNot_sgn neg z4, value_nat hz (k + 1) k1, Option.bind_some, above_ok hz (k + 1) k1, Option.bind_some]
 rw [twice_ok (b := b) hU0 hB0 (pV_ltb hb1 z2) (pV_ltb hb1 z3) (uN_ltb hb1) bA bB hb2 (k + 1) k2, Option.bind_some, if_pos rfl, if_pos rfl]
 rw [Nat.mul_assoc 2 A]
 rcases cmpI_cases ((2 * (A * 2 ^ uN) : Nat) : Int) (((pV z + pV (z + 1)) * B : Nat) : Int) with ⟨h, e⟩ | ⟨h, e⟩ | ⟨h, e⟩
 ·rw [e, if_neg (show ¬ (-1 : Int) > 0 by decide), if_neg (show ¬ (-1 : Int) = 0 by decide)]
  exact h2
 ·have h3 := hev (Int.ofNat_inj.1 h)
  rw [e, if_neg (show ¬ (0 : Int) > 0 by decide), if_pos rfl, and_one_nat z4, if_neg (hO h3), hM h3]
  exact h2
 ·exact absurd (Int.ofNat_lt.1 h) (Nat.not_lt.2 hup)
theorem near_j0 (neg : Bool) (x y : List Int) (hx : Ws x) (hy : Ws y) (lx : x.length ≤ 60) (ly : y.length ≤ 60) (A B : Nat) (vx : nv x = (A : Int)) (vy : nv y = (B : Int)) (hB : 0 < B) (b : Nat) (hb1 : 3840 ≤ b) (hb2 : b ≤ 20000) (bA : A < 2 ^ b) (bB : B < 2 ^ b) (k : Nat) (hk : (2 ^ uN * 2 ^ uN + B * B) * 2 + 2 * 2 ^ uN + 2 * B + 200000000 < k) :
  plumblaw07_NearNearest.j0 k false neg x y (rzv (sg neg A) B).1 (rzv (sg neg A) B).2.1 (rzv (sg neg A) B).2.2 = some true := by
 have hg : gP = 9218868437227405311 := rfl
 have hU1 : 0 < 2 ^ uN := Nat.pow_pos (by decide)
 obtain ⟨k, rfl⟩ : ∃ j, k = j + 1 := ⟨k - 1, by omega⟩
 have k1 : (2 ^ uN * 2 ^ uN + B * B) * 2 + 2 * 2 ^ uN + 2 * B + 30000020 < k := by omega
 have k2 : (2 ^ uN * 2 ^ uN + B * B) * 2 + 2 * 2 ^ uN + 2 * B + 30000000 < k := by omega
 have k3 : 100000000 < k := by omega
 have k4 : 20000000 < k := by omega
 have hB0 : B ≠ 0 := by omega
 have hU0 : 2 ^ uN ≠ 0 := by omega
 obtain ⟨d, t, r, htl, hq⟩ := quo_RS (A := A) hB
 obtain ⟨g1, g2, g3⟩ := rn_half hB r htl
 have q : near_Quotient.f k neg x y 0 = some (RS 0 neg d t) := by rw [near_Quotient.f_eq neg x y hx hy (by omega) (by omega) A B vx vy 0 k k3, hq 0 neg (by decide) (by decide)]
 rw [plumblaw07_NearNearest.j0, if_neg (by decide), q, Option.bind_some, size_rz, Option.bind_some, RS_even]
 by_cases ho : gP < rn d t
 ·rw [if_pos ho, plumblaw07_num.f, Option.bind_some, if_pos rfl]
  rw [top_ok k k4, Option.bind_some, last_ok k k4, Option.bind_some]
  rw [twice_ok (b := b) hU0 hB0 (pV_ltb hb1 (by decide)) (pV_ltb hb1 (by decide)) (uN_ltb hb1) bA bB hb2 k k2, Option.bind_some, if_pos rfl]
  have hge : (pV gP + pV (gP + 1)) * B ≤ 2 * (A * 2 ^ uN) := by
   obtain ⟨z, hz⟩ : ∃ z, rn d t = z + 1 := ⟨rn d t - 1, by omega⟩
   have h1 := (g3 z hz).1
   have h2 : pV gP ≤ pV z := pV_le (by omega)
   have h3 : pV (gP + 1) ≤ pV (rn d t) := pV_le ho
   exact Nat.le_trans (Nat.mul_le_mul_right B (Nat.add_le_add h2 h3)) h1
  rw [Nat.mul_assoc 2 A, Nat.add_comm (pV (gP + 1))]
  rcases cmpI_cases ((2 * (A * 2 ^ uN) : Nat) : Int) (((pV gP + pV (gP + 1)) * B : Nat) : Int) with ⟨h, e'⟩ | ⟨h, e'⟩ | ⟨h, e'⟩
  ·exact absurd (Int.ofNat_lt.1 h) (Nat.not_lt.2 hge)
  ·rw [e', if_pos (show (0 : Int) ≥ 0 by decide)]; rfl
  ·rw [e', if_pos (show (1 : Int) ≥ 0 by decide)]; rfl
 ·have hz : rn d t < 9218868437227405312 := by omega
  have hz2 : rn d t < 9223372036854775808 := by omega
  have h1 := near_j1 neg A B (rn d t) hB hz b hb1 hb2 bA bB g1 g2 g3 k k1
  rw [if_neg ho, plumblaw07_num.f, Option.bind_some, if_neg (show ¬ (0 : Int) = 70 by decide), Option.bind_some, if_pos rfl, and_sgn neg hz2, nbne_self]
  exact h1
theorem nearNearest_pure (neg : Bool) (l1 l2 : List Int) (hl1 : ∀ x ∈ l1, 0 ≤ x ∧ x < 18446744073709551616) (hl2 : ∀ x ∈ l2, 0 ≤ x ∧ x < 18446744073709551616) : ∃ k, plumblaw07_NearNearest.f k neg l1 l2 = some true := by
 obtain ⟨t, ht⟩ : ∃ t : Nat, t = 3840 := ⟨_, rfl⟩
 obtain ⟨x, y, A, B, hx, hy, lx, ly, vx, vy, hB, bA, bB, hex⟩ := exact_ok neg l1 l2 hl1 hl2 t ht
 have hU1 : 0 < 2 ^ uN := Nat.pow_pos (by decide)
 obtain ⟨k, hk⟩ : ∃ k : Nat, k = (2 ^ uN * 2 ^ uN + B * B) * 2 + 2 * 2 ^ uN + 2 * B + 200000001 := ⟨_, rfl⟩
 refine ⟨k, ?_⟩
 rw [plumblaw07_NearNearest.f, hex k (by omega), Option.bind_some, if_pos rfl, fixed_at k (by omega), Option.bind_some]
 exact near_j0 neg x y hx hy lx ly A B vx vy hB t (by omega) (by omega) bA bB k (by omega)
end Go.Proofs.YtoefabmlkbhmpaaDoor.Pure
namespace Go.Proofs.YtoefabmlkbhmpaaDoorW.PrintWords
open Go
theorem trod_pairs {H : Type} {enc : TypeId × Value → H} {P : Program} {w : World} {base : Nat} {spare : Nat → Bool} {held : Bool} {fuel : Nat} {ty e1 e2 : TypeId} {n : Nat} {cs : List Value} {L : List (List Bool)} {p : List MemPlace}
  (hu : P.underlying ty = some (.array n e1)) (he : P.underlying e1 = some (.array 2 e2)) (hb : P.underlying e2 = some .bool) (hc1 : P.cellsOf e1 = 2) (hc2 : P.cellsOf e2 = 1)
  (h : DataW.trod enc P w base spare held fuel ty cs = some (.agg (L.map fun r => .agg (r.map fun b => .lit (.bool b))), p)) : ∀ i, i < n → ∀ j, j < 2 → cs[2 * i + j]? = some (.bool ((L.getD i []).getD j false)) := by
 obtain ⟨xs, m, rfl, hx, hlen, hn, hel⟩ := DataW.trod_array hu h
 intro i hi j hj
 have h1 := hel i hi
 rw [hc1] at h1
 have hxi : i < xs.length := by omega
 rw [List.getElem?_eq_getElem hxi] at h1
 obtain ⟨ys, m2, rfl, hy, hlen2, hn2, hel2⟩ := DataW.trod_array he h1
 have h2 := hel2 j hj
 rw [hc2, Nat.mul_one] at h2
 have hyj : j < ys.length := by omega
 rw [List.getElem?_eq_getElem hyj] at h2
 obtain ⟨b, e1_, e2_⟩ := DataW.trod_bool hb h2
 simp only [Prod.mk.injEq, DataW.agg.injEq] at hx
 have h3 : (L.map fun r => (DataW.agg (r.map fun b => .lit (.bool b)) : DataW H))[i]? = (xs.map (·.1))[i]? := by rw [hx.1]
 rw [List.getElem?_map, List.getElem?_map, List.getElem?_eq_getElem hxi] at h3
 simp only [Option.map_some] at h3
 cases hL : L[i]? with
 | none => rw [hL] at h3; simp at h3
 | some r =>
  rw [hL] at h3
  simp only [Option.map_some, Option.some.injEq] at h3
  rw [hy] at h3
  simp only [DataW.agg.injEq] at h3
  have h4 : (r.map fun b => (DataW.lit (.bool b) : DataW H))[j]? = (ys.map (·.1))[j]? := by rw [h3]
  rw [List.getElem?_map, List.getElem?_map, List.getElem?_eq_getElem hyj, Option.map_some, e2_] at h4
  have h5 : r[j]? = some b := by
   cases hr : r[j]? with
   | none => rw [hr] at h4; simp at h4
   | some y => rw [hr] at h4; simp at h4; rw [h4]
  have h6 : ((((cs.drop (i * 2)).take 2).drop j).take 1)[0]? = some (.bool b) := by rw [e1_]; rfl
  rw [List.getElem?_take, if_pos (by decide), List.getElem?_drop, Nat.add_zero, List.getElem?_take, if_pos hj, List.getElem?_drop] at h6
  rw [Nat.mul_comm, h6, List.getD_eq_getElem?_getD, List.getD_eq_getElem?_getD, hL, Option.getD_some, h5]
  rfl
theorem open_three {H : Type} {enc : TypeId × Value → H} {P : Program} {w : World} {base b0 : Nat} {spare : Nat → Bool} {held : Bool} {r : Reach} {t : TypeId} {f0 f1 f2 : Field} {v : Value} {d : DataW H} {p : List MemPlace} (hs : P.underlying t = some (.struct #[f0, f1, f2]))
  (hC : P.cellsOf t = 3) (o0 : f0.offset = 0) (o1 : f1.offset = 1) (o2 : f2.offset = 2) (k0 : P.cellsOf f0.type = 1) (k1 : P.cellsOf f1.type = 1) (k2 : P.cellsOf f2.type = 1)
  (hv : Value.okWide P w r b0 t v) (h : DataW.Trod enc P w base spare held t v d p) :
  ∃ (v0 v1 v2 : Value) (y0 y1 y2 : DataW H × List MemPlace) (n : Nat), v = .agg #[v0, v1, v2] ∧ d = .agg [y0.1, y1.1, y2.1] ∧
   DataW.trod enc P w base spare held n f0.type [v0] = some y0 ∧ DataW.trod enc P w base spare held n f1.type [v1] = some y1 ∧ DataW.trod enc P w base spare held n f2.type [v2] = some y2 := by
 obtain ⟨cs, rfl, hsz⟩ := WideShapes.okWide_struct hs hv
 rw [hC] at hsz
 obtain ⟨l⟩ := cs
 match l, hsz with
 | [c0, c1, c2], _ =>
  obtain ⟨fuel, hf⟩ := h
  obtain ⟨xs, n, _, hx, hl, hlen, hg⟩ := DataW.trod_struct hs hf
  match xs, hlen with
  | [y0, y1, y2], _ =>
   have g0 := hg 0 f0 rfl
   have g1 := hg 1 f1 rfl
   have g2 := hg 2 f2 rfl
   rw [o0, k0] at g0
   rw [o1, k1] at g1
   rw [o2, k2] at g2
   simp only [Prod.mk.injEq, List.map_cons, List.map_nil] at hx
   exact ⟨c0, c1, c2, y0, y1, y2, n, rfl, hx.1, by simpa [Value.cells] using g0, by simpa [Value.cells] using g1, by simpa [Value.cells] using g2⟩
end Go.Proofs.YtoefabmlkbhmpaaDoorW.PrintWords
