/- A part of the proof (16). -/
import Derived.Test.YtiogfeeaepkkmaaYKGVKG2
import Derived.Test.YtiogfeeaepkkmaaYKGVKG3
import Derived.Test.YtiogfeeaepkkmaaYKGVKG4
import Derived.Test.YtiogfeeaepkkmaaYKGVKG5
import Derived.Test.YtiogfeeaepkkmaaYKGVKG6
import Derived.Test.YtiogfeeaepkkmaaYKGVKG7
import Derived.Test.YtiogfeeaepkkmaaYKGVKG8
import Derived.Test.YtiogfeeaepkkmaaYKGVKG9
import Derived.Test.YtiogfeeaepkkmaaYKGVKG10
import Derived.Test.YtiogfeeaepkkmaaYKGVKG11
import Derived.Test.YtiogfeeaepkkmaaYKGVKG12
import Derived.Test.YtiogfeeaepkkmaaYKGVKG13
import Derived.Test.YtiogfeeaepkkmaaYKGVKG14
namespace Go.Proofs.Ytiogfeeaepkkmaa.PA
open Go.RowKit Go.Proofs.YtiogfeeaepkkmaaW.PrintWords Go.Proofs.YtiogfeeaepkkmaaW.PrintLast Go.Proofs.YtiogfeeaepkkmaaW.PrintMore
attribute [local go_sem] max2_int min2_int max_two min_two max_three min_three max_four min_four
set_option linter.unusedVariables false
set_option linter.unusedSimpArgs false
theorem strip_last {xs : List Int} (h : 0 < (strip xs).length) : xs.getD ((strip xs).length - 1) 0 ≠ 0 := by
 induction xs with
 | nil => simp [strip] at h
 | cons x xs ih =>
  rw [strip_cons] at h ⊢
  by_cases hs : strip xs = []
  ·rw [if_pos hs] at h ⊢
   by_cases hx : x = 0
   ·rw [if_pos hx] at h; simp at h
   ·rw [if_neg hx]; simpa using hx
  ·rw [if_neg hs]
   have h1 : 0 < (strip xs).length := by
    rcases Nat.eq_zero_or_pos (strip xs).length with h0 | h0
    ·exact absurd (List.eq_nil_of_length_eq_zero h0) hs
    ·exact h0
   have h2 := ih h1
   rw [List.length_cons, show (strip xs).length + 1 - 1 = ((strip xs).length - 1) + 1 from by omega, List.getD_cons_succ]
   exact h2
theorem nv_split {xs : List Int} {n : Nat} (h : n ≤ xs.length) : nv xs = nv (xs.take n) + 2 ^ (64 * n) * nv (xs.drop n) := by
 conv => lhs; rw [← List.take_append_drop n xs, nv_append]
 rw [List.length_take, Nat.min_eq_left h]
theorem nv_top {xs : List Int} (h : Ws xs) {n : Nat} (hn : (strip xs).length = n + 1) : nv xs / 2 ^ (64 * n) = xs.getD n 0 := by
 have hl := strip_length_le xs
 have e : nv xs = nv (xs.take n) + 2 ^ (64 * n) * xs.getD n 0 := by
  rw [← nv_strip xs, strip_take xs, hn, List.take_succ_eq_append_getElem (by omega), nv_append, List.length_take, Nat.min_eq_left (by omega), List.getD_eq_getElem?_getD, List.getElem?_eq_getElem (by omega)]
  simp [nv]
 have h1 := nv_nonneg (h.take n)
 have h2 := nv_lt (h.take n)
 rw [List.length_take, Nat.min_eq_left (by omega)] at h2
 rw [e, Int.add_mul_ediv_left _ _ (by omega), Int.ediv_eq_zero_of_lt h1 h2, Int.zero_add]
theorem nat_Bits.f_eq (xs : List Int) (h : Ws xs) (hl : xs.length ≤ 35184372088832) (k : Nat) (hk : xs.length < k) (hk7 : 7 ≤ k) : nat_Bits.f k xs = some (bitsN (nv xs)) := by
 rw [nat_Bits.f, nat_size.f_eq xs (by omega) k hk]
 simp only [Option.bind_some]
 have hsl := strip_length_le xs
 rcases Nat.eq_zero_or_pos (strip xs).length with h0 | h0
 ·rw [if_pos (by omega)]
  have : nv xs = 0 := by rw [← nv_strip, List.eq_nil_of_length_eq_zero h0]; rfl
  rw [this]; rfl
 ·obtain ⟨n, hn⟩ : ∃ n, (strip xs).length = n + 1 := ⟨(strip xs).length - 1, by omega⟩
  rw [hn, if_neg (by omega)]
  have ew : wrap64 (((n + 1 : Nat) : Int) - 1) = (n : Int) := by unfold wrap64; omega
  rw [ew, if_pos (by omega), if_pos (by omega)]
  clear ew
  have er : rd xs (n : Int) = xs.getD n 0 := rfl
  have ho := h.getD n
  have hne := strip_last h0
  rw [hn, Nat.add_sub_cancel] at hne
  rw [er, wide_Len.f_eq ho.1 ho.2 k hk7]
  simp only [Option.bind_some]
  have ht := nv_top h hn
  have hge : (2 : Int) ^ (64 * n) ≤ nv xs := by
   have h1 := Int.mul_ediv_add_emod (nv xs) (2 ^ (64 * n))
   have h2 := Int.emod_nonneg (nv xs) (show (2 : Int) ^ (64 * n) ≠ 0 by have := two_pow_pos (64 * n); omega)
   have h3 := Int.mul_le_mul_of_nonneg_left (show 1 ≤ nv xs / 2 ^ (64 * n) by omega) (Int.le_of_lt (two_pow_pos (64 * n)))
   omega
  rw [bitsN_div (64 * n) hge, ht]
  have hb := bitsN_le_of_lt (n := 64) ho.1 ho.2
  have hb0 := bitsN_nonneg (xs.getD n 0)
  clear ho hne ht hge
  generalize bitsN (xs.getD n 0) = z at *
  congr 1
  unfold wrap64
  omega
theorem nat_bound.f_eq (xs : List Int) (hl : xs.length ≤ 35184372088832) (k : Nat) (hk : xs.length < k) : nat_bound.f k xs = some (if (strip xs).length ≤ 4096 then (strip xs, 0) else ([], 21)) := by
 rw [nat_bound.f, nat_size.f_eq xs (by omega) k hk]
 simp only [Option.bind_some]
 have hsl := strip_length_le xs
 by_cases h : (strip xs).length ≤ 4096
 ·rw [if_pos (by omega), if_pos (by omega), if_pos (by omega), if_pos h, Int.toNat_natCast, ← strip_take]
 ·rw [if_neg (by omega), if_neg h]
theorem strip_len_le {xs : List Int} (h : Ws xs) (n : Nat) : (strip xs).length ≤ n ↔ nv xs < 2 ^ (64 * n) := by
 constructor
 ·intro hn
  have h1 := nv_lt h.strip
  rw [nv_strip] at h1
  have := pow_mono (show 64 * (strip xs).length ≤ 64 * n from by omega)
  omega
 ·intro hn
  apply Classical.byContradiction
  intro hc
  obtain ⟨m, hm⟩ : ∃ m, (strip xs).length = m + 1 := ⟨(strip xs).length - 1, by omega⟩
  have h1 := strip_last (xs := xs) (by omega)
  rw [hm, Nat.add_sub_cancel] at h1
  have ht := nv_top h hm
  have ho := h.getD m
  have h2 := Int.mul_ediv_add_emod (nv xs) (2 ^ (64 * m))
  have h3 := Int.emod_nonneg (nv xs) (show (2 : Int) ^ (64 * m) ≠ 0 by have := two_pow_pos (64 * m); omega)
  have h4 := Int.mul_le_mul_of_nonneg_left (show 1 ≤ nv xs / 2 ^ (64 * m) by omega) (Int.le_of_lt (two_pow_pos (64 * m)))
  have h5 := pow_mono (show 64 * n ≤ 64 * m from by omega)
  omega
def bnd (n : Int) : List Int × Int := if n < 2 ^ 262144 then (wd n.toNat, 0) else ([], 21)
theorem nat_bound.f_bnd {xs : List Int} (h : Ws xs) (hl : xs.length ≤ 35184372088832) (k : Nat) (hk : xs.length < k) : nat_bound.f k xs = some (bnd (nv xs)) := by
 rw [nat_bound.f_eq xs hl k hk]
 congr 1
 unfold bnd
 have := strip_len_le h 4096
 by_cases h1 : (strip xs).length ≤ 4096
 ·rw [if_pos h1, if_pos (this.1 h1), wd_nv h]
 ·rw [if_neg h1, if_neg (fun h2 => h1 (this.2 h2))]
theorem getD_zero_of_lt {xs : List Int} (h : Ws xs) {t : Nat} (hl : nv xs < 2 ^ (64 * t)) : xs.getD t 0 = 0 := by
 by_cases ht : t < xs.length
 ·have e := nv_split (xs := xs) (n := t) (by omega)
  have h1 := nv_nonneg (h.take t)
  have h2 := nv_nonneg (h.drop t)
  have hp := two_pow_pos (64 * t)
  have h3 : nv (xs.drop t) < 1 := by
   apply Classical.byContradiction
   intro hc
   have := Int.mul_le_mul_of_nonneg_left (show 1 ≤ nv (xs.drop t) by omega) (Int.le_of_lt hp)
   omega
  have h4 : nv (xs.drop t) = 0 := by omega
  rw [List.drop_eq_getElem_cons ht, nv_cons] at h4
  have h5 := nv_nonneg (h.drop (t + 1))
  have h6 := h.getD t
  rw [List.getD_eq_getElem?_getD, List.getElem?_eq_getElem ht] at h6 ⊢
  simp only [Option.getD_some] at h6 ⊢
  omega
 ·rw [List.getD_eq_getElem?_getD, List.getElem?_eq_none (by omega)]; rfl
theorem set_getD_ne {xs : List Int} {i j : Nat} {v : Int} (h : i ≠ j) : (xs.set i v).getD j 0 = xs.getD j 0 := by
 rw [List.getD_eq_getElem?_getD, List.getD_eq_getElem?_getD, List.getElem?_set_ne h]
theorem mul_step {a b o c : Int} (ha0 : 0 ≤ a) (ha : a < 18446744073709551616) (hb0 : 0 ≤ b) (hb : b < 18446744073709551616) (ho0 : 0 ≤ o) (ho : o < 18446744073709551616) (hc0 : 0 ≤ c) (hc : c < 18446744073709551616) :
  ∃ lo hi k1 k2 v c' : Int, a * b = hi * 18446744073709551616 + lo ∧ 0 ≤ lo ∧ lo < 18446744073709551616 ∧
   wide_Mul.f a b = some (hi, lo) ∧ ∃ s, wide_Add.f lo o 0 = some (s, k1) ∧ wide_Add.f s c 0 = some (v, k2) ∧ IntKind.u64.wrap (IntKind.u64.wrap (hi + k1) + k2) = c' ∧
   v + c' * 18446744073709551616 = a * b + o + c ∧ 0 ≤ v ∧ v < 18446744073709551616 ∧ 0 ≤ c' ∧ c' < 18446744073709551616 := by
 have hab0 : 0 ≤ a * b := Int.mul_nonneg ha0 hb0
 have hab : a * b ≤ 18446744073709551615 * 18446744073709551615 := Int.mul_le_mul (by omega) (by omega) hb0 (by omega)
 refine ⟨a * b % 18446744073709551616, a * b / 18446744073709551616, _, _, _, _, by omega, by omega, by omega, ?_, _, wide_Add.f_eq (by omega) (by omega) ho0 ho (by omega) (by omega), wide_Add.f_eq (by omega) (by omega) hc0 hc (by omega) (by omega), rfl, ?_, by omega, by omega, ?_, ?_⟩
 ·unfold wide_Mul.f
  rw [if_pos (u64B_iff.2 ⟨ha0, ha⟩), if_pos (u64B_iff.2 ⟨hb0, hb⟩)]
 ·simp only [u64w]
  generalize a * b = p at *
  omega
 ·simp only [u64w]; omega
 ·simp only [u64w]; omega
theorem w64_add (i j : Nat) (h : i + j < 9223372036854775808) : wrap64 ((i : Int) + (j : Int)) = ((i + j : Nat) : Int) := by unfold wrap64; omega
theorem w64_succ (i : Nat) (h : i < 9223372036854775807) : wrap64 ((i : Int) + 1) = ((i + 1 : Nat) : Int) := by unfold wrap64; omega
theorem nat_Mul.l1_eq (x y : List Int) (hy : Ws y) (i m : Nat) (a : Int) (ha0 : 0 ≤ a) (ha : a < 18446744073709551616) (hm : m ≤ 35184372088832) (him : i + y.length < m) :
  ∀ (d k : Nat) (out : List Int) (c : Int) (j : Nat), d = y.length - j → j ≤ y.length → out.length = m → Ws out → 0 ≤ c → c < 18446744073709551616 → out.getD (i + y.length) 0 = 0 →
  ∃ out' c', Ws out' ∧ out'.length = m ∧ 0 ≤ c' ∧ c' < 18446744073709551616 ∧ out'.getD (i + y.length) 0 = 0 ∧
   nv out' + c' * 2 ^ (64 * (i + y.length)) + a * nv (y.take j) * 2 ^ (64 * i) = nv out + c * 2 ^ (64 * (i + j)) + a * nv y * 2 ^ (64 * i) ∧
   nat_Mul.l1 (k + d + 1) y out i a c x (x.length : Int) i y (y.length : Int) j = nat_Mul.l0 k y (out'.set (i + y.length) c') x (x.length : Int) ((i + 1 : Nat) : Int) := by
 intro d
 induction d with
 | zero =>
  intro k out c j hd hj hl hw hc0 hc hz
  obtain rfl : j = y.length := by omega
  refine ⟨out, c, hw, hl, hc0, hc, hz, by rw [List.take_length], ?_⟩
  rw [Nat.add_zero]
  conv => lhs; unfold nat_Mul.l1
  rw [if_neg (by omega)]
  have b1 : i + y.length < 9223372036854775808 := by omega
  have b2 : i < 9223372036854775807 := by omega
  have b3 : (0 : Int) ≤ ((i + y.length : Nat) : Int) := by omega
  have b4 : ((i + y.length : Nat) : Int) < (out.length : Int) := by omega
  have ew := w64_add i y.length b1
  have ew2 := w64_succ i b2
  rw [ew, ew2, Int.toNat_natCast]
  rw [if_pos b3, if_pos b4]
 | succ d ih =>
  intro k out c j hd hj hl hw hc0 hc hz
  have b1 : i + j < 9223372036854775808 := by omega
  have b2 : j < 9223372036854775807 := by omega
  have q0 : (j : Int) < (y.length : Int) := by omega
  have q1 : (0 : Int) ≤ (j : Int) := by omega
  have q2 : (0 : Int) ≤ ((i + j : Nat) : Int) := by omega
  have q3 : ((i + j : Nat) : Int) < (out.length : Int) := by omega
  have q4 : d = y.length - (j + 1) := by omega
  have q5 : j + 1 ≤ y.length := by omega
  have q6 : i + j ≠ i + y.length := by omega
  have q7 : i + j < out.length := by omega
  have q8 : j < y.length := by omega
  have ew := w64_add i j b1
  have ew2 := w64_succ j b2
  have hyj := hy.getD j
  have hoj := hw.getD (i + j)
  obtain ⟨lo, hi, k1, k2, v, c', e1, hlo0, hlo, eM, s, eA, eB, ec, ev, hv0, hv, hc0', hc'⟩ := mul_step ha0 ha hyj.1 hyj.2 hoj.1 hoj.2 hc0 hc
  obtain ⟨out', c2, h1, h2, h3, h4, h5, h6, h7⟩ := ih k (out.set (i + j) v) c' (j + 1) q4 q5 (by rw [List.length_set, hl]) (hw.set _ hv0 hv) hc0' hc' (by rw [set_getD_ne q6]; exact hz)
  refine ⟨out', c2, h1, h2, h3, h4, h5, ?_, ?_⟩
  ·rw [nv_set q7, nv_take_succ q8] at h6
   clear ec ew ew2
   rw [show 64 * (i + (j + 1)) = 64 * (i + j + 1) from by omega, pow64, show 64 * (i + j) = 64 * i + 64 * j from by omega, Int.pow_add] at h6
   rw [show 64 * (i + j) = 64 * i + 64 * j from by omega, Int.pow_add]
   generalize (2 : Int) ^ (64 * i) = pi at *
   generalize (2 : Int) ^ (64 * j) = pj at *
   generalize out.getD (i + j) 0 = o at *
   generalize y.getD j 0 = yj at *
   obtain rfl : v = a * yj + o + c - c' * 18446744073709551616 := by omega
   clear eM eA eB h7 ih e1 hyj hoj hlo hlo0
   grind
  ·rw [← h7, show k + (d + 1) + 1 = (k + d + 1) + 1 from by omega]
   conv => lhs; unfold nat_Mul.l1
   have er : rd y (j : Int) = y.getD j 0 := rfl
   have er2 : rd out ((i + j : Nat) : Int) = out.getD (i + j) 0 := rfl
   rw [ew, ew2, er, er2, eM]
   simp only [Option.bind_some]
   rw [if_pos q0, if_pos q1, if_pos q0, if_pos q2, if_pos q3, eA]
   simp only [Option.bind_some]
   rw [eB]
   simp only [Option.bind_some]
   rw [ec, Int.toNat_natCast]
theorem nat_Mul.l0_eq (x y : List Int) (hx : Ws x) (hy : Ws y) (m : Nat) (hm : m ≤ 35184372088832) (hlm : x.length + y.length = m) : ∀ (d k : Nat) (out : List Int) (i : Nat), d = x.length - i → d * (y.length + 2) + m + 1 < k → i ≤ x.length → out.length = m → Ws out → nv out = nv (x.take i) * nv y →
  nat_Mul.l0 k y out x (x.length : Int) i = some (bnd (nv x * nv y)) := by
 intro d
 induction d with
 | zero =>
  intro k out i hd hk hi hl hw hv
  obtain ⟨k, rfl⟩ : ∃ j, k = j + 1 := ⟨k - 1, by omega⟩
  obtain rfl : i = x.length := by omega
  rw [List.take_length] at hv
  simp only [nat_Mul.l0]
  rw [if_neg (by omega), nat_bound.f_bnd hw (by omega) k (by omega), hv]
  rfl
 | succ d ih =>
  intro k out i hd hk hi hl hw hv
  have hk' : d * (y.length + 2) + (y.length + 2) + m + 1 < k := by rw [Nat.succ_mul] at hk; exact hk
  obtain ⟨k, rfl⟩ : ∃ j, k = j + y.length + 1 + 1 := ⟨k - (y.length + 2), by omega⟩
  have hxi := hx.getD i
  have htop : nv out < 2 ^ (64 * (i + y.length)) := by
   rw [hv, show 64 * (i + y.length) = 64 * i + 64 * y.length from by omega, Int.pow_add]
   have h1 := nv_lt (hx.take i)
   rw [List.length_take, Nat.min_eq_left (by omega)] at h1
   have h2 := nv_lt hy
   have h3 := nv_nonneg (hx.take i)
   have h4 := nv_nonneg hy
   have hp := two_pow_pos (64 * i)
   have h5 : nv (x.take i) * nv y ≤ nv (x.take i) * 2 ^ (64 * y.length) := Int.mul_le_mul_of_nonneg_left (by omega) h3
   have h6 : nv (x.take i) * 2 ^ (64 * y.length) < 2 ^ (64 * i) * 2 ^ (64 * y.length) := Int.mul_lt_mul_of_pos_right h1 (two_pow_pos _)
   omega
  obtain ⟨out', c', h1, h2, h3, h4, h5, h6, h7⟩ := nat_Mul.l1_eq x y hy i m (x.getD i 0) hxi.1 hxi.2 hm (by omega) y.length k out 0 0 (by omega) (by omega) hl hw (by omega) (by omega) (getD_zero_of_lt hw htop)
  conv => lhs; unfold nat_Mul.l0
  have er : rd x (i : Int) = x.getD i 0 := rfl
  rw [if_pos (by omega), if_pos (by omega), if_pos (by omega), er]
  have h7' : nat_Mul.l1 (k + y.length + 1) y out i (x.getD i 0) 0 x (x.length : Int) i y (y.length : Int) 0 = nat_Mul.l0 k y (out'.set (i + y.length) c') x (x.length : Int) ((i + 1 : Nat) : Int) := h7
  rw [h7']
  refine ih k _ (i + 1) (by omega) (by omega) (by omega) (by rw [List.length_set, h2]) (h1.set _ h3 h4) ?_
  rw [nv_set (by omega), h5, nv_take_succ (by omega), Int.add_mul, ← hv]
  simp only [List.take_zero, nv_nil] at h6
  generalize (2 : Int) ^ (64 * i) = pi at *
  generalize (2 : Int) ^ (64 * (i + y.length)) = pl at *
  generalize x.getD i 0 = xi at *
  clear h7 h7' er ih hk hk'
  grind
theorem strip_take' (xs : List Int) : xs.take (strip xs).length = strip xs := (strip_take xs).symm
theorem bnd_big {n : Int} (h : (2 : Int) ^ 262144 ≤ n) : bnd n = ([], 21) := by unfold bnd; rw [if_neg (by omega)]
theorem nv_pos_iff {xs : List Int} (h : Ws xs) : 0 < nv xs ↔ (strip xs) ≠ [] := by
 rw [← strip_length_pos h]
 exact ⟨fun h1 h2 => by rw [h2] at h1; simp at h1, fun h1 => List.length_pos_iff.2 h1⟩
theorem nat_Mul.f_eq (x y : List Int) (hx : Ws x) (hy : Ws y) (hlx : x.length ≤ 1000000) (hly : y.length ≤ 1000000) (k : Nat) (hk : x.length * (y.length + 2) + x.length + y.length + 20 < k) :
  nat_Mul.f k x y = some (if nv x * nv y = 0 then ([], 0) else bnd (nv x * nv y)) := by
 have hsx := strip_length_le x
 have hsy := strip_length_le y
 have hm : (strip x).length * ((strip y).length + 2) ≤ x.length * (y.length + 2) := Nat.mul_le_mul hsx (by omega)
 obtain ⟨k, rfl⟩ : ∃ j, k = j + 1 := ⟨k - 1, by omega⟩
 rw [nat_Mul.f, nat_size.f_eq x (by omega) _ (by omega)]
 simp only [Option.bind_some]
 rw [if_pos (by omega), if_pos (by omega), nat_size.f_eq y (by omega) _ (by omega)]
 simp only [Option.bind_some]
 rw [if_pos (by omega), if_pos (by omega), Int.toNat_natCast, Int.toNat_natCast, strip_take', strip_take']
 have ex := nv_strip x
 have ey := nv_strip y
 have wx := hx.strip
 have wy := hy.strip
 have px := nv_pos_iff hx
 have py := nv_pos_iff hy
 rw [← ex, ← ey] at *
 generalize strip x = x' at *
 generalize strip y = y' at *
 have nx := nv_nonneg wx
 have ny := nv_nonneg wy
 by_cases h0 : x' = []
 ·subst h0
  rw [if_pos (by simp), nat_Mul.j0, if_pos rfl]
  simp [nv]
 ·have hx0 : x'.length ≠ 0 := fun h => h0 (List.eq_nil_of_length_eq_zero h)
  rw [if_neg (by omega)]
  by_cases h1 : y' = []
  ·subst h1
   rw [nat_Mul.j0, if_pos (by simp)]
   simp [nv]
  ·have hy0 : y'.length ≠ 0 := fun h => h1 (List.eq_nil_of_length_eq_zero h)
   have hpx := px.2 h0
   have hpy := py.2 h1
   have hp : 0 < nv x' * nv y' := Int.mul_pos hpx hpy
   rw [nat_Mul.j0, if_neg (by simp only [beq_iff_eq]; omega), nat_Bits.f_eq x' wx (by omega) k (by omega) (by omega), if_neg (show ¬ nv x' * nv y' = 0 by omega)]
   simp only [Option.bind_some]
   rw [nat_Bits.f_eq y' wy (by omega) k (by omega) (by omega)]
   simp only [Option.bind_some]
   have bx := bitsN_ge hpx
   have by_ := bitsN_ge hpy
   have bx1 := bitsN_pos hpx
   have by1 := bitsN_pos hpy
   have bx2 := bitsN_le_of_lt (n := 64 * x'.length) nx (nv_lt wx)
   have by2 := bitsN_le_of_lt (n := 64 * y'.length) ny (nv_lt wy)
   have hbx : 1 ≤ bitsN (nv x') := by omega
   have hby : 1 ≤ bitsN (nv y') := by omega
   clear bx1 by1
   have ew : wrap64 (bitsN (nv x') - 1) = bitsN (nv x') - 1 := by unfold wrap64; omega
   have ew2 : wrap64 (262144 - bitsN (nv y')) = 262144 - bitsN (nv y') := by clear ew; unfold wrap64; omega
   rw [ew, ew2]
   clear ew ew2
   by_cases hb : bitsN (nv x') - 1 > 262144 - bitsN (nv y')
   ·rw [if_pos hb, bnd_big]
    have h3 : (2 : Int) ^ 262144 ≤ 2 ^ ((bitsN (nv x')).toNat - 1 + ((bitsN (nv y')).toNat - 1)) := pow_mono (by omega)
    rw [Int.pow_add] at h3
    exact Int.le_trans h3 (Int.mul_le_mul bx by_ (Int.le_of_lt (two_pow_pos _)) nx)
   ·rw [if_neg hb]
    clear hb bx by_ bx2 by2 hbx hby
    have ew := w64_add x'.length y'.length (by omega)
    have c1 : (0 : Int) ≤ ((x'.length + y'.length : Nat) : Int) := Int.natCast_nonneg _
    rw [ew, if_pos c1, Int.toNat_natCast]
    clear ew c1
    rw [if_pos (by omega)]
    exact nat_Mul.l0_eq x' y' wx wy (x'.length + y'.length) (by omega) rfl x'.length k _ 0 (by omega) (by omega) (by omega) (by simp) (Ws.zeros _) (by rw [nv_zeros]; simp [nv])
theorem drop_set_self {xs : List Int} {m : Nat} (h : m < xs.length) (q : Int) : (xs.set m q).drop m = q :: xs.drop (m + 1) := by
 rw [List.drop_eq_getElem_cons (by rw [List.length_set]; exact h), List.getElem_set_self, List.drop_set_of_lt (by omega)]
theorem drop_getD {xs : List Int} {m : Nat} (h : m < xs.length) : xs.drop m = xs.getD m 0 :: xs.drop (m + 1) := by
 rw [List.drop_eq_getElem_cons h, List.getD_eq_getElem?_getD, List.getElem?_eq_getElem h]; rfl
theorem div_step {r x d : Int} (hr0 : 0 ≤ r) (hr : r < d) (hx0 : 0 ≤ x) (hx : x < 18446744073709551616) (hd : d < 18446744073709551616) :
  wide_Div.f r x d = some ((r * 18446744073709551616 + x) / d, (r * 18446744073709551616 + x) % d, 0) ∧ 0 ≤ (r * 18446744073709551616 + x) / d ∧ (r * 18446744073709551616 + x) / d < 18446744073709551616 ∧
   0 ≤ (r * 18446744073709551616 + x) % d ∧ (r * 18446744073709551616 + x) % d < d ∧ r * 18446744073709551616 + x = (r * 18446744073709551616 + x) / d * d + (r * 18446744073709551616 + x) % d := by
 have hdp : 0 < d := by omega
 refine ⟨?_, Int.ediv_nonneg (by omega) (by omega), Int.ediv_lt_of_lt_mul hdp ?_, Int.emod_nonneg _ (by omega), Int.emod_lt_of_pos _ hdp, ?_⟩
 ·unfold wide_Div.f
  rw [if_pos ⟨u64B_iff.2 ⟨hr0, by omega⟩, u64B_iff.2 ⟨hx0, hx⟩, u64B_iff.2 ⟨by omega, hd⟩⟩, if_neg (by omega), if_neg (by omega)]
 ·have : r * 18446744073709551616 ≤ (d - 1) * 18446744073709551616 := Int.mul_le_mul_of_nonneg_right (by omega) (by omega)
  rw [Int.sub_mul] at this
  rw [Int.mul_comm]
  omega
 ·have := Int.mul_ediv_add_emod (r * 18446744073709551616 + x) d
  rw [Int.mul_comm] at this
  omega
theorem quot_Small.l0_eq (x : List Int) (hx : Ws x) (d : Int) (hd0 : 0 < d) (hd : d < 18446744073709551616) (hm : x.length ≤ 35184372088832) : ∀ (n k : Nat) (out : List Int) (r : Int), n < k → n ≤ x.length → out.length = x.length → Ws out → 0 ≤ r → r < d → nv (x.drop n) = nv (out.drop n) * d + r →
  quot_Small.l0 k x d out r ((n : Int) - 1) = some (wd (nv x / d).toNat, nv x % d, 0) := by
 intro n
 induction n with
 | zero =>
  intro k out r hk hn hl hw hr0 hr hv
  obtain ⟨k, rfl⟩ : ∃ j, k = j + 1 := ⟨k - 1, by omega⟩
  simp only [quot_Small.l0]
  rw [if_neg (by omega), nat_Norm.f, if_pos (by omega)]
  simp only [Option.bind_some, List.drop_zero] at hv ⊢
  have e1 : nv x / d = nv out := by rw [hv, Int.add_comm, Int.add_mul_ediv_right _ _ (by omega), Int.ediv_eq_zero_of_lt hr0 hr, Int.zero_add]
  have e2 : nv x % d = r := by rw [hv, Int.add_comm, Int.add_mul_emod_self_right, Int.emod_eq_of_lt hr0 hr]
  rw [e1, e2, wd_nv hw]
 | succ n ih =>
  intro k out r hk hn hl hw hr0 hr hv
  obtain ⟨k, rfl⟩ : ∃ j, k = j + 1 := ⟨k - 1, by omega⟩
  have q1 : ((n : Int)) ≥ 0 := by omega
  have q2 : (n : Int) < (x.length : Int) := by omega
  have q3 : (n : Int) < (out.length : Int) := by omega
  have q4 : n < out.length := by omega
  have q5 : n < x.length := by omega
  have q6 : n < k := by omega
  have q7 : n ≤ x.length := by omega
  have ew : wrap64 ((n : Int) - 1) = (n : Int) - 1 := by unfold wrap64; omega
  have ho := hx.getD n
  obtain ⟨e1, e2, e3, e4, e5, e6⟩ := div_step hr0 hr ho.1 ho.2 hd
  have en : ((n + 1 : Nat) : Int) - 1 = (n : Int) := by omega
  have er : rd x (n : Int) = x.getD n 0 := rfl
  simp only [quot_Small.l0]
  rw [en, if_pos q1, if_pos q1, if_pos q2, er, e1]
  simp only [Option.bind_some]
  rw [if_pos q3, ew, Int.toNat_natCast]
  refine ih k _ _ q6 q7 (by rw [List.length_set, hl]) (hw.set _ e2 e3) e4 e5 ?_
  rw [drop_set_self q4, drop_getD q5, nv_cons, nv_cons, hv]
  generalize (r * 18446744073709551616 + x.getD n 0) / d = q at *
  generalize (r * 18446744073709551616 + x.getD n 0) % d = s at *
  generalize nv (out.drop (n + 1)) = z at *
  generalize x.getD n 0 = y at *
  clear ew e1 er en
  grind
theorem quot_Small.f_eq (x : List Int) (hx : Ws x) (d : Int) (hd0 : 0 < d) (hd : d < 18446744073709551616) (hm : x.length ≤ 35184372088832) (k : Nat) (hk : x.length < k) :
  quot_Small.f k x d = some (wd (nv x / d).toNat, nv x % d, 0) := by
 have ew : wrap64 ((x.length : Int) - 1) = (x.length : Int) - 1 := by unfold wrap64; omega
 rw [quot_Small.f, ew, if_neg (by omega), if_pos (by omega), Int.toNat_natCast, if_pos hm]
 exact quot_Small.l0_eq x hx d hd0 hd hm x.length k _ 0 hk (Nat.le_refl _) (by simp) (Ws.zeros _) (Int.le_refl _) hd0 (by rw [List.drop_eq_nil_of_le (Nat.le_refl _), List.drop_eq_nil_of_le (by simp)]; simp [nv])
theorem pow_split {s : Nat} (h : s ≤ 64) : (2 : Int) ^ s * 2 ^ (64 - s) = 18446744073709551616 := by
 rw [← Int.pow_add, show s + (64 - s) = 64 from by omega]; rfl
theorem shl_low {x P R : Int} (hP : 0 < P) (h : P * R = 18446744073709551616) : x * P % 18446744073709551616 = P * (x % R) := by
 rw [← h, Int.mul_comm x P, Int.mul_emod_mul_of_pos _ _ hP]
theorem shl_word {x P R : Int} (hP : 0 < P) (h : P * R = 18446744073709551616) : x * P = 18446744073709551616 * (x / R) + x * P % 18446744073709551616 := by
 rw [shl_low hP h]
 have h1 := Int.mul_ediv_add_emod x R
 generalize x / R = a at *
 generalize x % R = b at *
 rw [← h, ← h1]
 grind
open Go Go.RowKit Go.Proofs.YtiogfeeaepkkmaaW.PrintWords Go.Proofs.YtiogfeeaepkkmaaW.PrintLast Go.Proofs.YtiogfeeaepkkmaaW.PrintMore
theorem le_t {a b : Int} (h : a ≤ b) : (a ≤ b) = True := eq_true h
theorem le_f {a b : Int} (h : b < a) : (a ≤ b) = False := eq_false (by omega)
theorem lt_t {a b : Int} (h : a < b) : (a < b) = True := eq_true h
theorem lt_f {a b : Int} (h : b ≤ a) : (a < b) = False := eq_false (by omega)
theorem rdn (xs : List Int) (n : Nat) : rd xs (n : Int) = xs.getD n 0 := rfl
theorem w64x {x : Int} {n : Nat} (h : x = (n : Int)) (hn : n ≤ 9223372036854775807) : wrap64 x = (n : Int) := by rw [h, w64_of (by omega) (by omega)]
theorem w64_s (n : Nat) (h : n < 9223372036854775807) : wrap64 ((n : Int) + 1) = ((n + 1 : Nat) : Int) := by rw [w64_of (by omega) (by omega)]; omega
theorem pow_split' {s : Nat} (h : s ≤ 64) : (2 : Int) ^ (64 - s) * 2 ^ s = 18446744073709551616 := by rw [Int.mul_comm, pow_split h]
theorem wide_Shl.f_eq0 {hi lo : Int} {s : Nat} (hs : s ≤ 63) (h0 : 0 ≤ hi) (h1 : hi < 18446744073709551616) (l0 : 0 ≤ lo) (l1 : lo < 18446744073709551616) :
  wide_Shl.f hi lo (s : Int) = some (hi * 2 ^ s % 18446744073709551616 + lo / 2 ^ (64 - s), lo * 2 ^ s % 18446744073709551616) := by
 have e1 : mn (mx (s : Int) 0) 128 = (s : Int) := by
  unfold mn mx
  rw [if_neg (by omega), if_neg (by omega)]
 have hP := two_pow_pos s
 have hR := two_pow_pos (64 - s)
 have hPR := pow_split (s := s) (by omega)
 have ew : wrap64 (64 - (s : Int)) = ((64 - s : Nat) : Int) := by rw [w64_of (by omega) (by omega)]; omega
 rw [wide_Shl.f, wide_within.f, e1]
 simp only [Option.bind_some]
 rw [ew]
 simp (disch := with_reducible omega) only [↓reduceIte, le_t, le_f, lt_t, lt_f, ge_iff_le, gt_iff_lt]
 have m1 : min s 64 = s := Nat.min_eq_left (by omega)
 have m2 : min (64 - s) 64 = 64 - s := Nat.min_eq_left (by omega)
 rw [shl_eq, shl_eq, shr_eq, Int.toNat_natCast, Int.toNat_natCast, m1, m2]
 have hx : hi * 2 ^ s % 18446744073709551616 % 2 ^ s = 0 := by rw [shl_low hP hPR, Int.mul_emod_right]
 have hy : lo / 2 ^ (64 - s) < 2 ^ s := Int.ediv_lt_of_lt_mul hR (by rw [hPR]; exact l1)
 have hle : (2 : Int) ^ s ≤ 2 ^ 63 := pow_mono hs
 have hy0 : 0 ≤ lo / 2 ^ (64 - s) := Int.ediv_nonneg l0 (Int.le_of_lt hR)
 rw [or_join s (Int.emod_nonneg _ (by decide)) (Int.emod_lt_of_pos _ (by decide)) hx hy0 hy (Int.lt_trans (Int.lt_of_lt_of_le hy hle) (by decide))]
theorem wide_Shr.f_eq {hi lo : Int} {s : Nat} (hs : s ≤ 63) (h0 : 0 ≤ hi) (h1 : hi < 18446744073709551616) (l0 : 0 ≤ lo) (l1 : lo < 18446744073709551616) :
  wide_Shr.f hi lo (s : Int) = some (hi / 2 ^ s, hi * 2 ^ (64 - s) % 18446744073709551616 + lo / 2 ^ s, decide (lo * 2 ^ (64 - s) % 18446744073709551616 ≠ 0)) := by
 have e1 : mn (mx (s : Int) 0) 128 = (s : Int) := by
  unfold mn mx
  rw [if_neg (by omega), if_neg (by omega)]
 have hP := two_pow_pos s
 have hR := two_pow_pos (64 - s)
 have hPR := pow_split' (s := s) (by omega)
 have ew : wrap64 (64 - (s : Int)) = ((64 - s : Nat) : Int) := by rw [w64_of (by omega) (by omega)]; omega
 rw [wide_Shr.f, wide_within.f, e1]
 simp only [Option.bind_some]
 rw [ew]
 simp (disch := with_reducible omega) only [↓reduceIte, le_t, le_f, lt_t, lt_f, ge_iff_le, gt_iff_lt]
 have m1 : min s 64 = s := Nat.min_eq_left (by omega)
 have m2 : min (64 - s) 64 = 64 - s := Nat.min_eq_left (by omega)
 rw [shl_eq, shl_eq, shr_eq, shr_eq, Int.toNat_natCast, Int.toNat_natCast, m1, m2]
 have hx : hi * 2 ^ (64 - s) % 18446744073709551616 % 2 ^ (64 - s) = 0 := by rw [shl_low hR hPR, Int.mul_emod_right]
 have hy : lo / 2 ^ s < 2 ^ (64 - s) := Int.ediv_lt_of_lt_mul hP (by rw [hPR]; exact l1)
 have hy0 : 0 ≤ lo / 2 ^ s := Int.ediv_nonneg l0 (Int.le_of_lt hP)
 have hle : lo / 2 ^ s ≤ lo := Int.ediv_le_self _ l0
 rw [or_join' (64 - s) (Int.emod_nonneg _ (by decide)) (Int.emod_lt_of_pos _ (by decide)) hx hy0 hy (by omega)]
 rw [Int.add_comm]
 congr 3
 rw [Bool.eq_iff_iff]; simp
theorem quot_shl.l0_eq (x : List Int) (hx : Ws x) (s m : Nat) (hs : s ≤ 63) (hm : m ≤ 35184372088832) (hxm : x.length ≤ m) (hfit : nv x * 2 ^ s < 2 ^ (64 * m)) : ∀ (d k : Nat) (out : List Int) (c : Int) (i : Nat), d = x.length - i → d < k → i ≤ x.length → out.length = m → Ws out → 0 ≤ c → c < 2 ^ s → (∀ j, i ≤ j → out.getD j 0 = 0) → nv out + c * 2 ^ (64 * i) = nv (x.take i) * 2 ^ s →
  quot_shl.l0 k x (s : Int) (m : Int) out c x (x.length : Int) (i : Int) = some (wn m (nv x * 2 ^ s)) := by
 have hP := two_pow_pos s
 have hR := two_pow_pos (64 - s)
 have hPR := pow_split (s := s) (by omega)
 have hle : (2 : Int) ^ s ≤ 2 ^ 63 := pow_mono hs
 have h63 : (2 : Int) ^ 63 = 9223372036854775808 := by decide
 intro d
 induction d with
 | zero =>
  intro k out c i hd hk hi hl hw hc0 hc hz hv
  obtain ⟨k, rfl⟩ : ∃ j, k = j + 1 := ⟨k - 1, by omega⟩
  obtain rfl : i = x.length := by omega
  rw [List.take_length] at hv
  unfold quot_shl.l0
  rw [if_neg (by omega)]
  by_cases hxm' : x.length < m
  ·rw [if_pos (by omega), if_pos (by omega), if_pos (by omega), Int.toNat_natCast]
   have e : nv (out.set x.length c) = nv x * 2 ^ s := by
    rw [nv_set (by omega), hz _ (Nat.le_refl _), ← hv]; grind
   rw [← e, ← eq_wn (hw.set _ hc0 (by omega)) (by rw [List.length_set]; exact hl)]
  ·rw [if_neg (by omega)]
   obtain rfl : x.length = m := by omega
   have n0 := nv_nonneg hw
   have c0 : c = 0 := by
    apply Classical.byContradiction
    intro hne
    have h1 : 1 * 2 ^ (64 * x.length) ≤ c * 2 ^ (64 * x.length) := Int.mul_le_mul_of_nonneg_right (by omega) (Int.le_of_lt (two_pow_pos _))
    omega
   rw [c0, Int.zero_mul, Int.add_zero] at hv
   rw [← hv, ← eq_wn hw hl]
 | succ d ih =>
  intro k out c i hd hk hi hl hw hc0 hc hz hv
  obtain ⟨k, rfl⟩ : ∃ j, k = j + 1 := ⟨k - 1, by omega⟩
  have ho := hx.getD i
  have hy : x.getD i 0 / 2 ^ (64 - s) < 2 ^ s := Int.ediv_lt_of_lt_mul hR (by rw [hPR]; exact ho.2)
  have hy0 : 0 ≤ x.getD i 0 / 2 ^ (64 - s) := Int.ediv_nonneg ho.1 (Int.le_of_lt hR)
  have hlow := shl_low (x := x.getD i 0) hP hPR
  have hm1 := Int.emod_nonneg (x.getD i 0 * 2 ^ s) (show (18446744073709551616 : Int) ≠ 0 by decide)
  have hm2 := Int.emod_lt_of_pos (x.getD i 0 * 2 ^ s) (show (0 : Int) < 18446744073709551616 by decide)
  have g0 : 0 ≤ x.getD i 0 % 2 ^ (64 - s) := Int.emod_nonneg _ (Int.ne_of_gt hR)
  have g1 : x.getD i 0 % 2 ^ (64 - s) < 2 ^ (64 - s) := Int.emod_lt_of_pos _ hR
  have hsum : x.getD i 0 * 2 ^ s % 18446744073709551616 + c < 18446744073709551616 := by
   rw [hlow, ← hPR]
   have h3 : 2 ^ s * (x.getD i 0 % 2 ^ (64 - s) + 1) ≤ 2 ^ s * 2 ^ (64 - s) := Int.mul_le_mul_of_nonneg_left g1 (Int.le_of_lt hP)
   rw [Int.mul_add, Int.mul_one] at h3
   omega
  unfold quot_shl.l0
  rw [if_pos (by omega), if_pos (by omega), if_pos (by omega), rdn, wide_Shl.f_eq0 hs (by omega) (by omega) ho.1 ho.2]
  simp only [Option.bind_some]
  rw [if_pos (by omega), w64_s i (by omega), Int.toNat_natCast, or_join s hm1 hm2 (by rw [hlow, Int.mul_emod_right]) hc0 hc (by omega), Int.zero_mul, Int.zero_emod, Int.zero_add]
  refine ih k _ _ (i + 1) (by omega) (by omega) (by omega) (by rw [List.length_set]; exact hl) (hw.set _ (by omega) hsum) hy0 hy (fun j hj => by rw [set_getD_ne (by omega)]; exact hz j (by omega)) ?_
  rw [nv_set (by omega), hz i (Nat.le_refl _), nv_take_succ (by omega), show 64 * (i + 1) = 64 * i + 64 from by omega, Int.pow_add]
  have h2 := shl_word (x := x.getD i 0) hP hPR
  have e64 : (2 : Int) ^ 64 = 18446744073709551616 := by decide
  rw [e64]
  clear hlow hm1 hm2 g0 g1 hsum hy hy0 hz hw hx ih hfit
  generalize x.getD i 0 * 2 ^ s % 18446744073709551616 = v at *
  generalize x.getD i 0 / 2 ^ (64 - s) = u at *
  generalize x.getD i 0 = w at *
  generalize (2 : Int) ^ (64 * i) = p at *
  generalize (2 : Int) ^ s = P at *
  grind
theorem quot_shl.f_eq (x : List Int) (hx : Ws x) (s m : Nat) (hs : s ≤ 63) (hm : m ≤ 35184372088832) (hxm : x.length ≤ m) (hfit : nv x * 2 ^ s < 2 ^ (64 * m)) (k : Nat) (hk : x.length < k) :
  quot_shl.f k x (s : Int) (m : Int) = some (wn m (nv x * 2 ^ s)) := by
 rw [quot_shl.f, if_pos (by omega), Int.toNat_natCast, if_pos hm]
 exact quot_shl.l0_eq x hx s m hs hm hxm hfit x.length k _ 0 0 (by omega) hk (by omega) (by simp) (Ws.zeros _) (by decide) (two_pow_pos s) (fun j _ => by rw [List.getD_eq_getElem?_getD, List.getElem?_replicate]; split <;> rfl) (by rw [nv_zeros]; simp [nv])
theorem shr_step {w q a P R : Int} (hP : 0 < P) (hR : 0 < R) (hPR : P * R = 18446744073709551616) : (w + 18446744073709551616 * (q * P + a % P)) / P = 18446744073709551616 * q + (a * R % 18446744073709551616 + w / P) := by
 have e : a * R % 18446744073709551616 = R * (a % P) := shl_low hR (by rw [Int.mul_comm]; exact hPR)
 rw [e]
 have e2 : w + 18446744073709551616 * (q * P + a % P) = w + P * (18446744073709551616 * q + R * (a % P)) := by
  generalize a % P = r
  rw [← hPR]
  grind
 rw [e2, Int.add_mul_ediv_left _ _ (by omega)]
 omega
theorem quot_shr.l0_eq (x : List Int) (hx : Ws x) (s : Nat) (hs : s ≤ 63) (hm : x.length ≤ 35184372088832) : ∀ (n k : Nat) (out : List Int) (a : Int), n < k → n ≤ x.length → out.length = x.length → Ws out → 0 ≤ a → a < 18446744073709551616 → nv (x.drop n) % 2 ^ s = a % 2 ^ s → nv (out.drop n) = nv (x.drop n) / 2 ^ s →
  quot_shr.l0 k x (s : Int) out a ((n : Int) - 1) = some (wd (nv x / 2 ^ s).toNat) := by
 have hP := two_pow_pos s
 have hR := two_pow_pos (64 - s)
 have hPR := pow_split (s := s) (by omega)
 intro n
 induction n with
 | zero =>
  intro k out a hk hn hl hw ha0 ha hr hv
  obtain ⟨k, rfl⟩ : ∃ j, k = j + 1 := ⟨k - 1, by omega⟩
  unfold quot_shr.l0
  rw [if_neg (by omega), nat_Norm.f, if_pos (by omega)]
  simp only [Option.bind_some, List.drop_zero] at hv ⊢
  rw [← hv, wd_nv hw]
 | succ n ih =>
  intro k out a hk hn hl hw ha0 ha hr hv
  obtain ⟨k, rfl⟩ : ∃ j, k = j + 1 := ⟨k - 1, by omega⟩
  have ho := hx.getD n
  have er : ((n + 1 : Nat) : Int) - 1 = (n : Int) := by omega
  have hy : x.getD n 0 / 2 ^ s < 2 ^ (64 - s) := Int.ediv_lt_of_lt_mul hP (by rw [pow_split' (by omega)]; exact ho.2)
  have hy0 : 0 ≤ x.getD n 0 / 2 ^ s := Int.ediv_nonneg ho.1 (Int.le_of_lt hP)
  have hlow := shl_low (x := a) hR (pow_split' (s := s) (by omega))
  have g0 : 0 ≤ a % 2 ^ s := Int.emod_nonneg _ (Int.ne_of_gt hP)
  have g1 : a % 2 ^ s < 2 ^ s := Int.emod_lt_of_pos _ hP
  have hm1 := Int.emod_nonneg (a * 2 ^ (64 - s)) (show (18446744073709551616 : Int) ≠ 0 by decide)
  have hsum : a * 2 ^ (64 - s) % 18446744073709551616 + x.getD n 0 / 2 ^ s < 18446744073709551616 := by
   rw [hlow, ← pow_split' (s := s) (by omega)]
   have h3 : 2 ^ (64 - s) * (a % 2 ^ s + 1) ≤ 2 ^ (64 - s) * 2 ^ s := Int.mul_le_mul_of_nonneg_left g1 (Int.le_of_lt hR)
   rw [Int.mul_add, Int.mul_one] at h3
   omega
  unfold quot_shr.l0
  rw [er, if_pos (by omega), if_pos (by omega), if_pos (by omega), rdn, wide_Shr.f_eq hs ha0 ha ho.1 ho.2]
  simp only [Option.bind_some]
  rw [if_pos (by omega), Int.toNat_natCast, w64_of (by omega) (by omega)]
  have q4 : n < out.length := by omega
  have q5 : n < x.length := by omega
  refine ih k _ _ (by omega) (by omega) (by rw [List.length_set]; exact hl) (hw.set _ (by omega) hsum) ho.1 ho.2 ?_ ?_
  ·rw [drop_getD q5, nv_cons]
   have e : (18446744073709551616 : Int) = 2 ^ s * 2 ^ (64 - s) := hPR.symm
   rw [e, Int.mul_assoc, Int.add_mul_emod_self_left]
  ·rw [drop_set_self q4, drop_getD q5, nv_cons, nv_cons, hv]
   have e := Int.mul_ediv_add_emod (nv (x.drop (n + 1))) (2 ^ s)
   rw [hr] at e
   have h := shr_step (w := x.getD n 0) (q := nv (x.drop (n + 1)) / 2 ^ s) (a := a) hP hR hPR
   rw [Int.mul_comm (nv (x.drop (n + 1)) / 2 ^ s) (2 ^ s), e] at h
   rw [h]
   omega
theorem quot_shr.f_eq (x : List Int) (hx : Ws x) (s : Nat) (hs : s ≤ 63) (hm : x.length ≤ 35184372088832) (k : Nat) (hk : x.length < k) : quot_shr.f k x (s : Int) = some (wd (nv x / 2 ^ s).toNat) := by
 rw [quot_shr.f, if_pos (by omega), Int.toNat_natCast, if_pos hm, w64_of (by omega) (by omega)]
 exact quot_shr.l0_eq x hx s hs hm x.length k _ 0 hk (Nat.le_refl _) (by simp) (Ws.zeros _) (by decide) (by decide) (by rw [List.drop_eq_nil_of_le (Nat.le_refl _)]; simp [nv]) (by rw [List.drop_eq_nil_of_le (Nat.le_refl _), List.drop_eq_nil_of_le (by simp)]; simp [nv])
theorem wide_Sub.f_eq {a b c : Int} (ha0 : 0 ≤ a) (ha : a < 18446744073709551616) (hb0 : 0 ≤ b) (hb : b < 18446744073709551616) (hc0 : 0 ≤ c) (hc : c ≤ 1) :
  wide_Sub.f a b c = some ((a - b - c) % 18446744073709551616, if a < b + c then 1 else 0) := by
 unfold wide_Sub.f
 rw [show Go.bits .and .u64 c 1 = c % 2 from and_mask hc0 (by omega) 1 (by omega) _ rfl]
 simp only [u64w]
 by_cases h1 : a < b
 ·rw [if_pos h1, if_pos (by omega)]; congr 2; omega
 ·rw [if_neg h1]
  by_cases h2 : a = b
  ·rw [if_pos h2]
   by_cases h3 : c = 1
   ·rw [if_pos (by omega), if_pos (by omega)]; congr 2; omega
   ·rw [if_neg (by omega), if_neg (by omega)]; congr 2; omega
  ·rw [if_neg h2, if_neg (by omega)]; congr 2; omega
theorem take_word {w b a u o : Int} (hw0 : 0 ≤ w) (hw : w < 18446744073709551616) (hb0 : 0 ≤ b) (hb : b < 18446744073709551616) (ha0 : 0 ≤ a) (ha : a < 18446744073709551616) (hu0 : 0 ≤ u) (hu : u < 18446744073709551616) (ho0 : 0 ≤ o) (ho : o ≤ 1) :
  ∃ hi lo lo' c v o' a', wide_Mul.f w b = some (hi, lo) ∧ wide_Add.f lo a 0 = some (lo', c) ∧ wide_Sub.f u lo' o = some (v, o') ∧ IntKind.u64.wrap (hi + c) = a' ∧ 0 ≤ v ∧ v < 18446744073709551616 ∧ 0 ≤ o' ∧ o' ≤ 1 ∧ 0 ≤ a' ∧ a' < 18446744073709551616 ∧
   v = u - w * b - a - o + (a' + o') * 18446744073709551616 := by
 have hab0 : 0 ≤ w * b := Int.mul_nonneg hw0 hb0
 have hab : w * b ≤ 18446744073709551615 * 18446744073709551615 := Int.mul_le_mul (by omega) (by omega) hb0 (by omega)
 refine ⟨w * b / 18446744073709551616, w * b % 18446744073709551616, _, _, _, _, _, ?_, wide_Add.f_eq (by omega) (by omega) ha0 ha (by omega) (by omega), wide_Sub.f_eq hu0 hu (by omega) (by omega) ho0 ho, rfl, ?_⟩
 ·unfold wide_Mul.f
  rw [if_pos (u64B_iff.2 ⟨hw0, hw⟩), if_pos (u64B_iff.2 ⟨hb0, hb⟩)]
 ·simp only [u64w]
  generalize w * b = p at *
  split <;> omega
theorem quot_take.l0_eq (v : List Int) (hv : Ws v) (b : Int) (hb0 : 0 ≤ b) (hb : b < 18446744073709551616) (u : List Int) (hu : Ws u) (hl : u.length = v.length + 1) (hm : v.length ≤ 35184372088832) : ∀ (d k : Nat) (cur : List Int) (a o : Int) (i : Nat), d = v.length - i → d < k → i ≤ v.length → cur.length = v.length + 1 → Ws cur → 0 ≤ a → a < 18446744073709551616 → 0 ≤ o → o ≤ 1 →
  nv cur = nv u - b * nv (v.take i) + (a + o) * 2 ^ (64 * i) →
  quot_take.l0 k cur v b a o v (v.length : Int) (i : Int) = some (decide (nv u < b * nv v), wn (v.length + 1) (if nv u < b * nv v then nv u - b * nv v + 2 ^ (64 * (v.length + 1)) else nv u - b * nv v)) := by
 intro d
 induction d with
 | zero =>
  intro k cur a o i hd hk hi hcl hw ha0 ha ho0 ho he
  obtain ⟨k, rfl⟩ : ∃ j, k = j + 1 := ⟨k - 1, by omega⟩
  obtain rfl : i = v.length := by omega
  rw [List.take_length] at he
  have hc := hw.getD v.length
  unfold quot_take.l0
  rw [if_neg (by omega), if_pos (by omega), if_pos (by omega), rdn, wide_Sub.f_eq hc.1 hc.2 ha0 ha ho0 ho]
  simp only [Option.bind_some, Int.toNat_natCast]
  have hx0 : 0 ≤ (cur.getD v.length 0 - a - o) % 18446744073709551616 := by omega
  have hx1 : (cur.getD v.length 0 - a - o) % 18446744073709551616 < 18446744073709551616 := by omega
  have hw' := hw.set v.length hx0 hx1
  have hlen : (cur.set v.length ((cur.getD v.length 0 - a - o) % 18446744073709551616)).length = v.length + 1 := by rw [List.length_set]; exact hcl
  have hn0 := nv_nonneg hw'
  have hn1 := nv_lt hw'
  rw [hlen] at hn1
  have hset := nv_set (xs := cur) (n := v.length) (by omega) ((cur.getD v.length 0 - a - o) % 18446744073709551616)
  have hp := two_pow_pos (64 * v.length)
  have epow : (2 : Int) ^ (64 * (v.length + 1)) = 18446744073709551616 * 2 ^ (64 * v.length) := pow64 _
  by_cases hlt : cur.getD v.length 0 < a + o
  ·rw [if_pos hlt]
   have e1 : (cur.getD v.length 0 - a - o) % 18446744073709551616 = cur.getD v.length 0 - a - o + 18446744073709551616 := by omega
   have e2 : nv (cur.set v.length ((cur.getD v.length 0 - a - o) % 18446744073709551616)) = nv u - b * nv v + 2 ^ (64 * (v.length + 1)) := by
    rw [hset, he, e1, epow]; grind
   have hneg : nv u < b * nv v := by omega
   rw [if_pos hneg, decide_eq_true hneg, ← e2, ← eq_wn hw' hlen]
   rfl
  ·rw [if_neg hlt]
   have e1 : (cur.getD v.length 0 - a - o) % 18446744073709551616 = cur.getD v.length 0 - a - o := by omega
   have e2 : nv (cur.set v.length ((cur.getD v.length 0 - a - o) % 18446744073709551616)) = nv u - b * nv v := by
    rw [hset, he, e1]; grind
   have hneg : ¬ nv u < b * nv v := by omega
   rw [if_neg hneg, decide_eq_false hneg, ← e2, ← eq_wn hw' hlen]
   rfl
 | succ d ih =>
  intro k cur a o i hd hk hi hcl hw ha0 ha ho0 ho he
  obtain ⟨k, rfl⟩ : ∃ j, k = j + 1 := ⟨k - 1, by omega⟩
  have hvi := hv.getD i
  have hci := hw.getD i
  obtain ⟨hi_, lo, lo', c, x, o', a', eM, eA, eS, ew, hx0, hx1, ho0', ho', ha0', ha', ex⟩ := take_word hvi.1 hvi.2 hb0 hb ha0 ha hci.1 hci.2 ho0 ho
  unfold quot_take.l0
  rw [if_pos (by omega), if_pos (by omega), if_pos (by omega), rdn, eM]
  simp only [Option.bind_some]
  rw [eA]
  simp only [Option.bind_some]
  rw [if_pos (by omega), rdn, eS]
  simp only [Option.bind_some]
  rw [ew, w64_s i (by omega), Int.toNat_natCast]
  refine ih k _ _ _ (i + 1) (by omega) (by omega) (by omega) (by rw [List.length_set]; exact hcl) (hw.set _ hx0 hx1) ha0' ha' ho0' ho' ?_
  rw [nv_set (by omega), nv_take_succ (by omega), pow64, he, ex]
  clear ex eM eA eS ew ih hw hv hu hvi hci
  generalize (2 : Int) ^ (64 * i) = p at *
  generalize cur.getD i 0 = y at *
  generalize v.getD i 0 = z at *
  grind
theorem quot_take.f_eq (u v : List Int) (hu : Ws u) (hv : Ws v) (hl : u.length = v.length + 1) (hm : v.length ≤ 35184372088832) (b : Int) (hb0 : 0 ≤ b) (hb : b < 18446744073709551616) (k : Nat) (hk : v.length < k) :
  quot_take.f k u v b = some (decide (nv u < b * nv v), wn (v.length + 1) (if nv u < b * nv v then nv u - b * nv v + 2 ^ (64 * (v.length + 1)) else nv u - b * nv v)) := by
 rw [quot_take.f]
 exact quot_take.l0_eq v hv b hb0 hb u hu hl hm v.length k u 0 0 0 (by omega) hk (by omega) hl hu (by decide) (by decide) (by decide) (by decide) (by simp [nv])
theorem quot_give.l0_eq (v : List Int) (hv : Ws v) (u : List Int) (hu : Ws u) (hl : u.length = v.length + 1) (hm : v.length ≤ 35184372088832) : ∀ (d k : Nat) (cur : List Int) (o : Int) (i : Nat), d = v.length - i → d < k → i ≤ v.length → cur.length = v.length + 1 → Ws cur → 0 ≤ o → o ≤ 1 →
  nv cur + o * 2 ^ (64 * i) = nv u + nv (v.take i) →
  quot_give.l0 k cur v o v (v.length : Int) (i : Int) = some (wn (v.length + 1) (if nv u + nv v < 2 ^ (64 * (v.length + 1)) then nv u + nv v else nv u + nv v - 2 ^ (64 * (v.length + 1)))) := by
 intro d
 induction d with
 | zero =>
  intro k cur o i hd hk hi hcl hw ho0 ho he
  obtain ⟨k, rfl⟩ : ∃ j, k = j + 1 := ⟨k - 1, by omega⟩
  obtain rfl : i = v.length := by omega
  rw [List.take_length] at he
  have hc := hw.getD v.length
  unfold quot_give.l0
  rw [if_neg (by omega), if_pos (by omega), if_pos (by omega), rdn, u64w]
  simp only [Int.toNat_natCast]
  have hx0 : 0 ≤ (cur.getD v.length 0 + o) % 18446744073709551616 := by omega
  have hx1 : (cur.getD v.length 0 + o) % 18446744073709551616 < 18446744073709551616 := by omega
  have hw' := hw.set v.length hx0 hx1
  have hlen : (cur.set v.length ((cur.getD v.length 0 + o) % 18446744073709551616)).length = v.length + 1 := by rw [List.length_set]; exact hcl
  have hn0 := nv_nonneg hw'
  have hn1 := nv_lt hw'
  rw [hlen] at hn1
  have hset := nv_set (xs := cur) (n := v.length) (by omega) ((cur.getD v.length 0 + o) % 18446744073709551616)
  have epow : (2 : Int) ^ (64 * (v.length + 1)) = 18446744073709551616 * 2 ^ (64 * v.length) := pow64 _
  by_cases hlt : cur.getD v.length 0 + o < 18446744073709551616
  ·have e1 : (cur.getD v.length 0 + o) % 18446744073709551616 = cur.getD v.length 0 + o := by omega
   have e2 : nv (cur.set v.length ((cur.getD v.length 0 + o) % 18446744073709551616)) = nv u + nv v := by
    rw [hset, e1]; grind
   rw [if_pos (by omega), ← e2, ← eq_wn hw' hlen]
  ·have e1 : (cur.getD v.length 0 + o) % 18446744073709551616 = cur.getD v.length 0 + o - 18446744073709551616 := by omega
   have e2 : nv (cur.set v.length ((cur.getD v.length 0 + o) % 18446744073709551616)) = nv u + nv v - 2 ^ (64 * (v.length + 1)) := by
    rw [hset, e1, epow]; grind
   rw [if_neg (by omega), ← e2, ← eq_wn hw' hlen]
 | succ d ih =>
  intro k cur o i hd hk hi hcl hw ho0 ho he
  obtain ⟨k, rfl⟩ : ∃ j, k = j + 1 := ⟨k - 1, by omega⟩
  have hvi := hv.getD i
  have hci := hw.getD i
  unfold quot_give.l0
  rw [if_pos (by omega), if_pos (by omega), if_pos (by omega), if_pos (by omega), rdn, rdn, wide_Add.f_eq hci.1 hci.2 hvi.1 hvi.2 ho0 ho]
  simp only [Option.bind_some]
  rw [w64_s i (by omega), Int.toNat_natCast]
  refine ih k _ _ (i + 1) (by omega) (by omega) (by omega) (by rw [List.length_set]; exact hcl) (hw.set _ (by omega) (by omega)) (by omega) (by omega) ?_
  rw [nv_set (by omega), nv_take_succ (by omega), pow64]
  have e : (cur.getD i 0 + v.getD i 0 + o) % 18446744073709551616 = cur.getD i 0 + v.getD i 0 + o - (cur.getD i 0 + v.getD i 0 + o) / 18446744073709551616 * 18446744073709551616 := by omega
  rw [e]
  generalize (cur.getD i 0 + v.getD i 0 + o) / 18446744073709551616 = q at *
  clear e ih hw hv hu hvi hci
  generalize (2 : Int) ^ (64 * i) = p at *
  generalize cur.getD i 0 = y at *
  generalize v.getD i 0 = z at *
  grind
theorem quot_give.f_eq (u v : List Int) (hu : Ws u) (hv : Ws v) (hl : u.length = v.length + 1) (hm : v.length ≤ 35184372088832) (k : Nat) (hk : v.length < k) :
  quot_give.f k u v = some (wn (v.length + 1) (if nv u + nv v < 2 ^ (64 * (v.length + 1)) then nv u + nv v else nv u + nv v - 2 ^ (64 * (v.length + 1)))) := by
 rw [quot_give.f]
 exact quot_give.l0_eq v hv u hu hl hm v.length k u 0 0 (by omega) hk (by omega) hl hu (by decide) (by decide) (by simp [nv])
theorem knuth_up {v1 v2 vr P B u2 u1 u0 ur g r : Int} (hP : 0 < P) (hg : g * v1 + r = u2 * B + u1) (h : r * B + u0 < g * v2) (hur : ur < P) (hg0 : 0 ≤ g) (hvr : 0 ≤ vr) :
  ((u2 * B + u1) * B + u0) * P + ur < g * ((v1 * B + v2) * P + vr) := by
 have e : g * ((v1 * B + v2) * P + vr) = (g * v1 * B + g * v2) * P + g * vr := by grind
 have e1 : g * v1 = u2 * B + u1 - r := by omega
 have h1 : 0 ≤ g * vr := Int.mul_nonneg hg0 hvr
 rw [e, e1]
 have h2 : ((u2 * B + u1) * B + u0 + 1) * P ≤ ((u2 * B + u1 - r) * B + g * v2) * P := by
  apply Int.mul_le_mul_of_nonneg_right _ (Int.le_of_lt hP)
  rw [Int.sub_mul]
  omega
 rw [Int.add_mul _ 1 P, Int.one_mul] at h2
 omega
theorem knuth_exit {v1 v2 vr P B u2 u1 u0 ur g r : Int} (hP : 0 < P) (hB : 0 < B) (hg : g * v1 + r = u2 * B + u1) (h : g * v2 ≤ r * B + u0) (hur : 0 ≤ ur) (hg0 : 0 ≤ g) (hgB : g < B) (hvr0 : 0 ≤ vr) (hvr : vr < P) (hv1 : 1 ≤ v1) (hv2 : 0 ≤ v2) :
  (g - 1) * ((v1 * B + v2) * P + vr) ≤ ((u2 * B + u1) * B + u0) * P + ur := by
 have e : (g - 1) * ((v1 * B + v2) * P + vr) = (g * v1 * B + g * v2) * P + (g - 1) * vr - v1 * B * P - v2 * P := by grind
 have e1 : g * v1 = u2 * B + u1 - r := by omega
 rw [e, e1]
 have h2 : ((u2 * B + u1 - r) * B + g * v2) * P ≤ ((u2 * B + u1) * B + u0) * P := by
  apply Int.mul_le_mul_of_nonneg_right _ (Int.le_of_lt hP)
  rw [Int.sub_mul]
  omega
 have h3 : (g - 1) * vr ≤ B * P := by
  have a : (g - 1) * vr ≤ B * vr := Int.mul_le_mul_of_nonneg_right (by omega) hvr0
  have b : B * vr ≤ B * P := Int.mul_le_mul_of_nonneg_left (by omega) (by omega)
  omega
 have h4 : 1 * (B * P) ≤ v1 * (B * P) := Int.mul_le_mul_of_nonneg_right hv1 (Int.mul_nonneg (by omega) (by omega))
 rw [← Int.mul_assoc, ← Int.mul_assoc, Int.one_mul] at h4
 have h5 : 0 ≤ v2 * P := Int.mul_nonneg hv2 (by omega)
 omega
theorem knuth_over {v1 v2 vr P B u2 u1 u0 ur g r : Int} (hP : 0 < P) (hB : 0 < B) (hg : g * v1 + r = u2 * B + u1) (h : B ≤ r) (hur : 0 ≤ ur) (hu0 : 0 ≤ u0) (hg0 : 0 ≤ g) (hgB : g ≤ B) (hvr : vr < P) (hv2 : v2 < B) :
  g * ((v1 * B + v2) * P + vr) ≤ ((u2 * B + u1) * B + u0) * P + ur := by
 have e : g * ((v1 * B + v2) * P + vr) = g * v1 * B * P + g * (v2 * P + vr) := by grind
 have e1 : g * v1 = u2 * B + u1 - r := by omega
 rw [e, e1]
 have h1 : v2 * P + vr ≤ B * P := by
  have : (v2 + 1) * P ≤ B * P := Int.mul_le_mul_of_nonneg_right (by omega) (by omega)
  rw [Int.add_mul, Int.one_mul] at this
  omega
 have h2 : g * (v2 * P + vr) ≤ g * (B * P) := Int.mul_le_mul_of_nonneg_left h1 hg0
 have h3 : g * (B * P) ≤ B * (B * P) := Int.mul_le_mul_of_nonneg_right hgB (Int.mul_nonneg (by omega) (by omega))
 have h4 : B * (B * P) ≤ r * (B * P) := Int.mul_le_mul_of_nonneg_right h (Int.mul_nonneg (by omega) (by omega))
 have h5 : 0 ≤ u0 * P := Int.mul_nonneg hu0 (by omega)
 have e2 : (u2 * B + u1 - r) * B * P = (u2 * B + u1) * B * P - r * (B * P) := by grind
 have e3 : ((u2 * B + u1) * B + u0) * P = (u2 * B + u1) * B * P + u0 * P := by grind
 rw [e2, e3]
 omega
theorem nv_two {v : List Int} {p : Nat} (hl : v.length = p + 2) : nv v = (v.getD (p + 1) 0 * 18446744073709551616 + v.getD p 0) * 2 ^ (64 * p) + nv (v.take p) := by
 have e1 := nv_take_succ (xs := v) (i := p) (by omega)
 have e2 := nv_take_succ (xs := v) (i := p + 1) (by omega)
 rw [show p + 1 + 1 = v.length from by omega, List.take_length, e1, pow64] at e2
 rw [e2]
 generalize (2 : Int) ^ (64 * p) = P
 grind
theorem nv_three {u : List Int} {p : Nat} (hl : u.length = p + 3) : nv u = ((u.getD (p + 2) 0 * 18446744073709551616 + u.getD (p + 1) 0) * 18446744073709551616 + u.getD p 0) * 2 ^ (64 * p) + nv (u.take p) := by
 have e1 := nv_take_succ (xs := u) (i := p) (by omega)
 have e2 := nv_take_succ (xs := u) (i := p + 1) (by omega)
 have e3 := nv_take_succ (xs := u) (i := p + 2) (by omega)
 rw [show p + 2 + 1 = u.length from by omega, List.take_length, show p + 2 = (p + 1) + 1 from rfl, e2, e1] at e3
 simp only [pow64] at e3
 rw [e3, show p + 1 + 1 = p + 2 from rfl]
 clear e1 e2 e3
 generalize (2 : Int) ^ (64 * p) = P
 grind
theorem LeO.add {α : Type} {f : Nat → Option α} (h : ∀ k, LeO (f k) (f (k + 1))) : ∀ n k, LeO (f k) (f (k + n))
 | 0, k => fun r e => e
 | n + 1, k => fun r e => h (k + n) r (LeO.add h n k r e)
theorem wide_Cmp.low {a b c d : Int} (k : Nat) (hk : 0 < k) : ∃ t, wide_Cmp.f k a b c d = some t ∧ (t ≤ 0 ↔ (a < c ∨ (a = c ∧ b ≤ d))) := by
 obtain ⟨k, rfl⟩ : ∃ j, k = j + 1 := ⟨k - 1, by omega⟩
 unfold wide_Cmp.f
 by_cases h1 : a < c
 ·rw [if_pos h1, wide_Cmp.j0, if_pos rfl]
  exact ⟨_, rfl, by omega⟩
 ·rw [if_neg h1]
  by_cases h2 : a = c
  ·rw [if_pos h2]
   by_cases h3 : b < d
   ·rw [decide_eq_true h3, wide_Cmp.j0, if_pos rfl]
    exact ⟨_, rfl, by omega⟩
   ·rw [decide_eq_false h3, wide_Cmp.j0, if_neg (by decide), if_pos h2]
    by_cases h4 : b = d
    ·rw [if_pos h4]; exact ⟨_, rfl, by omega⟩
    ·rw [if_neg h4]; exact ⟨_, rfl, by omega⟩
  ·rw [if_neg h2, wide_Cmp.j0, if_neg (by decide), if_neg h2]
   exact ⟨_, rfl, by omega⟩
theorem wide_Mul.f_eq {a b : Int} (ha0 : 0 ≤ a) (ha : a < 18446744073709551616) (hb0 : 0 ≤ b) (hb : b < 18446744073709551616) :
  wide_Mul.f a b = some (a * b / 18446744073709551616, a * b % 18446744073709551616) := by
 unfold wide_Mul.f
 rw [if_pos (u64B_iff.2 ⟨ha0, ha⟩), if_pos (u64B_iff.2 ⟨hb0, hb⟩)]
structure Lng (p : Nat) (v u : List Int) (jn : Nat) : Prop where
 hv : Ws v
 lv : v.length = p + 2
 top : 9223372036854775808 ≤ v.getD (p + 1) 0
 hu : Ws u
 lu : jn + p + 3 ≤ u.length
 hm : u.length ≤ 35184372088832
def win (p : Nat) (u : List Int) (jn : Nat) : List Int := (u.drop jn).take (p + 3)
theorem Lng.win_len {p : Nat} {v u : List Int} {jn : Nat} (h : Lng p v u jn) : (win p u jn).length = p + 3 := by
 have := h.lu
 unfold win; rw [List.length_take, List.length_drop]; omega
theorem Lng.win_ws {p : Nat} {v u : List Int} {jn : Nat} (h : Lng p v u jn) : Ws (win p u jn) := (h.hu.drop _).take _
theorem Lng.win_at {p : Nat} {v u : List Int} {jn : Nat} (h : Lng p v u jn) (i : Nat) (hi : i < p + 3) : (win p u jn).getD i 0 = u.getD (jn + i) 0 := by
 unfold win
 rw [List.getD_eq_getElem?_getD, List.getElem?_take, if_pos hi, List.getElem?_drop, ← List.getD_eq_getElem?_getD]
theorem Lng.vpos {p : Nat} {v u : List Int} {jn : Nat} (h : Lng p v u jn) : 0 < nv v := by
 have h1 := nv_two h.lv
 have h2 := nv_nonneg (h.hv.take p)
 have h3 := h.hv.getD p
 have h4 := h.top
 have h5 : 1 * 2 ^ (64 * p) ≤ (v.getD (p + 1) 0 * 18446744073709551616 + v.getD p 0) * 2 ^ (64 * p) := Int.mul_le_mul_of_nonneg_right (by omega) (Int.le_of_lt (two_pow_pos _))
 have h6 := two_pow_pos (64 * p)
 omega
theorem long_round {p : Nat} {v u : List Int} {jn : Nat} (lv : v.length = p + 2) (lu : jn + p + 3 ≤ u.length) (mu : u.length ≤ 35184372088832) (hv : Ws v) (hu : Ws u) (s : Int) (q : List Int) (g r t : Int) (hg0 : 0 ≤ g) (hg : g < 18446744073709551616) (hr0 : 0 ≤ r) (hr : r < 18446744073709551616) (k : Nat)
  (ht : wide_Cmp.f k (g * v.getD p 0 / 18446744073709551616) (g * v.getD p 0 % 18446744073709551616) r (u.getD (jn + p) 0) = some t) :
  quot_long.l1 (k + 1) g r ((p + 2 : Nat) : Int) s v u (jn : Int) q = if t ≤ 0 then quot_long.j3 k g ((p + 2 : Nat) : Int) s v u (jn : Int) q else if r + v.getD (p + 1) 0 < 18446744073709551616 then quot_long.l1 k (IntKind.u64.wrap (g - 1)) (r + v.getD (p + 1) 0) ((p + 2 : Nat) : Int) s v u (jn : Int) q else quot_long.j3 k (IntKind.u64.wrap (g - 1)) ((p + 2 : Nat) : Int) s v u (jn : Int) q := by
 have b2 : (p : Int) < (v.length : Int) := by omega
 have b4 : ((jn + p : Nat) : Int) < (u.length : Int) := by omega
 have b6 : ((p + 1 : Nat) : Int) < (v.length : Int) := by omega
 have a1 : wrap64 (((p + 2 : Nat) : Int) - 2) = (p : Int) := w64x (by omega) (by omega)
 have a2 : wrap64 ((jn : Int) + ((p + 2 : Nat) : Int)) = ((jn + p + 2 : Nat) : Int) := w64x (by omega) (by omega)
 have a3 : wrap64 (((jn + p + 2 : Nat) : Int) - 2) = ((jn + p : Nat) : Int) := w64x (by omega) (by omega)
 have a4 : wrap64 (((p + 2 : Nat) : Int) - 1) = ((p + 1 : Nat) : Int) := w64x (by omega) (by omega)
 have v1 := hv.getD (p + 1)
 have v2 := hv.getD p
 conv => lhs; unfold quot_long.l1
 rw [a1, a2, a3, a4, if_pos (Int.natCast_nonneg _), if_pos b2, rdn, wide_Mul.f_eq hg0 hg v2.1 v2.2]
 simp only [Option.bind_some]
 rw [if_pos (Int.natCast_nonneg _), if_pos b4, rdn, ht]
 simp only [Option.bind_some]
 by_cases hc : t ≤ 0
 ·rw [if_pos hc, if_pos hc]
 ·rw [if_neg hc, if_neg hc, if_pos (Int.natCast_nonneg _), if_pos b6, rdn, wide_Add.f_eq hr0 hr v1.1 v1.2 (by decide) (by decide)]
  simp only [Option.bind_some]
  clear a1 a2 a3 a4 ht
  by_cases hcar : r + v.getD (p + 1) 0 < 18446744073709551616
  ·have c1 : (r + v.getD (p + 1) 0 + 0) / 18446744073709551616 = 0 := by omega
   have c2 : (r + v.getD (p + 1) 0 + 0) % 18446744073709551616 = r + v.getD (p + 1) 0 := by omega
   rw [c1, c2, if_pos rfl, if_pos hcar]
  ·have c1 : ¬ (r + v.getD (p + 1) 0 + 0) / 18446744073709551616 = 0 := by omega
   rw [if_neg c1, if_neg hcar]
theorem long_correct {p : Nat} {v u : List Int} {jn : Nat} (h : Lng p v u jn) (s : Int) (q : List Int) : ∀ (d : Nat) (g r : Int), 0 ≤ g → g < 18446744073709551616 → 0 ≤ r → r < 18446744073709551616 → 18446744073709551616 ≤ r + d * 9223372036854775808 →
  g * v.getD (p + 1) 0 + r = u.getD (jn + p + 2) 0 * 18446744073709551616 + u.getD (jn + p + 1) 0 → nv (win p u jn) < (g + 1) * nv v →
  ∃ g', 0 ≤ g' ∧ g' < 18446744073709551616 ∧ (g' - 1) * nv v ≤ nv (win p u jn) ∧ nv (win p u jn) < (g' + 1) * nv v ∧
   ∀ (k : Nat) R, 0 < k → quot_long.j3 k g' ((p + 2 : Nat) : Int) s v u (jn : Int) q = some R → quot_long.l1 (k + d) g r ((p + 2 : Nat) : Int) s v u (jn : Int) q = some R := by
 intro d
 induction d with
 | zero => intro g r hg0 hg hr0 hr hd; omega
 | succ d ih =>
  intro g r hg0 hg hr0 hr hd he hq
  have hlv := h.lv
  have hlu := h.lu
  have hmu := h.hm
  have v1 := h.hv.getD (p + 1)
  have v2 := h.hv.getD p
  have htop := h.top
  have w0 := h.hu.getD (jn + p)
  have e1 := nv_two h.lv
  have e2 := nv_three h.win_len
  rw [h.win_at _ (by omega), h.win_at _ (by omega), h.win_at _ (by omega)] at e2
  rw [show jn + (p + 2) = jn + p + 2 from by omega, show jn + (p + 1) = jn + p + 1 from by omega] at e2
  have hP := two_pow_pos (64 * p)
  have vr0 := nv_nonneg (h.hv.take p)
  have vr1 := nv_lt (h.hv.take p)
  have ur0 := nv_nonneg (h.win_ws.take p)
  have ur1 := nv_lt (h.win_ws.take p)
  rw [List.length_take, Nat.min_eq_left (by omega)] at vr1
  rw [List.length_take, Nat.min_eq_left (by rw [h.win_len]; omega)] at ur1
  have hgv0 : 0 ≤ g * v.getD p 0 := Int.mul_nonneg hg0 v2.1
  obtain ⟨t, ht, hti⟩ := wide_Cmp.low (a := g * v.getD p 0 / 18446744073709551616) (b := g * v.getD p 0 % 18446744073709551616) (c := r) (d := u.getD (jn + p) 0) 1 (by omega)
  have hle : (t ≤ 0) ↔ g * v.getD p 0 ≤ r * 18446744073709551616 + u.getD (jn + p) 0 := by
   rw [hti]
   generalize g * v.getD p 0 = z at *
   omega
  have hti2 : ∀ k, 0 < k → wide_Cmp.f k (g * v.getD p 0 / 18446744073709551616) (g * v.getD p 0 % 18446744073709551616) r (u.getD (jn + p) 0) = some t := by
   intro k hk
   have := LeO.add (f := fun k => wide_Cmp.f k (g * v.getD p 0 / 18446744073709551616) (g * v.getD p 0 % 18446744073709551616) r (u.getD (jn + p) 0)) (fun k => wide_Cmp.mono _ _ _ _ k) (k - 1) 1 t ht
   rwa [show 1 + (k - 1) = k from by omega] at this
  have step : ∀ k, 0 < k → quot_long.l1 (k + 1) g r ((p + 2 : Nat) : Int) s v u (jn : Int) q = if t ≤ 0 then quot_long.j3 k g ((p + 2 : Nat) : Int) s v u (jn : Int) q else if r + v.getD (p + 1) 0 < 18446744073709551616 then quot_long.l1 k (IntKind.u64.wrap (g - 1)) (r + v.getD (p + 1) 0) ((p + 2 : Nat) : Int) s v u (jn : Int) q else quot_long.j3 k (IntKind.u64.wrap (g - 1)) ((p + 2 : Nat) : Int) s v u (jn : Int) q :=
   fun k hk => long_round hlv hlu hmu h.hv h.hu s q g r t hg0 hg hr0 hr k (hti2 k hk)
  clear hti2 ht
  by_cases hc : t ≤ 0
  ·refine ⟨g, hg0, hg, ?_, hq, ?_⟩
   ·rw [e1, e2]
    exact knuth_exit hP (by decide) he (hle.1 hc) ur0 hg0 hg vr0 vr1 (by omega) v2.1
   ·intro k R hk hR
    rw [show k + (d + 1) = (k + d) + 1 from by omega, step (k + d) (by omega), if_pos hc]
    exact LeO.add (f := fun k => quot_long.j3 k g ((p + 2 : Nat) : Int) s v u (jn : Int) q) (fun k => (quot_long.mono_l k).2.1 _ _ _ _ _ _ _) d k R hR
  ·have hlt : r * 18446744073709551616 + u.getD (jn + p) 0 < g * v.getD p 0 := by
    have := hle
    omega
   have hup := knuth_up (vr := nv (v.take p)) hP he hlt ur1 hg0 vr0
   rw [← e1, ← e2] at hup
   have hg1 : 1 ≤ g := by
    apply Classical.byContradiction
    intro hn
    obtain rfl : g = 0 := by omega
    have := nv_nonneg h.win_ws
    omega
   have ewr : IntKind.u64.wrap (g - 1) = g - 1 := u64w_of (by omega) (by omega)
   have he' : (g - 1) * v.getD (p + 1) 0 + (r + v.getD (p + 1) 0) = u.getD (jn + p + 2) 0 * 18446744073709551616 + u.getD (jn + p + 1) 0 := by
    rw [Int.sub_mul]; omega
   by_cases hcar : r + v.getD (p + 1) 0 < 18446744073709551616
   ·obtain ⟨g', h1, h2, h3, h4, h5⟩ := ih (g - 1) (r + v.getD (p + 1) 0) (by omega) (by omega) (by omega) hcar (by omega) he' (by rw [show g - 1 + 1 = g from by omega]; exact hup)
    refine ⟨g', h1, h2, h3, h4, ?_⟩
    intro k R hk hR
    rw [show k + (d + 1) = (k + d) + 1 from by omega, step (k + d) (by omega), if_neg hc, if_pos hcar, ewr]
    exact h5 k R hk hR
   ·refine ⟨g - 1, by omega, by omega, ?_, by rw [show g - 1 + 1 = g from by omega]; exact hup, ?_⟩
    ·have hov := knuth_over (vr := nv (v.take p)) (ur := nv ((win p u jn).take p)) (u0 := u.getD (jn + p) 0) hP (by decide) he' (by omega) ur0 w0.1 (by omega) (by omega) vr1 v2.2
     rw [← e1, ← e2] at hov
     have hvp := h.vpos
     rw [Int.sub_mul (g - 1)]
     omega
    ·intro k R hk hR
     rw [show k + (d + 1) = (k + d) + 1 from by omega, step (k + d) (by omega), if_neg hc, if_neg hcar, ewr]
     exact LeO.add (f := fun k => quot_long.j3 k (g - 1) ((p + 2 : Nat) : Int) s v u (jn : Int) q) (fun k => (quot_long.mono_l k).2.1 _ _ _ _ _ _ _) d k R hR
def spl (p : Nat) (u : List Int) (jn : Nat) (y : List Int) : List Int := u.take jn ++ y ++ u.drop (jn + (p + 3))
theorem spl_len {p jn : Nat} {u y : List Int} (h : jn + p + 3 ≤ u.length) (hy : y.length = p + 3) : (spl p u jn y).length = u.length := by
 unfold spl; rw [List.length_append, List.length_append, List.length_take, List.length_drop, hy]; omega
theorem spl_ws {p jn : Nat} {u y : List Int} (hu : Ws u) (hy : Ws y) : Ws (spl p u jn y) := (((hu.take _).append hy).append (hu.drop _))
theorem spl_win {p jn : Nat} {u y : List Int} (h : jn + p + 3 ≤ u.length) (hy : y.length = p + 3) : win p (spl p u jn y) jn = y := by
 unfold win spl
 rw [List.append_assoc, List.drop_left' (by rw [List.length_take]; omega), List.take_left' hy]
theorem spl_spl {p jn : Nat} {u y z : List Int} (h : jn + p + 3 ≤ u.length) (hy : y.length = p + 3) : spl p (spl p u jn y) jn z = spl p u jn z := by
 have e1 : (spl p u jn y).take jn = u.take jn := by unfold spl; rw [List.append_assoc, List.take_left' (by rw [List.length_take]; omega)]
 have e2 : (spl p u jn y).drop (jn + (p + 3)) = u.drop (jn + (p + 3)) := by unfold spl; rw [List.drop_left' (by rw [List.length_append, List.length_take, hy]; omega)]
 show (spl p u jn y).take jn ++ z ++ (spl p u jn y).drop (jn + (p + 3)) = _
 rw [e1, e2]; rfl
theorem win_nv {p jn : Nat} {u : List Int} (h : jn + p + 3 ≤ u.length) : nv u = nv (u.take jn) + 2 ^ (64 * jn) * nv (win p u jn) + 2 ^ (64 * (jn + (p + 3))) * nv (u.drop (jn + (p + 3))) := by
 have e1 := nv_split (xs := u) (n := jn) (by omega)
 have e2 := nv_split (xs := u.drop jn) (n := p + 3) (by rw [List.length_drop]; omega)
 rw [List.drop_drop] at e2
 rw [e1, e2, show 64 * (jn + (p + 3)) = 64 * jn + 64 * (p + 3) from by omega, Int.pow_add]
 unfold win
 grind
theorem spl_nv {p jn : Nat} {u y : List Int} (h : jn + p + 3 ≤ u.length) (hy : y.length = p + 3) : nv (spl p u jn y) = nv u + 2 ^ (64 * jn) * (nv y - nv (win p u jn)) := by
 have e1 := win_nv (p := p) (u := u) (jn := jn) h
 have e2 : nv (spl p u jn y) = nv (u.take jn) + 2 ^ (64 * jn) * nv y + 2 ^ (64 * (jn + (p + 3))) * nv (u.drop (jn + (p + 3))) := by
  unfold spl
  rw [nv_append, nv_append, List.length_append, List.length_take, hy, Nat.min_eq_left (by omega)]
 rw [e2, e1]
 grind
theorem takeAt_eq {p : Nat} {v u : List Int} {jn : Nat} (h : Lng p v u jn) (b : Int) (hb0 : 0 ≤ b) (hb : b < 18446744073709551616) (k : Nat) (hk : p + 2 < k) :
  quot_takeAt.f k u (jn : Int) ((p + 2 : Nat) : Int) v b = some (decide (nv (win p u jn) < b * nv v), spl p u jn (wn (p + 3) (if nv (win p u jn) < b * nv v then nv (win p u jn) - b * nv v + 2 ^ (64 * (p + 3)) else nv (win p u jn) - b * nv v))) := by
 have hlu := h.lu
 have hm := h.hm
 have hlv := h.lv
 have a2 : wrap64 ((jn : Int) + ((p + 2 : Nat) : Int)) = ((jn + p + 2 : Nat) : Int) := w64x (by omega) (by omega)
 have a3 : wrap64 (((jn + p + 2 : Nat) : Int) + 1) = ((jn + p + 3 : Nat) : Int) := w64x (by omega) (by omega)
 have e := quot_take.f_eq (win p u jn) v h.win_ws h.hv (by rw [h.win_len, h.lv]) (by omega) b hb0 hb k (by omega)
 rw [h.lv] at e
 unfold quot_takeAt.f
 rw [if_pos ⟨by omega, by omega, by omega, by rw [a2, a3]; omega⟩, Int.toNat_natCast, Int.toNat_natCast]
 show (quot_take.f k (win p u jn) v b).bind _ = _
 rw [e]
 rfl
theorem giveAt_eq {p : Nat} {v u : List Int} {jn : Nat} (h : Lng p v u jn) (k : Nat) (hk : p + 2 < k) :
  quot_giveAt.f k u (jn : Int) ((p + 2 : Nat) : Int) v = some (spl p u jn (wn (p + 3) (if nv (win p u jn) + nv v < 2 ^ (64 * (p + 3)) then nv (win p u jn) + nv v else nv (win p u jn) + nv v - 2 ^ (64 * (p + 3))))) := by
 have hlu := h.lu
 have hm := h.hm
 have hlv := h.lv
 have e := quot_give.f_eq (win p u jn) v h.win_ws h.hv (by rw [h.win_len, h.lv]) (by omega) k (by omega)
 rw [h.lv] at e
 unfold quot_giveAt.f
 rw [if_pos ⟨by omega, by omega, by omega⟩, Int.toNat_natCast, Int.toNat_natCast]
 show (quot_give.f k (win p u jn) v).bind _ = _
 rw [e]
 rfl
theorem ediv_of {W V g : Int} (hV : 0 < V) (h1 : g * V ≤ W) (h2 : W < (g + 1) * V) : W / V = g := by
 rw [Int.add_mul, Int.one_mul] at h2
 have := (Int.ediv_emod_unique (a := W) (b := V) (r := W - g * V) (q := g) hV).2 ⟨by rw [Int.mul_comm V g]; omega, by omega, by omega⟩
 exact this.1
theorem Lng.win_lt {p : Nat} {v u : List Int} {jn : Nat} (h : Lng p v u jn) : nv (win p u jn) < 2 ^ (64 * (p + 3)) := by
 have := nv_lt h.win_ws; rwa [h.win_len] at this
theorem Lng.v_lt {p : Nat} {v u : List Int} {jn : Nat} (h : Lng p v u jn) : nv v < 2 ^ (64 * (p + 2)) := by
 have := nv_lt h.hv; rwa [h.lv] at this
theorem long_subtract {p : Nat} {v u : List Int} {jn : Nat} (h : Lng p v u jn) (s : Int) (q : List Int) (hq : jn < q.length) (hqm : q.length ≤ 35184372088832) (g : Int) (hg0 : 0 ≤ g) (hg : g < 18446744073709551616)
  (h1 : (g - 1) * nv v ≤ nv (win p u jn)) (h2 : nv (win p u jn) < (g + 1) * nv v) (k : Nat) (hk : p + 2 < k) :
  quot_long.j3 (k + 1) g ((p + 2 : Nat) : Int) s v u (jn : Int) q = quot_long.l0 k ((p + 2 : Nat) : Int) s v (spl p u jn (wn (p + 3) (nv (win p u jn) % nv v))) ((jn : Int) - 1) (q.set jn (nv (win p u jn) / nv v)) := by
 have hvp := h.vpos
 have hw0 := nv_nonneg h.win_ws
 have hw1 := h.win_lt
 have hv1 := h.v_lt
 have hlu := h.lu
 have hwr : wrap64 ((jn : Int) - 1) = (jn : Int) - 1 := w64_of (by omega) (by omega)
 have hjq : (jn : Int) < (q.length : Int) := by omega
 unfold quot_long.j3
 rw [takeAt_eq h g hg0 hg k hk]
 simp only [Option.bind_some]
 by_cases hc : nv (win p u jn) < g * nv v
 ·rw [if_pos hc, decide_eq_true hc, if_pos rfl]
  have hg1 : 1 ≤ g := by
   apply Classical.byContradiction
   intro hn
   obtain rfl : g = 0 := by omega
   omega
  have eQ : nv (win p u jn) / nv v = g - 1 := ediv_of hvp h1 (by rw [show g - 1 + 1 = g from by omega]; exact hc)
  have eR : nv (win p u jn) % nv v = nv (win p u jn) - g * nv v + nv v := by
   rw [Int.emod_def, eQ, Int.mul_sub, Int.mul_one, Int.mul_comm (nv v) g]; omega
  have hy0 : 0 ≤ nv (win p u jn) - g * nv v + 2 ^ (64 * (p + 3)) := by
   have : nv v < 2 ^ (64 * (p + 3)) := Int.lt_of_lt_of_le hv1 (pow_mono (by omega))
   rw [Int.sub_mul, Int.one_mul] at h1
   omega
  have hy1 : nv (win p u jn) - g * nv v + 2 ^ (64 * (p + 3)) < 2 ^ (64 * (p + 3)) := by omega
  have e1 := nv_wn (p + 3) hy0 hy1
  have l1 := wn_length (p + 3) (nv (win p u jn) - g * nv v + 2 ^ (64 * (p + 3)))
  have w1 := wn_ws (p + 3) (nv (win p u jn) - g * nv v + 2 ^ (64 * (p + 3)))
  have h' : Lng p v (spl p u jn (wn (p + 3) (nv (win p u jn) - g * nv v + 2 ^ (64 * (p + 3))))) jn := ⟨h.hv, h.lv, h.top, spl_ws h.hu w1, by rw [spl_len hlu l1]; exact h.lu, by rw [spl_len hlu l1]; exact h.hm⟩
  rw [giveAt_eq h' k hk, spl_win hlu l1, spl_spl hlu l1, e1]
  simp only [Option.bind_some]
  have hnl : ¬ nv (win p u jn) - g * nv v + 2 ^ (64 * (p + 3)) + nv v < 2 ^ (64 * (p + 3)) := by
   rw [Int.sub_mul, Int.one_mul] at h1
   omega
  rw [if_neg hnl, if_pos (Int.natCast_nonneg _), if_pos hjq, hwr, Int.toNat_natCast, u64w_of (by omega) (by omega), eQ, eR]
  rw [show nv (win p u jn) - g * nv v + 2 ^ (64 * (p + 3)) + nv v - 2 ^ (64 * (p + 3)) = nv (win p u jn) - g * nv v + nv v from by omega]
 ·rw [if_neg hc, decide_eq_false hc, if_neg (by decide), if_pos (Int.natCast_nonneg _), if_pos hjq, hwr, Int.toNat_natCast]
  have eQ : nv (win p u jn) / nv v = g := ediv_of hvp (by omega) h2
  have eR : nv (win p u jn) % nv v = nv (win p u jn) - g * nv v := by
   rw [Int.emod_def, eQ, Int.mul_comm]
  rw [eQ, eR]
theorem knuth_first {v1 v2 vr P B U u0 ur g : Int} (hP : 0 < P) (hB : 0 < B) (h : U + 1 ≤ (g + 1) * v1) (hu0 : u0 < B) (hur : ur < P) (hg0 : 0 ≤ g) (hvr : 0 ≤ vr) (hv2 : 0 ≤ v2) :
  (U * B + u0) * P + ur < (g + 1) * ((v1 * B + v2) * P + vr) := by
 have e : (g + 1) * ((v1 * B + v2) * P + vr) = (g + 1) * v1 * (B * P) + (g + 1) * (v2 * P + vr) := by grind
 have h1 : 0 ≤ (g + 1) * (v2 * P + vr) := Int.mul_nonneg (by omega) (Int.add_nonneg (Int.mul_nonneg hv2 (by omega)) hvr)
 have h2 : (U + 1) * (B * P) ≤ (g + 1) * v1 * (B * P) := Int.mul_le_mul_of_nonneg_right h (Int.mul_nonneg (by omega) (by omega))
 have h3 : (u0 + 1) * P ≤ B * P := Int.mul_le_mul_of_nonneg_right (by omega) (by omega)
 have e2 : (U * B + u0) * P = U * (B * P) + u0 * P := by grind
 rw [Int.add_mul, Int.one_mul] at h2 h3
 omega
theorem high_le {v1 v2 vr P B u2 u1 u0 ur : Int} (hP : 0 < P) (hB : 0 < B) (h : ((u2 * B + u1) * B + u0) * P + ur < ((v1 * B + v2) * P + vr) * B) (hu1 : 0 ≤ u1) (hu0 : 0 ≤ u0) (hur : 0 ≤ ur) (hv2 : v2 < B) (hvr : vr < P) : u2 ≤ v1 := by
 apply Classical.byContradiction
 intro hn
 have h1 : (v1 + 1) * (B * B * P) ≤ u2 * (B * B * P) := Int.mul_le_mul_of_nonneg_right (by omega) (Int.mul_nonneg (Int.mul_nonneg (by omega) (by omega)) (by omega))
 have h2 : (v2 + 1) * P ≤ B * P := Int.mul_le_mul_of_nonneg_right (by omega) (by omega)
 rw [Int.add_mul, Int.one_mul] at h2
 have h3 : (v2 * P + vr) * B ≤ B * P * B := Int.mul_le_mul_of_nonneg_right (by omega) (by omega)
 have h4 : 0 ≤ u1 * B * P := Int.mul_nonneg (Int.mul_nonneg hu1 (by omega)) (by omega)
 have h5 : 0 ≤ u0 * P := Int.mul_nonneg hu0 (by omega)
 have e1 : ((u2 * B + u1) * B + u0) * P = u2 * (B * B * P) + u1 * B * P + u0 * P := by grind
 have e2 : ((v1 * B + v2) * P + vr) * B = v1 * (B * B * P) + (v2 * P + vr) * B := by grind
 have e3 : (v1 + 1) * (B * B * P) = v1 * (B * B * P) + B * P * B := by grind
 omega
theorem nv_take_of_lt {xs : List Int} (h : Ws xs) {n : Nat} (hn : n ≤ xs.length) (hl : nv xs < 2 ^ (64 * n)) : nv (xs.take n) = nv xs := by
 have e := nv_split (xs := xs) (n := n) hn
 have h1 := nv_nonneg (h.take n)
 have h2 := nv_nonneg (h.drop n)
 have hp := two_pow_pos (64 * n)
 have h3 : nv (xs.drop n) < 1 := by
  apply Classical.byContradiction
  intro hc
  have := Int.mul_le_mul_of_nonneg_left (show 1 ≤ nv (xs.drop n) by omega) (Int.le_of_lt hp)
  omega
 rw [show nv (xs.drop n) = 0 from by omega, Int.mul_zero] at e
 omega
theorem long_guess {p : Nat} {v u : List Int} {jn : Nat} (h : Lng p v u jn) (s : Int) (q : List Int) (hq : jn < q.length) (hqm : q.length ≤ 35184372088832) (hB : nv (win p u jn) < nv v * 18446744073709551616) (k : Nat) (hk : p + 2 < k) (R : List Int × List Int)
  (hR : quot_long.l0 k ((p + 2 : Nat) : Int) s v (spl p u jn (wn (p + 3) (nv (win p u jn) % nv v))) ((jn : Int) - 1) (q.set jn (nv (win p u jn) / nv v)) = some R) :
  quot_long.l0 (k + 5) ((p + 2 : Nat) : Int) s v u (jn : Int) q = some R := by
 have hlv := h.lv
 have hlu := h.lu
 have hmu := h.hm
 have A2 : Aside0 (wrap64 ((jn : Int) + ((p + 2 : Nat) : Int)) = ((jn + p + 2 : Nat) : Int)) := ⟨w64x (by omega) (by omega)⟩
 have A3 : Aside0 (wrap64 (((jn + p + 2 : Nat) : Int) - 1) = ((jn + p + 1 : Nat) : Int)) := ⟨w64x (by omega) (by omega)⟩
 have A4 : Aside0 (wrap64 (((p + 2 : Nat) : Int) - 1) = ((p + 1 : Nat) : Int)) := ⟨w64x (by omega) (by omega)⟩
 have b1 : ((jn + p + 2 : Nat) : Int) < (u.length : Int) := by omega
 have b2 : ((p + 1 : Nat) : Int) < (v.length : Int) := by omega
 have b3 : ((jn + p + 1 : Nat) : Int) < (u.length : Int) := by omega
 have b4 : ¬ (jn : Int) < 0 := by omega
 have v1 := h.hv.getD (p + 1)
 have v2 := h.hv.getD p
 have htop := h.top
 have w2 := h.hu.getD (jn + p + 2)
 have w1 := h.hu.getD (jn + p + 1)
 have w0 := h.hu.getD (jn + p)
 have e1 := nv_two h.lv
 have e2 := nv_three h.win_len
 rw [h.win_at _ (by omega), h.win_at _ (by omega), h.win_at _ (by omega)] at e2
 rw [show jn + (p + 2) = jn + p + 2 from by omega, show jn + (p + 1) = jn + p + 1 from by omega] at e2
 have hP := two_pow_pos (64 * p)
 have vr0 := nv_nonneg (h.hv.take p)
 have vr1 := nv_lt (h.hv.take p)
 have ur0 := nv_nonneg (h.win_ws.take p)
 have ur1 := nv_lt (h.win_ws.take p)
 rw [List.length_take, Nat.min_eq_left (by omega)] at vr1
 rw [List.length_take, Nat.min_eq_left (by rw [h.win_len]; omega)] at ur1
 have hhi : u.getD (jn + p + 2) 0 ≤ v.getD (p + 1) 0 := high_le hP (by decide) (by rw [← e1, ← e2]; exact hB) w1.1 w0.1 ur0 v2.2 vr1
 have sub : ∀ g, 0 ≤ g → g < 18446744073709551616 → (g - 1) * nv v ≤ nv (win p u jn) → nv (win p u jn) < (g + 1) * nv v → quot_long.j3 (k + 1) g ((p + 2 : Nat) : Int) s v u (jn : Int) q = some R := by
  intro g hg0 hg h1 h2
  rw [long_subtract h s q hq hqm g hg0 hg h1 h2 k hk]
  exact hR
 have corr : ∀ g r, 0 ≤ g → g < 18446744073709551616 → 0 ≤ r → r < 18446744073709551616 → g * v.getD (p + 1) 0 + r = u.getD (jn + p + 2) 0 * 18446744073709551616 + u.getD (jn + p + 1) 0 → nv (win p u jn) < (g + 1) * nv v → quot_long.j1 (k + 4) g r ((p + 2 : Nat) : Int) s v u (jn : Int) q = some R := by
  intro g r hg0 hg hr0 hr he hw
  obtain ⟨g', c0, c1, c2, c3, c4⟩ := long_correct h s q 2 g r hg0 hg hr0 hr (by clear e1 e2 he hw hB; omega) he hw
  unfold quot_long.j1
  exact c4 (k + 1) R (by omega) (sub g' c0 c1 c2 c3)
 conv => lhs; unfold quot_long.l0
 rw [if_neg b4, A2.out, A3.out, A4.out, if_pos (Int.natCast_nonneg _), if_pos b1, if_pos (Int.natCast_nonneg _), if_pos b2, rdn, rdn, rdn]
 clear b1 b2 b4
 by_cases heq : u.getD (jn + p + 2) 0 = v.getD (p + 1) 0
 ·rw [if_pos heq, if_pos (Int.natCast_nonneg _), if_pos b3, wide_Add.f_eq w1.1 w1.2 v1.1 v1.2 (by decide) (by decide)]
  simp only [Option.bind_some]
  have he : 18446744073709551615 * v.getD (p + 1) 0 + (u.getD (jn + p + 1) 0 + v.getD (p + 1) 0) = u.getD (jn + p + 2) 0 * 18446744073709551616 + u.getD (jn + p + 1) 0 := by clear e1 e2; omega
  have hw : nv (win p u jn) < (18446744073709551615 + 1) * nv v := by rw [Int.mul_comm]; exact hB
  by_cases hcar : u.getD (jn + p + 1) 0 + v.getD (p + 1) 0 < 18446744073709551616
  ·have c1 : ¬ (u.getD (jn + p + 1) 0 + v.getD (p + 1) 0 + 0) / 18446744073709551616 = 1 := by clear e1 e2 he hw; omega
   have c2 : (u.getD (jn + p + 1) 0 + v.getD (p + 1) 0 + 0) % 18446744073709551616 = u.getD (jn + p + 1) 0 + v.getD (p + 1) 0 := by clear e1 e2 he hw; omega
   rw [if_neg c1, c2]
   exact corr _ _ (by decide) (by decide) (by clear e1 e2 he hw; omega) hcar he hw
  ·have c1 : (u.getD (jn + p + 1) 0 + v.getD (p + 1) 0 + 0) / 18446744073709551616 = 1 := by clear e1 e2 he hw; omega
   rw [if_pos c1]
   have hov := knuth_over (vr := nv (v.take p)) (ur := nv ((win p u jn).take p)) (u0 := u.getD (jn + p) 0) hP (by decide) he (by clear e1 e2 he hw; omega) ur0 w0.1 (by decide) (by decide) vr1 v2.2
   rw [← e1, ← e2] at hov
   have hvp := h.vpos
   have hj3 := sub 18446744073709551615 (by decide) (by decide) (by rw [Int.sub_mul]; clear e1 e2 he hw hB; omega) hw
   exact LeO.add (f := fun k => quot_long.j3 k 18446744073709551615 ((p + 2 : Nat) : Int) s v u (jn : Int) q) (fun k => (quot_long.mono_l k).2.1 _ _ _ _ _ _ _) 3 (k + 1) R hj3
 ·rw [if_neg heq, if_pos (Int.natCast_nonneg _), if_pos b3]
  obtain ⟨d1, d2, d3, d4, d5, d6⟩ := div_step (r := u.getD (jn + p + 2) 0) (x := u.getD (jn + p + 1) 0) (d := v.getD (p + 1) 0) w2.1 (by clear e1 e2; omega) w1.1 w1.2 v1.2
  rw [d1]
  simp only [Option.bind_some]
  generalize (u.getD (jn + p + 2) 0 * 18446744073709551616 + u.getD (jn + p + 1) 0) / v.getD (p + 1) 0 = g at *
  generalize (u.getD (jn + p + 2) 0 * 18446744073709551616 + u.getD (jn + p + 1) 0) % v.getD (p + 1) 0 = r at *
  refine corr g r d2 d3 d4 (by clear e1 e2 d6 d1; omega) d6.symm ?_
  have hf := knuth_first (g := g) (vr := nv (v.take p)) (ur := nv ((win p u jn).take p)) (u0 := u.getD (jn + p) 0) (v1 := v.getD (p + 1) 0) (v2 := v.getD p 0) (U := u.getD (jn + p + 2) 0 * 18446744073709551616 + u.getD (jn + p + 1) 0) hP (show (0 : Int) < 18446744073709551616 by decide) (by rw [d6, Int.add_mul]; clear e1 e2 d6 d1; omega) w0.2 ur1 d2 vr0 v2.1
  rw [← e1, ← e2] at hf
  exact hf
theorem long_inv {X V W nu nq Q R t P : Int} (hW : W = V * Q + R) (hn : nu = t + P * W) (he : nu + V * nq = X) : (nu + P * (R - W)) + V * (nq + (Q - 0) * P) = X := by
 subst hW hn
 grind
theorem long_main {p : Nat} {v : List Int} (hv : Ws v) (lv : v.length = p + 2) (top : 9223372036854775808 ≤ v.getD (p + 1) 0) (s : Nat) (hs : s ≤ 63) (X : Int) : ∀ (J k : Nat) (u q : List Int), 5 * J + u.length + 1 < k → Ws u → J + p + 2 ≤ u.length → u.length ≤ 35184372088832 → Ws q → J ≤ q.length → q.length ≤ 35184372088832 → (∀ i, i < J → q.getD i 0 = 0) → nv u < nv v * 2 ^ (64 * J) → nv u + nv v * nv q = X →
  quot_long.l0 k ((p + 2 : Nat) : Int) (s : Int) v u ((J : Int) - 1) q = some (wd (X / nv v).toNat, wd (X % nv v / 2 ^ s).toNat) := by
 intro J
 induction J with
 | zero =>
  intro k u q hk hu lu mu hq lq mq hz hb he
  obtain ⟨k, rfl⟩ : ∃ j, k = j + 1 := ⟨k - 1, by omega⟩
  have hvl := nv_lt hv
  have hu0 := nv_nonneg hu
  rw [lv] at hvl
  rw [Nat.mul_zero, Int.pow_zero, Int.mul_one] at hb
  have eQ : X / nv v = nv q := by rw [← he, Int.add_mul_ediv_left _ _ (by omega), Int.ediv_eq_zero_of_lt hu0 hb, Int.zero_add]
  have eR : X % nv v = nv u := by rw [← he, Int.add_mul_emod_self_left, Int.emod_eq_of_lt hu0 hb]
  have hlt : nv u < 2 ^ (64 * (p + 2)) := Int.lt_trans hb hvl
  have c1 : ((0 : Nat) : Int) - 1 < 0 := by decide
  have c2 : ((p + 2 : Nat) : Int) ≤ (u.length : Int) := by clear hvl hb hlt he eQ eR; omega
  have lt1 : (u.take (p + 2)).length = p + 2 := by rw [List.length_take]; clear hvl hb hlt he eQ eR; omega
  unfold quot_long.l0
  rw [if_pos c1, nat_Norm.f, if_pos mq]
  simp only [Option.bind_some]
  rw [if_pos (Int.natCast_nonneg _), if_pos c2, Int.toNat_natCast, quot_shr.f_eq _ (hu.take _) s hs (by rw [lt1]; clear hvl hb hlt he eQ eR; omega) k (by rw [lt1]; clear hvl hb hlt he eQ eR; omega)]
  simp only [Option.bind_some]
  rw [nv_take_of_lt hu (by clear hvl hb hlt he eQ eR; omega) hlt, eQ, eR, wd_nv hq]
 | succ J ih =>
  intro k u q hk hu lu mu hq lq mq hz hb he
  obtain ⟨k, rfl⟩ : ∃ j, k = j + 5 := ⟨k - 5, by omega⟩
  have h : Lng p v u J := ⟨hv, lv, top, hu, by omega, mu⟩
  have hvp := h.vpos
  have hp := two_pow_pos (64 * J)
  have hw0 := nv_nonneg h.win_ws
  have ht0 := nv_nonneg (hu.take J)
  have hd0 := nv_nonneg (hu.drop (J + (p + 3)))
  have ht1 := nv_lt (hu.take J)
  rw [List.length_take, Nat.min_eq_left (by omega)] at ht1
  have ew := win_nv (p := p) (u := u) (jn := J) h.lu
  have hvl := h.v_lt
  have hdz : nv (u.drop (J + (p + 3))) = 0 := by
   have hlt : nv u < 2 ^ (64 * (J + (p + 3))) := by
    have h1 : nv v * 2 ^ (64 * (J + 1)) ≤ 2 ^ (64 * (p + 2)) * 2 ^ (64 * (J + 1)) := Int.mul_le_mul_of_nonneg_right (Int.le_of_lt hvl) (Int.le_of_lt (two_pow_pos _))
    rw [← Int.pow_add, show 64 * (p + 2) + 64 * (J + 1) = 64 * (J + (p + 3)) from by omega] at h1
    exact Int.lt_of_lt_of_le hb h1
   have h3 := nv_take_of_lt hu (n := J + (p + 3)) (by omega) hlt
   have h4 := nv_split (xs := u) (n := J + (p + 3)) (by omega)
   rw [h3] at h4
   have h5 : 2 ^ (64 * (J + (p + 3))) * nv (u.drop (J + (p + 3))) = 0 := by omega
   rcases Int.mul_eq_zero.1 h5 with h6 | h6
   ·have := two_pow_pos (64 * (J + (p + 3))); omega
   ·exact h6
  rw [hdz, Int.mul_zero, Int.add_zero] at ew
  have hB : nv (win p u J) < nv v * 18446744073709551616 := by
   apply Classical.byContradiction
   intro hn
   have h1 : 2 ^ (64 * J) * (nv v * 18446744073709551616) ≤ 2 ^ (64 * J) * nv (win p u J) := Int.mul_le_mul_of_nonneg_left (by omega) (Int.le_of_lt hp)
   rw [pow64] at hb
   have h2 : 2 ^ (64 * J) * (nv v * 18446744073709551616) = nv v * (18446744073709551616 * 2 ^ (64 * J)) := by grind
   omega
  have hQ0 : 0 ≤ nv (win p u J) / nv v := Int.ediv_nonneg hw0 (Int.le_of_lt hvp)
  have hQ1 : nv (win p u J) / nv v < 18446744073709551616 := Int.ediv_lt_of_lt_mul hvp (by rw [Int.mul_comm]; exact hB)
  have hR0 : 0 ≤ nv (win p u J) % nv v := Int.emod_nonneg _ (by omega)
  have hR1 : nv (win p u J) % nv v < nv v := Int.emod_lt_of_pos _ hvp
  have hRl : nv (win p u J) % nv v < 2 ^ (64 * (p + 3)) := Int.lt_trans hR1 (Int.lt_of_lt_of_le hvl (pow_mono (by omega)))
  have eW : nv (win p u J) = nv v * (nv (win p u J) / nv v) + nv (win p u J) % nv v := (Int.mul_ediv_add_emod _ _).symm
  have ly := wn_length (p + 3) (nv (win p u J) % nv v)
  have wy := wn_ws (p + 3) (nv (win p u J) % nv v)
  have ny := nv_wn (p + 3) hR0 hRl
  have esp := spl_nv (p := p) (u := u) (jn := J) h.lu ly
  rw [ny] at esp
  have eJ : ((J + 1 : Nat) : Int) - 1 = (J : Int) := by omega
  rw [eJ]
  refine long_guess h s q (by omega) mq hB k (by omega) _ ?_
  refine ih k _ _ (by rw [spl_len h.lu ly]; omega) (spl_ws hu wy) (by rw [spl_len h.lu ly]; omega) (by rw [spl_len h.lu ly]; omega) (hq.set _ hQ0 hQ1) (by rw [List.length_set]; omega) (by rw [List.length_set]; omega) (fun i hi => by rw [set_getD_ne (by omega)]; exact hz i (by omega)) ?_ ?_
  ·rw [esp]
   have e3 : nv u + 2 ^ (64 * J) * (nv (win p u J) % nv v - nv (win p u J)) = nv (u.take J) + 2 ^ (64 * J) * (nv (win p u J) % nv v) := by
    rw [Int.mul_sub]; omega
   rw [e3]
   have h1 : 2 ^ (64 * J) * (nv (win p u J) % nv v + 1) ≤ 2 ^ (64 * J) * nv v := Int.mul_le_mul_of_nonneg_left hR1 (Int.le_of_lt hp)
   rw [Int.mul_add, Int.mul_one] at h1
   rw [Int.mul_comm (nv v)]
   omega
  ·rw [esp, nv_set (by omega), hz J (by omega)]
   exact long_inv eW ew he
def cmpI (a b : Int) : Int := if a < b then -1 else if a = b then 0 else 1
theorem wide_Cmp.words (a b : Int) (k : Nat) (hk : 0 < k) : wide_Cmp.f k 0 a 0 b = some (cmpI a b) := by
 obtain ⟨k, rfl⟩ : ∃ j, k = j + 1 := ⟨k - 1, by omega⟩
 unfold wide_Cmp.f cmpI
 rw [if_neg (by decide), if_pos rfl]
 by_cases h : a < b
 ·rw [decide_eq_true h, wide_Cmp.j0, if_pos rfl, if_pos h]
 ·rw [decide_eq_false h, wide_Cmp.j0, if_neg (by decide), if_pos rfl, if_neg h]
  by_cases h2 : a = b
  ·rw [if_pos h2, if_pos h2]
  ·rw [if_neg h2, if_neg h2]
theorem cmpI_add (a b z : Int) : cmpI (a + z) (b + z) = cmpI a b := by
 unfold cmpI
 by_cases h1 : a < b
 ·rw [if_pos h1, if_pos (by omega)]
 ·rw [if_neg h1, if_neg (by omega)]
  by_cases h2 : a = b
  ·rw [if_pos h2, if_pos (by omega)]
  ·rw [if_neg h2, if_neg (by omega)]
theorem cmp_high {a b x y P : Int} (ha0 : 0 ≤ a) (ha : a < P) (hb0 : 0 ≤ b) (hb : b < P) (h : x ≠ y) : cmpI (a + x * P) (b + y * P) = cmpI x y := by
 unfold cmpI
 by_cases h1 : x < y
 ·have : (x + 1) * P ≤ y * P := Int.mul_le_mul_of_nonneg_right (by omega) (by omega)
  rw [Int.add_mul, Int.one_mul] at this
  rw [if_pos h1, if_pos (by omega)]
 ·have : (y + 1) * P ≤ x * P := Int.mul_le_mul_of_nonneg_right (by omega) (by omega)
  rw [Int.add_mul, Int.one_mul] at this
  rw [if_neg h1, if_neg h, if_neg (by omega), if_neg (by omega)]
theorem nat_Cmp.l0_eq (x y : List Int) (hx : Ws x) (hy : Ws y) (hm : x.length ≤ 35184372088832) : ∀ (n k : Nat), n < k → n ≤ x.length → n ≤ y.length → nat_Cmp.l0 k x y ((n : Int) - 1) = some (cmpI (nv (x.take n)) (nv (y.take n))) := by
 intro n
 induction n with
 | zero =>
  intro k hk _ _
  obtain ⟨k, rfl⟩ : ∃ j, k = j + 1 := ⟨k - 1, by omega⟩
  unfold nat_Cmp.l0
  rw [if_neg (by omega)]
  rfl
 | succ n ih =>
  intro k hk h1 h2
  obtain ⟨k, rfl⟩ : ∃ j, k = j + 1 := ⟨k - 1, by omega⟩
  have er : ((n + 1 : Nat) : Int) - 1 = (n : Int) := by omega
  unfold nat_Cmp.l0
  rw [er, if_pos (by omega), if_pos (by omega), if_pos (by omega), if_pos (by omega), rdn, rdn, wide_Cmp.words _ _ k (by omega)]
  simp only [Option.bind_some]
  rw [w64_of (by omega) (by omega), nv_take_succ h1, nv_take_succ h2]
  have a0 := nv_nonneg (hx.take n)
  have a1 := nv_lt (hx.take n)
  have b0 := nv_nonneg (hy.take n)
  have b1 := nv_lt (hy.take n)
  rw [List.length_take, Nat.min_eq_left (by omega)] at a1 b1
  by_cases h : x.getD n 0 = y.getD n 0
  ·rw [h, if_pos (by unfold cmpI; rw [if_neg (by omega), if_pos rfl]), ih k (by omega) (by omega) (by omega)]
   rw [cmpI_add]
  ·rw [cmp_high a0 a1 b0 b1 h, if_neg]
   unfold cmpI
   split <;> first | decide | (rw [if_neg h]; decide)
theorem nat_Cmp.f_eq (x y : List Int) (hx : Ws x) (hy : Ws y) (hmx : x.length ≤ 35184372088832) (hmy : y.length ≤ 35184372088832) (k : Nat) (hk : x.length < k) (hk2 : y.length < k) : nat_Cmp.f k x y = some (cmpI (nv x) (nv y)) := by
 have lx := strip_length_le x
 have ly := strip_length_le y
 rw [nat_Cmp.f, nat_size.f_eq x (by omega) k hk]
 simp only [Option.bind_some]
 rw [nat_size.f_eq y (by omega) k hk2]
 simp only [Option.bind_some]
 have sx := strip_len_le hx
 have sy := strip_len_le hy
 by_cases h : (strip x).length = (strip y).length
 ·rw [if_pos (by omega), w64_of (by omega) (by omega), nat_Cmp.l0_eq x y hx hy hmx _ k (by omega) lx (by omega)]
  have e1 : x.take (strip x).length = strip x := (strip_take x).symm
  have e2 : y.take (strip x).length = strip y := by rw [h]; exact (strip_take y).symm
  rw [e1, e2, nv_strip, nv_strip]
 ·rw [if_neg (by omega)]
  by_cases h2 : (strip x).length < (strip y).length
  ·rw [if_pos (by omega)]
   have a := (sx (strip x).length).1 (Nat.le_refl _)
   have b : ¬ nv y < 2 ^ (64 * (strip x).length) := fun hc => by have := (sy (strip x).length).2 hc; omega
   unfold cmpI
   rw [if_pos (by omega)]
  ·rw [if_neg (by omega)]
   have a := (sy (strip y).length).1 (Nat.le_refl _)
   have b : ¬ nv x < 2 ^ (64 * (strip y).length) := fun hc => by have := (sx (strip y).length).2 hc; omega
   unfold cmpI
   rw [if_neg (by omega), if_neg (by omega)]
theorem nat_From.f_eq {v : Int} (h0 : 0 ≤ v) (h1 : v < 18446744073709551616) : nat_From.f v = some (wd v.toNat) := by
 have hw : Ws [v] := Ws.cons h0 h1 Ws.nil
 have e := wd_nv hw
 have hn : nv [v] = v := by simp [nv]
 rw [hn] at e
 rw [nat_From.f, nat_Norm.f, if_pos (by simp), e]
 rfl
theorem mul_pow_lt {a : Int} {s m n : Nat} (h0 : 0 ≤ a) (h : a < 2 ^ m) (hn : m + s ≤ n) : a * 2 ^ s < 2 ^ n := by
 have h1 : a * 2 ^ s < 2 ^ m * 2 ^ s := Int.mul_lt_mul_of_pos_right h (two_pow_pos s)
 rw [← Int.pow_add] at h1
 exact Int.lt_of_lt_of_le h1 (pow_mono hn)
theorem quot_long.f_eq (x y : List Int) (p : Nat) (hx : Ws x) (hy : Ws y) (ly : y.length = p + 2) (hne : y.getD (p + 1) 0 ≠ 0) (lxy : y.length ≤ x.length) (hm : x.length < 35184372088832) (k : Nat) (hk : 6 * x.length + 20 < k) :
  quot_long.f k x y = some (wd (nv x / nv y).toNat, wd (nv x % nv y).toNat) := by
 have wt := hy.getD (p + 1)
 have wp := hy.getD p
 have hb1 := bitsN_pos (x := y.getD (p + 1) 0) (by omega)
 have hb2 := bitsN_le_of_lt (n := 64) wt.1 wt.2
 have A1 : Aside0 (wrap64 ((y.length : Int) - 1) = ((p + 1 : Nat) : Int)) := ⟨w64x (by omega) (by omega)⟩
 have A2 : Aside0 (wrap64 ((x.length : Int) + 1) = ((x.length + 1 : Nat) : Int)) := ⟨w64x (by omega) (by omega)⟩
 have A3 : Aside0 (wrap64 ((x.length : Int) - (y.length : Int)) = ((x.length - (p + 2) : Nat) : Int)) := ⟨w64x (by omega) (by omega)⟩
 have A4 : Aside0 (wrap64 (((x.length - (p + 2) : Nat) : Int) + 1) = ((x.length - (p + 2) + 1 : Nat) : Int)) := ⟨w64x (by omega) (by omega)⟩
 have b1 : ((p + 1 : Nat) : Int) < (y.length : Int) := by omega
 obtain ⟨s, hs⟩ : ∃ s : Nat, 64 - bitsN (y.getD (p + 1) 0) = (s : Int) := ⟨(64 - bitsN (y.getD (p + 1) 0)).toNat, by omega⟩
 have hs63 : s ≤ 63 := by omega
 have A5 : Aside0 (wrap64 (64 - bitsN (y.getD (p + 1) 0)) = (s : Int)) := ⟨w64x hs (by omega)⟩
 have eb : (bitsN (y.getD (p + 1) 0)).toNat = 64 - s := by omega
 have hbl := bitsN_lt (x := y.getD (p + 1) 0) (by omega)
 have hbg := bitsN_ge (x := y.getD (p + 1) 0) (by omega)
 rw [eb] at hbl hbg
 have e1 := nv_two ly
 have hP := two_pow_pos (64 * p)
 have r0 := nv_nonneg (hy.take p)
 have r1 := nv_lt (hy.take p)
 rw [List.length_take, Nat.min_eq_left (by rw [ly]; omega)] at r1
 have ny0 := nv_nonneg hy
 have nx0 := nv_nonneg hx
 have nx1 := nv_lt hx
 have hyl : nv y < 2 ^ (64 - s + 64 * (p + 1)) := by
  have h1 : (y.getD (p + 1) 0 + 1) * (18446744073709551616 * 2 ^ (64 * p)) ≤ 2 ^ (64 - s) * (18446744073709551616 * 2 ^ (64 * p)) := Int.mul_le_mul_of_nonneg_right hbl (by omega)
  have h2 : (y.getD p 0 + 1) * 2 ^ (64 * p) ≤ 18446744073709551616 * 2 ^ (64 * p) := Int.mul_le_mul_of_nonneg_right (by omega) (by omega)
  rw [Int.add_mul, Int.one_mul] at h1 h2
  rw [Int.pow_add, pow64, e1, Int.add_mul, Int.mul_assoc]
  omega
 have hyg : 2 ^ (64 - s - 1 + 64 * (p + 1)) ≤ nv y := by
  have h1 : 2 ^ (64 - s - 1) * (18446744073709551616 * 2 ^ (64 * p)) ≤ y.getD (p + 1) 0 * (18446744073709551616 * 2 ^ (64 * p)) := Int.mul_le_mul_of_nonneg_right hbg (by omega)
  have h2 : 0 ≤ y.getD p 0 * 2 ^ (64 * p) := Int.mul_nonneg wp.1 (by omega)
  rw [Int.pow_add, pow64, e1, Int.add_mul, Int.mul_assoc]
  omega
 have hV1 : nv y * 2 ^ s < 2 ^ (64 * (p + 2)) := mul_pow_lt ny0 hyl (by omega)
 have hV0 : 2 ^ (63 + 64 * (p + 1)) ≤ nv y * 2 ^ s := by
  have h1 : 2 ^ (64 - s - 1 + 64 * (p + 1)) * 2 ^ s ≤ nv y * 2 ^ s := Int.mul_le_mul_of_nonneg_right hyg (Int.le_of_lt (two_pow_pos s))
  rwa [← Int.pow_add, show 64 - s - 1 + 64 * (p + 1) + s = 63 + 64 * (p + 1) from by omega] at h1
 have hVn : 0 ≤ nv y * 2 ^ s := Int.le_trans (Int.le_of_lt (two_pow_pos _)) hV0
 have hU1 : nv x * 2 ^ s < 2 ^ (64 * (x.length + 1)) := mul_pow_lt nx0 nx1 (by omega)
 have hUn : 0 ≤ nv x * 2 ^ s := Int.mul_nonneg nx0 (Int.le_of_lt (two_pow_pos s))
 have eV := nv_wn (p + 2) hVn hV1
 have eU := nv_wn (x.length + 1) hUn hU1
 have lV := wn_length (p + 2) (nv y * 2 ^ s)
 have lU := wn_length (x.length + 1) (nv x * 2 ^ s)
 have wV := wn_ws (p + 2) (nv y * 2 ^ s)
 have wU := wn_ws (x.length + 1) (nv x * 2 ^ s)
 have htop : 9223372036854775808 ≤ (wn (p + 2) (nv y * 2 ^ s)).getD (p + 1) 0 := by
  have t1 := nv_two lV
  rw [eV] at t1
  have t2 := nv_lt (wV.take p)
  rw [List.length_take, Nat.min_eq_left (by rw [lV]; omega)] at t2
  have t3 := wV.getD p
  apply Classical.byContradiction
  intro hn
  have h1 : ((wn (p + 2) (nv y * 2 ^ s)).getD (p + 1) 0 + 1) * (18446744073709551616 * 2 ^ (64 * p)) ≤ 2 ^ 63 * (18446744073709551616 * 2 ^ (64 * p)) := Int.mul_le_mul_of_nonneg_right (by rw [show (2 : Int) ^ 63 = 9223372036854775808 from rfl]; omega) (by omega)
  have h2 : ((wn (p + 2) (nv y * 2 ^ s)).getD p 0 + 1) * 2 ^ (64 * p) ≤ 18446744073709551616 * 2 ^ (64 * p) := Int.mul_le_mul_of_nonneg_right (by omega) (by omega)
  rw [Int.add_mul, Int.one_mul] at h1 h2
  rw [Int.pow_add, pow64] at hV0
  rw [Int.add_mul, Int.mul_assoc] at t1
  omega
 have hlt : nv (wn (x.length + 1) (nv x * 2 ^ s)) < nv (wn (p + 2) (nv y * 2 ^ s)) * 2 ^ (64 * (x.length - (p + 2) + 1)) := by
  rw [eU, eV]
  have h1 : 2 ^ (63 + 64 * (p + 1)) * 2 ^ (64 * (x.length - (p + 2) + 1)) ≤ nv y * 2 ^ s * 2 ^ (64 * (x.length - (p + 2) + 1)) := Int.mul_le_mul_of_nonneg_right hV0 (Int.le_of_lt (two_pow_pos _))
  rw [← Int.pow_add] at h1
  exact Int.lt_of_lt_of_le (mul_pow_lt nx0 nx1 (by omega)) h1
 have main := long_main wV lV htop s hs63 (nv x * 2 ^ s) (x.length - (p + 2) + 1) k (wn (x.length + 1) (nv x * 2 ^ s)) (List.replicate (x.length - (p + 2) + 1) 0) (by rw [lU]; omega) wU (by rw [lU]; omega) (by rw [lU]; omega) (Ws.zeros _) (by simp) (by rw [List.length_replicate]; omega) (fun i _ => by rw [List.getD_eq_getElem?_getD, List.getElem?_replicate]; split <;> rfl) hlt (by rw [nv_zeros, Int.mul_zero, Int.add_zero, eU])
 rw [eV] at main
 have em : ((x.length - (p + 2) + 1 : Nat) : Int) - 1 = ((x.length - (p + 2) : Nat) : Int) := by omega
 rw [em, Int.mul_ediv_mul_of_pos_left _ _ (two_pow_pos s), Int.mul_comm (nv x) (2 ^ s), Int.mul_comm (nv y) (2 ^ s), Int.mul_emod_mul_of_pos _ _ (two_pow_pos s), Int.mul_ediv_cancel_left _ (Int.ne_of_gt (two_pow_pos s))] at main
 rw [Int.mul_comm (2 ^ s) (nv y), Int.mul_comm (2 ^ s) (nv x)] at main
 clear em hlt htop
 rw [quot_long.f, A1.out, if_pos (Int.natCast_nonneg _), if_pos b1, rdn, wide_Len.f_eq wt.1 wt.2 k (by omega)]
 rw [Option.bind_some]
 rw [A5.out, ly, quot_shl.f_eq y hy s (p + 2) hs63 (by omega) (by omega) hV1 k (by omega)]
 rw [Option.bind_some]
 rw [A2.out, quot_shl.f_eq x hx s (x.length + 1) hs63 (by omega) (by omega) hU1 k (by omega)]
 rw [Option.bind_some]
 rw [← ly, A3.out, A4.out, if_pos (Int.natCast_nonneg _), Int.toNat_natCast, if_pos (by omega), ly]
 exact main
theorem quot_DivMod.f_eq (x y : List Int) (hx : Ws x) (hy : Ws y) (hmx : x.length < 35184372088832) (hmy : y.length ≤ 35184372088832) (k : Nat) (hk : 6 * x.length + 20 < k) (hk2 : y.length < k) :
  quot_DivMod.f k x y = some (if nv y = 0 then ([], [], 30) else (wd (nv x / nv y).toNat, wd (nv x % nv y).toNat, 0)) := by
 have lx := strip_length_le x
 have ly := strip_length_le y
 have nx := nv_nonneg hx
 have ny := nv_nonneg hy
 rw [quot_DivMod.f, nat_Norm.f, if_pos (by omega)]
 rw [Option.bind_some]
 rw [nat_Norm.f, if_pos hmy]
 rw [Option.bind_some]
 have hp := strip_length_pos hy
 by_cases h0 : nv y = 0
 ·rw [if_pos h0, if_pos (by omega)]
 ·rw [if_neg h0, if_neg (by omega), nat_Cmp.f_eq _ _ hx.strip hy.strip (by omega) (by omega) k (by omega) (by omega), nv_strip, nv_strip]
  rw [Option.bind_some]
  by_cases hc : nv x < nv y
  ·have e : cmpI (nv x) (nv y) = -1 := by unfold cmpI; rw [if_pos hc]
   rw [e, if_pos (by decide), Int.ediv_eq_zero_of_lt nx hc, Int.emod_eq_of_lt nx hc, wd_nv hx]
   simp [wd_zero]
  ·have e : ¬ cmpI (nv x) (nv y) < 0 := by unfold cmpI; rw [if_neg hc]; split <;> decide
   rw [if_neg e]
   by_cases h1 : (strip y).length = 1
   ·have w0 := hy.strip.getD 0
    have en : nv (strip y) = (strip y).getD 0 0 := by
     match hq : strip y, h1 with
     | [a], _ => simp [nv]
    rw [nv_strip] at en
    rw [if_pos (by omega), if_pos (by omega), show rd (strip y) 0 = (strip y).getD 0 0 from rfl, ← en, quot_Small.f_eq _ hx.strip (nv y) (by omega) (by omega) (by omega) k (by omega), nv_strip]
    rw [Option.bind_some]
    rw [nat_From.f_eq (Int.emod_nonneg _ h0) (Int.lt_trans (Int.emod_lt_of_pos _ (by omega)) (by omega))]
    rfl
   ·rw [if_neg (by omega)]
    obtain ⟨p, hpl⟩ : ∃ p, (strip y).length = p + 2 := ⟨(strip y).length - 2, by omega⟩
    have hst : strip (strip y) = strip y := strip_strip y
    have hne : (strip y).getD (p + 1) 0 ≠ 0 := by
     have := strip_last (xs := strip y) (by rw [hst]; omega)
     rwa [hst, hpl, show p + 2 - 1 = p + 1 from by omega] at this
    have hle : (strip y).length ≤ (strip x).length := by
     have sx := strip_len_le hx (strip x).length
     have sy := strip_len_le hy (strip x).length
     have := sx.1 (Nat.le_refl _)
     exact sy.2 (by omega)
    rw [quot_long.f_eq _ _ p hx.strip hy.strip hpl hne hle (by omega) k (by omega), nv_strip, nv_strip]
    rfl
theorem bnd_small {n : Int} (h : n < (2 : Int) ^ 262144) : bnd n = (wd n.toNat, 0) := by unfold bnd; rw [if_pos h]
theorem wd_length_le {n : Nat} {m : Nat} (h : n < 2 ^ (64 * m)) : (wd n).length ≤ m := by
 have h1 := (strip_len_le (wd_ws n) m).2 (by rw [nv_wd, p2cast]; exact Int.ofNat_lt.2 h)
 rwa [strip_wd] at h1
theorem wd_pos_len (B : Nat) : ((wd B).length : Int) > 0 ↔ B ≠ 0 := by
 have := @wd_eq_nil B
 constructor
 ·intro h hB
  rw [this.2 hB] at h
  exact absurd h (by decide)
 ·intro h
  rcases Nat.eq_zero_or_pos (wd B).length with h0 | h0
  ·exact absurd (this.1 (List.eq_nil_of_length_eq_zero h0)) h
  ·omega
theorem divmod_wd (A B : Nat) (hB : B ≠ 0) (la : (wd A).length ≤ 1000000) (lb : (wd B).length ≤ 1000000) (k : Nat) (hk : 10000000 < k) : quot_DivMod.f k (wd A) (wd B) = some (wd (A / B), wd (A % B), 0) := by
 have q : ¬ (B : Int) = 0 := by omega
 rw [quot_DivMod.f_eq _ _ (wd_ws _) (wd_ws _) (by omega) (by omega) k (by omega) (by omega), nv_wd, nv_wd, if_neg q, ← Int.natCast_ediv, ← Int.natCast_emod, Int.toNat_natCast, Int.toNat_natCast]
theorem wd_len_le {A B : Nat} (h : A ≤ B) : (wd A).length ≤ (wd B).length := by
 have h1 := nv_lt (wd_ws B)
 rw [nv_wd, p2cast] at h1
 exact wd_length_le (Nat.lt_of_le_of_lt h (Int.ofNat_lt.1 h1))
theorem quot_Gcd.l0_eq : ∀ (B A k : Nat), (wd A).length ≤ 1000000 → (wd B).length ≤ 1000000 → B + 10000001 < k → quot_Gcd.l0 k (wd A) (wd B) = some (wd (Nat.gcd A B)) := by
 intro B
 induction B using Nat.strongRecOn with
 | ind B ih =>
  intro A k la lb hk
  obtain ⟨k, rfl⟩ : ∃ j, k = j + 1 := ⟨k - 1, by omega⟩
  rw [quot_Gcd.l0]
  by_cases hB : B = 0
  ·have q : ¬ ((wd B).length : Int) > 0 := fun h => (wd_pos_len B).1 h hB
   rw [if_neg q, hB, Nat.gcd_zero_right]
  ·have hlt := Nat.mod_lt A (Nat.pos_of_ne_zero hB)
   rw [if_pos ((wd_pos_len B).2 hB), divmod_wd A B hB la lb k (by omega), Option.bind_some]
   show quot_Gcd.l0 k (wd B) (wd (A % B)) = _
   rw [ih (A % B) hlt B k lb (Nat.le_trans (wd_len_le (Nat.le_of_lt hlt)) lb) (by omega)]
   congr 2
   rw [Nat.gcd_comm A B, Nat.gcd_rec B A, Nat.gcd_comm]
theorem strip_wd_of {x : List Int} (hx : Ws x) {A : Nat} (vx : nv x = (A : Int)) : strip x = wd A := by
 have h := wd_nv hx
 rw [vx, Int.toNat_natCast] at h
 exact h.symm
theorem wd_len_of_list {x : List Int} (hx : Ws x) {A : Nat} (vx : nv x = (A : Int)) : (wd A).length ≤ x.length := by
 rw [← strip_wd_of hx vx]; exact strip_length_le x
theorem quot_Gcd.f_eq (x y : List Int) (hx : Ws x) (hy : Ws y) (lx : x.length ≤ 1000000) (ly : y.length ≤ 1000000) (A B : Nat) (vx : nv x = (A : Int)) (vy : nv y = (B : Int)) (k : Nat) (hk : B + 10000001 < k) : quot_Gcd.f k x y = some (wd (Nat.gcd A B)) := by
 have l1 := wd_len_of_list hx vx
 have l2 := wd_len_of_list hy vy
 rw [quot_Gcd.f, nat_Norm.f, if_pos (by omega), Option.bind_some, nat_Norm.f, if_pos (by omega), Option.bind_some, strip_wd_of hx vx, strip_wd_of hy vy]
 exact quot_Gcd.l0_eq B A k (by omega) (by omega) hk
theorem gcd_le_max (A B : Nat) : (wd (Nat.gcd A B)).length ≤ max (wd A).length (wd B).length := by
 by_cases hB : B = 0
 ·rw [hB, Nat.gcd_zero_right]; exact Nat.le_max_left _ _
 ·exact Nat.le_trans (wd_len_le (Nat.gcd_le_right A (Nat.pos_of_ne_zero hB))) (Nat.le_max_right _ _)
theorem quot_Lowest.f_eq (x y : List Int) (hx : Ws x) (hy : Ws y) (lx : x.length ≤ 1000000) (ly : y.length ≤ 1000000) (A B : Nat) (vx : nv x = (A : Int)) (vy : nv y = (B : Int)) (hB : B ≠ 0) (k : Nat) (hk : B + 10000001 < k) :
  quot_Lowest.f k x y = some (wd (A / Nat.gcd A B), wd (B / Nat.gcd A B)) := by
 have l1 := wd_len_of_list hx vx
 have l2 := wd_len_of_list hy vy
 have hg : Nat.gcd A B ≠ 0 := Nat.ne_of_gt (Nat.gcd_pos_of_pos_right A (Nat.pos_of_ne_zero hB))
 have hgl := gcd_le_max A B
 have hlen : (wd (Nat.gcd A B)).length ≤ 1000000 := by omega
 have q : ¬ ((wd (Nat.gcd A B)).length : Int) = 0 := by have := (wd_pos_len (Nat.gcd A B)).2 hg; omega
 have dm : ∀ (z : List Int) (Z : Nat), Ws z → z.length ≤ 1000000 → nv z = (Z : Int) → quot_DivMod.f k z (wd (Nat.gcd A B)) = some (wd (Z / Nat.gcd A B), wd (Z % Nat.gcd A B), 0) := by
  intro z Z hz lz vz
  have q : ¬ ((Nat.gcd A B : Nat) : Int) = 0 := by omega
  rw [quot_DivMod.f_eq _ _ hz (wd_ws _) (by omega) (by omega) k (by omega) (by omega), nv_wd, vz, if_neg q, ← Int.natCast_ediv, ← Int.natCast_emod, Int.toNat_natCast, Int.toNat_natCast]
 rw [quot_Lowest.f, quot_Gcd.f_eq x y hx hy lx ly A B vx vy k hk, Option.bind_some, if_neg q, dm x A hx lx vx, Option.bind_some, dm y B hy ly vy, Option.bind_some]
theorem rat_lowest.f_eq (neg : Bool) (x y : List Int) (hx : Ws x) (hy : Ws y) (lx : x.length ≤ 1000000) (ly : y.length ≤ 1000000) (A B : Nat) (vx : nv x = (A : Int)) (vy : nv y = (B : Int)) (hB : B ≠ 0) (k : Nat) (hk : B + 10000001 < k) :
  rat_lowest.f k neg x y = some (neg && decide (A ≠ 0), wd (A / Nat.gcd A B), wd (B / Nat.gcd A B)) := by
 have hd : decide (((wd (A / Nat.gcd A B)).length : Int) > 0) = decide (A ≠ 0) := by
  rw [decide_eq_decide, wd_pos_len]
  have hgp : 0 < Nat.gcd A B := Nat.gcd_pos_of_pos_right A (Nat.pos_of_ne_zero hB)
  constructor
  ·intro h hA
   apply h
   rw [hA, Nat.zero_div]
  ·intro h hA
   have h1 : Nat.gcd A B ≤ A := Nat.gcd_le_left B (Nat.pos_of_ne_zero h)
   have h2 := Nat.div_pos h1 hgp
   omega
 rw [rat_lowest.f, quot_Lowest.f_eq x y hx hy lx ly A B vx vy hB k hk, Option.bind_some]
 cases neg
 ·rw [if_neg (by decide)]; rfl
 ·rw [if_pos rfl, hd]; rfl
theorem rat_New.f_eq (neg : Bool) (x y : List Int) (hx : Ws x) (hy : Ws y) (lx : x.length ≤ 4096) (ly : y.length ≤ 4096) (A B : Nat) (vx : nv x = (A : Int)) (vy : nv y = (B : Int)) (hB : B ≠ 0) (k : Nat) (hk : B + 10000001 < k) :
  rat_New.f k neg x y = some (neg && decide (A ≠ 0), wd (A / Nat.gcd A B), wd (B / Nat.gcd A B), 0) := by
 have l1 := wd_len_of_list hx vx
 have l2 := wd_len_of_list hy vy
 have q0 : ¬ ((wd B).length : Int) = 0 := by have := (wd_pos_len B).2 hB; omega
 have q1 : ¬ ((wd A).length : Int) > 4096 := by omega
 have q2 : ¬ ((wd B).length : Int) > 4096 := by omega
 rw [rat_New.f, nat_Norm.f, if_pos (by omega), Option.bind_some, nat_Norm.f, if_pos (by omega), Option.bind_some, strip_wd_of hx vx, strip_wd_of hy vy, if_neg q0, if_neg q1, if_neg q2, rat_lowest.f_eq neg _ _ (wd_ws _) (wd_ws _) (by omega) (by omega) A B (nv_wd _) (nv_wd _) hB k hk, Option.bind_some]
def rzv (P : Int) (Q : Nat) : Bool × List Int × List Int := (decide (P < 0), wd (P.natAbs / Nat.gcd P.natAbs Q), wd (Q / Nat.gcd P.natAbs Q))
theorem low_same {a b c d : Nat} (hb : b ≠ 0) (hd : d ≠ 0) (h : a * d = c * b) : a / Nat.gcd a b = c / Nat.gcd c d ∧ b / Nat.gcd a b = d / Nat.gcd c d := by
 have g1 : 0 < Nat.gcd a b := Nat.gcd_pos_of_pos_right a (Nat.pos_of_ne_zero hb)
 have g2 : 0 < Nat.gcd c d := Nat.gcd_pos_of_pos_right c (Nat.pos_of_ne_zero hd)
 have k1 := Nat.coprime_div_gcd_div_gcd g1
 have k2 := Nat.coprime_div_gcd_div_gcd g2
 have ea := Nat.mul_div_cancel' (Nat.gcd_dvd_left a b)
 have eb := Nat.mul_div_cancel' (Nat.gcd_dvd_right a b)
 have ec := Nat.mul_div_cancel' (Nat.gcd_dvd_left c d)
 have ed := Nat.mul_div_cancel' (Nat.gcd_dvd_right c d)
 generalize hg : Nat.gcd a b = g at *
 generalize hh : Nat.gcd c d = g' at *
 generalize ha1 : a / g = a1 at *
 generalize hb1 : b / g = b1 at *
 generalize hc1 : c / g' = c1 at *
 generalize hd1 : d / g' = d1 at *
 have e : a1 * d1 = c1 * b1 := by
  have e1 : g * g' * (a1 * d1) = g * g' * (c1 * b1) := by
   have : g * a1 * (g' * d1) = g' * c1 * (g * b1) := by rw [ea, eb, ec, ed]; exact h
   grind
  exact Nat.eq_of_mul_eq_mul_left (Nat.mul_pos g1 g2) e1
 have x1 : a1 ∣ c1 := k1.dvd_of_dvd_mul_right (by rw [← e]; exact Nat.dvd_mul_right _ _)
 have x2 : c1 ∣ a1 := k2.dvd_of_dvd_mul_right (by rw [e]; exact Nat.dvd_mul_right _ _)
 have x3 : b1 ∣ d1 := k1.symm.dvd_of_dvd_mul_left (by rw [e]; exact Nat.dvd_mul_left _ _)
 have x4 : d1 ∣ b1 := k2.symm.dvd_of_dvd_mul_left (by rw [← e]; exact Nat.dvd_mul_left _ _)
 exact ⟨Nat.dvd_antisymm x1 x2, Nat.dvd_antisymm x3 x4⟩
theorem rzv_same {P P' : Int} {Q Q' : Nat} (hQ : Q ≠ 0) (hQ' : Q' ≠ 0) (h : P * Q' = P' * Q) : rzv P Q = rzv P' Q' := by
 have hn : P.natAbs * Q' = P'.natAbs * Q := by
  have := congrArg Int.natAbs h
  rwa [Int.natAbs_mul, Int.natAbs_mul, Int.natAbs_natCast, Int.natAbs_natCast] at this
 obtain ⟨h1, h2⟩ := low_same hQ hQ' hn
 have hs : decide (P < 0) = decide (P' < 0) := by
  rw [decide_eq_decide]
  have q1 : (0 : Int) < Q := by omega
  have q2 : (0 : Int) < Q' := by omega
  constructor
  ·intro hp
   have h3 : P * Q' < 0 := Int.mul_neg_of_neg_of_pos hp q2
   rw [h] at h3
   rcases (show P' < 0 ∨ 0 ≤ P' by omega) with h4 | h4
   ·exact h4
   ·exact absurd (Int.mul_nonneg h4 (Int.le_of_lt q1)) (by omega)
  ·intro hp
   have h3 : P' * Q < 0 := Int.mul_neg_of_neg_of_pos hp q1
   rw [← h] at h3
   rcases (show P < 0 ∨ 0 ≤ P by omega) with h4 | h4
   ·exact h4
   ·exact absurd (Int.mul_nonneg h4 (Int.le_of_lt q2)) (by omega)
 unfold rzv
 rw [h1, h2, hs]
def sg (s : Bool) (A : Nat) : Int := if s = true then -(A : Int) else (A : Int)
theorem sg_abs (s : Bool) (A : Nat) : (sg s A).natAbs = A := by unfold sg; split <;> omega
theorem sg_neg (s : Bool) (A : Nat) : decide (sg s A < 0) = (s && decide (A ≠ 0)) := by
 unfold sg
 cases s
 ·rw [if_neg (by decide)]; simp
 ·rw [if_pos rfl, Bool.true_and, decide_eq_decide]; omega
theorem rat_lowest.rz (neg : Bool) (x y : List Int) (hx : Ws x) (hy : Ws y) (lx : x.length ≤ 1000000) (ly : y.length ≤ 1000000) (A B : Nat) (vx : nv x = (A : Int)) (vy : nv y = (B : Int)) (hB : B ≠ 0) (k : Nat) (hk : B + 10000001 < k) :
  rat_lowest.f k neg x y = some (rzv (sg neg A) B) := by
 rw [rat_lowest.f_eq neg x y hx hy lx ly A B vx vy hB k hk, rzv, sg_abs, sg_neg]
theorem rat_New.rz (neg : Bool) (x y : List Int) (hx : Ws x) (hy : Ws y) (lx : x.length ≤ 4096) (ly : y.length ≤ 4096) (A B : Nat) (vx : nv x = (A : Int)) (vy : nv y = (B : Int)) (hB : B ≠ 0) (k : Nat) (hk : B + 10000001 < k) :
  rat_New.f k neg x y = some ((rzv (sg neg A) B).1, (rzv (sg neg A) B).2.1, (rzv (sg neg A) B).2.2, 0) := by
 rw [rat_New.f_eq neg x y hx hy lx ly A B vx vy hB k hk, rzv, sg_abs, sg_neg]
structure IsR (v : Bool × List Int × List Int) (N : Int) (D : Nat) : Prop where
 pos : D ≠ 0
 low : Nat.gcd N.natAbs D = 1
 eq : v = (decide (N < 0), wd N.natAbs, wd D)
theorem IsR.rz {v : Bool × List Int × List Int} {N : Int} {D : Nat} (h : IsR v N D) : v = rzv N D := by rw [h.eq, rzv, h.low, Nat.div_one, Nat.div_one]
theorem rzv_is (P : Int) {Q : Nat} (hQ : Q ≠ 0) : ∃ N D, IsR (rzv P Q) N D ∧ P * D = N * Q ∧ N.natAbs ≤ P.natAbs ∧ D ≤ Q := by
 have g1 : 0 < Nat.gcd P.natAbs Q := Nat.gcd_pos_of_pos_right _ (Nat.pos_of_ne_zero hQ)
 have k1 := Nat.coprime_div_gcd_div_gcd g1
 have eq1 := Nat.mul_div_cancel' (Nat.gcd_dvd_left P.natAbs Q)
 have eq2 := Nat.mul_div_cancel' (Nat.gcd_dvd_right P.natAbs Q)
 have hD : Q / Nat.gcd P.natAbs Q ≠ 0 := by intro h; rw [h, Nat.mul_zero] at eq2; omega
 have l1 := Nat.div_le_self P.natAbs (Nat.gcd P.natAbs Q)
 have l2 := Nat.div_le_self Q (Nat.gcd P.natAbs Q)
 have hz : P < 0 → P.natAbs / Nat.gcd P.natAbs Q ≠ 0 := by intro hp h; rw [h, Nat.mul_zero] at eq1; omega
 unfold rzv
 generalize hg : Nat.gcd P.natAbs Q = g at *
 generalize hA : P.natAbs / g = A at *
 generalize hE : Q / g = D at *
 refine ⟨sg (decide (P < 0)) A, D, ⟨hD, by rw [sg_abs]; exact k1, ?_⟩, ?_, by rw [sg_abs]; exact l1, l2⟩
 ·rw [sg_abs, sg_neg]
  congr 1
  by_cases hp : P < 0
  ·have := hz hp; simp [hp, this]
  ·simp [hp]
 ·have hP : P = sg (decide (P < 0)) P.natAbs := by
   unfold sg
   by_cases hp : P < 0
   ·rw [if_pos (decide_eq_true hp)]; omega
   ·rw [if_neg (by simp [hp])]; omega
  have h2 : sg (decide (P < 0)) P.natAbs * (D : Int) = sg (decide (P < 0)) A * (Q : Int) := by
   have e3 : P.natAbs * D = A * Q := by rw [← eq1, ← eq2]; grind
   have e4 : (P.natAbs : Int) * D = A * Q := by exact_mod_cast e3
   unfold sg
   split
   ·rw [Int.neg_mul, Int.neg_mul, e4]
   ·exact e4
  rw [← hP] at h2
  exact h2
theorem wd_last (n : Nat) (h : n ≠ 0) : (wd n).getD ((wd n).length - 1) 0 ≠ 0 := by
 have hp : 0 < (wd n).length := by have := (wd_pos_len n).2 h; omega
 have h1 := strip_last (xs := wd n) (by rw [strip_wd]; exact hp)
 rwa [strip_wd] at h1
theorem nat_Add.f_eq (x y : List Int) (hx : Ws x) (hy : Ws y) (hlx : x.length ≤ 1000000) (hly : y.length ≤ 1000000) (k : Nat) (hk : 1000010 < k) : nat_Add.f k x y = some (bnd (nv x + nv y)) := by
 have h1 : nv x + nv y < 2 ^ (64 * (max x.length y.length + 1)) := by
  have a := nv_lt hx
  have b := nv_lt hy
  have c := pow_mono (show 64 * x.length ≤ 64 * max x.length y.length from by omega)
  have d := pow_mono (show 64 * y.length ≤ 64 * max x.length y.length from by omega)
  rw [pow64]
  have p := two_pow_pos (64 * max x.length y.length)
  omega
 have h0 : 0 ≤ nv x + nv y := Int.add_nonneg (nv_nonneg hx) (nv_nonneg hy)
 rw [nat_Add.f, nat_sum.f, if_pos ⟨wsB_iff.2 hx, wsB_iff.2 hy, by clear h1; omega, by clear h1; omega⟩, Option.bind_some, nat_bound.f_bnd (wn_ws _ _) (by rw [wn_length]; clear h1; omega) k (by rw [wn_length]; clear h1; omega), nv_wn _ h0 h1, Option.bind_some]
theorem bnd_nat {x n c : Nat} (hc : c = 262144) (h : x < 2 ^ n) (hn : n ≤ c) : bnd (x : Int) = (wd x, 0) := by
 have h1 : (x : Int) < 2 ^ c := by
  rw [p2cast]
  exact Int.ofNat_lt.2 (Nat.lt_of_lt_of_le h (Nat.pow_le_pow_right (by decide) hn))
 rw [hc] at h1
 have h2 := bnd_small h1
 rw [Int.toNat_natCast] at h2
 exact h2
theorem wd_lenb {x n : Nat} (h : x < 2 ^ n) (m : Nat) (hm : n ≤ 64 * m) : (wd x).length ≤ m := wd_length_le (Nat.lt_of_lt_of_le h (Nat.pow_le_pow_right (by decide) hm))
theorem add_ok (x y : List Int) (hx : Ws x) (hy : Ws y) (lx : x.length ≤ 1000000) (ly : y.length ≤ 1000000) (X Y : Nat) (vx : nv x = (X : Int)) (vy : nv y = (Y : Int)) {n : Nat} (h : X + Y < 2 ^ n) (c : Nat) (hc : c = 262144) (hn : n ≤ c) (k : Nat) (hk : 3000000 < k) :
  nat_Add.f k x y = some (wd (X + Y), 0) ∧ (wd (X + Y)).length ≤ 4096 := by
 have e : (X : Int) + (Y : Int) = ((X + Y : Nat) : Int) := by rw [Int.natCast_add]
 rw [nat_Add.f_eq x y hx hy lx ly k (by omega), vx, vy, e, bnd_nat hc h hn]
 exact ⟨rfl, wd_lenb h 4096 (by omega)⟩
theorem mul_wd (x y : List Int) (hx : Ws x) (hy : Ws y) (lx : x.length ≤ 1000) (ly : y.length ≤ 1000) (X Y : Nat) (vx : nv x = (X : Int)) (vy : nv y = (Y : Int)) {n : Nat} (h : X * Y < 2 ^ n) (c : Nat) (hc : c = 262144) (hn : n ≤ c) (k : Nat) (hk : 3000000 < k) :
  nat_Mul.f k x y = some (wd (X * Y), 0) := by
 have e : (X : Int) * (Y : Int) = ((X * Y : Nat) : Int) := by rw [Int.natCast_mul]
 have hf : x.length * (y.length + 2) + x.length + y.length + 20 < k := by
  have h1 : x.length * (y.length + 2) ≤ 1000 * 1002 := Nat.mul_le_mul lx (by omega)
  omega
 rw [nat_Mul.f_eq x y hx hy (by omega) (by omega) k hf, vx, vy, e]
 by_cases h0 : X * Y = 0
 ·have q : ((X * Y : Nat) : Int) = 0 := by rw [h0]; rfl
  rw [if_pos q, h0, wd_zero]
 ·have q : ¬ ((X * Y : Nat) : Int) = 0 := by
   generalize X * Y = z at *
   omega
  rw [if_neg q, bnd_nat hc h hn]
theorem rat_mul.ok (x y : List Int) (hx : Ws x) (hy : Ws y) (lx : x.length ≤ 1000) (ly : y.length ≤ 1000) (X Y : Nat) (vx : nv x = (X : Int)) (vy : nv y = (Y : Int)) {n : Nat} (h : X * Y < 2 ^ n) (c : Nat) (hc : c = 262144) (hn : n ≤ c) (k : Nat) (hk : 3000000 < k) :
  rat_mul.f k x y = some (wd (X * Y)) := by
 rw [rat_mul.f, mul_wd x y hx hy lx ly X Y vx vy h c hc hn k hk, Option.bind_some, rat_fits.f, if_pos rfl, Option.bind_some]
theorem cmp_wd (X Y : Nat) (lx : (wd X).length ≤ 1000000) (ly : (wd Y).length ≤ 1000000) (k : Nat) (hk : 1000000 < k) : nat_Cmp.f k (wd X) (wd Y) = some (cmpI X Y) := by
 rw [nat_Cmp.f_eq _ _ (wd_ws _) (wd_ws _) (by omega) (by omega) k (by omega) (by omega), nv_wd, nv_wd]
theorem nat_Word.one (k : Nat) (hk : 3 ≤ k) : nat_Word.f k (wd 1) = some (1, true) := by
 have h1 : wd 1 = [1] := by rw [wd_pos (by decide), show (1 : Nat) / 18446744073709551616 = 0 from by decide, wd_zero]; rfl
 rw [nat_Word.f, nat_size.f_eq (wd 1) (by rw [h1]; decide) k (by rw [h1]; simp; omega), Option.bind_some, strip_wd, h1]
 rfl
theorem rat_normal.ok (n : Nat) (h : (wd n).length ≤ 4096) : rat_normal.f (wd n) = some true := by
 rw [rat_normal.f, if_pos (by omega)]
 by_cases h0 : n = 0
 ·have : ((wd n).length : Int) = 0 := by rw [h0, wd_zero]; rfl
  rw [if_pos this]
 ·have hp := (wd_pos_len n).2 h0
  have q : ¬ ((wd n).length : Int) = 0 := by omega
  have e : wrap64 (((wd n).length : Int) - 1) = (((wd n).length - 1 : Nat) : Int) := by rw [w64_of (by omega) (by omega)]; omega
  have hl := wd_last n h0
  rw [if_neg q, e, if_pos (by omega), if_pos (by omega), rdn, bne_iff_ne.2 hl]
theorem rat_Check.ok (s : Bool) (A D : Nat) (hs : s = true → A ≠ 0) (hD : D ≠ 0) (hg : Nat.gcd A D = 1) (la : (wd A).length ≤ 4096) (ld : (wd D).length ≤ 4096) (k : Nat) (hk : D + 10000010 < k) : rat_Check.f k s (wd A) (wd D) = some 0 := by
 obtain ⟨k, rfl⟩ : ∃ j, k = j + 1 := ⟨k - 1, by omega⟩
 have q0 : ¬ ((wd D).length : Int) = 0 := by have := (wd_pos_len D).2 hD; omega
 have hj : rat_Check.j0 (k + 1) false s (wd A) (wd D) = some 0 := by
  rw [rat_Check.j0, if_neg (by decide), quot_Gcd.f_eq _ _ (wd_ws _) (wd_ws _) (by omega) (by omega) A D (nv_wd _) (nv_wd _) k (by omega), Option.bind_some, hg, nat_Word.one k (by omega), Option.bind_some, if_pos rfl, if_pos rfl]
 rw [rat_Check.f, rat_normal.ok A la, Option.bind_some, if_pos rfl, rat_normal.ok D ld, Option.bind_some, if_pos rfl, if_neg q0]
 cases s
 ·rw [if_neg (by decide)]; exact hj
 ·have : (((wd A).length : Int) == 0) = false := by
   have := (wd_pos_len A).2 (hs rfl)
   rw [beq_eq_false_iff_ne]; omega
  rw [if_pos rfl, this]; exact hj
theorem sg_mul (s : Bool) (A D : Nat) : sg s A * (D : Int) = sg s (A * D) := by
 unfold sg
 split
 ·rw [Int.neg_mul, Int.natCast_mul]
 ·rw [Int.natCast_mul]
theorem sg_add_same (s : Bool) (X Y : Nat) : sg s X + sg s Y = sg s (X + Y) := by unfold sg; split <;> omega
theorem sg_add_sub (s t : Bool) (X Y : Nat) (hst : s ≠ t) (h : Y ≤ X) : sg s X + sg t Y = sg s (X - Y) := by
 cases s <;> cases t <;> first | exact absurd rfl hst | (unfold sg; simp; omega)
theorem sg_zero (s : Bool) : sg s 0 = 0 := by unfold sg; split <;> rfl
theorem nv_take_all (xs : List Int) (i : Nat) : nv (xs.take (i + 1)) = nv (xs.take i) + xs.getD i 0 * 2 ^ (64 * i) := by
 by_cases h : i < xs.length
 ·exact nv_take_succ h
 ·rw [List.take_of_length_le (by omega), List.take_of_length_le (by omega), List.getD_eq_getElem?_getD, List.getElem?_eq_none (by omega)]
  simp
theorem sub_step {X Y O b xw yw : Int} {P : Int} (hP : 0 < P) (hb0 : 0 ≤ b) (hb1 : b ≤ 1) (hx0 : 0 ≤ xw) (hx : xw < 18446744073709551616) (hy0 : 0 ≤ yw) (hy : yw < 18446744073709551616) (h : O = X - Y + b * P) :
  O + (xw - yw - b) % 18446744073709551616 * P = (X + xw * P) - (Y + yw * P) + (if xw < yw + b then 1 else 0) * (P * 18446744073709551616) := by
 have e : (xw - yw - b) % 18446744073709551616 = xw - yw - b + (if xw < yw + b then 1 else 0) * 18446744073709551616 := by split <;> omega
 rw [e, h]
 generalize (if xw < yw + b then (1 : Int) else 0) = c
 grind
theorem nat_Sub.l0_eq (x y : List Int) (hx : Ws x) (hy : Ws y) (hm : x.length ≤ 17592186044416) (hmy : y.length ≤ 17592186044416) : ∀ (d k : Nat) (out : List Int) (b : Int) (i : Nat), d = x.length - i → d + 1 + x.length < k → i ≤ x.length → out.length = x.length → Ws out → 0 ≤ b → b ≤ 1 → out.drop i = x.drop i → nv (out.take i) = nv (x.take i) - nv (y.take i) + b * 2 ^ (64 * i) → nv y ≤ nv x →
  nat_Sub.l0 k y out b (x.length : Int) (i : Int) = some (bnd (nv x - nv y)) := by
 intro d
 induction d with
 | zero =>
  intro k out b i hd hk hi hl ho hb0 hb1 hdr hv hle
  obtain ⟨k, rfl⟩ : ∃ j, k = j + 1 := ⟨k - 1, by omega⟩
  obtain rfl : i = x.length := by omega
  have q : ¬ (x.length : Int) < (x.length : Int) := by omega
  have ht : out.take x.length = out := List.take_of_length_le (by omega)
  have hxt : x.take x.length = x := List.take_of_length_le (Nat.le_refl _)
  have hyt : nv (y.take x.length) = nv y := by
   rcases Nat.le_total y.length x.length with h | h
   ·rw [List.take_of_length_le h]
   ·exact nv_take_of_lt hy h (Int.lt_of_le_of_lt hle (nv_lt hx))
  rw [ht, hxt, hyt] at hv
  have hb : b = 0 := by
   have h1 := nv_lt ho
   rw [hl] at h1
   rcases (show b = 0 ∨ b = 1 by omega) with h | h
   ·exact h
   ·rw [h, Int.one_mul] at hv; omega
  rw [hb, Int.zero_mul, Int.add_zero] at hv
  rw [nat_Sub.l0, if_neg q, nat_bound.f_bnd ho (by omega) k (by omega), hv, Option.bind_some]
 | succ d ih =>
  intro k out b i hd hk hi hl ho hb0 hb1 hdr hv hle
  obtain ⟨k, rfl⟩ : ∃ j, k = j + 1 := ⟨k - 1, by omega⟩
  have hil : i < x.length := by omega
  have q : (i : Int) < (x.length : Int) := by omega
  have q0 : (0 : Int) ≤ (i : Int) := by omega
  have q1 : (i : Int) < (out.length : Int) := by omega
  have hox : out.getD i 0 = x.getD i 0 := by
   have := congrArg (fun l => l.getD 0 0) hdr
   simpa [List.getD_eq_getElem?_getD, List.getElem?_drop] using this
  have wx := hx.getD i
  have wy := hy.getD i
  have hP : (0 : Int) < 2 ^ (64 * i) := two_pow_pos _
  have hstep : ∀ yw : Int, yw = y.getD i 0 → ∀ (c : Int), c = (if x.getD i 0 < yw + b then 1 else 0) → nat_Sub.l0 k y (out.set i ((x.getD i 0 - yw - b) % 18446744073709551616)) c (x.length : Int) ((i + 1 : Nat) : Int) = some (bnd (nv x - nv y)) := by
   intro yw hyw c hc
   have hyb : 0 ≤ yw ∧ yw < 18446744073709551616 := by rw [hyw]; exact wy
   have hm0 : 0 ≤ (x.getD i 0 - yw - b) % 18446744073709551616 ∧ (x.getD i 0 - yw - b) % 18446744073709551616 < 18446744073709551616 := by omega
   refine ih k _ c (i + 1) (by omega) (by omega) (by omega) (by rw [List.length_set]; exact hl) (ho.set i hm0.1 hm0.2) (by rw [hc]; split <;> decide) (by rw [hc]; split <;> decide) ?_ ?_ hle
   ·rw [List.drop_set_of_lt (by omega)]
    have := congrArg (List.drop 1) hdr
    rwa [List.drop_drop, List.drop_drop] at this
   ·have hs : (out.set i ((x.getD i 0 - yw - b) % 18446744073709551616)).getD i 0 = (x.getD i 0 - yw - b) % 18446744073709551616 := by
     rw [List.getD_eq_getElem?_getD, List.getElem?_set_self (by omega)]; rfl
    rw [nv_take_all, nv_take_all x, nv_take_all y, hs, List.take_set_of_le (Nat.le_refl i), ← hyw, hc, show 64 * (i + 1) = 64 * i + 64 from by omega, Int.pow_add]
    have e64 : (2 : Int) ^ 64 = 18446744073709551616 := by decide
    rw [e64]
    exact sub_step hP hb0 hb1 wx.1 wx.2 hyb.1 hyb.2 hv
  rw [nat_Sub.l0, if_pos q]
  by_cases hiy : i < y.length
  ·have q2 : (i : Int) < (y.length : Int) := by omega
   rw [if_pos q2, if_pos q0, if_pos q1, rdn, rdn, hox, wide_Sub.f_eq wx.1 wx.2 wy.1 wy.2 hb0 hb1, Option.bind_some, w64_s i (by omega), Int.toNat_natCast]
   exact hstep _ rfl _ rfl
  ·have q2 : ¬ (i : Int) < (y.length : Int) := by omega
   have hz : y.getD i 0 = 0 := by rw [List.getD_eq_getElem?_getD, List.getElem?_eq_none (by omega)]; rfl
   rw [if_neg q2, if_pos q0, if_pos q1, rdn, hox, wide_Sub.f_eq wx.1 wx.2 (by decide) (by decide) hb0 hb1, Option.bind_some, w64_s i (by omega), Int.toNat_natCast]
   exact hstep 0 hz.symm _ rfl
theorem nat_Sub.f_eq (x y : List Int) (hx : Ws x) (hy : Ws y) (hmx : x.length ≤ 1000000) (hmy : y.length ≤ 1000000) (hle : nv y ≤ nv x) (k : Nat) (hk : 3000000 < k) : nat_Sub.f k x y = some (bnd (nv x - nv y)) := by
 have hc : ¬ cmpI (nv x) (nv y) < 0 := by unfold cmpI; split <;> (try split) <;> omega
 have hsx := strip_length_le x
 have hsw := hx.strip
 have hsv : nv (strip x) = nv x := nv_strip x
 rw [nat_Sub.f, nat_Cmp.f_eq x y hx hy (by omega) (by omega) k (by omega) (by omega), Option.bind_some, if_neg hc, nat_Norm.f, if_pos (by omega), Option.bind_some]
 have h := nat_Sub.l0_eq (strip x) y hsw hy (by omega) (by omega) (strip x).length k (strip x) 0 0 (by omega) (by omega) (by omega) rfl hsw (by decide) (by decide) rfl (by simp [nv]) (by rw [hsv]; exact hle)
 rw [hsv] at h
 exact h
theorem sub_wd (x y : List Int) (hx : Ws x) (hy : Ws y) (lx : x.length ≤ 1000000) (ly : y.length ≤ 1000000) (X Y : Nat) (vx : nv x = (X : Int)) (vy : nv y = (Y : Int)) (hle : Y ≤ X) {n : Nat} (h : X < 2 ^ n) (c : Nat) (hc : c = 262144) (hn : n ≤ c) (k : Nat) (hk : 3000000 < k) :
  nat_Sub.f k x y = some (wd (X - Y), 0) := by
 have e : (X : Int) - (Y : Int) = ((X - Y : Nat) : Int) := by omega
 rw [nat_Sub.f_eq x y hx hy lx ly (by rw [vx, vy]; exact Int.ofNat_le.2 hle) k hk, vx, vy, e, bnd_nat hc (Nat.lt_of_le_of_lt (Nat.sub_le _ _) h) hn]
theorem rat_AddC1.ok (s1 s2 : Bool) (A1 D1 A2 D2 : Nat) (h1 : s1 = true → A1 ≠ 0) (h2 : s2 = true → A2 ≠ 0) (d1 : D1 ≠ 0) (d2 : D2 ≠ 0) (b : Nat) (hb : b ≤ 60000) (bA1 : A1 < 2 ^ b) (bD1 : D1 < 2 ^ b) (bA2 : A2 < 2 ^ b) (bD2 : D2 < 2 ^ b) (k : Nat) (hk : D1 * D2 + 20000000 < k) :
  rat_AddC1.f k s1 (wd A1) (wd D1) s2 (wd A2) (wd D2) = some (rzv (sg s1 A1 * D2 + sg s2 A2 * D1) (D1 * D2)) := by
 obtain ⟨k, rfl⟩ : ∃ j, k = j + 1 := ⟨k - 1, by omega⟩
 obtain ⟨c, hc⟩ : ∃ c : Nat, c = 262144 := ⟨_, rfl⟩
 have lens : ∀ n : Nat, n < 2 ^ b → (wd n).length ≤ 1000 := fun n hn => wd_lenb hn 1000 (by omega)
 have prod : ∀ X Y : Nat, X < 2 ^ b → Y < 2 ^ b → X * Y < 2 ^ (b + b) := fun X Y hX hY => by rw [Nat.pow_add]; exact Nat.mul_lt_mul'' hX hY
 have mulE : ∀ X Y : Nat, X < 2 ^ b → Y < 2 ^ b → rat_mul.f (k + 1) (wd X) (wd Y) = some (wd (X * Y)) := fun X Y hX hY => rat_mul.ok _ _ (wd_ws _) (wd_ws _) (lens X hX) (lens Y hY) X Y (nv_wd _) (nv_wd _) (prod X Y hX hY) c hc (by omega) (k + 1) (by omega)
 have len2 : ∀ n : Nat, n < 2 ^ (b + b + 1) → (wd n).length ≤ 1000000 := fun n hn => wd_lenb hn 1000000 (by omega)
 have grow : ∀ n : Nat, n < 2 ^ (b + b) → n < 2 ^ (b + b + 1) := fun n hn => Nat.lt_of_lt_of_le hn (Nat.pow_le_pow_right (by decide) (by omega))
 have pn := prod A1 D2 bA1 bD2
 have pm := prod A2 D1 bA2 bD1
 have pd := prod D1 D2 bD1 bD2
 have hd : D1 * D2 ≠ 0 := Nat.mul_ne_zero d1 d2
 rw [rat_AddC1.f, mulE A1 D2 bA1 bD2, Option.bind_some, mulE A2 D1 bA2 bD1, Option.bind_some, mulE D1 D2 bD1 bD2, Option.bind_some, sg_mul, sg_mul]
 have z1 : A1 * D2 = 0 → s1 = false := by
  intro h
  rcases Nat.mul_eq_zero.1 h with h | h
  ·cases s1
   ·rfl
   ·exact absurd h (h1 rfl)
  ·exact absurd h d2
 have z2 : A2 * D1 = 0 → s2 = false := by
  intro h
  rcases Nat.mul_eq_zero.1 h with h | h
  ·cases s2
   ·rfl
   ·exact absurd h (h2 rfl)
  ·exact absurd h d1
 generalize A1 * D2 = n at *
 generalize A2 * D1 = m at *
 generalize D1 * D2 = D at *
 clear mulE prod h1 h2 d1 d2 bA1 bA2 bD1 bD2
 have low : ∀ (s : Bool) (X : Nat), X < 2 ^ (b + b + 1) → rat_lowest.f k s (wd X) (wd D) = some (rzv (sg s X) D) := fun s X hX => rat_lowest.rz s _ _ (wd_ws _) (wd_ws _) (len2 X hX) (len2 D (grow D pd)) X D (nv_wd _) (nv_wd _) hd k (by omega)
 have psum : n + m < 2 ^ (b + b + 1) := by rw [Nat.pow_succ]; omega
 have sum : nat_Add.f k (wd n) (wd m) = some (wd (n + m), 0) := (add_ok _ _ (wd_ws _) (wd_ws _) (len2 n (grow n pn)) (len2 m (grow m pm)) n m (nv_wd _) (nv_wd _) psum c hc (by omega) k (by omega)).1
 have viaSum : (s1 = s2 ∨ n = 0 ∨ m = 0) → rat_AddC1.j0 (k + 1) (wd n) (wd m) (wd D) true s1 (wd A1) (wd D1) s2 (wd A2) (wd D2) = some (rzv (sg s1 n + sg s2 m) D) := by
  intro hh
  rw [rat_AddC1.j0, if_pos rfl]
  have fin : ∀ s : Bool, sg s (n + m) = sg s1 n + sg s2 m → ((nat_Add.f k (wd n) (wd m)).bind fun bt421 => ((rat_fits.f bt421.1 bt421.2).bind fun t425 => ((rat_lowest.f k s t425 (wd D)).bind fun bt428 => (some (bt428.1, bt428.2.1, bt428.2.2))))) = some (rzv (sg s1 n + sg s2 m) D) := by
   intro s hs
   rw [sum, Option.bind_some, rat_fits.f, if_pos rfl, Option.bind_some, low s (n + m) psum, Option.bind_some, hs]
  by_cases c1 : s1 = true
  ·rw [if_pos c1]
   apply fin
   rcases hh with h | h | h
   ·rw [← h, c1, sg_add_same]
   ·have := z1 h; rw [c1] at this; cases this
   ·have := z2 h; rw [this, h, Nat.add_zero, sg_zero, Int.add_zero, c1]
  ·have c1' := Bool.eq_false_iff.mpr c1
   rw [if_neg c1]
   apply fin
   rcases hh with h | h | h
   ·rw [h, sg_add_same]
   ·rw [h, sg_zero, Nat.zero_add, Int.zero_add]
   ·have := z2 h; rw [this, c1', h, Nat.add_zero, sg_zero, Int.add_zero]
 have nlen : ∀ z : Nat, ((wd z).length : Int) = 0 ↔ z = 0 := by
  intro z
  have := wd_pos_len z
  constructor
  ·intro h; exact Decidable.byContradiction fun h0 => by have := this.2 h0; omega
  ·intro h; rw [h, wd_zero]; rfl
 by_cases c0 : s1 = s2
 ·have e : (s1 == s2) = true := beq_iff_eq.2 c0
  rw [if_pos e]; exact viaSum (.inl c0)
 ·have e : ¬ (s1 == s2) = true := fun h => c0 (beq_iff_eq.1 h)
  rw [if_neg e]
  by_cases c1 : n = 0
  ·rw [if_pos ((nlen n).2 c1)]; exact viaSum (.inr (.inl c1))
  ·rw [if_neg (fun h => c1 ((nlen n).1 h))]
   by_cases c2 : m = 0
   ·rw [beq_iff_eq.2 ((nlen m).2 c2)]; exact viaSum (.inr (.inr c2))
   ·rw [beq_eq_false_iff_ne.2 (fun h => c2 ((nlen m).1 h))]
    rw [rat_AddC1.j0, if_neg (by decide), cmp_wd n m (len2 n (grow n pn)) (len2 m (grow m pm)) k (by omega), Option.bind_some]
    by_cases c3 : n < m
    ·have q : cmpI (n : Int) (m : Int) < 0 := by unfold cmpI; rw [if_pos (by omega)]; decide
     have es : sg s2 (m - n) = sg s1 n + sg s2 m := by rw [Int.add_comm, sg_add_sub s2 s1 m n (fun h => c0 h.symm) (by omega)]
     rw [if_pos q, sub_wd _ _ (wd_ws _) (wd_ws _) (len2 m (grow m pm)) (len2 n (grow n pn)) m n (nv_wd _) (nv_wd _) (by omega) pm c hc (by omega) k (by omega), Option.bind_some, rat_fits.f, if_pos rfl, Option.bind_some, low s2 (m - n) (Nat.lt_of_le_of_lt (Nat.sub_le _ _) (grow m pm)), Option.bind_some, es]
    ·have q : ¬ cmpI (n : Int) (m : Int) < 0 := by unfold cmpI; rw [if_neg (by omega)]; split <;> decide
     have es : sg s1 (n - m) = sg s1 n + sg s2 m := by rw [sg_add_sub s1 s2 n m c0 (by omega)]
     rw [if_neg q, sub_wd _ _ (wd_ws _) (wd_ws _) (len2 n (grow n pn)) (len2 m (grow m pm)) n m (nv_wd _) (nv_wd _) (by omega) pn c hc (by omega) k (by omega), Option.bind_some, rat_fits.f, if_pos rfl, Option.bind_some, low s1 (n - m) (Nat.lt_of_le_of_lt (Nat.sub_le _ _) (grow n pn)), Option.bind_some, es]
end Go.Proofs.Ytiogfeeaepkkmaa.PA
