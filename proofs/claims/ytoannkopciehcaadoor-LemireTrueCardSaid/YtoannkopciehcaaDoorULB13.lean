/- A part of the proof (13). -/
import Derived.Test.YtoannkopciehcaaDoorULB12
import Derived.KernelRfl
namespace Go.Proofs.YtoannkopciehcaaDoor.PA
open Go.RowKit Go.Proofs.YtoannkopciehcaaDoorW.PrintWords Go.Proofs.YtoannkopciehcaaDoorW.PrintLast Go.Proofs.YtoannkopciehcaaDoorW.PrintMore
set_option linter.unusedVariables false
set_option linter.unusedSimpArgs false
theorem getD_zero_of_lt {xs : List Int} (h : Ws xs) {t : Nat} (hl : nv xs < 2 ^ (64 * t)) : xs.getD t 0 = 0 := by
  by_cases ht : t < xs.length
  · have e := nv_split (xs := xs) (n := t) (by omega)
    have h1 := nv_nonneg (h.take t)
    have h2 := nv_nonneg (h.drop t)
    have hp := two_pow_pos (64 * t)
    have h3 : nv (xs.drop t) < 1 := by
      apply Classical.byContradiction
      intro hc
      have := Int.mul_le_mul_of_nonneg_left (show 1 ≤ nv (xs.drop t) by omega) (Int.le_of_lt hp)
      omega
    have h4 : nv (xs.drop t) = 0 := by omega
    rw [List.drop_eq_getElem_cons ht, nv_cons] at h4
    have h5 := nv_nonneg (h.drop (t + 1))
    have h6 := h.getD t
    rw [List.getD_eq_getElem?_getD, List.getElem?_eq_getElem ht] at h6 ⊢
    simp only [Option.getD_some] at h6 ⊢
    omega
  · rw [List.getD_eq_getElem?_getD, List.getElem?_eq_none (by omega)]; rfl
theorem set_getD_ne {xs : List Int} {i j : Nat} {v : Int} (h : i ≠ j) : (xs.set i v).getD j 0 = xs.getD j 0 := by
  rw [List.getD_eq_getElem?_getD, List.getD_eq_getElem?_getD, List.getElem?_set_ne h]
/-- one word's sums: low and high -/
theorem mul_step {a b o c : Int} (ha0 : 0 ≤ a) (ha : a < 18446744073709551616) (hb0 : 0 ≤ b) (hb : b < 18446744073709551616) (ho0 : 0 ≤ o) (ho : o < 18446744073709551616) (hc0 : 0 ≤ c) (hc : c < 18446744073709551616) :
    ∃ lo hi k1 k2 v c' : Int, a * b = hi * 18446744073709551616 + lo ∧ 0 ≤ lo ∧ lo < 18446744073709551616 ∧
      wide_Mul.f a b = some (hi, lo) ∧ ∃ s, wide_Add.f lo o 0 = some (s, k1) ∧ wide_Add.f s c 0 = some (v, k2) ∧ IntKind.u64.wrap (IntKind.u64.wrap (hi + k1) + k2) = c' ∧
      v + c' * 18446744073709551616 = a * b + o + c ∧ 0 ≤ v ∧ v < 18446744073709551616 ∧ 0 ≤ c' ∧ c' < 18446744073709551616 := by
  have hab0 : 0 ≤ a * b := Int.mul_nonneg ha0 hb0
  have hab : a * b ≤ 18446744073709551615 * 18446744073709551615 := Int.mul_le_mul (by omega) (by omega) hb0 (by omega)
  refine ⟨a * b % 18446744073709551616, a * b / 18446744073709551616, _, _, _, _, by omega, by omega, by omega, ?_, _, wide_Add.f_eq (by omega) (by omega) ho0 ho (by omega) (by omega), wide_Add.f_eq (by omega) (by omega) hc0 hc (by omega) (by omega), rfl, ?_, by omega, by omega, ?_, ?_⟩
  · unfold wide_Mul.f
    rw [if_pos (u64B_iff.2 ⟨ha0, ha⟩), if_pos (u64B_iff.2 ⟨hb0, hb⟩)]
  · simp only [u64w]
    generalize a * b = p at *
    omega
  · simp only [u64w]; omega
  · simp only [u64w]; omega
theorem w64_add (i j : Nat) (h : i + j < 9223372036854775808) : wrap64 ((i : Int) + (j : Int)) = ((i + j : Nat) : Int) := by unfold wrap64; omega
theorem w64_succ (i : Nat) (h : i < 9223372036854775807) : wrap64 ((i : Int) + 1) = ((i + 1 : Nat) : Int) := by unfold wrap64; omega
theorem nat_Mul.l1_eq (x y : List Int) (hy : Ws y) (i m : Nat) (a : Int) (ha0 : 0 ≤ a) (ha : a < 18446744073709551616) (hm : m ≤ 35184372088832) (him : i + y.length < m) :
    ∀ (d k : Nat) (out : List Int) (c : Int) (j : Nat), d = y.length - j → j ≤ y.length → out.length = m → Ws out → 0 ≤ c → c < 18446744073709551616 → out.getD (i + y.length) 0 = 0 →
    ∃ out' c', Ws out' ∧ out'.length = m ∧ 0 ≤ c' ∧ c' < 18446744073709551616 ∧ out'.getD (i + y.length) 0 = 0 ∧
      nv out' + c' * 2 ^ (64 * (i + y.length)) + a * nv (y.take j) * 2 ^ (64 * i) = nv out + c * 2 ^ (64 * (i + j)) + a * nv y * 2 ^ (64 * i) ∧
      nat_Mul.l1 (k + d + 1) y out i a c x (x.length : Int) i y (y.length : Int) j = nat_Mul.l0 k y (out'.set (i + y.length) c') x (x.length : Int) ((i + 1 : Nat) : Int) := by
  intro d
  induction d with
  | zero =>
    intro k out c j hd hj hl hw hc0 hc hz
    obtain rfl : j = y.length := by omega
    refine ⟨out, c, hw, hl, hc0, hc, hz, by rw [List.take_length], ?_⟩
    rw [Nat.add_zero]
    conv => lhs; unfold nat_Mul.l1
    rw [if_neg (by omega)]
    have b1 : i + y.length < 9223372036854775808 := by omega
    have b2 : i < 9223372036854775807 := by omega
    have b3 : (0 : Int) ≤ ((i + y.length : Nat) : Int) := by omega
    have b4 : ((i + y.length : Nat) : Int) < (out.length : Int) := by omega
    have ew := w64_add i y.length b1
    have ew2 := w64_succ i b2
    rw [ew, ew2, Int.toNat_natCast]
    rw [if_pos b3, if_pos b4]
  | succ d ih =>
    intro k out c j hd hj hl hw hc0 hc hz
    have b1 : i + j < 9223372036854775808 := by omega
    have b2 : j < 9223372036854775807 := by omega
    have q0 : (j : Int) < (y.length : Int) := by omega
    have q1 : (0 : Int) ≤ (j : Int) := by omega
    have q2 : (0 : Int) ≤ ((i + j : Nat) : Int) := by omega
    have q3 : ((i + j : Nat) : Int) < (out.length : Int) := by omega
    have q4 : d = y.length - (j + 1) := by omega
    have q5 : j + 1 ≤ y.length := by omega
    have q6 : i + j ≠ i + y.length := by omega
    have q7 : i + j < out.length := by omega
    have q8 : j < y.length := by omega
    have ew := w64_add i j b1
    have ew2 := w64_succ j b2
    have hyj := hy.getD j
    have hoj := hw.getD (i + j)
    obtain ⟨lo, hi, k1, k2, v, c', e1, hlo0, hlo, eM, s, eA, eB, ec, ev, hv0, hv, hc0', hc'⟩ := mul_step ha0 ha hyj.1 hyj.2 hoj.1 hoj.2 hc0 hc
    obtain ⟨out', c2, h1, h2, h3, h4, h5, h6, h7⟩ := ih k (out.set (i + j) v) c' (j + 1) q4 q5 (by rw [List.length_set, hl]) (hw.set _ hv0 hv) hc0' hc' (by rw [set_getD_ne q6]; exact hz)
    refine ⟨out', c2, h1, h2, h3, h4, h5, ?_, ?_⟩
    · rw [nv_set q7, nv_take_succ q8] at h6
      clear ec ew ew2
      rw [show 64 * (i + (j + 1)) = 64 * (i + j + 1) from by omega, pow64, show 64 * (i + j) = 64 * i + 64 * j from by omega, Int.pow_add] at h6
      rw [show 64 * (i + j) = 64 * i + 64 * j from by omega, Int.pow_add]
      generalize (2 : Int) ^ (64 * i) = pi at *
      generalize (2 : Int) ^ (64 * j) = pj at *
      generalize out.getD (i + j) 0 = o at *
      generalize y.getD j 0 = yj at *
      obtain rfl : v = a * yj + o + c - c' * 18446744073709551616 := by omega
      clear eM eA eB h7 ih e1 hyj hoj hlo hlo0
      grind
    · rw [← h7, show k + (d + 1) + 1 = (k + d + 1) + 1 from by omega]
      conv => lhs; unfold nat_Mul.l1
      have er : rd y (j : Int) = y.getD j 0 := rfl
      have er2 : rd out ((i + j : Nat) : Int) = out.getD (i + j) 0 := rfl
      rw [ew, ew2, er, er2, eM]
      simp only [Option.bind_some]
      rw [if_pos q0, if_pos q1, if_pos q0, if_pos q2, if_pos q3, eA]
      simp only [Option.bind_some]
      rw [eB]
      simp only [Option.bind_some]
      rw [ec, Int.toNat_natCast]
theorem nat_Mul.l0_eq (x y : List Int) (hx : Ws x) (hy : Ws y) (m : Nat) (hm : m ≤ 35184372088832) (hlm : x.length + y.length = m) : ∀ (d k : Nat) (out : List Int) (i : Nat), d = x.length - i → d * (y.length + 2) + m + 1 < k → i ≤ x.length → out.length = m → Ws out → nv out = nv (x.take i) * nv y →
    nat_Mul.l0 k y out x (x.length : Int) i = some (bnd (nv x * nv y)) := by
  intro d
  induction d with
  | zero =>
    intro k out i hd hk hi hl hw hv
    obtain ⟨k, rfl⟩ : ∃ j, k = j + 1 := ⟨k - 1, by omega⟩
    obtain rfl : i = x.length := by omega
    rw [List.take_length] at hv
    simp only [nat_Mul.l0]
    rw [if_neg (by omega), nat_bound.f_bnd hw (by omega) k (by omega), hv]
    rfl
  | succ d ih =>
    intro k out i hd hk hi hl hw hv
    have hk' : d * (y.length + 2) + (y.length + 2) + m + 1 < k := by rw [Nat.succ_mul] at hk; exact hk
    obtain ⟨k, rfl⟩ : ∃ j, k = j + y.length + 1 + 1 := ⟨k - (y.length + 2), by omega⟩
    have hxi := hx.getD i
    have htop : nv out < 2 ^ (64 * (i + y.length)) := by
      rw [hv, show 64 * (i + y.length) = 64 * i + 64 * y.length from by omega, Int.pow_add]
      have h1 := nv_lt (hx.take i)
      rw [List.length_take, Nat.min_eq_left (by omega)] at h1
      have h2 := nv_lt hy
      have h3 := nv_nonneg (hx.take i)
      have h4 := nv_nonneg hy
      have hp := two_pow_pos (64 * i)
      have h5 : nv (x.take i) * nv y ≤ nv (x.take i) * 2 ^ (64 * y.length) := Int.mul_le_mul_of_nonneg_left (by omega) h3
      have h6 : nv (x.take i) * 2 ^ (64 * y.length) < 2 ^ (64 * i) * 2 ^ (64 * y.length) := Int.mul_lt_mul_of_pos_right h1 (two_pow_pos _)
      omega
    obtain ⟨out', c', h1, h2, h3, h4, h5, h6, h7⟩ := nat_Mul.l1_eq x y hy i m (x.getD i 0) hxi.1 hxi.2 hm (by omega) y.length k out 0 0 (by omega) (by omega) hl hw (by omega) (by omega) (getD_zero_of_lt hw htop)
    conv => lhs; unfold nat_Mul.l0
    have er : rd x (i : Int) = x.getD i 0 := rfl
    rw [if_pos (by omega), if_pos (by omega), if_pos (by omega), er]
    have h7' : nat_Mul.l1 (k + y.length + 1) y out i (x.getD i 0) 0 x (x.length : Int) i y (y.length : Int) 0 = nat_Mul.l0 k y (out'.set (i + y.length) c') x (x.length : Int) ((i + 1 : Nat) : Int) := h7
    rw [h7']
    refine ih k _ (i + 1) (by omega) (by omega) (by omega) (by rw [List.length_set, h2]) (h1.set _ h3 h4) ?_
    rw [nv_set (by omega), h5, nv_take_succ (by omega), Int.add_mul, ← hv]
    simp only [List.take_zero, nv_nil] at h6
    generalize (2 : Int) ^ (64 * i) = pi at *
    generalize (2 : Int) ^ (64 * (i + y.length)) = pl at *
    generalize x.getD i 0 = xi at *
    clear h7 h7' er ih hk hk'
    grind
theorem strip_take' (xs : List Int) : xs.take (strip xs).length = strip xs := (strip_take xs).symm
theorem bnd_big {n : Int} (h : (2 : Int) ^ 262144 ≤ n) : bnd n = ([], 21) := by unfold bnd; rw [if_neg (by omega)]
theorem nv_pos_iff {xs : List Int} (h : Ws xs) : 0 < nv xs ↔ (strip xs) ≠ [] := by
  rw [← strip_length_pos h]
  exact ⟨fun h1 h2 => by rw [h2] at h1; simp at h1, fun h1 => List.length_pos_iff.2 h1⟩
/-- the product, where it isn't too long -/
theorem nat_Mul.f_eq (x y : List Int) (hx : Ws x) (hy : Ws y) (hlx : x.length ≤ 1000000) (hly : y.length ≤ 1000000) (k : Nat) (hk : x.length * (y.length + 2) + x.length + y.length + 20 < k) :
    nat_Mul.f k x y = some (if nv x * nv y = 0 then ([], 0) else bnd (nv x * nv y)) := by
  have hsx := strip_length_le x
  have hsy := strip_length_le y
  have hm : (strip x).length * ((strip y).length + 2) ≤ x.length * (y.length + 2) := Nat.mul_le_mul hsx (by omega)
  obtain ⟨k, rfl⟩ : ∃ j, k = j + 1 := ⟨k - 1, by omega⟩
  rw [nat_Mul.f, nat_size.f_eq x (by omega) _ (by omega)]
  simp only [Option.bind_some]
  rw [if_pos (by omega), if_pos (by omega), nat_size.f_eq y (by omega) _ (by omega)]
  simp only [Option.bind_some]
  rw [if_pos (by omega), if_pos (by omega), Int.toNat_natCast, Int.toNat_natCast, strip_take', strip_take']
  have ex := nv_strip x
  have ey := nv_strip y
  have wx := hx.strip
  have wy := hy.strip
  have px := nv_pos_iff hx
  have py := nv_pos_iff hy
  rw [← ex, ← ey] at *
  generalize strip x = x' at *
  generalize strip y = y' at *
  have nx := nv_nonneg wx
  have ny := nv_nonneg wy
  by_cases h0 : x' = []
  · subst h0
    rw [if_pos (by simp), nat_Mul.j0, if_pos rfl]
    simp [nv]
  · have hx0 : x'.length ≠ 0 := fun h => h0 (List.eq_nil_of_length_eq_zero h)
    rw [if_neg (by omega)]
    by_cases h1 : y' = []
    · subst h1
      rw [nat_Mul.j0, if_pos (by simp)]
      simp [nv]
    · have hy0 : y'.length ≠ 0 := fun h => h1 (List.eq_nil_of_length_eq_zero h)
      have hpx := px.2 h0
      have hpy := py.2 h1
      have hp : 0 < nv x' * nv y' := Int.mul_pos hpx hpy
      rw [nat_Mul.j0, if_neg (by simp only [beq_iff_eq]; omega), nat_Bits.f_eq x' wx (by omega) k (by omega) (by omega), if_neg (show ¬ nv x' * nv y' = 0 by omega)]
      simp only [Option.bind_some]
      rw [nat_Bits.f_eq y' wy (by omega) k (by omega) (by omega)]
      simp only [Option.bind_some]
      have bx := bitsN_ge hpx
      have by_ := bitsN_ge hpy
      have bx1 := bitsN_pos hpx
      have by1 := bitsN_pos hpy
      have bx2 := bitsN_le_of_lt (n := 64 * x'.length) nx (nv_lt wx)
      have by2 := bitsN_le_of_lt (n := 64 * y'.length) ny (nv_lt wy)
      have hbx : 1 ≤ bitsN (nv x') := by omega
      have hby : 1 ≤ bitsN (nv y') := by omega
      clear bx1 by1
      have ew : wrap64 (bitsN (nv x') - 1) = bitsN (nv x') - 1 := by unfold wrap64; omega
      have ew2 : wrap64 (262144 - bitsN (nv y')) = 262144 - bitsN (nv y') := by clear ew; unfold wrap64; omega
      rw [ew, ew2]
      clear ew ew2
      by_cases hb : bitsN (nv x') - 1 > 262144 - bitsN (nv y')
      · rw [if_pos hb, bnd_big]
        have h3 : (2 : Int) ^ 262144 ≤ 2 ^ ((bitsN (nv x')).toNat - 1 + ((bitsN (nv y')).toNat - 1)) := pow_mono (by omega)
        rw [Int.pow_add] at h3
        exact Int.le_trans h3 (Int.mul_le_mul bx by_ (Int.le_of_lt (two_pow_pos _)) nx)
      · rw [if_neg hb]
        clear hb bx by_ bx2 by2 hbx hby
        have ew := w64_add x'.length y'.length (by omega)
        have c1 : (0 : Int) ≤ ((x'.length + y'.length : Nat) : Int) := Int.natCast_nonneg _
        rw [ew, if_pos c1, Int.toNat_natCast]
        clear ew c1
        rw [if_pos (by omega)]
        exact nat_Mul.l0_eq x' y' wx wy (x'.length + y'.length) (by omega) rfl x'.length k _ 0 (by omega) (by omega) (by omega) (by simp) (Ws.zeros _) (by rw [nv_zeros]; simp [nv])
end Go.Proofs.YtoannkopciehcaaDoor.PA

namespace Go.Proofs.YtoannkopciehcaaDoor.PA
open Go.RowKit Go.Proofs.YtoannkopciehcaaDoorW.PrintWords Go.Proofs.YtoannkopciehcaaDoorW.PrintLast Go.Proofs.YtoannkopciehcaaDoorW.PrintMore
set_option linter.unusedVariables false
set_option linter.unusedSimpArgs false
theorem drop_set_self {xs : List Int} {m : Nat} (h : m < xs.length) (q : Int) : (xs.set m q).drop m = q :: xs.drop (m + 1) := by
  rw [List.drop_eq_getElem_cons (by rw [List.length_set]; exact h), List.getElem_set_self, List.drop_set_of_lt (by omega)]
theorem drop_getD {xs : List Int} {m : Nat} (h : m < xs.length) : xs.drop m = xs.getD m 0 :: xs.drop (m + 1) := by
  rw [List.drop_eq_getElem_cons h, List.getD_eq_getElem?_getD, List.getElem?_eq_getElem h]; rfl
theorem div_step {r x d : Int} (hr0 : 0 ≤ r) (hr : r < d) (hx0 : 0 ≤ x) (hx : x < 18446744073709551616) (hd : d < 18446744073709551616) :
    wide_Div.f r x d = some ((r * 18446744073709551616 + x) / d, (r * 18446744073709551616 + x) % d, 0) ∧ 0 ≤ (r * 18446744073709551616 + x) / d ∧ (r * 18446744073709551616 + x) / d < 18446744073709551616 ∧
      0 ≤ (r * 18446744073709551616 + x) % d ∧ (r * 18446744073709551616 + x) % d < d ∧ r * 18446744073709551616 + x = (r * 18446744073709551616 + x) / d * d + (r * 18446744073709551616 + x) % d := by
  have hdp : 0 < d := by omega
  refine ⟨?_, Int.ediv_nonneg (by omega) (by omega), Int.ediv_lt_of_lt_mul hdp ?_, Int.emod_nonneg _ (by omega), Int.emod_lt_of_pos _ hdp, ?_⟩
  · unfold wide_Div.f
    rw [if_pos ⟨u64B_iff.2 ⟨hr0, by omega⟩, u64B_iff.2 ⟨hx0, hx⟩, u64B_iff.2 ⟨by omega, hd⟩⟩, if_neg (by omega), if_neg (by omega)]
  · have : r * 18446744073709551616 ≤ (d - 1) * 18446744073709551616 := Int.mul_le_mul_of_nonneg_right (by omega) (by omega)
    rw [Int.sub_mul] at this
    rw [Int.mul_comm]
    omega
  · have := Int.mul_ediv_add_emod (r * 18446744073709551616 + x) d
    rw [Int.mul_comm] at this
    omega
theorem quot_Small.l0_eq (x : List Int) (hx : Ws x) (d : Int) (hd0 : 0 < d) (hd : d < 18446744073709551616) (hm : x.length ≤ 35184372088832) : ∀ (n k : Nat) (out : List Int) (r : Int), n < k → n ≤ x.length → out.length = x.length → Ws out → 0 ≤ r → r < d → nv (x.drop n) = nv (out.drop n) * d + r →
    quot_Small.l0 k x d out r ((n : Int) - 1) = some (wd (nv x / d).toNat, nv x % d, 0) := by
  intro n
  induction n with
  | zero =>
    intro k out r hk hn hl hw hr0 hr hv
    obtain ⟨k, rfl⟩ : ∃ j, k = j + 1 := ⟨k - 1, by omega⟩
    simp only [quot_Small.l0]
    rw [if_neg (by omega), nat_Norm.f, if_pos (by omega)]
    simp only [Option.bind_some, List.drop_zero] at hv ⊢
    have e1 : nv x / d = nv out := by rw [hv, Int.add_comm, Int.add_mul_ediv_right _ _ (by omega), Int.ediv_eq_zero_of_lt hr0 hr, Int.zero_add]
    have e2 : nv x % d = r := by rw [hv, Int.add_comm, Int.add_mul_emod_self_right, Int.emod_eq_of_lt hr0 hr]
    rw [e1, e2, wd_nv hw]
  | succ n ih =>
    intro k out r hk hn hl hw hr0 hr hv
    obtain ⟨k, rfl⟩ : ∃ j, k = j + 1 := ⟨k - 1, by omega⟩
    have q1 : ((n : Int)) ≥ 0 := by omega
    have q2 : (n : Int) < (x.length : Int) := by omega
    have q3 : (n : Int) < (out.length : Int) := by omega
    have q4 : n < out.length := by omega
    have q5 : n < x.length := by omega
    have q6 : n < k := by omega
    have q7 : n ≤ x.length := by omega
    have ew : wrap64 ((n : Int) - 1) = (n : Int) - 1 := by unfold wrap64; omega
    have ho := hx.getD n
    obtain ⟨e1, e2, e3, e4, e5, e6⟩ := div_step hr0 hr ho.1 ho.2 hd
    have en : ((n + 1 : Nat) : Int) - 1 = (n : Int) := by omega
    have er : rd x (n : Int) = x.getD n 0 := rfl
    simp only [quot_Small.l0]
    rw [en, if_pos q1, if_pos q1, if_pos q2, er, e1]
    simp only [Option.bind_some]
    rw [if_pos q3, ew, Int.toNat_natCast]
    refine ih k _ _ q6 q7 (by rw [List.length_set, hl]) (hw.set _ e2 e3) e4 e5 ?_
    rw [drop_set_self q4, drop_getD q5, nv_cons, nv_cons, hv]
    generalize (r * 18446744073709551616 + x.getD n 0) / d = q at *
    generalize (r * 18446744073709551616 + x.getD n 0) % d = s at *
    generalize nv (out.drop (n + 1)) = z at *
    generalize x.getD n 0 = y at *
    clear ew e1 er en
    grind
theorem quot_Small.f_eq (x : List Int) (hx : Ws x) (d : Int) (hd0 : 0 < d) (hd : d < 18446744073709551616) (hm : x.length ≤ 35184372088832) (k : Nat) (hk : x.length < k) :
    quot_Small.f k x d = some (wd (nv x / d).toNat, nv x % d, 0) := by
  have ew : wrap64 ((x.length : Int) - 1) = (x.length : Int) - 1 := by unfold wrap64; omega
  rw [quot_Small.f, ew, if_neg (by omega), if_pos (by omega), Int.toNat_natCast, if_pos hm]
  exact quot_Small.l0_eq x hx d hd0 hd hm x.length k _ 0 hk (Nat.le_refl _) (by simp) (Ws.zeros _) (Int.le_refl _) hd0 (by rw [List.drop_eq_nil_of_le (Nat.le_refl _), List.drop_eq_nil_of_le (by simp)]; simp [nv])
end Go.Proofs.YtoannkopciehcaaDoor.PA

namespace Go.Proofs.YtoannkopciehcaaDoor.PA
open Go.RowKit Go.Proofs.YtoannkopciehcaaDoorW.PrintWords Go.Proofs.YtoannkopciehcaaDoorW.PrintLast Go.Proofs.YtoannkopciehcaaDoorW.PrintMore
set_option linter.unusedVariables false
set_option linter.unusedSimpArgs false
theorem pow_split {s : Nat} (h : s ≤ 64) : (2 : Int) ^ s * 2 ^ (64 - s) = 18446744073709551616 := by
  rw [← Int.pow_add, show s + (64 - s) = 64 from by omega]; rfl
theorem shl_low {x P R : Int} (hP : 0 < P) (h : P * R = 18446744073709551616) : x * P % 18446744073709551616 = P * (x % R) := by
  rw [← h, Int.mul_comm x P, Int.mul_emod_mul_of_pos _ _ hP]
theorem shl_word {x P R : Int} (hP : 0 < P) (h : P * R = 18446744073709551616) : x * P = 18446744073709551616 * (x / R) + x * P % 18446744073709551616 := by
  rw [shl_low hP h]
  have h1 := Int.mul_ediv_add_emod x R
  generalize x / R = a at *
  generalize x % R = b at *
  rw [← h, ← h1]
  grind
theorem wide_Shl.f_eq {hi lo : Int} {s : Nat} (hs1 : 1 ≤ s) (hs : s ≤ 63) (h0 : 0 ≤ hi) (h1 : hi < 18446744073709551616) (l0 : 0 ≤ lo) (l1 : lo < 18446744073709551616) :
    wide_Shl.f hi lo (s : Int) = some (hi * 2 ^ s % 18446744073709551616 + lo / 2 ^ (64 - s), lo * 2 ^ s % 18446744073709551616) := by
  have e1 : mn (mx (s : Int) 0) 128 = (s : Int) := by
    unfold mn mx
    rw [if_neg (by omega), if_neg (by omega)]
  have ew : wrap64 (64 - (s : Int)) = ((64 - s : Nat) : Int) := by unfold wrap64; omega
  have c1 : (0 : Int) ≤ (s : Int) := by clear ew e1; omega
  have c2 : ¬ (s : Int) ≥ 64 := by clear ew e1; omega
  have c3 : (0 : Int) ≤ ((64 - s : Nat) : Int) := Int.natCast_nonneg _
  have hP := two_pow_pos s
  have hR := two_pow_pos (64 - s)
  have hPR := pow_split (s := s) (by omega)
  rw [wide_Shl.f, wide_within.f, e1]
  simp only [Option.bind_some]
  rw [if_neg c2, if_pos c1, ew, if_pos c3]
  clear ew e1 c1 c2 c3
  have m1 : min s 64 = s := Nat.min_eq_left (by omega)
  have m2 : min (64 - s) 64 = 64 - s := Nat.min_eq_left (by omega)
  rw [shl_eq, shl_eq, shr_eq, Int.toNat_natCast, Int.toNat_natCast, m1, m2]
  have hx : hi * 2 ^ s % 18446744073709551616 % 2 ^ s = 0 := by rw [shl_low hP hPR, Int.mul_emod_right]
  have hy : lo / 2 ^ (64 - s) < 2 ^ s := Int.ediv_lt_of_lt_mul hR (by rw [hPR]; exact l1)
  have hle : (2 : Int) ^ s ≤ 2 ^ 63 := pow_mono hs
  have hy0 : 0 ≤ lo / 2 ^ (64 - s) := Int.ediv_nonneg l0 (Int.le_of_lt hR)
  rw [or_join s (Int.emod_nonneg _ (by decide)) (Int.emod_lt_of_pos _ (by decide)) hx hy0 hy (Int.lt_trans (Int.lt_of_lt_of_le hy hle) (by decide))]
theorem take_getD {xs ys : List Int} {n j : Nat} (h : xs.take n = ys.take n) (hj : j < n) : xs.getD j 0 = ys.getD j 0 := by
  have h1 : (xs.take n)[j]? = (ys.take n)[j]? := by rw [h]
  rw [List.getElem?_take, List.getElem?_take, if_pos hj, if_pos hj] at h1
  rw [List.getD_eq_getElem?_getD, List.getD_eq_getElem?_getD, h1]
theorem take_set_self {xs : List Int} {n : Nat} {v : Int} : (xs.set n v).take n = xs.take n := by
  rw [List.take_set]
  exact List.set_eq_of_length_le (by rw [List.length_take]; omega)
theorem take_less {xs ys : List Int} {n : Nat} (h : xs.take (n + 1) = ys.take (n + 1)) : xs.take n = ys.take n := by
  have h1 : (xs.take (n + 1)).take n = (ys.take (n + 1)).take n := by rw [h]
  rwa [List.take_take, List.take_take, Nat.min_eq_left (by omega)] at h1
theorem nat_Shl.l0_eq (y : List Int) (hy : Ws y) (q s m : Nat) (a1 : Int) (ea : wrap64 (Int.tdiv a1 64) = (q : Int)) (hs1 : 1 ≤ s) (hs : s ≤ 63) (hm : m ≤ 35184372088832) (hlm : y.length = m) (hz : nv (y.take q) = 0) :
    ∀ (e k : Nat) (cur : List Int) (i : Nat), i = q + e → e + m + 1 < k → i < m → cur.length = m → Ws cur → cur.take (i + 1) = y.take (i + 1) → nv (cur.drop (i + 1)) = nv (y.drop (i + 1)) * 2 ^ s + y.getD i 0 / 2 ^ (64 - s) →
    nat_Shl.l0 k a1 cur (s : Int) (i : Int) = some (bnd (nv y * 2 ^ s)) := by
  have hP := two_pow_pos s
  have hR := two_pow_pos (64 - s)
  have hPR := pow_split (s := s) (by omega)
  intro e
  induction e with
  | zero =>
    intro k cur i hi hk him hl hw ht hv
    obtain ⟨k, rfl⟩ : ∃ j, k = j + 1 := ⟨k - 1, by clear ea hP hR hPR hv hz; omega⟩
    obtain rfl : i = q := hi
    have c1 : ¬ (i : Int) > (i : Int) := Int.lt_irrefl _
    have c2 : (0 : Int) ≤ (i : Int) := Int.natCast_nonneg _
    have c3 : (i : Int) < (cur.length : Int) := by rw [hl]; exact Int.ofNat_lt.2 him
    have c4 : (0 : Int) ≤ (s : Int) := Int.natCast_nonneg _
    have c5 : i < cur.length := by rw [hl]; exact him
    have c6 : i < y.length := by rw [hlm]; exact him
    have c7 : m < k := by clear ea hP hR hPR hv hz; omega
    have er : rd cur (i : Int) = cur.getD i 0 := rfl
    have m1 : min s 64 = s := Nat.min_eq_left (by clear ea hP hR hPR hv hz; omega)
    conv => lhs; unfold nat_Shl.l0
    rw [ea, if_neg c1, if_pos c2, if_pos c3, if_pos c4, er, take_getD ht (Nat.lt_succ_self i), shl_eq, Int.toNat_natCast, Int.toNat_natCast, m1]
    have hw' : Ws (cur.set i (y.getD i 0 * 2 ^ s % 18446744073709551616)) := hw.set _ (Int.emod_nonneg _ (by decide)) (Int.emod_lt_of_pos _ (by decide))
    rw [nat_bound.f_bnd hw' (by rw [List.length_set, hl]; exact hm) k (by rw [List.length_set, hl]; exact c7)]
    simp only [Option.bind_some]
    have e1 : nv (cur.set i (y.getD i 0 * 2 ^ s % 18446744073709551616)) = nv y * 2 ^ s := by
      rw [nv_split (xs := cur.set i _) (n := i) (by rw [List.length_set]; exact Nat.le_of_lt c5), take_set_self, take_less ht, hz, drop_set_self c5, nv_cons, hv, nv_split (xs := y) (n := i) (Nat.le_of_lt c6), hz, drop_getD c6, nv_cons]
      have h2 := shl_word (x := y.getD i 0) hP hPR
      generalize y.getD i 0 / 2 ^ (64 - s) = u at *
      generalize y.getD i 0 * 2 ^ s % 18446744073709551616 = v at *
      generalize nv (y.drop (i + 1)) = z at *
      generalize y.getD i 0 = w at *
      generalize (2 : Int) ^ (64 * i) = p at *
      generalize (2 : Int) ^ s = P at *
      clear hv ht ea er
      grind
    rw [e1]
  | succ e ih =>
    intro k cur i hi hk him hl hw ht hv
    obtain ⟨k, rfl⟩ : ∃ j, k = j + 1 := ⟨k - 1, by clear ea hP hR hPR hv hz; omega⟩
    obtain ⟨i, rfl⟩ : ∃ j, i = j + 1 := ⟨i - 1, by clear ea hP hR hPR hv hz; omega⟩
    have c1 : ((i + 1 : Nat) : Int) > (q : Int) := by clear ea hP hR hPR hv hz; omega
    have c2 : (0 : Int) ≤ ((i + 1 : Nat) : Int) := Int.natCast_nonneg _
    have c3 : ((i + 1 : Nat) : Int) < (cur.length : Int) := by rw [hl]; exact Int.ofNat_lt.2 him
    have ew : wrap64 (((i + 1 : Nat) : Int) - 1) = (i : Int) := by clear ea hP hR hPR hv hz; unfold wrap64; omega
    have c4 : (0 : Int) ≤ (i : Int) := Int.natCast_nonneg _
    have c5 : (i : Int) < (cur.length : Int) := by clear ea hP hR hPR hv hz ew; omega
    have c6 : i + 1 < cur.length := by clear ea hP hR hPR hv hz ew; omega
    have c7 : i + 1 < y.length := by clear ea hP hR hPR hv hz ew; omega
    have d1 : i = q + e := by clear ea hP hR hPR hv hz ew; omega
    have d2 : e + m + 1 < k := by clear ea hP hR hPR hv hz ew; omega
    have d3 : i < m := by clear ea hP hR hPR hv hz ew; omega
    have er : rd cur ((i + 1 : Nat) : Int) = cur.getD (i + 1) 0 := rfl
    have er2 : rd cur (i : Int) = cur.getD i 0 := rfl
    have y1 := hy.getD (i + 1)
    have y0 := hy.getD i
    conv => lhs; unfold nat_Shl.l0
    rw [ea, if_pos c1, if_pos c2, if_pos c3, ew, if_pos c4, if_pos c5, er, er2, take_getD ht (Nat.lt_succ_self (i + 1)), take_getD ht (show i < i + 1 + 1 from Nat.lt_succ_of_lt (Nat.lt_succ_self i)), wide_Shl.f_eq hs1 hs y1.1 y1.2 y0.1 y0.2]
    simp only [Option.bind_some]
    rw [Int.toNat_natCast]
    have hlow := shl_low (x := y.getD (i + 1) 0) hP hPR
    have g0 : 0 ≤ y.getD (i + 1) 0 % 2 ^ (64 - s) := Int.emod_nonneg _ (Int.ne_of_gt hR)
    have g1 : y.getD (i + 1) 0 % 2 ^ (64 - s) < 2 ^ (64 - s) := Int.emod_lt_of_pos _ hR
    have g2 : 0 ≤ y.getD i 0 / 2 ^ (64 - s) := Int.ediv_nonneg y0.1 (Int.le_of_lt hR)
    have g3 : y.getD i 0 / 2 ^ (64 - s) < 2 ^ s := Int.ediv_lt_of_lt_mul hR (by rw [hPR]; exact y0.2)
    have v0 : 0 ≤ y.getD (i + 1) 0 * 2 ^ s % 18446744073709551616 + y.getD i 0 / 2 ^ (64 - s) := Int.add_nonneg (Int.emod_nonneg _ (by decide)) g2
    have v1 : y.getD (i + 1) 0 * 2 ^ s % 18446744073709551616 + y.getD i 0 / 2 ^ (64 - s) < 18446744073709551616 := by
      rw [hlow, ← hPR]
      have h3 : 2 ^ s * (y.getD (i + 1) 0 % 2 ^ (64 - s) + 1) ≤ 2 ^ s * 2 ^ (64 - s) := Int.mul_le_mul_of_nonneg_left g1 (Int.le_of_lt hP)
      rw [Int.mul_add, Int.mul_one] at h3
      exact Int.lt_of_lt_of_le (Int.add_lt_add_left g3 _) h3
    refine ih k _ i d1 d2 d3 (by rw [List.length_set]; exact hl) (hw.set _ v0 v1) (by rw [take_set_self]; exact take_less ht) ?_
    rw [drop_set_self c6, drop_getD c7, nv_cons, nv_cons, hv]
    have h2 := shl_word (x := y.getD (i + 1) 0) hP hPR
    clear ew ea er er2 hlow g0 g1 g2 g3 v0 v1 y0 y1 ht hv ih
    generalize y.getD (i + 1) 0 * 2 ^ s % 18446744073709551616 = v at *
    generalize y.getD (i + 1) 0 / 2 ^ (64 - s) = u at *
    generalize y.getD i 0 / 2 ^ (64 - s) = t at *
    generalize y.getD (i + 1) 0 = w at *
    generalize nv (y.drop (i + 1 + 1)) = z at *
    generalize (2 : Int) ^ s = P at *
    grind
end Go.Proofs.YtoannkopciehcaaDoor.PA

namespace Go.Proofs.YtoannkopciehcaaDoor.PA
open Go Go.RowKit Go.Proofs.YtoannkopciehcaaDoorW.PrintWords Go.Proofs.YtoannkopciehcaaDoorW.PrintLast Go.Proofs.YtoannkopciehcaaDoorW.PrintMore
set_option linter.unusedVariables false
set_option linter.unusedSimpArgs false
theorem le_t {a b : Int} (h : a ≤ b) : (a ≤ b) = True := eq_true h
theorem le_f {a b : Int} (h : b < a) : (a ≤ b) = False := eq_false (by omega)
theorem lt_t {a b : Int} (h : a < b) : (a < b) = True := eq_true h
theorem lt_f {a b : Int} (h : b ≤ a) : (a < b) = False := eq_false (by omega)
theorem rdn (xs : List Int) (n : Nat) : rd xs (n : Int) = xs.getD n 0 := rfl
theorem w64x {x : Int} {n : Nat} (h : x = (n : Int)) (hn : n ≤ 9223372036854775807) : wrap64 x = (n : Int) := by rw [h, w64_of (by omega) (by omega)]
theorem w64_s (n : Nat) (h : n < 9223372036854775807) : wrap64 ((n : Int) + 1) = ((n + 1 : Nat) : Int) := by rw [w64_of (by omega) (by omega)]; omega
theorem pow_split' {s : Nat} (h : s ≤ 64) : (2 : Int) ^ (64 - s) * 2 ^ s = 18446744073709551616 := by rw [Int.mul_comm, pow_split h]
theorem wide_Shl.f_eq0 {hi lo : Int} {s : Nat} (hs : s ≤ 63) (h0 : 0 ≤ hi) (h1 : hi < 18446744073709551616) (l0 : 0 ≤ lo) (l1 : lo < 18446744073709551616) :
    wide_Shl.f hi lo (s : Int) = some (hi * 2 ^ s % 18446744073709551616 + lo / 2 ^ (64 - s), lo * 2 ^ s % 18446744073709551616) := by
  have e1 : mn (mx (s : Int) 0) 128 = (s : Int) := by
    unfold mn mx
    rw [if_neg (by omega), if_neg (by omega)]
  have hP := two_pow_pos s
  have hR := two_pow_pos (64 - s)
  have hPR := pow_split (s := s) (by omega)
  have ew : wrap64 (64 - (s : Int)) = ((64 - s : Nat) : Int) := by rw [w64_of (by omega) (by omega)]; omega
  rw [wide_Shl.f, wide_within.f, e1]
  simp only [Option.bind_some]
  rw [ew]
  simp (disch := with_reducible omega) only [↓reduceIte, le_t, le_f, lt_t, lt_f, ge_iff_le, gt_iff_lt]
  have m1 : min s 64 = s := Nat.min_eq_left (by omega)
  have m2 : min (64 - s) 64 = 64 - s := Nat.min_eq_left (by omega)
  rw [shl_eq, shl_eq, shr_eq, Int.toNat_natCast, Int.toNat_natCast, m1, m2]
  have hx : hi * 2 ^ s % 18446744073709551616 % 2 ^ s = 0 := by rw [shl_low hP hPR, Int.mul_emod_right]
  have hy : lo / 2 ^ (64 - s) < 2 ^ s := Int.ediv_lt_of_lt_mul hR (by rw [hPR]; exact l1)
  have hle : (2 : Int) ^ s ≤ 2 ^ 63 := pow_mono hs
  have hy0 : 0 ≤ lo / 2 ^ (64 - s) := Int.ediv_nonneg l0 (Int.le_of_lt hR)
  rw [or_join s (Int.emod_nonneg _ (by decide)) (Int.emod_lt_of_pos _ (by decide)) hx hy0 hy (Int.lt_trans (Int.lt_of_lt_of_le hy hle) (by decide))]
theorem wide_Shr.f_eq {hi lo : Int} {s : Nat} (hs : s ≤ 63) (h0 : 0 ≤ hi) (h1 : hi < 18446744073709551616) (l0 : 0 ≤ lo) (l1 : lo < 18446744073709551616) :
    wide_Shr.f hi lo (s : Int) = some (hi / 2 ^ s, hi * 2 ^ (64 - s) % 18446744073709551616 + lo / 2 ^ s, decide (lo * 2 ^ (64 - s) % 18446744073709551616 ≠ 0)) := by
  have e1 : mn (mx (s : Int) 0) 128 = (s : Int) := by
    unfold mn mx
    rw [if_neg (by omega), if_neg (by omega)]
  have hP := two_pow_pos s
  have hR := two_pow_pos (64 - s)
  have hPR := pow_split' (s := s) (by omega)
  have ew : wrap64 (64 - (s : Int)) = ((64 - s : Nat) : Int) := by rw [w64_of (by omega) (by omega)]; omega
  rw [wide_Shr.f, wide_within.f, e1]
  simp only [Option.bind_some]
  rw [ew]
  simp (disch := with_reducible omega) only [↓reduceIte, le_t, le_f, lt_t, lt_f, ge_iff_le, gt_iff_lt]
  have m1 : min s 64 = s := Nat.min_eq_left (by omega)
  have m2 : min (64 - s) 64 = 64 - s := Nat.min_eq_left (by omega)
  rw [shl_eq, shl_eq, shr_eq, shr_eq, Int.toNat_natCast, Int.toNat_natCast, m1, m2]
  have hx : hi * 2 ^ (64 - s) % 18446744073709551616 % 2 ^ (64 - s) = 0 := by rw [shl_low hR hPR, Int.mul_emod_right]
  have hy : lo / 2 ^ s < 2 ^ (64 - s) := Int.ediv_lt_of_lt_mul hP (by rw [hPR]; exact l1)
  have hy0 : 0 ≤ lo / 2 ^ s := Int.ediv_nonneg l0 (Int.le_of_lt hP)
  have hle : lo / 2 ^ s ≤ lo := Int.ediv_le_self _ l0
  rw [or_join' (64 - s) (Int.emod_nonneg _ (by decide)) (Int.emod_lt_of_pos _ (by decide)) hx hy0 hy (by omega)]
  rw [Int.add_comm]
  congr 3
  rw [Bool.eq_iff_iff]; simp
theorem quot_shl.l0_eq (x : List Int) (hx : Ws x) (s m : Nat) (hs : s ≤ 63) (hm : m ≤ 35184372088832) (hxm : x.length ≤ m) (hfit : nv x * 2 ^ s < 2 ^ (64 * m)) : ∀ (d k : Nat) (out : List Int) (c : Int) (i : Nat), d = x.length - i → d < k → i ≤ x.length → out.length = m → Ws out → 0 ≤ c → c < 2 ^ s → (∀ j, i ≤ j → out.getD j 0 = 0) → nv out + c * 2 ^ (64 * i) = nv (x.take i) * 2 ^ s →
    quot_shl.l0 k x (s : Int) (m : Int) out c x (x.length : Int) (i : Int) = some (wn m (nv x * 2 ^ s)) := by
  have hP := two_pow_pos s
  have hR := two_pow_pos (64 - s)
  have hPR := pow_split (s := s) (by omega)
  have hle : (2 : Int) ^ s ≤ 2 ^ 63 := pow_mono hs
  have h63 : (2 : Int) ^ 63 = 9223372036854775808 := by decide
  intro d
  induction d with
  | zero =>
    intro k out c i hd hk hi hl hw hc0 hc hz hv
    obtain ⟨k, rfl⟩ : ∃ j, k = j + 1 := ⟨k - 1, by omega⟩
    obtain rfl : i = x.length := by omega
    rw [List.take_length] at hv
    unfold quot_shl.l0
    rw [if_neg (by omega)]
    by_cases hxm' : x.length < m
    · rw [if_pos (by omega), if_pos (by omega), if_pos (by omega), Int.toNat_natCast]
      have e : nv (out.set x.length c) = nv x * 2 ^ s := by
        rw [nv_set (by omega), hz _ (Nat.le_refl _), ← hv]; grind
      rw [← e, ← eq_wn (hw.set _ hc0 (by omega)) (by rw [List.length_set]; exact hl)]
    · rw [if_neg (by omega)]
      obtain rfl : x.length = m := by omega
      have n0 := nv_nonneg hw
      have c0 : c = 0 := by
        apply Classical.byContradiction
        intro hne
        have h1 : 1 * 2 ^ (64 * x.length) ≤ c * 2 ^ (64 * x.length) := Int.mul_le_mul_of_nonneg_right (by omega) (Int.le_of_lt (two_pow_pos _))
        omega
      rw [c0, Int.zero_mul, Int.add_zero] at hv
      rw [← hv, ← eq_wn hw hl]
  | succ d ih =>
    intro k out c i hd hk hi hl hw hc0 hc hz hv
    obtain ⟨k, rfl⟩ : ∃ j, k = j + 1 := ⟨k - 1, by omega⟩
    have ho := hx.getD i
    have hy : x.getD i 0 / 2 ^ (64 - s) < 2 ^ s := Int.ediv_lt_of_lt_mul hR (by rw [hPR]; exact ho.2)
    have hy0 : 0 ≤ x.getD i 0 / 2 ^ (64 - s) := Int.ediv_nonneg ho.1 (Int.le_of_lt hR)
    have hlow := shl_low (x := x.getD i 0) hP hPR
    have hm1 := Int.emod_nonneg (x.getD i 0 * 2 ^ s) (show (18446744073709551616 : Int) ≠ 0 by decide)
    have hm2 := Int.emod_lt_of_pos (x.getD i 0 * 2 ^ s) (show (0 : Int) < 18446744073709551616 by decide)
    have g0 : 0 ≤ x.getD i 0 % 2 ^ (64 - s) := Int.emod_nonneg _ (Int.ne_of_gt hR)
    have g1 : x.getD i 0 % 2 ^ (64 - s) < 2 ^ (64 - s) := Int.emod_lt_of_pos _ hR
    have hsum : x.getD i 0 * 2 ^ s % 18446744073709551616 + c < 18446744073709551616 := by
      rw [hlow, ← hPR]
      have h3 : 2 ^ s * (x.getD i 0 % 2 ^ (64 - s) + 1) ≤ 2 ^ s * 2 ^ (64 - s) := Int.mul_le_mul_of_nonneg_left g1 (Int.le_of_lt hP)
      rw [Int.mul_add, Int.mul_one] at h3
      omega
    unfold quot_shl.l0
    rw [if_pos (by omega), if_pos (by omega), if_pos (by omega), rdn, wide_Shl.f_eq0 hs (by omega) (by omega) ho.1 ho.2]
    simp only [Option.bind_some]
    rw [if_pos (by omega), w64_s i (by omega), Int.toNat_natCast, or_join s hm1 hm2 (by rw [hlow, Int.mul_emod_right]) hc0 hc (by omega), Int.zero_mul, Int.zero_emod, Int.zero_add]
    refine ih k _ _ (i + 1) (by omega) (by omega) (by omega) (by rw [List.length_set]; exact hl) (hw.set _ (by omega) hsum) hy0 hy (fun j hj => by rw [set_getD_ne (by omega)]; exact hz j (by omega)) ?_
    rw [nv_set (by omega), hz i (Nat.le_refl _), nv_take_succ (by omega), show 64 * (i + 1) = 64 * i + 64 from by omega, Int.pow_add]
    have h2 := shl_word (x := x.getD i 0) hP hPR
    have e64 : (2 : Int) ^ 64 = 18446744073709551616 := by decide
    rw [e64]
    clear hlow hm1 hm2 g0 g1 hsum hy hy0 hz hw hx ih hfit
    generalize x.getD i 0 * 2 ^ s % 18446744073709551616 = v at *
    generalize x.getD i 0 / 2 ^ (64 - s) = u at *
    generalize x.getD i 0 = w at *
    generalize (2 : Int) ^ (64 * i) = p at *
    generalize (2 : Int) ^ s = P at *
    grind
theorem quot_shl.f_eq (x : List Int) (hx : Ws x) (s m : Nat) (hs : s ≤ 63) (hm : m ≤ 35184372088832) (hxm : x.length ≤ m) (hfit : nv x * 2 ^ s < 2 ^ (64 * m)) (k : Nat) (hk : x.length < k) :
    quot_shl.f k x (s : Int) (m : Int) = some (wn m (nv x * 2 ^ s)) := by
  rw [quot_shl.f, if_pos (by omega), Int.toNat_natCast, if_pos hm]
  exact quot_shl.l0_eq x hx s m hs hm hxm hfit x.length k _ 0 0 (by omega) hk (by omega) (by simp) (Ws.zeros _) (by decide) (two_pow_pos s) (fun j _ => by rw [List.getD_eq_getElem?_getD, List.getElem?_replicate]; split <;> rfl) (by rw [nv_zeros]; simp [nv])
end Go.Proofs.YtoannkopciehcaaDoor.PA

namespace Go.Proofs.YtoannkopciehcaaDoor.PA
open Go Go.RowKit Go.Proofs.YtoannkopciehcaaDoorW.PrintWords Go.Proofs.YtoannkopciehcaaDoorW.PrintLast Go.Proofs.YtoannkopciehcaaDoorW.PrintMore
set_option linter.unusedVariables false
set_option linter.unusedSimpArgs false
def pV (d : Nat) : Nat := if d < 4503599627370496 then d else (4503599627370496 + d % 4503599627370496) * 2 ^ (d / 4503599627370496 - 1)
def pU (d : Nat) : Nat := 2 ^ (d / 4503599627370496 - 1)
theorem pV_succ (d : Nat) : pV (d + 1) = pV d + pU d := by
  unfold pV pU
  by_cases h1 : d + 1 < 4503599627370496
  · rw [if_pos h1, if_pos (by omega), Nat.div_eq_of_lt (by omega)]
  · rw [if_neg h1]
    by_cases h2 : d < 4503599627370496
    · obtain rfl : d = 4503599627370496 - 1 := by omega
      rw [if_pos h2]
    · rw [if_neg h2]
      by_cases h3 : d % 4503599627370496 + 1 < 4503599627370496
      · have e1 : (d + 1) % 4503599627370496 = d % 4503599627370496 + 1 := by omega
        have e2 : (d + 1) / 4503599627370496 = d / 4503599627370496 := by omega
        rw [e1, e2, ← Nat.add_assoc, Nat.add_mul _ 1, Nat.one_mul]
      · have e1 : (d + 1) % 4503599627370496 = 0 := by omega
        have e2 : (d + 1) / 4503599627370496 = d / 4503599627370496 + 1 := by omega
        have e3 : d % 4503599627370496 = 4503599627370496 - 1 := by omega
        have e4 : 1 ≤ d / 4503599627370496 := by omega
        obtain ⟨j, hj⟩ : ∃ j, d / 4503599627370496 = j + 1 := ⟨d / 4503599627370496 - 1, by omega⟩
        rw [e1, e2, e3, hj, Nat.add_sub_cancel, Nat.add_sub_cancel, Nat.pow_succ, Nat.add_zero, ← Nat.succ_mul, Nat.mul_comm (2 ^ j) 2, ← Nat.mul_assoc]
theorem pU_pos (d : Nat) : 0 < pU d := Nat.pow_pos (by decide)
theorem pV_lt_succ (d : Nat) : pV d < pV (d + 1) := by have := pU_pos d; rw [pV_succ]; omega
theorem pV_le {a b : Nat} (h : a ≤ b) : pV a ≤ pV b := by
  induction b with
  | zero => obtain rfl : a = 0 := by omega
            exact Nat.le_refl _
  | succ b ih =>
    by_cases h1 : a = b + 1
    · subst h1; exact Nat.le_refl _
    · exact Nat.le_trans (ih (by omega)) (Nat.le_of_lt (pV_lt_succ b))
theorem pV_zero : pV 0 = 0 := rfl
/-- a mantissa and an exponent as a place in the row -/
theorem pV_at {s q : Nat} (hq : q < 9007199254740992) (h : s = 0 ∨ 4503599627370496 ≤ q) : pV (s * 4503599627370496 + q) = q * 2 ^ s ∧ pU (s * 4503599627370496 + q) = 2 ^ s := by
  unfold pV pU
  by_cases h0 : q < 4503599627370496
  · obtain rfl : s = 0 := by omega
    rw [Nat.zero_mul, Nat.zero_add, if_pos h0, Nat.div_eq_of_lt h0]
    simp
  · have e1 : (s * 4503599627370496 + q) / 4503599627370496 = s + 1 := by
      rw [Nat.mul_comm, Nat.mul_add_div (by omega)]
      have : q / 4503599627370496 = 1 := by omega
      omega
    have e2 : (s * 4503599627370496 + q) % 4503599627370496 = q - 4503599627370496 := by
      rw [Nat.mul_comm, Nat.mul_add_mod]
      omega
    have e3 : ¬ s * 4503599627370496 + q < 4503599627370496 := by omega
    rw [if_neg e3, e1, e2, Nat.add_sub_cancel, show 4503599627370496 + (q - 4503599627370496) = q from by omega]
    exact ⟨rfl, rfl⟩
/-- d is the place at or below P / Q -/
structure Rd (P Q d : Nat) : Prop where
  lo : pV d * Q ≤ P
  hi : P < pV (d + 1) * Q
theorem Rd.uniq {P Q d e : Nat} (h : Rd P Q d) (k : Rd P Q e) : d = e := by
  apply Classical.byContradiction
  intro hne
  rcases Nat.lt_or_gt_of_ne hne with hlt | hlt
  · have := Nat.mul_le_mul_right Q (pV_le (show d + 1 ≤ e from hlt))
    have h1 := h.hi; have h2 := k.lo; omega
  · have := Nat.mul_le_mul_right Q (pV_le (show e + 1 ≤ d from hlt))
    have h1 := k.hi; have h2 := h.lo; omega
theorem Rd.le_iff {P Q d : Nat} (h : Rd P Q d) (e : Nat) : pV e * Q ≤ P ↔ e ≤ d := by
  constructor
  · intro h1
    apply Classical.byContradiction
    intro hn
    have := Nat.mul_le_mul_right Q (pV_le (show d + 1 ≤ e by omega))
    have := h.hi; omega
  · intro h1
    exact Nat.le_trans (Nat.mul_le_mul_right Q (pV_le h1)) h.lo
/-- what lies behind the place: 0 nothing, 1 less than half, 2 half, 3 more -/
def tl (P Q : Nat) (more : Bool) (d : Nat) : Nat :=
  if P = pV d * Q then (if more then 1 else 0) else if 2 * P < (2 * pV d + pU d) * Q then 1 else if 2 * P = (2 * pV d + pU d) * Q then (if more then 3 else 2) else 3
def tailOf (r k : Nat) (st : Bool) : Nat := if r = 0 then (if st then 1 else 0) else if 2 * r < 2 ^ k then 1 else if 2 * r = 2 ^ k then (if st then 3 else 2) else 3
/-- the place of m units (and a part of one) by division -/
theorem Rd.of_div {P Q m k s a b : Nat} {more st : Bool} (hQ : 0 < Q) (hk : 1 ≤ k) (hs : s + b = k + a) (h1 : m * 2 ^ a * Q ≤ P * 2 ^ b) (h2 : P * 2 ^ b < (m + 1) * 2 ^ a * Q)
    (hst : st = true ↔ (P * 2 ^ b ≠ m * 2 ^ a * Q ∨ more = true)) (hq : m / 2 ^ k < 9007199254740992) (hsq : s = 0 ∨ 4503599627370496 ≤ m / 2 ^ k) :
    Rd P Q (s * 4503599627370496 + m / 2 ^ k) ∧ tl P Q more (s * 4503599627370496 + m / 2 ^ k) = tailOf (m % 2 ^ k) k st := by
  obtain ⟨eV, eU⟩ := pV_at hq hsq
  have hb : 0 < 2 ^ b := Nat.pow_pos (by decide)
  have ha : 0 < 2 ^ a := Nat.pow_pos (by decide)
  have hm : m = 2 ^ k * (m / 2 ^ k) + m % 2 ^ k := (Nat.div_add_mod m (2 ^ k)).symm
  have hr : m % 2 ^ k < 2 ^ k := Nat.mod_lt _ (Nat.pow_pos (by decide))
  have hU : 0 < 2 ^ a * Q := Nat.mul_pos ha hQ
  have ep : 2 ^ s * 2 ^ b = 2 ^ k * 2 ^ a := by rw [← Nat.pow_add, ← Nat.pow_add, hs]
  have hodd : 2 ∣ 2 ^ k := ⟨2 ^ (k - 1), by rw [Nat.mul_comm, ← Nat.pow_succ]; congr 1; omega⟩
  generalize m / 2 ^ k = q at *
  generalize m % 2 ^ k = r at *
  generalize hU' : 2 ^ a * Q = U at *
  have eA : m * 2 ^ a * Q = m * U := by rw [Nat.mul_assoc, hU']
  have eB : (m + 1) * 2 ^ a * Q = m * U + U := by rw [Nat.mul_assoc, hU', Nat.add_mul, Nat.one_mul]
  rw [eA] at h1 hst
  rw [eB] at h2
  -- boundaries in units
  have bd : ∀ z, z * 2 ^ s * Q * 2 ^ b = z * 2 ^ k * U := by
    intro z
    rw [← hU', Nat.mul_assoc, Nat.mul_comm Q, ← Nat.mul_assoc, Nat.mul_assoc z, ep, ← Nat.mul_assoc, Nat.mul_assoc (z * 2 ^ k)]
  have lo : q * 2 ^ s * Q ≤ P := by
    apply Nat.le_of_mul_le_mul_right _ hb
    rw [bd]
    refine Nat.le_trans (Nat.mul_le_mul_right U ?_) h1
    rw [hm, Nat.mul_comm q]; omega
  have hi : P < (q + 1) * 2 ^ s * Q := by
    apply Nat.lt_of_mul_lt_mul_right (a := 2 ^ b)
    rw [bd]
    refine Nat.lt_of_lt_of_le h2 ?_
    have h3 : (m + 1) * U ≤ (q + 1) * 2 ^ k * U := Nat.mul_le_mul_right U (by rw [hm, Nat.add_mul, Nat.one_mul, Nat.mul_comm q]; omega)
    rw [Nat.add_mul, Nat.one_mul] at h3
    exact h3
  refine ⟨⟨by rw [eV]; exact lo, by rw [pV_succ, eV, eU, ← Nat.succ_mul]; exact hi⟩, ?_⟩
  -- the tail
  have e0 : (P = q * 2 ^ s * Q) ↔ P * 2 ^ b = (m - r) * U := by
    have e1 : (m - r) * U = q * 2 ^ s * Q * 2 ^ b := by rw [bd]; congr 1; rw [Nat.mul_comm]; omega
    rw [e1]
    exact ⟨fun h => by rw [h], fun h => Nat.eq_of_mul_eq_mul_right hb h⟩
  have eh : ∀ z, 2 * z * 2 ^ b = 2 * (z * 2 ^ b) := fun z => Nat.mul_assoc _ _ _
  have ehalf : (2 * (q * 2 ^ s) + 2 ^ s) * Q * 2 ^ b = (2 * (m - r) + 2 ^ k) * U := by
    have e1 : (2 * (q * 2 ^ s) + 2 ^ s) = (2 * q + 1) * 2 ^ s := by rw [Nat.add_mul, Nat.one_mul, Nat.mul_assoc]
    rw [e1, bd, Nat.add_mul (2 * q), Nat.one_mul]
    congr 1
    have : q * 2 ^ k = m - r := by rw [Nat.mul_comm]; omega
    rw [Nat.mul_assoc, this]
  have cmp2 : ∀ (f : Nat → Nat → Prop), True := fun _ => trivial
  have lt_half : (2 * P < (2 * (q * 2 ^ s) + 2 ^ s) * Q) ↔ 2 * (P * 2 ^ b) < (2 * (m - r) + 2 ^ k) * U := by
    rw [← ehalf, ← eh]
    exact ⟨fun h => Nat.mul_lt_mul_of_pos_right h hb, fun h => Nat.lt_of_mul_lt_mul_right h⟩
  have eq_half : (2 * P = (2 * (q * 2 ^ s) + 2 ^ s) * Q) ↔ 2 * (P * 2 ^ b) = (2 * (m - r) + 2 ^ k) * U := by
    rw [← ehalf, ← eh]
    exact ⟨fun h => by rw [h], fun h => Nat.eq_of_mul_eq_mul_right hb h⟩
  obtain ⟨x, hx⟩ : ∃ x, P * 2 ^ b = m * U + x := ⟨P * 2 ^ b - m * U, by omega⟩
  have hxU : x < U := by omega
  have hmr : m * U = (m - r) * U + r * U := by rw [← Nat.add_mul]; congr 1; omega
  obtain ⟨h, hh⟩ := hodd
  have hkU : (2 * (m - r) + 2 ^ k) * U = 2 * ((m - r) * U) + 2 * (h * U) := by rw [hh, Nat.add_mul, Nat.mul_assoc, Nat.mul_assoc]
  rw [hx, hmr] at e0 lt_half eq_half hst
  rw [hkU] at lt_half eq_half
  have hst' : st = true ↔ (x ≠ 0 ∨ more = true) := by
    rw [hst]
    constructor
    · rintro (h1 | h1)
      · exact .inl (by omega)
      · exact .inr h1
    · rintro (h1 | h1)
      · exact .inl (by omega)
      · exact .inr h1
  unfold tl tailOf
  rw [eV, eU]
  by_cases r0 : r = 0
  · subst r0
    rw [if_pos rfl]
    rw [Nat.zero_mul] at e0 lt_half eq_half
    by_cases x0 : x = 0
    · rw [if_pos (e0.2 (by omega))]
      have : st = more := Bool.eq_iff_iff.2 ⟨fun z => (hst'.1 z).resolve_left (fun y => y x0), fun z => hst'.2 (.inr z)⟩
      rw [this]
    · have hs1 : st = true := hst'.2 (.inl x0)
      have hh1 : 1 * U ≤ h * U := Nat.mul_le_mul_right U (by
        have : 0 < 2 ^ k := Nat.pow_pos (by decide)
        omega)
      rw [if_neg (fun z => x0 (by have := e0.1 z; omega)), if_pos (lt_half.2 (by omega)), hs1]
      rfl
  · rw [if_neg r0]
    have hrU : 1 * U ≤ r * U := Nat.mul_le_mul_right U (by omega)
    rw [if_neg (fun z => by have := e0.1 z; omega)]
    by_cases c1 : 2 * r < 2 ^ k
    · have hc : (r + 1) * U ≤ h * U := Nat.mul_le_mul_right U (by omega)
      rw [Nat.add_mul, Nat.one_mul] at hc
      rw [if_pos c1, if_pos (lt_half.2 (by omega))]
    · have hc : h * U ≤ r * U := Nat.mul_le_mul_right U (by omega)
      rw [if_neg c1, if_neg (fun z => by have := lt_half.1 z; omega)]
      by_cases c2 : 2 * r = 2 ^ k
      · have hc2 : h * U = r * U := by congr 1; omega
        rw [if_pos c2]
        by_cases x0 : x = 0
        · rw [if_pos (eq_half.2 (by omega))]
          have : st = more := Bool.eq_iff_iff.2 ⟨fun z => (hst'.1 z).resolve_left (fun y => y x0), fun z => hst'.2 (.inr z)⟩
          rw [this]
        · have hs1 : st = true := hst'.2 (.inl x0)
          rw [if_neg (fun z => by have := eq_half.1 z; omega), hs1]
          rfl
      · have hc2 : (h + 1) * U ≤ r * U := Nat.mul_le_mul_right U (by omega)
        rw [Nat.add_mul, Nat.one_mul] at hc2
        rw [if_neg c2, if_neg (fun z => by have := eq_half.1 z; omega)]
end Go.Proofs.YtoannkopciehcaaDoor.PA

namespace Go.Proofs.YtoannkopciehcaaDoor.PA
open Go Go.RowKit Go.Proofs.YtoannkopciehcaaDoorW.PrintWords Go.Proofs.YtoannkopciehcaaDoorW.PrintLast Go.Proofs.YtoannkopciehcaaDoorW.PrintMore
set_option linter.unusedVariables false
set_option linter.unusedSimpArgs false
/-- every number above 0 is an odd one times a power of two -/
theorem odd_part : ∀ n : Nat, 0 < n → ∃ o z, n = o * 2 ^ z ∧ o % 2 = 1 := by
  intro n
  induction n using Nat.strongRecOn with
  | ind n ih =>
    intro hn
    by_cases h : n % 2 = 1
    · exact ⟨n, 0, by simp, h⟩
    · obtain ⟨o, z, e, ho⟩ := ih (n / 2) (by omega) (by omega)
      exact ⟨o, z + 1, by rw [Nat.pow_succ, ← Nat.mul_assoc, ← e]; omega, ho⟩
theorem and_neg_odd' (n w : Nat) (h : w < 2 ^ n) (ho : w % 2 = 1) : w &&& (2 ^ n - w) = 1 := by
  apply Nat.eq_of_testBit_eq
  intro i
  have hw : w - 1 < 2 ^ n := by omega
  have e : 2 ^ n - w = 2 ^ n - ((w - 1) + 1) := by omega
  have hn : 0 < n := by
    rcases Nat.eq_zero_or_pos n with h0 | h0
    · subst h0; simp at h; omega
    · exact h0
  rw [e, Nat.testBit_and, Nat.testBit_two_pow_sub_succ hw]
  cases i with
  | zero =>
    have h1 : w.testBit 0 = true := by rw [Nat.testBit_zero]; exact decide_eq_true ho
    have h2 : (w - 1).testBit 0 = false := by rw [Nat.testBit_zero]; exact decide_eq_false (by omega)
    rw [h1, h2, decide_eq_true hn]
    rfl
  | succ i =>
    rw [Nat.testBit_succ, Nat.testBit_succ, Nat.testBit_succ, show (w - 1) / 2 = w / 2 from by omega]
    simp
    intro h1 _
    exact h1
theorem and_neg (o z : Nat) (hz : z < 64) (h : o * 2 ^ z < 18446744073709551616) (ho : o % 2 = 1) : (o * 2 ^ z) &&& (18446744073709551616 - o * 2 ^ z) = 2 ^ z := by
  have e64 : (18446744073709551616 : Nat) = 2 ^ (64 - z) * 2 ^ z := by rw [← Nat.pow_add, show 64 - z + z = 64 from by omega]
  have hp : 0 < 2 ^ z := Nat.pow_pos (by decide)
  have hlt : o < 2 ^ (64 - z) := by
    rw [e64] at h
    exact Nat.lt_of_mul_lt_mul_right h
  rw [e64, ← Nat.sub_mul, ← Nat.shiftLeft_eq, ← Nat.shiftLeft_eq, ← Nat.shiftLeft_and_distrib, and_neg_odd' _ _ hlt ho, Nat.shiftLeft_eq, Nat.one_mul]
theorem bitsN_pow (z : Nat) : bitsN (((2 ^ z : Nat) : Nat) : Int) = z + 1 := by
  have h1 : ((2 ^ z : Nat) : Int) = 2 ^ z := by rw [p2cast]
  refine (bitsN_iff (by rw [h1]; exact two_pow_pos z) z).2 ⟨by rw [h1]; exact Int.le_refl _, ?_⟩
  rw [h1, Int.pow_succ]
  have := two_pow_pos z
  omega
theorem wide_Zeros.f_eq {o z : Nat} (h : o * 2 ^ z < 18446744073709551616) (ho : o % 2 = 1) (k : Nat) (hk : 7 ≤ k) : wide_Zeros.f k ((o * 2 ^ z : Nat) : Int) = some (z : Int) := by
  have hp : 0 < 2 ^ z := Nat.pow_pos (by decide)
  have hw0 : 0 < o * 2 ^ z := Nat.mul_pos (by omega) hp
  have hz : z < 64 := by
    apply Classical.byContradiction
    intro hn
    have h1 : 2 ^ 64 ≤ 2 ^ z := Nat.pow_le_pow_right (by decide) (by omega)
    have h2 : 1 * 2 ^ z ≤ o * 2 ^ z := Nat.mul_le_mul_right _ (by omega)
    rw [show (2 : Nat) ^ 64 = 18446744073709551616 from by decide] at h1
    omega
  have ea := and_neg o z hz h ho
  generalize hx : o * 2 ^ z = x at *
  have en : IntKind.u64.wrap (-(x : Int)) = ((18446744073709551616 - x : Nat) : Int) := by rw [u64w]; omega
  rw [wide_Zeros.f, if_neg (by omega), en]
  have e1 := u64_and_nat x (18446744073709551616 - x) h (by omega)
  rw [ea] at e1
  have hz2 : ((2 ^ z : Nat) : Int) < 18446744073709551616 := by
    have h1 : 2 ^ z < 2 ^ 64 := Nat.pow_lt_pow_right (by decide) hz
    rw [show (2 : Nat) ^ 64 = 18446744073709551616 from by decide] at h1
    omega
  rw [e1, wide_Len.f_eq (Int.natCast_nonneg _) hz2 k hk, bitsN_pow]
  rw [Option.bind_some]
  congr 1
  rw [w64_of (by omega) (by omega)]
  omega
def sgn (neg : Bool) : Int := if neg then 9223372036854775808 else 0
theorem or_sgn (neg : Bool) {x : Int} (h0 : 0 ≤ x) (h1 : x < 9223372036854775808) : Go.bits .or .u64 (sgn neg) x = sgn neg + x := by
  cases neg
  · exact or_join 63 (by decide) (by decide) (by decide) h0 (by rw [show (2 : Int) ^ 63 = 9223372036854775808 from by decide]; exact h1) (by omega)
  · exact or_join 63 (by decide) (by decide) (by decide) h0 (by rw [show (2 : Int) ^ 63 = 9223372036854775808 from by decide]; exact h1) (by omega)
/-- the bits of o * 2^z -/
theorem bitsN_mul_pow {o : Nat} (ho : 0 < o) (z : Nat) : bitsN ((o * 2 ^ z : Nat) : Int) = bitsN (o : Int) + z := by
  have hb := bitsN_pos (x := (o : Int)) (by omega)
  obtain ⟨n, hn⟩ : ∃ n : Nat, bitsN (o : Int) = n + 1 := ⟨(bitsN (o : Int) - 1).toNat, by omega⟩
  have h1 := (bitsN_iff (by omega) n).1 hn
  have e : ((o * 2 ^ z : Nat) : Int) = (o : Int) * 2 ^ z := by rw [Int.natCast_mul, p2cast]
  have hp := two_pow_pos z
  have := (bitsN_iff (x := ((o * 2 ^ z : Nat) : Int)) (by rw [e]; exact Int.mul_pos (by omega) hp) (n + z)).2 ⟨by rw [e, Int.pow_add]; exact Int.mul_le_mul_of_nonneg_right h1.1 (by omega), by
    rw [e, show n + z + 1 = n + 1 + z from by omega, Int.pow_add]
    exact Int.mul_lt_mul_of_pos_right h1.2 hp⟩
  rw [this, hn]
  omega
theorem shr_nat (o z : Nat) (hz : z < 64) : shr .u64 ((o * 2 ^ z : Nat) : Int) (z : Int) = (o : Int) := by
  rw [shr_eq, Int.toNat_natCast, Nat.min_eq_left (by omega), p2cast, ← Int.natCast_ediv, Nat.mul_div_cancel _ (Nat.pow_pos (by decide))]
theorem shl_nat (o z : Nat) (hz : z < 64) (h : o * 2 ^ z < 18446744073709551616) : shl .u64 (o : Int) (z : Int) = ((o * 2 ^ z : Nat) : Int) := by
  rw [shl_eq, Int.toNat_natCast, Nat.min_eq_left (by omega), p2cast, ← Int.natCast_mul, Int.emod_eq_of_lt (Int.natCast_nonneg _) (by omega)]
/-- a mantissa at its place, joined -/
theorem f64_Join.f_eq (neg : Bool) (m s : Nat) (hm : m < 9007199254740992) (hs : s = 0 ∨ 4503599627370496 ≤ m) (hs2 : s ≤ 2045) (k : Nat) (hk : 20 ≤ k) :
    f64_Join.f k neg (m : Int) ((s : Int) - 1074) = some (sgn neg + ((s * 4503599627370496 + m : Nat) : Int), 0) := by
  obtain ⟨k, rfl⟩ : ∃ j, k = j + 3 := ⟨k - 3, by omega⟩
  have e0 : f64_Join.f (k + 3) neg (m : Int) ((s : Int) - 1074) = f64_Join.j0 (k + 3) (m : Int) ((s : Int) - 1074) (sgn neg) := by
    unfold f64_Join.f sgn
    cases neg <;> simp
  rw [e0]
  rw [show k + 3 = (k + 2) + 1 from rfl, f64_Join.j0]
  by_cases h0 : m = 0
  · subst h0
    obtain rfl : s = 0 := by omega
    rw [if_pos (show ((0 : Nat) : Int) = 0 from rfl)]
    simp
  · rw [if_neg (by omega), if_neg (by omega), decide_eq_false (by omega)]
    rw [show k + 2 = (k + 1) + 1 from rfl, f64_Join.j1]
    rw [if_neg (by decide)]
    obtain ⟨o, z, he, ho⟩ := odd_part m (by omega)
    have hz53 : z < 53 := by
      apply Classical.byContradiction
      intro hn
      have h1 : 2 ^ 53 ≤ 2 ^ z := Nat.pow_le_pow_right (by decide) (by omega)
      have h2 : 1 * 2 ^ z ≤ o * 2 ^ z := Nat.mul_le_mul_right _ (by omega)
      rw [show (2 : Nat) ^ 53 = 9007199254740992 from by decide] at h1
      omega
    have hopos : 0 < o := by omega
    have ole : o ≤ m := by rw [he]; exact Nat.le_mul_of_pos_right _ (Nat.pow_pos (by decide))
    have eb := bitsN_mul_pow hopos z
    rw [← he] at eb
    have b1 := bitsN_le_of_lt (x := (m : Int)) (n := 53) (by omega) (by rw [show (2 : Int) ^ 53 = 9007199254740992 from by decide]; omega)
    have b2 := bitsN_pos (x := (o : Int)) (by omega)
    have b3 : s ≠ 0 → bitsN (m : Int) = 53 := by
      intro hs0
      have := (bitsN_iff (x := (m : Int)) (by omega) 52).2 ⟨by rw [show (2 : Int) ^ 52 = 4503599627370496 from by decide]; omega, by rw [show (2 : Int) ^ (52 + 1) = 9007199254740992 from by decide]; omega⟩
      rw [this]; rfl
    have b4 : s = 0 → bitsN (m : Int) = 53 ∨ bitsN (m : Int) ≤ 52 := fun _ => by omega
    have hzf : wide_Zeros.f (k + 1) (m : Int) = some (z : Int) := by
      have := wide_Zeros.f_eq (o := o) (z := z) (by rw [← he]; omega) ho (k + 1) (by omega)
      rwa [← he] at this
    have hshr : shr .u64 (m : Int) (z : Int) = (o : Int) := by
      have := shr_nat o z (by omega)
      rwa [← he] at this
    rw [hzf, Option.bind_some, if_pos (by omega), hshr, wide_Len.f_eq (by omega) (by omega) (k + 1) (by omega), Option.bind_some]
    have ebo : bitsN (o : Int) = bitsN (m : Int) - z := by omega
    rw [ebo]
    have w1 : wrap64 ((s : Int) - 1074 + (z : Int)) = (s : Int) - 1074 + z := w64_of (by omega) (by omega)
    have w2 : wrap64 ((s : Int) - 1074 + z + (bitsN (m : Int) - z)) = (s : Int) - 1074 + bitsN (m : Int) := by rw [w64_of (by omega) (by omega)]; omega
    rw [w1, w2, if_neg (by omega), if_neg (by omega), decide_eq_false (by omega)]
    clear w1 w2
    rw [f64_Join.j2]
    rw [if_neg (by decide)]
    have w3 : wrap64 (53 - (bitsN (m : Int) - z)) = 53 - bitsN (m : Int) + z := by rw [w64_of (by omega) (by omega)]; omega
    have w4 : wrap64 ((s : Int) - 1074 + z + 1074) = (s : Int) + z := by rw [w64_of (by omega) (by omega)]; omega
    have e5 : mn (53 - bitsN (m : Int) + z) ((s : Int) + z) = (z : Int) := by
      unfold mn
      clear w3 w4
      by_cases hs0 : s = 0
      · split <;> omega
      · have := b3 hs0
        split <;> omega
    rw [w3, w4, e5]
    clear w3 w4 e5
    have hshl : shl .u64 (o : Int) (z : Int) = (m : Int) := by
      have := shl_nat o z (by omega) (by rw [← he]; omega)
      rwa [← he] at this
    rw [if_pos (by omega), hshl]
    by_cases hh : m < 4503599627370496
    · obtain rfl : s = 0 := by omega
      rw [if_pos (by omega), or_sgn neg (by omega) (by omega)]
      simp
    · rw [if_neg (by omega)]
      have w6 : wrap64 ((s : Int) - 1074 + z - z) = (s : Int) - 1074 := by rw [w64_of (by omega) (by omega)]; omega
      have w7 : wrap64 ((s : Int) - 1074 + 1075) = (s : Int) + 1 := by rw [w64_of (by omega) (by omega)]; omega
      rw [w6, w7]
      clear w6 w7
      rw [u64w_of (x := (s : Int) + 1) (by omega) (by omega), u64w_of (x := ((s : Int) + 1) * 4503599627370496) (by omega) (by omega)]
      rw [and_mask (x := (m : Int)) (by omega) (by omega) 52 (by decide) 4503599627370495 (by decide), show (2 : Int) ^ 52 = 4503599627370496 from by decide, or_sgn neg (by omega) (by omega)]
      have hm2 : (m : Int) % 4503599627370496 = (m : Int) - 4503599627370496 := by omega
      rw [hm2]
      rw [or_join (x := sgn neg + ((s : Int) + 1) * 4503599627370496) 52 (by unfold sgn; split <;> omega) (by unfold sgn; split <;> omega) (by rw [show (2 : Int) ^ 52 = 4503599627370496 from by decide]; unfold sgn; split <;> omega) (by omega) (by rw [show (2 : Int) ^ 52 = 4503599627370496 from by decide]; omega) (by omega)]
      congr 2
      omega
end Go.Proofs.YtoannkopciehcaaDoor.PA

namespace Go.Proofs.YtoannkopciehcaaDoor.PA
open Go Go.RowKit Go.Proofs.YtoannkopciehcaaDoorW.PrintWords Go.Proofs.YtoannkopciehcaaDoorW.PrintLast Go.Proofs.YtoannkopciehcaaDoorW.PrintMore
set_option linter.unusedVariables false
set_option linter.unusedSimpArgs false
/-- does the mode go on to the next place? -/
def upB (mode : Int) (neg odd : Bool) (t : Nat) : Bool :=
  if mode = 0 then (t == 3 || (t == 2 && odd)) else if mode = 1 then false else if mode = 2 then t != 0 else if mode = 3 then (!neg && t != 0) else (neg && t != 0)
/-- does a number beyond the greatest stay there? -/
def staysB (mode : Int) (neg : Bool) : Bool := if mode = 1 then true else if mode = 3 then neg else if mode = 4 then !neg else false
/-- the pattern at a place, or what is told beyond the greatest -/
def outP (mode : Int) (neg : Bool) (d : Nat) : Int × Int :=
  if 9218868437227405311 < d then (if staysB mode neg then (sgn neg + 9218868437227405311, 0) else (0, 70)) else (sgn neg + (d : Int), 0)
def RS (mode : Int) (neg : Bool) (d t : Nat) : Int × Int := outP mode neg (if upB mode neg (d % 2 == 1) t then d + 1 else d)
/-- the place and the tail of m * 2^e (and a little more) -/
def flo (m : Nat) (e : Int) (st : Bool) : Nat × Nat :=
  if m = 0 then (0, if st then 1 else 0)
  else
    if 1 ≤ ((e + 1074 + bitsN (m : Int) - 53).toNat : Int) - (e + 1074) then
      ((e + 1074 + bitsN (m : Int) - 53).toNat * 4503599627370496 + m / 2 ^ (((e + 1074 + bitsN (m : Int) - 53).toNat : Int) - (e + 1074)).toNat,
        tailOf (m % 2 ^ (((e + 1074 + bitsN (m : Int) - 53).toNat : Int) - (e + 1074)).toNat) (((e + 1074 + bitsN (m : Int) - 53).toNat : Int) - (e + 1074)).toNat st)
    else ((e + 1074 + bitsN (m : Int) - 53).toNat * 4503599627370496 + m * 2 ^ (e + 1074 - ((e + 1074 + bitsN (m : Int) - 53).toNat : Int)).toNat, if st then 1 else 0)
theorem bits_bounds {m : Nat} (h : 0 < m) : ∃ L : Nat, bitsN (m : Int) = L + 1 ∧ 2 ^ L ≤ m ∧ m < 2 ^ (L + 1) := by
  have hb := bitsN_pos (x := (m : Int)) (by omega)
  obtain ⟨L, hL⟩ : ∃ n : Nat, bitsN (m : Int) = n + 1 := ⟨(bitsN (m : Int) - 1).toNat, by omega⟩
  have h1 := (bitsN_iff (by omega) L).1 hL
  rw [p2cast, p2cast] at h1
  exact ⟨L, hL, Int.ofNat_le.1 h1.1, Int.ofNat_lt.1 h1.2⟩
/-- the quotient fits its place -/
theorem flo_q {m L s j : Nat} (h1 : 2 ^ L ≤ m) (h2 : m < 2 ^ (L + 1)) (hj : L + 1 ≤ 53 + j) (hs : s = 0 ∨ L + 1 = 53 + j) : m / 2 ^ j < 9007199254740992 ∧ (s = 0 ∨ 4503599627370496 ≤ m / 2 ^ j) := by
  have hp : 0 < 2 ^ j := Nat.pow_pos (by decide)
  constructor
  · rw [Nat.div_lt_iff_lt_mul hp, show (9007199254740992 : Nat) = 2 ^ 53 from by decide, ← Nat.pow_add]
    exact Nat.lt_of_lt_of_le h2 (Nat.pow_le_pow_right (by decide) hj)
  · rcases hs with h | h
    · exact .inl h
    · refine .inr ?_
      rw [Nat.le_div_iff_mul_le hp, show (4503599627370496 : Nat) = 2 ^ 52 from by decide, ← Nat.pow_add, show 52 + j = L from by omega]
      exact h1
theorem flo_p {m L s j : Nat} (h1 : 2 ^ L ≤ m) (h2 : m < 2 ^ (L + 1)) (hj : L + 1 + j ≤ 53) (hs : s = 0 ∨ L + 1 + j = 53) : m * 2 ^ j < 9007199254740992 ∧ (s = 0 ∨ 4503599627370496 ≤ m * 2 ^ j) := by
  have hp : 0 < 2 ^ j := Nat.pow_pos (by decide)
  constructor
  · have h3 : m * 2 ^ j < 2 ^ (L + 1) * 2 ^ j := Nat.mul_lt_mul_of_pos_right h2 hp
    rw [← Nat.pow_add] at h3
    rw [show (9007199254740992 : Nat) = 2 ^ 53 from by decide]
    exact Nat.lt_of_lt_of_le h3 (Nat.pow_le_pow_right (by decide) hj)
  · rcases hs with h | h
    · exact .inl h
    · refine .inr ?_
      have h3 : 2 ^ L * 2 ^ j ≤ m * 2 ^ j := Nat.mul_le_mul_right _ h1
      rw [← Nat.pow_add] at h3
      rw [show (4503599627370496 : Nat) = 2 ^ 52 from by decide, show 52 = L + j from by omega]
      exact h3
theorem near_way.f_eq (mode : Int) (neg odd : Bool) (t : Nat) : near_way.f mode neg odd (t : Int) = some (upB mode neg odd t) := by
  have b3 : ((t : Int) = 3) ↔ t = 3 := by omega
  have b2 : ((t : Int) = 2) ↔ t = 2 := by omega
  have b0 : ((t : Int) = 0) ↔ t = 0 := by omega
  unfold near_way.f upB near_wayC1.f near_wayC2.f near_wayC3.f near_wayC4.f near_wayC5.f
  by_cases c0 : mode = 0
  · rw [if_pos c0, if_pos c0]
    by_cases c3 : t = 3
    · rw [if_pos (b3.2 c3), Option.bind_some]; simp [c3]
    · rw [if_neg (fun h => c3 (b3.1 h))]
      by_cases c2 : t = 2
      · rw [if_pos (b2.2 c2), Option.bind_some]; simp [c2]
      · rw [if_neg (fun h => c2 (b2.1 h)), Option.bind_some]; simp [c3, c2]
  · rw [if_neg c0, if_neg c0]
    by_cases c1 : mode = 1
    · rw [if_pos c1, if_pos c1]; rfl
    · rw [if_neg c1, if_neg c1]
      have hne : ((t : Int) != 0) = (t != 0) := by rw [Bool.eq_iff_iff]; simp
      by_cases c2 : mode = 2
      · rw [if_pos c2, if_pos c2, Option.bind_some, hne]
      · rw [if_neg c2, if_neg c2]
        by_cases c3 : mode = 3
        · rw [if_pos c3, if_pos c3]; cases neg <;> simp [hne]
        · rw [if_neg c3, if_neg c3]; cases neg <;> simp [hne]
theorem near_stays.f_eq {mode : Int} (h0 : 0 ≤ mode) (h4 : mode ≤ 4) (neg : Bool) : near_stays.f mode (if neg then 1 else 0) = some (staysB mode neg) := by
  have : mode = 0 ∨ mode = 1 ∨ mode = 2 ∨ mode = 3 ∨ mode = 4 := by omega
  rcases this with h | h | h | h | h <;> subst h <;> cases neg <;> rfl
/-- the last part: the pattern at the place -/
theorem near_finish.j7_eq (neg : Bool) (mode : Int) (h0 : 0 ≤ mode) (h4 : mode ≤ 4) (m s : Nat) (hm : m < 9007199254740992) (hs : s = 0 ∨ 4503599627370496 ≤ m) (hsb : s ≤ 4398046511104) (k : Nat) (hk : 20 ≤ k) :
    near_finish.j7 (k + 1) neg (m : Int) mode (sgn neg) (if neg then 1 else 0) ((s : Int) - 1074) = some (outP mode neg (s * 4503599627370496 + m)) := by
  rw [near_finish.j7]
  unfold outP
  by_cases hbig : 971 < (s : Int) - 1074
  · have hb : 9218868437227405311 < s * 4503599627370496 + m := by omega
    rw [if_pos hbig, near_stays.f_eq h0 h4 neg, Option.bind_some, if_pos hb]
    cases hst : staysB mode neg
    · rw [if_neg (by decide), if_neg (by decide)]
    · rw [if_pos rfl, if_pos rfl, or_sgn neg (by decide) (by decide)]
  · rw [if_neg hbig, f64_Join.f_eq neg m s hm hs (by omega) k hk, Option.bind_some, if_neg (by omega)]
theorem near_finish.j6_eq (neg : Bool) (mode : Int) (h0 : 0 ≤ mode) (h4 : mode ≤ 4) (m s : Nat) (hm : m ≤ 9007199254740992) (hs : s = 0 ∨ 4503599627370496 ≤ m) (hsb : s ≤ 4398046511103) (k : Nat) (hk : 20 ≤ k) :
    near_finish.j6 (k + 2) neg (m : Int) mode (sgn neg) (if neg then 1 else 0) ((s : Int) - 1074) = some (outP mode neg (s * 4503599627370496 + m)) := by
  rw [near_finish.j6]
  by_cases he : m = 9007199254740992
  · have w1 : wrap64 ((s : Int) - 1074 + 1) = ((s + 1 : Nat) : Int) - 1074 := by rw [w64_of (by omega) (by omega)]; omega
    have r := near_finish.j7_eq neg mode h0 h4 4503599627370496 (s + 1) (by omega) (.inr (Nat.le_refl _)) (by omega) k hk
    rw [if_pos (by omega), w1]
    rw [show (s + 1) * 4503599627370496 + 4503599627370496 = s * 4503599627370496 + m from by omega] at r
    exact r
  · rw [if_neg (by omega)]
    exact near_finish.j7_eq neg mode h0 h4 m s (by omega) hs (by omega) k hk
theorem near_finish.j5_eq (neg : Bool) (mode : Int) (h0 : 0 ≤ mode) (h4 : mode ≤ 4) (m s t : Nat) (hm : m < 9007199254740992) (hs : s = 0 ∨ 4503599627370496 ≤ m) (hsb : s ≤ 4398046511103) (k : Nat) (hk : 20 ≤ k) :
    near_finish.j5 (k + 3) neg (m : Int) mode (sgn neg) (if neg then 1 else 0) ((s : Int) - 1074) (t : Int) = some (RS mode neg (s * 4503599627370496 + m) t) := by
  rw [near_finish.j5]
  have eo : ((Go.bits .and .u64 (m : Int) 1) == 1) = ((s * 4503599627370496 + m) % 2 == 1) := by
    rw [show Go.bits .and .u64 (m : Int) 1 = (m : Int) % 2 from and_mask (by omega) (by omega) 1 (by omega) _ rfl, Bool.eq_iff_iff, beq_iff_eq, beq_iff_eq]
    omega
  rw [near_way.f_eq, Option.bind_some, eo]
  unfold RS
  by_cases hu : upB mode neg ((s * 4503599627370496 + m) % 2 == 1) t = true
  · rw [if_pos hu, if_pos hu, u64w_of (by omega) (by omega)]
    have r := near_finish.j6_eq neg mode h0 h4 (m + 1) s (by omega) (by omega) hsb k hk
    have e : s * 4503599627370496 + (m + 1) = s * 4503599627370496 + m + 1 := by omega
    have ec : ((m + 1 : Nat) : Int) = (m : Int) + 1 := by omega
    rw [e, ec] at r
    exact r
  · rw [if_neg hu, if_neg hu]
    exact near_finish.j6_eq neg mode h0 h4 m s (by omega) hs hsb k hk
/-- the tail, and a little more -/
def bump (t : Nat) (st : Bool) : Nat := if st then (if t = 0 then 1 else if t = 2 then 3 else t) else t
theorem near_finish.j3_eq (neg : Bool) (mode : Int) (h0 : 0 ≤ mode) (h4 : mode ≤ 4) (m s t : Nat) (st : Bool) (hm : m < 9007199254740992) (hs : s = 0 ∨ 4503599627370496 ≤ m) (hsb : s ≤ 4398046511103) (ht : t ≤ 3) (k : Nat) (hk : 20 ≤ k) :
    near_finish.j3 (k + 5) neg (m : Int) st mode (sgn neg) (if neg then 1 else 0) ((s : Int) - 1074) (t : Int) = some (RS mode neg (s * 4503599627370496 + m) (bump t st)) := by
  have a4 : ∀ b : Bool, near_finish.j4 (k + 4) neg (m : Int) mode (sgn neg) (if neg then 1 else 0) ((s : Int) - 1074) (t : Int) b = some (RS mode neg (s * 4503599627370496 + m) (if b then t + 1 else t)) := by
    intro b
    rw [near_finish.j4]
    cases b
    · rw [if_neg (by decide)]
      exact near_finish.j5_eq neg mode h0 h4 m s t hm hs hsb k hk
    · have w1 : wrap64 ((t : Int) + 1) = ((t + 1 : Nat) : Int) := by rw [w64_of (by omega) (by omega)]; omega
      rw [if_pos rfl, w1]
      exact near_finish.j5_eq neg mode h0 h4 m s (t + 1) hm hs hsb k hk
  rw [near_finish.j3]
  unfold bump
  cases st
  · rw [if_neg (by decide), a4]; rfl
  · rw [if_pos rfl]
    by_cases t0 : t = 0
    · rw [if_pos (by omega), a4, t0]; rfl
    · rw [if_neg (by omega), a4]
      by_cases t2 : t = 2
      · subst t2; rfl
      · have : ((t : Int) == 2) = false := beq_eq_false_iff_ne.2 (by omega)
        rw [this]
        simp [t0, t2]
theorem bump_tail (r k : Nat) (st : Bool) : bump (tailOf r k false) st = tailOf r k st := by
  unfold bump tailOf
  cases st
  · simp
  · by_cases h0 : r = 0
    · simp [h0]
    · by_cases h1 : 2 * r < 2 ^ k
      · simp [h0, h1]
      · by_cases h2 : 2 * r = 2 ^ k
        · simp [h0, h2]
        · simp [h0, h1, h2]
end Go.Proofs.YtoannkopciehcaaDoor.PA

namespace Go.Proofs.YtoannkopciehcaaDoor.PA
open Go Go.RowKit Go.Proofs.YtoannkopciehcaaDoorW.PrintWords Go.Proofs.YtoannkopciehcaaDoorW.PrintLast Go.Proofs.YtoannkopciehcaaDoorW.PrintMore
set_option linter.unusedVariables false
set_option linter.unusedSimpArgs false
theorem flo_Rd {P Q m : Nat} {e : Int} {more st : Bool} (hQ : 0 < Q) (hm : 0 < m) (h1 : m * 2 ^ (e + 1074).toNat * Q ≤ P * 2 ^ (-(e + 1074)).toNat) (h2 : P * 2 ^ (-(e + 1074)).toNat < (m + 1) * 2 ^ (e + 1074).toNat * Q)
    (hst : st = true ↔ (P * 2 ^ (-(e + 1074)).toNat ≠ m * 2 ^ (e + 1074).toNat * Q ∨ more = true)) (hx : P * 2 ^ (-(e + 1074)).toNat = m * 2 ^ (e + 1074).toNat * Q ∨ 9007199254740992 ≤ m) :
    Rd P Q (flo m e st).1 ∧ tl P Q more (flo m e st).1 = (flo m e st).2 := by
  obtain ⟨L, hL, hb1, hb2⟩ := bits_bounds hm
  unfold flo
  rw [if_neg (by omega), hL]
  generalize hs : (e + 1074 + ((L : Int) + 1) - 53).toNat = s at *
  by_cases hc : 1 ≤ (s : Int) - (e + 1074)
  · obtain ⟨j, hj⟩ : ∃ j : Nat, (s : Int) - (e + 1074) = (j : Int) := ⟨((s : Int) - (e + 1074)).toNat, by omega⟩
    obtain ⟨q1, q2⟩ := flo_q (s := s) (j := j) hb1 hb2 (by omega) (by omega)
    rw [if_pos hc, hj, Int.toNat_natCast]
    exact Rd.of_div hQ (by omega) (by omega) h1 h2 hst q1 q2
  · have hex : P * 2 ^ (-(e + 1074)).toNat = m * 2 ^ (e + 1074).toNat * Q := by
      rcases hx with h | h
      · exact h
      · exfalso
        have h3 : 2 ^ 53 < 2 ^ (L + 1) := Nat.lt_of_le_of_lt h hb2
        have h4 := (Nat.pow_lt_pow_iff_right (a := 2) (by decide)).1 h3
        omega
    have e0 : (-(e + 1074)).toNat = 0 := by omega
    obtain ⟨j, hj⟩ : ∃ j : Nat, e + 1074 - (s : Int) = (j : Int) := ⟨(e + 1074 - (s : Int)).toNat, by omega⟩
    obtain ⟨q1, q2⟩ := flo_p (s := s) (j := j) hb1 hb2 (by omega) (by omega)
    rw [if_neg hc, hj, Int.toNat_natCast]
    obtain ⟨eV, eU⟩ := pV_at q1 q2
    have ep : (e + 1074).toNat = j + s := by omega
    rw [e0, Nat.pow_zero, Nat.mul_one, ep, Nat.pow_add, ← Nat.mul_assoc, ← eV] at hex
    have hst2 : st = more := by
      rw [e0, Nat.pow_zero, Nat.mul_one, ep, Nat.pow_add, ← Nat.mul_assoc, ← eV] at hst
      exact Bool.eq_iff_iff.2 ⟨fun z => (hst.1 z).resolve_left (fun y => y hex), fun z => hst.2 (.inr z)⟩
    refine ⟨⟨Nat.le_of_eq hex.symm, ?_⟩, ?_⟩
    · rw [hex]
      exact Nat.mul_lt_mul_of_pos_right (pV_lt_succ _) hQ
    · show tl P Q more (s * 4503599627370496 + m * 2 ^ j) = if st = true then 1 else 0
      unfold tl
      rw [if_pos hex, hst2]
/-- a whole number times a power of two -/
theorem flo_exact {m : Nat} (hm : 0 < m) (e : Int) (st : Bool) : Rd (m * 2 ^ (e + 1074).toNat) (2 ^ (-(e + 1074)).toNat) (flo m e st).1 ∧ tl (m * 2 ^ (e + 1074).toNat) (2 ^ (-(e + 1074)).toNat) st (flo m e st).1 = (flo m e st).2 := by
  have hb : 0 < 2 ^ (-(e + 1074)).toNat := Nat.pow_pos (by decide)
  have ha : 0 < 2 ^ (e + 1074).toNat := Nat.pow_pos (by decide)
  refine flo_Rd hb hm (Nat.le_refl _) ?_ ?_ (.inl rfl)
  · exact Nat.mul_lt_mul_of_pos_right (Nat.mul_lt_mul_of_pos_right (Nat.lt_succ_self m) ha) hb
  · simp
/-- less than half of the least one -/
theorem Rd_small {P Q : Nat} (h0 : 0 < P) (h : 2 * P < Q) (more : Bool) : Rd P Q 0 ∧ tl P Q more 0 = 1 := by
  have e1 : pV 0 = 0 := rfl
  have e2 : pV (0 + 1) = 1 := rfl
  have e3 : pU 0 = 1 := rfl
  refine ⟨⟨by rw [e1, Nat.zero_mul]; exact Nat.zero_le _, by rw [e2, Nat.one_mul]; omega⟩, ?_⟩
  unfold tl
  rw [e1, e3, Nat.zero_mul, if_neg (by omega), if_pos (by omega)]
/-- the cut-off word, and whether something was lost, tell the same -/
theorem flo_cut {m : Nat} (e : Int) (st : Bool) (z : Nat) (hm : 9007199254740992 ≤ m / 2 ^ z) : flo (m / 2 ^ z) (e + z) (st || decide (m % 2 ^ z ≠ 0)) = flo m e st := by
  have hp : 0 < 2 ^ z := Nat.pow_pos (by decide)
  have hm0 : 0 < m := Nat.lt_of_lt_of_le (by omega) (Nat.div_le_self m (2 ^ z))
  obtain ⟨r1, t1⟩ := flo_exact hm0 e st
  have hb : 0 < 2 ^ (-(e + 1074)).toNat := Nat.pow_pos (by decide)
  have hdm := Nat.div_add_mod m (2 ^ z)
  have hmod := Nat.mod_lt m hp
  have key : ∀ c : Nat, c * 2 ^ (e + z + 1074).toNat * 2 ^ (-(e + 1074)).toNat = c * 2 ^ z * (2 ^ (e + 1074).toNat * 2 ^ (-(e + z + 1074)).toNat) := by
    intro c
    rw [Nat.mul_assoc, Nat.mul_assoc, ← Nat.pow_add, ← Nat.pow_add, ← Nat.pow_add]
    congr 2
    omega
  have hT : 0 < 2 ^ (e + 1074).toNat * 2 ^ (-(e + z + 1074)).toNat := Nat.mul_pos (Nat.pow_pos (by decide)) (Nat.pow_pos (by decide))
  have kP : m * 2 ^ (e + 1074).toNat * 2 ^ (-(e + z + 1074)).toNat = m * (2 ^ (e + 1074).toNat * 2 ^ (-(e + z + 1074)).toNat) := Nat.mul_assoc _ _ _
  obtain ⟨r2, t2⟩ := flo_Rd (P := m * 2 ^ (e + 1074).toNat) (Q := 2 ^ (-(e + 1074)).toNat) (m := m / 2 ^ z) (e := e + z) (more := st) (st := st || decide (m % 2 ^ z ≠ 0)) hb (by omega)
    (by
      rw [key, kP]
      exact Nat.mul_le_mul_right _ (by rw [Nat.mul_comm]; omega))
    (by
      rw [key, kP]
      exact Nat.mul_lt_mul_of_pos_right (by rw [Nat.add_mul, Nat.one_mul, Nat.mul_comm]; omega) hT)
    (by
      rw [key, kP]
      have : (m * (2 ^ (e + 1074).toNat * 2 ^ (-(e + z + 1074)).toNat) ≠ m / 2 ^ z * 2 ^ z * (2 ^ (e + 1074).toNat * 2 ^ (-(e + z + 1074)).toNat)) ↔ m % 2 ^ z ≠ 0 := by
        constructor
        · intro h hz
          apply h
          congr 1
          rw [Nat.mul_comm]; omega
        · intro h hz
          have := Nat.eq_of_mul_eq_mul_right hT hz
          rw [Nat.mul_comm] at this
          omega
      rw [this]
      cases st <;> simp)
    (.inr hm)
  have hd := r2.uniq r1
  rw [hd, t1] at t2
  exact Prod.ext hd t2.symm
end Go.Proofs.YtoannkopciehcaaDoor.PA

namespace Go.Proofs.YtoannkopciehcaaDoor.PA
open Go Go.RowKit Go.Proofs.YtoannkopciehcaaDoorW.PrintWords Go.Proofs.YtoannkopciehcaaDoorW.PrintLast Go.Proofs.YtoannkopciehcaaDoorW.PrintMore
set_option linter.unusedVariables false
set_option linter.unusedSimpArgs false
theorem Rd.scale {P Q d c : Nat} (hc : 0 < c) : Rd (P * c) (Q * c) d ↔ Rd P Q d := by
  constructor
  · rintro ⟨h1, h2⟩
    exact ⟨Nat.le_of_mul_le_mul_right (by rw [Nat.mul_assoc]; exact h1) hc, Nat.lt_of_mul_lt_mul_right (a := c) (by rw [Nat.mul_assoc]; exact h2)⟩
  · rintro ⟨h1, h2⟩
    refine ⟨?_, ?_⟩
    · rw [← Nat.mul_assoc]; exact Nat.mul_le_mul_right c h1
    · rw [← Nat.mul_assoc]; exact Nat.mul_lt_mul_of_pos_right h2 hc
theorem tl_scale {P Q c : Nat} (hc : 0 < c) (more : Bool) (d : Nat) : tl (P * c) (Q * c) more d = tl P Q more d := by
  have e1 : (P * c = pV d * (Q * c)) = (P = pV d * Q) := propext (by
    rw [← Nat.mul_assoc]; exact ⟨fun h => Nat.eq_of_mul_eq_mul_right hc h, fun h => by rw [h]⟩)
  have e2 : (2 * (P * c) < (2 * pV d + pU d) * (Q * c)) = (2 * P < (2 * pV d + pU d) * Q) := propext (by
    rw [← Nat.mul_assoc, ← Nat.mul_assoc]; exact ⟨fun h => Nat.lt_of_mul_lt_mul_right h, fun h => Nat.mul_lt_mul_of_pos_right h hc⟩)
  have e3 : (2 * (P * c) = (2 * pV d + pU d) * (Q * c)) = (2 * P = (2 * pV d + pU d) * Q) := propext (by
    rw [← Nat.mul_assoc, ← Nat.mul_assoc]; exact ⟨fun h => Nat.eq_of_mul_eq_mul_right hc h, fun h => by rw [h]⟩)
  unfold tl
  simp only [e1, e2, e3]
theorem Rd.cross {P Q P' Q' d : Nat} (hQ : 0 < Q) (hQ' : 0 < Q') (e : P * Q' = P' * Q) (h : Rd P Q d) : Rd P' Q' d := by
  have h1 := (Rd.scale (c := Q') hQ').2 h
  rw [e, Nat.mul_comm Q Q'] at h1
  exact (Rd.scale hQ).1 h1
theorem tl_cross {P Q P' Q' : Nat} (hQ : 0 < Q) (hQ' : 0 < Q') (e : P * Q' = P' * Q) (more : Bool) (d : Nat) : tl P Q more d = tl P' Q' more d := by
  rw [← tl_scale hQ', e, Nat.mul_comm Q Q', tl_scale hQ]
theorem le_pV (d : Nat) : d ≤ pV d := by
  induction d with
  | zero => exact Nat.zero_le _
  | succ d ih => have := pV_lt_succ d; omega
theorem Rd.there {P Q : Nat} (hQ : 0 < Q) : ∃ d, Rd P Q d := by
  have key : ∀ n, P < pV n * Q → ∃ d, Rd P Q d := by
    intro n
    induction n with
    | zero => intro h; rw [pV_zero, Nat.zero_mul] at h; omega
    | succ n ih =>
      intro h
      by_cases h1 : P < pV n * Q
      · exact ih h1
      · exact ⟨n, by omega, h⟩
  refine key (P + 1) ?_
  have h1 : (P + 1) * 1 ≤ pV (P + 1) * Q := Nat.mul_le_mul (le_pV _) hQ
  omega
theorem tl_le (P Q : Nat) (more : Bool) (d : Nat) : tl P Q more d ≤ 3 := by
  unfold tl
  split
  · split <;> decide
  · split
    · decide
    · split
      · split <;> decide
      · decide
theorem Rd.mono {P Q P' Q' d d' : Nat} (hQ : 0 < Q) (hQ' : 0 < Q') (h : Rd P Q d) (h' : Rd P' Q' d') (le : P * Q' ≤ P' * Q) : d < d' ∨ (d = d' ∧ tl P Q false d ≤ tl P' Q' false d') := by
  have h1 := (Rd.scale (c := Q') hQ').2 h
  have h2 := (Rd.scale (c := Q) hQ).2 h'
  rw [Nat.mul_comm Q' Q] at h2
  rw [← tl_scale (P := P) hQ', ← tl_scale (P := P') hQ, Nat.mul_comm Q' Q]
  have hD : 0 < Q * Q' := Nat.mul_pos hQ hQ'
  generalize P * Q' = A at *
  generalize P' * Q = B at *
  generalize Q * Q' = D at *
  by_cases hlt : d < d'
  · exact .inl hlt
  · have hd : d ≤ d' := (h2.le_iff d).1 (Nat.le_trans h1.lo le)
    obtain rfl : d = d' := by omega
    refine .inr ⟨rfl, ?_⟩
    have hl := h1.lo
    have hu : 1 * 1 ≤ pU d * D := Nat.mul_le_mul (pU_pos d) hD
    have ey : (2 * pV d + pU d) * D = 2 * (pV d * D) + pU d * D := by rw [Nat.add_mul, Nat.mul_assoc]
    unfold tl
    rw [ey]
    generalize pV d * D = x at *
    generalize pU d * D = y at *
    clear h1 h2 h h'
    by_cases a1 : A = x
    · rw [if_pos a1]
      exact Nat.zero_le _
    · rw [if_neg a1, if_neg (show ¬ B = x by omega)]
      by_cases a2 : 2 * A < 2 * x + y
      · rw [if_pos a2]
        by_cases b2 : 2 * B < 2 * x + y
        · rw [if_pos b2]; exact Nat.le_refl _
        · rw [if_neg b2]
          split <;> decide
      · rw [if_neg a2, if_neg (show ¬ 2 * B < 2 * x + y by omega)]
        by_cases a3 : 2 * A = 2 * x + y
        · rw [if_pos a3]
          by_cases b3 : 2 * B = 2 * x + y
          · rw [if_pos b3]; exact Nat.le_refl _
          · rw [if_neg b3]; decide
        · rw [if_neg a3, if_neg (show ¬ 2 * B = 2 * x + y by omega)]
          exact Nat.le_refl _
/-- what Even makes of a place and a tail -/
def rn (d t : Nat) : Nat := if upB 0 false (d % 2 == 1) t then d + 1 else d
theorem RS_rn (d t : Nat) : RS 0 false d t = outP 0 false (rn d t) := rfl
theorem upB_even (odd : Bool) (t : Nat) : upB 0 false odd t = (t == 3 || (t == 2 && odd)) := rfl
theorem rn_mono {d t d' t' : Nat} (ht : t' ≤ 3) (h : d < d' ∨ (d = d' ∧ t ≤ t')) : rn d t ≤ rn d' t' := by
  unfold rn
  rw [upB_even, upB_even]
  rcases h with h | ⟨rfl, h⟩
  · split <;> split <;> omega
  · by_cases a : t = 3
    · obtain rfl : t' = 3 := by omega
      subst a
      exact Nat.le_refl _
    · have a3 : (t == 3) = false := beq_eq_false_iff_ne.2 a
      by_cases b : t = 2
      · subst b
        have : t' = 2 ∨ t' = 3 := by omega
        rcases this with rfl | rfl
        · exact Nat.le_refl _
        · rw [if_pos (show ((3 : Nat) == 3 || ((3 : Nat) == 2 && d % 2 == 1)) = true from rfl)]
          split <;> omega
      · have b3 : (t == 2) = false := beq_eq_false_iff_ne.2 b
        rw [a3, b3, if_neg (by simp)]
        split <;> omega
/-- P / Q rounded by Even is the z-th pattern -/
def Rnd (P Q z : Nat) : Prop := ∃ d, Rd P Q d ∧ z = rn d (tl P Q false d)
theorem Rnd.there {P Q : Nat} (hQ : 0 < Q) : ∃ z, Rnd P Q z := by
  obtain ⟨d, h⟩ := Rd.there (P := P) hQ
  exact ⟨_, d, h, rfl⟩
theorem Rnd.mono {P Q P' Q' z z' : Nat} (hQ : 0 < Q) (hQ' : 0 < Q') (h : Rnd P Q z) (h' : Rnd P' Q' z') (le : P * Q' ≤ P' * Q) : z ≤ z' := by
  obtain ⟨d, h1, rfl⟩ := h
  obtain ⟨d', h2, rfl⟩ := h'
  exact rn_mono (tl_le _ _ _ _) (Rd.mono hQ hQ' h1 h2 le)
theorem Rnd.uniq {P Q P' Q' z z' : Nat} (hQ : 0 < Q) (hQ' : 0 < Q') (h : Rnd P Q z) (h' : Rnd P' Q' z') (e : P * Q' = P' * Q) : z = z' :=
  Nat.le_antisymm (h.mono hQ hQ' h' (Nat.le_of_eq e)) (h'.mono hQ' hQ h (Nat.le_of_eq e.symm))
theorem Rnd.cross {P Q P' Q' z : Nat} (hQ : 0 < Q) (hQ' : 0 < Q') (e : P * Q' = P' * Q) (h : Rnd P Q z) : Rnd P' Q' z := by
  obtain ⟨d, h1, rfl⟩ := h
  exact ⟨d, h1.cross hQ hQ' e, by rw [tl_cross hQ hQ' e]⟩
theorem Rnd.flo {m : Nat} (hm : 0 < m) (e : Int) : Rnd (m * 2 ^ (e + 1074).toNat) (2 ^ (-(e + 1074)).toNat) (rn (PA.flo m e false).1 (PA.flo m e false).2) := by
  obtain ⟨h1, h2⟩ := flo_exact hm e false
  exact ⟨_, h1, by rw [h2]⟩
/-- a number times a power of two, the exponent that much less -/
theorem flo_shl {m : Nat} (hm : 0 < m) (z : Nat) (e : Int) (st : Bool) : flo (m * 2 ^ z) (e - z) st = flo m e st := by
  have hp : 0 < 2 ^ z := Nat.pow_pos (by decide)
  obtain ⟨r1, t1⟩ := flo_exact hm e st
  obtain ⟨r2, t2⟩ := flo_exact (Nat.mul_pos hm hp) (e - z) st
  have hQ : ∀ x : Int, 0 < 2 ^ x.toNat := fun x => Nat.pow_pos (by decide)
  have key : m * 2 ^ z * 2 ^ (e - z + 1074).toNat * 2 ^ (-(e + 1074)).toNat = m * 2 ^ (e + 1074).toNat * 2 ^ (-(e - z + 1074)).toNat := by
    rw [Nat.mul_assoc, Nat.mul_assoc, Nat.mul_assoc, ← Nat.pow_add, ← Nat.pow_add, ← Nat.pow_add]
    congr 2
    omega
  have hd := (r2.cross (hQ _) (hQ _) key).uniq r1
  rw [tl_cross (hQ _) (hQ _) key, hd, t1] at t2
  exact Prod.ext hd t2.symm
/-- the units of the places -/
def uN : Nat := 1074
theorem uN_eq : uN = 1074 := rfl
theorem pV_pow (n : Nat) : pV (n * 4503599627370496 + 4503599627370496) = 2 ^ (52 + n) := by
  rw [(pV_at (s := n) (q := 4503599627370496) (by decide) (.inr (Nat.le_refl _))).1, show (4503599627370496 : Nat) = 2 ^ 52 from by decide, ← Nat.pow_add]
theorem outP_between {a b c : Nat} (h1 : a ≤ b) (h2 : b ≤ c) (h : outP 0 false a = outP 0 false c) : outP 0 false b = outP 0 false a := by
  unfold outP at *
  have hs : staysB 0 false = false := rfl
  rw [hs] at *
  by_cases ha : 9218868437227405311 < a
  · rw [if_pos ha, if_pos (by omega)]
  · rw [if_neg ha] at h ⊢
    by_cases hc : 9218868437227405311 < c
    · rw [if_pos hc, if_neg (by decide)] at h
      have := congrArg Prod.snd h
      simp at this
    · rw [if_neg hc] at h
      have := congrArg Prod.fst h
      have e : a = c := by simp at this; omega
      obtain rfl : b = a := by omega
      rw [if_neg ha]
/-- the answers in order: an overflow is above all -/
theorem outP_cases (z : Nat) : (9218868437227405311 < z ∧ outP 0 false z = (0, 70)) ∨ (z ≤ 9218868437227405311 ∧ outP 0 false z = ((z : Int), 0)) := by
  unfold outP
  by_cases h : 9218868437227405311 < z
  · rw [if_pos h]; exact .inl ⟨h, rfl⟩
  · rw [if_neg h]
    refine .inr ⟨by omega, ?_⟩
    rw [show sgn false = 0 from rfl, Int.zero_add]
end Go.Proofs.YtoannkopciehcaaDoor.PA

namespace Go.Proofs.YtoannkopciehcaaDoor.PA
open Go Go.RowKit Go.Proofs.YtoannkopciehcaaDoorW.PrintWords Go.Proofs.YtoannkopciehcaaDoorW.PrintLast Go.Proofs.YtoannkopciehcaaDoorW.PrintMore
set_option linter.unusedVariables false
set_option linter.unusedSimpArgs false
theorem lemire_three_rounded.j6_eq (m s : Nat) (hm : m ≤ 9007199254740992) (hs : s = 0 ∨ 4503599627370496 ≤ m) (hsb : s ≤ 4398046511103) (x6 x7 : Int) (hx : wrap64 (x6 + x7) = (s : Int) - 1074) (k : Nat) (hk : 20 ≤ k) :
    lemire_three_rounded.j6 (k + 1) x6 x7 (m : Int) = some (outP 0 false (s * 4503599627370496 + m)) := by
  rw [lemire_three_rounded.j6, hx]
  clear hx
  have w1 : wrap64 ((s : Int) - 1074 + 1) = ((s + 1 : Nat) : Int) - 1074 := by rw [w64_of (by omega) (by omega)]; omega
  rw [w1]
  clear w1
  unfold outP
  have hst : staysB 0 false = false := rfl
  rw [hst, if_neg (show ¬ (false = true) by decide), show sgn false = 0 from rfl, Int.zero_add]
  by_cases he : m = 9007199254740992
  · subst he
    have h2 : ((9007199254740992 : Nat) : Int) / 2 = ((4503599627370496 : Nat) : Int) := by decide
    rw [if_pos (by omega), h2, if_pos (by omega)]
    by_cases hb : s + 1 > 2045
    · rw [if_pos (by omega), if_pos (by omega)]
    · rw [if_neg (by omega), if_neg (by omega), f64_Join.f_eq false 4503599627370496 (s + 1) (by omega) (.inr (Nat.le_refl _)) (by omega) k hk, Option.bind_some, show (s + 1) * 4503599627370496 + 4503599627370496 = s * 4503599627370496 + 9007199254740992 from by omega, show sgn false = 0 from rfl, Int.zero_add]
  · rw [if_neg (by omega)]
    by_cases h0 : m = 0
    · subst h0
      obtain rfl : s = 0 := by omega
      rw [if_neg (by omega), f64_Join.f_eq false 0 0 (by omega) (.inl rfl) (by omega) k hk, Option.bind_some, if_neg (by omega), show sgn false = 0 from rfl, Int.zero_add]
    · rw [if_pos (by omega)]
      by_cases hb : s > 2045
      · rw [if_pos (by omega), if_pos (by omega)]
      · rw [if_neg (by omega), if_neg (by omega), f64_Join.f_eq false m s (by omega) hs (by omega) k hk, Option.bind_some, show sgn false = 0 from rfl, Int.zero_add]
theorem lemire_three_rounded.j4_eq (m s : Nat) (hm : m < 9007199254740992) (hs : s = 0 ∨ 4503599627370496 ≤ m) (hsb : s ≤ 4398046511103) (x6 x7 : Int) (hx : wrap64 (x6 + x7) = (s : Int) - 1074) (half rest : Bool) (t : Nat)
    (h3 : (t == 3) = (half && rest)) (h2 : (t == 2) = (half && !rest)) (k : Nat) (hk : 20 ≤ k) :
    lemire_three_rounded.j4 (k + 3) x6 x7 (m : Int) half rest = some (RS 0 false (s * 4503599627370496 + m) t) := by
  have eo : ((Go.bits .and .u64 (m : Int) 1) == 1) = ((s * 4503599627370496 + m) % 2 == 1) := by
    rw [show Go.bits .and .u64 (m : Int) 1 = (m : Int) % 2 from and_mask (by omega) (by omega) 1 (by omega) _ rfl, Bool.eq_iff_iff, beq_iff_eq, beq_iff_eq]
    omega
  have a5 : ∀ b : Bool, lemire_three_rounded.j5 (k + 2) x6 x7 (m : Int) b = some (outP 0 false (if b then s * 4503599627370496 + m + 1 else s * 4503599627370496 + m)) := by
    intro b
    rw [lemire_three_rounded.j5]
    cases b
    · rw [if_neg (by decide), if_neg (by decide)]
      exact lemire_three_rounded.j6_eq m s (by omega) hs hsb x6 x7 hx k hk
    · rw [if_pos rfl, if_pos rfl, u64w_of (by omega) (by omega)]
      have r := lemire_three_rounded.j6_eq (m + 1) s (by omega) (by omega) hsb x6 x7 hx k hk
      have e : s * 4503599627370496 + (m + 1) = s * 4503599627370496 + m + 1 := by omega
      have ec : ((m + 1 : Nat) : Int) = (m : Int) + 1 := by omega
      rw [e, ec] at r
      exact r
  have hb : (t == 3 || (t == 2 && ((s * 4503599627370496 + m) % 2 == 1))) = (if half = true then (if rest = true then true else ((s * 4503599627370496 + m) % 2 == 1)) else false) := by
    rw [h3, h2]
    generalize ((s * 4503599627370496 + m) % 2 == 1) = odd
    cases half <;> cases rest <;> cases odd <;> rfl
  rw [lemire_three_rounded.j4, eo, RS_rn]
  unfold rn
  rw [upB_even, hb]
  generalize ((s * 4503599627370496 + m) % 2 == 1) = odd
  have c1 : (true = true) := rfl
  have c2 : ¬ (false = true) := fun h => nomatch h
  cases half
  · rw [if_neg c2, if_neg c2, a5]
  · rw [if_pos c1, if_pos c1]
    cases rest
    · rw [if_neg c2, if_neg c2, a5]
    · rw [if_pos c1, if_pos c1, a5]
theorem shl_zero_iff {a j : Nat} (h1 : 1 ≤ j) (hj : j ≤ 63) : ((shl .u64 (a : Int) ((65 - j : Nat) : Int)) != 0) = decide (a % 2 ^ (j - 1) ≠ 0) := by
  rw [shl_eq, Int.toNat_natCast]
  by_cases h64 : j = 1
  · subst h64
    have e0 : a % 2 ^ (1 - 1) = 0 := by rw [Nat.sub_self, Nat.pow_zero, Nat.mod_one]
    rw [e0, show min (65 - 1) 64 = 64 from rfl]
    have : (a : Int) * 2 ^ 64 % 18446744073709551616 = 0 := by
      rw [show (2 : Int) ^ 64 = 18446744073709551616 from by decide]; omega
    rw [this]; rfl
  · have em : min (65 - j) 64 = 65 - j := Nat.min_eq_left (by omega)
    have hp : (2 : Int) ^ (65 - j) * 2 ^ (j - 1) = 18446744073709551616 := by
      have := pow_split' (s := j - 1) (by omega)
      rwa [show 64 - (j - 1) = 65 - j from by omega] at this
    have hR := two_pow_pos (65 - j)
    rw [em, shl_low hR hp, p2cast (j - 1), ← Int.natCast_emod, Bool.eq_iff_iff, bne_iff_ne, decide_eq_true_iff]
    constructor
    · intro h hz; exact h (by rw [hz]; simp)
    · intro h hz
      rcases Int.mul_eq_zero.1 hz with h3 | h3
      · omega
      · exact h (Int.ofNat.inj h3)
theorem half_bit {a j : Nat} (ha : a < 18446744073709551616) (h1 : 1 ≤ j) (hj : j ≤ 63) : ((Go.bits .and .u64 (shr .u64 (a : Int) ((j - 1 : Nat) : Int)) 1) == 1) = decide (2 ^ j ≤ 2 * (a % 2 ^ j)) := by
  have hp : 0 < 2 ^ (j - 1) := Nat.pow_pos (by decide)
  have e2 : 2 ^ j = 2 ^ (j - 1) * 2 := by rw [← Nat.pow_succ]; congr 1; omega
  have hq : a / 2 ^ (j - 1) ≤ a := Nat.div_le_self _ _
  have hand : ∀ q : Nat, q ≤ a → Go.bits .and .u64 (q : Int) 1 = (q : Int) % 2 := fun q h => and_mask (by omega) (by omega) 1 (by omega) _ rfl
  rw [shr_eq, Int.toNat_natCast, Nat.min_eq_left (by omega), p2cast, ← Int.natCast_ediv, hand _ hq]
  rw [e2, Nat.mod_mul]
  have hm := Nat.mod_lt a hp
  generalize a % 2 ^ (j - 1) = r at *
  generalize a / 2 ^ (j - 1) = q at *
  generalize 2 ^ (j - 1) = p at *
  rw [Bool.eq_iff_iff, beq_iff_eq, decide_eq_true_iff]
  rcases Nat.mod_two_eq_zero_or_one q with h | h
  · rw [h, Nat.mul_zero]; omega
  · rw [h, Nat.mul_one]; omega
theorem tail_bits {r j : Nat} (st : Bool) (h1 : 1 ≤ j) (hr : r < 2 ^ j) : (tailOf r j st == 3) = (decide (2 ^ j ≤ 2 * r) && (st || decide (r % 2 ^ (j - 1) ≠ 0))) ∧ (tailOf r j st == 2) = (decide (2 ^ j ≤ 2 * r) && !(st || decide (r % 2 ^ (j - 1) ≠ 0))) := by
  have hp : 0 < 2 ^ (j - 1) := Nat.pow_pos (by decide)
  have e2 : 2 ^ j = 2 * 2 ^ (j - 1) := by rw [Nat.mul_comm, ← Nat.pow_succ]; congr 1; omega
  unfold tailOf
  rw [e2] at hr ⊢
  clear e2
  generalize 2 ^ (j - 1) = p at *
  by_cases h0 : r = 0
  · subst h0
    rw [if_pos rfl, decide_eq_false (show ¬ (2 * p ≤ 2 * 0) by omega)]
    cases st <;> exact ⟨rfl, rfl⟩
  · rw [if_neg h0]
    by_cases c1 : r < p
    · rw [if_pos (by omega), decide_eq_false (show ¬ (2 * p ≤ 2 * r) by omega)]
      exact ⟨rfl, rfl⟩
    · rw [if_neg (by omega), decide_eq_true (show 2 * p ≤ 2 * r by omega)]
      by_cases c2 : r = p
      · subst c2
        rw [if_pos rfl, Nat.mod_self]
        cases st <;> exact ⟨rfl, rfl⟩
      · have : r % p = r - p := by rw [Nat.mod_eq_sub_mod (by omega), Nat.mod_eq_of_lt (by omega)]
        rw [if_neg (by omega), this, decide_eq_true (show r - p ≠ 0 by omega)]
        cases st <;> exact ⟨rfl, rfl⟩
theorem lemire_three_rounded.j3_eq (a : Nat) (ha0 : 9223372036854775808 ≤ a) (ha : a < 18446744073709551616) (st : Bool) (e : Int) (he1 : -4398046511104 ≤ e) (he2 : e ≤ 2199023255552) (s j : Nat) (hs : s = (e + 1074 + 11).toNat) (hj : (j : Int) = (s : Int) - (e + 1074)) (x2 x3 x4 : Int) (x5 : Bool) (k : Nat) (hk : 20 ≤ k) :
    lemire_three_rounded.j3 (k + 4) st e (j : Int) (a : Int) x2 x3 x4 x5 = some (RS 0 false (s * 4503599627370496 + a / 2 ^ j) (tailOf (a % 2 ^ j) j st)) := by
  rw [lemire_three_rounded.j3]
  have hx : wrap64 (e + (j : Int)) = (s : Int) - 1074 := by rw [w64_of (by omega) (by omega)]; omega
  by_cases h66 : j > 65
  · have hp : 2 ^ 66 ≤ 2 ^ j := Nat.pow_le_pow_right (by decide) h66
    rw [show (2 : Nat) ^ 66 = 73786976294838206464 from by decide] at hp
    have hq : a / 2 ^ j = 0 := Nat.div_eq_of_lt (by omega)
    have hr : a % 2 ^ j = a := Nat.mod_eq_of_lt (by omega)
    obtain rfl : s = 0 := by omega
    rw [if_pos (by omega), hq, hr]
    unfold tailOf
    rw [if_neg (by omega), if_pos (by omega)]
    rfl
  · rw [if_neg (by omega)]
    by_cases h65 : j = 65
    · subst h65
      obtain rfl : s = 0 := by omega
      have e65 : (2 : Nat) ^ 65 = 36893488147419103232 := by decide
      have hq : a / 2 ^ 65 = 0 := Nat.div_eq_of_lt (by omega)
      have hr : a % 2 ^ 65 = a := Nat.mod_eq_of_lt (by omega)
      have ht : tailOf a 65 st = 1 := by
        unfold tailOf
        rw [if_neg (by omega), if_pos (by omega)]
      rw [if_pos (by omega), hq, hr, ht]
      exact lemire_three_rounded.j4_eq 0 0 (by omega) (.inl rfl) (by omega) e _ hx false true 1 rfl rfl k hk
    · rw [if_neg (by omega)]
      by_cases h64 : j = 64
      · subst h64
        obtain rfl : s = 0 := by omega
        have e64 : (2 : Nat) ^ 64 = 18446744073709551616 := by decide
        have hq : a / 2 ^ 64 = 0 := Nat.div_eq_of_lt (by omega)
        have hr : a % 2 ^ 64 = a := Nat.mod_eq_of_lt (by omega)
        have hh : (((a : Int) / 9223372036854775808) == 1) = true := by rw [beq_iff_eq]; omega
        rw [if_pos (by omega), hq, hr, hh]
        cases st
        · rw [if_neg (by decide)]
          have hw : IntKind.u64.wrap ((a : Int) * 2) = (a : Int) * 2 - 18446744073709551616 := by rw [u64w]; omega
          rw [hw]
          by_cases hz : a = 9223372036854775808
          · subst hz
            exact lemire_three_rounded.j4_eq 0 0 (by omega) (.inl rfl) (by omega) e _ hx true false 2 rfl rfl k hk
          · have hb : (((a : Int) * 2 - 18446744073709551616) != 0) = true := by rw [bne_iff_ne]; omega
            have ht : tailOf a 64 false = 3 := by
              unfold tailOf
              rw [if_neg (by omega), if_neg (by omega), if_neg (by omega)]
            rw [hb, ht]
            exact lemire_three_rounded.j4_eq 0 0 (by omega) (.inl rfl) (by omega) e _ hx true true 3 rfl rfl k hk
        · rw [if_pos rfl]
          have ht : tailOf a 64 true = 3 := by
            unfold tailOf
            rw [if_neg (by omega), if_neg (by omega)]
            split <;> rfl
          rw [ht]
          exact lemire_three_rounded.j4_eq 0 0 (by omega) (.inl rfl) (by omega) e _ hx true true 3 rfl rfl k hk
      · rw [if_neg (by omega)]
        have hj63 : j ≤ 63 := by omega
        have hj1 : 11 ≤ j := by omega
        have w1 : wrap64 ((j : Int) - 1) = ((j - 1 : Nat) : Int) := w64x (by omega) (by omega)
        have w2 : wrap64 (65 - (j : Int)) = ((65 - j : Nat) : Int) := w64x (by omega) (by omega)
        have hsr : shr .u64 (a : Int) (j : Int) = ((a / 2 ^ j : Nat) : Int) := by
          rw [shr_eq, Int.toNat_natCast, Nat.min_eq_left (by omega), p2cast, ← Int.natCast_ediv]
        have hb1 : 2 ^ 63 ≤ a := by rw [show (2 : Nat) ^ 63 = 9223372036854775808 from by decide]; exact ha0
        have hb2 : a < 2 ^ (63 + 1) := by rw [show (2 : Nat) ^ (63 + 1) = 18446744073709551616 from by decide]; exact ha
        obtain ⟨q1, q2⟩ := flo_q (s := s) (j := j) hb1 hb2 (by omega) (by omega)
        have hr := Nat.mod_lt a (show 0 < 2 ^ j from Nat.pow_pos (by decide))
        obtain ⟨t3, t2⟩ := tail_bits (r := a % 2 ^ j) (j := j) st (by omega) hr
        have em : a % 2 ^ j % 2 ^ (j - 1) = a % 2 ^ (j - 1) := Nat.mod_mod_of_dvd _ (Nat.pow_dvd_pow 2 (by omega))
        rw [em] at t3 t2
        have r := lemire_three_rounded.j4_eq (a / 2 ^ j) s q1 q2 (by omega) e (j : Int) hx (decide (2 ^ j ≤ 2 * (a % 2 ^ j))) (st || decide (a % 2 ^ (j - 1) ≠ 0)) _ t3 t2 k hk
        have j0 : (0 : Int) ≤ (j : Int) := by omega
        have j1 : (0 : Int) ≤ ((j - 1 : Nat) : Int) := by omega
        have j2 : (0 : Int) ≤ ((65 - j : Nat) : Int) := by omega
        rw [if_pos j0, w1, if_pos j1, hsr, half_bit ha (by omega) hj63, w2]
        cases st
        · rw [if_neg (by decide), if_pos j2, shl_zero_iff (by omega) hj63]
          exact r
        · rw [if_pos rfl]
          exact r
theorem lemire_three_rounded.j2_eq (a : Nat) (ha0 : 9223372036854775808 ≤ a) (ha : a < 18446744073709551616) (st : Bool) (x : Int) (he1 : -4398046511104 ≤ x) (he2 : x ≤ 1099511627776) (x2 x3 : Int) (x5 : Bool) (k : Nat) (hk : 20 ≤ k) :
    lemire_three_rounded.j2 (k + 5) st (a : Int) x2 x3 x x5 = some (RS 0 false (flo a (x + 128) st).1 (flo a (x + 128) st).2) := by
  have w1 : wrap64 (x + 128) = x + 128 := w64_of (by omega) (by omega)
  have w2 : wrap64 (x + 128 + 11) = x + 128 + 11 := w64_of (by omega) (by omega)
  have hb : bitsN (a : Int) = 63 + 1 := by
    refine (bitsN_iff (x := (a : Int)) (by omega) 63).2 ⟨?_, ?_⟩
    · rw [show (2 : Int) ^ 63 = 9223372036854775808 from by decide]; omega
    · rw [show (2 : Int) ^ (63 + 1) = 18446744073709551616 from by decide]; omega
  obtain ⟨s, hs⟩ : ∃ s : Nat, s = (x + 128 + 1074 + 11).toNat := ⟨_, rfl⟩
  have hs' : (x + 128 + 1074 + bitsN (a : Int) - 53).toNat = s := by rw [hb, hs]; omega
  obtain ⟨j, hj⟩ : ∃ j : Nat, (j : Int) = (s : Int) - (x + 128 + 1074) := ⟨((s : Int) - (x + 128 + 1074)).toNat, by omega⟩
  have r := lemire_three_rounded.j3_eq a ha0 ha st (x + 128) (by omega) (by omega) s j hs hj x2 x3 x x5 k hk
  have hf : flo a (x + 128) st = (s * 4503599627370496 + a / 2 ^ j, tailOf (a % 2 ^ j) j st) := by
    unfold flo
    rw [if_neg (by omega), hs', ← hj, if_pos (by omega), Int.toNat_natCast]
  rw [lemire_three_rounded.j2, w1, w2, hf]
  clear w1 w2 hs' hf
  by_cases hc : x + 128 + 11 < -1074
  · have w3 : wrap64 (-1074 - (x + 128)) = (j : Int) := w64x (by omega) (by omega)
    rw [if_pos hc, w3]
    exact r
  · obtain rfl : j = 11 := by omega
    rw [if_neg hc]
    exact r
theorem shl_or {hi lo s : Nat} (hs1 : 1 ≤ s) (hs : s ≤ 63) (h1 : hi < 18446744073709551616) (l1 : lo < 18446744073709551616) :
    Go.bits .or .u64 (shl .u64 (hi : Int) (s : Int)) (shr .u64 (lo : Int) ((64 - s : Nat) : Int)) = ((hi * 2 ^ s % 18446744073709551616 + lo / 2 ^ (64 - s) : Nat) : Int) := by
  have hP := two_pow_pos s
  have hR := two_pow_pos (64 - s)
  have hPR := pow_split (s := s) (by omega)
  have m1 : min s 64 = s := Nat.min_eq_left (by omega)
  have m2 : min (64 - s) 64 = 64 - s := Nat.min_eq_left (by omega)
  rw [shl_eq, shr_eq, Int.toNat_natCast, Int.toNat_natCast, m1, m2]
  have hx : (hi : Int) * 2 ^ s % 18446744073709551616 % 2 ^ s = 0 := by rw [shl_low hP hPR, Int.mul_emod_right]
  have hy : (lo : Int) / 2 ^ (64 - s) < 2 ^ s := Int.ediv_lt_of_lt_mul hR (by rw [hPR]; omega)
  have hle : (2 : Int) ^ s ≤ 2 ^ 63 := pow_mono hs
  have hy0 : 0 ≤ (lo : Int) / 2 ^ (64 - s) := Int.ediv_nonneg (by omega) (Int.le_of_lt hR)
  rw [or_join s (Int.emod_nonneg _ (by decide)) (Int.emod_lt_of_pos _ (by decide)) hx hy0 hy (Int.lt_trans (Int.lt_of_lt_of_le hy hle) (by decide))]
  rw [Int.natCast_add, Int.natCast_emod, Int.natCast_mul, Int.natCast_ediv, p2cast, p2cast]
  rfl
/-- three words moved up -/
theorem up_three {t m l s : Nat} (hs : s ≤ 64) (ht : t * 2 ^ s < 18446744073709551616) :
    (t * 340282366920938463463374607431768211456 + m * 18446744073709551616 + l) * 2 ^ s =
      (t * 2 ^ s % 18446744073709551616 + m / 2 ^ (64 - s)) * 340282366920938463463374607431768211456 + ((m * 2 ^ s % 18446744073709551616 + l / 2 ^ (64 - s)) * 18446744073709551616 + l * 2 ^ s % 18446744073709551616) := by
  have hp : 2 ^ (64 - s) * 2 ^ s = 18446744073709551616 := by rw [← Nat.pow_add, show 64 - s + s = 64 from by omega]
  have w : ∀ x : Nat, x * 2 ^ s = 18446744073709551616 * (x / 2 ^ (64 - s)) + x * 2 ^ s % 18446744073709551616 := by
    intro x
    have hR : 0 < 2 ^ (64 - s) := Nat.pow_pos (by decide)
    have h1 : x * 2 ^ s / 18446744073709551616 = x / 2 ^ (64 - s) := by rw [← hp, Nat.mul_div_mul_right _ _ (Nat.pow_pos (by decide))]
    rw [← h1, Nat.div_add_mod]
  have hm := w m
  have hl := w l
  rw [Nat.mod_eq_of_lt ht, Nat.add_mul, Nat.add_mul, Nat.mul_right_comm t, Nat.mul_right_comm m]
  generalize t * 2 ^ s = T at *
  generalize m * 2 ^ s % 18446744073709551616 = M1 at *
  generalize m / 2 ^ (64 - s) = M2 at *
  generalize l * 2 ^ s % 18446744073709551616 = L1 at *
  generalize l / 2 ^ (64 - s) = L2 at *
  rw [hm, hl]
  omega
theorem lemire_three_rounded.j1_eq (t m l : Nat) (ht0 : 9223372036854775808 ≤ t) (ht : t < 18446744073709551616) (hm : m < 18446744073709551616) (hl : l < 18446744073709551616) (x : Int) (he1 : -4398046511104 ≤ x) (he2 : x ≤ 1099511627776) (st : Bool) (k : Nat) (hk : 20 ≤ k) :
    lemire_three_rounded.j1 (k + 6) (t : Int) (m : Int) (l : Int) x st = some (RS 0 false (flo (t * 340282366920938463463374607431768211456 + (m * 18446744073709551616 + l)) x st).1 (flo (t * 340282366920938463463374607431768211456 + (m * 18446744073709551616 + l)) x st).2) := by
  have e128 : (2 : Nat) ^ 128 = 340282366920938463463374607431768211456 := by decide
  have hq : (t * 340282366920938463463374607431768211456 + (m * 18446744073709551616 + l)) / 2 ^ 128 = t := by rw [e128]; omega
  have hr : (t * 340282366920938463463374607431768211456 + (m * 18446744073709551616 + l)) % 2 ^ 128 = m * 18446744073709551616 + l := by rw [e128]; omega
  have hc := flo_cut (m := t * 340282366920938463463374607431768211456 + (m * 18446744073709551616 + l)) x st 128 (by rw [hq]; omega)
  rw [hq, hr] at hc
  rw [← hc]
  have a2 : ∀ b : Bool, lemire_three_rounded.j2 (k + 5) b (t : Int) (m : Int) (l : Int) x st = some (RS 0 false (flo t (x + 128) b).1 (flo t (x + 128) b).2) := fun b => lemire_three_rounded.j2_eq t ht0 ht b x he1 he2 m l st k hk
  rw [lemire_three_rounded.j1, a2, a2]
  by_cases h1 : m = 0
  · by_cases h2 : l = 0
    · rw [if_pos (by omega), if_pos (by omega), decide_eq_false (show ¬ (m * 18446744073709551616 + l ≠ 0) by omega), Bool.or_false]
      rfl
    · rw [if_pos (by omega), if_neg (by omega), decide_eq_true (show m * 18446744073709551616 + l ≠ 0 by omega), Bool.or_true]
      rfl
  · rw [if_neg (by omega), decide_eq_true (show m * 18446744073709551616 + l ≠ 0 by omega), Bool.or_true]
    rfl
theorem lemire_three_rounded.l0_top (t m l : Nat) (ht0 : 0 < t) (ht : t < 18446744073709551616) (hm : m < 18446744073709551616) (hl : l < 18446744073709551616) (x : Int) (he1 : -4398046510976 ≤ x) (he2 : x ≤ 1099511627776) (st : Bool) (k : Nat) (hk : 20 ≤ k) :
    lemire_three_rounded.l0 (k + 7) (t : Int) (m : Int) (l : Int) x st = some (RS 0 false (flo (t * 340282366920938463463374607431768211456 + (m * 18446744073709551616 + l)) x st).1 (flo (t * 340282366920938463463374607431768211456 + (m * 18446744073709551616 + l)) x st).2) := by
  obtain ⟨L, hL, hb1, hb2⟩ := bits_bounds ht0
  have hL64 : L ≤ 63 := by
    apply Classical.byContradiction
    intro hn
    have h1 : 2 ^ 64 ≤ 2 ^ L := Nat.pow_le_pow_right (by decide) (by omega)
    rw [show (2 : Nat) ^ 64 = 18446744073709551616 from by decide] at h1
    omega
  have wl : wide_Len.f (k + 6) (t : Int) = some (bitsN (t : Int)) := wide_Len.f_eq (by omega) (by omega) (k + 6) (by omega)
  have w1 : wrap64 (64 - bitsN (t : Int)) = ((63 - L : Nat) : Int) := w64x (by omega) (by omega)
  rw [lemire_three_rounded.l0, if_neg (by omega), wl, Option.bind_some, w1]
  clear wl w1
  have htop : 2 ^ (63 - L) * 2 ^ L = 9223372036854775808 := by rw [← Nat.pow_add, show 63 - L + L = 63 from by omega]
  by_cases h0 : 63 - L = 0
  · rw [h0, if_neg (by omega)]
    have : t ≥ 9223372036854775808 := by
      rw [← htop, h0, Nat.pow_zero, Nat.one_mul]; exact hb1
    exact lemire_three_rounded.j1_eq t m l this ht hm hl x (by omega) he2 st k hk
  · have htu : t * 2 ^ (63 - L) < 18446744073709551616 := by
      have h1 : t * 2 ^ (63 - L) < 2 ^ (L + 1) * 2 ^ (63 - L) := Nat.mul_lt_mul_of_pos_right hb2 (Nat.pow_pos (by decide))
      rwa [← Nat.pow_add, show L + 1 + (63 - L) = 64 from by omega, show (2 : Nat) ^ 64 = 18446744073709551616 from by decide] at h1
    have htl : 9223372036854775808 ≤ t * 2 ^ (63 - L) := by
      rw [← htop, Nat.mul_comm]; exact Nat.mul_le_mul_right _ hb1
    have eu := up_three (t := t) (m := m) (l := l) (s := 63 - L) (by omega) htu
    have hs1 : 1 ≤ 63 - L := by omega
    have hs2 : 63 - L ≤ 63 := by omega
    have hx : x ≤ 1099511627776 ∧ -4398046511104 ≤ x - ((63 - L : Nat) : Int) := by omega
    have w2 : wrap64 (64 - ((63 - L : Nat) : Int)) = ((64 - (63 - L) : Nat) : Int) := w64x (by omega) (by omega)
    have w3 : wrap64 (x - ((63 - L : Nat) : Int)) = x - ((63 - L : Nat) : Int) := w64_of (by omega) (by omega)
    have hN0 : 0 < t * 340282366920938463463374607431768211456 + (m * 18446744073709551616 + l) := by omega
    have hfl := flo_shl hN0 (63 - L) x st
    rw [← Nat.add_assoc, eu] at hfl
    rw [← Nat.add_assoc, ← hfl]
    have hb : ∀ y : Nat, y < 18446744073709551616 → y / 2 ^ (64 - (63 - L)) < 2 ^ (63 - L) := by
      intro y hy
      rw [Nat.div_lt_iff_lt_mul (Nat.pow_pos (by decide)), ← Nat.pow_add, show 63 - L + (64 - (63 - L)) = 64 from by omega, show (2 : Nat) ^ 64 = 18446744073709551616 from by decide]
      exact hy
    have hmul : ∀ y : Nat, y * 2 ^ (63 - L) % 18446744073709551616 + 2 ^ (63 - L) ≤ 18446744073709551616 := by
      intro y
      have e : (18446744073709551616 : Nat) = 2 ^ (64 - (63 - L)) * 2 ^ (63 - L) := by rw [← Nat.pow_add, show 64 - (63 - L) + (63 - L) = 64 from by omega]
      rw [e, Nat.mul_mod_mul_right]
      have h1 := Nat.mod_lt y (show 0 < 2 ^ (64 - (63 - L)) from Nat.pow_pos (by decide))
      have h2 : (y % 2 ^ (64 - (63 - L)) + 1) * 2 ^ (63 - L) ≤ 2 ^ (64 - (63 - L)) * 2 ^ (63 - L) := Nat.mul_le_mul_right _ h1
      rw [Nat.add_mul, Nat.one_mul] at h2
      exact h2
    have hmb := hb m hm
    have hlb := hb l hl
    have hmm := hmul m
    have htm := hmul t
    have hsl : shl .u64 (l : Int) ((63 - L : Nat) : Int) = ((l * 2 ^ (63 - L) % 18446744073709551616 : Nat) : Int) := by
      rw [shl_eq, Int.toNat_natCast, Nat.min_eq_left (by omega), p2cast, ← Int.natCast_mul, Int.natCast_emod]
      rfl
    rw [if_pos (by omega), if_pos (by omega), w2, if_pos (by omega), w3, shl_or hs1 hs2 ht hm, shl_or hs1 hs2 hm hl, hsl]
    refine lemire_three_rounded.j1_eq _ _ _ ?_ ?_ ?_ ?_ _ hx.2 (by omega) st k hk
    · rw [Nat.mod_eq_of_lt htu]; exact Nat.le_trans htl (Nat.le_add_right _ _)
    · omega
    · omega
    · exact Nat.mod_lt _ (by decide)
theorem lemire_three_rounded.f_eq (t m l : Nat) (h0 : 0 < t * 340282366920938463463374607431768211456 + (m * 18446744073709551616 + l)) (ht : t < 18446744073709551616) (hm : m < 18446744073709551616) (hl : l < 18446744073709551616) (x : Int) (he1 : -1099511627776 ≤ x) (he2 : x ≤ 1099511627776) (st : Bool) (k : Nat) (hk : 29 ≤ k) :
    lemire_three_rounded.f k (t : Int) (m : Int) (l : Int) x st = some (RS 0 false (flo (t * 340282366920938463463374607431768211456 + (m * 18446744073709551616 + l)) x st).1 (flo (t * 340282366920938463463374607431768211456 + (m * 18446744073709551616 + l)) x st).2) := by
  obtain ⟨k, rfl⟩ : ∃ i, k = i + 9 := ⟨k - 9, by omega⟩
  rw [lemire_three_rounded.f]
  have w1 : wrap64 (x - 64) = x - ((64 : Nat) : Int) := by rw [w64_of (by omega) (by omega)]; rfl
  have w2 : wrap64 (x - ((64 : Nat) : Int) - 64) = x - ((64 : Nat) : Int) - ((64 : Nat) : Int) := by rw [w64_of (by omega) (by omega)]; rfl
  have e64 : (2 : Nat) ^ 64 = 18446744073709551616 := by decide
  have c0 : ((0 : Nat) : Int) = 0 := rfl
  by_cases t0 : t = 0
  · rw [t0, Nat.zero_mul, Nat.zero_add] at h0
    rw [t0, Nat.zero_mul, Nat.zero_add]
    clear t0 ht
    clear t
    rw [show k + 9 = (k + 8) + 1 from rfl, lemire_three_rounded.l0, if_pos c0, w1]
    by_cases m0 : m = 0
    · rw [m0, Nat.zero_mul, Nat.zero_add] at h0
      rw [m0, Nat.zero_mul, Nat.zero_add]
      clear m0 hm
      clear m
      have hl0 : 0 < l := h0
      have hl1 : 0 < l * 2 ^ 64 := Nat.mul_pos hl0 (Nat.pow_pos (by decide))
      have r := lemire_three_rounded.l0_top l 0 0 hl0 hl (by decide) (by decide) (x - ((64 : Nat) : Int) - ((64 : Nat) : Int)) (by omega) (by omega) st k (by omega)
      have f1 := flo_shl hl1 64 (x - ((64 : Nat) : Int)) st
      have f2 := flo_shl (m := l) hl0 64 x st
      rw [e64] at f1 f2
      have en : ∀ y : Nat, y * 340282366920938463463374607431768211456 + (0 * 18446744073709551616 + 0) = y * 18446744073709551616 * 18446744073709551616 := fun y => by omega
      rw [en, f1, f2] at r
      rw [show k + 8 = (k + 7) + 1 from rfl, lemire_three_rounded.l0, if_pos c0, w2]
      exact r
    · have hl1 : 0 < m * 18446744073709551616 + l := h0
      have r := lemire_three_rounded.l0_top m l 0 (by omega) hm hl (by decide) (x - ((64 : Nat) : Int)) (by omega) (by omega) st (k + 1) (by omega)
      have f2 := flo_shl hl1 64 x st
      rw [e64] at f2
      have en : ∀ y z : Nat, y * 340282366920938463463374607431768211456 + (z * 18446744073709551616 + 0) = (y * 18446744073709551616 + z) * 18446744073709551616 := fun y z => by omega
      rw [en, f2] at r
      exact r
  · exact lemire_three_rounded.l0_top t m l (by omega) ht hm hl x (by omega) he2 st (k + 2) (by omega)
end Go.Proofs.YtoannkopciehcaaDoor.PA

namespace Go.Proofs.YtoannkopciehcaaDoor.PA
open Go.RowKit Go.Proofs.YtoannkopciehcaaDoorW.PrintWords Go.Proofs.YtoannkopciehcaaDoorW.PrintLast Go.Proofs.YtoannkopciehcaaDoorW.PrintMore
set_option linter.unusedVariables false
set_option linter.unusedSimpArgs false
theorem cpy_eq (z : List Int) (q m : Nat) (h : m = q + z.length + 1) : cpyAt (List.replicate m 0) z q = List.replicate q 0 ++ (z ++ [0]) := by
  unfold cpyAt
  rw [List.length_replicate, List.take_replicate, List.drop_replicate, Nat.min_eq_left (show q ≤ m by omega), Nat.min_eq_left (show z.length ≤ m - q by omega), List.take_length, show m - (q + z.length) = 1 from by omega]
  rfl
theorem bnd_small {n : Int} (h : n < (2 : Int) ^ 262144) : bnd n = (wd n.toNat, 0) := by unfold bnd; rw [if_pos h]
theorem nat_Shl.f_eq (l : List Int) (h : Ws l) (hl : l.length ≤ 1000000) (n : Int) (hn : n < 9223372036854775808) (k : Nat) (hk : 3000000 < k) :
    nat_Shl.f k l n = some (if n < 0 then ([], 22) else if nv l = 0 then ([], 0) else bnd (nv l * 2 ^ n.toNat)) := by
  have hsl := strip_length_le l
  rw [nat_Shl.f, nat_size.f_eq l (by omega) _ (by omega)]
  simp only [Option.bind_some]
  rw [if_pos (by omega), if_pos (by omega), Int.toNat_natCast, strip_take']
  have el := nv_strip l
  have wl := h.strip
  have pl := nv_pos_iff h
  rw [← el] at *
  generalize strip l = z at *
  have nz := nv_nonneg wl
  by_cases h0 : n < 0
  · rw [if_pos h0, if_pos h0]
  · rw [if_neg h0, if_neg h0]
    by_cases h1 : z = []
    · subst h1
      rw [if_pos (by simp), if_pos (by simp [nv])]
    · have hz0 : z.length ≠ 0 := fun h => h1 (List.eq_nil_of_length_eq_zero h)
      have hp := pl.2 h1
      rw [if_neg (show ¬ ((z.length : Int) = 0) by omega), if_neg (show ¬ nv z = 0 by omega), nat_Bits.f_eq z wl (by omega) k (by omega) (by omega)]
      simp only [Option.bind_some]
      have bx := bitsN_ge hp
      have bx1 := bitsN_pos hp
      have bx2 := bitsN_le_of_lt (n := 64 * z.length) nz (nv_lt wl)
      have hbx : 1 ≤ bitsN (nv z) := by omega
      clear bx1
      have ew : wrap64 (262144 - bitsN (nv z)) = 262144 - bitsN (nv z) := by unfold wrap64; omega
      rw [ew]
      clear ew
      obtain ⟨n, rfl⟩ : ∃ j : Nat, n = (j : Int) := ⟨n.toNat, by omega⟩
      rw [Int.toNat_natCast]
      by_cases hb : (n : Int) > 262144 - bitsN (nv z)
      · rw [if_pos hb, bnd_big]
        have h3 : (2 : Int) ^ 262144 ≤ 2 ^ ((bitsN (nv z)).toNat - 1 + n) := pow_mono (by omega)
        rw [Int.pow_add] at h3
        exact Int.le_trans h3 (Int.mul_le_mul_of_nonneg_right bx (Int.le_of_lt (two_pow_pos _)))
      · rw [if_neg hb]
        have hn2 : n ≤ 262144 := by omega
        clear hb bx bx2 hbx pl
        have et : Int.tdiv (n : Int) 64 = ((n / 64 : Nat) : Int) := by rw [Int.tdiv_eq_ediv_of_nonneg (Int.natCast_nonneg _)]; omega
        have em : Int.tmod (n : Int) 64 = ((n % 64 : Nat) : Int) := by rw [Int.tmod_eq_emod_of_nonneg (Int.natCast_nonneg _)]; omega
        have hq : n / 64 ≤ 4096 := by omega
        have hnq : n = 64 * (n / 64) + n % 64 := by omega
        have hs : n % 64 < 64 := by omega
        generalize n / 64 = q at *
        generalize n % 64 = s at *
        have ea : wrap64 (Int.tdiv (n : Int) 64) = (q : Int) := by rw [et]; clear em et; unfold wrap64; omega
        have e1 : wrap64 ((q : Int) + (z.length : Int)) = ((q + z.length : Nat) : Int) := w64_add q z.length (by clear ea em et; omega)
        have e2 : wrap64 (((q + z.length : Nat) : Int) + 1) = ((q + z.length + 1 : Nat) : Int) := w64_succ _ (by clear ea em et e1; omega)
        have c1 : (0 : Int) ≤ ((q + z.length + 1 : Nat) : Int) := Int.natCast_nonneg _
        have c2 : q + z.length + 1 ≤ 35184372088832 := by clear ea em et e1 e2; omega
        have c3 : (0 : Int) ≤ (q : Int) := Int.natCast_nonneg _
        have c4 : q ≤ q + z.length + 1 := by clear ea em et e1 e2; omega
        have c5 : q + z.length + 1 < k := by clear ea em et e1 e2; omega
        have c6 : q + z.length < q + z.length + 1 := Nat.lt_succ_self _
        have c7 : z.length + (q + z.length + 1) + 1 < k := by clear ea em et e1 e2; omega
        rw [ea, e1, e2, if_pos c1, Int.toNat_natCast, Int.toNat_natCast, if_pos ⟨c2, c3, c4⟩, cpy_eq z q _ rfl, em]
        try simp only [Option.bind_some]
        obtain ⟨y, hy⟩ : ∃ y, y = List.replicate q 0 ++ (z ++ [0]) := ⟨_, rfl⟩
        rw [← hy]
        have wy : Ws y := by rw [hy]; exact (Ws.zeros _).append (wl.append (Ws.cons (by decide) (by decide) Ws.nil))
        have ly : y.length = q + z.length + 1 := by rw [hy, List.length_append, List.length_replicate, List.length_append]; rfl
        have ny : nv y = 2 ^ (64 * q) * nv z := by
          rw [hy, nv_append, nv_append, nv_zeros, List.length_replicate]
          simp [nv]
        have tz : nv (y.take q) = 0 := by
          rw [hy, List.take_left' (by rw [List.length_replicate]), nv_zeros]
        have last : y.getD (q + z.length) 0 = 0 := by
          rw [hy, List.getD_eq_getElem?_getD, List.getElem?_append_right (by rw [List.length_replicate]; exact Nat.le_add_right _ _), List.length_replicate, Nat.add_sub_cancel_left, List.getElem?_append_right (Nat.le_refl _), Nat.sub_self]
          rfl
        have e3 : wrap64 ((y.length : Int) - 1) = ((q + z.length : Nat) : Int) := by rw [ly]; clear ea em et e1 e2; unfold wrap64; omega
        have pw : nv z * 2 ^ n = nv y * 2 ^ s := by
          rw [ny, hnq, Int.pow_add]
          generalize (2 : Int) ^ (64 * q) = p
          generalize (2 : Int) ^ s = t
          clear ea em et e1 e2 e3
          grind
        rw [pw]
        by_cases hs0 : s = 0
        · have c8 : ¬ ((s : Nat) : Int) > 0 := by clear ea em et e1 e2 e3; omega
          rw [if_neg c8, nat_bound.f_bnd wy (by rw [ly]; exact c2) k (by rw [ly]; exact c5), hs0, Int.pow_zero, Int.mul_one]
          rfl
        · have c8 : ((s : Nat) : Int) > 0 := by clear ea em et e1 e2 e3; omega
          rw [if_pos c8, e3]
          refine nat_Shl.l0_eq y wy q s (q + z.length + 1) _ ea (by clear ea em et e1 e2 e3; omega) (by clear ea em et e1 e2 e3; omega) c2 ly tz z.length k y _ rfl c7 c6 ly wy rfl ?_
          rw [last, List.drop_eq_nil_of_le (by rw [ly]; exact Nat.le_refl _)]
          simp [nv]
end Go.Proofs.YtoannkopciehcaaDoor.PA

namespace Go.Proofs.YtoannkopciehcaaDoor.PA
open Go Go.RowKit Go.Proofs.YtoannkopciehcaaDoorW.PrintWords Go.Proofs.YtoannkopciehcaaDoorW.PrintLast Go.Proofs.YtoannkopciehcaaDoorW.PrintMore
set_option linter.unusedVariables false
set_option linter.unusedSimpArgs false
theorem i64_and_one (a : Nat) (ha : a < 9223372036854775808) : Go.bits .and .i64 (a : Int) 1 = ((a % 2 : Nat) : Int) := by
  show IntKind.i64.wrap ((BitVec.ofInt 64 (a : Int) &&& BitVec.ofInt 64 ((1 : Nat) : Int)).toNat : Int) = _
  rw [BitVec.toNat_and, ofInt_u64 a (by omega), ofInt_u64 1 (by omega), IntKind.wrap_i64, Nat.and_one_is_mod]
  omega
theorem wd_length_le {n : Nat} {m : Nat} (h : n < 2 ^ (64 * m)) : (wd n).length ≤ m := by
  have h1 := (strip_len_le (wd_ws n) m).2 (by rw [nv_wd, p2cast]; exact Int.ofNat_lt.2 h)
  rwa [strip_wd] at h1
theorem toNat_lt_of {n : Int} {N : Nat} (hN : 0 < N) (h : n < (N : Int)) : n.toNat < N := by omega
theorem wd_len_int {n : Int} {m : Nat} (h : n < 2 ^ (64 * m)) : (wd n.toNat).length ≤ m := by
  rw [p2cast] at h
  exact wd_length_le (toNat_lt_of (Nat.pow_pos (by decide)) h)
theorem bnd_fst_len (n : Int) : (bnd n).1.length ≤ 4096 := by
  unfold bnd
  split
  · rename_i h
    exact wd_len_int (m := 4096) h
  · exact Nat.zero_le _
theorem bnd_fst_ws (n : Int) : Ws (bnd n).1 := by
  unfold bnd
  split
  · exact wd_ws _
  · exact Ws.nil
theorem bnd_fst_nv {n : Int} (h0 : 0 ≤ n) (h : n < 2 ^ 262144) : nv (bnd n).1 = n := by
  rw [bnd_small h, nv_wd]
  exact Int.toNat_of_nonneg h0
theorem bnd_snd {n : Int} (h : n < 2 ^ 262144) : (bnd n).2 = 0 := by rw [bnd_small h]
theorem pow_le_pow {b : Int} (hb : 1 ≤ b) {m n : Nat} (h : m ≤ n) : b ^ m ≤ b ^ n := by
  obtain ⟨c, rfl⟩ := Int.eq_ofNat_of_zero_le (show 0 ≤ b by omega)
  have hc : 0 < c := by omega
  have := Nat.pow_le_pow_right hc h
  rw [← Int.natCast_pow, ← Int.natCast_pow]
  exact Int.ofNat_le.2 this
/-- b^n, by its bits from above -/
theorem quot_Pow.l0_eq (z : List Int) (hz : Ws z) (lz : z.length ≤ 4096) (hb : 1 ≤ nv z) (n : Nat) (hn : n < 9223372036854775808) : ∀ (j k : Nat) (x : List Int), j ≤ 64 → j + 20000000 < k → Ws x → x.length ≤ 4096 → nv x = nv z ^ (n / 2 ^ j) →
    (x = wd (nv z ^ (n / 2 ^ j)).toNat) → nv z ^ (n / 2 ^ j) < 2 ^ 262144 → quot_Pow.l0 k z (n : Int) x ((j : Int) - 1) = some (bnd (nv z ^ n)) := by
  intro j
  induction j with
  | zero =>
    intro k x hj hk hw hl hv hx hs
    obtain ⟨k, rfl⟩ : ∃ i, k = i + 1 := ⟨k - 1, by clear hv hs; omega⟩
    have c1 : ¬ (((0 : Nat) : Int) - 1 ≥ 0) := by decide
    simp only [quot_Pow.l0]
    rw [if_neg c1]
    rw [Nat.pow_zero, Nat.div_one] at hx hs
    rw [bnd_small hs, ← hx]
  | succ j ih =>
    intro k x hj hk hw hl hv hx hs
    obtain ⟨k, rfl⟩ : ∃ i, k = i + 1 := ⟨k - 1, by clear hv hs; omega⟩
    have e1 : ((j + 1 : Nat) : Int) - 1 = (j : Int) := by omega
    have e2 : n / 2 ^ j = 2 * (n / 2 ^ (j + 1)) + n / 2 ^ j % 2 := by
      rw [Nat.pow_succ, ← Nat.div_div_eq_div_mul]
      omega
    have hle : n / 2 ^ j ≤ n := Nat.div_le_self _ _
    have ep : nv x * nv x = nv z ^ (2 * (n / 2 ^ (j + 1))) := by rw [hv, ← Int.pow_add]; congr 1; clear hv hs e1; omega
    have hpos : ∀ m, 0 < nv z ^ m := fun m => Int.pow_pos (by omega)
    have c1 : ((j : Nat) : Int) ≥ 0 := Int.natCast_nonneg _
    have esh : shr .i64 (n : Int) (j : Int) = ((n / 2 ^ j : Nat) : Int) := by
      show (n : Int) / 2 ^ (min (Int.toNat (j : Int)) 64) = _
      rw [Int.toNat_natCast, Nat.min_eq_left (by clear hv hs e1 c1; omega), p2cast, Int.natCast_ediv]
    have ebit : Go.bits .and .i64 ((n / 2 ^ j : Nat) : Int) 1 = ((n / 2 ^ j % 2 : Nat) : Int) := i64_and_one _ (Nat.lt_of_le_of_lt hle hn)
    have ew : wrap64 ((j : Int) - 1) = (j : Int) - 1 := by clear hv hs e1 c1 esh ebit ep; unfold wrap64; omega
    have hlx : x.length * (x.length + 2) ≤ 4096 * 4098 := Nat.mul_le_mul hl (by omega)
    have d1 : x.length * (x.length + 2) + x.length + x.length + 20 < k := by clear hv hs e1 c1 esh ebit ep ew; omega
    have d2 : j + 20000000 < k := by clear hv hs e1 c1 esh ebit ep ew; omega
    have d3 : j ≤ 64 := by clear hv hs e1 c1 esh ebit ep ew; omega
    have dl : x.length ≤ 1000000 := by clear hv hs e1 c1 esh ebit ep ew; omega
    have dz : z.length ≤ 1000000 := by clear hv hs e1 c1 esh ebit ep ew; omega
    have hne : ¬ nv z ^ (2 * (n / 2 ^ (j + 1))) = 0 := Int.ne_of_gt (hpos _)
    simp only [quot_Pow.l0]
    rw [e1, if_pos c1, nat_Mul.f_eq x x hw hw dl dl k d1, ep, if_neg hne]
    simp only [Option.bind_some]
    rw [if_pos c1, esh, ebit, ew]
    clear esh ebit ew e1
    generalize hP : bnd (nv z ^ (2 * (n / 2 ^ (j + 1)))) = P
    have wP : Ws P.1 := by rw [← hP]; exact bnd_fst_ws _
    have lP : P.1.length ≤ 4096 := by rw [← hP]; exact bnd_fst_len _
    have hlP : P.1.length * (z.length + 2) ≤ 4096 * 4098 := Nat.mul_le_mul lP (by clear hv hs ep hne; omega)
    have d4 : P.1.length * (z.length + 2) + P.1.length + z.length + 20 < k := by clear hv hs ep hne; omega
    have dP : P.1.length ≤ 1000000 := by clear hv hs ep hne; omega
    rw [nat_Mul.f_eq P.1 z wP hz dP dz k d4]
    simp only [Option.bind_some]
    by_cases hfit : nv z ^ (2 * (n / 2 ^ (j + 1))) < 2 ^ 262144
    · have s1 : P.2 = 0 := by rw [← hP]; exact bnd_snd hfit
      have s2 : nv P.1 = nv z ^ (2 * (n / 2 ^ (j + 1))) := by rw [← hP]; exact bnd_fst_nv (Int.le_of_lt (hpos _)) hfit
      rw [if_pos s1, if_pos s1]
      by_cases hbit : n / 2 ^ j % 2 = 1
      · have b1 : ((n / 2 ^ j % 2 : Nat) : Int) = 1 := by rw [hbit]; rfl
        have e3 : nv P.1 * nv z = nv z ^ (n / 2 ^ j) := by rw [s2, ← Int.pow_succ]; congr 1; rw [hbit] at e2; clear hv hs ep hne b1 s1 s2; omega
        have hne2 : ¬ nv z ^ (n / 2 ^ j) = 0 := Int.ne_of_gt (hpos _)
        rw [if_pos b1, e3, if_neg hne2]
        by_cases hf2 : nv z ^ (n / 2 ^ j) < 2 ^ 262144
        · rw [bnd_small hf2]
          simp only [if_true]
          exact ih k _ d3 d2 (wd_ws _) (by have := bnd_fst_len (nv z ^ (n / 2 ^ j)); rw [bnd_small hf2] at this; exact this) (by rw [nv_wd]; exact Int.toNat_of_nonneg (Int.le_of_lt (hpos _))) rfl hf2
        · have hf3 := Int.not_lt.1 hf2
          rw [bnd_big hf3, bnd_big (Int.le_trans hf3 (pow_le_pow hb hle)), if_neg (by decide)]
      · have b0 : ¬ ((n / 2 ^ j % 2 : Nat) : Int) = 1 := fun h => hbit (by clear hv hs ep hne; omega)
        have e3 : 2 * (n / 2 ^ (j + 1)) = n / 2 ^ j := by clear hv hs ep hne b0 s2 s1; omega
        rw [if_neg b0]
        rw [e3] at hfit s2 hP
        refine ih k _ d3 d2 wP lP s2 ?_ hfit
        rw [← hP, bnd_small hfit]
    · have hf3 := Int.not_lt.1 hfit
      have s1 : P = ([], 21) := by rw [← hP]; exact bnd_big hf3
      have hle2 : 2 * (n / 2 ^ (j + 1)) ≤ n := by clear hv hs ep hne hfit hf3; omega
      rw [s1, bnd_big (Int.le_trans hf3 (pow_le_pow hb hle2))]
      simp
end Go.Proofs.YtoannkopciehcaaDoor.PA

namespace Go.Proofs.YtoannkopciehcaaDoor.PA
open Go Go.RowKit Go.Proofs.YtoannkopciehcaaDoorW.PrintWords Go.Proofs.YtoannkopciehcaaDoorW.PrintLast Go.Proofs.YtoannkopciehcaaDoorW.PrintMore
set_option linter.unusedVariables false
set_option linter.unusedSimpArgs false
theorem pow_pow_le {a b : Int} (ha : 0 ≤ a) (h : a ≤ b) (n : Nat) : a ^ n ≤ b ^ n := by
  induction n with
  | zero => simp
  | succ n ih =>
    rw [Int.pow_succ, Int.pow_succ]
    exact Int.mul_le_mul ih h ha (Int.le_trans (Int.pow_nonneg ha) ih)
theorem wd_one : wd 1 = [1] := by rw [wd_pos (by decide)]; rw [show 1 / 18446744073709551616 = 0 from rfl, wd_zero]; rfl
theorem nat_From.one : nat_From.f 1 = some [1] := by
  simp [nat_From.f, nat_Norm.f, strip]
theorem quot_Pow.f_eq (l : List Int) (h : Ws l) (hl : l.length ≤ 4096) (n : Int) (hn : n < 9223372036854775808) (k : Nat) (hk : 30000000 < k) :
    quot_Pow.f k l n = some (if n < 0 then ([], 31) else if n = 0 then ([1], 0) else if nv l < 2 then (strip l, 0) else bnd (nv l ^ n.toNat)) := by
  have hsl := strip_length_le l
  rw [quot_Pow.f, nat_Norm.f, if_pos (by omega)]
  simp only [Option.bind_some]
  have el := nv_strip l
  have wl := h.strip
  rw [nat_Bits.f_eq (strip l) wl (by omega) k (by omega) (by omega), el]
  simp only [Option.bind_some]
  have nz := nv_nonneg h
  by_cases h0 : n < 0
  · rw [if_pos h0, if_pos h0]
  · rw [if_neg h0, if_neg h0]
    by_cases h1 : n = 0
    · rw [if_pos h1, if_pos h1, nat_From.one]; rfl
    · rw [if_neg h1, if_neg h1]
      obtain ⟨n, rfl⟩ : ∃ j : Nat, n = (j : Int) := ⟨n.toNat, by omega⟩
      rw [Int.toNat_natCast]
      have hb2 : bitsN (nv l) < 2 ↔ nv l < 2 := by
        constructor
        · intro h2
          have := lt_of_bitsN_le (n := 1) nz (by omega)
          exact this
        · intro h2
          have := bitsN_le_of_lt (n := 1) nz h2
          omega
      by_cases h2 : nv l < 2
      · rw [if_pos (hb2.2 h2), if_pos h2]
      · have hp : 0 < nv l := by omega
        rw [if_neg (fun h3 => h2 (hb2.1 h3)), if_neg h2]
        have b2 : 2 ≤ bitsN (nv l) := by
          have := hb2
          omega
        have bx := bitsN_ge hp
        have bx2 := bitsN_le_of_lt (n := 64 * l.length) nz (nv_lt h)
        generalize ht : bitsN (nv l) = t at *
        clear hb2
        have ew : wrap64 (t - 1) = t - 1 := by clear bx; unfold wrap64; omega
        have hne : ¬ t - 1 = 0 := by clear bx ew; omega
        rw [ew, if_neg hne]
        clear ew
        have hd0 : 0 ≤ 262144 / (t - 1) := Int.ediv_nonneg (by decide) (by clear bx; omega)
        have hd1 : 262144 / (t - 1) ≤ 262144 := Int.ediv_le_self _ (by decide)
        have ew2 : wrap64 (Int.tdiv (262144 : Int) (t - 1)) = 262144 / (t - 1) := by
          rw [Int.tdiv_eq_ediv_of_nonneg (by decide)]
          clear bx
          unfold wrap64; omega
        rw [ew2]
        clear ew2
        by_cases h3 : (n : Int) > 262144 / (t - 1)
        · rw [if_pos h3, bnd_big]
          have h4 : 262144 < (n : Int) * (t - 1) := Int.lt_mul_of_ediv_lt (by clear bx hd0 hd1; omega) h3
          have h5 := pow_pow_le (Int.le_of_lt (two_pow_pos (t.toNat - 1))) bx n
          rw [← Int.pow_mul] at h5
          refine Int.le_trans (pow_mono ?_) h5
          have e6 : (((t.toNat - 1) * n : Nat) : Int) = (n : Int) * (t - 1) := by
            rw [Int.natCast_mul, Int.mul_comm, show ((t.toNat - 1 : Nat) : Int) = t - 1 from by clear h5 bx h4 hd0 hd1; omega]
          have h7 : (262144 : Int) ≤ (((t.toNat - 1) * n : Nat) : Int) := by rw [e6]; exact Int.le_of_lt h4
          exact Int.ofNat_le.1 h7
        · have hn2 : n ≤ 262144 := by clear bx; omega
          clear hd0 hd1
          have en : IntKind.u64.wrap (n : Int) = (n : Int) := u64w_of (Int.natCast_nonneg _) (by clear bx h3; omega)
          have hn0 : 0 < (n : Int) := by clear bx h3 en; omega
          rw [if_neg h3, nat_From.one, en]
          simp only [Option.bind_some]
          rw [wide_Len.f_eq (Int.natCast_nonneg _) (by clear bx h3 en; omega) k (by clear bx h3 en; omega)]
          simp only [Option.bind_some]
          have hbn := bitsN_lt hn0
          have hbn2 := bitsN_le_of_lt (n := 63) (Int.natCast_nonneg n) hn
          have hbn0 := bitsN_nonneg (n : Int)
          generalize bitsN (n : Int) = u at *
          obtain ⟨u, rfl⟩ : ∃ j : Nat, u = (j : Int) := ⟨u.toNat, by clear bx h3 en hbn; omega⟩
          have ew3 : wrap64 ((u : Int) - 1) = (u : Int) - 1 := by clear bx h3 en hbn; unfold wrap64; omega
          rw [ew3]
          clear ew3 en
          rw [Int.toNat_natCast, p2cast] at hbn
          have hdz : n / 2 ^ u = 0 := Nat.div_eq_of_lt (Int.ofNat_lt.1 hbn)
          have hone : (1 : Int) < 2 ^ 262144 := Int.lt_of_lt_of_le (show (1 : Int) < 2 ^ 1 by decide) (pow_mono (by decide))
          have r := quot_Pow.l0_eq (strip l) wl (by clear bx h3 hbn hone; omega) (by rw [el]; clear bx h3 hbn hone; omega) n (by clear bx h3 hbn hone; omega) u k [1] (by clear bx h3 hbn hone; omega) (by clear bx h3 hbn hone; omega) (Ws.cons (by decide) (by decide) Ws.nil) (by decide) (by rw [hdz, Int.pow_zero]; rfl) (by rw [hdz, Int.pow_zero]; exact wd_one.symm) (by rw [hdz, Int.pow_zero]; exact hone)
          rw [r, el]
end Go.Proofs.YtoannkopciehcaaDoor.PA

namespace Go.Proofs.YtoannkopciehcaaDoor.PA
open Go Go.RowKit Go.Proofs.YtoannkopciehcaaDoorW.PrintWords Go.Proofs.YtoannkopciehcaaDoorW.PrintLast Go.Proofs.YtoannkopciehcaaDoorW.PrintMore
set_option linter.unusedVariables false
set_option linter.unusedSimpArgs false
theorem fits {b : Int} (c : Nat) (hb : b = (c : Int)) {n m : Nat} (h : Nat.ble (c ^ n + 1) (2 ^ m) = true) : b ^ n < 2 ^ m := by
  rw [hb, ← Int.natCast_pow, p2cast]
  exact Int.ofNat_lt.2 (Nat.le_of_ble_eq_true h)
theorem five_fits : (5 : Int) ^ 112899 < 2 ^ 262144 := fits 5 rfl (by kernel_rfl)
theorem ten_fits : (10 : Int) ^ 78913 < 2 ^ 262144 := fits 10 rfl (by kernel_rfl)
theorem five_lt {n : Nat} (h : n ≤ 112899) : (5 : Int) ^ n < 2 ^ 262144 := by
  exact Int.lt_of_le_of_lt (pow_le_pow (by decide) h) five_fits
theorem ten_lt {n : Nat} (h : n ≤ 78913) : (10 : Int) ^ n < 2 ^ 262144 := by
  exact Int.lt_of_le_of_lt (pow_le_pow (by decide) h) ten_fits
theorem ws_five : Ws [5] := Ws.cons (by decide) (by decide) Ws.nil
theorem radix_Five.f_eq (n : Int) (hn : n < 9223372036854775808) (k : Nat) (hk : 30000000 < k) :
    radix_Five.f k n = some (if n > 112899 then ([], 21) else if n < 0 then ([], 31) else (wd ((5 : Int) ^ n.toNat).toNat, 0)) := by
  rw [radix_Five.f]
  by_cases h : n > 112899
  · rw [if_pos h, if_pos h]
  · rw [if_neg h, if_neg h, quot_Pow.f_eq [5] ws_five (by decide) n hn k hk]
    simp only [Option.bind_some]
    have e5 : nv [5] = 5 := rfl
    by_cases h0 : n < 0
    · rw [if_pos h0, if_pos h0]
    · rw [if_neg h0, if_neg h0, e5]
      by_cases h1 : n = 0
      · rw [if_pos h1, h1]
        show some (([1] : List Int), (0 : Int)) = some (wd 1, 0)
        rw [wd_one]
      · rw [if_neg h1, if_neg (by decide), bnd_small (five_lt (n := n.toNat) (by omega))]
theorem five_nonneg (n : Nat) : 0 ≤ (5 : Int) ^ n := Int.pow_nonneg (by decide)
theorem radix_Ten.f_eq (n : Int) (hn : n < 9223372036854775808) (k : Nat) (hk : 30000000 < k) :
    radix_Ten.f k n = some (if n > 78913 then ([], 21) else if n < 0 then ([], 31) else (wd ((10 : Int) ^ n.toNat).toNat, 0)) := by
  rw [radix_Ten.f]
  by_cases h : n > 78913
  · rw [if_pos h, if_pos h]
  · rw [if_neg h, if_neg h, radix_Five.f_eq n hn k hk, if_neg (by omega)]
    simp only [Option.bind_some]
    by_cases h0 : n < 0
    · rw [if_pos h0, if_neg (by decide), if_pos h0]
    · rw [if_neg h0, if_pos rfl]
      have hl := bnd_fst_len (5 ^ n.toNat)
      rw [bnd_small (five_lt (n := n.toNat) (by omega))] at hl
      have hl2 : (wd (5 ^ n.toNat : Int).toNat).length ≤ 1000000 := Nat.le_trans hl (by decide)
      have e5 : nv (wd (5 ^ n.toNat : Int).toNat) = 5 ^ n.toNat := by rw [nv_wd, Int.toNat_of_nonneg (five_nonneg _)]
      have e10 : (5 : Int) ^ n.toNat * 2 ^ n.toNat = 10 ^ n.toNat := by rw [← Int.mul_pow]; rfl
      have hp : (0 : Int) < 5 ^ n.toNat := Int.pow_pos (by decide)
      rw [nat_Shl.f_eq _ (wd_ws _) hl2 n hn k (by omega), if_neg h0, e5, if_neg (Int.ne_of_gt hp), e10, bnd_small (ten_lt (n := n.toNat) (by omega)), if_neg h0]
      rfl
end Go.Proofs.YtoannkopciehcaaDoor.PA
