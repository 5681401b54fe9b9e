/- RadixSums: for every list of words and all numbers the law's printed function tells true. No conditions but that the list's words are words and that it is no longer than a list can be. -/
import Derived.Test.YtpnffhacmamilaaZLBLB
import Derived.OpenShut
namespace Go.Proofs.Ytpnffhacmamilaa.Pure
open Go Go.RowKit Go.Proofs.Ytpnffhacmamilaa.PA Go.Proofs.YtpnffhacmamilaaW.PrintWords Go.Proofs.YtpnffhacmamilaaW.PrintLast
set_option linter.unusedVariables false
set_option linter.unusedSimpArgs false
theorem nv_pow (b : Nat) (n : Nat) : nv (wd ((b : Int) ^ n).toNat) = (b : Int) ^ n := by
  rw [nv_wd, Int.toNat_of_nonneg (Int.pow_nonneg (by omega))]
theorem pow_words {b : Nat} {n : Nat} (h : (b : Int) ^ n < (2 : Int) ^ 262144) : (wd ((b : Int) ^ n).toNat).length ≤ 4096 := by
  have := bnd_fst_len ((b : Int) ^ n)
  rw [bnd_small h] at this
  exact this
theorem mul_pows (b : Nat) (hb : 2 ≤ b) (m n : Nat) (h : (b : Int) ^ (m + n) < (2 : Int) ^ 262144) (k : Nat) (hk : 30000000 < k) : nat_Mul.f k (wd ((b : Int) ^ m).toNat) (wd ((b : Int) ^ n).toNat) = some (wd ((b : Int) ^ (m + n)).toNat, 0) := by
  have h1 : (1 : Int) ≤ b := by clear h; omega
  have l1 := pow_words (n := m) (Int.lt_of_le_of_lt (pow_le_pow h1 (Nat.le_add_right m n)) h)
  have l2 := pow_words (n := n) (Int.lt_of_le_of_lt (pow_le_pow h1 (Nat.le_add_left n m)) h)
  have hq : (wd ((b : Int) ^ m).toNat).length * ((wd ((b : Int) ^ n).toNat).length + 2) ≤ 4096 * 4098 := Nat.mul_le_mul l1 (Nat.add_le_add_right l2 2)
  have hp : (0 : Int) < (b : Int) ^ (m + n) := Int.pow_pos (by clear h; omega)
  rw [nat_Mul.f_eq _ _ (wd_ws _) (wd_ws _) (Nat.le_trans l1 (by decide)) (Nat.le_trans l2 (by decide)) k (by clear h hp; omega), nv_pow, nv_pow, ← Int.pow_add, if_neg (Int.ne_of_gt hp), bnd_small h]
theorem sums_tail (l0 : List Int) (hw : Ws l0) (hl : l0.length ≤ 17592186044416) (m : Nat) (hm : m < 700) (k : Nat) (hk : 10000000000000 + l0.length * 4200 < k) :
    plumblaw04_RadixSums.j0 k l0 (m : Int) (wd ((10 : Int) ^ m).toNat) false = some true := by
  obtain ⟨k, rfl⟩ : ∃ j, k = j + 1 := ⟨k - 1, by omega⟩
  have hten := ten_lt (n := m) (by omega)
  have l1 := pow_words (b := 10) (n := m) hten
  have l1' : (wd ((10 : Int) ^ m).toNat).length ≤ 4096 := l1
  have v1 : nv (wd ((10 : Int) ^ m).toNat) = (10 : Int) ^ m := nv_pow 10 m
  have hp : (0 : Int) < (10 : Int) ^ m := Int.pow_pos (by decide)
  have hn := nv_nonneg hw
  have hq : l0.length * ((wd ((10 : Int) ^ m).toNat).length + 2) ≤ l0.length * 4098 := Nat.mul_le_mul_left _ (Nat.add_le_add_right l1' 2)
  have kk : 30000000 < k := by clear hten v1 hp; omega
  have km : l0.length * ((wd ((10 : Int) ^ m).toNat).length + 2) + l0.length + (wd ((10 : Int) ^ m).toNat).length + 1000000 * 1000003 + 1000020 < k := by clear hten v1 hp; omega
  have hl2 : l0.length ≤ 35184372088832 := by clear hten v1 hp; omega
  rw [plumblaw04_RadixSums.j0, if_neg (by decide), nat_Mul.f_any l0 _ hw (wd_ws _) hl (Nat.le_trans l1' (by decide)) (by rw [v1]; exact Int.ne_of_gt hp) k km, v1]
  simp only [Option.bind_some]
  by_cases h0 : nv l0 = 0
  · have hN : nat_Norm.f l0 = some [] := by rw [nat_Norm.f, if_pos hl2, (strip_nil_iff hw).2 h0]
    have hT : plumblaw04_pow.f k 0 = some [1] := by
      rw [plumblaw04_pow.f, radix_Ten.f_eq 0 (by decide) k kk]
      simp only [Option.bind_some]
      rw [if_neg (by decide), if_neg (by decide)]
      have ep : ((10 : Int) ^ (0 : Int).toNat).toNat = 1 := rfl
      rw [ep, wd_one]
    have hz : nv [] * nv [1] = 0 := Int.zero_mul _
    have hM0 : nat_Mul.f k [] [1] = some ([], 0) := by
      rw [nat_Mul.f_eq [] [1] Ws.nil (Ws.cons (by decide) (by decide) Ws.nil) (by decide) (by decide) k (by rw [List.length_nil, List.length_singleton]; clear hten v1 hp; omega), if_pos hz]
    have hT0 : radix_Trim.f k [] = some ([], 0) := radix_Trim.zero [] Ws.nil (by decide) rfl k
    rw [if_pos h0, if_pos rfl, radix_Trim.zero l0 hw hl2 h0 k, Option.bind_some, hT0, Option.bind_some, hT, Option.bind_some, hM0, Option.bind_some, hN, Option.bind_some]
    have hlz : ((([] : List Int).length : Nat) : Int) = 0 := rfl
    rw [if_pos hlz, if_pos hlz, if_pos rfl, if_pos hlz]
    rfl
  · rw [if_neg h0]
    by_cases hb : nv l0 * (10 : Int) ^ m < (2 : Int) ^ 262144
    · rw [bnd_small hb, if_pos rfl]
      have hx0 : 0 < nv l0 := by clear hten v1 hp hb; omega
      have hle : nv l0 ≤ nv l0 * (10 : Int) ^ m := by
        have : nv l0 * 1 ≤ nv l0 * (10 : Int) ^ m := Int.mul_le_mul_of_nonneg_left hp hn
        rw [Int.mul_one] at this
        exact this
      have hxb : nv l0 < (2 : Int) ^ 262144 := Int.lt_of_le_of_lt hle hb
      obtain ⟨u, v, e1, e2⟩ := tens_split (nv l0).toNat (by clear hten v1 hp hb hxb hle; omega)
      have eN : nv l0 = ((u * 10 ^ v : Nat) : Int) := by rw [← e1, Int.toNat_of_nonneg hn]
      have e10 : (10 : Int) ^ m = ((10 ^ m : Nat) : Int) := (Int.natCast_pow 10 m).symm
      have e3 : (nv l0 * (10 : Int) ^ m).toNat = u * 10 ^ (v + m) := by
        rw [eN, e10, ← Int.natCast_mul, Int.toNat_natCast, Nat.mul_assoc, ← Nat.pow_add]
      have lY : (wd (nv l0 * (10 : Int) ^ m).toNat).length ≤ 4096 := wd_len_int (m := 4096) hb
      have vY : nv (wd (nv l0 * (10 : Int) ^ m).toNat) = nv l0 * (10 : Int) ^ m := by
        rw [nv_wd, Int.toNat_of_nonneg (Int.le_trans hn hle)]
      have hu0 : u ≠ 0 := fun h => by subst h; exact e2 rfl
      have hv10 : ((10 ^ v : Nat) : Int) < (2 : Int) ^ 262144 := by
        apply Int.lt_of_le_of_lt _ hxb
        rw [eN]
        apply Int.ofNat_le.2
        have : 1 * 10 ^ v ≤ u * 10 ^ v := Nat.mul_le_mul_right _ (Nat.one_le_iff_ne_zero.2 hu0)
        rw [Nat.one_mul] at this
        exact this
      have hv : v ≤ 78913 := by
        apply Classical.byContradiction
        intro hc
        have h3 : (10 : Int) ^ 78914 ≤ 10 ^ v := pow_le_pow (by decide) (Nat.not_le.1 hc)
        have h4 : (10 : Int) ^ v = ((10 ^ v : Nat) : Int) := (Int.natCast_pow 10 v).symm
        rw [h4] at h3
        exact Int.not_le.2 (Int.lt_of_le_of_lt h3 hv10) ten_over
      have ku : 2000000 < k := by clear hten v1 hp hb hxb hle e3 vY hv10; omega
      have uu : ((u : Nat) : Int) < (2 : Int) ^ 262144 := by
        apply Int.lt_of_le_of_lt _ hxb
        rw [eN]
        apply Int.ofNat_le.2
        exact Nat.le_mul_of_pos_right u (Nat.pow_pos (by decide))
      have lU : (wd u).length ≤ 4096 := by
        have := wd_len_int (n := (u : Int)) (m := 4096) uu
        rw [Int.toNat_natCast] at this
        exact this
      have hP : plumblaw04_pow.f k (v : Int) = some (wd ((10 : Int) ^ v).toNat) := by
        rw [plumblaw04_pow.f, radix_Ten.f_eq (v : Int) (by clear hten v1 hp hb hxb hle e3 vY hv10 uu; omega) k kk]
        simp only [Option.bind_some]
        rw [if_neg (by clear hten v1 hp hb hxb hle e3 vY hv10 uu; omega), if_neg (by clear hten v1 hp hb hxb hle e3 vY hv10 uu; omega), Int.toNat_natCast]
      have lP := pow_words (b := 10) (n := v) (ten_lt hv)
      have lP' : (wd ((10 : Int) ^ v).toNat).length ≤ 4096 := lP
      have vP : nv (wd ((10 : Int) ^ v).toNat) = (10 : Int) ^ v := nv_pow 10 v
      have hq2 : (wd u).length * ((wd ((10 : Int) ^ v).toNat).length + 2) ≤ 4096 * 4098 := Nat.mul_le_mul lU (Nat.add_le_add_right lP' 2)
      have hM : nat_Mul.f k (wd u) (wd ((10 : Int) ^ v).toNat) = some (strip l0, 0) := by
        rw [nat_Mul.f_eq _ _ (wd_ws _) (wd_ws _) (Nat.le_trans lU (by decide)) (Nat.le_trans lP' (by decide)) k (by clear hten v1 hp hb hxb hle e3 vY hv10 uu vP; omega), nv_wd, vP]
        have e5 : (u : Int) * (10 : Int) ^ v = nv l0 := by rw [eN, Int.natCast_mul, Int.natCast_pow]; rfl
        rw [e5, if_neg h0, bnd_small hxb, wd_nv hw]
      have hs0 : ¬ ((strip l0).length : Int) = 0 := by
        intro h4
        exact h0 ((strip_nil_iff hw).1 (List.eq_nil_of_length_eq_zero (Int.ofNat.inj h4)))
      have hr : ¬ (nv (wd u) % 10 = 0) := by
        rw [nv_wd]
        clear hten v1 hp hb hxb hle e3 vY hv10 uu vP
        omega
      have ew : wrap64 ((v : Int) + (m : Int)) = ((v + m : Nat) : Int) := w64_add v m (by clear hten v1 hp hb hxb hle e3 vY hv10 uu vP; omega)
      have hT1 := radix_Trim.f_eq l0 hw hl2 hxb u v e2 e1 k ku
      have hT2 := radix_Trim.f_eq _ (wd_ws _) (Nat.le_trans lY (by decide)) (by rw [vY]; exact hb) u (v + m) e2 (by rw [vY]; exact e3) k ku
      have hN : nat_Norm.f l0 = some (strip l0) := by rw [nat_Norm.f, if_pos hl2]
      have hS := quot_Small.f_eq (wd u) (wd_ws u) 10 (by decide) (by decide) (Nat.le_trans lU (by decide)) k (Nat.lt_of_le_of_lt lU (Nat.lt_trans (by decide) kk))
      have hE := plumblaw04_eq.f_eq (wd u) (wd u) (Nat.le_trans lU (by decide)) k (Nat.lt_of_le_of_lt lU (Nat.lt_trans (by decide) kk))
      have lS : (strip l0).length ≤ 4096 := (strip_len_le hw 4096).2 hxb
      have hE2 := plumblaw04_eq.f_eq (strip l0) (strip l0) (Nat.le_trans lS (by decide)) k (Nat.lt_of_le_of_lt lS (Nat.lt_trans (by decide) kk))
      rw [decide_eq_true rfl] at hE hE2
      rw [hT1, Option.bind_some, hT2, Option.bind_some, hP, Option.bind_some, hM, Option.bind_some, hN, Option.bind_some, if_neg hs0, hS, Option.bind_some, hE, Option.bind_some, if_pos rfl, ew, if_pos rfl, if_neg hr, Option.bind_some, hE2]
      rfl
    · rw [bnd_big (Int.not_lt.1 hb), if_neg (by decide)]
theorem RadixSums : plumblaw04_RadixSums.Pure := by
  intro l0 a1 a2 hml hl8 hws hw1 hw2
  have hw : Ws l0 := fun x hx => ⟨(bounds_u64 (hws x hx)).1, Int.lt_add_one_of_le (bounds_u64 (hws x hx)).2⟩
  obtain ⟨m, hm, e1⟩ : ∃ m : Nat, m < 700 ∧ wrap64 (Int.tmod (IntKind.u64.wrap a1) 700) = (m : Int) := by
    have h1 := u64w_range a1
    generalize IntKind.u64.wrap a1 = z at *
    refine ⟨(z % 700).toNat, by omega, ?_⟩
    rw [Int.tmod_eq_emod_of_nonneg h1.1]
    unfold wrap64; omega
  obtain ⟨n, hn, e2⟩ : ∃ n : Nat, n < 700 ∧ wrap64 (Int.tmod (IntKind.u64.wrap a2) 700) = (n : Int) := by
    have h1 := u64w_range a2
    clear e1
    generalize IntKind.u64.wrap a2 = z at *
    refine ⟨(z % 700).toNat, by omega, ?_⟩
    rw [Int.tmod_eq_emod_of_nonneg h1.1]
    unfold wrap64; omega
  refine ⟨20000000000000 + l0.length * 4200, ?_⟩
  rw [plumblaw04_RadixSums.f, e1, e2]
  clear e1 e2
  have e3 := w64_add m n (by omega)
  have e4 := w64_succ (m + n) (by omega)
  rw [e3, e4]
  clear e3 e4
  have kk : 9000000000 < 20000000000000 + l0.length * 4200 := by omega
  have kt : 10000000000000 + l0.length * 4200 < 20000000000000 + l0.length * 4200 := by omega
  generalize 20000000000000 + l0.length * 4200 = k at *
  have k3 : 30000000 < k := by omega
  have five : ∀ i : Nat, i ≤ 1400 → radix_Five.f k (i : Int) = some (wd ((5 : Int) ^ i).toNat, 0) := by
    intro i hi
    rw [radix_Five.f_eq (i : Int) (by omega) k k3, if_neg (by omega), if_neg (by omega), Int.toNat_natCast]
  have ten : ∀ i : Nat, i ≤ 1400 → radix_Ten.f k (i : Int) = some (wd ((10 : Int) ^ i).toNat, 0) := by
    intro i hi
    rw [radix_Ten.f_eq (i : Int) (by omega) k k3, if_neg (by omega), if_neg (by omega), Int.toNat_natCast]
  have f5 := five_lt (n := m + n) (by omega)
  have f10 := ten_lt (n := m + n) (by omega)
  have l5 : (wd ((5 : Int) ^ (m + n)).toNat).length ≤ 4096 := pow_words (b := 5) f5
  have l10 : (wd ((10 : Int) ^ (m + n)).toNat).length ≤ 4096 := pow_words (b := 10) f10
  have q5 : nat_Mul.f k (wd ((5 : Int) ^ m).toNat) (wd ((5 : Int) ^ n).toNat) = some (wd ((5 : Int) ^ (m + n)).toNat, 0) := mul_pows 5 (by decide) m n f5 k k3
  have q10 : nat_Mul.f k (wd ((10 : Int) ^ m).toNat) (wd ((10 : Int) ^ n).toNat) = some (wd ((10 : Int) ^ (m + n)).toNat, 0) := mul_pows 10 (by decide) m n f10 k k3
  rw [five m (by clear f5 f10; omega)]
  simp only [Option.bind_some]
  rw [five n (by clear f5 f10; omega)]
  simp only [Option.bind_some]
  rw [five (m + n) (by clear f5 f10; omega)]
  simp only [Option.bind_some]
  rw [ten m (by clear f5 f10; omega)]
  simp only [Option.bind_some]
  rw [ten n (by clear f5 f10; omega)]
  simp only [Option.bind_some]
  rw [ten (m + n) (by clear f5 f10; omega)]
  simp only [Option.bind_some]
  rw [q5]
  simp only [Option.bind_some]
  rw [q10]
  simp only [Option.bind_some]
  rw [alive_at k (by clear f5 f10; omega)]
  simp only [Option.bind_some, if_true]
  have le5 := Nat.lt_of_le_of_lt l5 (show 4096 < k by clear f5 f10; omega)
  have le10 := Nat.lt_of_le_of_lt l10 (show 4096 < k by clear f5 f10; omega)
  rw [plumblaw04_eq.f_eq _ _ (Nat.le_trans l5 (by decide)) k le5, decide_eq_true rfl]
  simp only [Option.bind_some, if_true]
  rw [plumblaw04_eq.f_eq _ _ (Nat.le_trans l10 (by decide)) k le10, decide_eq_true rfl]
  simp only [Option.bind_some, if_true]
  have v10 : nv (wd ((10 : Int) ^ (m + n)).toNat) = (10 : Int) ^ (m + n) := nv_pow 10 (m + n)
  have eN : ((10 : Int) ^ (m + n)).toNat = 10 ^ (m + n) := by
    have : (10 : Int) ^ (m + n) = ((10 ^ (m + n) : Nat) : Int) := (Int.natCast_pow 10 (m + n)).symm
    rw [this, Int.toNat_natCast]
  rw [radix_Count.f_eq _ (wd_ws _) (Nat.le_trans l10 (by decide)) (by rw [v10]; exact f10) k kk, v10, eN, txt_size, if_neg (Nat.ne_of_gt (Nat.pow_pos (by decide))), dgs_pow_length (by decide)]
  simp only [Option.bind_some]
  have hlen : ((wd (10 ^ (m + n))).length : Int) ≠ 0 := by
    intro h
    have h1 := List.eq_nil_of_length_eq_zero (Int.ofNat.inj h)
    exact Nat.ne_of_gt (Nat.pow_pos (by decide)) (wd_eq_nil.1 h1)
  rw [if_pos trivial, beq_eq_false_iff_ne.2 hlen]
  exact sums_tail l0 hw (by clear f5 f10 v10; omega) m hm k kt
end Go.Proofs.Ytpnffhacmamilaa.Pure
