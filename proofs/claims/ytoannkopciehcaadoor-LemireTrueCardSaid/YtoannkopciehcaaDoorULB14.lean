/- A part of the proof (14). -/
import Derived.Test.YtoannkopciehcaaDoorULB13
namespace Go.Proofs.YtoannkopciehcaaDoor.PA
open Go Go.RowKit Go.Proofs.YtoannkopciehcaaDoorW.PrintWords Go.Proofs.YtoannkopciehcaaDoorW.PrintLast Go.Proofs.YtoannkopciehcaaDoorW.PrintMore
set_option linter.unusedVariables false
set_option linter.unusedSimpArgs false
theorem getD_of_le {xs : List Int} {n : Nat} (h : xs.length ≤ n) : xs.getD n 0 = 0 := by rw [List.getD_eq_getElem?_getD, List.getElem?_eq_none h]; rfl
theorem shr_step {w q a P R : Int} (hP : 0 < P) (hR : 0 < R) (hPR : P * R = 18446744073709551616) : (w + 18446744073709551616 * (q * P + a % P)) / P = 18446744073709551616 * q + (a * R % 18446744073709551616 + w / P) := by
  have e : a * R % 18446744073709551616 = R * (a % P) := shl_low hR (by rw [Int.mul_comm]; exact hPR)
  rw [e]
  have e2 : w + 18446744073709551616 * (q * P + a % P) = w + P * (18446744073709551616 * q + R * (a % P)) := by
    generalize a % P = r
    rw [← hPR]
    grind
  rw [e2, Int.add_mul_ediv_left _ _ (by omega)]
  omega
theorem quot_shr.l0_eq (x : List Int) (hx : Ws x) (s : Nat) (hs : s ≤ 63) (hm : x.length ≤ 35184372088832) : ∀ (n k : Nat) (out : List Int) (a : Int), n < k → n ≤ x.length → out.length = x.length → Ws out → 0 ≤ a → a < 18446744073709551616 → nv (x.drop n) % 2 ^ s = a % 2 ^ s → nv (out.drop n) = nv (x.drop n) / 2 ^ s →
    quot_shr.l0 k x (s : Int) out a ((n : Int) - 1) = some (wd (nv x / 2 ^ s).toNat) := by
  have hP := two_pow_pos s
  have hR := two_pow_pos (64 - s)
  have hPR := pow_split (s := s) (by omega)
  intro n
  induction n with
  | zero =>
    intro k out a hk hn hl hw ha0 ha hr hv
    obtain ⟨k, rfl⟩ : ∃ j, k = j + 1 := ⟨k - 1, by omega⟩
    unfold quot_shr.l0
    rw [if_neg (by omega), nat_Norm.f, if_pos (by omega)]
    simp only [Option.bind_some, List.drop_zero] at hv ⊢
    rw [← hv, wd_nv hw]
  | succ n ih =>
    intro k out a hk hn hl hw ha0 ha hr hv
    obtain ⟨k, rfl⟩ : ∃ j, k = j + 1 := ⟨k - 1, by omega⟩
    have ho := hx.getD n
    have er : ((n + 1 : Nat) : Int) - 1 = (n : Int) := by omega
    have hy : x.getD n 0 / 2 ^ s < 2 ^ (64 - s) := Int.ediv_lt_of_lt_mul hP (by rw [pow_split' (by omega)]; exact ho.2)
    have hy0 : 0 ≤ x.getD n 0 / 2 ^ s := Int.ediv_nonneg ho.1 (Int.le_of_lt hP)
    have hlow := shl_low (x := a) hR (pow_split' (s := s) (by omega))
    have g0 : 0 ≤ a % 2 ^ s := Int.emod_nonneg _ (Int.ne_of_gt hP)
    have g1 : a % 2 ^ s < 2 ^ s := Int.emod_lt_of_pos _ hP
    have hm1 := Int.emod_nonneg (a * 2 ^ (64 - s)) (show (18446744073709551616 : Int) ≠ 0 by decide)
    have hsum : a * 2 ^ (64 - s) % 18446744073709551616 + x.getD n 0 / 2 ^ s < 18446744073709551616 := by
      rw [hlow, ← pow_split' (s := s) (by omega)]
      have h3 : 2 ^ (64 - s) * (a % 2 ^ s + 1) ≤ 2 ^ (64 - s) * 2 ^ s := Int.mul_le_mul_of_nonneg_left g1 (Int.le_of_lt hR)
      rw [Int.mul_add, Int.mul_one] at h3
      omega
    unfold quot_shr.l0
    rw [er, if_pos (by omega), if_pos (by omega), if_pos (by omega), rdn, wide_Shr.f_eq hs ha0 ha ho.1 ho.2]
    simp only [Option.bind_some]
    rw [if_pos (by omega), Int.toNat_natCast, w64_of (by omega) (by omega)]
    have q4 : n < out.length := by omega
    have q5 : n < x.length := by omega
    refine ih k _ _ (by omega) (by omega) (by rw [List.length_set]; exact hl) (hw.set _ (by omega) hsum) ho.1 ho.2 ?_ ?_
    · rw [drop_getD q5, nv_cons]
      have e : (18446744073709551616 : Int) = 2 ^ s * 2 ^ (64 - s) := hPR.symm
      rw [e, Int.mul_assoc, Int.add_mul_emod_self_left]
    · rw [drop_set_self q4, drop_getD q5, nv_cons, nv_cons, hv]
      have e := Int.mul_ediv_add_emod (nv (x.drop (n + 1))) (2 ^ s)
      rw [hr] at e
      have h := shr_step (w := x.getD n 0) (q := nv (x.drop (n + 1)) / 2 ^ s) (a := a) hP hR hPR
      rw [Int.mul_comm (nv (x.drop (n + 1)) / 2 ^ s) (2 ^ s), e] at h
      rw [h]
      omega
theorem quot_shr.f_eq (x : List Int) (hx : Ws x) (s : Nat) (hs : s ≤ 63) (hm : x.length ≤ 35184372088832) (k : Nat) (hk : x.length < k) : quot_shr.f k x (s : Int) = some (wd (nv x / 2 ^ s).toNat) := by
  rw [quot_shr.f, if_pos (by omega), Int.toNat_natCast, if_pos hm, w64_of (by omega) (by omega)]
  exact quot_shr.l0_eq x hx s hs hm x.length k _ 0 hk (Nat.le_refl _) (by simp) (Ws.zeros _) (by decide) (by decide) (by rw [List.drop_eq_nil_of_le (Nat.le_refl _)]; simp [nv]) (by rw [List.drop_eq_nil_of_le (Nat.le_refl _), List.drop_eq_nil_of_le (by simp)]; simp [nv])
theorem wide_Sub.f_eq {a b c : Int} (ha0 : 0 ≤ a) (ha : a < 18446744073709551616) (hb0 : 0 ≤ b) (hb : b < 18446744073709551616) (hc0 : 0 ≤ c) (hc : c ≤ 1) :
    wide_Sub.f a b c = some ((a - b - c) % 18446744073709551616, if a < b + c then 1 else 0) := by
  unfold wide_Sub.f
  rw [show Go.bits .and .u64 c 1 = c % 2 from and_mask hc0 (by omega) 1 (by omega) _ rfl]
  simp only [u64w]
  by_cases h1 : a < b
  · rw [if_pos h1, if_pos (by omega)]; congr 2; omega
  · rw [if_neg h1]
    by_cases h2 : a = b
    · rw [if_pos h2]
      by_cases h3 : c = 1
      · rw [if_pos (by omega), if_pos (by omega)]; congr 2; omega
      · rw [if_neg (by omega), if_neg (by omega)]; congr 2; omega
    · rw [if_neg h2, if_neg (by omega)]; congr 2; omega
/-- one word taken away: what is above, what is borrowed -/
theorem take_word {w b a u o : Int} (hw0 : 0 ≤ w) (hw : w < 18446744073709551616) (hb0 : 0 ≤ b) (hb : b < 18446744073709551616) (ha0 : 0 ≤ a) (ha : a < 18446744073709551616) (hu0 : 0 ≤ u) (hu : u < 18446744073709551616) (ho0 : 0 ≤ o) (ho : o ≤ 1) :
    ∃ hi lo lo' c v o' a', wide_Mul.f w b = some (hi, lo) ∧ wide_Add.f lo a 0 = some (lo', c) ∧ wide_Sub.f u lo' o = some (v, o') ∧ IntKind.u64.wrap (hi + c) = a' ∧ 0 ≤ v ∧ v < 18446744073709551616 ∧ 0 ≤ o' ∧ o' ≤ 1 ∧ 0 ≤ a' ∧ a' < 18446744073709551616 ∧
      v = u - w * b - a - o + (a' + o') * 18446744073709551616 := by
  have hab0 : 0 ≤ w * b := Int.mul_nonneg hw0 hb0
  have hab : w * b ≤ 18446744073709551615 * 18446744073709551615 := Int.mul_le_mul (by omega) (by omega) hb0 (by omega)
  refine ⟨w * b / 18446744073709551616, w * b % 18446744073709551616, _, _, _, _, _, ?_, wide_Add.f_eq (by omega) (by omega) ha0 ha (by omega) (by omega), wide_Sub.f_eq hu0 hu (by omega) (by omega) ho0 ho, rfl, ?_⟩
  · unfold wide_Mul.f
    rw [if_pos (u64B_iff.2 ⟨hw0, hw⟩), if_pos (u64B_iff.2 ⟨hb0, hb⟩)]
  · simp only [u64w]
    generalize w * b = p at *
    split <;> omega
theorem quot_take.l0_eq (v : List Int) (hv : Ws v) (b : Int) (hb0 : 0 ≤ b) (hb : b < 18446744073709551616) (u : List Int) (hu : Ws u) (hl : u.length = v.length + 1) (hm : v.length ≤ 35184372088832) : ∀ (d k : Nat) (cur : List Int) (a o : Int) (i : Nat), d = v.length - i → d < k → i ≤ v.length → cur.length = v.length + 1 → Ws cur → 0 ≤ a → a < 18446744073709551616 → 0 ≤ o → o ≤ 1 →
    nv cur = nv u - b * nv (v.take i) + (a + o) * 2 ^ (64 * i) →
    quot_take.l0 k cur v b a o v (v.length : Int) (i : Int) = some (decide (nv u < b * nv v), wn (v.length + 1) (if nv u < b * nv v then nv u - b * nv v + 2 ^ (64 * (v.length + 1)) else nv u - b * nv v)) := by
  intro d
  induction d with
  | zero =>
    intro k cur a o i hd hk hi hcl hw ha0 ha ho0 ho he
    obtain ⟨k, rfl⟩ : ∃ j, k = j + 1 := ⟨k - 1, by omega⟩
    obtain rfl : i = v.length := by omega
    rw [List.take_length] at he
    have hc := hw.getD v.length
    unfold quot_take.l0
    rw [if_neg (by omega), if_pos (by omega), if_pos (by omega), rdn, wide_Sub.f_eq hc.1 hc.2 ha0 ha ho0 ho]
    simp only [Option.bind_some, Int.toNat_natCast]
    have hx0 : 0 ≤ (cur.getD v.length 0 - a - o) % 18446744073709551616 := by omega
    have hx1 : (cur.getD v.length 0 - a - o) % 18446744073709551616 < 18446744073709551616 := by omega
    have hw' := hw.set v.length hx0 hx1
    have hlen : (cur.set v.length ((cur.getD v.length 0 - a - o) % 18446744073709551616)).length = v.length + 1 := by rw [List.length_set]; exact hcl
    have hn0 := nv_nonneg hw'
    have hn1 := nv_lt hw'
    rw [hlen] at hn1
    have hset := nv_set (xs := cur) (n := v.length) (by omega) ((cur.getD v.length 0 - a - o) % 18446744073709551616)
    have hp := two_pow_pos (64 * v.length)
    have epow : (2 : Int) ^ (64 * (v.length + 1)) = 18446744073709551616 * 2 ^ (64 * v.length) := pow64 _
    by_cases hlt : cur.getD v.length 0 < a + o
    · rw [if_pos hlt]
      have e1 : (cur.getD v.length 0 - a - o) % 18446744073709551616 = cur.getD v.length 0 - a - o + 18446744073709551616 := by omega
      have e2 : nv (cur.set v.length ((cur.getD v.length 0 - a - o) % 18446744073709551616)) = nv u - b * nv v + 2 ^ (64 * (v.length + 1)) := by
        rw [hset, he, e1, epow]; grind
      have hneg : nv u < b * nv v := by omega
      rw [if_pos hneg, decide_eq_true hneg, ← e2, ← eq_wn hw' hlen]
      rfl
    · rw [if_neg hlt]
      have e1 : (cur.getD v.length 0 - a - o) % 18446744073709551616 = cur.getD v.length 0 - a - o := by omega
      have e2 : nv (cur.set v.length ((cur.getD v.length 0 - a - o) % 18446744073709551616)) = nv u - b * nv v := by
        rw [hset, he, e1]; grind
      have hneg : ¬ nv u < b * nv v := by omega
      rw [if_neg hneg, decide_eq_false hneg, ← e2, ← eq_wn hw' hlen]
      rfl
  | succ d ih =>
    intro k cur a o i hd hk hi hcl hw ha0 ha ho0 ho he
    obtain ⟨k, rfl⟩ : ∃ j, k = j + 1 := ⟨k - 1, by omega⟩
    have hvi := hv.getD i
    have hci := hw.getD i
    obtain ⟨hi_, lo, lo', c, x, o', a', eM, eA, eS, ew, hx0, hx1, ho0', ho', ha0', ha', ex⟩ := take_word hvi.1 hvi.2 hb0 hb ha0 ha hci.1 hci.2 ho0 ho
    unfold quot_take.l0
    rw [if_pos (by omega), if_pos (by omega), if_pos (by omega), rdn, eM]
    simp only [Option.bind_some]
    rw [eA]
    simp only [Option.bind_some]
    rw [if_pos (by omega), rdn, eS]
    simp only [Option.bind_some]
    rw [ew, w64_s i (by omega), Int.toNat_natCast]
    refine ih k _ _ _ (i + 1) (by omega) (by omega) (by omega) (by rw [List.length_set]; exact hcl) (hw.set _ hx0 hx1) ha0' ha' ho0' ho' ?_
    rw [nv_set (by omega), nv_take_succ (by omega), pow64, he, ex]
    clear ex eM eA eS ew ih hw hv hu hvi hci
    generalize (2 : Int) ^ (64 * i) = p at *
    generalize cur.getD i 0 = y at *
    generalize v.getD i 0 = z at *
    grind
theorem quot_take.f_eq (u v : List Int) (hu : Ws u) (hv : Ws v) (hl : u.length = v.length + 1) (hm : v.length ≤ 35184372088832) (b : Int) (hb0 : 0 ≤ b) (hb : b < 18446744073709551616) (k : Nat) (hk : v.length < k) :
    quot_take.f k u v b = some (decide (nv u < b * nv v), wn (v.length + 1) (if nv u < b * nv v then nv u - b * nv v + 2 ^ (64 * (v.length + 1)) else nv u - b * nv v)) := by
  rw [quot_take.f]
  exact quot_take.l0_eq v hv b hb0 hb u hu hl hm v.length k u 0 0 0 (by omega) hk (by omega) hl hu (by decide) (by decide) (by decide) (by decide) (by simp [nv])
theorem quot_give.l0_eq (v : List Int) (hv : Ws v) (u : List Int) (hu : Ws u) (hl : u.length = v.length + 1) (hm : v.length ≤ 35184372088832) : ∀ (d k : Nat) (cur : List Int) (o : Int) (i : Nat), d = v.length - i → d < k → i ≤ v.length → cur.length = v.length + 1 → Ws cur → 0 ≤ o → o ≤ 1 →
    nv cur + o * 2 ^ (64 * i) = nv u + nv (v.take i) →
    quot_give.l0 k cur v o v (v.length : Int) (i : Int) = some (wn (v.length + 1) (if nv u + nv v < 2 ^ (64 * (v.length + 1)) then nv u + nv v else nv u + nv v - 2 ^ (64 * (v.length + 1)))) := by
  intro d
  induction d with
  | zero =>
    intro k cur o i hd hk hi hcl hw ho0 ho he
    obtain ⟨k, rfl⟩ : ∃ j, k = j + 1 := ⟨k - 1, by omega⟩
    obtain rfl : i = v.length := by omega
    rw [List.take_length] at he
    have hc := hw.getD v.length
    unfold quot_give.l0
    rw [if_neg (by omega), if_pos (by omega), if_pos (by omega), rdn, u64w]
    simp only [Int.toNat_natCast]
    have hx0 : 0 ≤ (cur.getD v.length 0 + o) % 18446744073709551616 := by omega
    have hx1 : (cur.getD v.length 0 + o) % 18446744073709551616 < 18446744073709551616 := by omega
    have hw' := hw.set v.length hx0 hx1
    have hlen : (cur.set v.length ((cur.getD v.length 0 + o) % 18446744073709551616)).length = v.length + 1 := by rw [List.length_set]; exact hcl
    have hn0 := nv_nonneg hw'
    have hn1 := nv_lt hw'
    rw [hlen] at hn1
    have hset := nv_set (xs := cur) (n := v.length) (by omega) ((cur.getD v.length 0 + o) % 18446744073709551616)
    have epow : (2 : Int) ^ (64 * (v.length + 1)) = 18446744073709551616 * 2 ^ (64 * v.length) := pow64 _
    by_cases hlt : cur.getD v.length 0 + o < 18446744073709551616
    · have e1 : (cur.getD v.length 0 + o) % 18446744073709551616 = cur.getD v.length 0 + o := by omega
      have e2 : nv (cur.set v.length ((cur.getD v.length 0 + o) % 18446744073709551616)) = nv u + nv v := by
        rw [hset, e1]; grind
      rw [if_pos (by omega), ← e2, ← eq_wn hw' hlen]
    · have e1 : (cur.getD v.length 0 + o) % 18446744073709551616 = cur.getD v.length 0 + o - 18446744073709551616 := by omega
      have e2 : nv (cur.set v.length ((cur.getD v.length 0 + o) % 18446744073709551616)) = nv u + nv v - 2 ^ (64 * (v.length + 1)) := by
        rw [hset, e1, epow]; grind
      rw [if_neg (by omega), ← e2, ← eq_wn hw' hlen]
  | succ d ih =>
    intro k cur o i hd hk hi hcl hw ho0 ho he
    obtain ⟨k, rfl⟩ : ∃ j, k = j + 1 := ⟨k - 1, by omega⟩
    have hvi := hv.getD i
    have hci := hw.getD i
    unfold quot_give.l0
    rw [if_pos (by omega), if_pos (by omega), if_pos (by omega), if_pos (by omega), rdn, rdn, wide_Add.f_eq hci.1 hci.2 hvi.1 hvi.2 ho0 ho]
    simp only [Option.bind_some]
    rw [w64_s i (by omega), Int.toNat_natCast]
    refine ih k _ _ (i + 1) (by omega) (by omega) (by omega) (by rw [List.length_set]; exact hcl) (hw.set _ (by omega) (by omega)) (by omega) (by omega) ?_
    rw [nv_set (by omega), nv_take_succ (by omega), pow64]
    have e : (cur.getD i 0 + v.getD i 0 + o) % 18446744073709551616 = cur.getD i 0 + v.getD i 0 + o - (cur.getD i 0 + v.getD i 0 + o) / 18446744073709551616 * 18446744073709551616 := by omega
    rw [e]
    generalize (cur.getD i 0 + v.getD i 0 + o) / 18446744073709551616 = q at *
    clear e ih hw hv hu hvi hci
    generalize (2 : Int) ^ (64 * i) = p at *
    generalize cur.getD i 0 = y at *
    generalize v.getD i 0 = z at *
    grind
theorem quot_give.f_eq (u v : List Int) (hu : Ws u) (hv : Ws v) (hl : u.length = v.length + 1) (hm : v.length ≤ 35184372088832) (k : Nat) (hk : v.length < k) :
    quot_give.f k u v = some (wn (v.length + 1) (if nv u + nv v < 2 ^ (64 * (v.length + 1)) then nv u + nv v else nv u + nv v - 2 ^ (64 * (v.length + 1)))) := by
  rw [quot_give.f]
  exact quot_give.l0_eq v hv u hu hl hm v.length k u 0 0 (by omega) hk (by omega) hl hu (by decide) (by decide) (by simp [nv])
end Go.Proofs.YtoannkopciehcaaDoor.PA

namespace Go.Proofs.YtoannkopciehcaaDoor.PA
open Go Go.RowKit Go.Proofs.YtoannkopciehcaaDoorW.PrintWords Go.Proofs.YtoannkopciehcaaDoorW.PrintLast Go.Proofs.YtoannkopciehcaaDoorW.PrintMore
set_option linter.unusedVariables false
set_option linter.unusedSimpArgs false
theorem knuth_up {v1 v2 vr P B u2 u1 u0 ur g r : Int} (hP : 0 < P) (hg : g * v1 + r = u2 * B + u1) (h : r * B + u0 < g * v2) (hur : ur < P) (hg0 : 0 ≤ g) (hvr : 0 ≤ vr) :
    ((u2 * B + u1) * B + u0) * P + ur < g * ((v1 * B + v2) * P + vr) := by
  have e : g * ((v1 * B + v2) * P + vr) = (g * v1 * B + g * v2) * P + g * vr := by grind
  have e1 : g * v1 = u2 * B + u1 - r := by omega
  have h1 : 0 ≤ g * vr := Int.mul_nonneg hg0 hvr
  rw [e, e1]
  have h2 : ((u2 * B + u1) * B + u0 + 1) * P ≤ ((u2 * B + u1 - r) * B + g * v2) * P := by
    apply Int.mul_le_mul_of_nonneg_right _ (Int.le_of_lt hP)
    rw [Int.sub_mul]
    omega
  rw [Int.add_mul _ 1 P, Int.one_mul] at h2
  omega
theorem knuth_exit {v1 v2 vr P B u2 u1 u0 ur g r : Int} (hP : 0 < P) (hB : 0 < B) (hg : g * v1 + r = u2 * B + u1) (h : g * v2 ≤ r * B + u0) (hur : 0 ≤ ur) (hg0 : 0 ≤ g) (hgB : g < B) (hvr0 : 0 ≤ vr) (hvr : vr < P) (hv1 : 1 ≤ v1) (hv2 : 0 ≤ v2) :
    (g - 1) * ((v1 * B + v2) * P + vr) ≤ ((u2 * B + u1) * B + u0) * P + ur := by
  have e : (g - 1) * ((v1 * B + v2) * P + vr) = (g * v1 * B + g * v2) * P + (g - 1) * vr - v1 * B * P - v2 * P := by grind
  have e1 : g * v1 = u2 * B + u1 - r := by omega
  rw [e, e1]
  have h2 : ((u2 * B + u1 - r) * B + g * v2) * P ≤ ((u2 * B + u1) * B + u0) * P := by
    apply Int.mul_le_mul_of_nonneg_right _ (Int.le_of_lt hP)
    rw [Int.sub_mul]
    omega
  have h3 : (g - 1) * vr ≤ B * P := by
    have a : (g - 1) * vr ≤ B * vr := Int.mul_le_mul_of_nonneg_right (by omega) hvr0
    have b : B * vr ≤ B * P := Int.mul_le_mul_of_nonneg_left (by omega) (by omega)
    omega
  have h4 : 1 * (B * P) ≤ v1 * (B * P) := Int.mul_le_mul_of_nonneg_right hv1 (Int.mul_nonneg (by omega) (by omega))
  rw [← Int.mul_assoc, ← Int.mul_assoc, Int.one_mul] at h4
  have h5 : 0 ≤ v2 * P := Int.mul_nonneg hv2 (by omega)
  omega
theorem knuth_over {v1 v2 vr P B u2 u1 u0 ur g r : Int} (hP : 0 < P) (hB : 0 < B) (hg : g * v1 + r = u2 * B + u1) (h : B ≤ r) (hur : 0 ≤ ur) (hu0 : 0 ≤ u0) (hg0 : 0 ≤ g) (hgB : g ≤ B) (hvr : vr < P) (hv2 : v2 < B) :
    g * ((v1 * B + v2) * P + vr) ≤ ((u2 * B + u1) * B + u0) * P + ur := by
  have e : g * ((v1 * B + v2) * P + vr) = g * v1 * B * P + g * (v2 * P + vr) := by grind
  have e1 : g * v1 = u2 * B + u1 - r := by omega
  rw [e, e1]
  have h1 : v2 * P + vr ≤ B * P := by
    have : (v2 + 1) * P ≤ B * P := Int.mul_le_mul_of_nonneg_right (by omega) (by omega)
    rw [Int.add_mul, Int.one_mul] at this
    omega
  have h2 : g * (v2 * P + vr) ≤ g * (B * P) := Int.mul_le_mul_of_nonneg_left h1 hg0
  have h3 : g * (B * P) ≤ B * (B * P) := Int.mul_le_mul_of_nonneg_right hgB (Int.mul_nonneg (by omega) (by omega))
  have h4 : B * (B * P) ≤ r * (B * P) := Int.mul_le_mul_of_nonneg_right h (Int.mul_nonneg (by omega) (by omega))
  have h5 : 0 ≤ u0 * P := Int.mul_nonneg hu0 (by omega)
  have e2 : (u2 * B + u1 - r) * B * P = (u2 * B + u1) * B * P - r * (B * P) := by grind
  have e3 : ((u2 * B + u1) * B + u0) * P = (u2 * B + u1) * B * P + u0 * P := by grind
  rw [e2, e3]
  omega
/-- a number by its highest two words -/
theorem nv_two {v : List Int} {p : Nat} (hl : v.length = p + 2) : nv v = (v.getD (p + 1) 0 * 18446744073709551616 + v.getD p 0) * 2 ^ (64 * p) + nv (v.take p) := by
  have e1 := nv_take_succ (xs := v) (i := p) (by omega)
  have e2 := nv_take_succ (xs := v) (i := p + 1) (by omega)
  rw [show p + 1 + 1 = v.length from by omega, List.take_length, e1, pow64] at e2
  rw [e2]
  generalize (2 : Int) ^ (64 * p) = P
  grind
theorem nv_three {u : List Int} {p : Nat} (hl : u.length = p + 3) : nv u = ((u.getD (p + 2) 0 * 18446744073709551616 + u.getD (p + 1) 0) * 18446744073709551616 + u.getD p 0) * 2 ^ (64 * p) + nv (u.take p) := by
  have e1 := nv_take_succ (xs := u) (i := p) (by omega)
  have e2 := nv_take_succ (xs := u) (i := p + 1) (by omega)
  have e3 := nv_take_succ (xs := u) (i := p + 2) (by omega)
  rw [show p + 2 + 1 = u.length from by omega, List.take_length, show p + 2 = (p + 1) + 1 from rfl, e2, e1] at e3
  simp only [pow64] at e3
  rw [e3, show p + 1 + 1 = p + 2 from rfl]
  clear e1 e2 e3
  generalize (2 : Int) ^ (64 * p) = P
  grind
theorem LeO.add {α : Type} {f : Nat → Option α} (h : ∀ k, LeO (f k) (f (k + 1))) : ∀ n k, LeO (f k) (f (k + n))
  | 0, k => fun r e => e
  | n + 1, k => fun r e => h (k + n) r (LeO.add h n k r e)
theorem wide_Cmp.low {a b c d : Int} (k : Nat) (hk : 0 < k) : ∃ t, wide_Cmp.f k a b c d = some t ∧ (t ≤ 0 ↔ (a < c ∨ (a = c ∧ b ≤ d))) := by
  obtain ⟨k, rfl⟩ : ∃ j, k = j + 1 := ⟨k - 1, by omega⟩
  unfold wide_Cmp.f
  by_cases h1 : a < c
  · rw [if_pos h1, wide_Cmp.j0, if_pos rfl]
    exact ⟨_, rfl, by omega⟩
  · rw [if_neg h1]
    by_cases h2 : a = c
    · rw [if_pos h2]
      by_cases h3 : b < d
      · rw [decide_eq_true h3, wide_Cmp.j0, if_pos rfl]
        exact ⟨_, rfl, by omega⟩
      · rw [decide_eq_false h3, wide_Cmp.j0, if_neg (by decide), if_pos h2]
        by_cases h4 : b = d
        · rw [if_pos h4]; exact ⟨_, rfl, by omega⟩
        · rw [if_neg h4]; exact ⟨_, rfl, by omega⟩
    · rw [if_neg h2, wide_Cmp.j0, if_neg (by decide), if_neg h2]
      exact ⟨_, rfl, by omega⟩
theorem wide_Mul.f_eq {a b : Int} (ha0 : 0 ≤ a) (ha : a < 18446744073709551616) (hb0 : 0 ≤ b) (hb : b < 18446744073709551616) :
    wide_Mul.f a b = some (a * b / 18446744073709551616, a * b % 18446744073709551616) := by
  unfold wide_Mul.f
  rw [if_pos (u64B_iff.2 ⟨ha0, ha⟩), if_pos (u64B_iff.2 ⟨hb0, hb⟩)]
/-- what is known of a step: the divisor, the piece, the place -/
structure Lng (p : Nat) (v u : List Int) (jn : Nat) : Prop where
  hv : Ws v
  lv : v.length = p + 2
  top : 9223372036854775808 ≤ v.getD (p + 1) 0
  hu : Ws u
  lu : jn + p + 3 ≤ u.length
  hm : u.length ≤ 35184372088832
def win (p : Nat) (u : List Int) (jn : Nat) : List Int := (u.drop jn).take (p + 3)
theorem Lng.win_len {p : Nat} {v u : List Int} {jn : Nat} (h : Lng p v u jn) : (win p u jn).length = p + 3 := by
  have := h.lu
  unfold win; rw [List.length_take, List.length_drop]; omega
theorem Lng.win_ws {p : Nat} {v u : List Int} {jn : Nat} (h : Lng p v u jn) : Ws (win p u jn) := (h.hu.drop _).take _
theorem Lng.win_at {p : Nat} {v u : List Int} {jn : Nat} (h : Lng p v u jn) (i : Nat) (hi : i < p + 3) : (win p u jn).getD i 0 = u.getD (jn + i) 0 := by
  unfold win
  rw [List.getD_eq_getElem?_getD, List.getElem?_take, if_pos hi, List.getElem?_drop, ← List.getD_eq_getElem?_getD]
theorem Lng.vpos {p : Nat} {v u : List Int} {jn : Nat} (h : Lng p v u jn) : 0 < nv v := by
  have h1 := nv_two h.lv
  have h2 := nv_nonneg (h.hv.take p)
  have h3 := h.hv.getD p
  have h4 := h.top
  have h5 : 1 * 2 ^ (64 * p) ≤ (v.getD (p + 1) 0 * 18446744073709551616 + v.getD p 0) * 2 ^ (64 * p) := Int.mul_le_mul_of_nonneg_right (by omega) (Int.le_of_lt (two_pow_pos _))
  have h6 := two_pow_pos (64 * p)
  omega
/-- one round of the loop that lessens the guess -/
theorem long_round {p : Nat} {v u : List Int} {jn : Nat} (lv : v.length = p + 2) (lu : jn + p + 3 ≤ u.length) (mu : u.length ≤ 35184372088832) (hv : Ws v) (hu : Ws u) (s : Int) (q : List Int) (g r t : Int) (hg0 : 0 ≤ g) (hg : g < 18446744073709551616) (hr0 : 0 ≤ r) (hr : r < 18446744073709551616) (k : Nat)
    (ht : wide_Cmp.f k (g * v.getD p 0 / 18446744073709551616) (g * v.getD p 0 % 18446744073709551616) r (u.getD (jn + p) 0) = some t) :
    quot_long.l1 (k + 1) g r ((p + 2 : Nat) : Int) s v u (jn : Int) q = if t ≤ 0 then quot_long.j3 k g ((p + 2 : Nat) : Int) s v u (jn : Int) q else if r + v.getD (p + 1) 0 < 18446744073709551616 then quot_long.l1 k (IntKind.u64.wrap (g - 1)) (r + v.getD (p + 1) 0) ((p + 2 : Nat) : Int) s v u (jn : Int) q else quot_long.j3 k (IntKind.u64.wrap (g - 1)) ((p + 2 : Nat) : Int) s v u (jn : Int) q := by
  have b2 : (p : Int) < (v.length : Int) := by omega
  have b4 : ((jn + p : Nat) : Int) < (u.length : Int) := by omega
  have b6 : ((p + 1 : Nat) : Int) < (v.length : Int) := by omega
  have a1 : wrap64 (((p + 2 : Nat) : Int) - 2) = (p : Int) := w64x (by omega) (by omega)
  have a2 : wrap64 ((jn : Int) + ((p + 2 : Nat) : Int)) = ((jn + p + 2 : Nat) : Int) := w64x (by omega) (by omega)
  have a3 : wrap64 (((jn + p + 2 : Nat) : Int) - 2) = ((jn + p : Nat) : Int) := w64x (by omega) (by omega)
  have a4 : wrap64 (((p + 2 : Nat) : Int) - 1) = ((p + 1 : Nat) : Int) := w64x (by omega) (by omega)
  have v1 := hv.getD (p + 1)
  have v2 := hv.getD p
  conv => lhs; unfold quot_long.l1
  rw [a1, a2, a3, a4, if_pos (Int.natCast_nonneg _), if_pos b2, rdn, wide_Mul.f_eq hg0 hg v2.1 v2.2]
  simp only [Option.bind_some]
  rw [if_pos (Int.natCast_nonneg _), if_pos b4, rdn, ht]
  simp only [Option.bind_some]
  by_cases hc : t ≤ 0
  · rw [if_pos hc, if_pos hc]
  · rw [if_neg hc, if_neg hc, if_pos (Int.natCast_nonneg _), if_pos b6, rdn, wide_Add.f_eq hr0 hr v1.1 v1.2 (by decide) (by decide)]
    simp only [Option.bind_some]
    clear a1 a2 a3 a4 ht
    by_cases hcar : r + v.getD (p + 1) 0 < 18446744073709551616
    · have c1 : (r + v.getD (p + 1) 0 + 0) / 18446744073709551616 = 0 := by omega
      have c2 : (r + v.getD (p + 1) 0 + 0) % 18446744073709551616 = r + v.getD (p + 1) 0 := by omega
      rw [c1, c2, if_pos rfl, if_pos hcar]
    · have c1 : ¬ (r + v.getD (p + 1) 0 + 0) / 18446744073709551616 = 0 := by omega
      rw [if_neg c1, if_neg hcar]
/-- the loop that lessens the guess -/
theorem long_correct {p : Nat} {v u : List Int} {jn : Nat} (h : Lng p v u jn) (s : Int) (q : List Int) : ∀ (d : Nat) (g r : Int), 0 ≤ g → g < 18446744073709551616 → 0 ≤ r → r < 18446744073709551616 → 18446744073709551616 ≤ r + d * 9223372036854775808 →
    g * v.getD (p + 1) 0 + r = u.getD (jn + p + 2) 0 * 18446744073709551616 + u.getD (jn + p + 1) 0 → nv (win p u jn) < (g + 1) * nv v →
    ∃ g', 0 ≤ g' ∧ g' < 18446744073709551616 ∧ (g' - 1) * nv v ≤ nv (win p u jn) ∧ nv (win p u jn) < (g' + 1) * nv v ∧
      ∀ (k : Nat) R, 0 < k → quot_long.j3 k g' ((p + 2 : Nat) : Int) s v u (jn : Int) q = some R → quot_long.l1 (k + d) g r ((p + 2 : Nat) : Int) s v u (jn : Int) q = some R := by
  intro d
  induction d with
  | zero => intro g r hg0 hg hr0 hr hd; omega
  | succ d ih =>
    intro g r hg0 hg hr0 hr hd he hq
    have hlv := h.lv
    have hlu := h.lu
    have hmu := h.hm
    have v1 := h.hv.getD (p + 1)
    have v2 := h.hv.getD p
    have htop := h.top
    have w0 := h.hu.getD (jn + p)
    have e1 := nv_two h.lv
    have e2 := nv_three h.win_len
    rw [h.win_at _ (by omega), h.win_at _ (by omega), h.win_at _ (by omega)] at e2
    rw [show jn + (p + 2) = jn + p + 2 from by omega, show jn + (p + 1) = jn + p + 1 from by omega] at e2
    have hP := two_pow_pos (64 * p)
    have vr0 := nv_nonneg (h.hv.take p)
    have vr1 := nv_lt (h.hv.take p)
    have ur0 := nv_nonneg (h.win_ws.take p)
    have ur1 := nv_lt (h.win_ws.take p)
    rw [List.length_take, Nat.min_eq_left (by omega)] at vr1
    rw [List.length_take, Nat.min_eq_left (by rw [h.win_len]; omega)] at ur1
    have hgv0 : 0 ≤ g * v.getD p 0 := Int.mul_nonneg hg0 v2.1
    obtain ⟨t, ht, hti⟩ := wide_Cmp.low (a := g * v.getD p 0 / 18446744073709551616) (b := g * v.getD p 0 % 18446744073709551616) (c := r) (d := u.getD (jn + p) 0) 1 (by omega)
    have hle : (t ≤ 0) ↔ g * v.getD p 0 ≤ r * 18446744073709551616 + u.getD (jn + p) 0 := by
      rw [hti]
      generalize g * v.getD p 0 = z at *
      omega
    have hti2 : ∀ k, 0 < k → wide_Cmp.f k (g * v.getD p 0 / 18446744073709551616) (g * v.getD p 0 % 18446744073709551616) r (u.getD (jn + p) 0) = some t := by
      intro k hk
      have := LeO.add (f := fun k => wide_Cmp.f k (g * v.getD p 0 / 18446744073709551616) (g * v.getD p 0 % 18446744073709551616) r (u.getD (jn + p) 0)) (fun k => wide_Cmp.mono _ _ _ _ k) (k - 1) 1 t ht
      rwa [show 1 + (k - 1) = k from by omega] at this
    have step : ∀ k, 0 < k → quot_long.l1 (k + 1) g r ((p + 2 : Nat) : Int) s v u (jn : Int) q = if t ≤ 0 then quot_long.j3 k g ((p + 2 : Nat) : Int) s v u (jn : Int) q else if r + v.getD (p + 1) 0 < 18446744073709551616 then quot_long.l1 k (IntKind.u64.wrap (g - 1)) (r + v.getD (p + 1) 0) ((p + 2 : Nat) : Int) s v u (jn : Int) q else quot_long.j3 k (IntKind.u64.wrap (g - 1)) ((p + 2 : Nat) : Int) s v u (jn : Int) q :=
      fun k hk => long_round hlv hlu hmu h.hv h.hu s q g r t hg0 hg hr0 hr k (hti2 k hk)
    clear hti2 ht
    by_cases hc : t ≤ 0
    · refine ⟨g, hg0, hg, ?_, hq, ?_⟩
      · rw [e1, e2]
        exact knuth_exit hP (by decide) he (hle.1 hc) ur0 hg0 hg vr0 vr1 (by omega) v2.1
      · intro k R hk hR
        rw [show k + (d + 1) = (k + d) + 1 from by omega, step (k + d) (by omega), if_pos hc]
        exact LeO.add (f := fun k => quot_long.j3 k g ((p + 2 : Nat) : Int) s v u (jn : Int) q) (fun k => (quot_long.mono_l k).2.1 _ _ _ _ _ _ _) d k R hR
    · have hlt : r * 18446744073709551616 + u.getD (jn + p) 0 < g * v.getD p 0 := by
        have := hle
        omega
      have hup := knuth_up (vr := nv (v.take p)) hP he hlt ur1 hg0 vr0
      rw [← e1, ← e2] at hup
      have hg1 : 1 ≤ g := by
        apply Classical.byContradiction
        intro hn
        obtain rfl : g = 0 := by omega
        have := nv_nonneg h.win_ws
        omega
      have ewr : IntKind.u64.wrap (g - 1) = g - 1 := u64w_of (by omega) (by omega)
      have he' : (g - 1) * v.getD (p + 1) 0 + (r + v.getD (p + 1) 0) = u.getD (jn + p + 2) 0 * 18446744073709551616 + u.getD (jn + p + 1) 0 := by
        rw [Int.sub_mul]; omega
      by_cases hcar : r + v.getD (p + 1) 0 < 18446744073709551616
      · obtain ⟨g', h1, h2, h3, h4, h5⟩ := ih (g - 1) (r + v.getD (p + 1) 0) (by omega) (by omega) (by omega) hcar (by omega) he' (by rw [show g - 1 + 1 = g from by omega]; exact hup)
        refine ⟨g', h1, h2, h3, h4, ?_⟩
        intro k R hk hR
        rw [show k + (d + 1) = (k + d) + 1 from by omega, step (k + d) (by omega), if_neg hc, if_pos hcar, ewr]
        exact h5 k R hk hR
      · refine ⟨g - 1, by omega, by omega, ?_, by rw [show g - 1 + 1 = g from by omega]; exact hup, ?_⟩
        · have hov := knuth_over (vr := nv (v.take p)) (ur := nv ((win p u jn).take p)) (u0 := u.getD (jn + p) 0) hP (by decide) he' (by omega) ur0 w0.1 (by omega) (by omega) vr1 v2.2
          rw [← e1, ← e2] at hov
          have hvp := h.vpos
          rw [Int.sub_mul (g - 1)]
          omega
        · intro k R hk hR
          rw [show k + (d + 1) = (k + d) + 1 from by omega, step (k + d) (by omega), if_neg hc, if_neg hcar, ewr]
          exact LeO.add (f := fun k => quot_long.j3 k (g - 1) ((p + 2 : Nat) : Int) s v u (jn : Int) q) (fun k => (quot_long.mono_l k).2.1 _ _ _ _ _ _ _) d k R hR
end Go.Proofs.YtoannkopciehcaaDoor.PA

namespace Go.Proofs.YtoannkopciehcaaDoor.PA
open Go Go.RowKit Go.Proofs.YtoannkopciehcaaDoorW.PrintWords Go.Proofs.YtoannkopciehcaaDoorW.PrintLast Go.Proofs.YtoannkopciehcaaDoorW.PrintMore
set_option linter.unusedVariables false
set_option linter.unusedSimpArgs false
/-- a row with another piece -/
def spl (p : Nat) (u : List Int) (jn : Nat) (y : List Int) : List Int := u.take jn ++ y ++ u.drop (jn + (p + 3))
theorem spl_len {p jn : Nat} {u y : List Int} (h : jn + p + 3 ≤ u.length) (hy : y.length = p + 3) : (spl p u jn y).length = u.length := by
  unfold spl; rw [List.length_append, List.length_append, List.length_take, List.length_drop, hy]; omega
theorem spl_ws {p jn : Nat} {u y : List Int} (hu : Ws u) (hy : Ws y) : Ws (spl p u jn y) := (((hu.take _).append hy).append (hu.drop _))
theorem spl_win {p jn : Nat} {u y : List Int} (h : jn + p + 3 ≤ u.length) (hy : y.length = p + 3) : win p (spl p u jn y) jn = y := by
  unfold win spl
  rw [List.append_assoc, List.drop_left' (by rw [List.length_take]; omega), List.take_left' hy]
theorem spl_spl {p jn : Nat} {u y z : List Int} (h : jn + p + 3 ≤ u.length) (hy : y.length = p + 3) : spl p (spl p u jn y) jn z = spl p u jn z := by
  have e1 : (spl p u jn y).take jn = u.take jn := by unfold spl; rw [List.append_assoc, List.take_left' (by rw [List.length_take]; omega)]
  have e2 : (spl p u jn y).drop (jn + (p + 3)) = u.drop (jn + (p + 3)) := by unfold spl; rw [List.drop_left' (by rw [List.length_append, List.length_take, hy]; omega)]
  show (spl p u jn y).take jn ++ z ++ (spl p u jn y).drop (jn + (p + 3)) = _
  rw [e1, e2]; rfl
theorem win_nv {p jn : Nat} {u : List Int} (h : jn + p + 3 ≤ u.length) : nv u = nv (u.take jn) + 2 ^ (64 * jn) * nv (win p u jn) + 2 ^ (64 * (jn + (p + 3))) * nv (u.drop (jn + (p + 3))) := by
  have e1 := nv_split (xs := u) (n := jn) (by omega)
  have e2 := nv_split (xs := u.drop jn) (n := p + 3) (by rw [List.length_drop]; omega)
  rw [List.drop_drop] at e2
  rw [e1, e2, show 64 * (jn + (p + 3)) = 64 * jn + 64 * (p + 3) from by omega, Int.pow_add]
  unfold win
  grind
theorem spl_nv {p jn : Nat} {u y : List Int} (h : jn + p + 3 ≤ u.length) (hy : y.length = p + 3) : nv (spl p u jn y) = nv u + 2 ^ (64 * jn) * (nv y - nv (win p u jn)) := by
  have e1 := win_nv (p := p) (u := u) (jn := jn) h
  have e2 : nv (spl p u jn y) = nv (u.take jn) + 2 ^ (64 * jn) * nv y + 2 ^ (64 * (jn + (p + 3))) * nv (u.drop (jn + (p + 3))) := by
    unfold spl
    rw [nv_append, nv_append, List.length_append, List.length_take, hy, Nat.min_eq_left (by omega)]
  rw [e2, e1]
  grind
theorem takeAt_eq {p : Nat} {v u : List Int} {jn : Nat} (h : Lng p v u jn) (b : Int) (hb0 : 0 ≤ b) (hb : b < 18446744073709551616) (k : Nat) (hk : p + 2 < k) :
    quot_takeAt.f k u (jn : Int) ((p + 2 : Nat) : Int) v b = some (decide (nv (win p u jn) < b * nv v), spl p u jn (wn (p + 3) (if nv (win p u jn) < b * nv v then nv (win p u jn) - b * nv v + 2 ^ (64 * (p + 3)) else nv (win p u jn) - b * nv v))) := by
  have hlu := h.lu
  have hm := h.hm
  have hlv := h.lv
  have a2 : wrap64 ((jn : Int) + ((p + 2 : Nat) : Int)) = ((jn + p + 2 : Nat) : Int) := w64x (by omega) (by omega)
  have a3 : wrap64 (((jn + p + 2 : Nat) : Int) + 1) = ((jn + p + 3 : Nat) : Int) := w64x (by omega) (by omega)
  have e := quot_take.f_eq (win p u jn) v h.win_ws h.hv (by rw [h.win_len, h.lv]) (by omega) b hb0 hb k (by omega)
  rw [h.lv] at e
  unfold quot_takeAt.f
  rw [if_pos ⟨by omega, by omega, by omega, by rw [a2, a3]; omega⟩, Int.toNat_natCast, Int.toNat_natCast]
  show (quot_take.f k (win p u jn) v b).bind _ = _
  rw [e]
  rfl
theorem giveAt_eq {p : Nat} {v u : List Int} {jn : Nat} (h : Lng p v u jn) (k : Nat) (hk : p + 2 < k) :
    quot_giveAt.f k u (jn : Int) ((p + 2 : Nat) : Int) v = some (spl p u jn (wn (p + 3) (if nv (win p u jn) + nv v < 2 ^ (64 * (p + 3)) then nv (win p u jn) + nv v else nv (win p u jn) + nv v - 2 ^ (64 * (p + 3))))) := by
  have hlu := h.lu
  have hm := h.hm
  have hlv := h.lv
  have e := quot_give.f_eq (win p u jn) v h.win_ws h.hv (by rw [h.win_len, h.lv]) (by omega) k (by omega)
  rw [h.lv] at e
  unfold quot_giveAt.f
  rw [if_pos ⟨by omega, by omega, by omega⟩, Int.toNat_natCast, Int.toNat_natCast]
  show (quot_give.f k (win p u jn) v).bind _ = _
  rw [e]
  rfl
theorem ediv_of {W V g : Int} (hV : 0 < V) (h1 : g * V ≤ W) (h2 : W < (g + 1) * V) : W / V = g := by
  rw [Int.add_mul, Int.one_mul] at h2
  have := (Int.ediv_emod_unique (a := W) (b := V) (r := W - g * V) (q := g) hV).2 ⟨by rw [Int.mul_comm V g]; omega, by omega, by omega⟩
  exact this.1
theorem Lng.win_lt {p : Nat} {v u : List Int} {jn : Nat} (h : Lng p v u jn) : nv (win p u jn) < 2 ^ (64 * (p + 3)) := by
  have := nv_lt h.win_ws; rwa [h.win_len] at this
theorem Lng.v_lt {p : Nat} {v u : List Int} {jn : Nat} (h : Lng p v u jn) : nv v < 2 ^ (64 * (p + 2)) := by
  have := nv_lt h.hv; rwa [h.lv] at this
/-- the piece less the word times the divisor; given back where that was too much -/
theorem long_subtract {p : Nat} {v u : List Int} {jn : Nat} (h : Lng p v u jn) (s : Int) (q : List Int) (hq : jn < q.length) (hqm : q.length ≤ 35184372088832) (g : Int) (hg0 : 0 ≤ g) (hg : g < 18446744073709551616)
    (h1 : (g - 1) * nv v ≤ nv (win p u jn)) (h2 : nv (win p u jn) < (g + 1) * nv v) (k : Nat) (hk : p + 2 < k) :
    quot_long.j3 (k + 1) g ((p + 2 : Nat) : Int) s v u (jn : Int) q = quot_long.l0 k ((p + 2 : Nat) : Int) s v (spl p u jn (wn (p + 3) (nv (win p u jn) % nv v))) ((jn : Int) - 1) (q.set jn (nv (win p u jn) / nv v)) := by
  have hvp := h.vpos
  have hw0 := nv_nonneg h.win_ws
  have hw1 := h.win_lt
  have hv1 := h.v_lt
  have hlu := h.lu
  have hwr : wrap64 ((jn : Int) - 1) = (jn : Int) - 1 := w64_of (by omega) (by omega)
  have hjq : (jn : Int) < (q.length : Int) := by omega
  unfold quot_long.j3
  rw [takeAt_eq h g hg0 hg k hk]
  simp only [Option.bind_some]
  by_cases hc : nv (win p u jn) < g * nv v
  · rw [if_pos hc, decide_eq_true hc, if_pos rfl]
    have hg1 : 1 ≤ g := by
      apply Classical.byContradiction
      intro hn
      obtain rfl : g = 0 := by omega
      omega
    have eQ : nv (win p u jn) / nv v = g - 1 := ediv_of hvp h1 (by rw [show g - 1 + 1 = g from by omega]; exact hc)
    have eR : nv (win p u jn) % nv v = nv (win p u jn) - g * nv v + nv v := by
      rw [Int.emod_def, eQ, Int.mul_sub, Int.mul_one, Int.mul_comm (nv v) g]; omega
    have hy0 : 0 ≤ nv (win p u jn) - g * nv v + 2 ^ (64 * (p + 3)) := by
      have : nv v < 2 ^ (64 * (p + 3)) := Int.lt_of_lt_of_le hv1 (pow_mono (by omega))
      rw [Int.sub_mul, Int.one_mul] at h1
      omega
    have hy1 : nv (win p u jn) - g * nv v + 2 ^ (64 * (p + 3)) < 2 ^ (64 * (p + 3)) := by omega
    have e1 := nv_wn (p + 3) hy0 hy1
    have l1 := wn_length (p + 3) (nv (win p u jn) - g * nv v + 2 ^ (64 * (p + 3)))
    have w1 := wn_ws (p + 3) (nv (win p u jn) - g * nv v + 2 ^ (64 * (p + 3)))
    have h' : Lng p v (spl p u jn (wn (p + 3) (nv (win p u jn) - g * nv v + 2 ^ (64 * (p + 3))))) jn := ⟨h.hv, h.lv, h.top, spl_ws h.hu w1, by rw [spl_len hlu l1]; exact h.lu, by rw [spl_len hlu l1]; exact h.hm⟩
    rw [giveAt_eq h' k hk, spl_win hlu l1, spl_spl hlu l1, e1]
    simp only [Option.bind_some]
    have hnl : ¬ nv (win p u jn) - g * nv v + 2 ^ (64 * (p + 3)) + nv v < 2 ^ (64 * (p + 3)) := by
      rw [Int.sub_mul, Int.one_mul] at h1
      omega
    rw [if_neg hnl, if_pos (Int.natCast_nonneg _), if_pos hjq, hwr, Int.toNat_natCast, u64w_of (by omega) (by omega), eQ, eR]
    rw [show nv (win p u jn) - g * nv v + 2 ^ (64 * (p + 3)) + nv v - 2 ^ (64 * (p + 3)) = nv (win p u jn) - g * nv v + nv v from by omega]
  · rw [if_neg hc, decide_eq_false hc, if_neg (by decide), if_pos (Int.natCast_nonneg _), if_pos hjq, hwr, Int.toNat_natCast]
    have eQ : nv (win p u jn) / nv v = g := ediv_of hvp (by omega) h2
    have eR : nv (win p u jn) % nv v = nv (win p u jn) - g * nv v := by
      rw [Int.emod_def, eQ, Int.mul_comm]
    rw [eQ, eR]
theorem knuth_first {v1 v2 vr P B U u0 ur g : Int} (hP : 0 < P) (hB : 0 < B) (h : U + 1 ≤ (g + 1) * v1) (hu0 : u0 < B) (hur : ur < P) (hg0 : 0 ≤ g) (hvr : 0 ≤ vr) (hv2 : 0 ≤ v2) :
    (U * B + u0) * P + ur < (g + 1) * ((v1 * B + v2) * P + vr) := by
  have e : (g + 1) * ((v1 * B + v2) * P + vr) = (g + 1) * v1 * (B * P) + (g + 1) * (v2 * P + vr) := by grind
  have h1 : 0 ≤ (g + 1) * (v2 * P + vr) := Int.mul_nonneg (by omega) (Int.add_nonneg (Int.mul_nonneg hv2 (by omega)) hvr)
  have h2 : (U + 1) * (B * P) ≤ (g + 1) * v1 * (B * P) := Int.mul_le_mul_of_nonneg_right h (Int.mul_nonneg (by omega) (by omega))
  have h3 : (u0 + 1) * P ≤ B * P := Int.mul_le_mul_of_nonneg_right (by omega) (by omega)
  have e2 : (U * B + u0) * P = U * (B * P) + u0 * P := by grind
  rw [Int.add_mul, Int.one_mul] at h2 h3
  omega
theorem high_le {v1 v2 vr P B u2 u1 u0 ur : Int} (hP : 0 < P) (hB : 0 < B) (h : ((u2 * B + u1) * B + u0) * P + ur < ((v1 * B + v2) * P + vr) * B) (hu1 : 0 ≤ u1) (hu0 : 0 ≤ u0) (hur : 0 ≤ ur) (hv2 : v2 < B) (hvr : vr < P) : u2 ≤ v1 := by
  apply Classical.byContradiction
  intro hn
  have h1 : (v1 + 1) * (B * B * P) ≤ u2 * (B * B * P) := Int.mul_le_mul_of_nonneg_right (by omega) (Int.mul_nonneg (Int.mul_nonneg (by omega) (by omega)) (by omega))
  have h2 : (v2 + 1) * P ≤ B * P := Int.mul_le_mul_of_nonneg_right (by omega) (by omega)
  rw [Int.add_mul, Int.one_mul] at h2
  have h3 : (v2 * P + vr) * B ≤ B * P * B := Int.mul_le_mul_of_nonneg_right (by omega) (by omega)
  have h4 : 0 ≤ u1 * B * P := Int.mul_nonneg (Int.mul_nonneg hu1 (by omega)) (by omega)
  have h5 : 0 ≤ u0 * P := Int.mul_nonneg hu0 (by omega)
  have e1 : ((u2 * B + u1) * B + u0) * P = u2 * (B * B * P) + u1 * B * P + u0 * P := by grind
  have e2 : ((v1 * B + v2) * P + vr) * B = v1 * (B * B * P) + (v2 * P + vr) * B := by grind
  have e3 : (v1 + 1) * (B * B * P) = v1 * (B * B * P) + B * P * B := by grind
  omega
end Go.Proofs.YtoannkopciehcaaDoor.PA

namespace Go.Proofs.YtoannkopciehcaaDoor.PA
open Go Go.RowKit Go.Proofs.YtoannkopciehcaaDoorW.PrintWords Go.Proofs.YtoannkopciehcaaDoorW.PrintLast Go.Proofs.YtoannkopciehcaaDoorW.PrintMore
set_option linter.unusedVariables false
set_option linter.unusedSimpArgs false
theorem nv_take_of_lt {xs : List Int} (h : Ws xs) {n : Nat} (hn : n ≤ xs.length) (hl : nv xs < 2 ^ (64 * n)) : nv (xs.take n) = nv xs := by
  have e := nv_split (xs := xs) (n := n) hn
  have h1 := nv_nonneg (h.take n)
  have h2 := nv_nonneg (h.drop n)
  have hp := two_pow_pos (64 * n)
  have h3 : nv (xs.drop n) < 1 := by
    apply Classical.byContradiction
    intro hc
    have := Int.mul_le_mul_of_nonneg_left (show 1 ≤ nv (xs.drop n) by omega) (Int.le_of_lt hp)
    omega
  rw [show nv (xs.drop n) = 0 from by omega, Int.mul_zero] at e
  omega
/-- the first guess, and the loop that lessens it -/
theorem long_guess {p : Nat} {v u : List Int} {jn : Nat} (h : Lng p v u jn) (s : Int) (q : List Int) (hq : jn < q.length) (hqm : q.length ≤ 35184372088832) (hB : nv (win p u jn) < nv v * 18446744073709551616) (k : Nat) (hk : p + 2 < k) (R : List Int × List Int)
    (hR : quot_long.l0 k ((p + 2 : Nat) : Int) s v (spl p u jn (wn (p + 3) (nv (win p u jn) % nv v))) ((jn : Int) - 1) (q.set jn (nv (win p u jn) / nv v)) = some R) :
    quot_long.l0 (k + 5) ((p + 2 : Nat) : Int) s v u (jn : Int) q = some R := by
  have hlv := h.lv
  have hlu := h.lu
  have hmu := h.hm
  have A2 : Aside0 (wrap64 ((jn : Int) + ((p + 2 : Nat) : Int)) = ((jn + p + 2 : Nat) : Int)) := ⟨w64x (by omega) (by omega)⟩
  have A3 : Aside0 (wrap64 (((jn + p + 2 : Nat) : Int) - 1) = ((jn + p + 1 : Nat) : Int)) := ⟨w64x (by omega) (by omega)⟩
  have A4 : Aside0 (wrap64 (((p + 2 : Nat) : Int) - 1) = ((p + 1 : Nat) : Int)) := ⟨w64x (by omega) (by omega)⟩
  have b1 : ((jn + p + 2 : Nat) : Int) < (u.length : Int) := by omega
  have b2 : ((p + 1 : Nat) : Int) < (v.length : Int) := by omega
  have b3 : ((jn + p + 1 : Nat) : Int) < (u.length : Int) := by omega
  have b4 : ¬ (jn : Int) < 0 := by omega
  have v1 := h.hv.getD (p + 1)
  have v2 := h.hv.getD p
  have htop := h.top
  have w2 := h.hu.getD (jn + p + 2)
  have w1 := h.hu.getD (jn + p + 1)
  have w0 := h.hu.getD (jn + p)
  have e1 := nv_two h.lv
  have e2 := nv_three h.win_len
  rw [h.win_at _ (by omega), h.win_at _ (by omega), h.win_at _ (by omega)] at e2
  rw [show jn + (p + 2) = jn + p + 2 from by omega, show jn + (p + 1) = jn + p + 1 from by omega] at e2
  have hP := two_pow_pos (64 * p)
  have vr0 := nv_nonneg (h.hv.take p)
  have vr1 := nv_lt (h.hv.take p)
  have ur0 := nv_nonneg (h.win_ws.take p)
  have ur1 := nv_lt (h.win_ws.take p)
  rw [List.length_take, Nat.min_eq_left (by omega)] at vr1
  rw [List.length_take, Nat.min_eq_left (by rw [h.win_len]; omega)] at ur1
  have hhi : u.getD (jn + p + 2) 0 ≤ v.getD (p + 1) 0 := high_le hP (by decide) (by rw [← e1, ← e2]; exact hB) w1.1 w0.1 ur0 v2.2 vr1
  have sub : ∀ g, 0 ≤ g → g < 18446744073709551616 → (g - 1) * nv v ≤ nv (win p u jn) → nv (win p u jn) < (g + 1) * nv v → quot_long.j3 (k + 1) g ((p + 2 : Nat) : Int) s v u (jn : Int) q = some R := by
    intro g hg0 hg h1 h2
    rw [long_subtract h s q hq hqm g hg0 hg h1 h2 k hk]
    exact hR
  have corr : ∀ g r, 0 ≤ g → g < 18446744073709551616 → 0 ≤ r → r < 18446744073709551616 → g * v.getD (p + 1) 0 + r = u.getD (jn + p + 2) 0 * 18446744073709551616 + u.getD (jn + p + 1) 0 → nv (win p u jn) < (g + 1) * nv v → quot_long.j1 (k + 4) g r ((p + 2 : Nat) : Int) s v u (jn : Int) q = some R := by
    intro g r hg0 hg hr0 hr he hw
    obtain ⟨g', c0, c1, c2, c3, c4⟩ := long_correct h s q 2 g r hg0 hg hr0 hr (by clear e1 e2 he hw hB; omega) he hw
    unfold quot_long.j1
    exact c4 (k + 1) R (by omega) (sub g' c0 c1 c2 c3)
  conv => lhs; unfold quot_long.l0
  rw [if_neg b4, A2.out, A3.out, A4.out, if_pos (Int.natCast_nonneg _), if_pos b1, if_pos (Int.natCast_nonneg _), if_pos b2, rdn, rdn, rdn]
  clear b1 b2 b4
  by_cases heq : u.getD (jn + p + 2) 0 = v.getD (p + 1) 0
  · rw [if_pos heq, if_pos (Int.natCast_nonneg _), if_pos b3, wide_Add.f_eq w1.1 w1.2 v1.1 v1.2 (by decide) (by decide)]
    simp only [Option.bind_some]
    have he : 18446744073709551615 * v.getD (p + 1) 0 + (u.getD (jn + p + 1) 0 + v.getD (p + 1) 0) = u.getD (jn + p + 2) 0 * 18446744073709551616 + u.getD (jn + p + 1) 0 := by clear e1 e2; omega
    have hw : nv (win p u jn) < (18446744073709551615 + 1) * nv v := by rw [Int.mul_comm]; exact hB
    by_cases hcar : u.getD (jn + p + 1) 0 + v.getD (p + 1) 0 < 18446744073709551616
    · have c1 : ¬ (u.getD (jn + p + 1) 0 + v.getD (p + 1) 0 + 0) / 18446744073709551616 = 1 := by clear e1 e2 he hw; omega
      have c2 : (u.getD (jn + p + 1) 0 + v.getD (p + 1) 0 + 0) % 18446744073709551616 = u.getD (jn + p + 1) 0 + v.getD (p + 1) 0 := by clear e1 e2 he hw; omega
      rw [if_neg c1, c2]
      exact corr _ _ (by decide) (by decide) (by clear e1 e2 he hw; omega) hcar he hw
    · have c1 : (u.getD (jn + p + 1) 0 + v.getD (p + 1) 0 + 0) / 18446744073709551616 = 1 := by clear e1 e2 he hw; omega
      rw [if_pos c1]
      have hov := knuth_over (vr := nv (v.take p)) (ur := nv ((win p u jn).take p)) (u0 := u.getD (jn + p) 0) hP (by decide) he (by clear e1 e2 he hw; omega) ur0 w0.1 (by decide) (by decide) vr1 v2.2
      rw [← e1, ← e2] at hov
      have hvp := h.vpos
      have hj3 := sub 18446744073709551615 (by decide) (by decide) (by rw [Int.sub_mul]; clear e1 e2 he hw hB; omega) hw
      exact LeO.add (f := fun k => quot_long.j3 k 18446744073709551615 ((p + 2 : Nat) : Int) s v u (jn : Int) q) (fun k => (quot_long.mono_l k).2.1 _ _ _ _ _ _ _) 3 (k + 1) R hj3
  · rw [if_neg heq, if_pos (Int.natCast_nonneg _), if_pos b3]
    obtain ⟨d1, d2, d3, d4, d5, d6⟩ := div_step (r := u.getD (jn + p + 2) 0) (x := u.getD (jn + p + 1) 0) (d := v.getD (p + 1) 0) w2.1 (by clear e1 e2; omega) w1.1 w1.2 v1.2
    rw [d1]
    simp only [Option.bind_some]
    generalize (u.getD (jn + p + 2) 0 * 18446744073709551616 + u.getD (jn + p + 1) 0) / v.getD (p + 1) 0 = g at *
    generalize (u.getD (jn + p + 2) 0 * 18446744073709551616 + u.getD (jn + p + 1) 0) % v.getD (p + 1) 0 = r at *
    refine corr g r d2 d3 d4 (by clear e1 e2 d6 d1; omega) d6.symm ?_
    have hf := knuth_first (g := g) (vr := nv (v.take p)) (ur := nv ((win p u jn).take p)) (u0 := u.getD (jn + p) 0) (v1 := v.getD (p + 1) 0) (v2 := v.getD p 0) (U := u.getD (jn + p + 2) 0 * 18446744073709551616 + u.getD (jn + p + 1) 0) hP (show (0 : Int) < 18446744073709551616 by decide) (by rw [d6, Int.add_mul]; clear e1 e2 d6 d1; omega) w0.2 ur1 d2 vr0 v2.1
    rw [← e1, ← e2] at hf
    exact hf
/-- the invariant's step -/
theorem long_inv {X V W nu nq Q R t P : Int} (hW : W = V * Q + R) (hn : nu = t + P * W) (he : nu + V * nq = X) : (nu + P * (R - W)) + V * (nq + (Q - 0) * P) = X := by
  subst hW hn
  grind
theorem long_main {p : Nat} {v : List Int} (hv : Ws v) (lv : v.length = p + 2) (top : 9223372036854775808 ≤ v.getD (p + 1) 0) (s : Nat) (hs : s ≤ 63) (X : Int) : ∀ (J k : Nat) (u q : List Int), 5 * J + u.length + 1 < k → Ws u → J + p + 2 ≤ u.length → u.length ≤ 35184372088832 → Ws q → J ≤ q.length → q.length ≤ 35184372088832 → (∀ i, i < J → q.getD i 0 = 0) → nv u < nv v * 2 ^ (64 * J) → nv u + nv v * nv q = X →
    quot_long.l0 k ((p + 2 : Nat) : Int) (s : Int) v u ((J : Int) - 1) q = some (wd (X / nv v).toNat, wd (X % nv v / 2 ^ s).toNat) := by
  intro J
  induction J with
  | zero =>
    intro k u q hk hu lu mu hq lq mq hz hb he
    obtain ⟨k, rfl⟩ : ∃ j, k = j + 1 := ⟨k - 1, by omega⟩
    have hvl := nv_lt hv
    have hu0 := nv_nonneg hu
    rw [lv] at hvl
    rw [Nat.mul_zero, Int.pow_zero, Int.mul_one] at hb
    have eQ : X / nv v = nv q := by rw [← he, Int.add_mul_ediv_left _ _ (by omega), Int.ediv_eq_zero_of_lt hu0 hb, Int.zero_add]
    have eR : X % nv v = nv u := by rw [← he, Int.add_mul_emod_self_left, Int.emod_eq_of_lt hu0 hb]
    have hlt : nv u < 2 ^ (64 * (p + 2)) := Int.lt_trans hb hvl
    have c1 : ((0 : Nat) : Int) - 1 < 0 := by decide
    have c2 : ((p + 2 : Nat) : Int) ≤ (u.length : Int) := by clear hvl hb hlt he eQ eR; omega
    have lt1 : (u.take (p + 2)).length = p + 2 := by rw [List.length_take]; clear hvl hb hlt he eQ eR; omega
    unfold quot_long.l0
    rw [if_pos c1, nat_Norm.f, if_pos mq]
    simp only [Option.bind_some]
    rw [if_pos (Int.natCast_nonneg _), if_pos c2, Int.toNat_natCast, quot_shr.f_eq _ (hu.take _) s hs (by rw [lt1]; clear hvl hb hlt he eQ eR; omega) k (by rw [lt1]; clear hvl hb hlt he eQ eR; omega)]
    simp only [Option.bind_some]
    rw [nv_take_of_lt hu (by clear hvl hb hlt he eQ eR; omega) hlt, eQ, eR, wd_nv hq]
  | succ J ih =>
    intro k u q hk hu lu mu hq lq mq hz hb he
    obtain ⟨k, rfl⟩ : ∃ j, k = j + 5 := ⟨k - 5, by omega⟩
    have h : Lng p v u J := ⟨hv, lv, top, hu, by omega, mu⟩
    have hvp := h.vpos
    have hp := two_pow_pos (64 * J)
    have hw0 := nv_nonneg h.win_ws
    have ht0 := nv_nonneg (hu.take J)
    have hd0 := nv_nonneg (hu.drop (J + (p + 3)))
    have ht1 := nv_lt (hu.take J)
    rw [List.length_take, Nat.min_eq_left (by omega)] at ht1
    have ew := win_nv (p := p) (u := u) (jn := J) h.lu
    have hvl := h.v_lt
    -- what is above the piece is 0
    have hdz : nv (u.drop (J + (p + 3))) = 0 := by
      have hlt : nv u < 2 ^ (64 * (J + (p + 3))) := by
        have h1 : nv v * 2 ^ (64 * (J + 1)) ≤ 2 ^ (64 * (p + 2)) * 2 ^ (64 * (J + 1)) := Int.mul_le_mul_of_nonneg_right (Int.le_of_lt hvl) (Int.le_of_lt (two_pow_pos _))
        rw [← Int.pow_add, show 64 * (p + 2) + 64 * (J + 1) = 64 * (J + (p + 3)) from by omega] at h1
        exact Int.lt_of_lt_of_le hb h1
      have h3 := nv_take_of_lt hu (n := J + (p + 3)) (by omega) hlt
      have h4 := nv_split (xs := u) (n := J + (p + 3)) (by omega)
      rw [h3] at h4
      have h5 : 2 ^ (64 * (J + (p + 3))) * nv (u.drop (J + (p + 3))) = 0 := by omega
      rcases Int.mul_eq_zero.1 h5 with h6 | h6
      · have := two_pow_pos (64 * (J + (p + 3))); omega
      · exact h6
    rw [hdz, Int.mul_zero, Int.add_zero] at ew
    have hB : nv (win p u J) < nv v * 18446744073709551616 := by
      apply Classical.byContradiction
      intro hn
      have h1 : 2 ^ (64 * J) * (nv v * 18446744073709551616) ≤ 2 ^ (64 * J) * nv (win p u J) := Int.mul_le_mul_of_nonneg_left (by omega) (Int.le_of_lt hp)
      rw [pow64] at hb
      have h2 : 2 ^ (64 * J) * (nv v * 18446744073709551616) = nv v * (18446744073709551616 * 2 ^ (64 * J)) := by grind
      omega
    have hQ0 : 0 ≤ nv (win p u J) / nv v := Int.ediv_nonneg hw0 (Int.le_of_lt hvp)
    have hQ1 : nv (win p u J) / nv v < 18446744073709551616 := Int.ediv_lt_of_lt_mul hvp (by rw [Int.mul_comm]; exact hB)
    have hR0 : 0 ≤ nv (win p u J) % nv v := Int.emod_nonneg _ (by omega)
    have hR1 : nv (win p u J) % nv v < nv v := Int.emod_lt_of_pos _ hvp
    have hRl : nv (win p u J) % nv v < 2 ^ (64 * (p + 3)) := Int.lt_trans hR1 (Int.lt_of_lt_of_le hvl (pow_mono (by omega)))
    have eW : nv (win p u J) = nv v * (nv (win p u J) / nv v) + nv (win p u J) % nv v := (Int.mul_ediv_add_emod _ _).symm
    have ly := wn_length (p + 3) (nv (win p u J) % nv v)
    have wy := wn_ws (p + 3) (nv (win p u J) % nv v)
    have ny := nv_wn (p + 3) hR0 hRl
    have esp := spl_nv (p := p) (u := u) (jn := J) h.lu ly
    rw [ny] at esp
    have eJ : ((J + 1 : Nat) : Int) - 1 = (J : Int) := by omega
    rw [eJ]
    refine long_guess h s q (by omega) mq hB k (by omega) _ ?_
    refine ih k _ _ (by rw [spl_len h.lu ly]; omega) (spl_ws hu wy) (by rw [spl_len h.lu ly]; omega) (by rw [spl_len h.lu ly]; omega) (hq.set _ hQ0 hQ1) (by rw [List.length_set]; omega) (by rw [List.length_set]; omega) (fun i hi => by rw [set_getD_ne (by omega)]; exact hz i (by omega)) ?_ ?_
    · rw [esp]
      have e3 : nv u + 2 ^ (64 * J) * (nv (win p u J) % nv v - nv (win p u J)) = nv (u.take J) + 2 ^ (64 * J) * (nv (win p u J) % nv v) := by
        rw [Int.mul_sub]; omega
      rw [e3]
      have h1 : 2 ^ (64 * J) * (nv (win p u J) % nv v + 1) ≤ 2 ^ (64 * J) * nv v := Int.mul_le_mul_of_nonneg_left hR1 (Int.le_of_lt hp)
      rw [Int.mul_add, Int.mul_one] at h1
      rw [Int.mul_comm (nv v)]
      omega
    · rw [esp, nv_set (by omega), hz J (by omega)]
      exact long_inv eW ew he
end Go.Proofs.YtoannkopciehcaaDoor.PA

namespace Go.Proofs.YtoannkopciehcaaDoor.PA
open Go Go.RowKit Go.Proofs.YtoannkopciehcaaDoorW.PrintWords Go.Proofs.YtoannkopciehcaaDoorW.PrintLast Go.Proofs.YtoannkopciehcaaDoorW.PrintMore
set_option linter.unusedVariables false
set_option linter.unusedSimpArgs false
def cmpI (a b : Int) : Int := if a < b then -1 else if a = b then 0 else 1
theorem wide_Cmp.words (a b : Int) (k : Nat) (hk : 0 < k) : wide_Cmp.f k 0 a 0 b = some (cmpI a b) := by
  obtain ⟨k, rfl⟩ : ∃ j, k = j + 1 := ⟨k - 1, by omega⟩
  unfold wide_Cmp.f cmpI
  rw [if_neg (by decide), if_pos rfl]
  by_cases h : a < b
  · rw [decide_eq_true h, wide_Cmp.j0, if_pos rfl, if_pos h]
  · rw [decide_eq_false h, wide_Cmp.j0, if_neg (by decide), if_pos rfl, if_neg h]
    by_cases h2 : a = b
    · rw [if_pos h2, if_pos h2]
    · rw [if_neg h2, if_neg h2]
theorem cmpI_add (a b z : Int) : cmpI (a + z) (b + z) = cmpI a b := by
  unfold cmpI
  by_cases h1 : a < b
  · rw [if_pos h1, if_pos (by omega)]
  · rw [if_neg h1, if_neg (by omega)]
    by_cases h2 : a = b
    · rw [if_pos h2, if_pos (by omega)]
    · rw [if_neg h2, if_neg (by omega)]
theorem cmp_high {a b x y P : Int} (ha0 : 0 ≤ a) (ha : a < P) (hb0 : 0 ≤ b) (hb : b < P) (h : x ≠ y) : cmpI (a + x * P) (b + y * P) = cmpI x y := by
  unfold cmpI
  by_cases h1 : x < y
  · have : (x + 1) * P ≤ y * P := Int.mul_le_mul_of_nonneg_right (by omega) (by omega)
    rw [Int.add_mul, Int.one_mul] at this
    rw [if_pos h1, if_pos (by omega)]
  · have : (y + 1) * P ≤ x * P := Int.mul_le_mul_of_nonneg_right (by omega) (by omega)
    rw [Int.add_mul, Int.one_mul] at this
    rw [if_neg h1, if_neg h, if_neg (by omega), if_neg (by omega)]
theorem nat_Cmp.l0_eq (x y : List Int) (hx : Ws x) (hy : Ws y) (hm : x.length ≤ 35184372088832) : ∀ (n k : Nat), n < k → n ≤ x.length → n ≤ y.length → nat_Cmp.l0 k x y ((n : Int) - 1) = some (cmpI (nv (x.take n)) (nv (y.take n))) := by
  intro n
  induction n with
  | zero =>
    intro k hk _ _
    obtain ⟨k, rfl⟩ : ∃ j, k = j + 1 := ⟨k - 1, by omega⟩
    unfold nat_Cmp.l0
    rw [if_neg (by omega)]
    rfl
  | succ n ih =>
    intro k hk h1 h2
    obtain ⟨k, rfl⟩ : ∃ j, k = j + 1 := ⟨k - 1, by omega⟩
    have er : ((n + 1 : Nat) : Int) - 1 = (n : Int) := by omega
    unfold nat_Cmp.l0
    rw [er, if_pos (by omega), if_pos (by omega), if_pos (by omega), if_pos (by omega), rdn, rdn, wide_Cmp.words _ _ k (by omega)]
    simp only [Option.bind_some]
    rw [w64_of (by omega) (by omega), nv_take_succ h1, nv_take_succ h2]
    have a0 := nv_nonneg (hx.take n)
    have a1 := nv_lt (hx.take n)
    have b0 := nv_nonneg (hy.take n)
    have b1 := nv_lt (hy.take n)
    rw [List.length_take, Nat.min_eq_left (by omega)] at a1 b1
    by_cases h : x.getD n 0 = y.getD n 0
    · rw [h, if_pos (by unfold cmpI; rw [if_neg (by omega), if_pos rfl]), ih k (by omega) (by omega) (by omega)]
      rw [cmpI_add]
    · rw [cmp_high a0 a1 b0 b1 h, if_neg]
      unfold cmpI
      split <;> first | decide | (rw [if_neg h]; decide)
theorem nat_Cmp.f_eq (x y : List Int) (hx : Ws x) (hy : Ws y) (hmx : x.length ≤ 35184372088832) (hmy : y.length ≤ 35184372088832) (k : Nat) (hk : x.length < k) (hk2 : y.length < k) : nat_Cmp.f k x y = some (cmpI (nv x) (nv y)) := by
  have lx := strip_length_le x
  have ly := strip_length_le y
  rw [nat_Cmp.f, nat_size.f_eq x (by omega) k hk]
  simp only [Option.bind_some]
  rw [nat_size.f_eq y (by omega) k hk2]
  simp only [Option.bind_some]
  have sx := strip_len_le hx
  have sy := strip_len_le hy
  by_cases h : (strip x).length = (strip y).length
  · rw [if_pos (by omega), w64_of (by omega) (by omega), nat_Cmp.l0_eq x y hx hy hmx _ k (by omega) lx (by omega)]
    have e1 : x.take (strip x).length = strip x := (strip_take x).symm
    have e2 : y.take (strip x).length = strip y := by rw [h]; exact (strip_take y).symm
    rw [e1, e2, nv_strip, nv_strip]
  · rw [if_neg (by omega)]
    by_cases h2 : (strip x).length < (strip y).length
    · rw [if_pos (by omega)]
      have a := (sx (strip x).length).1 (Nat.le_refl _)
      have b : ¬ nv y < 2 ^ (64 * (strip x).length) := fun hc => by have := (sy (strip x).length).2 hc; omega
      unfold cmpI
      rw [if_pos (by omega)]
    · rw [if_neg (by omega)]
      have a := (sy (strip y).length).1 (Nat.le_refl _)
      have b : ¬ nv x < 2 ^ (64 * (strip y).length) := fun hc => by have := (sx (strip y).length).2 hc; omega
      unfold cmpI
      rw [if_neg (by omega), if_neg (by omega)]
theorem nat_From.f_eq {v : Int} (h0 : 0 ≤ v) (h1 : v < 18446744073709551616) : nat_From.f v = some (wd v.toNat) := by
  have hw : Ws [v] := Ws.cons h0 h1 Ws.nil
  have e := wd_nv hw
  have hn : nv [v] = v := by simp [nv]
  rw [hn] at e
  rw [nat_From.f, nat_Norm.f, if_pos (by simp), e]
  rfl
theorem mul_pow_lt {a : Int} {s m n : Nat} (h0 : 0 ≤ a) (h : a < 2 ^ m) (hn : m + s ≤ n) : a * 2 ^ s < 2 ^ n := by
  have h1 : a * 2 ^ s < 2 ^ m * 2 ^ s := Int.mul_lt_mul_of_pos_right h (two_pow_pos s)
  rw [← Int.pow_add] at h1
  exact Int.lt_of_lt_of_le h1 (pow_mono hn)
theorem quot_long.f_eq (x y : List Int) (p : Nat) (hx : Ws x) (hy : Ws y) (ly : y.length = p + 2) (hne : y.getD (p + 1) 0 ≠ 0) (lxy : y.length ≤ x.length) (hm : x.length < 35184372088832) (k : Nat) (hk : 6 * x.length + 20 < k) :
    quot_long.f k x y = some (wd (nv x / nv y).toNat, wd (nv x % nv y).toNat) := by
  have wt := hy.getD (p + 1)
  have wp := hy.getD p
  have hb1 := bitsN_pos (x := y.getD (p + 1) 0) (by omega)
  have hb2 := bitsN_le_of_lt (n := 64) wt.1 wt.2
  have A1 : Aside0 (wrap64 ((y.length : Int) - 1) = ((p + 1 : Nat) : Int)) := ⟨w64x (by omega) (by omega)⟩
  have A2 : Aside0 (wrap64 ((x.length : Int) + 1) = ((x.length + 1 : Nat) : Int)) := ⟨w64x (by omega) (by omega)⟩
  have A3 : Aside0 (wrap64 ((x.length : Int) - (y.length : Int)) = ((x.length - (p + 2) : Nat) : Int)) := ⟨w64x (by omega) (by omega)⟩
  have A4 : Aside0 (wrap64 (((x.length - (p + 2) : Nat) : Int) + 1) = ((x.length - (p + 2) + 1 : Nat) : Int)) := ⟨w64x (by omega) (by omega)⟩
  have b1 : ((p + 1 : Nat) : Int) < (y.length : Int) := by omega
  obtain ⟨s, hs⟩ : ∃ s : Nat, 64 - bitsN (y.getD (p + 1) 0) = (s : Int) := ⟨(64 - bitsN (y.getD (p + 1) 0)).toNat, by omega⟩
  have hs63 : s ≤ 63 := by omega
  have A5 : Aside0 (wrap64 (64 - bitsN (y.getD (p + 1) 0)) = (s : Int)) := ⟨w64x hs (by omega)⟩
  have eb : (bitsN (y.getD (p + 1) 0)).toNat = 64 - s := by omega
  have hbl := bitsN_lt (x := y.getD (p + 1) 0) (by omega)
  have hbg := bitsN_ge (x := y.getD (p + 1) 0) (by omega)
  rw [eb] at hbl hbg
  have e1 := nv_two ly
  have hP := two_pow_pos (64 * p)
  have r0 := nv_nonneg (hy.take p)
  have r1 := nv_lt (hy.take p)
  rw [List.length_take, Nat.min_eq_left (by rw [ly]; omega)] at r1
  have ny0 := nv_nonneg hy
  have nx0 := nv_nonneg hx
  have nx1 := nv_lt hx
  -- the divisor's number from above and from below
  have hyl : nv y < 2 ^ (64 - s + 64 * (p + 1)) := by
    have h1 : (y.getD (p + 1) 0 + 1) * (18446744073709551616 * 2 ^ (64 * p)) ≤ 2 ^ (64 - s) * (18446744073709551616 * 2 ^ (64 * p)) := Int.mul_le_mul_of_nonneg_right hbl (by omega)
    have h2 : (y.getD p 0 + 1) * 2 ^ (64 * p) ≤ 18446744073709551616 * 2 ^ (64 * p) := Int.mul_le_mul_of_nonneg_right (by omega) (by omega)
    rw [Int.add_mul, Int.one_mul] at h1 h2
    rw [Int.pow_add, pow64, e1, Int.add_mul, Int.mul_assoc]
    omega
  have hyg : 2 ^ (64 - s - 1 + 64 * (p + 1)) ≤ nv y := by
    have h1 : 2 ^ (64 - s - 1) * (18446744073709551616 * 2 ^ (64 * p)) ≤ y.getD (p + 1) 0 * (18446744073709551616 * 2 ^ (64 * p)) := Int.mul_le_mul_of_nonneg_right hbg (by omega)
    have h2 : 0 ≤ y.getD p 0 * 2 ^ (64 * p) := Int.mul_nonneg wp.1 (by omega)
    rw [Int.pow_add, pow64, e1, Int.add_mul, Int.mul_assoc]
    omega
  have hV1 : nv y * 2 ^ s < 2 ^ (64 * (p + 2)) := mul_pow_lt ny0 hyl (by omega)
  have hV0 : 2 ^ (63 + 64 * (p + 1)) ≤ nv y * 2 ^ s := by
    have h1 : 2 ^ (64 - s - 1 + 64 * (p + 1)) * 2 ^ s ≤ nv y * 2 ^ s := Int.mul_le_mul_of_nonneg_right hyg (Int.le_of_lt (two_pow_pos s))
    rwa [← Int.pow_add, show 64 - s - 1 + 64 * (p + 1) + s = 63 + 64 * (p + 1) from by omega] at h1
  have hVn : 0 ≤ nv y * 2 ^ s := Int.le_trans (Int.le_of_lt (two_pow_pos _)) hV0
  have hU1 : nv x * 2 ^ s < 2 ^ (64 * (x.length + 1)) := mul_pow_lt nx0 nx1 (by omega)
  have hUn : 0 ≤ nv x * 2 ^ s := Int.mul_nonneg nx0 (Int.le_of_lt (two_pow_pos s))
  have eV := nv_wn (p + 2) hVn hV1
  have eU := nv_wn (x.length + 1) hUn hU1
  have lV := wn_length (p + 2) (nv y * 2 ^ s)
  have lU := wn_length (x.length + 1) (nv x * 2 ^ s)
  have wV := wn_ws (p + 2) (nv y * 2 ^ s)
  have wU := wn_ws (x.length + 1) (nv x * 2 ^ s)
  have htop : 9223372036854775808 ≤ (wn (p + 2) (nv y * 2 ^ s)).getD (p + 1) 0 := by
    have t1 := nv_two lV
    rw [eV] at t1
    have t2 := nv_lt (wV.take p)
    rw [List.length_take, Nat.min_eq_left (by rw [lV]; omega)] at t2
    have t3 := wV.getD p
    apply Classical.byContradiction
    intro hn
    have h1 : ((wn (p + 2) (nv y * 2 ^ s)).getD (p + 1) 0 + 1) * (18446744073709551616 * 2 ^ (64 * p)) ≤ 2 ^ 63 * (18446744073709551616 * 2 ^ (64 * p)) := Int.mul_le_mul_of_nonneg_right (by rw [show (2 : Int) ^ 63 = 9223372036854775808 from rfl]; omega) (by omega)
    have h2 : ((wn (p + 2) (nv y * 2 ^ s)).getD p 0 + 1) * 2 ^ (64 * p) ≤ 18446744073709551616 * 2 ^ (64 * p) := Int.mul_le_mul_of_nonneg_right (by omega) (by omega)
    rw [Int.add_mul, Int.one_mul] at h1 h2
    rw [Int.pow_add, pow64] at hV0
    rw [Int.add_mul, Int.mul_assoc] at t1
    omega
  have hlt : nv (wn (x.length + 1) (nv x * 2 ^ s)) < nv (wn (p + 2) (nv y * 2 ^ s)) * 2 ^ (64 * (x.length - (p + 2) + 1)) := by
    rw [eU, eV]
    have h1 : 2 ^ (63 + 64 * (p + 1)) * 2 ^ (64 * (x.length - (p + 2) + 1)) ≤ nv y * 2 ^ s * 2 ^ (64 * (x.length - (p + 2) + 1)) := Int.mul_le_mul_of_nonneg_right hV0 (Int.le_of_lt (two_pow_pos _))
    rw [← Int.pow_add] at h1
    exact Int.lt_of_lt_of_le (mul_pow_lt nx0 nx1 (by omega)) h1
  have main := long_main wV lV htop s hs63 (nv x * 2 ^ s) (x.length - (p + 2) + 1) k (wn (x.length + 1) (nv x * 2 ^ s)) (List.replicate (x.length - (p + 2) + 1) 0) (by rw [lU]; omega) wU (by rw [lU]; omega) (by rw [lU]; omega) (Ws.zeros _) (by simp) (by rw [List.length_replicate]; omega) (fun i _ => by rw [List.getD_eq_getElem?_getD, List.getElem?_replicate]; split <;> rfl) hlt (by rw [nv_zeros, Int.mul_zero, Int.add_zero, eU])
  rw [eV] at main
  have em : ((x.length - (p + 2) + 1 : Nat) : Int) - 1 = ((x.length - (p + 2) : Nat) : Int) := by omega
  rw [em, Int.mul_ediv_mul_of_pos_left _ _ (two_pow_pos s), Int.mul_comm (nv x) (2 ^ s), Int.mul_comm (nv y) (2 ^ s), Int.mul_emod_mul_of_pos _ _ (two_pow_pos s), Int.mul_ediv_cancel_left _ (Int.ne_of_gt (two_pow_pos s))] at main
  rw [Int.mul_comm (2 ^ s) (nv y), Int.mul_comm (2 ^ s) (nv x)] at main
  clear em hlt htop
  rw [quot_long.f, A1.out, if_pos (Int.natCast_nonneg _), if_pos b1, rdn, wide_Len.f_eq wt.1 wt.2 k (by omega)]
  rw [Option.bind_some]
  rw [A5.out, ly, quot_shl.f_eq y hy s (p + 2) hs63 (by omega) (by omega) hV1 k (by omega)]
  rw [Option.bind_some]
  rw [A2.out, quot_shl.f_eq x hx s (x.length + 1) hs63 (by omega) (by omega) hU1 k (by omega)]
  rw [Option.bind_some]
  rw [← ly, A3.out, A4.out, if_pos (Int.natCast_nonneg _), Int.toNat_natCast, if_pos (by omega), ly]
  exact main
theorem quot_DivMod.f_eq (x y : List Int) (hx : Ws x) (hy : Ws y) (hmx : x.length < 35184372088832) (hmy : y.length ≤ 35184372088832) (k : Nat) (hk : 6 * x.length + 20 < k) (hk2 : y.length < k) :
    quot_DivMod.f k x y = some (if nv y = 0 then ([], [], 30) else (wd (nv x / nv y).toNat, wd (nv x % nv y).toNat, 0)) := by
  have lx := strip_length_le x
  have ly := strip_length_le y
  have nx := nv_nonneg hx
  have ny := nv_nonneg hy
  rw [quot_DivMod.f, nat_Norm.f, if_pos (by omega)]
  rw [Option.bind_some]
  rw [nat_Norm.f, if_pos hmy]
  rw [Option.bind_some]
  have hp := strip_length_pos hy
  by_cases h0 : nv y = 0
  · rw [if_pos h0, if_pos (by omega)]
  · rw [if_neg h0, if_neg (by omega), nat_Cmp.f_eq _ _ hx.strip hy.strip (by omega) (by omega) k (by omega) (by omega), nv_strip, nv_strip]
    rw [Option.bind_some]
    by_cases hc : nv x < nv y
    · have e : cmpI (nv x) (nv y) = -1 := by unfold cmpI; rw [if_pos hc]
      rw [e, if_pos (by decide), Int.ediv_eq_zero_of_lt nx hc, Int.emod_eq_of_lt nx hc, wd_nv hx]
      simp [wd_zero]
    · have e : ¬ cmpI (nv x) (nv y) < 0 := by unfold cmpI; rw [if_neg hc]; split <;> decide
      rw [if_neg e]
      by_cases h1 : (strip y).length = 1
      · have w0 := hy.strip.getD 0
        have en : nv (strip y) = (strip y).getD 0 0 := by
          match hq : strip y, h1 with
          | [a], _ => simp [nv]
        rw [nv_strip] at en
        rw [if_pos (by omega), if_pos (by omega), show rd (strip y) 0 = (strip y).getD 0 0 from rfl, ← en, quot_Small.f_eq _ hx.strip (nv y) (by omega) (by omega) (by omega) k (by omega), nv_strip]
        rw [Option.bind_some]
        rw [nat_From.f_eq (Int.emod_nonneg _ h0) (Int.lt_trans (Int.emod_lt_of_pos _ (by omega)) (by omega))]
        rfl
      · rw [if_neg (by omega)]
        obtain ⟨p, hpl⟩ : ∃ p, (strip y).length = p + 2 := ⟨(strip y).length - 2, by omega⟩
        have hst : strip (strip y) = strip y := strip_strip y
        have hne : (strip y).getD (p + 1) 0 ≠ 0 := by
          have := strip_last (xs := strip y) (by rw [hst]; omega)
          rwa [hst, hpl, show p + 2 - 1 = p + 1 from by omega] at this
        have hle : (strip y).length ≤ (strip x).length := by
          have sx := strip_len_le hx (strip x).length
          have sy := strip_len_le hy (strip x).length
          have := sx.1 (Nat.le_refl _)
          exact sy.2 (by omega)
        rw [quot_long.f_eq _ _ p hx.strip hy.strip hpl hne hle (by omega) k (by omega), nv_strip, nv_strip]
        rfl
end Go.Proofs.YtoannkopciehcaaDoor.PA

namespace Go.Proofs.YtoannkopciehcaaDoor.PA
open Go Go.RowKit Go.Proofs.YtoannkopciehcaaDoorW.PrintWords Go.Proofs.YtoannkopciehcaaDoorW.PrintLast Go.Proofs.YtoannkopciehcaaDoorW.PrintMore
set_option linter.unusedVariables false
set_option linter.unusedSimpArgs false
end Go.Proofs.YtoannkopciehcaaDoor.PA

namespace Go.Proofs.YtoannkopciehcaaDoor.PA
open Go Go.RowKit Go.Proofs.YtoannkopciehcaaDoorW.PrintWords Go.Proofs.YtoannkopciehcaaDoorW.PrintLast Go.Proofs.YtoannkopciehcaaDoorW.PrintMore
set_option linter.unusedVariables false
set_option linter.unusedSimpArgs false
/-- all entries are halves of words -/
def Hs (xs : List Int) : Prop := ∀ x ∈ xs, 0 ≤ x ∧ x < 4294967296
/-- the number of a list of halves -/
def hv : List Int → Int
  | [] => 0
  | x :: xs => x + 4294967296 * hv xs
theorem Hs.getD {xs : List Int} (h : Hs xs) (n : Nat) : 0 ≤ xs.getD n 0 ∧ xs.getD n 0 < 4294967296 := by
  rw [List.getD_eq_getElem?_getD]
  cases e : xs[n]? with
  | none => simp
  | some v => simpa using h v (List.mem_of_getElem? e)
theorem Hs.set {xs : List Int} (h : Hs xs) (n : Nat) {v : Int} (h0 : 0 ≤ v) (h1 : v < 4294967296) : Hs (xs.set n v) := by
  intro y hy
  rcases List.mem_or_eq_of_mem_set hy with hy | rfl
  · exact h y hy
  · exact ⟨h0, h1⟩
theorem Hs.snoc {xs : List Int} (h : Hs xs) {v : Int} (h0 : 0 ≤ v) (h1 : v < 4294967296) : Hs (xs ++ [v]) := by
  intro y hy
  rcases List.mem_append.1 hy with hy | hy
  · exact h y hy
  · rcases List.mem_singleton.1 hy with rfl
    exact ⟨h0, h1⟩
end Go.Proofs.YtoannkopciehcaaDoor.PA

namespace Go.Proofs.YtoannkopciehcaaDoor.PA
open Go Go.RowKit Go.Proofs.YtoannkopciehcaaDoorW.PrintWords Go.Proofs.YtoannkopciehcaaDoorW.PrintLast Go.Proofs.YtoannkopciehcaaDoorW.PrintMore
set_option linter.unusedVariables false
set_option linter.unusedSimpArgs false
theorem nv_take_lt {xs : List Int} (h : Ws xs) (i : Nat) : nv (xs.take i) < 2 ^ (64 * i) := by
  have h1 := nv_lt (h.take i)
  have h2 : (xs.take i).length ≤ i := List.length_take_le _ _
  exact Int.lt_of_lt_of_le h1 (pow_mono (by omega))
end Go.Proofs.YtoannkopciehcaaDoor.PA

namespace Go.Proofs.YtoannkopciehcaaDoor.PA
open Go Go.RowKit Go.Proofs.YtoannkopciehcaaDoorW.PrintWords Go.Proofs.YtoannkopciehcaaDoorW.PrintLast Go.Proofs.YtoannkopciehcaaDoorW.PrintMore
set_option linter.unusedVariables false
set_option linter.unusedSimpArgs false
end Go.Proofs.YtoannkopciehcaaDoor.PA

namespace Go.Proofs.YtoannkopciehcaaDoor.PA
open Go Go.RowKit Go.Proofs.YtoannkopciehcaaDoorW.PrintWords Go.Proofs.YtoannkopciehcaaDoorW.PrintLast Go.Proofs.YtoannkopciehcaaDoorW.PrintMore
set_option linter.unusedVariables false
set_option linter.unusedSimpArgs false
end Go.Proofs.YtoannkopciehcaaDoor.PA

namespace Go.Proofs.YtoannkopciehcaaDoor.PA
open Go Go.RowKit Go.Proofs.YtoannkopciehcaaDoorW.PrintWords Go.Proofs.YtoannkopciehcaaDoorW.PrintLast Go.Proofs.YtoannkopciehcaaDoorW.PrintMore
set_option linter.unusedVariables false
set_option linter.unusedSimpArgs false
def pS (d : Nat) : Nat := d / 4503599627370496 - 1
theorem wd_len {n : Int} {t : Nat} (h0 : 0 ≤ n) (h : n < 2 ^ (64 * t)) : (wd n.toNat).length ≤ t := by
  have hw := wd_ws n.toNat
  have h1 := (strip_len_le hw t).2 (by rw [nv_wd, Int.toNat_of_nonneg h0]; exact h)
  rw [strip_wd] at h1
  exact h1
end Go.Proofs.YtoannkopciehcaaDoor.PA

namespace Go.Proofs.YtoannkopciehcaaDoor.PA
open Go Go.RowKit Go.Proofs.YtoannkopciehcaaDoorW.PrintWords Go.Proofs.YtoannkopciehcaaDoorW.PrintLast Go.Proofs.YtoannkopciehcaaDoorW.PrintMore
set_option linter.unusedVariables false
set_option linter.unusedSimpArgs false
theorem odd_part2 : ∀ (n w : Nat), w ≤ n → w ≠ 0 → ∃ o t, w = o * 2 ^ t ∧ o % 2 = 1 := by
  intro n
  induction n with
  | zero => intro w h1 h2; omega
  | succ n ih =>
    intro w h1 h2
    by_cases h : w % 2 = 1
    · exact ⟨w, 0, by simp, h⟩
    · obtain ⟨o, t, e, ho⟩ := ih (w / 2) (by omega) (by omega)
      exact ⟨o, t + 1, by rw [Nat.pow_succ, ← Nat.mul_assoc, ← e]; omega, ho⟩
theorem mod_odd {o z s : Nat} (ho : o % 2 = 1) : (o * 2 ^ z % 2 ^ s ≠ 0) ↔ z < s := by
  constructor
  · intro h
    apply Classical.byContradiction
    intro hn
    apply h
    rw [show z = (z - s) + s from by omega, Nat.pow_add, ← Nat.mul_assoc, Nat.mul_mod_left]
  · intro h hz
    rw [show s = (s - z - 1) + 1 + z from by omega, Nat.pow_add, Nat.mul_mod_mul_right] at hz
    have h1 := (Nat.mul_eq_zero.1 hz).resolve_right (Nat.ne_of_gt (Nat.pow_pos (by decide)))
    have h2 : 2 ∣ o := Nat.dvd_trans ⟨2 ^ (s - z - 1), by rw [Nat.pow_succ, Nat.mul_comm]⟩ (Nat.dvd_of_mod_eq_zero h1)
    omega
theorem nat_Zeros.l0_eq (x : List Int) (hx : Ws x) (hm : x.length ≤ 17592186044416) (a : Nat) (ha : nv x = (a : Int)) (h0 : a ≠ 0) : ∀ (d i : Nat), d = x.length - i → i ≤ x.length → nv (x.take i) = 0 →
    ∃ z : Nat, (∀ k, d + 10 < k → nat_Zeros.l0 k x (x.length : Int) (i : Int) = some (z : Int)) ∧ ∀ s : Nat, (z < s ↔ a % 2 ^ s ≠ 0) := by
  intro d
  induction d with
  | zero =>
    intro i hd hi hz
    obtain rfl : i = x.length := by omega
    rw [List.take_length] at hz
    omega
  | succ d ih =>
    intro i hd hi hz
    by_cases hw : x.getD i 0 = 0
    · obtain ⟨z, h1, h2⟩ := ih (i + 1) (by omega) (by omega) (by rw [nv_take_succ (by omega), hz, hw]; simp)
      refine ⟨z, ?_, h2⟩
      intro k hk
      obtain ⟨k, rfl⟩ : ∃ j, k = j + 1 := ⟨k - 1, by omega⟩
      rw [nat_Zeros.l0, if_pos (by omega), if_pos (by omega), if_pos (by omega), rdn, if_pos hw, w64_s i (by omega)]
      exact h1 k (by omega)
    · have hg := hx.getD i
      obtain ⟨w, ew⟩ := Int.eq_ofNat_of_zero_le hg.1
      obtain ⟨o, t, eo, ho⟩ := odd_part2 w w (Nat.le_refl _) (by omega)
      have hlt : o * 2 ^ t < 18446744073709551616 := by rw [← eo]; omega
      have ht : t < 64 := by
        apply Classical.byContradiction
        intro hn
        have h1 : 2 ^ 64 ≤ 2 ^ t := Nat.pow_le_pow_right (by decide) (by omega)
        have h2 : 1 * 2 ^ t ≤ o * 2 ^ t := Nat.mul_le_mul_right _ (by omega)
        rw [show (2 : Nat) ^ 64 = 18446744073709551616 from by decide] at h1
        omega
      refine ⟨64 * i + t, ?_, ?_⟩
      · intro k hk
        obtain ⟨k, rfl⟩ : ∃ j, k = j + 1 := ⟨k - 1, by omega⟩
        have e1 : wrap64 (wrap64 (64 * (i : Int)) + (t : Int)) = ((64 * i + t : Nat) : Int) := by
          rw [w64_of (x := 64 * (i : Int)) (by omega) (by omega), w64_of (by omega) (by omega)]; omega
        have hZ := wide_Zeros.f_eq hlt ho k (by omega)
        rw [nat_Zeros.l0, if_pos (by omega), if_pos (by omega), if_pos (by omega), rdn, if_neg hw, ew]
        rw [← eo] at hZ
        rw [hZ, Option.bind_some, e1]
      · intro s
        have e1 := nv_split (xs := x) (n := i + 1) (by omega)
        rw [nv_take_succ (by omega), hz, ew, ha] at e1
        have hD := nv_nonneg (hx.drop (i + 1))
        obtain ⟨D, eD⟩ := Int.eq_ofNat_of_zero_le hD
        rw [eD, p2cast, p2cast] at e1
        have e2 : a = (o + 2 * (2 ^ (63 - t) * D)) * 2 ^ (64 * i + t) := by
          have e3 : a = w * 2 ^ (64 * i) + 2 ^ (64 * (i + 1)) * D := by
            have : ((a : Nat) : Int) = ((w * 2 ^ (64 * i) + 2 ^ (64 * (i + 1)) * D : Nat) : Int) := by
              rw [e1]; push_cast; omega
            exact Int.ofNat.inj this
          have e4 : 2 ^ (64 * (i + 1)) = 2 * 2 ^ (63 - t) * 2 ^ (64 * i + t) := by
            rw [← Nat.pow_succ', ← Nat.pow_add]; congr 1; omega
          rw [e3, e4, eo, Nat.pow_add]
          generalize 2 ^ (64 * i) = p
          generalize 2 ^ t = q
          generalize 2 ^ (63 - t) = r
          grind
        rw [e2]
        exact (mod_odd (by omega)).symm
theorem nat_Zeros.f_eq (x : List Int) (hx : Ws x) (hm : x.length ≤ 17592186044416) (a : Nat) (ha : nv x = (a : Int)) (h0 : a ≠ 0) :
    ∃ z : Nat, (∀ k, x.length + 10 < k → nat_Zeros.f k x = some (z : Int)) ∧ ∀ s : Nat, (z < s ↔ a % 2 ^ s ≠ 0) := by
  obtain ⟨z, h1, h2⟩ := nat_Zeros.l0_eq x hx hm a ha h0 x.length 0 (by omega) (by omega) rfl
  exact ⟨z, fun k hk => by rw [nat_Zeros.f]; exact h1 k hk, h2⟩
theorem nat_Shr.l0_eq (x0 : List Int) (x1 : Int) (Y : List Int) (hY : Ws Y) (s : Nat) (hs : s ≤ 63) (hm : Y.length ≤ 17592186044416) (hb : nv Y / 2 ^ s < 2 ^ 262144) (z : Int) (K : Nat) (hz : ∀ k, K ≤ k → nat_Zeros.f k x0 = some z) :
    ∀ (d k i : Nat) (cur : List Int), d = Y.length - i → d + K + Y.length + 2 < k → i ≤ Y.length → cur.length = Y.length → Ws cur → (∀ j, i ≤ j → cur.getD j 0 = Y.getD j 0) → nv (cur.take i) + 2 ^ (64 * i) * (nv (Y.drop i) / 2 ^ s) = nv Y / 2 ^ s →
    nat_Shr.l0 k x0 x1 cur (s : Int) (Y.length : Int) (i : Int) = some (wd (nv Y / 2 ^ s).toNat, decide (z < x1), 0) := by
  have hP := two_pow_pos s
  have hR := two_pow_pos (64 - s)
  have hPR := pow_split (s := s) (by omega)
  intro d
  induction d with
  | zero =>
    intro k i cur hd hk hi hl hw hj hv
    obtain ⟨k, rfl⟩ : ∃ j, k = j + 1 := ⟨k - 1, by omega⟩
    obtain rfl : i = Y.length := by omega
    rw [List.take_of_length_le (by omega), List.drop_eq_nil_of_le (Nat.le_refl _), nv_nil, Int.zero_ediv, Int.mul_zero, Int.add_zero] at hv
    rw [nat_Shr.l0, if_neg (by omega), nat_bound.f_bnd hw (by omega) k (by omega), Option.bind_some, hz k (by omega), Option.bind_some, hv, bnd_small hb]
  | succ d ih =>
    intro k i cur hd hk hi hl hw hj hv
    obtain ⟨k, rfl⟩ : ∃ j, k = j + 1 := ⟨k - 1, by omega⟩
    have ho := hY.getD i
    have hn := hY.getD (i + 1)
    have hy : Y.getD i 0 / 2 ^ s < 2 ^ (64 - s) := Int.ediv_lt_of_lt_mul hP (by rw [pow_split' (by omega)]; exact ho.2)
    have hy0 : 0 ≤ Y.getD i 0 / 2 ^ s := Int.ediv_nonneg ho.1 (Int.le_of_lt hP)
    have hlow := shl_low (x := Y.getD (i + 1) 0) hR (pow_split' (s := s) (by omega))
    have g0 : 0 ≤ Y.getD (i + 1) 0 % 2 ^ s := Int.emod_nonneg _ (Int.ne_of_gt hP)
    have g1 : Y.getD (i + 1) 0 % 2 ^ s < 2 ^ s := Int.emod_lt_of_pos _ hP
    have hm1 := Int.emod_nonneg (Y.getD (i + 1) 0 * 2 ^ (64 - s)) (show (18446744073709551616 : Int) ≠ 0 by decide)
    have hsum : Y.getD (i + 1) 0 * 2 ^ (64 - s) % 18446744073709551616 + Y.getD i 0 / 2 ^ s < 18446744073709551616 := by
      rw [hlow, ← pow_split' (s := s) (by omega)]
      have h3 : 2 ^ (64 - s) * (Y.getD (i + 1) 0 % 2 ^ s + 1) ≤ 2 ^ (64 - s) * 2 ^ s := Int.mul_le_mul_of_nonneg_left g1 (Int.le_of_lt hR)
      rw [Int.mul_add, Int.mul_one] at h3
      omega
    -- what lies above is as the next word, by the power
    have hmod : nv (Y.drop (i + 1)) % 2 ^ s = Y.getD (i + 1) 0 % 2 ^ s := by
      by_cases hlast : i + 1 < Y.length
      · rw [drop_getD hlast, nv_cons]
        have e : (18446744073709551616 : Int) = 2 ^ s * 2 ^ (64 - s) := hPR.symm
        rw [e, Int.mul_assoc, Int.add_mul_emod_self_left]
      · rw [List.drop_eq_nil_of_le (by omega), getD_of_le (by omega), nv_nil]
    have hstep : nv (Y.drop i) / 2 ^ s = 18446744073709551616 * (nv (Y.drop (i + 1)) / 2 ^ s) + (Y.getD (i + 1) 0 * 2 ^ (64 - s) % 18446744073709551616 + Y.getD i 0 / 2 ^ s) := by
      rw [drop_getD (show i < Y.length by omega), nv_cons]
      have e := Int.mul_ediv_add_emod (nv (Y.drop (i + 1))) (2 ^ s)
      rw [hmod] at e
      have h := shr_step (w := Y.getD i 0) (q := nv (Y.drop (i + 1)) / 2 ^ s) (a := Y.getD (i + 1) 0) hP hR hPR
      rw [Int.mul_comm (nv (Y.drop (i + 1)) / 2 ^ s) (2 ^ s), e] at h
      exact h
    have hrec : nat_Shr.l0 k x0 x1 (cur.set i (Y.getD (i + 1) 0 * 2 ^ (64 - s) % 18446744073709551616 + Y.getD i 0 / 2 ^ s)) (s : Int) (Y.length : Int) ((i + 1 : Nat) : Int) = some (wd (nv Y / 2 ^ s).toNat, decide (z < x1), 0) := by
      refine ih k (i + 1) _ (by omega) (by omega) (by omega) (by rw [List.length_set]; exact hl) (hw.set _ (by omega) hsum) ?_ ?_
      · intro j hij
        rw [set_getD_ne (by omega)]
        exact hj j (by omega)
      · rw [nv_take_succ (by rw [List.length_set]; omega), take_set_self]
        have e5 : (cur.set i (Y.getD (i + 1) 0 * 2 ^ (64 - s) % 18446744073709551616 + Y.getD i 0 / 2 ^ s)).getD i 0 = Y.getD (i + 1) 0 * 2 ^ (64 - s) % 18446744073709551616 + Y.getD i 0 / 2 ^ s := by
          rw [List.getD_eq_getElem?_getD, List.getElem?_set_self (by omega)]; rfl
        rw [e5, pow64, ← hv, hstep]
        generalize Y.getD (i + 1) 0 * 2 ^ (64 - s) % 18446744073709551616 + Y.getD i 0 / 2 ^ s = v
        generalize nv (Y.drop (i + 1)) / 2 ^ s = D
        generalize (2 : Int) ^ (64 * i) = p
        generalize nv (cur.take i) = T
        grind
    rw [nat_Shr.l0, if_pos (by omega), w64_s i (by omega)]
    by_cases hlast : i + 1 < Y.length
    · rw [if_pos (by omega), if_pos (by omega), if_pos (by omega), if_pos (by omega), rdn, rdn, hj i (Nat.le_refl _), hj (i + 1) (by omega), wide_Shr.f_eq hs hn.1 hn.2 ho.1 ho.2, Option.bind_some, Int.toNat_natCast]
      exact hrec
    · rw [if_neg (by omega), if_pos (by omega), if_pos (by omega), rdn, hj i (Nat.le_refl _), wide_Shr.f_eq hs (by decide) (by decide) ho.1 ho.2, Option.bind_some, Int.toNat_natCast]
      rw [getD_of_le (show Y.length ≤ i + 1 by omega)] at hrec
      exact hrec
theorem bits_lt_pow {a : Nat} (s : Nat) : bitsN (a : Int) ≤ (s : Int) ↔ a < 2 ^ s := by
  by_cases h0 : a = 0
  · subst h0
    rw [show bitsN ((0 : Nat) : Int) = 0 from bitsN_zero]
    exact ⟨fun _ => Nat.pow_pos (by decide), fun _ => by omega⟩
  · have hb := bitsN_pos (x := (a : Int)) (by omega)
    obtain ⟨L, hL⟩ : ∃ n : Nat, bitsN (a : Int) = n + 1 := ⟨(bitsN (a : Int) - 1).toNat, by omega⟩
    have h1 := (bitsN_iff (by omega) L).1 hL
    rw [p2cast, p2cast] at h1
    have h2 : 2 ^ L ≤ a := Int.ofNat_le.1 h1.1
    have h3 : a < 2 ^ (L + 1) := Int.ofNat_lt.1 h1.2
    rw [hL]
    constructor
    · intro h
      exact Nat.lt_of_lt_of_le h3 (Nat.pow_le_pow_right (by decide) (by omega))
    · intro h
      have := (Nat.pow_lt_pow_iff_right (a := 2) (by decide)).1 (Nat.lt_of_le_of_lt h2 h)
      omega
theorem div_bits {a s c : Nat} (h : bitsN (a : Int) ≤ (c : Int) + s) : ((a / 2 ^ s : Nat) : Int) < 2 ^ c := by
  rw [p2cast]
  apply Int.ofNat_lt.2
  rw [Nat.div_lt_iff_lt_mul (Nat.pow_pos (by decide)), ← Nat.pow_add, ← bits_lt_pow]
  omega
theorem nat_Shr.f_eq (l : List Int) (hl : Ws l) (hm : l.length ≤ 17592186044416) (a : Nat) (ha : nv l = (a : Int)) (s : Nat) (hs : s ≤ 4503599627370496) (hb : bitsN (a : Int) ≤ 262144 + s) (k : Nat) (hk : 3 * l.length + 30 < k) :
    nat_Shr.f k l (s : Int) = some (wd (a / 2 ^ s), decide (a % 2 ^ s ≠ 0), 0) := by
  rw [nat_Shr.f, nat_Bits.f_eq l hl (by omega) k (by omega) (by omega), Option.bind_some, if_neg (by omega), ha]
  by_cases h1 : bitsN (a : Int) ≤ s
  · have hlt := (bits_lt_pow s).1 h1
    rw [if_pos h1, Nat.div_eq_of_lt hlt, Nat.mod_eq_of_lt hlt, wd_zero]
    congr 3
    rw [decide_eq_decide]
    constructor
    · intro h hz
      rw [hz] at h
      exact absurd h (by decide)
    · intro h
      have := bitsN_pos (x := (a : Int)) (by omega)
      omega
  · have ha0 : a ≠ 0 := by
      intro h
      apply h1
      rw [h, show bitsN ((0 : Nat) : Int) = 0 from bitsN_zero]
      omega
    have hbl : bitsN (a : Int) ≤ ((64 * l.length : Nat) : Int) := by
      rw [bits_lt_pow]
      have := nv_lt hl
      rw [ha, p2cast] at this
      exact Int.ofNat_lt.1 this
    have e1 : wrap64 (Int.tdiv (s : Int) 64) = ((s / 64 : Nat) : Int) := by
      rw [Int.tdiv_eq_ediv_of_nonneg (by omega), w64_of (by omega) (by omega)]; omega
    have e2 : Int.tmod (s : Int) 64 = ((s % 64 : Nat) : Int) := by
      rw [Int.tmod_eq_emod_of_nonneg (by omega)]; omega
    obtain ⟨z, hz1, hz2⟩ := nat_Zeros.f_eq l hl hm a ha ha0
    have hdec : decide ((z : Int) < (s : Int)) = decide (a % 2 ^ s ≠ 0) := by
      rw [decide_eq_decide, ← hz2 s]; omega
    have hdl : (l.drop (s / 64)).length ≤ l.length := by rw [List.length_drop]; omega
    have hY : Ws (strip (l.drop (s / 64))) := (hl.drop _).strip
    have hYl : (strip (l.drop (s / 64))).length ≤ l.length := Nat.le_trans (strip_length_le _) hdl
    have eY : nv (strip (l.drop (s / 64))) = ((a / 2 ^ (64 * (s / 64)) : Nat) : Int) := by
      have e3 := nv_split (xs := l) (n := s / 64) (by omega)
      have b1 := nv_nonneg (hl.take (s / 64))
      have b2 := nv_take_lt hl (s / 64)
      have hp := two_pow_pos (64 * (s / 64))
      rw [nv_strip, Int.natCast_ediv, ← ha, ← p2cast, e3, Int.add_mul_ediv_left _ _ (Int.ne_of_gt hp), Int.ediv_eq_zero_of_lt b1 b2, Int.zero_add]
    have eq_ : a / 2 ^ (64 * (s / 64)) / 2 ^ (s % 64) = a / 2 ^ s := by
      rw [Nat.div_div_eq_div_mul, ← Nat.pow_add]; congr 2; omega
    have efin : nv (strip (l.drop (s / 64))) / 2 ^ (s % 64) = ((a / 2 ^ s : Nat) : Int) := by
      rw [eY, p2cast, ← Int.natCast_ediv, eq_]
    have hsmall : ((a / 2 ^ s : Nat) : Int) < 2 ^ 262144 := div_bits hb
    rw [if_neg (by omega), w64_of (x := bitsN (a : Int) - (s : Int)) (by omega) (by omega), if_neg (by omega), e1, if_pos (by omega), if_pos (by omega), nat_Norm.f, Int.toNat_natCast, if_pos (by omega), Option.bind_some, e2]
    by_cases h0 : s % 64 = 0
    · rw [h0] at efin ⊢
      rw [Int.pow_zero, Int.ediv_one] at efin
      rw [if_neg (by omega), nat_bound.f_bnd hY (by omega) k (by omega), Option.bind_some, hz1 k (by omega), Option.bind_some, efin, bnd_small hsmall, hdec, Int.toNat_natCast]
    · rw [if_pos (by omega)]
      have r := nat_Shr.l0_eq l (s : Int) (strip (l.drop (s / 64))) hY (s % 64) (by omega) (by omega) (by rw [efin]; exact hsmall) (z : Int) (l.length + 11) (fun k hk => hz1 k (by omega)) (strip (l.drop (s / 64))).length k 0 (strip (l.drop (s / 64))) (by omega) (by omega) (by omega) rfl hY (fun _ _ => rfl) (by simp [nv])
      rw [efin, hdec, Int.toNat_natCast] at r
      exact r
theorem nat_Word.f_eq {n : Nat} (h : n < 18446744073709551616) (k : Nat) (hk : 3 ≤ k) : nat_Word.f k (wd n) = some ((n : Int), true) := by
  have hw := wd_ws n
  have hlen : (wd n).length ≤ 1 := by
    have := wd_len (n := (n : Int)) (t := 1) (by omega) (by rw [show (2 : Int) ^ (64 * 1) = 18446744073709551616 from by decide]; omega)
    rwa [Int.toNat_natCast] at this
  rw [nat_Word.f, nat_size.f_eq (wd n) (by omega) k (by omega), Option.bind_some, strip_wd]
  by_cases h0 : n = 0
  · subst h0
    rw [wd_zero]; rfl
  · rw [wd_pos h0, Nat.div_eq_of_lt h, wd_zero, Nat.mod_eq_of_lt h]
    rfl
end Go.Proofs.YtoannkopciehcaaDoor.PA

namespace Go.Proofs.YtoannkopciehcaaDoor.PA
open Go Go.RowKit Go.Proofs.YtoannkopciehcaaDoorW.PrintWords Go.Proofs.YtoannkopciehcaaDoorW.PrintLast Go.Proofs.YtoannkopciehcaaDoorW.PrintMore
set_option linter.unusedVariables false
set_option linter.unusedSimpArgs false
/-- 2^n is no multiple of 5^e -/
theorem pow_mod5 (n : Nat) : 2 ^ n % 5 ≠ 0 := by
  induction n with
  | zero => decide
  | succ n ih => rw [Nat.pow_succ]; omega
theorem pow_mod_five {n d : Nat} (hd : 1 ≤ d) : 2 ^ n % 5 ^ d ≠ 0 := by
  intro h
  have h5 : 5 ∣ 5 ^ d := ⟨5 ^ (d - 1), by rw [Nat.mul_comm, ← Nat.pow_succ]; congr 1; omega⟩
  have h1 : 5 ∣ 2 ^ n := Nat.dvd_trans h5 (Nat.dvd_of_mod_eq_zero h)
  exact pow_mod5 n (Nat.mod_eq_zero_of_dvd h1)
/-- a power's two words as one number, its frame, whether it is whole -/
def pow5 (e : Int) : Nat × Int × Bool :=
  if 0 ≤ e then
    (if bitsN ((5 ^ e.toNat : Nat) : Int) ≤ 128 then (5 ^ e.toNat * 2 ^ (128 - bitsN ((5 ^ e.toNat : Nat) : Int)).toNat, bitsN ((5 ^ e.toNat : Nat) : Int) - 128, true)
    else (5 ^ e.toNat / 2 ^ (bitsN ((5 ^ e.toNat : Nat) : Int) - 128).toNat, bitsN ((5 ^ e.toNat : Nat) : Int) - 128, decide (5 ^ e.toNat % 2 ^ (bitsN ((5 ^ e.toNat : Nat) : Int) - 128).toNat = 0)))
  else (2 ^ (bitsN ((5 ^ (-e).toNat : Nat) : Int) + 127).toNat / 5 ^ (-e).toNat, -(bitsN ((5 ^ (-e).toNat : Nat) : Int) + 127), false)
structure Row5 (e : Int) (V : Nat) (f : Int) (w : Bool) : Prop where
  lo : 170141183460469231731687303715884105728 ≤ V
  hi : V < 340282366920938463463374607431768211456
  f1 : -3000 ≤ f
  f2 : f ≤ 3000
  le : V * 2 ^ f.toNat * 5 ^ (-e).toNat ≤ 5 ^ e.toNat * 2 ^ (-f).toNat
  lt : 5 ^ e.toNat * 2 ^ (-f).toNat < (V + 1) * 2 ^ f.toNat * 5 ^ (-e).toNat
  eq : w = true → 5 ^ e.toNat * 2 ^ (-f).toNat = V * 2 ^ f.toNat * 5 ^ (-e).toNat
theorem five_bits {n : Nat} (h : n ≤ 348) : ∃ L : Nat, bitsN ((5 ^ n : Nat) : Int) = L + 1 ∧ 2 ^ L ≤ 5 ^ n ∧ 5 ^ n < 2 ^ (L + 1) ∧ L < 1044 := by
  obtain ⟨L, h1, h2, h3⟩ := bits_bounds (m := 5 ^ n) (Nat.pow_pos (by decide))
  refine ⟨L, h1, h2, h3, ?_⟩
  have h4 : 5 ^ n ≤ 8 ^ n := Nat.pow_le_pow_left (by decide) n
  have h5 : (8 : Nat) ^ n = 2 ^ (3 * n) := by rw [Nat.pow_mul]
  have h6 : 2 ^ L < 2 ^ (3 * n + 1) := Nat.lt_of_le_of_lt h2 (Nat.lt_of_le_of_lt (by rw [← h5]; exact h4) (Nat.pow_lt_pow_right (by decide) (by omega)))
  have h7 := (Nat.pow_lt_pow_iff_right (a := 2) (by decide)).1 h6
  by_cases hn : n = 348
  · subst hn
    have h8 : 2 ^ L < 2 ^ 1000 := Nat.lt_of_le_of_lt h2 (by decide +kernel)
    have h9 := (Nat.pow_lt_pow_iff_right (a := 2) (by decide)).1 h8
    omega
  · omega
theorem pow5_row {e : Int} (h1 : -348 ≤ e) (h2 : e ≤ 347) : Row5 e (pow5 e).1 (pow5 e).2.1 (pow5 e).2.2 := by
  have e127 : (170141183460469231731687303715884105728 : Nat) = 2 ^ 127 := by decide
  have e128 : (340282366920938463463374607431768211456 : Nat) = 2 ^ 128 := by decide
  unfold pow5
  by_cases h0 : 0 ≤ e
  · obtain ⟨L, hL, hb1, hb2, hb3⟩ := five_bits (n := e.toNat) (by omega)
    have ee : (-e).toNat = 0 := by omega
    rw [if_pos h0, hL]
    generalize hX : 5 ^ e.toNat = X at *
    by_cases hc : (L : Int) + 1 ≤ 128
    · obtain ⟨s, hs⟩ : ∃ s : Nat, (s : Int) = 128 - ((L : Int) + 1) := ⟨(128 - ((L : Int) + 1)).toNat, by omega⟩
      rw [if_pos hc, ← hs, Int.toNat_natCast]
      have ef : (L : Int) + 1 - 128 = -(s : Int) := by omega
      have e1 : ((L : Int) + 1 - 128).toNat = 0 := by omega
      have e2 : (-((L : Int) + 1 - 128)).toNat = s := by omega
      have hp : 0 < 2 ^ s := Nat.pow_pos (by decide)
      constructor
      · show _ ≤ X * 2 ^ s
        have h3 : 2 ^ L * 2 ^ s ≤ X * 2 ^ s := Nat.mul_le_mul_right _ hb1
        rw [← Nat.pow_add, show L + s = 127 from by omega] at h3
        rw [e127]; exact h3
      · show X * 2 ^ s < _
        have h3 : X * 2 ^ s < 2 ^ (L + 1) * 2 ^ s := Nat.mul_lt_mul_of_pos_right hb2 hp
        rw [← Nat.pow_add, show L + 1 + s = 128 from by omega] at h3
        rw [e128]; exact h3
      · show -3000 ≤ (L : Int) + 1 - 128
        omega
      · show (L : Int) + 1 - 128 ≤ 3000
        omega
      · show X * 2 ^ s * 2 ^ ((L : Int) + 1 - 128).toNat * 5 ^ (-e).toNat ≤ 5 ^ e.toNat * 2 ^ (-((L : Int) + 1 - 128)).toNat
        rw [hX, ee, e1, e2]
        simp only [Nat.pow_zero, Nat.mul_one, Nat.one_mul]
        exact Nat.le_refl _
      · show 5 ^ e.toNat * 2 ^ (-((L : Int) + 1 - 128)).toNat < (X * 2 ^ s + 1) * 2 ^ ((L : Int) + 1 - 128).toNat * 5 ^ (-e).toNat
        rw [hX, ee, e1, e2]
        simp only [Nat.pow_zero, Nat.mul_one, Nat.one_mul]
        exact Nat.lt_succ_self _
      · intro _
        show 5 ^ e.toNat * 2 ^ (-((L : Int) + 1 - 128)).toNat = X * 2 ^ s * 2 ^ ((L : Int) + 1 - 128).toNat * 5 ^ (-e).toNat
        rw [hX, ee, e1, e2]
        simp only [Nat.pow_zero, Nat.mul_one, Nat.one_mul]
    · obtain ⟨s, hs⟩ : ∃ s : Nat, (s : Int) = (L : Int) + 1 - 128 := ⟨((L : Int) + 1 - 128).toNat, by omega⟩
      rw [if_neg hc, ← hs, Int.toNat_natCast]
      have e2 : (-(s : Int)).toNat = 0 := by omega
      have hp : 0 < 2 ^ s := Nat.pow_pos (by decide)
      have hdm := Nat.div_add_mod X (2 ^ s)
      have hmod := Nat.mod_lt X hp
      constructor
      · show _ ≤ X / 2 ^ s
        rw [e127, Nat.le_div_iff_mul_le hp, ← Nat.pow_add, show 127 + s = L from by omega]
        exact hb1
      · show X / 2 ^ s < _
        rw [e128, Nat.div_lt_iff_lt_mul hp, ← Nat.pow_add, show 128 + s = L + 1 from by omega]
        exact hb2
      · show -3000 ≤ (s : Int)
        omega
      · show (s : Int) ≤ 3000
        omega
      · show X / 2 ^ s * 2 ^ (s : Int).toNat * 5 ^ (-e).toNat ≤ 5 ^ e.toNat * 2 ^ (-(s : Int)).toNat
        rw [hX, ee, e2, Int.toNat_natCast]
        simp only [Nat.pow_zero, Nat.mul_one, Nat.one_mul]
        exact Nat.div_mul_le_self _ _
      · show 5 ^ e.toNat * 2 ^ (-(s : Int)).toNat < (X / 2 ^ s + 1) * 2 ^ (s : Int).toNat * 5 ^ (-e).toNat
        rw [hX, ee, e2, Int.toNat_natCast]
        simp only [Nat.pow_zero, Nat.mul_one, Nat.one_mul]
        rw [Nat.add_mul, Nat.one_mul, Nat.mul_comm (X / 2 ^ s)]
        omega
      · intro hw
        have hw0 : X % 2 ^ s = 0 := of_decide_eq_true hw
        show 5 ^ e.toNat * 2 ^ (-(s : Int)).toNat = X / 2 ^ s * 2 ^ (s : Int).toNat * 5 ^ (-e).toNat
        rw [hX, ee, e2, Int.toNat_natCast]
        simp only [Nat.pow_zero, Nat.mul_one, Nat.one_mul]
        rw [Nat.mul_comm (X / 2 ^ s)]
        omega
  · obtain ⟨L, hL, hb1, hb2, hb3⟩ := five_bits (n := (-e).toNat) (by omega)
    have ee : e.toNat = 0 := by omega
    have hne := pow_mod_five (n := L + 128) (d := (-e).toNat) (by omega)
    rw [if_neg h0, hL]
    have es : ((L : Int) + 1 + 127).toNat = L + 128 := by omega
    rw [es]
    have hp : 0 < 5 ^ (-e).toNat := Nat.pow_pos (by decide)
    have e1 : (-((L : Int) + 1 + 127)).toNat = 0 := by omega
    have e2 : (-(-((L : Int) + 1 + 127))).toNat = L + 128 := by omega
    have hdm := Nat.div_add_mod (2 ^ (L + 128)) (5 ^ (-e).toNat)
    have hmod := Nat.mod_lt (2 ^ (L + 128)) hp
    generalize hD : 5 ^ (-e).toNat = D at *
    constructor
    · show _ ≤ 2 ^ (L + 128) / D
      rw [e127, Nat.le_div_iff_mul_le hp]
      have h3 : 2 ^ 127 * D ≤ 2 ^ 127 * 2 ^ (L + 1) := Nat.mul_le_mul_left _ (Nat.le_of_lt hb2)
      rw [← Nat.pow_add, show 127 + (L + 1) = L + 128 from by omega] at h3
      exact h3
    · show 2 ^ (L + 128) / D < _
      rw [e128, Nat.div_lt_iff_lt_mul hp]
      have h3 : 2 ^ 128 * 2 ^ L ≤ 2 ^ 128 * D := Nat.mul_le_mul_left _ hb1
      rw [← Nat.pow_add, show 128 + L = L + 128 from by omega] at h3
      apply Nat.lt_of_le_of_ne h3
      intro he
      apply hne
      rw [he, Nat.mul_mod_left]
    · show -3000 ≤ -((L : Int) + 1 + 127)
      omega
    · show -((L : Int) + 1 + 127) ≤ 3000
      omega
    · show 2 ^ (L + 128) / D * 2 ^ (-((L : Int) + 1 + 127)).toNat * 5 ^ (-e).toNat ≤ 5 ^ e.toNat * 2 ^ (-(-((L : Int) + 1 + 127))).toNat
      rw [hD, ee, e1, e2]
      simp only [Nat.pow_zero, Nat.mul_one, Nat.one_mul]
      exact Nat.div_mul_le_self _ _
    · show 5 ^ e.toNat * 2 ^ (-(-((L : Int) + 1 + 127))).toNat < (2 ^ (L + 128) / D + 1) * 2 ^ (-((L : Int) + 1 + 127)).toNat * 5 ^ (-e).toNat
      rw [hD, ee, e1, e2]
      simp only [Nat.pow_zero, Nat.mul_one, Nat.one_mul]
      rw [Nat.add_mul, Nat.one_mul, Nat.mul_comm (2 ^ (L + 128) / D)]
      omega
    · intro hw
      cases hw
theorem wd_two {V : Nat} (h1 : 170141183460469231731687303715884105728 ≤ V) (h2 : V < 340282366920938463463374607431768211456) : wd V = [((V % 18446744073709551616 : Nat) : Int), ((V / 18446744073709551616 : Nat) : Int)] := by
  rw [wd_pos (by omega), wd_pos (by omega), Nat.mod_eq_of_lt (a := V / 18446744073709551616) (by omega), show V / 18446744073709551616 / 18446744073709551616 = 0 from by omega, wd_zero]
theorem power_told.f_eq {V : Nat} (h1 : 170141183460469231731687303715884105728 ≤ V) (h2 : V < 340282366920938463463374607431768211456) (f : Int) (w : Bool) :
    power_told.f (wd V) f w = some (((V / 18446744073709551616 : Nat) : Int), ((V % 18446744073709551616 : Nat) : Int), f, w) := by
  rw [wd_two h1 h2]
  rfl
theorem five_int (n : Nat) : ((5 : Int) ^ n).toNat = 5 ^ n := by
  have : (5 : Int) ^ n = ((5 ^ n : Nat) : Int) := by rw [Int.natCast_pow]; rfl
  rw [this, Int.toNat_natCast]
theorem wd_len_of {X L n : Nat} (h : X < 2 ^ L) (hL : L ≤ 64 * n) : (wd X).length ≤ n := wd_length_le (Nat.lt_of_lt_of_le h (Nat.pow_le_pow_right (by decide) hL))
theorem lim_of {x n : Nat} (hn : n ≤ 112899) (h : x ≤ 5 ^ n) : bnd (x : Int) = (wd x, 0) := by
  have h1 : (x : Int) ≤ 5 ^ n := by
    have : (5 : Int) ^ n = ((5 ^ n : Nat) : Int) := by rw [Int.natCast_pow]; rfl
    rw [this]; exact Int.ofNat_le.2 h
  have h2 := bnd_small (Int.lt_of_le_of_lt h1 (five_lt hn))
  rw [Int.toNat_natCast] at h2
  exact h2
theorem shl_nat_ok {X s n : Nat} (h0 : 0 < X) (hn : n ≤ 112899) (h : X * 2 ^ s ≤ 5 ^ n) (l : List Int) (hl : Ws l) (hv : nv l = (X : Int)) (hlen : l.length ≤ 1000000) (hs : s ≤ 1000000) (k : Nat) (hk : 3000000 < k) : nat_Shl.f k l (s : Int) = some (wd (X * 2 ^ s), 0) := by
  have ei : (X : Int) * 2 ^ (s : Int).toNat = ((X * 2 ^ s : Nat) : Int) := by rw [Int.natCast_mul, Int.toNat_natCast, p2cast]
  have e0 : ¬ (s : Int) < 0 := by omega
  have e1 : ¬ (X : Int) = 0 := by omega
  rw [nat_Shl.f_eq l hl hlen s (by omega) k hk, if_neg e0, hv, if_neg e1, ei, lim_of hn h]
theorem power_up.f_eq {e : Int} (h0 : 0 ≤ e) (h2 : e ≤ 347) (k : Nat) (hk : 100000000 < k) :
    power_up.f k e = some ((((pow5 e).1 / 18446744073709551616 : Nat) : Int), (((pow5 e).1 % 18446744073709551616 : Nat) : Int), (pow5 e).2.1, (pow5 e).2.2) := by
  obtain ⟨L, hL, hb1, hb2, hb3⟩ := five_bits (n := e.toNat) (by omega)
  have hlen : (wd (5 ^ e.toNat)).length ≤ 17 := wd_len_of hb2 (by omega)
  have hF : radix_Five.f k e = some (wd (5 ^ e.toNat), 0) := by
    have q1 : ¬ e > 112899 := by omega
    have q2 : ¬ e < 0 := by omega
    rw [radix_Five.f_eq e (by omega) k (by omega), if_neg q1, if_neg q2, five_int]
  have hB : nat_Bits.f k (wd (5 ^ e.toNat)) = some ((L : Int) + 1) := by
    rw [nat_Bits.f_eq _ (wd_ws _) (by omega) k (by omega) (by omega), nv_wd, hL]
  have w1 : wrap64 ((L : Int) + 1 - 128) = (L : Int) + 1 - 128 := w64_of (by omega) (by omega)
  rw [power_up.f, hF, Option.bind_some, hB, Option.bind_some, w1]
  clear hF hB w1
  by_cases hc : (L : Int) + 1 ≤ 128
  · obtain ⟨s, hs⟩ : ∃ s : Nat, (s : Int) = 128 - ((L : Int) + 1) := ⟨(128 - ((L : Int) + 1)).toNat, by omega⟩
    have w2 : wrap64 (-((L : Int) + 1 - 128)) = (s : Int) := w64x (by omega) (by omega)
    have c1 : (L : Int) + 1 - 128 ≤ 0 := by omega
    have hle : 5 ^ e.toNat * 2 ^ s ≤ 5 ^ 128 := by
      have h3 : 5 ^ e.toNat * 2 ^ s ≤ 2 ^ (L + 1) * 2 ^ s := Nat.mul_le_mul_right _ (Nat.le_of_lt hb2)
      rw [← Nat.pow_add, show L + 1 + s = 128 from by omega] at h3
      exact Nat.le_trans h3 (Nat.pow_le_pow_left (by decide) 128)
    have hS := shl_nat_ok (n := 128) (Nat.pow_pos (n := e.toNat) (show 0 < 5 by decide)) (by decide) hle _ (wd_ws _) (nv_wd _) (by omega) (by omega) k (by omega)
    have e5 : pow5 e = (5 ^ e.toNat * 2 ^ s, (L : Int) + 1 - 128, true) := by
      unfold pow5
      rw [if_pos h0, hL, if_pos hc, ← hs, Int.toNat_natCast]
    have hV := pow5_row (e := e) (by omega) h2
    rw [e5] at hV ⊢
    rw [if_pos c1, w2, hS, Option.bind_some, power_told.f_eq hV.lo hV.hi, Option.bind_some]
  · obtain ⟨s, hs⟩ : ∃ s : Nat, (s : Int) = (L : Int) + 1 - 128 := ⟨((L : Int) + 1 - 128).toNat, by omega⟩
    have hS := nat_Shr.f_eq (wd (5 ^ e.toNat)) (wd_ws _) (by omega) (5 ^ e.toNat) (nv_wd _) s (by omega) (by rw [hL]; omega) k (by omega)
    have c1 : ¬ (s : Int) ≤ 0 := by omega
    have hd : (!decide (5 ^ e.toNat % 2 ^ s ≠ 0)) = decide (5 ^ e.toNat % 2 ^ s = 0) := by
      rw [Bool.eq_iff_iff]; simp
    have e5 : pow5 e = (5 ^ e.toNat / 2 ^ s, (s : Int), decide (5 ^ e.toNat % 2 ^ s = 0)) := by
      unfold pow5
      rw [if_pos h0, hL, if_neg hc, ← hs, Int.toNat_natCast]
    have hV := pow5_row (e := e) (by omega) h2
    rw [e5] at hV ⊢
    rw [← hs, if_neg c1, hS, Option.bind_some, hd, power_told.f_eq hV.lo hV.hi, Option.bind_some]
theorem one_shl (n k : Nat) (hn : n ≤ 100000) (hk : 3000000 < k) : nat_Shl.f k [1] (n : Int) = some (wd (2 ^ n), 0) := by
  have h := shl_nat_ok (X := 1) (s := n) (n := n) (by decide) (by omega) (by rw [Nat.one_mul]; exact Nat.pow_le_pow_left (by decide) _) [1] (Ws.cons (by decide) (by decide) Ws.nil) rfl (by decide) (by omega) k hk
  rw [Nat.one_mul] at h
  exact h
theorem div_nat (X Y : Nat) (hY : 0 < Y) (x y : List Int) (hx : Ws x) (hy : Ws y) (vx : nv x = (X : Int)) (vy : nv y = (Y : Int)) (lx : x.length ≤ 1000000) (ly : y.length ≤ 1000000) (k : Nat) (hk : 10000000 < k) : quot_DivMod.f k x y = some (wd (X / Y), wd (X % Y), 0) := by
  have h0 : ¬ (Y : Int) = 0 := by omega
  rw [quot_DivMod.f_eq x y hx hy (by omega) (by omega) k (by omega) (by omega), vx, vy, if_neg h0, ← Int.natCast_ediv, ← Int.natCast_emod, Int.toNat_natCast, Int.toNat_natCast]
theorem power_down.f_eq {e : Int} (h1 : -348 ≤ e) (h0 : e < 0) (k : Nat) (hk : 100000000 < k) :
    power_down.f k e = some ((((pow5 e).1 / 18446744073709551616 : Nat) : Int), (((pow5 e).1 % 18446744073709551616 : Nat) : Int), (pow5 e).2.1, (pow5 e).2.2) := by
  have q0 : ¬ 0 ≤ e := by omega
  have q1 : ¬ -e > 112899 := by omega
  have q2 : ¬ -e < 0 := by omega
  have q3 : e ≤ 347 := by omega
  have q4 : (-e).toNat ≤ 348 := by omega
  have q5 : -e < 9223372036854775808 := by omega
  have wn_ : wrap64 (-e) = -e := w64_of (by omega) (by omega)
  have k1 : 30000000 < k := by omega
  have k2 : 10000000 < k := by omega
  have k3 : 3000000 < k := by omega
  have k4 : 17 < k := by omega
  obtain ⟨L, hL, hb1, hb2, hb3⟩ := five_bits q4
  have w1 : wrap64 ((L : Int) + 1 + 127) = (L : Int) + 1 + 127 := w64_of (by clear hb1 hb2; omega) (by clear hb1 hb2; omega)
  have w2 : wrap64 (-((L : Int) + 1 + 127)) = -((L : Int) + 1 + 127) := w64_of (by clear hb1 hb2; omega) (by clear hb1 hb2; omega)
  have w3 : wrap64 (-(-((L : Int) + 1 + 127))) = ((L + 128 : Nat) : Int) := w64x (by clear hb1 hb2; omega) (by clear hb1 hb2; omega)
  have es : ((L : Int) + 1 + 127).toNat = L + 128 := by clear hb1 hb2; omega
  have l1 : L + 1 ≤ 64 * 17 := by clear hb1 hb2; omega
  have l2 : L + 128 < 64 * 20 := by clear hb1 hb2; omega
  have l3 : L + 128 ≤ 100000 := by clear hb1 hb2; omega
  have hlen : (wd (5 ^ (-e).toNat)).length ≤ 17 := wd_len_of hb2 l1
  have hF : radix_Five.f k (-e) = some (wd (5 ^ (-e).toNat), 0) := by
    rw [radix_Five.f_eq (-e) q5 k k1, if_neg q1, if_neg q2, five_int]
  have hB : nat_Bits.f k (wd (5 ^ (-e).toNat)) = some ((L : Int) + 1) := by
    rw [nat_Bits.f_eq _ (wd_ws _) (Nat.le_trans hlen (by decide)) k (Nat.lt_of_le_of_lt hlen k4) (Nat.le_trans (by decide) (Nat.le_of_lt k4)), nv_wd, hL]
  have hl2 : (wd (2 ^ (L + 128))).length ≤ 20 := wd_len_of (Nat.pow_lt_pow_right (by decide) (Nat.lt_succ_self _)) (Nat.succ_le_of_lt l2)
  have hD := div_nat (2 ^ (L + 128)) (5 ^ (-e).toNat) (Nat.pow_pos (by decide)) _ _ (wd_ws _) (wd_ws _) (nv_wd _) (nv_wd _) (Nat.le_trans hl2 (by decide)) (Nat.le_trans hlen (by decide)) k k2
  have e5 : pow5 e = (2 ^ (L + 128) / 5 ^ (-e).toNat, -((L : Int) + 1 + 127), false) := by
    unfold pow5
    rw [if_neg q0, hL, es]
  have hV := pow5_row h1 q3
  rw [e5] at hV ⊢
  rw [power_down.f, wn_, hF, Option.bind_some, hB, Option.bind_some, w1, w2, w3, one_shl (L + 128) k l3 k3, Option.bind_some, hD, Option.bind_some, power_told.f_eq hV.lo hV.hi, Option.bind_some]
theorem power_at.f_eq {e : Int} (h1 : -348 ≤ e) (h2 : e ≤ 347) (k : Nat) (hk : 100000001 < k) :
    power_at.f k e = some ((((pow5 e).1 / 18446744073709551616 : Nat) : Int), (((pow5 e).1 % 18446744073709551616 : Nat) : Int), (pow5 e).2.1, (pow5 e).2.2, true) := by
  obtain ⟨k, rfl⟩ : ∃ j, k = j + 1 := ⟨k - 1, by omega⟩
  have q1 : ¬ e < -348 := by omega
  have q2 : ¬ e > 347 := by omega
  rw [power_at.f, if_neg q1, decide_eq_false q2, power_at.j0, if_neg (by decide)]
  by_cases h0 : 0 ≤ e
  · have q3 : ¬ e < 0 := by omega
    rw [if_neg q3, power_up.f_eq h0 h2 k (by omega), Option.bind_some]
  · have q3 : e < 0 := by omega
    rw [if_pos q3, power_down.f_eq h1 q3 k (by omega), Option.bind_some]
theorem power_Five.f_eq {e : Int} (h1 : -348 ≤ e) (h2 : e ≤ 347) (k : Nat) (hk : 100000001 < k) :
    power_Five.f k e = some ((((pow5 e).1 / 18446744073709551616 : Nat) : Int), (((pow5 e).1 % 18446744073709551616 : Nat) : Int), (pow5 e).2.1, 0) := by
  rw [power_Five.f, power_at.f_eq h1 h2 k hk, Option.bind_some, if_pos rfl]
/-- the same rounded up -/
def pow5u (e : Int) : Nat × Int :=
  if (pow5 e).2.2 = true then ((pow5 e).1, (pow5 e).2.1) else if (pow5 e).1 + 1 = 340282366920938463463374607431768211456 then (170141183460469231731687303715884105728, (pow5 e).2.1 + 1) else ((pow5 e).1 + 1, (pow5 e).2.1)
theorem above_words {V : Nat} (V1 : 170141183460469231731687303715884105728 ≤ V) (V2 : V < 340282366920938463463374607431768211456) (f : Int) (f1 : -3000 ≤ f) (f2 : f ≤ 3000) (w : Bool) :
    (if w = true then (some (((V / 18446744073709551616 : Nat) : Int), ((V % 18446744073709551616 : Nat) : Int), f, (0 : Int))) else ((wide_Add.f ((V % 18446744073709551616 : Nat) : Int) 1 0).bind fun bt325 => ((wide_Add.f ((V / 18446744073709551616 : Nat) : Int) 0 bt325.2).bind fun bt327 => (if bt327.2 = 1 then (some (9223372036854775808, 0, wrap64 (f + 1), 0)) else (some (bt327.1, bt325.1, f, 0)))))) =
    some ((((if w = true then (V, f) else if V + 1 = 340282366920938463463374607431768211456 then (170141183460469231731687303715884105728, f + 1) else (V + 1, f)).1 / 18446744073709551616 : Nat) : Int), (((if w = true then (V, f) else if V + 1 = 340282366920938463463374607431768211456 then (170141183460469231731687303715884105728, f + 1) else (V + 1, f)).1 % 18446744073709551616 : Nat) : Int), (if w = true then (V, f) else if V + 1 = 340282366920938463463374607431768211456 then (170141183460469231731687303715884105728, f + 1) else (V + 1, f)).2, 0) := by
  by_cases hw : w = true
  · rw [if_pos hw, if_pos hw]
  · rw [if_neg hw, if_neg hw, wide_Add.f_eq (by omega) (by omega) (by decide) (by decide) (by decide) (by decide), Option.bind_some, wide_Add.f_eq (by omega) (by omega) (by decide) (by decide) (by omega) (by omega), Option.bind_some]
    by_cases hc : V + 1 = 340282366920938463463374607431768211456
    · have w1 : wrap64 (f + 1) = f + 1 := w64_of (by omega) (by omega)
      have q : (((V / 18446744073709551616 : Nat) : Int) + 0 + (((V % 18446744073709551616 : Nat) : Int) + 1 + 0) / 18446744073709551616) / 18446744073709551616 = 1 := by omega
      have z1 : ((170141183460469231731687303715884105728 / 18446744073709551616 : Nat) : Int) = 9223372036854775808 := by decide
      have z2 : ((170141183460469231731687303715884105728 % 18446744073709551616 : Nat) : Int) = 0 := by decide
      rw [if_pos hc, if_pos q, w1]
      show _ = some (((170141183460469231731687303715884105728 / 18446744073709551616 : Nat) : Int), ((170141183460469231731687303715884105728 % 18446744073709551616 : Nat) : Int), f + 1, 0)
      rw [z1, z2]
    · have q : ¬ (((V / 18446744073709551616 : Nat) : Int) + 0 + (((V % 18446744073709551616 : Nat) : Int) + 1 + 0) / 18446744073709551616) / 18446744073709551616 = 1 := by omega
      have a1 : (((V / 18446744073709551616 : Nat) : Int) + 0 + (((V % 18446744073709551616 : Nat) : Int) + 1 + 0) / 18446744073709551616) % 18446744073709551616 = (((V + 1) / 18446744073709551616 : Nat) : Int) := by omega
      have a2 : (((V % 18446744073709551616 : Nat) : Int) + 1 + 0) % 18446744073709551616 = (((V + 1) % 18446744073709551616 : Nat) : Int) := by omega
      rw [if_neg hc, if_neg q, a1, a2]
theorem power_Above.f_eq {e : Int} (h1 : -348 ≤ e) (h2 : e ≤ 347) (k : Nat) (hk : 100000001 < k) :
    power_Above.f k e = some ((((pow5u e).1 / 18446744073709551616 : Nat) : Int), (((pow5u e).1 % 18446744073709551616 : Nat) : Int), (pow5u e).2, 0) := by
  have hV := pow5_row h1 h2
  rw [power_Above.f, power_at.f_eq h1 h2 k hk, Option.bind_some, if_pos rfl]
  exact above_words hV.lo hV.hi _ hV.f1 hV.f2 _
theorem pow5u_lo {e : Int} (h1 : -348 ≤ e) (h2 : e ≤ 347) : 170141183460469231731687303715884105728 ≤ (pow5u e).1 ∧ (pow5u e).1 < 340282366920938463463374607431768211456 ∧ -3000 ≤ (pow5u e).2 ∧ (pow5u e).2 ≤ 3001 := by
  obtain ⟨V1, V2, f1, f2, -, -, -⟩ := pow5_row h1 h2
  unfold pow5u
  split
  · exact ⟨V1, V2, f1, by omega⟩
  · split
    · exact ⟨Nat.le_refl _, (show (170141183460469231731687303715884105728 : Nat) < 340282366920938463463374607431768211456 by decide), by show -3000 ≤ (pow5 e).2.1 + 1; omega, by show (pow5 e).2.1 + 1 ≤ 3001; omega⟩
    · exact ⟨by show _ ≤ (pow5 e).1 + 1; omega, by show (pow5 e).1 + 1 < _; omega, f1, by show (pow5 e).2.1 ≤ 3001; omega⟩
/-- it is not below the power -/
theorem pow5u_ge {e : Int} (h1 : -348 ≤ e) (h2 : e ≤ 347) : 5 ^ e.toNat * 2 ^ (-(pow5u e).2).toNat ≤ (pow5u e).1 * 2 ^ (pow5u e).2.toNat * 5 ^ (-e).toNat := by
  obtain ⟨V1, V2, f1, f2, a1, a2, a3⟩ := pow5_row h1 h2
  unfold pow5u
  generalize (pow5 e).1 = V at *
  generalize (pow5 e).2.1 = f at *
  generalize (pow5 e).2.2 = w at *
  by_cases hw : w = true
  · rw [if_pos hw]
    exact Nat.le_of_eq (a3 hw)
  · rw [if_neg hw]
    by_cases hc : V + 1 = 340282366920938463463374607431768211456
    · rw [if_pos hc]
      show 5 ^ e.toNat * 2 ^ (-(f + 1)).toNat ≤ 170141183460469231731687303715884105728 * 2 ^ (f + 1).toNat * 5 ^ (-e).toNat
      rw [hc, show (340282366920938463463374607431768211456 : Nat) = 170141183460469231731687303715884105728 * 2 from rfl] at a2
      by_cases hf : 0 ≤ f
      · rw [show (-f).toNat = 0 from by omega] at a2
        rw [show (-(f + 1)).toNat = 0 from by omega, show (f + 1).toNat = f.toNat + 1 from by omega, Nat.pow_succ, Nat.mul_comm (2 ^ f.toNat) 2, ← Nat.mul_assoc]
        exact Nat.le_of_lt a2
      · rw [show f.toNat = 0 from by omega, show (-f).toNat = (-(f + 1)).toNat + 1 from by omega, Nat.pow_succ, ← Nat.mul_assoc, Nat.pow_zero, Nat.mul_one] at a2
        rw [show (f + 1).toNat = 0 from by omega, Nat.pow_zero, Nat.mul_one]
        have e1 : ∀ z : Nat, 170141183460469231731687303715884105728 * 2 * z = 170141183460469231731687303715884105728 * z * 2 := fun z => Nat.mul_right_comm _ _ _
        rw [e1] at a2
        omega
    · rw [if_neg hc]
      exact Nat.le_of_lt a2
theorem pow5_whole {e : Int} (h1 : 0 ≤ e) (h2 : e ≤ 55) : (pow5 e).2.2 = true := by
  obtain ⟨n, rfl⟩ : ∃ n : Nat, e = (n : Int) := ⟨e.toNat, by omega⟩
  have h3 : (5 : Nat) ^ n ≤ 5 ^ 55 := Nat.pow_le_pow_right (by decide) (by omega)
  have h4 : ((5 ^ n : Nat) : Int) < 2 ^ 128 := by
    rw [show (2 : Int) ^ 128 = ((340282366920938463463374607431768211456 : Nat) : Int) from by decide]
    refine Int.ofNat_lt.2 (Nat.lt_of_le_of_lt h3 (by decide))
  have h5 : bitsN ((5 ^ n : Nat) : Int) ≤ 128 := bitsN_le_of_lt (x := ((5 ^ n : Nat) : Int)) (n := 128) (Int.natCast_nonneg _) h4
  unfold pow5
  rw [if_pos h1, Int.toNat_natCast, if_pos h5]
end Go.Proofs.YtoannkopciehcaaDoor.PA

namespace Go.Proofs.YtoannkopciehcaaDoor.PA
open Go Go.RowKit Go.Proofs.YtoannkopciehcaaDoorW.PrintWords Go.Proofs.YtoannkopciehcaaDoorW.PrintLast Go.Proofs.YtoannkopciehcaaDoorW.PrintMore
set_option linter.unusedVariables false
set_option linter.unusedSimpArgs false
theorem shift_le {X Y a b c d : Nat} (h : X * 2 ^ a ≤ Y * 2 ^ b) (e : c + b = d + a) : X * 2 ^ c ≤ Y * 2 ^ d := by
  apply Nat.le_of_mul_le_mul_right _ (show 0 < 2 ^ a from Nat.pow_pos (by decide))
  have h1 : X * 2 ^ a * 2 ^ c ≤ Y * 2 ^ b * 2 ^ c := Nat.mul_le_mul_right _ h
  have e1 : X * 2 ^ c * 2 ^ a = X * 2 ^ a * 2 ^ c := Nat.mul_right_comm _ _ _
  have e2 : Y * 2 ^ d * 2 ^ a = Y * 2 ^ b * 2 ^ c := by rw [Nat.mul_assoc, Nat.mul_assoc, ← Nat.pow_add, ← Nat.pow_add]; congr 2; omega
  rw [e1, e2]; exact h1
/-- mant times ten to the e, as a ratio -/
def tP (m : Nat) (e : Int) : Nat := m * 10 ^ e.toNat * 2 ^ uN
def tQ (e : Int) : Nat := 10 ^ (-e).toNat
theorem tQ_pos (e : Int) : 0 < tQ e := Nat.pow_pos (by decide)
theorem ten_pow (n : Nat) : 10 ^ n = 5 ^ n * 2 ^ n := by rw [← Nat.mul_pow]
/-- the places of the two bounds -/
def lowR (m : Nat) (e : Int) : Nat := rn (flo ((pow5 e).1 * m) ((pow5 e).2.1 + e) false).1 (flo ((pow5 e).1 * m) ((pow5 e).2.1 + e) false).2
def highR (m : Nat) (e : Int) : Nat := rn (flo ((pow5u e).1 * m) ((pow5u e).2 + e) false).1 (flo ((pow5u e).1 * m) ((pow5u e).2 + e) false).2
theorem low_le {m : Nat} (hm : 0 < m) {e : Int} (h1 : -348 ≤ e) (h2 : e ≤ 347) {z : Nat} (hz : Rnd (tP m e) (tQ e) z) : lowR m e ≤ z := by
  obtain ⟨V1, V2, f1, f2, a1, a2, a3⟩ := pow5_row h1 h2
  have hV : 0 < (pow5 e).1 * m := Nat.mul_pos (by omega) hm
  have hf := Rnd.flo hV ((pow5 e).2.1 + e)
  refine Rnd.mono (Nat.pow_pos (by decide)) (tQ_pos e) hf hz ?_
  unfold tP tQ
  rw [ten_pow, ten_pow]
  generalize (pow5 e).1 = V at *
  generalize (pow5 e).2.1 = f at *
  have b1 : V * 5 ^ (-e).toNat * m * 2 ^ f.toNat ≤ 5 ^ e.toNat * m * 2 ^ (-f).toNat := by
    have := Nat.mul_le_mul_right m a1
    rw [Nat.mul_right_comm V, Nat.mul_right_comm (V * 5 ^ (-e).toNat), Nat.mul_right_comm (5 ^ e.toNat)] at this
    exact this
  have c := shift_le (c := (f + e + 1074).toNat + (-e).toNat) (d := e.toNat + uN + (-(f + e + 1074)).toNat) b1 (by have := uN_eq; omega)
  rw [Nat.pow_add, Nat.pow_add, Nat.pow_add] at c
  generalize 5 ^ (-e).toNat = x1 at *
  generalize 5 ^ e.toNat = x2 at *
  generalize 2 ^ (f + e + 1074).toNat = x3 at *
  generalize 2 ^ (-(f + e + 1074)).toNat = x4 at *
  generalize 2 ^ (-e).toNat = x5 at *
  generalize 2 ^ e.toNat = x6 at *
  generalize 2 ^ uN = x7 at *
  have e1 : V * m * x3 * (x1 * x5) = V * x1 * m * (x3 * x5) := by ac_rfl
  have e2 : m * (x2 * x6) * x7 * x4 = x2 * m * (x6 * x7 * x4) := by ac_rfl
  rw [e1, e2]
  exact c
theorem le_high {m : Nat} (hm : 0 < m) {e : Int} (h1 : -348 ≤ e) (h2 : e ≤ 347) {z : Nat} (hz : Rnd (tP m e) (tQ e) z) : z ≤ highR m e := by
  obtain ⟨V1, V2, f1, f2⟩ := pow5u_lo h1 h2
  have a1 := pow5u_ge h1 h2
  have hV : 0 < (pow5u e).1 * m := Nat.mul_pos (by omega) hm
  have hf := Rnd.flo hV ((pow5u e).2 + e)
  refine Rnd.mono (tQ_pos e) (Nat.pow_pos (by decide)) hz hf ?_
  unfold tP tQ
  rw [ten_pow, ten_pow]
  generalize (pow5u e).1 = V at *
  generalize (pow5u e).2 = f at *
  have b1 : 5 ^ e.toNat * m * 2 ^ (-f).toNat ≤ V * 5 ^ (-e).toNat * m * 2 ^ f.toNat := by
    have := Nat.mul_le_mul_right m a1
    rw [Nat.mul_right_comm V, Nat.mul_right_comm (V * 5 ^ (-e).toNat), Nat.mul_right_comm (5 ^ e.toNat)] at this
    exact this
  have c := shift_le (c := e.toNat + uN + (-(f + e + 1074)).toNat) (d := (f + e + 1074).toNat + (-e).toNat) b1 (by have := uN_eq; omega)
  rw [Nat.pow_add, Nat.pow_add, Nat.pow_add] at c
  generalize 5 ^ (-e).toNat = x1 at *
  generalize 5 ^ e.toNat = x2 at *
  generalize 2 ^ (f + e + 1074).toNat = x3 at *
  generalize 2 ^ (-(f + e + 1074)).toNat = x4 at *
  generalize 2 ^ (-e).toNat = x5 at *
  generalize 2 ^ e.toNat = x6 at *
  generalize 2 ^ uN = x7 at *
  have e1 : V * m * x3 * (x1 * x5) = V * x1 * m * (x3 * x5) := by ac_rfl
  have e2 : m * (x2 * x6) * x7 * x4 = x2 * m * (x6 * x7 * x4) := by ac_rfl
  rw [e1, e2]
  exact c
def fastR (m : Nat) (e : Int) : Int × Int := if outP 0 false (lowR m e) = outP 0 false (highR m e) then outP 0 false (lowR m e) else (0, 100)
theorem ten_lo (t : Nat) (h : t = 349) : 2 * (18446744073709551616 * 2 ^ uN) < 10 ^ t := by
  subst h; decide +kernel
theorem ten_hi (t s : Nat) (h : t = 348) (g : s = 1024) : (2 : Nat) ^ s ≤ 10 ^ t := by
  subst h; subst g; decide +kernel
theorem tP_low {m : Nat} (hm : m < 18446744073709551616) {e : Int} (h : e < -348) : Rnd (tP m e) (tQ e) 0 := by
  have h1 : tP m e = m * 2 ^ uN := by unfold tP; rw [show e.toNat = 0 from by omega, Nat.pow_zero, Nat.mul_one]
  by_cases m0 : m = 0
  · rw [h1, m0, Nat.zero_mul]
    have hd : Rd 0 (tQ e) 0 := ⟨by rw [pV_zero, Nat.zero_mul]; exact Nat.le_refl _, by rw [show pV (0 + 1) = 1 from rfl, Nat.one_mul]; exact tQ_pos e⟩
    refine ⟨0, hd, ?_⟩
    unfold tl
    rw [pV_zero, Nat.zero_mul, if_pos rfl]
    rfl
  · have h2 : 2 * (m * 2 ^ uN) < tQ e := by
      unfold tQ
      obtain ⟨t, ht⟩ : ∃ t : Nat, t = 349 := ⟨_, rfl⟩
      have h5 : (10 : Nat) ^ t ≤ 10 ^ (-e).toNat := Nat.pow_le_pow_right (by decide) (by omega)
      have h4 := ten_lo t ht
      have h3 : m * 2 ^ uN ≤ 18446744073709551616 * 2 ^ uN := Nat.mul_le_mul_right _ (by omega)
      clear ht
      generalize (10 : Nat) ^ t = y at *
      generalize 2 ^ uN = z at *
      omega
    have h5 : 0 < m * 2 ^ uN := Nat.mul_pos (by omega) (Nat.pow_pos (by decide))
    obtain ⟨r1, r2⟩ := Rd_small h5 h2 false
    rw [h1]
    exact ⟨0, r1, by rw [r2]; rfl⟩
theorem pV_top : pV 9218868437227405312 = 2 ^ (52 + 2046) := pV_pow 2046
theorem Rnd.big {P Q z : Nat} (h : Rnd P Q z) (hb : pV 9218868437227405312 * Q ≤ P) : 9218868437227405311 < z := by
  obtain ⟨d, h1, rfl⟩ := h
  have h2 := (h1.le_iff 9218868437227405312).1 hb
  unfold rn
  split <;> omega
theorem tP_high {m : Nat} (hm : 0 < m) {e : Int} (h : 347 < e) {z : Nat} (hz : Rnd (tP m e) (tQ e) z) : 9218868437227405311 < z := by
  have hq : tQ e = 1 := by unfold tQ; rw [show (-e).toNat = 0 from by omega, Nat.pow_zero]
  refine hz.big ?_
  obtain ⟨s, hs⟩ : ∃ s : Nat, s = 1024 := ⟨_, rfl⟩
  obtain ⟨t, ht⟩ : ∃ t : Nat, t = 348 := ⟨_, rfl⟩
  have hu := uN_eq
  have hp : pV 9218868437227405312 = 2 ^ (s + uN) := by
    rw [show s + uN = 52 + 2046 from by omega]
    exact pV_top
  rw [hq, Nat.mul_one, hp]
  unfold tP
  have h1 : (10 : Nat) ^ t ≤ 10 ^ e.toNat := Nat.pow_le_pow_right (by decide) (by omega)
  have h2 := ten_hi t s ht hs
  have h3 : 1 * 10 ^ e.toNat ≤ m * 10 ^ e.toNat := Nat.mul_le_mul_right _ hm
  have h6 : (2 : Nat) ^ s ≤ m * 10 ^ e.toNat := Nat.le_trans h2 (Nat.le_trans h1 (by rw [Nat.one_mul] at h3; exact h3))
  have h4 : 2 ^ s * 2 ^ uN ≤ m * 10 ^ e.toNat * 2 ^ uN := Nat.mul_le_mul_right _ h6
  rw [← Nat.pow_add] at h4
  exact h4
/-- what Fast tells of every word and exponent -/
def fastA (m : Nat) (e : Int) : Int × Int := if m = 0 ∨ e < -348 then (0, 0) else if 347 < e then (0, 70) else fastR m e
theorem fastA_sure (m : Nat) (hm : m < 18446744073709551616) (e : Int) : fastA m e = (0, 100) ∨ ∃ z, Rnd (tP m e) (tQ e) z ∧ fastA m e = outP 0 false z := by
  unfold fastA
  by_cases h0 : m = 0
  · rw [if_pos (.inl h0)]
    refine .inr ⟨0, ?_, rfl⟩
    have h1 : tP m e = 0 := by unfold tP; rw [h0, Nat.zero_mul, Nat.zero_mul]
    have hd : Rd 0 (tQ e) 0 := ⟨by rw [pV_zero, Nat.zero_mul]; exact Nat.le_refl _, by rw [show pV (0 + 1) = 1 from rfl, Nat.one_mul]; exact tQ_pos e⟩
    rw [h1]
    refine ⟨0, hd, ?_⟩
    unfold tl
    rw [pV_zero, Nat.zero_mul, if_pos rfl]
    rfl
  · by_cases h1 : e < -348
    · rw [if_pos (.inr h1)]
      exact .inr ⟨0, tP_low hm h1, rfl⟩
    · rw [if_neg (by omega)]
      obtain ⟨z, hz⟩ := Rnd.there (P := tP m e) (tQ_pos e)
      by_cases h2 : 347 < e
      · rw [if_pos h2]
        refine .inr ⟨z, hz, ?_⟩
        have := tP_high (by omega) h2 hz
        rcases outP_cases z with ⟨_, h⟩ | ⟨h, _⟩
        · exact h.symm
        · omega
      · rw [if_neg h2]
        unfold fastR
        by_cases hc : outP 0 false (lowR m e) = outP 0 false (highR m e)
        · rw [if_pos hc]
          exact .inr ⟨z, hz, (outP_between (low_le (by omega) (by omega) (by omega) hz) (le_high (by omega) (by omega) (by omega) hz) hc).symm⟩
        · rw [if_neg hc]
          exact .inl rfl
theorem mul3_words {V m : Nat} (hV : V < 340282366920938463463374607431768211456) (hm : m < 18446744073709551616) :
    ∃ t c l : Nat, t < 18446744073709551616 ∧ c < 18446744073709551616 ∧ l < 18446744073709551616 ∧ V * m = t * 340282366920938463463374607431768211456 + (c * 18446744073709551616 + l) ∧
      wide_Mul3.f (((V / 18446744073709551616 : Nat)) : Int) (((V % 18446744073709551616 : Nat)) : Int) (m : Int) = some ((t : Int), (c : Int), (l : Int)) := by
  have hh : V / 18446744073709551616 < 18446744073709551616 := by omega
  have hl : V % 18446744073709551616 < 18446744073709551616 := by omega
  have eV : V = V / 18446744073709551616 * 18446744073709551616 + V % 18446744073709551616 := by omega
  generalize V / 18446744073709551616 = h at *
  generalize V % 18446744073709551616 = l at *
  have b1 : u64B (h : Int) = true := u64B_iff.2 (by omega)
  have b2 : u64B (l : Int) = true := u64B_iff.2 (by omega)
  have b3 : u64B (m : Int) = true := u64B_iff.2 (by omega)
  have x1 : h * m ≤ 18446744073709551615 * 18446744073709551615 := Nat.mul_le_mul (by omega) (by omega)
  have x2 : l * m ≤ 18446744073709551615 * 18446744073709551615 := Nat.mul_le_mul (by omega) (by omega)
  have ex : V * m = h * m * 18446744073709551616 + l * m := by rw [eV, Nat.add_mul, Nat.mul_right_comm]
  rw [wide_Mul3.f, wide_Mul.f, if_pos b1, if_pos b3, Option.bind_some, wide_Mul.f, if_pos b2, if_pos b3, Option.bind_some]
  have i1 : (h : Int) * (m : Int) = ((h * m : Nat) : Int) := by rw [Int.natCast_mul]
  have i2 : (l : Int) * (m : Int) = ((l * m : Nat) : Int) := by rw [Int.natCast_mul]
  rw [i1, i2]
  generalize h * m = p at *
  generalize l * m = q at *
  have c1 : (p : Int) % 18446744073709551616 = ((p % 18446744073709551616 : Nat) : Int) := rfl
  have c2 : (p : Int) / 18446744073709551616 = ((p / 18446744073709551616 : Nat) : Int) := rfl
  have c3 : (q : Int) % 18446744073709551616 = ((q % 18446744073709551616 : Nat) : Int) := rfl
  have c4 : (q : Int) / 18446744073709551616 = ((q / 18446744073709551616 : Nat) : Int) := rfl
  have hp := Nat.div_add_mod p 18446744073709551616
  have hq := Nat.div_add_mod q 18446744073709551616
  have bp := Nat.mod_lt p (show 0 < 18446744073709551616 by decide)
  have bq := Nat.mod_lt q (show 0 < 18446744073709551616 by decide)
  have bp2 : p / 18446744073709551616 < 18446744073709551615 := by omega
  have bq2 : q / 18446744073709551616 < 18446744073709551615 := by omega
  rw [c1, c2, c3, c4]
  clear c1 c2 c3 c4 i1 i2 b1 b2 b3
  generalize p / 18446744073709551616 = a at *
  generalize p % 18446744073709551616 = b at *
  generalize q / 18446744073709551616 = c at *
  generalize q % 18446744073709551616 = d at *
  rw [wide_Add.f_eq (by omega) (by omega) (by omega) (by omega) (by decide) (by decide), Option.bind_some]
  have hs := Nat.div_add_mod (b + c) 18446744073709551616
  have bs := Nat.mod_lt (b + c) (show 0 < 18446744073709551616 by decide)
  have e1 : ((b : Int) + (c : Int) + 0) / 18446744073709551616 = (((b + c) / 18446744073709551616 : Nat) : Int) := by omega
  have e2 : ((b : Int) + (c : Int) + 0) % 18446744073709551616 = (((b + c) % 18446744073709551616 : Nat) : Int) := by omega
  rw [e1, e2]
  clear e1 e2
  have bs2 : (b + c) / 18446744073709551616 ≤ 1 := by omega
  generalize (b + c) / 18446744073709551616 = s at *
  generalize (b + c) % 18446744073709551616 = r at *
  have ew : IntKind.u64.wrap ((a : Int) + (s : Int)) = ((a + s : Nat) : Int) := by rw [u64w_of (by omega) (by omega), Int.natCast_add]
  refine ⟨a + s, r, d, by omega, by omega, by omega, ?_, ?_⟩
  · rw [ex, ← hp, ← hq, Nat.add_mul, Nat.add_mul]
    clear ew ex
    omega
  · show some (IntKind.u64.wrap ((a : Int) + (s : Int)), (r : Int), (d : Int)) = _
    rw [ew]
theorem lemire_Fast.f_eq (m : Nat) (hm : m < 18446744073709551616) (e : Int) (k : Nat) (hk : 100000002 < k) : lemire_Fast.f k (m : Int) e = some (fastA m e) := by
  obtain ⟨k, rfl⟩ : ∃ j, k = j + 1 := ⟨k - 1, by omega⟩
  have e0 : lemire_Fast.f (k + 1) (m : Int) e = lemire_Fast.j0 (k + 1) (m : Int) e (decide (m = 0 ∨ e < -348)) := by
    rw [lemire_Fast.f]
    by_cases h : m = 0
    · rw [if_pos (by omega), decide_eq_true (.inl h)]
    · rw [if_neg (by omega)]
      congr 1
      rw [decide_eq_decide]
      omega
  rw [e0, lemire_Fast.j0]
  unfold fastA
  by_cases h1 : m = 0 ∨ e < -348
  · rw [decide_eq_true h1, if_pos rfl, if_pos h1]
  · rw [decide_eq_false h1, if_neg (by decide), if_neg h1]
    by_cases h2 : 347 < e
    · rw [if_pos h2, if_pos h2]
    · rw [if_neg h2, if_neg h2]
      obtain ⟨V1, V2, f1, f2, -, -, -⟩ := pow5_row (e := e) (by omega) (by omega)
      obtain ⟨U1, U2, g1, g2⟩ := pow5u_lo (e := e) (by omega) (by omega)
      obtain ⟨t, c, l, ht, hc, hl, hV, hW⟩ := mul3_words V2 hm
      obtain ⟨t', c', l', ht', hc', hl', hV', hW'⟩ := mul3_words U2 hm
      have p1 : 0 < (pow5 e).1 * m := Nat.mul_pos (by omega) (by omega)
      have p2 : 0 < (pow5u e).1 * m := Nat.mul_pos (by omega) (by omega)
      have w1 : wrap64 ((pow5 e).2.1 + e) = (pow5 e).2.1 + e := w64_of (by omega) (by omega)
      have w2 : wrap64 ((pow5u e).2 + e) = (pow5u e).2 + e := w64_of (by omega) (by omega)
      rw [hV] at p1
      rw [hV'] at p2
      have r1 := lemire_three_rounded.f_eq t c l p1 ht hc hl ((pow5 e).2.1 + e) (by omega) (by omega) false k (by omega)
      have r2 := lemire_three_rounded.f_eq t' c' l' p2 ht' hc' hl' ((pow5u e).2 + e) (by omega) (by omega) false k (by omega)
      unfold fastR lowR highR
      rw [← hV, RS_rn] at r1
      rw [← hV', RS_rn] at r2
      rw [power_Five.f_eq (by omega) (by omega) k (by omega), Option.bind_some, hW, Option.bind_some, w1, r1, Option.bind_some, power_Above.f_eq (by omega) (by omega) k (by omega), Option.bind_some, hW', Option.bind_some, w2, r2, Option.bind_some]
      generalize outP 0 false (rn (flo ((pow5 e).1 * m) ((pow5 e).2.1 + e) false).1 (flo ((pow5 e).1 * m) ((pow5 e).2.1 + e) false).2) = x
      generalize outP 0 false (rn (flo ((pow5u e).1 * m) ((pow5u e).2 + e) false).1 (flo ((pow5u e).1 * m) ((pow5u e).2 + e) false).2) = y
      obtain ⟨x1, x2⟩ := x
      obtain ⟨y1, y2⟩ := y
      show (if x2 = y2 then (if x1 = y1 then some (x1, x2) else some (0, 100)) else some (0, 100)) = some (if (x1, x2) = (y1, y2) then (x1, x2) else (0, 100))
      by_cases q2 : x2 = y2
      · rw [if_pos q2]
        by_cases q1 : x1 = y1
        · rw [if_pos q1, if_pos (by rw [q1, q2])]
        · rw [if_neg q1, if_neg (fun h => q1 (congrArg Prod.fst h))]
      · rw [if_neg q2, if_neg (fun h => q2 (congrArg Prod.snd h))]
end Go.Proofs.YtoannkopciehcaaDoor.PA
