/- A part of the proof (11). -/
import Derived.Test.YtoefabmlkbhmpaaDoorSQ10
import Derived.OpenShut
import Derived.Test.YtoefabmlkbhmpaaDoorSQ9
import Derived.LaidLaws
import Derived.LaidHandle
import Derived.MakeChecks
import Derived.WideShapes
import Derived.ChangeArms
namespace Go.Proofs.YtoefabmlkbhmpaaDoor.PA
open Go Go.RowKit Go.Proofs.YtoefabmlkbhmpaaDoorW.PrintWords Go.Proofs.YtoefabmlkbhmpaaDoorW.PrintLast Go.Proofs.YtoefabmlkbhmpaaDoorW.PrintMore
set_option linter.unusedVariables false
set_option linter.unusedSimpArgs false
theorem take_snocD {xs : List Int} {i : Nat} (h : i < xs.length) : xs.take (i + 1) = xs.take i ++ [xs.getD i 0] := by
  rw [List.take_succ_eq_append_getElem h, List.getD_eq_getElem?_getD, List.getElem?_eq_getElem h]; rfl
theorem plumbref03_Norm.l1_eq (x : List Int) (n : Nat) (hn : n ≤ x.length) (hm : x.length ≤ 17592186044416) : ∀ (d k i : Nat), d = n - i → d < k → i ≤ n → plumbref03_Norm.l1 k x (n : Int) (x.take i) (i : Int) = some (x.take n) := by
  intro d
  induction d with
  | zero =>
    intro k i hd hk hi
    obtain ⟨k, rfl⟩ : ∃ j, k = j + 1 := ⟨k - 1, by omega⟩
    obtain rfl : i = n := by omega
    rw [plumbref03_Norm.l1, if_neg (by omega)]
  | succ d ih =>
    intro k i hd hk hi
    obtain ⟨k, rfl⟩ : ∃ j, k = j + 1 := ⟨k - 1, by omega⟩
    have ht : (x.take i).length ≤ i := List.length_take_le _ _
    rw [plumbref03_Norm.l1, if_pos (by omega), if_pos (by omega), if_pos (by omega), if_pos (by omega), rdn, w64_s i (by omega), ← take_snocD (by omega)]
    exact ih k (i + 1) (by omega) (by omega) (by omega)
theorem plumbref03_Norm.l0_eq (x : List Int) (hm : x.length ≤ 17592186044416) : ∀ (n k : Nat), n ≤ x.length → x.length + n + 2 < k → strip x = strip (x.take n) → plumbref03_Norm.l0 k x (n : Int) = some (strip x) := by
  intro n
  induction n with
  | zero =>
    intro k hn hk hs
    obtain ⟨k, rfl⟩ : ∃ j, k = j + 2 := ⟨k - 2, by omega⟩
    rw [plumbref03_Norm.l0, if_neg (by omega), plumbref03_Norm.j1]
    have := plumbref03_Norm.l1_eq x 0 (by omega) hm 0 k 0 (by omega) (by omega) (by omega)
    rw [List.take_zero] at this hs
    rw [hs]
    exact this
  | succ n ih =>
    intro k hn hk hs
    obtain ⟨k, rfl⟩ : ∃ j, k = j + 2 := ⟨k - 2, by omega⟩
    rw [take_snocD (by omega)] at hs
    rw [plumbref03_Norm.l0, if_pos (by omega), w64_p n (by omega), if_pos (by omega), if_pos (by omega), rdn]
    by_cases h0 : x.getD n 0 = 0
    · rw [if_pos h0]
      rw [h0, strip_snoc_zero] at hs
      exact ih (k + 1) (by omega) (by omega) hs
    · rw [if_neg h0, plumbref03_Norm.j1]
      have := plumbref03_Norm.l1_eq x (n + 1) hn hm (n + 1) k 0 (by omega) (by omega) (by omega)
      rw [List.take_zero] at this
      rw [strip_snoc_ne _ h0, ← take_snocD (by omega)] at hs
      rw [hs]
      exact this
theorem plumbref03_Norm.f_eq (x : List Int) (hm : x.length ≤ 17592186044416) (k : Nat) (hk : 2 * x.length + 2 < k) : plumbref03_Norm.f k x = some (strip x) := by
  rw [plumbref03_Norm.f]
  exact plumbref03_Norm.l0_eq x hm x.length k (Nat.le_refl _) (by omega) (by rw [List.take_length])
theorem plumbref03_at.f_eq (x : List Int) (n : Nat) : plumbref03_at.f x (n : Int) = some (x.getD n 0) := by
  unfold plumbref03_at.f
  by_cases h : n < x.length
  · rw [if_pos (by omega), if_pos (by omega), rdn]
  · rw [if_neg (by omega), List.getD_eq_getElem?_getD, List.getElem?_eq_none (by omega)]; rfl
theorem nv_take_any (xs : List Int) (i : Nat) : nv (xs.take (i + 1)) = nv (xs.take i) + xs.getD i 0 * 2 ^ (64 * i) := by
  by_cases h : i < xs.length
  · exact nv_take_succ h
  · rw [List.take_of_length_le (by omega), List.take_of_length_le (by omega), List.getD_eq_getElem?_getD, List.getElem?_eq_none (by omega)]
    simp
theorem nv_take_lt {xs : List Int} (h : Ws xs) (i : Nat) : nv (xs.take i) < 2 ^ (64 * i) := by
  have h1 := nv_lt (h.take i)
  have h2 : (xs.take i).length ≤ i := List.length_take_le _ _
  exact Int.lt_of_lt_of_le h1 (pow_mono (by omega))
end Go.Proofs.YtoefabmlkbhmpaaDoor.PA

namespace Go.Proofs.YtoefabmlkbhmpaaDoor.PA
open Go Go.RowKit Go.Proofs.YtoefabmlkbhmpaaDoorW.PrintWords Go.Proofs.YtoefabmlkbhmpaaDoorW.PrintLast Go.Proofs.YtoefabmlkbhmpaaDoorW.PrintMore
set_option linter.unusedVariables false
set_option linter.unusedSimpArgs false
def cmpZ (a b : Int) : Int := if a < b then -1 else if a > b then 1 else 0
theorem cmpZ_high {a b x y P : Int} (ha0 : 0 ≤ a) (ha : a < P) (hb0 : 0 ≤ b) (hb : b < P) : cmpZ (a + x * P) (b + y * P) = if x < y then -1 else if x > y then 1 else cmpZ a b := by
  unfold cmpZ
  by_cases h1 : x < y
  · have : (x + 1) * P ≤ y * P := Int.mul_le_mul_of_nonneg_right (by omega) (by omega)
    rw [Int.add_mul, Int.one_mul] at this
    rw [if_pos h1, if_pos (by omega)]
  · rw [if_neg h1]
    by_cases h2 : x > y
    · have : (y + 1) * P ≤ x * P := Int.mul_le_mul_of_nonneg_right (by omega) (by omega)
      rw [Int.add_mul, Int.one_mul] at this
      rw [if_pos h2, if_neg (by omega), if_pos (by omega)]
    · obtain rfl : x = y := by omega
      rw [if_neg h2]
      by_cases h3 : a < b
      · rw [if_pos h3, if_pos (by omega)]
      · rw [if_neg h3, if_neg (by omega)]
        by_cases h4 : a > b
        · rw [if_pos h4, if_pos (by omega)]
        · rw [if_neg h4, if_neg (by omega)]
theorem plumbref03_Cmp.l0_eq (x y : List Int) (hx : Ws x) (hy : Ws y) : ∀ (n k : Nat), n < k → n ≤ 35184372088832 → plumbref03_Cmp.l0 k x y ((n : Int) - 1) = some (cmpZ (nv (x.take n)) (nv (y.take n))) := by
  intro n
  induction n with
  | zero =>
    intro k hk _
    obtain ⟨k, rfl⟩ : ∃ j, k = j + 1 := ⟨k - 1, by omega⟩
    rw [plumbref03_Cmp.l0, if_neg (by omega)]
    rfl
  | succ n ih =>
    intro k hk hn
    obtain ⟨k, rfl⟩ : ∃ j, k = j + 1 := ⟨k - 1, by omega⟩
    have er : ((n + 1 : Nat) : Int) - 1 = (n : Int) := by omega
    have hw : wrap64 ((n : Int) - 1) = (n : Int) - 1 := w64_of (by omega) (by omega)
    rw [plumbref03_Cmp.l0, er, if_pos (by omega), plumbref03_at.f_eq, plumbref03_at.f_eq, Option.bind_some, Option.bind_some, nv_take_any, nv_take_any,
      cmpZ_high (nv_nonneg (hx.take n)) (nv_take_lt hx n) (nv_nonneg (hy.take n)) (nv_take_lt hy n)]
    by_cases h1 : x.getD n 0 < y.getD n 0
    · rw [if_pos h1, if_pos h1]
    · rw [if_neg h1, if_neg h1, Option.bind_some, Option.bind_some]
      by_cases h2 : x.getD n 0 > y.getD n 0
      · rw [if_pos h2, if_pos h2]
      · rw [if_neg h2, if_neg h2, hw]
        exact ih k (by omega) (by omega)
theorem plumbref03_Cmp.f_eq (x y : List Int) (hx : Ws x) (hy : Ws y) (hmx : x.length ≤ 17592186044416) (hmy : y.length ≤ 17592186044416) (k : Nat) (hk : x.length + y.length + 2 < k) : plumbref03_Cmp.f k x y = some (cmpZ (nv x) (nv y)) := by
  obtain ⟨k, rfl⟩ : ∃ j, k = j + 1 := ⟨k - 1, by omega⟩
  have main : ∀ n : Nat, x.length ≤ n → y.length ≤ n → n ≤ x.length + y.length → plumbref03_Cmp.j0 (k + 1) x y (n : Int) = some (cmpZ (nv x) (nv y)) := by
    intro n h1 h2 h3
    rw [plumbref03_Cmp.j0, w64_of (by omega) (by omega), plumbref03_Cmp.l0_eq x y hx hy n k (by omega) (by omega), List.take_of_length_le h1, List.take_of_length_le h2]
  rw [plumbref03_Cmp.f]
  by_cases h : (y.length : Int) > (x.length : Int)
  · rw [if_pos h]; exact main _ (by omega) (by omega) (by omega)
  · rw [if_neg h]; exact main _ (by omega) (by omega) (by omega)
theorem plumbref03_Word.f_eq {v : Int} (h0 : 0 ≤ v) (h1 : v < 18446744073709551616) (k : Nat) (hk : 5 ≤ k) : plumbref03_Word.f k v = some (wd v.toNat) := by
  have hw : Ws [v] := Ws.cons h0 h1 Ws.nil
  have e := wd_nv hw
  have hn : nv [v] = v := by simp [nv]
  rw [hn] at e
  rw [plumbref03_Word.f, plumbref03_Norm.f_eq [v] (by simp) k (by simp; omega), Option.bind_some, e]
theorem nv_snoc (xs : List Int) (v : Int) : nv (xs ++ [v]) = nv xs + 2 ^ (64 * xs.length) * v := by
  rw [nv_append]; simp [nv]
theorem Ws_snoc {xs : List Int} (h : Ws xs) {v : Int} (h0 : 0 ≤ v) (h1 : v < 18446744073709551616) : Ws (xs ++ [v]) := h.append (Ws.cons h0 h1 Ws.nil)
theorem plumbref03_Shl.l1_eq (x : List Int) (hx : Ws x) (q s : Nat) (hs : s ≤ 63) (hm : x.length + q ≤ 17592186044415) : ∀ (d k i : Nat) (acc : List Int) (c : Int), d = x.length - i → d + 2 * (x.length + q) + 10 < k → i ≤ x.length → acc.length = q + i → Ws acc → 0 ≤ c → c < 2 ^ s → nv acc + 2 ^ (64 * (q + i)) * c = nv (x.take i) * 2 ^ s * 2 ^ (64 * q) →
    plumbref03_Shl.l1 k x acc (s : Int) c (i : Int) = some (wd (nv x * 2 ^ (64 * q + s)).toNat) := by
  have hP := two_pow_pos s
  have hR := two_pow_pos (64 - s)
  have hPR := pow_split (s := s) (by omega)
  have hle : (2 : Int) ^ s ≤ 2 ^ 63 := pow_mono hs
  rw [show (2 : Int) ^ 63 = 9223372036854775808 from by decide] at hle
  intro d
  induction d with
  | zero =>
    intro k i acc c hd hk hi hl hw hc0 hc he
    obtain ⟨k, rfl⟩ : ∃ j, k = j + 1 := ⟨k - 1, by omega⟩
    obtain rfl : i = x.length := by omega
    rw [List.take_length] at he
    have hw2 := Ws_snoc hw hc0 (by omega : c < 18446744073709551616)
    rw [plumbref03_Shl.l1, if_neg (by omega), if_pos (by omega), plumbref03_Norm.f_eq _ (by rw [List.length_append, List.length_singleton]; omega) k (by rw [List.length_append, List.length_singleton]; omega), Option.bind_some, ← wd_nv hw2, nv_snoc, hl, he, Int.mul_assoc, ← Int.pow_add, Nat.add_comm s]
  | succ d ih =>
    intro k i acc c hd hk hi hl hw hc0 hc he
    obtain ⟨k, rfl⟩ : ∃ j, k = j + 1 := ⟨k - 1, by omega⟩
    have ho := hx.getD i
    have hy : x.getD i 0 / 2 ^ (64 - s) < 2 ^ s := Int.ediv_lt_of_lt_mul hR (by rw [hPR]; exact ho.2)
    have hy0 : 0 ≤ x.getD i 0 / 2 ^ (64 - s) := Int.ediv_nonneg ho.1 (Int.le_of_lt hR)
    have hlow := shl_low (x := x.getD i 0) hP hPR
    have hm1 := Int.emod_nonneg (x.getD i 0 * 2 ^ s) (show (18446744073709551616 : Int) ≠ 0 by decide)
    have hm2 := Int.emod_lt_of_pos (x.getD i 0 * 2 ^ s) (show (0 : Int) < 18446744073709551616 by decide)
    have g1 : x.getD i 0 % 2 ^ (64 - s) < 2 ^ (64 - s) := Int.emod_lt_of_pos _ hR
    have hsum : x.getD i 0 * 2 ^ s % 18446744073709551616 + c < 18446744073709551616 := by
      rw [hlow, ← hPR]
      have h3 : 2 ^ s * (x.getD i 0 % 2 ^ (64 - s) + 1) ≤ 2 ^ s * 2 ^ (64 - s) := Int.mul_le_mul_of_nonneg_left g1 (Int.le_of_lt hP)
      rw [Int.mul_add, Int.mul_one] at h3
      omega
    have e1 : shl .u64 (x.getD i 0) (s : Int) = x.getD i 0 * 2 ^ s % 18446744073709551616 := by rw [shl_eq, Int.toNat_natCast, Nat.min_eq_left (by omega)]
    have e2 : Go.bits .or .u64 (x.getD i 0 * 2 ^ s % 18446744073709551616) c = x.getD i 0 * 2 ^ s % 18446744073709551616 + c := or_join s hm1 hm2 (by rw [hlow, Int.mul_emod_right]) hc0 hc (by omega)
    have e3 : ∀ (z : Int), nv (acc ++ [x.getD i 0 * 2 ^ s % 18446744073709551616 + c]) + 2 ^ (64 * (q + (i + 1))) * (x.getD i 0 / 2 ^ (64 - s)) = nv (x.take (i + 1)) * 2 ^ s * 2 ^ (64 * q) := by
      intro _
      rw [nv_snoc, hl, nv_take_succ (by omega), show q + (i + 1) = (q + i) + 1 from rfl, pow64, Int.add_mul, Int.add_mul, ← he]
      have h2 := shl_word (x := x.getD i 0) hP hPR
      have e4 : x.getD i 0 * 2 ^ (64 * i) * 2 ^ s * 2 ^ (64 * q) = x.getD i 0 * 2 ^ s * 2 ^ (64 * (q + i)) := by
        rw [show 64 * (q + i) = 64 * i + 64 * q from by omega, Int.pow_add]; grind
      rw [e4]
      generalize x.getD i 0 * 2 ^ s % 18446744073709551616 = v at *
      rw [h2]
      generalize x.getD i 0 / 2 ^ (64 - s) = u
      generalize (2 : Int) ^ (64 * (q + i)) = p
      grind
    rw [plumbref03_Shl.l1, if_pos (by omega), if_pos (by omega), if_pos (by omega), if_pos (by omega), Option.bind_some, rdn, e1, e2, w64_s i (by omega)]
    have hlen : (acc ++ [x.getD i 0 * 2 ^ s % 18446744073709551616 + c]).length = q + (i + 1) := by rw [List.length_append, List.length_singleton]; omega
    by_cases hs0 : s = 0
    · subst hs0
      rw [if_neg (by decide)]
      have hz : x.getD i 0 / 2 ^ (64 - 0) = 0 := by
        rw [show (2 : Int) ^ (64 - 0) = 18446744073709551616 from by decide]; omega
      have e5 := e3 0
      rw [hz] at e5
      exact ih k (i + 1) _ 0 (by omega) (by omega) (by omega) hlen (Ws_snoc hw (by omega) hsum) (by decide) (by decide) e5
    · have e6 : wrap64 (64 - (s : Int)) = ((64 - s : Nat) : Int) := by rw [w64_of (by omega) (by omega)]; omega
      have e7 : shr .u64 (x.getD i 0) ((64 - s : Nat) : Int) = x.getD i 0 / 2 ^ (64 - s) := by rw [shr_eq, Int.toNat_natCast, Nat.min_eq_left (by omega)]
      rw [if_pos (by omega), e6, if_pos (Int.natCast_nonneg _), e7]
      exact ih k (i + 1) _ _ (by omega) (by omega) (by omega) hlen (Ws_snoc hw (by omega) hsum) hy0 hy (e3 0)
theorem plumbref03_Shl.l0_eq (x : List Int) (hx : Ws x) (n : Nat) (hn : n ≤ 4503599627370496) (hm : x.length + n / 64 ≤ 17592186044415) : ∀ (d k i : Nat), d = n / 64 - i → d + 4 * (x.length + n / 64) + 20 < k → i ≤ n / 64 → plumbref03_Shl.l0 k x (n : Int) (List.replicate i 0) (i : Int) = some (wd (nv x * 2 ^ n).toNat) := by
  have e1 : wrap64 (Int.tdiv (n : Int) 64) = ((n / 64 : Nat) : Int) := by
    rw [Int.tdiv_eq_ediv_of_nonneg (by omega), w64_of (by omega) (by omega)]; omega
  have e2 : Int.tmod (n : Int) 64 = ((n % 64 : Nat) : Int) := by
    rw [Int.tmod_eq_emod_of_nonneg (by omega)]; omega
  intro d
  induction d with
  | zero =>
    intro k i hd hk hi
    obtain ⟨k, rfl⟩ : ∃ j, k = j + 1 := ⟨k - 1, by omega⟩
    obtain rfl : i = n / 64 := by omega
    rw [plumbref03_Shl.l0, e1, if_neg (by omega), e2]
    have r := plumbref03_Shl.l1_eq x hx (n / 64) (n % 64) (by omega) hm x.length k 0 (List.replicate (n / 64) 0) 0 (by omega) (by omega) (by omega) (by simp) (Ws.zeros _) (by decide) (two_pow_pos _) (by rw [nv_zeros]; simp [nv])
    rw [show 64 * (n / 64) + n % 64 = n from by omega] at r
    exact r
  | succ d ih =>
    intro k i hd hk hi
    obtain ⟨k, rfl⟩ : ∃ j, k = j + 1 := ⟨k - 1, by omega⟩
    rw [plumbref03_Shl.l0, e1, if_pos (by omega), if_pos (by rw [List.length_replicate]; omega), w64_s i (by omega)]
    have : List.replicate i (0 : Int) ++ [0] = List.replicate (i + 1) 0 := by rw [← List.replicate_succ']
    rw [this]
    exact ih k (i + 1) (by omega) (by omega) (by omega)
theorem plumbref03_Shl.f_eq (x : List Int) (hx : Ws x) (n : Nat) (hn : n ≤ 4503599627370496) (hm : x.length + n / 64 ≤ 17592186044415) (k : Nat) (hk : n / 64 + 4 * (x.length + n / 64) + 20 < k) : plumbref03_Shl.f k x (n : Int) = some (wd (nv x * 2 ^ n).toNat) := by
  rw [plumbref03_Shl.f]
  exact plumbref03_Shl.l0_eq x hx n hn hm (n / 64) k 0 (by omega) hk (by omega)
end Go.Proofs.YtoefabmlkbhmpaaDoor.PA

namespace Go.Proofs.YtoefabmlkbhmpaaDoor.PA
open Go Go.RowKit Go.Proofs.YtoefabmlkbhmpaaDoorW.PrintWords Go.Proofs.YtoefabmlkbhmpaaDoorW.PrintLast Go.Proofs.YtoefabmlkbhmpaaDoorW.PrintMore
set_option linter.unusedVariables false
set_option linter.unusedSimpArgs false
theorem hvm_nonneg {xs : List Int} (h : Hs xs) : 0 ≤ hv xs := by
  induction xs with
  | nil => exact Int.le_refl 0
  | cons x xs ih =>
    have h1 := ih (fun y hy => h y (List.mem_cons_of_mem _ hy))
    have h2 := h x List.mem_cons_self
    rw [hv_cons]; omega
theorem Hs_take {xs : List Int} (h : Hs xs) (n : Nat) : Hs (xs.take n) := fun y hy => h y (List.mem_of_mem_take hy)
theorem Hs_drop {xs : List Int} (h : Hs xs) (n : Nat) : Hs (xs.drop n) := fun y hy => h y (List.mem_of_mem_drop hy)
theorem hvm_split (xs : List Int) {n : Nat} (h : n ≤ xs.length) : hv xs = hv (xs.take n) + 2 ^ (32 * n) * hv (xs.drop n) := by
  conv => lhs; rw [← List.take_append_drop n xs]
  rw [hv_append, List.length_take, Nat.min_eq_left h]
theorem hvm_zero_of_lt {xs : List Int} (h : Hs xs) {t : Nat} (hl : hv xs < 2 ^ (32 * t)) : xs.getD t 0 = 0 := by
  by_cases ht : t < xs.length
  · have e1 := hvm_split xs (n := t) (by omega)
    have h1 := hvm_nonneg (Hs_take h t)
    have h2 := hvm_nonneg (Hs_drop h t)
    have hp := two_pow_pos (32 * t)
    have h3 : hv (xs.drop t) < 1 := by
      apply Classical.byContradiction
      intro hn
      have : 2 ^ (32 * t) * 1 ≤ 2 ^ (32 * t) * hv (xs.drop t) := Int.mul_le_mul_of_nonneg_left (by omega) (Int.le_of_lt hp)
      omega
    rw [List.drop_eq_getElem_cons ht, hv_cons] at h3
    have h4 := hvm_nonneg (Hs_drop h (t + 1))
    have h5 := h.getD t
    rw [List.getD_eq_getElem?_getD, List.getElem?_eq_getElem ht] at h5 ⊢
    simp only [Option.getD_some] at h5 ⊢
    clear e1 hl h1 h2 hp
    omega
  · rw [List.getD_eq_getElem?_getD, List.getElem?_eq_none (by omega)]; rfl
theorem hvm_set {xs : List Int} {n : Nat} (h : n < xs.length) (v : Int) : hv (xs.set n v) = hv xs + (v - xs.getD n 0) * 2 ^ (32 * n) := by
  have e1 := hvm_split xs (n := n) (by omega)
  have e2 := hvm_split (xs.set n v) (n := n) (by rw [List.length_set]; omega)
  rw [e2, e1, List.take_set_of_le (Nat.le_refl n), List.drop_eq_getElem_cons (by rw [List.length_set]; exact h), List.drop_eq_getElem_cons h, hv_cons, hv_cons, List.getElem_set_self, List.getD_eq_getElem?_getD, List.getElem?_eq_getElem h, Option.getD_some, List.drop_set_of_lt (by omega)]
  grind
/-- the j-th half of a number -/
def hlf (v : Int) (j : Nat) : Int := v / 2 ^ (32 * j) % 4294967296
theorem hlf_bd (v : Int) (j : Nat) : 0 ≤ hlf v j ∧ hlf v j < 4294967296 := by unfold hlf; omega
theorem hlf_succ (v : Int) (j : Nat) : v % 2 ^ (32 * (j + 1)) = v % 2 ^ (32 * j) + hlf v j * 2 ^ (32 * j) := by
  unfold hlf
  rw [pow32]
  have hp := two_pow_pos (32 * j)
  generalize (2 : Int) ^ (32 * j) = p at *
  have e1 := Int.mul_ediv_add_emod v p
  have b1 := Int.emod_nonneg v (Int.ne_of_gt hp)
  have b2 := Int.emod_lt_of_pos v hp
  have e2 : v = (v % p + v / p % 4294967296 * p) + 4294967296 * p * (v / p / 4294967296) := by
    have e3 : v / p = 4294967296 * (v / p / 4294967296) + v / p % 4294967296 := by omega
    generalize v / p / 4294967296 = a at *
    generalize v / p % 4294967296 = b at *
    rw [e3] at e1
    rw [← e1]
    grind
  conv => lhs; rw [e2]
  rw [Int.add_mul_emod_self_left]
  apply Int.emod_eq_of_lt
  · have := Int.mul_nonneg (show 0 ≤ v / p % 4294967296 from by omega) (Int.le_of_lt hp)
    omega
  · have : (v / p % 4294967296 + 1) * p ≤ 4294967296 * p := Int.mul_le_mul_of_nonneg_right (by omega) (Int.le_of_lt hp)
    rw [Int.add_mul, Int.one_mul] at this
    omega
theorem nv_at {y : List Int} (hy : Ws y) (i : Nat) : nv y / 2 ^ (64 * i) % 18446744073709551616 = y.getD i 0 := by
  by_cases h : i < y.length
  · have e1 := nv_split (xs := y) (n := i) (by omega)
    have h1 := nv_nonneg (hy.take i)
    have h2 := nv_take_lt hy i
    have hp := two_pow_pos (64 * i)
    have e2 : nv y / 2 ^ (64 * i) = nv (y.drop i) := by
      rw [e1, Int.add_mul_ediv_left _ _ (Int.ne_of_gt hp), Int.ediv_eq_zero_of_lt h1 h2, Int.zero_add]
    have hg := hy.getD i
    rw [e2, List.drop_eq_getElem_cons h, nv_cons]
    rw [List.getD_eq_getElem?_getD, List.getElem?_eq_getElem h, Option.getD_some] at hg ⊢
    clear e1 e2 h1 h2 hp
    omega
  · have h1 := nv_lt hy
    have h2 : (2 : Int) ^ (64 * y.length) ≤ 2 ^ (64 * i) := pow_mono (by omega)
    rw [Int.ediv_eq_zero_of_lt (nv_nonneg hy) (by omega), List.getD_eq_getElem?_getD, List.getElem?_eq_none (by omega)]
    rfl
theorem hlf_code {y : List Int} (hy : Ws y) (j : Nat) (hj : j < 4611686018427387904) : Go.bits .and .u64 (shr .u64 (rd y (wrap64 (Int.tdiv (j : Int) 2))) (wrap64 (32 * Int.tmod (j : Int) 2))) 4294967295 = hlf (nv y) j := by
  have e1 : wrap64 (Int.tdiv (j : Int) 2) = ((j / 2 : Nat) : Int) := by
    rw [Int.tdiv_eq_ediv_of_nonneg (by omega), w64_of (by omega) (by omega)]; omega
  have e2 : wrap64 (32 * Int.tmod (j : Int) 2) = ((32 * (j % 2) : Nat) : Int) := by
    rw [Int.tmod_eq_emod_of_nonneg (by omega), w64_of (by omega) (by omega)]; omega
  have hg := hy.getD (j / 2)
  have e0 := nv_at hy (j / 2)
  unfold hlf
  have ej : (2 : Int) ^ (32 * j) = 2 ^ (64 * (j / 2)) * 2 ^ (32 * (j % 2)) := by rw [← Int.pow_add]; congr 1; omega
  rw [e1, e2, rdn, shr_eq, Int.toNat_natCast, Nat.min_eq_left (by omega), ej, ← Int.ediv_ediv_of_nonneg (Int.le_of_lt (two_pow_pos _))]
  generalize nv y / 2 ^ (64 * (j / 2)) = w at *
  rw [← e0] at hg ⊢
  rcases Nat.mod_two_eq_zero_or_one j with h | h
  · rw [h, show (2 : Int) ^ (32 * 0) = 1 from by decide, and_half (by omega) (by omega)]
    omega
  · rw [h, show (2 : Int) ^ (32 * 1) = 4294967296 from by decide, and_half (by omega) (by omega)]
    omega
theorem mulh_step {a b o c : Int} (ha0 : 0 ≤ a) (ha : a < 4294967296) (hb0 : 0 ≤ b) (hb : b < 4294967296) (ho0 : 0 ≤ o) (ho : o < 4294967296) (hc0 : 0 ≤ c) (hc : c < 4294967296) :
    ∃ s, IntKind.u64.wrap (IntKind.u64.wrap (IntKind.u64.wrap (a * b) + o) + c) = s ∧ s = a * b + o + c ∧ Go.bits .and .u64 s 4294967295 = s % 4294967296 ∧ 0 ≤ s % 4294967296 ∧ s % 4294967296 < 4294967296 ∧ 0 ≤ s / 4294967296 ∧ s / 4294967296 < 4294967296 := by
  have hm := mul_half ha0 ha hb0 hb
  generalize a * b = z at *
  refine ⟨z + o + c, ?_, rfl, and_half (by omega) (by omega), by omega, by omega, by omega, by omega⟩
  rw [u64w_of (x := z) (by omega) (by omega), u64w_of (x := z + o) (by omega) (by omega), u64w_of (by omega) (by omega)]
theorem plumbref03_Mul.l1_eq (x y : List Int) (hy : Ws y) (i m n : Nat) (hn : n = 2 * y.length) (a : Int) (ha0 : 0 ≤ a) (ha : a < 4294967296) (hm : m ≤ 35184372088832) (him : i + n < m) :
    ∀ (d k : Nat) (out : List Int) (c : Int) (j : Nat), d = n - j → j ≤ n → out.length = m → Hs out → 0 ≤ c → c < 4294967296 → out.getD (i + n) 0 = 0 →
    ∃ out' c', Hs out' ∧ out'.length = m ∧ 0 ≤ c' ∧ c' < 4294967296 ∧ out'.getD (i + n) 0 = 0 ∧
      hv out' + c' * 2 ^ (32 * (i + n)) + a * (nv y % 2 ^ (32 * j)) * 2 ^ (32 * i) = hv out + c * 2 ^ (32 * (i + j)) + a * (nv y % 2 ^ (32 * n)) * 2 ^ (32 * i) ∧
      plumbref03_Mul.l1 (k + d + 1) x y out i a c j = plumbref03_Mul.l0 k x y (out'.set (i + n) c') ((i + 1 : Nat) : Int) := by
  have hw0 : wrap64 (2 * (y.length : Int)) = (n : Int) := by rw [w64_of (by omega) (by omega)]; omega
  intro d
  induction d with
  | zero =>
    intro k out c j hd hj hl hw hc0 hc hz
    obtain rfl : j = n := by omega
    refine ⟨out, c, hw, hl, hc0, hc, hz, rfl, ?_⟩
    rw [Nat.add_zero, plumbref03_Mul.l1, hw0, if_neg (by omega), w64_add i j (by omega), w64_succ i (by omega), Int.toNat_natCast, if_pos (by omega), if_pos (by omega), rdn, hz, Int.zero_add, u64w_of hc0 (by omega)]
  | succ d ih =>
    intro k out c j hd hj hl hw hc0 hc hz
    have b1 : i + j < 9223372036854775808 := by omega
    have b2 : j < 9223372036854775807 := by omega
    have q0 : (j : Int) < (n : Int) := by omega
    have q2 : (0 : Int) ≤ ((i + j : Nat) : Int) := by omega
    have q3 : ((i + j : Nat) : Int) < (out.length : Int) := by omega
    have q4 : d = n - (j + 1) := by omega
    have q5 : j + 1 ≤ n := by omega
    have q6 : i + j ≠ i + n := by omega
    have q7 : i + j < out.length := by omega
    have e1 : wrap64 (Int.tdiv (j : Int) 2) = ((j / 2 : Nat) : Int) := by
      rw [Int.tdiv_eq_ediv_of_nonneg (by omega), w64_of (by omega) (by omega)]; omega
    have e2 : wrap64 (32 * Int.tmod (j : Int) 2) = ((32 * (j % 2) : Nat) : Int) := by
      rw [Int.tmod_eq_emod_of_nonneg (by omega), w64_of (by omega) (by omega)]; omega
    have q8 : (0 : Int) ≤ ((j / 2 : Nat) : Int) := by omega
    have q9 : ((j / 2 : Nat) : Int) < (y.length : Int) := by omega
    have q10 : (0 : Int) ≤ ((32 * (j % 2) : Nat) : Int) := by omega
    have ec := hlf_code hy j (by omega)
    have hyj := hlf_bd (nv y) j
    have hoj := hw.getD (i + j)
    obtain ⟨s, es, ev, ea, hv0, hv1, hc0', hc'⟩ := mulh_step ha0 ha hyj.1 hyj.2 hoj.1 hoj.2 hc0 hc
    obtain ⟨out', c2, h1, h2, h3, h4, h5, h6, h7⟩ := ih k (out.set (i + j) (s % 4294967296)) (s / 4294967296) (j + 1) q4 q5 (by rw [List.length_set, hl]) (hw.set _ hv0 hv1) hc0' hc' (by rw [set_getD_ne q6]; exact hz)
    refine ⟨out', c2, h1, h2, h3, h4, h5, ?_, ?_⟩
    · rw [hvm_set q7, hlf_succ] at h6
      clear e1 e2 ec es ea
      rw [show 32 * (i + (j + 1)) = 32 * (i + j + 1) from by omega, pow32, show 32 * (i + j) = 32 * i + 32 * j from by omega, Int.pow_add] at h6
      rw [show 32 * (i + j) = 32 * i + 32 * j from by omega, Int.pow_add]
      generalize nv y % 2 ^ (32 * n) = T at *
      generalize nv y % 2 ^ (32 * j) = U at *
      generalize (2 : Int) ^ (32 * i) = pi at *
      generalize (2 : Int) ^ (32 * j) = pj at *
      generalize out.getD (i + j) 0 = o at *
      generalize hlf (nv y) j = yj at *
      have e9 : s % 4294967296 = a * yj + o + c - s / 4294967296 * 4294967296 := by rw [← ev]; omega
      rw [e9] at h6
      generalize s / 4294967296 = c' at *
      clear h7 ih hyj hoj e9 ev
      grind
    · rw [← h7, show k + (d + 1) + 1 = (k + d + 1) + 1 from by omega, plumbref03_Mul.l1, ec, e1, e2, hw0, w64_add i j b1, w64_succ j b2, if_pos q0, if_pos q8, if_pos q9, if_pos q10, if_pos q2, if_pos q3, rdn, es, ea, Int.toNat_natCast]
theorem wordh_join {lo hi : Int} (h0 : 0 ≤ lo) (h1 : lo < 4294967296) (h2 : 0 ≤ hi) (h3 : hi < 4294967296) : Go.bits .or .u64 lo (IntKind.u64.wrap (hi * 4294967296)) = lo + hi * 4294967296 := by
  rw [u64w_of (by omega) (by omega)]
  exact or_join' 32 (by omega) (by omega) (show hi * 4294967296 % 4294967296 = 0 by omega) h0 (show lo < 4294967296 from h1) (by omega)
theorem plumbref03_Mul.l2_eq (out : List Int) (ho : Hs out) (m : Nat) (hl : out.length = 2 * m + 1) (hm : m ≤ 17592186044415) (hv_ : hv out < 2 ^ (64 * m)) : ∀ (d k : Nat) (acc : List Int) (t : Nat), d = m - t → t ≤ m → d + 2 * m + 3 < k → acc.length = t → Ws acc → nv acc = hv (out.take (2 * t)) →
    plumbref03_Mul.l2 k out acc ((2 * t : Nat) : Int) = some (wd (hv out).toNat) := by
  intro d
  induction d with
  | zero =>
    intro k acc t hd ht hk ha hw he
    obtain ⟨k, rfl⟩ : ∃ j, k = j + 1 := ⟨k - 1, by omega⟩
    obtain rfl : t = m := by omega
    have hz : out.getD (2 * t) 0 = 0 := hvm_zero_of_lt ho (by rw [show 32 * (2 * t) = 64 * t from by omega]; exact hv_)
    have e1 : hv out = nv acc := by
      have e2 := hv_take_succ (xs := out) (i := 2 * t) (by omega)
      rw [List.take_of_length_le (by omega), hz, Int.zero_mul, Int.add_zero] at e2
      rw [e2, he]
    rw [plumbref03_Mul.l2, w64_s _ (by omega), if_neg (by omega), plumbref03_Norm.f_eq _ (by omega) k (by omega), Option.bind_some, e1, wd_nv hw]
  | succ d ih =>
    intro k acc t hd ht hk ha hw he
    obtain ⟨k, rfl⟩ : ∃ j, k = j + 1 := ⟨k - 1, by omega⟩
    have g1 := ho.getD (2 * t)
    have g2 := ho.getD (2 * t + 1)
    have ew2 : wrap64 (((2 * t : Nat) : Int) + 2) = ((2 * (t + 1) : Nat) : Int) := by rw [w64_of (by omega) (by omega)]; omega
    rw [plumbref03_Mul.l2, w64_s _ (by omega), ew2, if_pos (by omega), if_pos (by omega), if_pos (by omega), if_pos (by omega), if_pos (by omega), rdn, rdn, wordh_join g1.1 g1.2 g2.1 g2.2]
    refine ih k _ (t + 1) (by omega) (by omega) (by omega) (by rw [List.length_append, List.length_singleton, ha]) (hw.append (Ws.cons (by omega) (by omega) Ws.nil)) ?_
    rw [nv_append, he, show 2 * (t + 1) = 2 * t + 1 + 1 from by omega, hv_take_succ (by omega), hv_take_succ (by omega), pow32, ha, show 32 * (2 * t) = 64 * t from by omega]
    simp only [nv_cons, nv_nil]
    generalize (2 : Int) ^ (64 * t) = p
    generalize out.getD (2 * t) 0 = a
    generalize out.getD (2 * t + 1) 0 = b
    grind
theorem plumbref03_Mul.l0_eq (x y : List Int) (hx : Ws x) (hy : Ws y) (m : Nat) (hm : m ≤ 17592186044415) (hlm : x.length + y.length = m) : ∀ (d k : Nat) (out : List Int) (i : Nat), d = 2 * x.length - i → d * (2 * y.length + 2) + 3 * m + 10 < k → i ≤ 2 * x.length → out.length = 2 * m + 1 → Hs out → hv out = (nv x % 2 ^ (32 * i)) * nv y →
    plumbref03_Mul.l0 k x y out i = some (wd (nv x * nv y).toNat) := by
  have hw0 : wrap64 (2 * (x.length : Int)) = ((2 * x.length : Nat) : Int) := by rw [w64_of (by omega) (by omega)]; omega
  have hfull : ∀ z : List Int, Ws z → nv z % 2 ^ (32 * (2 * z.length)) = nv z := fun z hz =>
    Int.emod_eq_of_lt (nv_nonneg hz) (by have := nv_lt hz; rw [show 32 * (2 * z.length) = 64 * z.length from by omega]; exact this)
  intro d
  induction d with
  | zero =>
    intro k out i hd hk hi hl hw hv_
    obtain ⟨k, rfl⟩ : ∃ j, k = j + 1 := ⟨k - 1, by omega⟩
    obtain rfl : i = 2 * x.length := by omega
    rw [hfull x hx] at hv_
    rw [plumbref03_Mul.l0, hw0, if_neg (by omega), ← hv_]
    refine plumbref03_Mul.l2_eq out hw m hl (by omega) ?_ m k [] 0 (by omega) (by omega) (by omega) rfl Ws.nil (by simp [hv, nv])
    rw [hv_, ← hlm, Nat.mul_add, Int.pow_add]
    have h1 := nv_lt hx
    have h2 := nv_lt hy
    have h3 := nv_nonneg hx
    have h4 := nv_nonneg hy
    have h5 : nv x * nv y ≤ nv x * 2 ^ (64 * y.length) := Int.mul_le_mul_of_nonneg_left (Int.le_of_lt h2) h3
    have h6 : nv x * 2 ^ (64 * y.length) < 2 ^ (64 * x.length) * 2 ^ (64 * y.length) := Int.mul_lt_mul_of_pos_right h1 (two_pow_pos _)
    exact Int.lt_of_le_of_lt h5 h6
  | succ d ih =>
    intro k out i hd hk hi hl hw hv_
    have hk' : d * (2 * y.length + 2) + (2 * y.length + 2) + 3 * m + 10 < k := by rw [Nat.succ_mul] at hk; exact hk
    obtain ⟨k, rfl⟩ : ∃ j, k = j + 2 * y.length + 1 + 1 := ⟨k - (2 * y.length + 2), by omega⟩
    have hxi := hlf_bd (nv x) i
    have e1 : wrap64 (Int.tdiv (i : Int) 2) = ((i / 2 : Nat) : Int) := by
      rw [Int.tdiv_eq_ediv_of_nonneg (by omega), w64_of (by omega) (by omega)]; omega
    have e2 : wrap64 (32 * Int.tmod (i : Int) 2) = ((32 * (i % 2) : Nat) : Int) := by
      rw [Int.tmod_eq_emod_of_nonneg (by omega), w64_of (by omega) (by omega)]; omega
    have ec := hlf_code hx i (by omega)
    have htop : hv out < 2 ^ (32 * (i + 2 * y.length)) := by
      rw [hv_, Nat.mul_add, Int.pow_add, show 32 * (2 * y.length) = 64 * y.length from by omega]
      have h1 := Int.emod_lt_of_pos (nv x) (two_pow_pos (32 * i))
      have h2 := nv_lt hy
      have h3 := Int.emod_nonneg (nv x) (Int.ne_of_gt (two_pow_pos (32 * i)))
      have h5 : nv x % 2 ^ (32 * i) * nv y ≤ nv x % 2 ^ (32 * i) * 2 ^ (64 * y.length) := Int.mul_le_mul_of_nonneg_left (Int.le_of_lt h2) h3
      have h6 : nv x % 2 ^ (32 * i) * 2 ^ (64 * y.length) < 2 ^ (32 * i) * 2 ^ (64 * y.length) := Int.mul_lt_mul_of_pos_right h1 (two_pow_pos _)
      exact Int.lt_of_le_of_lt h5 h6
    obtain ⟨out', c', h1, h2, h3, h4, h5, h6, h7⟩ := plumbref03_Mul.l1_eq x y hy i (2 * m + 1) (2 * y.length) rfl (hlf (nv x) i) hxi.1 hxi.2 (by omega) (by omega) (2 * y.length) k out 0 0 (by omega) (by omega) hl hw (by omega) (by omega) (hvm_zero_of_lt hw htop)
    have h7' : plumbref03_Mul.l1 (k + 2 * y.length + 1) x y out i (hlf (nv x) i) 0 0 = plumbref03_Mul.l0 k x y (out'.set (i + 2 * y.length) c') ((i + 1 : Nat) : Int) := h7
    rw [plumbref03_Mul.l0, ec, e1, e2, hw0, if_pos (by omega), if_pos (by omega), if_pos (by omega), if_pos (by omega), h7']
    refine ih k _ (i + 1) (by omega) (by omega) (by omega) (by rw [List.length_set, h2]) (h1.set _ h3 h4) ?_
    rw [hvm_set (by omega), h5, hlf_succ, Int.add_mul, ← hv_]
    rw [hfull y hy] at h6
    simp only [Nat.mul_zero, Int.pow_zero, Int.emod_one, Int.mul_zero, Int.zero_mul, Int.add_zero] at h6
    generalize (2 : Int) ^ (32 * i) = pi at *
    generalize (2 : Int) ^ (32 * (i + 2 * y.length)) = pl at *
    generalize hlf (nv x) i = xi at *
    clear h7 h7' e1 e2 ec ih hk hk'
    grind
theorem plumbref03_Mul.f_eq (x y : List Int) (hx : Ws x) (hy : Ws y) (hm : x.length + y.length ≤ 17592186044415) (k : Nat) (hk : 2 * x.length * (2 * y.length + 2) + 3 * (x.length + y.length) + 10 < k) : plumbref03_Mul.f k x y = some (wd (nv x * nv y).toNat) := by
  have e1 : wrap64 (wrap64 (2 * wrap64 ((x.length : Int) + (y.length : Int))) + 1) = ((2 * (x.length + y.length) + 1 : Nat) : Int) := by
    rw [w64_of (x := (x.length : Int) + (y.length : Int)) (by omega) (by omega), w64_of (x := 2 * _) (by omega) (by omega), w64_of (by omega) (by omega)]; omega
  rw [plumbref03_Mul.f, e1, if_pos (by omega), Int.toNat_natCast, if_pos (by omega)]
  refine plumbref03_Mul.l0_eq x y hx hy (x.length + y.length) hm rfl (2 * x.length) k _ 0 (by omega) hk (by omega) (by rw [List.length_replicate]) ?_ ?_
  · intro z hz
    rw [List.eq_of_mem_replicate hz]; omega
  · have : hv (List.replicate (2 * (x.length + y.length) + 1) 0) = 0 := by
      generalize 2 * (x.length + y.length) + 1 = n
      induction n with
      | zero => rfl
      | succ n ih => rw [List.replicate_succ, hv_cons, ih]; rfl
    rw [this]; simp
end Go.Proofs.YtoefabmlkbhmpaaDoor.PA

namespace Go.Proofs.YtoefabmlkbhmpaaDoor.PA
open Go Go.RowKit Go.Proofs.YtoefabmlkbhmpaaDoorW.PrintWords Go.Proofs.YtoefabmlkbhmpaaDoorW.PrintLast Go.Proofs.YtoefabmlkbhmpaaDoorW.PrintMore
set_option linter.unusedVariables false
set_option linter.unusedSimpArgs false
theorem cmpZ_scale (a b : Int) {t : Int} (h : 0 < t) : cmpZ (a * t) (b * t) = cmpZ a b := by
  unfold cmpZ
  by_cases h1 : a < b
  · rw [if_pos h1, if_pos (Int.mul_lt_mul_of_pos_right h1 h)]
  · have n1 : ¬ a * t < b * t := fun z => h1 (Int.lt_of_mul_lt_mul_right z (Int.le_of_lt h))
    rw [if_neg h1, if_neg n1]
    by_cases h2 : a > b
    · rw [if_pos h2, if_pos (Int.mul_lt_mul_of_pos_right h2 h)]
    · have n2 : ¬ a * t > b * t := fun z => h2 (Int.lt_of_mul_lt_mul_right z (Int.le_of_lt h))
      rw [if_neg h2, if_neg n2]
/-- two ways to lay out one exponent -/
theorem cmpZ_shift (A C : Int) {p q p' q' : Nat} (h : (p : Int) - q = (p' : Int) - q') : cmpZ (A * 2 ^ p) (C * 2 ^ q) = cmpZ (A * 2 ^ p') (C * 2 ^ q') := by
  have e1 : A * 2 ^ p * 2 ^ p' = A * 2 ^ p' * 2 ^ p := by rw [Int.mul_assoc, Int.mul_assoc, Int.mul_comm (2 ^ p)]
  have e2 : C * 2 ^ q * 2 ^ p' = C * 2 ^ q' * 2 ^ p := by
    rw [Int.mul_assoc, Int.mul_assoc, ← Int.pow_add, ← Int.pow_add]; congr 2; omega
  rw [← cmpZ_scale _ _ (two_pow_pos p'), e1, e2, cmpZ_scale _ _ (two_pow_pos p)]
def pM (d : Nat) : Nat := if d < 4503599627370496 then d else 4503599627370496 + d % 4503599627370496
def pS (d : Nat) : Nat := d / 4503599627370496 - 1
theorem pV_parts (d : Nat) : pV d = pM d * 2 ^ pS d := by
  unfold pV pM pS
  by_cases h : d < 4503599627370496
  · rw [if_pos h, if_pos h, Nat.div_eq_of_lt h]; simp
  · rw [if_neg h, if_neg h]
theorem pU_parts (d : Nat) : pU d = 2 ^ pS d := rfl
theorem pM_lt (d : Nat) : pM d < 9007199254740992 := by unfold pM; split <;> omega
theorem plumbref07_parts.f_eq (d : Nat) (hd : d < 18446744073709551616) : plumbref07_parts.f (d : Int) = some ((pM d : Int), (pS d : Int) - 1074) := by
  have ea : Go.bits .and .u64 (d : Int) 4503599627370495 = ((d % 4503599627370496 : Nat) : Int) := by
    rw [show Go.bits .and .u64 (d : Int) 4503599627370495 = (d : Int) % 2 ^ 52 from and_mask (by omega) (by omega) 52 (by omega) _ rfl, show (2 : Int) ^ 52 = 4503599627370496 from by decide]; omega
  have ed : wrap64 ((d : Int) / 4503599627370496) = ((d / 4503599627370496 : Nat) : Int) := by rw [w64_of (by omega) (by omega)]; omega
  unfold plumbref07_parts.f pM pS
  rw [ea, ed]
  by_cases h : d < 4503599627370496
  · rw [if_pos (by omega), if_pos h, Nat.mod_eq_of_lt h, Nat.div_eq_of_lt h]; rfl
  · have eo : Go.bits .or .u64 ((d % 4503599627370496 : Nat) : Int) 4503599627370496 = ((4503599627370496 + d % 4503599627370496 : Nat) : Int) := by
      rw [or_join' 52 (x := 4503599627370496) (by decide) (by decide) (by decide) (by omega) (by rw [show (2 : Int) ^ 52 = 4503599627370496 from by decide]; omega) (by omega)]; omega
    have ew : wrap64 (((d / 4503599627370496 : Nat) : Int) - 1075) = ((d / 4503599627370496 - 1 : Nat) : Int) - 1074 := by rw [w64_of (by omega) (by omega)]; omega
    rw [if_neg (by omega), if_neg h, eo, ew]
/-- told by comparing, where there is a little more -/
def agn (more : Bool) (c : Int) : Int := if c = 0 then (if more then 1 else c) else c
theorem wd_len {n : Int} {t : Nat} (h0 : 0 ≤ n) (h : n < 2 ^ (64 * t)) : (wd n.toNat).length ≤ t := by
  have hw := wd_ws n.toNat
  have h1 := (strip_len_le hw t).2 (by rw [nv_wd, Int.toNat_of_nonneg h0]; exact h)
  rw [strip_wd] at h1
  exact h1
theorem nv_wdT {n : Int} (h0 : 0 ≤ n) : nv (wd n.toNat) = n := by rw [nv_wd, Int.toNat_of_nonneg h0]
theorem plumbref07_Q_against.f_eq (A B : List Int) (hA : Ws A) (hB : Ws B) (exp : Int) (more : Bool) (m : Nat) (e : Int) (N : Nat) (hAN : A.length ≤ N) (hBN : B.length + 2 ≤ N) (hN : N ≤ 1000000000000) (he1 : exp - e ≤ 64 * N) (he2 : e - exp ≤ 64 * N) (hm : m < 18446744073709551616) (k : Nat) (hk : 100 * N + 1000 < k) :
    plumbref07_Q_against.f k A B exp more (m : Int) e = some (agn more (cmpZ (nv A * 2 ^ (exp - e).toNat) ((m : Int) * nv B * 2 ^ (e - exp).toNat))) := by
  have hm0 : (0 : Int) ≤ m := Int.natCast_nonneg _
  have b1 : (wd (m : Int).toNat).length ≤ 1 := wd_len hm0 (by rw [show (2 : Int) ^ (64 * 1) = 18446744073709551616 from by decide]; omega)
  have hB0 := nv_nonneg hB
  have hmB : (0 : Int) ≤ (m : Int) * nv B := Int.mul_nonneg hm0 hB0
  have b2 : (wd ((m : Int) * nv B).toNat).length ≤ B.length + 1 := by
    refine wd_len hmB ?_
    rw [pow64]
    have h1 := nv_lt hB
    have h3 : (m : Int) * nv B ≤ 18446744073709551616 * nv B := Int.mul_le_mul_of_nonneg_right (by omega) hB0
    have h4 : 18446744073709551616 * nv B < 18446744073709551616 * 2 ^ (64 * B.length) := Int.mul_lt_mul_of_pos_left h1 (by decide)
    exact Int.lt_of_le_of_lt h3 h4
  have hW : plumbref03_Word.f k (m : Int) = some (wd (m : Int).toNat) := plumbref03_Word.f_eq hm0 (by omega) k (by omega)
  have fm : 2 * (wd (m : Int).toNat).length * (2 * B.length + 2) ≤ 2 * (2 * B.length + 2) := Nat.mul_le_mul_right _ (by omega)
  have hM : plumbref03_Mul.f k (wd (m : Int).toNat) B = some (wd ((m : Int) * nv B).toNat) := by
    have r := plumbref03_Mul.f_eq (wd (m : Int).toNat) B (wd_ws _) hB (by omega) k (by omega)
    rw [nv_wdT hm0] at r
    exact r
  rw [plumbref07_Q_against.f, hW, Option.bind_some, hM, Option.bind_some, w64_of (x := exp - e) (by omega) (by omega)]
  by_cases hpos : exp - e > 0
  · obtain ⟨n, hn⟩ : ∃ n : Nat, exp - e = (n : Int) := ⟨(exp - e).toNat, by omega⟩
    have hS := plumbref03_Shl.f_eq A hA n (by omega) (by omega) k (by omega)
    have hAn : (0 : Int) ≤ nv A * 2 ^ n := Int.mul_nonneg (nv_nonneg hA) (Int.le_of_lt (two_pow_pos n))
    have b3 : (wd (nv A * 2 ^ n).toNat).length ≤ A.length + n / 64 + 1 := by
      refine wd_len hAn ?_
      have h1 := nv_lt hA
      have h3 : nv A * 2 ^ n < 2 ^ (64 * A.length) * 2 ^ n := Int.mul_lt_mul_of_pos_right h1 (two_pow_pos n)
      rw [← Int.pow_add] at h3
      exact Int.lt_of_lt_of_le h3 (pow_mono (by omega))
    have hC := plumbref03_Cmp.f_eq _ _ (wd_ws (nv A * 2 ^ n).toNat) (wd_ws ((m : Int) * nv B).toNat) (by omega) (by omega) k (by omega)
    rw [nv_wdT hAn, nv_wdT hmB] at hC
    have e0 : (e - exp).toNat = 0 := by omega
    rw [if_pos hpos, hn, hS, Option.bind_some, hC, Option.bind_some, e0, Int.pow_zero, Int.mul_one, Int.toNat_natCast]
    unfold agn
    split <;> (try split) <;> rfl
  · obtain ⟨n, hn⟩ : ∃ n : Nat, e - exp = (n : Int) := ⟨(e - exp).toNat, by omega⟩
    have hw : wrap64 (-(exp - e)) = (n : Int) := by rw [w64_of (by omega) (by omega)]; omega
    have hS := plumbref03_Shl.f_eq (wd ((m : Int) * nv B).toNat) (wd_ws _) n (by omega) (by omega) k (by omega)
    rw [nv_wdT hmB] at hS
    have hBn : (0 : Int) ≤ (m : Int) * nv B * 2 ^ n := Int.mul_nonneg hmB (Int.le_of_lt (two_pow_pos n))
    have b3 : (wd ((m : Int) * nv B * 2 ^ n).toNat).length ≤ B.length + 1 + n / 64 + 1 := by
      refine wd_len hBn ?_
      have h1 := nv_lt (wd_ws ((m : Int) * nv B).toNat)
      rw [nv_wdT hmB] at h1
      have h3 : (m : Int) * nv B * 2 ^ n < 2 ^ (64 * (wd ((m : Int) * nv B).toNat).length) * 2 ^ n := Int.mul_lt_mul_of_pos_right h1 (two_pow_pos n)
      rw [← Int.pow_add] at h3
      exact Int.lt_of_lt_of_le h3 (pow_mono (by omega))
    have hC := plumbref03_Cmp.f_eq _ _ hA (wd_ws ((m : Int) * nv B * 2 ^ n).toNat) (by omega) (by omega) k (by omega)
    rw [nv_wdT hBn] at hC
    have e0 : (exp - e).toNat = 0 := by omega
    rw [if_neg hpos, hw, hS, Option.bind_some, hC, Option.bind_some, e0, Int.pow_zero, Int.mul_one, hn, Int.toNat_natCast]
    unfold agn
    split <;> (try split) <;> rfl
end Go.Proofs.YtoefabmlkbhmpaaDoor.PA

namespace Go.Proofs.YtoefabmlkbhmpaaDoor.PA
open Go Go.RowKit Go.Proofs.YtoefabmlkbhmpaaDoorW.PrintWords Go.Proofs.YtoefabmlkbhmpaaDoorW.PrintLast Go.Proofs.YtoefabmlkbhmpaaDoorW.PrintMore
set_option linter.unusedVariables false
set_option linter.unusedSimpArgs false
/-- the number of units, above -/
def qP (a : Nat) (exp : Int) : Nat := a * 2 ^ (exp + 1074).toNat
/-- and below -/
def qQ (b : Nat) (exp : Int) : Nat := b * 2 ^ (-(exp + 1074)).toNat
theorem qQ_pos {b : Nat} (h : 0 < b) (exp : Int) : 0 < qQ b exp := Nat.mul_pos h (Nat.pow_pos (by decide))
/-- what a Q holds, and that all fits -/
structure QOk (A B : List Int) (exp : Int) (a b N k : Nat) : Prop where
  hA : Ws A
  hB : Ws B
  ea : nv A = (a : Int)
  eb : nv B = (b : Int)
  hb : 0 < b
  hAN : A.length ≤ N
  hBN : B.length + 2 ≤ N
  hN : N ≤ 1000000000000
  he1 : exp + 1075 ≤ 64 * N
  he2 : 971 - exp ≤ 64 * N
  hk : 100 * N + 1000 < k
theorem pS_le {d : Nat} (h : d ≤ 9218868437227405311) : pS d ≤ 2045 := by unfold pS; omega
theorem ag_at {A B : List Int} {exp : Int} {a b N k : Nat} (o : QOk A B exp a b N k) (more : Bool) {d : Nat} (hd : d ≤ 9218868437227405311) :
    plumbref07_Q_against.f k A B exp more (pM d : Int) ((pS d : Int) - 1074) = some (agn more (cmpZ (qP a exp : Int) ((pV d * qQ b exp : Nat) : Int))) := by
  have h1 := pS_le hd
  have h2 := pM_lt d
  obtain ⟨hA, hB, ea, eb, hb, hAN, hBN, hN, he1, he2, hk⟩ := o
  rw [plumbref07_Q_against.f_eq A B hA hB exp more (pM d) ((pS d : Int) - 1074) N hAN hBN hN (by omega) (by omega) (by omega) k hk, ea, eb]
  congr 2
  rw [cmpZ_shift (p' := (exp + 1074).toNat) (q' := pS d + (-(exp + 1074)).toNat) _ _ (by omega)]
  have eA : (a : Int) * 2 ^ (exp + 1074).toNat = (qP a exp : Int) := by unfold qP; rw [p2cast, ← Int.natCast_mul]
  have eN : pM d * b * 2 ^ (pS d + (-(exp + 1074)).toNat) = pV d * qQ b exp := by
    unfold qQ
    rw [pV_parts, Nat.pow_add]
    generalize 2 ^ pS d = x
    generalize 2 ^ (-(exp + 1074)).toNat = y
    grind
  have eC : (pM d : Int) * (b : Int) * 2 ^ (pS d + (-(exp + 1074)).toNat) = ((pV d * qQ b exp : Nat) : Int) := by rw [← eN, p2cast, ← Int.natCast_mul, ← Int.natCast_mul]
  rw [eA, eC]
theorem ag_half {A B : List Int} {exp : Int} {a b N k : Nat} (o : QOk A B exp a b N k) (more : Bool) {d : Nat} (hd : d ≤ 9218868437227405311) :
    plumbref07_Q_against.f k A B exp more ((2 * pM d + 1 : Nat) : Int) ((pS d : Int) - 1074 - 1) = some (agn more (cmpZ ((2 * qP a exp : Nat) : Int) (((2 * pV d + pU d) * qQ b exp : Nat) : Int))) := by
  have h1 := pS_le hd
  have h2 := pM_lt d
  obtain ⟨hA, hB, ea, eb, hb, hAN, hBN, hN, he1, he2, hk⟩ := o
  rw [plumbref07_Q_against.f_eq A B hA hB exp more (2 * pM d + 1) ((pS d : Int) - 1074 - 1) N hAN hBN hN (by omega) (by omega) (by omega) k hk, ea, eb]
  congr 2
  rw [cmpZ_shift (p' := (exp + 1074).toNat + 1) (q' := pS d + (-(exp + 1074)).toNat) _ _ (by omega)]
  have e2 : a * 2 ^ ((exp + 1074).toNat + 1) = 2 * qP a exp := by unfold qP; rw [Nat.pow_succ]; generalize 2 ^ (exp + 1074).toNat = x; grind
  have eA : (a : Int) * 2 ^ ((exp + 1074).toNat + 1) = ((2 * qP a exp : Nat) : Int) := by rw [← e2, p2cast, ← Int.natCast_mul]
  have eN : (2 * pM d + 1) * b * 2 ^ (pS d + (-(exp + 1074)).toNat) = (2 * pV d + pU d) * qQ b exp := by
    unfold qQ
    rw [pV_parts, pU_parts, Nat.pow_add]
    generalize 2 ^ pS d = x
    generalize 2 ^ (-(exp + 1074)).toNat = y
    grind
  have eC : ((2 * pM d + 1 : Nat) : Int) * (b : Int) * 2 ^ (pS d + (-(exp + 1074)).toNat) = (((2 * pV d + pU d) * qQ b exp : Nat) : Int) := by rw [← eN, p2cast, ← Int.natCast_mul, ← Int.natCast_mul]
  rw [eA, eC]
theorem agn_ge (more : Bool) (x y : Nat) : agn more (cmpZ (x : Int) (y : Int)) ≥ 0 ↔ y ≤ x := by
  unfold agn cmpZ
  by_cases h1 : (x : Int) < y
  · simp [h1]; omega
  · by_cases h2 : (x : Int) > y
    · simp [h1, h2]; omega
    · simp [h1, h2]; cases more <;> simp <;> omega
theorem agn_zero (more : Bool) (x y : Nat) : agn more (cmpZ (x : Int) (y : Int)) = 0 ↔ (x = y ∧ more = false) := by
  unfold agn cmpZ
  by_cases h1 : (x : Int) < y
  · simp [h1]; omega
  · by_cases h2 : (x : Int) > y
    · simp [h1, h2]; omega
    · simp [h1, h2]; cases more <;> simp <;> omega
theorem agn_pos (more : Bool) (x y : Nat) : agn more (cmpZ (x : Int) (y : Int)) > 0 ↔ (y < x ∨ (x = y ∧ more = true)) := by
  unfold agn cmpZ
  by_cases h1 : (x : Int) < y
  · simp [h1]; omega
  · by_cases h2 : (x : Int) > y
    · simp [h1, h2]; omega
    · simp [h1, h2]; cases more <;> simp <;> omega
theorem mid_eq (lo hi : Nat) (h : lo < hi) (hh : hi ≤ 9218868437227405311) : IntKind.u64.wrap ((lo : Int) + IntKind.u64.wrap (Int.tdiv (IntKind.u64.wrap (IntKind.u64.wrap ((hi : Int) - (lo : Int)) + 1)) 2)) = ((lo + (hi - lo + 1) / 2 : Nat) : Int) := by
  rw [u64w_of (x := (hi : Int) - lo) (by omega) (by omega), u64w_of (x := (hi : Int) - lo + 1) (by omega) (by omega), Int.tdiv_eq_ediv_of_nonneg (by omega), u64w_of (x := ((hi : Int) - lo + 1) / 2) (by omega) (by omega), u64w_of (by omega) (by omega)]
  omega
theorem plumbref07_Q_below.l0_eq {A B : List Int} {exp : Int} {a b N K : Nat} (o : ∀ k, K ≤ k → QOk A B exp a b N k) (more : Bool) : ∀ (n k lo hi : Nat), hi - lo < 2 ^ n → n + K + 1 < k → lo ≤ hi → hi ≤ 9218868437227405311 → pV lo * qQ b exp ≤ qP a exp → (hi = 9218868437227405311 ∨ qP a exp < pV (hi + 1) * qQ b exp) →
    ∃ d : Nat, plumbref07_Q_below.l0 k (lo : Int) (hi : Int) A B exp more = some (d : Int) ∧ d ≤ 9218868437227405311 ∧ pV d * qQ b exp ≤ qP a exp ∧ (d = 9218868437227405311 ∨ qP a exp < pV (d + 1) * qQ b exp) := by
  intro n
  induction n with
  | zero =>
    intro k lo hi hd hk hle hh h1 h2
    obtain ⟨k, rfl⟩ : ∃ j, k = j + 1 := ⟨k - 1, by omega⟩
    rw [Nat.pow_zero] at hd
    obtain rfl : lo = hi := by omega
    exact ⟨lo, by rw [plumbref07_Q_below.l0, if_neg (by omega)], hh, h1, h2⟩
  | succ n ih =>
    intro k lo hi hd hk hle hh h1 h2
    obtain ⟨k, rfl⟩ : ∃ j, k = j + 1 := ⟨k - 1, by omega⟩
    rw [Nat.pow_succ] at hd
    by_cases hlt : lo < hi
    · have em := mid_eq lo hi hlt hh
      have hm : lo + (hi - lo + 1) / 2 ≤ 9218868437227405311 := by omega
      rw [plumbref07_Q_below.l0, if_pos (by omega), em, plumbref07_parts.f_eq _ (by omega), Option.bind_some, ag_at (o k (by omega)) more hm, Option.bind_some]
      by_cases hc : pV (lo + (hi - lo + 1) / 2) * qQ b exp ≤ qP a exp
      · rw [if_pos ((agn_ge more _ _).2 hc)]
        exact ih k (lo + (hi - lo + 1) / 2) hi (by omega) (by omega) (by omega) hh hc h2
      · have ew : IntKind.u64.wrap (((lo + (hi - lo + 1) / 2 : Nat) : Int) - 1) = ((lo + (hi - lo + 1) / 2 - 1 : Nat) : Int) := by rw [u64w_of (by omega) (by omega)]; omega
        rw [if_neg (fun h => hc ((agn_ge more _ _).1 h)), ew]
        refine ih k lo (lo + (hi - lo + 1) / 2 - 1) (by omega) (by omega) (by omega) (by omega) h1 (.inr ?_)
        rw [show lo + (hi - lo + 1) / 2 - 1 + 1 = lo + (hi - lo + 1) / 2 from by omega]
        exact Nat.lt_of_not_le hc
    · obtain rfl : lo = hi := by omega
      exact ⟨lo, by rw [plumbref07_Q_below.l0, if_neg (by omega)], hh, h1, h2⟩
theorem outP_big (mode : Int) (neg : Bool) {d : Nat} (h : 9218868437227405311 < d) : outP mode neg d = if staysB mode neg then (sgn neg + 9218868437227405311, 0) else (0, 70) := by
  unfold outP; rw [if_pos h]
theorem RS_big (mode : Int) (neg : Bool) {d : Nat} (h : 9218868437227405311 < d) (t : Nat) : RS mode neg d t = if staysB mode neg then (sgn neg + 9218868437227405311, 0) else (0, 70) := by
  unfold RS
  split <;> exact outP_big mode neg (by omega)
theorem ref_j0 (neg : Bool) (d : Nat) (hd : d ≤ 9218868437227405311) (up : Bool) (k : Nat) : plumbref07_Q_round.j0 (k + 1) neg (d : Int) up = some (if up then (if d = 9218868437227405311 then (0, 70) else (sgn neg + ((d + 1 : Nat) : Int), 0)) else (sgn neg + (d : Int), 0)) := by
  have ho : ∀ x : Nat, x < 9223372036854775808 → Go.bits .or .u64 (x : Int) 9223372036854775808 = sgn true + (x : Int) := by
    intro x hx
    rw [or_comm64 _ _ (by omega) (by omega) (by decide) (by decide)]
    exact or_sgn true (by omega) (by omega)
  have e0 : sgn false = 0 := rfl
  have ew : IntKind.u64.wrap ((d : Int) + 1) = ((d + 1 : Nat) : Int) := by rw [u64w_of (by omega) (by omega)]; omega
  rw [plumbref07_Q_round.j0]
  cases up <;> cases neg
  · show some ((d : Int), (0 : Int)) = some (sgn false + (d : Int), 0)
    rw [e0, Int.zero_add]
  · show some (Go.bits .or .u64 (d : Int) 9223372036854775808, (0 : Int)) = some (sgn true + (d : Int), 0)
    rw [ho d (by omega)]
  · show (if (d : Int) = 9218868437227405311 then some ((0 : Int), (70 : Int)) else some (IntKind.u64.wrap ((d : Int) + 1), 0)) = some (if d = 9218868437227405311 then (0, 70) else (sgn false + ((d + 1 : Nat) : Int), 0))
    by_cases hm : d = 9218868437227405311
    · rw [if_pos (by omega), if_pos hm]
    · rw [if_neg (by omega), if_neg hm, ew, e0, Int.zero_add]
  · show (if (d : Int) = 9218868437227405311 then some ((0 : Int), (70 : Int)) else some (Go.bits .or .u64 (IntKind.u64.wrap ((d : Int) + 1)) 9223372036854775808, 0)) = some (if d = 9218868437227405311 then (0, 70) else (sgn true + ((d + 1 : Nat) : Int), 0))
    by_cases hm : d = 9218868437227405311
    · rw [if_pos (by omega), if_pos hm]
    · rw [if_neg (by omega), if_neg hm, ew, ho (d + 1) (by omega)]
theorem plumbref07_Q_up.f_eq {A B : List Int} {exp : Int} {a b N k : Nat} (o : QOk A B exp a b N k) (more neg : Bool) {d : Nat} (hd : d ≤ 9218868437227405311) {mode : Int} (h0 : 0 ≤ mode) (h4 : mode ≤ 4) :
    plumbref07_Q_up.f k A B exp more neg (d : Int) mode = some (if mode = 1 then false else if mode = 2 then true else if mode = 3 then !neg else if mode = 4 then neg else
      (if (2 * pV d + pU d) * qQ b exp < 2 * qP a exp then true else if 2 * qP a exp = (2 * pV d + pU d) * qQ b exp then (if more then true else d % 2 == 1) else false)) := by
  have h1 := pS_le hd
  have h2 := pM_lt d
  have eo : ((Go.bits .and .u64 (d : Int) 1) == 1) = (d % 2 == 1) := by
    rw [show Go.bits .and .u64 (d : Int) 1 = (d : Int) % 2 from and_mask (by omega) (by omega) 1 (by omega) _ rfl, Bool.eq_iff_iff, beq_iff_eq, beq_iff_eq]
    omega
  unfold plumbref07_Q_up.f
  by_cases c1 : mode = 1
  · rw [if_pos c1, if_pos c1]
  rw [if_neg c1, if_neg c1]
  by_cases c2 : mode = 2
  · rw [if_pos c2, if_pos c2]
  rw [if_neg c2, if_neg c2]
  by_cases c3 : mode = 3
  · rw [if_pos c3, if_pos c3]
  rw [if_neg c3, if_neg c3]
  by_cases c4 : mode = 4
  · rw [if_pos c4, if_pos c4]
  have ew1 : IntKind.u64.wrap (IntKind.u64.wrap (2 * (pM d : Int)) + 1) = ((2 * pM d + 1 : Nat) : Int) := by
    rw [u64w_of (x := 2 * (pM d : Int)) (by omega) (by omega), u64w_of (by omega) (by omega)]; omega
  have ew2 : wrap64 ((pS d : Int) - 1074 - 1) = (pS d : Int) - 1074 - 1 := w64_of (by omega) (by omega)
  rw [if_neg c4, if_neg c4, plumbref07_parts.f_eq d (by omega), Option.bind_some, ew1, ew2, ag_half o more hd, Option.bind_some, eo]
  generalize 2 * qP a exp = x
  generalize (2 * pV d + pU d) * qQ b exp = y
  by_cases g1 : agn more (cmpZ (x : Int) (y : Int)) > 0
  · rw [if_pos g1]
    rcases (agn_pos more x y).1 g1 with h | ⟨h, hm⟩
    · rw [if_pos h]
    · rw [if_neg (by omega), if_pos h, hm, if_pos rfl]
  · rw [if_neg g1]
    have n1 : ¬ y < x := fun h => g1 ((agn_pos more x y).2 (.inl h))
    rw [if_neg n1]
    by_cases g2 : agn more (cmpZ (x : Int) (y : Int)) = 0
    · obtain ⟨h, hm⟩ := (agn_zero more x y).1 g2
      rw [if_pos g2, if_pos h, hm, if_neg (by decide)]
    · rw [if_neg g2]
      have n2 : ¬ x = y := by
        intro h
        cases hm : more
        · exact g2 ((agn_zero more x y).2 ⟨h, hm⟩)
        · exact g1 ((agn_pos more x y).2 (.inr ⟨h, hm⟩))
      rw [if_neg n2]
theorem tl_zero_iff {P Q : Nat} {more : Bool} {d : Nat} : tl P Q more d = 0 ↔ (P = pV d * Q ∧ more = false) := by
  unfold tl
  by_cases h : P = pV d * Q
  · rw [if_pos h]; cases more <;> simp [h]
  · rw [if_neg h]
    constructor
    · intro z
      split at z
      · cases z
      · split at z
        · split at z <;> cases z
        · cases z
    · intro z; exact absurd z.1 h
/-- going up is told by the tail -/
theorem up_tl {P Q : Nat} (hQ : 0 < Q) {more neg : Bool} {d : Nat} (hd : ¬ (P = pV d * Q ∧ more = false)) {mode : Int} (h0 : 0 ≤ mode) (h4 : mode ≤ 4) :
    (if mode = 1 then false else if mode = 2 then true else if mode = 3 then !neg else if mode = 4 then neg else
      (if (2 * pV d + pU d) * Q < 2 * P then true else if 2 * P = (2 * pV d + pU d) * Q then (if more then true else d % 2 == 1) else false)) = upB mode neg (d % 2 == 1) (tl P Q more d) := by
  have ht : tl P Q more d ≠ 0 := fun h => hd (tl_zero_iff.1 h)
  have hm : mode = 0 ∨ mode = 1 ∨ mode = 2 ∨ mode = 3 ∨ mode = 4 := by omega
  have hb : (tl P Q more d != 0) = true := by simpa using ht
  unfold upB
  rcases hm with h | h | h | h | h <;> subst h
  · rw [if_neg (by decide), if_neg (by decide), if_neg (by decide), if_neg (by decide), if_pos rfl]
    have hU : 0 < pU d * Q := Nat.mul_pos (pU_pos d) hQ
    have eh : (2 * pV d + pU d) * Q = 2 * (pV d * Q) + pU d * Q := by rw [Nat.add_mul, Nat.mul_assoc]
    unfold tl
    rw [eh]
    generalize pV d * Q = v at *
    generalize pU d * Q = u at *
    by_cases g0 : P = v
    · have hmore : more = true := by cases more <;> simp_all
      rw [if_neg (by omega), if_neg (by omega), if_pos g0, hmore]
      rfl
    · rw [if_neg g0]
      by_cases g1 : 2 * P < 2 * v + u
      · rw [if_neg (by omega), if_neg (by omega), if_pos g1]; rfl
      · rw [if_neg g1]
        by_cases g2 : 2 * P = 2 * v + u
        · rw [if_neg (by omega), if_pos g2, if_pos g2]
          cases more <;> simp
        · rw [if_pos (by omega), if_neg g2]; rfl
  · rfl
  · rw [if_neg (by decide), if_pos rfl, if_neg (by decide), if_neg (by decide), if_pos rfl, hb]
  · rw [if_neg (by decide), if_neg (by decide), if_pos rfl, if_neg (by decide), if_neg (by decide), if_neg (by decide), if_pos rfl, hb]; simp
  · rw [if_neg (by decide), if_neg (by decide), if_neg (by decide), if_pos rfl, if_neg (by decide), if_neg (by decide), if_neg (by decide), if_neg (by decide), hb]; simp
theorem upB_zero (mode : Int) (neg odd : Bool) : upB mode neg odd 0 = false := by
  unfold upB
  split <;> (try rfl)
  split <;> (try rfl)
  split <;> (try rfl)
  split <;> simp
theorem plumbref07_Q_round.f_eq {A B : List Int} {exp : Int} {a b N K : Nat} (o : ∀ k, K ≤ k → QOk A B exp a b N k) (more neg : Bool) {mode : Int} (h0 : 0 ≤ mode) (h4 : mode ≤ 4) {d : Nat} (hr : Rd (qP a exp) (qQ b exp) d) (k : Nat) (hk : K + 70 < k) :
    plumbref07_Q_round.f k A B exp more neg mode = some (RS mode neg d (tl (qP a exp) (qQ b exp) more d)) := by
  obtain ⟨k, rfl⟩ : ∃ j, k = j + 1 := ⟨k - 1, by omega⟩
  have hQ := qQ_pos (o K (Nat.le_refl _)).hb exp
  obtain ⟨d0, e1, hd0, hlo, hhi⟩ := plumbref07_Q_below.l0_eq o more 63 (k + 1) 0 9218868437227405311 (by decide) (by omega) (by decide) (by decide) (by rw [pV_zero, Nat.zero_mul]; exact Nat.zero_le _) (.inl rfl)
  have e1' : plumbref07_Q_below.f (k + 1) A B exp more = some (d0 : Int) := e1
  have hle := (hr.le_iff d0).1 hlo
  have ok := o (k + 1) (by omega)
  rw [plumbref07_Q_round.f, e1', Option.bind_some, plumbref07_parts.f_eq d0 (by omega), Option.bind_some, ag_at ok more hd0, Option.bind_some, plumbref07_Q_up.f_eq ok more neg hd0 h0 h4, Option.bind_some]
  by_cases hin : d ≤ 9218868437227405311
  · have ed : d0 = d := by
      apply Classical.byContradiction
      intro hne
      have h3 : d0 + 1 ≤ d := by omega
      rcases hhi with h | h
      · omega
      · exact absurd ((hr.le_iff (d0 + 1)).2 h3) (by omega)
    subst ed
    by_cases hz : agn more (cmpZ (qP a exp : Int) ((pV d0 * qQ b exp : Nat) : Int)) = 0
    · rw [if_pos hz, ref_j0 neg d0 hd0, if_neg (by decide)]
      have ht := tl_zero_iff.2 ((agn_zero more _ _).1 hz)
      rw [ht]
      unfold RS
      rw [upB_zero, if_neg (by decide)]
      unfold outP
      rw [if_neg (by omega)]
    · have hd := fun h => hz ((agn_zero more _ _).2 h)
      rw [if_neg hz, ref_j0 neg d0 hd0, up_tl hQ hd h0 h4]
      unfold RS
      by_cases hu : upB mode neg (d0 % 2 == 1) (tl (qP a exp) (qQ b exp) more d0) = true
      · rw [hu, if_pos rfl, if_pos rfl]
        by_cases hm : d0 = 9218868437227405311
        · rw [if_pos hm, outP_big mode neg (by omega)]
          have hs : staysB mode neg = false := by
            unfold upB at hu
            unfold staysB
            have hmm : mode = 0 ∨ mode = 1 ∨ mode = 2 ∨ mode = 3 ∨ mode = 4 := by omega
            rcases hmm with h | h | h | h | h <;> subst h <;> simp_all
          rw [hs, if_neg (by decide)]
        · rw [if_neg hm]
          unfold outP
          rw [if_neg (by omega)]
      · rw [Bool.eq_false_iff.2 hu, if_neg (by decide), if_neg (by decide)]
        unfold outP
        rw [if_neg (by omega)]
  · have em : d0 = 9218868437227405311 := by
      rcases hhi with h | h
      · exact h
      · exact absurd ((hr.le_iff (d0 + 1)).2 (by omega)) (by omega)
    have hbig : pV d0 * qQ b exp + pU d0 * qQ b exp ≤ qP a exp := by
      have h3 := (hr.le_iff (d0 + 1)).2 (by omega)
      rw [pV_succ, Nat.add_mul] at h3
      exact h3
    have hU : 0 < pU d0 * qQ b exp := Nat.mul_pos (pU_pos d0) hQ
    have hz : ¬ agn more (cmpZ (qP a exp : Int) ((pV d0 * qQ b exp : Nat) : Int)) = 0 := by
      intro h
      have := (agn_zero more _ _).1 h
      omega
    have eh : (2 * pV d0 + pU d0) * qQ b exp = 2 * (pV d0 * qQ b exp) + pU d0 * qQ b exp := by rw [Nat.add_mul, Nat.mul_assoc]
    rw [if_neg hz, ref_j0 neg d0 hd0, RS_big mode neg (by omega), eh, if_pos (by omega : 2 * (pV d0 * qQ b exp) + pU d0 * qQ b exp < 2 * qP a exp), if_pos em, em]
    have hmm : mode = 0 ∨ mode = 1 ∨ mode = 2 ∨ mode = 3 ∨ mode = 4 := by omega
    rcases hmm with h | h | h | h | h <;> subst h <;> cases neg <;> rfl
end Go.Proofs.YtoefabmlkbhmpaaDoor.PA

namespace Go.Proofs.YtoefabmlkbhmpaaDoor.PA
open Go Go.RowKit Go.Proofs.YtoefabmlkbhmpaaDoorW.PrintWords Go.Proofs.YtoefabmlkbhmpaaDoorW.PrintLast Go.Proofs.YtoefabmlkbhmpaaDoorW.PrintMore
set_option linter.unusedVariables false
set_option linter.unusedSimpArgs false
theorem flo_Rd {P Q m : Nat} {e : Int} {more st : Bool} (hQ : 0 < Q) (hm : 0 < m) (h1 : m * 2 ^ (e + 1074).toNat * Q ≤ P * 2 ^ (-(e + 1074)).toNat) (h2 : P * 2 ^ (-(e + 1074)).toNat < (m + 1) * 2 ^ (e + 1074).toNat * Q)
    (hst : st = true ↔ (P * 2 ^ (-(e + 1074)).toNat ≠ m * 2 ^ (e + 1074).toNat * Q ∨ more = true)) (hx : P * 2 ^ (-(e + 1074)).toNat = m * 2 ^ (e + 1074).toNat * Q ∨ 9007199254740992 ≤ m) :
    Rd P Q (flo m e st).1 ∧ tl P Q more (flo m e st).1 = (flo m e st).2 := by
  obtain ⟨L, hL, hb1, hb2⟩ := bits_bounds hm
  unfold flo
  rw [if_neg (by omega), hL]
  generalize hs : (e + 1074 + ((L : Int) + 1) - 53).toNat = s at *
  by_cases hc : 1 ≤ (s : Int) - (e + 1074)
  · obtain ⟨j, hj⟩ : ∃ j : Nat, (s : Int) - (e + 1074) = (j : Int) := ⟨((s : Int) - (e + 1074)).toNat, by omega⟩
    obtain ⟨q1, q2⟩ := flo_q (s := s) (j := j) hb1 hb2 (by omega) (by omega)
    rw [if_pos hc, hj, Int.toNat_natCast]
    exact Rd.of_div hQ (by omega) (by omega) h1 h2 hst q1 q2
  · have hex : P * 2 ^ (-(e + 1074)).toNat = m * 2 ^ (e + 1074).toNat * Q := by
      rcases hx with h | h
      · exact h
      · exfalso
        have h3 : 2 ^ 53 < 2 ^ (L + 1) := Nat.lt_of_le_of_lt h hb2
        have h4 := (Nat.pow_lt_pow_iff_right (a := 2) (by decide)).1 h3
        omega
    have e0 : (-(e + 1074)).toNat = 0 := by omega
    obtain ⟨j, hj⟩ : ∃ j : Nat, e + 1074 - (s : Int) = (j : Int) := ⟨(e + 1074 - (s : Int)).toNat, by omega⟩
    obtain ⟨q1, q2⟩ := flo_p (s := s) (j := j) hb1 hb2 (by omega) (by omega)
    rw [if_neg hc, hj, Int.toNat_natCast]
    obtain ⟨eV, eU⟩ := pV_at q1 q2
    have ep : (e + 1074).toNat = j + s := by omega
    rw [e0, Nat.pow_zero, Nat.mul_one, ep, Nat.pow_add, ← Nat.mul_assoc, ← eV] at hex
    have hst2 : st = more := by
      rw [e0, Nat.pow_zero, Nat.mul_one, ep, Nat.pow_add, ← Nat.mul_assoc, ← eV] at hst
      exact Bool.eq_iff_iff.2 ⟨fun z => (hst.1 z).resolve_left (fun y => y hex), fun z => hst.2 (.inr z)⟩
    refine ⟨⟨Nat.le_of_eq hex.symm, ?_⟩, ?_⟩
    · rw [hex]
      exact Nat.mul_lt_mul_of_pos_right (pV_lt_succ _) hQ
    · show tl P Q more (s * 4503599627370496 + m * 2 ^ j) = if st = true then 1 else 0
      unfold tl
      rw [if_pos hex, hst2]
end Go.Proofs.YtoefabmlkbhmpaaDoor.PA

namespace Go.Proofs.YtoefabmlkbhmpaaDoor.PA
open Go.RowKit Go.Proofs.YtoefabmlkbhmpaaDoorW.PrintWords Go.Proofs.YtoefabmlkbhmpaaDoorW.PrintLast Go.Proofs.YtoefabmlkbhmpaaDoorW.PrintMore
set_option linter.unusedVariables false
set_option linter.unusedSimpArgs false
end Go.Proofs.YtoefabmlkbhmpaaDoor.PA

namespace Go.Proofs.YtoefabmlkbhmpaaDoor.PA
open Go Go.RowKit Go.Proofs.YtoefabmlkbhmpaaDoorW.PrintWords Go.Proofs.YtoefabmlkbhmpaaDoorW.PrintLast Go.Proofs.YtoefabmlkbhmpaaDoorW.PrintMore
set_option linter.unusedVariables false
set_option linter.unusedSimpArgs false
theorem bits_lt_pow {a : Nat} (s : Nat) : bitsN (a : Int) ≤ (s : Int) ↔ a < 2 ^ s := by
  by_cases h0 : a = 0
  · subst h0
    rw [show bitsN ((0 : Nat) : Int) = 0 from bitsN_zero]
    exact ⟨fun _ => Nat.pow_pos (by decide), fun _ => by omega⟩
  · have hb := bitsN_pos (x := (a : Int)) (by omega)
    obtain ⟨L, hL⟩ : ∃ n : Nat, bitsN (a : Int) = n + 1 := ⟨(bitsN (a : Int) - 1).toNat, by omega⟩
    have h1 := (bitsN_iff (by omega) L).1 hL
    rw [p2cast, p2cast] at h1
    have h2 : 2 ^ L ≤ a := Int.ofNat_le.1 h1.1
    have h3 : a < 2 ^ (L + 1) := Int.ofNat_lt.1 h1.2
    rw [hL]
    constructor
    · intro h
      exact Nat.lt_of_lt_of_le h3 (Nat.pow_le_pow_right (by decide) (by omega))
    · intro h
      have := (Nat.pow_lt_pow_iff_right (a := 2) (by decide)).1 (Nat.lt_of_le_of_lt h2 h)
      omega
theorem nat_Word.f_eq {n : Nat} (h : n < 18446744073709551616) (k : Nat) (hk : 3 ≤ k) : nat_Word.f k (wd n) = some ((n : Int), true) := by
  have hw := wd_ws n
  have hlen : (wd n).length ≤ 1 := by
    have := wd_len (n := (n : Int)) (t := 1) (by omega) (by rw [show (2 : Int) ^ (64 * 1) = 18446744073709551616 from by decide]; omega)
    rwa [Int.toNat_natCast] at this
  rw [nat_Word.f, nat_size.f_eq (wd n) (by omega) k (by omega), Option.bind_some, strip_wd]
  by_cases h0 : n = 0
  · subst h0
    rw [wd_zero]; rfl
  · rw [wd_pos h0, Nat.div_eq_of_lt h, wd_zero, Nat.mod_eq_of_lt h]
    rfl
end Go.Proofs.YtoefabmlkbhmpaaDoor.PA

namespace Go.Proofs.YtoefabmlkbhmpaaDoor.PA
open Go Go.RowKit Go.Proofs.YtoefabmlkbhmpaaDoorW.PrintWords Go.Proofs.YtoefabmlkbhmpaaDoorW.PrintLast Go.Proofs.YtoefabmlkbhmpaaDoorW.PrintMore
set_option linter.unusedVariables false
set_option linter.unusedSimpArgs false
theorem near_known.f_eq (m : Int) : near_known.f m = some (decide (0 ≤ m ∧ m ≤ 4)) := by
  unfold near_known.f
  by_cases h : m ≥ 0
  · rw [if_pos h]; congr 1; rw [decide_eq_decide]; omega
  · rw [if_neg h, decide_eq_false (by omega)]
/-- a number's bits, from its list -/
theorem bits_len {l : List Int} (hl : Ws l) {a : Nat} (ha : nv l = (a : Int)) : bitsN (a : Int) ≤ ((64 * l.length : Nat) : Int) := by
  rw [bits_lt_pow]
  have := nv_lt hl
  rw [ha, p2cast] at this
  exact Int.ofNat_lt.1 this
/-- high enough it lies beyond the greatest -/
theorem flo_big {m : Nat} (hm : 0 < m) {e : Int} (h : 1100 ≤ e + bitsN (m : Int)) (st : Bool) : 9218868437227405311 < (flo m e st).1 := by
  unfold flo
  rw [if_neg (by omega)]
  have hs : 2048 ≤ (e + 1074 + bitsN (m : Int) - 53).toNat := by omega
  generalize (e + 1074 + bitsN (m : Int) - 53).toNat = s at *
  have hb : 9218868437227405311 < s * 4503599627370496 := by omega
  split
  · exact Nat.lt_of_lt_of_le hb (Nat.le_add_right _ _)
  · exact Nat.lt_of_lt_of_le hb (Nat.le_add_right _ _)
/-- low enough it is less than half of the least one -/
theorem flo_small {m : Nat} (hm : 0 < m) {e : Int} (h : e + bitsN (m : Int) < -1199) (st : Bool) : flo m e st = (0, 1) := by
  obtain ⟨L, hL, hb1, hb2⟩ := bits_bounds hm
  unfold flo
  rw [if_neg (by omega)]
  have hs : (e + 1074 + bitsN (m : Int) - 53).toNat = 0 := by omega
  obtain ⟨j, hj⟩ : ∃ j : Nat, ((0 : Nat) : Int) - (e + 1074) = (j : Int) := ⟨(((0 : Nat) : Int) - (e + 1074)).toNat, by omega⟩
  rw [hs, hj, if_pos (by omega), Int.toNat_natCast]
  have h1 : 2 ^ (L + 2) ≤ 2 ^ j := Nat.pow_le_pow_right (by decide) (by omega)
  rw [Nat.pow_succ] at h1
  have hlt : m < 2 ^ j := by omega
  rw [Nat.div_eq_of_lt hlt, Nat.mod_eq_of_lt hlt]
  unfold tailOf
  rw [if_neg (by omega), if_pos (by omega)]
end Go.Proofs.YtoefabmlkbhmpaaDoor.PA

namespace Go.Proofs.YtoefabmlkbhmpaaDoor.PA
open Go Go.RowKit Go.Proofs.YtoefabmlkbhmpaaDoorW.PrintWords Go.Proofs.YtoefabmlkbhmpaaDoorW.PrintLast Go.Proofs.YtoefabmlkbhmpaaDoorW.PrintMore
set_option linter.unusedVariables false
set_option linter.unusedSimpArgs false
theorem near_shl.l0_eq (x : List Int) (hx : Ws x) (q s : Nat) (a1 : Int) (ea : Int.tmod a1 64 = (s : Int)) (hs : s ≤ 63) (hm : x.length + q ≤ 17592186044414) : ∀ (d k i : Nat) (acc : List Int) (c : Int), d = x.length - i → d < k → i ≤ x.length → acc.length = q + i → Ws acc → 0 ≤ c → c < 2 ^ s → nv acc + 2 ^ (64 * (q + i)) * c = nv (x.take i) * 2 ^ s * 2 ^ (64 * q) →
    ∃ r, near_shl.l0 k a1 acc c x (x.length : Int) (i : Int) = some r ∧ Ws r ∧ nv r = nv x * 2 ^ (64 * q + s) ∧ r.length = q + x.length + 1 := by
  have hP := two_pow_pos s
  have hR := two_pow_pos (64 - s)
  have hPR := pow_split (s := s) (by omega)
  have hle : (2 : Int) ^ s ≤ 2 ^ 63 := pow_mono hs
  rw [show (2 : Int) ^ 63 = 9223372036854775808 from by decide] at hle
  intro d
  induction d with
  | zero =>
    intro k i acc c hd hk hi hl hw hc0 hc he
    obtain ⟨k, rfl⟩ : ∃ j, k = j + 1 := ⟨k - 1, by omega⟩
    obtain rfl : i = x.length := by omega
    rw [List.take_length] at he
    refine ⟨acc ++ [c], ?_, hw.append (Ws.cons hc0 (by omega) Ws.nil), ?_, by rw [List.length_append, List.length_singleton]; omega⟩
    · rw [near_shl.l0, if_neg (by omega), if_pos (by omega)]
    · rw [nv_append, hl]
      simp only [nv_cons, nv_nil, Int.mul_zero, Int.add_zero]
      rw [he, Int.mul_assoc, ← Int.pow_add, Nat.add_comm s]
  | succ d ih =>
    intro k i acc c hd hk hi hl hw hc0 hc he
    obtain ⟨k, rfl⟩ : ∃ j, k = j + 1 := ⟨k - 1, by omega⟩
    have ho := hx.getD i
    have hy : x.getD i 0 / 2 ^ (64 - s) < 2 ^ s := Int.ediv_lt_of_lt_mul hR (by rw [hPR]; exact ho.2)
    have hy0 : 0 ≤ x.getD i 0 / 2 ^ (64 - s) := Int.ediv_nonneg ho.1 (Int.le_of_lt hR)
    have hlow := shl_low (x := x.getD i 0) hP hPR
    have hm1 := Int.emod_nonneg (x.getD i 0 * 2 ^ s) (show (18446744073709551616 : Int) ≠ 0 by decide)
    have hm2 := Int.emod_lt_of_pos (x.getD i 0 * 2 ^ s) (show (0 : Int) < 18446744073709551616 by decide)
    have g1 : x.getD i 0 % 2 ^ (64 - s) < 2 ^ (64 - s) := Int.emod_lt_of_pos _ hR
    have hsum : x.getD i 0 * 2 ^ s % 18446744073709551616 + c < 18446744073709551616 := by
      rw [hlow, ← hPR]
      have h3 : 2 ^ s * (x.getD i 0 % 2 ^ (64 - s) + 1) ≤ 2 ^ s * 2 ^ (64 - s) := Int.mul_le_mul_of_nonneg_left g1 (Int.le_of_lt hP)
      rw [Int.mul_add, Int.mul_one] at h3
      omega
    have e2 : Go.bits .or .u64 (x.getD i 0 * 2 ^ s % 18446744073709551616) c = x.getD i 0 * 2 ^ s % 18446744073709551616 + c := or_join s hm1 hm2 (by rw [hlow, Int.mul_emod_right]) hc0 hc (by omega)
    have e3 : nv (acc ++ [x.getD i 0 * 2 ^ s % 18446744073709551616 + c]) + 2 ^ (64 * (q + (i + 1))) * (x.getD i 0 / 2 ^ (64 - s)) = nv (x.take (i + 1)) * 2 ^ s * 2 ^ (64 * q) := by
      rw [nv_append, hl, nv_take_succ (by omega), show q + (i + 1) = (q + i) + 1 from rfl, pow64, Int.add_mul, Int.add_mul, ← he]
      simp only [nv_cons, nv_nil, Int.mul_zero, Int.add_zero]
      have h2 := shl_word (x := x.getD i 0) hP hPR
      have e4 : x.getD i 0 * 2 ^ (64 * i) * 2 ^ s * 2 ^ (64 * q) = x.getD i 0 * 2 ^ s * 2 ^ (64 * (q + i)) := by
        rw [show 64 * (q + i) = 64 * i + 64 * q from by omega, Int.pow_add]; grind
      rw [e4]
      generalize x.getD i 0 * 2 ^ s % 18446744073709551616 = v at *
      rw [h2]
      generalize x.getD i 0 / 2 ^ (64 - s) = u
      generalize (2 : Int) ^ (64 * (q + i)) = p
      grind
    have hz : (0 : Int) * 2 ^ s % 18446744073709551616 + x.getD i 0 / 2 ^ (64 - s) = x.getD i 0 / 2 ^ (64 - s) := by rw [Int.zero_mul, Int.zero_emod, Int.zero_add]
    obtain ⟨r, h1, h2, h3, h4⟩ := ih k (i + 1) (acc ++ [x.getD i 0 * 2 ^ s % 18446744073709551616 + c]) (x.getD i 0 / 2 ^ (64 - s)) (by omega) (by omega) (by omega) (by rw [List.length_append, List.length_singleton]; omega) (hw.append (Ws.cons (by omega) hsum Ws.nil)) hy0 hy e3
    refine ⟨r, ?_, h2, h3, h4⟩
    rw [near_shl.l0, if_pos (by omega), if_pos (by omega), if_pos (by omega), rdn, ea, wide_Shl.f_eq0 hs (by decide) (by decide) ho.1 ho.2, Option.bind_some, if_pos (by omega), e2, hz, w64_s i (by omega)]
    exact h1
theorem near_shl.f_eq (x : List Int) (hx : Ws x) (n : Nat) (hn : n ≤ 4503599627370496) (hm : x.length + n / 64 ≤ 17592186044414) (k : Nat) (hk : x.length < k) : ∃ r, near_shl.f k x (n : Int) = some r ∧ Ws r ∧ nv r = nv x * 2 ^ n ∧ r.length = n / 64 + x.length + 1 := by
  have e1 : wrap64 (Int.tdiv (n : Int) 64) = ((n / 64 : Nat) : Int) := by
    rw [Int.tdiv_eq_ediv_of_nonneg (by omega), w64_of (by omega) (by omega)]; omega
  have e2 : Int.tmod (n : Int) 64 = ((n % 64 : Nat) : Int) := by
    rw [Int.tmod_eq_emod_of_nonneg (by omega)]; omega
  obtain ⟨r, h1, h2, h3, h4⟩ := near_shl.l0_eq x hx (n / 64) (n % 64) (n : Int) e2 (by omega) hm x.length k 0 (List.replicate (n / 64) 0) 0 (by omega) hk (by omega) (by simp) (Ws.zeros _) (by decide) (two_pow_pos _) (by rw [nv_zeros]; simp [nv])
  rw [show 64 * (n / 64) + n % 64 = n from by omega] at h3
  refine ⟨r, ?_, h2, h3, h4⟩
  rw [near_shl.f, e1, if_pos (by omega), Int.toNat_natCast, if_pos (by omega)]
  exact h1
end Go.Proofs.YtoefabmlkbhmpaaDoor.PA

namespace Go.Proofs.YtoefabmlkbhmpaaDoor.PA
open Go Go.RowKit Go.Proofs.YtoefabmlkbhmpaaDoorW.PrintWords Go.Proofs.YtoefabmlkbhmpaaDoorW.PrintLast Go.Proofs.YtoefabmlkbhmpaaDoorW.PrintMore
set_option linter.unusedVariables false
set_option linter.unusedSimpArgs false
/-- the first bits of A / B, at the exponent e -/
def qX (A : Nat) (e : Int) : Nat := A * 2 ^ (-e).toNat
def qY (B : Nat) (e : Int) : Nat := B * 2 ^ e.toNat
theorem qY_pos {B : Nat} (h : 0 < B) (e : Int) : 0 < qY B e := Nat.mul_pos h (Nat.pow_pos (by decide))
theorem quo_key (A B : Nat) (e : Int) (m : Nat) : (m * qY B e) * 2 ^ (e + 1074).toNat = (m * 2 ^ (e + 1074).toNat * qQ B 0) * 2 ^ e.toNat ∧ qX A e * 2 ^ (e + 1074).toNat = (qP A 0 * 2 ^ (-(e + 1074)).toNat) * 2 ^ e.toNat := by
  have e0 : qQ B 0 = B := by unfold qQ; rw [show (-((0 : Int) + 1074)).toNat = 0 from rfl, Nat.pow_zero, Nat.mul_one]
  constructor
  · rw [e0]
    unfold qY
    generalize 2 ^ e.toNat = x
    generalize 2 ^ (e + 1074).toNat = y
    grind
  · obtain ⟨z, e1, ez⟩ : ∃ z : Nat, ((0 : Int) + 1074).toNat = z ∧ (z : Int) = 1074 := ⟨_, rfl, rfl⟩
    unfold qX qP
    rw [e1, Nat.mul_assoc, Nat.mul_assoc, Nat.mul_assoc, ← Nat.pow_add, ← Nat.pow_add, ← Nat.pow_add]
    congr 2
    omega
/-- the place of A / B, by its first bits -/
theorem quo_Rd {A B : Nat} (hB : 0 < B) (e : Int) (hm : 9007199254740992 ≤ qX A e / qY B e) :
    Rd (qP A 0) (qQ B 0) (flo (qX A e / qY B e) e (decide (qX A e % qY B e ≠ 0))).1 ∧ tl (qP A 0) (qQ B 0) false (flo (qX A e / qY B e) e (decide (qX A e % qY B e ≠ 0))).1 = (flo (qX A e / qY B e) e (decide (qX A e % qY B e ≠ 0))).2 := by
  have hY := qY_pos hB e
  have hp : 0 < 2 ^ e.toNat := Nat.pow_pos (by decide)
  have hT : 0 < 2 ^ (e + 1074).toNat := Nat.pow_pos (by decide)
  have hdm := Nat.div_add_mod (qX A e) (qY B e)
  have hmod := Nat.mod_lt (qX A e) hY
  obtain ⟨k1, k2⟩ := quo_key A B e (qX A e / qY B e)
  obtain ⟨k3, _⟩ := quo_key A B e (qX A e / qY B e + 1)
  have hle : qX A e / qY B e * qY B e ≤ qX A e := Nat.div_mul_le_self _ _
  have hlt : qX A e < (qX A e / qY B e + 1) * qY B e := by rw [Nat.add_mul, Nat.one_mul, Nat.mul_comm (qX A e / qY B e)]; omega
  refine flo_Rd (qQ_pos hB 0) (by omega) ?_ ?_ ?_ (.inr hm)
  · apply Nat.le_of_mul_le_mul_right _ hp
    rw [← k1, ← k2]
    exact Nat.mul_le_mul_right _ hle
  · apply Nat.lt_of_mul_lt_mul_right (a := 2 ^ e.toNat)
    rw [← k3, ← k2]
    exact Nat.mul_lt_mul_of_pos_right hlt hT
  · have : (qP A 0 * 2 ^ (-(e + 1074)).toNat ≠ qX A e / qY B e * 2 ^ (e + 1074).toNat * qQ B 0) ↔ qX A e % qY B e ≠ 0 := by
      constructor
      · intro h hz
        apply h
        apply Nat.eq_of_mul_eq_mul_right hp
        rw [← k1, ← k2]
        congr 1
        rw [Nat.mul_comm]; omega
      · intro h hz
        apply h
        have h2 : qX A e * 2 ^ (e + 1074).toNat = qX A e / qY B e * qY B e * 2 ^ (e + 1074).toNat := by rw [k1, k2, hz]
        have h3 := Nat.eq_of_mul_eq_mul_right hT h2
        rw [Nat.mul_comm] at h3
        omega
    rw [this]
    simp
/-- the first bits are 62 or 63 -/
theorem quo_bits {A B a b : Nat} (hA1 : 2 ^ a ≤ A) (hA2 : A < 2 ^ (a + 1)) (hB1 : 2 ^ b ≤ B) (hB2 : B < 2 ^ (b + 1)) (e : Int) (he : e = (a : Int) - b - 62) :
    2 ^ 61 ≤ qX A e / qY B e ∧ qX A e / qY B e < 2 ^ 63 := by
  have hB : 0 < B := Nat.lt_of_lt_of_le (Nat.pow_pos (by decide)) hB1
  have hY := qY_pos hB e
  have hp : 0 < 2 ^ (-e).toNat := Nat.pow_pos (by decide)
  have hq : 0 < 2 ^ e.toNat := Nat.pow_pos (by decide)
  constructor
  · rw [Nat.le_div_iff_mul_le hY]
    unfold qX qY
    have h1 : 2 ^ 61 * (B * 2 ^ e.toNat) ≤ 2 ^ 61 * (2 ^ (b + 1) * 2 ^ e.toNat) := Nat.mul_le_mul_left _ (Nat.mul_le_mul_right _ (Nat.le_of_lt hB2))
    have h2 : 2 ^ a * 2 ^ (-e).toNat ≤ A * 2 ^ (-e).toNat := Nat.mul_le_mul_right _ hA1
    have h3 : 2 ^ 61 * (2 ^ (b + 1) * 2 ^ e.toNat) = 2 ^ a * 2 ^ (-e).toNat := by
      rw [← Nat.pow_add, ← Nat.pow_add, ← Nat.pow_add]; congr 1; omega
    exact Nat.le_trans h1 (by rw [h3]; exact h2)
  · rw [Nat.div_lt_iff_lt_mul hY]
    unfold qX qY
    have h1 : A * 2 ^ (-e).toNat < 2 ^ (a + 1) * 2 ^ (-e).toNat := Nat.mul_lt_mul_of_pos_right hA2 hp
    have h2 : 2 ^ 63 * (2 ^ b * 2 ^ e.toNat) ≤ 2 ^ 63 * (B * 2 ^ e.toNat) := Nat.mul_le_mul_left _ (Nat.mul_le_mul_right _ hB1)
    have h3 : 2 ^ (a + 1) * 2 ^ (-e).toNat = 2 ^ 63 * (2 ^ b * 2 ^ e.toNat) := by
      rw [← Nat.pow_add, ← Nat.pow_add, ← Nat.pow_add]; congr 1; omega
    exact Nat.lt_of_lt_of_le h1 (by rw [h3]; exact h2)
def quoR (mode : Int) (neg : Bool) (A B : Nat) (e : Int) : Int × Int :=
  RS mode neg (flo (qX A e / qY B e) e (decide (qX A e % qY B e ≠ 0))).1 (flo (qX A e / qY B e) e (decide (qX A e % qY B e ≠ 0))).2
/-- what both tell of A / B -/
def quo (mode : Int) (neg : Bool) (A B : Nat) : Int × Int :=
  if 0 ≤ mode ∧ mode ≤ 4 then
    (if B = 0 then (0, 50) else if A = 0 then RS mode neg 0 0 else quoR mode neg A B (bitsN (A : Int) - bitsN (B : Int) - 62))
  else (0, 71)
theorem strip_len_zero {l : List Int} (hl : Ws l) {A : Nat} (ha : nv l = (A : Int)) : ((strip l).length : Int) = 0 ↔ A = 0 := by
  have h := strip_length_pos hl
  rw [ha] at h
  omega
theorem near_Quotient.f_eq (neg : Bool) (x y : List Int) (hx : Ws x) (hy : Ws y) (hmx : x.length ≤ 1048576) (hmy : y.length ≤ 1048576) (A B : Nat) (eA : nv x = (A : Int)) (eB : nv y = (B : Int)) (mode : Int) (k : Nat) (hk : 100000000 < k) :
    near_Quotient.f k neg x y mode = some (quo mode neg A B) := by
  have hX : Ws (strip x) := hx.strip
  have hY : Ws (strip y) := hy.strip
  have lX : (strip x).length ≤ 1048576 := Nat.le_trans (strip_length_le x) hmx
  have lY : (strip y).length ≤ 1048576 := Nat.le_trans (strip_length_le y) hmy
  have eX : nv (strip x) = (A : Int) := by rw [nv_strip, eA]
  have eY : nv (strip y) = (B : Int) := by rw [nv_strip, eB]
  rw [near_Quotient.f, nat_Norm.f, if_pos (by omega), Option.bind_some, nat_Norm.f, if_pos (by omega), Option.bind_some, near_known.f_eq, Option.bind_some]
  unfold quo
  by_cases hmode : 0 ≤ mode ∧ mode ≤ 4
  · rw [decide_eq_true hmode, if_pos rfl, if_pos hmode]
    have zB := strip_len_zero hy eB
    have zA := strip_len_zero hx eA
    by_cases hB : B = 0
    · rw [if_pos (zB.2 hB), if_pos hB]
    · rw [if_neg (fun h => hB (zB.1 h)), if_neg hB]
      by_cases hA : A = 0
      · have r := near_finish.f_eq neg mode hmode.1 hmode.2 0 (by decide) 0 (by decide) (by decide) false k (by omega)
        have hfl : flo 0 0 false = (0, 0) := by unfold flo; rw [if_pos rfl]; rfl
        rw [hfl] at r
        have r' : near_finish.f k neg 0 0 false mode = some (RS mode neg 0 0) := r
        rw [if_pos (zA.2 hA), if_pos hA, r', Option.bind_some]
      · rw [if_neg (fun h => hA (zA.1 h)), if_neg hA, nat_Bits.f_eq _ hX (by omega) k (by omega) (by omega), Option.bind_some, nat_Bits.f_eq _ hY (by omega) k (by omega) (by omega), Option.bind_some, eX, eY]
        obtain ⟨a, ha, hA1, hA2⟩ := bits_bounds (m := A) (by omega)
        obtain ⟨b, hb, hB1, hB2⟩ := bits_bounds (m := B) (by omega)
        have bA := bits_len hX eX
        have bB := bits_len hY eY
        have hbits := quo_bits hA1 hA2 hB1 hB2 ((a : Int) - b - 62) rfl
        rw [ha] at bA
        rw [hb] at bB
        have ee : ((a : Int) + 1 - ((b : Int) + 1) - 62) = (a : Int) - b - 62 := by omega
        have w1 : wrap64 ((a : Int) + 1 - ((b : Int) + 1)) = (a : Int) - b := by rw [w64_of (by omega) (by omega)]; omega
        have w2 : wrap64 ((a : Int) - b - 62) = (a : Int) - b - 62 := w64_of (by omega) (by omega)
        rw [ha, hb, ee, w1, w2]
        unfold quoR
        rw [show (2 : Nat) ^ 61 = 2305843009213693952 from by decide, show (2 : Nat) ^ 63 = 9223372036854775808 from by decide] at hbits
        generalize hm : qX A ((a : Int) - b - 62) / qY B ((a : Int) - b - 62) = m at *
        generalize hst : decide (qX A ((a : Int) - b - 62) % qY B ((a : Int) - b - 62) ≠ 0) = st at *
        have bm : 62 ≤ bitsN (m : Int) ∧ bitsN (m : Int) ≤ 63 := by
          constructor
          · apply Classical.byContradiction
            intro h
            have := (bits_lt_pow (a := m) 61).1 (by omega)
            rw [show (2 : Nat) ^ 61 = 2305843009213693952 from by decide] at this
            omega
          · have := (bits_lt_pow (a := m) 63).2 (by rw [show (2 : Nat) ^ 63 = 9223372036854775808 from by decide]; omega)
            omega
        have hF := near_finish.f_eq neg mode hmode.1 hmode.2
        by_cases c1 : (a : Int) - b > 1100
        · have r := hF 1 (by decide) ((a : Int) - b) (by omega) (by omega) true k (by omega)
          have r' : near_finish.f k neg 1 ((a : Int) - b) true mode = _ := r
          have b1 : bitsN ((1 : Nat) : Int) = 1 := rfl
          rw [if_pos c1, r', Option.bind_some, RS_big mode neg (flo_big (m := 1) (e := (a : Int) - b) (by decide) (by omega) true), RS_big mode neg (flo_big (m := m) (e := (a : Int) - b - 62) (by omega) (by omega) st)]
        · rw [if_neg c1]
          by_cases c2 : (a : Int) - b < -1200
          · have r := hF 0 (by decide) 0 (by decide) (by decide) true k (by omega)
            have hfl : flo 0 0 true = (0, 1) := by unfold flo; rw [if_pos rfl]; rfl
            rw [hfl] at r
            have r' : near_finish.f k neg 0 0 true mode = some (RS mode neg 0 1) := r
            rw [if_pos c2, r', Option.bind_some, flo_small (m := m) (e := (a : Int) - b - 62) (by omega) (by omega) st]
          · rw [if_neg c2]
            have rr := hF m (by omega) ((a : Int) - b - 62) (by omega) (by omega) st k (by omega)
            have hlen : ∀ z : Nat, decide (((wd z).length : Int) > 0) = decide (z ≠ 0) := by
              intro z
              rw [decide_eq_decide]
              have := @wd_eq_nil z
              constructor
              · intro h hz
                rw [this.2 hz] at h
                exact absurd h (by decide)
              · intro h
                rcases Nat.eq_zero_or_pos (wd z).length with h0 | h0
                · exact absurd (this.1 (List.eq_nil_of_length_eq_zero h0)) h
                · omega
            have hdm : ∀ (p q : List Int) (P Q : Nat), Ws p → Ws q → p.length ≤ 2000000 → q.length ≤ 2000000 → nv p = (P : Int) → nv q = (Q : Int) → Q ≠ 0 → quot_DivMod.f k p q = some (wd (P / Q), wd (P % Q), 0) := by
              intro p q P Q hp hq lp lq ep eq_ hQ
              rw [quot_DivMod.f_eq p q hp hq (by omega) (by omega) k (by omega) (by omega), ep, eq_, if_neg (by omega), ← Int.natCast_ediv, ← Int.natCast_emod, Int.toNat_natCast, Int.toNat_natCast]
            by_cases c3 : (a : Int) - b - 62 > 0
            · obtain ⟨n, hn⟩ : ∃ n : Nat, (a : Int) - b - 62 = (n : Int) := ⟨((a : Int) - b - 62).toNat, by omega⟩
              obtain ⟨r, h1, h2, h3, h4⟩ := near_shl.f_eq (strip y) hY n (by omega) (by omega) k (by omega)
              have eqX : qX A ((a : Int) - b - 62) = A := by unfold qX; rw [hn, show (-(n : Int)).toNat = 0 from by omega, Nat.pow_zero, Nat.mul_one]
              have eqY : nv r = ((qY B ((a : Int) - b - 62) : Nat) : Int) := by unfold qY; rw [h3, eY, hn, Int.toNat_natCast, p2cast, Int.natCast_mul]
              have hd := hdm (strip x) r A _ hX h2 (by omega) (by omega) eX eqY (Nat.ne_of_gt (qY_pos (by omega) _))
              rw [eqX] at hm hst
              rw [hm] at hd
              rw [if_pos c3, hn, h1, Option.bind_some, hd, Option.bind_some, nat_Word.f_eq (by omega) k (by omega), Option.bind_some, hlen, hst, ← hn, rr, Option.bind_some]
            · obtain ⟨n, hn⟩ : ∃ n : Nat, -((a : Int) - b - 62) = (n : Int) := ⟨(-((a : Int) - b - 62)).toNat, by omega⟩
              have w3 : wrap64 (-((a : Int) - b - 62)) = (n : Int) := by rw [hn, w64_of (by omega) (by omega)]
              obtain ⟨r, h1, h2, h3, h4⟩ := near_shl.f_eq (strip x) hX n (by omega) (by omega) k (by omega)
              have eqY : qY B ((a : Int) - b - 62) = B := by unfold qY; rw [show ((a : Int) - b - 62).toNat = 0 from by omega, Nat.pow_zero, Nat.mul_one]
              have eqX : nv r = ((qX A ((a : Int) - b - 62) : Nat) : Int) := by unfold qX; rw [h3, eX, hn, Int.toNat_natCast, p2cast, Int.natCast_mul]
              have hd := hdm r (strip y) _ B h2 hY (by omega) (by omega) eqX eY hB
              rw [eqY] at hm hst
              rw [hm] at hd
              rw [if_neg c3, w3, h1, Option.bind_some, hd, Option.bind_some, nat_Word.f_eq (by omega) k (by omega), Option.bind_some, hlen, hst, rr, Option.bind_some]
  · rw [decide_eq_false hmode, if_neg (by decide), if_neg hmode]
theorem plumbref07_Quotient.f_eq (neg : Bool) (x y : List Int) (hx : Ws x) (hy : Ws y) (hmx : x.length ≤ 1048576) (hmy : y.length ≤ 1048576) (A B : Nat) (eA : nv x = (A : Int)) (eB : nv y = (B : Int)) (mode : Int) (k : Nat) (hk : 1000000000 < k) :
    plumbref07_Quotient.f k neg x y mode = some (quo mode neg A B) := by
  have e0 : plumbref07_Quotient.f k neg x y mode = plumbref07_Quotient.j0 k neg x y mode (!decide (0 ≤ mode ∧ mode ≤ 4)) := by
    unfold plumbref07_Quotient.f
    by_cases h : mode < 0
    · rw [if_pos h, decide_eq_false (by omega)]; rfl
    · rw [if_neg h]
      congr 1
      rw [Bool.eq_iff_iff]; simp; omega
  obtain ⟨k, rfl⟩ : ∃ j, k = j + 1 := ⟨k - 1, by omega⟩
  have hX : Ws (strip x) := hx.strip
  have hY : Ws (strip y) := hy.strip
  have lX : (strip x).length ≤ 1048576 := Nat.le_trans (strip_length_le x) hmx
  have lY : (strip y).length ≤ 1048576 := Nat.le_trans (strip_length_le y) hmy
  have eX : nv (strip x) = (A : Int) := by rw [nv_strip, eA]
  have eY : nv (strip y) = (B : Int) := by rw [nv_strip, eB]
  rw [e0, plumbref07_Quotient.j0]
  unfold quo
  by_cases hmode : 0 ≤ mode ∧ mode ≤ 4
  · rw [decide_eq_true hmode, if_neg (by decide), if_pos hmode, plumbref03_Norm.f_eq y (by omega) k (by omega), Option.bind_some]
    have zB := strip_len_zero hy eB
    by_cases hB : B = 0
    · rw [if_pos (zB.2 hB), if_pos hB]
    · have o : ∀ k, 300000000 ≤ k → QOk (strip x) (strip y) 0 A B 2000000 k := fun k hk =>
        { hA := hX, hB := hY, ea := eX, eb := eY, hb := by omega, hAN := by omega, hBN := by omega, hN := by decide, he1 := by omega, he2 := by omega, hk := by omega }
      rw [if_neg (fun h => hB (zB.1 h)), if_neg hB, plumbref03_Norm.f_eq x (by omega) k (by omega), Option.bind_some]
      by_cases hA : A = 0
      · have hP0 : qP A 0 = 0 := by rw [hA]; exact Nat.zero_mul _
        have hQ0 := qQ_pos (b := B) (by omega) 0
        have hr : Rd (qP A 0) (qQ B 0) 0 := by
          rw [hP0]
          exact ⟨by rw [pV_zero, Nat.zero_mul]; exact Nat.le_refl _, by rw [show pV (0 + 1) = 1 from rfl, Nat.one_mul]; exact hQ0⟩
        have ht : tl (qP A 0) (qQ B 0) false 0 = 0 := tl_zero_iff.2 ⟨by rw [hP0, pV_zero, Nat.zero_mul], rfl⟩
        rw [if_pos hA, plumbref07_Q_round.f_eq o false neg hmode.1 hmode.2 hr k (by omega), Option.bind_some, ht]
      · rw [if_neg hA]
        obtain ⟨a, ha, hA1, hA2⟩ := bits_bounds (m := A) (by omega)
        obtain ⟨b, hb, hB1, hB2⟩ := bits_bounds (m := B) (by omega)
        have ee : ((a : Int) + 1 - ((b : Int) + 1) - 62) = (a : Int) - b - 62 := by omega
        have hbits := quo_bits hA1 hA2 hB1 hB2 ((a : Int) - b - 62) rfl
        rw [show (2 : Nat) ^ 61 = 2305843009213693952 from by decide] at hbits
        have hr := quo_Rd (A := A) (B := B) (by omega) ((a : Int) - b - 62) (by omega)
        rw [ha, hb, ee]
        unfold quoR
        rw [plumbref07_Q_round.f_eq o false neg hmode.1 hmode.2 hr.1 k (by omega), Option.bind_some, hr.2]
  · rw [decide_eq_false hmode, if_neg hmode, if_pos (by decide)]
end Go.Proofs.YtoefabmlkbhmpaaDoor.PA

namespace Go.Proofs.YtoefabmlkbhmpaaDoor.Pure
open Go Go.RowKit Go.Proofs.YtoefabmlkbhmpaaDoor.PA Go.Proofs.YtoefabmlkbhmpaaDoorW.PrintWords Go.Proofs.YtoefabmlkbhmpaaDoorW.PrintLast
set_option linter.unusedVariables false
theorem lent_eq (l : List Int) (hl : l.length ≤ 1048576) : plumblaw07_lent.f l = some (l ++ [7777, 8888]) := by
  unfold plumblaw07_lent.f
  rw [if_pos (by simp; omega), Option.bind_some, Option.bind_some, if_pos (by simp; omega)]
  simp
theorem same_l0 (l : List Int) (hl : l.length ≤ 17592186044416) : ∀ (d k i : Nat), d = l.length - i → d < k → plumblaw07_same.l0 k l l (i : Int) = some true := by
  intro d
  induction d with
  | zero =>
    intro k i hd hk
    obtain ⟨k, rfl⟩ : ∃ j, k = j + 1 := ⟨k - 1, by omega⟩
    rw [plumblaw07_same.l0, if_neg (by omega)]
  | succ d ih =>
    intro k i hd hk
    obtain ⟨k, rfl⟩ : ∃ j, k = j + 1 := ⟨k - 1, by omega⟩
    rw [plumblaw07_same.l0, if_pos (by omega), if_pos (by omega), if_pos (by omega), if_pos rfl, w64_s i (by omega)]
    exact ih k (i + 1) (by omega) (by omega)
theorem same_eq (l : List Int) (hl : l.length ≤ 17592186044416) (k : Nat) (hk : l.length < k) : plumblaw07_same.f k l l = some true := by
  rw [plumblaw07_same.f, if_pos rfl]
  exact same_l0 l hl l.length k 0 (by omega) hk
theorem kept_eq (l : List Int) (hl : l.length ≤ 1048576) (k : Nat) (hk : l.length < k) : plumblaw07_kept.f k (l ++ [7777, 8888]) l = some true := by
  have e1 : wrap64 ((l.length : Int) + 2) = ((l.length + 2 : Nat) : Int) := by rw [w64_of (by omega) (by omega)]; omega
  have e2 : (l ++ [7777, 8888]).length = l.length + 2 := by simp
  have e3 : (l ++ [(7777 : Int), 8888]).take l.length = l := by rw [List.take_append_of_le_length (Nat.le_refl _), List.take_length]
  have e4 : (l ++ [(7777 : Int), 8888]).getD l.length 0 = 7777 := by rw [List.getD_eq_getElem?_getD, List.getElem?_append_right (Nat.le_refl _), Nat.sub_self]; rfl
  have e5 : (l ++ [(7777 : Int), 8888]).getD (l.length + 1) 0 = 8888 := by rw [List.getD_eq_getElem?_getD, List.getElem?_append_right (by omega), show l.length + 1 - l.length = 1 from by omega]; rfl
  rw [plumblaw07_kept.f, e2, e1, if_pos rfl, if_pos (by omega), if_pos (by omega), Int.toNat_natCast, e3, same_eq l (by omega) k hk, Option.bind_some, if_pos rfl, if_pos (by omega), rdn, e4, if_pos rfl, w64_s _ (by omega), if_pos (by omega), if_pos (by omega), rdn, e5]
  rfl
end Go.Proofs.YtoefabmlkbhmpaaDoor.Pure

namespace Go.Proofs.YtoefabmlkbhmpaaDoor.Pure
open Go Go.RowKit Go.Proofs.YtoefabmlkbhmpaaDoor.PA Go.Proofs.YtoefabmlkbhmpaaDoorW.PrintWords Go.Proofs.YtoefabmlkbhmpaaDoorW.PrintLast
set_option linter.unusedVariables false
theorem nearQuotients_l1 (neg : Bool) (x y : List Int) (hy : Ws y) (hmx : x.length ≤ 1048576) (hmy : y.length ≤ 1048576) : ∀ (d k i : Nat) (cur : List Int), d = x.length - i → 1000000100 + d < k → cur.length = x.length + 2 → Ws cur → plumblaw07_NearQuotients.l1 k cur (y ++ [7777, 8888]) (i : Int) neg x y = some true := by
  obtain ⟨B, hB⟩ := Int.eq_ofNat_of_zero_le (nv_nonneg hy)
  have e3 : (y ++ [(7777 : Int), 8888]).take y.length = y := by rw [List.take_append_of_le_length (Nat.le_refl _), List.take_length]
  have e2 : (y ++ [(7777 : Int), 8888]).length = y.length + 2 := by simp
  intro d
  induction d with
  | zero =>
    intro k i cur hd hk hl hw
    obtain ⟨k, rfl⟩ : ∃ j, k = j + 1 := ⟨k - 1, by omega⟩
    have hT : Ws (cur.take x.length) := hw.take _
    have lT : (cur.take x.length).length = x.length := by rw [List.length_take]; omega
    obtain ⟨A, hA⟩ := Int.eq_ofNat_of_zero_le (nv_nonneg hT)
    rw [plumblaw07_NearQuotients.l1, if_neg (by omega), if_pos (by omega), if_pos (by omega), if_pos (by omega), if_pos (by omega), Int.toNat_natCast, Int.toNat_natCast, e3, near_Quotient.f_eq neg _ y hT hy (by omega) hmy A B hA hB 0 k (by omega), Option.bind_some, Option.bind_some, Option.bind_some, if_pos (by rw [lT]; simp; omega), List.nil_append, plumbref07_Quotient.f_eq neg _ y hT hy (by omega) hmy A B hA hB 0 k (by omega), Option.bind_some, if_pos rfl, plumblaw07_num.f, Option.bind_some]
    simp
  | succ d ih =>
    intro k i cur hd hk hl hw
    obtain ⟨k, rfl⟩ : ∃ j, k = j + 1 := ⟨k - 1, by omega⟩
    have b := Go.bounds_u64 (Go.wf_bits .xor .u64 18446744073709551615 (rd cur (i : Int)))
    rw [plumblaw07_NearQuotients.l1, if_pos (by omega), if_pos (by omega), if_pos (by omega), Int.toNat_natCast, w64_s i (by omega)]
    exact ih k (i + 1) _ (by omega) (by omega) (by rw [List.length_set]; exact hl) (hw.set _ (by omega) (by omega))
theorem nearQuotients_l0 (neg : Bool) (x y : List Int) (hx : Ws x) (hy : Ws y) (hmx : x.length ≤ 1048576) (hmy : y.length ≤ 1048576) (mode : Int) : ∀ (d k i : Nat), d = 6 - i → 1002000000 + 2 * d < k → plumblaw07_NearQuotients.l0 k mode (x ++ [7777, 8888]) (y ++ [7777, 8888]) (i : Int) neg x y = some true := by
  obtain ⟨A, hA⟩ := Int.eq_ofNat_of_zero_le (nv_nonneg hx)
  obtain ⟨B, hB⟩ := Int.eq_ofNat_of_zero_le (nv_nonneg hy)
  have e3 : ∀ l : List Int, (l ++ [(7777 : Int), 8888]).take l.length = l := fun l => by rw [List.take_append_of_le_length (Nat.le_refl _), List.take_length]
  have e2 : ∀ l : List Int, (l ++ [(7777 : Int), 8888]).length = l.length + 2 := fun l => by simp
  have hW : Ws (x ++ [7777, 8888]) := hx.append (Ws.cons (by decide) (by decide) (Ws.cons (by decide) (by decide) Ws.nil))
  intro d
  induction d with
  | zero =>
    intro k i hd hk
    obtain ⟨k, rfl⟩ : ∃ j, k = j + 1 := ⟨k - 1, by omega⟩
    rw [plumblaw07_NearQuotients.l0, if_neg (by omega)]
    exact nearQuotients_l1 neg x y hy hmx hmy x.length k 0 _ (by omega) (by omega) (e2 x) hW
  | succ d ih =>
    intro k i hd hk
    obtain ⟨k, rfl⟩ : ∃ j, k = j + 2 := ⟨k - 2, by omega⟩
    have hj : ∀ m : Int, plumblaw07_NearQuotients.j1 (k + 1) mode (x ++ [7777, 8888]) (y ++ [7777, 8888]) (i : Int) m neg x y = some true := by
      intro m
      have g1 := e2 x
      have g2 := e2 y
      rw [plumblaw07_NearQuotients.j1, if_pos (by omega), if_pos (by omega), if_pos (by omega), if_pos (by omega), Int.toNat_natCast, Int.toNat_natCast, e3, e3, near_Quotient.f_eq neg x y hx hy hmx hmy A B hA hB m k (by omega), Option.bind_some, plumbref07_Quotient.f_eq neg x y hx hy hmx hmy A B hA hB m k (by omega), Option.bind_some, if_pos rfl, plumblaw07_num.f, Option.bind_some, if_pos rfl, kept_eq x hmx k (by omega), Option.bind_some, if_pos rfl, kept_eq y hmy k (by omega), Option.bind_some, if_pos rfl, w64_s i (by omega)]
      exact ih k (i + 1) (by omega) (by omega)
    rw [plumblaw07_NearQuotients.l0, if_pos (by omega)]
    by_cases h5 : (i : Int) = 5
    · rw [if_pos h5]; exact hj mode
    · rw [if_neg h5]; exact hj i
theorem nearQuotients_pure (neg : Bool) (x y : List Int) (hx : ∀ z ∈ x, 0 ≤ z ∧ z < 18446744073709551616) (hy : ∀ z ∈ y, 0 ≤ z ∧ z < 18446744073709551616) (hmx : x.length ≤ 1048576) (hmy : y.length ≤ 1048576) (mode : Int) : ∃ k, plumblaw07_NearQuotients.f k neg x y mode = some true := by
  refine ⟨1003000000, ?_⟩
  rw [plumblaw07_NearQuotients.f, lent_eq x hmx, Option.bind_some, lent_eq y hmy, Option.bind_some]
  exact nearQuotients_l0 neg x y hx hy hmx hmy mode 6 _ 0 (by omega) (by omega)
end Go.Proofs.YtoefabmlkbhmpaaDoor.Pure

namespace Go.Proofs.YtoefabmlkbhmpaaDoorW.PrintWords
open Go
/-- an array of pairs of bools -/
theorem trod_pairs {H : Type} {enc : TypeId × Value → H} {P : Program} {w : World} {base : Nat} {spare : Nat → Bool} {held : Bool} {fuel : Nat} {ty e1 e2 : TypeId} {n : Nat} {cs : List Value} {L : List (List Bool)} {p : List MemPlace}
    (hu : P.underlying ty = some (.array n e1)) (he : P.underlying e1 = some (.array 2 e2)) (hb : P.underlying e2 = some .bool) (hc1 : P.cellsOf e1 = 2) (hc2 : P.cellsOf e2 = 1)
    (h : DataW.trod enc P w base spare held fuel ty cs = some (.agg (L.map fun r => .agg (r.map fun b => .lit (.bool b))), p)) : ∀ i, i < n → ∀ j, j < 2 → cs[2 * i + j]? = some (.bool ((L.getD i []).getD j false)) := by
  obtain ⟨xs, m, rfl, hx, hlen, hn, hel⟩ := DataW.trod_array hu h
  intro i hi j hj
  have h1 := hel i hi
  rw [hc1] at h1
  have hxi : i < xs.length := by omega
  rw [List.getElem?_eq_getElem hxi] at h1
  obtain ⟨ys, m2, rfl, hy, hlen2, hn2, hel2⟩ := DataW.trod_array he h1
  have h2 := hel2 j hj
  rw [hc2, Nat.mul_one] at h2
  have hyj : j < ys.length := by omega
  rw [List.getElem?_eq_getElem hyj] at h2
  obtain ⟨b, e1_, e2_⟩ := DataW.trod_bool hb h2
  simp only [Prod.mk.injEq, DataW.agg.injEq] at hx
  have h3 : (L.map fun r => (DataW.agg (r.map fun b => .lit (.bool b)) : DataW H))[i]? = (xs.map (·.1))[i]? := by rw [hx.1]
  rw [List.getElem?_map, List.getElem?_map, List.getElem?_eq_getElem hxi] at h3
  simp only [Option.map_some] at h3
  cases hL : L[i]? with
  | none => rw [hL] at h3; simp at h3
  | some r =>
    rw [hL] at h3
    simp only [Option.map_some, Option.some.injEq] at h3
    rw [hy] at h3
    simp only [DataW.agg.injEq] at h3
    have h4 : (r.map fun b => (DataW.lit (.bool b) : DataW H))[j]? = (ys.map (·.1))[j]? := by rw [h3]
    rw [List.getElem?_map, List.getElem?_map, List.getElem?_eq_getElem hyj, Option.map_some, e2_] at h4
    have h5 : r[j]? = some b := by
      cases hr : r[j]? with
      | none => rw [hr] at h4; simp at h4
      | some y => rw [hr] at h4; simp at h4; rw [h4]
    have h6 : ((((cs.drop (i * 2)).take 2).drop j).take 1)[0]? = some (.bool b) := by rw [e1_]; rfl
    rw [List.getElem?_take, if_pos (by decide), List.getElem?_drop, Nat.add_zero, List.getElem?_take, if_pos hj, List.getElem?_drop] at h6
    rw [Nat.mul_comm, h6, List.getD_eq_getElem?_getD, List.getD_eq_getElem?_getD, hL, Option.getD_some, h5]
    rfl
/-- a struct of three fields of one cell, opened -/
theorem open_three {H : Type} {enc : TypeId × Value → H} {P : Program} {w : World} {base b0 : Nat} {spare : Nat → Bool} {held : Bool} {r : Reach} {t : TypeId} {f0 f1 f2 : Field} {v : Value} {d : DataW H} {p : List MemPlace} (hs : P.underlying t = some (.struct #[f0, f1, f2]))
    (hC : P.cellsOf t = 3) (o0 : f0.offset = 0) (o1 : f1.offset = 1) (o2 : f2.offset = 2) (k0 : P.cellsOf f0.type = 1) (k1 : P.cellsOf f1.type = 1) (k2 : P.cellsOf f2.type = 1)
    (hv : Value.okWide P w r b0 t v) (h : DataW.Trod enc P w base spare held t v d p) :
    ∃ (v0 v1 v2 : Value) (y0 y1 y2 : DataW H × List MemPlace) (n : Nat), v = .agg #[v0, v1, v2] ∧ d = .agg [y0.1, y1.1, y2.1] ∧
      DataW.trod enc P w base spare held n f0.type [v0] = some y0 ∧ DataW.trod enc P w base spare held n f1.type [v1] = some y1 ∧ DataW.trod enc P w base spare held n f2.type [v2] = some y2 := by
  obtain ⟨cs, rfl, hsz⟩ := WideShapes.okWide_struct hs hv
  rw [hC] at hsz
  obtain ⟨l⟩ := cs
  match l, hsz with
  | [c0, c1, c2], _ =>
    obtain ⟨fuel, hf⟩ := h
    obtain ⟨xs, n, _, hx, hl, hlen, hg⟩ := DataW.trod_struct hs hf
    match xs, hlen with
    | [y0, y1, y2], _ =>
      have g0 := hg 0 f0 rfl
      have g1 := hg 1 f1 rfl
      have g2 := hg 2 f2 rfl
      rw [o0, k0] at g0
      rw [o1, k1] at g1
      rw [o2, k2] at g2
      simp only [Prod.mk.injEq, List.map_cons, List.map_nil] at hx
      exact ⟨c0, c1, c2, y0, y1, y2, n, rfl, hx.1, by simpa [Value.cells] using g0, by simpa [Value.cells] using g1, by simpa [Value.cells] using g2⟩
end Go.Proofs.YtoefabmlkbhmpaaDoorW.PrintWords
