/- A part of the proof (11). -/
import Derived.Test.YtoefabmlkbhmpaaDoorSS10
import Derived.OpenShut
import Derived.LaidLaws
import Derived.LaidHandle
import Derived.MakeChecks
import Derived.WideShapes
import Derived.ChangeArms
namespace Go.Proofs.YtoefabmlkbhmpaaDoor.PA
open Go Go.RowKit Go.Proofs.YtoefabmlkbhmpaaDoorW.PrintWords Go.Proofs.YtoefabmlkbhmpaaDoorW.PrintLast Go.Proofs.YtoefabmlkbhmpaaDoorW.PrintMore
set_option linter.unusedVariables false
set_option linter.unusedSimpArgs false
theorem bitsN_half {v : Int} (h : 0 < v) : bitsN v = 1 + bitsN (v / 2) := by
  by_cases h1 : v = 1
  · subst h1; rfl
  · have := bitsN_div (x := v) 1 (by omega)
    rw [this]
    rfl
theorem plumbref03_Bits.l1_eq : ∀ (d k : Nat) (n v : Int), 0 ≤ v → v < 2 ^ d → d < k → 0 ≤ n → n + d < 4611686018427387904 → plumbref03_Bits.l1 k n v = some (n + bitsN v) := by
  intro d
  induction d with
  | zero =>
    intro k n v h0 hv hk hn hb
    obtain ⟨k, rfl⟩ : ∃ j, k = j + 1 := ⟨k - 1, by omega⟩
    obtain rfl : v = 0 := by rw [Int.pow_zero] at hv; omega
    simp only [plumbref03_Bits.l1]
    rw [if_neg (by decide), bitsN_zero, Int.add_zero]
  | succ d ih =>
    intro k n v h0 hv hk hn hb
    obtain ⟨k, rfl⟩ : ∃ j, k = j + 1 := ⟨k - 1, by omega⟩
    simp only [plumbref03_Bits.l1]
    by_cases h : v > 0
    · have hd : v / 2 < 2 ^ d := by
        rw [Int.pow_succ] at hv
        exact Int.ediv_lt_of_lt_mul (by decide) hv
      have ew : wrap64 (n + 1) = n + 1 := by clear hd hv; unfold wrap64; omega
      rw [if_pos h, ew, ih k (n + 1) (v / 2) (by clear hd hv ew; omega) hd (by clear hd hv ew; omega) (by clear hd hv ew; omega) (by clear hd hv ew; omega), bitsN_half h]
      congr 1
      clear hd hv ew
      omega
    · rw [if_neg h]
      obtain rfl : v = 0 := by clear hv; omega
      rw [bitsN_zero, Int.add_zero]
theorem plumbref03_Bits.l0_eq (x : List Int) (hx : Ws x) (hm : x.length ≤ 17592186044416) : ∀ (n k : Nat), n ≤ x.length → n + 70 < k → nv x = nv (x.take n) → plumbref03_Bits.l0 k x ((n : Int) - 1) = some (bitsN (nv x)) := by
  intro n
  induction n with
  | zero =>
    intro k hn hk hv
    obtain ⟨k, rfl⟩ : ∃ j, k = j + 1 := ⟨k - 1, by omega⟩
    simp only [plumbref03_Bits.l0]
    rw [if_neg (by omega), hv]
    rfl
  | succ n ih =>
    intro k hn hk hv
    obtain ⟨k, rfl⟩ : ∃ j, k = j + 1 := ⟨k - 1, by omega⟩
    have ho := hx.getD n
    have en : ((n + 1 : Nat) : Int) - 1 = (n : Int) := by omega
    have er : rd x (n : Int) = x.getD n 0 := rfl
    have c1 : (n : Int) ≥ 0 := Int.natCast_nonneg _
    have c2 : (n : Int) < (x.length : Int) := Int.ofNat_lt.2 hn
    have ew : wrap64 (64 * (n : Int)) = 64 * (n : Int) := by unfold wrap64; omega
    have ew1 : wrap64 ((n : Int) - 1) = (n : Int) - 1 := by clear ew; unfold wrap64; omega
    rw [nv_take_succ hn] at hv
    simp only [plumbref03_Bits.l0]
    rw [en, if_pos c1, if_pos c1, if_pos c2, er, ew, ew1]
    clear ew ew1 er en
    have h1 := nv_nonneg (hx.take n)
    have h2 := nv_lt (hx.take n)
    rw [List.length_take, Nat.min_eq_left (by omega)] at h2
    have hp := two_pow_pos (64 * n)
    by_cases h : x.getD n 0 > 0
    · rw [if_pos h, plumbref03_Bits.l1_eq 64 k _ _ ho.1 ho.2 (by clear hv h2 hp; omega) (by clear hv h2 hp; omega) (by clear hv h2 hp; omega)]
      have hge : (2 : Int) ^ (64 * n) ≤ nv x := by
        rw [hv]
        have := Int.mul_le_mul_of_nonneg_right (show 1 ≤ x.getD n 0 from h) (Int.le_of_lt hp)
        rw [Int.one_mul] at this
        clear h2
        omega
      have hd : nv x / 2 ^ (64 * n) = x.getD n 0 := by rw [hv, Int.add_mul_ediv_right _ _ (Int.ne_of_gt hp), Int.ediv_eq_zero_of_lt h1 h2, Int.zero_add]
      rw [bitsN_div (64 * n) hge, hd]
      congr 1
    · rw [if_neg h]
      have h0 : x.getD n 0 = 0 := by clear hv h2 hp; omega
      rw [h0, Int.zero_mul, Int.add_zero] at hv
      exact ih k (by clear hv h2 hp; omega) (by clear hv h2 hp; omega) hv
theorem plumbref03_Bits.f_eq (x : List Int) (hx : Ws x) (hm : x.length ≤ 17592186044416) (k : Nat) (hk : x.length + 70 < k) : plumbref03_Bits.f k x = some (bitsN (nv x)) := by
  have ew : wrap64 ((x.length : Int) - 1) = (x.length : Int) - 1 := by unfold wrap64; omega
  rw [plumbref03_Bits.f, ew]
  exact plumbref03_Bits.l0_eq x hx hm x.length k (Nat.le_refl _) hk (by rw [List.take_length])
end Go.Proofs.YtoefabmlkbhmpaaDoor.PA

namespace Go.Proofs.YtoefabmlkbhmpaaDoor.PA
open Go Go.RowKit Go.Proofs.YtoefabmlkbhmpaaDoorW.PrintWords Go.Proofs.YtoefabmlkbhmpaaDoorW.PrintLast Go.Proofs.YtoefabmlkbhmpaaDoorW.PrintMore
set_option linter.unusedVariables false
set_option linter.unusedSimpArgs false
/-- all entries are halves of words -/
def Hs (xs : List Int) : Prop := ∀ x ∈ xs, 0 ≤ x ∧ x < 4294967296
/-- the number of a list of halves -/
def hv : List Int → Int
  | [] => 0
  | x :: xs => x + 4294967296 * hv xs
theorem hv_cons (x : Int) (xs : List Int) : hv (x :: xs) = x + 4294967296 * hv xs := rfl
theorem pow32 (n : Nat) : (2 : Int) ^ (32 * (n + 1)) = 4294967296 * 2 ^ (32 * n) := by
  rw [show 32 * (n + 1) = 32 + 32 * n from by omega, Int.pow_add]; rfl
theorem hv_append (xs ys : List Int) : hv (xs ++ ys) = hv xs + 2 ^ (32 * xs.length) * hv ys := by
  induction xs with
  | nil => simp [hv]
  | cons x xs ih =>
    rw [List.cons_append, hv_cons, hv_cons, ih, List.length_cons, pow32]
    grind
theorem Hs.getD {xs : List Int} (h : Hs xs) (n : Nat) : 0 ≤ xs.getD n 0 ∧ xs.getD n 0 < 4294967296 := by
  rw [List.getD_eq_getElem?_getD]
  cases e : xs[n]? with
  | none => simp
  | some v => simpa using h v (List.mem_of_getElem? e)
theorem Hs.set {xs : List Int} (h : Hs xs) (n : Nat) {v : Int} (h0 : 0 ≤ v) (h1 : v < 4294967296) : Hs (xs.set n v) := by
  intro y hy
  rcases List.mem_or_eq_of_mem_set hy with hy | rfl
  · exact h y hy
  · exact ⟨h0, h1⟩
theorem Hs.snoc {xs : List Int} (h : Hs xs) {v : Int} (h0 : 0 ≤ v) (h1 : v < 4294967296) : Hs (xs ++ [v]) := by
  intro y hy
  rcases List.mem_append.1 hy with hy | hy
  · exact h y hy
  · rcases List.mem_singleton.1 hy with rfl
    exact ⟨h0, h1⟩
theorem hv_take_succ {xs : List Int} {i : Nat} (h : i < xs.length) : hv (xs.take (i + 1)) = hv (xs.take i) + xs.getD i 0 * 2 ^ (32 * i) := by
  rw [List.take_succ_eq_append_getElem h, hv_append, List.length_take, Nat.min_eq_left (by omega), List.getD_eq_getElem?_getD, List.getElem?_eq_getElem h]
  simp [hv]
  rw [Int.mul_comm]
end Go.Proofs.YtoefabmlkbhmpaaDoor.PA

namespace Go.Proofs.YtoefabmlkbhmpaaDoor.PA
open Go Go.RowKit Go.Proofs.YtoefabmlkbhmpaaDoorW.PrintWords Go.Proofs.YtoefabmlkbhmpaaDoorW.PrintLast Go.Proofs.YtoefabmlkbhmpaaDoorW.PrintMore
set_option linter.unusedVariables false
set_option linter.unusedSimpArgs false
theorem take_snocD {xs : List Int} {i : Nat} (h : i < xs.length) : xs.take (i + 1) = xs.take i ++ [xs.getD i 0] := by
  rw [List.take_succ_eq_append_getElem h, List.getD_eq_getElem?_getD, List.getElem?_eq_getElem h]; rfl
theorem plumbref03_Norm.l1_eq (x : List Int) (n : Nat) (hn : n ≤ x.length) (hm : x.length ≤ 17592186044416) : ∀ (d k i : Nat), d = n - i → d < k → i ≤ n → plumbref03_Norm.l1 k x (n : Int) (x.take i) (i : Int) = some (x.take n) := by
  intro d
  induction d with
  | zero =>
    intro k i hd hk hi
    obtain ⟨k, rfl⟩ : ∃ j, k = j + 1 := ⟨k - 1, by omega⟩
    obtain rfl : i = n := by omega
    rw [plumbref03_Norm.l1, if_neg (by omega)]
  | succ d ih =>
    intro k i hd hk hi
    obtain ⟨k, rfl⟩ : ∃ j, k = j + 1 := ⟨k - 1, by omega⟩
    have ht : (x.take i).length ≤ i := List.length_take_le _ _
    rw [plumbref03_Norm.l1, if_pos (by omega), if_pos (by omega), if_pos (by omega), if_pos (by omega), rdn, w64_s i (by omega), ← take_snocD (by omega)]
    exact ih k (i + 1) (by omega) (by omega) (by omega)
theorem plumbref03_Norm.l0_eq (x : List Int) (hm : x.length ≤ 17592186044416) : ∀ (n k : Nat), n ≤ x.length → x.length + n + 2 < k → strip x = strip (x.take n) → plumbref03_Norm.l0 k x (n : Int) = some (strip x) := by
  intro n
  induction n with
  | zero =>
    intro k hn hk hs
    obtain ⟨k, rfl⟩ : ∃ j, k = j + 2 := ⟨k - 2, by omega⟩
    rw [plumbref03_Norm.l0, if_neg (by omega), plumbref03_Norm.j1]
    have := plumbref03_Norm.l1_eq x 0 (by omega) hm 0 k 0 (by omega) (by omega) (by omega)
    rw [List.take_zero] at this hs
    rw [hs]
    exact this
  | succ n ih =>
    intro k hn hk hs
    obtain ⟨k, rfl⟩ : ∃ j, k = j + 2 := ⟨k - 2, by omega⟩
    rw [take_snocD (by omega)] at hs
    rw [plumbref03_Norm.l0, if_pos (by omega), w64_p n (by omega), if_pos (by omega), if_pos (by omega), rdn]
    by_cases h0 : x.getD n 0 = 0
    · rw [if_pos h0]
      rw [h0, strip_snoc_zero] at hs
      exact ih (k + 1) (by omega) (by omega) hs
    · rw [if_neg h0, plumbref03_Norm.j1]
      have := plumbref03_Norm.l1_eq x (n + 1) hn hm (n + 1) k 0 (by omega) (by omega) (by omega)
      rw [List.take_zero] at this
      rw [strip_snoc_ne _ h0, ← take_snocD (by omega)] at hs
      rw [hs]
      exact this
theorem plumbref03_Norm.f_eq (x : List Int) (hm : x.length ≤ 17592186044416) (k : Nat) (hk : 2 * x.length + 2 < k) : plumbref03_Norm.f k x = some (strip x) := by
  rw [plumbref03_Norm.f]
  exact plumbref03_Norm.l0_eq x hm x.length k (Nat.le_refl _) (by omega) (by rw [List.take_length])
theorem plumbref03_at.f_eq (x : List Int) (n : Nat) : plumbref03_at.f x (n : Int) = some (x.getD n 0) := by
  unfold plumbref03_at.f
  by_cases h : n < x.length
  · rw [if_pos (by omega), if_pos (by omega), rdn]
  · rw [if_neg (by omega), List.getD_eq_getElem?_getD, List.getElem?_eq_none (by omega)]; rfl
theorem nv_take_any (xs : List Int) (i : Nat) : nv (xs.take (i + 1)) = nv (xs.take i) + xs.getD i 0 * 2 ^ (64 * i) := by
  by_cases h : i < xs.length
  · exact nv_take_succ h
  · rw [List.take_of_length_le (by omega), List.take_of_length_le (by omega), List.getD_eq_getElem?_getD, List.getElem?_eq_none (by omega)]
    simp
theorem nv_take_lt {xs : List Int} (h : Ws xs) (i : Nat) : nv (xs.take i) < 2 ^ (64 * i) := by
  have h1 := nv_lt (h.take i)
  have h2 : (xs.take i).length ≤ i := List.length_take_le _ _
  exact Int.lt_of_lt_of_le h1 (pow_mono (by omega))
end Go.Proofs.YtoefabmlkbhmpaaDoor.PA

namespace Go.Proofs.YtoefabmlkbhmpaaDoor.PA
open Go Go.RowKit Go.Proofs.YtoefabmlkbhmpaaDoorW.PrintWords Go.Proofs.YtoefabmlkbhmpaaDoorW.PrintLast Go.Proofs.YtoefabmlkbhmpaaDoorW.PrintMore
set_option linter.unusedVariables false
set_option linter.unusedSimpArgs false
def cmpZ (a b : Int) : Int := if a < b then -1 else if a > b then 1 else 0
theorem cmpZ_high {a b x y P : Int} (ha0 : 0 ≤ a) (ha : a < P) (hb0 : 0 ≤ b) (hb : b < P) : cmpZ (a + x * P) (b + y * P) = if x < y then -1 else if x > y then 1 else cmpZ a b := by
  unfold cmpZ
  by_cases h1 : x < y
  · have : (x + 1) * P ≤ y * P := Int.mul_le_mul_of_nonneg_right (by omega) (by omega)
    rw [Int.add_mul, Int.one_mul] at this
    rw [if_pos h1, if_pos (by omega)]
  · rw [if_neg h1]
    by_cases h2 : x > y
    · have : (y + 1) * P ≤ x * P := Int.mul_le_mul_of_nonneg_right (by omega) (by omega)
      rw [Int.add_mul, Int.one_mul] at this
      rw [if_pos h2, if_neg (by omega), if_pos (by omega)]
    · obtain rfl : x = y := by omega
      rw [if_neg h2]
      by_cases h3 : a < b
      · rw [if_pos h3, if_pos (by omega)]
      · rw [if_neg h3, if_neg (by omega)]
        by_cases h4 : a > b
        · rw [if_pos h4, if_pos (by omega)]
        · rw [if_neg h4, if_neg (by omega)]
theorem plumbref03_Cmp.l0_eq (x y : List Int) (hx : Ws x) (hy : Ws y) : ∀ (n k : Nat), n < k → n ≤ 35184372088832 → plumbref03_Cmp.l0 k x y ((n : Int) - 1) = some (cmpZ (nv (x.take n)) (nv (y.take n))) := by
  intro n
  induction n with
  | zero =>
    intro k hk _
    obtain ⟨k, rfl⟩ : ∃ j, k = j + 1 := ⟨k - 1, by omega⟩
    rw [plumbref03_Cmp.l0, if_neg (by omega)]
    rfl
  | succ n ih =>
    intro k hk hn
    obtain ⟨k, rfl⟩ : ∃ j, k = j + 1 := ⟨k - 1, by omega⟩
    have er : ((n + 1 : Nat) : Int) - 1 = (n : Int) := by omega
    have hw : wrap64 ((n : Int) - 1) = (n : Int) - 1 := w64_of (by omega) (by omega)
    rw [plumbref03_Cmp.l0, er, if_pos (by omega), plumbref03_at.f_eq, plumbref03_at.f_eq, Option.bind_some, Option.bind_some, nv_take_any, nv_take_any,
      cmpZ_high (nv_nonneg (hx.take n)) (nv_take_lt hx n) (nv_nonneg (hy.take n)) (nv_take_lt hy n)]
    by_cases h1 : x.getD n 0 < y.getD n 0
    · rw [if_pos h1, if_pos h1]
    · rw [if_neg h1, if_neg h1, Option.bind_some, Option.bind_some]
      by_cases h2 : x.getD n 0 > y.getD n 0
      · rw [if_pos h2, if_pos h2]
      · rw [if_neg h2, if_neg h2, hw]
        exact ih k (by omega) (by omega)
theorem plumbref03_Cmp.f_eq (x y : List Int) (hx : Ws x) (hy : Ws y) (hmx : x.length ≤ 17592186044416) (hmy : y.length ≤ 17592186044416) (k : Nat) (hk : x.length + y.length + 2 < k) : plumbref03_Cmp.f k x y = some (cmpZ (nv x) (nv y)) := by
  obtain ⟨k, rfl⟩ : ∃ j, k = j + 1 := ⟨k - 1, by omega⟩
  have main : ∀ n : Nat, x.length ≤ n → y.length ≤ n → n ≤ x.length + y.length → plumbref03_Cmp.j0 (k + 1) x y (n : Int) = some (cmpZ (nv x) (nv y)) := by
    intro n h1 h2 h3
    rw [plumbref03_Cmp.j0, w64_of (by omega) (by omega), plumbref03_Cmp.l0_eq x y hx hy n k (by omega) (by omega), List.take_of_length_le h1, List.take_of_length_le h2]
  rw [plumbref03_Cmp.f]
  by_cases h : (y.length : Int) > (x.length : Int)
  · rw [if_pos h]; exact main _ (by omega) (by omega) (by omega)
  · rw [if_neg h]; exact main _ (by omega) (by omega) (by omega)
theorem plumbref03_Word.f_eq {v : Int} (h0 : 0 ≤ v) (h1 : v < 18446744073709551616) (k : Nat) (hk : 5 ≤ k) : plumbref03_Word.f k v = some (wd v.toNat) := by
  have hw : Ws [v] := Ws.cons h0 h1 Ws.nil
  have e := wd_nv hw
  have hn : nv [v] = v := by simp [nv]
  rw [hn] at e
  rw [plumbref03_Word.f, plumbref03_Norm.f_eq [v] (by simp) k (by simp; omega), Option.bind_some, e]
theorem nv_snoc (xs : List Int) (v : Int) : nv (xs ++ [v]) = nv xs + 2 ^ (64 * xs.length) * v := by
  rw [nv_append]; simp [nv]
theorem Ws_snoc {xs : List Int} (h : Ws xs) {v : Int} (h0 : 0 ≤ v) (h1 : v < 18446744073709551616) : Ws (xs ++ [v]) := h.append (Ws.cons h0 h1 Ws.nil)
theorem plumbref03_Shl.l1_eq (x : List Int) (hx : Ws x) (q s : Nat) (hs : s ≤ 63) (hm : x.length + q ≤ 17592186044415) : ∀ (d k i : Nat) (acc : List Int) (c : Int), d = x.length - i → d + 2 * (x.length + q) + 10 < k → i ≤ x.length → acc.length = q + i → Ws acc → 0 ≤ c → c < 2 ^ s → nv acc + 2 ^ (64 * (q + i)) * c = nv (x.take i) * 2 ^ s * 2 ^ (64 * q) →
    plumbref03_Shl.l1 k x acc (s : Int) c (i : Int) = some (wd (nv x * 2 ^ (64 * q + s)).toNat) := by
  have hP := two_pow_pos s
  have hR := two_pow_pos (64 - s)
  have hPR := pow_split (s := s) (by omega)
  have hle : (2 : Int) ^ s ≤ 2 ^ 63 := pow_mono hs
  rw [show (2 : Int) ^ 63 = 9223372036854775808 from by decide] at hle
  intro d
  induction d with
  | zero =>
    intro k i acc c hd hk hi hl hw hc0 hc he
    obtain ⟨k, rfl⟩ : ∃ j, k = j + 1 := ⟨k - 1, by omega⟩
    obtain rfl : i = x.length := by omega
    rw [List.take_length] at he
    have hw2 := Ws_snoc hw hc0 (by omega : c < 18446744073709551616)
    rw [plumbref03_Shl.l1, if_neg (by omega), if_pos (by omega), plumbref03_Norm.f_eq _ (by rw [List.length_append, List.length_singleton]; omega) k (by rw [List.length_append, List.length_singleton]; omega), Option.bind_some, ← wd_nv hw2, nv_snoc, hl, he, Int.mul_assoc, ← Int.pow_add, Nat.add_comm s]
  | succ d ih =>
    intro k i acc c hd hk hi hl hw hc0 hc he
    obtain ⟨k, rfl⟩ : ∃ j, k = j + 1 := ⟨k - 1, by omega⟩
    have ho := hx.getD i
    have hy : x.getD i 0 / 2 ^ (64 - s) < 2 ^ s := Int.ediv_lt_of_lt_mul hR (by rw [hPR]; exact ho.2)
    have hy0 : 0 ≤ x.getD i 0 / 2 ^ (64 - s) := Int.ediv_nonneg ho.1 (Int.le_of_lt hR)
    have hlow := shl_low (x := x.getD i 0) hP hPR
    have hm1 := Int.emod_nonneg (x.getD i 0 * 2 ^ s) (show (18446744073709551616 : Int) ≠ 0 by decide)
    have hm2 := Int.emod_lt_of_pos (x.getD i 0 * 2 ^ s) (show (0 : Int) < 18446744073709551616 by decide)
    have g1 : x.getD i 0 % 2 ^ (64 - s) < 2 ^ (64 - s) := Int.emod_lt_of_pos _ hR
    have hsum : x.getD i 0 * 2 ^ s % 18446744073709551616 + c < 18446744073709551616 := by
      rw [hlow, ← hPR]
      have h3 : 2 ^ s * (x.getD i 0 % 2 ^ (64 - s) + 1) ≤ 2 ^ s * 2 ^ (64 - s) := Int.mul_le_mul_of_nonneg_left g1 (Int.le_of_lt hP)
      rw [Int.mul_add, Int.mul_one] at h3
      omega
    have e1 : shl .u64 (x.getD i 0) (s : Int) = x.getD i 0 * 2 ^ s % 18446744073709551616 := by rw [shl_eq, Int.toNat_natCast, Nat.min_eq_left (by omega)]
    have e2 : Go.bits .or .u64 (x.getD i 0 * 2 ^ s % 18446744073709551616) c = x.getD i 0 * 2 ^ s % 18446744073709551616 + c := or_join s hm1 hm2 (by rw [hlow, Int.mul_emod_right]) hc0 hc (by omega)
    have e3 : ∀ (z : Int), nv (acc ++ [x.getD i 0 * 2 ^ s % 18446744073709551616 + c]) + 2 ^ (64 * (q + (i + 1))) * (x.getD i 0 / 2 ^ (64 - s)) = nv (x.take (i + 1)) * 2 ^ s * 2 ^ (64 * q) := by
      intro _
      rw [nv_snoc, hl, nv_take_succ (by omega), show q + (i + 1) = (q + i) + 1 from rfl, pow64, Int.add_mul, Int.add_mul, ← he]
      have h2 := shl_word (x := x.getD i 0) hP hPR
      have e4 : x.getD i 0 * 2 ^ (64 * i) * 2 ^ s * 2 ^ (64 * q) = x.getD i 0 * 2 ^ s * 2 ^ (64 * (q + i)) := by
        rw [show 64 * (q + i) = 64 * i + 64 * q from by omega, Int.pow_add]; grind
      rw [e4]
      generalize x.getD i 0 * 2 ^ s % 18446744073709551616 = v at *
      rw [h2]
      generalize x.getD i 0 / 2 ^ (64 - s) = u
      generalize (2 : Int) ^ (64 * (q + i)) = p
      grind
    rw [plumbref03_Shl.l1, if_pos (by omega), if_pos (by omega), if_pos (by omega), if_pos (by omega), Option.bind_some, rdn, e1, e2, w64_s i (by omega)]
    have hlen : (acc ++ [x.getD i 0 * 2 ^ s % 18446744073709551616 + c]).length = q + (i + 1) := by rw [List.length_append, List.length_singleton]; omega
    by_cases hs0 : s = 0
    · subst hs0
      rw [if_neg (by decide)]
      have hz : x.getD i 0 / 2 ^ (64 - 0) = 0 := by
        rw [show (2 : Int) ^ (64 - 0) = 18446744073709551616 from by decide]; omega
      have e5 := e3 0
      rw [hz] at e5
      exact ih k (i + 1) _ 0 (by omega) (by omega) (by omega) hlen (Ws_snoc hw (by omega) hsum) (by decide) (by decide) e5
    · have e6 : wrap64 (64 - (s : Int)) = ((64 - s : Nat) : Int) := by rw [w64_of (by omega) (by omega)]; omega
      have e7 : shr .u64 (x.getD i 0) ((64 - s : Nat) : Int) = x.getD i 0 / 2 ^ (64 - s) := by rw [shr_eq, Int.toNat_natCast, Nat.min_eq_left (by omega)]
      rw [if_pos (by omega), e6, if_pos (Int.natCast_nonneg _), e7]
      exact ih k (i + 1) _ _ (by omega) (by omega) (by omega) hlen (Ws_snoc hw (by omega) hsum) hy0 hy (e3 0)
theorem plumbref03_Shl.l0_eq (x : List Int) (hx : Ws x) (n : Nat) (hn : n ≤ 4503599627370496) (hm : x.length + n / 64 ≤ 17592186044415) : ∀ (d k i : Nat), d = n / 64 - i → d + 4 * (x.length + n / 64) + 20 < k → i ≤ n / 64 → plumbref03_Shl.l0 k x (n : Int) (List.replicate i 0) (i : Int) = some (wd (nv x * 2 ^ n).toNat) := by
  have e1 : wrap64 (Int.tdiv (n : Int) 64) = ((n / 64 : Nat) : Int) := by
    rw [Int.tdiv_eq_ediv_of_nonneg (by omega), w64_of (by omega) (by omega)]; omega
  have e2 : Int.tmod (n : Int) 64 = ((n % 64 : Nat) : Int) := by
    rw [Int.tmod_eq_emod_of_nonneg (by omega)]; omega
  intro d
  induction d with
  | zero =>
    intro k i hd hk hi
    obtain ⟨k, rfl⟩ : ∃ j, k = j + 1 := ⟨k - 1, by omega⟩
    obtain rfl : i = n / 64 := by omega
    rw [plumbref03_Shl.l0, e1, if_neg (by omega), e2]
    have r := plumbref03_Shl.l1_eq x hx (n / 64) (n % 64) (by omega) hm x.length k 0 (List.replicate (n / 64) 0) 0 (by omega) (by omega) (by omega) (by simp) (Ws.zeros _) (by decide) (two_pow_pos _) (by rw [nv_zeros]; simp [nv])
    rw [show 64 * (n / 64) + n % 64 = n from by omega] at r
    exact r
  | succ d ih =>
    intro k i hd hk hi
    obtain ⟨k, rfl⟩ : ∃ j, k = j + 1 := ⟨k - 1, by omega⟩
    rw [plumbref03_Shl.l0, e1, if_pos (by omega), if_pos (by rw [List.length_replicate]; omega), w64_s i (by omega)]
    have : List.replicate i (0 : Int) ++ [0] = List.replicate (i + 1) 0 := by rw [← List.replicate_succ']
    rw [this]
    exact ih k (i + 1) (by omega) (by omega) (by omega)
theorem plumbref03_Shl.f_eq (x : List Int) (hx : Ws x) (n : Nat) (hn : n ≤ 4503599627370496) (hm : x.length + n / 64 ≤ 17592186044415) (k : Nat) (hk : n / 64 + 4 * (x.length + n / 64) + 20 < k) : plumbref03_Shl.f k x (n : Int) = some (wd (nv x * 2 ^ n).toNat) := by
  rw [plumbref03_Shl.f]
  exact plumbref03_Shl.l0_eq x hx n hn hm (n / 64) k 0 (by omega) hk (by omega)
end Go.Proofs.YtoefabmlkbhmpaaDoor.PA

namespace Go.Proofs.YtoefabmlkbhmpaaDoor.PA
open Go Go.RowKit Go.Proofs.YtoefabmlkbhmpaaDoorW.PrintWords Go.Proofs.YtoefabmlkbhmpaaDoorW.PrintLast Go.Proofs.YtoefabmlkbhmpaaDoorW.PrintMore
set_option linter.unusedVariables false
set_option linter.unusedSimpArgs false
theorem hvm_nonneg {xs : List Int} (h : Hs xs) : 0 ≤ hv xs := by
  induction xs with
  | nil => exact Int.le_refl 0
  | cons x xs ih =>
    have h1 := ih (fun y hy => h y (List.mem_cons_of_mem _ hy))
    have h2 := h x List.mem_cons_self
    rw [hv_cons]; omega
theorem Hs_take {xs : List Int} (h : Hs xs) (n : Nat) : Hs (xs.take n) := fun y hy => h y (List.mem_of_mem_take hy)
theorem Hs_drop {xs : List Int} (h : Hs xs) (n : Nat) : Hs (xs.drop n) := fun y hy => h y (List.mem_of_mem_drop hy)
theorem hvm_split (xs : List Int) {n : Nat} (h : n ≤ xs.length) : hv xs = hv (xs.take n) + 2 ^ (32 * n) * hv (xs.drop n) := by
  conv => lhs; rw [← List.take_append_drop n xs]
  rw [hv_append, List.length_take, Nat.min_eq_left h]
theorem hvm_zero_of_lt {xs : List Int} (h : Hs xs) {t : Nat} (hl : hv xs < 2 ^ (32 * t)) : xs.getD t 0 = 0 := by
  by_cases ht : t < xs.length
  · have e1 := hvm_split xs (n := t) (by omega)
    have h1 := hvm_nonneg (Hs_take h t)
    have h2 := hvm_nonneg (Hs_drop h t)
    have hp := two_pow_pos (32 * t)
    have h3 : hv (xs.drop t) < 1 := by
      apply Classical.byContradiction
      intro hn
      have : 2 ^ (32 * t) * 1 ≤ 2 ^ (32 * t) * hv (xs.drop t) := Int.mul_le_mul_of_nonneg_left (by omega) (Int.le_of_lt hp)
      omega
    rw [List.drop_eq_getElem_cons ht, hv_cons] at h3
    have h4 := hvm_nonneg (Hs_drop h (t + 1))
    have h5 := h.getD t
    rw [List.getD_eq_getElem?_getD, List.getElem?_eq_getElem ht] at h5 ⊢
    simp only [Option.getD_some] at h5 ⊢
    clear e1 hl h1 h2 hp
    omega
  · rw [List.getD_eq_getElem?_getD, List.getElem?_eq_none (by omega)]; rfl
theorem hvm_set {xs : List Int} {n : Nat} (h : n < xs.length) (v : Int) : hv (xs.set n v) = hv xs + (v - xs.getD n 0) * 2 ^ (32 * n) := by
  have e1 := hvm_split xs (n := n) (by omega)
  have e2 := hvm_split (xs.set n v) (n := n) (by rw [List.length_set]; omega)
  rw [e2, e1, List.take_set_of_le (Nat.le_refl n), List.drop_eq_getElem_cons (by rw [List.length_set]; exact h), List.drop_eq_getElem_cons h, hv_cons, hv_cons, List.getElem_set_self, List.getD_eq_getElem?_getD, List.getElem?_eq_getElem h, Option.getD_some, List.drop_set_of_lt (by omega)]
  grind
/-- the j-th half of a number -/
def hlf (v : Int) (j : Nat) : Int := v / 2 ^ (32 * j) % 4294967296
theorem hlf_bd (v : Int) (j : Nat) : 0 ≤ hlf v j ∧ hlf v j < 4294967296 := by unfold hlf; omega
theorem hlf_succ (v : Int) (j : Nat) : v % 2 ^ (32 * (j + 1)) = v % 2 ^ (32 * j) + hlf v j * 2 ^ (32 * j) := by
  unfold hlf
  rw [pow32]
  have hp := two_pow_pos (32 * j)
  generalize (2 : Int) ^ (32 * j) = p at *
  have e1 := Int.mul_ediv_add_emod v p
  have b1 := Int.emod_nonneg v (Int.ne_of_gt hp)
  have b2 := Int.emod_lt_of_pos v hp
  have e2 : v = (v % p + v / p % 4294967296 * p) + 4294967296 * p * (v / p / 4294967296) := by
    have e3 : v / p = 4294967296 * (v / p / 4294967296) + v / p % 4294967296 := by omega
    generalize v / p / 4294967296 = a at *
    generalize v / p % 4294967296 = b at *
    rw [e3] at e1
    rw [← e1]
    grind
  conv => lhs; rw [e2]
  rw [Int.add_mul_emod_self_left]
  apply Int.emod_eq_of_lt
  · have := Int.mul_nonneg (show 0 ≤ v / p % 4294967296 from by omega) (Int.le_of_lt hp)
    omega
  · have : (v / p % 4294967296 + 1) * p ≤ 4294967296 * p := Int.mul_le_mul_of_nonneg_right (by omega) (Int.le_of_lt hp)
    rw [Int.add_mul, Int.one_mul] at this
    omega
theorem nv_at {y : List Int} (hy : Ws y) (i : Nat) : nv y / 2 ^ (64 * i) % 18446744073709551616 = y.getD i 0 := by
  by_cases h : i < y.length
  · have e1 := nv_split (xs := y) (n := i) (by omega)
    have h1 := nv_nonneg (hy.take i)
    have h2 := nv_take_lt hy i
    have hp := two_pow_pos (64 * i)
    have e2 : nv y / 2 ^ (64 * i) = nv (y.drop i) := by
      rw [e1, Int.add_mul_ediv_left _ _ (Int.ne_of_gt hp), Int.ediv_eq_zero_of_lt h1 h2, Int.zero_add]
    have hg := hy.getD i
    rw [e2, List.drop_eq_getElem_cons h, nv_cons]
    rw [List.getD_eq_getElem?_getD, List.getElem?_eq_getElem h, Option.getD_some] at hg ⊢
    clear e1 e2 h1 h2 hp
    omega
  · have h1 := nv_lt hy
    have h2 : (2 : Int) ^ (64 * y.length) ≤ 2 ^ (64 * i) := pow_mono (by omega)
    rw [Int.ediv_eq_zero_of_lt (nv_nonneg hy) (by omega), List.getD_eq_getElem?_getD, List.getElem?_eq_none (by omega)]
    rfl
theorem hlf_code {y : List Int} (hy : Ws y) (j : Nat) (hj : j < 4611686018427387904) : Go.bits .and .u64 (shr .u64 (rd y (wrap64 (Int.tdiv (j : Int) 2))) (wrap64 (32 * Int.tmod (j : Int) 2))) 4294967295 = hlf (nv y) j := by
  have e1 : wrap64 (Int.tdiv (j : Int) 2) = ((j / 2 : Nat) : Int) := by
    rw [Int.tdiv_eq_ediv_of_nonneg (by omega), w64_of (by omega) (by omega)]; omega
  have e2 : wrap64 (32 * Int.tmod (j : Int) 2) = ((32 * (j % 2) : Nat) : Int) := by
    rw [Int.tmod_eq_emod_of_nonneg (by omega), w64_of (by omega) (by omega)]; omega
  have hg := hy.getD (j / 2)
  have e0 := nv_at hy (j / 2)
  unfold hlf
  have ej : (2 : Int) ^ (32 * j) = 2 ^ (64 * (j / 2)) * 2 ^ (32 * (j % 2)) := by rw [← Int.pow_add]; congr 1; omega
  rw [e1, e2, rdn, shr_eq, Int.toNat_natCast, Nat.min_eq_left (by omega), ej, ← Int.ediv_ediv_of_nonneg (Int.le_of_lt (two_pow_pos _))]
  generalize nv y / 2 ^ (64 * (j / 2)) = w at *
  rw [← e0] at hg ⊢
  rcases Nat.mod_two_eq_zero_or_one j with h | h
  · rw [h, show (2 : Int) ^ (32 * 0) = 1 from by decide, and_half (by omega) (by omega)]
    omega
  · rw [h, show (2 : Int) ^ (32 * 1) = 4294967296 from by decide, and_half (by omega) (by omega)]
    omega
theorem mulh_step {a b o c : Int} (ha0 : 0 ≤ a) (ha : a < 4294967296) (hb0 : 0 ≤ b) (hb : b < 4294967296) (ho0 : 0 ≤ o) (ho : o < 4294967296) (hc0 : 0 ≤ c) (hc : c < 4294967296) :
    ∃ s, IntKind.u64.wrap (IntKind.u64.wrap (IntKind.u64.wrap (a * b) + o) + c) = s ∧ s = a * b + o + c ∧ Go.bits .and .u64 s 4294967295 = s % 4294967296 ∧ 0 ≤ s % 4294967296 ∧ s % 4294967296 < 4294967296 ∧ 0 ≤ s / 4294967296 ∧ s / 4294967296 < 4294967296 := by
  have hm := mul_half ha0 ha hb0 hb
  generalize a * b = z at *
  refine ⟨z + o + c, ?_, rfl, and_half (by omega) (by omega), by omega, by omega, by omega, by omega⟩
  rw [u64w_of (x := z) (by omega) (by omega), u64w_of (x := z + o) (by omega) (by omega), u64w_of (by omega) (by omega)]
theorem plumbref03_Mul.l1_eq (x y : List Int) (hy : Ws y) (i m n : Nat) (hn : n = 2 * y.length) (a : Int) (ha0 : 0 ≤ a) (ha : a < 4294967296) (hm : m ≤ 35184372088832) (him : i + n < m) :
    ∀ (d k : Nat) (out : List Int) (c : Int) (j : Nat), d = n - j → j ≤ n → out.length = m → Hs out → 0 ≤ c → c < 4294967296 → out.getD (i + n) 0 = 0 →
    ∃ out' c', Hs out' ∧ out'.length = m ∧ 0 ≤ c' ∧ c' < 4294967296 ∧ out'.getD (i + n) 0 = 0 ∧
      hv out' + c' * 2 ^ (32 * (i + n)) + a * (nv y % 2 ^ (32 * j)) * 2 ^ (32 * i) = hv out + c * 2 ^ (32 * (i + j)) + a * (nv y % 2 ^ (32 * n)) * 2 ^ (32 * i) ∧
      plumbref03_Mul.l1 (k + d + 1) x y out i a c j = plumbref03_Mul.l0 k x y (out'.set (i + n) c') ((i + 1 : Nat) : Int) := by
  have hw0 : wrap64 (2 * (y.length : Int)) = (n : Int) := by rw [w64_of (by omega) (by omega)]; omega
  intro d
  induction d with
  | zero =>
    intro k out c j hd hj hl hw hc0 hc hz
    obtain rfl : j = n := by omega
    refine ⟨out, c, hw, hl, hc0, hc, hz, rfl, ?_⟩
    rw [Nat.add_zero, plumbref03_Mul.l1, hw0, if_neg (by omega), w64_add i j (by omega), w64_succ i (by omega), Int.toNat_natCast, if_pos (by omega), if_pos (by omega), rdn, hz, Int.zero_add, u64w_of hc0 (by omega)]
  | succ d ih =>
    intro k out c j hd hj hl hw hc0 hc hz
    have b1 : i + j < 9223372036854775808 := by omega
    have b2 : j < 9223372036854775807 := by omega
    have q0 : (j : Int) < (n : Int) := by omega
    have q2 : (0 : Int) ≤ ((i + j : Nat) : Int) := by omega
    have q3 : ((i + j : Nat) : Int) < (out.length : Int) := by omega
    have q4 : d = n - (j + 1) := by omega
    have q5 : j + 1 ≤ n := by omega
    have q6 : i + j ≠ i + n := by omega
    have q7 : i + j < out.length := by omega
    have e1 : wrap64 (Int.tdiv (j : Int) 2) = ((j / 2 : Nat) : Int) := by
      rw [Int.tdiv_eq_ediv_of_nonneg (by omega), w64_of (by omega) (by omega)]; omega
    have e2 : wrap64 (32 * Int.tmod (j : Int) 2) = ((32 * (j % 2) : Nat) : Int) := by
      rw [Int.tmod_eq_emod_of_nonneg (by omega), w64_of (by omega) (by omega)]; omega
    have q8 : (0 : Int) ≤ ((j / 2 : Nat) : Int) := by omega
    have q9 : ((j / 2 : Nat) : Int) < (y.length : Int) := by omega
    have q10 : (0 : Int) ≤ ((32 * (j % 2) : Nat) : Int) := by omega
    have ec := hlf_code hy j (by omega)
    have hyj := hlf_bd (nv y) j
    have hoj := hw.getD (i + j)
    obtain ⟨s, es, ev, ea, hv0, hv1, hc0', hc'⟩ := mulh_step ha0 ha hyj.1 hyj.2 hoj.1 hoj.2 hc0 hc
    obtain ⟨out', c2, h1, h2, h3, h4, h5, h6, h7⟩ := ih k (out.set (i + j) (s % 4294967296)) (s / 4294967296) (j + 1) q4 q5 (by rw [List.length_set, hl]) (hw.set _ hv0 hv1) hc0' hc' (by rw [set_getD_ne q6]; exact hz)
    refine ⟨out', c2, h1, h2, h3, h4, h5, ?_, ?_⟩
    · rw [hvm_set q7, hlf_succ] at h6
      clear e1 e2 ec es ea
      rw [show 32 * (i + (j + 1)) = 32 * (i + j + 1) from by omega, pow32, show 32 * (i + j) = 32 * i + 32 * j from by omega, Int.pow_add] at h6
      rw [show 32 * (i + j) = 32 * i + 32 * j from by omega, Int.pow_add]
      generalize nv y % 2 ^ (32 * n) = T at *
      generalize nv y % 2 ^ (32 * j) = U at *
      generalize (2 : Int) ^ (32 * i) = pi at *
      generalize (2 : Int) ^ (32 * j) = pj at *
      generalize out.getD (i + j) 0 = o at *
      generalize hlf (nv y) j = yj at *
      have e9 : s % 4294967296 = a * yj + o + c - s / 4294967296 * 4294967296 := by rw [← ev]; omega
      rw [e9] at h6
      generalize s / 4294967296 = c' at *
      clear h7 ih hyj hoj e9 ev
      grind
    · rw [← h7, show k + (d + 1) + 1 = (k + d + 1) + 1 from by omega, plumbref03_Mul.l1, ec, e1, e2, hw0, w64_add i j b1, w64_succ j b2, if_pos q0, if_pos q8, if_pos q9, if_pos q10, if_pos q2, if_pos q3, rdn, es, ea, Int.toNat_natCast]
theorem wordh_join {lo hi : Int} (h0 : 0 ≤ lo) (h1 : lo < 4294967296) (h2 : 0 ≤ hi) (h3 : hi < 4294967296) : Go.bits .or .u64 lo (IntKind.u64.wrap (hi * 4294967296)) = lo + hi * 4294967296 := by
  rw [u64w_of (by omega) (by omega)]
  exact or_join' 32 (by omega) (by omega) (show hi * 4294967296 % 4294967296 = 0 by omega) h0 (show lo < 4294967296 from h1) (by omega)
theorem plumbref03_Mul.l2_eq (out : List Int) (ho : Hs out) (m : Nat) (hl : out.length = 2 * m + 1) (hm : m ≤ 17592186044415) (hv_ : hv out < 2 ^ (64 * m)) : ∀ (d k : Nat) (acc : List Int) (t : Nat), d = m - t → t ≤ m → d + 2 * m + 3 < k → acc.length = t → Ws acc → nv acc = hv (out.take (2 * t)) →
    plumbref03_Mul.l2 k out acc ((2 * t : Nat) : Int) = some (wd (hv out).toNat) := by
  intro d
  induction d with
  | zero =>
    intro k acc t hd ht hk ha hw he
    obtain ⟨k, rfl⟩ : ∃ j, k = j + 1 := ⟨k - 1, by omega⟩
    obtain rfl : t = m := by omega
    have hz : out.getD (2 * t) 0 = 0 := hvm_zero_of_lt ho (by rw [show 32 * (2 * t) = 64 * t from by omega]; exact hv_)
    have e1 : hv out = nv acc := by
      have e2 := hv_take_succ (xs := out) (i := 2 * t) (by omega)
      rw [List.take_of_length_le (by omega), hz, Int.zero_mul, Int.add_zero] at e2
      rw [e2, he]
    rw [plumbref03_Mul.l2, w64_s _ (by omega), if_neg (by omega), plumbref03_Norm.f_eq _ (by omega) k (by omega), Option.bind_some, e1, wd_nv hw]
  | succ d ih =>
    intro k acc t hd ht hk ha hw he
    obtain ⟨k, rfl⟩ : ∃ j, k = j + 1 := ⟨k - 1, by omega⟩
    have g1 := ho.getD (2 * t)
    have g2 := ho.getD (2 * t + 1)
    have ew2 : wrap64 (((2 * t : Nat) : Int) + 2) = ((2 * (t + 1) : Nat) : Int) := by rw [w64_of (by omega) (by omega)]; omega
    rw [plumbref03_Mul.l2, w64_s _ (by omega), ew2, if_pos (by omega), if_pos (by omega), if_pos (by omega), if_pos (by omega), if_pos (by omega), rdn, rdn, wordh_join g1.1 g1.2 g2.1 g2.2]
    refine ih k _ (t + 1) (by omega) (by omega) (by omega) (by rw [List.length_append, List.length_singleton, ha]) (hw.append (Ws.cons (by omega) (by omega) Ws.nil)) ?_
    rw [nv_append, he, show 2 * (t + 1) = 2 * t + 1 + 1 from by omega, hv_take_succ (by omega), hv_take_succ (by omega), pow32, ha, show 32 * (2 * t) = 64 * t from by omega]
    simp only [nv_cons, nv_nil]
    generalize (2 : Int) ^ (64 * t) = p
    generalize out.getD (2 * t) 0 = a
    generalize out.getD (2 * t + 1) 0 = b
    grind
theorem plumbref03_Mul.l0_eq (x y : List Int) (hx : Ws x) (hy : Ws y) (m : Nat) (hm : m ≤ 17592186044415) (hlm : x.length + y.length = m) : ∀ (d k : Nat) (out : List Int) (i : Nat), d = 2 * x.length - i → d * (2 * y.length + 2) + 3 * m + 10 < k → i ≤ 2 * x.length → out.length = 2 * m + 1 → Hs out → hv out = (nv x % 2 ^ (32 * i)) * nv y →
    plumbref03_Mul.l0 k x y out i = some (wd (nv x * nv y).toNat) := by
  have hw0 : wrap64 (2 * (x.length : Int)) = ((2 * x.length : Nat) : Int) := by rw [w64_of (by omega) (by omega)]; omega
  have hfull : ∀ z : List Int, Ws z → nv z % 2 ^ (32 * (2 * z.length)) = nv z := fun z hz =>
    Int.emod_eq_of_lt (nv_nonneg hz) (by have := nv_lt hz; rw [show 32 * (2 * z.length) = 64 * z.length from by omega]; exact this)
  intro d
  induction d with
  | zero =>
    intro k out i hd hk hi hl hw hv_
    obtain ⟨k, rfl⟩ : ∃ j, k = j + 1 := ⟨k - 1, by omega⟩
    obtain rfl : i = 2 * x.length := by omega
    rw [hfull x hx] at hv_
    rw [plumbref03_Mul.l0, hw0, if_neg (by omega), ← hv_]
    refine plumbref03_Mul.l2_eq out hw m hl (by omega) ?_ m k [] 0 (by omega) (by omega) (by omega) rfl Ws.nil (by simp [hv, nv])
    rw [hv_, ← hlm, Nat.mul_add, Int.pow_add]
    have h1 := nv_lt hx
    have h2 := nv_lt hy
    have h3 := nv_nonneg hx
    have h4 := nv_nonneg hy
    have h5 : nv x * nv y ≤ nv x * 2 ^ (64 * y.length) := Int.mul_le_mul_of_nonneg_left (Int.le_of_lt h2) h3
    have h6 : nv x * 2 ^ (64 * y.length) < 2 ^ (64 * x.length) * 2 ^ (64 * y.length) := Int.mul_lt_mul_of_pos_right h1 (two_pow_pos _)
    exact Int.lt_of_le_of_lt h5 h6
  | succ d ih =>
    intro k out i hd hk hi hl hw hv_
    have hk' : d * (2 * y.length + 2) + (2 * y.length + 2) + 3 * m + 10 < k := by rw [Nat.succ_mul] at hk; exact hk
    obtain ⟨k, rfl⟩ : ∃ j, k = j + 2 * y.length + 1 + 1 := ⟨k - (2 * y.length + 2), by omega⟩
    have hxi := hlf_bd (nv x) i
    have e1 : wrap64 (Int.tdiv (i : Int) 2) = ((i / 2 : Nat) : Int) := by
      rw [Int.tdiv_eq_ediv_of_nonneg (by omega), w64_of (by omega) (by omega)]; omega
    have e2 : wrap64 (32 * Int.tmod (i : Int) 2) = ((32 * (i % 2) : Nat) : Int) := by
      rw [Int.tmod_eq_emod_of_nonneg (by omega), w64_of (by omega) (by omega)]; omega
    have ec := hlf_code hx i (by omega)
    have htop : hv out < 2 ^ (32 * (i + 2 * y.length)) := by
      rw [hv_, Nat.mul_add, Int.pow_add, show 32 * (2 * y.length) = 64 * y.length from by omega]
      have h1 := Int.emod_lt_of_pos (nv x) (two_pow_pos (32 * i))
      have h2 := nv_lt hy
      have h3 := Int.emod_nonneg (nv x) (Int.ne_of_gt (two_pow_pos (32 * i)))
      have h5 : nv x % 2 ^ (32 * i) * nv y ≤ nv x % 2 ^ (32 * i) * 2 ^ (64 * y.length) := Int.mul_le_mul_of_nonneg_left (Int.le_of_lt h2) h3
      have h6 : nv x % 2 ^ (32 * i) * 2 ^ (64 * y.length) < 2 ^ (32 * i) * 2 ^ (64 * y.length) := Int.mul_lt_mul_of_pos_right h1 (two_pow_pos _)
      exact Int.lt_of_le_of_lt h5 h6
    obtain ⟨out', c', h1, h2, h3, h4, h5, h6, h7⟩ := plumbref03_Mul.l1_eq x y hy i (2 * m + 1) (2 * y.length) rfl (hlf (nv x) i) hxi.1 hxi.2 (by omega) (by omega) (2 * y.length) k out 0 0 (by omega) (by omega) hl hw (by omega) (by omega) (hvm_zero_of_lt hw htop)
    have h7' : plumbref03_Mul.l1 (k + 2 * y.length + 1) x y out i (hlf (nv x) i) 0 0 = plumbref03_Mul.l0 k x y (out'.set (i + 2 * y.length) c') ((i + 1 : Nat) : Int) := h7
    rw [plumbref03_Mul.l0, ec, e1, e2, hw0, if_pos (by omega), if_pos (by omega), if_pos (by omega), if_pos (by omega), h7']
    refine ih k _ (i + 1) (by omega) (by omega) (by omega) (by rw [List.length_set, h2]) (h1.set _ h3 h4) ?_
    rw [hvm_set (by omega), h5, hlf_succ, Int.add_mul, ← hv_]
    rw [hfull y hy] at h6
    simp only [Nat.mul_zero, Int.pow_zero, Int.emod_one, Int.mul_zero, Int.zero_mul, Int.add_zero] at h6
    generalize (2 : Int) ^ (32 * i) = pi at *
    generalize (2 : Int) ^ (32 * (i + 2 * y.length)) = pl at *
    generalize hlf (nv x) i = xi at *
    clear h7 h7' e1 e2 ec ih hk hk'
    grind
theorem plumbref03_Mul.f_eq (x y : List Int) (hx : Ws x) (hy : Ws y) (hm : x.length + y.length ≤ 17592186044415) (k : Nat) (hk : 2 * x.length * (2 * y.length + 2) + 3 * (x.length + y.length) + 10 < k) : plumbref03_Mul.f k x y = some (wd (nv x * nv y).toNat) := by
  have e1 : wrap64 (wrap64 (2 * wrap64 ((x.length : Int) + (y.length : Int))) + 1) = ((2 * (x.length + y.length) + 1 : Nat) : Int) := by
    rw [w64_of (x := (x.length : Int) + (y.length : Int)) (by omega) (by omega), w64_of (x := 2 * _) (by omega) (by omega), w64_of (by omega) (by omega)]; omega
  rw [plumbref03_Mul.f, e1, if_pos (by omega), Int.toNat_natCast, if_pos (by omega)]
  refine plumbref03_Mul.l0_eq x y hx hy (x.length + y.length) hm rfl (2 * x.length) k _ 0 (by omega) hk (by omega) (by rw [List.length_replicate]) ?_ ?_
  · intro z hz
    rw [List.eq_of_mem_replicate hz]; omega
  · have : hv (List.replicate (2 * (x.length + y.length) + 1) 0) = 0 := by
      generalize 2 * (x.length + y.length) + 1 = n
      induction n with
      | zero => rfl
      | succ n ih => rw [List.replicate_succ, hv_cons, ih]; rfl
    rw [this]; simp
end Go.Proofs.YtoefabmlkbhmpaaDoor.PA

namespace Go.Proofs.YtoefabmlkbhmpaaDoor.PA
open Go Go.RowKit Go.Proofs.YtoefabmlkbhmpaaDoorW.PrintWords Go.Proofs.YtoefabmlkbhmpaaDoorW.PrintLast Go.Proofs.YtoefabmlkbhmpaaDoorW.PrintMore
set_option linter.unusedVariables false
set_option linter.unusedSimpArgs false
theorem cmpZ_scale (a b : Int) {t : Int} (h : 0 < t) : cmpZ (a * t) (b * t) = cmpZ a b := by
  unfold cmpZ
  by_cases h1 : a < b
  · rw [if_pos h1, if_pos (Int.mul_lt_mul_of_pos_right h1 h)]
  · have n1 : ¬ a * t < b * t := fun z => h1 (Int.lt_of_mul_lt_mul_right z (Int.le_of_lt h))
    rw [if_neg h1, if_neg n1]
    by_cases h2 : a > b
    · rw [if_pos h2, if_pos (Int.mul_lt_mul_of_pos_right h2 h)]
    · have n2 : ¬ a * t > b * t := fun z => h2 (Int.lt_of_mul_lt_mul_right z (Int.le_of_lt h))
      rw [if_neg h2, if_neg n2]
/-- two ways to lay out one exponent -/
theorem cmpZ_shift (A C : Int) {p q p' q' : Nat} (h : (p : Int) - q = (p' : Int) - q') : cmpZ (A * 2 ^ p) (C * 2 ^ q) = cmpZ (A * 2 ^ p') (C * 2 ^ q') := by
  have e1 : A * 2 ^ p * 2 ^ p' = A * 2 ^ p' * 2 ^ p := by rw [Int.mul_assoc, Int.mul_assoc, Int.mul_comm (2 ^ p)]
  have e2 : C * 2 ^ q * 2 ^ p' = C * 2 ^ q' * 2 ^ p := by
    rw [Int.mul_assoc, Int.mul_assoc, ← Int.pow_add, ← Int.pow_add]; congr 2; omega
  rw [← cmpZ_scale _ _ (two_pow_pos p'), e1, e2, cmpZ_scale _ _ (two_pow_pos p)]
def pM (d : Nat) : Nat := if d < 4503599627370496 then d else 4503599627370496 + d % 4503599627370496
def pS (d : Nat) : Nat := d / 4503599627370496 - 1
theorem pV_parts (d : Nat) : pV d = pM d * 2 ^ pS d := by
  unfold pV pM pS
  by_cases h : d < 4503599627370496
  · rw [if_pos h, if_pos h, Nat.div_eq_of_lt h]; simp
  · rw [if_neg h, if_neg h]
theorem pU_parts (d : Nat) : pU d = 2 ^ pS d := rfl
theorem pM_lt (d : Nat) : pM d < 9007199254740992 := by unfold pM; split <;> omega
theorem plumbref07_parts.f_eq (d : Nat) (hd : d < 18446744073709551616) : plumbref07_parts.f (d : Int) = some ((pM d : Int), (pS d : Int) - 1074) := by
  have ea : Go.bits .and .u64 (d : Int) 4503599627370495 = ((d % 4503599627370496 : Nat) : Int) := by
    rw [show Go.bits .and .u64 (d : Int) 4503599627370495 = (d : Int) % 2 ^ 52 from and_mask (by omega) (by omega) 52 (by omega) _ rfl, show (2 : Int) ^ 52 = 4503599627370496 from by decide]; omega
  have ed : wrap64 ((d : Int) / 4503599627370496) = ((d / 4503599627370496 : Nat) : Int) := by rw [w64_of (by omega) (by omega)]; omega
  unfold plumbref07_parts.f pM pS
  rw [ea, ed]
  by_cases h : d < 4503599627370496
  · rw [if_pos (by omega), if_pos h, Nat.mod_eq_of_lt h, Nat.div_eq_of_lt h]; rfl
  · have eo : Go.bits .or .u64 ((d % 4503599627370496 : Nat) : Int) 4503599627370496 = ((4503599627370496 + d % 4503599627370496 : Nat) : Int) := by
      rw [or_join' 52 (x := 4503599627370496) (by decide) (by decide) (by decide) (by omega) (by rw [show (2 : Int) ^ 52 = 4503599627370496 from by decide]; omega) (by omega)]; omega
    have ew : wrap64 (((d / 4503599627370496 : Nat) : Int) - 1075) = ((d / 4503599627370496 - 1 : Nat) : Int) - 1074 := by rw [w64_of (by omega) (by omega)]; omega
    rw [if_neg (by omega), if_neg h, eo, ew]
/-- told by comparing, where there is a little more -/
def agn (more : Bool) (c : Int) : Int := if c = 0 then (if more then 1 else c) else c
theorem wd_len {n : Int} {t : Nat} (h0 : 0 ≤ n) (h : n < 2 ^ (64 * t)) : (wd n.toNat).length ≤ t := by
  have hw := wd_ws n.toNat
  have h1 := (strip_len_le hw t).2 (by rw [nv_wd, Int.toNat_of_nonneg h0]; exact h)
  rw [strip_wd] at h1
  exact h1
theorem nv_wdT {n : Int} (h0 : 0 ≤ n) : nv (wd n.toNat) = n := by rw [nv_wd, Int.toNat_of_nonneg h0]
theorem plumbref07_Q_against.f_eq (A B : List Int) (hA : Ws A) (hB : Ws B) (exp : Int) (more : Bool) (m : Nat) (e : Int) (N : Nat) (hAN : A.length ≤ N) (hBN : B.length + 2 ≤ N) (hN : N ≤ 1000000000000) (he1 : exp - e ≤ 64 * N) (he2 : e - exp ≤ 64 * N) (hm : m < 18446744073709551616) (k : Nat) (hk : 100 * N + 1000 < k) :
    plumbref07_Q_against.f k A B exp more (m : Int) e = some (agn more (cmpZ (nv A * 2 ^ (exp - e).toNat) ((m : Int) * nv B * 2 ^ (e - exp).toNat))) := by
  have hm0 : (0 : Int) ≤ m := Int.natCast_nonneg _
  have b1 : (wd (m : Int).toNat).length ≤ 1 := wd_len hm0 (by rw [show (2 : Int) ^ (64 * 1) = 18446744073709551616 from by decide]; omega)
  have hB0 := nv_nonneg hB
  have hmB : (0 : Int) ≤ (m : Int) * nv B := Int.mul_nonneg hm0 hB0
  have b2 : (wd ((m : Int) * nv B).toNat).length ≤ B.length + 1 := by
    refine wd_len hmB ?_
    rw [pow64]
    have h1 := nv_lt hB
    have h3 : (m : Int) * nv B ≤ 18446744073709551616 * nv B := Int.mul_le_mul_of_nonneg_right (by omega) hB0
    have h4 : 18446744073709551616 * nv B < 18446744073709551616 * 2 ^ (64 * B.length) := Int.mul_lt_mul_of_pos_left h1 (by decide)
    exact Int.lt_of_le_of_lt h3 h4
  have hW : plumbref03_Word.f k (m : Int) = some (wd (m : Int).toNat) := plumbref03_Word.f_eq hm0 (by omega) k (by omega)
  have fm : 2 * (wd (m : Int).toNat).length * (2 * B.length + 2) ≤ 2 * (2 * B.length + 2) := Nat.mul_le_mul_right _ (by omega)
  have hM : plumbref03_Mul.f k (wd (m : Int).toNat) B = some (wd ((m : Int) * nv B).toNat) := by
    have r := plumbref03_Mul.f_eq (wd (m : Int).toNat) B (wd_ws _) hB (by omega) k (by omega)
    rw [nv_wdT hm0] at r
    exact r
  rw [plumbref07_Q_against.f, hW, Option.bind_some, hM, Option.bind_some, w64_of (x := exp - e) (by omega) (by omega)]
  by_cases hpos : exp - e > 0
  · obtain ⟨n, hn⟩ : ∃ n : Nat, exp - e = (n : Int) := ⟨(exp - e).toNat, by omega⟩
    have hS := plumbref03_Shl.f_eq A hA n (by omega) (by omega) k (by omega)
    have hAn : (0 : Int) ≤ nv A * 2 ^ n := Int.mul_nonneg (nv_nonneg hA) (Int.le_of_lt (two_pow_pos n))
    have b3 : (wd (nv A * 2 ^ n).toNat).length ≤ A.length + n / 64 + 1 := by
      refine wd_len hAn ?_
      have h1 := nv_lt hA
      have h3 : nv A * 2 ^ n < 2 ^ (64 * A.length) * 2 ^ n := Int.mul_lt_mul_of_pos_right h1 (two_pow_pos n)
      rw [← Int.pow_add] at h3
      exact Int.lt_of_lt_of_le h3 (pow_mono (by omega))
    have hC := plumbref03_Cmp.f_eq _ _ (wd_ws (nv A * 2 ^ n).toNat) (wd_ws ((m : Int) * nv B).toNat) (by omega) (by omega) k (by omega)
    rw [nv_wdT hAn, nv_wdT hmB] at hC
    have e0 : (e - exp).toNat = 0 := by omega
    rw [if_pos hpos, hn, hS, Option.bind_some, hC, Option.bind_some, e0, Int.pow_zero, Int.mul_one, Int.toNat_natCast]
    unfold agn
    split <;> (try split) <;> rfl
  · obtain ⟨n, hn⟩ : ∃ n : Nat, e - exp = (n : Int) := ⟨(e - exp).toNat, by omega⟩
    have hw : wrap64 (-(exp - e)) = (n : Int) := by rw [w64_of (by omega) (by omega)]; omega
    have hS := plumbref03_Shl.f_eq (wd ((m : Int) * nv B).toNat) (wd_ws _) n (by omega) (by omega) k (by omega)
    rw [nv_wdT hmB] at hS
    have hBn : (0 : Int) ≤ (m : Int) * nv B * 2 ^ n := Int.mul_nonneg hmB (Int.le_of_lt (two_pow_pos n))
    have b3 : (wd ((m : Int) * nv B * 2 ^ n).toNat).length ≤ B.length + 1 + n / 64 + 1 := by
      refine wd_len hBn ?_
      have h1 := nv_lt (wd_ws ((m : Int) * nv B).toNat)
      rw [nv_wdT hmB] at h1
      have h3 : (m : Int) * nv B * 2 ^ n < 2 ^ (64 * (wd ((m : Int) * nv B).toNat).length) * 2 ^ n := Int.mul_lt_mul_of_pos_right h1 (two_pow_pos n)
      rw [← Int.pow_add] at h3
      exact Int.lt_of_lt_of_le h3 (pow_mono (by omega))
    have hC := plumbref03_Cmp.f_eq _ _ hA (wd_ws ((m : Int) * nv B * 2 ^ n).toNat) (by omega) (by omega) k (by omega)
    rw [nv_wdT hBn] at hC
    have e0 : (exp - e).toNat = 0 := by omega
    rw [if_neg hpos, hw, hS, Option.bind_some, hC, Option.bind_some, e0, Int.pow_zero, Int.mul_one, hn, Int.toNat_natCast]
    unfold agn
    split <;> (try split) <;> rfl
end Go.Proofs.YtoefabmlkbhmpaaDoor.PA

namespace Go.Proofs.YtoefabmlkbhmpaaDoor.PA
open Go Go.RowKit Go.Proofs.YtoefabmlkbhmpaaDoorW.PrintWords Go.Proofs.YtoefabmlkbhmpaaDoorW.PrintLast Go.Proofs.YtoefabmlkbhmpaaDoorW.PrintMore
set_option linter.unusedVariables false
set_option linter.unusedSimpArgs false
/-- the number of units, above -/
def qP (a : Nat) (exp : Int) : Nat := a * 2 ^ (exp + 1074).toNat
/-- and below -/
def qQ (b : Nat) (exp : Int) : Nat := b * 2 ^ (-(exp + 1074)).toNat
theorem qQ_pos {b : Nat} (h : 0 < b) (exp : Int) : 0 < qQ b exp := Nat.mul_pos h (Nat.pow_pos (by decide))
/-- what a Q holds, and that all fits -/
structure QOk (A B : List Int) (exp : Int) (a b N k : Nat) : Prop where
  hA : Ws A
  hB : Ws B
  ea : nv A = (a : Int)
  eb : nv B = (b : Int)
  hb : 0 < b
  hAN : A.length ≤ N
  hBN : B.length + 2 ≤ N
  hN : N ≤ 1000000000000
  he1 : exp + 1075 ≤ 64 * N
  he2 : 971 - exp ≤ 64 * N
  hk : 100 * N + 1000 < k
theorem pS_le {d : Nat} (h : d ≤ 9218868437227405311) : pS d ≤ 2045 := by unfold pS; omega
theorem ag_at {A B : List Int} {exp : Int} {a b N k : Nat} (o : QOk A B exp a b N k) (more : Bool) {d : Nat} (hd : d ≤ 9218868437227405311) :
    plumbref07_Q_against.f k A B exp more (pM d : Int) ((pS d : Int) - 1074) = some (agn more (cmpZ (qP a exp : Int) ((pV d * qQ b exp : Nat) : Int))) := by
  have h1 := pS_le hd
  have h2 := pM_lt d
  obtain ⟨hA, hB, ea, eb, hb, hAN, hBN, hN, he1, he2, hk⟩ := o
  rw [plumbref07_Q_against.f_eq A B hA hB exp more (pM d) ((pS d : Int) - 1074) N hAN hBN hN (by omega) (by omega) (by omega) k hk, ea, eb]
  congr 2
  rw [cmpZ_shift (p' := (exp + 1074).toNat) (q' := pS d + (-(exp + 1074)).toNat) _ _ (by omega)]
  have eA : (a : Int) * 2 ^ (exp + 1074).toNat = (qP a exp : Int) := by unfold qP; rw [p2cast, ← Int.natCast_mul]
  have eN : pM d * b * 2 ^ (pS d + (-(exp + 1074)).toNat) = pV d * qQ b exp := by
    unfold qQ
    rw [pV_parts, Nat.pow_add]
    generalize 2 ^ pS d = x
    generalize 2 ^ (-(exp + 1074)).toNat = y
    grind
  have eC : (pM d : Int) * (b : Int) * 2 ^ (pS d + (-(exp + 1074)).toNat) = ((pV d * qQ b exp : Nat) : Int) := by rw [← eN, p2cast, ← Int.natCast_mul, ← Int.natCast_mul]
  rw [eA, eC]
theorem ag_half {A B : List Int} {exp : Int} {a b N k : Nat} (o : QOk A B exp a b N k) (more : Bool) {d : Nat} (hd : d ≤ 9218868437227405311) :
    plumbref07_Q_against.f k A B exp more ((2 * pM d + 1 : Nat) : Int) ((pS d : Int) - 1074 - 1) = some (agn more (cmpZ ((2 * qP a exp : Nat) : Int) (((2 * pV d + pU d) * qQ b exp : Nat) : Int))) := by
  have h1 := pS_le hd
  have h2 := pM_lt d
  obtain ⟨hA, hB, ea, eb, hb, hAN, hBN, hN, he1, he2, hk⟩ := o
  rw [plumbref07_Q_against.f_eq A B hA hB exp more (2 * pM d + 1) ((pS d : Int) - 1074 - 1) N hAN hBN hN (by omega) (by omega) (by omega) k hk, ea, eb]
  congr 2
  rw [cmpZ_shift (p' := (exp + 1074).toNat + 1) (q' := pS d + (-(exp + 1074)).toNat) _ _ (by omega)]
  have e2 : a * 2 ^ ((exp + 1074).toNat + 1) = 2 * qP a exp := by unfold qP; rw [Nat.pow_succ]; generalize 2 ^ (exp + 1074).toNat = x; grind
  have eA : (a : Int) * 2 ^ ((exp + 1074).toNat + 1) = ((2 * qP a exp : Nat) : Int) := by rw [← e2, p2cast, ← Int.natCast_mul]
  have eN : (2 * pM d + 1) * b * 2 ^ (pS d + (-(exp + 1074)).toNat) = (2 * pV d + pU d) * qQ b exp := by
    unfold qQ
    rw [pV_parts, pU_parts, Nat.pow_add]
    generalize 2 ^ pS d = x
    generalize 2 ^ (-(exp + 1074)).toNat = y
    grind
  have eC : ((2 * pM d + 1 : Nat) : Int) * (b : Int) * 2 ^ (pS d + (-(exp + 1074)).toNat) = (((2 * pV d + pU d) * qQ b exp : Nat) : Int) := by rw [← eN, p2cast, ← Int.natCast_mul, ← Int.natCast_mul]
  rw [eA, eC]
theorem agn_ge (more : Bool) (x y : Nat) : agn more (cmpZ (x : Int) (y : Int)) ≥ 0 ↔ y ≤ x := by
  unfold agn cmpZ
  by_cases h1 : (x : Int) < y
  · simp [h1]; omega
  · by_cases h2 : (x : Int) > y
    · simp [h1, h2]; omega
    · simp [h1, h2]; cases more <;> simp <;> omega
theorem agn_zero (more : Bool) (x y : Nat) : agn more (cmpZ (x : Int) (y : Int)) = 0 ↔ (x = y ∧ more = false) := by
  unfold agn cmpZ
  by_cases h1 : (x : Int) < y
  · simp [h1]; omega
  · by_cases h2 : (x : Int) > y
    · simp [h1, h2]; omega
    · simp [h1, h2]; cases more <;> simp <;> omega
theorem agn_pos (more : Bool) (x y : Nat) : agn more (cmpZ (x : Int) (y : Int)) > 0 ↔ (y < x ∨ (x = y ∧ more = true)) := by
  unfold agn cmpZ
  by_cases h1 : (x : Int) < y
  · simp [h1]; omega
  · by_cases h2 : (x : Int) > y
    · simp [h1, h2]; omega
    · simp [h1, h2]; cases more <;> simp <;> omega
theorem mid_eq (lo hi : Nat) (h : lo < hi) (hh : hi ≤ 9218868437227405311) : IntKind.u64.wrap ((lo : Int) + IntKind.u64.wrap (Int.tdiv (IntKind.u64.wrap (IntKind.u64.wrap ((hi : Int) - (lo : Int)) + 1)) 2)) = ((lo + (hi - lo + 1) / 2 : Nat) : Int) := by
  rw [u64w_of (x := (hi : Int) - lo) (by omega) (by omega), u64w_of (x := (hi : Int) - lo + 1) (by omega) (by omega), Int.tdiv_eq_ediv_of_nonneg (by omega), u64w_of (x := ((hi : Int) - lo + 1) / 2) (by omega) (by omega), u64w_of (by omega) (by omega)]
  omega
theorem plumbref07_Q_below.l0_eq {A B : List Int} {exp : Int} {a b N K : Nat} (o : ∀ k, K ≤ k → QOk A B exp a b N k) (more : Bool) : ∀ (n k lo hi : Nat), hi - lo < 2 ^ n → n + K + 1 < k → lo ≤ hi → hi ≤ 9218868437227405311 → pV lo * qQ b exp ≤ qP a exp → (hi = 9218868437227405311 ∨ qP a exp < pV (hi + 1) * qQ b exp) →
    ∃ d : Nat, plumbref07_Q_below.l0 k (lo : Int) (hi : Int) A B exp more = some (d : Int) ∧ d ≤ 9218868437227405311 ∧ pV d * qQ b exp ≤ qP a exp ∧ (d = 9218868437227405311 ∨ qP a exp < pV (d + 1) * qQ b exp) := by
  intro n
  induction n with
  | zero =>
    intro k lo hi hd hk hle hh h1 h2
    obtain ⟨k, rfl⟩ : ∃ j, k = j + 1 := ⟨k - 1, by omega⟩
    rw [Nat.pow_zero] at hd
    obtain rfl : lo = hi := by omega
    exact ⟨lo, by rw [plumbref07_Q_below.l0, if_neg (by omega)], hh, h1, h2⟩
  | succ n ih =>
    intro k lo hi hd hk hle hh h1 h2
    obtain ⟨k, rfl⟩ : ∃ j, k = j + 1 := ⟨k - 1, by omega⟩
    rw [Nat.pow_succ] at hd
    by_cases hlt : lo < hi
    · have em := mid_eq lo hi hlt hh
      have hm : lo + (hi - lo + 1) / 2 ≤ 9218868437227405311 := by omega
      rw [plumbref07_Q_below.l0, if_pos (by omega), em, plumbref07_parts.f_eq _ (by omega), Option.bind_some, ag_at (o k (by omega)) more hm, Option.bind_some]
      by_cases hc : pV (lo + (hi - lo + 1) / 2) * qQ b exp ≤ qP a exp
      · rw [if_pos ((agn_ge more _ _).2 hc)]
        exact ih k (lo + (hi - lo + 1) / 2) hi (by omega) (by omega) (by omega) hh hc h2
      · have ew : IntKind.u64.wrap (((lo + (hi - lo + 1) / 2 : Nat) : Int) - 1) = ((lo + (hi - lo + 1) / 2 - 1 : Nat) : Int) := by rw [u64w_of (by omega) (by omega)]; omega
        rw [if_neg (fun h => hc ((agn_ge more _ _).1 h)), ew]
        refine ih k lo (lo + (hi - lo + 1) / 2 - 1) (by omega) (by omega) (by omega) (by omega) h1 (.inr ?_)
        rw [show lo + (hi - lo + 1) / 2 - 1 + 1 = lo + (hi - lo + 1) / 2 from by omega]
        exact Nat.lt_of_not_le hc
    · obtain rfl : lo = hi := by omega
      exact ⟨lo, by rw [plumbref07_Q_below.l0, if_neg (by omega)], hh, h1, h2⟩
theorem outP_big (mode : Int) (neg : Bool) {d : Nat} (h : 9218868437227405311 < d) : outP mode neg d = if staysB mode neg then (sgn neg + 9218868437227405311, 0) else (0, 70) := by
  unfold outP; rw [if_pos h]
theorem RS_big (mode : Int) (neg : Bool) {d : Nat} (h : 9218868437227405311 < d) (t : Nat) : RS mode neg d t = if staysB mode neg then (sgn neg + 9218868437227405311, 0) else (0, 70) := by
  unfold RS
  split <;> exact outP_big mode neg (by omega)
theorem ref_j0 (neg : Bool) (d : Nat) (hd : d ≤ 9218868437227405311) (up : Bool) (k : Nat) : plumbref07_Q_round.j0 (k + 1) neg (d : Int) up = some (if up then (if d = 9218868437227405311 then (0, 70) else (sgn neg + ((d + 1 : Nat) : Int), 0)) else (sgn neg + (d : Int), 0)) := by
  have ho : ∀ x : Nat, x < 9223372036854775808 → Go.bits .or .u64 (x : Int) 9223372036854775808 = sgn true + (x : Int) := by
    intro x hx
    rw [or_comm64 _ _ (by omega) (by omega) (by decide) (by decide)]
    exact or_sgn true (by omega) (by omega)
  have e0 : sgn false = 0 := rfl
  have ew : IntKind.u64.wrap ((d : Int) + 1) = ((d + 1 : Nat) : Int) := by rw [u64w_of (by omega) (by omega)]; omega
  rw [plumbref07_Q_round.j0]
  cases up <;> cases neg
  · show some ((d : Int), (0 : Int)) = some (sgn false + (d : Int), 0)
    rw [e0, Int.zero_add]
  · show some (Go.bits .or .u64 (d : Int) 9223372036854775808, (0 : Int)) = some (sgn true + (d : Int), 0)
    rw [ho d (by omega)]
  · show (if (d : Int) = 9218868437227405311 then some ((0 : Int), (70 : Int)) else some (IntKind.u64.wrap ((d : Int) + 1), 0)) = some (if d = 9218868437227405311 then (0, 70) else (sgn false + ((d + 1 : Nat) : Int), 0))
    by_cases hm : d = 9218868437227405311
    · rw [if_pos (by omega), if_pos hm]
    · rw [if_neg (by omega), if_neg hm, ew, e0, Int.zero_add]
  · show (if (d : Int) = 9218868437227405311 then some ((0 : Int), (70 : Int)) else some (Go.bits .or .u64 (IntKind.u64.wrap ((d : Int) + 1)) 9223372036854775808, 0)) = some (if d = 9218868437227405311 then (0, 70) else (sgn true + ((d + 1 : Nat) : Int), 0))
    by_cases hm : d = 9218868437227405311
    · rw [if_pos (by omega), if_pos hm]
    · rw [if_neg (by omega), if_neg hm, ew, ho (d + 1) (by omega)]
theorem plumbref07_Q_up.f_eq {A B : List Int} {exp : Int} {a b N k : Nat} (o : QOk A B exp a b N k) (more neg : Bool) {d : Nat} (hd : d ≤ 9218868437227405311) {mode : Int} (h0 : 0 ≤ mode) (h4 : mode ≤ 4) :
    plumbref07_Q_up.f k A B exp more neg (d : Int) mode = some (if mode = 1 then false else if mode = 2 then true else if mode = 3 then !neg else if mode = 4 then neg else
      (if (2 * pV d + pU d) * qQ b exp < 2 * qP a exp then true else if 2 * qP a exp = (2 * pV d + pU d) * qQ b exp then (if more then true else d % 2 == 1) else false)) := by
  have h1 := pS_le hd
  have h2 := pM_lt d
  have eo : ((Go.bits .and .u64 (d : Int) 1) == 1) = (d % 2 == 1) := by
    rw [show Go.bits .and .u64 (d : Int) 1 = (d : Int) % 2 from and_mask (by omega) (by omega) 1 (by omega) _ rfl, Bool.eq_iff_iff, beq_iff_eq, beq_iff_eq]
    omega
  unfold plumbref07_Q_up.f
  by_cases c1 : mode = 1
  · rw [if_pos c1, if_pos c1]
  rw [if_neg c1, if_neg c1]
  by_cases c2 : mode = 2
  · rw [if_pos c2, if_pos c2]
  rw [if_neg c2, if_neg c2]
  by_cases c3 : mode = 3
  · rw [if_pos c3, if_pos c3]
  rw [if_neg c3, if_neg c3]
  by_cases c4 : mode = 4
  · rw [if_pos c4, if_pos c4]
  have ew1 : IntKind.u64.wrap (IntKind.u64.wrap (2 * (pM d : Int)) + 1) = ((2 * pM d + 1 : Nat) : Int) := by
    rw [u64w_of (x := 2 * (pM d : Int)) (by omega) (by omega), u64w_of (by omega) (by omega)]; omega
  have ew2 : wrap64 ((pS d : Int) - 1074 - 1) = (pS d : Int) - 1074 - 1 := w64_of (by omega) (by omega)
  rw [if_neg c4, if_neg c4, plumbref07_parts.f_eq d (by omega), Option.bind_some, ew1, ew2, ag_half o more hd, Option.bind_some, eo]
  generalize 2 * qP a exp = x
  generalize (2 * pV d + pU d) * qQ b exp = y
  by_cases g1 : agn more (cmpZ (x : Int) (y : Int)) > 0
  · rw [if_pos g1]
    rcases (agn_pos more x y).1 g1 with h | ⟨h, hm⟩
    · rw [if_pos h]
    · rw [if_neg (by omega), if_pos h, hm, if_pos rfl]
  · rw [if_neg g1]
    have n1 : ¬ y < x := fun h => g1 ((agn_pos more x y).2 (.inl h))
    rw [if_neg n1]
    by_cases g2 : agn more (cmpZ (x : Int) (y : Int)) = 0
    · obtain ⟨h, hm⟩ := (agn_zero more x y).1 g2
      rw [if_pos g2, if_pos h, hm, if_neg (by decide)]
    · rw [if_neg g2]
      have n2 : ¬ x = y := by
        intro h
        cases hm : more
        · exact g2 ((agn_zero more x y).2 ⟨h, hm⟩)
        · exact g1 ((agn_pos more x y).2 (.inr ⟨h, hm⟩))
      rw [if_neg n2]
theorem tl_zero_iff {P Q : Nat} {more : Bool} {d : Nat} : tl P Q more d = 0 ↔ (P = pV d * Q ∧ more = false) := by
  unfold tl
  by_cases h : P = pV d * Q
  · rw [if_pos h]; cases more <;> simp [h]
  · rw [if_neg h]
    constructor
    · intro z
      split at z
      · cases z
      · split at z
        · split at z <;> cases z
        · cases z
    · intro z; exact absurd z.1 h
/-- going up is told by the tail -/
theorem up_tl {P Q : Nat} (hQ : 0 < Q) {more neg : Bool} {d : Nat} (hd : ¬ (P = pV d * Q ∧ more = false)) {mode : Int} (h0 : 0 ≤ mode) (h4 : mode ≤ 4) :
    (if mode = 1 then false else if mode = 2 then true else if mode = 3 then !neg else if mode = 4 then neg else
      (if (2 * pV d + pU d) * Q < 2 * P then true else if 2 * P = (2 * pV d + pU d) * Q then (if more then true else d % 2 == 1) else false)) = upB mode neg (d % 2 == 1) (tl P Q more d) := by
  have ht : tl P Q more d ≠ 0 := fun h => hd (tl_zero_iff.1 h)
  have hm : mode = 0 ∨ mode = 1 ∨ mode = 2 ∨ mode = 3 ∨ mode = 4 := by omega
  have hb : (tl P Q more d != 0) = true := by simpa using ht
  unfold upB
  rcases hm with h | h | h | h | h <;> subst h
  · rw [if_neg (by decide), if_neg (by decide), if_neg (by decide), if_neg (by decide), if_pos rfl]
    have hU : 0 < pU d * Q := Nat.mul_pos (pU_pos d) hQ
    have eh : (2 * pV d + pU d) * Q = 2 * (pV d * Q) + pU d * Q := by rw [Nat.add_mul, Nat.mul_assoc]
    unfold tl
    rw [eh]
    generalize pV d * Q = v at *
    generalize pU d * Q = u at *
    by_cases g0 : P = v
    · have hmore : more = true := by cases more <;> simp_all
      rw [if_neg (by omega), if_neg (by omega), if_pos g0, hmore]
      rfl
    · rw [if_neg g0]
      by_cases g1 : 2 * P < 2 * v + u
      · rw [if_neg (by omega), if_neg (by omega), if_pos g1]; rfl
      · rw [if_neg g1]
        by_cases g2 : 2 * P = 2 * v + u
        · rw [if_neg (by omega), if_pos g2, if_pos g2]
          cases more <;> simp
        · rw [if_pos (by omega), if_neg g2]; rfl
  · rfl
  · rw [if_neg (by decide), if_pos rfl, if_neg (by decide), if_neg (by decide), if_pos rfl, hb]
  · rw [if_neg (by decide), if_neg (by decide), if_pos rfl, if_neg (by decide), if_neg (by decide), if_neg (by decide), if_pos rfl, hb]; simp
  · rw [if_neg (by decide), if_neg (by decide), if_neg (by decide), if_pos rfl, if_neg (by decide), if_neg (by decide), if_neg (by decide), if_neg (by decide), hb]; simp
theorem upB_zero (mode : Int) (neg odd : Bool) : upB mode neg odd 0 = false := by
  unfold upB
  split <;> (try rfl)
  split <;> (try rfl)
  split <;> (try rfl)
  split <;> simp
theorem plumbref07_Q_round.f_eq {A B : List Int} {exp : Int} {a b N K : Nat} (o : ∀ k, K ≤ k → QOk A B exp a b N k) (more neg : Bool) {mode : Int} (h0 : 0 ≤ mode) (h4 : mode ≤ 4) {d : Nat} (hr : Rd (qP a exp) (qQ b exp) d) (k : Nat) (hk : K + 70 < k) :
    plumbref07_Q_round.f k A B exp more neg mode = some (RS mode neg d (tl (qP a exp) (qQ b exp) more d)) := by
  obtain ⟨k, rfl⟩ : ∃ j, k = j + 1 := ⟨k - 1, by omega⟩
  have hQ := qQ_pos (o K (Nat.le_refl _)).hb exp
  obtain ⟨d0, e1, hd0, hlo, hhi⟩ := plumbref07_Q_below.l0_eq o more 63 (k + 1) 0 9218868437227405311 (by decide) (by omega) (by decide) (by decide) (by rw [pV_zero, Nat.zero_mul]; exact Nat.zero_le _) (.inl rfl)
  have e1' : plumbref07_Q_below.f (k + 1) A B exp more = some (d0 : Int) := e1
  have hle := (hr.le_iff d0).1 hlo
  have ok := o (k + 1) (by omega)
  rw [plumbref07_Q_round.f, e1', Option.bind_some, plumbref07_parts.f_eq d0 (by omega), Option.bind_some, ag_at ok more hd0, Option.bind_some, plumbref07_Q_up.f_eq ok more neg hd0 h0 h4, Option.bind_some]
  by_cases hin : d ≤ 9218868437227405311
  · have ed : d0 = d := by
      apply Classical.byContradiction
      intro hne
      have h3 : d0 + 1 ≤ d := by omega
      rcases hhi with h | h
      · omega
      · exact absurd ((hr.le_iff (d0 + 1)).2 h3) (by omega)
    subst ed
    by_cases hz : agn more (cmpZ (qP a exp : Int) ((pV d0 * qQ b exp : Nat) : Int)) = 0
    · rw [if_pos hz, ref_j0 neg d0 hd0, if_neg (by decide)]
      have ht := tl_zero_iff.2 ((agn_zero more _ _).1 hz)
      rw [ht]
      unfold RS
      rw [upB_zero, if_neg (by decide)]
      unfold outP
      rw [if_neg (by omega)]
    · have hd := fun h => hz ((agn_zero more _ _).2 h)
      rw [if_neg hz, ref_j0 neg d0 hd0, up_tl hQ hd h0 h4]
      unfold RS
      by_cases hu : upB mode neg (d0 % 2 == 1) (tl (qP a exp) (qQ b exp) more d0) = true
      · rw [hu, if_pos rfl, if_pos rfl]
        by_cases hm : d0 = 9218868437227405311
        · rw [if_pos hm, outP_big mode neg (by omega)]
          have hs : staysB mode neg = false := by
            unfold upB at hu
            unfold staysB
            have hmm : mode = 0 ∨ mode = 1 ∨ mode = 2 ∨ mode = 3 ∨ mode = 4 := by omega
            rcases hmm with h | h | h | h | h <;> subst h <;> simp_all
          rw [hs, if_neg (by decide)]
        · rw [if_neg hm]
          unfold outP
          rw [if_neg (by omega)]
      · rw [Bool.eq_false_iff.2 hu, if_neg (by decide), if_neg (by decide)]
        unfold outP
        rw [if_neg (by omega)]
  · have em : d0 = 9218868437227405311 := by
      rcases hhi with h | h
      · exact h
      · exact absurd ((hr.le_iff (d0 + 1)).2 (by omega)) (by omega)
    have hbig : pV d0 * qQ b exp + pU d0 * qQ b exp ≤ qP a exp := by
      have h3 := (hr.le_iff (d0 + 1)).2 (by omega)
      rw [pV_succ, Nat.add_mul] at h3
      exact h3
    have hU : 0 < pU d0 * qQ b exp := Nat.mul_pos (pU_pos d0) hQ
    have hz : ¬ agn more (cmpZ (qP a exp : Int) ((pV d0 * qQ b exp : Nat) : Int)) = 0 := by
      intro h
      have := (agn_zero more _ _).1 h
      omega
    have eh : (2 * pV d0 + pU d0) * qQ b exp = 2 * (pV d0 * qQ b exp) + pU d0 * qQ b exp := by rw [Nat.add_mul, Nat.mul_assoc]
    rw [if_neg hz, ref_j0 neg d0 hd0, RS_big mode neg (by omega), eh, if_pos (by omega : 2 * (pV d0 * qQ b exp) + pU d0 * qQ b exp < 2 * qP a exp), if_pos em, em]
    have hmm : mode = 0 ∨ mode = 1 ∨ mode = 2 ∨ mode = 3 ∨ mode = 4 := by omega
    rcases hmm with h | h | h | h | h <;> subst h <;> cases neg <;> rfl
end Go.Proofs.YtoefabmlkbhmpaaDoor.PA

namespace Go.Proofs.YtoefabmlkbhmpaaDoor.PA
open Go Go.RowKit Go.Proofs.YtoefabmlkbhmpaaDoorW.PrintWords Go.Proofs.YtoefabmlkbhmpaaDoorW.PrintLast Go.Proofs.YtoefabmlkbhmpaaDoorW.PrintMore
set_option linter.unusedVariables false
set_option linter.unusedSimpArgs false
theorem flo_Rd {P Q m : Nat} {e : Int} {more st : Bool} (hQ : 0 < Q) (hm : 0 < m) (h1 : m * 2 ^ (e + 1074).toNat * Q ≤ P * 2 ^ (-(e + 1074)).toNat) (h2 : P * 2 ^ (-(e + 1074)).toNat < (m + 1) * 2 ^ (e + 1074).toNat * Q)
    (hst : st = true ↔ (P * 2 ^ (-(e + 1074)).toNat ≠ m * 2 ^ (e + 1074).toNat * Q ∨ more = true)) (hx : P * 2 ^ (-(e + 1074)).toNat = m * 2 ^ (e + 1074).toNat * Q ∨ 9007199254740992 ≤ m) :
    Rd P Q (flo m e st).1 ∧ tl P Q more (flo m e st).1 = (flo m e st).2 := by
  obtain ⟨L, hL, hb1, hb2⟩ := bits_bounds hm
  unfold flo
  rw [if_neg (by omega), hL]
  generalize hs : (e + 1074 + ((L : Int) + 1) - 53).toNat = s at *
  by_cases hc : 1 ≤ (s : Int) - (e + 1074)
  · obtain ⟨j, hj⟩ : ∃ j : Nat, (s : Int) - (e + 1074) = (j : Int) := ⟨((s : Int) - (e + 1074)).toNat, by omega⟩
    obtain ⟨q1, q2⟩ := flo_q (s := s) (j := j) hb1 hb2 (by omega) (by omega)
    rw [if_pos hc, hj, Int.toNat_natCast]
    exact Rd.of_div hQ (by omega) (by omega) h1 h2 hst q1 q2
  · have hex : P * 2 ^ (-(e + 1074)).toNat = m * 2 ^ (e + 1074).toNat * Q := by
      rcases hx with h | h
      · exact h
      · exfalso
        have h3 : 2 ^ 53 < 2 ^ (L + 1) := Nat.lt_of_le_of_lt h hb2
        have h4 := (Nat.pow_lt_pow_iff_right (a := 2) (by decide)).1 h3
        omega
    have e0 : (-(e + 1074)).toNat = 0 := by omega
    obtain ⟨j, hj⟩ : ∃ j : Nat, e + 1074 - (s : Int) = (j : Int) := ⟨(e + 1074 - (s : Int)).toNat, by omega⟩
    obtain ⟨q1, q2⟩ := flo_p (s := s) (j := j) hb1 hb2 (by omega) (by omega)
    rw [if_neg hc, hj, Int.toNat_natCast]
    obtain ⟨eV, eU⟩ := pV_at q1 q2
    have ep : (e + 1074).toNat = j + s := by omega
    rw [e0, Nat.pow_zero, Nat.mul_one, ep, Nat.pow_add, ← Nat.mul_assoc, ← eV] at hex
    have hst2 : st = more := by
      rw [e0, Nat.pow_zero, Nat.mul_one, ep, Nat.pow_add, ← Nat.mul_assoc, ← eV] at hst
      exact Bool.eq_iff_iff.2 ⟨fun z => (hst.1 z).resolve_left (fun y => y hex), fun z => hst.2 (.inr z)⟩
    refine ⟨⟨Nat.le_of_eq hex.symm, ?_⟩, ?_⟩
    · rw [hex]
      exact Nat.mul_lt_mul_of_pos_right (pV_lt_succ _) hQ
    · show tl P Q more (s * 4503599627370496 + m * 2 ^ j) = if st = true then 1 else 0
      unfold tl
      rw [if_pos hex, hst2]
/-- a whole number times a power of two -/
theorem flo_exact {m : Nat} (hm : 0 < m) (e : Int) (st : Bool) : Rd (m * 2 ^ (e + 1074).toNat) (2 ^ (-(e + 1074)).toNat) (flo m e st).1 ∧ tl (m * 2 ^ (e + 1074).toNat) (2 ^ (-(e + 1074)).toNat) st (flo m e st).1 = (flo m e st).2 := by
  have hb : 0 < 2 ^ (-(e + 1074)).toNat := Nat.pow_pos (by decide)
  have ha : 0 < 2 ^ (e + 1074).toNat := Nat.pow_pos (by decide)
  refine flo_Rd hb hm (Nat.le_refl _) ?_ ?_ (.inl rfl)
  · exact Nat.mul_lt_mul_of_pos_right (Nat.mul_lt_mul_of_pos_right (Nat.lt_succ_self m) ha) hb
  · simp
/-- less than half of the least one -/
theorem Rd_small {P Q : Nat} (h0 : 0 < P) (h : 2 * P < Q) (more : Bool) : Rd P Q 0 ∧ tl P Q more 0 = 1 := by
  have e1 : pV 0 = 0 := rfl
  have e2 : pV (0 + 1) = 1 := rfl
  have e3 : pU 0 = 1 := rfl
  refine ⟨⟨by rw [e1, Nat.zero_mul]; exact Nat.zero_le _, by rw [e2, Nat.one_mul]; omega⟩, ?_⟩
  unfold tl
  rw [e1, e3, Nat.zero_mul, if_neg (by omega), if_pos (by omega)]
/-- the cut-off word, and whether something was lost, tell the same -/
theorem flo_cut {m : Nat} (e : Int) (st : Bool) (z : Nat) (hm : 9007199254740992 ≤ m / 2 ^ z) : flo (m / 2 ^ z) (e + z) (st || decide (m % 2 ^ z ≠ 0)) = flo m e st := by
  have hp : 0 < 2 ^ z := Nat.pow_pos (by decide)
  have hm0 : 0 < m := Nat.lt_of_lt_of_le (by omega) (Nat.div_le_self m (2 ^ z))
  obtain ⟨r1, t1⟩ := flo_exact hm0 e st
  have hb : 0 < 2 ^ (-(e + 1074)).toNat := Nat.pow_pos (by decide)
  have hdm := Nat.div_add_mod m (2 ^ z)
  have hmod := Nat.mod_lt m hp
  have key : ∀ c : Nat, c * 2 ^ (e + z + 1074).toNat * 2 ^ (-(e + 1074)).toNat = c * 2 ^ z * (2 ^ (e + 1074).toNat * 2 ^ (-(e + z + 1074)).toNat) := by
    intro c
    rw [Nat.mul_assoc, Nat.mul_assoc, ← Nat.pow_add, ← Nat.pow_add, ← Nat.pow_add]
    congr 2
    omega
  have hT : 0 < 2 ^ (e + 1074).toNat * 2 ^ (-(e + z + 1074)).toNat := Nat.mul_pos (Nat.pow_pos (by decide)) (Nat.pow_pos (by decide))
  have kP : m * 2 ^ (e + 1074).toNat * 2 ^ (-(e + z + 1074)).toNat = m * (2 ^ (e + 1074).toNat * 2 ^ (-(e + z + 1074)).toNat) := Nat.mul_assoc _ _ _
  obtain ⟨r2, t2⟩ := flo_Rd (P := m * 2 ^ (e + 1074).toNat) (Q := 2 ^ (-(e + 1074)).toNat) (m := m / 2 ^ z) (e := e + z) (more := st) (st := st || decide (m % 2 ^ z ≠ 0)) hb (by omega)
    (by
      rw [key, kP]
      exact Nat.mul_le_mul_right _ (by rw [Nat.mul_comm]; omega))
    (by
      rw [key, kP]
      exact Nat.mul_lt_mul_of_pos_right (by rw [Nat.add_mul, Nat.one_mul, Nat.mul_comm]; omega) hT)
    (by
      rw [key, kP]
      have : (m * (2 ^ (e + 1074).toNat * 2 ^ (-(e + z + 1074)).toNat) ≠ m / 2 ^ z * 2 ^ z * (2 ^ (e + 1074).toNat * 2 ^ (-(e + z + 1074)).toNat)) ↔ m % 2 ^ z ≠ 0 := by
        constructor
        · intro h hz
          apply h
          congr 1
          rw [Nat.mul_comm]; omega
        · intro h hz
          have := Nat.eq_of_mul_eq_mul_right hT hz
          rw [Nat.mul_comm] at this
          omega
      rw [this]
      cases st <;> simp)
    (.inr hm)
  have hd := r2.uniq r1
  rw [hd, t1] at t2
  exact Prod.ext hd t2.symm
end Go.Proofs.YtoefabmlkbhmpaaDoor.PA

namespace Go.Proofs.YtoefabmlkbhmpaaDoor.PA
open Go Go.RowKit Go.Proofs.YtoefabmlkbhmpaaDoorW.PrintWords Go.Proofs.YtoefabmlkbhmpaaDoorW.PrintLast Go.Proofs.YtoefabmlkbhmpaaDoorW.PrintMore
set_option linter.unusedVariables false
set_option linter.unusedSimpArgs false
theorem getD_of_le {xs : List Int} {n : Nat} (h : xs.length ≤ n) : xs.getD n 0 = 0 := by rw [List.getD_eq_getElem?_getD, List.getElem?_eq_none h]; rfl
theorem shr_step {w q a P R : Int} (hP : 0 < P) (hR : 0 < R) (hPR : P * R = 18446744073709551616) : (w + 18446744073709551616 * (q * P + a % P)) / P = 18446744073709551616 * q + (a * R % 18446744073709551616 + w / P) := by
  have e : a * R % 18446744073709551616 = R * (a % P) := shl_low hR (by rw [Int.mul_comm]; exact hPR)
  rw [e]
  have e2 : w + 18446744073709551616 * (q * P + a % P) = w + P * (18446744073709551616 * q + R * (a % P)) := by
    generalize a % P = r
    rw [← hPR]
    grind
  rw [e2, Int.add_mul_ediv_left _ _ (by omega)]
  omega
theorem quot_shr.l0_eq (x : List Int) (hx : Ws x) (s : Nat) (hs : s ≤ 63) (hm : x.length ≤ 35184372088832) : ∀ (n k : Nat) (out : List Int) (a : Int), n < k → n ≤ x.length → out.length = x.length → Ws out → 0 ≤ a → a < 18446744073709551616 → nv (x.drop n) % 2 ^ s = a % 2 ^ s → nv (out.drop n) = nv (x.drop n) / 2 ^ s →
    quot_shr.l0 k x (s : Int) out a ((n : Int) - 1) = some (wd (nv x / 2 ^ s).toNat) := by
  have hP := two_pow_pos s
  have hR := two_pow_pos (64 - s)
  have hPR := pow_split (s := s) (by omega)
  intro n
  induction n with
  | zero =>
    intro k out a hk hn hl hw ha0 ha hr hv
    obtain ⟨k, rfl⟩ : ∃ j, k = j + 1 := ⟨k - 1, by omega⟩
    unfold quot_shr.l0
    rw [if_neg (by omega), nat_Norm.f, if_pos (by omega)]
    simp only [Option.bind_some, List.drop_zero] at hv ⊢
    rw [← hv, wd_nv hw]
  | succ n ih =>
    intro k out a hk hn hl hw ha0 ha hr hv
    obtain ⟨k, rfl⟩ : ∃ j, k = j + 1 := ⟨k - 1, by omega⟩
    have ho := hx.getD n
    have er : ((n + 1 : Nat) : Int) - 1 = (n : Int) := by omega
    have hy : x.getD n 0 / 2 ^ s < 2 ^ (64 - s) := Int.ediv_lt_of_lt_mul hP (by rw [pow_split' (by omega)]; exact ho.2)
    have hy0 : 0 ≤ x.getD n 0 / 2 ^ s := Int.ediv_nonneg ho.1 (Int.le_of_lt hP)
    have hlow := shl_low (x := a) hR (pow_split' (s := s) (by omega))
    have g0 : 0 ≤ a % 2 ^ s := Int.emod_nonneg _ (Int.ne_of_gt hP)
    have g1 : a % 2 ^ s < 2 ^ s := Int.emod_lt_of_pos _ hP
    have hm1 := Int.emod_nonneg (a * 2 ^ (64 - s)) (show (18446744073709551616 : Int) ≠ 0 by decide)
    have hsum : a * 2 ^ (64 - s) % 18446744073709551616 + x.getD n 0 / 2 ^ s < 18446744073709551616 := by
      rw [hlow, ← pow_split' (s := s) (by omega)]
      have h3 : 2 ^ (64 - s) * (a % 2 ^ s + 1) ≤ 2 ^ (64 - s) * 2 ^ s := Int.mul_le_mul_of_nonneg_left g1 (Int.le_of_lt hR)
      rw [Int.mul_add, Int.mul_one] at h3
      omega
    unfold quot_shr.l0
    rw [er, if_pos (by omega), if_pos (by omega), if_pos (by omega), rdn, wide_Shr.f_eq hs ha0 ha ho.1 ho.2]
    simp only [Option.bind_some]
    rw [if_pos (by omega), Int.toNat_natCast, w64_of (by omega) (by omega)]
    have q4 : n < out.length := by omega
    have q5 : n < x.length := by omega
    refine ih k _ _ (by omega) (by omega) (by rw [List.length_set]; exact hl) (hw.set _ (by omega) hsum) ho.1 ho.2 ?_ ?_
    · rw [drop_getD q5, nv_cons]
      have e : (18446744073709551616 : Int) = 2 ^ s * 2 ^ (64 - s) := hPR.symm
      rw [e, Int.mul_assoc, Int.add_mul_emod_self_left]
    · rw [drop_set_self q4, drop_getD q5, nv_cons, nv_cons, hv]
      have e := Int.mul_ediv_add_emod (nv (x.drop (n + 1))) (2 ^ s)
      rw [hr] at e
      have h := shr_step (w := x.getD n 0) (q := nv (x.drop (n + 1)) / 2 ^ s) (a := a) hP hR hPR
      rw [Int.mul_comm (nv (x.drop (n + 1)) / 2 ^ s) (2 ^ s), e] at h
      rw [h]
      omega
theorem quot_shr.f_eq (x : List Int) (hx : Ws x) (s : Nat) (hs : s ≤ 63) (hm : x.length ≤ 35184372088832) (k : Nat) (hk : x.length < k) : quot_shr.f k x (s : Int) = some (wd (nv x / 2 ^ s).toNat) := by
  rw [quot_shr.f, if_pos (by omega), Int.toNat_natCast, if_pos hm, w64_of (by omega) (by omega)]
  exact quot_shr.l0_eq x hx s hs hm x.length k _ 0 hk (Nat.le_refl _) (by simp) (Ws.zeros _) (by decide) (by decide) (by rw [List.drop_eq_nil_of_le (Nat.le_refl _)]; simp [nv]) (by rw [List.drop_eq_nil_of_le (Nat.le_refl _), List.drop_eq_nil_of_le (by simp)]; simp [nv])
theorem wide_Sub.f_eq {a b c : Int} (ha0 : 0 ≤ a) (ha : a < 18446744073709551616) (hb0 : 0 ≤ b) (hb : b < 18446744073709551616) (hc0 : 0 ≤ c) (hc : c ≤ 1) :
    wide_Sub.f a b c = some ((a - b - c) % 18446744073709551616, if a < b + c then 1 else 0) := by
  unfold wide_Sub.f
  rw [show Go.bits .and .u64 c 1 = c % 2 from and_mask hc0 (by omega) 1 (by omega) _ rfl]
  simp only [u64w]
  by_cases h1 : a < b
  · rw [if_pos h1, if_pos (by omega)]; congr 2; omega
  · rw [if_neg h1]
    by_cases h2 : a = b
    · rw [if_pos h2]
      by_cases h3 : c = 1
      · rw [if_pos (by omega), if_pos (by omega)]; congr 2; omega
      · rw [if_neg (by omega), if_neg (by omega)]; congr 2; omega
    · rw [if_neg h2, if_neg (by omega)]; congr 2; omega
/-- one word taken away: what is above, what is borrowed -/
theorem take_word {w b a u o : Int} (hw0 : 0 ≤ w) (hw : w < 18446744073709551616) (hb0 : 0 ≤ b) (hb : b < 18446744073709551616) (ha0 : 0 ≤ a) (ha : a < 18446744073709551616) (hu0 : 0 ≤ u) (hu : u < 18446744073709551616) (ho0 : 0 ≤ o) (ho : o ≤ 1) :
    ∃ hi lo lo' c v o' a', wide_Mul.f w b = some (hi, lo) ∧ wide_Add.f lo a 0 = some (lo', c) ∧ wide_Sub.f u lo' o = some (v, o') ∧ IntKind.u64.wrap (hi + c) = a' ∧ 0 ≤ v ∧ v < 18446744073709551616 ∧ 0 ≤ o' ∧ o' ≤ 1 ∧ 0 ≤ a' ∧ a' < 18446744073709551616 ∧
      v = u - w * b - a - o + (a' + o') * 18446744073709551616 := by
  have hab0 : 0 ≤ w * b := Int.mul_nonneg hw0 hb0
  have hab : w * b ≤ 18446744073709551615 * 18446744073709551615 := Int.mul_le_mul (by omega) (by omega) hb0 (by omega)
  refine ⟨w * b / 18446744073709551616, w * b % 18446744073709551616, _, _, _, _, _, ?_, wide_Add.f_eq (by omega) (by omega) ha0 ha (by omega) (by omega), wide_Sub.f_eq hu0 hu (by omega) (by omega) ho0 ho, rfl, ?_⟩
  · unfold wide_Mul.f
    rw [if_pos (u64B_iff.2 ⟨hw0, hw⟩), if_pos (u64B_iff.2 ⟨hb0, hb⟩)]
  · simp only [u64w]
    generalize w * b = p at *
    split <;> omega
theorem quot_take.l0_eq (v : List Int) (hv : Ws v) (b : Int) (hb0 : 0 ≤ b) (hb : b < 18446744073709551616) (u : List Int) (hu : Ws u) (hl : u.length = v.length + 1) (hm : v.length ≤ 35184372088832) : ∀ (d k : Nat) (cur : List Int) (a o : Int) (i : Nat), d = v.length - i → d < k → i ≤ v.length → cur.length = v.length + 1 → Ws cur → 0 ≤ a → a < 18446744073709551616 → 0 ≤ o → o ≤ 1 →
    nv cur = nv u - b * nv (v.take i) + (a + o) * 2 ^ (64 * i) →
    quot_take.l0 k cur v b a o v (v.length : Int) (i : Int) = some (decide (nv u < b * nv v), wn (v.length + 1) (if nv u < b * nv v then nv u - b * nv v + 2 ^ (64 * (v.length + 1)) else nv u - b * nv v)) := by
  intro d
  induction d with
  | zero =>
    intro k cur a o i hd hk hi hcl hw ha0 ha ho0 ho he
    obtain ⟨k, rfl⟩ : ∃ j, k = j + 1 := ⟨k - 1, by omega⟩
    obtain rfl : i = v.length := by omega
    rw [List.take_length] at he
    have hc := hw.getD v.length
    unfold quot_take.l0
    rw [if_neg (by omega), if_pos (by omega), if_pos (by omega), rdn, wide_Sub.f_eq hc.1 hc.2 ha0 ha ho0 ho]
    simp only [Option.bind_some, Int.toNat_natCast]
    have hx0 : 0 ≤ (cur.getD v.length 0 - a - o) % 18446744073709551616 := by omega
    have hx1 : (cur.getD v.length 0 - a - o) % 18446744073709551616 < 18446744073709551616 := by omega
    have hw' := hw.set v.length hx0 hx1
    have hlen : (cur.set v.length ((cur.getD v.length 0 - a - o) % 18446744073709551616)).length = v.length + 1 := by rw [List.length_set]; exact hcl
    have hn0 := nv_nonneg hw'
    have hn1 := nv_lt hw'
    rw [hlen] at hn1
    have hset := nv_set (xs := cur) (n := v.length) (by omega) ((cur.getD v.length 0 - a - o) % 18446744073709551616)
    have hp := two_pow_pos (64 * v.length)
    have epow : (2 : Int) ^ (64 * (v.length + 1)) = 18446744073709551616 * 2 ^ (64 * v.length) := pow64 _
    by_cases hlt : cur.getD v.length 0 < a + o
    · rw [if_pos hlt]
      have e1 : (cur.getD v.length 0 - a - o) % 18446744073709551616 = cur.getD v.length 0 - a - o + 18446744073709551616 := by omega
      have e2 : nv (cur.set v.length ((cur.getD v.length 0 - a - o) % 18446744073709551616)) = nv u - b * nv v + 2 ^ (64 * (v.length + 1)) := by
        rw [hset, he, e1, epow]; grind
      have hneg : nv u < b * nv v := by omega
      rw [if_pos hneg, decide_eq_true hneg, ← e2, ← eq_wn hw' hlen]
      rfl
    · rw [if_neg hlt]
      have e1 : (cur.getD v.length 0 - a - o) % 18446744073709551616 = cur.getD v.length 0 - a - o := by omega
      have e2 : nv (cur.set v.length ((cur.getD v.length 0 - a - o) % 18446744073709551616)) = nv u - b * nv v := by
        rw [hset, he, e1]; grind
      have hneg : ¬ nv u < b * nv v := by omega
      rw [if_neg hneg, decide_eq_false hneg, ← e2, ← eq_wn hw' hlen]
      rfl
  | succ d ih =>
    intro k cur a o i hd hk hi hcl hw ha0 ha ho0 ho he
    obtain ⟨k, rfl⟩ : ∃ j, k = j + 1 := ⟨k - 1, by omega⟩
    have hvi := hv.getD i
    have hci := hw.getD i
    obtain ⟨hi_, lo, lo', c, x, o', a', eM, eA, eS, ew, hx0, hx1, ho0', ho', ha0', ha', ex⟩ := take_word hvi.1 hvi.2 hb0 hb ha0 ha hci.1 hci.2 ho0 ho
    unfold quot_take.l0
    rw [if_pos (by omega), if_pos (by omega), if_pos (by omega), rdn, eM]
    simp only [Option.bind_some]
    rw [eA]
    simp only [Option.bind_some]
    rw [if_pos (by omega), rdn, eS]
    simp only [Option.bind_some]
    rw [ew, w64_s i (by omega), Int.toNat_natCast]
    refine ih k _ _ _ (i + 1) (by omega) (by omega) (by omega) (by rw [List.length_set]; exact hcl) (hw.set _ hx0 hx1) ha0' ha' ho0' ho' ?_
    rw [nv_set (by omega), nv_take_succ (by omega), pow64, he, ex]
    clear ex eM eA eS ew ih hw hv hu hvi hci
    generalize (2 : Int) ^ (64 * i) = p at *
    generalize cur.getD i 0 = y at *
    generalize v.getD i 0 = z at *
    grind
theorem quot_take.f_eq (u v : List Int) (hu : Ws u) (hv : Ws v) (hl : u.length = v.length + 1) (hm : v.length ≤ 35184372088832) (b : Int) (hb0 : 0 ≤ b) (hb : b < 18446744073709551616) (k : Nat) (hk : v.length < k) :
    quot_take.f k u v b = some (decide (nv u < b * nv v), wn (v.length + 1) (if nv u < b * nv v then nv u - b * nv v + 2 ^ (64 * (v.length + 1)) else nv u - b * nv v)) := by
  rw [quot_take.f]
  exact quot_take.l0_eq v hv b hb0 hb u hu hl hm v.length k u 0 0 0 (by omega) hk (by omega) hl hu (by decide) (by decide) (by decide) (by decide) (by simp [nv])
theorem quot_give.l0_eq (v : List Int) (hv : Ws v) (u : List Int) (hu : Ws u) (hl : u.length = v.length + 1) (hm : v.length ≤ 35184372088832) : ∀ (d k : Nat) (cur : List Int) (o : Int) (i : Nat), d = v.length - i → d < k → i ≤ v.length → cur.length = v.length + 1 → Ws cur → 0 ≤ o → o ≤ 1 →
    nv cur + o * 2 ^ (64 * i) = nv u + nv (v.take i) →
    quot_give.l0 k cur v o v (v.length : Int) (i : Int) = some (wn (v.length + 1) (if nv u + nv v < 2 ^ (64 * (v.length + 1)) then nv u + nv v else nv u + nv v - 2 ^ (64 * (v.length + 1)))) := by
  intro d
  induction d with
  | zero =>
    intro k cur o i hd hk hi hcl hw ho0 ho he
    obtain ⟨k, rfl⟩ : ∃ j, k = j + 1 := ⟨k - 1, by omega⟩
    obtain rfl : i = v.length := by omega
    rw [List.take_length] at he
    have hc := hw.getD v.length
    unfold quot_give.l0
    rw [if_neg (by omega), if_pos (by omega), if_pos (by omega), rdn, u64w]
    simp only [Int.toNat_natCast]
    have hx0 : 0 ≤ (cur.getD v.length 0 + o) % 18446744073709551616 := by omega
    have hx1 : (cur.getD v.length 0 + o) % 18446744073709551616 < 18446744073709551616 := by omega
    have hw' := hw.set v.length hx0 hx1
    have hlen : (cur.set v.length ((cur.getD v.length 0 + o) % 18446744073709551616)).length = v.length + 1 := by rw [List.length_set]; exact hcl
    have hn0 := nv_nonneg hw'
    have hn1 := nv_lt hw'
    rw [hlen] at hn1
    have hset := nv_set (xs := cur) (n := v.length) (by omega) ((cur.getD v.length 0 + o) % 18446744073709551616)
    have epow : (2 : Int) ^ (64 * (v.length + 1)) = 18446744073709551616 * 2 ^ (64 * v.length) := pow64 _
    by_cases hlt : cur.getD v.length 0 + o < 18446744073709551616
    · have e1 : (cur.getD v.length 0 + o) % 18446744073709551616 = cur.getD v.length 0 + o := by omega
      have e2 : nv (cur.set v.length ((cur.getD v.length 0 + o) % 18446744073709551616)) = nv u + nv v := by
        rw [hset, e1]; grind
      rw [if_pos (by omega), ← e2, ← eq_wn hw' hlen]
    · have e1 : (cur.getD v.length 0 + o) % 18446744073709551616 = cur.getD v.length 0 + o - 18446744073709551616 := by omega
      have e2 : nv (cur.set v.length ((cur.getD v.length 0 + o) % 18446744073709551616)) = nv u + nv v - 2 ^ (64 * (v.length + 1)) := by
        rw [hset, e1, epow]; grind
      rw [if_neg (by omega), ← e2, ← eq_wn hw' hlen]
  | succ d ih =>
    intro k cur o i hd hk hi hcl hw ho0 ho he
    obtain ⟨k, rfl⟩ : ∃ j, k = j + 1 := ⟨k - 1, by omega⟩
    have hvi := hv.getD i
    have hci := hw.getD i
    unfold quot_give.l0
    rw [if_pos (by omega), if_pos (by omega), if_pos (by omega), if_pos (by omega), rdn, rdn, wide_Add.f_eq hci.1 hci.2 hvi.1 hvi.2 ho0 ho]
    simp only [Option.bind_some]
    rw [w64_s i (by omega), Int.toNat_natCast]
    refine ih k _ _ (i + 1) (by omega) (by omega) (by omega) (by rw [List.length_set]; exact hcl) (hw.set _ (by omega) (by omega)) (by omega) (by omega) ?_
    rw [nv_set (by omega), nv_take_succ (by omega), pow64]
    have e : (cur.getD i 0 + v.getD i 0 + o) % 18446744073709551616 = cur.getD i 0 + v.getD i 0 + o - (cur.getD i 0 + v.getD i 0 + o) / 18446744073709551616 * 18446744073709551616 := by omega
    rw [e]
    generalize (cur.getD i 0 + v.getD i 0 + o) / 18446744073709551616 = q at *
    clear e ih hw hv hu hvi hci
    generalize (2 : Int) ^ (64 * i) = p at *
    generalize cur.getD i 0 = y at *
    generalize v.getD i 0 = z at *
    grind
theorem quot_give.f_eq (u v : List Int) (hu : Ws u) (hv : Ws v) (hl : u.length = v.length + 1) (hm : v.length ≤ 35184372088832) (k : Nat) (hk : v.length < k) :
    quot_give.f k u v = some (wn (v.length + 1) (if nv u + nv v < 2 ^ (64 * (v.length + 1)) then nv u + nv v else nv u + nv v - 2 ^ (64 * (v.length + 1)))) := by
  rw [quot_give.f]
  exact quot_give.l0_eq v hv u hu hl hm v.length k u 0 0 (by omega) hk (by omega) hl hu (by decide) (by decide) (by simp [nv])
end Go.Proofs.YtoefabmlkbhmpaaDoor.PA

namespace Go.Proofs.YtoefabmlkbhmpaaDoor.PA
open Go.RowKit Go.Proofs.YtoefabmlkbhmpaaDoorW.PrintWords Go.Proofs.YtoefabmlkbhmpaaDoorW.PrintLast Go.Proofs.YtoefabmlkbhmpaaDoorW.PrintMore
set_option linter.unusedVariables false
set_option linter.unusedSimpArgs false
theorem bnd_small {n : Int} (h : n < (2 : Int) ^ 262144) : bnd n = (wd n.toNat, 0) := by unfold bnd; rw [if_pos h]
end Go.Proofs.YtoefabmlkbhmpaaDoor.PA

namespace Go.Proofs.YtoefabmlkbhmpaaDoor.PA
open Go Go.RowKit Go.Proofs.YtoefabmlkbhmpaaDoorW.PrintWords Go.Proofs.YtoefabmlkbhmpaaDoorW.PrintLast Go.Proofs.YtoefabmlkbhmpaaDoorW.PrintMore
set_option linter.unusedVariables false
set_option linter.unusedSimpArgs false
theorem odd_part2 : ∀ (n w : Nat), w ≤ n → w ≠ 0 → ∃ o t, w = o * 2 ^ t ∧ o % 2 = 1 := by
  intro n
  induction n with
  | zero => intro w h1 h2; omega
  | succ n ih =>
    intro w h1 h2
    by_cases h : w % 2 = 1
    · exact ⟨w, 0, by simp, h⟩
    · obtain ⟨o, t, e, ho⟩ := ih (w / 2) (by omega) (by omega)
      exact ⟨o, t + 1, by rw [Nat.pow_succ, ← Nat.mul_assoc, ← e]; omega, ho⟩
theorem mod_odd {o z s : Nat} (ho : o % 2 = 1) : (o * 2 ^ z % 2 ^ s ≠ 0) ↔ z < s := by
  constructor
  · intro h
    apply Classical.byContradiction
    intro hn
    apply h
    rw [show z = (z - s) + s from by omega, Nat.pow_add, ← Nat.mul_assoc, Nat.mul_mod_left]
  · intro h hz
    rw [show s = (s - z - 1) + 1 + z from by omega, Nat.pow_add, Nat.mul_mod_mul_right] at hz
    have h1 := (Nat.mul_eq_zero.1 hz).resolve_right (Nat.ne_of_gt (Nat.pow_pos (by decide)))
    have h2 : 2 ∣ o := Nat.dvd_trans ⟨2 ^ (s - z - 1), by rw [Nat.pow_succ, Nat.mul_comm]⟩ (Nat.dvd_of_mod_eq_zero h1)
    omega
theorem nat_Zeros.l0_eq (x : List Int) (hx : Ws x) (hm : x.length ≤ 17592186044416) (a : Nat) (ha : nv x = (a : Int)) (h0 : a ≠ 0) : ∀ (d i : Nat), d = x.length - i → i ≤ x.length → nv (x.take i) = 0 →
    ∃ z : Nat, (∀ k, d + 10 < k → nat_Zeros.l0 k x (x.length : Int) (i : Int) = some (z : Int)) ∧ ∀ s : Nat, (z < s ↔ a % 2 ^ s ≠ 0) := by
  intro d
  induction d with
  | zero =>
    intro i hd hi hz
    obtain rfl : i = x.length := by omega
    rw [List.take_length] at hz
    omega
  | succ d ih =>
    intro i hd hi hz
    by_cases hw : x.getD i 0 = 0
    · obtain ⟨z, h1, h2⟩ := ih (i + 1) (by omega) (by omega) (by rw [nv_take_succ (by omega), hz, hw]; simp)
      refine ⟨z, ?_, h2⟩
      intro k hk
      obtain ⟨k, rfl⟩ : ∃ j, k = j + 1 := ⟨k - 1, by omega⟩
      rw [nat_Zeros.l0, if_pos (by omega), if_pos (by omega), if_pos (by omega), rdn, if_pos hw, w64_s i (by omega)]
      exact h1 k (by omega)
    · have hg := hx.getD i
      obtain ⟨w, ew⟩ := Int.eq_ofNat_of_zero_le hg.1
      obtain ⟨o, t, eo, ho⟩ := odd_part2 w w (Nat.le_refl _) (by omega)
      have hlt : o * 2 ^ t < 18446744073709551616 := by rw [← eo]; omega
      have ht : t < 64 := by
        apply Classical.byContradiction
        intro hn
        have h1 : 2 ^ 64 ≤ 2 ^ t := Nat.pow_le_pow_right (by decide) (by omega)
        have h2 : 1 * 2 ^ t ≤ o * 2 ^ t := Nat.mul_le_mul_right _ (by omega)
        rw [show (2 : Nat) ^ 64 = 18446744073709551616 from by decide] at h1
        omega
      refine ⟨64 * i + t, ?_, ?_⟩
      · intro k hk
        obtain ⟨k, rfl⟩ : ∃ j, k = j + 1 := ⟨k - 1, by omega⟩
        have e1 : wrap64 (wrap64 (64 * (i : Int)) + (t : Int)) = ((64 * i + t : Nat) : Int) := by
          rw [w64_of (x := 64 * (i : Int)) (by omega) (by omega), w64_of (by omega) (by omega)]; omega
        have hZ := wide_Zeros.f_eq hlt ho k (by omega)
        rw [nat_Zeros.l0, if_pos (by omega), if_pos (by omega), if_pos (by omega), rdn, if_neg hw, ew]
        rw [← eo] at hZ
        rw [hZ, Option.bind_some, e1]
      · intro s
        have e1 := nv_split (xs := x) (n := i + 1) (by omega)
        rw [nv_take_succ (by omega), hz, ew, ha] at e1
        have hD := nv_nonneg (hx.drop (i + 1))
        obtain ⟨D, eD⟩ := Int.eq_ofNat_of_zero_le hD
        rw [eD, p2cast, p2cast] at e1
        have e2 : a = (o + 2 * (2 ^ (63 - t) * D)) * 2 ^ (64 * i + t) := by
          have e3 : a = w * 2 ^ (64 * i) + 2 ^ (64 * (i + 1)) * D := by
            have : ((a : Nat) : Int) = ((w * 2 ^ (64 * i) + 2 ^ (64 * (i + 1)) * D : Nat) : Int) := by
              rw [e1]; push_cast; omega
            exact Int.ofNat.inj this
          have e4 : 2 ^ (64 * (i + 1)) = 2 * 2 ^ (63 - t) * 2 ^ (64 * i + t) := by
            rw [← Nat.pow_succ', ← Nat.pow_add]; congr 1; omega
          rw [e3, e4, eo, Nat.pow_add]
          generalize 2 ^ (64 * i) = p
          generalize 2 ^ t = q
          generalize 2 ^ (63 - t) = r
          grind
        rw [e2]
        exact (mod_odd (by omega)).symm
theorem nat_Zeros.f_eq (x : List Int) (hx : Ws x) (hm : x.length ≤ 17592186044416) (a : Nat) (ha : nv x = (a : Int)) (h0 : a ≠ 0) :
    ∃ z : Nat, (∀ k, x.length + 10 < k → nat_Zeros.f k x = some (z : Int)) ∧ ∀ s : Nat, (z < s ↔ a % 2 ^ s ≠ 0) := by
  obtain ⟨z, h1, h2⟩ := nat_Zeros.l0_eq x hx hm a ha h0 x.length 0 (by omega) (by omega) rfl
  exact ⟨z, fun k hk => by rw [nat_Zeros.f]; exact h1 k hk, h2⟩
theorem nat_Shr.l0_eq (x0 : List Int) (x1 : Int) (Y : List Int) (hY : Ws Y) (s : Nat) (hs : s ≤ 63) (hm : Y.length ≤ 17592186044416) (hb : nv Y / 2 ^ s < 2 ^ 262144) (z : Int) (K : Nat) (hz : ∀ k, K ≤ k → nat_Zeros.f k x0 = some z) :
    ∀ (d k i : Nat) (cur : List Int), d = Y.length - i → d + K + Y.length + 2 < k → i ≤ Y.length → cur.length = Y.length → Ws cur → (∀ j, i ≤ j → cur.getD j 0 = Y.getD j 0) → nv (cur.take i) + 2 ^ (64 * i) * (nv (Y.drop i) / 2 ^ s) = nv Y / 2 ^ s →
    nat_Shr.l0 k x0 x1 cur (s : Int) (Y.length : Int) (i : Int) = some (wd (nv Y / 2 ^ s).toNat, decide (z < x1), 0) := by
  have hP := two_pow_pos s
  have hR := two_pow_pos (64 - s)
  have hPR := pow_split (s := s) (by omega)
  intro d
  induction d with
  | zero =>
    intro k i cur hd hk hi hl hw hj hv
    obtain ⟨k, rfl⟩ : ∃ j, k = j + 1 := ⟨k - 1, by omega⟩
    obtain rfl : i = Y.length := by omega
    rw [List.take_of_length_le (by omega), List.drop_eq_nil_of_le (Nat.le_refl _), nv_nil, Int.zero_ediv, Int.mul_zero, Int.add_zero] at hv
    rw [nat_Shr.l0, if_neg (by omega), nat_bound.f_bnd hw (by omega) k (by omega), Option.bind_some, hz k (by omega), Option.bind_some, hv, bnd_small hb]
  | succ d ih =>
    intro k i cur hd hk hi hl hw hj hv
    obtain ⟨k, rfl⟩ : ∃ j, k = j + 1 := ⟨k - 1, by omega⟩
    have ho := hY.getD i
    have hn := hY.getD (i + 1)
    have hy : Y.getD i 0 / 2 ^ s < 2 ^ (64 - s) := Int.ediv_lt_of_lt_mul hP (by rw [pow_split' (by omega)]; exact ho.2)
    have hy0 : 0 ≤ Y.getD i 0 / 2 ^ s := Int.ediv_nonneg ho.1 (Int.le_of_lt hP)
    have hlow := shl_low (x := Y.getD (i + 1) 0) hR (pow_split' (s := s) (by omega))
    have g0 : 0 ≤ Y.getD (i + 1) 0 % 2 ^ s := Int.emod_nonneg _ (Int.ne_of_gt hP)
    have g1 : Y.getD (i + 1) 0 % 2 ^ s < 2 ^ s := Int.emod_lt_of_pos _ hP
    have hm1 := Int.emod_nonneg (Y.getD (i + 1) 0 * 2 ^ (64 - s)) (show (18446744073709551616 : Int) ≠ 0 by decide)
    have hsum : Y.getD (i + 1) 0 * 2 ^ (64 - s) % 18446744073709551616 + Y.getD i 0 / 2 ^ s < 18446744073709551616 := by
      rw [hlow, ← pow_split' (s := s) (by omega)]
      have h3 : 2 ^ (64 - s) * (Y.getD (i + 1) 0 % 2 ^ s + 1) ≤ 2 ^ (64 - s) * 2 ^ s := Int.mul_le_mul_of_nonneg_left g1 (Int.le_of_lt hR)
      rw [Int.mul_add, Int.mul_one] at h3
      omega
    -- what lies above is as the next word, by the power
    have hmod : nv (Y.drop (i + 1)) % 2 ^ s = Y.getD (i + 1) 0 % 2 ^ s := by
      by_cases hlast : i + 1 < Y.length
      · rw [drop_getD hlast, nv_cons]
        have e : (18446744073709551616 : Int) = 2 ^ s * 2 ^ (64 - s) := hPR.symm
        rw [e, Int.mul_assoc, Int.add_mul_emod_self_left]
      · rw [List.drop_eq_nil_of_le (by omega), getD_of_le (by omega), nv_nil]
    have hstep : nv (Y.drop i) / 2 ^ s = 18446744073709551616 * (nv (Y.drop (i + 1)) / 2 ^ s) + (Y.getD (i + 1) 0 * 2 ^ (64 - s) % 18446744073709551616 + Y.getD i 0 / 2 ^ s) := by
      rw [drop_getD (show i < Y.length by omega), nv_cons]
      have e := Int.mul_ediv_add_emod (nv (Y.drop (i + 1))) (2 ^ s)
      rw [hmod] at e
      have h := shr_step (w := Y.getD i 0) (q := nv (Y.drop (i + 1)) / 2 ^ s) (a := Y.getD (i + 1) 0) hP hR hPR
      rw [Int.mul_comm (nv (Y.drop (i + 1)) / 2 ^ s) (2 ^ s), e] at h
      exact h
    have hrec : nat_Shr.l0 k x0 x1 (cur.set i (Y.getD (i + 1) 0 * 2 ^ (64 - s) % 18446744073709551616 + Y.getD i 0 / 2 ^ s)) (s : Int) (Y.length : Int) ((i + 1 : Nat) : Int) = some (wd (nv Y / 2 ^ s).toNat, decide (z < x1), 0) := by
      refine ih k (i + 1) _ (by omega) (by omega) (by omega) (by rw [List.length_set]; exact hl) (hw.set _ (by omega) hsum) ?_ ?_
      · intro j hij
        rw [set_getD_ne (by omega)]
        exact hj j (by omega)
      · rw [nv_take_succ (by rw [List.length_set]; omega), take_set_self]
        have e5 : (cur.set i (Y.getD (i + 1) 0 * 2 ^ (64 - s) % 18446744073709551616 + Y.getD i 0 / 2 ^ s)).getD i 0 = Y.getD (i + 1) 0 * 2 ^ (64 - s) % 18446744073709551616 + Y.getD i 0 / 2 ^ s := by
          rw [List.getD_eq_getElem?_getD, List.getElem?_set_self (by omega)]; rfl
        rw [e5, pow64, ← hv, hstep]
        generalize Y.getD (i + 1) 0 * 2 ^ (64 - s) % 18446744073709551616 + Y.getD i 0 / 2 ^ s = v
        generalize nv (Y.drop (i + 1)) / 2 ^ s = D
        generalize (2 : Int) ^ (64 * i) = p
        generalize nv (cur.take i) = T
        grind
    rw [nat_Shr.l0, if_pos (by omega), w64_s i (by omega)]
    by_cases hlast : i + 1 < Y.length
    · rw [if_pos (by omega), if_pos (by omega), if_pos (by omega), if_pos (by omega), rdn, rdn, hj i (Nat.le_refl _), hj (i + 1) (by omega), wide_Shr.f_eq hs hn.1 hn.2 ho.1 ho.2, Option.bind_some, Int.toNat_natCast]
      exact hrec
    · rw [if_neg (by omega), if_pos (by omega), if_pos (by omega), rdn, hj i (Nat.le_refl _), wide_Shr.f_eq hs (by decide) (by decide) ho.1 ho.2, Option.bind_some, Int.toNat_natCast]
      rw [getD_of_le (show Y.length ≤ i + 1 by omega)] at hrec
      exact hrec
theorem bits_lt_pow {a : Nat} (s : Nat) : bitsN (a : Int) ≤ (s : Int) ↔ a < 2 ^ s := by
  by_cases h0 : a = 0
  · subst h0
    rw [show bitsN ((0 : Nat) : Int) = 0 from bitsN_zero]
    exact ⟨fun _ => Nat.pow_pos (by decide), fun _ => by omega⟩
  · have hb := bitsN_pos (x := (a : Int)) (by omega)
    obtain ⟨L, hL⟩ : ∃ n : Nat, bitsN (a : Int) = n + 1 := ⟨(bitsN (a : Int) - 1).toNat, by omega⟩
    have h1 := (bitsN_iff (by omega) L).1 hL
    rw [p2cast, p2cast] at h1
    have h2 : 2 ^ L ≤ a := Int.ofNat_le.1 h1.1
    have h3 : a < 2 ^ (L + 1) := Int.ofNat_lt.1 h1.2
    rw [hL]
    constructor
    · intro h
      exact Nat.lt_of_lt_of_le h3 (Nat.pow_le_pow_right (by decide) (by omega))
    · intro h
      have := (Nat.pow_lt_pow_iff_right (a := 2) (by decide)).1 (Nat.lt_of_le_of_lt h2 h)
      omega
theorem div_bits {a s c : Nat} (h : bitsN (a : Int) ≤ (c : Int) + s) : ((a / 2 ^ s : Nat) : Int) < 2 ^ c := by
  rw [p2cast]
  apply Int.ofNat_lt.2
  rw [Nat.div_lt_iff_lt_mul (Nat.pow_pos (by decide)), ← Nat.pow_add, ← bits_lt_pow]
  omega
theorem nat_Shr.f_eq (l : List Int) (hl : Ws l) (hm : l.length ≤ 17592186044416) (a : Nat) (ha : nv l = (a : Int)) (s : Nat) (hs : s ≤ 4503599627370496) (hb : bitsN (a : Int) ≤ 262144 + s) (k : Nat) (hk : 3 * l.length + 30 < k) :
    nat_Shr.f k l (s : Int) = some (wd (a / 2 ^ s), decide (a % 2 ^ s ≠ 0), 0) := by
  rw [nat_Shr.f, nat_Bits.f_eq l hl (by omega) k (by omega) (by omega), Option.bind_some, if_neg (by omega), ha]
  by_cases h1 : bitsN (a : Int) ≤ s
  · have hlt := (bits_lt_pow s).1 h1
    rw [if_pos h1, Nat.div_eq_of_lt hlt, Nat.mod_eq_of_lt hlt, wd_zero]
    congr 3
    rw [decide_eq_decide]
    constructor
    · intro h hz
      rw [hz] at h
      exact absurd h (by decide)
    · intro h
      have := bitsN_pos (x := (a : Int)) (by omega)
      omega
  · have ha0 : a ≠ 0 := by
      intro h
      apply h1
      rw [h, show bitsN ((0 : Nat) : Int) = 0 from bitsN_zero]
      omega
    have hbl : bitsN (a : Int) ≤ ((64 * l.length : Nat) : Int) := by
      rw [bits_lt_pow]
      have := nv_lt hl
      rw [ha, p2cast] at this
      exact Int.ofNat_lt.1 this
    have e1 : wrap64 (Int.tdiv (s : Int) 64) = ((s / 64 : Nat) : Int) := by
      rw [Int.tdiv_eq_ediv_of_nonneg (by omega), w64_of (by omega) (by omega)]; omega
    have e2 : Int.tmod (s : Int) 64 = ((s % 64 : Nat) : Int) := by
      rw [Int.tmod_eq_emod_of_nonneg (by omega)]; omega
    obtain ⟨z, hz1, hz2⟩ := nat_Zeros.f_eq l hl hm a ha ha0
    have hdec : decide ((z : Int) < (s : Int)) = decide (a % 2 ^ s ≠ 0) := by
      rw [decide_eq_decide, ← hz2 s]; omega
    have hdl : (l.drop (s / 64)).length ≤ l.length := by rw [List.length_drop]; omega
    have hY : Ws (strip (l.drop (s / 64))) := (hl.drop _).strip
    have hYl : (strip (l.drop (s / 64))).length ≤ l.length := Nat.le_trans (strip_length_le _) hdl
    have eY : nv (strip (l.drop (s / 64))) = ((a / 2 ^ (64 * (s / 64)) : Nat) : Int) := by
      have e3 := nv_split (xs := l) (n := s / 64) (by omega)
      have b1 := nv_nonneg (hl.take (s / 64))
      have b2 := nv_take_lt hl (s / 64)
      have hp := two_pow_pos (64 * (s / 64))
      rw [nv_strip, Int.natCast_ediv, ← ha, ← p2cast, e3, Int.add_mul_ediv_left _ _ (Int.ne_of_gt hp), Int.ediv_eq_zero_of_lt b1 b2, Int.zero_add]
    have eq_ : a / 2 ^ (64 * (s / 64)) / 2 ^ (s % 64) = a / 2 ^ s := by
      rw [Nat.div_div_eq_div_mul, ← Nat.pow_add]; congr 2; omega
    have efin : nv (strip (l.drop (s / 64))) / 2 ^ (s % 64) = ((a / 2 ^ s : Nat) : Int) := by
      rw [eY, p2cast, ← Int.natCast_ediv, eq_]
    have hsmall : ((a / 2 ^ s : Nat) : Int) < 2 ^ 262144 := div_bits hb
    rw [if_neg (by omega), w64_of (x := bitsN (a : Int) - (s : Int)) (by omega) (by omega), if_neg (by omega), e1, if_pos (by omega), if_pos (by omega), nat_Norm.f, Int.toNat_natCast, if_pos (by omega), Option.bind_some, e2]
    by_cases h0 : s % 64 = 0
    · rw [h0] at efin ⊢
      rw [Int.pow_zero, Int.ediv_one] at efin
      rw [if_neg (by omega), nat_bound.f_bnd hY (by omega) k (by omega), Option.bind_some, hz1 k (by omega), Option.bind_some, efin, bnd_small hsmall, hdec, Int.toNat_natCast]
    · rw [if_pos (by omega)]
      have r := nat_Shr.l0_eq l (s : Int) (strip (l.drop (s / 64))) hY (s % 64) (by omega) (by omega) (by rw [efin]; exact hsmall) (z : Int) (l.length + 11) (fun k hk => hz1 k (by omega)) (strip (l.drop (s / 64))).length k 0 (strip (l.drop (s / 64))) (by omega) (by omega) (by omega) rfl hY (fun _ _ => rfl) (by simp [nv])
      rw [efin, hdec, Int.toNat_natCast] at r
      exact r
theorem nat_Word.f_eq {n : Nat} (h : n < 18446744073709551616) (k : Nat) (hk : 3 ≤ k) : nat_Word.f k (wd n) = some ((n : Int), true) := by
  have hw := wd_ws n
  have hlen : (wd n).length ≤ 1 := by
    have := wd_len (n := (n : Int)) (t := 1) (by omega) (by rw [show (2 : Int) ^ (64 * 1) = 18446744073709551616 from by decide]; omega)
    rwa [Int.toNat_natCast] at this
  rw [nat_Word.f, nat_size.f_eq (wd n) (by omega) k (by omega), Option.bind_some, strip_wd]
  by_cases h0 : n = 0
  · subst h0
    rw [wd_zero]; rfl
  · rw [wd_pos h0, Nat.div_eq_of_lt h, wd_zero, Nat.mod_eq_of_lt h]
    rfl
end Go.Proofs.YtoefabmlkbhmpaaDoor.PA

namespace Go.Proofs.YtoefabmlkbhmpaaDoor.PA
open Go Go.RowKit Go.Proofs.YtoefabmlkbhmpaaDoorW.PrintWords Go.Proofs.YtoefabmlkbhmpaaDoorW.PrintLast Go.Proofs.YtoefabmlkbhmpaaDoorW.PrintMore
set_option linter.unusedVariables false
set_option linter.unusedSimpArgs false
theorem near_known.f_eq (m : Int) : near_known.f m = some (decide (0 ≤ m ∧ m ≤ 4)) := by
  unfold near_known.f
  by_cases h : m ≥ 0
  · rw [if_pos h]; congr 1; rw [decide_eq_decide]; omega
  · rw [if_neg h, decide_eq_false (by omega)]
/-- a number's bits, from its list -/
theorem bits_len {l : List Int} (hl : Ws l) {a : Nat} (ha : nv l = (a : Int)) : bitsN (a : Int) ≤ ((64 * l.length : Nat) : Int) := by
  rw [bits_lt_pow]
  have := nv_lt hl
  rw [ha, p2cast] at this
  exact Int.ofNat_lt.1 this
theorem bits_nonneg (a : Nat) : 0 ≤ bitsN (a : Int) := by
  by_cases h : a = 0
  · subst h; exact Int.le_refl 0
  · have := bitsN_pos (x := (a : Int)) (by omega); omega
def clip (e : Int) : Int := mn (mx e (-1099511627776)) 1099511627776
theorem clip_le (e : Int) : -1099511627776 ≤ clip e ∧ clip e ≤ 1099511627776 := by unfold clip mn mx; split <;> split <;> omega
theorem clip_id {e : Int} (h1 : -1099511627776 ≤ e) (h2 : e ≤ 1099511627776) : clip e = e := by unfold clip mn mx; split <;> split <;> omega
theorem clip_lo {e b : Int} (h : e < b) (hb : -1099511627776 < b) : clip e < b := by unfold clip mn mx; split <;> split <;> omega
theorem clip_hi {e b : Int} (h : b < e) (hb : b < 1099511627776) : b < clip e := by unfold clip mn mx; split <;> split <;> omega
theorem near_Scaled.f_eq (neg : Bool) (l : List Int) (hl : Ws l) (hm : l.length ≤ 1048576) (a : Nat) (ha : nv l = (a : Int)) (exp : Int) (more : Bool) (mode : Int) (k : Nat) (hk : 4000000 < k) :
    near_Scaled.f k neg l exp more mode = some (if 0 ≤ mode ∧ mode ≤ 4 then RS mode neg (flo a (clip exp) more).1 (flo a (clip exp) more).2 else (0, 71)) := by
  rw [near_Scaled.f, near_known.f_eq, Option.bind_some]
  by_cases hmode : 0 ≤ mode ∧ mode ≤ 4
  · rw [decide_eq_true hmode, if_pos rfl, if_pos hmode, nat_Bits.f_eq l hl (by omega) k (by omega) (by omega), Option.bind_some, ha]
    have hb := bits_len hl ha
    have hb0 := bits_nonneg a
    obtain ⟨s, hs⟩ : ∃ s : Nat, mx (wrap64 (bitsN (a : Int) - 64)) 0 = (s : Int) := ⟨(bitsN (a : Int) - 64).toNat, by
      rw [w64_of (by omega) (by omega)]; unfold mx; split <;> omega⟩
    have hs2 : (s : Int) = if bitsN (a : Int) ≤ 64 then 0 else bitsN (a : Int) - 64 := by
      rw [← hs, w64_of (by omega) (by omega)]; unfold mx; split <;> split <;> omega
    have hsz : s ≤ 67108864 := by clear hs; split at hs2 <;> omega
    have hword : a / 2 ^ s < 18446744073709551616 := by
      rw [Nat.div_lt_iff_lt_mul (Nat.pow_pos (by decide)), show (18446744073709551616 : Nat) = 2 ^ 64 from by decide, ← Nat.pow_add, ← bits_lt_pow]
      clear hs; split at hs2 <;> omega
    have hc := clip_le exp
    have hSh := nat_Shr.f_eq l hl (by omega) a ha s (by omega) (by clear hs; split at hs2 <;> omega) k (by omega)
    have hfl : flo (a / 2 ^ s) (clip exp + (s : Int)) (more || decide (a % 2 ^ s ≠ 0)) = flo a (clip exp) more := by
      by_cases h64 : bitsN (a : Int) ≤ 64
      · rw [if_pos h64] at hs2
        obtain rfl : s = 0 := by omega
        rw [Nat.pow_zero, Nat.div_one, Nat.mod_one, Int.natCast_zero, Int.add_zero]
        simp
      · rw [if_neg h64] at hs2
        apply flo_cut
        rw [Nat.le_div_iff_mul_le (Nat.pow_pos (by decide)), show (9007199254740992 : Nat) = 2 ^ 53 from by decide, ← Nat.pow_add]
        apply Classical.byContradiction
        intro hn
        have := (bits_lt_pow (a := a) (53 + s)).2 (by omega)
        omega
    have hw : wrap64 (clip exp + (s : Int)) = clip exp + (s : Int) := w64_of (by omega) (by omega)
    have hF := fun st => near_finish.f_eq neg mode hmode.1 hmode.2 (a / 2 ^ s) hword (clip exp + (s : Int)) (by omega) (by omega) st k (by omega)
    have ec : mn (mx exp (-1099511627776)) 1099511627776 = clip exp := rfl
    rw [hs, ec, hSh, Option.bind_some, nat_Word.f_eq hword k (by omega), Option.bind_some, hw, ← hfl]
    cases more
    · rw [if_neg (by decide), hF, Option.bind_some, Bool.false_or]
    · rw [if_pos rfl, hF, Option.bind_some, Bool.true_or]
  · rw [decide_eq_false hmode, if_neg (by decide), if_neg hmode]
/-- high enough it lies beyond the greatest -/
theorem flo_big {m : Nat} (hm : 0 < m) {e : Int} (h : 1100 ≤ e + bitsN (m : Int)) (st : Bool) : 9218868437227405311 < (flo m e st).1 := by
  unfold flo
  rw [if_neg (by omega)]
  have hs : 2048 ≤ (e + 1074 + bitsN (m : Int) - 53).toNat := by omega
  generalize (e + 1074 + bitsN (m : Int) - 53).toNat = s at *
  have hb : 9218868437227405311 < s * 4503599627370496 := by omega
  split
  · exact Nat.lt_of_lt_of_le hb (Nat.le_add_right _ _)
  · exact Nat.lt_of_lt_of_le hb (Nat.le_add_right _ _)
/-- low enough it is less than half of the least one -/
theorem flo_small {m : Nat} (hm : 0 < m) {e : Int} (h : e + bitsN (m : Int) < -1199) (st : Bool) : flo m e st = (0, 1) := by
  obtain ⟨L, hL, hb1, hb2⟩ := bits_bounds hm
  unfold flo
  rw [if_neg (by omega)]
  have hs : (e + 1074 + bitsN (m : Int) - 53).toNat = 0 := by omega
  obtain ⟨j, hj⟩ : ∃ j : Nat, ((0 : Nat) : Int) - (e + 1074) = (j : Int) := ⟨(((0 : Nat) : Int) - (e + 1074)).toNat, by omega⟩
  rw [hs, hj, if_pos (by omega), Int.toNat_natCast]
  have h1 : 2 ^ (L + 2) ≤ 2 ^ j := Nat.pow_le_pow_right (by decide) (by omega)
  rw [Nat.pow_succ] at h1
  have hlt : m < 2 ^ j := by omega
  rw [Nat.div_eq_of_lt hlt, Nat.mod_eq_of_lt hlt]
  unfold tailOf
  rw [if_neg (by omega), if_pos (by omega)]
theorem ref_tiny (neg : Bool) {mode : Int} (h0 : 0 ≤ mode) (h4 : mode ≤ 4) (k : Nat) (hk : 30000 < k) : plumbref07_Q_round.f k [1] [1] (-1300) false neg mode = some (RS mode neg 0 1) := by
  have hw1 : Ws [1] := Ws.cons (by decide) (by decide) Ws.nil
  have o : ∀ k, 20000 ≤ k → QOk [1] [1] (-1300) 1 1 100 k := fun k hk =>
    { hA := hw1, hB := hw1, ea := rfl, eb := rfl, hb := by decide, hAN := by decide, hBN := by decide, hN := by decide, he1 := by omega, he2 := by omega, hk := by omega }
  have hq : qP 1 (-1300) = 1 := by decide
  have hr := Rd_small (P := qP 1 (-1300)) (Q := qQ 1 (-1300)) (by decide) (by decide) false
  have r := plumbref07_Q_round.f_eq o false neg h0 h4 hr.1 k (by omega)
  rw [hr.2] at r
  exact r
theorem plumbref07_Scaled.f_eq (neg : Bool) (l : List Int) (hl : Ws l) (hm : l.length ≤ 1048576) (a : Nat) (ha : nv l = (a : Int)) (exp : Int) (more : Bool) (mode : Int) (k : Nat) (hk : 1000000000 < k) :
    plumbref07_Scaled.f k neg l exp more mode = some (if 0 ≤ mode ∧ mode ≤ 4 then RS mode neg (flo a (clip exp) more).1 (flo a (clip exp) more).2 else (0, 71)) := by
  have e0 : plumbref07_Scaled.f k neg l exp more mode = plumbref07_Scaled.j0 k neg l exp more mode (!decide (0 ≤ mode ∧ mode ≤ 4)) := by
    unfold plumbref07_Scaled.f
    by_cases h : mode < 0
    · rw [if_pos h, decide_eq_false (by omega)]; rfl
    · rw [if_neg h]
      congr 1
      rw [Bool.eq_iff_iff]; simp; omega
  obtain ⟨k, rfl⟩ : ∃ j, k = j + 1 := ⟨k - 1, by omega⟩
  rw [e0, plumbref07_Scaled.j0]
  by_cases hmode : 0 ≤ mode ∧ mode ≤ 4
  · have hb := bits_len hl ha
    have hb0 := bits_nonneg a
    have hS : Ws (strip l) := hl.strip
    have hSl : (strip l).length ≤ 1048576 := Nat.le_trans (strip_length_le l) hm
    have eS : nv (strip l) = (a : Int) := by rw [nv_strip, ha]
    have hw1 : Ws [1] := Ws.cons (by decide) (by decide) Ws.nil
    have o : ∀ e : Int, e ≤ 100000000 → -100000000 ≤ e → ∀ k, 300000000 ≤ k → QOk (strip l) [1] e a 1 2000000 k := fun e h1 h2 k hk =>
      { hA := hS, hB := hw1, ea := eS, eb := rfl, hb := by decide, hAN := by omega, hBN := by decide, hN := by decide, he1 := by omega, he2 := by omega, hk := by omega }
    have hQ1 : ∀ e, qQ 1 e = 2 ^ (-(e + 1074)).toNat := fun e => Nat.one_mul _
    rw [decide_eq_true hmode, if_neg (by decide), if_pos hmode, plumbref03_Norm.f_eq l (by omega) k (by omega), Option.bind_some, plumbref03_Bits.f_eq _ hS (by omega) k (by omega), Option.bind_some, Option.bind_some, eS]
    by_cases hz : a = 0
    · subst hz
      have hfl : flo 0 (clip exp) more = (0, if more then 1 else 0) := by unfold flo; rw [if_pos rfl]
      rw [if_pos (show bitsN ((0 : Nat) : Int) = 0 from bitsN_zero), hfl]
      cases more
      · have hP0 : qP 0 0 = 0 := Nat.zero_mul _
        have hQ0 : qQ 1 0 = 1 := by unfold qQ; rw [show (-((0 : Int) + 1074)).toNat = 0 from rfl]
        have hr : Rd (qP 0 0) (qQ 1 0) 0 := by rw [hP0, hQ0]; exact ⟨by decide, by decide⟩
        have ht : tl (qP 0 0) (qQ 1 0) false 0 = 0 := by rw [hP0, hQ0]; rfl
        rw [if_neg (by decide), plumbref07_Q_round.f_eq (o 0 (by decide) (by decide)) false neg hmode.1 hmode.2 hr k (by omega), Option.bind_some, ht]
        rfl
      · rw [if_pos rfl, ref_tiny neg hmode.1 hmode.2 k (by omega), Option.bind_some]
        rfl
    · have hbp := bitsN_pos (x := (a : Int)) (by omega)
      have hbn : bitsN (a : Int) ≠ 0 := by omega
      clear hbp
      have w1 : wrap64 (1100 - bitsN (a : Int)) = 1100 - bitsN (a : Int) := w64_of (by omega) (by omega)
      have w2 : wrap64 (-1200 - bitsN (a : Int)) = -1200 - bitsN (a : Int) := w64_of (by omega) (by omega)
      rw [if_neg hbn, w1, w2]
      have hround : ∀ e : Int, e ≤ 100000000 → -100000000 ≤ e → plumbref07_Q_round.f k (strip l) [1] e more neg mode = some (RS mode neg (flo a e more).1 (flo a e more).2) := by
        intro e h1 h2
        have hx := flo_exact (m := a) (by omega) e more
        rw [← hQ1] at hx
        have r := plumbref07_Q_round.f_eq (o e h1 h2) more neg hmode.1 hmode.2 (d := (flo a e more).1) hx.1 k (by omega)
        have ht : tl (qP a e) (qQ 1 e) more (flo a e more).1 = (flo a e more).2 := hx.2
        rw [ht] at r
        exact r
      by_cases h1 : exp > 1100 - bitsN (a : Int)
      · have hc := clip_hi h1 (by omega)
        rw [if_pos h1, hround _ (by omega) (by omega), Option.bind_some, RS_big mode neg (flo_big (m := a) (e := 1100 - bitsN (a : Int)) (by omega) (by omega) more), RS_big mode neg (flo_big (m := a) (e := clip exp) (by omega) (by omega) more)]
      · rw [if_neg h1]
        by_cases h2 : exp < -1200 - bitsN (a : Int)
        · have hc := clip_lo h2 (by omega)
          rw [if_pos h2, ref_tiny neg hmode.1 hmode.2 k (by omega), Option.bind_some, flo_small (m := a) (e := clip exp) (by omega) (by omega) more]
        · rw [if_neg h2, hround exp (by omega) (by omega), Option.bind_some, clip_id (by omega) (by omega)]
  · rw [decide_eq_false hmode, if_neg hmode, if_pos (by decide)]
end Go.Proofs.YtoefabmlkbhmpaaDoor.PA

namespace Go.Proofs.YtoefabmlkbhmpaaDoor.Pure
open Go Go.RowKit Go.Proofs.YtoefabmlkbhmpaaDoor.PA Go.Proofs.YtoefabmlkbhmpaaDoorW.PrintWords Go.Proofs.YtoefabmlkbhmpaaDoorW.PrintLast
set_option linter.unusedVariables false
theorem lent_eq (l : List Int) (hl : l.length ≤ 1048576) : plumblaw07_lent.f l = some (l ++ [7777, 8888]) := by
  unfold plumblaw07_lent.f
  rw [if_pos (by simp; omega), Option.bind_some, Option.bind_some, if_pos (by simp; omega)]
  simp
theorem same_l0 (l : List Int) (hl : l.length ≤ 17592186044416) : ∀ (d k i : Nat), d = l.length - i → d < k → plumblaw07_same.l0 k l l (i : Int) = some true := by
  intro d
  induction d with
  | zero =>
    intro k i hd hk
    obtain ⟨k, rfl⟩ : ∃ j, k = j + 1 := ⟨k - 1, by omega⟩
    rw [plumblaw07_same.l0, if_neg (by omega)]
  | succ d ih =>
    intro k i hd hk
    obtain ⟨k, rfl⟩ : ∃ j, k = j + 1 := ⟨k - 1, by omega⟩
    rw [plumblaw07_same.l0, if_pos (by omega), if_pos (by omega), if_pos (by omega), if_pos rfl, w64_s i (by omega)]
    exact ih k (i + 1) (by omega) (by omega)
theorem same_eq (l : List Int) (hl : l.length ≤ 17592186044416) (k : Nat) (hk : l.length < k) : plumblaw07_same.f k l l = some true := by
  rw [plumblaw07_same.f, if_pos rfl]
  exact same_l0 l hl l.length k 0 (by omega) hk
theorem kept_eq (l : List Int) (hl : l.length ≤ 1048576) (k : Nat) (hk : l.length < k) : plumblaw07_kept.f k (l ++ [7777, 8888]) l = some true := by
  have e1 : wrap64 ((l.length : Int) + 2) = ((l.length + 2 : Nat) : Int) := by rw [w64_of (by omega) (by omega)]; omega
  have e2 : (l ++ [7777, 8888]).length = l.length + 2 := by simp
  have e3 : (l ++ [(7777 : Int), 8888]).take l.length = l := by rw [List.take_append_of_le_length (Nat.le_refl _), List.take_length]
  have e4 : (l ++ [(7777 : Int), 8888]).getD l.length 0 = 7777 := by rw [List.getD_eq_getElem?_getD, List.getElem?_append_right (Nat.le_refl _), Nat.sub_self]; rfl
  have e5 : (l ++ [(7777 : Int), 8888]).getD (l.length + 1) 0 = 8888 := by rw [List.getD_eq_getElem?_getD, List.getElem?_append_right (by omega), show l.length + 1 - l.length = 1 from by omega]; rfl
  rw [plumblaw07_kept.f, e2, e1, if_pos rfl, if_pos (by omega), if_pos (by omega), Int.toNat_natCast, e3, same_eq l (by omega) k hk, Option.bind_some, if_pos rfl, if_pos (by omega), rdn, e4, if_pos rfl, w64_s _ (by omega), if_pos (by omega), if_pos (by omega), rdn, e5]
  rfl
theorem nearScaleds_l0 (neg : Bool) (l : List Int) (hl : Ws l) (hm : l.length ≤ 1048576) (exp : Int) (more : Bool) (mode : Int) : ∀ (d k i : Nat), d = 6 - i → 1000000100 + 2 * d < k → plumblaw07_NearScaleds.l0 k mode (l ++ [7777, 8888]) (i : Int) neg l exp more = some true := by
  obtain ⟨a, ha⟩ := Int.eq_ofNat_of_zero_le (nv_nonneg hl)
  have e3 : (l ++ [(7777 : Int), 8888]).take l.length = l := by rw [List.take_append_of_le_length (Nat.le_refl _), List.take_length]
  have e2 : (l ++ [(7777 : Int), 8888]).length = l.length + 2 := by simp
  intro d
  induction d with
  | zero =>
    intro k i hd hk
    obtain ⟨k, rfl⟩ : ∃ j, k = j + 1 := ⟨k - 1, by omega⟩
    rw [plumblaw07_NearScaleds.l0, if_neg (by omega)]
  | succ d ih =>
    intro k i hd hk
    obtain ⟨k, rfl⟩ : ∃ j, k = j + 2 := ⟨k - 2, by omega⟩
    have hj : ∀ m : Int, plumblaw07_NearScaleds.j1 (k + 1) mode (l ++ [7777, 8888]) (i : Int) m neg l exp more = some true := by
      intro m
      rw [plumblaw07_NearScaleds.j1, if_pos (by omega), if_pos (by omega), Int.toNat_natCast, e3, near_Scaled.f_eq neg l hl hm a ha exp more m k (by omega), Option.bind_some, plumbref07_Scaled.f_eq neg l hl hm a ha exp more m k (by omega), Option.bind_some, if_pos rfl, plumblaw07_num.f, Option.bind_some, if_pos rfl, kept_eq l hm k (by omega), Option.bind_some, if_pos rfl, w64_s i (by omega)]
      exact ih k (i + 1) (by omega) (by omega)
    rw [plumblaw07_NearScaleds.l0, if_pos (by omega)]
    by_cases h5 : (i : Int) = 5
    · rw [if_pos h5]; exact hj mode
    · rw [if_neg h5]; exact hj i
theorem nearScaleds_pure (neg : Bool) (l : List Int) (hl : ∀ x ∈ l, 0 ≤ x ∧ x < 18446744073709551616) (hm : l.length ≤ 1048576) (exp : Int) (more : Bool) (mode : Int) : ∃ k, plumblaw07_NearScaleds.f k neg l exp more mode = some true := by
  refine ⟨1000001000, ?_⟩
  rw [plumblaw07_NearScaleds.f, lent_eq l hm, Option.bind_some]
  exact nearScaleds_l0 neg l hl hm exp more mode 6 _ 0 (by omega) (by omega)
end Go.Proofs.YtoefabmlkbhmpaaDoor.Pure

namespace Go.Proofs.YtoefabmlkbhmpaaDoorW.PrintWords
open Go
/-- an array of pairs of bools -/
theorem trod_pairs {H : Type} {enc : TypeId × Value → H} {P : Program} {w : World} {base : Nat} {spare : Nat → Bool} {held : Bool} {fuel : Nat} {ty e1 e2 : TypeId} {n : Nat} {cs : List Value} {L : List (List Bool)} {p : List MemPlace}
    (hu : P.underlying ty = some (.array n e1)) (he : P.underlying e1 = some (.array 2 e2)) (hb : P.underlying e2 = some .bool) (hc1 : P.cellsOf e1 = 2) (hc2 : P.cellsOf e2 = 1)
    (h : DataW.trod enc P w base spare held fuel ty cs = some (.agg (L.map fun r => .agg (r.map fun b => .lit (.bool b))), p)) : ∀ i, i < n → ∀ j, j < 2 → cs[2 * i + j]? = some (.bool ((L.getD i []).getD j false)) := by
  obtain ⟨xs, m, rfl, hx, hlen, hn, hel⟩ := DataW.trod_array hu h
  intro i hi j hj
  have h1 := hel i hi
  rw [hc1] at h1
  have hxi : i < xs.length := by omega
  rw [List.getElem?_eq_getElem hxi] at h1
  obtain ⟨ys, m2, rfl, hy, hlen2, hn2, hel2⟩ := DataW.trod_array he h1
  have h2 := hel2 j hj
  rw [hc2, Nat.mul_one] at h2
  have hyj : j < ys.length := by omega
  rw [List.getElem?_eq_getElem hyj] at h2
  obtain ⟨b, e1_, e2_⟩ := DataW.trod_bool hb h2
  simp only [Prod.mk.injEq, DataW.agg.injEq] at hx
  have h3 : (L.map fun r => (DataW.agg (r.map fun b => .lit (.bool b)) : DataW H))[i]? = (xs.map (·.1))[i]? := by rw [hx.1]
  rw [List.getElem?_map, List.getElem?_map, List.getElem?_eq_getElem hxi] at h3
  simp only [Option.map_some] at h3
  cases hL : L[i]? with
  | none => rw [hL] at h3; simp at h3
  | some r =>
    rw [hL] at h3
    simp only [Option.map_some, Option.some.injEq] at h3
    rw [hy] at h3
    simp only [DataW.agg.injEq] at h3
    have h4 : (r.map fun b => (DataW.lit (.bool b) : DataW H))[j]? = (ys.map (·.1))[j]? := by rw [h3]
    rw [List.getElem?_map, List.getElem?_map, List.getElem?_eq_getElem hyj, Option.map_some, e2_] at h4
    have h5 : r[j]? = some b := by
      cases hr : r[j]? with
      | none => rw [hr] at h4; simp at h4
      | some y => rw [hr] at h4; simp at h4; rw [h4]
    have h6 : ((((cs.drop (i * 2)).take 2).drop j).take 1)[0]? = some (.bool b) := by rw [e1_]; rfl
    rw [List.getElem?_take, if_pos (by decide), List.getElem?_drop, Nat.add_zero, List.getElem?_take, if_pos hj, List.getElem?_drop] at h6
    rw [Nat.mul_comm, h6, List.getD_eq_getElem?_getD, List.getD_eq_getElem?_getD, hL, Option.getD_some, h5]
    rfl
/-- a struct of four fields of one cell, opened -/
theorem open_four {H : Type} {enc : TypeId × Value → H} {P : Program} {w : World} {base b0 : Nat} {spare : Nat → Bool} {held : Bool} {r : Reach} {t : TypeId} {f0 f1 f2 f3 : Field} {v : Value} {d : DataW H} {p : List MemPlace} (hs : P.underlying t = some (.struct #[f0, f1, f2, f3]))
    (hC : P.cellsOf t = 4) (o0 : f0.offset = 0) (o1 : f1.offset = 1) (o2 : f2.offset = 2) (o3 : f3.offset = 3) (k0 : P.cellsOf f0.type = 1) (k1 : P.cellsOf f1.type = 1) (k2 : P.cellsOf f2.type = 1) (k3 : P.cellsOf f3.type = 1)
    (hv : Value.okWide P w r b0 t v) (h : DataW.Trod enc P w base spare held t v d p) :
    ∃ (v0 v1 v2 v3 : Value) (y0 y1 y2 y3 : DataW H × List MemPlace) (n : Nat), v = .agg #[v0, v1, v2, v3] ∧ d = .agg [y0.1, y1.1, y2.1, y3.1] ∧
      DataW.trod enc P w base spare held n f0.type [v0] = some y0 ∧ DataW.trod enc P w base spare held n f1.type [v1] = some y1 ∧ DataW.trod enc P w base spare held n f2.type [v2] = some y2 ∧ DataW.trod enc P w base spare held n f3.type [v3] = some y3 := by
  obtain ⟨cs, rfl, hsz⟩ := WideShapes.okWide_struct hs hv
  rw [hC] at hsz
  obtain ⟨l⟩ := cs
  match l, hsz with
  | [c0, c1, c2, c3], _ =>
    obtain ⟨fuel, hf⟩ := h
    obtain ⟨xs, n, _, hx, hl, hlen, hg⟩ := DataW.trod_struct hs hf
    match xs, hlen with
    | [y0, y1, y2, y3], _ =>
      have g0 := hg 0 f0 rfl
      have g1 := hg 1 f1 rfl
      have g2 := hg 2 f2 rfl
      have g3 := hg 3 f3 rfl
      rw [o0, k0] at g0
      rw [o1, k1] at g1
      rw [o2, k2] at g2
      rw [o3, k3] at g3
      simp only [Prod.mk.injEq, List.map_cons, List.map_nil] at hx
      exact ⟨c0, c1, c2, c3, y0, y1, y2, y3, n, rfl, hx.1, by simpa [Value.cells] using g0, by simpa [Value.cells] using g1, by simpa [Value.cells] using g2, by simpa [Value.cells] using g3⟩
end Go.Proofs.YtoefabmlkbhmpaaDoorW.PrintWords
