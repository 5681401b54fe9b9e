/- PA2: a part of the proof. -/
-- made by program (wip/tools of this work) out of the translation; Lean checks it
import Derived.Test.YtpnffhacmamilaaZLFPA0
import Derived.Test.YtpnffhacmamilaaZLFPA1
namespace Go.Proofs.Ytpnffhacmamilaa.PA
open Go.RowKit Go.Proofs.YtpnffhacmamilaaW.PrintWords Go.Proofs.YtpnffhacmamilaaW.PrintLast Go.Proofs.YtpnffhacmamilaaW.PrintMore
attribute [local go_sem] max2_int min2_int max_two min_two max_three min_three max_four min_four   -- for this text's walks alone
set_option linter.unusedVariables false
set_option linter.unusedSimpArgs false

-- what is known of it
theorem bitsN_nonneg (x : Int) : 0 ≤ bitsN x := by unfold bitsN; split <;> omega
theorem bitsN_zero : bitsN 0 = 0 := rfl
theorem bitsN_pos {x : Int} (h : 0 < x) : bitsN x = (Nat.log2 x.toNat : Int) + 1 := by unfold bitsN; rw [if_neg (by omega)]
/-- so many bits, and no more -/
theorem bitsN_iff {x : Int} (h : 0 < x) (n : Nat) : bitsN x = n + 1 ↔ (2 : Int) ^ n ≤ x ∧ x < 2 ^ (n + 1) := by
  rw [bitsN_pos h, p2cast, p2cast]
  have h0 : x.toNat ≠ 0 := by omega
  have h1 := Nat.log2_self_le h0
  have h2 := @Nat.lt_log2_self x.toNat
  constructor
  · intro e
    have e' : x.toNat.log2 = n := by omega
    rw [e'] at h1 h2
    omega
  · rintro ⟨a, b⟩
    have a' : n ≤ x.toNat.log2 := (Nat.le_log2 h0).2 (by omega)
    have b' : x.toNat.log2 < n + 1 := (Nat.log2_lt h0).2 (by omega)
    omega
theorem bitsN_lt {x : Int} (h : 0 < x) : x < 2 ^ (bitsN x).toNat := by
  have h1 := bitsN_pos h
  have := (bitsN_iff h x.toNat.log2).1 h1
  rw [h1, show ((x.toNat.log2 : Int) + 1).toNat = x.toNat.log2 + 1 from by omega]
  exact this.2
theorem bitsN_ge {x : Int} (h : 0 < x) : (2 : Int) ^ ((bitsN x).toNat - 1) ≤ x := by
  have h1 := bitsN_pos h
  have := (bitsN_iff h x.toNat.log2).1 h1
  rw [h1, show ((x.toNat.log2 : Int) + 1).toNat - 1 = x.toNat.log2 from by omega]
  exact this.1
theorem pow_mono {m n : Nat} (h : m ≤ n) : (2 : Int) ^ m ≤ 2 ^ n := by
  rw [p2cast, p2cast]; exact Int.ofNat_le.2 (Nat.pow_le_pow_right (by omega) h)
theorem bitsN_le_of_lt {x : Int} {n : Nat} (h0 : 0 ≤ x) (h : x < 2 ^ n) : bitsN x ≤ n := by
  by_cases hx : x = 0
  · subst hx; rw [bitsN_zero]; omega
  · have hp : 0 < x := by omega
    have := bitsN_ge hp
    apply Classical.byContradiction
    intro hc
    have h2 : n ≤ (bitsN x).toNat - 1 := by omega
    have := pow_mono h2
    omega
theorem lt_of_bitsN_le {x : Int} {n : Nat} (h0 : 0 ≤ x) (h : bitsN x ≤ n) : x < 2 ^ n := by
  by_cases hx : x = 0
  · subst hx; exact two_pow_pos n
  · have h1 := bitsN_lt (x := x) (by omega)
    have := pow_mono (show (bitsN x).toNat ≤ n from by omega)
    omega
/-- shifted down -/
theorem bitsN_div {x : Int} (s : Nat) (h : (2 : Int) ^ s ≤ x) : bitsN x = s + bitsN (x / 2 ^ s) := by
  have hs := two_pow_pos s
  have hx : 0 < x := by omega
  have hq : 1 ≤ x / 2 ^ s := Int.le_ediv_of_mul_le hs (by omega)
  have h1 := bitsN_lt (x := x / 2 ^ s) (by omega)
  have h2 := bitsN_ge (x := x / 2 ^ s) (by omega)
  have h3 := bitsN_pos (x := x / 2 ^ s) (by omega)
  obtain ⟨m, hm⟩ : ∃ m : Nat, bitsN (x / 2 ^ s) = m + 1 := ⟨_, h3⟩
  rw [hm] at h1 h2 ⊢
  rw [show ((m : Int) + 1).toNat = m + 1 from by omega] at h1 h2
  simp only [Nat.add_sub_cancel] at h2
  have e : (s : Int) + (m + 1) = ((s + m : Nat) : Int) + 1 := by omega
  rw [e, bitsN_iff hx]
  have hd := Int.mul_ediv_add_emod x (2 ^ s)
  have hm0 := Int.emod_nonneg x (show (2 : Int) ^ s ≠ 0 by omega)
  have hm1 := Int.emod_lt_of_pos x hs
  constructor
  · rw [Int.pow_add]
    have := Int.mul_le_mul_of_nonneg_left h2 (Int.le_of_lt hs)
    omega
  · rw [show s + m + 1 = s + (m + 1) from by omega, Int.pow_add]
    have h5 : x / 2 ^ s + 1 ≤ 2 ^ (m + 1) := by omega
    have := Int.mul_le_mul_of_nonneg_left h5 (Int.le_of_lt hs)
    rw [Int.mul_add, Int.mul_one] at this
    omega
theorem wide_Len.step (j : Nat) (hj : j ≤ 5) : ∀ (k : Nat) (x n : Int), j + 1 < k → 0 ≤ x → x < 2 ^ (2 * 2 ^ j) → 0 ≤ n → n + 2 * 2 ^ j ≤ 900 → wide_Len.l0 k x n (2 ^ j) = some (n + bitsN x) := by
  induction j with
  | zero =>
    intro k x n hk hx0 hx1 hn0 hn1
    obtain ⟨k, rfl⟩ : ∃ m, k = m + 1 + 1 := ⟨k - 2, by omega⟩
    have hx1' : x < 4 := hx1
    have hn1 : n ≤ 1000 := by have h9 : n + 2 ≤ 900 := hn1; omega
    have e1 : shr .u64 x 1 = x / 2 := rfl
    have hw : ∀ m : Int, 0 ≤ m → m ≤ 2000 → wrap64 m = m := fun m h1 h2 => by unfold wrap64; omega
    simp only [wide_Len.l0, Nat.pow_zero, Int.pow_zero]
    rw [if_pos (by omega), if_pos (by omega), e1]
    simp only [show (1 : Int) / 2 = 0 from rfl, show ¬ ((0 : Int) > 0) from by omega, if_false]
    have hb : bitsN x = if x = 0 then 0 else if x = 1 then 1 else 2 := by
      by_cases h0 : x = 0
      · subst h0; rfl
      · by_cases h1 : x = 1
        · subst h1; rfl
        · rw [if_neg h0, if_neg h1]
          exact (bitsN_iff (by omega) 1).2 ⟨by show (2 : Int) ≤ x; omega, by show x < (4 : Int); omega⟩
    rw [hb]
    by_cases h : x / 2 = 0
    · rw [if_pos h, hw x (by omega) (by omega), hw _ (by omega) (by omega)]
      congr 1
      split
      · omega
      · split <;> omega
    · rw [if_neg h, hw (n + 1) (by omega) (by omega), hw (x / 2) (by omega) (by omega), hw _ (by omega) (by omega)]
      congr 1
      split
      · omega
      · split <;> omega
  | succ j ih =>
    intro k x n hk hx0 hx1 hn0 hn1
    have ih := ih (by omega)
    obtain ⟨k, rfl⟩ : ∃ m, k = m + 1 := ⟨k - 1, by omega⟩
    have hp : (2 : Int) ^ (j + 1) = 2 * 2 ^ j := by rw [Int.pow_succ]; omega
    have hp0 : (0 : Int) < 2 ^ j := two_pow_pos j
    have hle : (2 : Int) ^ (j + 1) ≤ 32 := pow_mono (n := 5) hj
    have hnat : ((2 : Int) ^ (j + 1)).toNat = 2 ^ (j + 1) := by rw [p2cast]; exact Int.toNat_natCast _
    have hpn : (2 ^ (j + 1) : Nat) ≤ 32 := Nat.pow_le_pow_right (n := 2) (by omega) hj
    have es : shr .u64 x (2 ^ (j + 1)) = x / 2 ^ (2 ^ (j + 1)) := by rw [shr_eq, hnat, Nat.min_eq_left (by omega)]
    have eh : (2 : Int) ^ (j + 1) / 2 = 2 ^ j := by omega
    have e2 : 2 * 2 ^ j = 2 ^ (j + 1) := by rw [Nat.pow_succ]; omega
    simp only [wide_Len.l0]
    rw [if_pos (by omega), if_pos (by omega), es, eh]
    rw [e2] at ih
    have hS := two_pow_pos (2 ^ (j + 1))
    by_cases h : x / 2 ^ (2 ^ (j + 1)) = 0
    · rw [if_pos h]
      refine ih k x n (by omega) hx0 ?_ hn0 (by omega)
      have := Int.lt_ediv_add_one_mul_self x hS
      rw [h] at this; omega
    · rw [if_neg h]
      have h1 : (2 : Int) ^ (2 ^ (j + 1)) ≤ x := by
        apply Classical.byContradiction
        intro hc
        exact h (Int.ediv_eq_zero_of_lt hx0 (by omega))
      have hw : wrap64 (n + 2 ^ (j + 1)) = n + 2 ^ (j + 1) := by unfold wrap64; omega
      have hd : x / 2 ^ (2 ^ (j + 1)) < 2 ^ (2 ^ (j + 1)) := by
        apply Int.ediv_lt_of_lt_mul hS
        rw [← Int.pow_add, ← Nat.two_mul]
        exact hx1
      rw [hw, ih k _ _ (by omega) (Int.ediv_nonneg hx0 (Int.le_of_lt hS)) hd (by omega) (by omega), bitsN_div _ h1]
      congr 1
      rw [p2cast (j + 1)]
      omega
theorem wide_Len.f_eq {x : Int} (h0 : 0 ≤ x) (h1 : x < 18446744073709551616) (k : Nat) (hk : 7 ≤ k) : wide_Len.f k x = some (bitsN x) := by
  have := wide_Len.step 5 (by omega) k x 0 (by omega) h0 h1 (by omega) (by omega)
  rw [wide_Len.f]
  simpa using this

end Go.Proofs.Ytpnffhacmamilaa.PA
