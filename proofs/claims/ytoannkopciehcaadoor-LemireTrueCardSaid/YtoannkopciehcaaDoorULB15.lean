/- A part of the proof (15). -/
import Derived.Test.YtoannkopciehcaaDoorULB14
import Derived.Test.YtoannkopciehcaaDoorULB13
import Derived.Test.YtoannkopciehcaaDoorULB12
import Derived.OpenShut
import Derived.LaidLaws
import Derived.LaidHandle
import Derived.MakeChecks
import Derived.WideShapes
import Derived.ChangeArms
namespace Go.Proofs.YtoannkopciehcaaDoor.PA
open Go Go.RowKit Go.Proofs.YtoannkopciehcaaDoorW.PrintWords Go.Proofs.YtoannkopciehcaaDoorW.PrintLast Go.Proofs.YtoannkopciehcaaDoorW.PrintMore
set_option linter.unusedVariables false
set_option linter.unusedSimpArgs false
theorem shift_lt {X Y a b c d : Nat} (h : X * 2 ^ a < Y * 2 ^ b) (e : c + b = d + a) : X * 2 ^ c < Y * 2 ^ d := by
  apply Nat.lt_of_not_le
  intro h1
  have h2 := shift_le (a := d) (b := c) (c := b) (d := a) h1 (by omega)
  omega
theorem shift_eq {X Y a b c d : Nat} (h : X * 2 ^ a = Y * 2 ^ b) (e : c + b = d + a) : X * 2 ^ c = Y * 2 ^ d :=
  Nat.le_antisymm (shift_le (Nat.le_of_eq h) e) (shift_le (a := b) (b := a) (Nat.le_of_eq h.symm) (by omega))
theorem tens_eq : ∀ n : Nat, n < 23 → lemire_tensL.getD n 0 = ((5 ^ n : Nat) : Int) := by decide
theorem tens_f {n : Nat} (h : n ≤ 22) : lemire_tens.f (n : Int) = some ((5 ^ n : Nat) : Int) := by
  unfold lemire_tens.f
  rw [if_pos (by omega), rdn, tens_eq n (by omega)]
/-- the greatest whole power of two has its own place -/
def tE : Nat := 2097
theorem tE_eq : tE = 52 + 2045 := rfl
theorem Rnd_top : Rnd (2 ^ tE) 1 9214364837600034816 := by
  have e : pV 9214364837600034816 = 2 ^ tE := by rw [tE_eq]; exact pV_pow 2045
  have e2 := pV_lt_succ 9214364837600034816
  rw [e] at e2
  refine ⟨9214364837600034816, ⟨?_, ?_⟩, ?_⟩
  · rw [e, Nat.mul_one]; exact Nat.le_refl _
  · rw [Nat.mul_one]; exact e2
  · unfold tl
    rw [e, Nat.mul_one, if_pos rfl]
    rfl
theorem tP_below {m : Nat} (hm : m ≤ 9007199254740992) {e : Int} (h2 : e ≤ 22) {z : Nat} (hz : Rnd (tP m e) (tQ e) z) : z ≤ 9218868437227405311 := by
  have hu := uN_eq
  have ht := tE_eq
  have h := Rnd.mono (tQ_pos e) (by decide) hz Rnd_top (by
    rw [Nat.mul_one]
    unfold tP
    have a1 : m * 10 ^ e.toNat ≤ 9007199254740992 * 10 ^ 22 := Nat.mul_le_mul hm (Nat.pow_le_pow_right (by decide) (by omega))
    have a2 : 9007199254740992 * 10 ^ 22 ≤ 2 ^ 200 := by decide +kernel
    have a3 : m * 10 ^ e.toNat * 2 ^ uN ≤ 2 ^ 200 * 2 ^ uN := Nat.mul_le_mul_right _ (Nat.le_trans a1 a2)
    rw [← Nat.pow_add] at a3
    have a4 : 2 ^ (200 + uN) ≤ 2 ^ tE := Nat.pow_le_pow_right (by decide) (by omega)
    have a5 : 2 ^ tE * 1 ≤ 2 ^ tE * tQ e := Nat.mul_le_mul_left _ (tQ_pos e)
    rw [Nat.mul_one] at a5
    exact Nat.le_trans a3 (Nat.le_trans a4 a5))
  omega
theorem small_pos {m n : Nat} (hm0 : 0 < m) (hm : m ≤ 9007199254740992) (hn : n ≤ 22) (k : Nat) (hk : 40 ≤ k) :
    ∃ z, Rnd (tP m (n : Int)) (tQ (n : Int)) z ∧ lemire_Small.j0 (k + 1) (m : Int) (n : Int) false = some ((outP 0 false z).1, true) := by
  have h5 : 5 ^ n ≤ 5 ^ 22 := Nat.pow_le_pow_right (by decide) hn
  have h522 : (5 : Nat) ^ 22 = 2384185791015625 := by decide
  rw [h522] at h5
  have hp5 : 0 < 5 ^ n := Nat.pow_pos (by decide)
  have hpos : 0 < m * 5 ^ n := Nat.mul_pos hm0 hp5
  have hlt : m * 5 ^ n ≤ 9007199254740992 * 2384185791015625 := Nat.mul_le_mul hm h5
  have hf := Rnd.flo hpos (n : Int)
  have hu := uN_eq
  refine ⟨_, Rnd.cross (Nat.pow_pos (by decide)) (tQ_pos _) ?_ hf, ?_⟩
  · have t1 : tP m (n : Int) = m * (5 ^ n * 2 ^ n) * 2 ^ uN := by unfold tP; rw [Int.toNat_natCast, ten_pow]
    have t2 : tQ (n : Int) = 1 := by unfold tQ; rw [show (-(n : Int)).toNat = 0 from by omega, Nat.pow_zero]
    have t3 : (-((n : Int) + 1074)).toNat = 0 := by omega
    have t4 : ((n : Int) + 1074).toNat = n + uN := by omega
    rw [t1, t2, t3, t4, Nat.pow_zero, Nat.mul_one, Nat.mul_one, Nat.pow_add]
    generalize 5 ^ n = x
    generalize 2 ^ n = y
    generalize 2 ^ uN = u
    ac_rfl
  · have b1 : u64B (m : Int) = true := u64B_iff.2 (by omega)
    have b2 : u64B ((5 ^ n : Nat) : Int) = true := u64B_iff.2 (by omega)
    have ei : (m : Int) * ((5 ^ n : Nat) : Int) = ((m * 5 ^ n : Nat) : Int) := by rw [Int.natCast_mul]
    have hdm := Nat.div_add_mod (m * 5 ^ n) 18446744073709551616
    have hsum : 0 * 340282366920938463463374607431768211456 + (m * 5 ^ n / 18446744073709551616 * 18446744073709551616 + m * 5 ^ n % 18446744073709551616) = m * 5 ^ n := by
      rw [Nat.zero_mul, Nat.zero_add, Nat.mul_comm]; exact hdm
    have r := lemire_three_rounded.f_eq 0 (m * 5 ^ n / 18446744073709551616) (m * 5 ^ n % 18446744073709551616) (by rw [hsum]; exact hpos) (by decide) (by omega) (by omega) (n : Int) (by omega) (by omega) false k (by omega)
    rw [hsum, RS_rn] at r
    have c0 : ¬ (m : Int) = 0 := by omega
    have c1 : (n : Int) ≥ 0 := by omega
    have cd : (m : Int) * ((5 ^ n : Nat) : Int) / 18446744073709551616 = ((m * 5 ^ n / 18446744073709551616 : Nat) : Int) := by rw [ei]; rfl
    have cm : (m : Int) * ((5 ^ n : Nat) : Int) % 18446744073709551616 = ((m * 5 ^ n % 18446744073709551616 : Nat) : Int) := by rw [ei]; rfl
    rw [lemire_Small.j0, if_neg (by decide), if_neg c0, if_pos c1, tens_f hn, Option.bind_some, wide_Mul.f, if_pos b1, if_pos b2, Option.bind_some, cd, cm]
    have r' : lemire_three_rounded.f k 0 ((m * 5 ^ n / 18446744073709551616 : Nat) : Int) ((m * 5 ^ n % 18446744073709551616 : Nat) : Int) (n : Int) false = _ := r
    rw [r', Option.bind_some]
theorem small_neg {m n : Nat} (hm0 : 0 < m) (hm : m ≤ 9007199254740992) (hn1 : 1 ≤ n) (hn : n ≤ 22) (k : Nat) (hk : 40 ≤ k) :
    ∃ z, Rnd (tP m (-(n : Int))) (tQ (-(n : Int))) z ∧ lemire_Small.j0 (k + 1) (m : Int) (-(n : Int)) false = some ((outP 0 false z).1, true) := by
  obtain ⟨L, hL, hb1, hb2⟩ := bits_bounds hm0
  have h5 : 5 ^ n ≤ 5 ^ 22 := Nat.pow_le_pow_right (by decide) hn
  have h522 : (5 : Nat) ^ 22 = 2384185791015625 := by decide
  rw [h522] at h5
  have hp5 : 0 < 5 ^ n := Nat.pow_pos (by decide)
  obtain ⟨T, hT, ht1, ht2⟩ := bits_bounds hp5
  have hu := uN_eq
  have hL64 : L ≤ 63 := by
    apply Classical.byContradiction
    intro hn
    have h1 : 2 ^ 64 ≤ 2 ^ L := Nat.pow_le_pow_right (by decide) (by omega)
    rw [show (2 : Nat) ^ 64 = 18446744073709551616 from by decide] at h1
    omega
  have hT64 : T ≤ 63 := by
    apply Classical.byContradiction
    intro hn
    have h1 : 2 ^ 64 ≤ 2 ^ T := Nat.pow_le_pow_right (by decide) (by omega)
    rw [show (2 : Nat) ^ 64 = 18446744073709551616 from by decide] at h1
    omega
  have e63 : (2 : Nat) ^ 63 = 9223372036854775808 := by decide
  have e64 : (2 : Nat) ^ 64 = 18446744073709551616 := by decide
  have up : ∀ (x j : Nat), j ≤ 63 → 2 ^ j ≤ x → x < 2 ^ (j + 1) → 9223372036854775808 ≤ x * 2 ^ (63 - j) ∧ x * 2 ^ (63 - j) < 18446744073709551616 := by
    intro x j hj h1 h2
    constructor
    · have h3 : 2 ^ j * 2 ^ (63 - j) ≤ x * 2 ^ (63 - j) := Nat.mul_le_mul_right _ h1
      rw [← Nat.pow_add, show j + (63 - j) = 63 from by omega, e63] at h3
      exact h3
    · have h3 : x * 2 ^ (63 - j) < 2 ^ (j + 1) * 2 ^ (63 - j) := Nat.mul_lt_mul_of_pos_right h2 (Nat.pow_pos (by decide))
      rw [← Nat.pow_add, show j + 1 + (63 - j) = 64 from by omega, e64] at h3
      exact h3
  obtain ⟨m1, m2⟩ := up m L hL64 hb1 hb2
  obtain ⟨d1, d2⟩ := up (5 ^ n) T hT64 ht1 ht2
  have wl1 : wide_Len.f k (m : Int) = some (bitsN (m : Int)) := wide_Len.f_eq (by omega) (by omega) k (by omega)
  have wl2 : wide_Len.f k ((5 ^ n : Nat) : Int) = some (bitsN ((5 ^ n : Nat) : Int)) := wide_Len.f_eq (by omega) (by omega) k (by omega)
  have w1 : wrap64 (63 - ((L : Int) + 1)) = (62 : Int) - L := by rw [w64_of (by clear up; omega) (by clear up; omega)]; omega
  have w2 : wrap64 ((62 : Int) - L + 1) = ((63 - L : Nat) : Int) := w64x (by clear up w1; omega) (by clear up w1; omega)
  have w3 : wrap64 (64 - ((T : Int) + 1)) = ((63 - T : Nat) : Int) := w64x (by clear up w1 w2; omega) (by clear up w1 w2; omega)
  have w4 : wrap64 (-(-(n : Int))) = (n : Int) := w64x (by clear up w1 w2 w3; omega) (by clear up w1 w2 w3; omega)
  have w5 : wrap64 (wrap64 (wrap64 (-(n : Int) - ((63 - L : Nat) : Int)) - 63) + ((63 - T : Nat) : Int)) = -(n : Int) - ((63 - L : Nat) : Int) - 63 + ((63 - T : Nat) : Int) := by
    rw [w64_of (x := -(n : Int) - ((63 - L : Nat) : Int)) (by clear up w1 w2 w3 w4; omega) (by clear up w1 w2 w3 w4; omega), w64_of (x := -(n : Int) - ((63 - L : Nat) : Int) - 63) (by clear up w1 w2 w3 w4; omega) (by clear up w1 w2 w3 w4; omega), w64_of (by clear up w1 w2 w3 w4; omega) (by clear up w1 w2 w3 w4; omega)]
  have s1 : shl .u64 (m : Int) ((63 - L : Nat) : Int) = ((m * 2 ^ (63 - L) : Nat) : Int) := shl_nat m (63 - L) (by clear up w1 w2 w3 w4 w5; omega) m2
  have s2 : shl .u64 ((5 ^ n : Nat) : Int) ((63 - T : Nat) : Int) = ((5 ^ n * 2 ^ (63 - T) : Nat) : Int) := shl_nat (5 ^ n) (63 - T) (by clear up w1 w2 w3 w4 w5; omega) d2
  -- the quotient
  have hD : 0 < 5 ^ n * 2 ^ (63 - T) := by clear up w1 w2 w3 w4 w5; omega
  have hdm := Nat.div_add_mod (m * 2 ^ (63 - L) * 9223372036854775808) (5 ^ n * 2 ^ (63 - T))
  have hmod := Nat.mod_lt (m * 2 ^ (63 - L) * 9223372036854775808) hD
  have q1 : 4611686018427387904 ≤ m * 2 ^ (63 - L) * 9223372036854775808 / (5 ^ n * 2 ^ (63 - T)) := by
    rw [Nat.le_div_iff_mul_le hD]
    clear up w1 w2 w3 w4 w5 hdm hmod
    omega
  have q2 : m * 2 ^ (63 - L) * 9223372036854775808 / (5 ^ n * 2 ^ (63 - T)) < 18446744073709551616 := by
    rw [Nat.div_lt_iff_lt_mul hD]
    clear up w1 w2 w3 w4 w5 hdm hmod
    omega
  have hhi : ((m * 2 ^ (63 - L) : Nat) : Int) / 2 * 18446744073709551616 + IntKind.u64.wrap (((m * 2 ^ (63 - L) : Nat) : Int) * 9223372036854775808) = ((m * 2 ^ (63 - L) * 9223372036854775808 : Nat) : Int) := by
    rw [u64w]
    clear up w1 w2 w3 w4 w5 hdm hmod q1 q2
    omega
  have hwd : wide_Div.f (((m * 2 ^ (63 - L) : Nat) : Int) / 2) (IntKind.u64.wrap (((m * 2 ^ (63 - L) : Nat) : Int) * 9223372036854775808)) ((5 ^ n * 2 ^ (63 - T) : Nat) : Int) = some (((m * 2 ^ (63 - L) * 9223372036854775808 / (5 ^ n * 2 ^ (63 - T)) : Nat) : Int), ((m * 2 ^ (63 - L) * 9223372036854775808 % (5 ^ n * 2 ^ (63 - T)) : Nat) : Int), 0) := by
    have hwr := u64w_range (((m * 2 ^ (63 - L) : Nat) : Int) * 9223372036854775808)
    have a1 : u64B (((m * 2 ^ (63 - L) : Nat) : Int) / 2) = true := u64B_iff.2 (by clear up w1 w2 w3 w4 w5 hdm hmod q1 q2 hhi hwr; omega)
    have a2 : u64B (IntKind.u64.wrap (((m * 2 ^ (63 - L) : Nat) : Int) * 9223372036854775808)) = true := u64B_iff.2 hwr
    have a3 : u64B ((5 ^ n * 2 ^ (63 - T) : Nat) : Int) = true := u64B_iff.2 (by clear up w1 w2 w3 w4 w5 hdm hmod q1 q2 hhi hwr; omega)
    have a4 : ¬ ((5 ^ n * 2 ^ (63 - T) : Nat) : Int) = 0 := by clear up w1 w2 w3 w4 w5 hdm hmod q1 q2 hhi hwr; omega
    have a5 : ¬ ((5 ^ n * 2 ^ (63 - T) : Nat) : Int) ≤ ((m * 2 ^ (63 - L) : Nat) : Int) / 2 := by clear up w1 w2 w3 w4 w5 hdm hmod q1 q2 hhi hwr; omega
    rw [wide_Div.f, if_pos ⟨a1, a2, a3⟩, if_neg a4, if_neg a5, hhi, ← Int.natCast_ediv, ← Int.natCast_emod]
  clear up
  obtain ⟨x, hx⟩ : ∃ x : Int, x = -(n : Int) - ((63 - L : Nat) : Int) - 63 + ((63 - T : Nat) : Int) := ⟨_, rfl⟩
  have hx1 : -200 ≤ x ∧ x ≤ 200 := by clear w1 w2 w3 w4 w5 hdm hmod q1 q2 hhi hwd; omega
  have hq0 : 0 < m * 2 ^ (63 - L) * 9223372036854775808 / (5 ^ n * 2 ^ (63 - T)) := by clear w1 w2 w3 w4 w5 hdm hmod hhi hwd; omega
  have r := lemire_three_rounded.f_eq 0 0 (m * 2 ^ (63 - L) * 9223372036854775808 / (5 ^ n * 2 ^ (63 - T))) (by simp only [Nat.zero_mul, Nat.zero_add]; exact hq0) (by decide) (by decide) q2 x (by clear w1 w2 w3 w4 w5 hdm hmod q1 q2 hhi hwd; omega) (by clear w1 w2 w3 w4 w5 hdm hmod q1 q2 hhi hwd; omega) (decide (m * 2 ^ (63 - L) * 9223372036854775808 % (5 ^ n * 2 ^ (63 - T)) ≠ 0)) k (by omega)
  simp only [Nat.zero_mul, Nat.zero_add] at r
  have hmore : (((m * 2 ^ (63 - L) * 9223372036854775808 % (5 ^ n * 2 ^ (63 - T)) : Nat) : Int) != 0) = decide (m * 2 ^ (63 - L) * 9223372036854775808 % (5 ^ n * 2 ^ (63 - T)) ≠ 0) := by
    rw [Bool.eq_iff_iff, bne_iff_ne, decide_eq_true_iff]
    omega
  have c0 : ¬ (m : Int) = 0 := by omega
  have c1 : ¬ -(n : Int) ≥ 0 := by omega
  have c2 : (0 : Int) ≤ ((63 - L : Nat) : Int) := Int.natCast_nonneg _
  have c3 : (0 : Int) ≤ ((63 - T : Nat) : Int) := Int.natCast_nonneg _
  -- the place
  have hz : (-(x + 1074)).toNat = 0 := by clear w1 w2 w3 w4 w5 hdm hmod q1 q2 hhi hwd r; omega
  have hxe : (x + 1074).toNat + n + (63 - L + 63) = uN + (63 - T) := by clear w1 w2 w3 w4 w5 hdm hmod q1 q2 hhi hwd r; omega
  have hxe2 : 63 - L + 63 + ((x + 1074).toNat + n) = 63 - T + uN := by rw [Nat.add_comm, hxe, Nat.add_comm]
  have tPe : tP m (-(n : Int)) = m * 2 ^ uN := by unfold tP; rw [show (-(n : Int)).toNat = 0 from by omega, Nat.pow_zero, Nat.mul_one]
  have tQe : tQ (-(n : Int)) = 5 ^ n * 2 ^ n := by unfold tQ; rw [show (-(-(n : Int))).toNat = n from by omega, ten_pow]
  have key : ∀ q : Nat, q * 2 ^ (x + 1074).toNat * (5 ^ n * 2 ^ n) = q * 5 ^ n * 2 ^ ((x + 1074).toNat + n) := by
    intro q
    rw [Nat.pow_add]
    generalize 2 ^ (x + 1074).toNat = y1
    generalize 2 ^ n = y2
    generalize 5 ^ n = y3
    ac_rfl
  have keyM : m * 2 ^ (63 - L) * 9223372036854775808 = m * 2 ^ (63 - L + 63) := by rw [Nat.pow_add, e63, Nat.mul_assoc]
  have keyD : ∀ q : Nat, q * (5 ^ n * 2 ^ (63 - T)) = q * 5 ^ n * 2 ^ (63 - T) := fun q => (Nat.mul_assoc _ _ _).symm
  have hle : m * 2 ^ (63 - L) * 9223372036854775808 / (5 ^ n * 2 ^ (63 - T)) * (5 ^ n * 2 ^ (63 - T)) ≤ m * 2 ^ (63 - L) * 9223372036854775808 := Nat.div_mul_le_self _ _
  have hlt : m * 2 ^ (63 - L) * 9223372036854775808 < (m * 2 ^ (63 - L) * 9223372036854775808 / (5 ^ n * 2 ^ (63 - T)) + 1) * (5 ^ n * 2 ^ (63 - T)) := by
    rw [Nat.add_mul, Nat.one_mul, Nat.mul_comm (m * 2 ^ (63 - L) * 9223372036854775808 / (5 ^ n * 2 ^ (63 - T)))]
    clear w1 w2 w3 w4 w5 q1 q2 hhi hwd r hx hx1 hle
    omega
  have heq : m * 2 ^ (63 - L) * 9223372036854775808 % (5 ^ n * 2 ^ (63 - T)) ≠ 0 ↔ m * 2 ^ (63 - L) * 9223372036854775808 ≠ m * 2 ^ (63 - L) * 9223372036854775808 / (5 ^ n * 2 ^ (63 - T)) * (5 ^ n * 2 ^ (63 - T)) := by
    rw [Nat.mul_comm (m * 2 ^ (63 - L) * 9223372036854775808 / (5 ^ n * 2 ^ (63 - T)))]
    clear w1 w2 w3 w4 w5 q1 q2 hhi hwd r hx hx1 hle hlt
    omega
  have q3 : 9007199254740992 ≤ m * 2 ^ (63 - L) * 9223372036854775808 / (5 ^ n * 2 ^ (63 - T)) := Nat.le_trans (by decide) q1
  clear hdm hmod q1 q2 hhi
  generalize m * 2 ^ (63 - L) * 9223372036854775808 / (5 ^ n * 2 ^ (63 - T)) = q at *
  generalize hst : decide (m * 2 ^ (63 - L) * 9223372036854775808 % (5 ^ n * 2 ^ (63 - T)) ≠ 0) = st at *
  generalize m * 2 ^ (63 - L) * 9223372036854775808 % (5 ^ n * 2 ^ (63 - T)) = r0 at *
  rw [keyD, keyM] at hle hlt heq
  have hz2 : m * 2 ^ uN * 2 ^ (-(x + 1074)).toNat = m * 2 ^ uN := by rw [hz, Nat.pow_zero, Nat.mul_one]
  have g1 : q * 2 ^ (x + 1074).toNat * (5 ^ n * 2 ^ n) ≤ m * 2 ^ uN * 2 ^ (-(x + 1074)).toNat := by
    rw [hz2, key]; exact shift_le hle hxe
  have g2 : m * 2 ^ uN * 2 ^ (-(x + 1074)).toNat < (q + 1) * 2 ^ (x + 1074).toNat * (5 ^ n * 2 ^ n) := by
    rw [hz2, key]; exact shift_lt hlt hxe.symm
  have g3 : st = true ↔ (m * 2 ^ uN * 2 ^ (-(x + 1074)).toNat ≠ q * 2 ^ (x + 1074).toNat * (5 ^ n * 2 ^ n) ∨ false = true) := by
    rw [hz2, key, ← hst, decide_eq_true_iff, heq]
    constructor
    · intro h
      refine .inl (fun h2 => h ?_)
      exact shift_eq h2 hxe2
    · rintro (h | h)
      · intro h2
        exact h (shift_eq h2 hxe.symm)
      · cases h
  have hQ : 0 < 5 ^ n * 2 ^ n := Nat.mul_pos hp5 (Nat.pow_pos (by decide))
  have hF := flo_Rd (P := m * 2 ^ uN) (Q := 5 ^ n * 2 ^ n) (m := q) (e := x) (more := false) (st := st) hQ hq0 g1 g2 g3 (.inr q3)
  rw [tPe, tQe]
  refine ⟨_, ⟨_, hF.1, by rw [hF.2]⟩, ?_⟩
  rw [lemire_Small.j0, if_neg (by decide), if_neg c0, if_neg c1, w4, tens_f hn, Option.bind_some, wl1, Option.bind_some, hL, w1, w2, if_pos c2, wl2, Option.bind_some, hT, w3, if_pos c3, s1, s2, hwd, Option.bind_some, w5, hmore, ← hx]
  have r' : lemire_three_rounded.f k 0 0 (q : Int) x st = _ := r
  rw [r', Option.bind_some, RS_rn]
theorem lemire_Small.f_in {m : Nat} (hm : m ≤ 9007199254740992) {e : Int} (h1 : -22 ≤ e) (h2 : e ≤ 22) (k : Nat) (hk : 41 ≤ k) :
    ∃ z, z ≤ 9218868437227405311 ∧ Rnd (tP m e) (tQ e) z ∧ lemire_Small.f k (m : Int) e = some ((z : Int), true) := by
  obtain ⟨k, rfl⟩ : ∃ j, k = j + 1 := ⟨k - 1, by omega⟩
  have q1 : ¬ (m : Int) > 9007199254740992 := by omega
  have q2 : ¬ e < -22 := by omega
  have q3 : ¬ e > 22 := by omega
  rw [lemire_Small.f, if_neg q1, if_neg q2, decide_eq_false q3]
  by_cases m0 : m = 0
  · subst m0
    refine ⟨0, by decide, ?_, ?_⟩
    · have h1 : tP 0 e = 0 := by unfold tP; rw [Nat.zero_mul, Nat.zero_mul]
      have hd : Rd 0 (tQ e) 0 := ⟨by rw [pV_zero, Nat.zero_mul]; exact Nat.le_refl _, by rw [show pV (0 + 1) = 1 from rfl, Nat.one_mul]; exact tQ_pos e⟩
      rw [h1]
      refine ⟨0, hd, ?_⟩
      unfold tl
      rw [pV_zero, Nat.zero_mul, if_pos rfl]
      rfl
    · rw [lemire_Small.j0, if_neg (by decide), if_pos (show ((0 : Nat) : Int) = 0 from rfl)]
      rfl
  · have hall : ∃ z, Rnd (tP m e) (tQ e) z ∧ lemire_Small.j0 (k + 1) (m : Int) e false = some ((outP 0 false z).1, true) := by
      by_cases h0 : 0 ≤ e
      · obtain ⟨n, rfl⟩ : ∃ n : Nat, e = (n : Int) := ⟨e.toNat, by omega⟩
        exact small_pos (by omega) hm (by omega) k (by omega)
      · obtain ⟨n, hn⟩ : ∃ n : Nat, e = -(n : Int) := ⟨(-e).toNat, by omega⟩
        subst hn
        exact small_neg (by omega) hm (by omega) (by omega) k (by omega)
    obtain ⟨z, hz, h⟩ := hall
    have hb := tP_below hm h2 hz
    refine ⟨z, hb, hz, ?_⟩
    rcases outP_cases z with ⟨c, _⟩ | ⟨_, c⟩
    · omega
    · rw [h, c]
theorem lemire_Small.f_out {m : Nat} {e : Int} (h : ¬ (m ≤ 9007199254740992 ∧ -22 ≤ e ∧ e ≤ 22)) (k : Nat) : lemire_Small.f (k + 1) (m : Int) e = some (0, false) := by
  have hj : ∀ b c : Int, lemire_Small.j0 (k + 1) b c true = some (0, false) := by
    intro b c
    rw [lemire_Small.j0, if_pos rfl]
  rw [lemire_Small.f]
  by_cases q1 : (m : Int) > 9007199254740992
  · rw [if_pos q1, hj]
  · rw [if_neg q1]
    by_cases q2 : e < -22
    · rw [if_pos q2, hj]
    · have q3 : e > 22 := by omega
      rw [if_neg q2, decide_eq_true q3, hj]
end Go.Proofs.YtoannkopciehcaaDoor.PA

namespace Go.Proofs.YtoannkopciehcaaDoor.PA
open Go Go.RowKit Go.Proofs.YtoannkopciehcaaDoorW.PrintWords Go.Proofs.YtoannkopciehcaaDoorW.PrintLast Go.Proofs.YtoannkopciehcaaDoorW.PrintMore
set_option linter.unusedVariables false
set_option linter.unusedSimpArgs false
theorem pow_nat_lt {j : Nat} (h : j ≤ 63) : 2 ^ j ≤ 9223372036854775808 := by
  rw [show (9223372036854775808 : Nat) = 2 ^ 63 from by decide]
  exact Nat.pow_le_pow_right (by decide) h
theorem cut_maskE (j : Nat) (h1 : 1 ≤ j) (h2 : j ≤ 64) : shl .u64 1 ((j - 1 : Nat) : Int) = ((2 ^ (j - 1) : Nat) : Int) ∧ IntKind.u64.wrap (IntKind.u64.wrap (((2 ^ (j - 1) : Nat) : Int) * 2) - 1) = 2 ^ j - 1 := by
  have hp := pow_nat_lt (j := j - 1) (by omega)
  constructor
  · have := shl_nat 1 (j - 1) (by omega) (by omega)
    rw [Nat.one_mul] at this
    exact this
  · have e : (2 : Int) ^ j = ((2 ^ (j - 1) : Nat) : Int) * 2 := by
      rw [p2cast]
      have : 2 ^ j = 2 ^ (j - 1) * 2 := by rw [← Nat.pow_succ]; congr 1; omega
      rw [this, Int.natCast_mul]; rfl
    by_cases h64 : j = 64
    · subst h64; decide
    · have hp2 := pow_nat_lt (j := j) (by omega)
      have hp3 : 0 < 2 ^ (j - 1) := Nat.pow_pos (by decide)
      rw [p2cast] at e
      rw [p2cast, e]
      generalize 2 ^ (j - 1) = z at *
      rw [u64w_of (x := (z : Int) * 2) (by omega) (by omega), u64w_of (by omega) (by omega)]
theorem near_cut.f_eq (m j : Nat) (hm : m < 18446744073709551616) (h1 : 1 ≤ j) (hj : j ≤ 9007199254740992) (k : Nat) (hk : 1 ≤ k) : near_cut.f k (m : Int) (j : Int) = some (((m / 2 ^ j : Nat) : Int), ((tailOf (m % 2 ^ j) j false : Nat) : Int)) := by
  obtain ⟨k, rfl⟩ : ∃ i, k = i + 1 := ⟨k - 1, by omega⟩
  rw [near_cut.f]
  by_cases h0 : m = 0
  · subst h0
    rw [if_pos (show ((0 : Nat) : Int) = 0 from rfl), near_cut.j0, if_pos rfl, Nat.zero_div, Nat.zero_mod]
    rfl
  · rw [if_neg (by omega), decide_eq_false (by omega), near_cut.j0, if_neg (by decide)]
    by_cases hbig : j > 64
    · have hp : 2 ^ 65 ≤ 2 ^ j := Nat.pow_le_pow_right (by decide) hbig
      rw [show (2 : Nat) ^ 65 = 36893488147419103232 from by decide] at hp
      have hq : m / 2 ^ j = 0 := Nat.div_eq_of_lt (by omega)
      have hr : m % 2 ^ j = m := Nat.mod_eq_of_lt (by omega)
      rw [if_pos (by omega), hq, hr]
      unfold tailOf
      rw [if_neg h0, if_pos (by omega)]
      rfl
    · rw [if_neg (by omega)]
      obtain ⟨m1, m2⟩ := cut_maskE j h1 (by omega)
      have hw : wrap64 ((j : Int) - 1) = ((j - 1 : Nat) : Int) := w64x (by omega) (by omega)
      have hand : Go.bits .and .u64 (m : Int) (IntKind.u64.wrap (IntKind.u64.wrap (((2 ^ (j - 1) : Nat) : Int) * 2) - 1)) = ((m % 2 ^ j : Nat) : Int) := by
        rw [m2, and_mask (x := (m : Int)) (by omega) (by omega) j (by omega) _ rfl, p2cast, Int.natCast_emod]
      have hS : ∃ x, wide_Shr.f 0 (m : Int) (j : Int) = some (x, ((m / 2 ^ j : Nat) : Int), decide (m % 2 ^ j ≠ 0)) := by
        by_cases h64 : j = 64
        · subst h64
          have hq : m / 2 ^ 64 = 0 := Nat.div_eq_of_lt (by rw [show (2 : Nat) ^ 64 = 18446744073709551616 from by decide]; exact hm)
          have hr : m % 2 ^ 64 = m := Nat.mod_eq_of_lt (by rw [show (2 : Nat) ^ 64 = 18446744073709551616 from by decide]; exact hm)
          refine ⟨0, ?_⟩
          rw [hq, hr, wide_Shr.f, wide_within.f, Option.bind_some]
          have e1 : mn (mx ((64 : Nat) : Int) 0) 128 = 64 := by decide
          have e2 : wrap64 (64 - 64) = 0 := by rw [w64_of (by omega) (by omega)]; rfl
          have e3 : wrap64 (128 - 64) = 64 := by rw [w64_of (by omega) (by omega)]; rfl
          rw [e1, e2, e3, if_pos (by decide)]
          rw [if_neg (by omega), if_pos (by decide), decide_eq_true h0]
          rfl
        · refine ⟨0, ?_⟩
          rw [wide_Shr.f_eq (hi := 0) (lo := (m : Int)) (s := j) (by omega) (by decide) (by decide) (by omega) (by omega)]
          have hR := two_pow_pos (64 - j)
          have hl := shl_low (x := (m : Int)) hR (pow_split' (s := j) (by omega))
          rw [hl, Int.zero_ediv, Int.zero_mul, Int.zero_emod, Int.zero_add, p2cast j, ← Int.natCast_ediv, ← Int.natCast_emod]
          congr 3
          rw [decide_eq_decide]
          constructor
          · intro h hz; exact h (by rw [hz]; simp)
          · intro h hz
            rcases Int.mul_eq_zero.1 hz with h3 | h3
            · omega
            · exact h (Int.ofNat.inj h3)
      obtain ⟨x, hS⟩ := hS
      rw [hS, Option.bind_some]
      by_cases hl : m % 2 ^ j = 0
      · rw [if_neg (by simp [hl]), hl]; rfl
      · rw [if_pos (by simp [hl]), hw, if_pos (Int.natCast_nonneg _), m1, hand]
        have h2 : 2 ^ j = 2 * 2 ^ (j - 1) := by rw [Nat.mul_comm, ← Nat.pow_succ]; congr 1; omega
        unfold tailOf
        rw [if_neg hl]
        generalize m % 2 ^ j = r at *
        generalize hz : 2 ^ (j - 1) = z at *
        rw [h2]
        by_cases c1 : r < z
        · rw [if_pos (by omega), if_pos (by omega)]; rfl
        · rw [if_neg (by omega)]
          by_cases c2 : r = z
          · rw [if_neg (by omega), if_neg (by omega), if_pos (by omega)]; rfl
          · rw [if_pos (by omega), if_neg (by omega), if_neg (by omega)]; rfl
theorem RS_zero (mode : Int) (neg : Bool) : RS mode neg 0 0 = (sgn neg, 0) := by
  have hu : upB mode neg (0 % 2 == 1) 0 = false := by
    unfold upB
    split <;> (try rfl)
    split <;> (try rfl)
    split <;> (try rfl)
    split <;> simp
  unfold RS
  rw [hu, if_neg (by decide)]
  unfold outP
  rw [if_neg (by decide)]
  simp
theorem near_finish.f_eq (neg : Bool) (mode : Int) (h0 : 0 ≤ mode) (h4 : mode ≤ 4) (m : Nat) (hm : m < 18446744073709551616) (exp : Int) (he1 : -2199023255552 ≤ exp) (he2 : exp ≤ 2199023255552) (st : Bool) (k : Nat) (hk : 60 ≤ k) :
    near_finish.f k neg (m : Int) exp st mode = some (RS mode neg (flo m exp st).1 (flo m exp st).2) := by
  obtain ⟨k, rfl⟩ : ∃ i, k = i + 8 := ⟨k - 8, by omega⟩
  have e0 : near_finish.f (k + 8) neg (m : Int) exp st mode = near_finish.j0 (k + 8) neg (m : Int) exp st mode (sgn neg) (if neg then 1 else 0) := by
    unfold near_finish.f sgn
    cases neg <;> simp
  rw [e0, near_finish.j0]
  by_cases hz : m = 0
  · subst hz
    have h00 : ((0 : Nat) : Int) = 0 := rfl
    rw [if_pos h00]
    unfold flo
    rw [if_pos rfl]
    cases st
    · rw [near_finish.j1, if_pos (by decide)]
      exact congrArg some (RS_zero mode neg).symm
    · have r := near_finish.j3_eq neg mode h0 h4 0 0 0 true (by decide) (.inl rfl) (by decide) (by decide) k (by omega)
      have hl : wide_Len.f (k + 6) ((0 : Nat) : Int) = some (bitsN ((0 : Nat) : Int)) := wide_Len.f_eq (by decide) (by decide) (k + 6) (by omega)
      rw [near_finish.j1, if_neg (by decide), hl, Option.bind_some, if_pos h00, near_finish.j2]
      by_cases hc : (-1074 : Int) > exp
      · have hw : wrap64 (-1074 - exp) = ((-1074 - exp).toNat : Int) := w64x (by omega) (by omega)
        rw [if_pos hc, hw, near_cut.f_eq 0 (-1074 - exp).toNat (by decide) (by omega) (by omega) (k + 5) (by omega), Option.bind_some, Nat.zero_div, Nat.zero_mod]
        exact r
      · rw [if_neg hc, if_pos h00]
        exact r
  · obtain ⟨L, hL, hb1, hb2⟩ := bits_bounds (m := m) (by omega)
    have hL64 : L ≤ 63 := by
      apply Classical.byContradiction
      intro hn
      have h1 : 2 ^ 64 ≤ 2 ^ L := Nat.pow_le_pow_right (by decide) (by omega)
      rw [show (2 : Nat) ^ 64 = 18446744073709551616 from by decide] at h1
      omega
    have hl : wide_Len.f (k + 6) (m : Int) = some (bitsN (m : Int)) := wide_Len.f_eq (by omega) (by omega) (k + 6) (by omega)
    have hlast : mx (wrap64 (wrap64 (exp + bitsN (m : Int)) - 53)) (-1074) = (((exp + 1074 + bitsN (m : Int) - 53).toNat : Nat) : Int) - 1074 := by
      rw [hL, w64_of (x := exp + (L + 1)) (by omega) (by omega), w64_of (by omega) (by omega)]
      unfold mx
      split <;> omega
    rw [if_neg (by omega), near_finish.j1, if_neg (by decide), hl, Option.bind_some, if_neg (by omega), hlast, near_finish.j2]
    unfold flo
    rw [if_neg hz]
    clear hlast hl
    generalize hs : (exp + 1074 + bitsN (m : Int) - 53).toNat = s at *
    rw [hL] at hs
    by_cases hc : 1 ≤ (s : Int) - (exp + 1074)
    · rw [if_pos hc, if_pos (by omega)]
      obtain ⟨j, hj⟩ : ∃ j : Nat, (s : Int) - (exp + 1074) = (j : Int) := ⟨((s : Int) - (exp + 1074)).toNat, by omega⟩
      have hw : wrap64 ((s : Int) - 1074 - exp) = (j : Int) := w64x (by omega) (by omega)
      obtain ⟨q1, q2⟩ := flo_q (s := s) (j := j) hb1 hb2 (by omega) (by omega)
      rw [hw, hj, Int.toNat_natCast, near_cut.f_eq m j hm (by omega) (by omega) (k + 5) (by omega), Option.bind_some]
      have ht : tailOf (m % 2 ^ j) j false ≤ 3 := by
        unfold tailOf
        split
        · decide
        · split
          · decide
          · split <;> decide
      have r := near_finish.j3_eq neg mode h0 h4 (m / 2 ^ j) s (tailOf (m % 2 ^ j) j false) st q1 q2 (by omega) ht k (by omega)
      rw [bump_tail] at r
      exact r
    · rw [if_neg hc, if_neg (by omega), if_neg (by omega)]
      obtain ⟨j, hj⟩ : ∃ j : Nat, exp + 1074 - (s : Int) = (j : Int) := ⟨(exp + 1074 - (s : Int)).toNat, by omega⟩
      have hw : wrap64 (exp - ((s : Int) - 1074)) = (j : Int) := w64x (by omega) (by omega)
      obtain ⟨q1, q2⟩ := flo_p (s := s) (j := j) hb1 hb2 (by omega) (by omega)
      rw [hw, hj, Int.toNat_natCast, if_pos (Int.natCast_nonneg _), shl_nat m j (by omega) (by omega)]
      have r := near_finish.j3_eq neg mode h0 h4 (m * 2 ^ j) s 0 st q1 q2 (by omega) (by decide) k (by omega)
      exact r
end Go.Proofs.YtoannkopciehcaaDoor.PA

namespace Go.Proofs.YtoannkopciehcaaDoor.PA
open Go Go.RowKit Go.Proofs.YtoannkopciehcaaDoorW.PrintWords Go.Proofs.YtoannkopciehcaaDoorW.PrintLast Go.Proofs.YtoannkopciehcaaDoorW.PrintMore
set_option linter.unusedVariables false
set_option linter.unusedSimpArgs false
/-- the number of units, above -/
def qP (a : Nat) (exp : Int) : Nat := a * 2 ^ (exp + 1074).toNat
/-- and below -/
def qQ (b : Nat) (exp : Int) : Nat := b * 2 ^ (-(exp + 1074)).toNat
theorem qQ_pos {b : Nat} (h : 0 < b) (exp : Int) : 0 < qQ b exp := Nat.mul_pos h (Nat.pow_pos (by decide))
/-- what a Q holds, and that all fits -/
structure QOk (A B : List Int) (exp : Int) (a b N k : Nat) : Prop where
  hA : Ws A
  hB : Ws B
  ea : nv A = (a : Int)
  eb : nv B = (b : Int)
  hb : 0 < b
  hAN : A.length ≤ N
  hBN : B.length + 2 ≤ N
  hN : N ≤ 1000000000000
  he1 : exp + 1075 ≤ 64 * N
  he2 : 971 - exp ≤ 64 * N
  hk : 100 * N + 1000 < k
theorem outP_big (mode : Int) (neg : Bool) {d : Nat} (h : 9218868437227405311 < d) : outP mode neg d = if staysB mode neg then (sgn neg + 9218868437227405311, 0) else (0, 70) := by
  unfold outP; rw [if_pos h]
theorem RS_big (mode : Int) (neg : Bool) {d : Nat} (h : 9218868437227405311 < d) (t : Nat) : RS mode neg d t = if staysB mode neg then (sgn neg + 9218868437227405311, 0) else (0, 70) := by
  unfold RS
  split <;> exact outP_big mode neg (by omega)
end Go.Proofs.YtoannkopciehcaaDoor.PA

namespace Go.Proofs.YtoannkopciehcaaDoor.PA
open Go Go.RowKit Go.Proofs.YtoannkopciehcaaDoorW.PrintWords Go.Proofs.YtoannkopciehcaaDoorW.PrintLast Go.Proofs.YtoannkopciehcaaDoorW.PrintMore
set_option linter.unusedVariables false
set_option linter.unusedSimpArgs false
theorem near_known.f_eq (m : Int) : near_known.f m = some (decide (0 ≤ m ∧ m ≤ 4)) := by
  unfold near_known.f
  by_cases h : m ≥ 0
  · rw [if_pos h]; congr 1; rw [decide_eq_decide]; omega
  · rw [if_neg h, decide_eq_false (by omega)]
/-- a number's bits, from its list -/
theorem bits_len {l : List Int} (hl : Ws l) {a : Nat} (ha : nv l = (a : Int)) : bitsN (a : Int) ≤ ((64 * l.length : Nat) : Int) := by
  rw [bits_lt_pow]
  have := nv_lt hl
  rw [ha, p2cast] at this
  exact Int.ofNat_lt.1 this
/-- high enough it lies beyond the greatest -/
theorem flo_big {m : Nat} (hm : 0 < m) {e : Int} (h : 1100 ≤ e + bitsN (m : Int)) (st : Bool) : 9218868437227405311 < (flo m e st).1 := by
  unfold flo
  rw [if_neg (by omega)]
  have hs : 2048 ≤ (e + 1074 + bitsN (m : Int) - 53).toNat := by omega
  generalize (e + 1074 + bitsN (m : Int) - 53).toNat = s at *
  have hb : 9218868437227405311 < s * 4503599627370496 := by omega
  split
  · exact Nat.lt_of_lt_of_le hb (Nat.le_add_right _ _)
  · exact Nat.lt_of_lt_of_le hb (Nat.le_add_right _ _)
/-- low enough it is less than half of the least one -/
theorem flo_small {m : Nat} (hm : 0 < m) {e : Int} (h : e + bitsN (m : Int) < -1199) (st : Bool) : flo m e st = (0, 1) := by
  obtain ⟨L, hL, hb1, hb2⟩ := bits_bounds hm
  unfold flo
  rw [if_neg (by omega)]
  have hs : (e + 1074 + bitsN (m : Int) - 53).toNat = 0 := by omega
  obtain ⟨j, hj⟩ : ∃ j : Nat, ((0 : Nat) : Int) - (e + 1074) = (j : Int) := ⟨(((0 : Nat) : Int) - (e + 1074)).toNat, by omega⟩
  rw [hs, hj, if_pos (by omega), Int.toNat_natCast]
  have h1 : 2 ^ (L + 2) ≤ 2 ^ j := Nat.pow_le_pow_right (by decide) (by omega)
  rw [Nat.pow_succ] at h1
  have hlt : m < 2 ^ j := by omega
  rw [Nat.div_eq_of_lt hlt, Nat.mod_eq_of_lt hlt]
  unfold tailOf
  rw [if_neg (by omega), if_pos (by omega)]
end Go.Proofs.YtoannkopciehcaaDoor.PA

namespace Go.Proofs.YtoannkopciehcaaDoor.PA
open Go Go.RowKit Go.Proofs.YtoannkopciehcaaDoorW.PrintWords Go.Proofs.YtoannkopciehcaaDoorW.PrintLast Go.Proofs.YtoannkopciehcaaDoorW.PrintMore
set_option linter.unusedVariables false
set_option linter.unusedSimpArgs false
theorem near_shl.l0_eq (x : List Int) (hx : Ws x) (q s : Nat) (a1 : Int) (ea : Int.tmod a1 64 = (s : Int)) (hs : s ≤ 63) (hm : x.length + q ≤ 17592186044414) : ∀ (d k i : Nat) (acc : List Int) (c : Int), d = x.length - i → d < k → i ≤ x.length → acc.length = q + i → Ws acc → 0 ≤ c → c < 2 ^ s → nv acc + 2 ^ (64 * (q + i)) * c = nv (x.take i) * 2 ^ s * 2 ^ (64 * q) →
    ∃ r, near_shl.l0 k a1 acc c x (x.length : Int) (i : Int) = some r ∧ Ws r ∧ nv r = nv x * 2 ^ (64 * q + s) ∧ r.length = q + x.length + 1 := by
  have hP := two_pow_pos s
  have hR := two_pow_pos (64 - s)
  have hPR := pow_split (s := s) (by omega)
  have hle : (2 : Int) ^ s ≤ 2 ^ 63 := pow_mono hs
  rw [show (2 : Int) ^ 63 = 9223372036854775808 from by decide] at hle
  intro d
  induction d with
  | zero =>
    intro k i acc c hd hk hi hl hw hc0 hc he
    obtain ⟨k, rfl⟩ : ∃ j, k = j + 1 := ⟨k - 1, by omega⟩
    obtain rfl : i = x.length := by omega
    rw [List.take_length] at he
    refine ⟨acc ++ [c], ?_, hw.append (Ws.cons hc0 (by omega) Ws.nil), ?_, by rw [List.length_append, List.length_singleton]; omega⟩
    · rw [near_shl.l0, if_neg (by omega), if_pos (by omega)]
    · rw [nv_append, hl]
      simp only [nv_cons, nv_nil, Int.mul_zero, Int.add_zero]
      rw [he, Int.mul_assoc, ← Int.pow_add, Nat.add_comm s]
  | succ d ih =>
    intro k i acc c hd hk hi hl hw hc0 hc he
    obtain ⟨k, rfl⟩ : ∃ j, k = j + 1 := ⟨k - 1, by omega⟩
    have ho := hx.getD i
    have hy : x.getD i 0 / 2 ^ (64 - s) < 2 ^ s := Int.ediv_lt_of_lt_mul hR (by rw [hPR]; exact ho.2)
    have hy0 : 0 ≤ x.getD i 0 / 2 ^ (64 - s) := Int.ediv_nonneg ho.1 (Int.le_of_lt hR)
    have hlow := shl_low (x := x.getD i 0) hP hPR
    have hm1 := Int.emod_nonneg (x.getD i 0 * 2 ^ s) (show (18446744073709551616 : Int) ≠ 0 by decide)
    have hm2 := Int.emod_lt_of_pos (x.getD i 0 * 2 ^ s) (show (0 : Int) < 18446744073709551616 by decide)
    have g1 : x.getD i 0 % 2 ^ (64 - s) < 2 ^ (64 - s) := Int.emod_lt_of_pos _ hR
    have hsum : x.getD i 0 * 2 ^ s % 18446744073709551616 + c < 18446744073709551616 := by
      rw [hlow, ← hPR]
      have h3 : 2 ^ s * (x.getD i 0 % 2 ^ (64 - s) + 1) ≤ 2 ^ s * 2 ^ (64 - s) := Int.mul_le_mul_of_nonneg_left g1 (Int.le_of_lt hP)
      rw [Int.mul_add, Int.mul_one] at h3
      omega
    have e2 : Go.bits .or .u64 (x.getD i 0 * 2 ^ s % 18446744073709551616) c = x.getD i 0 * 2 ^ s % 18446744073709551616 + c := or_join s hm1 hm2 (by rw [hlow, Int.mul_emod_right]) hc0 hc (by omega)
    have e3 : nv (acc ++ [x.getD i 0 * 2 ^ s % 18446744073709551616 + c]) + 2 ^ (64 * (q + (i + 1))) * (x.getD i 0 / 2 ^ (64 - s)) = nv (x.take (i + 1)) * 2 ^ s * 2 ^ (64 * q) := by
      rw [nv_append, hl, nv_take_succ (by omega), show q + (i + 1) = (q + i) + 1 from rfl, pow64, Int.add_mul, Int.add_mul, ← he]
      simp only [nv_cons, nv_nil, Int.mul_zero, Int.add_zero]
      have h2 := shl_word (x := x.getD i 0) hP hPR
      have e4 : x.getD i 0 * 2 ^ (64 * i) * 2 ^ s * 2 ^ (64 * q) = x.getD i 0 * 2 ^ s * 2 ^ (64 * (q + i)) := by
        rw [show 64 * (q + i) = 64 * i + 64 * q from by omega, Int.pow_add]; grind
      rw [e4]
      generalize x.getD i 0 * 2 ^ s % 18446744073709551616 = v at *
      rw [h2]
      generalize x.getD i 0 / 2 ^ (64 - s) = u
      generalize (2 : Int) ^ (64 * (q + i)) = p
      grind
    have hz : (0 : Int) * 2 ^ s % 18446744073709551616 + x.getD i 0 / 2 ^ (64 - s) = x.getD i 0 / 2 ^ (64 - s) := by rw [Int.zero_mul, Int.zero_emod, Int.zero_add]
    obtain ⟨r, h1, h2, h3, h4⟩ := ih k (i + 1) (acc ++ [x.getD i 0 * 2 ^ s % 18446744073709551616 + c]) (x.getD i 0 / 2 ^ (64 - s)) (by omega) (by omega) (by omega) (by rw [List.length_append, List.length_singleton]; omega) (hw.append (Ws.cons (by omega) hsum Ws.nil)) hy0 hy e3
    refine ⟨r, ?_, h2, h3, h4⟩
    rw [near_shl.l0, if_pos (by omega), if_pos (by omega), if_pos (by omega), rdn, ea, wide_Shl.f_eq0 hs (by decide) (by decide) ho.1 ho.2, Option.bind_some, if_pos (by omega), e2, hz, w64_s i (by omega)]
    exact h1
theorem near_shl.f_eq (x : List Int) (hx : Ws x) (n : Nat) (hn : n ≤ 4503599627370496) (hm : x.length + n / 64 ≤ 17592186044414) (k : Nat) (hk : x.length < k) : ∃ r, near_shl.f k x (n : Int) = some r ∧ Ws r ∧ nv r = nv x * 2 ^ n ∧ r.length = n / 64 + x.length + 1 := by
  have e1 : wrap64 (Int.tdiv (n : Int) 64) = ((n / 64 : Nat) : Int) := by
    rw [Int.tdiv_eq_ediv_of_nonneg (by omega), w64_of (by omega) (by omega)]; omega
  have e2 : Int.tmod (n : Int) 64 = ((n % 64 : Nat) : Int) := by
    rw [Int.tmod_eq_emod_of_nonneg (by omega)]; omega
  obtain ⟨r, h1, h2, h3, h4⟩ := near_shl.l0_eq x hx (n / 64) (n % 64) (n : Int) e2 (by omega) hm x.length k 0 (List.replicate (n / 64) 0) 0 (by omega) hk (by omega) (by simp) (Ws.zeros _) (by decide) (two_pow_pos _) (by rw [nv_zeros]; simp [nv])
  rw [show 64 * (n / 64) + n % 64 = n from by omega] at h3
  refine ⟨r, ?_, h2, h3, h4⟩
  rw [near_shl.f, e1, if_pos (by omega), Int.toNat_natCast, if_pos (by omega)]
  exact h1
end Go.Proofs.YtoannkopciehcaaDoor.PA

namespace Go.Proofs.YtoannkopciehcaaDoor.PA
open Go Go.RowKit Go.Proofs.YtoannkopciehcaaDoorW.PrintWords Go.Proofs.YtoannkopciehcaaDoorW.PrintLast Go.Proofs.YtoannkopciehcaaDoorW.PrintMore
set_option linter.unusedVariables false
set_option linter.unusedSimpArgs false
/-- the first bits of A / B, at the exponent e -/
def qX (A : Nat) (e : Int) : Nat := A * 2 ^ (-e).toNat
def qY (B : Nat) (e : Int) : Nat := B * 2 ^ e.toNat
theorem qY_pos {B : Nat} (h : 0 < B) (e : Int) : 0 < qY B e := Nat.mul_pos h (Nat.pow_pos (by decide))
theorem quo_key (A B : Nat) (e : Int) (m : Nat) : (m * qY B e) * 2 ^ (e + 1074).toNat = (m * 2 ^ (e + 1074).toNat * qQ B 0) * 2 ^ e.toNat ∧ qX A e * 2 ^ (e + 1074).toNat = (qP A 0 * 2 ^ (-(e + 1074)).toNat) * 2 ^ e.toNat := by
  have e0 : qQ B 0 = B := by unfold qQ; rw [show (-((0 : Int) + 1074)).toNat = 0 from rfl, Nat.pow_zero, Nat.mul_one]
  constructor
  · rw [e0]
    unfold qY
    generalize 2 ^ e.toNat = x
    generalize 2 ^ (e + 1074).toNat = y
    grind
  · obtain ⟨z, e1, ez⟩ : ∃ z : Nat, ((0 : Int) + 1074).toNat = z ∧ (z : Int) = 1074 := ⟨_, rfl, rfl⟩
    unfold qX qP
    rw [e1, Nat.mul_assoc, Nat.mul_assoc, Nat.mul_assoc, ← Nat.pow_add, ← Nat.pow_add, ← Nat.pow_add]
    congr 2
    omega
/-- the place of A / B, by its first bits -/
theorem quo_Rd {A B : Nat} (hB : 0 < B) (e : Int) (hm : 9007199254740992 ≤ qX A e / qY B e) :
    Rd (qP A 0) (qQ B 0) (flo (qX A e / qY B e) e (decide (qX A e % qY B e ≠ 0))).1 ∧ tl (qP A 0) (qQ B 0) false (flo (qX A e / qY B e) e (decide (qX A e % qY B e ≠ 0))).1 = (flo (qX A e / qY B e) e (decide (qX A e % qY B e ≠ 0))).2 := by
  have hY := qY_pos hB e
  have hp : 0 < 2 ^ e.toNat := Nat.pow_pos (by decide)
  have hT : 0 < 2 ^ (e + 1074).toNat := Nat.pow_pos (by decide)
  have hdm := Nat.div_add_mod (qX A e) (qY B e)
  have hmod := Nat.mod_lt (qX A e) hY
  obtain ⟨k1, k2⟩ := quo_key A B e (qX A e / qY B e)
  obtain ⟨k3, _⟩ := quo_key A B e (qX A e / qY B e + 1)
  have hle : qX A e / qY B e * qY B e ≤ qX A e := Nat.div_mul_le_self _ _
  have hlt : qX A e < (qX A e / qY B e + 1) * qY B e := by rw [Nat.add_mul, Nat.one_mul, Nat.mul_comm (qX A e / qY B e)]; omega
  refine flo_Rd (qQ_pos hB 0) (by omega) ?_ ?_ ?_ (.inr hm)
  · apply Nat.le_of_mul_le_mul_right _ hp
    rw [← k1, ← k2]
    exact Nat.mul_le_mul_right _ hle
  · apply Nat.lt_of_mul_lt_mul_right (a := 2 ^ e.toNat)
    rw [← k3, ← k2]
    exact Nat.mul_lt_mul_of_pos_right hlt hT
  · have : (qP A 0 * 2 ^ (-(e + 1074)).toNat ≠ qX A e / qY B e * 2 ^ (e + 1074).toNat * qQ B 0) ↔ qX A e % qY B e ≠ 0 := by
      constructor
      · intro h hz
        apply h
        apply Nat.eq_of_mul_eq_mul_right hp
        rw [← k1, ← k2]
        congr 1
        rw [Nat.mul_comm]; omega
      · intro h hz
        apply h
        have h2 : qX A e * 2 ^ (e + 1074).toNat = qX A e / qY B e * qY B e * 2 ^ (e + 1074).toNat := by rw [k1, k2, hz]
        have h3 := Nat.eq_of_mul_eq_mul_right hT h2
        rw [Nat.mul_comm] at h3
        omega
    rw [this]
    simp
/-- the first bits are 62 or 63 -/
theorem quo_bits {A B a b : Nat} (hA1 : 2 ^ a ≤ A) (hA2 : A < 2 ^ (a + 1)) (hB1 : 2 ^ b ≤ B) (hB2 : B < 2 ^ (b + 1)) (e : Int) (he : e = (a : Int) - b - 62) :
    2 ^ 61 ≤ qX A e / qY B e ∧ qX A e / qY B e < 2 ^ 63 := by
  have hB : 0 < B := Nat.lt_of_lt_of_le (Nat.pow_pos (by decide)) hB1
  have hY := qY_pos hB e
  have hp : 0 < 2 ^ (-e).toNat := Nat.pow_pos (by decide)
  have hq : 0 < 2 ^ e.toNat := Nat.pow_pos (by decide)
  constructor
  · rw [Nat.le_div_iff_mul_le hY]
    unfold qX qY
    have h1 : 2 ^ 61 * (B * 2 ^ e.toNat) ≤ 2 ^ 61 * (2 ^ (b + 1) * 2 ^ e.toNat) := Nat.mul_le_mul_left _ (Nat.mul_le_mul_right _ (Nat.le_of_lt hB2))
    have h2 : 2 ^ a * 2 ^ (-e).toNat ≤ A * 2 ^ (-e).toNat := Nat.mul_le_mul_right _ hA1
    have h3 : 2 ^ 61 * (2 ^ (b + 1) * 2 ^ e.toNat) = 2 ^ a * 2 ^ (-e).toNat := by
      rw [← Nat.pow_add, ← Nat.pow_add, ← Nat.pow_add]; congr 1; omega
    exact Nat.le_trans h1 (by rw [h3]; exact h2)
  · rw [Nat.div_lt_iff_lt_mul hY]
    unfold qX qY
    have h1 : A * 2 ^ (-e).toNat < 2 ^ (a + 1) * 2 ^ (-e).toNat := Nat.mul_lt_mul_of_pos_right hA2 hp
    have h2 : 2 ^ 63 * (2 ^ b * 2 ^ e.toNat) ≤ 2 ^ 63 * (B * 2 ^ e.toNat) := Nat.mul_le_mul_left _ (Nat.mul_le_mul_right _ hB1)
    have h3 : 2 ^ (a + 1) * 2 ^ (-e).toNat = 2 ^ 63 * (2 ^ b * 2 ^ e.toNat) := by
      rw [← Nat.pow_add, ← Nat.pow_add, ← Nat.pow_add]; congr 1; omega
    exact Nat.lt_of_lt_of_le h1 (by rw [h3]; exact h2)
def quoR (mode : Int) (neg : Bool) (A B : Nat) (e : Int) : Int × Int :=
  RS mode neg (flo (qX A e / qY B e) e (decide (qX A e % qY B e ≠ 0))).1 (flo (qX A e / qY B e) e (decide (qX A e % qY B e ≠ 0))).2
/-- what both tell of A / B -/
def quo (mode : Int) (neg : Bool) (A B : Nat) : Int × Int :=
  if 0 ≤ mode ∧ mode ≤ 4 then
    (if B = 0 then (0, 50) else if A = 0 then RS mode neg 0 0 else quoR mode neg A B (bitsN (A : Int) - bitsN (B : Int) - 62))
  else (0, 71)
theorem strip_len_zero {l : List Int} (hl : Ws l) {A : Nat} (ha : nv l = (A : Int)) : ((strip l).length : Int) = 0 ↔ A = 0 := by
  have h := strip_length_pos hl
  rw [ha] at h
  omega
theorem near_Quotient.f_eq (neg : Bool) (x y : List Int) (hx : Ws x) (hy : Ws y) (hmx : x.length ≤ 1048576) (hmy : y.length ≤ 1048576) (A B : Nat) (eA : nv x = (A : Int)) (eB : nv y = (B : Int)) (mode : Int) (k : Nat) (hk : 100000000 < k) :
    near_Quotient.f k neg x y mode = some (quo mode neg A B) := by
  have hX : Ws (strip x) := hx.strip
  have hY : Ws (strip y) := hy.strip
  have lX : (strip x).length ≤ 1048576 := Nat.le_trans (strip_length_le x) hmx
  have lY : (strip y).length ≤ 1048576 := Nat.le_trans (strip_length_le y) hmy
  have eX : nv (strip x) = (A : Int) := by rw [nv_strip, eA]
  have eY : nv (strip y) = (B : Int) := by rw [nv_strip, eB]
  rw [near_Quotient.f, nat_Norm.f, if_pos (by omega), Option.bind_some, nat_Norm.f, if_pos (by omega), Option.bind_some, near_known.f_eq, Option.bind_some]
  unfold quo
  by_cases hmode : 0 ≤ mode ∧ mode ≤ 4
  · rw [decide_eq_true hmode, if_pos rfl, if_pos hmode]
    have zB := strip_len_zero hy eB
    have zA := strip_len_zero hx eA
    by_cases hB : B = 0
    · rw [if_pos (zB.2 hB), if_pos hB]
    · rw [if_neg (fun h => hB (zB.1 h)), if_neg hB]
      by_cases hA : A = 0
      · have r := near_finish.f_eq neg mode hmode.1 hmode.2 0 (by decide) 0 (by decide) (by decide) false k (by omega)
        have hfl : flo 0 0 false = (0, 0) := by unfold flo; rw [if_pos rfl]; rfl
        rw [hfl] at r
        have r' : near_finish.f k neg 0 0 false mode = some (RS mode neg 0 0) := r
        rw [if_pos (zA.2 hA), if_pos hA, r', Option.bind_some]
      · rw [if_neg (fun h => hA (zA.1 h)), if_neg hA, nat_Bits.f_eq _ hX (by omega) k (by omega) (by omega), Option.bind_some, nat_Bits.f_eq _ hY (by omega) k (by omega) (by omega), Option.bind_some, eX, eY]
        obtain ⟨a, ha, hA1, hA2⟩ := bits_bounds (m := A) (by omega)
        obtain ⟨b, hb, hB1, hB2⟩ := bits_bounds (m := B) (by omega)
        have bA := bits_len hX eX
        have bB := bits_len hY eY
        have hbits := quo_bits hA1 hA2 hB1 hB2 ((a : Int) - b - 62) rfl
        rw [ha] at bA
        rw [hb] at bB
        have ee : ((a : Int) + 1 - ((b : Int) + 1) - 62) = (a : Int) - b - 62 := by omega
        have w1 : wrap64 ((a : Int) + 1 - ((b : Int) + 1)) = (a : Int) - b := by rw [w64_of (by omega) (by omega)]; omega
        have w2 : wrap64 ((a : Int) - b - 62) = (a : Int) - b - 62 := w64_of (by omega) (by omega)
        rw [ha, hb, ee, w1, w2]
        unfold quoR
        rw [show (2 : Nat) ^ 61 = 2305843009213693952 from by decide, show (2 : Nat) ^ 63 = 9223372036854775808 from by decide] at hbits
        generalize hm : qX A ((a : Int) - b - 62) / qY B ((a : Int) - b - 62) = m at *
        generalize hst : decide (qX A ((a : Int) - b - 62) % qY B ((a : Int) - b - 62) ≠ 0) = st at *
        have bm : 62 ≤ bitsN (m : Int) ∧ bitsN (m : Int) ≤ 63 := by
          constructor
          · apply Classical.byContradiction
            intro h
            have := (bits_lt_pow (a := m) 61).1 (by omega)
            rw [show (2 : Nat) ^ 61 = 2305843009213693952 from by decide] at this
            omega
          · have := (bits_lt_pow (a := m) 63).2 (by rw [show (2 : Nat) ^ 63 = 9223372036854775808 from by decide]; omega)
            omega
        have hF := near_finish.f_eq neg mode hmode.1 hmode.2
        by_cases c1 : (a : Int) - b > 1100
        · have r := hF 1 (by decide) ((a : Int) - b) (by omega) (by omega) true k (by omega)
          have r' : near_finish.f k neg 1 ((a : Int) - b) true mode = _ := r
          have b1 : bitsN ((1 : Nat) : Int) = 1 := rfl
          rw [if_pos c1, r', Option.bind_some, RS_big mode neg (flo_big (m := 1) (e := (a : Int) - b) (by decide) (by omega) true), RS_big mode neg (flo_big (m := m) (e := (a : Int) - b - 62) (by omega) (by omega) st)]
        · rw [if_neg c1]
          by_cases c2 : (a : Int) - b < -1200
          · have r := hF 0 (by decide) 0 (by decide) (by decide) true k (by omega)
            have hfl : flo 0 0 true = (0, 1) := by unfold flo; rw [if_pos rfl]; rfl
            rw [hfl] at r
            have r' : near_finish.f k neg 0 0 true mode = some (RS mode neg 0 1) := r
            rw [if_pos c2, r', Option.bind_some, flo_small (m := m) (e := (a : Int) - b - 62) (by omega) (by omega) st]
          · rw [if_neg c2]
            have rr := hF m (by omega) ((a : Int) - b - 62) (by omega) (by omega) st k (by omega)
            have hlen : ∀ z : Nat, decide (((wd z).length : Int) > 0) = decide (z ≠ 0) := by
              intro z
              rw [decide_eq_decide]
              have := @wd_eq_nil z
              constructor
              · intro h hz
                rw [this.2 hz] at h
                exact absurd h (by decide)
              · intro h
                rcases Nat.eq_zero_or_pos (wd z).length with h0 | h0
                · exact absurd (this.1 (List.eq_nil_of_length_eq_zero h0)) h
                · omega
            have hdm : ∀ (p q : List Int) (P Q : Nat), Ws p → Ws q → p.length ≤ 2000000 → q.length ≤ 2000000 → nv p = (P : Int) → nv q = (Q : Int) → Q ≠ 0 → quot_DivMod.f k p q = some (wd (P / Q), wd (P % Q), 0) := by
              intro p q P Q hp hq lp lq ep eq_ hQ
              rw [quot_DivMod.f_eq p q hp hq (by omega) (by omega) k (by omega) (by omega), ep, eq_, if_neg (by omega), ← Int.natCast_ediv, ← Int.natCast_emod, Int.toNat_natCast, Int.toNat_natCast]
            by_cases c3 : (a : Int) - b - 62 > 0
            · obtain ⟨n, hn⟩ : ∃ n : Nat, (a : Int) - b - 62 = (n : Int) := ⟨((a : Int) - b - 62).toNat, by omega⟩
              obtain ⟨r, h1, h2, h3, h4⟩ := near_shl.f_eq (strip y) hY n (by omega) (by omega) k (by omega)
              have eqX : qX A ((a : Int) - b - 62) = A := by unfold qX; rw [hn, show (-(n : Int)).toNat = 0 from by omega, Nat.pow_zero, Nat.mul_one]
              have eqY : nv r = ((qY B ((a : Int) - b - 62) : Nat) : Int) := by unfold qY; rw [h3, eY, hn, Int.toNat_natCast, p2cast, Int.natCast_mul]
              have hd := hdm (strip x) r A _ hX h2 (by omega) (by omega) eX eqY (Nat.ne_of_gt (qY_pos (by omega) _))
              rw [eqX] at hm hst
              rw [hm] at hd
              rw [if_pos c3, hn, h1, Option.bind_some, hd, Option.bind_some, nat_Word.f_eq (by omega) k (by omega), Option.bind_some, hlen, hst, ← hn, rr, Option.bind_some]
            · obtain ⟨n, hn⟩ : ∃ n : Nat, -((a : Int) - b - 62) = (n : Int) := ⟨(-((a : Int) - b - 62)).toNat, by omega⟩
              have w3 : wrap64 (-((a : Int) - b - 62)) = (n : Int) := by rw [hn, w64_of (by omega) (by omega)]
              obtain ⟨r, h1, h2, h3, h4⟩ := near_shl.f_eq (strip x) hX n (by omega) (by omega) k (by omega)
              have eqY : qY B ((a : Int) - b - 62) = B := by unfold qY; rw [show ((a : Int) - b - 62).toNat = 0 from by omega, Nat.pow_zero, Nat.mul_one]
              have eqX : nv r = ((qX A ((a : Int) - b - 62) : Nat) : Int) := by unfold qX; rw [h3, eX, hn, Int.toNat_natCast, p2cast, Int.natCast_mul]
              have hd := hdm r (strip y) _ B h2 hY (by omega) (by omega) eqX eY hB
              rw [eqY] at hm hst
              rw [hm] at hd
              rw [if_neg c3, w3, h1, Option.bind_some, hd, Option.bind_some, nat_Word.f_eq (by omega) k (by omega), Option.bind_some, hlen, hst, rr, Option.bind_some]
  · rw [decide_eq_false hmode, if_neg (by decide), if_neg hmode]
end Go.Proofs.YtoannkopciehcaaDoor.PA

namespace Go.Proofs.YtoannkopciehcaaDoor.PA
open Go Go.RowKit Go.Proofs.YtoannkopciehcaaDoorW.PrintWords Go.Proofs.YtoannkopciehcaaDoorW.PrintLast Go.Proofs.YtoannkopciehcaaDoorW.PrintMore
set_option linter.unusedVariables false
set_option linter.unusedSimpArgs false
theorem quo_pos (mode : Int) (neg : Bool) {A B : Nat} (hA : 0 < A) (hB : 0 < B) (h0 : 0 ≤ mode) (h4 : mode ≤ 4) : ∃ d t, Rd (qP A 0) (qQ B 0) d ∧ tl (qP A 0) (qQ B 0) false d = t ∧ quo mode neg A B = RS mode neg d t := by
  obtain ⟨a, ha, hA1, hA2⟩ := bits_bounds (m := A) hA
  obtain ⟨b, hb, hB1, hB2⟩ := bits_bounds (m := B) hB
  have hbits := quo_bits hA1 hA2 hB1 hB2 ((a : Int) - b - 62) rfl
  rw [show (2 : Nat) ^ 61 = 2305843009213693952 from by decide] at hbits
  obtain ⟨r1, r2⟩ := quo_Rd (A := A) (B := B) hB ((a : Int) - b - 62) (by omega)
  refine ⟨_, _, r1, r2, ?_⟩
  unfold quo
  rw [if_pos ⟨h0, h4⟩, if_neg (by omega), if_neg (by omega), ha, hb, show ((a : Int) + 1 - ((b : Int) + 1) - 62) = (a : Int) - b - 62 from by omega]
  rfl
theorem qP_zero (A : Nat) : qP A 0 = A * 2 ^ uN := by
  unfold qP
  rw [show ((0 : Int) + 1074).toNat = uN from rfl]
theorem qQ_zero (B : Nat) : qQ B 0 = B := by unfold qQ; rw [show (-((0 : Int) + 1074)).toNat = 0 from rfl, Nat.pow_zero, Nat.mul_one]
theorem quo_even {A B : Nat} (hA : 0 < A) (hB : 0 < B) : ∃ z, Rnd (A * 2 ^ uN) B z ∧ quo 0 false A B = outP 0 false z := by
  obtain ⟨d, t, r1, r2, r3⟩ := quo_pos 0 false hA hB (Int.le_refl 0) (by decide)
  rw [qP_zero, qQ_zero] at r1 r2
  exact ⟨rn d t, ⟨d, r1, by rw [r2]⟩, r3⟩
end Go.Proofs.YtoannkopciehcaaDoor.PA

namespace Go.Proofs.YtoannkopciehcaaDoor.Pure
open Go Go.RowKit Go.Proofs.YtoannkopciehcaaDoor.PA Go.Proofs.YtoannkopciehcaaDoorW.PrintWords Go.Proofs.YtoannkopciehcaaDoorW.PrintLast
set_option linter.unusedVariables false
theorem true_alive : plumblaw10_alive.f 200 = some true := by kernel_rfl
theorem true_alive_at (k : Nat) (hk : 200 ≤ k) : plumblaw10_alive.f k = some true := by
  obtain ⟨d, rfl⟩ : ∃ d, k = 200 + d := ⟨k - 200, by omega⟩
  clear hk
  induction d with
  | zero => exact true_alive
  | succ d ih => exact plumblaw10_alive.mono _ _ ih
theorem ten_int (n : Nat) : ((10 : Int) ^ n).toNat = 10 ^ n := by
  have : (10 : Int) ^ n = ((10 ^ n : Nat) : Int) := by rw [Int.natCast_pow]; rfl
  rw [this, Int.toNat_natCast]
theorem ten_len (n : Nat) (hn : n ≤ 1000) : (wd (10 ^ n)).length ≤ 64 := by
  have h : 10 ^ n < 2 ^ (4 * n + 1) := by
    rw [Nat.pow_succ, Nat.pow_mul]
    have h1 : 10 ^ n ≤ (2 ^ 4) ^ n := Nat.pow_le_pow_left (by decide) n
    have h2 : 0 < (2 ^ 4) ^ n := Nat.pow_pos (by decide)
    omega
  exact wd_len_of h (by omega)
theorem mul_ten {m n : Nat} (hm0 : 0 < m) (hm : m < 18446744073709551616) (hn : n ≤ 1000) (k : Nat) (hk : 1000 < k) : nat_Mul.f k [(m : Int)] (wd (10 ^ n)) = some (wd (m * 10 ^ n), 0) ∧ (wd (m * 10 ^ n)).length ≤ 64 := by
  have ws : Ws [(m : Int)] := Ws.cons (by omega) (by omega) Ws.nil
  have e1 : nv [(m : Int)] = (m : Int) := by simp [nv]
  have hp : 0 < m * 10 ^ n := Nat.mul_pos hm0 (Nat.pow_pos (by decide))
  have ei : (m : Int) * ((10 ^ n : Nat) : Int) = ((m * 10 ^ n : Nat) : Int) := by rw [Int.natCast_mul]
  have hne : ¬ ((m * 10 ^ n : Nat) : Int) = 0 := by
    generalize m * 10 ^ n = y at *
    omega
  have hlen := ten_len n hn
  have hm2 : m ≤ 2 ^ 64 := by rw [show (2 : Nat) ^ 64 = 18446744073709551616 from by decide]; omega
  constructor
  · have hlim : m * 10 ^ n ≤ 5 ^ (64 + 2 * n) := by
      rw [Nat.pow_add, Nat.pow_mul]
      exact Nat.mul_le_mul (Nat.le_trans hm2 (Nat.pow_le_pow_left (by decide) 64)) (Nat.pow_le_pow_left (by decide) n)
    rw [nat_Mul.f_eq _ _ ws (wd_ws _) (show [(m : Int)].length ≤ 1000000 from Nat.le_of_ble_eq_true rfl) (Nat.le_trans hlen (by decide)) k (by show 1 * ((wd (10 ^ n)).length + 2) + 1 + (wd (10 ^ n)).length + 20 < k; omega), e1, nv_wd, ei, if_neg hne, lim_of (by omega) hlim]
  · have h : m * 10 ^ n < 2 ^ (64 + 4 * n + 1) := by
      rw [Nat.pow_succ, Nat.pow_add, Nat.pow_mul]
      have h1 : m * 10 ^ n ≤ 2 ^ 64 * (2 ^ 4) ^ n := Nat.mul_le_mul hm2 (Nat.pow_le_pow_left (by decide) n)
      have h2 : 0 < 2 ^ 64 * (2 ^ 4) ^ n := Nat.mul_pos (Nat.pow_pos (by decide)) (Nat.pow_pos (by decide))
      generalize 2 ^ 64 * (2 ^ 4) ^ n = y at *
      omega
    exact wd_len_of h (by omega)
theorem ten_f {n : Nat} (hn : n ≤ 1000) (k : Nat) (hk : 30000000 < k) : radix_Ten.f k (n : Int) = some (wd (10 ^ n), 0) := by
  have q1 : ¬ (n : Int) > 78913 := by omega
  have q2 : ¬ (n : Int) < 0 := by omega
  rw [radix_Ten.f_eq (n : Int) (by omega) k hk, if_neg q1, if_neg q2, Int.toNat_natCast, ten_int]
/-- the exact number's rounding -/
theorem exact_eq {m : Nat} (hm : m < 18446744073709551616) {e : Int} (h1 : -1000 ≤ e) (h2 : e ≤ 1000) (k : Nat) (hk : 100000000 < k) :
    ∃ z, Rnd (tP m e) (tQ e) z ∧ plumblaw10_exact.f k (m : Int) e = some (outP 0 false z) := by
  have ws : Ws [(m : Int)] := Ws.cons (by omega) (by omega) Ws.nil
  have ev : nv [(m : Int)] = (m : Int) := by simp [nv]
  have w1 : Ws [(1 : Int)] := Ws.cons (by decide) (by decide) Ws.nil
  have v1 : nv [(1 : Int)] = ((1 : Nat) : Int) := rfl
  have l1 : ∀ v : Int, [v].length ≤ 1048576 := fun _ => Nat.le_of_ble_eq_true rfl
  -- what the quotient tells
  have hq0 : ∀ B : Nat, 0 < B → quo 0 false 0 B = outP 0 false 0 := by
    intro B hB
    unfold quo
    rw [if_pos (by decide), if_neg (by omega), if_pos rfl]
    exact RS_rn 0 0
  have hr0 : m = 0 → Rnd (tP m e) (tQ e) 0 := by
    intro h0
    have h1 : tP m e = 0 := by unfold tP; rw [h0, Nat.zero_mul, Nat.zero_mul]
    have hd : Rd 0 (tQ e) 0 := ⟨by rw [pV_zero, Nat.zero_mul]; exact Nat.le_refl _, by rw [show pV (0 + 1) = 1 from rfl, Nat.one_mul]; exact tQ_pos e⟩
    rw [h1]
    refine ⟨0, hd, ?_⟩
    unfold tl
    rw [pV_zero, Nat.zero_mul, if_pos rfl]
    rfl
  by_cases hs : 0 ≤ e
  · obtain ⟨n, rfl⟩ : ∃ n : Nat, e = (n : Int) := ⟨e.toNat, by omega⟩
    have q : (n : Int) ≥ 0 := hs
    rw [plumblaw10_exact.f, Option.bind_some, if_pos q, ten_f (by omega) k (by omega), Option.bind_some]
    by_cases m0 : m = 0
    · refine ⟨0, hr0 m0, ?_⟩
      have hz : nat_Mul.f k [(m : Int)] (wd (10 ^ n)) = some ([], 0) := by
        have hl := ten_len n (by omega)
        have hz0 : nv [(m : Int)] * nv (wd (10 ^ n)) = 0 := by rw [ev, m0]; exact Int.zero_mul _
        rw [nat_Mul.f_eq _ _ ws (wd_ws _) (show [(m : Int)].length ≤ 1000000 from Nat.le_of_ble_eq_true rfl) (Nat.le_trans hl (by decide)) k (by show 1 * ((wd (10 ^ n)).length + 2) + 1 + (wd (10 ^ n)).length + 20 < k; omega), if_pos hz0]
      rw [hz, Option.bind_some, near_Quotient.f_eq false [] [1] Ws.nil w1 (Nat.zero_le _) (l1 1) 0 1 rfl v1 0 k hk, Option.bind_some, hq0 1 (by decide)]
    · obtain ⟨hM, hl⟩ := mul_ten (by omega) hm (n := n) (by omega) k (by omega)
      have hp : 0 < m * 10 ^ n := Nat.mul_pos (by omega) (Nat.pow_pos (by decide))
      obtain ⟨z, hz, hqz⟩ := quo_even hp (show 0 < 1 by decide)
      refine ⟨z, ?_, ?_⟩
      · have t1 : tP m (n : Int) = m * 10 ^ n * 2 ^ uN := by unfold tP; rw [Int.toNat_natCast]
        have t2 : tQ (n : Int) = 1 := by unfold tQ; rw [show (-(n : Int)).toNat = 0 from by omega, Nat.pow_zero]
        rw [t1, t2]; exact hz
      · rw [hM, Option.bind_some, near_Quotient.f_eq false _ [1] (wd_ws _) w1 (Nat.le_trans hl (by decide)) (l1 1) (m * 10 ^ n) 1 (nv_wd _) v1 0 k hk, Option.bind_some, hqz]
  · obtain ⟨n, hn⟩ : ∃ n : Nat, e = -(n : Int) := ⟨(-e).toNat, by omega⟩
    subst hn
    have q : ¬ -(n : Int) ≥ 0 := hs
    have w : wrap64 (-(-(n : Int))) = (n : Int) := by rw [w64_of (by omega) (by omega)]; omega
    have hl := ten_len n (by omega)
    have hp : 0 < 10 ^ n := Nat.pow_pos (by decide)
    rw [plumblaw10_exact.f, Option.bind_some, if_neg q, w, ten_f (by omega) k (by omega), Option.bind_some, near_Quotient.f_eq false _ _ ws (wd_ws _) (l1 _) (Nat.le_trans hl (by decide)) m (10 ^ n) ev (nv_wd _) 0 k hk, Option.bind_some]
    by_cases m0 : m = 0
    · refine ⟨0, hr0 m0, ?_⟩
      rw [m0, hq0 _ hp]
    · obtain ⟨z, hz, hqz⟩ := quo_even (A := m) (by omega) hp
      refine ⟨z, ?_, by rw [hqz]⟩
      have t1 : tP m (-(n : Int)) = m * 2 ^ uN := by unfold tP; rw [show (-(n : Int)).toNat = 0 from by omega, Nat.pow_zero, Nat.mul_one]
      have t2 : tQ (-(n : Int)) = 10 ^ n := by unfold tQ; rw [show (-(-(n : Int))).toNat = n from by omega]
      rw [t1, t2]; exact hz
theorem fastA_cases (m : Nat) (hm : m < 18446744073709551616) (e : Int) : (fastA m e).2 = 0 ∨ (fastA m e).1 = 0 := by
  rcases fastA_sure m hm e with h | ⟨z, _, h⟩
  · rw [h]; exact .inr rfl
  · rcases outP_cases z with ⟨_, c⟩ | ⟨_, c⟩
    · rw [h, c]; exact .inr rfl
    · rw [h, c]; exact .inl rfl
theorem fastA_unsure {m : Nat} (hm : m < 18446744073709551616) {e : Int} (h : (fastA m e).2 = 100) : 0 < m ∧ -348 ≤ e ∧ e ≤ 347 ∧ (e < 0 ∨ 55 < e) := by
  unfold fastA at h
  by_cases q1 : m = 0 ∨ e < -348
  · rw [if_pos q1] at h; exact absurd h (by decide)
  · rw [if_neg q1] at h
    by_cases q2 : 347 < e
    · rw [if_pos q2] at h; exact absurd h (by decide)
    · refine ⟨by omega, by omega, by omega, ?_⟩
      apply Classical.byContradiction
      intro hn
      have hw := pow5_whole (e := e) (by omega) (by omega)
      rw [if_neg q2] at h
      unfold fastR lowR highR pow5u at h
      rw [if_pos hw, if_pos rfl] at h
      rcases outP_cases (rn (flo ((pow5 e).1 * m) ((pow5 e).2.1 + e) false).1 (flo ((pow5 e).1 * m) ((pow5 e).2.1 + e) false).2) with ⟨_, c⟩ | ⟨_, c⟩
      · rw [c] at h; exact absurd (show (70 : Int) = 100 from h) (by decide)
      · rw [c] at h; exact absurd (show (0 : Int) = 100 from h) (by decide)
theorem true_j2 {m : Nat} (hm : m < 18446744073709551616) (e : Int) (z : Nat) (hz : Rnd (tP m e) (tQ e) z) (k : Nat) : plumblaw10_LemireTrue.j2 (k + 1) (m : Int) e (fastA m e).1 (fastA m e).2 (outP 0 false z).1 (outP 0 false z).2 false = some true := by
  rw [plumblaw10_LemireTrue.j2, if_neg (by decide)]
  by_cases h : (fastA m e).2 = 100
  · obtain ⟨g1, g2, g3, g4⟩ := fastA_unsure hm h
    have c1 : (m : Int) > 0 := by omega
    have c2 : e ≥ -348 := g2
    rw [if_pos h, if_pos c1, if_pos c2, if_pos g3]
    by_cases q : e < 0
    · rw [if_pos q]
    · have q2 : e > 55 := by omega
      rw [if_neg q, decide_eq_true q2]
  · rw [if_neg h]
    rcases fastA_sure m hm e with g | ⟨y, hy, g⟩
    · rw [g] at h; exact absurd rfl h
    · have := Rnd.uniq (tQ_pos e) (tQ_pos e) hz hy rfl
      subst this
      rw [g, if_pos rfl, beq_self_eq_true]
theorem true_j0 {m : Nat} (hm : m < 18446744073709551616) (e : Int) (b : Int) (ok : Bool) (hok : ok = true → ∃ z : Nat, z ≤ 9218868437227405311 ∧ Rnd (tP m e) (tQ e) z ∧ b = (z : Int)) (k : Nat) (hk : 100000010 < k) :
    plumblaw10_LemireTrue.j0 (k + 3) (m : Int) e b ok (fastA m e).1 (fastA m e).2 false = some true := by
  have big : ∀ e : Int, (e < -1000 ∨ e > 1000) → plumblaw10_LemireTrue.j1 (k + 2) (m : Int) e b ok (fastA m e).1 (fastA m e).2 true = some true := by
    intro e he
    rw [plumblaw10_LemireTrue.j1, if_pos rfl]
    by_cases m0 : m = 0
    · have c0 : (m : Int) = 0 := by omega
      have hf : fastA m e = (0, 0) := by
        unfold fastA
        rw [if_pos (.inl m0)]
      rw [if_pos c0, hf, if_pos rfl, if_pos rfl]
    · have c0 : ¬ (m : Int) = 0 := by omega
      have c1 : (m : Int) > 0 := by omega
      rw [if_neg c0, if_pos c1]
      by_cases q : e < -1000
      · have q1 : e < 0 := by omega
        have q2 : e < -348 := by omega
        have hf : fastA m e = (0, 0) := by
          unfold fastA
          rw [if_pos (.inr q2)]
        rw [if_pos q1, hf, if_pos rfl, if_pos rfl]
      · have q1 : ¬ e < 0 := by omega
        have q2 : ¬ (m = 0 ∨ e < -348) := by omega
        have q3 : 347 < e := by omega
        have q4 : e > 0 := by omega
        have hf : fastA m e = (0, 70) := by
          unfold fastA
          rw [if_neg q2, if_pos q3]
        rw [if_neg q1, hf, if_pos q4]
        rfl
  rw [plumblaw10_LemireTrue.j0, if_neg (by decide)]
  by_cases q1 : e < -1000
  · rw [if_pos q1]; exact big e (.inl q1)
  · rw [if_neg q1]
    by_cases q2 : e > 1000
    · rw [decide_eq_true q2]; exact big e (.inr q2)
    · obtain ⟨z, hz, hx⟩ := exact_eq hm (e := e) (by omega) (by omega) (k + 1) (by omega)
      rw [decide_eq_false q2, plumblaw10_LemireTrue.j1, if_neg (by decide), hx, Option.bind_some]
      cases ok
      · rw [if_neg (by decide)]
        exact true_j2 hm e z hz k
      · obtain ⟨y, hy1, hy2, hb⟩ := hok rfl
        have := Rnd.uniq (tQ_pos e) (tQ_pos e) hz hy2 rfl
        subst this
        rcases outP_cases z with ⟨c, _⟩ | ⟨_, c⟩
        · omega
        · have hj := true_j2 hm e z hz k
          rw [c] at hj ⊢
          rw [if_pos rfl, if_pos rfl, hb]
          show plumblaw10_LemireTrue.j2 (k + 1) (m : Int) e (fastA m e).1 (fastA m e).2 (z : Int) 0 ((z : Int) != (z : Int)) = some true
          rw [bne_self_eq_false]
          exact hj
theorem LemireTrue : plumblaw10_LemireTrue.Pure := by
  intro a0 e h0 h1
  have b0 := bounds_u64 h0
  obtain ⟨m, rfl⟩ : ∃ a : Nat, a0 = (a : Int) := ⟨a0.toNat, by omega⟩
  have hm : m < 18446744073709551616 := by omega
  refine ⟨200000000 + 3, ?_⟩
  have hS : ∃ (b : Int) (ok : Bool), lemire_Small.f (200000000 + 3) (m : Int) e = some (b, ok) ∧ (ok = true ∨ b = 0) ∧ ok = decide (m ≤ 9007199254740992 ∧ -22 ≤ e ∧ e ≤ 22) ∧ (ok = true → ∃ z : Nat, z ≤ 9218868437227405311 ∧ Rnd (tP m e) (tQ e) z ∧ b = (z : Int)) := by
    by_cases hin : m ≤ 9007199254740992 ∧ -22 ≤ e ∧ e ≤ 22
    · obtain ⟨z, z1, z2, z3⟩ := lemire_Small.f_in hin.1 hin.2.1 hin.2.2 (200000000 + 3) (by decide)
      exact ⟨_, _, z3, .inl rfl, (decide_eq_true hin).symm, fun _ => ⟨z, z1, z2, rfl⟩⟩
    · exact ⟨_, _, lemire_Small.f_out hin _, .inr rfl, (decide_eq_false hin).symm, fun h => absurd h (by decide)⟩
  obtain ⟨b, ok, hS1, hS2, hS3, hS4⟩ := hS
  have hj := true_j0 hm e b ok hS4 200000000 (by decide)
  have hF := fastA_cases m hm e
  rw [plumblaw10_LemireTrue.f, hS1, Option.bind_some, lemire_Fast.f_eq m hm e _ (by decide), Option.bind_some, true_alive_at _ (by decide), Option.bind_some, if_pos rfl]
  have key : (if (m : Int) ≤ 9007199254740992 then (if e ≥ (-22) then (plumblaw10_LemireTrue.j0 (200000000 + 3) (m : Int) e b ok (fastA m e).1 (fastA m e).2 (ok != (decide (e ≤ 22)))) else (plumblaw10_LemireTrue.j0 (200000000 + 3) (m : Int) e b ok (fastA m e).1 (fastA m e).2 (ok != false))) else (plumblaw10_LemireTrue.j0 (200000000 + 3) (m : Int) e b ok (fastA m e).1 (fastA m e).2 (ok != false))) = some true := by
    by_cases q1 : m ≤ 9007199254740992
    · have c1 : (m : Int) ≤ 9007199254740992 := by omega
      rw [if_pos c1]
      by_cases q2 : -22 ≤ e
      · have c2 : e ≥ -22 := q2
        have hx : ok = decide (e ≤ 22) := by
          rw [hS3, decide_eq_decide]
          exact ⟨fun h => h.2.2, fun h => ⟨q1, q2, h⟩⟩
        rw [if_pos c2, ← hx, bne_self_eq_false]
        exact hj
      · have c2 : ¬ e ≥ -22 := q2
        have hx : ok = false := by
          rw [hS3, decide_eq_false_iff_not]
          exact fun h => q2 h.2.1
        rw [if_neg c2, hx, bne_self_eq_false]
        rw [hx] at hj
        exact hj
    · have c1 : ¬ (m : Int) ≤ 9007199254740992 := by omega
      have hx : ok = false := by
        rw [hS3, decide_eq_false_iff_not]
        exact fun h => q1 h.1
      rw [if_neg c1, hx, bne_self_eq_false]
      rw [hx] at hj
      exact hj
  have key2 : (if ok = true then (if (m : Int) ≤ 9007199254740992 then (if e ≥ (-22) then (plumblaw10_LemireTrue.j0 (200000000 + 3) (m : Int) e b ok (fastA m e).1 (fastA m e).2 (ok != (decide (e ≤ 22)))) else (plumblaw10_LemireTrue.j0 (200000000 + 3) (m : Int) e b ok (fastA m e).1 (fastA m e).2 (ok != false))) else (plumblaw10_LemireTrue.j0 (200000000 + 3) (m : Int) e b ok (fastA m e).1 (fastA m e).2 (ok != false))) else (if b = 0 then (if (m : Int) ≤ 9007199254740992 then (if e ≥ (-22) then (plumblaw10_LemireTrue.j0 (200000000 + 3) (m : Int) e b ok (fastA m e).1 (fastA m e).2 (ok != (decide (e ≤ 22)))) else (plumblaw10_LemireTrue.j0 (200000000 + 3) (m : Int) e b ok (fastA m e).1 (fastA m e).2 (ok != false))) else (plumblaw10_LemireTrue.j0 (200000000 + 3) (m : Int) e b ok (fastA m e).1 (fastA m e).2 (ok != false))) else (plumblaw10_LemireTrue.j0 (200000000 + 3) (m : Int) e b ok (fastA m e).1 (fastA m e).2 true))) = some true := by
    by_cases c : ok = true
    · rw [if_pos c]; exact key
    · rw [if_neg c, if_pos (hS2.resolve_left c)]; exact key
  by_cases c : (fastA m e).2 = 0
  · rw [if_pos c]; exact key2
  · rw [if_neg c, if_pos (hF.resolve_left c)]; exact key2
end Go.Proofs.YtoannkopciehcaaDoor.Pure

namespace Go.Proofs.YtoannkopciehcaaDoorW.PrintWords
open Go
theorem trod_words {H : Type} {enc : TypeId × Value → H} {P : Program} {w : World} {base : Nat} {spare : Nat → Bool} {held : Bool} {fuel : Nat} {ty e : TypeId} {n : Nat} {k : IntKind} {cs : List Value} {L : List Int} {p : List MemPlace}
    (hu : P.underlying ty = some (.array n e)) (he : P.underlying e = some (.int k)) (hc : P.cellsOf e = 1)
    (h : DataW.trod enc P w base spare held fuel ty cs = some (.agg (L.map fun x => .lit (.int k x)), p)) : ∀ i, i < n → cs[i]? = some (.int k (L.getD i 0)) := by
  obtain ⟨xs, m, rfl, hx, hlen, hn, hel⟩ := DataW.trod_array hu h
  intro i hi
  have h1 := hel i hi
  rw [hc, Nat.mul_one] at h1
  have hxi : i < xs.length := by omega
  rw [List.getElem?_eq_getElem hxi] at h1
  obtain ⟨z, e1, e2, _⟩ := DataW.trod_int he h1
  simp only [Prod.mk.injEq, DataW.agg.injEq] at hx
  have h2 : (L.map fun x => (DataW.lit (.int k x) : DataW H))[i]? = (xs.map (·.1))[i]? := by rw [hx.1]
  rw [List.getElem?_map, List.getElem?_map, List.getElem?_eq_getElem hxi, e2] at h2
  have h3 : L[i]? = some z := by
    cases hL : L[i]? with
    | none => rw [hL] at h2; simp at h2
    | some y => rw [hL] at h2; simp at h2; rw [h2]
  have h4 : cs[i]? = some (.int k z) := by
    have h5 : ((cs.drop i).take 1)[0]? = some (.int k z) := by rw [e1]; rfl
    rw [List.getElem?_take, if_pos (by decide), List.getElem?_drop, Nat.add_zero] at h5
    exact h5
  rw [h4, List.getD_eq_getElem?_getD, h3]
  rfl
/-- an array of pairs of bools -/
theorem trod_pairs {H : Type} {enc : TypeId × Value → H} {P : Program} {w : World} {base : Nat} {spare : Nat → Bool} {held : Bool} {fuel : Nat} {ty e1 e2 : TypeId} {n : Nat} {cs : List Value} {L : List (List Bool)} {p : List MemPlace}
    (hu : P.underlying ty = some (.array n e1)) (he : P.underlying e1 = some (.array 2 e2)) (hb : P.underlying e2 = some .bool) (hc1 : P.cellsOf e1 = 2) (hc2 : P.cellsOf e2 = 1)
    (h : DataW.trod enc P w base spare held fuel ty cs = some (.agg (L.map fun r => .agg (r.map fun b => .lit (.bool b))), p)) : ∀ i, i < n → ∀ j, j < 2 → cs[2 * i + j]? = some (.bool ((L.getD i []).getD j false)) := by
  obtain ⟨xs, m, rfl, hx, hlen, hn, hel⟩ := DataW.trod_array hu h
  intro i hi j hj
  have h1 := hel i hi
  rw [hc1] at h1
  have hxi : i < xs.length := by omega
  rw [List.getElem?_eq_getElem hxi] at h1
  obtain ⟨ys, m2, rfl, hy, hlen2, hn2, hel2⟩ := DataW.trod_array he h1
  have h2 := hel2 j hj
  rw [hc2, Nat.mul_one] at h2
  have hyj : j < ys.length := by omega
  rw [List.getElem?_eq_getElem hyj] at h2
  obtain ⟨b, e1_, e2_⟩ := DataW.trod_bool hb h2
  simp only [Prod.mk.injEq, DataW.agg.injEq] at hx
  have h3 : (L.map fun r => (DataW.agg (r.map fun b => .lit (.bool b)) : DataW H))[i]? = (xs.map (·.1))[i]? := by rw [hx.1]
  rw [List.getElem?_map, List.getElem?_map, List.getElem?_eq_getElem hxi] at h3
  simp only [Option.map_some] at h3
  cases hL : L[i]? with
  | none => rw [hL] at h3; simp at h3
  | some r =>
    rw [hL] at h3
    simp only [Option.map_some, Option.some.injEq] at h3
    rw [hy] at h3
    simp only [DataW.agg.injEq] at h3
    have h4 : (r.map fun b => (DataW.lit (.bool b) : DataW H))[j]? = (ys.map (·.1))[j]? := by rw [h3]
    rw [List.getElem?_map, List.getElem?_map, List.getElem?_eq_getElem hyj, Option.map_some, e2_] at h4
    have h5 : r[j]? = some b := by
      cases hr : r[j]? with
      | none => rw [hr] at h4; simp at h4
      | some y => rw [hr] at h4; simp at h4; rw [h4]
    have h6 : ((((cs.drop (i * 2)).take 2).drop j).take 1)[0]? = some (.bool b) := by rw [e1_]; rfl
    rw [List.getElem?_take, if_pos (by decide), List.getElem?_drop, Nat.add_zero, List.getElem?_take, if_pos hj, List.getElem?_drop] at h6
    rw [Nat.mul_comm, h6, List.getD_eq_getElem?_getD, List.getD_eq_getElem?_getD, hL, Option.getD_some, h5]
    rfl
end Go.Proofs.YtoannkopciehcaaDoorW.PrintWords
