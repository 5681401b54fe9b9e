/- A part of the proof (17). -/
import Derived.Test.YtoefabmlkbhmpaaDoorYKDVKD16
import Derived.Test.YtoefabmlkbhmpaaDoorYKDVKD14
import Derived.OpenShut
import Derived.LaidLaws
import Derived.LaidHandle
import Derived.MakeChecks
import Derived.WideShapes
import Derived.ChangeArms
namespace Go.Proofs.YtoefabmlkbhmpaaDoor.PA
open Go Go.RowKit Go.Proofs.YtoefabmlkbhmpaaDoorW.PrintWords Go.Proofs.YtoefabmlkbhmpaaDoorW.PrintLast Go.Proofs.YtoefabmlkbhmpaaDoorW.PrintMore
set_option linter.unusedVariables false
set_option linter.unusedSimpArgs false
theorem quo_pos (mode : Int) (neg : Bool) {A B : Nat} (hA : 0 < A) (hB : 0 < B) (h0 : 0 ≤ mode) (h4 : mode ≤ 4) : ∃ d t, Rd (qP A 0) (qQ B 0) d ∧ tl (qP A 0) (qQ B 0) false d = t ∧ quo mode neg A B = RS mode neg d t := by
 obtain ⟨a, ha, hA1, hA2⟩ := bits_bounds (m := A) hA
 obtain ⟨b, hb, hB1, hB2⟩ := bits_bounds (m := B) hB
 have hbits := quo_bits hA1 hA2 hB1 hB2 ((a : Int) - b - 62) rfl
 rw [show (2 : Nat) ^ 61 = 2305843009213693952 from by decide] at hbits
 obtain ⟨r1, r2⟩ := quo_Rd (A := A) (B := B) hB ((a : Int) - b - 62) (by omega)
 refine ⟨_, _, r1, r2, ?_⟩
 unfold quo
 rw [if_pos ⟨h0, h4⟩, if_neg (by omega), if_neg (by omega), ha, hb, show ((a : Int) + 1 - ((b : Int) + 1) - 62) = (a : Int) - b - 62 from by omega]
 rfl
theorem qP_zero (A : Nat) : qP A 0 = A * 2 ^ uN := by
 unfold qP
 rw [show ((0 : Int) + 1074).toNat = uN from rfl]
theorem qQ_zero (B : Nat) : qQ B 0 = B := by unfold qQ; rw [show (-((0 : Int) + 1074)).toNat = 0 from rfl, Nat.pow_zero, Nat.mul_one]
theorem quo_zero (mode : Int) (neg : Bool) {B : Nat} (hB : 0 < B) (h0 : 0 ≤ mode) (h4 : mode ≤ 4) : quo mode neg 0 B = RS mode neg 0 0 := by
 unfold quo
 rw [if_pos ⟨h0, h4⟩, if_neg (by omega), if_pos rfl]
theorem quo_same (mode : Int) (neg : Bool) (h0 : 0 ≤ mode) (h4 : mode ≤ 4) {A B A' B' : Nat} (hB : 0 < B) (hB' : 0 < B') (e : A * B' = A' * B) : quo mode neg A B = quo mode neg A' B' := by
 by_cases hA : A = 0
 ·have hA' : A' = 0 := by
   rw [hA, Nat.zero_mul] at e
   rcases Nat.mul_eq_zero.1 e.symm with h | h
   ·exact h
   ·omega
  rw [hA, hA', quo_zero mode neg hB h0 h4, quo_zero mode neg hB' h0 h4]
 ·have hA' : 0 < A' := by
   rcases Nat.eq_zero_or_pos A' with h | h
   ·rw [h, Nat.zero_mul] at e
    rcases Nat.mul_eq_zero.1 e with h | h
    ·exact absurd h hA
    ·omega
   ·exact h
  obtain ⟨d, t, r1, r2, r3⟩ := quo_pos mode neg (A := A) (B := B) (by omega) hB h0 h4
  obtain ⟨d', t', s1, s2, s3⟩ := quo_pos mode neg (A := A') (B := B') hA' hB' h0 h4
  rw [qP_zero, qQ_zero] at r1 r2 s1 s2
  have ec : A * 2 ^ uN * B' = A' * 2 ^ uN * B := by rw [Nat.mul_right_comm, e, Nat.mul_right_comm]
  have hd := (r1.cross hB hB' ec).uniq s1
  rw [tl_cross hB hB' ec, hd, s2] at r2
  rw [r3, s3, hd, r2]
theorem quo_RS {A B : Nat} (hB : 0 < B) : ∃ d t, Rd (A * 2 ^ uN) B d ∧ tl (A * 2 ^ uN) B false d = t ∧ ∀ (mode : Int) (neg : Bool), 0 ≤ mode → mode ≤ 4 → quo mode neg A B = RS mode neg d t := by
 by_cases hA : A = 0
 ·subst hA
  refine ⟨0, 0, ⟨?_, ?_⟩, ?_, fun mode neg h0 h4 => quo_zero mode neg hB h0 h4⟩
  ·rw [pV_zero, Nat.zero_mul]; exact Nat.zero_le _
  ·have : pV (0 + 1) = 1 := by decide
   rw [this, Nat.zero_mul, Nat.one_mul]; exact hB
  ·unfold tl
   rw [pV_zero, Nat.zero_mul, Nat.zero_mul, if_pos rfl]
   rfl
 ·have hA' : 0 < A := Nat.pos_of_ne_zero hA
  obtain ⟨d, t, r1, r2, r3⟩ := quo_pos 0 false hA' hB (Int.le_refl 0) (by decide)
  refine ⟨d, t, by rw [qP_zero, qQ_zero] at r1; exact r1, by rw [qP_zero, qQ_zero] at r2; exact r2, fun mode neg h0 h4 => ?_⟩
  obtain ⟨d', t', s1, s2, s3⟩ := quo_pos mode neg hA' hB h0 h4
  obtain rfl := r1.uniq s1
  rw [s3, ← s2, r2]
def gP : Nat := 9218868437227405311
def nx (d t : Nat) : Nat := if t = 0 then d else d + 1
theorem fixed_true : plumblaw07_fixed.f 400 = some true := by kernel_rfl
theorem fixed_at (k : Nat) (hk : 400 ≤ k) : plumblaw07_fixed.f k = some true := by
 obtain ⟨d, rfl⟩ : ∃ d, k = 400 + d := ⟨k - 400, by omega⟩
 clear hk
 induction d with
 | zero => exact fixed_true
 | succ d ih => exact plumblaw07_fixed.mono _ _ ih
theorem pV_ltb {b z : Nat} (hb : 3840 ≤ b) (hz : z ≤ 9218868437227405312) : pV z < 2 ^ b := by
 obtain ⟨M, hM⟩ : ∃ M : Nat, M = 2098 := ⟨_, rfl⟩
 exact Nat.lt_of_le_of_lt (pV_top M hM hz) (Nat.pow_lt_pow_right (by decide) (by omega))
theorem uN_ltb {b : Nat} (hb : 3840 ≤ b) : 2 ^ uN < 2 ^ b := Nat.pow_lt_pow_right (by decide) (by have := uN_eq; omega)
theorem near_Rat.rz {b : Nat} (P : Int) {Q : Nat} (hQ : Q ≠ 0) (hp : P.natAbs < 2 ^ b) (hq : Q < 2 ^ b) (hb : b ≤ 60000) (mode : Int) (h0 : 0 ≤ mode) (h4 : mode ≤ 4) (k : Nat) (hk : Q + 200000000 < k) :
  near_Rat.f k (rzv P Q).1 (rzv P Q).2.1 (rzv P Q).2.2 mode = some (quo mode (decide (P < 0)) P.natAbs Q) := by
 obtain ⟨N, D, h, e, _, l⟩ := rzv_d P hQ hp hq
 have hc := h.check hb k (by omega)
 have hs : decide (P < 0) = decide (N < 0) := congrArg Prod.fst h.eq
 have lN : (wd N.natAbs).length ≤ 4096 := wd_lenb h.num 4096 (by omega)
 have lD : (wd D).length ≤ 4096 := wd_lenb h.den 4096 (by omega)
 have hD0 := h.pos
 have en : N.natAbs * Q = P.natAbs * D := by
  have := congrArg Int.natAbs e
  rw [Int.natAbs_mul, Int.natAbs_mul, Int.natAbs_natCast, Int.natAbs_natCast] at this
  exact this.symm
 rw [near_Rat.f, near_known.f_eq, Option.bind_some, decide_eq_true (show 0 ≤ mode ∧ mode ≤ 4 from ⟨h0, h4⟩), if_pos rfl, hc, Option.bind_some, if_pos rfl, h.eq]
 rw [near_Quotient.f_eq (decide (N < 0)) (wd N.natAbs) (wd D) (wd_ws _) (wd_ws _) (by omega) (by omega) N.natAbs D (nv_wd _) (nv_wd _) mode k (by omega), Option.bind_some, quo_same mode (decide (N < 0)) h0 h4 (by omega) (by omega) en, hs]
theorem quo_own {mode : Int} (h0 : 0 ≤ mode) (h4 : mode ≤ 4) (neg : Bool) {z : Nat} (hz : z ≤ gP) : quo mode neg (pV z) (2 ^ uN) = (sgn neg + (z : Int), 0) := by
 have hU1 : 0 < 2 ^ uN := Nat.pow_pos (by decide)
 obtain ⟨d, t, r, htl, hq⟩ := quo_RS (A := pV z) hU1
 have r2 : Rd (pV z * 2 ^ uN) (2 ^ uN) z := ⟨Nat.le_refl _, Nat.mul_lt_mul_of_pos_right (pV_lt_succ z) hU1⟩
 obtain rfl := r.uniq r2
 have ht : t = 0 := by
  rw [← htl]
  unfold tl
  rw [if_pos rfl]
  rfl
 rw [hq mode neg h0 h4, ht]
 have hu : upB mode neg (d % 2 == 1) 0 = false := by
  unfold upB
  by_cases m0 : mode = 0
  ·rw [if_pos m0]; rfl
  ·rw [if_neg m0]
   by_cases m1 : mode = 1
   ·rw [if_pos m1]
   ·rw [if_neg m1]
    by_cases m2 : mode = 2
    ·rw [if_pos m2]; rfl
    ·rw [if_neg m2]
     by_cases m3 : mode = 3
     ·rw [if_pos m3]; cases neg <;> rfl
     ·rw [if_neg m3]; cases neg <;> rfl
 unfold RS outP
 rw [hu, if_neg (show ¬ (false = true) by decide), if_neg (show ¬ 9218868437227405311 < d from Nat.not_lt.2 hz)]
theorem xor_top {z : Nat} (hz : z < 9223372036854775808) : z ^^^ 9223372036854775808 = z + 9223372036854775808 := by
 rw [show (9223372036854775808 : Nat) = 2 ^ 63 from by decide]
 have hz' : z < 2 ^ 63 := by rw [show (2 : Nat) ^ 63 = 9223372036854775808 from by decide]; exact hz
 apply Nat.eq_of_testBit_eq
 intro i
 rw [Nat.testBit_xor, Nat.testBit_two_pow, Nat.add_comm]
 by_cases h : 63 = i
 ·subst h
  rw [Nat.testBit_two_pow_add_eq, Nat.testBit_lt_two_pow hz']
  rfl
 ·rw [decide_eq_false h, Bool.xor_false]
  rcases Nat.lt_or_gt_of_ne (fun e => h e.symm) with hi | hi
  ·rw [Nat.testBit_two_pow_add_gt hi]
  ·rw [Nat.testBit_lt_two_pow (Nat.lt_of_lt_of_le hz' (Nat.pow_le_pow_right (by decide) (by omega)))]
   have : 2 ^ 63 + z < 2 ^ i := by
    have h2 : 2 ^ 63 + z < 2 ^ 64 := by rw [show (2 : Nat) ^ 64 = 2 ^ 63 + 2 ^ 63 from by decide]; omega
    exact Nat.lt_of_lt_of_le h2 (Nat.pow_le_pow_right (by decide) (by omega))
   rw [Nat.testBit_lt_two_pow this]
theorem xor_sgn (neg : Bool) {z : Nat} (hz : z < 9223372036854775808) : Go.bits .xor .u64 (sgn neg + (z : Int)) 9223372036854775808 = sgn (!neg) + (z : Int) := by
 have hx := xor_top hz
 cases neg
 ·have h := u64_xor_nat z 9223372036854775808 (by omega) (by decide)
  rw [hx] at h
  have e : sgn false + (z : Int) = (z : Int) := by show (0 : Int) + (z : Int) = _; omega
  rw [e]
  refine Eq.trans h ?_
  show ((z + 9223372036854775808 : Nat) : Int) = 9223372036854775808 + (z : Int)
  omega
 ·have h := u64_xor_nat (z + 9223372036854775808) 9223372036854775808 (by omega) (by decide)
  have e2 : (z + 9223372036854775808) ^^^ 9223372036854775808 = z := by rw [← hx, Nat.xor_assoc, Nat.xor_self, Nat.xor_zero]
  rw [e2] at h
  have e : sgn true + (z : Int) = ((z + 9223372036854775808 : Nat) : Int) := by show (9223372036854775808 : Int) + (z : Int) = _; omega
  rw [e]
  refine Eq.trans h ?_
  show (z : Int) = 0 + (z : Int)
  omega
theorem near_Value.ok (neg : Bool) {z : Nat} (hz : z < 9218868437227405312) (k : Nat) (hk : 2 ^ uN + 30000000 < k) :
  near_Value.f k (sgn neg + (z : Int)) = some ((rzv (sg neg (pV z)) (2 ^ uN)).1, (rzv (sg neg (pV z)) (2 ^ uN)).2.1, (rzv (sg neg (pV z)) (2 ^ uN)).2.2, 0) := by
 have hu := uN_eq
 have hm := pM_lt z
 have hS : pS z ≤ 2045 := by unfold pS; omega
 have hU1 : 0 < 2 ^ uN := Nat.pow_pos (by decide)
 have hU : 2 ^ uN ≠ 0 := Nat.ne_of_gt hU1
 obtain ⟨c, hc⟩ : ∃ c : Nat, c = 262144 := ⟨_, rfl⟩
 have fm : nat_From.f (pM z : Int) = some (wd (pM z)) := by rw [nat_From.f_eq (by omega) (by omega)]; rfl
 have f1 : nat_From.f 1 = some (wd 1) := nat_From.f_eq (by decide) (by decide)
 have lm : (wd (pM z)).length ≤ 1 := wd_length_le (by rw [show (2 : Nat) ^ (64 * 1) = 18446744073709551616 from by decide]; omega)
 have l1 : (wd 1).length ≤ 1 := wd_length_le (by decide)
 rw [near_Value.f, f64_Split.f_eq neg hz k (by omega), Option.bind_some, if_pos rfl]
 show (nat_From.f (pM z : Int)).bind _ = _
 rw [fm, Option.bind_some, f1, Option.bind_some]
 by_cases h : pS z < 1074
 ·have he : ((pS z : Int) - 1074) < 0 := by omega
  obtain ⟨n, hn⟩ : ∃ n : Nat, n = uN - pS z := ⟨_, rfl⟩
  have wn : wrap64 (-((pS z : Int) - 1074)) = (n : Int) := by rw [w64_of (by omega) (by omega)]; omega
  have hb : 1 * 2 ^ n < 2 ^ (n + 1) := by rw [Nat.one_mul]; exact Nat.pow_lt_pow_right (by decide) (by omega)
  obtain ⟨s, s1, s2, s3, s4⟩ := shl_ok (wd 1) (wd_ws _) (by omega) 1 n (nv_wd _) (by omega) hb c hc (by omega) k (by omega)
  rw [Nat.one_mul] at s3
  have hle : 2 ^ n ≤ 2 ^ uN := Nat.pow_le_pow_right (by decide) (by omega)
  have hn0 : 2 ^ n ≠ 0 := Nat.ne_of_gt (Nat.pow_pos (by decide))
  rw [if_pos he]
  show (nat_Shl.f k (wd 1) (wrap64 (-((pS z : Int) - 1074)))).bind _ = _
  rw [wn, s1, Option.bind_some]
  show (rat_New.f k neg (wd (pM z)) s).bind _ = _
  rw [rat_New.rz neg (wd (pM z)) s (wd_ws _) s2 (by omega) (by omega) (pM z) (2 ^ n) (nv_wd _) s3 hn0 k (by omega), Option.bind_some]
  have e : rzv (sg neg (pM z)) (2 ^ n) = rzv (sg neg (pV z)) (2 ^ uN) := by
   refine rzv_same hn0 hU ?_
   rw [pV_parts, sgz_nat, Int.mul_assoc, ← Int.natCast_mul, ← Nat.pow_add, show pS z + n = uN from by omega]
  rw [e]
 ·have he : ¬ ((pS z : Int) - 1074) < 0 := by omega
  obtain ⟨n, hn⟩ : ∃ n : Nat, pS z = n + uN := ⟨pS z - uN, by omega⟩
  have en : (pS z : Int) - 1074 = (n : Int) := by omega
  have hb : pM z * 2 ^ n < 2 ^ (64 + n) := by
   rw [Nat.pow_add]
   exact Nat.mul_lt_mul_of_pos_right (by rw [show (2 : Nat) ^ 64 = 18446744073709551616 from by decide]; omega) (Nat.pow_pos (by decide))
  obtain ⟨s, s1, s2, s3, s4⟩ := shl_ok (wd (pM z)) (wd_ws _) (by omega) (pM z) n (nv_wd _) (by omega) hb c hc (by omega) k (by omega)
  rw [if_neg he]
  show (nat_Shl.f k (wd (pM z)) ((pS z : Int) - 1074)).bind _ = _
  rw [en, s1, Option.bind_some]
  show (rat_New.f k neg s (wd 1)).bind _ = _
  rw [rat_New.rz neg s (wd 1) s2 (wd_ws _) (by omega) (by omega) (pM z * 2 ^ n) 1 s3 (nv_wd _) (by decide) k (by omega), Option.bind_some]
  have e : rzv (sg neg (pM z * 2 ^ n)) 1 = rzv (sg neg (pV z)) (2 ^ uN) := by
   refine rzv_same (by decide) hU ?_
   rw [pV_parts, hn, sgz_nat, sgz_nat, Nat.pow_add, Int.natCast_mul]
   grind
  rw [e]
end Go.Proofs.YtoefabmlkbhmpaaDoor.PA
namespace Go.Proofs.YtoefabmlkbhmpaaDoor.Pure
open Go Go.RowKit Go.Proofs.YtoefabmlkbhmpaaDoor.PA Go.Proofs.YtoefabmlkbhmpaaDoorW.PrintWords Go.Proofs.YtoefabmlkbhmpaaDoorW.PrintLast
set_option linter.unusedVariables false
theorem back_l0 (s : Bool) (z : Nat) (hz : z ≤ gP) (P : Int) (Hs : Aside0 (decide (P < 0) = s)) (Ha : Aside0 (P.natAbs = pV z)) (b : Nat) (hb1 : 3840 ≤ b) (hb2 : b ≤ 60000) (Hsg : Aside0 (P = sg s (pV z))) (U : Nat) (eU : Aside0 (U = 2 ^ uN)) : ∀ (n k i : Nat), n = 5 - i → U * 2 + 200000000 + n + 2 < k → i ≤ 5 →
  plumblaw07_NearBack.l0 k (sgn s + (z : Int)) (i : Int) (rzv P (2 ^ uN)).1 (rzv P (2 ^ uN)).2.1 (rzv P (2 ^ uN)).2.2 = some true := by
 have hU1 : 0 < U := by rw [eU.out]; exact Nat.pow_pos (by decide)
 have hg : gP = 9218868437227405311 := rfl
 have hzl : z < 9218868437227405312 := by omega
 have hz2 : z ≤ 9218868437227405312 := by omega
 intro n
 induction n with
 | zero =>
  intro k i hn hk hi
  obtain ⟨k, rfl⟩ : ∃ j, k = j + 1 := ⟨k - 1, by omega⟩
  have k1 : U + 200000000 < k := by omega
  have k2 : U + 30000000 < k := by omega
  have k3 : U + U + 30000000 < k := by omega
  have n4 : ¬ (i : Int) ≤ 4 := by omega
  have hU0 : U ≠ 0 := by omega
  rw [eU.out] at k1 k2 k3 hU0
  have hs := Hs.out
  have ha := Ha.out
  have hsg := Hsg.out
  have hV : P.natAbs < 2 ^ b := by rw [ha]; exact pV_ltb hb1 hz2
  have hU := uN_ltb hb1
  rw [plumblaw07_NearBack.l0, if_neg n4, near_Exact.f, near_Rat.rz P hU0 hV hU hb2 0 (by decide) (by decide) k k1, hs, ha, quo_own (by decide) (by decide) s hz, Option.bind_some, if_pos rfl]
  show ((near_Value.f k (sgn s + (z : Int))).bind _).bind _ = _
  rw [near_Value.ok s hzl k k2, Option.bind_some, ← hsg, rat_Cmp.rz (b := b) hU0 hU0 hV hU hV hU hb2 k k3, Option.bind_some, if_pos rfl, cmpI_eq rfl, if_pos rfl, Option.bind_some, if_pos rfl]
  exact congrArg some (beq_self_eq_true _)
 | succ n ih =>
  intro k i hn hk hi
  obtain ⟨k, rfl⟩ : ∃ j, k = j + 1 := ⟨k - 1, by omega⟩
  have i0 : 0 ≤ (i : Int) := by omega
  have i4 : (i : Int) ≤ 4 := by omega
  have k1 : U + 200000000 < k := by omega
  have hU0 : U ≠ 0 := by omega
  have next := ih k (i + 1) (by omega) (by omega) (by omega)
  have hw : wrap64 ((i : Int) + 1) = ((i + 1 : Nat) : Int) := w64_s i (by omega)
  rw [eU.out] at k1 hU0
  have hs := Hs.out
  have ha := Ha.out
  have hV : P.natAbs < 2 ^ b := by rw [ha]; exact pV_ltb hb1 hz2
  have hU := uN_ltb hb1
  rw [plumblaw07_NearBack.l0, if_pos i4, near_Rat.rz P hU0 hV hU hb2 (i : Int) i0 i4 k k1, hs, ha, quo_own i0 i4 s hz, Option.bind_some, plumblaw07_num.f, Option.bind_some, if_pos rfl, if_pos rfl, hw]
  exact next
theorem nearBack_finite (neg : Bool) (z : Nat) (hz : z < 9218868437227405312) : ∃ k, plumblaw07_NearBack.f k (sgn neg + (z : Int)) = some true := by
 have hU1 : 0 < 2 ^ uN := Nat.pow_pos (by decide)
 obtain ⟨b, hb⟩ : ∃ b : Nat, b = 3840 := ⟨_, rfl⟩
 obtain ⟨U, eU⟩ : ∃ U : Nat, U = 2 ^ uN := ⟨_, rfl⟩
 rw [← eU] at hU1
 have hUU : 0 ≤ U * U := Nat.zero_le _
 obtain ⟨k, hk⟩ : ∃ k : Nat, k = (U * U) * 2 + U * 4 + 200000020 := ⟨_, rfl⟩
 have hg : gP = 9218868437227405311 := rfl
 have k1 : U + 30000000 < k + 4 := by omega
 have k1a : U + 30000000 < k + 3 := by omega
 have k2 : U + U + 30000000 < k + 4 := by omega
 have k3 : U * U + U + U + 30000000 < k + 3 := by omega
 have k4 : U * 2 + 200000000 + 5 + 2 < k + 1 := by omega
 have k5 : 1000000 < k + 3 := by omega
 have k6 : 400 ≤ k + 4 := by omega
 have k7 : 1 ≤ k + 4 := by omega
 have hzg : z ≤ gP := by omega
 have hz2 : z ≤ 9218868437227405312 := by omega
 have hz3 : z < 9223372036854775808 := by omega
 have hU0 : U ≠ 0 := by omega
 have hbb : 3840 ≤ b := by omega
 have hb6 : b ≤ 60000 := by omega
 have hs01 : sgn neg = 0 ∨ sgn neg = 9223372036854775808 := by cases neg <;> simp [sgn]
 clear hUU hk
 rw [eU] at k1 k1a k2 k3 k4 hU0
 have hcl : ¬ (if z = 0 then (0 : Int) else if z < 4503599627370496 then 1 else 2) > 2 := by
  by_cases h0 : z = 0
  ·rw [if_pos h0]; decide
  ·rw [if_neg h0]
   by_cases h1 : z < 4503599627370496
   ·rw [if_pos h1]; decide
   ·rw [if_neg h1]; decide
 have hwant : ∃ s : Bool, sgn s + (z : Int) = (if sgn neg + (z : Int) = 9223372036854775808 then 0 else sgn neg + (z : Int)) ∧ decide (sg neg (pV z) < 0) = s ∧ sg neg (pV z) = sg s (pV z) := by
  by_cases h0 : z = 0
  ·subst h0
   refine ⟨false, ?_, ?_, ?_⟩
   ·show (0 : Int) + 0 = _
    rcases hs01 with h | h
    ·rw [h]; rfl
    ·rw [h]; rfl
   ·rw [pV_zero, sg_zero]; rfl
   ·rw [pV_zero, sg_zero, sg_zero]
  ·have hp : 0 < pV z := by
    have h1 := pV_lt (show 0 < z by omega)
    omega
   refine ⟨neg, ?_, ?_, rfl⟩
   ·have hn : ¬ (sgn neg + (z : Int) = 9223372036854775808) := by
     intro e
     rcases hs01 with h | h <;> omega
    rw [if_neg hn]
   ·rw [sg_neg]
    have : decide (pV z ≠ 0) = true := decide_eq_true (by omega)
    rw [this, Bool.and_true]
 obtain ⟨s, w1, w2, w3⟩ := hwant
 have hl := back_l0 s z hzg (sg neg (pV z)) ⟨w2⟩ ⟨sg_abs _ _⟩ b hbb hb6 ⟨w3⟩ U ⟨eU⟩ 5 (k + 1) 0 (by decide) (by rw [eU]; exact k4) (by decide)
 have hV : (sg neg (pV z)).natAbs < 2 ^ b := by rw [sg_abs]; exact pV_ltb hbb hz2
 have hV' : (sg (!neg) (pV z)).natAbs < 2 ^ b := by rw [sg_abs]; exact pV_ltb hbb hz2
 have hU := uN_ltb hbb
 refine ⟨k + 4, ?_⟩
 rw [plumblaw07_NearBack.f, near_Value.ok neg hz (k + 4) k1, Option.bind_some, value_ok neg hz (k + 4) k1, Option.bind_some, f64_Class.f_eq neg hz (k + 4) k7, Option.bind_some, if_neg hcl, plumblaw07_num.f, Option.bind_some, if_pos rfl, if_pos rfl]
 rw [cmp_ok (b := b) hU0 hU0 hV hU hV hU hb6 (k + 4) k2, Option.bind_some, cmpI_eq rfl, if_pos rfl, fixed_at (k + 4) k6, Option.bind_some]
 have hsum : sg neg (pV z) * ((2 ^ uN : Nat) : Int) + sg (!neg) (pV z) * ((2 ^ uN : Nat) : Int) = 0 := by
  rw [← Int.add_mul]
  have : sg neg (pV z) + sg (!neg) (pV z) = 0 := by cases neg <;> simp [sg] <;> omega
  rw [this, Int.zero_mul]
 have hsign : rat_Sign.f (k + 3) (rzv 0 (2 ^ uN * 2 ^ uN)).1 (rzv 0 (2 ^ uN * 2 ^ uN)).2.1 (rzv 0 (2 ^ uN * 2 ^ uN)).2.2 = some 0 := by
  have e0 : (rzv 0 (2 ^ uN * 2 ^ uN)).2.1 = wd 0 := by
   show wd ((0 : Int).natAbs / _) = wd 0
   rw [Int.natAbs_zero, Nat.zero_div]
  rw [e0, rat_Sign.ok _ 0 _ (by rw [wd_zero]; exact Nat.zero_le _) (k + 3) k5, sg_zero]
  rfl
 rw [show k + 4 = (k + 3) + 1 from rfl, plumblaw07_NearBack.j0]
 show (if (!true) = true then none else _) = _
 rw [if_neg (by decide), xor_sgn neg hz3, near_Value.ok (!neg) hz (k + 3) k1a, Option.bind_some]
 rw [rat_Add.rz (b := b) hU0 hU0 hV hU hV' hU hb6 (k + 3) k3, Option.bind_some, hsum, plumblaw07_num.f, Option.bind_some, if_pos rfl, Option.bind_some, if_pos rfl]
 rw [hsign, Option.bind_some, show k + 3 = (k + 2) + 1 from rfl, plumblaw07_NearBack.j1]
 show (if ((0 : Int) != 0) = true then none else _) = _
 rw [if_neg (by decide)]
 by_cases hq : sgn neg + (z : Int) = 9223372036854775808
 ·rw [if_pos hq] at w1
  rw [if_pos hq, ← w1, show k + 2 = (k + 1) + 1 from rfl, plumblaw07_NearBack.j2]
  exact hl
 ·rw [if_neg hq] at w1
  rw [if_neg hq, ← w1, show k + 2 = (k + 1) + 1 from rfl, plumblaw07_NearBack.j2]
  exact hl
theorem nearBack_other (x : Nat) (hx : x < 18446744073709551616) (hb : 9218868437227405312 ≤ x % 9223372036854775808) (k : Nat) : plumblaw07_NearBack.f (k + 1) (x : Int) = some true := by
 have e1 : Go.bits .and .u64 (x : Int) 4503599627370495 = ((x % 4503599627370496 : Nat) : Int) := by
  rw [show Go.bits .and .u64 (x : Int) 4503599627370495 = (x : Int) % 2 ^ 52 from and_mask (by omega) (by omega) 52 (by omega) _ rfl, show (2 : Int) ^ 52 = 4503599627370496 from by decide]; omega
 have e2 : Go.bits .and .u64 ((x : Int) / 4503599627370496) 2047 = 2047 := by
  rw [show Go.bits .and .u64 ((x : Int) / 4503599627370496) 2047 = ((x : Int) / 4503599627370496) % 2 ^ 11 from and_mask (by omega) (by omega) 11 (by omega) _ rfl, show (2 : Int) ^ 11 = 2048 from by decide]; omega
 have hf : f64_fields.f (x : Int) = some (2047, ((x % 4503599627370496 : Nat) : Int)) := by
  rw [f64_fields.f, e1, e2, w64_of (by decide) (by decide)]
 have hc : ∃ c : Int, f64_Class.f (k + 1) (x : Int) = some c ∧ 2 < c := by
  rw [f64_Class.f, hf, Option.bind_some]
  show ∃ c : Int, (if (2047 : Int) = 0 then _ else f64_Class.j0 (k + 1) 2047 ((x % 4503599627370496 : Nat) : Int) false) = some c ∧ 2 < c
  rw [if_neg (by decide), f64_Class.j0, if_neg (by decide), if_neg (by decide), if_neg (by decide)]
  by_cases h : ((x % 4503599627370496 : Nat) : Int) = 0
  ·rw [if_pos h]; exact ⟨3, rfl, by decide⟩
  ·rw [if_neg h]; exact ⟨4, rfl, by decide⟩
 obtain ⟨c, hc1, hc2⟩ := hc
 have hsp : f64_Split.f (k + 1) (x : Int) = some (false, 0, 0, 60) := by
  rw [f64_Split.f, hf, Option.bind_some, hc1, Option.bind_some, if_neg (by omega), if_neg (by omega), if_neg (by omega)]
 have hv : near_Value.f (k + 1) (x : Int) = some (false, [], [], 60) := by
  rw [near_Value.f, hsp, Option.bind_some]
  rfl
 have hv2 : plumblaw07_value.f (k + 1) (x : Int) = some (false, [], [], false) := by
  rw [plumblaw07_value.f, hsp, Option.bind_some, plumblaw07_num.f, Option.bind_some]
  rfl
 have hm : near_Mid.f (k + 1) (x : Int) = some (false, [], [], 60) := by
  rw [near_Mid.f, hv, Option.bind_some]
  rfl
 rw [plumblaw07_NearBack.f, hv, Option.bind_some, hv2, Option.bind_some, hc1, Option.bind_some, if_pos (show c > 2 from hc2), hm, Option.bind_some, plumblaw07_num.f, Option.bind_some, if_pos rfl, Option.bind_some, if_pos rfl]
 rfl
theorem nearBack_pure (a0 : Int) (h0 : 0 ≤ a0) (h1 : a0 < 18446744073709551616) : ∃ k, plumblaw07_NearBack.f k a0 = some true := by
 obtain ⟨x, rfl⟩ := Int.eq_ofNat_of_zero_le h0
 have hx : x < 18446744073709551616 := by omega
 by_cases hb : 9218868437227405312 ≤ x % 9223372036854775808
 ·exact ⟨1, nearBack_other x hx hb 0⟩
 ·by_cases hn : x < 9223372036854775808
  ·obtain ⟨k, hk⟩ := nearBack_finite false x (by omega)
   have e : sgn false + (x : Int) = (x : Int) := by show (0 : Int) + _ = _; omega
   rw [e] at hk
   exact ⟨k, hk⟩
  ·obtain ⟨k, hk⟩ := nearBack_finite true (x - 9223372036854775808) (by omega)
   have e : sgn true + ((x - 9223372036854775808 : Nat) : Int) = (x : Int) := by show (9223372036854775808 : Int) + _ = _; omega
   rw [e] at hk
   exact ⟨k, hk⟩
end Go.Proofs.YtoefabmlkbhmpaaDoor.Pure
namespace Go.Proofs.YtoefabmlkbhmpaaDoorW.PrintWords
open Go
theorem trod_pairs {H : Type} {enc : TypeId × Value → H} {P : Program} {w : World} {base : Nat} {spare : Nat → Bool} {held : Bool} {fuel : Nat} {ty e1 e2 : TypeId} {n : Nat} {cs : List Value} {L : List (List Bool)} {p : List MemPlace}
  (hu : P.underlying ty = some (.array n e1)) (he : P.underlying e1 = some (.array 2 e2)) (hb : P.underlying e2 = some .bool) (hc1 : P.cellsOf e1 = 2) (hc2 : P.cellsOf e2 = 1)
  (h : DataW.trod enc P w base spare held fuel ty cs = some (.agg (L.map fun r => .agg (r.map fun b => .lit (.bool b))), p)) : ∀ i, i < n → ∀ j, j < 2 → cs[2 * i + j]? = some (.bool ((L.getD i []).getD j false)) := by
 obtain ⟨xs, m, rfl, hx, hlen, hn, hel⟩ := DataW.trod_array hu h
 intro i hi j hj
 have h1 := hel i hi
 rw [hc1] at h1
 have hxi : i < xs.length := by omega
 rw [List.getElem?_eq_getElem hxi] at h1
 obtain ⟨ys, m2, rfl, hy, hlen2, hn2, hel2⟩ := DataW.trod_array he h1
 have h2 := hel2 j hj
 rw [hc2, Nat.mul_one] at h2
 have hyj : j < ys.length := by omega
 rw [List.getElem?_eq_getElem hyj] at h2
 obtain ⟨b, e1_, e2_⟩ := DataW.trod_bool hb h2
 simp only [Prod.mk.injEq, DataW.agg.injEq] at hx
 have h3 : (L.map fun r => (DataW.agg (r.map fun b => .lit (.bool b)) : DataW H))[i]? = (xs.map (·.1))[i]? := by rw [hx.1]
 rw [List.getElem?_map, List.getElem?_map, List.getElem?_eq_getElem hxi] at h3
 simp only [Option.map_some] at h3
 cases hL : L[i]? with
 | none => rw [hL] at h3; simp at h3
 | some r =>
  rw [hL] at h3
  simp only [Option.map_some, Option.some.injEq] at h3
  rw [hy] at h3
  simp only [DataW.agg.injEq] at h3
  have h4 : (r.map fun b => (DataW.lit (.bool b) : DataW H))[j]? = (ys.map (·.1))[j]? := by rw [h3]
  rw [List.getElem?_map, List.getElem?_map, List.getElem?_eq_getElem hyj, Option.map_some, e2_] at h4
  have h5 : r[j]? = some b := by
   cases hr : r[j]? with
   | none => rw [hr] at h4; simp at h4
   | some y => rw [hr] at h4; simp at h4; rw [h4]
  have h6 : ((((cs.drop (i * 2)).take 2).drop j).take 1)[0]? = some (.bool b) := by rw [e1_]; rfl
  rw [List.getElem?_take, if_pos (by decide), List.getElem?_drop, Nat.add_zero, List.getElem?_take, if_pos hj, List.getElem?_drop] at h6
  rw [Nat.mul_comm, h6, List.getD_eq_getElem?_getD, List.getD_eq_getElem?_getD, hL, Option.getD_some, h5]
  rfl
end Go.Proofs.YtoefabmlkbhmpaaDoorW.PrintWords
