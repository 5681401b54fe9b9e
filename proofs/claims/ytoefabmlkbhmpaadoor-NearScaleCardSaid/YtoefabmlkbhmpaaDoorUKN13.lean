/- A part of the proof (13). -/
import Derived.Test.YtoefabmlkbhmpaaDoorUKN12
import Derived.Test.YtoefabmlkbhmpaaDoorUKN11
import Derived.OpenShut
import Derived.LaidLaws
import Derived.LaidHandle
import Derived.MakeChecks
import Derived.WideShapes
import Derived.ChangeArms
namespace Go.Proofs.YtoefabmlkbhmpaaDoor.PA
open Go Go.RowKit Go.Proofs.YtoefabmlkbhmpaaDoorW.PrintWords Go.Proofs.YtoefabmlkbhmpaaDoorW.PrintLast Go.Proofs.YtoefabmlkbhmpaaDoorW.PrintMore
set_option linter.unusedVariables false
set_option linter.unusedSimpArgs false
theorem wd_pos_len (B : Nat) : ((wd B).length : Int) > 0 ↔ B ≠ 0 := by
  have := @wd_eq_nil B
  constructor
  · intro h hB
    rw [this.2 hB] at h
    exact absurd h (by decide)
  · intro h
    rcases Nat.eq_zero_or_pos (wd B).length with h0 | h0
    · exact absurd (this.1 (List.eq_nil_of_length_eq_zero h0)) h
    · omega
theorem divmod_wd (A B : Nat) (hB : B ≠ 0) (la : (wd A).length ≤ 1000000) (lb : (wd B).length ≤ 1000000) (k : Nat) (hk : 10000000 < k) : quot_DivMod.f k (wd A) (wd B) = some (wd (A / B), wd (A % B), 0) := by
  have q : ¬ (B : Int) = 0 := by omega
  rw [quot_DivMod.f_eq _ _ (wd_ws _) (wd_ws _) (by omega) (by omega) k (by omega) (by omega), nv_wd, nv_wd, if_neg q, ← Int.natCast_ediv, ← Int.natCast_emod, Int.toNat_natCast, Int.toNat_natCast]
theorem wd_len_le {A B : Nat} (h : A ≤ B) : (wd A).length ≤ (wd B).length := by
  have h1 := nv_lt (wd_ws B)
  rw [nv_wd, p2cast] at h1
  exact wd_length_le (Nat.lt_of_le_of_lt h (Int.ofNat_lt.1 h1))
theorem quot_Gcd.l0_eq : ∀ (B A k : Nat), (wd A).length ≤ 1000000 → (wd B).length ≤ 1000000 → B + 10000001 < k → quot_Gcd.l0 k (wd A) (wd B) = some (wd (Nat.gcd A B)) := by
  intro B
  induction B using Nat.strongRecOn with
  | ind B ih =>
    intro A k la lb hk
    obtain ⟨k, rfl⟩ : ∃ j, k = j + 1 := ⟨k - 1, by omega⟩
    rw [quot_Gcd.l0]
    by_cases hB : B = 0
    · have q : ¬ ((wd B).length : Int) > 0 := fun h => (wd_pos_len B).1 h hB
      rw [if_neg q, hB, Nat.gcd_zero_right]
    · have hlt := Nat.mod_lt A (Nat.pos_of_ne_zero hB)
      rw [if_pos ((wd_pos_len B).2 hB), divmod_wd A B hB la lb k (by omega), Option.bind_some]
      show quot_Gcd.l0 k (wd B) (wd (A % B)) = _
      rw [ih (A % B) hlt B k lb (Nat.le_trans (wd_len_le (Nat.le_of_lt hlt)) lb) (by omega)]
      congr 2
      rw [Nat.gcd_comm A B, Nat.gcd_rec B A, Nat.gcd_comm]
theorem strip_wd_of {x : List Int} (hx : Ws x) {A : Nat} (vx : nv x = (A : Int)) : strip x = wd A := by
  have h := wd_nv hx
  rw [vx, Int.toNat_natCast] at h
  exact h.symm
theorem wd_len_of_list {x : List Int} (hx : Ws x) {A : Nat} (vx : nv x = (A : Int)) : (wd A).length ≤ x.length := by
  rw [← strip_wd_of hx vx]; exact strip_length_le x
theorem quot_Gcd.f_eq (x y : List Int) (hx : Ws x) (hy : Ws y) (lx : x.length ≤ 1000000) (ly : y.length ≤ 1000000) (A B : Nat) (vx : nv x = (A : Int)) (vy : nv y = (B : Int)) (k : Nat) (hk : B + 10000001 < k) : quot_Gcd.f k x y = some (wd (Nat.gcd A B)) := by
  have l1 := wd_len_of_list hx vx
  have l2 := wd_len_of_list hy vy
  rw [quot_Gcd.f, nat_Norm.f, if_pos (by omega), Option.bind_some, nat_Norm.f, if_pos (by omega), Option.bind_some, strip_wd_of hx vx, strip_wd_of hy vy]
  exact quot_Gcd.l0_eq B A k (by omega) (by omega) hk
theorem gcd_le_max (A B : Nat) : (wd (Nat.gcd A B)).length ≤ max (wd A).length (wd B).length := by
  by_cases hB : B = 0
  · rw [hB, Nat.gcd_zero_right]; exact Nat.le_max_left _ _
  · exact Nat.le_trans (wd_len_le (Nat.gcd_le_right A (Nat.pos_of_ne_zero hB))) (Nat.le_max_right _ _)
/-- two numbers in lowest terms -/
theorem quot_Lowest.f_eq (x y : List Int) (hx : Ws x) (hy : Ws y) (lx : x.length ≤ 1000000) (ly : y.length ≤ 1000000) (A B : Nat) (vx : nv x = (A : Int)) (vy : nv y = (B : Int)) (hB : B ≠ 0) (k : Nat) (hk : B + 10000001 < k) :
    quot_Lowest.f k x y = some (wd (A / Nat.gcd A B), wd (B / Nat.gcd A B)) := by
  have l1 := wd_len_of_list hx vx
  have l2 := wd_len_of_list hy vy
  have hg : Nat.gcd A B ≠ 0 := Nat.ne_of_gt (Nat.gcd_pos_of_pos_right A (Nat.pos_of_ne_zero hB))
  have hgl := gcd_le_max A B
  have hlen : (wd (Nat.gcd A B)).length ≤ 1000000 := by omega
  have q : ¬ ((wd (Nat.gcd A B)).length : Int) = 0 := by have := (wd_pos_len (Nat.gcd A B)).2 hg; omega
  have dm : ∀ (z : List Int) (Z : Nat), Ws z → z.length ≤ 1000000 → nv z = (Z : Int) → quot_DivMod.f k z (wd (Nat.gcd A B)) = some (wd (Z / Nat.gcd A B), wd (Z % Nat.gcd A B), 0) := by
    intro z Z hz lz vz
    have q : ¬ ((Nat.gcd A B : Nat) : Int) = 0 := by omega
    rw [quot_DivMod.f_eq _ _ hz (wd_ws _) (by omega) (by omega) k (by omega) (by omega), nv_wd, vz, if_neg q, ← Int.natCast_ediv, ← Int.natCast_emod, Int.toNat_natCast, Int.toNat_natCast]
  rw [quot_Lowest.f, quot_Gcd.f_eq x y hx hy lx ly A B vx vy k hk, Option.bind_some, if_neg q, dm x A hx lx vx, Option.bind_some, dm y B hy ly vy, Option.bind_some]
theorem rat_lowest.f_eq (neg : Bool) (x y : List Int) (hx : Ws x) (hy : Ws y) (lx : x.length ≤ 1000000) (ly : y.length ≤ 1000000) (A B : Nat) (vx : nv x = (A : Int)) (vy : nv y = (B : Int)) (hB : B ≠ 0) (k : Nat) (hk : B + 10000001 < k) :
    rat_lowest.f k neg x y = some (neg && decide (A ≠ 0), wd (A / Nat.gcd A B), wd (B / Nat.gcd A B)) := by
  have hd : decide (((wd (A / Nat.gcd A B)).length : Int) > 0) = decide (A ≠ 0) := by
    rw [decide_eq_decide, wd_pos_len]
    have hgp : 0 < Nat.gcd A B := Nat.gcd_pos_of_pos_right A (Nat.pos_of_ne_zero hB)
    constructor
    · intro h hA
      apply h
      rw [hA, Nat.zero_div]
    · intro h hA
      have h1 : Nat.gcd A B ≤ A := Nat.gcd_le_left B (Nat.pos_of_ne_zero h)
      have h2 := Nat.div_pos h1 hgp
      omega
  rw [rat_lowest.f, quot_Lowest.f_eq x y hx hy lx ly A B vx vy hB k hk, Option.bind_some]
  cases neg
  · rw [if_neg (by decide)]; rfl
  · rw [if_pos rfl, hd]; rfl
theorem rat_New.f_eq (neg : Bool) (x y : List Int) (hx : Ws x) (hy : Ws y) (lx : x.length ≤ 4096) (ly : y.length ≤ 4096) (A B : Nat) (vx : nv x = (A : Int)) (vy : nv y = (B : Int)) (hB : B ≠ 0) (k : Nat) (hk : B + 10000001 < k) :
    rat_New.f k neg x y = some (neg && decide (A ≠ 0), wd (A / Nat.gcd A B), wd (B / Nat.gcd A B), 0) := by
  have l1 := wd_len_of_list hx vx
  have l2 := wd_len_of_list hy vy
  have q0 : ¬ ((wd B).length : Int) = 0 := by have := (wd_pos_len B).2 hB; omega
  have q1 : ¬ ((wd A).length : Int) > 4096 := by omega
  have q2 : ¬ ((wd B).length : Int) > 4096 := by omega
  rw [rat_New.f, nat_Norm.f, if_pos (by omega), Option.bind_some, nat_Norm.f, if_pos (by omega), Option.bind_some, strip_wd_of hx vx, strip_wd_of hy vy, if_neg q0, if_neg q1, if_neg q2, rat_lowest.f_eq neg _ _ (wd_ws _) (wd_ws _) (by omega) (by omega) A B (nv_wd _) (nv_wd _) hB k hk, Option.bind_some]
end Go.Proofs.YtoefabmlkbhmpaaDoor.PA

namespace Go.Proofs.YtoefabmlkbhmpaaDoor.PA
open Go Go.RowKit Go.Proofs.YtoefabmlkbhmpaaDoorW.PrintWords Go.Proofs.YtoefabmlkbhmpaaDoorW.PrintLast Go.Proofs.YtoefabmlkbhmpaaDoorW.PrintMore
set_option linter.unusedVariables false
set_option linter.unusedSimpArgs false
def pV (d : Nat) : Nat := if d < 4503599627370496 then d else (4503599627370496 + d % 4503599627370496) * 2 ^ (d / 4503599627370496 - 1)
def pU (d : Nat) : Nat := 2 ^ (d / 4503599627370496 - 1)
theorem pV_succ (d : Nat) : pV (d + 1) = pV d + pU d := by
  unfold pV pU
  by_cases h1 : d + 1 < 4503599627370496
  · rw [if_pos h1, if_pos (by omega), Nat.div_eq_of_lt (by omega)]
  · rw [if_neg h1]
    by_cases h2 : d < 4503599627370496
    · obtain rfl : d = 4503599627370496 - 1 := by omega
      rw [if_pos h2]
    · rw [if_neg h2]
      by_cases h3 : d % 4503599627370496 + 1 < 4503599627370496
      · have e1 : (d + 1) % 4503599627370496 = d % 4503599627370496 + 1 := by omega
        have e2 : (d + 1) / 4503599627370496 = d / 4503599627370496 := by omega
        rw [e1, e2, ← Nat.add_assoc, Nat.add_mul _ 1, Nat.one_mul]
      · have e1 : (d + 1) % 4503599627370496 = 0 := by omega
        have e2 : (d + 1) / 4503599627370496 = d / 4503599627370496 + 1 := by omega
        have e3 : d % 4503599627370496 = 4503599627370496 - 1 := by omega
        have e4 : 1 ≤ d / 4503599627370496 := by omega
        obtain ⟨j, hj⟩ : ∃ j, d / 4503599627370496 = j + 1 := ⟨d / 4503599627370496 - 1, by omega⟩
        rw [e1, e2, e3, hj, Nat.add_sub_cancel, Nat.add_sub_cancel, Nat.pow_succ, Nat.add_zero, ← Nat.succ_mul, Nat.mul_comm (2 ^ j) 2, ← Nat.mul_assoc]
theorem pU_pos (d : Nat) : 0 < pU d := Nat.pow_pos (by decide)
theorem pV_lt_succ (d : Nat) : pV d < pV (d + 1) := by have := pU_pos d; rw [pV_succ]; omega
theorem pV_le {a b : Nat} (h : a ≤ b) : pV a ≤ pV b := by
  induction b with
  | zero => obtain rfl : a = 0 := by omega
            exact Nat.le_refl _
  | succ b ih =>
    by_cases h1 : a = b + 1
    · subst h1; exact Nat.le_refl _
    · exact Nat.le_trans (ih (by omega)) (Nat.le_of_lt (pV_lt_succ b))
theorem pV_zero : pV 0 = 0 := rfl
/-- a mantissa and an exponent as a place in the row -/
theorem pV_at {s q : Nat} (hq : q < 9007199254740992) (h : s = 0 ∨ 4503599627370496 ≤ q) : pV (s * 4503599627370496 + q) = q * 2 ^ s ∧ pU (s * 4503599627370496 + q) = 2 ^ s := by
  unfold pV pU
  by_cases h0 : q < 4503599627370496
  · obtain rfl : s = 0 := by omega
    rw [Nat.zero_mul, Nat.zero_add, if_pos h0, Nat.div_eq_of_lt h0]
    simp
  · have e1 : (s * 4503599627370496 + q) / 4503599627370496 = s + 1 := by
      rw [Nat.mul_comm, Nat.mul_add_div (by omega)]
      have : q / 4503599627370496 = 1 := by omega
      omega
    have e2 : (s * 4503599627370496 + q) % 4503599627370496 = q - 4503599627370496 := by
      rw [Nat.mul_comm, Nat.mul_add_mod]
      omega
    have e3 : ¬ s * 4503599627370496 + q < 4503599627370496 := by omega
    rw [if_neg e3, e1, e2, Nat.add_sub_cancel, show 4503599627370496 + (q - 4503599627370496) = q from by omega]
    exact ⟨rfl, rfl⟩
/-- d is the place at or below P / Q -/
structure Rd (P Q d : Nat) : Prop where
  lo : pV d * Q ≤ P
  hi : P < pV (d + 1) * Q
theorem Rd.uniq {P Q d e : Nat} (h : Rd P Q d) (k : Rd P Q e) : d = e := by
  apply Classical.byContradiction
  intro hne
  rcases Nat.lt_or_gt_of_ne hne with hlt | hlt
  · have := Nat.mul_le_mul_right Q (pV_le (show d + 1 ≤ e from hlt))
    have h1 := h.hi; have h2 := k.lo; omega
  · have := Nat.mul_le_mul_right Q (pV_le (show e + 1 ≤ d from hlt))
    have h1 := k.hi; have h2 := h.lo; omega
theorem Rd.le_iff {P Q d : Nat} (h : Rd P Q d) (e : Nat) : pV e * Q ≤ P ↔ e ≤ d := by
  constructor
  · intro h1
    apply Classical.byContradiction
    intro hn
    have := Nat.mul_le_mul_right Q (pV_le (show d + 1 ≤ e by omega))
    have := h.hi; omega
  · intro h1
    exact Nat.le_trans (Nat.mul_le_mul_right Q (pV_le h1)) h.lo
/-- what lies behind the place: 0 nothing, 1 less than half, 2 half, 3 more -/
def tl (P Q : Nat) (more : Bool) (d : Nat) : Nat :=
  if P = pV d * Q then (if more then 1 else 0) else if 2 * P < (2 * pV d + pU d) * Q then 1 else if 2 * P = (2 * pV d + pU d) * Q then (if more then 3 else 2) else 3
def tailOf (r k : Nat) (st : Bool) : Nat := if r = 0 then (if st then 1 else 0) else if 2 * r < 2 ^ k then 1 else if 2 * r = 2 ^ k then (if st then 3 else 2) else 3
/-- the place of m units (and a part of one) by division -/
theorem Rd.of_div {P Q m k s a b : Nat} {more st : Bool} (hQ : 0 < Q) (hk : 1 ≤ k) (hs : s + b = k + a) (h1 : m * 2 ^ a * Q ≤ P * 2 ^ b) (h2 : P * 2 ^ b < (m + 1) * 2 ^ a * Q)
    (hst : st = true ↔ (P * 2 ^ b ≠ m * 2 ^ a * Q ∨ more = true)) (hq : m / 2 ^ k < 9007199254740992) (hsq : s = 0 ∨ 4503599627370496 ≤ m / 2 ^ k) :
    Rd P Q (s * 4503599627370496 + m / 2 ^ k) ∧ tl P Q more (s * 4503599627370496 + m / 2 ^ k) = tailOf (m % 2 ^ k) k st := by
  obtain ⟨eV, eU⟩ := pV_at hq hsq
  have hb : 0 < 2 ^ b := Nat.pow_pos (by decide)
  have ha : 0 < 2 ^ a := Nat.pow_pos (by decide)
  have hm : m = 2 ^ k * (m / 2 ^ k) + m % 2 ^ k := (Nat.div_add_mod m (2 ^ k)).symm
  have hr : m % 2 ^ k < 2 ^ k := Nat.mod_lt _ (Nat.pow_pos (by decide))
  have hU : 0 < 2 ^ a * Q := Nat.mul_pos ha hQ
  have ep : 2 ^ s * 2 ^ b = 2 ^ k * 2 ^ a := by rw [← Nat.pow_add, ← Nat.pow_add, hs]
  have hodd : 2 ∣ 2 ^ k := ⟨2 ^ (k - 1), by rw [Nat.mul_comm, ← Nat.pow_succ]; congr 1; omega⟩
  generalize m / 2 ^ k = q at *
  generalize m % 2 ^ k = r at *
  generalize hU' : 2 ^ a * Q = U at *
  have eA : m * 2 ^ a * Q = m * U := by rw [Nat.mul_assoc, hU']
  have eB : (m + 1) * 2 ^ a * Q = m * U + U := by rw [Nat.mul_assoc, hU', Nat.add_mul, Nat.one_mul]
  rw [eA] at h1 hst
  rw [eB] at h2
  -- boundaries in units
  have bd : ∀ z, z * 2 ^ s * Q * 2 ^ b = z * 2 ^ k * U := by
    intro z
    rw [← hU', Nat.mul_assoc, Nat.mul_comm Q, ← Nat.mul_assoc, Nat.mul_assoc z, ep, ← Nat.mul_assoc, Nat.mul_assoc (z * 2 ^ k)]
  have lo : q * 2 ^ s * Q ≤ P := by
    apply Nat.le_of_mul_le_mul_right _ hb
    rw [bd]
    refine Nat.le_trans (Nat.mul_le_mul_right U ?_) h1
    rw [hm, Nat.mul_comm q]; omega
  have hi : P < (q + 1) * 2 ^ s * Q := by
    apply Nat.lt_of_mul_lt_mul_right (a := 2 ^ b)
    rw [bd]
    refine Nat.lt_of_lt_of_le h2 ?_
    have h3 : (m + 1) * U ≤ (q + 1) * 2 ^ k * U := Nat.mul_le_mul_right U (by rw [hm, Nat.add_mul, Nat.one_mul, Nat.mul_comm q]; omega)
    rw [Nat.add_mul, Nat.one_mul] at h3
    exact h3
  refine ⟨⟨by rw [eV]; exact lo, by rw [pV_succ, eV, eU, ← Nat.succ_mul]; exact hi⟩, ?_⟩
  -- the tail
  have e0 : (P = q * 2 ^ s * Q) ↔ P * 2 ^ b = (m - r) * U := by
    have e1 : (m - r) * U = q * 2 ^ s * Q * 2 ^ b := by rw [bd]; congr 1; rw [Nat.mul_comm]; omega
    rw [e1]
    exact ⟨fun h => by rw [h], fun h => Nat.eq_of_mul_eq_mul_right hb h⟩
  have eh : ∀ z, 2 * z * 2 ^ b = 2 * (z * 2 ^ b) := fun z => Nat.mul_assoc _ _ _
  have ehalf : (2 * (q * 2 ^ s) + 2 ^ s) * Q * 2 ^ b = (2 * (m - r) + 2 ^ k) * U := by
    have e1 : (2 * (q * 2 ^ s) + 2 ^ s) = (2 * q + 1) * 2 ^ s := by rw [Nat.add_mul, Nat.one_mul, Nat.mul_assoc]
    rw [e1, bd, Nat.add_mul (2 * q), Nat.one_mul]
    congr 1
    have : q * 2 ^ k = m - r := by rw [Nat.mul_comm]; omega
    rw [Nat.mul_assoc, this]
  have cmp2 : ∀ (f : Nat → Nat → Prop), True := fun _ => trivial
  have lt_half : (2 * P < (2 * (q * 2 ^ s) + 2 ^ s) * Q) ↔ 2 * (P * 2 ^ b) < (2 * (m - r) + 2 ^ k) * U := by
    rw [← ehalf, ← eh]
    exact ⟨fun h => Nat.mul_lt_mul_of_pos_right h hb, fun h => Nat.lt_of_mul_lt_mul_right h⟩
  have eq_half : (2 * P = (2 * (q * 2 ^ s) + 2 ^ s) * Q) ↔ 2 * (P * 2 ^ b) = (2 * (m - r) + 2 ^ k) * U := by
    rw [← ehalf, ← eh]
    exact ⟨fun h => by rw [h], fun h => Nat.eq_of_mul_eq_mul_right hb h⟩
  obtain ⟨x, hx⟩ : ∃ x, P * 2 ^ b = m * U + x := ⟨P * 2 ^ b - m * U, by omega⟩
  have hxU : x < U := by omega
  have hmr : m * U = (m - r) * U + r * U := by rw [← Nat.add_mul]; congr 1; omega
  obtain ⟨h, hh⟩ := hodd
  have hkU : (2 * (m - r) + 2 ^ k) * U = 2 * ((m - r) * U) + 2 * (h * U) := by rw [hh, Nat.add_mul, Nat.mul_assoc, Nat.mul_assoc]
  rw [hx, hmr] at e0 lt_half eq_half hst
  rw [hkU] at lt_half eq_half
  have hst' : st = true ↔ (x ≠ 0 ∨ more = true) := by
    rw [hst]
    constructor
    · rintro (h1 | h1)
      · exact .inl (by omega)
      · exact .inr h1
    · rintro (h1 | h1)
      · exact .inl (by omega)
      · exact .inr h1
  unfold tl tailOf
  rw [eV, eU]
  by_cases r0 : r = 0
  · subst r0
    rw [if_pos rfl]
    rw [Nat.zero_mul] at e0 lt_half eq_half
    by_cases x0 : x = 0
    · rw [if_pos (e0.2 (by omega))]
      have : st = more := Bool.eq_iff_iff.2 ⟨fun z => (hst'.1 z).resolve_left (fun y => y x0), fun z => hst'.2 (.inr z)⟩
      rw [this]
    · have hs1 : st = true := hst'.2 (.inl x0)
      have hh1 : 1 * U ≤ h * U := Nat.mul_le_mul_right U (by
        have : 0 < 2 ^ k := Nat.pow_pos (by decide)
        omega)
      rw [if_neg (fun z => x0 (by have := e0.1 z; omega)), if_pos (lt_half.2 (by omega)), hs1]
      rfl
  · rw [if_neg r0]
    have hrU : 1 * U ≤ r * U := Nat.mul_le_mul_right U (by omega)
    rw [if_neg (fun z => by have := e0.1 z; omega)]
    by_cases c1 : 2 * r < 2 ^ k
    · have hc : (r + 1) * U ≤ h * U := Nat.mul_le_mul_right U (by omega)
      rw [Nat.add_mul, Nat.one_mul] at hc
      rw [if_pos c1, if_pos (lt_half.2 (by omega))]
    · have hc : h * U ≤ r * U := Nat.mul_le_mul_right U (by omega)
      rw [if_neg c1, if_neg (fun z => by have := lt_half.1 z; omega)]
      by_cases c2 : 2 * r = 2 ^ k
      · have hc2 : h * U = r * U := by congr 1; omega
        rw [if_pos c2]
        by_cases x0 : x = 0
        · rw [if_pos (eq_half.2 (by omega))]
          have : st = more := Bool.eq_iff_iff.2 ⟨fun z => (hst'.1 z).resolve_left (fun y => y x0), fun z => hst'.2 (.inr z)⟩
          rw [this]
        · have hs1 : st = true := hst'.2 (.inl x0)
          rw [if_neg (fun z => by have := eq_half.1 z; omega), hs1]
          rfl
      · have hc2 : (h + 1) * U ≤ r * U := Nat.mul_le_mul_right U (by omega)
        rw [Nat.add_mul, Nat.one_mul] at hc2
        rw [if_neg c2, if_neg (fun z => by have := eq_half.1 z; omega)]
end Go.Proofs.YtoefabmlkbhmpaaDoor.PA

namespace Go.Proofs.YtoefabmlkbhmpaaDoor.PA
open Go Go.RowKit Go.Proofs.YtoefabmlkbhmpaaDoorW.PrintWords Go.Proofs.YtoefabmlkbhmpaaDoorW.PrintLast Go.Proofs.YtoefabmlkbhmpaaDoorW.PrintMore
set_option linter.unusedVariables false
set_option linter.unusedSimpArgs false
/-- every number above 0 is an odd one times a power of two -/
theorem odd_part : ∀ n : Nat, 0 < n → ∃ o z, n = o * 2 ^ z ∧ o % 2 = 1 := by
  intro n
  induction n using Nat.strongRecOn with
  | ind n ih =>
    intro hn
    by_cases h : n % 2 = 1
    · exact ⟨n, 0, by simp, h⟩
    · obtain ⟨o, z, e, ho⟩ := ih (n / 2) (by omega) (by omega)
      exact ⟨o, z + 1, by rw [Nat.pow_succ, ← Nat.mul_assoc, ← e]; omega, ho⟩
theorem and_neg_odd' (n w : Nat) (h : w < 2 ^ n) (ho : w % 2 = 1) : w &&& (2 ^ n - w) = 1 := by
  apply Nat.eq_of_testBit_eq
  intro i
  have hw : w - 1 < 2 ^ n := by omega
  have e : 2 ^ n - w = 2 ^ n - ((w - 1) + 1) := by omega
  have hn : 0 < n := by
    rcases Nat.eq_zero_or_pos n with h0 | h0
    · subst h0; simp at h; omega
    · exact h0
  rw [e, Nat.testBit_and, Nat.testBit_two_pow_sub_succ hw]
  cases i with
  | zero =>
    have h1 : w.testBit 0 = true := by rw [Nat.testBit_zero]; exact decide_eq_true ho
    have h2 : (w - 1).testBit 0 = false := by rw [Nat.testBit_zero]; exact decide_eq_false (by omega)
    rw [h1, h2, decide_eq_true hn]
    rfl
  | succ i =>
    rw [Nat.testBit_succ, Nat.testBit_succ, Nat.testBit_succ, show (w - 1) / 2 = w / 2 from by omega]
    simp
    intro h1 _
    exact h1
theorem and_neg (o z : Nat) (hz : z < 64) (h : o * 2 ^ z < 18446744073709551616) (ho : o % 2 = 1) : (o * 2 ^ z) &&& (18446744073709551616 - o * 2 ^ z) = 2 ^ z := by
  have e64 : (18446744073709551616 : Nat) = 2 ^ (64 - z) * 2 ^ z := by rw [← Nat.pow_add, show 64 - z + z = 64 from by omega]
  have hp : 0 < 2 ^ z := Nat.pow_pos (by decide)
  have hlt : o < 2 ^ (64 - z) := by
    rw [e64] at h
    exact Nat.lt_of_mul_lt_mul_right h
  rw [e64, ← Nat.sub_mul, ← Nat.shiftLeft_eq, ← Nat.shiftLeft_eq, ← Nat.shiftLeft_and_distrib, and_neg_odd' _ _ hlt ho, Nat.shiftLeft_eq, Nat.one_mul]
theorem bitsN_pow (z : Nat) : bitsN (((2 ^ z : Nat) : Nat) : Int) = z + 1 := by
  have h1 : ((2 ^ z : Nat) : Int) = 2 ^ z := by rw [p2cast]
  refine (bitsN_iff (by rw [h1]; exact two_pow_pos z) z).2 ⟨by rw [h1]; exact Int.le_refl _, ?_⟩
  rw [h1, Int.pow_succ]
  have := two_pow_pos z
  omega
theorem wide_Zeros.f_eq {o z : Nat} (h : o * 2 ^ z < 18446744073709551616) (ho : o % 2 = 1) (k : Nat) (hk : 7 ≤ k) : wide_Zeros.f k ((o * 2 ^ z : Nat) : Int) = some (z : Int) := by
  have hp : 0 < 2 ^ z := Nat.pow_pos (by decide)
  have hw0 : 0 < o * 2 ^ z := Nat.mul_pos (by omega) hp
  have hz : z < 64 := by
    apply Classical.byContradiction
    intro hn
    have h1 : 2 ^ 64 ≤ 2 ^ z := Nat.pow_le_pow_right (by decide) (by omega)
    have h2 : 1 * 2 ^ z ≤ o * 2 ^ z := Nat.mul_le_mul_right _ (by omega)
    rw [show (2 : Nat) ^ 64 = 18446744073709551616 from by decide] at h1
    omega
  have ea := and_neg o z hz h ho
  generalize hx : o * 2 ^ z = x at *
  have en : IntKind.u64.wrap (-(x : Int)) = ((18446744073709551616 - x : Nat) : Int) := by rw [u64w]; omega
  rw [wide_Zeros.f, if_neg (by omega), en]
  have e1 := u64_and_nat x (18446744073709551616 - x) h (by omega)
  rw [ea] at e1
  have hz2 : ((2 ^ z : Nat) : Int) < 18446744073709551616 := by
    have h1 : 2 ^ z < 2 ^ 64 := Nat.pow_lt_pow_right (by decide) hz
    rw [show (2 : Nat) ^ 64 = 18446744073709551616 from by decide] at h1
    omega
  rw [e1, wide_Len.f_eq (Int.natCast_nonneg _) hz2 k hk, bitsN_pow]
  rw [Option.bind_some]
  congr 1
  rw [w64_of (by omega) (by omega)]
  omega
def sgn (neg : Bool) : Int := if neg then 9223372036854775808 else 0
theorem or_sgn (neg : Bool) {x : Int} (h0 : 0 ≤ x) (h1 : x < 9223372036854775808) : Go.bits .or .u64 (sgn neg) x = sgn neg + x := by
  cases neg
  · exact or_join 63 (by decide) (by decide) (by decide) h0 (by rw [show (2 : Int) ^ 63 = 9223372036854775808 from by decide]; exact h1) (by omega)
  · exact or_join 63 (by decide) (by decide) (by decide) h0 (by rw [show (2 : Int) ^ 63 = 9223372036854775808 from by decide]; exact h1) (by omega)
/-- the bits of o * 2^z -/
theorem bitsN_mul_pow {o : Nat} (ho : 0 < o) (z : Nat) : bitsN ((o * 2 ^ z : Nat) : Int) = bitsN (o : Int) + z := by
  have hb := bitsN_pos (x := (o : Int)) (by omega)
  obtain ⟨n, hn⟩ : ∃ n : Nat, bitsN (o : Int) = n + 1 := ⟨(bitsN (o : Int) - 1).toNat, by omega⟩
  have h1 := (bitsN_iff (by omega) n).1 hn
  have e : ((o * 2 ^ z : Nat) : Int) = (o : Int) * 2 ^ z := by rw [Int.natCast_mul, p2cast]
  have hp := two_pow_pos z
  have := (bitsN_iff (x := ((o * 2 ^ z : Nat) : Int)) (by rw [e]; exact Int.mul_pos (by omega) hp) (n + z)).2 ⟨by rw [e, Int.pow_add]; exact Int.mul_le_mul_of_nonneg_right h1.1 (by omega), by
    rw [e, show n + z + 1 = n + 1 + z from by omega, Int.pow_add]
    exact Int.mul_lt_mul_of_pos_right h1.2 hp⟩
  rw [this, hn]
  omega
theorem shr_nat (o z : Nat) (hz : z < 64) : shr .u64 ((o * 2 ^ z : Nat) : Int) (z : Int) = (o : Int) := by
  rw [shr_eq, Int.toNat_natCast, Nat.min_eq_left (by omega), p2cast, ← Int.natCast_ediv, Nat.mul_div_cancel _ (Nat.pow_pos (by decide))]
theorem shl_nat (o z : Nat) (hz : z < 64) (h : o * 2 ^ z < 18446744073709551616) : shl .u64 (o : Int) (z : Int) = ((o * 2 ^ z : Nat) : Int) := by
  rw [shl_eq, Int.toNat_natCast, Nat.min_eq_left (by omega), p2cast, ← Int.natCast_mul, Int.emod_eq_of_lt (Int.natCast_nonneg _) (by omega)]
/-- a mantissa at its place, joined -/
theorem f64_Join.f_eq (neg : Bool) (m s : Nat) (hm : m < 9007199254740992) (hs : s = 0 ∨ 4503599627370496 ≤ m) (hs2 : s ≤ 2045) (k : Nat) (hk : 20 ≤ k) :
    f64_Join.f k neg (m : Int) ((s : Int) - 1074) = some (sgn neg + ((s * 4503599627370496 + m : Nat) : Int), 0) := by
  obtain ⟨k, rfl⟩ : ∃ j, k = j + 3 := ⟨k - 3, by omega⟩
  have e0 : f64_Join.f (k + 3) neg (m : Int) ((s : Int) - 1074) = f64_Join.j0 (k + 3) (m : Int) ((s : Int) - 1074) (sgn neg) := by
    unfold f64_Join.f sgn
    cases neg <;> simp
  rw [e0]
  rw [show k + 3 = (k + 2) + 1 from rfl, f64_Join.j0]
  by_cases h0 : m = 0
  · subst h0
    obtain rfl : s = 0 := by omega
    rw [if_pos (show ((0 : Nat) : Int) = 0 from rfl)]
    simp
  · rw [if_neg (by omega), if_neg (by omega), decide_eq_false (by omega)]
    rw [show k + 2 = (k + 1) + 1 from rfl, f64_Join.j1]
    rw [if_neg (by decide)]
    obtain ⟨o, z, he, ho⟩ := odd_part m (by omega)
    have hz53 : z < 53 := by
      apply Classical.byContradiction
      intro hn
      have h1 : 2 ^ 53 ≤ 2 ^ z := Nat.pow_le_pow_right (by decide) (by omega)
      have h2 : 1 * 2 ^ z ≤ o * 2 ^ z := Nat.mul_le_mul_right _ (by omega)
      rw [show (2 : Nat) ^ 53 = 9007199254740992 from by decide] at h1
      omega
    have hopos : 0 < o := by omega
    have ole : o ≤ m := by rw [he]; exact Nat.le_mul_of_pos_right _ (Nat.pow_pos (by decide))
    have eb := bitsN_mul_pow hopos z
    rw [← he] at eb
    have b1 := bitsN_le_of_lt (x := (m : Int)) (n := 53) (by omega) (by rw [show (2 : Int) ^ 53 = 9007199254740992 from by decide]; omega)
    have b2 := bitsN_pos (x := (o : Int)) (by omega)
    have b3 : s ≠ 0 → bitsN (m : Int) = 53 := by
      intro hs0
      have := (bitsN_iff (x := (m : Int)) (by omega) 52).2 ⟨by rw [show (2 : Int) ^ 52 = 4503599627370496 from by decide]; omega, by rw [show (2 : Int) ^ (52 + 1) = 9007199254740992 from by decide]; omega⟩
      rw [this]; rfl
    have b4 : s = 0 → bitsN (m : Int) = 53 ∨ bitsN (m : Int) ≤ 52 := fun _ => by omega
    have hzf : wide_Zeros.f (k + 1) (m : Int) = some (z : Int) := by
      have := wide_Zeros.f_eq (o := o) (z := z) (by rw [← he]; omega) ho (k + 1) (by omega)
      rwa [← he] at this
    have hshr : shr .u64 (m : Int) (z : Int) = (o : Int) := by
      have := shr_nat o z (by omega)
      rwa [← he] at this
    rw [hzf, Option.bind_some, if_pos (by omega), hshr, wide_Len.f_eq (by omega) (by omega) (k + 1) (by omega), Option.bind_some]
    have ebo : bitsN (o : Int) = bitsN (m : Int) - z := by omega
    rw [ebo]
    have w1 : wrap64 ((s : Int) - 1074 + (z : Int)) = (s : Int) - 1074 + z := w64_of (by omega) (by omega)
    have w2 : wrap64 ((s : Int) - 1074 + z + (bitsN (m : Int) - z)) = (s : Int) - 1074 + bitsN (m : Int) := by rw [w64_of (by omega) (by omega)]; omega
    rw [w1, w2, if_neg (by omega), if_neg (by omega), decide_eq_false (by omega)]
    clear w1 w2
    rw [f64_Join.j2]
    rw [if_neg (by decide)]
    have w3 : wrap64 (53 - (bitsN (m : Int) - z)) = 53 - bitsN (m : Int) + z := by rw [w64_of (by omega) (by omega)]; omega
    have w4 : wrap64 ((s : Int) - 1074 + z + 1074) = (s : Int) + z := by rw [w64_of (by omega) (by omega)]; omega
    have e5 : mn (53 - bitsN (m : Int) + z) ((s : Int) + z) = (z : Int) := by
      unfold mn
      clear w3 w4
      by_cases hs0 : s = 0
      · split <;> omega
      · have := b3 hs0
        split <;> omega
    rw [w3, w4, e5]
    clear w3 w4 e5
    have hshl : shl .u64 (o : Int) (z : Int) = (m : Int) := by
      have := shl_nat o z (by omega) (by rw [← he]; omega)
      rwa [← he] at this
    rw [if_pos (by omega), hshl]
    by_cases hh : m < 4503599627370496
    · obtain rfl : s = 0 := by omega
      rw [if_pos (by omega), or_sgn neg (by omega) (by omega)]
      simp
    · rw [if_neg (by omega)]
      have w6 : wrap64 ((s : Int) - 1074 + z - z) = (s : Int) - 1074 := by rw [w64_of (by omega) (by omega)]; omega
      have w7 : wrap64 ((s : Int) - 1074 + 1075) = (s : Int) + 1 := by rw [w64_of (by omega) (by omega)]; omega
      rw [w6, w7]
      clear w6 w7
      rw [u64w_of (x := (s : Int) + 1) (by omega) (by omega), u64w_of (x := ((s : Int) + 1) * 4503599627370496) (by omega) (by omega)]
      rw [and_mask (x := (m : Int)) (by omega) (by omega) 52 (by decide) 4503599627370495 (by decide), show (2 : Int) ^ 52 = 4503599627370496 from by decide, or_sgn neg (by omega) (by omega)]
      have hm2 : (m : Int) % 4503599627370496 = (m : Int) - 4503599627370496 := by omega
      rw [hm2]
      rw [or_join (x := sgn neg + ((s : Int) + 1) * 4503599627370496) 52 (by unfold sgn; split <;> omega) (by unfold sgn; split <;> omega) (by rw [show (2 : Int) ^ 52 = 4503599627370496 from by decide]; unfold sgn; split <;> omega) (by omega) (by rw [show (2 : Int) ^ 52 = 4503599627370496 from by decide]; omega) (by omega)]
      congr 2
      omega
end Go.Proofs.YtoefabmlkbhmpaaDoor.PA

namespace Go.Proofs.YtoefabmlkbhmpaaDoor.PA
open Go Go.RowKit Go.Proofs.YtoefabmlkbhmpaaDoorW.PrintWords Go.Proofs.YtoefabmlkbhmpaaDoorW.PrintLast Go.Proofs.YtoefabmlkbhmpaaDoorW.PrintMore
set_option linter.unusedVariables false
set_option linter.unusedSimpArgs false
/-- does the mode go on to the next place? -/
def upB (mode : Int) (neg odd : Bool) (t : Nat) : Bool :=
  if mode = 0 then (t == 3 || (t == 2 && odd)) else if mode = 1 then false else if mode = 2 then t != 0 else if mode = 3 then (!neg && t != 0) else (neg && t != 0)
/-- does a number beyond the greatest stay there? -/
def staysB (mode : Int) (neg : Bool) : Bool := if mode = 1 then true else if mode = 3 then neg else if mode = 4 then !neg else false
/-- the pattern at a place, or what is told beyond the greatest -/
def outP (mode : Int) (neg : Bool) (d : Nat) : Int × Int :=
  if 9218868437227405311 < d then (if staysB mode neg then (sgn neg + 9218868437227405311, 0) else (0, 70)) else (sgn neg + (d : Int), 0)
def RS (mode : Int) (neg : Bool) (d t : Nat) : Int × Int := outP mode neg (if upB mode neg (d % 2 == 1) t then d + 1 else d)
/-- the place and the tail of m * 2^e (and a little more) -/
def flo (m : Nat) (e : Int) (st : Bool) : Nat × Nat :=
  if m = 0 then (0, if st then 1 else 0)
  else
    if 1 ≤ ((e + 1074 + bitsN (m : Int) - 53).toNat : Int) - (e + 1074) then
      ((e + 1074 + bitsN (m : Int) - 53).toNat * 4503599627370496 + m / 2 ^ (((e + 1074 + bitsN (m : Int) - 53).toNat : Int) - (e + 1074)).toNat,
        tailOf (m % 2 ^ (((e + 1074 + bitsN (m : Int) - 53).toNat : Int) - (e + 1074)).toNat) (((e + 1074 + bitsN (m : Int) - 53).toNat : Int) - (e + 1074)).toNat st)
    else ((e + 1074 + bitsN (m : Int) - 53).toNat * 4503599627370496 + m * 2 ^ (e + 1074 - ((e + 1074 + bitsN (m : Int) - 53).toNat : Int)).toNat, if st then 1 else 0)
theorem bits_bounds {m : Nat} (h : 0 < m) : ∃ L : Nat, bitsN (m : Int) = L + 1 ∧ 2 ^ L ≤ m ∧ m < 2 ^ (L + 1) := by
  have hb := bitsN_pos (x := (m : Int)) (by omega)
  obtain ⟨L, hL⟩ : ∃ n : Nat, bitsN (m : Int) = n + 1 := ⟨(bitsN (m : Int) - 1).toNat, by omega⟩
  have h1 := (bitsN_iff (by omega) L).1 hL
  rw [p2cast, p2cast] at h1
  exact ⟨L, hL, Int.ofNat_le.1 h1.1, Int.ofNat_lt.1 h1.2⟩
/-- the quotient fits its place -/
theorem flo_q {m L s j : Nat} (h1 : 2 ^ L ≤ m) (h2 : m < 2 ^ (L + 1)) (hj : L + 1 ≤ 53 + j) (hs : s = 0 ∨ L + 1 = 53 + j) : m / 2 ^ j < 9007199254740992 ∧ (s = 0 ∨ 4503599627370496 ≤ m / 2 ^ j) := by
  have hp : 0 < 2 ^ j := Nat.pow_pos (by decide)
  constructor
  · rw [Nat.div_lt_iff_lt_mul hp, show (9007199254740992 : Nat) = 2 ^ 53 from by decide, ← Nat.pow_add]
    exact Nat.lt_of_lt_of_le h2 (Nat.pow_le_pow_right (by decide) hj)
  · rcases hs with h | h
    · exact .inl h
    · refine .inr ?_
      rw [Nat.le_div_iff_mul_le hp, show (4503599627370496 : Nat) = 2 ^ 52 from by decide, ← Nat.pow_add, show 52 + j = L from by omega]
      exact h1
theorem flo_p {m L s j : Nat} (h1 : 2 ^ L ≤ m) (h2 : m < 2 ^ (L + 1)) (hj : L + 1 + j ≤ 53) (hs : s = 0 ∨ L + 1 + j = 53) : m * 2 ^ j < 9007199254740992 ∧ (s = 0 ∨ 4503599627370496 ≤ m * 2 ^ j) := by
  have hp : 0 < 2 ^ j := Nat.pow_pos (by decide)
  constructor
  · have h3 : m * 2 ^ j < 2 ^ (L + 1) * 2 ^ j := Nat.mul_lt_mul_of_pos_right h2 hp
    rw [← Nat.pow_add] at h3
    rw [show (9007199254740992 : Nat) = 2 ^ 53 from by decide]
    exact Nat.lt_of_lt_of_le h3 (Nat.pow_le_pow_right (by decide) hj)
  · rcases hs with h | h
    · exact .inl h
    · refine .inr ?_
      have h3 : 2 ^ L * 2 ^ j ≤ m * 2 ^ j := Nat.mul_le_mul_right _ h1
      rw [← Nat.pow_add] at h3
      rw [show (4503599627370496 : Nat) = 2 ^ 52 from by decide, show 52 = L + j from by omega]
      exact h3
theorem near_way.f_eq (mode : Int) (neg odd : Bool) (t : Nat) : near_way.f mode neg odd (t : Int) = some (upB mode neg odd t) := by
  have b3 : ((t : Int) = 3) ↔ t = 3 := by omega
  have b2 : ((t : Int) = 2) ↔ t = 2 := by omega
  have b0 : ((t : Int) = 0) ↔ t = 0 := by omega
  unfold near_way.f upB near_wayC1.f near_wayC2.f near_wayC3.f near_wayC4.f near_wayC5.f
  by_cases c0 : mode = 0
  · rw [if_pos c0, if_pos c0]
    by_cases c3 : t = 3
    · rw [if_pos (b3.2 c3), Option.bind_some]; simp [c3]
    · rw [if_neg (fun h => c3 (b3.1 h))]
      by_cases c2 : t = 2
      · rw [if_pos (b2.2 c2), Option.bind_some]; simp [c2]
      · rw [if_neg (fun h => c2 (b2.1 h)), Option.bind_some]; simp [c3, c2]
  · rw [if_neg c0, if_neg c0]
    by_cases c1 : mode = 1
    · rw [if_pos c1, if_pos c1]; rfl
    · rw [if_neg c1, if_neg c1]
      have hne : ((t : Int) != 0) = (t != 0) := by rw [Bool.eq_iff_iff]; simp
      by_cases c2 : mode = 2
      · rw [if_pos c2, if_pos c2, Option.bind_some, hne]
      · rw [if_neg c2, if_neg c2]
        by_cases c3 : mode = 3
        · rw [if_pos c3, if_pos c3]; cases neg <;> simp [hne]
        · rw [if_neg c3, if_neg c3]; cases neg <;> simp [hne]
theorem near_stays.f_eq {mode : Int} (h0 : 0 ≤ mode) (h4 : mode ≤ 4) (neg : Bool) : near_stays.f mode (if neg then 1 else 0) = some (staysB mode neg) := by
  have : mode = 0 ∨ mode = 1 ∨ mode = 2 ∨ mode = 3 ∨ mode = 4 := by omega
  rcases this with h | h | h | h | h <;> subst h <;> cases neg <;> rfl
/-- the last part: the pattern at the place -/
theorem near_finish.j7_eq (neg : Bool) (mode : Int) (h0 : 0 ≤ mode) (h4 : mode ≤ 4) (m s : Nat) (hm : m < 9007199254740992) (hs : s = 0 ∨ 4503599627370496 ≤ m) (hsb : s ≤ 4398046511104) (k : Nat) (hk : 20 ≤ k) :
    near_finish.j7 (k + 1) neg (m : Int) mode (sgn neg) (if neg then 1 else 0) ((s : Int) - 1074) = some (outP mode neg (s * 4503599627370496 + m)) := by
  rw [near_finish.j7]
  unfold outP
  by_cases hbig : 971 < (s : Int) - 1074
  · have hb : 9218868437227405311 < s * 4503599627370496 + m := by omega
    rw [if_pos hbig, near_stays.f_eq h0 h4 neg, Option.bind_some, if_pos hb]
    cases hst : staysB mode neg
    · rw [if_neg (by decide), if_neg (by decide)]
    · rw [if_pos rfl, if_pos rfl, or_sgn neg (by decide) (by decide)]
  · rw [if_neg hbig, f64_Join.f_eq neg m s hm hs (by omega) k hk, Option.bind_some, if_neg (by omega)]
theorem near_finish.j6_eq (neg : Bool) (mode : Int) (h0 : 0 ≤ mode) (h4 : mode ≤ 4) (m s : Nat) (hm : m ≤ 9007199254740992) (hs : s = 0 ∨ 4503599627370496 ≤ m) (hsb : s ≤ 4398046511103) (k : Nat) (hk : 20 ≤ k) :
    near_finish.j6 (k + 2) neg (m : Int) mode (sgn neg) (if neg then 1 else 0) ((s : Int) - 1074) = some (outP mode neg (s * 4503599627370496 + m)) := by
  rw [near_finish.j6]
  by_cases he : m = 9007199254740992
  · have w1 : wrap64 ((s : Int) - 1074 + 1) = ((s + 1 : Nat) : Int) - 1074 := by rw [w64_of (by omega) (by omega)]; omega
    have r := near_finish.j7_eq neg mode h0 h4 4503599627370496 (s + 1) (by omega) (.inr (Nat.le_refl _)) (by omega) k hk
    rw [if_pos (by omega), w1]
    rw [show (s + 1) * 4503599627370496 + 4503599627370496 = s * 4503599627370496 + m from by omega] at r
    exact r
  · rw [if_neg (by omega)]
    exact near_finish.j7_eq neg mode h0 h4 m s (by omega) hs (by omega) k hk
theorem near_finish.j5_eq (neg : Bool) (mode : Int) (h0 : 0 ≤ mode) (h4 : mode ≤ 4) (m s t : Nat) (hm : m < 9007199254740992) (hs : s = 0 ∨ 4503599627370496 ≤ m) (hsb : s ≤ 4398046511103) (k : Nat) (hk : 20 ≤ k) :
    near_finish.j5 (k + 3) neg (m : Int) mode (sgn neg) (if neg then 1 else 0) ((s : Int) - 1074) (t : Int) = some (RS mode neg (s * 4503599627370496 + m) t) := by
  rw [near_finish.j5]
  have eo : ((Go.bits .and .u64 (m : Int) 1) == 1) = ((s * 4503599627370496 + m) % 2 == 1) := by
    rw [show Go.bits .and .u64 (m : Int) 1 = (m : Int) % 2 from and_mask (by omega) (by omega) 1 (by omega) _ rfl, Bool.eq_iff_iff, beq_iff_eq, beq_iff_eq]
    omega
  rw [near_way.f_eq, Option.bind_some, eo]
  unfold RS
  by_cases hu : upB mode neg ((s * 4503599627370496 + m) % 2 == 1) t = true
  · rw [if_pos hu, if_pos hu, u64w_of (by omega) (by omega)]
    have r := near_finish.j6_eq neg mode h0 h4 (m + 1) s (by omega) (by omega) hsb k hk
    have e : s * 4503599627370496 + (m + 1) = s * 4503599627370496 + m + 1 := by omega
    have ec : ((m + 1 : Nat) : Int) = (m : Int) + 1 := by omega
    rw [e, ec] at r
    exact r
  · rw [if_neg hu, if_neg hu]
    exact near_finish.j6_eq neg mode h0 h4 m s (by omega) hs hsb k hk
/-- the tail, and a little more -/
def bump (t : Nat) (st : Bool) : Nat := if st then (if t = 0 then 1 else if t = 2 then 3 else t) else t
theorem near_finish.j3_eq (neg : Bool) (mode : Int) (h0 : 0 ≤ mode) (h4 : mode ≤ 4) (m s t : Nat) (st : Bool) (hm : m < 9007199254740992) (hs : s = 0 ∨ 4503599627370496 ≤ m) (hsb : s ≤ 4398046511103) (ht : t ≤ 3) (k : Nat) (hk : 20 ≤ k) :
    near_finish.j3 (k + 5) neg (m : Int) st mode (sgn neg) (if neg then 1 else 0) ((s : Int) - 1074) (t : Int) = some (RS mode neg (s * 4503599627370496 + m) (bump t st)) := by
  have a4 : ∀ b : Bool, near_finish.j4 (k + 4) neg (m : Int) mode (sgn neg) (if neg then 1 else 0) ((s : Int) - 1074) (t : Int) b = some (RS mode neg (s * 4503599627370496 + m) (if b then t + 1 else t)) := by
    intro b
    rw [near_finish.j4]
    cases b
    · rw [if_neg (by decide)]
      exact near_finish.j5_eq neg mode h0 h4 m s t hm hs hsb k hk
    · have w1 : wrap64 ((t : Int) + 1) = ((t + 1 : Nat) : Int) := by rw [w64_of (by omega) (by omega)]; omega
      rw [if_pos rfl, w1]
      exact near_finish.j5_eq neg mode h0 h4 m s (t + 1) hm hs hsb k hk
  rw [near_finish.j3]
  unfold bump
  cases st
  · rw [if_neg (by decide), a4]; rfl
  · rw [if_pos rfl]
    by_cases t0 : t = 0
    · rw [if_pos (by omega), a4, t0]; rfl
    · rw [if_neg (by omega), a4]
      by_cases t2 : t = 2
      · subst t2; rfl
      · have : ((t : Int) == 2) = false := beq_eq_false_iff_ne.2 (by omega)
        rw [this]
        simp [t0, t2]
theorem bump_tail (r k : Nat) (st : Bool) : bump (tailOf r k false) st = tailOf r k st := by
  unfold bump tailOf
  cases st
  · simp
  · by_cases h0 : r = 0
    · simp [h0]
    · by_cases h1 : 2 * r < 2 ^ k
      · simp [h0, h1]
      · by_cases h2 : 2 * r = 2 ^ k
        · simp [h0, h2]
        · simp [h0, h1, h2]
end Go.Proofs.YtoefabmlkbhmpaaDoor.PA

namespace Go.Proofs.YtoefabmlkbhmpaaDoor.PA
open Go Go.RowKit Go.Proofs.YtoefabmlkbhmpaaDoorW.PrintWords Go.Proofs.YtoefabmlkbhmpaaDoorW.PrintLast Go.Proofs.YtoefabmlkbhmpaaDoorW.PrintMore
set_option linter.unusedVariables false
set_option linter.unusedSimpArgs false
theorem pow_nat_lt {j : Nat} (h : j ≤ 63) : 2 ^ j ≤ 9223372036854775808 := by
  rw [show (9223372036854775808 : Nat) = 2 ^ 63 from by decide]
  exact Nat.pow_le_pow_right (by decide) h
theorem cut_maskE (j : Nat) (h1 : 1 ≤ j) (h2 : j ≤ 64) : shl .u64 1 ((j - 1 : Nat) : Int) = ((2 ^ (j - 1) : Nat) : Int) ∧ IntKind.u64.wrap (IntKind.u64.wrap (((2 ^ (j - 1) : Nat) : Int) * 2) - 1) = 2 ^ j - 1 := by
  have hp := pow_nat_lt (j := j - 1) (by omega)
  constructor
  · have := shl_nat 1 (j - 1) (by omega) (by omega)
    rw [Nat.one_mul] at this
    exact this
  · have e : (2 : Int) ^ j = ((2 ^ (j - 1) : Nat) : Int) * 2 := by
      rw [p2cast]
      have : 2 ^ j = 2 ^ (j - 1) * 2 := by rw [← Nat.pow_succ]; congr 1; omega
      rw [this, Int.natCast_mul]; rfl
    by_cases h64 : j = 64
    · subst h64; decide
    · have hp2 := pow_nat_lt (j := j) (by omega)
      have hp3 : 0 < 2 ^ (j - 1) := Nat.pow_pos (by decide)
      rw [p2cast] at e
      rw [p2cast, e]
      generalize 2 ^ (j - 1) = z at *
      rw [u64w_of (x := (z : Int) * 2) (by omega) (by omega), u64w_of (by omega) (by omega)]
theorem near_cut.f_eq (m j : Nat) (hm : m < 18446744073709551616) (h1 : 1 ≤ j) (hj : j ≤ 9007199254740992) (k : Nat) (hk : 1 ≤ k) : near_cut.f k (m : Int) (j : Int) = some (((m / 2 ^ j : Nat) : Int), ((tailOf (m % 2 ^ j) j false : Nat) : Int)) := by
  obtain ⟨k, rfl⟩ : ∃ i, k = i + 1 := ⟨k - 1, by omega⟩
  rw [near_cut.f]
  by_cases h0 : m = 0
  · subst h0
    rw [if_pos (show ((0 : Nat) : Int) = 0 from rfl), near_cut.j0, if_pos rfl, Nat.zero_div, Nat.zero_mod]
    rfl
  · rw [if_neg (by omega), decide_eq_false (by omega), near_cut.j0, if_neg (by decide)]
    by_cases hbig : j > 64
    · have hp : 2 ^ 65 ≤ 2 ^ j := Nat.pow_le_pow_right (by decide) hbig
      rw [show (2 : Nat) ^ 65 = 36893488147419103232 from by decide] at hp
      have hq : m / 2 ^ j = 0 := Nat.div_eq_of_lt (by omega)
      have hr : m % 2 ^ j = m := Nat.mod_eq_of_lt (by omega)
      rw [if_pos (by omega), hq, hr]
      unfold tailOf
      rw [if_neg h0, if_pos (by omega)]
      rfl
    · rw [if_neg (by omega)]
      obtain ⟨m1, m2⟩ := cut_maskE j h1 (by omega)
      have hw : wrap64 ((j : Int) - 1) = ((j - 1 : Nat) : Int) := w64x (by omega) (by omega)
      have hand : Go.bits .and .u64 (m : Int) (IntKind.u64.wrap (IntKind.u64.wrap (((2 ^ (j - 1) : Nat) : Int) * 2) - 1)) = ((m % 2 ^ j : Nat) : Int) := by
        rw [m2, and_mask (x := (m : Int)) (by omega) (by omega) j (by omega) _ rfl, p2cast, Int.natCast_emod]
      have hS : ∃ x, wide_Shr.f 0 (m : Int) (j : Int) = some (x, ((m / 2 ^ j : Nat) : Int), decide (m % 2 ^ j ≠ 0)) := by
        by_cases h64 : j = 64
        · subst h64
          have hq : m / 2 ^ 64 = 0 := Nat.div_eq_of_lt (by rw [show (2 : Nat) ^ 64 = 18446744073709551616 from by decide]; exact hm)
          have hr : m % 2 ^ 64 = m := Nat.mod_eq_of_lt (by rw [show (2 : Nat) ^ 64 = 18446744073709551616 from by decide]; exact hm)
          refine ⟨0, ?_⟩
          rw [hq, hr, wide_Shr.f, wide_within.f, Option.bind_some]
          have e1 : mn (mx ((64 : Nat) : Int) 0) 128 = 64 := by decide
          have e2 : wrap64 (64 - 64) = 0 := by rw [w64_of (by omega) (by omega)]; rfl
          have e3 : wrap64 (128 - 64) = 64 := by rw [w64_of (by omega) (by omega)]; rfl
          rw [e1, e2, e3, if_pos (by decide)]
          rw [if_neg (by omega), if_pos (by decide), decide_eq_true h0]
          rfl
        · refine ⟨0, ?_⟩
          rw [wide_Shr.f_eq (hi := 0) (lo := (m : Int)) (s := j) (by omega) (by decide) (by decide) (by omega) (by omega)]
          have hR := two_pow_pos (64 - j)
          have hl := shl_low (x := (m : Int)) hR (pow_split' (s := j) (by omega))
          rw [hl, Int.zero_ediv, Int.zero_mul, Int.zero_emod, Int.zero_add, p2cast j, ← Int.natCast_ediv, ← Int.natCast_emod]
          congr 3
          rw [decide_eq_decide]
          constructor
          · intro h hz; exact h (by rw [hz]; simp)
          · intro h hz
            rcases Int.mul_eq_zero.1 hz with h3 | h3
            · omega
            · exact h (Int.ofNat.inj h3)
      obtain ⟨x, hS⟩ := hS
      rw [hS, Option.bind_some]
      by_cases hl : m % 2 ^ j = 0
      · rw [if_neg (by simp [hl]), hl]; rfl
      · rw [if_pos (by simp [hl]), hw, if_pos (Int.natCast_nonneg _), m1, hand]
        have h2 : 2 ^ j = 2 * 2 ^ (j - 1) := by rw [Nat.mul_comm, ← Nat.pow_succ]; congr 1; omega
        unfold tailOf
        rw [if_neg hl]
        generalize m % 2 ^ j = r at *
        generalize hz : 2 ^ (j - 1) = z at *
        rw [h2]
        by_cases c1 : r < z
        · rw [if_pos (by omega), if_pos (by omega)]; rfl
        · rw [if_neg (by omega)]
          by_cases c2 : r = z
          · rw [if_neg (by omega), if_neg (by omega), if_pos (by omega)]; rfl
          · rw [if_pos (by omega), if_neg (by omega), if_neg (by omega)]; rfl
theorem RS_zero (mode : Int) (neg : Bool) : RS mode neg 0 0 = (sgn neg, 0) := by
  have hu : upB mode neg (0 % 2 == 1) 0 = false := by
    unfold upB
    split <;> (try rfl)
    split <;> (try rfl)
    split <;> (try rfl)
    split <;> simp
  unfold RS
  rw [hu, if_neg (by decide)]
  unfold outP
  rw [if_neg (by decide)]
  simp
theorem near_finish.f_eq (neg : Bool) (mode : Int) (h0 : 0 ≤ mode) (h4 : mode ≤ 4) (m : Nat) (hm : m < 18446744073709551616) (exp : Int) (he1 : -2199023255552 ≤ exp) (he2 : exp ≤ 2199023255552) (st : Bool) (k : Nat) (hk : 60 ≤ k) :
    near_finish.f k neg (m : Int) exp st mode = some (RS mode neg (flo m exp st).1 (flo m exp st).2) := by
  obtain ⟨k, rfl⟩ : ∃ i, k = i + 8 := ⟨k - 8, by omega⟩
  have e0 : near_finish.f (k + 8) neg (m : Int) exp st mode = near_finish.j0 (k + 8) neg (m : Int) exp st mode (sgn neg) (if neg then 1 else 0) := by
    unfold near_finish.f sgn
    cases neg <;> simp
  rw [e0, near_finish.j0]
  by_cases hz : m = 0
  · subst hz
    have h00 : ((0 : Nat) : Int) = 0 := rfl
    rw [if_pos h00]
    unfold flo
    rw [if_pos rfl]
    cases st
    · rw [near_finish.j1, if_pos (by decide)]
      exact congrArg some (RS_zero mode neg).symm
    · have r := near_finish.j3_eq neg mode h0 h4 0 0 0 true (by decide) (.inl rfl) (by decide) (by decide) k (by omega)
      have hl : wide_Len.f (k + 6) ((0 : Nat) : Int) = some (bitsN ((0 : Nat) : Int)) := wide_Len.f_eq (by decide) (by decide) (k + 6) (by omega)
      rw [near_finish.j1, if_neg (by decide), hl, Option.bind_some, if_pos h00, near_finish.j2]
      by_cases hc : (-1074 : Int) > exp
      · have hw : wrap64 (-1074 - exp) = ((-1074 - exp).toNat : Int) := w64x (by omega) (by omega)
        rw [if_pos hc, hw, near_cut.f_eq 0 (-1074 - exp).toNat (by decide) (by omega) (by omega) (k + 5) (by omega), Option.bind_some, Nat.zero_div, Nat.zero_mod]
        exact r
      · rw [if_neg hc, if_pos h00]
        exact r
  · obtain ⟨L, hL, hb1, hb2⟩ := bits_bounds (m := m) (by omega)
    have hL64 : L ≤ 63 := by
      apply Classical.byContradiction
      intro hn
      have h1 : 2 ^ 64 ≤ 2 ^ L := Nat.pow_le_pow_right (by decide) (by omega)
      rw [show (2 : Nat) ^ 64 = 18446744073709551616 from by decide] at h1
      omega
    have hl : wide_Len.f (k + 6) (m : Int) = some (bitsN (m : Int)) := wide_Len.f_eq (by omega) (by omega) (k + 6) (by omega)
    have hlast : mx (wrap64 (wrap64 (exp + bitsN (m : Int)) - 53)) (-1074) = (((exp + 1074 + bitsN (m : Int) - 53).toNat : Nat) : Int) - 1074 := by
      rw [hL, w64_of (x := exp + (L + 1)) (by omega) (by omega), w64_of (by omega) (by omega)]
      unfold mx
      split <;> omega
    rw [if_neg (by omega), near_finish.j1, if_neg (by decide), hl, Option.bind_some, if_neg (by omega), hlast, near_finish.j2]
    unfold flo
    rw [if_neg hz]
    clear hlast hl
    generalize hs : (exp + 1074 + bitsN (m : Int) - 53).toNat = s at *
    rw [hL] at hs
    by_cases hc : 1 ≤ (s : Int) - (exp + 1074)
    · rw [if_pos hc, if_pos (by omega)]
      obtain ⟨j, hj⟩ : ∃ j : Nat, (s : Int) - (exp + 1074) = (j : Int) := ⟨((s : Int) - (exp + 1074)).toNat, by omega⟩
      have hw : wrap64 ((s : Int) - 1074 - exp) = (j : Int) := w64x (by omega) (by omega)
      obtain ⟨q1, q2⟩ := flo_q (s := s) (j := j) hb1 hb2 (by omega) (by omega)
      rw [hw, hj, Int.toNat_natCast, near_cut.f_eq m j hm (by omega) (by omega) (k + 5) (by omega), Option.bind_some]
      have ht : tailOf (m % 2 ^ j) j false ≤ 3 := by
        unfold tailOf
        split
        · decide
        · split
          · decide
          · split <;> decide
      have r := near_finish.j3_eq neg mode h0 h4 (m / 2 ^ j) s (tailOf (m % 2 ^ j) j false) st q1 q2 (by omega) ht k (by omega)
      rw [bump_tail] at r
      exact r
    · rw [if_neg hc, if_neg (by omega), if_neg (by omega)]
      obtain ⟨j, hj⟩ : ∃ j : Nat, exp + 1074 - (s : Int) = (j : Int) := ⟨(exp + 1074 - (s : Int)).toNat, by omega⟩
      have hw : wrap64 (exp - ((s : Int) - 1074)) = (j : Int) := w64x (by omega) (by omega)
      obtain ⟨q1, q2⟩ := flo_p (s := s) (j := j) hb1 hb2 (by omega) (by omega)
      rw [hw, hj, Int.toNat_natCast, if_pos (Int.natCast_nonneg _), shl_nat m j (by omega) (by omega)]
      have r := near_finish.j3_eq neg mode h0 h4 (m * 2 ^ j) s 0 st q1 q2 (by omega) (by decide) k (by omega)
      exact r
end Go.Proofs.YtoefabmlkbhmpaaDoor.PA

namespace Go.Proofs.YtoefabmlkbhmpaaDoor.PA
open Go Go.RowKit Go.Proofs.YtoefabmlkbhmpaaDoorW.PrintWords Go.Proofs.YtoefabmlkbhmpaaDoorW.PrintLast Go.Proofs.YtoefabmlkbhmpaaDoorW.PrintMore
set_option linter.unusedVariables false
set_option linter.unusedSimpArgs false
end Go.Proofs.YtoefabmlkbhmpaaDoor.PA

namespace Go.Proofs.YtoefabmlkbhmpaaDoor.PA
open Go Go.RowKit Go.Proofs.YtoefabmlkbhmpaaDoorW.PrintWords Go.Proofs.YtoefabmlkbhmpaaDoorW.PrintLast Go.Proofs.YtoefabmlkbhmpaaDoorW.PrintMore
set_option linter.unusedVariables false
set_option linter.unusedSimpArgs false
/-- all entries are halves of words -/
def Hs (xs : List Int) : Prop := ∀ x ∈ xs, 0 ≤ x ∧ x < 4294967296
/-- the number of a list of halves -/
def hv : List Int → Int
  | [] => 0
  | x :: xs => x + 4294967296 * hv xs
theorem Hs.getD {xs : List Int} (h : Hs xs) (n : Nat) : 0 ≤ xs.getD n 0 ∧ xs.getD n 0 < 4294967296 := by
  rw [List.getD_eq_getElem?_getD]
  cases e : xs[n]? with
  | none => simp
  | some v => simpa using h v (List.mem_of_getElem? e)
theorem Hs.set {xs : List Int} (h : Hs xs) (n : Nat) {v : Int} (h0 : 0 ≤ v) (h1 : v < 4294967296) : Hs (xs.set n v) := by
  intro y hy
  rcases List.mem_or_eq_of_mem_set hy with hy | rfl
  · exact h y hy
  · exact ⟨h0, h1⟩
theorem Hs.snoc {xs : List Int} (h : Hs xs) {v : Int} (h0 : 0 ≤ v) (h1 : v < 4294967296) : Hs (xs ++ [v]) := by
  intro y hy
  rcases List.mem_append.1 hy with hy | hy
  · exact h y hy
  · rcases List.mem_singleton.1 hy with rfl
    exact ⟨h0, h1⟩
end Go.Proofs.YtoefabmlkbhmpaaDoor.PA

namespace Go.Proofs.YtoefabmlkbhmpaaDoor.PA
open Go Go.RowKit Go.Proofs.YtoefabmlkbhmpaaDoorW.PrintWords Go.Proofs.YtoefabmlkbhmpaaDoorW.PrintLast Go.Proofs.YtoefabmlkbhmpaaDoorW.PrintMore
set_option linter.unusedVariables false
set_option linter.unusedSimpArgs false
theorem nv_take_lt {xs : List Int} (h : Ws xs) (i : Nat) : nv (xs.take i) < 2 ^ (64 * i) := by
  have h1 := nv_lt (h.take i)
  have h2 : (xs.take i).length ≤ i := List.length_take_le _ _
  exact Int.lt_of_lt_of_le h1 (pow_mono (by omega))
end Go.Proofs.YtoefabmlkbhmpaaDoor.PA

namespace Go.Proofs.YtoefabmlkbhmpaaDoor.PA
open Go Go.RowKit Go.Proofs.YtoefabmlkbhmpaaDoorW.PrintWords Go.Proofs.YtoefabmlkbhmpaaDoorW.PrintLast Go.Proofs.YtoefabmlkbhmpaaDoorW.PrintMore
set_option linter.unusedVariables false
set_option linter.unusedSimpArgs false
end Go.Proofs.YtoefabmlkbhmpaaDoor.PA

namespace Go.Proofs.YtoefabmlkbhmpaaDoor.PA
open Go Go.RowKit Go.Proofs.YtoefabmlkbhmpaaDoorW.PrintWords Go.Proofs.YtoefabmlkbhmpaaDoorW.PrintLast Go.Proofs.YtoefabmlkbhmpaaDoorW.PrintMore
set_option linter.unusedVariables false
set_option linter.unusedSimpArgs false
def pS (d : Nat) : Nat := d / 4503599627370496 - 1
end Go.Proofs.YtoefabmlkbhmpaaDoor.PA

namespace Go.Proofs.YtoefabmlkbhmpaaDoor.PA
open Go Go.RowKit Go.Proofs.YtoefabmlkbhmpaaDoorW.PrintWords Go.Proofs.YtoefabmlkbhmpaaDoorW.PrintLast Go.Proofs.YtoefabmlkbhmpaaDoorW.PrintMore
set_option linter.unusedVariables false
set_option linter.unusedSimpArgs false
end Go.Proofs.YtoefabmlkbhmpaaDoor.PA

namespace Go.Proofs.YtoefabmlkbhmpaaDoor.PA
open Go Go.RowKit Go.Proofs.YtoefabmlkbhmpaaDoorW.PrintWords Go.Proofs.YtoefabmlkbhmpaaDoorW.PrintLast Go.Proofs.YtoefabmlkbhmpaaDoorW.PrintMore
set_option linter.unusedVariables false
set_option linter.unusedSimpArgs false
theorem wd_len {n : Int} {t : Nat} (h0 : 0 ≤ n) (h : n < 2 ^ (64 * t)) : (wd n.toNat).length ≤ t := by
  have hw := wd_ws n.toNat
  have h1 := (strip_len_le hw t).2 (by rw [nv_wd, Int.toNat_of_nonneg h0]; exact h)
  rw [strip_wd] at h1
  exact h1
end Go.Proofs.YtoefabmlkbhmpaaDoor.PA

namespace Go.Proofs.YtoefabmlkbhmpaaDoor.PA
open Go Go.RowKit Go.Proofs.YtoefabmlkbhmpaaDoorW.PrintWords Go.Proofs.YtoefabmlkbhmpaaDoorW.PrintLast Go.Proofs.YtoefabmlkbhmpaaDoorW.PrintMore
set_option linter.unusedVariables false
set_option linter.unusedSimpArgs false
/-- the number of units, above -/
def qP (a : Nat) (exp : Int) : Nat := a * 2 ^ (exp + 1074).toNat
/-- and below -/
def qQ (b : Nat) (exp : Int) : Nat := b * 2 ^ (-(exp + 1074)).toNat
theorem qQ_pos {b : Nat} (h : 0 < b) (exp : Int) : 0 < qQ b exp := Nat.mul_pos h (Nat.pow_pos (by decide))
/-- what a Q holds, and that all fits -/
structure QOk (A B : List Int) (exp : Int) (a b N k : Nat) : Prop where
  hA : Ws A
  hB : Ws B
  ea : nv A = (a : Int)
  eb : nv B = (b : Int)
  hb : 0 < b
  hAN : A.length ≤ N
  hBN : B.length + 2 ≤ N
  hN : N ≤ 1000000000000
  he1 : exp + 1075 ≤ 64 * N
  he2 : 971 - exp ≤ 64 * N
  hk : 100 * N + 1000 < k
theorem outP_big (mode : Int) (neg : Bool) {d : Nat} (h : 9218868437227405311 < d) : outP mode neg d = if staysB mode neg then (sgn neg + 9218868437227405311, 0) else (0, 70) := by
  unfold outP; rw [if_pos h]
theorem RS_big (mode : Int) (neg : Bool) {d : Nat} (h : 9218868437227405311 < d) (t : Nat) : RS mode neg d t = if staysB mode neg then (sgn neg + 9218868437227405311, 0) else (0, 70) := by
  unfold RS
  split <;> exact outP_big mode neg (by omega)
end Go.Proofs.YtoefabmlkbhmpaaDoor.PA

namespace Go.Proofs.YtoefabmlkbhmpaaDoor.PA
open Go Go.RowKit Go.Proofs.YtoefabmlkbhmpaaDoorW.PrintWords Go.Proofs.YtoefabmlkbhmpaaDoorW.PrintLast Go.Proofs.YtoefabmlkbhmpaaDoorW.PrintMore
set_option linter.unusedVariables false
set_option linter.unusedSimpArgs false
theorem flo_Rd {P Q m : Nat} {e : Int} {more st : Bool} (hQ : 0 < Q) (hm : 0 < m) (h1 : m * 2 ^ (e + 1074).toNat * Q ≤ P * 2 ^ (-(e + 1074)).toNat) (h2 : P * 2 ^ (-(e + 1074)).toNat < (m + 1) * 2 ^ (e + 1074).toNat * Q)
    (hst : st = true ↔ (P * 2 ^ (-(e + 1074)).toNat ≠ m * 2 ^ (e + 1074).toNat * Q ∨ more = true)) (hx : P * 2 ^ (-(e + 1074)).toNat = m * 2 ^ (e + 1074).toNat * Q ∨ 9007199254740992 ≤ m) :
    Rd P Q (flo m e st).1 ∧ tl P Q more (flo m e st).1 = (flo m e st).2 := by
  obtain ⟨L, hL, hb1, hb2⟩ := bits_bounds hm
  unfold flo
  rw [if_neg (by omega), hL]
  generalize hs : (e + 1074 + ((L : Int) + 1) - 53).toNat = s at *
  by_cases hc : 1 ≤ (s : Int) - (e + 1074)
  · obtain ⟨j, hj⟩ : ∃ j : Nat, (s : Int) - (e + 1074) = (j : Int) := ⟨((s : Int) - (e + 1074)).toNat, by omega⟩
    obtain ⟨q1, q2⟩ := flo_q (s := s) (j := j) hb1 hb2 (by omega) (by omega)
    rw [if_pos hc, hj, Int.toNat_natCast]
    exact Rd.of_div hQ (by omega) (by omega) h1 h2 hst q1 q2
  · have hex : P * 2 ^ (-(e + 1074)).toNat = m * 2 ^ (e + 1074).toNat * Q := by
      rcases hx with h | h
      · exact h
      · exfalso
        have h3 : 2 ^ 53 < 2 ^ (L + 1) := Nat.lt_of_le_of_lt h hb2
        have h4 := (Nat.pow_lt_pow_iff_right (a := 2) (by decide)).1 h3
        omega
    have e0 : (-(e + 1074)).toNat = 0 := by omega
    obtain ⟨j, hj⟩ : ∃ j : Nat, e + 1074 - (s : Int) = (j : Int) := ⟨(e + 1074 - (s : Int)).toNat, by omega⟩
    obtain ⟨q1, q2⟩ := flo_p (s := s) (j := j) hb1 hb2 (by omega) (by omega)
    rw [if_neg hc, hj, Int.toNat_natCast]
    obtain ⟨eV, eU⟩ := pV_at q1 q2
    have ep : (e + 1074).toNat = j + s := by omega
    rw [e0, Nat.pow_zero, Nat.mul_one, ep, Nat.pow_add, ← Nat.mul_assoc, ← eV] at hex
    have hst2 : st = more := by
      rw [e0, Nat.pow_zero, Nat.mul_one, ep, Nat.pow_add, ← Nat.mul_assoc, ← eV] at hst
      exact Bool.eq_iff_iff.2 ⟨fun z => (hst.1 z).resolve_left (fun y => y hex), fun z => hst.2 (.inr z)⟩
    refine ⟨⟨Nat.le_of_eq hex.symm, ?_⟩, ?_⟩
    · rw [hex]
      exact Nat.mul_lt_mul_of_pos_right (pV_lt_succ _) hQ
    · show tl P Q more (s * 4503599627370496 + m * 2 ^ j) = if st = true then 1 else 0
      unfold tl
      rw [if_pos hex, hst2]
/-- a whole number times a power of two -/
theorem flo_exact {m : Nat} (hm : 0 < m) (e : Int) (st : Bool) : Rd (m * 2 ^ (e + 1074).toNat) (2 ^ (-(e + 1074)).toNat) (flo m e st).1 ∧ tl (m * 2 ^ (e + 1074).toNat) (2 ^ (-(e + 1074)).toNat) st (flo m e st).1 = (flo m e st).2 := by
  have hb : 0 < 2 ^ (-(e + 1074)).toNat := Nat.pow_pos (by decide)
  have ha : 0 < 2 ^ (e + 1074).toNat := Nat.pow_pos (by decide)
  refine flo_Rd hb hm (Nat.le_refl _) ?_ ?_ (.inl rfl)
  · exact Nat.mul_lt_mul_of_pos_right (Nat.mul_lt_mul_of_pos_right (Nat.lt_succ_self m) ha) hb
  · simp
/-- the cut-off word, and whether something was lost, tell the same -/
theorem flo_cut {m : Nat} (e : Int) (st : Bool) (z : Nat) (hm : 9007199254740992 ≤ m / 2 ^ z) : flo (m / 2 ^ z) (e + z) (st || decide (m % 2 ^ z ≠ 0)) = flo m e st := by
  have hp : 0 < 2 ^ z := Nat.pow_pos (by decide)
  have hm0 : 0 < m := Nat.lt_of_lt_of_le (by omega) (Nat.div_le_self m (2 ^ z))
  obtain ⟨r1, t1⟩ := flo_exact hm0 e st
  have hb : 0 < 2 ^ (-(e + 1074)).toNat := Nat.pow_pos (by decide)
  have hdm := Nat.div_add_mod m (2 ^ z)
  have hmod := Nat.mod_lt m hp
  have key : ∀ c : Nat, c * 2 ^ (e + z + 1074).toNat * 2 ^ (-(e + 1074)).toNat = c * 2 ^ z * (2 ^ (e + 1074).toNat * 2 ^ (-(e + z + 1074)).toNat) := by
    intro c
    rw [Nat.mul_assoc, Nat.mul_assoc, ← Nat.pow_add, ← Nat.pow_add, ← Nat.pow_add]
    congr 2
    omega
  have hT : 0 < 2 ^ (e + 1074).toNat * 2 ^ (-(e + z + 1074)).toNat := Nat.mul_pos (Nat.pow_pos (by decide)) (Nat.pow_pos (by decide))
  have kP : m * 2 ^ (e + 1074).toNat * 2 ^ (-(e + z + 1074)).toNat = m * (2 ^ (e + 1074).toNat * 2 ^ (-(e + z + 1074)).toNat) := Nat.mul_assoc _ _ _
  obtain ⟨r2, t2⟩ := flo_Rd (P := m * 2 ^ (e + 1074).toNat) (Q := 2 ^ (-(e + 1074)).toNat) (m := m / 2 ^ z) (e := e + z) (more := st) (st := st || decide (m % 2 ^ z ≠ 0)) hb (by omega)
    (by
      rw [key, kP]
      exact Nat.mul_le_mul_right _ (by rw [Nat.mul_comm]; omega))
    (by
      rw [key, kP]
      exact Nat.mul_lt_mul_of_pos_right (by rw [Nat.add_mul, Nat.one_mul, Nat.mul_comm]; omega) hT)
    (by
      rw [key, kP]
      have : (m * (2 ^ (e + 1074).toNat * 2 ^ (-(e + z + 1074)).toNat) ≠ m / 2 ^ z * 2 ^ z * (2 ^ (e + 1074).toNat * 2 ^ (-(e + z + 1074)).toNat)) ↔ m % 2 ^ z ≠ 0 := by
        constructor
        · intro h hz
          apply h
          congr 1
          rw [Nat.mul_comm]; omega
        · intro h hz
          have := Nat.eq_of_mul_eq_mul_right hT hz
          rw [Nat.mul_comm] at this
          omega
      rw [this]
      cases st <;> simp)
    (.inr hm)
  have hd := r2.uniq r1
  rw [hd, t1] at t2
  exact Prod.ext hd t2.symm
end Go.Proofs.YtoefabmlkbhmpaaDoor.PA

namespace Go.Proofs.YtoefabmlkbhmpaaDoor.PA
open Go Go.RowKit Go.Proofs.YtoefabmlkbhmpaaDoorW.PrintWords Go.Proofs.YtoefabmlkbhmpaaDoorW.PrintLast Go.Proofs.YtoefabmlkbhmpaaDoorW.PrintMore
set_option linter.unusedVariables false
set_option linter.unusedSimpArgs false
theorem odd_part2 : ∀ (n w : Nat), w ≤ n → w ≠ 0 → ∃ o t, w = o * 2 ^ t ∧ o % 2 = 1 := by
  intro n
  induction n with
  | zero => intro w h1 h2; omega
  | succ n ih =>
    intro w h1 h2
    by_cases h : w % 2 = 1
    · exact ⟨w, 0, by simp, h⟩
    · obtain ⟨o, t, e, ho⟩ := ih (w / 2) (by omega) (by omega)
      exact ⟨o, t + 1, by rw [Nat.pow_succ, ← Nat.mul_assoc, ← e]; omega, ho⟩
theorem mod_odd {o z s : Nat} (ho : o % 2 = 1) : (o * 2 ^ z % 2 ^ s ≠ 0) ↔ z < s := by
  constructor
  · intro h
    apply Classical.byContradiction
    intro hn
    apply h
    rw [show z = (z - s) + s from by omega, Nat.pow_add, ← Nat.mul_assoc, Nat.mul_mod_left]
  · intro h hz
    rw [show s = (s - z - 1) + 1 + z from by omega, Nat.pow_add, Nat.mul_mod_mul_right] at hz
    have h1 := (Nat.mul_eq_zero.1 hz).resolve_right (Nat.ne_of_gt (Nat.pow_pos (by decide)))
    have h2 : 2 ∣ o := Nat.dvd_trans ⟨2 ^ (s - z - 1), by rw [Nat.pow_succ, Nat.mul_comm]⟩ (Nat.dvd_of_mod_eq_zero h1)
    omega
theorem nat_Zeros.l0_eq (x : List Int) (hx : Ws x) (hm : x.length ≤ 17592186044416) (a : Nat) (ha : nv x = (a : Int)) (h0 : a ≠ 0) : ∀ (d i : Nat), d = x.length - i → i ≤ x.length → nv (x.take i) = 0 →
    ∃ z : Nat, (∀ k, d + 10 < k → nat_Zeros.l0 k x (x.length : Int) (i : Int) = some (z : Int)) ∧ ∀ s : Nat, (z < s ↔ a % 2 ^ s ≠ 0) := by
  intro d
  induction d with
  | zero =>
    intro i hd hi hz
    obtain rfl : i = x.length := by omega
    rw [List.take_length] at hz
    omega
  | succ d ih =>
    intro i hd hi hz
    by_cases hw : x.getD i 0 = 0
    · obtain ⟨z, h1, h2⟩ := ih (i + 1) (by omega) (by omega) (by rw [nv_take_succ (by omega), hz, hw]; simp)
      refine ⟨z, ?_, h2⟩
      intro k hk
      obtain ⟨k, rfl⟩ : ∃ j, k = j + 1 := ⟨k - 1, by omega⟩
      rw [nat_Zeros.l0, if_pos (by omega), if_pos (by omega), if_pos (by omega), rdn, if_pos hw, w64_s i (by omega)]
      exact h1 k (by omega)
    · have hg := hx.getD i
      obtain ⟨w, ew⟩ := Int.eq_ofNat_of_zero_le hg.1
      obtain ⟨o, t, eo, ho⟩ := odd_part2 w w (Nat.le_refl _) (by omega)
      have hlt : o * 2 ^ t < 18446744073709551616 := by rw [← eo]; omega
      have ht : t < 64 := by
        apply Classical.byContradiction
        intro hn
        have h1 : 2 ^ 64 ≤ 2 ^ t := Nat.pow_le_pow_right (by decide) (by omega)
        have h2 : 1 * 2 ^ t ≤ o * 2 ^ t := Nat.mul_le_mul_right _ (by omega)
        rw [show (2 : Nat) ^ 64 = 18446744073709551616 from by decide] at h1
        omega
      refine ⟨64 * i + t, ?_, ?_⟩
      · intro k hk
        obtain ⟨k, rfl⟩ : ∃ j, k = j + 1 := ⟨k - 1, by omega⟩
        have e1 : wrap64 (wrap64 (64 * (i : Int)) + (t : Int)) = ((64 * i + t : Nat) : Int) := by
          rw [w64_of (x := 64 * (i : Int)) (by omega) (by omega), w64_of (by omega) (by omega)]; omega
        have hZ := wide_Zeros.f_eq hlt ho k (by omega)
        rw [nat_Zeros.l0, if_pos (by omega), if_pos (by omega), if_pos (by omega), rdn, if_neg hw, ew]
        rw [← eo] at hZ
        rw [hZ, Option.bind_some, e1]
      · intro s
        have e1 := nv_split (xs := x) (n := i + 1) (by omega)
        rw [nv_take_succ (by omega), hz, ew, ha] at e1
        have hD := nv_nonneg (hx.drop (i + 1))
        obtain ⟨D, eD⟩ := Int.eq_ofNat_of_zero_le hD
        rw [eD, p2cast, p2cast] at e1
        have e2 : a = (o + 2 * (2 ^ (63 - t) * D)) * 2 ^ (64 * i + t) := by
          have e3 : a = w * 2 ^ (64 * i) + 2 ^ (64 * (i + 1)) * D := by
            have : ((a : Nat) : Int) = ((w * 2 ^ (64 * i) + 2 ^ (64 * (i + 1)) * D : Nat) : Int) := by
              rw [e1]; push_cast; omega
            exact Int.ofNat.inj this
          have e4 : 2 ^ (64 * (i + 1)) = 2 * 2 ^ (63 - t) * 2 ^ (64 * i + t) := by
            rw [← Nat.pow_succ', ← Nat.pow_add]; congr 1; omega
          rw [e3, e4, eo, Nat.pow_add]
          generalize 2 ^ (64 * i) = p
          generalize 2 ^ t = q
          generalize 2 ^ (63 - t) = r
          grind
        rw [e2]
        exact (mod_odd (by omega)).symm
theorem nat_Zeros.f_eq (x : List Int) (hx : Ws x) (hm : x.length ≤ 17592186044416) (a : Nat) (ha : nv x = (a : Int)) (h0 : a ≠ 0) :
    ∃ z : Nat, (∀ k, x.length + 10 < k → nat_Zeros.f k x = some (z : Int)) ∧ ∀ s : Nat, (z < s ↔ a % 2 ^ s ≠ 0) := by
  obtain ⟨z, h1, h2⟩ := nat_Zeros.l0_eq x hx hm a ha h0 x.length 0 (by omega) (by omega) rfl
  exact ⟨z, fun k hk => by rw [nat_Zeros.f]; exact h1 k hk, h2⟩
theorem nat_Shr.l0_eq (x0 : List Int) (x1 : Int) (Y : List Int) (hY : Ws Y) (s : Nat) (hs : s ≤ 63) (hm : Y.length ≤ 17592186044416) (hb : nv Y / 2 ^ s < 2 ^ 262144) (z : Int) (K : Nat) (hz : ∀ k, K ≤ k → nat_Zeros.f k x0 = some z) :
    ∀ (d k i : Nat) (cur : List Int), d = Y.length - i → d + K + Y.length + 2 < k → i ≤ Y.length → cur.length = Y.length → Ws cur → (∀ j, i ≤ j → cur.getD j 0 = Y.getD j 0) → nv (cur.take i) + 2 ^ (64 * i) * (nv (Y.drop i) / 2 ^ s) = nv Y / 2 ^ s →
    nat_Shr.l0 k x0 x1 cur (s : Int) (Y.length : Int) (i : Int) = some (wd (nv Y / 2 ^ s).toNat, decide (z < x1), 0) := by
  have hP := two_pow_pos s
  have hR := two_pow_pos (64 - s)
  have hPR := pow_split (s := s) (by omega)
  intro d
  induction d with
  | zero =>
    intro k i cur hd hk hi hl hw hj hv
    obtain ⟨k, rfl⟩ : ∃ j, k = j + 1 := ⟨k - 1, by omega⟩
    obtain rfl : i = Y.length := by omega
    rw [List.take_of_length_le (by omega), List.drop_eq_nil_of_le (Nat.le_refl _), nv_nil, Int.zero_ediv, Int.mul_zero, Int.add_zero] at hv
    rw [nat_Shr.l0, if_neg (by omega), nat_bound.f_bnd hw (by omega) k (by omega), Option.bind_some, hz k (by omega), Option.bind_some, hv, bnd_small hb]
  | succ d ih =>
    intro k i cur hd hk hi hl hw hj hv
    obtain ⟨k, rfl⟩ : ∃ j, k = j + 1 := ⟨k - 1, by omega⟩
    have ho := hY.getD i
    have hn := hY.getD (i + 1)
    have hy : Y.getD i 0 / 2 ^ s < 2 ^ (64 - s) := Int.ediv_lt_of_lt_mul hP (by rw [pow_split' (by omega)]; exact ho.2)
    have hy0 : 0 ≤ Y.getD i 0 / 2 ^ s := Int.ediv_nonneg ho.1 (Int.le_of_lt hP)
    have hlow := shl_low (x := Y.getD (i + 1) 0) hR (pow_split' (s := s) (by omega))
    have g0 : 0 ≤ Y.getD (i + 1) 0 % 2 ^ s := Int.emod_nonneg _ (Int.ne_of_gt hP)
    have g1 : Y.getD (i + 1) 0 % 2 ^ s < 2 ^ s := Int.emod_lt_of_pos _ hP
    have hm1 := Int.emod_nonneg (Y.getD (i + 1) 0 * 2 ^ (64 - s)) (show (18446744073709551616 : Int) ≠ 0 by decide)
    have hsum : Y.getD (i + 1) 0 * 2 ^ (64 - s) % 18446744073709551616 + Y.getD i 0 / 2 ^ s < 18446744073709551616 := by
      rw [hlow, ← pow_split' (s := s) (by omega)]
      have h3 : 2 ^ (64 - s) * (Y.getD (i + 1) 0 % 2 ^ s + 1) ≤ 2 ^ (64 - s) * 2 ^ s := Int.mul_le_mul_of_nonneg_left g1 (Int.le_of_lt hR)
      rw [Int.mul_add, Int.mul_one] at h3
      omega
    -- what lies above is as the next word, by the power
    have hmod : nv (Y.drop (i + 1)) % 2 ^ s = Y.getD (i + 1) 0 % 2 ^ s := by
      by_cases hlast : i + 1 < Y.length
      · rw [drop_getD hlast, nv_cons]
        have e : (18446744073709551616 : Int) = 2 ^ s * 2 ^ (64 - s) := hPR.symm
        rw [e, Int.mul_assoc, Int.add_mul_emod_self_left]
      · rw [List.drop_eq_nil_of_le (by omega), getD_of_le (by omega), nv_nil]
    have hstep : nv (Y.drop i) / 2 ^ s = 18446744073709551616 * (nv (Y.drop (i + 1)) / 2 ^ s) + (Y.getD (i + 1) 0 * 2 ^ (64 - s) % 18446744073709551616 + Y.getD i 0 / 2 ^ s) := by
      rw [drop_getD (show i < Y.length by omega), nv_cons]
      have e := Int.mul_ediv_add_emod (nv (Y.drop (i + 1))) (2 ^ s)
      rw [hmod] at e
      have h := shr_step (w := Y.getD i 0) (q := nv (Y.drop (i + 1)) / 2 ^ s) (a := Y.getD (i + 1) 0) hP hR hPR
      rw [Int.mul_comm (nv (Y.drop (i + 1)) / 2 ^ s) (2 ^ s), e] at h
      exact h
    have hrec : nat_Shr.l0 k x0 x1 (cur.set i (Y.getD (i + 1) 0 * 2 ^ (64 - s) % 18446744073709551616 + Y.getD i 0 / 2 ^ s)) (s : Int) (Y.length : Int) ((i + 1 : Nat) : Int) = some (wd (nv Y / 2 ^ s).toNat, decide (z < x1), 0) := by
      refine ih k (i + 1) _ (by omega) (by omega) (by omega) (by rw [List.length_set]; exact hl) (hw.set _ (by omega) hsum) ?_ ?_
      · intro j hij
        rw [set_getD_ne (by omega)]
        exact hj j (by omega)
      · rw [nv_take_succ (by rw [List.length_set]; omega), take_set_self]
        have e5 : (cur.set i (Y.getD (i + 1) 0 * 2 ^ (64 - s) % 18446744073709551616 + Y.getD i 0 / 2 ^ s)).getD i 0 = Y.getD (i + 1) 0 * 2 ^ (64 - s) % 18446744073709551616 + Y.getD i 0 / 2 ^ s := by
          rw [List.getD_eq_getElem?_getD, List.getElem?_set_self (by omega)]; rfl
        rw [e5, pow64, ← hv, hstep]
        generalize Y.getD (i + 1) 0 * 2 ^ (64 - s) % 18446744073709551616 + Y.getD i 0 / 2 ^ s = v
        generalize nv (Y.drop (i + 1)) / 2 ^ s = D
        generalize (2 : Int) ^ (64 * i) = p
        generalize nv (cur.take i) = T
        grind
    rw [nat_Shr.l0, if_pos (by omega), w64_s i (by omega)]
    by_cases hlast : i + 1 < Y.length
    · rw [if_pos (by omega), if_pos (by omega), if_pos (by omega), if_pos (by omega), rdn, rdn, hj i (Nat.le_refl _), hj (i + 1) (by omega), wide_Shr.f_eq hs hn.1 hn.2 ho.1 ho.2, Option.bind_some, Int.toNat_natCast]
      exact hrec
    · rw [if_neg (by omega), if_pos (by omega), if_pos (by omega), rdn, hj i (Nat.le_refl _), wide_Shr.f_eq hs (by decide) (by decide) ho.1 ho.2, Option.bind_some, Int.toNat_natCast]
      rw [getD_of_le (show Y.length ≤ i + 1 by omega)] at hrec
      exact hrec
theorem bits_lt_pow {a : Nat} (s : Nat) : bitsN (a : Int) ≤ (s : Int) ↔ a < 2 ^ s := by
  by_cases h0 : a = 0
  · subst h0
    rw [show bitsN ((0 : Nat) : Int) = 0 from bitsN_zero]
    exact ⟨fun _ => Nat.pow_pos (by decide), fun _ => by omega⟩
  · have hb := bitsN_pos (x := (a : Int)) (by omega)
    obtain ⟨L, hL⟩ : ∃ n : Nat, bitsN (a : Int) = n + 1 := ⟨(bitsN (a : Int) - 1).toNat, by omega⟩
    have h1 := (bitsN_iff (by omega) L).1 hL
    rw [p2cast, p2cast] at h1
    have h2 : 2 ^ L ≤ a := Int.ofNat_le.1 h1.1
    have h3 : a < 2 ^ (L + 1) := Int.ofNat_lt.1 h1.2
    rw [hL]
    constructor
    · intro h
      exact Nat.lt_of_lt_of_le h3 (Nat.pow_le_pow_right (by decide) (by omega))
    · intro h
      have := (Nat.pow_lt_pow_iff_right (a := 2) (by decide)).1 (Nat.lt_of_le_of_lt h2 h)
      omega
theorem div_bits {a s c : Nat} (h : bitsN (a : Int) ≤ (c : Int) + s) : ((a / 2 ^ s : Nat) : Int) < 2 ^ c := by
  rw [p2cast]
  apply Int.ofNat_lt.2
  rw [Nat.div_lt_iff_lt_mul (Nat.pow_pos (by decide)), ← Nat.pow_add, ← bits_lt_pow]
  omega
theorem nat_Shr.f_eq (l : List Int) (hl : Ws l) (hm : l.length ≤ 17592186044416) (a : Nat) (ha : nv l = (a : Int)) (s : Nat) (hs : s ≤ 4503599627370496) (hb : bitsN (a : Int) ≤ 262144 + s) (k : Nat) (hk : 3 * l.length + 30 < k) :
    nat_Shr.f k l (s : Int) = some (wd (a / 2 ^ s), decide (a % 2 ^ s ≠ 0), 0) := by
  rw [nat_Shr.f, nat_Bits.f_eq l hl (by omega) k (by omega) (by omega), Option.bind_some, if_neg (by omega), ha]
  by_cases h1 : bitsN (a : Int) ≤ s
  · have hlt := (bits_lt_pow s).1 h1
    rw [if_pos h1, Nat.div_eq_of_lt hlt, Nat.mod_eq_of_lt hlt, wd_zero]
    congr 3
    rw [decide_eq_decide]
    constructor
    · intro h hz
      rw [hz] at h
      exact absurd h (by decide)
    · intro h
      have := bitsN_pos (x := (a : Int)) (by omega)
      omega
  · have ha0 : a ≠ 0 := by
      intro h
      apply h1
      rw [h, show bitsN ((0 : Nat) : Int) = 0 from bitsN_zero]
      omega
    have hbl : bitsN (a : Int) ≤ ((64 * l.length : Nat) : Int) := by
      rw [bits_lt_pow]
      have := nv_lt hl
      rw [ha, p2cast] at this
      exact Int.ofNat_lt.1 this
    have e1 : wrap64 (Int.tdiv (s : Int) 64) = ((s / 64 : Nat) : Int) := by
      rw [Int.tdiv_eq_ediv_of_nonneg (by omega), w64_of (by omega) (by omega)]; omega
    have e2 : Int.tmod (s : Int) 64 = ((s % 64 : Nat) : Int) := by
      rw [Int.tmod_eq_emod_of_nonneg (by omega)]; omega
    obtain ⟨z, hz1, hz2⟩ := nat_Zeros.f_eq l hl hm a ha ha0
    have hdec : decide ((z : Int) < (s : Int)) = decide (a % 2 ^ s ≠ 0) := by
      rw [decide_eq_decide, ← hz2 s]; omega
    have hdl : (l.drop (s / 64)).length ≤ l.length := by rw [List.length_drop]; omega
    have hY : Ws (strip (l.drop (s / 64))) := (hl.drop _).strip
    have hYl : (strip (l.drop (s / 64))).length ≤ l.length := Nat.le_trans (strip_length_le _) hdl
    have eY : nv (strip (l.drop (s / 64))) = ((a / 2 ^ (64 * (s / 64)) : Nat) : Int) := by
      have e3 := nv_split (xs := l) (n := s / 64) (by omega)
      have b1 := nv_nonneg (hl.take (s / 64))
      have b2 := nv_take_lt hl (s / 64)
      have hp := two_pow_pos (64 * (s / 64))
      rw [nv_strip, Int.natCast_ediv, ← ha, ← p2cast, e3, Int.add_mul_ediv_left _ _ (Int.ne_of_gt hp), Int.ediv_eq_zero_of_lt b1 b2, Int.zero_add]
    have eq_ : a / 2 ^ (64 * (s / 64)) / 2 ^ (s % 64) = a / 2 ^ s := by
      rw [Nat.div_div_eq_div_mul, ← Nat.pow_add]; congr 2; omega
    have efin : nv (strip (l.drop (s / 64))) / 2 ^ (s % 64) = ((a / 2 ^ s : Nat) : Int) := by
      rw [eY, p2cast, ← Int.natCast_ediv, eq_]
    have hsmall : ((a / 2 ^ s : Nat) : Int) < 2 ^ 262144 := div_bits hb
    rw [if_neg (by omega), w64_of (x := bitsN (a : Int) - (s : Int)) (by omega) (by omega), if_neg (by omega), e1, if_pos (by omega), if_pos (by omega), nat_Norm.f, Int.toNat_natCast, if_pos (by omega), Option.bind_some, e2]
    by_cases h0 : s % 64 = 0
    · rw [h0] at efin ⊢
      rw [Int.pow_zero, Int.ediv_one] at efin
      rw [if_neg (by omega), nat_bound.f_bnd hY (by omega) k (by omega), Option.bind_some, hz1 k (by omega), Option.bind_some, efin, bnd_small hsmall, hdec, Int.toNat_natCast]
    · rw [if_pos (by omega)]
      have r := nat_Shr.l0_eq l (s : Int) (strip (l.drop (s / 64))) hY (s % 64) (by omega) (by omega) (by rw [efin]; exact hsmall) (z : Int) (l.length + 11) (fun k hk => hz1 k (by omega)) (strip (l.drop (s / 64))).length k 0 (strip (l.drop (s / 64))) (by omega) (by omega) (by omega) rfl hY (fun _ _ => rfl) (by simp [nv])
      rw [efin, hdec, Int.toNat_natCast] at r
      exact r
theorem nat_Word.f_eq {n : Nat} (h : n < 18446744073709551616) (k : Nat) (hk : 3 ≤ k) : nat_Word.f k (wd n) = some ((n : Int), true) := by
  have hw := wd_ws n
  have hlen : (wd n).length ≤ 1 := by
    have := wd_len (n := (n : Int)) (t := 1) (by omega) (by rw [show (2 : Int) ^ (64 * 1) = 18446744073709551616 from by decide]; omega)
    rwa [Int.toNat_natCast] at this
  rw [nat_Word.f, nat_size.f_eq (wd n) (by omega) k (by omega), Option.bind_some, strip_wd]
  by_cases h0 : n = 0
  · subst h0
    rw [wd_zero]; rfl
  · rw [wd_pos h0, Nat.div_eq_of_lt h, wd_zero, Nat.mod_eq_of_lt h]
    rfl
end Go.Proofs.YtoefabmlkbhmpaaDoor.PA

namespace Go.Proofs.YtoefabmlkbhmpaaDoor.PA
open Go Go.RowKit Go.Proofs.YtoefabmlkbhmpaaDoorW.PrintWords Go.Proofs.YtoefabmlkbhmpaaDoorW.PrintLast Go.Proofs.YtoefabmlkbhmpaaDoorW.PrintMore
set_option linter.unusedVariables false
set_option linter.unusedSimpArgs false
theorem near_known.f_eq (m : Int) : near_known.f m = some (decide (0 ≤ m ∧ m ≤ 4)) := by
  unfold near_known.f
  by_cases h : m ≥ 0
  · rw [if_pos h]; congr 1; rw [decide_eq_decide]; omega
  · rw [if_neg h, decide_eq_false (by omega)]
/-- a number's bits, from its list -/
theorem bits_len {l : List Int} (hl : Ws l) {a : Nat} (ha : nv l = (a : Int)) : bitsN (a : Int) ≤ ((64 * l.length : Nat) : Int) := by
  rw [bits_lt_pow]
  have := nv_lt hl
  rw [ha, p2cast] at this
  exact Int.ofNat_lt.1 this
theorem bits_nonneg (a : Nat) : 0 ≤ bitsN (a : Int) := by
  by_cases h : a = 0
  · subst h; exact Int.le_refl 0
  · have := bitsN_pos (x := (a : Int)) (by omega); omega
def clip (e : Int) : Int := mn (mx e (-1099511627776)) 1099511627776
theorem clip_le (e : Int) : -1099511627776 ≤ clip e ∧ clip e ≤ 1099511627776 := by unfold clip mn mx; split <;> split <;> omega
theorem clip_id {e : Int} (h1 : -1099511627776 ≤ e) (h2 : e ≤ 1099511627776) : clip e = e := by unfold clip mn mx; split <;> split <;> omega
theorem near_Scaled.f_eq (neg : Bool) (l : List Int) (hl : Ws l) (hm : l.length ≤ 1048576) (a : Nat) (ha : nv l = (a : Int)) (exp : Int) (more : Bool) (mode : Int) (k : Nat) (hk : 4000000 < k) :
    near_Scaled.f k neg l exp more mode = some (if 0 ≤ mode ∧ mode ≤ 4 then RS mode neg (flo a (clip exp) more).1 (flo a (clip exp) more).2 else (0, 71)) := by
  rw [near_Scaled.f, near_known.f_eq, Option.bind_some]
  by_cases hmode : 0 ≤ mode ∧ mode ≤ 4
  · rw [decide_eq_true hmode, if_pos rfl, if_pos hmode, nat_Bits.f_eq l hl (by omega) k (by omega) (by omega), Option.bind_some, ha]
    have hb := bits_len hl ha
    have hb0 := bits_nonneg a
    obtain ⟨s, hs⟩ : ∃ s : Nat, mx (wrap64 (bitsN (a : Int) - 64)) 0 = (s : Int) := ⟨(bitsN (a : Int) - 64).toNat, by
      rw [w64_of (by omega) (by omega)]; unfold mx; split <;> omega⟩
    have hs2 : (s : Int) = if bitsN (a : Int) ≤ 64 then 0 else bitsN (a : Int) - 64 := by
      rw [← hs, w64_of (by omega) (by omega)]; unfold mx; split <;> split <;> omega
    have hsz : s ≤ 67108864 := by clear hs; split at hs2 <;> omega
    have hword : a / 2 ^ s < 18446744073709551616 := by
      rw [Nat.div_lt_iff_lt_mul (Nat.pow_pos (by decide)), show (18446744073709551616 : Nat) = 2 ^ 64 from by decide, ← Nat.pow_add, ← bits_lt_pow]
      clear hs; split at hs2 <;> omega
    have hc := clip_le exp
    have hSh := nat_Shr.f_eq l hl (by omega) a ha s (by omega) (by clear hs; split at hs2 <;> omega) k (by omega)
    have hfl : flo (a / 2 ^ s) (clip exp + (s : Int)) (more || decide (a % 2 ^ s ≠ 0)) = flo a (clip exp) more := by
      by_cases h64 : bitsN (a : Int) ≤ 64
      · rw [if_pos h64] at hs2
        obtain rfl : s = 0 := by omega
        rw [Nat.pow_zero, Nat.div_one, Nat.mod_one, Int.natCast_zero, Int.add_zero]
        simp
      · rw [if_neg h64] at hs2
        apply flo_cut
        rw [Nat.le_div_iff_mul_le (Nat.pow_pos (by decide)), show (9007199254740992 : Nat) = 2 ^ 53 from by decide, ← Nat.pow_add]
        apply Classical.byContradiction
        intro hn
        have := (bits_lt_pow (a := a) (53 + s)).2 (by omega)
        omega
    have hw : wrap64 (clip exp + (s : Int)) = clip exp + (s : Int) := w64_of (by omega) (by omega)
    have hF := fun st => near_finish.f_eq neg mode hmode.1 hmode.2 (a / 2 ^ s) hword (clip exp + (s : Int)) (by omega) (by omega) st k (by omega)
    have ec : mn (mx exp (-1099511627776)) 1099511627776 = clip exp := rfl
    rw [hs, ec, hSh, Option.bind_some, nat_Word.f_eq hword k (by omega), Option.bind_some, hw, ← hfl]
    cases more
    · rw [if_neg (by decide), hF, Option.bind_some, Bool.false_or]
    · rw [if_pos rfl, hF, Option.bind_some, Bool.true_or]
  · rw [decide_eq_false hmode, if_neg (by decide), if_neg hmode]
/-- high enough it lies beyond the greatest -/
theorem flo_big {m : Nat} (hm : 0 < m) {e : Int} (h : 1100 ≤ e + bitsN (m : Int)) (st : Bool) : 9218868437227405311 < (flo m e st).1 := by
  unfold flo
  rw [if_neg (by omega)]
  have hs : 2048 ≤ (e + 1074 + bitsN (m : Int) - 53).toNat := by omega
  generalize (e + 1074 + bitsN (m : Int) - 53).toNat = s at *
  have hb : 9218868437227405311 < s * 4503599627370496 := by omega
  split
  · exact Nat.lt_of_lt_of_le hb (Nat.le_add_right _ _)
  · exact Nat.lt_of_lt_of_le hb (Nat.le_add_right _ _)
/-- low enough it is less than half of the least one -/
theorem flo_small {m : Nat} (hm : 0 < m) {e : Int} (h : e + bitsN (m : Int) < -1199) (st : Bool) : flo m e st = (0, 1) := by
  obtain ⟨L, hL, hb1, hb2⟩ := bits_bounds hm
  unfold flo
  rw [if_neg (by omega)]
  have hs : (e + 1074 + bitsN (m : Int) - 53).toNat = 0 := by omega
  obtain ⟨j, hj⟩ : ∃ j : Nat, ((0 : Nat) : Int) - (e + 1074) = (j : Int) := ⟨(((0 : Nat) : Int) - (e + 1074)).toNat, by omega⟩
  rw [hs, hj, if_pos (by omega), Int.toNat_natCast]
  have h1 : 2 ^ (L + 2) ≤ 2 ^ j := Nat.pow_le_pow_right (by decide) (by omega)
  rw [Nat.pow_succ] at h1
  have hlt : m < 2 ^ j := by omega
  rw [Nat.div_eq_of_lt hlt, Nat.mod_eq_of_lt hlt]
  unfold tailOf
  rw [if_neg (by omega), if_pos (by omega)]
end Go.Proofs.YtoefabmlkbhmpaaDoor.PA

namespace Go.Proofs.YtoefabmlkbhmpaaDoor.PA
open Go Go.RowKit Go.Proofs.YtoefabmlkbhmpaaDoorW.PrintWords Go.Proofs.YtoefabmlkbhmpaaDoorW.PrintLast Go.Proofs.YtoefabmlkbhmpaaDoorW.PrintMore
set_option linter.unusedVariables false
set_option linter.unusedSimpArgs false
theorem near_shl.l0_eq (x : List Int) (hx : Ws x) (q s : Nat) (a1 : Int) (ea : Int.tmod a1 64 = (s : Int)) (hs : s ≤ 63) (hm : x.length + q ≤ 17592186044414) : ∀ (d k i : Nat) (acc : List Int) (c : Int), d = x.length - i → d < k → i ≤ x.length → acc.length = q + i → Ws acc → 0 ≤ c → c < 2 ^ s → nv acc + 2 ^ (64 * (q + i)) * c = nv (x.take i) * 2 ^ s * 2 ^ (64 * q) →
    ∃ r, near_shl.l0 k a1 acc c x (x.length : Int) (i : Int) = some r ∧ Ws r ∧ nv r = nv x * 2 ^ (64 * q + s) ∧ r.length = q + x.length + 1 := by
  have hP := two_pow_pos s
  have hR := two_pow_pos (64 - s)
  have hPR := pow_split (s := s) (by omega)
  have hle : (2 : Int) ^ s ≤ 2 ^ 63 := pow_mono hs
  rw [show (2 : Int) ^ 63 = 9223372036854775808 from by decide] at hle
  intro d
  induction d with
  | zero =>
    intro k i acc c hd hk hi hl hw hc0 hc he
    obtain ⟨k, rfl⟩ : ∃ j, k = j + 1 := ⟨k - 1, by omega⟩
    obtain rfl : i = x.length := by omega
    rw [List.take_length] at he
    refine ⟨acc ++ [c], ?_, hw.append (Ws.cons hc0 (by omega) Ws.nil), ?_, by rw [List.length_append, List.length_singleton]; omega⟩
    · rw [near_shl.l0, if_neg (by omega), if_pos (by omega)]
    · rw [nv_append, hl]
      simp only [nv_cons, nv_nil, Int.mul_zero, Int.add_zero]
      rw [he, Int.mul_assoc, ← Int.pow_add, Nat.add_comm s]
  | succ d ih =>
    intro k i acc c hd hk hi hl hw hc0 hc he
    obtain ⟨k, rfl⟩ : ∃ j, k = j + 1 := ⟨k - 1, by omega⟩
    have ho := hx.getD i
    have hy : x.getD i 0 / 2 ^ (64 - s) < 2 ^ s := Int.ediv_lt_of_lt_mul hR (by rw [hPR]; exact ho.2)
    have hy0 : 0 ≤ x.getD i 0 / 2 ^ (64 - s) := Int.ediv_nonneg ho.1 (Int.le_of_lt hR)
    have hlow := shl_low (x := x.getD i 0) hP hPR
    have hm1 := Int.emod_nonneg (x.getD i 0 * 2 ^ s) (show (18446744073709551616 : Int) ≠ 0 by decide)
    have hm2 := Int.emod_lt_of_pos (x.getD i 0 * 2 ^ s) (show (0 : Int) < 18446744073709551616 by decide)
    have g1 : x.getD i 0 % 2 ^ (64 - s) < 2 ^ (64 - s) := Int.emod_lt_of_pos _ hR
    have hsum : x.getD i 0 * 2 ^ s % 18446744073709551616 + c < 18446744073709551616 := by
      rw [hlow, ← hPR]
      have h3 : 2 ^ s * (x.getD i 0 % 2 ^ (64 - s) + 1) ≤ 2 ^ s * 2 ^ (64 - s) := Int.mul_le_mul_of_nonneg_left g1 (Int.le_of_lt hP)
      rw [Int.mul_add, Int.mul_one] at h3
      omega
    have e2 : Go.bits .or .u64 (x.getD i 0 * 2 ^ s % 18446744073709551616) c = x.getD i 0 * 2 ^ s % 18446744073709551616 + c := or_join s hm1 hm2 (by rw [hlow, Int.mul_emod_right]) hc0 hc (by omega)
    have e3 : nv (acc ++ [x.getD i 0 * 2 ^ s % 18446744073709551616 + c]) + 2 ^ (64 * (q + (i + 1))) * (x.getD i 0 / 2 ^ (64 - s)) = nv (x.take (i + 1)) * 2 ^ s * 2 ^ (64 * q) := by
      rw [nv_append, hl, nv_take_succ (by omega), show q + (i + 1) = (q + i) + 1 from rfl, pow64, Int.add_mul, Int.add_mul, ← he]
      simp only [nv_cons, nv_nil, Int.mul_zero, Int.add_zero]
      have h2 := shl_word (x := x.getD i 0) hP hPR
      have e4 : x.getD i 0 * 2 ^ (64 * i) * 2 ^ s * 2 ^ (64 * q) = x.getD i 0 * 2 ^ s * 2 ^ (64 * (q + i)) := by
        rw [show 64 * (q + i) = 64 * i + 64 * q from by omega, Int.pow_add]; grind
      rw [e4]
      generalize x.getD i 0 * 2 ^ s % 18446744073709551616 = v at *
      rw [h2]
      generalize x.getD i 0 / 2 ^ (64 - s) = u
      generalize (2 : Int) ^ (64 * (q + i)) = p
      grind
    have hz : (0 : Int) * 2 ^ s % 18446744073709551616 + x.getD i 0 / 2 ^ (64 - s) = x.getD i 0 / 2 ^ (64 - s) := by rw [Int.zero_mul, Int.zero_emod, Int.zero_add]
    obtain ⟨r, h1, h2, h3, h4⟩ := ih k (i + 1) (acc ++ [x.getD i 0 * 2 ^ s % 18446744073709551616 + c]) (x.getD i 0 / 2 ^ (64 - s)) (by omega) (by omega) (by omega) (by rw [List.length_append, List.length_singleton]; omega) (hw.append (Ws.cons (by omega) hsum Ws.nil)) hy0 hy e3
    refine ⟨r, ?_, h2, h3, h4⟩
    rw [near_shl.l0, if_pos (by omega), if_pos (by omega), if_pos (by omega), rdn, ea, wide_Shl.f_eq0 hs (by decide) (by decide) ho.1 ho.2, Option.bind_some, if_pos (by omega), e2, hz, w64_s i (by omega)]
    exact h1
theorem near_shl.f_eq (x : List Int) (hx : Ws x) (n : Nat) (hn : n ≤ 4503599627370496) (hm : x.length + n / 64 ≤ 17592186044414) (k : Nat) (hk : x.length < k) : ∃ r, near_shl.f k x (n : Int) = some r ∧ Ws r ∧ nv r = nv x * 2 ^ n ∧ r.length = n / 64 + x.length + 1 := by
  have e1 : wrap64 (Int.tdiv (n : Int) 64) = ((n / 64 : Nat) : Int) := by
    rw [Int.tdiv_eq_ediv_of_nonneg (by omega), w64_of (by omega) (by omega)]; omega
  have e2 : Int.tmod (n : Int) 64 = ((n % 64 : Nat) : Int) := by
    rw [Int.tmod_eq_emod_of_nonneg (by omega)]; omega
  obtain ⟨r, h1, h2, h3, h4⟩ := near_shl.l0_eq x hx (n / 64) (n % 64) (n : Int) e2 (by omega) hm x.length k 0 (List.replicate (n / 64) 0) 0 (by omega) hk (by omega) (by simp) (Ws.zeros _) (by decide) (two_pow_pos _) (by rw [nv_zeros]; simp [nv])
  rw [show 64 * (n / 64) + n % 64 = n from by omega] at h3
  refine ⟨r, ?_, h2, h3, h4⟩
  rw [near_shl.f, e1, if_pos (by omega), Int.toNat_natCast, if_pos (by omega)]
  exact h1
end Go.Proofs.YtoefabmlkbhmpaaDoor.PA

namespace Go.Proofs.YtoefabmlkbhmpaaDoor.PA
open Go Go.RowKit Go.Proofs.YtoefabmlkbhmpaaDoorW.PrintWords Go.Proofs.YtoefabmlkbhmpaaDoorW.PrintLast Go.Proofs.YtoefabmlkbhmpaaDoorW.PrintMore
set_option linter.unusedVariables false
set_option linter.unusedSimpArgs false
/-- the first bits of A / B, at the exponent e -/
def qX (A : Nat) (e : Int) : Nat := A * 2 ^ (-e).toNat
def qY (B : Nat) (e : Int) : Nat := B * 2 ^ e.toNat
theorem qY_pos {B : Nat} (h : 0 < B) (e : Int) : 0 < qY B e := Nat.mul_pos h (Nat.pow_pos (by decide))
theorem quo_key (A B : Nat) (e : Int) (m : Nat) : (m * qY B e) * 2 ^ (e + 1074).toNat = (m * 2 ^ (e + 1074).toNat * qQ B 0) * 2 ^ e.toNat ∧ qX A e * 2 ^ (e + 1074).toNat = (qP A 0 * 2 ^ (-(e + 1074)).toNat) * 2 ^ e.toNat := by
  have e0 : qQ B 0 = B := by unfold qQ; rw [show (-((0 : Int) + 1074)).toNat = 0 from rfl, Nat.pow_zero, Nat.mul_one]
  constructor
  · rw [e0]
    unfold qY
    generalize 2 ^ e.toNat = x
    generalize 2 ^ (e + 1074).toNat = y
    grind
  · obtain ⟨z, e1, ez⟩ : ∃ z : Nat, ((0 : Int) + 1074).toNat = z ∧ (z : Int) = 1074 := ⟨_, rfl, rfl⟩
    unfold qX qP
    rw [e1, Nat.mul_assoc, Nat.mul_assoc, Nat.mul_assoc, ← Nat.pow_add, ← Nat.pow_add, ← Nat.pow_add]
    congr 2
    omega
/-- the place of A / B, by its first bits -/
theorem quo_Rd {A B : Nat} (hB : 0 < B) (e : Int) (hm : 9007199254740992 ≤ qX A e / qY B e) :
    Rd (qP A 0) (qQ B 0) (flo (qX A e / qY B e) e (decide (qX A e % qY B e ≠ 0))).1 ∧ tl (qP A 0) (qQ B 0) false (flo (qX A e / qY B e) e (decide (qX A e % qY B e ≠ 0))).1 = (flo (qX A e / qY B e) e (decide (qX A e % qY B e ≠ 0))).2 := by
  have hY := qY_pos hB e
  have hp : 0 < 2 ^ e.toNat := Nat.pow_pos (by decide)
  have hT : 0 < 2 ^ (e + 1074).toNat := Nat.pow_pos (by decide)
  have hdm := Nat.div_add_mod (qX A e) (qY B e)
  have hmod := Nat.mod_lt (qX A e) hY
  obtain ⟨k1, k2⟩ := quo_key A B e (qX A e / qY B e)
  obtain ⟨k3, _⟩ := quo_key A B e (qX A e / qY B e + 1)
  have hle : qX A e / qY B e * qY B e ≤ qX A e := Nat.div_mul_le_self _ _
  have hlt : qX A e < (qX A e / qY B e + 1) * qY B e := by rw [Nat.add_mul, Nat.one_mul, Nat.mul_comm (qX A e / qY B e)]; omega
  refine flo_Rd (qQ_pos hB 0) (by omega) ?_ ?_ ?_ (.inr hm)
  · apply Nat.le_of_mul_le_mul_right _ hp
    rw [← k1, ← k2]
    exact Nat.mul_le_mul_right _ hle
  · apply Nat.lt_of_mul_lt_mul_right (a := 2 ^ e.toNat)
    rw [← k3, ← k2]
    exact Nat.mul_lt_mul_of_pos_right hlt hT
  · have : (qP A 0 * 2 ^ (-(e + 1074)).toNat ≠ qX A e / qY B e * 2 ^ (e + 1074).toNat * qQ B 0) ↔ qX A e % qY B e ≠ 0 := by
      constructor
      · intro h hz
        apply h
        apply Nat.eq_of_mul_eq_mul_right hp
        rw [← k1, ← k2]
        congr 1
        rw [Nat.mul_comm]; omega
      · intro h hz
        apply h
        have h2 : qX A e * 2 ^ (e + 1074).toNat = qX A e / qY B e * qY B e * 2 ^ (e + 1074).toNat := by rw [k1, k2, hz]
        have h3 := Nat.eq_of_mul_eq_mul_right hT h2
        rw [Nat.mul_comm] at h3
        omega
    rw [this]
    simp
/-- the first bits are 62 or 63 -/
theorem quo_bits {A B a b : Nat} (hA1 : 2 ^ a ≤ A) (hA2 : A < 2 ^ (a + 1)) (hB1 : 2 ^ b ≤ B) (hB2 : B < 2 ^ (b + 1)) (e : Int) (he : e = (a : Int) - b - 62) :
    2 ^ 61 ≤ qX A e / qY B e ∧ qX A e / qY B e < 2 ^ 63 := by
  have hB : 0 < B := Nat.lt_of_lt_of_le (Nat.pow_pos (by decide)) hB1
  have hY := qY_pos hB e
  have hp : 0 < 2 ^ (-e).toNat := Nat.pow_pos (by decide)
  have hq : 0 < 2 ^ e.toNat := Nat.pow_pos (by decide)
  constructor
  · rw [Nat.le_div_iff_mul_le hY]
    unfold qX qY
    have h1 : 2 ^ 61 * (B * 2 ^ e.toNat) ≤ 2 ^ 61 * (2 ^ (b + 1) * 2 ^ e.toNat) := Nat.mul_le_mul_left _ (Nat.mul_le_mul_right _ (Nat.le_of_lt hB2))
    have h2 : 2 ^ a * 2 ^ (-e).toNat ≤ A * 2 ^ (-e).toNat := Nat.mul_le_mul_right _ hA1
    have h3 : 2 ^ 61 * (2 ^ (b + 1) * 2 ^ e.toNat) = 2 ^ a * 2 ^ (-e).toNat := by
      rw [← Nat.pow_add, ← Nat.pow_add, ← Nat.pow_add]; congr 1; omega
    exact Nat.le_trans h1 (by rw [h3]; exact h2)
  · rw [Nat.div_lt_iff_lt_mul hY]
    unfold qX qY
    have h1 : A * 2 ^ (-e).toNat < 2 ^ (a + 1) * 2 ^ (-e).toNat := Nat.mul_lt_mul_of_pos_right hA2 hp
    have h2 : 2 ^ 63 * (2 ^ b * 2 ^ e.toNat) ≤ 2 ^ 63 * (B * 2 ^ e.toNat) := Nat.mul_le_mul_left _ (Nat.mul_le_mul_right _ hB1)
    have h3 : 2 ^ (a + 1) * 2 ^ (-e).toNat = 2 ^ 63 * (2 ^ b * 2 ^ e.toNat) := by
      rw [← Nat.pow_add, ← Nat.pow_add, ← Nat.pow_add]; congr 1; omega
    exact Nat.lt_of_lt_of_le h1 (by rw [h3]; exact h2)
def quoR (mode : Int) (neg : Bool) (A B : Nat) (e : Int) : Int × Int :=
  RS mode neg (flo (qX A e / qY B e) e (decide (qX A e % qY B e ≠ 0))).1 (flo (qX A e / qY B e) e (decide (qX A e % qY B e ≠ 0))).2
/-- what both tell of A / B -/
def quo (mode : Int) (neg : Bool) (A B : Nat) : Int × Int :=
  if 0 ≤ mode ∧ mode ≤ 4 then
    (if B = 0 then (0, 50) else if A = 0 then RS mode neg 0 0 else quoR mode neg A B (bitsN (A : Int) - bitsN (B : Int) - 62))
  else (0, 71)
theorem strip_len_zero {l : List Int} (hl : Ws l) {A : Nat} (ha : nv l = (A : Int)) : ((strip l).length : Int) = 0 ↔ A = 0 := by
  have h := strip_length_pos hl
  rw [ha] at h
  omega
theorem near_Quotient.f_eq (neg : Bool) (x y : List Int) (hx : Ws x) (hy : Ws y) (hmx : x.length ≤ 1048576) (hmy : y.length ≤ 1048576) (A B : Nat) (eA : nv x = (A : Int)) (eB : nv y = (B : Int)) (mode : Int) (k : Nat) (hk : 100000000 < k) :
    near_Quotient.f k neg x y mode = some (quo mode neg A B) := by
  have hX : Ws (strip x) := hx.strip
  have hY : Ws (strip y) := hy.strip
  have lX : (strip x).length ≤ 1048576 := Nat.le_trans (strip_length_le x) hmx
  have lY : (strip y).length ≤ 1048576 := Nat.le_trans (strip_length_le y) hmy
  have eX : nv (strip x) = (A : Int) := by rw [nv_strip, eA]
  have eY : nv (strip y) = (B : Int) := by rw [nv_strip, eB]
  rw [near_Quotient.f, nat_Norm.f, if_pos (by omega), Option.bind_some, nat_Norm.f, if_pos (by omega), Option.bind_some, near_known.f_eq, Option.bind_some]
  unfold quo
  by_cases hmode : 0 ≤ mode ∧ mode ≤ 4
  · rw [decide_eq_true hmode, if_pos rfl, if_pos hmode]
    have zB := strip_len_zero hy eB
    have zA := strip_len_zero hx eA
    by_cases hB : B = 0
    · rw [if_pos (zB.2 hB), if_pos hB]
    · rw [if_neg (fun h => hB (zB.1 h)), if_neg hB]
      by_cases hA : A = 0
      · have r := near_finish.f_eq neg mode hmode.1 hmode.2 0 (by decide) 0 (by decide) (by decide) false k (by omega)
        have hfl : flo 0 0 false = (0, 0) := by unfold flo; rw [if_pos rfl]; rfl
        rw [hfl] at r
        have r' : near_finish.f k neg 0 0 false mode = some (RS mode neg 0 0) := r
        rw [if_pos (zA.2 hA), if_pos hA, r', Option.bind_some]
      · rw [if_neg (fun h => hA (zA.1 h)), if_neg hA, nat_Bits.f_eq _ hX (by omega) k (by omega) (by omega), Option.bind_some, nat_Bits.f_eq _ hY (by omega) k (by omega) (by omega), Option.bind_some, eX, eY]
        obtain ⟨a, ha, hA1, hA2⟩ := bits_bounds (m := A) (by omega)
        obtain ⟨b, hb, hB1, hB2⟩ := bits_bounds (m := B) (by omega)
        have bA := bits_len hX eX
        have bB := bits_len hY eY
        have hbits := quo_bits hA1 hA2 hB1 hB2 ((a : Int) - b - 62) rfl
        rw [ha] at bA
        rw [hb] at bB
        have ee : ((a : Int) + 1 - ((b : Int) + 1) - 62) = (a : Int) - b - 62 := by omega
        have w1 : wrap64 ((a : Int) + 1 - ((b : Int) + 1)) = (a : Int) - b := by rw [w64_of (by omega) (by omega)]; omega
        have w2 : wrap64 ((a : Int) - b - 62) = (a : Int) - b - 62 := w64_of (by omega) (by omega)
        rw [ha, hb, ee, w1, w2]
        unfold quoR
        rw [show (2 : Nat) ^ 61 = 2305843009213693952 from by decide, show (2 : Nat) ^ 63 = 9223372036854775808 from by decide] at hbits
        generalize hm : qX A ((a : Int) - b - 62) / qY B ((a : Int) - b - 62) = m at *
        generalize hst : decide (qX A ((a : Int) - b - 62) % qY B ((a : Int) - b - 62) ≠ 0) = st at *
        have bm : 62 ≤ bitsN (m : Int) ∧ bitsN (m : Int) ≤ 63 := by
          constructor
          · apply Classical.byContradiction
            intro h
            have := (bits_lt_pow (a := m) 61).1 (by omega)
            rw [show (2 : Nat) ^ 61 = 2305843009213693952 from by decide] at this
            omega
          · have := (bits_lt_pow (a := m) 63).2 (by rw [show (2 : Nat) ^ 63 = 9223372036854775808 from by decide]; omega)
            omega
        have hF := near_finish.f_eq neg mode hmode.1 hmode.2
        by_cases c1 : (a : Int) - b > 1100
        · have r := hF 1 (by decide) ((a : Int) - b) (by omega) (by omega) true k (by omega)
          have r' : near_finish.f k neg 1 ((a : Int) - b) true mode = _ := r
          have b1 : bitsN ((1 : Nat) : Int) = 1 := rfl
          rw [if_pos c1, r', Option.bind_some, RS_big mode neg (flo_big (m := 1) (e := (a : Int) - b) (by decide) (by omega) true), RS_big mode neg (flo_big (m := m) (e := (a : Int) - b - 62) (by omega) (by omega) st)]
        · rw [if_neg c1]
          by_cases c2 : (a : Int) - b < -1200
          · have r := hF 0 (by decide) 0 (by decide) (by decide) true k (by omega)
            have hfl : flo 0 0 true = (0, 1) := by unfold flo; rw [if_pos rfl]; rfl
            rw [hfl] at r
            have r' : near_finish.f k neg 0 0 true mode = some (RS mode neg 0 1) := r
            rw [if_pos c2, r', Option.bind_some, flo_small (m := m) (e := (a : Int) - b - 62) (by omega) (by omega) st]
          · rw [if_neg c2]
            have rr := hF m (by omega) ((a : Int) - b - 62) (by omega) (by omega) st k (by omega)
            have hlen : ∀ z : Nat, decide (((wd z).length : Int) > 0) = decide (z ≠ 0) := by
              intro z
              rw [decide_eq_decide]
              have := @wd_eq_nil z
              constructor
              · intro h hz
                rw [this.2 hz] at h
                exact absurd h (by decide)
              · intro h
                rcases Nat.eq_zero_or_pos (wd z).length with h0 | h0
                · exact absurd (this.1 (List.eq_nil_of_length_eq_zero h0)) h
                · omega
            have hdm : ∀ (p q : List Int) (P Q : Nat), Ws p → Ws q → p.length ≤ 2000000 → q.length ≤ 2000000 → nv p = (P : Int) → nv q = (Q : Int) → Q ≠ 0 → quot_DivMod.f k p q = some (wd (P / Q), wd (P % Q), 0) := by
              intro p q P Q hp hq lp lq ep eq_ hQ
              rw [quot_DivMod.f_eq p q hp hq (by omega) (by omega) k (by omega) (by omega), ep, eq_, if_neg (by omega), ← Int.natCast_ediv, ← Int.natCast_emod, Int.toNat_natCast, Int.toNat_natCast]
            by_cases c3 : (a : Int) - b - 62 > 0
            · obtain ⟨n, hn⟩ : ∃ n : Nat, (a : Int) - b - 62 = (n : Int) := ⟨((a : Int) - b - 62).toNat, by omega⟩
              obtain ⟨r, h1, h2, h3, h4⟩ := near_shl.f_eq (strip y) hY n (by omega) (by omega) k (by omega)
              have eqX : qX A ((a : Int) - b - 62) = A := by unfold qX; rw [hn, show (-(n : Int)).toNat = 0 from by omega, Nat.pow_zero, Nat.mul_one]
              have eqY : nv r = ((qY B ((a : Int) - b - 62) : Nat) : Int) := by unfold qY; rw [h3, eY, hn, Int.toNat_natCast, p2cast, Int.natCast_mul]
              have hd := hdm (strip x) r A _ hX h2 (by omega) (by omega) eX eqY (Nat.ne_of_gt (qY_pos (by omega) _))
              rw [eqX] at hm hst
              rw [hm] at hd
              rw [if_pos c3, hn, h1, Option.bind_some, hd, Option.bind_some, nat_Word.f_eq (by omega) k (by omega), Option.bind_some, hlen, hst, ← hn, rr, Option.bind_some]
            · obtain ⟨n, hn⟩ : ∃ n : Nat, -((a : Int) - b - 62) = (n : Int) := ⟨(-((a : Int) - b - 62)).toNat, by omega⟩
              have w3 : wrap64 (-((a : Int) - b - 62)) = (n : Int) := by rw [hn, w64_of (by omega) (by omega)]
              obtain ⟨r, h1, h2, h3, h4⟩ := near_shl.f_eq (strip x) hX n (by omega) (by omega) k (by omega)
              have eqY : qY B ((a : Int) - b - 62) = B := by unfold qY; rw [show ((a : Int) - b - 62).toNat = 0 from by omega, Nat.pow_zero, Nat.mul_one]
              have eqX : nv r = ((qX A ((a : Int) - b - 62) : Nat) : Int) := by unfold qX; rw [h3, eX, hn, Int.toNat_natCast, p2cast, Int.natCast_mul]
              have hd := hdm r (strip y) _ B h2 hY (by omega) (by omega) eqX eY hB
              rw [eqY] at hm hst
              rw [hm] at hd
              rw [if_neg c3, w3, h1, Option.bind_some, hd, Option.bind_some, nat_Word.f_eq (by omega) k (by omega), Option.bind_some, hlen, hst, rr, Option.bind_some]
  · rw [decide_eq_false hmode, if_neg (by decide), if_neg hmode]
end Go.Proofs.YtoefabmlkbhmpaaDoor.PA

namespace Go.Proofs.YtoefabmlkbhmpaaDoor.PA
open Go Go.RowKit Go.Proofs.YtoefabmlkbhmpaaDoorW.PrintWords Go.Proofs.YtoefabmlkbhmpaaDoorW.PrintLast Go.Proofs.YtoefabmlkbhmpaaDoorW.PrintMore
set_option linter.unusedVariables false
set_option linter.unusedSimpArgs false
theorem Rd.scale {P Q d c : Nat} (hc : 0 < c) : Rd (P * c) (Q * c) d ↔ Rd P Q d := by
  constructor
  · rintro ⟨h1, h2⟩
    exact ⟨Nat.le_of_mul_le_mul_right (by rw [Nat.mul_assoc]; exact h1) hc, Nat.lt_of_mul_lt_mul_right (a := c) (by rw [Nat.mul_assoc]; exact h2)⟩
  · rintro ⟨h1, h2⟩
    refine ⟨?_, ?_⟩
    · rw [← Nat.mul_assoc]; exact Nat.mul_le_mul_right c h1
    · rw [← Nat.mul_assoc]; exact Nat.mul_lt_mul_of_pos_right h2 hc
theorem tl_scale {P Q c : Nat} (hc : 0 < c) (more : Bool) (d : Nat) : tl (P * c) (Q * c) more d = tl P Q more d := by
  have e1 : (P * c = pV d * (Q * c)) = (P = pV d * Q) := propext (by
    rw [← Nat.mul_assoc]; exact ⟨fun h => Nat.eq_of_mul_eq_mul_right hc h, fun h => by rw [h]⟩)
  have e2 : (2 * (P * c) < (2 * pV d + pU d) * (Q * c)) = (2 * P < (2 * pV d + pU d) * Q) := propext (by
    rw [← Nat.mul_assoc, ← Nat.mul_assoc]; exact ⟨fun h => Nat.lt_of_mul_lt_mul_right h, fun h => Nat.mul_lt_mul_of_pos_right h hc⟩)
  have e3 : (2 * (P * c) = (2 * pV d + pU d) * (Q * c)) = (2 * P = (2 * pV d + pU d) * Q) := propext (by
    rw [← Nat.mul_assoc, ← Nat.mul_assoc]; exact ⟨fun h => Nat.eq_of_mul_eq_mul_right hc h, fun h => by rw [h]⟩)
  unfold tl
  simp only [e1, e2, e3]
theorem Rd.cross {P Q P' Q' d : Nat} (hQ : 0 < Q) (hQ' : 0 < Q') (e : P * Q' = P' * Q) (h : Rd P Q d) : Rd P' Q' d := by
  have h1 := (Rd.scale (c := Q') hQ').2 h
  rw [e, Nat.mul_comm Q Q'] at h1
  exact (Rd.scale hQ).1 h1
theorem tl_cross {P Q P' Q' : Nat} (hQ : 0 < Q) (hQ' : 0 < Q') (e : P * Q' = P' * Q) (more : Bool) (d : Nat) : tl P Q more d = tl P' Q' more d := by
  rw [← tl_scale hQ', e, Nat.mul_comm Q Q', tl_scale hQ]
theorem le_pV (d : Nat) : d ≤ pV d := by
  induction d with
  | zero => exact Nat.zero_le _
  | succ d ih => have := pV_lt_succ d; omega
theorem Rd.there {P Q : Nat} (hQ : 0 < Q) : ∃ d, Rd P Q d := by
  have key : ∀ n, P < pV n * Q → ∃ d, Rd P Q d := by
    intro n
    induction n with
    | zero => intro h; rw [pV_zero, Nat.zero_mul] at h; omega
    | succ n ih =>
      intro h
      by_cases h1 : P < pV n * Q
      · exact ih h1
      · exact ⟨n, by omega, h⟩
  refine key (P + 1) ?_
  have h1 : (P + 1) * 1 ≤ pV (P + 1) * Q := Nat.mul_le_mul (le_pV _) hQ
  omega
theorem tl_le (P Q : Nat) (more : Bool) (d : Nat) : tl P Q more d ≤ 3 := by
  unfold tl
  split
  · split <;> decide
  · split
    · decide
    · split
      · split <;> decide
      · decide
theorem Rd.mono {P Q P' Q' d d' : Nat} (hQ : 0 < Q) (hQ' : 0 < Q') (h : Rd P Q d) (h' : Rd P' Q' d') (le : P * Q' ≤ P' * Q) : d < d' ∨ (d = d' ∧ tl P Q false d ≤ tl P' Q' false d') := by
  have h1 := (Rd.scale (c := Q') hQ').2 h
  have h2 := (Rd.scale (c := Q) hQ).2 h'
  rw [Nat.mul_comm Q' Q] at h2
  rw [← tl_scale (P := P) hQ', ← tl_scale (P := P') hQ, Nat.mul_comm Q' Q]
  have hD : 0 < Q * Q' := Nat.mul_pos hQ hQ'
  generalize P * Q' = A at *
  generalize P' * Q = B at *
  generalize Q * Q' = D at *
  by_cases hlt : d < d'
  · exact .inl hlt
  · have hd : d ≤ d' := (h2.le_iff d).1 (Nat.le_trans h1.lo le)
    obtain rfl : d = d' := by omega
    refine .inr ⟨rfl, ?_⟩
    have hl := h1.lo
    have hu : 1 * 1 ≤ pU d * D := Nat.mul_le_mul (pU_pos d) hD
    have ey : (2 * pV d + pU d) * D = 2 * (pV d * D) + pU d * D := by rw [Nat.add_mul, Nat.mul_assoc]
    unfold tl
    rw [ey]
    generalize pV d * D = x at *
    generalize pU d * D = y at *
    clear h1 h2 h h'
    by_cases a1 : A = x
    · rw [if_pos a1]
      exact Nat.zero_le _
    · rw [if_neg a1, if_neg (show ¬ B = x by omega)]
      by_cases a2 : 2 * A < 2 * x + y
      · rw [if_pos a2]
        by_cases b2 : 2 * B < 2 * x + y
        · rw [if_pos b2]; exact Nat.le_refl _
        · rw [if_neg b2]
          split <;> decide
      · rw [if_neg a2, if_neg (show ¬ 2 * B < 2 * x + y by omega)]
        by_cases a3 : 2 * A = 2 * x + y
        · rw [if_pos a3]
          by_cases b3 : 2 * B = 2 * x + y
          · rw [if_pos b3]; exact Nat.le_refl _
          · rw [if_neg b3]; decide
        · rw [if_neg a3, if_neg (show ¬ 2 * B = 2 * x + y by omega)]
          exact Nat.le_refl _
/-- what Even makes of a place and a tail -/
def rn (d t : Nat) : Nat := if upB 0 false (d % 2 == 1) t then d + 1 else d
theorem upB_even (odd : Bool) (t : Nat) : upB 0 false odd t = (t == 3 || (t == 2 && odd)) := rfl
theorem rn_mono {d t d' t' : Nat} (ht : t' ≤ 3) (h : d < d' ∨ (d = d' ∧ t ≤ t')) : rn d t ≤ rn d' t' := by
  unfold rn
  rw [upB_even, upB_even]
  rcases h with h | ⟨rfl, h⟩
  · split <;> split <;> omega
  · by_cases a : t = 3
    · obtain rfl : t' = 3 := by omega
      subst a
      exact Nat.le_refl _
    · have a3 : (t == 3) = false := beq_eq_false_iff_ne.2 a
      by_cases b : t = 2
      · subst b
        have : t' = 2 ∨ t' = 3 := by omega
        rcases this with rfl | rfl
        · exact Nat.le_refl _
        · rw [if_pos (show ((3 : Nat) == 3 || ((3 : Nat) == 2 && d % 2 == 1)) = true from rfl)]
          split <;> omega
      · have b3 : (t == 2) = false := beq_eq_false_iff_ne.2 b
        rw [a3, b3, if_neg (by simp)]
        split <;> omega
/-- P / Q rounded by Even is the z-th pattern -/
def Rnd (P Q z : Nat) : Prop := ∃ d, Rd P Q d ∧ z = rn d (tl P Q false d)
theorem Rnd.there {P Q : Nat} (hQ : 0 < Q) : ∃ z, Rnd P Q z := by
  obtain ⟨d, h⟩ := Rd.there (P := P) hQ
  exact ⟨_, d, h, rfl⟩
theorem Rnd.mono {P Q P' Q' z z' : Nat} (hQ : 0 < Q) (hQ' : 0 < Q') (h : Rnd P Q z) (h' : Rnd P' Q' z') (le : P * Q' ≤ P' * Q) : z ≤ z' := by
  obtain ⟨d, h1, rfl⟩ := h
  obtain ⟨d', h2, rfl⟩ := h'
  exact rn_mono (tl_le _ _ _ _) (Rd.mono hQ hQ' h1 h2 le)
theorem Rnd.uniq {P Q P' Q' z z' : Nat} (hQ : 0 < Q) (hQ' : 0 < Q') (h : Rnd P Q z) (h' : Rnd P' Q' z') (e : P * Q' = P' * Q) : z = z' :=
  Nat.le_antisymm (h.mono hQ hQ' h' (Nat.le_of_eq e)) (h'.mono hQ' hQ h (Nat.le_of_eq e.symm))
theorem Rnd.cross {P Q P' Q' z : Nat} (hQ : 0 < Q) (hQ' : 0 < Q') (e : P * Q' = P' * Q) (h : Rnd P Q z) : Rnd P' Q' z := by
  obtain ⟨d, h1, rfl⟩ := h
  exact ⟨d, h1.cross hQ hQ' e, by rw [tl_cross hQ hQ' e]⟩
theorem Rnd.flo {m : Nat} (hm : 0 < m) (e : Int) : Rnd (m * 2 ^ (e + 1074).toNat) (2 ^ (-(e + 1074)).toNat) (rn (PA.flo m e false).1 (PA.flo m e false).2) := by
  obtain ⟨h1, h2⟩ := flo_exact hm e false
  exact ⟨_, h1, by rw [h2]⟩
/-- the units of the places -/
def uN : Nat := 1074
theorem uN_eq : uN = 1074 := rfl
end Go.Proofs.YtoefabmlkbhmpaaDoor.PA

namespace Go.Proofs.YtoefabmlkbhmpaaDoor.PA
open Go Go.RowKit Go.Proofs.YtoefabmlkbhmpaaDoorW.PrintWords Go.Proofs.YtoefabmlkbhmpaaDoorW.PrintLast Go.Proofs.YtoefabmlkbhmpaaDoorW.PrintMore
set_option linter.unusedVariables false
set_option linter.unusedSimpArgs false
theorem quo_pos (mode : Int) (neg : Bool) {A B : Nat} (hA : 0 < A) (hB : 0 < B) (h0 : 0 ≤ mode) (h4 : mode ≤ 4) : ∃ d t, Rd (qP A 0) (qQ B 0) d ∧ tl (qP A 0) (qQ B 0) false d = t ∧ quo mode neg A B = RS mode neg d t := by
  obtain ⟨a, ha, hA1, hA2⟩ := bits_bounds (m := A) hA
  obtain ⟨b, hb, hB1, hB2⟩ := bits_bounds (m := B) hB
  have hbits := quo_bits hA1 hA2 hB1 hB2 ((a : Int) - b - 62) rfl
  rw [show (2 : Nat) ^ 61 = 2305843009213693952 from by decide] at hbits
  obtain ⟨r1, r2⟩ := quo_Rd (A := A) (B := B) hB ((a : Int) - b - 62) (by omega)
  refine ⟨_, _, r1, r2, ?_⟩
  unfold quo
  rw [if_pos ⟨h0, h4⟩, if_neg (by omega), if_neg (by omega), ha, hb, show ((a : Int) + 1 - ((b : Int) + 1) - 62) = (a : Int) - b - 62 from by omega]
  rfl
theorem qP_zero (A : Nat) : qP A 0 = A * 2 ^ uN := by
  unfold qP
  rw [show ((0 : Int) + 1074).toNat = uN from rfl]
theorem qQ_zero (B : Nat) : qQ B 0 = B := by unfold qQ; rw [show (-((0 : Int) + 1074)).toNat = 0 from rfl, Nat.pow_zero, Nat.mul_one]
end Go.Proofs.YtoefabmlkbhmpaaDoor.PA

namespace Go.Proofs.YtoefabmlkbhmpaaDoor.PA
open Go Go.RowKit Go.Proofs.YtoefabmlkbhmpaaDoorW.PrintWords Go.Proofs.YtoefabmlkbhmpaaDoorW.PrintLast Go.Proofs.YtoefabmlkbhmpaaDoorW.PrintMore
set_option linter.unusedVariables false
set_option linter.unusedSimpArgs false
end Go.Proofs.YtoefabmlkbhmpaaDoor.PA

namespace Go.Proofs.YtoefabmlkbhmpaaDoor.PA
open Go Go.RowKit Go.Proofs.YtoefabmlkbhmpaaDoorW.PrintWords Go.Proofs.YtoefabmlkbhmpaaDoorW.PrintLast Go.Proofs.YtoefabmlkbhmpaaDoorW.PrintMore
set_option linter.unusedVariables false
set_option linter.unusedSimpArgs false
theorem bnd_nat {x n c : Nat} (hc : c = 262144) (h : x < 2 ^ n) (hn : n ≤ c) : bnd (x : Int) = (wd x, 0) := by
  have h1 : (x : Int) < 2 ^ c := by
    rw [p2cast]
    exact Int.ofNat_lt.2 (Nat.lt_of_lt_of_le h (Nat.pow_le_pow_right (by decide) hn))
  rw [hc] at h1
  have h2 := bnd_small h1
  rw [Int.toNat_natCast] at h2
  exact h2
theorem wd_lenb {x n : Nat} (h : x < 2 ^ n) (m : Nat) (hm : n ≤ 64 * m) : (wd x).length ≤ m := wd_length_le (Nat.lt_of_lt_of_le h (Nat.pow_le_pow_right (by decide) hm))
theorem shl_ok (l : List Int) (hl : Ws l) (hlen : l.length ≤ 1000000) (X s : Nat) (hv : nv l = (X : Int)) (hs : s ≤ 1000000) {n : Nat} (h : X * 2 ^ s < 2 ^ n) (c : Nat) (hc : c = 262144) (hn : n ≤ c) (k : Nat) (hk : 3000000 < k) :
    ∃ r, nat_Shl.f k l (s : Int) = some (r, 0) ∧ Ws r ∧ nv r = ((X * 2 ^ s : Nat) : Int) ∧ r.length ≤ 4096 := by
  have q : ¬ (s : Int) < 0 := by omega
  rw [nat_Shl.f_eq l hl hlen s (by omega) k hk, if_neg q, hv]
  by_cases h0 : X = 0
  · subst h0
    refine ⟨[], by rw [if_pos (show ((0 : Nat) : Int) = 0 from rfl)], Ws.nil, ?_, Nat.zero_le _⟩
    rw [Nat.zero_mul]; rfl
  · have q1 : ¬ (X : Int) = 0 := by omega
    have e : (X : Int) * 2 ^ (s : Int).toNat = ((X * 2 ^ s : Nat) : Int) := by rw [Int.natCast_mul, Int.toNat_natCast, p2cast]
    rw [if_neg q1, e, bnd_nat hc h hn]
    exact ⟨_, rfl, wd_ws _, nv_wd _, wd_lenb h 4096 (by omega)⟩
end Go.Proofs.YtoefabmlkbhmpaaDoor.PA

namespace Go.Proofs.YtoefabmlkbhmpaaDoor.PA
open Go Go.RowKit Go.Proofs.YtoefabmlkbhmpaaDoorW.PrintWords Go.Proofs.YtoefabmlkbhmpaaDoorW.PrintLast Go.Proofs.YtoefabmlkbhmpaaDoorW.PrintMore
set_option linter.unusedVariables false
set_option linter.unusedSimpArgs false
theorem quo_zero (mode : Int) (neg : Bool) {B : Nat} (hB : 0 < B) (h0 : 0 ≤ mode) (h4 : mode ≤ 4) : quo mode neg 0 B = RS mode neg 0 0 := by
  unfold quo
  rw [if_pos ⟨h0, h4⟩, if_neg (by omega), if_pos rfl]
theorem quo_same (mode : Int) (neg : Bool) (h0 : 0 ≤ mode) (h4 : mode ≤ 4) {A B A' B' : Nat} (hB : 0 < B) (hB' : 0 < B') (e : A * B' = A' * B) : quo mode neg A B = quo mode neg A' B' := by
  by_cases hA : A = 0
  · have hA' : A' = 0 := by
      rw [hA, Nat.zero_mul] at e
      rcases Nat.mul_eq_zero.1 e.symm with h | h
      · exact h
      · omega
    rw [hA, hA', quo_zero mode neg hB h0 h4, quo_zero mode neg hB' h0 h4]
  · have hA' : 0 < A' := by
      rcases Nat.eq_zero_or_pos A' with h | h
      · rw [h, Nat.zero_mul] at e
        rcases Nat.mul_eq_zero.1 e with h | h
        · exact absurd h hA
        · omega
      · exact h
    obtain ⟨d, t, r1, r2, r3⟩ := quo_pos mode neg (A := A) (B := B) (by omega) hB h0 h4
    obtain ⟨d', t', s1, s2, s3⟩ := quo_pos mode neg (A := A') (B := B') hA' hB' h0 h4
    rw [qP_zero, qQ_zero] at r1 r2 s1 s2
    have ec : A * 2 ^ uN * B' = A' * 2 ^ uN * B := by rw [Nat.mul_right_comm, e, Nat.mul_right_comm]
    have hd := (r1.cross hB hB' ec).uniq s1
    rw [tl_cross hB hB' ec, hd, s2] at r2
    rw [r3, s3, hd, r2]
/-- the quotient is two to the e times A' -/
theorem quo_flo (mode : Int) (neg : Bool) (h0 : 0 ≤ mode) (h4 : mode ≤ 4) {A B A' : Nat} (e : Int) (hB : 0 < B) (hz : A = 0 ↔ A' = 0) (ec : A' * 2 ^ (e + 1074).toNat * B = A * 2 ^ uN * 2 ^ (-(e + 1074)).toNat) :
    quo mode neg A B = RS mode neg (flo A' e false).1 (flo A' e false).2 := by
  by_cases hA : A = 0
  · have hA' := hz.1 hA
    rw [hA, hA', quo_zero mode neg hB h0 h4]
    unfold flo
    rw [if_pos rfl]
    rfl
  · have hA' : 0 < A' := Nat.pos_of_ne_zero (fun h => hA (hz.2 h))
    obtain ⟨d, t, r1, r2, r3⟩ := quo_pos mode neg (A := A) (B := B) (by omega) hB h0 h4
    obtain ⟨s1, s2⟩ := flo_exact hA' e false
    rw [qP_zero, qQ_zero] at r1 r2
    have hQ : 0 < 2 ^ (-(e + 1074)).toNat := Nat.pow_pos (by decide)
    have hd := (s1.cross hQ hB ec).uniq r1
    rw [tl_cross hQ hB ec, hd, r2] at s2
    rw [r3, hd, s2]
theorem mul_ok (x y : List Int) (hx : Ws x) (hy : Ws y) (lx : x.length ≤ 1000) (ly : y.length ≤ 1000) (X Y : Nat) (vx : nv x = (X : Int)) (vy : nv y = (Y : Int)) {n : Nat} (h : X * Y < 2 ^ n) (c : Nat) (hc : c = 262144) (hn : n ≤ c) (k : Nat) (hk : 3000000 < k) :
    ∃ r, nat_Mul.f k x y = some (r, 0) ∧ Ws r ∧ nv r = ((X * Y : Nat) : Int) ∧ r.length ≤ 4096 := by
  have e : (X : Int) * (Y : Int) = ((X * Y : Nat) : Int) := by rw [Int.natCast_mul]
  have hf : x.length * (y.length + 2) + x.length + y.length + 20 < k := by
    have h1 : x.length * (y.length + 2) ≤ 1000 * 1002 := Nat.mul_le_mul lx (by omega)
    omega
  rw [nat_Mul.f_eq x y hx hy (by omega) (by omega) k hf, vx, vy, e]
  by_cases h0 : X * Y = 0
  · have q : ((X * Y : Nat) : Int) = 0 := by rw [h0]; rfl
    refine ⟨[], by rw [if_pos q], Ws.nil, ?_, Nat.zero_le _⟩
    rw [q]; rfl
  · have q : ¬ ((X * Y : Nat) : Int) = 0 := by
      generalize X * Y = z at *
      omega
    rw [if_neg q, bnd_nat hc h hn]
    exact ⟨_, rfl, wd_ws _, nv_wd _, wd_lenb h 4096 (by omega)⟩
end Go.Proofs.YtoefabmlkbhmpaaDoor.PA

namespace Go.Proofs.YtoefabmlkbhmpaaDoor.Pure
open Go Go.RowKit Go.Proofs.YtoefabmlkbhmpaaDoor.PA Go.Proofs.YtoefabmlkbhmpaaDoorW.PrintWords Go.Proofs.YtoefabmlkbhmpaaDoorW.PrintLast
set_option linter.unusedVariables false
theorem scfixed_true : plumblaw07_fixed.f 400 = some true := by kernel_rfl
theorem scfixed_at (k : Nat) (hk : 400 ≤ k) : plumblaw07_fixed.f k = some true := by
  obtain ⟨d, rfl⟩ : ∃ d, k = 400 + d := ⟨k - 400, by omega⟩
  clear hk
  induction d with
  | zero => exact scfixed_true
  | succ d ih => exact plumblaw07_fixed.mono _ _ ih
theorem scbounded_l0 (l : List Int) (n : Nat) (hn : n ≤ 1000000) : ∀ (d k i : Nat), d = n - i → d < k → i ≤ n → i ≤ l.length → plumblaw07_bounded.l0 k l (n : Int) (l.take i) (i : Int) = some (l.take n) := by
  intro d
  induction d with
  | zero =>
    intro k i hd hk hi hl
    obtain ⟨k, rfl⟩ : ∃ j, k = j + 1 := ⟨k - 1, by omega⟩
    obtain rfl : i = n := by omega
    have q : ¬ (i : Int) < (i : Int) := by omega
    rw [plumblaw07_bounded.l0, if_neg q]
    split <;> rfl
  | succ d ih =>
    intro k i hd hk hi hl
    obtain ⟨k, rfl⟩ : ∃ j, k = j + 1 := ⟨k - 1, by omega⟩
    rw [plumblaw07_bounded.l0]
    by_cases h : i < l.length
    · have q1 : (i : Int) < (l.length : Int) := by omega
      have q2 : (i : Int) < (n : Int) := by omega
      have q3 : (0 : Int) ≤ (i : Int) := by omega
      have q4 : (l.take i).length < 17592186044416 := by rw [List.length_take]; omega
      have e : l.take (i + 1) = l.take i ++ [l.getD i 0] := by rw [List.take_succ_eq_append_getElem h, List.getD_eq_getElem?_getD, List.getElem?_eq_getElem h]; rfl
      rw [if_pos q1, if_pos q2, if_pos q3, if_pos q4, rdn, ← e, w64_s i (by omega)]
      exact ih k (i + 1) (by omega) (by omega) (by omega) (by omega)
    · have q1 : ¬ (i : Int) < (l.length : Int) := by omega
      rw [if_neg q1, List.take_of_length_le (by omega), List.take_of_length_le (by omega)]
theorem scbounded_eq (l : List Int) (k : Nat) (hk : 100 < k) : plumblaw07_bounded.f k l 60 = some (l.take 60) := by
  rw [plumblaw07_bounded.f]
  exact scbounded_l0 l 60 (by decide) 60 k 0 (by omega) (by omega) (by omega) (by omega)
theorem take_lt {l : List Int} (hl : Ws l) {n t : Nat} (ht : 64 * n ≤ t) {a : Nat} (ha : nv (l.take n) = (a : Int)) : a < 2 ^ t := by
  have h1 := nv_lt (hl.take n)
  rw [ha, p2cast] at h1
  refine Nat.lt_of_lt_of_le (Int.ofNat_lt.1 h1) (Nat.pow_le_pow_right (by decide) ?_)
  have h2 : (l.take n).length ≤ n := by rw [List.length_take]; omega
  omega
theorem scexact_eq (neg : Bool) (l1 l2 : List Int) (h1 : Ws l1) (h2 : Ws l2) (t : Nat) (ht : t = 3840) : ∃ (x y : List Int) (A B : Nat), Ws x ∧ Ws y ∧ x.length ≤ 60 ∧ y.length ≤ 60 ∧ nv x = (A : Int) ∧ nv y = (B : Int) ∧ 0 < B ∧ A < 2 ^ t ∧ B < 2 ^ t ∧
    ∀ k, B + 10000100 < k → ∃ u v w, plumblaw07_exact.f k neg l1 l2 = some (neg, x, y, u, v, w, true) := by
  have hx : Ws (l1.take 60) := h1.take 60
  have hy : Ws (l2.take 60) := h2.take 60
  have lx : (l1.take 60).length ≤ 60 := by rw [List.length_take]; omega
  have ly : (l2.take 60).length ≤ 60 := by rw [List.length_take]; omega
  obtain ⟨A, hA⟩ := Int.eq_ofNat_of_zero_le (nv_nonneg hx)
  obtain ⟨B, hB⟩ := Int.eq_ofNat_of_zero_le (nv_nonneg hy)
  have bA := take_lt h1 (n := 60) (t := t) (by omega) hA
  have bB := take_lt h2 (n := 60) (t := t) (by omega) hB
  have hcmp : ∀ k, 100 < k → nat_Cmp.f k (l2.take 60) [] = some (cmpI (B : Int) 0) := by
    intro k hk
    rw [nat_Cmp.f_eq _ [] hy Ws.nil (by omega) (Nat.zero_le _) k (by omega) (by show 0 < k; omega), hB]
    rfl
  by_cases b0 : B = 0
  · have w1 : Ws [(1 : Int)] := Ws.cons (by decide) (by decide) Ws.nil
    refine ⟨l1.take 60, [1], A, 1, hx, w1, lx, Nat.le_of_ble_eq_true rfl, hA, rfl, by decide, bA, ?_, fun k hk => ?_⟩
    · exact Nat.lt_of_lt_of_le (by decide : 1 < 2 ^ 1) (Nat.pow_le_pow_right (by decide) (by omega))
    · have hc : cmpI (B : Int) 0 = 0 := by rw [b0]; rfl
      rw [plumblaw07_exact.f, scbounded_eq l1 k (by omega), Option.bind_some, scbounded_eq l2 k (by omega), Option.bind_some, hcmp k (by omega), Option.bind_some, if_pos hc, Option.bind_some, rat_New.f_eq neg _ [1] hx w1 (by omega) (Nat.le_of_ble_eq_true rfl) A 1 hA rfl (by decide) k (by omega), Option.bind_some, plumblaw07_num.f, Option.bind_some]
      exact ⟨_, _, _, rfl⟩
  · refine ⟨l1.take 60, l2.take 60, A, B, hx, hy, lx, ly, hA, hB, by omega, bA, bB, fun k hk => ?_⟩
    have hc : ¬ cmpI (B : Int) 0 = 0 := by
      unfold cmpI
      rw [if_neg (by omega), if_neg (by omega)]
      decide
    rw [plumblaw07_exact.f, scbounded_eq l1 k (by omega), Option.bind_some, scbounded_eq l2 k (by omega), Option.bind_some, hcmp k (by omega), Option.bind_some, if_neg hc, rat_New.f_eq neg _ _ hx hy (by omega) (by omega) A B hA hB b0 k (by omega), Option.bind_some, plumblaw07_num.f, Option.bind_some]
    exact ⟨_, _, _, rfl⟩
theorem scale_l0 (neg : Bool) (x y x2 y2 x3 y3 : List Int) (hx : Ws x) (hy : Ws y) (hx2 : Ws x2) (hy2 : Ws y2) (hx3 : Ws x3) (hy3 : Ws y3) (lx : x.length ≤ 1048576) (ly : y.length ≤ 1048576) (lx2 : x2.length ≤ 1048576) (ly2 : y2.length ≤ 1048576) (lx3 : x3.length ≤ 1048576) (ly3 : y3.length ≤ 1048576)
    (A B A2 B2 A3 B3 : Nat) (vx : nv x = (A : Int)) (vy : nv y = (B : Int)) (vx2 : nv x2 = (A2 : Int)) (vy2 : nv y2 = (B2 : Int)) (vx3 : nv x3 = (A3 : Int)) (vy3 : nv y3 = (B3 : Int)) (e : Int) (e1 : -1200 ≤ e) (e2 : e ≤ 1200)
    (q1 : ∀ m : Int, 0 ≤ m → m ≤ 4 → quo m neg A B = quo m neg A2 B2) (q2 : ∀ m : Int, 0 ≤ m → m ≤ 4 → quo m neg A3 B3 = RS m neg (flo A e false).1 (flo A e false).2) : ∀ (d k i : Nat), d = 5 - i → 100000000 + d < k → i ≤ 5 → plumblaw07_NearScale.l0 k e x2 y2 x3 y3 (i : Int) neg x y = some true := by
  intro d
  induction d with
  | zero =>
    intro k i hd hk hi
    obtain ⟨k, rfl⟩ : ∃ j, k = j + 1 := ⟨k - 1, by omega⟩
    have q : ¬ (i : Int) ≤ 4 := by omega
    rw [plumblaw07_NearScale.l0, if_neg q]
  | succ d ih =>
    intro k i hd hk hi
    obtain ⟨k, rfl⟩ : ∃ j, k = j + 1 := ⟨k - 1, by omega⟩
    have q : (i : Int) ≤ 4 := by omega
    have q0 : 0 ≤ (i : Int) ∧ (i : Int) ≤ 4 := by omega
    rw [plumblaw07_NearScale.l0, if_pos q, near_Quotient.f_eq neg x y hx hy lx ly A B vx vy (i : Int) k (by omega), Option.bind_some, near_Quotient.f_eq neg x2 y2 hx2 hy2 lx2 ly2 A2 B2 vx2 vy2 (i : Int) k (by omega), Option.bind_some, ← q1 (i : Int) q0.1 q0.2, if_pos rfl, plumblaw07_num.f, Option.bind_some, Option.bind_some, if_pos rfl,
      near_Scaled.f_eq neg x hx lx A vx e false (i : Int) k (by omega), Option.bind_some, if_pos q0, clip_id (by omega) (by omega), near_Quotient.f_eq neg x3 y3 hx3 hy3 lx3 ly3 A3 B3 vx3 vy3 (i : Int) k (by omega), Option.bind_some, q2 (i : Int) q0.1 q0.2, if_pos rfl, plumblaw07_num.f, Option.bind_some, Option.bind_some, if_pos rfl, w64_s i (by omega)]
    exact ih k (i + 1) (by omega) (by omega) (by omega)
theorem nearScale_pure (neg : Bool) (l1 l2 : List Int) (hl1 : ∀ x ∈ l1, 0 ≤ x ∧ x < 18446744073709551616) (hl2 : ∀ x ∈ l2, 0 ≤ x ∧ x < 18446744073709551616) (a1 a2 : Int) (ha1 : 0 ≤ a1) (ha2 : a1 < 18446744073709551616) : ∃ k, plumblaw07_NearScale.f k neg l1 l2 a1 a2 = some true := by
  obtain ⟨t, ht⟩ : ∃ t : Nat, t = 3840 := ⟨_, rfl⟩
  obtain ⟨c, hc⟩ : ∃ c : Nat, c = 262144 := ⟨_, rfl⟩
  obtain ⟨x, y, A, B, hx, hy, lx, ly, vx, vy, hB, bA, bB, hex⟩ := scexact_eq neg l1 l2 hl1 hl2 t ht
  have hm1 := Int.tmod_lt_of_pos a2 (show (0 : Int) < 1201 by decide)
  have hm2 := Int.lt_tmod_of_pos a2 (show (0 : Int) < 1201 by decide)
  obtain ⟨K, hK, K0, K1⟩ : ∃ K : Nat, (if a1 = 0 then 7 else a1) = (K : Int) ∧ 0 < K ∧ K < 2 ^ 64 := by
    have e64 : (2 : Nat) ^ 64 = 18446744073709551616 := by decide
    by_cases h : a1 = 0
    · exact ⟨7, by rw [if_pos h]; rfl, by decide, by rw [e64]; decide⟩
    · exact ⟨a1.toNat, by rw [if_neg h]; omega, by omega, by rw [e64]; omega⟩
  have wK : Ws [(K : Int)] := by
    rw [show (2 : Nat) ^ 64 = 18446744073709551616 from by decide] at K1
    exact Ws.cons (by omega) (by omega) Ws.nil
  have vK : nv [(K : Int)] = (K : Int) := by simp [nv]
  have w1 : Ws [(1 : Int)] := Ws.cons (by decide) (by decide) Ws.nil
  have bAK : A * K < 2 ^ (t + 64) := by rw [Nat.pow_add]; exact Nat.mul_lt_mul'' bA K1
  have bBK : B * K < 2 ^ (t + 64) := by rw [Nat.pow_add]; exact Nat.mul_lt_mul'' bB K1
  obtain ⟨k, hk⟩ : ∃ k : Nat, k = B + 200000000 := ⟨_, rfl⟩
  have one_len : ∀ v : Int, [v].length ≤ 1000 := fun _ => Nat.le_of_ble_eq_true rfl
  obtain ⟨r1, m1, m2, m3, m4⟩ := mul_ok x [(K : Int)] hx wK (by omega) (one_len _) A K vx vK bAK c hc (by omega) k (by omega)
  obtain ⟨r2, n1, n2, n3, n4⟩ := mul_ok y [(K : Int)] hy wK (by omega) (one_len _) B K vy vK bBK c hc (by omega) k (by omega)
  have hBK : 0 < B * K := Nat.mul_pos hB K0
  have q1 : ∀ m : Int, 0 ≤ m → m ≤ 4 → quo m neg A B = quo m neg (A * K) (B * K) := fun m h0 h4 => quo_same m neg h0 h4 hB hBK (by rw [Nat.mul_assoc, Nat.mul_comm B K])
  generalize he : Int.tmod a2 1201 = e at *
  have hu := uN_eq
  obtain ⟨u, v, w, hE⟩ := hex k (by omega)
  -- the lists with the exponent
  have body : ∀ (x3 y3 : List Int) (A3 B3 : Nat), Ws x3 → Ws y3 → x3.length ≤ 1048576 → y3.length ≤ 1048576 → nv x3 = (A3 : Int) → nv y3 = (B3 : Int) → (∀ m : Int, 0 ≤ m → m ≤ 4 → quo m neg A3 B3 = RS m neg (flo A e false).1 (flo A e false).2) → plumblaw07_NearScale.l0 k e r1 r2 x3 y3 0 neg x y = some true := by
    intro x3 y3 A3 B3 hx3 hy3 lx3 ly3 vx3 vy3 q2
    exact scale_l0 neg x y r1 r2 x3 y3 hx hy m2 n2 hx3 hy3 (by omega) (by omega) (by omega) (by omega) lx3 ly3 A B (A * K) (B * K) A3 B3 vx vy m3 n3 vx3 vy3 e (by omega) (by omega) q1 q2 5 k 0 (by omega) (by omega) (by omega)
  refine ⟨k, ?_⟩
  have tail : ((some (([1] : List Int) : List Int)).bind fun y381 => (if e ≥ 0 then ((nat_Shl.f k x e).bind fun bt384 => ((plumblaw07_num.f (0 : Int)).bind fun t388 => (if t388 = 0 then ((plumblaw07_num.f (0 : Int)).bind fun t389 => (if t389 = 0 then ((plumblaw07_num.f bt384.2).bind fun t390 => (if t390 = 0 then (plumblaw07_NearScale.l0 k e r1 r2 bt384.1 y381 0 neg x y) else (none))) else (none))) else (none)))) else ((nat_Shl.f k y381 (wrap64 (-e))).bind fun bt403 => ((plumblaw07_num.f (0 : Int)).bind fun t407 => (if t407 = 0 then ((plumblaw07_num.f (0 : Int)).bind fun t408 => (if t408 = 0 then ((plumblaw07_num.f bt403.2).bind fun t409 => (if t409 = 0 then (plumblaw07_NearScale.l0 k e r1 r2 x bt403.1 0 neg x y) else (none))) else (none))) else (none)))))) = some true := by
    rw [Option.bind_some]
    by_cases hs : e ≥ 0
    · obtain ⟨n, rfl⟩ : ∃ n : Nat, e = (n : Int) := ⟨e.toNat, by omega⟩
      have bS : A * 2 ^ n < 2 ^ (t + n) := by rw [Nat.pow_add]; exact Nat.mul_lt_mul_of_pos_right bA (Nat.pow_pos (by decide))
      obtain ⟨s, s1, s2, s3, s4⟩ := shl_ok x hx (by omega) A n vx (by omega) bS c hc (by omega) k (by omega)
      rw [if_pos hs, s1, Option.bind_some, plumblaw07_num.f, Option.bind_some, if_pos rfl, Option.bind_some, if_pos rfl, Option.bind_some, if_pos rfl]
      refine body s [1] (A * 2 ^ n) 1 s2 w1 (by omega) (Nat.le_of_ble_eq_true rfl) s3 rfl (fun m h0 h4 => quo_flo m neg h0 h4 (n : Int) (by decide) ?_ ?_)
      · have hp : 0 < 2 ^ n := Nat.pow_pos (by decide)
        constructor
        · intro h
          rcases Nat.mul_eq_zero.1 h with h | h
          · exact h
          · omega
        · intro h; rw [h, Nat.zero_mul]
      · rw [show (-((n : Int) + 1074)).toNat = 0 from by omega, show ((n : Int) + 1074).toNat = n + uN from by omega, Nat.pow_zero, Nat.mul_one, Nat.mul_one, Nat.pow_add, Nat.mul_assoc]
    · obtain ⟨n, hn⟩ : ∃ n : Nat, e = -(n : Int) := ⟨(-e).toNat, by omega⟩
      have wn : wrap64 (-e) = (n : Int) := by rw [w64_of (by omega) (by omega)]; omega
      have bS : 1 * 2 ^ n < 2 ^ (n + 1) := by rw [Nat.one_mul]; exact Nat.pow_lt_pow_right (by decide) (by omega)
      obtain ⟨s, s1, s2, s3, s4⟩ := shl_ok [1] w1 (Nat.le_of_ble_eq_true rfl) 1 n rfl (by omega) bS c hc (by omega) k (by omega)
      rw [Nat.one_mul] at s3
      rw [if_neg hs, wn, s1, Option.bind_some, plumblaw07_num.f, Option.bind_some, if_pos rfl, Option.bind_some, if_pos rfl, Option.bind_some, if_pos rfl]
      refine body x s A (2 ^ n) hx s2 (by omega) (by omega) vx s3 (fun m h0 h4 => quo_flo m neg h0 h4 e (Nat.pow_pos (by decide)) Iff.rfl ?_)
      have hp : 2 ^ (e + 1074).toNat * 2 ^ n = 2 ^ uN * 2 ^ (-(e + 1074)).toNat := by rw [← Nat.pow_add, ← Nat.pow_add]; congr 1; omega
      rw [Nat.mul_assoc, hp, ← Nat.mul_assoc]
  rw [plumblaw07_NearScale.f, hE, Option.bind_some, if_pos rfl, scfixed_at _ (by omega), Option.bind_some, if_pos rfl, he]
  by_cases h : a1 = 0
  · rw [if_pos h] at hK
    have m1' : nat_Mul.f k x [7] = some (r1, 0) := by rw [hK]; exact m1
    have n1' : nat_Mul.f k y [7] = some (r2, 0) := by rw [hK]; exact n1
    rw [if_pos h, m1', Option.bind_some, n1', Option.bind_some]
    exact tail
  · rw [if_neg h] at hK
    have m1' : nat_Mul.f k x [a1] = some (r1, 0) := by rw [hK]; exact m1
    have n1' : nat_Mul.f k y [a1] = some (r2, 0) := by rw [hK]; exact n1
    rw [if_neg h, m1', Option.bind_some, n1', Option.bind_some]
    exact tail
end Go.Proofs.YtoefabmlkbhmpaaDoor.Pure

namespace Go.Proofs.YtoefabmlkbhmpaaDoorW.PrintWords
open Go
/-- an array of pairs of bools -/
theorem trod_pairs {H : Type} {enc : TypeId × Value → H} {P : Program} {w : World} {base : Nat} {spare : Nat → Bool} {held : Bool} {fuel : Nat} {ty e1 e2 : TypeId} {n : Nat} {cs : List Value} {L : List (List Bool)} {p : List MemPlace}
    (hu : P.underlying ty = some (.array n e1)) (he : P.underlying e1 = some (.array 2 e2)) (hb : P.underlying e2 = some .bool) (hc1 : P.cellsOf e1 = 2) (hc2 : P.cellsOf e2 = 1)
    (h : DataW.trod enc P w base spare held fuel ty cs = some (.agg (L.map fun r => .agg (r.map fun b => .lit (.bool b))), p)) : ∀ i, i < n → ∀ j, j < 2 → cs[2 * i + j]? = some (.bool ((L.getD i []).getD j false)) := by
  obtain ⟨xs, m, rfl, hx, hlen, hn, hel⟩ := DataW.trod_array hu h
  intro i hi j hj
  have h1 := hel i hi
  rw [hc1] at h1
  have hxi : i < xs.length := by omega
  rw [List.getElem?_eq_getElem hxi] at h1
  obtain ⟨ys, m2, rfl, hy, hlen2, hn2, hel2⟩ := DataW.trod_array he h1
  have h2 := hel2 j hj
  rw [hc2, Nat.mul_one] at h2
  have hyj : j < ys.length := by omega
  rw [List.getElem?_eq_getElem hyj] at h2
  obtain ⟨b, e1_, e2_⟩ := DataW.trod_bool hb h2
  simp only [Prod.mk.injEq, DataW.agg.injEq] at hx
  have h3 : (L.map fun r => (DataW.agg (r.map fun b => .lit (.bool b)) : DataW H))[i]? = (xs.map (·.1))[i]? := by rw [hx.1]
  rw [List.getElem?_map, List.getElem?_map, List.getElem?_eq_getElem hxi] at h3
  simp only [Option.map_some] at h3
  cases hL : L[i]? with
  | none => rw [hL] at h3; simp at h3
  | some r =>
    rw [hL] at h3
    simp only [Option.map_some, Option.some.injEq] at h3
    rw [hy] at h3
    simp only [DataW.agg.injEq] at h3
    have h4 : (r.map fun b => (DataW.lit (.bool b) : DataW H))[j]? = (ys.map (·.1))[j]? := by rw [h3]
    rw [List.getElem?_map, List.getElem?_map, List.getElem?_eq_getElem hyj, Option.map_some, e2_] at h4
    have h5 : r[j]? = some b := by
      cases hr : r[j]? with
      | none => rw [hr] at h4; simp at h4
      | some y => rw [hr] at h4; simp at h4; rw [h4]
    have h6 : ((((cs.drop (i * 2)).take 2).drop j).take 1)[0]? = some (.bool b) := by rw [e1_]; rfl
    rw [List.getElem?_take, if_pos (by decide), List.getElem?_drop, Nat.add_zero, List.getElem?_take, if_pos hj, List.getElem?_drop] at h6
    rw [Nat.mul_comm, h6, List.getD_eq_getElem?_getD, List.getD_eq_getElem?_getD, hL, Option.getD_some, h5]
    rfl
/-- a struct of three fields of one cell, opened -/
theorem open_three {H : Type} {enc : TypeId × Value → H} {P : Program} {w : World} {base b0 : Nat} {spare : Nat → Bool} {held : Bool} {r : Reach} {t : TypeId} {f0 f1 f2 : Field} {v : Value} {d : DataW H} {p : List MemPlace} (hs : P.underlying t = some (.struct #[f0, f1, f2]))
    (hC : P.cellsOf t = 3) (o0 : f0.offset = 0) (o1 : f1.offset = 1) (o2 : f2.offset = 2) (k0 : P.cellsOf f0.type = 1) (k1 : P.cellsOf f1.type = 1) (k2 : P.cellsOf f2.type = 1)
    (hv : Value.okWide P w r b0 t v) (h : DataW.Trod enc P w base spare held t v d p) :
    ∃ (v0 v1 v2 : Value) (y0 y1 y2 : DataW H × List MemPlace) (n : Nat), v = .agg #[v0, v1, v2] ∧ d = .agg [y0.1, y1.1, y2.1] ∧
      DataW.trod enc P w base spare held n f0.type [v0] = some y0 ∧ DataW.trod enc P w base spare held n f1.type [v1] = some y1 ∧ DataW.trod enc P w base spare held n f2.type [v2] = some y2 := by
  obtain ⟨cs, rfl, hsz⟩ := WideShapes.okWide_struct hs hv
  rw [hC] at hsz
  obtain ⟨l⟩ := cs
  match l, hsz with
  | [c0, c1, c2], _ =>
    obtain ⟨fuel, hf⟩ := h
    obtain ⟨xs, n, _, hx, hl, hlen, hg⟩ := DataW.trod_struct hs hf
    match xs, hlen with
    | [y0, y1, y2], _ =>
      have g0 := hg 0 f0 rfl
      have g1 := hg 1 f1 rfl
      have g2 := hg 2 f2 rfl
      rw [o0, k0] at g0
      rw [o1, k1] at g1
      rw [o2, k2] at g2
      simp only [Prod.mk.injEq, List.map_cons, List.map_nil] at hx
      exact ⟨c0, c1, c2, y0, y1, y2, n, rfl, hx.1, by simpa [Value.cells] using g0, by simpa [Value.cells] using g1, by simpa [Value.cells] using g2⟩
end Go.Proofs.YtoefabmlkbhmpaaDoorW.PrintWords
