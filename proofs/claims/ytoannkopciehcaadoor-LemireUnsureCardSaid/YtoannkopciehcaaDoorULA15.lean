/- A part of the proof (15). -/
import Derived.Test.YtoannkopciehcaaDoorULA14
import Derived.Test.YtoannkopciehcaaDoorULA13
import Derived.Test.YtoannkopciehcaaDoorULA11
import Derived.OpenShut
import Derived.LaidLaws
import Derived.LaidHandle
import Derived.MakeChecks
import Derived.WideShapes
import Derived.ChangeArms
import Derived.Test.YtoannkopciehcaaDoorRows
import Derived.WalkKit
import Derived.ProofKit
import Derived.LaidMore
import Derived.Stop.Joined
import Derived.SevenTiedAt
import Derived.Test.YtoannkopciehcaaDoorCards
import Derived.Test.YtoannkopciehcaaDoorTie
import Derived.ShutString
import Derived.ChangeOld
import Derived.Below
import Derived.SizedLaws
namespace Go.Proofs.YtoannkopciehcaaDoor.PA
open Go Go.RowKit Go.Proofs.YtoannkopciehcaaDoorW.PrintWords Go.Proofs.YtoannkopciehcaaDoorW.PrintLast Go.Proofs.YtoannkopciehcaaDoorW.PrintMore
set_option linter.unusedVariables false
set_option linter.unusedSimpArgs false
def cmpI (a b : Int) : Int := if a < b then -1 else if a = b then 0 else 1
theorem wide_Cmp.words (a b : Int) (k : Nat) (hk : 0 < k) : wide_Cmp.f k 0 a 0 b = some (cmpI a b) := by
  obtain ⟨k, rfl⟩ : ∃ j, k = j + 1 := ⟨k - 1, by omega⟩
  unfold wide_Cmp.f cmpI
  rw [if_neg (by decide), if_pos rfl]
  by_cases h : a < b
  · rw [decide_eq_true h, wide_Cmp.j0, if_pos rfl, if_pos h]
  · rw [decide_eq_false h, wide_Cmp.j0, if_neg (by decide), if_pos rfl, if_neg h]
    by_cases h2 : a = b
    · rw [if_pos h2, if_pos h2]
    · rw [if_neg h2, if_neg h2]
theorem cmpI_add (a b z : Int) : cmpI (a + z) (b + z) = cmpI a b := by
  unfold cmpI
  by_cases h1 : a < b
  · rw [if_pos h1, if_pos (by omega)]
  · rw [if_neg h1, if_neg (by omega)]
    by_cases h2 : a = b
    · rw [if_pos h2, if_pos (by omega)]
    · rw [if_neg h2, if_neg (by omega)]
theorem cmp_high {a b x y P : Int} (ha0 : 0 ≤ a) (ha : a < P) (hb0 : 0 ≤ b) (hb : b < P) (h : x ≠ y) : cmpI (a + x * P) (b + y * P) = cmpI x y := by
  unfold cmpI
  by_cases h1 : x < y
  · have : (x + 1) * P ≤ y * P := Int.mul_le_mul_of_nonneg_right (by omega) (by omega)
    rw [Int.add_mul, Int.one_mul] at this
    rw [if_pos h1, if_pos (by omega)]
  · have : (y + 1) * P ≤ x * P := Int.mul_le_mul_of_nonneg_right (by omega) (by omega)
    rw [Int.add_mul, Int.one_mul] at this
    rw [if_neg h1, if_neg h, if_neg (by omega), if_neg (by omega)]
theorem nat_Cmp.l0_eq (x y : List Int) (hx : Ws x) (hy : Ws y) (hm : x.length ≤ 35184372088832) : ∀ (n k : Nat), n < k → n ≤ x.length → n ≤ y.length → nat_Cmp.l0 k x y ((n : Int) - 1) = some (cmpI (nv (x.take n)) (nv (y.take n))) := by
  intro n
  induction n with
  | zero =>
    intro k hk _ _
    obtain ⟨k, rfl⟩ : ∃ j, k = j + 1 := ⟨k - 1, by omega⟩
    unfold nat_Cmp.l0
    rw [if_neg (by omega)]
    rfl
  | succ n ih =>
    intro k hk h1 h2
    obtain ⟨k, rfl⟩ : ∃ j, k = j + 1 := ⟨k - 1, by omega⟩
    have er : ((n + 1 : Nat) : Int) - 1 = (n : Int) := by omega
    unfold nat_Cmp.l0
    rw [er, if_pos (by omega), if_pos (by omega), if_pos (by omega), if_pos (by omega), rdn, rdn, wide_Cmp.words _ _ k (by omega)]
    simp only [Option.bind_some]
    rw [w64_of (by omega) (by omega), nv_take_succ h1, nv_take_succ h2]
    have a0 := nv_nonneg (hx.take n)
    have a1 := nv_lt (hx.take n)
    have b0 := nv_nonneg (hy.take n)
    have b1 := nv_lt (hy.take n)
    rw [List.length_take, Nat.min_eq_left (by omega)] at a1 b1
    by_cases h : x.getD n 0 = y.getD n 0
    · rw [h, if_pos (by unfold cmpI; rw [if_neg (by omega), if_pos rfl]), ih k (by omega) (by omega) (by omega)]
      rw [cmpI_add]
    · rw [cmp_high a0 a1 b0 b1 h, if_neg]
      unfold cmpI
      split <;> first | decide | (rw [if_neg h]; decide)
theorem nat_Cmp.f_eq (x y : List Int) (hx : Ws x) (hy : Ws y) (hmx : x.length ≤ 35184372088832) (hmy : y.length ≤ 35184372088832) (k : Nat) (hk : x.length < k) (hk2 : y.length < k) : nat_Cmp.f k x y = some (cmpI (nv x) (nv y)) := by
  have lx := strip_length_le x
  have ly := strip_length_le y
  rw [nat_Cmp.f, nat_size.f_eq x (by omega) k hk]
  simp only [Option.bind_some]
  rw [nat_size.f_eq y (by omega) k hk2]
  simp only [Option.bind_some]
  have sx := strip_len_le hx
  have sy := strip_len_le hy
  by_cases h : (strip x).length = (strip y).length
  · rw [if_pos (by omega), w64_of (by omega) (by omega), nat_Cmp.l0_eq x y hx hy hmx _ k (by omega) lx (by omega)]
    have e1 : x.take (strip x).length = strip x := (strip_take x).symm
    have e2 : y.take (strip x).length = strip y := by rw [h]; exact (strip_take y).symm
    rw [e1, e2, nv_strip, nv_strip]
  · rw [if_neg (by omega)]
    by_cases h2 : (strip x).length < (strip y).length
    · rw [if_pos (by omega)]
      have a := (sx (strip x).length).1 (Nat.le_refl _)
      have b : ¬ nv y < 2 ^ (64 * (strip x).length) := fun hc => by have := (sy (strip x).length).2 hc; omega
      unfold cmpI
      rw [if_pos (by omega)]
    · rw [if_neg (by omega)]
      have a := (sy (strip y).length).1 (Nat.le_refl _)
      have b : ¬ nv x < 2 ^ (64 * (strip y).length) := fun hc => by have := (sx (strip y).length).2 hc; omega
      unfold cmpI
      rw [if_neg (by omega), if_neg (by omega)]
theorem nat_From.f_eq {v : Int} (h0 : 0 ≤ v) (h1 : v < 18446744073709551616) : nat_From.f v = some (wd v.toNat) := by
  have hw : Ws [v] := Ws.cons h0 h1 Ws.nil
  have e := wd_nv hw
  have hn : nv [v] = v := by simp [nv]
  rw [hn] at e
  rw [nat_From.f, nat_Norm.f, if_pos (by simp), e]
  rfl
theorem mul_pow_lt {a : Int} {s m n : Nat} (h0 : 0 ≤ a) (h : a < 2 ^ m) (hn : m + s ≤ n) : a * 2 ^ s < 2 ^ n := by
  have h1 : a * 2 ^ s < 2 ^ m * 2 ^ s := Int.mul_lt_mul_of_pos_right h (two_pow_pos s)
  rw [← Int.pow_add] at h1
  exact Int.lt_of_lt_of_le h1 (pow_mono hn)
theorem quot_long.f_eq (x y : List Int) (p : Nat) (hx : Ws x) (hy : Ws y) (ly : y.length = p + 2) (hne : y.getD (p + 1) 0 ≠ 0) (lxy : y.length ≤ x.length) (hm : x.length < 35184372088832) (k : Nat) (hk : 6 * x.length + 20 < k) :
    quot_long.f k x y = some (wd (nv x / nv y).toNat, wd (nv x % nv y).toNat) := by
  have wt := hy.getD (p + 1)
  have wp := hy.getD p
  have hb1 := bitsN_pos (x := y.getD (p + 1) 0) (by omega)
  have hb2 := bitsN_le_of_lt (n := 64) wt.1 wt.2
  have A1 : Aside0 (wrap64 ((y.length : Int) - 1) = ((p + 1 : Nat) : Int)) := ⟨w64x (by omega) (by omega)⟩
  have A2 : Aside0 (wrap64 ((x.length : Int) + 1) = ((x.length + 1 : Nat) : Int)) := ⟨w64x (by omega) (by omega)⟩
  have A3 : Aside0 (wrap64 ((x.length : Int) - (y.length : Int)) = ((x.length - (p + 2) : Nat) : Int)) := ⟨w64x (by omega) (by omega)⟩
  have A4 : Aside0 (wrap64 (((x.length - (p + 2) : Nat) : Int) + 1) = ((x.length - (p + 2) + 1 : Nat) : Int)) := ⟨w64x (by omega) (by omega)⟩
  have b1 : ((p + 1 : Nat) : Int) < (y.length : Int) := by omega
  obtain ⟨s, hs⟩ : ∃ s : Nat, 64 - bitsN (y.getD (p + 1) 0) = (s : Int) := ⟨(64 - bitsN (y.getD (p + 1) 0)).toNat, by omega⟩
  have hs63 : s ≤ 63 := by omega
  have A5 : Aside0 (wrap64 (64 - bitsN (y.getD (p + 1) 0)) = (s : Int)) := ⟨w64x hs (by omega)⟩
  have eb : (bitsN (y.getD (p + 1) 0)).toNat = 64 - s := by omega
  have hbl := bitsN_lt (x := y.getD (p + 1) 0) (by omega)
  have hbg := bitsN_ge (x := y.getD (p + 1) 0) (by omega)
  rw [eb] at hbl hbg
  have e1 := nv_two ly
  have hP := two_pow_pos (64 * p)
  have r0 := nv_nonneg (hy.take p)
  have r1 := nv_lt (hy.take p)
  rw [List.length_take, Nat.min_eq_left (by rw [ly]; omega)] at r1
  have ny0 := nv_nonneg hy
  have nx0 := nv_nonneg hx
  have nx1 := nv_lt hx
  -- the divisor's number from above and from below
  have hyl : nv y < 2 ^ (64 - s + 64 * (p + 1)) := by
    have h1 : (y.getD (p + 1) 0 + 1) * (18446744073709551616 * 2 ^ (64 * p)) ≤ 2 ^ (64 - s) * (18446744073709551616 * 2 ^ (64 * p)) := Int.mul_le_mul_of_nonneg_right hbl (by omega)
    have h2 : (y.getD p 0 + 1) * 2 ^ (64 * p) ≤ 18446744073709551616 * 2 ^ (64 * p) := Int.mul_le_mul_of_nonneg_right (by omega) (by omega)
    rw [Int.add_mul, Int.one_mul] at h1 h2
    rw [Int.pow_add, pow64, e1, Int.add_mul, Int.mul_assoc]
    omega
  have hyg : 2 ^ (64 - s - 1 + 64 * (p + 1)) ≤ nv y := by
    have h1 : 2 ^ (64 - s - 1) * (18446744073709551616 * 2 ^ (64 * p)) ≤ y.getD (p + 1) 0 * (18446744073709551616 * 2 ^ (64 * p)) := Int.mul_le_mul_of_nonneg_right hbg (by omega)
    have h2 : 0 ≤ y.getD p 0 * 2 ^ (64 * p) := Int.mul_nonneg wp.1 (by omega)
    rw [Int.pow_add, pow64, e1, Int.add_mul, Int.mul_assoc]
    omega
  have hV1 : nv y * 2 ^ s < 2 ^ (64 * (p + 2)) := mul_pow_lt ny0 hyl (by omega)
  have hV0 : 2 ^ (63 + 64 * (p + 1)) ≤ nv y * 2 ^ s := by
    have h1 : 2 ^ (64 - s - 1 + 64 * (p + 1)) * 2 ^ s ≤ nv y * 2 ^ s := Int.mul_le_mul_of_nonneg_right hyg (Int.le_of_lt (two_pow_pos s))
    rwa [← Int.pow_add, show 64 - s - 1 + 64 * (p + 1) + s = 63 + 64 * (p + 1) from by omega] at h1
  have hVn : 0 ≤ nv y * 2 ^ s := Int.le_trans (Int.le_of_lt (two_pow_pos _)) hV0
  have hU1 : nv x * 2 ^ s < 2 ^ (64 * (x.length + 1)) := mul_pow_lt nx0 nx1 (by omega)
  have hUn : 0 ≤ nv x * 2 ^ s := Int.mul_nonneg nx0 (Int.le_of_lt (two_pow_pos s))
  have eV := nv_wn (p + 2) hVn hV1
  have eU := nv_wn (x.length + 1) hUn hU1
  have lV := wn_length (p + 2) (nv y * 2 ^ s)
  have lU := wn_length (x.length + 1) (nv x * 2 ^ s)
  have wV := wn_ws (p + 2) (nv y * 2 ^ s)
  have wU := wn_ws (x.length + 1) (nv x * 2 ^ s)
  have htop : 9223372036854775808 ≤ (wn (p + 2) (nv y * 2 ^ s)).getD (p + 1) 0 := by
    have t1 := nv_two lV
    rw [eV] at t1
    have t2 := nv_lt (wV.take p)
    rw [List.length_take, Nat.min_eq_left (by rw [lV]; omega)] at t2
    have t3 := wV.getD p
    apply Classical.byContradiction
    intro hn
    have h1 : ((wn (p + 2) (nv y * 2 ^ s)).getD (p + 1) 0 + 1) * (18446744073709551616 * 2 ^ (64 * p)) ≤ 2 ^ 63 * (18446744073709551616 * 2 ^ (64 * p)) := Int.mul_le_mul_of_nonneg_right (by rw [show (2 : Int) ^ 63 = 9223372036854775808 from rfl]; omega) (by omega)
    have h2 : ((wn (p + 2) (nv y * 2 ^ s)).getD p 0 + 1) * 2 ^ (64 * p) ≤ 18446744073709551616 * 2 ^ (64 * p) := Int.mul_le_mul_of_nonneg_right (by omega) (by omega)
    rw [Int.add_mul, Int.one_mul] at h1 h2
    rw [Int.pow_add, pow64] at hV0
    rw [Int.add_mul, Int.mul_assoc] at t1
    omega
  have hlt : nv (wn (x.length + 1) (nv x * 2 ^ s)) < nv (wn (p + 2) (nv y * 2 ^ s)) * 2 ^ (64 * (x.length - (p + 2) + 1)) := by
    rw [eU, eV]
    have h1 : 2 ^ (63 + 64 * (p + 1)) * 2 ^ (64 * (x.length - (p + 2) + 1)) ≤ nv y * 2 ^ s * 2 ^ (64 * (x.length - (p + 2) + 1)) := Int.mul_le_mul_of_nonneg_right hV0 (Int.le_of_lt (two_pow_pos _))
    rw [← Int.pow_add] at h1
    exact Int.lt_of_lt_of_le (mul_pow_lt nx0 nx1 (by omega)) h1
  have main := long_main wV lV htop s hs63 (nv x * 2 ^ s) (x.length - (p + 2) + 1) k (wn (x.length + 1) (nv x * 2 ^ s)) (List.replicate (x.length - (p + 2) + 1) 0) (by rw [lU]; omega) wU (by rw [lU]; omega) (by rw [lU]; omega) (Ws.zeros _) (by simp) (by rw [List.length_replicate]; omega) (fun i _ => by rw [List.getD_eq_getElem?_getD, List.getElem?_replicate]; split <;> rfl) hlt (by rw [nv_zeros, Int.mul_zero, Int.add_zero, eU])
  rw [eV] at main
  have em : ((x.length - (p + 2) + 1 : Nat) : Int) - 1 = ((x.length - (p + 2) : Nat) : Int) := by omega
  rw [em, Int.mul_ediv_mul_of_pos_left _ _ (two_pow_pos s), Int.mul_comm (nv x) (2 ^ s), Int.mul_comm (nv y) (2 ^ s), Int.mul_emod_mul_of_pos _ _ (two_pow_pos s), Int.mul_ediv_cancel_left _ (Int.ne_of_gt (two_pow_pos s))] at main
  rw [Int.mul_comm (2 ^ s) (nv y), Int.mul_comm (2 ^ s) (nv x)] at main
  clear em hlt htop
  rw [quot_long.f, A1.out, if_pos (Int.natCast_nonneg _), if_pos b1, rdn, wide_Len.f_eq wt.1 wt.2 k (by omega)]
  rw [Option.bind_some]
  rw [A5.out, ly, quot_shl.f_eq y hy s (p + 2) hs63 (by omega) (by omega) hV1 k (by omega)]
  rw [Option.bind_some]
  rw [A2.out, quot_shl.f_eq x hx s (x.length + 1) hs63 (by omega) (by omega) hU1 k (by omega)]
  rw [Option.bind_some]
  rw [← ly, A3.out, A4.out, if_pos (Int.natCast_nonneg _), Int.toNat_natCast, if_pos (by omega), ly]
  exact main
theorem quot_DivMod.f_eq (x y : List Int) (hx : Ws x) (hy : Ws y) (hmx : x.length < 35184372088832) (hmy : y.length ≤ 35184372088832) (k : Nat) (hk : 6 * x.length + 20 < k) (hk2 : y.length < k) :
    quot_DivMod.f k x y = some (if nv y = 0 then ([], [], 30) else (wd (nv x / nv y).toNat, wd (nv x % nv y).toNat, 0)) := by
  have lx := strip_length_le x
  have ly := strip_length_le y
  have nx := nv_nonneg hx
  have ny := nv_nonneg hy
  rw [quot_DivMod.f, nat_Norm.f, if_pos (by omega)]
  rw [Option.bind_some]
  rw [nat_Norm.f, if_pos hmy]
  rw [Option.bind_some]
  have hp := strip_length_pos hy
  by_cases h0 : nv y = 0
  · rw [if_pos h0, if_pos (by omega)]
  · rw [if_neg h0, if_neg (by omega), nat_Cmp.f_eq _ _ hx.strip hy.strip (by omega) (by omega) k (by omega) (by omega), nv_strip, nv_strip]
    rw [Option.bind_some]
    by_cases hc : nv x < nv y
    · have e : cmpI (nv x) (nv y) = -1 := by unfold cmpI; rw [if_pos hc]
      rw [e, if_pos (by decide), Int.ediv_eq_zero_of_lt nx hc, Int.emod_eq_of_lt nx hc, wd_nv hx]
      simp [wd_zero]
    · have e : ¬ cmpI (nv x) (nv y) < 0 := by unfold cmpI; rw [if_neg hc]; split <;> decide
      rw [if_neg e]
      by_cases h1 : (strip y).length = 1
      · have w0 := hy.strip.getD 0
        have en : nv (strip y) = (strip y).getD 0 0 := by
          match hq : strip y, h1 with
          | [a], _ => simp [nv]
        rw [nv_strip] at en
        rw [if_pos (by omega), if_pos (by omega), show rd (strip y) 0 = (strip y).getD 0 0 from rfl, ← en, quot_Small.f_eq _ hx.strip (nv y) (by omega) (by omega) (by omega) k (by omega), nv_strip]
        rw [Option.bind_some]
        rw [nat_From.f_eq (Int.emod_nonneg _ h0) (Int.lt_trans (Int.emod_lt_of_pos _ (by omega)) (by omega))]
        rfl
      · rw [if_neg (by omega)]
        obtain ⟨p, hpl⟩ : ∃ p, (strip y).length = p + 2 := ⟨(strip y).length - 2, by omega⟩
        have hst : strip (strip y) = strip y := strip_strip y
        have hne : (strip y).getD (p + 1) 0 ≠ 0 := by
          have := strip_last (xs := strip y) (by rw [hst]; omega)
          rwa [hst, hpl, show p + 2 - 1 = p + 1 from by omega] at this
        have hle : (strip y).length ≤ (strip x).length := by
          have sx := strip_len_le hx (strip x).length
          have sy := strip_len_le hy (strip x).length
          have := sx.1 (Nat.le_refl _)
          exact sy.2 (by omega)
        rw [quot_long.f_eq _ _ p hx.strip hy.strip hpl hne hle (by omega) k (by omega), nv_strip, nv_strip]
        rfl
end Go.Proofs.YtoannkopciehcaaDoor.PA

namespace Go.Proofs.YtoannkopciehcaaDoor.PA
open Go Go.RowKit Go.Proofs.YtoannkopciehcaaDoorW.PrintWords Go.Proofs.YtoannkopciehcaaDoorW.PrintLast Go.Proofs.YtoannkopciehcaaDoorW.PrintMore
set_option linter.unusedVariables false
set_option linter.unusedSimpArgs false
end Go.Proofs.YtoannkopciehcaaDoor.PA

namespace Go.Proofs.YtoannkopciehcaaDoor.PA
open Go Go.RowKit Go.Proofs.YtoannkopciehcaaDoorW.PrintWords Go.Proofs.YtoannkopciehcaaDoorW.PrintLast Go.Proofs.YtoannkopciehcaaDoorW.PrintMore
set_option linter.unusedVariables false
set_option linter.unusedSimpArgs false
/-- all entries are halves of words -/
def Hs (xs : List Int) : Prop := ∀ x ∈ xs, 0 ≤ x ∧ x < 4294967296
/-- the number of a list of halves -/
def hv : List Int → Int
  | [] => 0
  | x :: xs => x + 4294967296 * hv xs
theorem Hs.getD {xs : List Int} (h : Hs xs) (n : Nat) : 0 ≤ xs.getD n 0 ∧ xs.getD n 0 < 4294967296 := by
  rw [List.getD_eq_getElem?_getD]
  cases e : xs[n]? with
  | none => simp
  | some v => simpa using h v (List.mem_of_getElem? e)
theorem Hs.set {xs : List Int} (h : Hs xs) (n : Nat) {v : Int} (h0 : 0 ≤ v) (h1 : v < 4294967296) : Hs (xs.set n v) := by
  intro y hy
  rcases List.mem_or_eq_of_mem_set hy with hy | rfl
  · exact h y hy
  · exact ⟨h0, h1⟩
theorem Hs.snoc {xs : List Int} (h : Hs xs) {v : Int} (h0 : 0 ≤ v) (h1 : v < 4294967296) : Hs (xs ++ [v]) := by
  intro y hy
  rcases List.mem_append.1 hy with hy | hy
  · exact h y hy
  · rcases List.mem_singleton.1 hy with rfl
    exact ⟨h0, h1⟩
end Go.Proofs.YtoannkopciehcaaDoor.PA

namespace Go.Proofs.YtoannkopciehcaaDoor.PA
open Go Go.RowKit Go.Proofs.YtoannkopciehcaaDoorW.PrintWords Go.Proofs.YtoannkopciehcaaDoorW.PrintLast Go.Proofs.YtoannkopciehcaaDoorW.PrintMore
set_option linter.unusedVariables false
set_option linter.unusedSimpArgs false
theorem nv_take_lt {xs : List Int} (h : Ws xs) (i : Nat) : nv (xs.take i) < 2 ^ (64 * i) := by
  have h1 := nv_lt (h.take i)
  have h2 : (xs.take i).length ≤ i := List.length_take_le _ _
  exact Int.lt_of_lt_of_le h1 (pow_mono (by omega))
end Go.Proofs.YtoannkopciehcaaDoor.PA

namespace Go.Proofs.YtoannkopciehcaaDoor.PA
open Go Go.RowKit Go.Proofs.YtoannkopciehcaaDoorW.PrintWords Go.Proofs.YtoannkopciehcaaDoorW.PrintLast Go.Proofs.YtoannkopciehcaaDoorW.PrintMore
set_option linter.unusedVariables false
set_option linter.unusedSimpArgs false
end Go.Proofs.YtoannkopciehcaaDoor.PA

namespace Go.Proofs.YtoannkopciehcaaDoor.PA
open Go Go.RowKit Go.Proofs.YtoannkopciehcaaDoorW.PrintWords Go.Proofs.YtoannkopciehcaaDoorW.PrintLast Go.Proofs.YtoannkopciehcaaDoorW.PrintMore
set_option linter.unusedVariables false
set_option linter.unusedSimpArgs false
end Go.Proofs.YtoannkopciehcaaDoor.PA

namespace Go.Proofs.YtoannkopciehcaaDoor.PA
open Go Go.RowKit Go.Proofs.YtoannkopciehcaaDoorW.PrintWords Go.Proofs.YtoannkopciehcaaDoorW.PrintLast Go.Proofs.YtoannkopciehcaaDoorW.PrintMore
set_option linter.unusedVariables false
set_option linter.unusedSimpArgs false
def pS (d : Nat) : Nat := d / 4503599627370496 - 1
theorem wd_len {n : Int} {t : Nat} (h0 : 0 ≤ n) (h : n < 2 ^ (64 * t)) : (wd n.toNat).length ≤ t := by
  have hw := wd_ws n.toNat
  have h1 := (strip_len_le hw t).2 (by rw [nv_wd, Int.toNat_of_nonneg h0]; exact h)
  rw [strip_wd] at h1
  exact h1
end Go.Proofs.YtoannkopciehcaaDoor.PA

namespace Go.Proofs.YtoannkopciehcaaDoor.PA
open Go Go.RowKit Go.Proofs.YtoannkopciehcaaDoorW.PrintWords Go.Proofs.YtoannkopciehcaaDoorW.PrintLast Go.Proofs.YtoannkopciehcaaDoorW.PrintMore
set_option linter.unusedVariables false
set_option linter.unusedSimpArgs false
theorem odd_part2 : ∀ (n w : Nat), w ≤ n → w ≠ 0 → ∃ o t, w = o * 2 ^ t ∧ o % 2 = 1 := by
  intro n
  induction n with
  | zero => intro w h1 h2; omega
  | succ n ih =>
    intro w h1 h2
    by_cases h : w % 2 = 1
    · exact ⟨w, 0, by simp, h⟩
    · obtain ⟨o, t, e, ho⟩ := ih (w / 2) (by omega) (by omega)
      exact ⟨o, t + 1, by rw [Nat.pow_succ, ← Nat.mul_assoc, ← e]; omega, ho⟩
theorem mod_odd {o z s : Nat} (ho : o % 2 = 1) : (o * 2 ^ z % 2 ^ s ≠ 0) ↔ z < s := by
  constructor
  · intro h
    apply Classical.byContradiction
    intro hn
    apply h
    rw [show z = (z - s) + s from by omega, Nat.pow_add, ← Nat.mul_assoc, Nat.mul_mod_left]
  · intro h hz
    rw [show s = (s - z - 1) + 1 + z from by omega, Nat.pow_add, Nat.mul_mod_mul_right] at hz
    have h1 := (Nat.mul_eq_zero.1 hz).resolve_right (Nat.ne_of_gt (Nat.pow_pos (by decide)))
    have h2 : 2 ∣ o := Nat.dvd_trans ⟨2 ^ (s - z - 1), by rw [Nat.pow_succ, Nat.mul_comm]⟩ (Nat.dvd_of_mod_eq_zero h1)
    omega
theorem nat_Zeros.l0_eq (x : List Int) (hx : Ws x) (hm : x.length ≤ 17592186044416) (a : Nat) (ha : nv x = (a : Int)) (h0 : a ≠ 0) : ∀ (d i : Nat), d = x.length - i → i ≤ x.length → nv (x.take i) = 0 →
    ∃ z : Nat, (∀ k, d + 10 < k → nat_Zeros.l0 k x (x.length : Int) (i : Int) = some (z : Int)) ∧ ∀ s : Nat, (z < s ↔ a % 2 ^ s ≠ 0) := by
  intro d
  induction d with
  | zero =>
    intro i hd hi hz
    obtain rfl : i = x.length := by omega
    rw [List.take_length] at hz
    omega
  | succ d ih =>
    intro i hd hi hz
    by_cases hw : x.getD i 0 = 0
    · obtain ⟨z, h1, h2⟩ := ih (i + 1) (by omega) (by omega) (by rw [nv_take_succ (by omega), hz, hw]; simp)
      refine ⟨z, ?_, h2⟩
      intro k hk
      obtain ⟨k, rfl⟩ : ∃ j, k = j + 1 := ⟨k - 1, by omega⟩
      rw [nat_Zeros.l0, if_pos (by omega), if_pos (by omega), if_pos (by omega), rdn, if_pos hw, w64_s i (by omega)]
      exact h1 k (by omega)
    · have hg := hx.getD i
      obtain ⟨w, ew⟩ := Int.eq_ofNat_of_zero_le hg.1
      obtain ⟨o, t, eo, ho⟩ := odd_part2 w w (Nat.le_refl _) (by omega)
      have hlt : o * 2 ^ t < 18446744073709551616 := by rw [← eo]; omega
      have ht : t < 64 := by
        apply Classical.byContradiction
        intro hn
        have h1 : 2 ^ 64 ≤ 2 ^ t := Nat.pow_le_pow_right (by decide) (by omega)
        have h2 : 1 * 2 ^ t ≤ o * 2 ^ t := Nat.mul_le_mul_right _ (by omega)
        rw [show (2 : Nat) ^ 64 = 18446744073709551616 from by decide] at h1
        omega
      refine ⟨64 * i + t, ?_, ?_⟩
      · intro k hk
        obtain ⟨k, rfl⟩ : ∃ j, k = j + 1 := ⟨k - 1, by omega⟩
        have e1 : wrap64 (wrap64 (64 * (i : Int)) + (t : Int)) = ((64 * i + t : Nat) : Int) := by
          rw [w64_of (x := 64 * (i : Int)) (by omega) (by omega), w64_of (by omega) (by omega)]; omega
        have hZ := wide_Zeros.f_eq hlt ho k (by omega)
        rw [nat_Zeros.l0, if_pos (by omega), if_pos (by omega), if_pos (by omega), rdn, if_neg hw, ew]
        rw [← eo] at hZ
        rw [hZ, Option.bind_some, e1]
      · intro s
        have e1 := nv_split (xs := x) (n := i + 1) (by omega)
        rw [nv_take_succ (by omega), hz, ew, ha] at e1
        have hD := nv_nonneg (hx.drop (i + 1))
        obtain ⟨D, eD⟩ := Int.eq_ofNat_of_zero_le hD
        rw [eD, p2cast, p2cast] at e1
        have e2 : a = (o + 2 * (2 ^ (63 - t) * D)) * 2 ^ (64 * i + t) := by
          have e3 : a = w * 2 ^ (64 * i) + 2 ^ (64 * (i + 1)) * D := by
            have : ((a : Nat) : Int) = ((w * 2 ^ (64 * i) + 2 ^ (64 * (i + 1)) * D : Nat) : Int) := by
              rw [e1]; push_cast; omega
            exact Int.ofNat.inj this
          have e4 : 2 ^ (64 * (i + 1)) = 2 * 2 ^ (63 - t) * 2 ^ (64 * i + t) := by
            rw [← Nat.pow_succ', ← Nat.pow_add]; congr 1; omega
          rw [e3, e4, eo, Nat.pow_add]
          generalize 2 ^ (64 * i) = p
          generalize 2 ^ t = q
          generalize 2 ^ (63 - t) = r
          grind
        rw [e2]
        exact (mod_odd (by omega)).symm
theorem nat_Zeros.f_eq (x : List Int) (hx : Ws x) (hm : x.length ≤ 17592186044416) (a : Nat) (ha : nv x = (a : Int)) (h0 : a ≠ 0) :
    ∃ z : Nat, (∀ k, x.length + 10 < k → nat_Zeros.f k x = some (z : Int)) ∧ ∀ s : Nat, (z < s ↔ a % 2 ^ s ≠ 0) := by
  obtain ⟨z, h1, h2⟩ := nat_Zeros.l0_eq x hx hm a ha h0 x.length 0 (by omega) (by omega) rfl
  exact ⟨z, fun k hk => by rw [nat_Zeros.f]; exact h1 k hk, h2⟩
theorem nat_Shr.l0_eq (x0 : List Int) (x1 : Int) (Y : List Int) (hY : Ws Y) (s : Nat) (hs : s ≤ 63) (hm : Y.length ≤ 17592186044416) (hb : nv Y / 2 ^ s < 2 ^ 262144) (z : Int) (K : Nat) (hz : ∀ k, K ≤ k → nat_Zeros.f k x0 = some z) :
    ∀ (d k i : Nat) (cur : List Int), d = Y.length - i → d + K + Y.length + 2 < k → i ≤ Y.length → cur.length = Y.length → Ws cur → (∀ j, i ≤ j → cur.getD j 0 = Y.getD j 0) → nv (cur.take i) + 2 ^ (64 * i) * (nv (Y.drop i) / 2 ^ s) = nv Y / 2 ^ s →
    nat_Shr.l0 k x0 x1 cur (s : Int) (Y.length : Int) (i : Int) = some (wd (nv Y / 2 ^ s).toNat, decide (z < x1), 0) := by
  have hP := two_pow_pos s
  have hR := two_pow_pos (64 - s)
  have hPR := pow_split (s := s) (by omega)
  intro d
  induction d with
  | zero =>
    intro k i cur hd hk hi hl hw hj hv
    obtain ⟨k, rfl⟩ : ∃ j, k = j + 1 := ⟨k - 1, by omega⟩
    obtain rfl : i = Y.length := by omega
    rw [List.take_of_length_le (by omega), List.drop_eq_nil_of_le (Nat.le_refl _), nv_nil, Int.zero_ediv, Int.mul_zero, Int.add_zero] at hv
    rw [nat_Shr.l0, if_neg (by omega), nat_bound.f_bnd hw (by omega) k (by omega), Option.bind_some, hz k (by omega), Option.bind_some, hv, bnd_small hb]
  | succ d ih =>
    intro k i cur hd hk hi hl hw hj hv
    obtain ⟨k, rfl⟩ : ∃ j, k = j + 1 := ⟨k - 1, by omega⟩
    have ho := hY.getD i
    have hn := hY.getD (i + 1)
    have hy : Y.getD i 0 / 2 ^ s < 2 ^ (64 - s) := Int.ediv_lt_of_lt_mul hP (by rw [pow_split' (by omega)]; exact ho.2)
    have hy0 : 0 ≤ Y.getD i 0 / 2 ^ s := Int.ediv_nonneg ho.1 (Int.le_of_lt hP)
    have hlow := shl_low (x := Y.getD (i + 1) 0) hR (pow_split' (s := s) (by omega))
    have g0 : 0 ≤ Y.getD (i + 1) 0 % 2 ^ s := Int.emod_nonneg _ (Int.ne_of_gt hP)
    have g1 : Y.getD (i + 1) 0 % 2 ^ s < 2 ^ s := Int.emod_lt_of_pos _ hP
    have hm1 := Int.emod_nonneg (Y.getD (i + 1) 0 * 2 ^ (64 - s)) (show (18446744073709551616 : Int) ≠ 0 by decide)
    have hsum : Y.getD (i + 1) 0 * 2 ^ (64 - s) % 18446744073709551616 + Y.getD i 0 / 2 ^ s < 18446744073709551616 := by
      rw [hlow, ← pow_split' (s := s) (by omega)]
      have h3 : 2 ^ (64 - s) * (Y.getD (i + 1) 0 % 2 ^ s + 1) ≤ 2 ^ (64 - s) * 2 ^ s := Int.mul_le_mul_of_nonneg_left g1 (Int.le_of_lt hR)
      rw [Int.mul_add, Int.mul_one] at h3
      omega
    -- what lies above is as the next word, by the power
    have hmod : nv (Y.drop (i + 1)) % 2 ^ s = Y.getD (i + 1) 0 % 2 ^ s := by
      by_cases hlast : i + 1 < Y.length
      · rw [drop_getD hlast, nv_cons]
        have e : (18446744073709551616 : Int) = 2 ^ s * 2 ^ (64 - s) := hPR.symm
        rw [e, Int.mul_assoc, Int.add_mul_emod_self_left]
      · rw [List.drop_eq_nil_of_le (by omega), getD_of_le (by omega), nv_nil]
    have hstep : nv (Y.drop i) / 2 ^ s = 18446744073709551616 * (nv (Y.drop (i + 1)) / 2 ^ s) + (Y.getD (i + 1) 0 * 2 ^ (64 - s) % 18446744073709551616 + Y.getD i 0 / 2 ^ s) := by
      rw [drop_getD (show i < Y.length by omega), nv_cons]
      have e := Int.mul_ediv_add_emod (nv (Y.drop (i + 1))) (2 ^ s)
      rw [hmod] at e
      have h := shr_step (w := Y.getD i 0) (q := nv (Y.drop (i + 1)) / 2 ^ s) (a := Y.getD (i + 1) 0) hP hR hPR
      rw [Int.mul_comm (nv (Y.drop (i + 1)) / 2 ^ s) (2 ^ s), e] at h
      exact h
    have hrec : nat_Shr.l0 k x0 x1 (cur.set i (Y.getD (i + 1) 0 * 2 ^ (64 - s) % 18446744073709551616 + Y.getD i 0 / 2 ^ s)) (s : Int) (Y.length : Int) ((i + 1 : Nat) : Int) = some (wd (nv Y / 2 ^ s).toNat, decide (z < x1), 0) := by
      refine ih k (i + 1) _ (by omega) (by omega) (by omega) (by rw [List.length_set]; exact hl) (hw.set _ (by omega) hsum) ?_ ?_
      · intro j hij
        rw [set_getD_ne (by omega)]
        exact hj j (by omega)
      · rw [nv_take_succ (by rw [List.length_set]; omega), take_set_self]
        have e5 : (cur.set i (Y.getD (i + 1) 0 * 2 ^ (64 - s) % 18446744073709551616 + Y.getD i 0 / 2 ^ s)).getD i 0 = Y.getD (i + 1) 0 * 2 ^ (64 - s) % 18446744073709551616 + Y.getD i 0 / 2 ^ s := by
          rw [List.getD_eq_getElem?_getD, List.getElem?_set_self (by omega)]; rfl
        rw [e5, pow64, ← hv, hstep]
        generalize Y.getD (i + 1) 0 * 2 ^ (64 - s) % 18446744073709551616 + Y.getD i 0 / 2 ^ s = v
        generalize nv (Y.drop (i + 1)) / 2 ^ s = D
        generalize (2 : Int) ^ (64 * i) = p
        generalize nv (cur.take i) = T
        grind
    rw [nat_Shr.l0, if_pos (by omega), w64_s i (by omega)]
    by_cases hlast : i + 1 < Y.length
    · rw [if_pos (by omega), if_pos (by omega), if_pos (by omega), if_pos (by omega), rdn, rdn, hj i (Nat.le_refl _), hj (i + 1) (by omega), wide_Shr.f_eq hs hn.1 hn.2 ho.1 ho.2, Option.bind_some, Int.toNat_natCast]
      exact hrec
    · rw [if_neg (by omega), if_pos (by omega), if_pos (by omega), rdn, hj i (Nat.le_refl _), wide_Shr.f_eq hs (by decide) (by decide) ho.1 ho.2, Option.bind_some, Int.toNat_natCast]
      rw [getD_of_le (show Y.length ≤ i + 1 by omega)] at hrec
      exact hrec
theorem bits_lt_pow {a : Nat} (s : Nat) : bitsN (a : Int) ≤ (s : Int) ↔ a < 2 ^ s := by
  by_cases h0 : a = 0
  · subst h0
    rw [show bitsN ((0 : Nat) : Int) = 0 from bitsN_zero]
    exact ⟨fun _ => Nat.pow_pos (by decide), fun _ => by omega⟩
  · have hb := bitsN_pos (x := (a : Int)) (by omega)
    obtain ⟨L, hL⟩ : ∃ n : Nat, bitsN (a : Int) = n + 1 := ⟨(bitsN (a : Int) - 1).toNat, by omega⟩
    have h1 := (bitsN_iff (by omega) L).1 hL
    rw [p2cast, p2cast] at h1
    have h2 : 2 ^ L ≤ a := Int.ofNat_le.1 h1.1
    have h3 : a < 2 ^ (L + 1) := Int.ofNat_lt.1 h1.2
    rw [hL]
    constructor
    · intro h
      exact Nat.lt_of_lt_of_le h3 (Nat.pow_le_pow_right (by decide) (by omega))
    · intro h
      have := (Nat.pow_lt_pow_iff_right (a := 2) (by decide)).1 (Nat.lt_of_le_of_lt h2 h)
      omega
theorem div_bits {a s c : Nat} (h : bitsN (a : Int) ≤ (c : Int) + s) : ((a / 2 ^ s : Nat) : Int) < 2 ^ c := by
  rw [p2cast]
  apply Int.ofNat_lt.2
  rw [Nat.div_lt_iff_lt_mul (Nat.pow_pos (by decide)), ← Nat.pow_add, ← bits_lt_pow]
  omega
theorem nat_Shr.f_eq (l : List Int) (hl : Ws l) (hm : l.length ≤ 17592186044416) (a : Nat) (ha : nv l = (a : Int)) (s : Nat) (hs : s ≤ 4503599627370496) (hb : bitsN (a : Int) ≤ 262144 + s) (k : Nat) (hk : 3 * l.length + 30 < k) :
    nat_Shr.f k l (s : Int) = some (wd (a / 2 ^ s), decide (a % 2 ^ s ≠ 0), 0) := by
  rw [nat_Shr.f, nat_Bits.f_eq l hl (by omega) k (by omega) (by omega), Option.bind_some, if_neg (by omega), ha]
  by_cases h1 : bitsN (a : Int) ≤ s
  · have hlt := (bits_lt_pow s).1 h1
    rw [if_pos h1, Nat.div_eq_of_lt hlt, Nat.mod_eq_of_lt hlt, wd_zero]
    congr 3
    rw [decide_eq_decide]
    constructor
    · intro h hz
      rw [hz] at h
      exact absurd h (by decide)
    · intro h
      have := bitsN_pos (x := (a : Int)) (by omega)
      omega
  · have ha0 : a ≠ 0 := by
      intro h
      apply h1
      rw [h, show bitsN ((0 : Nat) : Int) = 0 from bitsN_zero]
      omega
    have hbl : bitsN (a : Int) ≤ ((64 * l.length : Nat) : Int) := by
      rw [bits_lt_pow]
      have := nv_lt hl
      rw [ha, p2cast] at this
      exact Int.ofNat_lt.1 this
    have e1 : wrap64 (Int.tdiv (s : Int) 64) = ((s / 64 : Nat) : Int) := by
      rw [Int.tdiv_eq_ediv_of_nonneg (by omega), w64_of (by omega) (by omega)]; omega
    have e2 : Int.tmod (s : Int) 64 = ((s % 64 : Nat) : Int) := by
      rw [Int.tmod_eq_emod_of_nonneg (by omega)]; omega
    obtain ⟨z, hz1, hz2⟩ := nat_Zeros.f_eq l hl hm a ha ha0
    have hdec : decide ((z : Int) < (s : Int)) = decide (a % 2 ^ s ≠ 0) := by
      rw [decide_eq_decide, ← hz2 s]; omega
    have hdl : (l.drop (s / 64)).length ≤ l.length := by rw [List.length_drop]; omega
    have hY : Ws (strip (l.drop (s / 64))) := (hl.drop _).strip
    have hYl : (strip (l.drop (s / 64))).length ≤ l.length := Nat.le_trans (strip_length_le _) hdl
    have eY : nv (strip (l.drop (s / 64))) = ((a / 2 ^ (64 * (s / 64)) : Nat) : Int) := by
      have e3 := nv_split (xs := l) (n := s / 64) (by omega)
      have b1 := nv_nonneg (hl.take (s / 64))
      have b2 := nv_take_lt hl (s / 64)
      have hp := two_pow_pos (64 * (s / 64))
      rw [nv_strip, Int.natCast_ediv, ← ha, ← p2cast, e3, Int.add_mul_ediv_left _ _ (Int.ne_of_gt hp), Int.ediv_eq_zero_of_lt b1 b2, Int.zero_add]
    have eq_ : a / 2 ^ (64 * (s / 64)) / 2 ^ (s % 64) = a / 2 ^ s := by
      rw [Nat.div_div_eq_div_mul, ← Nat.pow_add]; congr 2; omega
    have efin : nv (strip (l.drop (s / 64))) / 2 ^ (s % 64) = ((a / 2 ^ s : Nat) : Int) := by
      rw [eY, p2cast, ← Int.natCast_ediv, eq_]
    have hsmall : ((a / 2 ^ s : Nat) : Int) < 2 ^ 262144 := div_bits hb
    rw [if_neg (by omega), w64_of (x := bitsN (a : Int) - (s : Int)) (by omega) (by omega), if_neg (by omega), e1, if_pos (by omega), if_pos (by omega), nat_Norm.f, Int.toNat_natCast, if_pos (by omega), Option.bind_some, e2]
    by_cases h0 : s % 64 = 0
    · rw [h0] at efin ⊢
      rw [Int.pow_zero, Int.ediv_one] at efin
      rw [if_neg (by omega), nat_bound.f_bnd hY (by omega) k (by omega), Option.bind_some, hz1 k (by omega), Option.bind_some, efin, bnd_small hsmall, hdec, Int.toNat_natCast]
    · rw [if_pos (by omega)]
      have r := nat_Shr.l0_eq l (s : Int) (strip (l.drop (s / 64))) hY (s % 64) (by omega) (by omega) (by rw [efin]; exact hsmall) (z : Int) (l.length + 11) (fun k hk => hz1 k (by omega)) (strip (l.drop (s / 64))).length k 0 (strip (l.drop (s / 64))) (by omega) (by omega) (by omega) rfl hY (fun _ _ => rfl) (by simp [nv])
      rw [efin, hdec, Int.toNat_natCast] at r
      exact r
theorem nat_Word.f_eq {n : Nat} (h : n < 18446744073709551616) (k : Nat) (hk : 3 ≤ k) : nat_Word.f k (wd n) = some ((n : Int), true) := by
  have hw := wd_ws n
  have hlen : (wd n).length ≤ 1 := by
    have := wd_len (n := (n : Int)) (t := 1) (by omega) (by rw [show (2 : Int) ^ (64 * 1) = 18446744073709551616 from by decide]; omega)
    rwa [Int.toNat_natCast] at this
  rw [nat_Word.f, nat_size.f_eq (wd n) (by omega) k (by omega), Option.bind_some, strip_wd]
  by_cases h0 : n = 0
  · subst h0
    rw [wd_zero]; rfl
  · rw [wd_pos h0, Nat.div_eq_of_lt h, wd_zero, Nat.mod_eq_of_lt h]
    rfl
end Go.Proofs.YtoannkopciehcaaDoor.PA

namespace Go.Proofs.YtoannkopciehcaaDoor.PA
open Go Go.RowKit Go.Proofs.YtoannkopciehcaaDoorW.PrintWords Go.Proofs.YtoannkopciehcaaDoorW.PrintLast Go.Proofs.YtoannkopciehcaaDoorW.PrintMore
set_option linter.unusedVariables false
set_option linter.unusedSimpArgs false
/-- 2^n is no multiple of 5^e -/
theorem pow_mod5 (n : Nat) : 2 ^ n % 5 ≠ 0 := by
  induction n with
  | zero => decide
  | succ n ih => rw [Nat.pow_succ]; omega
theorem pow_mod_five {n d : Nat} (hd : 1 ≤ d) : 2 ^ n % 5 ^ d ≠ 0 := by
  intro h
  have h5 : 5 ∣ 5 ^ d := ⟨5 ^ (d - 1), by rw [Nat.mul_comm, ← Nat.pow_succ]; congr 1; omega⟩
  have h1 : 5 ∣ 2 ^ n := Nat.dvd_trans h5 (Nat.dvd_of_mod_eq_zero h)
  exact pow_mod5 n (Nat.mod_eq_zero_of_dvd h1)
/-- a power's two words as one number, its frame, whether it is whole -/
def pow5 (e : Int) : Nat × Int × Bool :=
  if 0 ≤ e then
    (if bitsN ((5 ^ e.toNat : Nat) : Int) ≤ 128 then (5 ^ e.toNat * 2 ^ (128 - bitsN ((5 ^ e.toNat : Nat) : Int)).toNat, bitsN ((5 ^ e.toNat : Nat) : Int) - 128, true)
    else (5 ^ e.toNat / 2 ^ (bitsN ((5 ^ e.toNat : Nat) : Int) - 128).toNat, bitsN ((5 ^ e.toNat : Nat) : Int) - 128, decide (5 ^ e.toNat % 2 ^ (bitsN ((5 ^ e.toNat : Nat) : Int) - 128).toNat = 0)))
  else (2 ^ (bitsN ((5 ^ (-e).toNat : Nat) : Int) + 127).toNat / 5 ^ (-e).toNat, -(bitsN ((5 ^ (-e).toNat : Nat) : Int) + 127), false)
structure Row5 (e : Int) (V : Nat) (f : Int) (w : Bool) : Prop where
  lo : 170141183460469231731687303715884105728 ≤ V
  hi : V < 340282366920938463463374607431768211456
  f1 : -3000 ≤ f
  f2 : f ≤ 3000
  le : V * 2 ^ f.toNat * 5 ^ (-e).toNat ≤ 5 ^ e.toNat * 2 ^ (-f).toNat
  lt : 5 ^ e.toNat * 2 ^ (-f).toNat < (V + 1) * 2 ^ f.toNat * 5 ^ (-e).toNat
  eq : w = true → 5 ^ e.toNat * 2 ^ (-f).toNat = V * 2 ^ f.toNat * 5 ^ (-e).toNat
theorem five_bits {n : Nat} (h : n ≤ 348) : ∃ L : Nat, bitsN ((5 ^ n : Nat) : Int) = L + 1 ∧ 2 ^ L ≤ 5 ^ n ∧ 5 ^ n < 2 ^ (L + 1) ∧ L < 1044 := by
  obtain ⟨L, h1, h2, h3⟩ := bits_bounds (m := 5 ^ n) (Nat.pow_pos (by decide))
  refine ⟨L, h1, h2, h3, ?_⟩
  have h4 : 5 ^ n ≤ 8 ^ n := Nat.pow_le_pow_left (by decide) n
  have h5 : (8 : Nat) ^ n = 2 ^ (3 * n) := by rw [Nat.pow_mul]
  have h6 : 2 ^ L < 2 ^ (3 * n + 1) := Nat.lt_of_le_of_lt h2 (Nat.lt_of_le_of_lt (by rw [← h5]; exact h4) (Nat.pow_lt_pow_right (by decide) (by omega)))
  have h7 := (Nat.pow_lt_pow_iff_right (a := 2) (by decide)).1 h6
  by_cases hn : n = 348
  · subst hn
    have h8 : 2 ^ L < 2 ^ 1000 := Nat.lt_of_le_of_lt h2 (by decide +kernel)
    have h9 := (Nat.pow_lt_pow_iff_right (a := 2) (by decide)).1 h8
    omega
  · omega
theorem pow5_row {e : Int} (h1 : -348 ≤ e) (h2 : e ≤ 347) : Row5 e (pow5 e).1 (pow5 e).2.1 (pow5 e).2.2 := by
  have e127 : (170141183460469231731687303715884105728 : Nat) = 2 ^ 127 := by decide
  have e128 : (340282366920938463463374607431768211456 : Nat) = 2 ^ 128 := by decide
  unfold pow5
  by_cases h0 : 0 ≤ e
  · obtain ⟨L, hL, hb1, hb2, hb3⟩ := five_bits (n := e.toNat) (by omega)
    have ee : (-e).toNat = 0 := by omega
    rw [if_pos h0, hL]
    generalize hX : 5 ^ e.toNat = X at *
    by_cases hc : (L : Int) + 1 ≤ 128
    · obtain ⟨s, hs⟩ : ∃ s : Nat, (s : Int) = 128 - ((L : Int) + 1) := ⟨(128 - ((L : Int) + 1)).toNat, by omega⟩
      rw [if_pos hc, ← hs, Int.toNat_natCast]
      have ef : (L : Int) + 1 - 128 = -(s : Int) := by omega
      have e1 : ((L : Int) + 1 - 128).toNat = 0 := by omega
      have e2 : (-((L : Int) + 1 - 128)).toNat = s := by omega
      have hp : 0 < 2 ^ s := Nat.pow_pos (by decide)
      constructor
      · show _ ≤ X * 2 ^ s
        have h3 : 2 ^ L * 2 ^ s ≤ X * 2 ^ s := Nat.mul_le_mul_right _ hb1
        rw [← Nat.pow_add, show L + s = 127 from by omega] at h3
        rw [e127]; exact h3
      · show X * 2 ^ s < _
        have h3 : X * 2 ^ s < 2 ^ (L + 1) * 2 ^ s := Nat.mul_lt_mul_of_pos_right hb2 hp
        rw [← Nat.pow_add, show L + 1 + s = 128 from by omega] at h3
        rw [e128]; exact h3
      · show -3000 ≤ (L : Int) + 1 - 128
        omega
      · show (L : Int) + 1 - 128 ≤ 3000
        omega
      · show X * 2 ^ s * 2 ^ ((L : Int) + 1 - 128).toNat * 5 ^ (-e).toNat ≤ 5 ^ e.toNat * 2 ^ (-((L : Int) + 1 - 128)).toNat
        rw [hX, ee, e1, e2]
        simp only [Nat.pow_zero, Nat.mul_one, Nat.one_mul]
        exact Nat.le_refl _
      · show 5 ^ e.toNat * 2 ^ (-((L : Int) + 1 - 128)).toNat < (X * 2 ^ s + 1) * 2 ^ ((L : Int) + 1 - 128).toNat * 5 ^ (-e).toNat
        rw [hX, ee, e1, e2]
        simp only [Nat.pow_zero, Nat.mul_one, Nat.one_mul]
        exact Nat.lt_succ_self _
      · intro _
        show 5 ^ e.toNat * 2 ^ (-((L : Int) + 1 - 128)).toNat = X * 2 ^ s * 2 ^ ((L : Int) + 1 - 128).toNat * 5 ^ (-e).toNat
        rw [hX, ee, e1, e2]
        simp only [Nat.pow_zero, Nat.mul_one, Nat.one_mul]
    · obtain ⟨s, hs⟩ : ∃ s : Nat, (s : Int) = (L : Int) + 1 - 128 := ⟨((L : Int) + 1 - 128).toNat, by omega⟩
      rw [if_neg hc, ← hs, Int.toNat_natCast]
      have e2 : (-(s : Int)).toNat = 0 := by omega
      have hp : 0 < 2 ^ s := Nat.pow_pos (by decide)
      have hdm := Nat.div_add_mod X (2 ^ s)
      have hmod := Nat.mod_lt X hp
      constructor
      · show _ ≤ X / 2 ^ s
        rw [e127, Nat.le_div_iff_mul_le hp, ← Nat.pow_add, show 127 + s = L from by omega]
        exact hb1
      · show X / 2 ^ s < _
        rw [e128, Nat.div_lt_iff_lt_mul hp, ← Nat.pow_add, show 128 + s = L + 1 from by omega]
        exact hb2
      · show -3000 ≤ (s : Int)
        omega
      · show (s : Int) ≤ 3000
        omega
      · show X / 2 ^ s * 2 ^ (s : Int).toNat * 5 ^ (-e).toNat ≤ 5 ^ e.toNat * 2 ^ (-(s : Int)).toNat
        rw [hX, ee, e2, Int.toNat_natCast]
        simp only [Nat.pow_zero, Nat.mul_one, Nat.one_mul]
        exact Nat.div_mul_le_self _ _
      · show 5 ^ e.toNat * 2 ^ (-(s : Int)).toNat < (X / 2 ^ s + 1) * 2 ^ (s : Int).toNat * 5 ^ (-e).toNat
        rw [hX, ee, e2, Int.toNat_natCast]
        simp only [Nat.pow_zero, Nat.mul_one, Nat.one_mul]
        rw [Nat.add_mul, Nat.one_mul, Nat.mul_comm (X / 2 ^ s)]
        omega
      · intro hw
        have hw0 : X % 2 ^ s = 0 := of_decide_eq_true hw
        show 5 ^ e.toNat * 2 ^ (-(s : Int)).toNat = X / 2 ^ s * 2 ^ (s : Int).toNat * 5 ^ (-e).toNat
        rw [hX, ee, e2, Int.toNat_natCast]
        simp only [Nat.pow_zero, Nat.mul_one, Nat.one_mul]
        rw [Nat.mul_comm (X / 2 ^ s)]
        omega
  · obtain ⟨L, hL, hb1, hb2, hb3⟩ := five_bits (n := (-e).toNat) (by omega)
    have ee : e.toNat = 0 := by omega
    have hne := pow_mod_five (n := L + 128) (d := (-e).toNat) (by omega)
    rw [if_neg h0, hL]
    have es : ((L : Int) + 1 + 127).toNat = L + 128 := by omega
    rw [es]
    have hp : 0 < 5 ^ (-e).toNat := Nat.pow_pos (by decide)
    have e1 : (-((L : Int) + 1 + 127)).toNat = 0 := by omega
    have e2 : (-(-((L : Int) + 1 + 127))).toNat = L + 128 := by omega
    have hdm := Nat.div_add_mod (2 ^ (L + 128)) (5 ^ (-e).toNat)
    have hmod := Nat.mod_lt (2 ^ (L + 128)) hp
    generalize hD : 5 ^ (-e).toNat = D at *
    constructor
    · show _ ≤ 2 ^ (L + 128) / D
      rw [e127, Nat.le_div_iff_mul_le hp]
      have h3 : 2 ^ 127 * D ≤ 2 ^ 127 * 2 ^ (L + 1) := Nat.mul_le_mul_left _ (Nat.le_of_lt hb2)
      rw [← Nat.pow_add, show 127 + (L + 1) = L + 128 from by omega] at h3
      exact h3
    · show 2 ^ (L + 128) / D < _
      rw [e128, Nat.div_lt_iff_lt_mul hp]
      have h3 : 2 ^ 128 * 2 ^ L ≤ 2 ^ 128 * D := Nat.mul_le_mul_left _ hb1
      rw [← Nat.pow_add, show 128 + L = L + 128 from by omega] at h3
      apply Nat.lt_of_le_of_ne h3
      intro he
      apply hne
      rw [he, Nat.mul_mod_left]
    · show -3000 ≤ -((L : Int) + 1 + 127)
      omega
    · show -((L : Int) + 1 + 127) ≤ 3000
      omega
    · show 2 ^ (L + 128) / D * 2 ^ (-((L : Int) + 1 + 127)).toNat * 5 ^ (-e).toNat ≤ 5 ^ e.toNat * 2 ^ (-(-((L : Int) + 1 + 127))).toNat
      rw [hD, ee, e1, e2]
      simp only [Nat.pow_zero, Nat.mul_one, Nat.one_mul]
      exact Nat.div_mul_le_self _ _
    · show 5 ^ e.toNat * 2 ^ (-(-((L : Int) + 1 + 127))).toNat < (2 ^ (L + 128) / D + 1) * 2 ^ (-((L : Int) + 1 + 127)).toNat * 5 ^ (-e).toNat
      rw [hD, ee, e1, e2]
      simp only [Nat.pow_zero, Nat.mul_one, Nat.one_mul]
      rw [Nat.add_mul, Nat.one_mul, Nat.mul_comm (2 ^ (L + 128) / D)]
      omega
    · intro hw
      cases hw
theorem wd_two {V : Nat} (h1 : 170141183460469231731687303715884105728 ≤ V) (h2 : V < 340282366920938463463374607431768211456) : wd V = [((V % 18446744073709551616 : Nat) : Int), ((V / 18446744073709551616 : Nat) : Int)] := by
  rw [wd_pos (by omega), wd_pos (by omega), Nat.mod_eq_of_lt (a := V / 18446744073709551616) (by omega), show V / 18446744073709551616 / 18446744073709551616 = 0 from by omega, wd_zero]
theorem power_told.f_eq {V : Nat} (h1 : 170141183460469231731687303715884105728 ≤ V) (h2 : V < 340282366920938463463374607431768211456) (f : Int) (w : Bool) :
    power_told.f (wd V) f w = some (((V / 18446744073709551616 : Nat) : Int), ((V % 18446744073709551616 : Nat) : Int), f, w) := by
  rw [wd_two h1 h2]
  rfl
theorem five_int (n : Nat) : ((5 : Int) ^ n).toNat = 5 ^ n := by
  have : (5 : Int) ^ n = ((5 ^ n : Nat) : Int) := by rw [Int.natCast_pow]; rfl
  rw [this, Int.toNat_natCast]
theorem wd_len_lt {X n : Nat} (h : X < 2 ^ (64 * n)) : (wd X).length ≤ n := wd_length_le h
theorem wd_len_of {X L n : Nat} (h : X < 2 ^ L) (hL : L ≤ 64 * n) : (wd X).length ≤ n := wd_length_le (Nat.lt_of_lt_of_le h (Nat.pow_le_pow_right (by decide) hL))
theorem lim_of {x n : Nat} (hn : n ≤ 112899) (h : x ≤ 5 ^ n) : bnd (x : Int) = (wd x, 0) := by
  have h1 : (x : Int) ≤ 5 ^ n := by
    have : (5 : Int) ^ n = ((5 ^ n : Nat) : Int) := by rw [Int.natCast_pow]; rfl
    rw [this]; exact Int.ofNat_le.2 h
  have h2 := bnd_small (Int.lt_of_le_of_lt h1 (five_lt hn))
  rw [Int.toNat_natCast] at h2
  exact h2
theorem shl_nat_ok {X s n : Nat} (h0 : 0 < X) (hn : n ≤ 112899) (h : X * 2 ^ s ≤ 5 ^ n) (l : List Int) (hl : Ws l) (hv : nv l = (X : Int)) (hlen : l.length ≤ 1000000) (hs : s ≤ 1000000) (k : Nat) (hk : 3000000 < k) : nat_Shl.f k l (s : Int) = some (wd (X * 2 ^ s), 0) := by
  have ei : (X : Int) * 2 ^ (s : Int).toNat = ((X * 2 ^ s : Nat) : Int) := by rw [Int.natCast_mul, Int.toNat_natCast, p2cast]
  have e0 : ¬ (s : Int) < 0 := by omega
  have e1 : ¬ (X : Int) = 0 := by omega
  rw [nat_Shl.f_eq l hl hlen s (by omega) k hk, if_neg e0, hv, if_neg e1, ei, lim_of hn h]
theorem power_up.f_eq {e : Int} (h0 : 0 ≤ e) (h2 : e ≤ 347) (k : Nat) (hk : 100000000 < k) :
    power_up.f k e = some ((((pow5 e).1 / 18446744073709551616 : Nat) : Int), (((pow5 e).1 % 18446744073709551616 : Nat) : Int), (pow5 e).2.1, (pow5 e).2.2) := by
  obtain ⟨L, hL, hb1, hb2, hb3⟩ := five_bits (n := e.toNat) (by omega)
  have hlen : (wd (5 ^ e.toNat)).length ≤ 17 := wd_len_of hb2 (by omega)
  have hF : radix_Five.f k e = some (wd (5 ^ e.toNat), 0) := by
    have q1 : ¬ e > 112899 := by omega
    have q2 : ¬ e < 0 := by omega
    rw [radix_Five.f_eq e (by omega) k (by omega), if_neg q1, if_neg q2, five_int]
  have hB : nat_Bits.f k (wd (5 ^ e.toNat)) = some ((L : Int) + 1) := by
    rw [nat_Bits.f_eq _ (wd_ws _) (by omega) k (by omega) (by omega), nv_wd, hL]
  have w1 : wrap64 ((L : Int) + 1 - 128) = (L : Int) + 1 - 128 := w64_of (by omega) (by omega)
  rw [power_up.f, hF, Option.bind_some, hB, Option.bind_some, w1]
  clear hF hB w1
  by_cases hc : (L : Int) + 1 ≤ 128
  · obtain ⟨s, hs⟩ : ∃ s : Nat, (s : Int) = 128 - ((L : Int) + 1) := ⟨(128 - ((L : Int) + 1)).toNat, by omega⟩
    have w2 : wrap64 (-((L : Int) + 1 - 128)) = (s : Int) := w64x (by omega) (by omega)
    have c1 : (L : Int) + 1 - 128 ≤ 0 := by omega
    have hle : 5 ^ e.toNat * 2 ^ s ≤ 5 ^ 128 := by
      have h3 : 5 ^ e.toNat * 2 ^ s ≤ 2 ^ (L + 1) * 2 ^ s := Nat.mul_le_mul_right _ (Nat.le_of_lt hb2)
      rw [← Nat.pow_add, show L + 1 + s = 128 from by omega] at h3
      exact Nat.le_trans h3 (Nat.pow_le_pow_left (by decide) 128)
    have hS := shl_nat_ok (n := 128) (Nat.pow_pos (n := e.toNat) (show 0 < 5 by decide)) (by decide) hle _ (wd_ws _) (nv_wd _) (by omega) (by omega) k (by omega)
    have e5 : pow5 e = (5 ^ e.toNat * 2 ^ s, (L : Int) + 1 - 128, true) := by
      unfold pow5
      rw [if_pos h0, hL, if_pos hc, ← hs, Int.toNat_natCast]
    have hV := pow5_row (e := e) (by omega) h2
    rw [e5] at hV ⊢
    rw [if_pos c1, w2, hS, Option.bind_some, power_told.f_eq hV.lo hV.hi, Option.bind_some]
  · obtain ⟨s, hs⟩ : ∃ s : Nat, (s : Int) = (L : Int) + 1 - 128 := ⟨((L : Int) + 1 - 128).toNat, by omega⟩
    have hS := nat_Shr.f_eq (wd (5 ^ e.toNat)) (wd_ws _) (by omega) (5 ^ e.toNat) (nv_wd _) s (by omega) (by rw [hL]; omega) k (by omega)
    have c1 : ¬ (s : Int) ≤ 0 := by omega
    have hd : (!decide (5 ^ e.toNat % 2 ^ s ≠ 0)) = decide (5 ^ e.toNat % 2 ^ s = 0) := by
      rw [Bool.eq_iff_iff]; simp
    have e5 : pow5 e = (5 ^ e.toNat / 2 ^ s, (s : Int), decide (5 ^ e.toNat % 2 ^ s = 0)) := by
      unfold pow5
      rw [if_pos h0, hL, if_neg hc, ← hs, Int.toNat_natCast]
    have hV := pow5_row (e := e) (by omega) h2
    rw [e5] at hV ⊢
    rw [← hs, if_neg c1, hS, Option.bind_some, hd, power_told.f_eq hV.lo hV.hi, Option.bind_some]
theorem one_shl (n k : Nat) (hn : n ≤ 100000) (hk : 3000000 < k) : nat_Shl.f k [1] (n : Int) = some (wd (2 ^ n), 0) := by
  have h := shl_nat_ok (X := 1) (s := n) (n := n) (by decide) (by omega) (by rw [Nat.one_mul]; exact Nat.pow_le_pow_left (by decide) _) [1] (Ws.cons (by decide) (by decide) Ws.nil) rfl (by decide) (by omega) k hk
  rw [Nat.one_mul] at h
  exact h
theorem div_nat (X Y : Nat) (hY : 0 < Y) (x y : List Int) (hx : Ws x) (hy : Ws y) (vx : nv x = (X : Int)) (vy : nv y = (Y : Int)) (lx : x.length ≤ 1000000) (ly : y.length ≤ 1000000) (k : Nat) (hk : 10000000 < k) : quot_DivMod.f k x y = some (wd (X / Y), wd (X % Y), 0) := by
  have h0 : ¬ (Y : Int) = 0 := by omega
  rw [quot_DivMod.f_eq x y hx hy (by omega) (by omega) k (by omega) (by omega), vx, vy, if_neg h0, ← Int.natCast_ediv, ← Int.natCast_emod, Int.toNat_natCast, Int.toNat_natCast]
theorem power_down.f_eq {e : Int} (h1 : -348 ≤ e) (h0 : e < 0) (k : Nat) (hk : 100000000 < k) :
    power_down.f k e = some ((((pow5 e).1 / 18446744073709551616 : Nat) : Int), (((pow5 e).1 % 18446744073709551616 : Nat) : Int), (pow5 e).2.1, (pow5 e).2.2) := by
  have q0 : ¬ 0 ≤ e := by omega
  have q1 : ¬ -e > 112899 := by omega
  have q2 : ¬ -e < 0 := by omega
  have q3 : e ≤ 347 := by omega
  have q4 : (-e).toNat ≤ 348 := by omega
  have q5 : -e < 9223372036854775808 := by omega
  have wn_ : wrap64 (-e) = -e := w64_of (by omega) (by omega)
  have k1 : 30000000 < k := by omega
  have k2 : 10000000 < k := by omega
  have k3 : 3000000 < k := by omega
  have k4 : 17 < k := by omega
  obtain ⟨L, hL, hb1, hb2, hb3⟩ := five_bits q4
  have w1 : wrap64 ((L : Int) + 1 + 127) = (L : Int) + 1 + 127 := w64_of (by clear hb1 hb2; omega) (by clear hb1 hb2; omega)
  have w2 : wrap64 (-((L : Int) + 1 + 127)) = -((L : Int) + 1 + 127) := w64_of (by clear hb1 hb2; omega) (by clear hb1 hb2; omega)
  have w3 : wrap64 (-(-((L : Int) + 1 + 127))) = ((L + 128 : Nat) : Int) := w64x (by clear hb1 hb2; omega) (by clear hb1 hb2; omega)
  have es : ((L : Int) + 1 + 127).toNat = L + 128 := by clear hb1 hb2; omega
  have l1 : L + 1 ≤ 64 * 17 := by clear hb1 hb2; omega
  have l2 : L + 128 < 64 * 20 := by clear hb1 hb2; omega
  have l3 : L + 128 ≤ 100000 := by clear hb1 hb2; omega
  have hlen : (wd (5 ^ (-e).toNat)).length ≤ 17 := wd_len_of hb2 l1
  have hF : radix_Five.f k (-e) = some (wd (5 ^ (-e).toNat), 0) := by
    rw [radix_Five.f_eq (-e) q5 k k1, if_neg q1, if_neg q2, five_int]
  have hB : nat_Bits.f k (wd (5 ^ (-e).toNat)) = some ((L : Int) + 1) := by
    rw [nat_Bits.f_eq _ (wd_ws _) (Nat.le_trans hlen (by decide)) k (Nat.lt_of_le_of_lt hlen k4) (Nat.le_trans (by decide) (Nat.le_of_lt k4)), nv_wd, hL]
  have hl2 : (wd (2 ^ (L + 128))).length ≤ 20 := wd_len_of (Nat.pow_lt_pow_right (by decide) (Nat.lt_succ_self _)) (Nat.succ_le_of_lt l2)
  have hD := div_nat (2 ^ (L + 128)) (5 ^ (-e).toNat) (Nat.pow_pos (by decide)) _ _ (wd_ws _) (wd_ws _) (nv_wd _) (nv_wd _) (Nat.le_trans hl2 (by decide)) (Nat.le_trans hlen (by decide)) k k2
  have e5 : pow5 e = (2 ^ (L + 128) / 5 ^ (-e).toNat, -((L : Int) + 1 + 127), false) := by
    unfold pow5
    rw [if_neg q0, hL, es]
  have hV := pow5_row h1 q3
  rw [e5] at hV ⊢
  rw [power_down.f, wn_, hF, Option.bind_some, hB, Option.bind_some, w1, w2, w3, one_shl (L + 128) k l3 k3, Option.bind_some, hD, Option.bind_some, power_told.f_eq hV.lo hV.hi, Option.bind_some]
theorem power_at.f_eq {e : Int} (h1 : -348 ≤ e) (h2 : e ≤ 347) (k : Nat) (hk : 100000001 < k) :
    power_at.f k e = some ((((pow5 e).1 / 18446744073709551616 : Nat) : Int), (((pow5 e).1 % 18446744073709551616 : Nat) : Int), (pow5 e).2.1, (pow5 e).2.2, true) := by
  obtain ⟨k, rfl⟩ : ∃ j, k = j + 1 := ⟨k - 1, by omega⟩
  have q1 : ¬ e < -348 := by omega
  have q2 : ¬ e > 347 := by omega
  rw [power_at.f, if_neg q1, decide_eq_false q2, power_at.j0, if_neg (by decide)]
  by_cases h0 : 0 ≤ e
  · have q3 : ¬ e < 0 := by omega
    rw [if_neg q3, power_up.f_eq h0 h2 k (by omega), Option.bind_some]
  · have q3 : e < 0 := by omega
    rw [if_pos q3, power_down.f_eq h1 q3 k (by omega), Option.bind_some]
theorem power_Five.f_eq {e : Int} (h1 : -348 ≤ e) (h2 : e ≤ 347) (k : Nat) (hk : 100000001 < k) :
    power_Five.f k e = some ((((pow5 e).1 / 18446744073709551616 : Nat) : Int), (((pow5 e).1 % 18446744073709551616 : Nat) : Int), (pow5 e).2.1, 0) := by
  rw [power_Five.f, power_at.f_eq h1 h2 k hk, Option.bind_some, if_pos rfl]
/-- the same rounded up -/
def pow5u (e : Int) : Nat × Int :=
  if (pow5 e).2.2 = true then ((pow5 e).1, (pow5 e).2.1) else if (pow5 e).1 + 1 = 340282366920938463463374607431768211456 then (170141183460469231731687303715884105728, (pow5 e).2.1 + 1) else ((pow5 e).1 + 1, (pow5 e).2.1)
theorem above_words {V : Nat} (V1 : 170141183460469231731687303715884105728 ≤ V) (V2 : V < 340282366920938463463374607431768211456) (f : Int) (f1 : -3000 ≤ f) (f2 : f ≤ 3000) (w : Bool) :
    (if w = true then (some (((V / 18446744073709551616 : Nat) : Int), ((V % 18446744073709551616 : Nat) : Int), f, (0 : Int))) else ((wide_Add.f ((V % 18446744073709551616 : Nat) : Int) 1 0).bind fun bt325 => ((wide_Add.f ((V / 18446744073709551616 : Nat) : Int) 0 bt325.2).bind fun bt327 => (if bt327.2 = 1 then (some (9223372036854775808, 0, wrap64 (f + 1), 0)) else (some (bt327.1, bt325.1, f, 0)))))) =
    some ((((if w = true then (V, f) else if V + 1 = 340282366920938463463374607431768211456 then (170141183460469231731687303715884105728, f + 1) else (V + 1, f)).1 / 18446744073709551616 : Nat) : Int), (((if w = true then (V, f) else if V + 1 = 340282366920938463463374607431768211456 then (170141183460469231731687303715884105728, f + 1) else (V + 1, f)).1 % 18446744073709551616 : Nat) : Int), (if w = true then (V, f) else if V + 1 = 340282366920938463463374607431768211456 then (170141183460469231731687303715884105728, f + 1) else (V + 1, f)).2, 0) := by
  by_cases hw : w = true
  · rw [if_pos hw, if_pos hw]
  · rw [if_neg hw, if_neg hw, wide_Add.f_eq (by omega) (by omega) (by decide) (by decide) (by decide) (by decide), Option.bind_some, wide_Add.f_eq (by omega) (by omega) (by decide) (by decide) (by omega) (by omega), Option.bind_some]
    by_cases hc : V + 1 = 340282366920938463463374607431768211456
    · have w1 : wrap64 (f + 1) = f + 1 := w64_of (by omega) (by omega)
      have q : (((V / 18446744073709551616 : Nat) : Int) + 0 + (((V % 18446744073709551616 : Nat) : Int) + 1 + 0) / 18446744073709551616) / 18446744073709551616 = 1 := by omega
      have z1 : ((170141183460469231731687303715884105728 / 18446744073709551616 : Nat) : Int) = 9223372036854775808 := by decide
      have z2 : ((170141183460469231731687303715884105728 % 18446744073709551616 : Nat) : Int) = 0 := by decide
      rw [if_pos hc, if_pos q, w1]
      show _ = some (((170141183460469231731687303715884105728 / 18446744073709551616 : Nat) : Int), ((170141183460469231731687303715884105728 % 18446744073709551616 : Nat) : Int), f + 1, 0)
      rw [z1, z2]
    · have q : ¬ (((V / 18446744073709551616 : Nat) : Int) + 0 + (((V % 18446744073709551616 : Nat) : Int) + 1 + 0) / 18446744073709551616) / 18446744073709551616 = 1 := by omega
      have a1 : (((V / 18446744073709551616 : Nat) : Int) + 0 + (((V % 18446744073709551616 : Nat) : Int) + 1 + 0) / 18446744073709551616) % 18446744073709551616 = (((V + 1) / 18446744073709551616 : Nat) : Int) := by omega
      have a2 : (((V % 18446744073709551616 : Nat) : Int) + 1 + 0) % 18446744073709551616 = (((V + 1) % 18446744073709551616 : Nat) : Int) := by omega
      rw [if_neg hc, if_neg q, a1, a2]
theorem power_Above.f_eq {e : Int} (h1 : -348 ≤ e) (h2 : e ≤ 347) (k : Nat) (hk : 100000001 < k) :
    power_Above.f k e = some ((((pow5u e).1 / 18446744073709551616 : Nat) : Int), (((pow5u e).1 % 18446744073709551616 : Nat) : Int), (pow5u e).2, 0) := by
  have hV := pow5_row h1 h2
  rw [power_Above.f, power_at.f_eq h1 h2 k hk, Option.bind_some, if_pos rfl]
  exact above_words hV.lo hV.hi _ hV.f1 hV.f2 _
theorem pow5u_lo {e : Int} (h1 : -348 ≤ e) (h2 : e ≤ 347) : 170141183460469231731687303715884105728 ≤ (pow5u e).1 ∧ (pow5u e).1 < 340282366920938463463374607431768211456 ∧ -3000 ≤ (pow5u e).2 ∧ (pow5u e).2 ≤ 3001 := by
  obtain ⟨V1, V2, f1, f2, -, -, -⟩ := pow5_row h1 h2
  unfold pow5u
  split
  · exact ⟨V1, V2, f1, by omega⟩
  · split
    · exact ⟨Nat.le_refl _, (show (170141183460469231731687303715884105728 : Nat) < 340282366920938463463374607431768211456 by decide), by show -3000 ≤ (pow5 e).2.1 + 1; omega, by show (pow5 e).2.1 + 1 ≤ 3001; omega⟩
    · exact ⟨by show _ ≤ (pow5 e).1 + 1; omega, by show (pow5 e).1 + 1 < _; omega, f1, by show (pow5 e).2.1 ≤ 3001; omega⟩
/-- it is not below the power -/
theorem pow5u_ge {e : Int} (h1 : -348 ≤ e) (h2 : e ≤ 347) : 5 ^ e.toNat * 2 ^ (-(pow5u e).2).toNat ≤ (pow5u e).1 * 2 ^ (pow5u e).2.toNat * 5 ^ (-e).toNat := by
  obtain ⟨V1, V2, f1, f2, a1, a2, a3⟩ := pow5_row h1 h2
  unfold pow5u
  generalize (pow5 e).1 = V at *
  generalize (pow5 e).2.1 = f at *
  generalize (pow5 e).2.2 = w at *
  by_cases hw : w = true
  · rw [if_pos hw]
    exact Nat.le_of_eq (a3 hw)
  · rw [if_neg hw]
    by_cases hc : V + 1 = 340282366920938463463374607431768211456
    · rw [if_pos hc]
      show 5 ^ e.toNat * 2 ^ (-(f + 1)).toNat ≤ 170141183460469231731687303715884105728 * 2 ^ (f + 1).toNat * 5 ^ (-e).toNat
      rw [hc, show (340282366920938463463374607431768211456 : Nat) = 170141183460469231731687303715884105728 * 2 from rfl] at a2
      by_cases hf : 0 ≤ f
      · rw [show (-f).toNat = 0 from by omega] at a2
        rw [show (-(f + 1)).toNat = 0 from by omega, show (f + 1).toNat = f.toNat + 1 from by omega, Nat.pow_succ, Nat.mul_comm (2 ^ f.toNat) 2, ← Nat.mul_assoc]
        exact Nat.le_of_lt a2
      · rw [show f.toNat = 0 from by omega, show (-f).toNat = (-(f + 1)).toNat + 1 from by omega, Nat.pow_succ, ← Nat.mul_assoc, Nat.pow_zero, Nat.mul_one] at a2
        rw [show (f + 1).toNat = 0 from by omega, Nat.pow_zero, Nat.mul_one]
        have e1 : ∀ z : Nat, 170141183460469231731687303715884105728 * 2 * z = 170141183460469231731687303715884105728 * z * 2 := fun z => Nat.mul_right_comm _ _ _
        rw [e1] at a2
        omega
    · rw [if_neg hc]
      exact Nat.le_of_lt a2
end Go.Proofs.YtoannkopciehcaaDoor.PA

namespace Go.Proofs.YtoannkopciehcaaDoor.PA
open Go Go.RowKit Go.Proofs.YtoannkopciehcaaDoorW.PrintWords Go.Proofs.YtoannkopciehcaaDoorW.PrintLast Go.Proofs.YtoannkopciehcaaDoorW.PrintMore
set_option linter.unusedVariables false
set_option linter.unusedSimpArgs false
theorem shift_le {X Y a b c d : Nat} (h : X * 2 ^ a ≤ Y * 2 ^ b) (e : c + b = d + a) : X * 2 ^ c ≤ Y * 2 ^ d := by
  apply Nat.le_of_mul_le_mul_right _ (show 0 < 2 ^ a from Nat.pow_pos (by decide))
  have h1 : X * 2 ^ a * 2 ^ c ≤ Y * 2 ^ b * 2 ^ c := Nat.mul_le_mul_right _ h
  have e1 : X * 2 ^ c * 2 ^ a = X * 2 ^ a * 2 ^ c := Nat.mul_right_comm _ _ _
  have e2 : Y * 2 ^ d * 2 ^ a = Y * 2 ^ b * 2 ^ c := by rw [Nat.mul_assoc, Nat.mul_assoc, ← Nat.pow_add, ← Nat.pow_add]; congr 2; omega
  rw [e1, e2]; exact h1
/-- mant times ten to the e, as a ratio -/
def tP (m : Nat) (e : Int) : Nat := m * 10 ^ e.toNat * 2 ^ uN
def tQ (e : Int) : Nat := 10 ^ (-e).toNat
theorem tQ_pos (e : Int) : 0 < tQ e := Nat.pow_pos (by decide)
theorem ten_pow (n : Nat) : 10 ^ n = 5 ^ n * 2 ^ n := by rw [← Nat.mul_pow]
/-- the places of the two bounds -/
def lowR (m : Nat) (e : Int) : Nat := rn (flo ((pow5 e).1 * m) ((pow5 e).2.1 + e) false).1 (flo ((pow5 e).1 * m) ((pow5 e).2.1 + e) false).2
def highR (m : Nat) (e : Int) : Nat := rn (flo ((pow5u e).1 * m) ((pow5u e).2 + e) false).1 (flo ((pow5u e).1 * m) ((pow5u e).2 + e) false).2
theorem low_le {m : Nat} (hm : 0 < m) {e : Int} (h1 : -348 ≤ e) (h2 : e ≤ 347) {z : Nat} (hz : Rnd (tP m e) (tQ e) z) : lowR m e ≤ z := by
  obtain ⟨V1, V2, f1, f2, a1, a2, a3⟩ := pow5_row h1 h2
  have hV : 0 < (pow5 e).1 * m := Nat.mul_pos (by omega) hm
  have hf := Rnd.flo hV ((pow5 e).2.1 + e)
  refine Rnd.mono (Nat.pow_pos (by decide)) (tQ_pos e) hf hz ?_
  unfold tP tQ
  rw [ten_pow, ten_pow]
  generalize (pow5 e).1 = V at *
  generalize (pow5 e).2.1 = f at *
  have b1 : V * 5 ^ (-e).toNat * m * 2 ^ f.toNat ≤ 5 ^ e.toNat * m * 2 ^ (-f).toNat := by
    have := Nat.mul_le_mul_right m a1
    rw [Nat.mul_right_comm V, Nat.mul_right_comm (V * 5 ^ (-e).toNat), Nat.mul_right_comm (5 ^ e.toNat)] at this
    exact this
  have c := shift_le (c := (f + e + 1074).toNat + (-e).toNat) (d := e.toNat + uN + (-(f + e + 1074)).toNat) b1 (by have := uN_eq; omega)
  rw [Nat.pow_add, Nat.pow_add, Nat.pow_add] at c
  generalize 5 ^ (-e).toNat = x1 at *
  generalize 5 ^ e.toNat = x2 at *
  generalize 2 ^ (f + e + 1074).toNat = x3 at *
  generalize 2 ^ (-(f + e + 1074)).toNat = x4 at *
  generalize 2 ^ (-e).toNat = x5 at *
  generalize 2 ^ e.toNat = x6 at *
  generalize 2 ^ uN = x7 at *
  have e1 : V * m * x3 * (x1 * x5) = V * x1 * m * (x3 * x5) := by ac_rfl
  have e2 : m * (x2 * x6) * x7 * x4 = x2 * m * (x6 * x7 * x4) := by ac_rfl
  rw [e1, e2]
  exact c
theorem le_high {m : Nat} (hm : 0 < m) {e : Int} (h1 : -348 ≤ e) (h2 : e ≤ 347) {z : Nat} (hz : Rnd (tP m e) (tQ e) z) : z ≤ highR m e := by
  obtain ⟨V1, V2, f1, f2⟩ := pow5u_lo h1 h2
  have a1 := pow5u_ge h1 h2
  have hV : 0 < (pow5u e).1 * m := Nat.mul_pos (by omega) hm
  have hf := Rnd.flo hV ((pow5u e).2 + e)
  refine Rnd.mono (tQ_pos e) (Nat.pow_pos (by decide)) hz hf ?_
  unfold tP tQ
  rw [ten_pow, ten_pow]
  generalize (pow5u e).1 = V at *
  generalize (pow5u e).2 = f at *
  have b1 : 5 ^ e.toNat * m * 2 ^ (-f).toNat ≤ V * 5 ^ (-e).toNat * m * 2 ^ f.toNat := by
    have := Nat.mul_le_mul_right m a1
    rw [Nat.mul_right_comm V, Nat.mul_right_comm (V * 5 ^ (-e).toNat), Nat.mul_right_comm (5 ^ e.toNat)] at this
    exact this
  have c := shift_le (c := e.toNat + uN + (-(f + e + 1074)).toNat) (d := (f + e + 1074).toNat + (-e).toNat) b1 (by have := uN_eq; omega)
  rw [Nat.pow_add, Nat.pow_add, Nat.pow_add] at c
  generalize 5 ^ (-e).toNat = x1 at *
  generalize 5 ^ e.toNat = x2 at *
  generalize 2 ^ (f + e + 1074).toNat = x3 at *
  generalize 2 ^ (-(f + e + 1074)).toNat = x4 at *
  generalize 2 ^ (-e).toNat = x5 at *
  generalize 2 ^ e.toNat = x6 at *
  generalize 2 ^ uN = x7 at *
  have e1 : V * m * x3 * (x1 * x5) = V * x1 * m * (x3 * x5) := by ac_rfl
  have e2 : m * (x2 * x6) * x7 * x4 = x2 * m * (x6 * x7 * x4) := by ac_rfl
  rw [e1, e2]
  exact c
def fastR (m : Nat) (e : Int) : Int × Int := if outP 0 false (lowR m e) = outP 0 false (highR m e) then outP 0 false (lowR m e) else (0, 100)
theorem ten_lo (t : Nat) (h : t = 349) : 2 * (18446744073709551616 * 2 ^ uN) < 10 ^ t := by
  subst h; decide +kernel
theorem ten_hi (t s : Nat) (h : t = 348) (g : s = 1024) : (2 : Nat) ^ s ≤ 10 ^ t := by
  subst h; subst g; decide +kernel
theorem tP_low {m : Nat} (hm : m < 18446744073709551616) {e : Int} (h : e < -348) : Rnd (tP m e) (tQ e) 0 := by
  have h1 : tP m e = m * 2 ^ uN := by unfold tP; rw [show e.toNat = 0 from by omega, Nat.pow_zero, Nat.mul_one]
  by_cases m0 : m = 0
  · rw [h1, m0, Nat.zero_mul]
    have hd : Rd 0 (tQ e) 0 := ⟨by rw [pV_zero, Nat.zero_mul]; exact Nat.le_refl _, by rw [show pV (0 + 1) = 1 from rfl, Nat.one_mul]; exact tQ_pos e⟩
    refine ⟨0, hd, ?_⟩
    unfold tl
    rw [pV_zero, Nat.zero_mul, if_pos rfl]
    rfl
  · have h2 : 2 * (m * 2 ^ uN) < tQ e := by
      unfold tQ
      obtain ⟨t, ht⟩ : ∃ t : Nat, t = 349 := ⟨_, rfl⟩
      have h5 : (10 : Nat) ^ t ≤ 10 ^ (-e).toNat := Nat.pow_le_pow_right (by decide) (by omega)
      have h4 := ten_lo t ht
      have h3 : m * 2 ^ uN ≤ 18446744073709551616 * 2 ^ uN := Nat.mul_le_mul_right _ (by omega)
      clear ht
      generalize (10 : Nat) ^ t = y at *
      generalize 2 ^ uN = z at *
      omega
    have h5 : 0 < m * 2 ^ uN := Nat.mul_pos (by omega) (Nat.pow_pos (by decide))
    obtain ⟨r1, r2⟩ := Rd_small h5 h2 false
    rw [h1]
    exact ⟨0, r1, by rw [r2]; rfl⟩
theorem pV_top : pV 9218868437227405312 = 2 ^ (52 + 2046) := pV_pow 2046
theorem Rnd.big {P Q z : Nat} (h : Rnd P Q z) (hb : pV 9218868437227405312 * Q ≤ P) : 9218868437227405311 < z := by
  obtain ⟨d, h1, rfl⟩ := h
  have h2 := (h1.le_iff 9218868437227405312).1 hb
  unfold rn
  split <;> omega
theorem tP_high {m : Nat} (hm : 0 < m) {e : Int} (h : 347 < e) {z : Nat} (hz : Rnd (tP m e) (tQ e) z) : 9218868437227405311 < z := by
  have hq : tQ e = 1 := by unfold tQ; rw [show (-e).toNat = 0 from by omega, Nat.pow_zero]
  refine hz.big ?_
  obtain ⟨s, hs⟩ : ∃ s : Nat, s = 1024 := ⟨_, rfl⟩
  obtain ⟨t, ht⟩ : ∃ t : Nat, t = 348 := ⟨_, rfl⟩
  have hu := uN_eq
  have hp : pV 9218868437227405312 = 2 ^ (s + uN) := by
    rw [show s + uN = 52 + 2046 from by omega]
    exact pV_top
  rw [hq, Nat.mul_one, hp]
  unfold tP
  have h1 : (10 : Nat) ^ t ≤ 10 ^ e.toNat := Nat.pow_le_pow_right (by decide) (by omega)
  have h2 := ten_hi t s ht hs
  have h3 : 1 * 10 ^ e.toNat ≤ m * 10 ^ e.toNat := Nat.mul_le_mul_right _ hm
  have h6 : (2 : Nat) ^ s ≤ m * 10 ^ e.toNat := Nat.le_trans h2 (Nat.le_trans h1 (by rw [Nat.one_mul] at h3; exact h3))
  have h4 : 2 ^ s * 2 ^ uN ≤ m * 10 ^ e.toNat * 2 ^ uN := Nat.mul_le_mul_right _ h6
  rw [← Nat.pow_add] at h4
  exact h4
/-- what Fast tells of every word and exponent -/
def fastA (m : Nat) (e : Int) : Int × Int := if m = 0 ∨ e < -348 then (0, 0) else if 347 < e then (0, 70) else fastR m e
theorem fastA_sure (m : Nat) (hm : m < 18446744073709551616) (e : Int) : fastA m e = (0, 100) ∨ ∃ z, Rnd (tP m e) (tQ e) z ∧ fastA m e = outP 0 false z := by
  unfold fastA
  by_cases h0 : m = 0
  · rw [if_pos (.inl h0)]
    refine .inr ⟨0, ?_, rfl⟩
    have h1 : tP m e = 0 := by unfold tP; rw [h0, Nat.zero_mul, Nat.zero_mul]
    have hd : Rd 0 (tQ e) 0 := ⟨by rw [pV_zero, Nat.zero_mul]; exact Nat.le_refl _, by rw [show pV (0 + 1) = 1 from rfl, Nat.one_mul]; exact tQ_pos e⟩
    rw [h1]
    refine ⟨0, hd, ?_⟩
    unfold tl
    rw [pV_zero, Nat.zero_mul, if_pos rfl]
    rfl
  · by_cases h1 : e < -348
    · rw [if_pos (.inr h1)]
      exact .inr ⟨0, tP_low hm h1, rfl⟩
    · rw [if_neg (by omega)]
      obtain ⟨z, hz⟩ := Rnd.there (P := tP m e) (tQ_pos e)
      by_cases h2 : 347 < e
      · rw [if_pos h2]
        refine .inr ⟨z, hz, ?_⟩
        have := tP_high (by omega) h2 hz
        rcases outP_cases z with ⟨_, h⟩ | ⟨h, _⟩
        · exact h.symm
        · omega
      · rw [if_neg h2]
        unfold fastR
        by_cases hc : outP 0 false (lowR m e) = outP 0 false (highR m e)
        · rw [if_pos hc]
          exact .inr ⟨z, hz, (outP_between (low_le (by omega) (by omega) (by omega) hz) (le_high (by omega) (by omega) (by omega) hz) hc).symm⟩
        · rw [if_neg hc]
          exact .inl rfl
theorem mul3_words {V m : Nat} (hV : V < 340282366920938463463374607431768211456) (hm : m < 18446744073709551616) :
    ∃ t c l : Nat, t < 18446744073709551616 ∧ c < 18446744073709551616 ∧ l < 18446744073709551616 ∧ V * m = t * 340282366920938463463374607431768211456 + (c * 18446744073709551616 + l) ∧
      wide_Mul3.f (((V / 18446744073709551616 : Nat)) : Int) (((V % 18446744073709551616 : Nat)) : Int) (m : Int) = some ((t : Int), (c : Int), (l : Int)) := by
  have hh : V / 18446744073709551616 < 18446744073709551616 := by omega
  have hl : V % 18446744073709551616 < 18446744073709551616 := by omega
  have eV : V = V / 18446744073709551616 * 18446744073709551616 + V % 18446744073709551616 := by omega
  generalize V / 18446744073709551616 = h at *
  generalize V % 18446744073709551616 = l at *
  have b1 : u64B (h : Int) = true := u64B_iff.2 (by omega)
  have b2 : u64B (l : Int) = true := u64B_iff.2 (by omega)
  have b3 : u64B (m : Int) = true := u64B_iff.2 (by omega)
  have x1 : h * m ≤ 18446744073709551615 * 18446744073709551615 := Nat.mul_le_mul (by omega) (by omega)
  have x2 : l * m ≤ 18446744073709551615 * 18446744073709551615 := Nat.mul_le_mul (by omega) (by omega)
  have ex : V * m = h * m * 18446744073709551616 + l * m := by rw [eV, Nat.add_mul, Nat.mul_right_comm]
  rw [wide_Mul3.f, wide_Mul.f, if_pos b1, if_pos b3, Option.bind_some, wide_Mul.f, if_pos b2, if_pos b3, Option.bind_some]
  have i1 : (h : Int) * (m : Int) = ((h * m : Nat) : Int) := by rw [Int.natCast_mul]
  have i2 : (l : Int) * (m : Int) = ((l * m : Nat) : Int) := by rw [Int.natCast_mul]
  rw [i1, i2]
  generalize h * m = p at *
  generalize l * m = q at *
  have c1 : (p : Int) % 18446744073709551616 = ((p % 18446744073709551616 : Nat) : Int) := rfl
  have c2 : (p : Int) / 18446744073709551616 = ((p / 18446744073709551616 : Nat) : Int) := rfl
  have c3 : (q : Int) % 18446744073709551616 = ((q % 18446744073709551616 : Nat) : Int) := rfl
  have c4 : (q : Int) / 18446744073709551616 = ((q / 18446744073709551616 : Nat) : Int) := rfl
  have hp := Nat.div_add_mod p 18446744073709551616
  have hq := Nat.div_add_mod q 18446744073709551616
  have bp := Nat.mod_lt p (show 0 < 18446744073709551616 by decide)
  have bq := Nat.mod_lt q (show 0 < 18446744073709551616 by decide)
  have bp2 : p / 18446744073709551616 < 18446744073709551615 := by omega
  have bq2 : q / 18446744073709551616 < 18446744073709551615 := by omega
  rw [c1, c2, c3, c4]
  clear c1 c2 c3 c4 i1 i2 b1 b2 b3
  generalize p / 18446744073709551616 = a at *
  generalize p % 18446744073709551616 = b at *
  generalize q / 18446744073709551616 = c at *
  generalize q % 18446744073709551616 = d at *
  rw [wide_Add.f_eq (by omega) (by omega) (by omega) (by omega) (by decide) (by decide), Option.bind_some]
  have hs := Nat.div_add_mod (b + c) 18446744073709551616
  have bs := Nat.mod_lt (b + c) (show 0 < 18446744073709551616 by decide)
  have e1 : ((b : Int) + (c : Int) + 0) / 18446744073709551616 = (((b + c) / 18446744073709551616 : Nat) : Int) := by omega
  have e2 : ((b : Int) + (c : Int) + 0) % 18446744073709551616 = (((b + c) % 18446744073709551616 : Nat) : Int) := by omega
  rw [e1, e2]
  clear e1 e2
  have bs2 : (b + c) / 18446744073709551616 ≤ 1 := by omega
  generalize (b + c) / 18446744073709551616 = s at *
  generalize (b + c) % 18446744073709551616 = r at *
  have ew : IntKind.u64.wrap ((a : Int) + (s : Int)) = ((a + s : Nat) : Int) := by rw [u64w_of (by omega) (by omega), Int.natCast_add]
  refine ⟨a + s, r, d, by omega, by omega, by omega, ?_, ?_⟩
  · rw [ex, ← hp, ← hq, Nat.add_mul, Nat.add_mul]
    clear ew ex
    omega
  · show some (IntKind.u64.wrap ((a : Int) + (s : Int)), (r : Int), (d : Int)) = _
    rw [ew]
theorem lemire_Fast.f_eq (m : Nat) (hm : m < 18446744073709551616) (e : Int) (k : Nat) (hk : 100000002 < k) : lemire_Fast.f k (m : Int) e = some (fastA m e) := by
  obtain ⟨k, rfl⟩ : ∃ j, k = j + 1 := ⟨k - 1, by omega⟩
  have e0 : lemire_Fast.f (k + 1) (m : Int) e = lemire_Fast.j0 (k + 1) (m : Int) e (decide (m = 0 ∨ e < -348)) := by
    rw [lemire_Fast.f]
    by_cases h : m = 0
    · rw [if_pos (by omega), decide_eq_true (.inl h)]
    · rw [if_neg (by omega)]
      congr 1
      rw [decide_eq_decide]
      omega
  rw [e0, lemire_Fast.j0]
  unfold fastA
  by_cases h1 : m = 0 ∨ e < -348
  · rw [decide_eq_true h1, if_pos rfl, if_pos h1]
  · rw [decide_eq_false h1, if_neg (by decide), if_neg h1]
    by_cases h2 : 347 < e
    · rw [if_pos h2, if_pos h2]
    · rw [if_neg h2, if_neg h2]
      obtain ⟨V1, V2, f1, f2, -, -, -⟩ := pow5_row (e := e) (by omega) (by omega)
      obtain ⟨U1, U2, g1, g2⟩ := pow5u_lo (e := e) (by omega) (by omega)
      obtain ⟨t, c, l, ht, hc, hl, hV, hW⟩ := mul3_words V2 hm
      obtain ⟨t', c', l', ht', hc', hl', hV', hW'⟩ := mul3_words U2 hm
      have p1 : 0 < (pow5 e).1 * m := Nat.mul_pos (by omega) (by omega)
      have p2 : 0 < (pow5u e).1 * m := Nat.mul_pos (by omega) (by omega)
      have w1 : wrap64 ((pow5 e).2.1 + e) = (pow5 e).2.1 + e := w64_of (by omega) (by omega)
      have w2 : wrap64 ((pow5u e).2 + e) = (pow5u e).2 + e := w64_of (by omega) (by omega)
      rw [hV] at p1
      rw [hV'] at p2
      have r1 := lemire_three_rounded.f_eq t c l p1 ht hc hl ((pow5 e).2.1 + e) (by omega) (by omega) false k (by omega)
      have r2 := lemire_three_rounded.f_eq t' c' l' p2 ht' hc' hl' ((pow5u e).2 + e) (by omega) (by omega) false k (by omega)
      unfold fastR lowR highR
      rw [← hV, RS_rn] at r1
      rw [← hV', RS_rn] at r2
      rw [power_Five.f_eq (by omega) (by omega) k (by omega), Option.bind_some, hW, Option.bind_some, w1, r1, Option.bind_some, power_Above.f_eq (by omega) (by omega) k (by omega), Option.bind_some, hW', Option.bind_some, w2, r2, Option.bind_some]
      generalize outP 0 false (rn (flo ((pow5 e).1 * m) ((pow5 e).2.1 + e) false).1 (flo ((pow5 e).1 * m) ((pow5 e).2.1 + e) false).2) = x
      generalize outP 0 false (rn (flo ((pow5u e).1 * m) ((pow5u e).2 + e) false).1 (flo ((pow5u e).1 * m) ((pow5u e).2 + e) false).2) = y
      obtain ⟨x1, x2⟩ := x
      obtain ⟨y1, y2⟩ := y
      show (if x2 = y2 then (if x1 = y1 then some (x1, x2) else some (0, 100)) else some (0, 100)) = some (if (x1, x2) = (y1, y2) then (x1, x2) else (0, 100))
      by_cases q2 : x2 = y2
      · rw [if_pos q2]
        by_cases q1 : x1 = y1
        · rw [if_pos q1, if_pos (by rw [q1, q2])]
        · rw [if_neg q1, if_neg (fun h => q1 (congrArg Prod.fst h))]
      · rw [if_neg q2, if_neg (fun h => q2 (congrArg Prod.snd h))]
end Go.Proofs.YtoannkopciehcaaDoor.PA

namespace Go.Proofs.YtoannkopciehcaaDoor.Pure
open Go Go.RowKit Go.Proofs.YtoannkopciehcaaDoor.PA Go.Proofs.YtoannkopciehcaaDoorW.PrintWords Go.Proofs.YtoannkopciehcaaDoorW.PrintLast
set_option linter.unusedVariables false
theorem tens_alive : plumblaw10_alive.f 200 = some true := by kernel_rfl
theorem tens_alive_at (k : Nat) (hk : 200 ≤ k) : plumblaw10_alive.f k = some true := by
  obtain ⟨d, rfl⟩ : ∃ d, k = 200 + d := ⟨k - 200, by omega⟩
  clear hk
  induction d with
  | zero => exact tens_alive
  | succ d ih => exact plumblaw10_alive.mono _ _ ih
theorem tens_same (m : Nat) (e : Int) : tP m e * tQ (e - 1) = tP (10 * m) (e - 1) * tQ e := by
  unfold tP tQ
  by_cases h : 1 ≤ e
  · rw [show (-(e - 1)).toNat = 0 from by omega, show (-e).toNat = 0 from by omega, show e.toNat = (e - 1).toNat + 1 from by omega, Nat.pow_succ, Nat.pow_zero]
    generalize 10 ^ (e - 1).toNat = x
    generalize 2 ^ uN = y
    rw [Nat.mul_one, Nat.mul_one]
    ac_rfl
  · rw [show (-(e - 1)).toNat = (-e).toNat + 1 from by omega, show (e - 1).toNat = 0 from by omega, show e.toNat = 0 from by omega, Nat.pow_succ, Nat.pow_zero]
    generalize 10 ^ (-e).toNat = x
    generalize 2 ^ uN = y
    rw [Nat.mul_one, Nat.mul_one]
    ac_rfl
theorem tens_sure (m : Nat) (hm : 10 * m < 18446744073709551616) (e : Int) : (fastA m e).2 = 100 ∨ (fastA (10 * m) (e - 1)).2 = 100 ∨ fastA m e = fastA (10 * m) (e - 1) := by
  rcases fastA_sure m (by omega) e with h | ⟨z, hz, h⟩
  · rw [h]; exact .inl rfl
  · rcases fastA_sure (10 * m) hm (e - 1) with g | ⟨y, hy, g⟩
    · rw [g]; exact .inr (.inl rfl)
    · have := Rnd.uniq (tQ_pos e) (tQ_pos (e - 1)) hz hy (tens_same m e)
      exact .inr (.inr (by rw [h, g, this]))
theorem tens_j1 (m : Nat) (hm : 10 * m < 18446744073709551616) (e : Int) (h1 : -9223372036854775808 < e) (h2 : e < 9223372036854775808) (k : Nat) (hk : 100000002 < k) : plumblaw10_LemireTens.j1 (k + 1) (m : Int) e = some true := by
  have e1 : IntKind.u64.wrap (10 * (m : Int)) = ((10 * m : Nat) : Int) := by rw [u64w_of (by omega) (by omega), Int.natCast_mul]; rfl
  have e2 : wrap64 (e - 1) = e - 1 := w64_of (by omega) (by omega)
  rw [plumblaw10_LemireTens.j1, lemire_Fast.f_eq m (by omega) e k hk, Option.bind_some, e1, e2, lemire_Fast.f_eq (10 * m) hm (e - 1) k hk, Option.bind_some, tens_alive_at k (by omega), Option.bind_some, if_pos rfl]
  have hs := tens_sure m hm e
  generalize fastA m e = x at *
  generalize fastA (10 * m) (e - 1) = y at *
  by_cases a : x.2 = 100
  · rw [if_pos a]
  · by_cases b : y.2 = 100
    · rw [if_neg a, if_pos b]
    · have c : x = y := (hs.resolve_left a).resolve_left b
      subst c
      rw [if_neg a, if_neg b, if_pos rfl, beq_self_eq_true]
theorem LemireTens : plumblaw10_LemireTens.Pure := by
  intro a0 a1 h0 h1
  have b0 := bounds_u64 h0
  have b1 := bounds_i64 h1
  obtain ⟨a, rfl⟩ : ∃ a : Nat, a0 = (a : Int) := ⟨a0.toNat, by omega⟩
  have hd : IntKind.u64.wrap (Int.tdiv (a : Int) 10) = ((a / 10 : Nat) : Int) := by
    rw [Int.tdiv_eq_ediv_of_nonneg (by omega), u64w_of (by omega) (by omega)]
    rfl
  refine ⟨100000005, ?_⟩
  have hm := Int.tmod_lt_of_pos a1 (show (0 : Int) < 100000 by decide)
  have hm2 := Int.lt_tmod_of_pos a1 (show (0 : Int) < 100000 by decide)
  rw [plumblaw10_LemireTens.f, hd, show (100000005 : Nat) = 100000004 + 1 from rfl]
  by_cases c1 : a1 < -100000
  · rw [if_pos c1, plumblaw10_LemireTens.j0, if_pos rfl]
    exact tens_j1 (a / 10) (by omega) _ (by omega) (by omega) 100000003 (by decide)
  · rw [if_neg c1, plumblaw10_LemireTens.j0]
    by_cases c2 : a1 > 100000
    · rw [decide_eq_true c2, if_pos rfl]
      exact tens_j1 (a / 10) (by omega) _ (by omega) (by omega) 100000003 (by decide)
    · rw [decide_eq_false c2, if_neg (by decide)]
      exact tens_j1 (a / 10) (by omega) a1 (by omega) (by omega) 100000003 (by decide)
end Go.Proofs.YtoannkopciehcaaDoor.Pure

namespace Go.Proofs.YtoannkopciehcaaDoorW.PrintWords
open Go
theorem trod_words {H : Type} {enc : TypeId × Value → H} {P : Program} {w : World} {base : Nat} {spare : Nat → Bool} {held : Bool} {fuel : Nat} {ty e : TypeId} {n : Nat} {k : IntKind} {cs : List Value} {L : List Int} {p : List MemPlace}
    (hu : P.underlying ty = some (.array n e)) (he : P.underlying e = some (.int k)) (hc : P.cellsOf e = 1)
    (h : DataW.trod enc P w base spare held fuel ty cs = some (.agg (L.map fun x => .lit (.int k x)), p)) : ∀ i, i < n → cs[i]? = some (.int k (L.getD i 0)) := by
  obtain ⟨xs, m, rfl, hx, hlen, hn, hel⟩ := DataW.trod_array hu h
  intro i hi
  have h1 := hel i hi
  rw [hc, Nat.mul_one] at h1
  have hxi : i < xs.length := by omega
  rw [List.getElem?_eq_getElem hxi] at h1
  obtain ⟨z, e1, e2, _⟩ := DataW.trod_int he h1
  simp only [Prod.mk.injEq, DataW.agg.injEq] at hx
  have h2 : (L.map fun x => (DataW.lit (.int k x) : DataW H))[i]? = (xs.map (·.1))[i]? := by rw [hx.1]
  rw [List.getElem?_map, List.getElem?_map, List.getElem?_eq_getElem hxi, e2] at h2
  have h3 : L[i]? = some z := by
    cases hL : L[i]? with
    | none => rw [hL] at h2; simp at h2
    | some y => rw [hL] at h2; simp at h2; rw [h2]
  have h4 : cs[i]? = some (.int k z) := by
    have h5 : ((cs.drop i).take 1)[0]? = some (.int k z) := by rw [e1]; rfl
    rw [List.getElem?_take, if_pos (by decide), List.getElem?_drop, Nat.add_zero] at h5
    exact h5
  rw [h4, List.getD_eq_getElem?_getD, h3]
  rfl
/-- an array of pairs of bools -/
theorem trod_pairs {H : Type} {enc : TypeId × Value → H} {P : Program} {w : World} {base : Nat} {spare : Nat → Bool} {held : Bool} {fuel : Nat} {ty e1 e2 : TypeId} {n : Nat} {cs : List Value} {L : List (List Bool)} {p : List MemPlace}
    (hu : P.underlying ty = some (.array n e1)) (he : P.underlying e1 = some (.array 2 e2)) (hb : P.underlying e2 = some .bool) (hc1 : P.cellsOf e1 = 2) (hc2 : P.cellsOf e2 = 1)
    (h : DataW.trod enc P w base spare held fuel ty cs = some (.agg (L.map fun r => .agg (r.map fun b => .lit (.bool b))), p)) : ∀ i, i < n → ∀ j, j < 2 → cs[2 * i + j]? = some (.bool ((L.getD i []).getD j false)) := by
  obtain ⟨xs, m, rfl, hx, hlen, hn, hel⟩ := DataW.trod_array hu h
  intro i hi j hj
  have h1 := hel i hi
  rw [hc1] at h1
  have hxi : i < xs.length := by omega
  rw [List.getElem?_eq_getElem hxi] at h1
  obtain ⟨ys, m2, rfl, hy, hlen2, hn2, hel2⟩ := DataW.trod_array he h1
  have h2 := hel2 j hj
  rw [hc2, Nat.mul_one] at h2
  have hyj : j < ys.length := by omega
  rw [List.getElem?_eq_getElem hyj] at h2
  obtain ⟨b, e1_, e2_⟩ := DataW.trod_bool hb h2
  simp only [Prod.mk.injEq, DataW.agg.injEq] at hx
  have h3 : (L.map fun r => (DataW.agg (r.map fun b => .lit (.bool b)) : DataW H))[i]? = (xs.map (·.1))[i]? := by rw [hx.1]
  rw [List.getElem?_map, List.getElem?_map, List.getElem?_eq_getElem hxi] at h3
  simp only [Option.map_some] at h3
  cases hL : L[i]? with
  | none => rw [hL] at h3; simp at h3
  | some r =>
    rw [hL] at h3
    simp only [Option.map_some, Option.some.injEq] at h3
    rw [hy] at h3
    simp only [DataW.agg.injEq] at h3
    have h4 : (r.map fun b => (DataW.lit (.bool b) : DataW H))[j]? = (ys.map (·.1))[j]? := by rw [h3]
    rw [List.getElem?_map, List.getElem?_map, List.getElem?_eq_getElem hyj, Option.map_some, e2_] at h4
    have h5 : r[j]? = some b := by
      cases hr : r[j]? with
      | none => rw [hr] at h4; simp at h4
      | some y => rw [hr] at h4; simp at h4; rw [h4]
    have h6 : ((((cs.drop (i * 2)).take 2).drop j).take 1)[0]? = some (.bool b) := by rw [e1_]; rfl
    rw [List.getElem?_take, if_pos (by decide), List.getElem?_drop, Nat.add_zero, List.getElem?_take, if_pos hj, List.getElem?_drop] at h6
    rw [Nat.mul_comm, h6, List.getD_eq_getElem?_getD, List.getD_eq_getElem?_getD, hL, Option.getD_some, h5]
    rfl
end Go.Proofs.YtoannkopciehcaaDoorW.PrintWords

namespace Go.Proofs.YtoannkopciehcaaDoor.lemireTens
open Go.ChangeShapes Go.WideShapes Go.ChangeAt Go.RowKit
open Go.ChangeMaps (open_string shut_string)
set_option linter.unusedVariables false
theorem own : ownKnob Tryd.prog.godebug = none := by kernel_rfl
/-- the door's own heap meets the condition -/
theorem door_met (os : Os) (args : Array Value) : laidMetH Tryd.prog Rows.lemireTensRow.laid ((World.doorLaid Tryd.prog 400 os).forCall (fun _ _ => 0) ⟨#[], args, []⟩).memory :=
  laidMetH_of_parts3 (fuel := 8) (laidMet_of_run' 8 (by kernel_rfl) (by kernel_rfl)) (by kernel_rfl) (by kernel_rfl)
/-- what the condition says of the variables' cells -/
theorem of_laid {W : World} (h : laidMetH Tryd.prog Rows.lemireTensRow.laid W) : PA.TensLaid W := by
  rw [MakeChecks.laidMetH_plain _ _ _ (by kernel_rfl)] at h
  obtain ⟨ps, ⟨g0, t0, cs0, f0, p0, q0, hg0, ht0, hv0, hd0, _, _⟩, _, _⟩ := h
  obtain rfl := Option.some.inj ((show Tryd.prog.globalNamed "plumb/lemire.tens" = some 0 by kernel_rfl).symm.trans hg0)
  obtain rfl := Option.some.inj ((show (Tryd.prog.globals[0]?).map (·.type) = some 54 by kernel_rfl).symm.trans ht0)
  exact fun n hn => by
    rw [World.var?_cell hg0 hv0 n]
    have e := Go.Proofs.YtoannkopciehcaaDoorW.PrintWords.trod_words Tryd.underlying54 Tryd.underlying22 (by kernel_rfl) (L := PA.lemire_tensL) hd0 n hn
    rwa [Array.getElem?_toList] at e
set_option maxRecDepth 100000 in
theorem lifted (os : Os) (started : os.Started) (H : Type) (enc : TypeId × Value → H) :
    ReturnsInHanded {} Tryd.checked os 5 .any (fun w args => (Rows.lemireTensSpec.pre enc Tryd.prog Tryd.f5 Rows.lemireTensRow.domain false w args ∧ laidMetH Tryd.prog Rows.lemireTensRow.laid w) ∧ sizedMet enc Tryd.prog Tryd.f5 (OpenSpec.ofChange Rows.lemireTensSpec) false w args) (Rows.lemireTensSpec.post enc Tryd.prog Tryd.f5 false true false false) := by
  refine returnsInHanded_of_change_and (C := Tryd.checked) (X := fun w _ => laidMetH Tryd.prog Rows.lemireTensRow.laid w) (fun _ _ _ hh h => h.of_heap hh) own started (by kernel_rfl) Tryd.func5
    (ChangeSpec.witness_shaped (enc := enc) (C := Tryd.checked) (os := os) (X := fun w _ => laidMetH Tryd.prog Rows.lemireTensRow.laid w) false (World.doorLaid Tryd.prog 400 os) #[.int .u64 0, .int .i64 0] 8 rfl (World.shaped_of_RefB (by kernel_rfl) (by kernel_rfl)) (by kernel_rfl) (by kernel_rfl) (by kernel_rfl) (door_met os _)) ?_
  intro W base args ds gs before hval0 hW hcnd hsz0 hL _
  have hsz : (DataW.weightsEach Tryd.prog (Tryd.f5.params.toList ++ Rows.lemireTensSpec.plain.varTypes Tryd.prog) (ds ++ gs)).all (· ≤ reachBytes) = true := hsz0
  have hval : ∀ (j : Nat) t v, Tryd.f5.params[j]? = some t → args[j]? = some v → Value.okWide Tryd.prog W .any base t v := hval0
  have hW' := hW
  obtain ⟨p, q, hA0, hV, rfl, hfz, hnd⟩ := hW
  have hA : DataW.TrodAll enc Tryd.prog W 0 (fun _ => true) true Tryd.f5.params.toList args.toList ds p := hA0
  rw [Tryd.params5] at hA hval hsz
  obtain ⟨v0, vs0, d0, ds0, p0, q0, hargs, rfl, rfl, h0, r0⟩ := trodAll_cons hA
  obtain ⟨v1, vs1, d1, ds1, p1, q1, rfl, rfl, rfl, h1, r1⟩ := trodAll_cons r0
  obtain ⟨rfl, rfl, rfl⟩ := trodAll_nil r1
  obtain rfl : args = #[v0, v1] := by cases args; simp_all
  obtain ⟨rfl, rfl⟩ := trodVars_none hV
  obtain ⟨a0, rfl, rfl, rfl, w0⟩ := open_int Tryd.underlying22 (hval 0 22 v0 rfl rfl) h0
  obtain ⟨a1, rfl, rfl, rfl, w1⟩ := open_int Tryd.underlying3 (hval 1 3 v1 rfl rfl) h1
  clear hA0 hval0 hsz0 hsz
  obtain hG := of_laid hL
  refine (PA.plumblaw10_LemireTens.walk Pure.LemireTens a0 a1 W w0 w1 hG).mono fun e W' ⟨he, bel⟩ => ?_
  subst he
  exact ⟨_, rfl, _, _, _, [], _, [], hW', trodAll_mk1 (shut_bool Tryd.underlying4 _), (trodAll_cons_mk (shut_int Tryd.underlying22 w0) (trodAll_cons_mk (shut_int Tryd.underlying3 w1) trodAll_mk0)), rfl, bel.frame _, fun h => by cases h⟩
theorem over : Rows.lemireTensRow.holds Tryd.pinned (OpenSpec.ofChange Rows.lemireTensSpec) :=
  OpenClaim.holds_of_wide 5 Tryd.f5 rfl rfl rfl rfl rfl rfl rfl ⟨rfl, rfl, rfl, rfl, rfl⟩ rfl rfl rfl rfl rfl (by kernel_rfl) Tryd.func5 (by kernel_rfl)
    (of_decide_eq_true (by kernel_rfl)) (by unfold Func.isWrapper; first | (rw [if_pos (by decide +kernel)]; kernel_rfl) | (rw [if_neg (by decide +kernel)]; exact ⟨rfl, rfl⟩))
    (fun os started H enc _ => lifted os started H enc)
set_option maxRecDepth 100000 in
theorem proved : Rows.LemireTensCardSaid :=
  Claim7.holds_tied_plain_at .later [] [.data] true (true, "edb50a61f7774a70730552cf16676197a30bb9f2c5a5699edca448e9415e3cb7") true
    over (fun _ h => by cases h) (by kernel_rfl) (fun _ h => by cases h) lemireTens_row_tie rfl ⟨rfl, rfl⟩ (by kernel_rfl) rfl
    (fun f fn hf hfn => by
      obtain rfl : f = 5 := (Option.some.inj ((show Tryd.prog.funcNamed "plumb/plumblaw10.LemireTens" = some 5 by kernel_rfl).symm.trans hf)).symm
      obtain rfl : fn = Tryd.f5 := (Option.some.inj (Tryd.func5.symm.trans hfn)).symm
      exact ⟨by kernel_rfl, fun j t ht => by
        have hall : (Tryd.f5.params.toList.all fun t => !Tryd.prog.wantsStandIn t) = true := by kernel_rfl
        have hm : t ∈ Tryd.f5.params.toList := by rw [← Array.getElem?_toList] at ht; exact List.mem_of_getElem? ht
        have hz : Tryd.prog.wantsStandIn t = false := by simpa using List.all_eq_true.1 hall t hm
        exact hz⟩)
    (by kernel_rfl)
#print axioms proved
end Go.Proofs.YtoannkopciehcaaDoor.lemireTens
namespace Go.Proofs.YtoannkopciehcaaDoor
end Go.Proofs.YtoannkopciehcaaDoor

namespace Go.Proofs.YtoannkopciehcaaDoor.Pure
open Go Go.RowKit Go.Proofs.YtoannkopciehcaaDoor.PA Go.Proofs.YtoannkopciehcaaDoorW.PrintWords Go.Proofs.YtoannkopciehcaaDoorW.PrintLast
set_option linter.unusedVariables false
theorem rises_alive : plumblaw10_alive.f 200 = some true := by kernel_rfl
theorem rises_alive_at (k : Nat) (hk : 200 ≤ k) : plumblaw10_alive.f k = some true := by
  obtain ⟨d, rfl⟩ : ∃ d, k = 200 + d := ⟨k - 200, by omega⟩
  clear hk
  induction d with
  | zero => exact rises_alive
  | succ d ih => exact plumblaw10_alive.mono _ _ ih
theorem fast_mono {m n : Nat} (hm : m ≤ n) (hn : n < 18446744073709551616) {e f : Int} (he : e ≤ f) :
    (fastA m e).2 = 100 ∨ (fastA n f).2 = 100 ∨ (fastA n f).2 = 70 ∨ ∃ a b : Nat, a ≤ b ∧ b ≤ 9218868437227405311 ∧ fastA m e = ((a : Int), 0) ∧ fastA n f = ((b : Int), 0) := by
  rcases fastA_sure m (by omega) e with h | ⟨z, hz, h⟩
  · rw [h]; exact .inl rfl
  · rcases fastA_sure n hn f with g | ⟨y, hy, g⟩
    · rw [g]; exact .inr (.inl rfl)
    · have hle : z ≤ y := by
        refine Rnd.mono (tQ_pos e) (tQ_pos f) hz hy ?_
        unfold tP tQ
        have h1 : 10 ^ e.toNat * 10 ^ (-f).toNat ≤ 10 ^ f.toNat * 10 ^ (-e).toNat := by
          rw [← Nat.pow_add, ← Nat.pow_add]
          exact Nat.pow_le_pow_right (by decide) (by omega)
        generalize 10 ^ e.toNat = x1 at *
        generalize 10 ^ (-f).toNat = x2 at *
        generalize 10 ^ f.toNat = x3 at *
        generalize 10 ^ (-e).toNat = x4 at *
        generalize 2 ^ uN = x5
        have e1 : m * x1 * x5 * x2 = m * x5 * (x1 * x2) := by ac_rfl
        have e2 : n * x3 * x5 * x4 = n * x5 * (x3 * x4) := by ac_rfl
        rw [e1, e2]
        exact Nat.mul_le_mul (Nat.mul_le_mul_right _ hm) h1
      rcases outP_cases y with ⟨_, q⟩ | ⟨q1, q2⟩
      · rw [g, q]; exact .inr (.inr (.inl rfl))
      · rcases outP_cases z with ⟨r1, _⟩ | ⟨r1, r2⟩
        · omega
        · exact .inr (.inr (.inr ⟨z, y, hle, q1, by rw [h, r2], by rw [g, q2]⟩))
theorem rank_eq (x : Nat) (hx : x ≤ 9218868437227405311) (k : Nat) : f64_Rank.f (k + 1) (x : Int) = some ((x : Int), 0) := by
  have ef : Go.bits .and .u64 ((x : Int) / 4503599627370496) 2047 = ((x / 4503599627370496 : Nat) : Int) := by
    rw [and_mask (x := (x : Int) / 4503599627370496) (by omega) (by omega) 11 (by decide) 2047 (by decide), show (2 : Int) ^ 11 = 2048 from by decide]
    omega
  have ew : wrap64 ((x / 4503599627370496 : Nat) : Int) = ((x / 4503599627370496 : Nat) : Int) := w64_of (by omega) (by omega)
  have es : Go.bits .and .u64 (x : Int) 9223372036854775808 = 0 := by
    have h := u64_and_nat x 9223372036854775808 (by omega) (by decide)
    have h2 : x &&& 9223372036854775808 = 0 := by
      rw [show (9223372036854775808 : Nat) = 2 ^ 63 from by decide]
      apply Nat.eq_of_testBit_eq
      intro i
      rw [Nat.testBit_and, Nat.testBit_two_pow, Nat.zero_testBit]
      by_cases h : 63 = i
      · subst h
        rw [Nat.testBit_lt_two_pow (by rw [show (2 : Nat) ^ 63 = 9223372036854775808 from by decide]; omega)]
        rfl
      · rw [decide_eq_false h, Bool.and_false]
    rw [h2] at h
    exact h
  have en : Go.bits .andNot .u64 (x : Int) 9223372036854775808 = (x : Int) := by
    have h := u64_andNot_nat x 9223372036854775808 (by omega) (by decide)
    have h2 : x &&& (18446744073709551615 - 9223372036854775808) = x := by
      rw [show 18446744073709551615 - 9223372036854775808 = 2 ^ 63 - 1 from by decide, Nat.and_two_pow_sub_one_eq_mod, Nat.mod_eq_of_lt (by rw [show (2 : Nat) ^ 63 = 9223372036854775808 from by decide]; omega)]
    rw [h2] at h
    exact h
  have hc : ∃ c : Int, c ≠ 3 ∧ c ≠ 4 ∧ f64_Class.f (k + 1) (x : Int) = some c := by
    rw [f64_Class.f, f64_fields.f, ef, ew, Option.bind_some]
    have hj : ∀ b : Bool, ∃ c : Int, c ≠ 3 ∧ c ≠ 4 ∧ f64_Class.j0 (k + 1) ((x / 4503599627370496 : Nat) : Int) (Go.bits .and .u64 (x : Int) 4503599627370495) b = some c := by
      intro b
      rw [f64_Class.j0]
      cases b
      · rw [if_neg (by decide)]
        by_cases c0 : ((x / 4503599627370496 : Nat) : Int) = 0
        · rw [if_pos c0]; exact ⟨1, by decide, by decide, rfl⟩
        · rw [if_neg c0, if_pos (by omega)]; exact ⟨2, by decide, by decide, rfl⟩
      · rw [if_pos rfl]; exact ⟨0, by decide, by decide, rfl⟩
    by_cases c0 : ((x / 4503599627370496 : Nat) : Int) = 0
    · rw [if_pos c0]; exact hj _
    · rw [if_neg c0]; exact hj _
  obtain ⟨c, c3, c4, hc⟩ := hc
  have w2 : wrap64 (x : Int) = (x : Int) := w64_of (by omega) (by omega)
  rw [f64_Rank.f, f64_finite.f, hc, Option.bind_some, if_neg c3, if_neg c4, Option.bind_some, if_pos rfl, es, if_pos rfl, en, w2]
theorem cmp_le (x y : Nat) (hxy : x ≤ y) (hy : y ≤ 9218868437227405311) (k : Nat) : ∃ c : Int, c ≤ 0 ∧ f64_Cmp.f (k + 1) (x : Int) (y : Int) = some (c, 0) := by
  rw [f64_Cmp.f, rank_eq x (by omega), Option.bind_some, rank_eq y hy, Option.bind_some, if_pos rfl, f64_Cmp.j0]
  show ∃ c : Int, c ≤ 0 ∧ (if ((0 : Int) != 0) = true then _ else _) = _
  rw [if_neg (by decide)]
  show ∃ c : Int, c ≤ 0 ∧ (if (x : Int) < (y : Int) then _ else (if (x : Int) > (y : Int) then _ else _)) = _
  by_cases h : x < y
  · rw [if_pos (by omega)]; exact ⟨-1, by decide, rfl⟩
  · rw [if_neg (by omega), if_neg (by omega)]; exact ⟨0, by decide, rfl⟩
theorem rises_eq {m n : Nat} (hm : m ≤ n) (hn : n < 18446744073709551616) {e f : Int} (he : e ≤ f) (k : Nat) (hk : 100000010 < k) : plumblaw10_rises.f k (m : Int) e (n : Int) f = some true := by
  obtain ⟨k, rfl⟩ : ∃ j, k = j + 2 := ⟨k - 2, by omega⟩
  rw [plumblaw10_rises.f, lemire_Fast.f_eq m (by omega) e _ (by omega), Option.bind_some, lemire_Fast.f_eq n hn f _ (by omega), Option.bind_some]
  have h := fast_mono hm hn he
  have hj : ∀ a b c d : Int, plumblaw10_rises.j0 (k + 2) a b c d true = some true := by
    intro a b c d
    rw [plumblaw10_rises.j0, if_pos rfl]
  by_cases a : (fastA m e).2 = 100
  · rw [if_pos a, hj]
  · rw [if_neg a]
    by_cases b : (fastA n f).2 = 100
    · rw [if_pos b, hj]
    · rw [if_neg b]
      by_cases c : (fastA n f).2 = 70
      · rw [c, show ((70 : Int) == 70) = true from rfl, hj]
      · obtain ⟨x, y, hxy, hy, e1, e2⟩ := ((h.resolve_left a).resolve_left b).resolve_left c
        obtain ⟨z, hz, hc⟩ := cmp_le x y hxy hy k
        rw [e1, e2]
        rw [plumblaw10_rises.j0]
        show (if ((0 : Int) == 70) = true then _ else _) = _
        rw [if_neg (by decide), if_pos rfl, if_pos rfl, hc, Option.bind_some, if_pos rfl, decide_eq_true hz]
theorem rises_j1 {m n : Nat} (hm : m ≤ n) (hn : n < 18446744073709551616) {e f : Int} (he : e ≤ f) (k : Nat) (hk : 100000010 < k) : plumblaw10_LemireRises.j1 (k + 1) (m : Int) (n : Int) e f = some true := by
  rw [plumblaw10_LemireRises.j1, rises_alive_at k (by omega), Option.bind_some, if_pos rfl, rises_eq hm hn (Int.le_refl e) k hk, Option.bind_some, if_pos rfl, rises_eq (Nat.le_refl m) (by omega) he k hk, Option.bind_some, if_pos rfl, rises_eq hm hn he k hk, Option.bind_some]
theorem rises_j0 {m n : Nat} (hm : m ≤ n) (hn : n < 18446744073709551616) (e f : Int) (k : Nat) (hk : 100000010 < k) : plumblaw10_LemireRises.j0 (k + 2) (m : Int) (n : Int) e f = some true := by
  rw [plumblaw10_LemireRises.j0]
  by_cases h : e > f
  · rw [if_pos h]; exact rises_j1 hm hn (by omega) k hk
  · rw [if_neg h]; exact rises_j1 hm hn (by omega) k hk
theorem LemireRises : plumblaw10_LemireRises.Pure := by
  intro a0 a1 e f h0 h1 _ _
  have b0 := bounds_u64 h0
  have b1 := bounds_u64 h1
  obtain ⟨m, rfl⟩ : ∃ a : Nat, a0 = (a : Int) := ⟨a0.toNat, by omega⟩
  obtain ⟨n, rfl⟩ : ∃ a : Nat, a1 = (a : Int) := ⟨a1.toNat, by omega⟩
  refine ⟨100000020 + 2, ?_⟩
  rw [plumblaw10_LemireRises.f]
  by_cases h : (m : Int) > (n : Int)
  · rw [if_pos h]; exact rises_j0 (by omega) (by omega) e f 100000020 (by decide)
  · rw [if_neg h]; exact rises_j0 (by omega) (by omega) e f 100000020 (by decide)
end Go.Proofs.YtoannkopciehcaaDoor.Pure

namespace Go.Proofs.YtoannkopciehcaaDoor.lemireRises
open Go.ChangeShapes Go.WideShapes Go.ChangeAt Go.RowKit
open Go.ChangeMaps (open_string shut_string)
set_option linter.unusedVariables false
theorem own : ownKnob Tryd.prog.godebug = none := by kernel_rfl
/-- the door's own heap meets the condition -/
theorem door_met (os : Os) (args : Array Value) : laidMetH Tryd.prog Rows.lemireRisesRow.laid ((World.doorLaid Tryd.prog 400 os).forCall (fun _ _ => 0) ⟨#[], args, []⟩).memory :=
  laidMetH_of_parts3 (fuel := 8) (laidMet_of_run' 8 (by kernel_rfl) (by kernel_rfl)) (by kernel_rfl) (by kernel_rfl)
/-- what the condition says of the variables' cells -/
theorem of_laid {W : World} (h : laidMetH Tryd.prog Rows.lemireRisesRow.laid W) : PA.TensLaid W := by
  rw [MakeChecks.laidMetH_plain _ _ _ (by kernel_rfl)] at h
  obtain ⟨ps, ⟨g0, t0, cs0, f0, p0, q0, hg0, ht0, hv0, hd0, _, _⟩, _, _⟩ := h
  obtain rfl := Option.some.inj ((show Tryd.prog.globalNamed "plumb/lemire.tens" = some 0 by kernel_rfl).symm.trans hg0)
  obtain rfl := Option.some.inj ((show (Tryd.prog.globals[0]?).map (·.type) = some 54 by kernel_rfl).symm.trans ht0)
  exact fun n hn => by
    rw [World.var?_cell hg0 hv0 n]
    have e := Go.Proofs.YtoannkopciehcaaDoorW.PrintWords.trod_words Tryd.underlying54 Tryd.underlying22 (by kernel_rfl) (L := PA.lemire_tensL) hd0 n hn
    rwa [Array.getElem?_toList] at e
set_option maxRecDepth 100000 in
theorem lifted (os : Os) (started : os.Started) (H : Type) (enc : TypeId × Value → H) :
    ReturnsInHanded {} Tryd.checked os 6 .any (fun w args => (Rows.lemireRisesSpec.pre enc Tryd.prog Tryd.f6 Rows.lemireRisesRow.domain false w args ∧ laidMetH Tryd.prog Rows.lemireRisesRow.laid w) ∧ sizedMet enc Tryd.prog Tryd.f6 (OpenSpec.ofChange Rows.lemireRisesSpec) false w args) (Rows.lemireRisesSpec.post enc Tryd.prog Tryd.f6 false true false false) := by
  refine returnsInHanded_of_change_and (C := Tryd.checked) (X := fun w _ => laidMetH Tryd.prog Rows.lemireRisesRow.laid w) (fun _ _ _ hh h => h.of_heap hh) own started (by kernel_rfl) Tryd.func6
    (ChangeSpec.witness_shaped (enc := enc) (C := Tryd.checked) (os := os) (X := fun w _ => laidMetH Tryd.prog Rows.lemireRisesRow.laid w) false (World.doorLaid Tryd.prog 400 os) #[.int .u64 0, .int .u64 0, .int .i64 0, .int .i64 0] 8 rfl (World.shaped_of_RefB (by kernel_rfl) (by kernel_rfl)) (by kernel_rfl) (by kernel_rfl) (by kernel_rfl) (door_met os _)) ?_
  intro W base args ds gs before hval0 hW hcnd hsz0 hL _
  have hsz : (DataW.weightsEach Tryd.prog (Tryd.f6.params.toList ++ Rows.lemireRisesSpec.plain.varTypes Tryd.prog) (ds ++ gs)).all (· ≤ reachBytes) = true := hsz0
  have hval : ∀ (j : Nat) t v, Tryd.f6.params[j]? = some t → args[j]? = some v → Value.okWide Tryd.prog W .any base t v := hval0
  have hW' := hW
  obtain ⟨p, q, hA0, hV, rfl, hfz, hnd⟩ := hW
  have hA : DataW.TrodAll enc Tryd.prog W 0 (fun _ => true) true Tryd.f6.params.toList args.toList ds p := hA0
  rw [Tryd.params6] at hA hval hsz
  obtain ⟨v0, vs0, d0, ds0, p0, q0, hargs, rfl, rfl, h0, r0⟩ := trodAll_cons hA
  obtain ⟨v1, vs1, d1, ds1, p1, q1, rfl, rfl, rfl, h1, r1⟩ := trodAll_cons r0
  obtain ⟨v2, vs2, d2, ds2, p2, q2, rfl, rfl, rfl, h2, r2⟩ := trodAll_cons r1
  obtain ⟨v3, vs3, d3, ds3, p3, q3, rfl, rfl, rfl, h3, r3⟩ := trodAll_cons r2
  obtain ⟨rfl, rfl, rfl⟩ := trodAll_nil r3
  obtain rfl : args = #[v0, v1, v2, v3] := by cases args; simp_all
  obtain ⟨rfl, rfl⟩ := trodVars_none hV
  obtain ⟨a0, rfl, rfl, rfl, w0⟩ := open_int Tryd.underlying22 (hval 0 22 v0 rfl rfl) h0
  obtain ⟨a1, rfl, rfl, rfl, w1⟩ := open_int Tryd.underlying22 (hval 1 22 v1 rfl rfl) h1
  obtain ⟨a2, rfl, rfl, rfl, w2⟩ := open_int Tryd.underlying3 (hval 2 3 v2 rfl rfl) h2
  obtain ⟨a3, rfl, rfl, rfl, w3⟩ := open_int Tryd.underlying3 (hval 3 3 v3 rfl rfl) h3
  clear hA0 hval0 hsz0 hsz
  obtain hG := of_laid hL
  refine (PA.plumblaw10_LemireRises.walk Pure.LemireRises a0 a1 a2 a3 W w0 w1 w2 w3 hG).mono fun e W' ⟨he, bel⟩ => ?_
  subst he
  exact ⟨_, rfl, _, _, _, [], _, [], hW', trodAll_mk1 (shut_bool Tryd.underlying4 _), (trodAll_cons_mk (shut_int Tryd.underlying22 w0) (trodAll_cons_mk (shut_int Tryd.underlying22 w1) (trodAll_cons_mk (shut_int Tryd.underlying3 w2) (trodAll_cons_mk (shut_int Tryd.underlying3 w3) trodAll_mk0)))), rfl, bel.frame _, fun h => by cases h⟩
theorem over : Rows.lemireRisesRow.holds Tryd.pinned (OpenSpec.ofChange Rows.lemireRisesSpec) :=
  OpenClaim.holds_of_wide 6 Tryd.f6 rfl rfl rfl rfl rfl rfl rfl ⟨rfl, rfl, rfl, rfl, rfl⟩ rfl rfl rfl rfl rfl (by kernel_rfl) Tryd.func6 (by kernel_rfl)
    (of_decide_eq_true (by kernel_rfl)) (by unfold Func.isWrapper; first | (rw [if_pos (by decide +kernel)]; kernel_rfl) | (rw [if_neg (by decide +kernel)]; exact ⟨rfl, rfl⟩))
    (fun os started H enc _ => lifted os started H enc)
set_option maxRecDepth 100000 in
theorem proved : Rows.LemireRisesCardSaid :=
  Claim7.holds_tied_plain_at .later [] [.data] true (true, "edb50a61f7774a70730552cf16676197a30bb9f2c5a5699edca448e9415e3cb7") true
    over (fun _ h => by cases h) (by kernel_rfl) (fun _ h => by cases h) lemireRises_row_tie rfl ⟨rfl, rfl⟩ (by kernel_rfl) rfl
    (fun f fn hf hfn => by
      obtain rfl : f = 6 := (Option.some.inj ((show Tryd.prog.funcNamed "plumb/plumblaw10.LemireRises" = some 6 by kernel_rfl).symm.trans hf)).symm
      obtain rfl : fn = Tryd.f6 := (Option.some.inj (Tryd.func6.symm.trans hfn)).symm
      exact ⟨by kernel_rfl, fun j t ht => by
        have hall : (Tryd.f6.params.toList.all fun t => !Tryd.prog.wantsStandIn t) = true := by kernel_rfl
        have hm : t ∈ Tryd.f6.params.toList := by rw [← Array.getElem?_toList] at ht; exact List.mem_of_getElem? ht
        have hz : Tryd.prog.wantsStandIn t = false := by simpa using List.all_eq_true.1 hall t hm
        exact hz⟩)
    (by kernel_rfl)
#print axioms proved
end Go.Proofs.YtoannkopciehcaaDoor.lemireRises
namespace Go.Proofs.YtoannkopciehcaaDoor
end Go.Proofs.YtoannkopciehcaaDoor

namespace Go.Proofs.YtoannkopciehcaaDoor.PA
open Go Go.RowKit Go.Proofs.YtoannkopciehcaaDoorW.PrintWords Go.Proofs.YtoannkopciehcaaDoorW.PrintLast Go.Proofs.YtoannkopciehcaaDoorW.PrintMore
set_option linter.unusedVariables false
set_option linter.unusedSimpArgs false
theorem pow_nat_lt {j : Nat} (h : j ≤ 63) : 2 ^ j ≤ 9223372036854775808 := by
  rw [show (9223372036854775808 : Nat) = 2 ^ 63 from by decide]
  exact Nat.pow_le_pow_right (by decide) h
theorem cut_maskE (j : Nat) (h1 : 1 ≤ j) (h2 : j ≤ 64) : shl .u64 1 ((j - 1 : Nat) : Int) = ((2 ^ (j - 1) : Nat) : Int) ∧ IntKind.u64.wrap (IntKind.u64.wrap (((2 ^ (j - 1) : Nat) : Int) * 2) - 1) = 2 ^ j - 1 := by
  have hp := pow_nat_lt (j := j - 1) (by omega)
  constructor
  · have := shl_nat 1 (j - 1) (by omega) (by omega)
    rw [Nat.one_mul] at this
    exact this
  · have e : (2 : Int) ^ j = ((2 ^ (j - 1) : Nat) : Int) * 2 := by
      rw [p2cast]
      have : 2 ^ j = 2 ^ (j - 1) * 2 := by rw [← Nat.pow_succ]; congr 1; omega
      rw [this, Int.natCast_mul]; rfl
    by_cases h64 : j = 64
    · subst h64; decide
    · have hp2 := pow_nat_lt (j := j) (by omega)
      have hp3 : 0 < 2 ^ (j - 1) := Nat.pow_pos (by decide)
      rw [p2cast] at e
      rw [p2cast, e]
      generalize 2 ^ (j - 1) = z at *
      rw [u64w_of (x := (z : Int) * 2) (by omega) (by omega), u64w_of (by omega) (by omega)]
theorem near_cut.f_eq (m j : Nat) (hm : m < 18446744073709551616) (h1 : 1 ≤ j) (hj : j ≤ 9007199254740992) (k : Nat) (hk : 1 ≤ k) : near_cut.f k (m : Int) (j : Int) = some (((m / 2 ^ j : Nat) : Int), ((tailOf (m % 2 ^ j) j false : Nat) : Int)) := by
  obtain ⟨k, rfl⟩ : ∃ i, k = i + 1 := ⟨k - 1, by omega⟩
  rw [near_cut.f]
  by_cases h0 : m = 0
  · subst h0
    rw [if_pos (show ((0 : Nat) : Int) = 0 from rfl), near_cut.j0, if_pos rfl, Nat.zero_div, Nat.zero_mod]
    rfl
  · rw [if_neg (by omega), decide_eq_false (by omega), near_cut.j0, if_neg (by decide)]
    by_cases hbig : j > 64
    · have hp : 2 ^ 65 ≤ 2 ^ j := Nat.pow_le_pow_right (by decide) hbig
      rw [show (2 : Nat) ^ 65 = 36893488147419103232 from by decide] at hp
      have hq : m / 2 ^ j = 0 := Nat.div_eq_of_lt (by omega)
      have hr : m % 2 ^ j = m := Nat.mod_eq_of_lt (by omega)
      rw [if_pos (by omega), hq, hr]
      unfold tailOf
      rw [if_neg h0, if_pos (by omega)]
      rfl
    · rw [if_neg (by omega)]
      obtain ⟨m1, m2⟩ := cut_maskE j h1 (by omega)
      have hw : wrap64 ((j : Int) - 1) = ((j - 1 : Nat) : Int) := w64x (by omega) (by omega)
      have hand : Go.bits .and .u64 (m : Int) (IntKind.u64.wrap (IntKind.u64.wrap (((2 ^ (j - 1) : Nat) : Int) * 2) - 1)) = ((m % 2 ^ j : Nat) : Int) := by
        rw [m2, and_mask (x := (m : Int)) (by omega) (by omega) j (by omega) _ rfl, p2cast, Int.natCast_emod]
      have hS : ∃ x, wide_Shr.f 0 (m : Int) (j : Int) = some (x, ((m / 2 ^ j : Nat) : Int), decide (m % 2 ^ j ≠ 0)) := by
        by_cases h64 : j = 64
        · subst h64
          have hq : m / 2 ^ 64 = 0 := Nat.div_eq_of_lt (by rw [show (2 : Nat) ^ 64 = 18446744073709551616 from by decide]; exact hm)
          have hr : m % 2 ^ 64 = m := Nat.mod_eq_of_lt (by rw [show (2 : Nat) ^ 64 = 18446744073709551616 from by decide]; exact hm)
          refine ⟨0, ?_⟩
          rw [hq, hr, wide_Shr.f, wide_within.f, Option.bind_some]
          have e1 : mn (mx ((64 : Nat) : Int) 0) 128 = 64 := by decide
          have e2 : wrap64 (64 - 64) = 0 := by rw [w64_of (by omega) (by omega)]; rfl
          have e3 : wrap64 (128 - 64) = 64 := by rw [w64_of (by omega) (by omega)]; rfl
          rw [e1, e2, e3, if_pos (by decide)]
          rw [if_neg (by omega), if_pos (by decide), decide_eq_true h0]
          rfl
        · refine ⟨0, ?_⟩
          rw [wide_Shr.f_eq (hi := 0) (lo := (m : Int)) (s := j) (by omega) (by decide) (by decide) (by omega) (by omega)]
          have hR := two_pow_pos (64 - j)
          have hl := shl_low (x := (m : Int)) hR (pow_split' (s := j) (by omega))
          rw [hl, Int.zero_ediv, Int.zero_mul, Int.zero_emod, Int.zero_add, p2cast j, ← Int.natCast_ediv, ← Int.natCast_emod]
          congr 3
          rw [decide_eq_decide]
          constructor
          · intro h hz; exact h (by rw [hz]; simp)
          · intro h hz
            rcases Int.mul_eq_zero.1 hz with h3 | h3
            · omega
            · exact h (Int.ofNat.inj h3)
      obtain ⟨x, hS⟩ := hS
      rw [hS, Option.bind_some]
      by_cases hl : m % 2 ^ j = 0
      · rw [if_neg (by simp [hl]), hl]; rfl
      · rw [if_pos (by simp [hl]), hw, if_pos (Int.natCast_nonneg _), m1, hand]
        have h2 : 2 ^ j = 2 * 2 ^ (j - 1) := by rw [Nat.mul_comm, ← Nat.pow_succ]; congr 1; omega
        unfold tailOf
        rw [if_neg hl]
        generalize m % 2 ^ j = r at *
        generalize hz : 2 ^ (j - 1) = z at *
        rw [h2]
        by_cases c1 : r < z
        · rw [if_pos (by omega), if_pos (by omega)]; rfl
        · rw [if_neg (by omega)]
          by_cases c2 : r = z
          · rw [if_neg (by omega), if_neg (by omega), if_pos (by omega)]; rfl
          · rw [if_pos (by omega), if_neg (by omega), if_neg (by omega)]; rfl
theorem RS_zero (mode : Int) (neg : Bool) : RS mode neg 0 0 = (sgn neg, 0) := by
  have hu : upB mode neg (0 % 2 == 1) 0 = false := by
    unfold upB
    split <;> (try rfl)
    split <;> (try rfl)
    split <;> (try rfl)
    split <;> simp
  unfold RS
  rw [hu, if_neg (by decide)]
  unfold outP
  rw [if_neg (by decide)]
  simp
theorem near_finish.f_eq (neg : Bool) (mode : Int) (h0 : 0 ≤ mode) (h4 : mode ≤ 4) (m : Nat) (hm : m < 18446744073709551616) (exp : Int) (he1 : -2199023255552 ≤ exp) (he2 : exp ≤ 2199023255552) (st : Bool) (k : Nat) (hk : 60 ≤ k) :
    near_finish.f k neg (m : Int) exp st mode = some (RS mode neg (flo m exp st).1 (flo m exp st).2) := by
  obtain ⟨k, rfl⟩ : ∃ i, k = i + 8 := ⟨k - 8, by omega⟩
  have e0 : near_finish.f (k + 8) neg (m : Int) exp st mode = near_finish.j0 (k + 8) neg (m : Int) exp st mode (sgn neg) (if neg then 1 else 0) := by
    unfold near_finish.f sgn
    cases neg <;> simp
  rw [e0, near_finish.j0]
  by_cases hz : m = 0
  · subst hz
    have h00 : ((0 : Nat) : Int) = 0 := rfl
    rw [if_pos h00]
    unfold flo
    rw [if_pos rfl]
    cases st
    · rw [near_finish.j1, if_pos (by decide)]
      exact congrArg some (RS_zero mode neg).symm
    · have r := near_finish.j3_eq neg mode h0 h4 0 0 0 true (by decide) (.inl rfl) (by decide) (by decide) k (by omega)
      have hl : wide_Len.f (k + 6) ((0 : Nat) : Int) = some (bitsN ((0 : Nat) : Int)) := wide_Len.f_eq (by decide) (by decide) (k + 6) (by omega)
      rw [near_finish.j1, if_neg (by decide), hl, Option.bind_some, if_pos h00, near_finish.j2]
      by_cases hc : (-1074 : Int) > exp
      · have hw : wrap64 (-1074 - exp) = ((-1074 - exp).toNat : Int) := w64x (by omega) (by omega)
        rw [if_pos hc, hw, near_cut.f_eq 0 (-1074 - exp).toNat (by decide) (by omega) (by omega) (k + 5) (by omega), Option.bind_some, Nat.zero_div, Nat.zero_mod]
        exact r
      · rw [if_neg hc, if_pos h00]
        exact r
  · obtain ⟨L, hL, hb1, hb2⟩ := bits_bounds (m := m) (by omega)
    have hL64 : L ≤ 63 := by
      apply Classical.byContradiction
      intro hn
      have h1 : 2 ^ 64 ≤ 2 ^ L := Nat.pow_le_pow_right (by decide) (by omega)
      rw [show (2 : Nat) ^ 64 = 18446744073709551616 from by decide] at h1
      omega
    have hl : wide_Len.f (k + 6) (m : Int) = some (bitsN (m : Int)) := wide_Len.f_eq (by omega) (by omega) (k + 6) (by omega)
    have hlast : mx (wrap64 (wrap64 (exp + bitsN (m : Int)) - 53)) (-1074) = (((exp + 1074 + bitsN (m : Int) - 53).toNat : Nat) : Int) - 1074 := by
      rw [hL, w64_of (x := exp + (L + 1)) (by omega) (by omega), w64_of (by omega) (by omega)]
      unfold mx
      split <;> omega
    rw [if_neg (by omega), near_finish.j1, if_neg (by decide), hl, Option.bind_some, if_neg (by omega), hlast, near_finish.j2]
    unfold flo
    rw [if_neg hz]
    clear hlast hl
    generalize hs : (exp + 1074 + bitsN (m : Int) - 53).toNat = s at *
    rw [hL] at hs
    by_cases hc : 1 ≤ (s : Int) - (exp + 1074)
    · rw [if_pos hc, if_pos (by omega)]
      obtain ⟨j, hj⟩ : ∃ j : Nat, (s : Int) - (exp + 1074) = (j : Int) := ⟨((s : Int) - (exp + 1074)).toNat, by omega⟩
      have hw : wrap64 ((s : Int) - 1074 - exp) = (j : Int) := w64x (by omega) (by omega)
      obtain ⟨q1, q2⟩ := flo_q (s := s) (j := j) hb1 hb2 (by omega) (by omega)
      rw [hw, hj, Int.toNat_natCast, near_cut.f_eq m j hm (by omega) (by omega) (k + 5) (by omega), Option.bind_some]
      have ht : tailOf (m % 2 ^ j) j false ≤ 3 := by
        unfold tailOf
        split
        · decide
        · split
          · decide
          · split <;> decide
      have r := near_finish.j3_eq neg mode h0 h4 (m / 2 ^ j) s (tailOf (m % 2 ^ j) j false) st q1 q2 (by omega) ht k (by omega)
      rw [bump_tail] at r
      exact r
    · rw [if_neg hc, if_neg (by omega), if_neg (by omega)]
      obtain ⟨j, hj⟩ : ∃ j : Nat, exp + 1074 - (s : Int) = (j : Int) := ⟨(exp + 1074 - (s : Int)).toNat, by omega⟩
      have hw : wrap64 (exp - ((s : Int) - 1074)) = (j : Int) := w64x (by omega) (by omega)
      obtain ⟨q1, q2⟩ := flo_p (s := s) (j := j) hb1 hb2 (by omega) (by omega)
      rw [hw, hj, Int.toNat_natCast, if_pos (Int.natCast_nonneg _), shl_nat m j (by omega) (by omega)]
      have r := near_finish.j3_eq neg mode h0 h4 (m * 2 ^ j) s 0 st q1 q2 (by omega) (by decide) k (by omega)
      exact r
end Go.Proofs.YtoannkopciehcaaDoor.PA

namespace Go.Proofs.YtoannkopciehcaaDoor.PA
open Go Go.RowKit Go.Proofs.YtoannkopciehcaaDoorW.PrintWords Go.Proofs.YtoannkopciehcaaDoorW.PrintLast Go.Proofs.YtoannkopciehcaaDoorW.PrintMore
set_option linter.unusedVariables false
set_option linter.unusedSimpArgs false
/-- what a Q holds, and that all fits -/
structure QOk (A B : List Int) (exp : Int) (a b N k : Nat) : Prop where
  hA : Ws A
  hB : Ws B
  ea : nv A = (a : Int)
  eb : nv B = (b : Int)
  hb : 0 < b
  hAN : A.length ≤ N
  hBN : B.length + 2 ≤ N
  hN : N ≤ 1000000000000
  he1 : exp + 1075 ≤ 64 * N
  he2 : 971 - exp ≤ 64 * N
  hk : 100 * N + 1000 < k
end Go.Proofs.YtoannkopciehcaaDoor.PA

namespace Go.Proofs.YtoannkopciehcaaDoor.PA
open Go Go.RowKit Go.Proofs.YtoannkopciehcaaDoorW.PrintWords Go.Proofs.YtoannkopciehcaaDoorW.PrintLast Go.Proofs.YtoannkopciehcaaDoorW.PrintMore
set_option linter.unusedVariables false
set_option linter.unusedSimpArgs false
theorem near_known.f_eq (m : Int) : near_known.f m = some (decide (0 ≤ m ∧ m ≤ 4)) := by
  unfold near_known.f
  by_cases h : m ≥ 0
  · rw [if_pos h]; congr 1; rw [decide_eq_decide]; omega
  · rw [if_neg h, decide_eq_false (by omega)]
/-- a number's bits, from its list -/
theorem bits_len {l : List Int} (hl : Ws l) {a : Nat} (ha : nv l = (a : Int)) : bitsN (a : Int) ≤ ((64 * l.length : Nat) : Int) := by
  rw [bits_lt_pow]
  have := nv_lt hl
  rw [ha, p2cast] at this
  exact Int.ofNat_lt.1 this
theorem bits_nonneg (a : Nat) : 0 ≤ bitsN (a : Int) := by
  by_cases h : a = 0
  · subst h; exact Int.le_refl 0
  · have := bitsN_pos (x := (a : Int)) (by omega); omega
def clip (e : Int) : Int := mn (mx e (-1099511627776)) 1099511627776
theorem clip_le (e : Int) : -1099511627776 ≤ clip e ∧ clip e ≤ 1099511627776 := by unfold clip mn mx; split <;> split <;> omega
theorem clip_id {e : Int} (h1 : -1099511627776 ≤ e) (h2 : e ≤ 1099511627776) : clip e = e := by unfold clip mn mx; split <;> split <;> omega
theorem near_Scaled.f_eq (neg : Bool) (l : List Int) (hl : Ws l) (hm : l.length ≤ 1048576) (a : Nat) (ha : nv l = (a : Int)) (exp : Int) (more : Bool) (mode : Int) (k : Nat) (hk : 4000000 < k) :
    near_Scaled.f k neg l exp more mode = some (if 0 ≤ mode ∧ mode ≤ 4 then RS mode neg (flo a (clip exp) more).1 (flo a (clip exp) more).2 else (0, 71)) := by
  rw [near_Scaled.f, near_known.f_eq, Option.bind_some]
  by_cases hmode : 0 ≤ mode ∧ mode ≤ 4
  · rw [decide_eq_true hmode, if_pos rfl, if_pos hmode, nat_Bits.f_eq l hl (by omega) k (by omega) (by omega), Option.bind_some, ha]
    have hb := bits_len hl ha
    have hb0 := bits_nonneg a
    obtain ⟨s, hs⟩ : ∃ s : Nat, mx (wrap64 (bitsN (a : Int) - 64)) 0 = (s : Int) := ⟨(bitsN (a : Int) - 64).toNat, by
      rw [w64_of (by omega) (by omega)]; unfold mx; split <;> omega⟩
    have hs2 : (s : Int) = if bitsN (a : Int) ≤ 64 then 0 else bitsN (a : Int) - 64 := by
      rw [← hs, w64_of (by omega) (by omega)]; unfold mx; split <;> split <;> omega
    have hsz : s ≤ 67108864 := by clear hs; split at hs2 <;> omega
    have hword : a / 2 ^ s < 18446744073709551616 := by
      rw [Nat.div_lt_iff_lt_mul (Nat.pow_pos (by decide)), show (18446744073709551616 : Nat) = 2 ^ 64 from by decide, ← Nat.pow_add, ← bits_lt_pow]
      clear hs; split at hs2 <;> omega
    have hc := clip_le exp
    have hSh := nat_Shr.f_eq l hl (by omega) a ha s (by omega) (by clear hs; split at hs2 <;> omega) k (by omega)
    have hfl : flo (a / 2 ^ s) (clip exp + (s : Int)) (more || decide (a % 2 ^ s ≠ 0)) = flo a (clip exp) more := by
      by_cases h64 : bitsN (a : Int) ≤ 64
      · rw [if_pos h64] at hs2
        obtain rfl : s = 0 := by omega
        rw [Nat.pow_zero, Nat.div_one, Nat.mod_one, Int.natCast_zero, Int.add_zero]
        simp
      · rw [if_neg h64] at hs2
        apply flo_cut
        rw [Nat.le_div_iff_mul_le (Nat.pow_pos (by decide)), show (9007199254740992 : Nat) = 2 ^ 53 from by decide, ← Nat.pow_add]
        apply Classical.byContradiction
        intro hn
        have := (bits_lt_pow (a := a) (53 + s)).2 (by omega)
        omega
    have hw : wrap64 (clip exp + (s : Int)) = clip exp + (s : Int) := w64_of (by omega) (by omega)
    have hF := fun st => near_finish.f_eq neg mode hmode.1 hmode.2 (a / 2 ^ s) hword (clip exp + (s : Int)) (by omega) (by omega) st k (by omega)
    have ec : mn (mx exp (-1099511627776)) 1099511627776 = clip exp := rfl
    rw [hs, ec, hSh, Option.bind_some, nat_Word.f_eq hword k (by omega), Option.bind_some, hw, ← hfl]
    cases more
    · rw [if_neg (by decide), hF, Option.bind_some, Bool.false_or]
    · rw [if_pos rfl, hF, Option.bind_some, Bool.true_or]
  · rw [decide_eq_false hmode, if_neg (by decide), if_neg hmode]
end Go.Proofs.YtoannkopciehcaaDoor.PA

namespace Go.Proofs.YtoannkopciehcaaDoor.Pure
open Go Go.RowKit Go.Proofs.YtoannkopciehcaaDoor.PA Go.Proofs.YtoannkopciehcaaDoorW.PrintWords Go.Proofs.YtoannkopciehcaaDoorW.PrintLast
set_option linter.unusedVariables false
theorem unsure_alive : plumblaw10_alive.f 200 = some true := by kernel_rfl
theorem unsure_alive_at (k : Nat) (hk : 200 ≤ k) : plumblaw10_alive.f k = some true := by
  obtain ⟨d, rfl⟩ : ∃ d, k = 200 + d := ⟨k - 200, by omega⟩
  clear hk
  induction d with
  | zero => exact unsure_alive
  | succ d ih => exact plumblaw10_alive.mono _ _ ih
theorem at_out {e : Int} (h : e < -348 ∨ 347 < e) (k : Nat) : power_at.f (k + 1) e = some (0, 0, 0, false, false) := by
  rw [power_at.f]
  by_cases q : e < -348
  · rw [if_pos q, power_at.j0, if_pos rfl]
  · have q2 : e > 347 := by omega
    rw [if_neg q, decide_eq_true q2, power_at.j0, if_pos rfl]
theorem mul_words {m V : Nat} (hm0 : 0 < m) (hm : m < 18446744073709551616) (V1 : 170141183460469231731687303715884105728 ≤ V) (V2 : V < 340282366920938463463374607431768211456) (k : Nat) (hk : 100 < k) :
    nat_Mul.f k [(m : Int)] [((V % 18446744073709551616 : Nat) : Int), ((V / 18446744073709551616 : Nat) : Int)] = some (wd (m * V), 0) := by
  have hp : 0 < m * V := Nat.mul_pos hm0 (by omega)
  have ws : Ws [(m : Int)] := Ws.cons (by omega) (by omega) Ws.nil
  have e1 : nv [(m : Int)] = (m : Int) := by simp [nv]
  have ei : (m : Int) * (V : Int) = ((m * V : Nat) : Int) := by rw [Int.natCast_mul]
  have hne : ¬ ((m * V : Nat) : Int) = 0 := by omega
  have hl : (wd V).length = 2 := by rw [wd_two V1 V2]; rfl
  have hlim : m * V ≤ 5 ^ 192 := by
    have h1 : m * V ≤ 2 ^ 64 * 2 ^ 128 := Nat.mul_le_mul (by rw [show (2 : Nat) ^ 64 = 18446744073709551616 from by decide]; omega) (by rw [show (2 : Nat) ^ 128 = 340282366920938463463374607431768211456 from by decide]; omega)
    rw [← Nat.pow_add] at h1
    exact Nat.le_trans h1 (Nat.pow_le_pow_left (by decide) 192)
  rw [← wd_two V1 V2, nat_Mul.f_eq _ _ ws (wd_ws _) (show [(m : Int)].length ≤ 1000000 from Nat.le_of_ble_eq_true rfl) (by rw [hl]; exact Nat.le_of_ble_eq_true rfl) k (by rw [hl]; show 1 * (2 + 2) + 1 + 2 + 20 < k; omega), e1, nv_wd, ei, if_neg hne, lim_of (by decide) hlim]
theorem scaled_words {m V : Nat} (hm : m < 18446744073709551616) (V2 : V < 340282366920938463463374607431768211456) (x : Int) (h1 : -5000 ≤ x) (h2 : x ≤ 5000) (k : Nat) (hk : 100000000 < k) :
    near_Scaled.f k false (wd (m * V)) x false 0 = some (outP 0 false (rn (flo (V * m) x false).1 (flo (V * m) x false).2)) := by
  have hlen : (wd (m * V)).length ≤ 3 := by
    apply wd_len_lt
    have h1 : m * V < 2 ^ 64 * 2 ^ 128 := Nat.mul_lt_mul'' (by rw [show (2 : Nat) ^ 64 = 18446744073709551616 from by decide]; omega) (by rw [show (2 : Nat) ^ 128 = 340282366920938463463374607431768211456 from by decide]; omega)
    rw [← Nat.pow_add] at h1
    exact h1
  rw [near_Scaled.f_eq false _ (wd_ws _) (by omega) (m * V) (nv_wd _) x false 0 k (by omega), if_pos (by decide), clip_id (by omega) (by omega), RS_rn, Nat.mul_comm m V]
theorem LemireUnsure : plumblaw10_LemireUnsure.Pure := by
  intro a0 e h0 h1
  have b0 := bounds_u64 h0
  have b1 := bounds_i64 h1
  obtain ⟨m, rfl⟩ : ∃ a : Nat, a0 = (a : Int) := ⟨a0.toNat, by omega⟩
  have hm : m < 18446744073709551616 := by omega
  refine ⟨200000000 + 1, ?_⟩
  have ht : ∀ a b c d f g i j l n : Int, n ≠ 100 → plumblaw10_LemireUnsure.j0 (200000000 + 1) a b c d f g i j l n true = some true := by
    intro a b c d f g i j l n hn
    rw [plumblaw10_LemireUnsure.j0, if_pos rfl, unsure_alive_at _ (by decide), Option.bind_some, if_pos rfl, bne_iff_ne.2 hn]
  by_cases hin : e < -348 ∨ 347 < e
  · have hF : (fastA m e).2 ≠ 100 := by
      unfold fastA
      by_cases q : m = 0 ∨ e < -348
      · rw [if_pos q]; decide
      · have q2 : 347 < e := by omega
        rw [if_neg q, if_pos q2]; decide
    rw [plumblaw10_LemireUnsure.f, power_Five.f, at_out hin, Option.bind_some, if_neg (by decide), Option.bind_some, power_Above.f, at_out hin, Option.bind_some, if_neg (by decide), Option.bind_some, lemire_Fast.f_eq m hm e _ (by decide), Option.bind_some, unsure_alive_at _ (by decide), Option.bind_some, if_pos rfl, if_neg (by decide)]
    exact ht _ _ _ _ _ _ _ _ _ _ hF
  · have p1 : -348 ≤ e := by omega
    have p2 : e ≤ 347 := by omega
    have hV := pow5_row p1 p2
    have hU := pow5u_lo p1 p2
    rw [plumblaw10_LemireUnsure.f, power_Five.f_eq p1 p2 _ (by decide), Option.bind_some, power_Above.f_eq p1 p2 _ (by decide), Option.bind_some, lemire_Fast.f_eq m hm e _ (by decide), Option.bind_some, unsure_alive_at _ (by decide), Option.bind_some, if_pos rfl, if_pos rfl]
    by_cases m0 : m = 0
    · subst m0
      rw [show (((0 : Nat) : Int) == 0) = true from rfl]
      refine ht _ _ _ _ _ _ _ _ _ _ ?_
      unfold fastA
      rw [if_pos (.inl rfl)]
      decide
    · have hf : fastA m e = fastR m e := by
        have q1 : ¬ (m = 0 ∨ e < -348) := by omega
        have q2 : ¬ 347 < e := by omega
        unfold fastA
        rw [if_neg q1, if_neg q2]
      have hb : ((m : Int) == 0) = false := beq_eq_false_iff_ne.2 (by omega)
      have w1 : wrap64 ((pow5 e).2.1 + e) = (pow5 e).2.1 + e := w64_of (by have := hV.f1; omega) (by have := hV.f2; omega)
      have w2 : wrap64 ((pow5u e).2 + e) = (pow5u e).2 + e := w64_of (by have := hU.2.2; omega) (by have := hU.2.2; omega)
      have s1 := scaled_words (m := m) hm hV.hi ((pow5 e).2.1 + e) (by have := hV.f1; omega) (by have := hV.f2; omega) 200000000 (by decide)
      have s2 := scaled_words (m := m) hm hU.2.1 ((pow5u e).2 + e) (by have := hU.2.2; omega) (by have := hU.2.2; omega) 200000000 (by decide)
      rw [hb, hf, plumblaw10_LemireUnsure.j0, if_neg (by decide), mul_words (by omega) hm hV.lo hV.hi _ (by decide), Option.bind_some, mul_words (by omega) hm hU.1 hU.2.1 _ (by decide), Option.bind_some, w1, s1, Option.bind_some, w2, s2, Option.bind_some]
      unfold fastR lowR highR
      generalize outP 0 false (rn (flo ((pow5 e).1 * m) ((pow5 e).2.1 + e) false).1 (flo ((pow5 e).1 * m) ((pow5 e).2.1 + e) false).2) = x
      generalize outP 0 false (rn (flo ((pow5u e).1 * m) ((pow5u e).2 + e) false).1 (flo ((pow5u e).1 * m) ((pow5u e).2 + e) false).2) = y
      by_cases q : x = y
      · subst q
        rw [if_pos rfl, if_pos rfl, if_pos rfl, if_pos rfl, beq_self_eq_true]
      · rw [if_neg q]
        by_cases q2 : x.2 = y.2
        · have q1 : ¬ x.1 = y.1 := fun h => q (Prod.ext h q2)
          rw [if_pos q2, if_neg q1, if_pos rfl]
          rfl
        · rw [if_neg q2, if_pos rfl]
          rfl
end Go.Proofs.YtoannkopciehcaaDoor.Pure

namespace Go.Proofs.YtoannkopciehcaaDoor.lemireUnsure
open Go.ChangeShapes Go.WideShapes Go.ChangeAt Go.RowKit
open Go.ChangeMaps (open_string shut_string)
set_option linter.unusedVariables false
theorem own : ownKnob Tryd.prog.godebug = none := by kernel_rfl
/-- the door's own heap meets the condition -/
theorem door_met (os : Os) (args : Array Value) : laidMetH Tryd.prog Rows.lemireUnsureRow.laid ((World.doorLaid Tryd.prog 400 os).forCall (fun _ _ => 0) ⟨#[], args, []⟩).memory :=
  laidMetH_of_parts3 (fuel := 8) (laidMet_of_run' 8 (by kernel_rfl) (by kernel_rfl)) (by kernel_rfl) (by kernel_rfl)
/-- what the condition says of the variables' cells -/
theorem of_laid {W : World} (h : laidMetH Tryd.prog Rows.lemireUnsureRow.laid W) : PA.TensLaid W ∧ PA.StaysLaid W := by
  rw [MakeChecks.laidMetH_plain _ _ _ (by kernel_rfl)] at h
  obtain ⟨ps, ⟨g0, t0, cs0, f0, p0, q0, hg0, ht0, hv0, hd0, ⟨g1, t1, cs1, f1, p1, q1, hg1, ht1, hv1, hd1, _, _⟩, _⟩, _, _⟩ := h
  obtain rfl := Option.some.inj ((show Tryd.prog.globalNamed "plumb/lemire.tens" = some 0 by kernel_rfl).symm.trans hg0)
  obtain rfl := Option.some.inj ((show (Tryd.prog.globals[0]?).map (·.type) = some 54 by kernel_rfl).symm.trans ht0)
  obtain rfl := Option.some.inj ((show Tryd.prog.globalNamed "plumb/near.stays" = some 1 by kernel_rfl).symm.trans hg1)
  obtain rfl := Option.some.inj ((show (Tryd.prog.globals[1]?).map (·.type) = some 122 by kernel_rfl).symm.trans ht1)
  exact ⟨fun n hn => by
    rw [World.var?_cell hg0 hv0 n]
    have e := Go.Proofs.YtoannkopciehcaaDoorW.PrintWords.trod_words Tryd.underlying54 Tryd.underlying22 (by kernel_rfl) (L := PA.lemire_tensL) hd0 n hn
    rwa [Array.getElem?_toList] at e, fun i j hi hj => by
    rw [World.var?_cell hg1 hv1 (2 * i + j)]
    have e := Go.Proofs.YtoannkopciehcaaDoorW.PrintWords.trod_pairs Tryd.underlying122 Tryd.underlying121 Tryd.underlying4 (by kernel_rfl) (by kernel_rfl) (L := PA.near_staysL) hd1 i hi j hj
    rwa [Array.getElem?_toList] at e⟩
set_option maxRecDepth 100000 in
theorem lifted (os : Os) (started : os.Started) (H : Type) (enc : TypeId × Value → H) :
    ReturnsInHanded {} Tryd.checked os 7 .any (fun w args => (Rows.lemireUnsureSpec.pre enc Tryd.prog Tryd.f7 Rows.lemireUnsureRow.domain false w args ∧ laidMetH Tryd.prog Rows.lemireUnsureRow.laid w) ∧ sizedMet enc Tryd.prog Tryd.f7 (OpenSpec.ofChange Rows.lemireUnsureSpec) false w args) (Rows.lemireUnsureSpec.post enc Tryd.prog Tryd.f7 false true false false) := by
  refine returnsInHanded_of_change_and (C := Tryd.checked) (X := fun w _ => laidMetH Tryd.prog Rows.lemireUnsureRow.laid w) (fun _ _ _ hh h => h.of_heap hh) own started (by kernel_rfl) Tryd.func7
    (ChangeSpec.witness_shaped (enc := enc) (C := Tryd.checked) (os := os) (X := fun w _ => laidMetH Tryd.prog Rows.lemireUnsureRow.laid w) false (World.doorLaid Tryd.prog 400 os) #[.int .u64 0, .int .i64 0] 8 rfl (World.shaped_of_RefB (by kernel_rfl) (by kernel_rfl)) (by kernel_rfl) (by kernel_rfl) (by kernel_rfl) (door_met os _)) ?_
  intro W base args ds gs before hval0 hW hcnd hsz0 hL _
  have hsz : (DataW.weightsEach Tryd.prog (Tryd.f7.params.toList ++ Rows.lemireUnsureSpec.plain.varTypes Tryd.prog) (ds ++ gs)).all (· ≤ reachBytes) = true := hsz0
  have hval : ∀ (j : Nat) t v, Tryd.f7.params[j]? = some t → args[j]? = some v → Value.okWide Tryd.prog W .any base t v := hval0
  have hW' := hW
  obtain ⟨p, q, hA0, hV, rfl, hfz, hnd⟩ := hW
  have hA : DataW.TrodAll enc Tryd.prog W 0 (fun _ => true) true Tryd.f7.params.toList args.toList ds p := hA0
  rw [Tryd.params7] at hA hval hsz
  obtain ⟨v0, vs0, d0, ds0, p0, q0, hargs, rfl, rfl, h0, r0⟩ := trodAll_cons hA
  obtain ⟨v1, vs1, d1, ds1, p1, q1, rfl, rfl, rfl, h1, r1⟩ := trodAll_cons r0
  obtain ⟨rfl, rfl, rfl⟩ := trodAll_nil r1
  obtain rfl : args = #[v0, v1] := by cases args; simp_all
  obtain ⟨rfl, rfl⟩ := trodVars_none hV
  obtain ⟨a0, rfl, rfl, rfl, w0⟩ := open_int Tryd.underlying22 (hval 0 22 v0 rfl rfl) h0
  obtain ⟨a1, rfl, rfl, rfl, w1⟩ := open_int Tryd.underlying3 (hval 1 3 v1 rfl rfl) h1
  clear hA0 hval0 hsz0 hsz
  obtain ⟨hG, hS⟩ := of_laid hL
  refine (PA.plumblaw10_LemireUnsure.walk Pure.LemireUnsure a0 a1 W w0 w1 hG hS).mono fun e W' ⟨he, bel⟩ => ?_
  subst he
  exact ⟨_, rfl, _, _, _, [], _, [], hW', trodAll_mk1 (shut_bool Tryd.underlying4 _), (trodAll_cons_mk (shut_int Tryd.underlying22 w0) (trodAll_cons_mk (shut_int Tryd.underlying3 w1) trodAll_mk0)), rfl, bel.frame _, fun h => by cases h⟩
theorem over : Rows.lemireUnsureRow.holds Tryd.pinned (OpenSpec.ofChange Rows.lemireUnsureSpec) :=
  OpenClaim.holds_of_wide 7 Tryd.f7 rfl rfl rfl rfl rfl rfl rfl ⟨rfl, rfl, rfl, rfl, rfl⟩ rfl rfl rfl rfl rfl (by kernel_rfl) Tryd.func7 (by kernel_rfl)
    (of_decide_eq_true (by kernel_rfl)) (by unfold Func.isWrapper; first | (rw [if_pos (by decide +kernel)]; kernel_rfl) | (rw [if_neg (by decide +kernel)]; exact ⟨rfl, rfl⟩))
    (fun os started H enc _ => lifted os started H enc)
set_option maxRecDepth 100000 in
theorem proved : Rows.LemireUnsureCardSaid :=
  Claim7.holds_tied_plain_at .later [] [.data, .data] true (true, "edb50a61f7774a70730552cf16676197a30bb9f2c5a5699edca448e9415e3cb7") true
    over (fun _ h => by cases h) (by kernel_rfl) (fun _ h => by cases h) lemireUnsure_row_tie rfl ⟨rfl, rfl⟩ (by kernel_rfl) rfl
    (fun f fn hf hfn => by
      obtain rfl : f = 7 := (Option.some.inj ((show Tryd.prog.funcNamed "plumb/plumblaw10.LemireUnsure" = some 7 by kernel_rfl).symm.trans hf)).symm
      obtain rfl : fn = Tryd.f7 := (Option.some.inj (Tryd.func7.symm.trans hfn)).symm
      exact ⟨by kernel_rfl, fun j t ht => by
        have hall : (Tryd.f7.params.toList.all fun t => !Tryd.prog.wantsStandIn t) = true := by kernel_rfl
        have hm : t ∈ Tryd.f7.params.toList := by rw [← Array.getElem?_toList] at ht; exact List.mem_of_getElem? ht
        have hz : Tryd.prog.wantsStandIn t = false := by simpa using List.all_eq_true.1 hall t hm
        exact hz⟩)
    (by kernel_rfl)
#print axioms proved
end Go.Proofs.YtoannkopciehcaaDoor.lemireUnsure
namespace Go.Proofs.YtoannkopciehcaaDoor
end Go.Proofs.YtoannkopciehcaaDoor
