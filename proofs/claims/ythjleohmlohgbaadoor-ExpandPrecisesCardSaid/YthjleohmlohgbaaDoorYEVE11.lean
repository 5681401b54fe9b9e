/- A part of the proof (11). -/
import Derived.Test.YthjleohmlohgbaaDoorYEVE10
import Derived.KernelRfl
import Derived.Test.YthjleohmlohgbaaDoorYEVE9
import Derived.OpenShut
import Derived.LaidLaws
import Derived.LaidHandle
import Derived.MakeChecks
import Derived.WideShapes
import Derived.ChangeArms
import Derived.Test.YthjleohmlohgbaaDoorRows
import Derived.WalkKit
import Derived.ProofKit
import Derived.LaidMore
import Derived.Lay
import Derived.Stop.Joined
import Derived.SevenTiedAt
import Derived.Test.YthjleohmlohgbaaDoorCards
import Derived.Test.YthjleohmlohgbaaDoorTie
import Derived.ShutString
import Derived.ChangeOld
import Derived.Below
import Derived.SizedLaws
namespace Go.Proofs.YthjleohmlohgbaaDoor.PA
open Go Go.RowKit Go.Proofs.YthjleohmlohgbaaDoorW.PrintWords Go.Proofs.YthjleohmlohgbaaDoorW.PrintLast Go.Proofs.YthjleohmlohgbaaDoorW.PrintMore
set_option linter.unusedVariables false
set_option linter.unusedSimpArgs false
def tobD (n : Int) : UInt8 := UInt8.ofNat n.toNat
theorem strD (xs : List Int) : (strOfNums xs).data.toList = xs.map tobD := rfl
theorem tobD_toNat {n : Int} (h0 : 0 ≤ n) (h1 : n < 256) : ((tobD n).toNat : Int) = n := by
 unfold tobD
 have h : (UInt8.ofNat n.toNat).toNat = n.toNat := by
  rw [UInt8.toNat_ofNat']
  exact Nat.mod_eq_of_lt (by show n.toNat < 256; omega)
 rw [h]
 omega
theorem bytesD {xs : List Int} (h : ∀ c ∈ xs, 0 ≤ c ∧ c < 256) : bytesOfStr (strOfNums xs) = xs := by
 unfold bytesOfStr
 rw [strD, List.map_map]
 conv => rhs; rw [← List.map_id xs]
 apply List.map_congr_left
 intro c hc
 exact tobD_toNat (h c hc).1 (h c hc).2
def Dg (ds : List Int) : Prop := ds ≠ [] ∧ (∀ c ∈ ds, 48 ≤ c ∧ c ≤ 57) ∧ ds.getD 0 0 ≠ 48
theorem dgs10 : ∀ N : Nat, ∀ c ∈ dgs 10 N, 48 ≤ c ∧ c ≤ 57 := by
 intro N
 induction N using Nat.strongRecOn with
 | _ N ih =>
  intro c hc
  by_cases h0 : N = 0
  ·subst h0; simp [dgs_zero] at hc
  ·rw [dgs_pos (by decide) h0] at hc
   rcases List.mem_cons.1 hc with rfl | hc
   ·have hm : N % 10 < 10 := Nat.mod_lt _ (by decide)
    rw [dg_val _ (by omega), if_pos hm]; omega
   ·exact ih (N / 10) (Nat.div_lt_self (by omega) (by decide)) c hc
theorem dgs_last : ∀ N : Nat, N ≠ 0 → ∃ L v, dgs 10 N = L ++ [dg v] ∧ v ≠ 0 ∧ v < 36 := by
 intro N
 induction N using Nat.strongRecOn with
 | _ N ih =>
  intro h0
  rw [dgs_pos (by decide) h0]
  by_cases h1 : N / 10 = 0
  ·have h2 : N % 10 = N := Nat.mod_eq_of_lt ((Nat.div_eq_zero_iff_lt (by omega)).1 h1)
   refine ⟨[], N, ?_, h0, ?_⟩
   ·rw [h1, dgs_zero, h2]; rfl
   ·have := (Nat.div_eq_zero_iff_lt (by omega)).1 h1
    omega
  ·obtain ⟨L, v, e1, e2, e3⟩ := ih (N / 10) (Nat.div_lt_self (by omega) (by omega)) h1
   exact ⟨dg (N % 10) :: L, v, by rw [e1]; rfl, e2, e3⟩
theorem dgs_Dg {u : Nat} (h : u ≠ 0) : Dg (dgs 10 u).reverse := by
 obtain ⟨L, v, e1, e2, e3⟩ := dgs_last u h
 refine ⟨?_, fun c hc => dgs10 u c (List.mem_reverse.1 hc), ?_⟩
 ·rw [e1]; simp
 ·rw [e1, List.reverse_append]
  intro h2
  exact e2 ((dg_eq_zero e3).1 h2)
theorem lt_top (N t T : Nat) (h : N < 2 ^ t) (ht : t ≤ T) (hT : T = 262144) : (N : Int) < (2 : Int) ^ 262144 := by
 rw [← hT, p2cast]
 exact Int.ofNat_lt.2 (Nat.lt_of_lt_of_le h (Nat.pow_le_pow_right (by decide) ht))
theorem text_both (N t T : Nat) (hN : N ≠ 0) (h : N < 2 ^ t) (ht : t ≤ T) (hT : T = 262144) (k : Nat) (hk : 90000000000 < k) :
  ∃ (u v : Nat) (ds : List Int), Dg ds ∧ ds.length ≤ 262144 ∧ v ≤ 262144 ∧ radix_Trim.f k (wd N) = some (wd u, (v : Int)) ∧ plumbref04_Trim.f k (wd N) = some (wd u, (v : Int)) ∧
   radix_Text.f k (wd u) 10 = some (strOfNums ds, 0) ∧ plumbref04_Text.f k (wd u) 10 = some (strOfNums ds, 0) := by
 obtain ⟨u, v, e, hu⟩ := tens_split N hN
 have hu0 : u ≠ 0 := fun h => hu (by rw [h])
 have hb := lt_top N t T h ht hT
 have hle : u ≤ N := by rw [e]; exact Nat.le_mul_of_pos_right u (Nat.pow_pos (by decide))
 have hub := lt_top u t T (Nat.lt_of_le_of_lt hle h) ht hT
 have hv : v < T := tens_few (Nat.lt_of_lt_of_le h (Nat.pow_le_pow_right (by decide) ht)) e hu0
 have hl : (wd N).length ≤ 4096 := by have := bnd_fst_len (N : Int); rw [bnd_small hb] at this; exact this
 have hlu : (wd u).length ≤ 4096 := by have := bnd_fst_len (u : Int); rw [bnd_small hub] at this; exact this
 have en : (nv (wd N)).toNat = u * 10 ^ v := by rw [nv_wd, Int.toNat_natCast]; exact e
 have enu : (nv (wd u)).toNat = u := by rw [nv_wd, Int.toNat_natCast]
 have hd : (dgs 10 u).length ≤ T := dgs_length_bits (by decide) (Nat.lt_of_le_of_lt hle (Nat.lt_of_lt_of_le h (Nat.pow_le_pow_right (by decide) ht)))
 refine ⟨u, v, (dgs 10 u).reverse, dgs_Dg hu0, ?_, ?_, ?_, ?_, ?_, ?_⟩
 ·rw [List.length_reverse, ← hT]; exact hd
 ·rw [← hT]; exact Nat.le_of_lt hv
 ·exact radix_Trim.f_eq (wd N) (wd_ws N) (Nat.le_trans hl (by decide)) (by rw [nv_wd]; exact hb) u v hu en k (by omega)
 ·exact plumbref04_Trim.f_eq (wd N) (wd_ws N) (Nat.le_trans hl (by decide)) u v hu en (by omega) k (by omega)
 ·have := radix_Text.f_eq 10 (by decide) (by decide) (wd u) (wd_ws u) (Nat.le_trans hlu (by decide)) (by rw [nv_wd]; exact hub) k (by omega)
  rw [enu] at this
  unfold txt at this
  rw [if_neg hu0] at this
  exact this
 ·have := plumbref04_Text.f_eq 10 (by decide) (by decide) (wd u) (wd_ws u) (Nat.le_trans hlu (by decide)) (by rw [nv_wd]; exact hub) k (by omega)
  rw [enu] at this
  unfold txt at this
  rw [if_neg hu0] at this
  exact this
theorem wd_word {m : Nat} (h0 : m ≠ 0) (h : m < 18446744073709551616) : wd m = [(m : Int)] := by
 rw [wd_pos h0, Nat.mod_eq_of_lt h, Nat.div_eq_of_lt h, wd_zero]
theorem five_pow (n : Nat) : 5 ^ n ≤ 2 ^ (3 * n) := by
 rw [Nat.pow_mul]; exact Nat.pow_le_pow_left (by decide) n
theorem digits_both {a : Int} (h0 : 0 ≤ a) (h1 : a < 18446744073709551616) (k : Nat) (hk : 90000000000 < k) :
  (expand_all.f k a = some ([], 0, 60) ∧ plumbref13_Digits.f k a = some (⟨#[]⟩, 0, 60)) ∨
  ((∃ m e : Int, plumbref06_Split.f a = some (decide (9223372036854775808 ≤ a), m, e, 0)) ∧ expand_all.f k a = some ([], 0, 0) ∧ plumbref13_Digits.f k a = some (⟨#[48]⟩, 0, 0)) ∨
  ∃ (ds : List Int) (E : Int), (∃ m e : Int, plumbref06_Split.f a = some (decide (9223372036854775808 ≤ a), m, e, 0)) ∧ Dg ds ∧ ds.length ≤ 262144 ∧ -1074 ≤ E ∧ E ≤ 262144 ∧ expand_all.f k a = some (ds, E, 0) ∧ plumbref13_Digits.f k a = some (strOfNums ds, E, 0) := by
 obtain ⟨T, hT⟩ : ∃ T : Nat, T = 262144 := ⟨_, rfl⟩
 rw [expand_all.f, plumbref13_Digits.f]
 rcases split_both h0 h1 k (by omega) with ⟨e1, e2⟩ | ⟨m, e, hm, he1, he2, e1, e2⟩
 ·rw [e1, e2, Option.bind_some, Option.bind_some]
  exact .inl ⟨rfl, rfl⟩
 ·rw [e1, e2, Option.bind_some, Option.bind_some, if_pos rfl, if_pos rfl]
  clear e1 e2
  by_cases hm0 : m = 0
  ·subst hm0
   exact .inr (.inl ⟨⟨_, _, rfl⟩, rfl, rfl⟩)
  ·refine .inr (.inr ?_)
   have g0 : ¬ ((m : Nat) : Int) = 0 := by omega
   have ew := wd_word hm0 (by omega)
   have wsm : Ws [(m : Int)] := by rw [← ew]; exact wd_ws m
   have nvm : nv [(m : Int)] = (m : Int) := by rw [← ew, nv_wd]
   simp only [Option.bind_some]
   rw [if_neg g0, if_neg g0, nat_From.f_eq m (by omega), Option.bind_some, ew]
   by_cases he : e ≥ 0
   ·obtain ⟨n, rfl⟩ : ∃ n : Nat, e = (n : Int) := ⟨e.toNat, by omega⟩
    have hN : m * 2 ^ n ≠ 0 := Nat.mul_ne_zero hm0 (Nat.ne_of_gt (Nat.pow_pos (by decide)))
    have hb : m * 2 ^ n < 2 ^ (53 + n) := by
     rw [Nat.pow_add]; exact Nat.mul_lt_mul_of_pos_right (Nat.lt_of_lt_of_le hm (by decide)) (Nat.pow_pos (by decide))
    obtain ⟨u, v, ds, hD, hl, hv, t1, t2, t3, t4⟩ := text_both (m * 2 ^ n) (53 + n) T hN hb (by omega) hT k hk
    have ec : (m : Int) * 2 ^ n = ((m * 2 ^ n : Nat) : Int) := by rw [Int.natCast_mul, p2cast]
    have s1 := nat_Shl.f_eq [(m : Int)] wsm (by rw [List.length_singleton]; omega) (n : Int) (by omega) k (by omega)
    rw [if_neg (by omega), nvm, if_neg g0, Int.toNat_natCast, ec, bnd_small (lt_top _ _ T hb (by omega) hT), Int.toNat_natCast] at s1
    have s2 := plumbref03_Shl.f_eq [(m : Int)] wsm n (by omega) (by rw [List.length_singleton]; omega) k (by rw [List.length_singleton]; omega)
    rw [nvm, ec, Int.toNat_natCast] at s2
    refine ⟨ds, (v : Int), ⟨_, _, rfl⟩, hD, hl, by omega, by omega, ?_, ?_⟩
    ·rw [if_pos he, s1, Option.bind_some]
     simp only []
     rw [t1, Option.bind_some]
     simp only []
     rw [t3, Option.bind_some]
     simp only []
     rw [if_pos (by rw [strOfNums_size]; omega), bytesD (fun c hc => by have := hD.2.1 c hc; omega), Int.zero_add, w64_of (by omega) (by omega)]
    ·rw [if_pos he, s2, Option.bind_some, t2, Option.bind_some]
     simp only []
     rw [t4, Option.bind_some, Int.zero_add, w64_of (by omega) (by omega)]
   ·obtain ⟨n, hn⟩ : ∃ n : Nat, -e = (n : Int) := ⟨(-e).toNat, by omega⟩
    have hN : m * 5 ^ n ≠ 0 := Nat.mul_ne_zero hm0 (Nat.ne_of_gt (Nat.pow_pos (by decide)))
    have hb : m * 5 ^ n < 2 ^ (53 + 3 * n) := by
     rw [Nat.pow_add]; exact Nat.lt_of_lt_of_le (Nat.mul_lt_mul_of_pos_right (Nat.lt_of_lt_of_le hm (by decide)) (Nat.pow_pos (by decide))) (Nat.mul_le_mul_left _ (five_pow n))
    obtain ⟨u, v, ds, hD, hl, hv, t1, t2, t3, t4⟩ := text_both (m * 5 ^ n) (53 + 3 * n) T hN hb (by omega) hT k hk
    have e5 : (5 : Int) ^ n = ((5 ^ n : Nat) : Int) := by rw [Int.natCast_pow]; rfl
    have h5 : (5 ^ n : Nat) < 2 ^ (3 * n + 1) := Nat.lt_of_le_of_lt (five_pow n) (Nat.pow_lt_pow_right (by decide) (by omega))
    have l5 : (wd (5 ^ n)).length ≤ 4096 := by have := bnd_fst_len ((5 ^ n : Nat) : Int); rw [bnd_small (lt_top _ _ T h5 (by omega) hT)] at this; exact this
    have n5 : nv (wd (5 ^ n)) = ((5 ^ n : Nat) : Int) := nv_wd _
    have ec : (m : Int) * ((5 ^ n : Nat) : Int) = ((m * 5 ^ n : Nat) : Int) := (Int.natCast_mul _ _).symm
    have s1 := radix_Five.f_eq (n : Int) (by omega) k (by omega)
    rw [if_neg (by omega), if_neg (by omega), Int.toNat_natCast, e5, Int.toNat_natCast] at s1
    have s2 := nat_Mul.f_eq [(m : Int)] (wd (5 ^ n)) wsm (wd_ws _) (by rw [List.length_singleton]; omega) (Nat.le_trans l5 (by decide)) k (by rw [List.length_singleton]; omega)
    rw [nvm, n5, ec, if_neg (by omega), bnd_small (lt_top _ _ T hb (by omega) hT), Int.toNat_natCast] at s2
    have s3 := plumbref04_Power.f_eq 5 (by decide) (by decide) n (by omega) k (by omega)
    rw [e5, Int.toNat_natCast] at s3
    have s4 := plumbref03_Mul.f_eq [(m : Int)] (wd (5 ^ n)) wsm (wd_ws _) (by rw [List.length_singleton]; omega) k (by rw [List.length_singleton]; omega)
    rw [nvm, n5, ec, Int.toNat_natCast] at s4
    have w1 : wrap64 (-e) = (n : Int) := by rw [hn, w64_of (by omega) (by omega)]
    refine ⟨ds, e + (v : Int), ⟨_, _, rfl⟩, hD, hl, by omega, by omega, ?_, ?_⟩
    ·rw [if_neg he, w1, s1, Option.bind_some]
     simp only []
     rw [s2, Option.bind_some]
     simp only []
     rw [t1, Option.bind_some]
     simp only []
     rw [t3, Option.bind_some]
     simp only []
     rw [if_pos (by rw [strOfNums_size]; omega), bytesD (fun c hc => by have := hD.2.1 c hc; omega), w64_of (by omega) (by omega)]
    ·rw [if_neg he, w1, s3, Option.bind_some, s4, Option.bind_some, t2, Option.bind_some]
     simp only []
     rw [t4, Option.bind_some, w64_of (by omega) (by omega)]
theorem rdN (xs : List Int) (n : Nat) : rd xs (n : Int) = xs.getD n 0 := rfl
theorem getD_mem {xs : List Int} {n : Nat} (h : n < xs.length) : xs.getD n 0 ∈ xs := by
 rw [List.getD_eq_getElem?_getD, List.getElem?_eq_getElem h]; exact List.getElem_mem h
def nz (l : List Int) : Bool := l.any (fun c => c != 48)
theorem nz_snoc (l : List Int) (c : Int) : nz (l ++ [c]) = (nz l || c != 48) := by simp [nz]
theorem nz_cons (l : List Int) (c : Int) : nz (c :: l) = ((c != 48) || nz l) := by simp [nz]
theorem trimR_eq : ∀ (d k : Nat) (l : List Int), l.length = d → d < k → d ≤ 4611686018427387904 → ∃ t, bytes_trimRightByte.l0 k l 48 = some t ∧ t.length ≤ l.length ∧ nz t = nz l := by
 intro d
 induction d with
 | zero =>
  intro k l hl hk hd
  obtain ⟨k, rfl⟩ : ∃ j, k = j + 1 := ⟨k - 1, by omega⟩
  rw [bytes_trimRightByte.l0, if_neg (by omega)]
  exact ⟨l, rfl, Nat.le_refl _, rfl⟩
 | succ d ih =>
  intro k l hl hk hd
  obtain ⟨k, rfl⟩ : ∃ j, k = j + 1 := ⟨k - 1, by omega⟩
  have ew : wrap64 ((l.length : Int) - 1) = (d : Int) := by rw [hl, w64_of (by omega) (by omega)]; omega
  rw [bytes_trimRightByte.l0, if_pos (by omega), ew, if_pos (by omega), if_pos (by omega), rdN]
  by_cases hc : l.getD d 0 = 48
  ·rw [if_pos hc, if_pos (by omega), Int.toNat_natCast]
   obtain ⟨t, e1, e2, e3⟩ := ih k (l.take d) (by rw [List.length_take]; omega) (by omega) (by omega)
   refine ⟨t, e1, by rw [List.length_take] at e2; omega, ?_⟩
   have es : l = l.take d ++ [l.getD d 0] := by
    have h1 : l.drop d = [l.getD d 0] := by
     rw [List.drop_eq_getElem_cons (by omega), List.drop_eq_nil_of_le (by omega), List.getD_eq_getElem?_getD, List.getElem?_eq_getElem (by omega)]; rfl
    rw [← h1, List.take_append_drop]
   rw [e3]
   conv => rhs; rw [es, nz_snoc, hc]
   rw [show ((48 : Int) != 48) = false from rfl, Bool.or_false]
  ·rw [if_neg hc]
   exact ⟨l, rfl, Nat.le_refl _, rfl⟩
theorem trimL_eq : ∀ (d k : Nat) (l : List Int), l.length = d → d < k → ∃ t, bytes_trimLeftByte.l0 k l 48 = some t ∧ decide (0 < t.length) = nz l := by
 intro d
 induction d with
 | zero =>
  intro k l hl hk
  obtain ⟨k, rfl⟩ : ∃ j, k = j + 1 := ⟨k - 1, by omega⟩
  rw [bytes_trimLeftByte.l0, if_neg (by omega), if_pos (by omega)]
  obtain rfl := List.length_eq_zero_iff.mp hl
  exact ⟨[], rfl, rfl⟩
 | succ d ih =>
  intro k l hl hk
  obtain ⟨k, rfl⟩ : ∃ j, k = j + 1 := ⟨k - 1, by omega⟩
  rw [bytes_trimLeftByte.l0, if_pos (by omega), if_pos (by omega)]
  cases l with
  | nil => cases hl
  | cons c l =>
   have e0 : rd (c :: l) 0 = c := rfl
   rw [e0]
   by_cases hc : c = 48
   ·rw [if_pos hc, if_pos (by omega)]
    obtain ⟨t, e1, e2⟩ := ih k l (by simpa using hl) (by omega)
    exact ⟨t, e1, by rw [e2, nz_cons, hc]; rfl⟩
   ·rw [if_neg hc, if_neg (by omega)]
    refine ⟨c :: l, rfl, ?_⟩
    rw [nz_cons, show (c != 48) = true from bne_iff_ne.mpr hc, Bool.true_or]
    exact decide_eq_true (by omega)
theorem trim_eq (l : List Int) (hm : l.length ≤ 4611686018427387000) (k : Nat) (hk : l.length + 1 < k) : ∃ t, bytes_Trim.f k l ⟨#[48]⟩ = some t ∧ decide (0 < t.length) = nz l := by
 rw [bytes_Trim.f]
 by_cases h0 : (l.length : Int) = 0
 ·rw [if_pos h0]
  obtain rfl := List.length_eq_zero_iff.mp (by omega : l.length = 0)
  exact ⟨[], rfl, rfl⟩
 ·obtain ⟨k, rfl⟩ : ∃ j, k = j + 1 := ⟨k - 1, by omega⟩
  rw [if_neg h0, if_neg (by rw [ByteArray.toList_eq]; decide), if_pos (by rfl), if_pos (by decide), bytes_Trim.j0, show (bt (⟨#[48]⟩ : ByteArray) 0) = 48 from rfl, decide_eq_true (by decide), if_pos rfl, if_pos (by decide), bytes_trimRightByte.f]
  obtain ⟨t, e1, e2, e3⟩ := trimR_eq l.length k l rfl (by omega) (by omega)
  rw [e1, Option.bind_some, bytes_trimLeftByte.f]
  obtain ⟨u, e4, e5⟩ := trimL_eq t.length k t rfl (by omega)
  rw [e4, Option.bind_some]
  exact ⟨u, rfl, by rw [e5, e3]⟩
def upD (last : Int) (rest : List Int) : Bool := if rest.length = 0 then false else if rd rest 0 < 53 then false else if rd rest 0 > 53 then true else (nz (rest.drop 1) || (last % 2 == 1))
theorem and_one8 {a : Int} (h0 : 48 ≤ a) (h1 : a ≤ 57) : (Go.bits .and .u8 a 1 == 1) = (a % 2 == 1) := by
 have h : a = 48 ∨ a = 49 ∨ a = 50 ∨ a = 51 ∨ a = 52 ∨ a = 53 ∨ a = 54 ∨ a = 55 ∨ a = 56 ∨ a = 57 := by omega
 rcases h with rfl | rfl | rfl | rfl | rfl | rfl | rfl | rfl | rfl | rfl <;> decide
theorem up_eq {last : Int} (h0 : 48 ≤ last) (h1 : last ≤ 57) (rest : List Int) (hm : rest.length ≤ 4611686018427387000) : expand_up.f last rest = some (upD last rest) := by
 rw [expand_up.f, upD]
 by_cases g0 : rest.length = 0
 ·rw [if_pos g0, if_pos g0]
 ·rw [if_neg g0, if_neg g0]
  by_cases g1 : rd rest 0 < 53
  ·rw [if_pos g1, if_pos g1]
  ·rw [if_neg g1, if_neg g1]
   by_cases g2 : rd rest 0 > 53
   ·rw [if_pos g2, if_pos g2]
   ·obtain ⟨t, e1, e2⟩ := trim_eq (rest.drop 1) (by rw [List.length_drop]; omega) (rest.length + 3) (by rw [List.length_drop]; omega)
    rw [if_neg g2, if_neg g2, e1, Option.bind_some, ← e2, and_one8 h0 h1]
    by_cases g3 : 0 < t.length
    ·rw [if_pos g3, decide_eq_true g3, Bool.true_or]
    ·rw [if_neg g3, decide_eq_false g3, Bool.false_or]
def plusD (h : List Int) : Nat → List Int
 | 0 => 49 :: h
 | i + 1 => if h.getD i 0 = 57 then plusD (h.set i 48) i else h.set i (h.getD i 0 + 1)
def digs (l : List Int) : Prop := ∀ c ∈ l, 48 ≤ c ∧ c ≤ 57
theorem digs_set {l : List Int} (h : digs l) {i : Nat} {c : Int} (hc : 48 ≤ c ∧ c ≤ 57) : digs (l.set i c) := by
 intro x hx
 rcases List.mem_or_eq_of_mem_set hx with h1 | rfl
 ·exact h x h1
 ·exact hc
theorem digs_at {l : List Int} (h : digs l) {i : Nat} (hi : i < l.length) : 48 ≤ l.getD i 0 ∧ l.getD i 0 ≤ 57 := h _ (getD_mem hi)
theorem carry_prog : ∀ (i k : Nat) (h : List Int), digs h → i ≤ h.length → h.length ≤ 4611686018427387000 → i < k → expand_cut.l1 k (48 :: h) (i : Int) = some (plusD h i) := by
 intro i
 induction i with
 | zero =>
  intro k h hd hi hm hk
  obtain ⟨k, rfl⟩ : ∃ j, k = j + 1 := ⟨k - 1, by omega⟩
  rw [expand_cut.l1, if_pos (by omega), if_pos (by rw [List.length_cons]; omega), rdN]
  rw [if_pos (show (48 :: h).getD 0 0 < 57 from (by decide : (48 : Int) < 57)), Option.bind_some, if_pos (by rw [List.length_cons]; omega)]
  rw [if_neg (show ¬ rd ((48 :: h).set ((0 : Nat) : Int).toNat (((48 :: h).getD 0 0 + 1) % 256)) 0 = 48 from (by decide : ¬ (49 : Int) = 48))]
  rfl
 | succ i ih =>
  intro k h hd hi hm hk
  obtain ⟨k, rfl⟩ : ∃ j, k = j + 1 := ⟨k - 1, by omega⟩
  have hx := digs_at hd (show i < h.length by omega)
  rw [expand_cut.l1, if_pos (by omega), if_pos (by rw [List.length_cons]; omega), rdN, show (48 :: h).getD (i + 1) 0 = h.getD i 0 from by simp, plusD, Int.toNat_natCast]
  by_cases hc : h.getD i 0 = 57
  ·rw [if_neg (by omega), if_pos hc, List.set_cons_succ, show wrap64 (((i + 1 : Nat) : Int) - 1) = (i : Int) from by rw [w64_of (by omega) (by omega)]; omega]
   exact ih k (h.set i 48) (digs_set hd ⟨by omega, by omega⟩) (by rw [List.length_set]; omega) (by rw [List.length_set]; omega) (by omega)
  ·rw [if_pos (by omega), if_neg hc, Option.bind_some, if_pos (by rw [List.length_cons]; omega), List.set_cons_succ]
   rw [if_pos (show rd (48 :: h.set i ((h.getD i 0 + 1) % 256)) 0 = 48 from rfl), if_pos (by rw [List.length_cons]; omega)]
   rw [show (h.getD i 0 + 1) % 256 = h.getD i 0 + 1 from by omega]
   rfl
theorem carry_doc : ∀ (i k : Nat) (h : List Int), digs h → i ≤ h.length → h.length ≤ 4611686018427387000 → i < k → plumbref13_plus.l0 k h ((i : Int) - 1) = some (strOfNums (plusD h i)) := by
 intro i
 induction i with
 | zero =>
  intro k h hd hi hm hk
  obtain ⟨k, rfl⟩ : ∃ j, k = j + 1 := ⟨k - 1, by omega⟩
  rw [plumbref13_plus.l0, if_neg (by omega), if_pos (by omega), if_pos (by rw [strOfNums_size]; omega)]
  rfl
 | succ i ih =>
  intro k h hd hi hm hk
  obtain ⟨k, rfl⟩ : ∃ j, k = j + 1 := ⟨k - 1, by omega⟩
  have hx := digs_at hd (show i < h.length by omega)
  have e : ((i + 1 : Nat) : Int) - 1 = (i : Int) := by omega
  rw [plumbref13_plus.l0, e, if_pos (by omega), if_pos (by omega), if_pos (by omega), rdN, plusD, Int.toNat_natCast]
  by_cases hc : h.getD i 0 = 57
  ·rw [if_pos hc, if_pos hc, show wrap64 ((i : Int) - 1) = (i : Int) - 1 from by rw [w64_of (by omega) (by omega)]]
   exact ih k (h.set i 48) (digs_set hd ⟨by omega, by omega⟩) (by rw [List.length_set]; omega) (by rw [List.length_set]; omega) (by omega)
  ·rw [if_neg hc, if_neg hc, if_neg (by omega), show (h.getD i 0 + 1) % 256 = h.getD i 0 + 1 from by omega]
def keptD (n : Nat) (ds : List Int) : List Int := ds.take n ++ List.replicate (n - ds.length) 48
theorem keptD_length (n : Nat) (ds : List Int) : (keptD n ds).length = n := by
 rw [keptD, List.length_append, List.length_take, List.length_replicate]; omega
theorem digs_take {ds : List Int} (h : digs ds) (n : Nat) : digs (ds.take n) := fun c hc => h c (List.mem_of_mem_take hc)
theorem digs_rep (n : Nat) : digs (List.replicate n 48) := fun c hc => by obtain ⟨_, rfl⟩ := List.mem_replicate.1 hc; omega
theorem digs_app {a b : List Int} (ha : digs a) (hb : digs b) : digs (a ++ b) := fun c hc => (List.mem_append.1 hc).elim (ha c) (hb c)
theorem digs_kept {ds : List Int} (h : digs ds) (n : Nat) : digs (keptD n ds) := digs_app (digs_take h n) (digs_rep _)
def Rnd (n : Nat) (ds : List Int) : List Int := if upD ((48 :: keptD n ds).getD n 0) (ds.drop n) = true then plusD (keptD n ds) n else keptD n ds
theorem last_digit {ds : List Int} (h : digs ds) (n : Nat) : 48 ≤ (48 :: keptD n ds).getD n 0 ∧ (48 :: keptD n ds).getD n 0 ≤ 57 := by
 cases n with
 | zero => exact ⟨(by decide : (48 : Int) ≤ 48), (by decide : (48 : Int) ≤ 57)⟩
 | succ n => exact digs_at (digs_kept h (n + 1)) (by rw [keptD_length]; omega)
theorem kept_zero {ds : List Int} {n i : Nat} (h1 : min ds.length n ≤ i) (h2 : i < n) : (keptD n ds).getD i 0 = 48 := by
 rw [keptD, List.getD_eq_getElem?_getD, List.getElem?_append_right (by rw [List.length_take]; omega), List.getElem?_replicate, if_pos (by rw [List.length_take]; omega)]; rfl
theorem fill_eq (ds : List Int) (hd : digs ds) (n : Nat) (hn : n ≤ 4000000) (hl : ds.length ≤ 4000000) : ∀ (d k i : Nat), n + 1 - i = d → d + n + 10 < k → min ds.length n + 1 ≤ i → i ≤ n + 1 →
  expand_cut.l0 k (n : Int) ((48 :: keptD n ds).take i ++ List.replicate (n + 1 - i) 0) (ds.drop n) (i : Int) = some (Rnd n ds) := by
 have hL : (48 :: keptD n ds).length = n + 1 := by rw [List.length_cons, keptD_length]
 intro d
 induction d with
 | zero =>
  intro k i hi hk h1 h2
  obtain ⟨k, rfl⟩ : ∃ j, k = j + 1 := ⟨k - 1, by omega⟩
  obtain rfl : i = n + 1 := by omega
  rw [Nat.sub_self, List.replicate_zero, List.append_nil, List.take_of_length_le (by omega), expand_cut.l0, if_neg (by omega), if_pos (by omega), if_pos (by omega), rdN]
  obtain ⟨g1, g2⟩ := last_digit hd n
  rw [up_eq g1 g2 (ds.drop n) (by rw [List.length_drop]; omega), Option.bind_some, Rnd]
  by_cases hu : upD ((48 :: keptD n ds).getD n 0) (ds.drop n) = true
  ·rw [if_pos hu, if_pos hu]
   exact carry_prog n k (keptD n ds) (digs_kept hd n) (by rw [keptD_length]; omega) (by rw [keptD_length]; omega) (by omega)
  ·rw [if_neg hu, if_neg hu, if_pos (by omega), if_pos (show rd (48 :: keptD n ds) 0 = 48 from rfl), if_pos (by omega)]
   rfl
 | succ d ih =>
  intro k i hi hk h1 h2
  obtain ⟨k, rfl⟩ : ∃ j, k = j + 1 := ⟨k - 1, by omega⟩
  have hlen : ((48 :: keptD n ds).take i ++ List.replicate (n + 1 - i) 0).length = n + 1 := by rw [List.length_append, List.length_take, hL, List.length_replicate]; omega
  rw [expand_cut.l0, if_pos (by rw [hlen]; omega), if_pos (by omega), Int.toNat_natCast, show wrap64 ((i : Int) + 1) = ((i + 1 : Nat) : Int) from by rw [w64_of (by omega) (by omega)]; omega]
  have e : ((48 :: keptD n ds).take i ++ List.replicate (n + 1 - i) (0 : Int)).set i 48 = (48 :: keptD n ds).take (i + 1) ++ List.replicate (n + 1 - (i + 1)) 0 := by
   have ht : ((48 :: keptD n ds).take i).length = i := by rw [List.length_take, hL]; omega
   obtain ⟨j, rfl⟩ : ∃ j, i = j + 1 := ⟨i - 1, by omega⟩
   have hz : (48 :: keptD n ds)[j + 1]? = some 48 := by
    have := kept_zero (ds := ds) (n := n) (i := j) (by omega) (by omega)
    rw [List.getElem?_cons_succ, List.getElem?_eq_getElem (by rw [keptD_length]; omega)]
    rw [List.getD_eq_getElem?_getD, List.getElem?_eq_getElem (by rw [keptD_length]; omega)] at this
    exact congrArg some this
   have ht2 : (48 :: keptD n ds).take (j + 1 + 1) = (48 :: keptD n ds).take (j + 1) ++ [48] := by rw [List.take_add_one, hz]; rfl
   rw [List.set_append_right _ _ (by omega), ht, Nat.sub_self, show n + 1 - (j + 1) = (n + 1 - (j + 1 + 1)) + 1 from by omega, List.replicate_succ, List.set_cons_zero, ht2, List.append_assoc]
   rfl
  rw [e]
  exact ih k (i + 1) (by omega) (by omega) (by omega) (by omega)
theorem cut_eq (ds : List Int) (hd : digs ds) (n : Nat) (hn : n ≤ 4000000) (hl : ds.length ≤ 4000000) (k : Nat) (hk : 10000000 < k) : expand_cut.f k ds (n : Int) = some (Rnd n ds) := by
 have ew : wrap64 ((n : Int) + 1) = ((n + 1 : Nat) : Int) := by rw [w64_of (by omega) (by omega)]; omega
 have er : ((List.replicate (n + 1) (0 : Int)).set (0 : Int).toNat 48) = 48 :: List.replicate n 0 := rfl
 have em : mn ((List.replicate n (0 : Int)).length : Int) (ds.length : Int) = ((min ds.length n : Nat) : Int) := by
  rw [List.length_replicate]; unfold mn; split <;> omega
 rw [expand_cut.f, if_neg (by omega), ew, if_pos (by omega), Int.toNat_natCast, if_pos (by omega), Option.bind_some, if_pos (by rw [List.length_replicate]; omega), er, Option.bind_some, if_pos (by rw [List.length_replicate]; omega)]
 rw [show (48 :: List.replicate n (0 : Int)).drop 1 = List.replicate n 0 from rfl, Option.bind_some, em, if_pos (by omega), if_pos (by omega), if_pos (by omega), Int.toNat_natCast, Int.toNat_natCast, List.take_length]
 rw [show wrap64 (((min ds.length n : Nat) : Int) + 1) = ((min ds.length n + 1 : Nat) : Int) from by rw [w64_of (by omega) (by omega)]; omega]
 have e1 : ds.drop (min ds.length n) = ds.drop n := by
  by_cases h : n ≤ ds.length
  ·rw [Nat.min_eq_right h]
  ·rw [Nat.min_eq_left (by omega), List.drop_length, List.drop_of_length_le (by omega)]
 have e2 : cutIn (48 :: List.replicate n (0 : Int)) ds = (48 :: keptD n ds).take (min ds.length n + 1) ++ List.replicate (n + 1 - (min ds.length n + 1)) 0 := by
  have hm : (48 :: List.replicate n (0 : Int)).length - 1 = n := by rw [List.length_cons, List.length_replicate]; omega
  rw [cutIn, hm, List.take_succ_cons, List.take_succ_cons, List.take_zero, Nat.add_comm 1, List.drop_succ_cons, List.drop_replicate, keptD, List.take_append_of_le_length (by rw [List.length_take]; omega), List.take_take, Nat.min_eq_left (Nat.min_le_right ds.length n), show n + 1 - (min ds.length n + 1) = n - min ds.length n from by omega]
  rfl
 rw [e1, e2]
 exact fill_eq ds hd n hn hl (n + 1 - (min ds.length n + 1)) k (min ds.length n + 1) rfl (by omega) (Nat.le_refl _) (by omega)
theorem cut_neg (ds : List Int) (n : Int) (hn : n < 0) (k : Nat) : expand_cut.f k ds n = some [] := by rw [expand_cut.f, if_pos hn]
theorem zeros_l : ∀ (d k i z : Nat), z - i = d → i ≤ z → d < k → z ≤ 140737488355327 → plumbref13_zeros.l0 k (z : Int) (List.replicate i 48) (i : Int) = some (strOfNums (List.replicate z 48)) := by
 intro d
 induction d with
 | zero =>
  intro k i z h1 h2 hk hz
  obtain ⟨k, rfl⟩ : ∃ j, k = j + 1 := ⟨k - 1, by omega⟩
  obtain rfl : i = z := by omega
  rw [plumbref13_zeros.l0, if_neg (by omega)]
 | succ d ih =>
  intro k i z h1 h2 hk hz
  obtain ⟨k, rfl⟩ : ∃ j, k = j + 1 := ⟨k - 1, by omega⟩
  rw [plumbref13_zeros.l0, if_pos (by omega), if_pos (by rw [List.length_replicate]; omega), show wrap64 ((i : Int) + 1) = ((i + 1 : Nat) : Int) from by rw [w64_of (by omega) (by omega)]; omega, show List.replicate i (48 : Int) ++ [48] = List.replicate (i + 1) 48 from List.replicate_succ'.symm]
  exact ih k (i + 1) z (by omega) (by omega) (by omega) hz
theorem zeros_eq (z k : Nat) (hk : z < k) (hz : z ≤ 140737488355327) : plumbref13_zeros.f k (z : Int) = some (strOfNums (List.replicate z 48)) := zeros_l z k 0 z (by omega) (by omega) hk hz
theorem ba_ext {s t : ByteArray} (h : s.data.toList = t.data.toList) : s = t := by
 cases s with | mk a => cases t with | mk b => exact congrArg ByteArray.mk (Array.toList_inj.1 h)
theorem exD (xs : List Int) (p : Nat) : (strOfNums xs).extract 0 p = strOfNums (xs.take p) := ba_ext (by rw [strD, List.map_take, ← strD]; simp)
theorem exD2 (xs : List Int) (p : Nat) : (strOfNums xs).extract p (strOfNums xs).size = strOfNums (xs.drop p) := ba_ext (by rw [strD, List.map_drop, ← strD]; simp; rw [List.take_of_length_le]; simp)
theorem appD (xs ys : List Int) : strOfNums xs ++ strOfNums ys = strOfNums (xs ++ ys) := ba_ext (by rw [strD, List.map_append, ← strD, ← strD]; simp)
theorem bt_strD {xs : List Int} (h : digs xs) {i : Nat} (hi : i < xs.length) : bt (strOfNums xs) (i : Int) = xs.getD i 0 := by
 have hs : i < (strOfNums xs).size := by rw [strOfNums_size]; exact hi
 unfold bt
 rw [dif_pos (by rw [Int.toNat_natCast]; exact hs)]
 have e : (strOfNums xs)[((i : Nat) : Int).toNat]'(by rw [Int.toNat_natCast]; exact hs) = tobD (xs.getD i 0) := by
  show (strOfNums xs).data[((i : Nat) : Int).toNat]'_ = _
  rw [← Array.getElem_toList]
  have := List.getElem_of_eq (strD xs) (i := ((i : Nat) : Int).toNat) (by rw [strD, List.length_map, Int.toNat_natCast]; exact hi)
  rw [this, List.getElem_map]
  congr 1
  rw [List.getD_eq_getElem?_getD, List.getElem?_eq_getElem hi]
  rfl
 rw [e]
 have := digs_at h hi
 exact tobD_toNat (by omega) (by omega)
theorem bytes_digs {xs : List Int} (h : digs xs) : bytesOfStr (strOfNums xs) = xs := bytesD (fun c hc => by have := h c hc; omega)
theorem plus_eq {h : List Int} (hd : digs h) (hl : h.length ≤ 4000000) (k : Nat) (hk : 5000000 < k) : plumbref13_plus.f k (strOfNums h) = some (strOfNums (plusD h h.length)) := by
 rw [plumbref13_plus.f, if_pos (by rw [strOfNums_size]; omega), bytes_digs hd, Option.bind_some, w64_of (by omega) (by omega)]
 exact carry_doc h.length k h hd (Nat.le_refl _) (by omega) (by omega)
theorem round_l (ds : List Int) (hd : digs ds) (hl : ds.length ≤ 4000000) (h : List Int) (hh : digs h) (hhl : h.length ≤ 4000000) : ∀ (d k i : Nat) (up : Bool), ds.length - i = d → d + 5000002 < k → i ≤ ds.length →
  plumbref13_rounded.l0 k (strOfNums ds) (strOfNums h) up (i : Int) = some (if (up || nz (ds.drop i)) = true then strOfNums (plusD h h.length) else strOfNums h) := by
 intro d
 induction d with
 | zero =>
  intro k i up h1 hk h2
  obtain ⟨k, rfl⟩ : ∃ j, k = j + 1 := ⟨k - 1, by omega⟩
  rw [plumbref13_rounded.l0, if_neg (by rw [strOfNums_size]; omega), List.drop_of_length_le (by omega), show nz [] = false from rfl, Bool.or_false]
  cases up
  ·rw [if_neg (by decide), if_neg (by decide)]
  ·rw [if_pos rfl, if_pos rfl, plus_eq hh hhl k (by omega), Option.bind_some]
 | succ d ih =>
  intro k i up h1 hk h2
  obtain ⟨k, rfl⟩ : ∃ j, k = j + 1 := ⟨k - 1, by omega⟩
  have ed : ds.drop i = ds.getD i 0 :: ds.drop (i + 1) := by
   rw [List.drop_eq_getElem_cons (by omega), List.getD_eq_getElem?_getD, List.getElem?_eq_getElem (by omega)]; rfl
  rw [plumbref13_rounded.l0, if_pos (by rw [strOfNums_size]; omega), show wrap64 ((i : Int) + 1) = ((i + 1 : Nat) : Int) from by rw [w64_of (by omega) (by omega)]; omega, ed, nz_cons]
  cases up
  ·rw [if_neg (by decide), if_pos (by omega), bt_strD hd (by omega), ih k (i + 1) _ (by omega) (by omega) (by omega), Bool.false_or]
  ·rw [if_pos rfl, ih k (i + 1) true (by omega) (by omega) (by omega), Bool.true_or, Bool.true_or]
theorem odd_eq {c : Int} (h0 : 48 ≤ c) (h1 : c ≤ 57) : (!((((c - 48) % 256) % 2) == 0)) = (c % 2 == 1) := by
 have h : c = 48 ∨ c = 49 ∨ c = 50 ∨ c = 51 ∨ c = 52 ∨ c = 53 ∨ c = 54 ∨ c = 55 ∨ c = 56 ∨ c = 57 := by omega
 rcases h with rfl | rfl | rfl | rfl | rfl | rfl | rfl | rfl | rfl | rfl <;> decide
theorem rounded_eq (ds : List Int) (hd : digs ds) (n : Nat) (hn : n ≤ 4000000) (hl : ds.length ≤ 4000000) (k : Nat) (hk : 10000000 < k) : plumbref13_rounded.f k (strOfNums ds) (n : Int) = some (strOfNums (Rnd n ds)) := by
 rw [plumbref13_rounded.f, strOfNums_size]
 by_cases h : ds.length ≤ n
 ·rw [if_pos (by omega), show wrap64 ((n : Int) - (ds.length : Int)) = ((n - ds.length : Nat) : Int) from by rw [w64_of (by omega) (by omega)]; omega, zeros_eq _ k (by omega) (by omega), Option.bind_some, strOfNums_size, List.length_replicate, if_pos (by omega), appD, Rnd, List.drop_of_length_le h, show upD ((48 :: keptD n ds).getD n 0) [] = false from rfl, if_neg (by decide), keptD, List.take_of_length_le h]
 ·have hlt : n < ds.length := by omega
  have ek : keptD n ds = ds.take n := by rw [keptD, show n - ds.length = 0 from by omega, List.replicate_zero, List.append_nil]
  have el : (ds.take n).length = n := by rw [List.length_take]; omega
  have ed : ds.drop n = ds.getD n 0 :: ds.drop (n + 1) := by
   rw [List.drop_eq_getElem_cons hlt, List.getD_eq_getElem?_getD, List.getElem?_eq_getElem hlt]; rfl
  have hp := plus_eq (digs_take hd n) (by rw [el]; omega) k (by omega)
  rw [el] at hp
  obtain ⟨k, rfl⟩ : ∃ j, k = j + 1 := ⟨k - 1, by omega⟩
  rw [if_neg (by omega), if_pos (by omega), if_pos (by omega), if_pos (by omega), bt_strD hd hlt, Int.toNat_natCast, exD, Rnd, ek, ed]
  have eu : upD ((48 :: ds.take n).getD n 0) (ds.getD n 0 :: ds.drop (n + 1)) = if ds.getD n 0 < 53 then false else if ds.getD n 0 > 53 then true else (nz (ds.drop (n + 1)) || ((48 :: ds.take n).getD n 0 % 2 == 1)) := by
   rw [upD, if_neg (by rw [List.length_cons]; omega)]; rfl
  rw [eu]
  have hr := fun (up : Bool) => round_l ds hd hl (ds.take n) (digs_take hd n) (by rw [el]; omega) (ds.length - (n + 1)) k (n + 1) up rfl (by omega) (by omega)
  have ew : wrap64 ((n : Int) + 1) = ((n + 1 : Nat) : Int) := by rw [w64_of (by omega) (by omega)]; omega
  by_cases h53 : ds.getD n 0 = 53
  ·rw [if_pos h53, if_neg (show ¬ ds.getD n 0 < 53 by omega), if_neg (show ¬ ds.getD n 0 > 53 by omega)]
   by_cases h0 : (n : Int) = 0
   ·obtain rfl : n = 0 := by omega
    rw [if_pos h0, plumbref13_rounded.j0, ew, hr]
    rw [show ((48 :: ds.take 0).getD 0 0 % 2 == 1) = false from rfl, Bool.or_false, show (!true) = false from rfl, Bool.false_or, List.take_zero]
    by_cases hz : nz (ds.drop (0 + 1)) = true
    ·rw [if_pos hz, if_pos hz]; rfl
    ·rw [if_neg hz, if_neg hz]
   ·have e1 : wrap64 ((n : Int) - 1) = ((n - 1 : Nat) : Int) := by rw [w64_of (by omega) (by omega)]; omega
    have hc := digs_at hd (show n - 1 < ds.length by omega)
    have e2 : (48 :: ds.take n).getD n 0 = ds.getD (n - 1) 0 := by
     obtain ⟨j, rfl⟩ : ∃ j, n = j + 1 := ⟨n - 1, by omega⟩
     rw [List.getD_cons_succ, List.getD_eq_getElem?_getD, List.getD_eq_getElem?_getD, List.getElem?_take_of_lt (by omega)]; rfl
    rw [if_neg h0, e1, if_pos (by omega), if_pos (by omega), bt_strD hd (by omega), plumbref13_rounded.j0, ew, hr, odd_eq hc.1 hc.2, e2, el, Bool.or_comm]
    by_cases hz : (nz (ds.drop (n + 1)) || ds.getD (n - 1) 0 % 2 == 1) = true
    ·rw [if_pos hz, if_pos hz]
    ·rw [if_neg hz, if_neg hz]
  ·rw [if_neg h53]
   by_cases h5 : ds.getD n 0 > 53
   ·rw [if_pos h5, if_neg (show ¬ ds.getD n 0 < 53 by omega), if_pos h5, if_pos rfl, hp, Option.bind_some]
   ·rw [if_neg h5, if_pos (show ds.getD n 0 < 53 by omega), if_neg (by decide)]
theorem plusD_length : ∀ (i : Nat) (h : List Int), h.length ≤ (plusD h i).length ∧ (plusD h i).length ≤ h.length + 1
 | 0, h => by rw [plusD, List.length_cons]; omega
 | i + 1, h => by
  rw [plusD]
  split
  ·have := plusD_length i (h.set i 48)
   rw [List.length_set] at this
   exact this
  ·rw [List.length_set]; omega
theorem plusD_head : ∀ (i : Nat) (h : List Int), digs h → i ≤ h.length → (0 < i → h.getD 0 0 ≠ 48) → (plusD h i).getD 0 0 ≠ 48
 | 0, h, _, _, _ => by rw [plusD]; exact (by decide : ¬ (49 : Int) = 48)
 | i + 1, h, hd, hi, hh => by
  have h0 := hh (by omega)
  have d0 := digs_at hd (show 0 < h.length by omega)
  rw [plusD]
  split
  ·refine plusD_head i (h.set i 48) (digs_set hd ⟨by omega, by omega⟩) (by rw [List.length_set]; omega) (fun hp => ?_)
   rw [List.getD_eq_getElem?_getD, List.getElem?_set_ne (by omega), ← List.getD_eq_getElem?_getD]; exact h0
  ·cases i with
   | zero =>
    rw [List.getD_eq_getElem?_getD, List.getElem?_set_self (by omega)]
    show ¬ h.getD 0 0 + 1 = 48
    omega
   | succ i => rw [List.getD_eq_getElem?_getD, List.getElem?_set_ne (by omega), ← List.getD_eq_getElem?_getD]; exact h0
theorem kept_head {ds : List Int} (h : Dg ds) (n : Nat) (hn : 0 < n) : (keptD n ds).getD 0 0 ≠ 48 := by
 obtain ⟨h1, h2, h3⟩ := h
 obtain ⟨n, rfl⟩ : ∃ j, n = j + 1 := ⟨n - 1, by omega⟩
 cases ds with
 | nil => exact absurd rfl h1
 | cons c t => exact h3
theorem Rnd_length (n : Nat) (ds : List Int) : n ≤ (Rnd n ds).length ∧ (Rnd n ds).length ≤ n + 1 := by
 rw [Rnd]
 split
 ·have := plusD_length n (keptD n ds); rw [keptD_length] at this; exact this
 ·rw [keptD_length]; omega
theorem Rnd_head {ds : List Int} (h : Dg ds) (n : Nat) (hne : Rnd n ds ≠ []) : (Rnd n ds).getD 0 0 ≠ 48 := by
 rw [Rnd] at hne ⊢
 split
 ·exact plusD_head n (keptD n ds) (digs_kept h.2.1 n) (by rw [keptD_length]; omega) (kept_head h n)
 ·rename_i hu
  rw [if_neg hu] at hne
  refine kept_head h n ?_
  cases n with
  | zero => exact absurd (by rw [keptD]; simp) hne
  | succ n => omega
theorem Rnd_digs {ds : List Int} (h : digs ds) (n : Nat) : digs (Rnd n ds) := by
  have hp : ∀ (i : Nat) (l : List Int), digs l → i ≤ l.length → digs (plusD l i) := by
    intro i
    induction i with
    | zero => intro l hl _ c hc; rw [plusD] at hc; rcases List.mem_cons.1 hc with rfl | hc; · omega
              · exact hl c hc
    | succ i ih =>
      intro l hl hi
      have := digs_at hl (show i < l.length by omega)
      rw [plusD]
      split
      · exact ih _ (digs_set hl ⟨by omega, by omega⟩) (by rw [List.length_set]; omega)
      · exact digs_set hl ⟨by omega, by omega⟩
  rw [Rnd]
  split
  · exact hp n _ (digs_kept h n) (by rw [keptD_length]; omega)
  · exact digs_kept h n
theorem dot_size : (⟨#[46]⟩ : ByteArray).size = 1 := rfl
theorem final_eq {a : Int} (h0 : 0 ≤ a) (h1 : a < 18446744073709551616) {m e : Int} (hs : plumbref06_Split.f a = some (decide (9223372036854775808 ≤ a), m, e, 0)) (n : Nat) (hn : n ≤ 4000000) (P : List Int) (hP : n + 1 ≤ P.length) (hl : P.length ≤ 4000000) (k : Nat) (hk : 2 < k) :
  ∃ S, expand_Fixed.j1 k a (n : Int) P = some (S, 0) ∧ plumbref13_Fixed.j4 k a (n : Int) (strOfNums P) = some (S, 0) := by
 obtain ⟨k, rfl⟩ : ∃ j, k = j + 1 := ⟨k - 1, by omega⟩
 have hsp := (split_eq h0 h1 k (by omega)).trans hs
 have e1 : wrap64 ((P.length : Int) - (n : Int)) = ((P.length - n : Nat) : Int) := by rw [w64_of (by omega) (by omega)]; omega
 have l1 : (P.take (P.length - n)).length = P.length - n := by rw [List.length_take]; omega
 have l2 : (P.drop (P.length - n)).length = n := by rw [List.length_drop]; omega
 have c1 : 0 ≤ ((P.length - n : Nat) : Int) := by omega
 have c2 : ((P.length - n : Nat) : Int) ≤ (P.length : Int) := by omega
 have sA : (strOfNums (P.take (P.length - n))).size = P.length - n := by rw [strOfNums_size, l1]
 have sB : (strOfNums (P.drop (P.length - n))).size = n := by rw [strOfNums_size, l2]
 have ex2 := exD2 P (P.length - n)
 rw [strOfNums_size] at ex2
 generalize hA : strOfNums (P.take (P.length - n)) = A at *
 generalize hB : strOfNums (P.drop (P.length - n)) = B at *
 have hprog : expand_Fixed.j1 (k + 1) a (n : Int) P = if (n : Int) > 0 then some (if 9223372036854775808 ≤ a then (⟨#[45]⟩ : ByteArray) ++ (A ++ ((⟨#[46]⟩ : ByteArray) ++ B)) else A ++ ((⟨#[46]⟩ : ByteArray) ++ B), 0) else some (if 9223372036854775808 ≤ a then (⟨#[45]⟩ : ByteArray) ++ A else A, 0) := by
  rw [expand_Fixed.j1, e1, if_pos c1, if_pos c2, Option.bind_some, Int.toNat_natCast, hsp, hA]
  by_cases hn0 : (n : Int) > 0
  ·rw [if_pos hn0, if_pos hn0, Option.bind_some, hB, if_pos (by omega), if_pos (by rw [ByteArray.size_append, dot_size]; omega), Option.bind_some]
   by_cases hg : 9223372036854775808 ≤ a
   ·rw [decide_eq_true hg, if_pos rfl, if_pos hg, if_pos (by rw [ByteArray.size_append, ByteArray.size_append, dot_size]; omega)]
   ·rw [decide_eq_false hg, if_neg Bool.false_ne_true, if_neg hg]
  ·rw [if_neg hn0, if_neg hn0, Option.bind_some]
   by_cases hg : 9223372036854775808 ≤ a
   ·rw [decide_eq_true hg, if_pos rfl, if_pos hg, if_pos (by omega)]
   ·rw [decide_eq_false hg, if_neg Bool.false_ne_true, if_neg hg]
 have hdoc : plumbref13_Fixed.j4 (k + 1) a (n : Int) (strOfNums P) = if (n : Int) > 0 then some (if 9223372036854775808 ≤ a then (⟨#[45]⟩ : ByteArray) ++ (A ++ ((⟨#[46]⟩ : ByteArray) ++ B)) else A ++ ((⟨#[46]⟩ : ByteArray) ++ B), 0) else some (if 9223372036854775808 ≤ a then (⟨#[45]⟩ : ByteArray) ++ A else A, 0) := by
  rw [plumbref13_Fixed.j4, strOfNums_size, e1, Int.toNat_natCast]
  by_cases hn0 : (n : Int) > 0
  ·rw [if_pos hn0, if_pos hn0, exD, ex2, hA, if_pos c1, if_pos c2, if_pos (by omega), if_pos (by rw [ByteArray.size_append, dot_size]; omega)]
   by_cases hg : 9223372036854775808 ≤ a
   ·rw [if_pos (show a ≥ 9223372036854775808 from hg), if_pos hg, if_pos (by rw [ByteArray.size_append, ByteArray.size_append, dot_size]; omega), ByteArray.append_assoc (a := A)]
   ·rw [if_neg (show ¬ a ≥ 9223372036854775808 from hg), if_neg hg, ByteArray.append_assoc]
  ·have hn1 : n = 0 := by omega
   have hAP : strOfNums P = A := by rw [← hA, hn1, Nat.sub_zero, List.take_length]
   rw [if_neg hn0, if_neg hn0, hAP]
   by_cases hg : 9223372036854775808 ≤ a
   ·rw [if_pos (show a ≥ 9223372036854775808 from hg), if_pos hg, if_pos (by omega)]
   ·rw [if_neg (show ¬ a ≥ 9223372036854775808 from hg), if_neg hg]
 rw [hprog, hdoc]
 by_cases hn0 : (n : Int) > 0
 ·rw [if_pos hn0]; exact ⟨_, rfl, rfl⟩
 ·rw [if_neg hn0]; exact ⟨_, rfl, rfl⟩
theorem strip_doc (a : Int) (n : Nat) (hn : n ≤ 4000000) (P : List Int) (hd : digs P) (hP : n + 1 ≤ P.length) (hl : P.length ≤ 4000000) (hh : P.length = n + 1 ∨ P.getD 0 0 ≠ 48) (k : Nat) (hk : 5 < k) : plumbref13_Fixed.j2 k a (n : Int) (strOfNums P) = plumbref13_Fixed.j4 (k - 2) a (n : Int) (strOfNums P) := by
 obtain ⟨k, rfl⟩ : ∃ j, k = j + 1 + 1 := ⟨k - 2, by omega⟩
 have ew : wrap64 ((n : Int) + 1) = ((n + 1 : Nat) : Int) := by rw [w64_of (by omega) (by omega)]; omega
 rw [plumbref13_Fixed.j2, plumbref13_Fixed.l0, strOfNums_size, ew]
 by_cases h : P.length = n + 1
 ·rw [if_neg (by omega)]; rfl
 ·rw [if_pos (by omega), if_pos (by omega), show bt (strOfNums P) 0 = P.getD 0 0 from bt_strD (i := 0) hd (by omega), if_neg (hh.resolve_left h)]; rfl
theorem repeat_eq (z : Nat) (h0 : 0 < z) (h1 : z ≤ 4096) : bytes_Repeat.f [48] (z : Int) = some (List.replicate z 48) := by
 rw [bytes_Repeat.f, if_pos (show [(48 : Int)].length = 1 from rfl), if_pos (by omega), if_pos (by omega), Int.toNat_natCast]; rfl
theorem tail_eq {a : Int} (h0 : 0 ≤ a) (h1 : a < 18446744073709551616) {m e : Int} (hs : plumbref06_Split.f a = some (decide (9223372036854775808 ≤ a), m, e, 0)) (n : Nat) (hn : n ≤ 1100) (W : List Int) (hd : digs W) (hh : W ≠ [] → n + 1 < W.length → W.getD 0 0 ≠ 48) (hl : W.length ≤ 3000000) (k : Nat) (hk : 3000000 < k) :
  ∃ S, (if (W.length : Int) < wrap64 ((n : Int) + 1) then ((bytes_Repeat.f [48] (wrap64 ((wrap64 ((n : Int) + 1)) - (W.length : Int)))).bind fun t => (if t.length + W.length < 140737488355328 then expand_Fixed.j1 k a (n : Int) (t ++ W) else none)) else expand_Fixed.j1 k a (n : Int) W) = some (S, 0) ∧
   plumbref13_Fixed.j1 k a (n : Int) (strOfNums W) = some (S, 0) := by
 obtain ⟨k, rfl⟩ : ∃ j, k = j + 1 := ⟨k - 1, by omega⟩
 have ew : wrap64 ((n : Int) + 1) = ((n + 1 : Nat) : Int) := by rw [w64_of (by omega) (by omega)]; omega
 rw [plumbref13_Fixed.j1, strOfNums_size, ew]
 have hmono : ∀ (S : ByteArray) (P : List Int), expand_Fixed.j1 (k - 2) a (n : Int) P = some (S, 0) → expand_Fixed.j1 (k + 1) a (n : Int) P = some (S, 0) := by
  intro S P h
  have m1 := (expand_Fixed.mono_l (k - 2)).2 a (n : Int) P _ h
  have m2 := (expand_Fixed.mono_l (k - 2 + 1)).2 a (n : Int) P _ m1
  have m3 := (expand_Fixed.mono_l (k - 2 + 1 + 1)).2 a (n : Int) P _ m2
  rw [show k - 2 + 1 + 1 + 1 = k + 1 from by omega] at m3
  exact m3
 by_cases h : W.length < n + 1
 ·have ez : wrap64 (((n + 1 : Nat) : Int) - (W.length : Int)) = ((n + 1 - W.length : Nat) : Int) := by rw [w64_of (by omega) (by omega)]; omega
  have hlen : (List.replicate (n + 1 - W.length) (48 : Int) ++ W).length = n + 1 := by rw [List.length_append, List.length_replicate]; omega
  rw [if_pos (by omega), if_pos (by omega), ez, repeat_eq _ (by omega) (by omega), Option.bind_some, if_pos (by rw [List.length_replicate]; omega), zeros_eq _ k (by omega) (by omega), Option.bind_some, strOfNums_size, List.length_replicate, if_pos (by omega), appD]
  rw [strip_doc a n (by omega) (List.replicate (n + 1 - W.length) (48 : Int) ++ W) (digs_app (digs_rep _) hd) (by omega) (by omega) (.inl hlen) k (by omega)]
  obtain ⟨S, s1, s2⟩ := final_eq h0 h1 hs n (by omega) (List.replicate (n + 1 - W.length) (48 : Int) ++ W) (by omega) (by omega) (k - 2) (by omega)
  exact ⟨S, hmono S _ s1, s2⟩
 ·rw [if_neg (by omega), if_neg (by omega)]
  have hne : W ≠ [] := fun h2 => by rw [h2] at h; exact h (by show 0 < n + 1; omega)
  have h3 : W.length = n + 1 ∨ W.getD 0 0 ≠ 48 := by
   rcases Nat.lt_or_ge (n + 1) W.length with h4 | h4
   ·exact .inr (hh hne h4)
   ·exact .inl (by omega)
  rw [strip_doc a n (by omega) W hd (by omega) (by omega) h3 k (by omega)]
  obtain ⟨S, s1, s2⟩ := final_eq h0 h1 hs n (by omega) W (by omega) (by omega) (k - 2) (by omega)
  exact ⟨S, hmono S _ s1, s2⟩
theorem alive13_at : plumblaw13_alive.f 400 = some true := by kernel_rfl
theorem alive13 (k : Nat) (hk : 400 ≤ k) : plumblaw13_alive.f k = some true := by
 obtain ⟨d, rfl⟩ : ∃ d, k = 400 + d := ⟨k - 400, by omega⟩
 clear hk
 induction d with
 | zero => exact alive13_at
 | succ d ih => exact plumblaw13_alive.mono _ _ ih
theorem fixed_same {a : Int} (h0 : 0 ≤ a) (h1 : a < 18446744073709551616) (n : Int) (k : Nat) (hk : 90000000010 < k) : ∃ S x, expand_Fixed.f k a n = some (S, x) ∧ plumbref13_Fixed.f k a n = some (S, x) := by
 obtain ⟨k, rfl⟩ : ∃ j, k = j + 1 := ⟨k - 1, by omega⟩
 rw [expand_Fixed.f, plumbref13_Fixed.f]
 by_cases hn : n < 0
 ·rw [if_pos hn, if_pos hn, expand_Fixed.j0, plumbref13_Fixed.j0, if_pos rfl, if_pos rfl]
  exact ⟨_, _, rfl, rfl⟩
 ·rw [if_neg hn, if_neg hn]
  by_cases hn2 : n > 1100
  ·rw [decide_eq_true hn2, expand_Fixed.j0, plumbref13_Fixed.j0, if_pos rfl, if_pos rfl]
   exact ⟨_, _, rfl, rfl⟩
  ·obtain ⟨n, rfl⟩ : ∃ m : Nat, n = (m : Int) := ⟨n.toNat, by omega⟩
   have hn3 : n ≤ 1100 := by omega
   rw [decide_eq_false hn2, expand_Fixed.j0, plumbref13_Fixed.j0, if_neg Bool.false_ne_true, if_neg Bool.false_ne_true]
   rcases digits_both h0 h1 k (by omega) with ⟨e1, e2⟩ | ⟨⟨m, e, hs⟩, e1, e2⟩ | ⟨ds, E, ⟨m, e, hs⟩, hD, hl, hE1, hE2, e1, e2⟩
   ·rw [e1, e2, Option.bind_some, Option.bind_some, if_neg (by decide), if_neg (by decide)]
    exact ⟨_, _, rfl, rfl⟩
   ·rw [e1, e2, Option.bind_some, Option.bind_some, if_pos rfl, if_pos rfl]
    have w1 : wrap64 (wrap64 ((([] : List Int).length : Int) + 0) + (n : Int)) = (n : Int) := by
     rw [show wrap64 ((([] : List Int).length : Int) + 0) = 0 from by rw [List.length_nil, w64_of (by omega) (by omega)]; rfl, Int.zero_add, w64_of (by omega) (by omega)]
    have w2 : wrap64 (wrap64 (((⟨#[48]⟩ : ByteArray).size : Int) + 0) + (n : Int)) = ((n + 1 : Nat) : Int) := by
     rw [show wrap64 (((⟨#[48]⟩ : ByteArray).size : Int) + 0) = 1 from by rw [show (⟨#[48]⟩ : ByteArray).size = 1 from rfl, w64_of (by omega) (by omega)]; rfl, w64_of (by omega) (by omega)]; omega
    have hc := cut_eq [] (fun c hc => by cases hc) n (by omega) (by decide) k (by omega)
    have hr := rounded_eq [48] (fun c hc => by rcases List.mem_singleton.1 hc with rfl; omega) (n + 1) (by omega) (by decide) k (by omega)
    have r1 : Rnd n [] = List.replicate n 48 := by
     rw [Rnd, List.drop_nil, show upD ((48 :: keptD n []).getD n 0) [] = false from rfl, if_neg Bool.false_ne_true, keptD, List.take_nil, List.nil_append]; rfl
    have r2 : Rnd (n + 1) [48] = 48 :: List.replicate n 48 := by
     rw [Rnd, show [(48 : Int)].drop (n + 1) = [] from by simp, show ∀ x, upD x [] = false from fun _ => rfl, if_neg Bool.false_ne_true, keptD, List.take_of_length_le (by rw [List.length_singleton]; omega), List.length_singleton, Nat.add_sub_cancel]
     rfl
    rw [r1] at hc
    rw [r2] at hr
    rw [w1, w2, if_pos (by omega), hc, Option.bind_some]
    rw [show plumbref13_rounded.f k (⟨#[48]⟩ : ByteArray) ((n + 1 : Nat) : Int) = some (strOfNums (48 :: List.replicate n 48)) from hr, Option.bind_some]
    have hlen : (List.replicate n (48 : Int)).length = n := List.length_replicate
    have ew : wrap64 ((n : Int) + 1) = ((n + 1 : Nat) : Int) := by rw [w64_of (by omega) (by omega)]; omega
    have t1 := tail_eq h0 h1 hs n hn3 (48 :: List.replicate n 48) (digs_rep (n + 1)) (fun _ h => by rw [List.length_cons, hlen] at h; omega) (by rw [List.length_cons, hlen]; omega) k (by omega)
    obtain ⟨S, s1, s2⟩ := t1
    rw [if_neg (by rw [List.length_cons, hlen, ew]; omega)] at s1
    rw [if_pos (by rw [hlen, ew]; omega), hlen, ew, show wrap64 (((n + 1 : Nat) : Int) - (n : Int)) = ((1 : Nat) : Int) from by rw [w64_of (by omega) (by omega)]; omega, repeat_eq 1 (by decide) (by decide), Option.bind_some, if_pos (by rw [List.length_replicate]; omega)]
    exact ⟨S, 0, s1, s2⟩
   ·rw [e1, e2, Option.bind_some, Option.bind_some, if_pos rfl, if_pos rfl]
    simp only []
    rw [strOfNums_size]
    have ew : wrap64 (wrap64 ((ds.length : Int) + E) + (n : Int)) = (ds.length : Int) + E + n := by
     rw [w64_of (x := (ds.length : Int) + E) (by omega) (by omega), w64_of (by omega) (by omega)]
    rw [ew]
    by_cases hA : (ds.length : Int) + E + n ≥ 0
    ·obtain ⟨A, hA2⟩ : ∃ A : Nat, (ds.length : Int) + E + n = (A : Int) := ⟨((ds.length : Int) + E + n).toNat, by omega⟩
     rw [if_pos hA, hA2, cut_eq ds hD.2.1 A (by omega) (by omega) k (by omega), rounded_eq ds hD.2.1 A (by omega) (by omega) k (by omega), Option.bind_some, Option.bind_some]
     obtain ⟨S, s1, s2⟩ := tail_eq h0 h1 hs n hn3 (Rnd A ds) (Rnd_digs hD.2.1 A) (fun h _ => Rnd_head hD A h) (by have := (Rnd_length A ds).2; omega) k (by omega)
     exact ⟨S, 0, s1, s2⟩
    ·rw [if_neg hA, cut_neg ds _ (by omega) k, Option.bind_some]
     obtain ⟨S, s1, s2⟩ := tail_eq h0 h1 hs n hn3 [] (fun c hc => by cases hc) (fun h _ => absurd rfl h) (by decide) k (by omega)
     exact ⟨S, 0, s1, s2⟩
theorem precise_same {a : Int} (h0 : 0 ≤ a) (h1 : a < 18446744073709551616) (n : Int) (k : Nat) (hk : 90000000010 < k) : ∃ S x y, expand_Precise.f k a n = some (S, x, y) ∧ plumbref13_Precise.f k a n = some (S, x, y) := by
 obtain ⟨k, rfl⟩ : ∃ j, k = j + 1 := ⟨k - 1, by omega⟩
 rw [expand_Precise.f, plumbref13_Precise.f]
 by_cases hn : n < 1
 ·rw [if_pos hn, if_pos hn, expand_Precise.j0, plumbref13_Precise.j0, if_pos rfl, if_pos rfl]
  exact ⟨_, _, _, rfl, rfl⟩
 ·rw [if_neg hn, if_neg hn]
  by_cases hn2 : n > 1100
  ·rw [decide_eq_true hn2, expand_Precise.j0, plumbref13_Precise.j0, if_pos rfl, if_pos rfl]
   exact ⟨_, _, _, rfl, rfl⟩
  ·obtain ⟨n, rfl⟩ : ∃ m : Nat, n = (m : Int) := ⟨n.toNat, by omega⟩
   rw [decide_eq_false hn2, expand_Precise.j0, plumbref13_Precise.j0, if_neg Bool.false_ne_true, if_neg Bool.false_ne_true]
   rcases digits_both h0 h1 k (by omega) with ⟨e1, e2⟩ | ⟨⟨m, e, hs⟩, e1, e2⟩ | ⟨ds, E, ⟨m, e, hs⟩, hD, hl, hE1, hE2, e1, e2⟩
   ·rw [e1, e2, Option.bind_some, Option.bind_some, if_neg (by decide), if_neg (by decide)]
    exact ⟨_, _, _, rfl, rfl⟩
   ·rw [e1, e2, Option.bind_some, Option.bind_some, if_pos rfl, if_pos rfl, if_pos (show ((([] : List Int).length : Nat) : Int) = 0 from rfl), if_pos (show (⟨#[48]⟩ : ByteArray).toList = [48] from by rw [ByteArray.toList_eq]), repeat_eq n (by omega) (by omega), zeros_eq n k (by omega) (by omega), Option.bind_some, Option.bind_some]
    exact ⟨_, _, _, rfl, rfl⟩
   ·have hne : ¬ (ds.length : Int) = 0 := fun h => hD.1 (List.length_eq_zero_iff.mp (by omega))
    have hns : ¬ (strOfNums ds).toList = ([48] : List UInt8) := by
     intro h
     rw [ByteArray.toList_eq, strD] at h
     obtain ⟨c, t, rfl⟩ : ∃ c t, ds = c :: t := List.exists_cons_of_ne_nil hD.1
     have hc := hD.2.1 c (List.mem_cons_self ..)
     rw [List.map_cons] at h
     injection h with h2 _
     have h3 := tobD_toNat (n := c) (by omega) (by omega)
     rw [h2] at h3
     exact hD.2.2 h3.symm
    rw [e1, e2, Option.bind_some, Option.bind_some, if_pos rfl, if_pos rfl]
    simp only []
    rw [if_neg hne, if_neg hns, cut_eq ds hD.2.1 n (by omega) (by omega) k (by omega), rounded_eq ds hD.2.1 n (by omega) (by omega) k (by omega), Option.bind_some, Option.bind_some, strOfNums_size, strOfNums_size]
    by_cases hg : ((Rnd n ds).length : Int) > n
    ·rw [if_pos hg, if_pos hg, if_pos (by omega), if_pos (by omega), if_pos (by omega), if_pos (by omega), exD]
     exact ⟨_, _, _, rfl, rfl⟩
    ·rw [if_neg hg, if_neg hg]
     exact ⟨_, _, _, rfl, rfl⟩
end Go.Proofs.YthjleohmlohgbaaDoor.PA
namespace Go.Proofs.YthjleohmlohgbaaDoor.Pure
open Go Go.RowKit Go.Proofs.YthjleohmlohgbaaDoor.PA Go.Proofs.YthjleohmlohgbaaDoorW.PrintWords Go.Proofs.YthjleohmlohgbaaDoorW.PrintLast
set_option linter.unusedVariables false
theorem ExpandFixes : plumblaw13_ExpandFixes.Pure := by
 intro a0 a1 w0 w1
 have b0 := Go.bounds_u64 w0
 obtain ⟨k, hk⟩ : ∃ k : Nat, 90000000010 < k := ⟨90000000011, by decide⟩
 obtain ⟨S, x, e1, e2⟩ := fixed_same b0.1 (by omega) a1 k hk
 refine ⟨k, ?_⟩
 rw [plumblaw13_ExpandFixes.f, e1, e2, Option.bind_some, Option.bind_some, alive13 k (by omega), Option.bind_some, if_pos rfl, if_pos rfl]
 exact congrArg some (beq_self_eq_true x)
end Go.Proofs.YthjleohmlohgbaaDoor.Pure
namespace Go.Proofs.YthjleohmlohgbaaDoorW.PrintWords
open Go
end Go.Proofs.YthjleohmlohgbaaDoorW.PrintWords
namespace Go.Proofs.YthjleohmlohgbaaDoor.expandFixes
open Go.ChangeShapes Go.WideShapes Go.ChangeAt Go.RowKit
open Go.ChangeMaps (open_string shut_string)
set_option linter.unusedVariables false
theorem own : ownKnob Tryd.prog.godebug = none := by kernel_rfl
set_option maxRecDepth 100000 in
theorem lifted (os : Os) (started : os.Started) (H : Type) (enc : TypeId × Value → H) :
  ReturnsInHanded {} Tryd.checked os 3 .any (fun w args => (Rows.expandFixesSpec.pre enc Tryd.prog Tryd.f3 Rows.expandFixesRow.domain false w args ∧ laidMetH Tryd.prog Rows.expandFixesRow.laid w) ∧ sizedMet enc Tryd.prog Tryd.f3 (OpenSpec.ofChange Rows.expandFixesSpec) false w args) (Rows.expandFixesSpec.post enc Tryd.prog Tryd.f3 false true false false) := by
 refine returnsInHanded_of_change_and (C := Tryd.checked) (X := fun w _ => laidMetH Tryd.prog Rows.expandFixesRow.laid w) (fun _ _ _ hh h => h.of_heap hh) own started (by kernel_rfl) Tryd.func3
  (ChangeSpec.witness_shaped (enc := enc) (C := Tryd.checked) (os := os) (X := fun w _ => laidMetH Tryd.prog Rows.expandFixesRow.laid w) false (World.laidAll Tryd.prog os Rows.expandFixesRow.laid) #[.int .u64 0, .int .i64 0] 8 (World.laidAll_os _ _ _) (World.shaped_of_ZipB (by kernel_rfl) (by kernel_rfl)) (by kernel_rfl) (by kernel_rfl) (by kernel_rfl) (by rw [MakeChecks.laidMetH_plain _ _ _ (by kernel_rfl)]; exact laidMet_laidAll _ (by kernel_rfl) (by kernel_rfl))) ?_
 intro W base args ds gs before hval0 hW hcnd hsz0 hL _
 have hsz : (DataW.weightsEach Tryd.prog (Tryd.f3.params.toList ++ Rows.expandFixesSpec.plain.varTypes Tryd.prog) (ds ++ gs)).all (· ≤ reachBytes) = true := hsz0
 have hval : ∀ (j : Nat) t v, Tryd.f3.params[j]? = some t → args[j]? = some v → Value.okWide Tryd.prog W .any base t v := hval0
 have hW' := hW
 obtain ⟨p, q, hA0, hV, rfl, hfz, hnd⟩ := hW
 have hA : DataW.TrodAll enc Tryd.prog W 0 (fun _ => true) true Tryd.f3.params.toList args.toList ds p := hA0
 rw [Tryd.params3] at hA hval hsz
 obtain ⟨v0, vs0, d0, ds0, p0, q0, hargs, rfl, rfl, h0, r0⟩ := trodAll_cons hA
 obtain ⟨v1, vs1, d1, ds1, p1, q1, rfl, rfl, rfl, h1, r1⟩ := trodAll_cons r0
 obtain ⟨rfl, rfl, rfl⟩ := trodAll_nil r1
 obtain rfl : args = #[v0, v1] := by cases args; simp_all
 obtain ⟨rfl, rfl⟩ := trodVars_none hV
 obtain ⟨a0, rfl, rfl, rfl, w0⟩ := open_int Tryd.underlying22 (hval 0 22 v0 rfl rfl) h0
 obtain ⟨a1, rfl, rfl, rfl, w1⟩ := open_int Tryd.underlying3 (hval 1 3 v1 rfl rfl) h1
 clear hA0 hval0 hsz0 hsz
 refine (PA.plumblaw13_ExpandFixes.walk Pure.ExpandFixes a0 a1 W w0 w1).mono fun e W' ⟨he, bel⟩ => ?_
 subst he
 exact ⟨_, rfl, _, _, _, [], _, [], hW', trodAll_mk1 (shut_bool Tryd.underlying4 _), (trodAll_cons_mk (shut_int Tryd.underlying22 w0) (trodAll_cons_mk (shut_int Tryd.underlying3 w1) trodAll_mk0)), rfl, bel.frame _, fun h => by cases h⟩
theorem over : Rows.expandFixesRow.holds Tryd.pinned (OpenSpec.ofChange Rows.expandFixesSpec) :=
 OpenClaim.holds_of_wide 3 Tryd.f3 rfl rfl rfl rfl rfl rfl rfl ⟨rfl, rfl, rfl, rfl, rfl⟩ rfl rfl rfl rfl rfl (by kernel_rfl) Tryd.func3 (by kernel_rfl)
  (of_decide_eq_true (by kernel_rfl)) (by unfold Func.isWrapper; first | (rw [if_pos (by decide +kernel)]; kernel_rfl) | (rw [if_neg (by decide +kernel)]; exact ⟨rfl, rfl⟩))
  (fun os started H enc _ => lifted os started H enc)
set_option maxRecDepth 100000 in
theorem proved : Rows.ExpandFixesCardSaid :=
 Claim7.holds_tied_plain_at .later [] [.data, .pinned] true (true, "787aaf6badd8a3146128416eaaf169cf5da039bd46a3b2163e1d156690b6d35d") false
  over (fun _ h => by cases h) (by kernel_rfl) (fun _ h => by cases h) expandFixes_row_tie rfl ⟨rfl, rfl⟩ (by kernel_rfl) rfl
  (fun f fn hf hfn => by
   obtain rfl : f = 3 := (Option.some.inj ((show Tryd.prog.funcNamed "plumb/plumblaw13.ExpandFixes" = some 3 by kernel_rfl).symm.trans hf)).symm
   obtain rfl : fn = Tryd.f3 := (Option.some.inj (Tryd.func3.symm.trans hfn)).symm
   exact ⟨by kernel_rfl, fun j t ht => by
    have hall : (Tryd.f3.params.toList.all fun t => !Tryd.prog.wantsStandIn t) = true := by kernel_rfl
    have hm : t ∈ Tryd.f3.params.toList := by rw [← Array.getElem?_toList] at ht; exact List.mem_of_getElem? ht
    have hz : Tryd.prog.wantsStandIn t = false := by simpa using List.all_eq_true.1 hall t hm
    exact hz⟩)
  (by kernel_rfl)
#print axioms proved
end Go.Proofs.YthjleohmlohgbaaDoor.expandFixes
namespace Go.Proofs.YthjleohmlohgbaaDoor
end Go.Proofs.YthjleohmlohgbaaDoor
namespace Go.Proofs.YthjleohmlohgbaaDoor.Pure
open Go Go.RowKit Go.Proofs.YthjleohmlohgbaaDoor.PA Go.Proofs.YthjleohmlohgbaaDoorW.PrintWords Go.Proofs.YthjleohmlohgbaaDoorW.PrintLast
set_option linter.unusedVariables false
theorem ExpandPrecises : plumblaw13_ExpandPrecises.Pure := by
 intro a0 a1 w0 w1
 have b0 := Go.bounds_u64 w0
 obtain ⟨k, hk⟩ : ∃ k : Nat, 90000000010 < k := ⟨90000000011, by decide⟩
 obtain ⟨S, x, y, e1, e2⟩ := precise_same b0.1 (by omega) a1 k hk
 refine ⟨k, ?_⟩
 rw [plumblaw13_ExpandPrecises.f, e1, e2, Option.bind_some, Option.bind_some, alive13 k (by omega), Option.bind_some, if_pos rfl, if_pos rfl, if_pos rfl]
 exact congrArg some (beq_self_eq_true y)
end Go.Proofs.YthjleohmlohgbaaDoor.Pure
namespace Go.Proofs.YthjleohmlohgbaaDoor.expandPrecises
open Go.ChangeShapes Go.WideShapes Go.ChangeAt Go.RowKit
open Go.ChangeMaps (open_string shut_string)
set_option linter.unusedVariables false
theorem own : ownKnob Tryd.prog.godebug = none := by kernel_rfl
set_option maxRecDepth 100000 in
theorem lifted (os : Os) (started : os.Started) (H : Type) (enc : TypeId × Value → H) :
  ReturnsInHanded {} Tryd.checked os 4 .any (fun w args => (Rows.expandPrecisesSpec.pre enc Tryd.prog Tryd.f4 Rows.expandPrecisesRow.domain false w args ∧ laidMetH Tryd.prog Rows.expandPrecisesRow.laid w) ∧ sizedMet enc Tryd.prog Tryd.f4 (OpenSpec.ofChange Rows.expandPrecisesSpec) false w args) (Rows.expandPrecisesSpec.post enc Tryd.prog Tryd.f4 false true false false) := by
 refine returnsInHanded_of_change_and (C := Tryd.checked) (X := fun w _ => laidMetH Tryd.prog Rows.expandPrecisesRow.laid w) (fun _ _ _ hh h => h.of_heap hh) own started (by kernel_rfl) Tryd.func4
  (ChangeSpec.witness_shaped (enc := enc) (C := Tryd.checked) (os := os) (X := fun w _ => laidMetH Tryd.prog Rows.expandPrecisesRow.laid w) false (World.laidAll Tryd.prog os Rows.expandPrecisesRow.laid) #[.int .u64 0, .int .i64 0] 8 (World.laidAll_os _ _ _) (World.shaped_of_ZipB (by kernel_rfl) (by kernel_rfl)) (by kernel_rfl) (by kernel_rfl) (by kernel_rfl) (by rw [MakeChecks.laidMetH_plain _ _ _ (by kernel_rfl)]; exact laidMet_laidAll _ (by kernel_rfl) (by kernel_rfl))) ?_
 intro W base args ds gs before hval0 hW hcnd hsz0 hL _
 have hsz : (DataW.weightsEach Tryd.prog (Tryd.f4.params.toList ++ Rows.expandPrecisesSpec.plain.varTypes Tryd.prog) (ds ++ gs)).all (· ≤ reachBytes) = true := hsz0
 have hval : ∀ (j : Nat) t v, Tryd.f4.params[j]? = some t → args[j]? = some v → Value.okWide Tryd.prog W .any base t v := hval0
 have hW' := hW
 obtain ⟨p, q, hA0, hV, rfl, hfz, hnd⟩ := hW
 have hA : DataW.TrodAll enc Tryd.prog W 0 (fun _ => true) true Tryd.f4.params.toList args.toList ds p := hA0
 rw [Tryd.params4] at hA hval hsz
 obtain ⟨v0, vs0, d0, ds0, p0, q0, hargs, rfl, rfl, h0, r0⟩ := trodAll_cons hA
 obtain ⟨v1, vs1, d1, ds1, p1, q1, rfl, rfl, rfl, h1, r1⟩ := trodAll_cons r0
 obtain ⟨rfl, rfl, rfl⟩ := trodAll_nil r1
 obtain rfl : args = #[v0, v1] := by cases args; simp_all
 obtain ⟨rfl, rfl⟩ := trodVars_none hV
 obtain ⟨a0, rfl, rfl, rfl, w0⟩ := open_int Tryd.underlying22 (hval 0 22 v0 rfl rfl) h0
 obtain ⟨a1, rfl, rfl, rfl, w1⟩ := open_int Tryd.underlying3 (hval 1 3 v1 rfl rfl) h1
 clear hA0 hval0 hsz0 hsz
 refine (PA.plumblaw13_ExpandPrecises.walk Pure.ExpandPrecises a0 a1 W w0 w1).mono fun e W' ⟨he, bel⟩ => ?_
 subst he
 exact ⟨_, rfl, _, _, _, [], _, [], hW', trodAll_mk1 (shut_bool Tryd.underlying4 _), (trodAll_cons_mk (shut_int Tryd.underlying22 w0) (trodAll_cons_mk (shut_int Tryd.underlying3 w1) trodAll_mk0)), rfl, bel.frame _, fun h => by cases h⟩
theorem over : Rows.expandPrecisesRow.holds Tryd.pinned (OpenSpec.ofChange Rows.expandPrecisesSpec) :=
 OpenClaim.holds_of_wide 4 Tryd.f4 rfl rfl rfl rfl rfl rfl rfl ⟨rfl, rfl, rfl, rfl, rfl⟩ rfl rfl rfl rfl rfl (by kernel_rfl) Tryd.func4 (by kernel_rfl)
  (of_decide_eq_true (by kernel_rfl)) (by unfold Func.isWrapper; first | (rw [if_pos (by decide +kernel)]; kernel_rfl) | (rw [if_neg (by decide +kernel)]; exact ⟨rfl, rfl⟩))
  (fun os started H enc _ => lifted os started H enc)
set_option maxRecDepth 100000 in
theorem proved : Rows.ExpandPrecisesCardSaid :=
 Claim7.holds_tied_plain_at .later [] [.data, .pinned] true (true, "787aaf6badd8a3146128416eaaf169cf5da039bd46a3b2163e1d156690b6d35d") false
  over (fun _ h => by cases h) (by kernel_rfl) (fun _ h => by cases h) expandPrecises_row_tie rfl ⟨rfl, rfl⟩ (by kernel_rfl) rfl
  (fun f fn hf hfn => by
   obtain rfl : f = 4 := (Option.some.inj ((show Tryd.prog.funcNamed "plumb/plumblaw13.ExpandPrecises" = some 4 by kernel_rfl).symm.trans hf)).symm
   obtain rfl : fn = Tryd.f4 := (Option.some.inj (Tryd.func4.symm.trans hfn)).symm
   exact ⟨by kernel_rfl, fun j t ht => by
    have hall : (Tryd.f4.params.toList.all fun t => !Tryd.prog.wantsStandIn t) = true := by kernel_rfl
    have hm : t ∈ Tryd.f4.params.toList := by rw [← Array.getElem?_toList] at ht; exact List.mem_of_getElem? ht
    have hz : Tryd.prog.wantsStandIn t = false := by simpa using List.all_eq_true.1 hall t hm
    exact hz⟩)
  (by kernel_rfl)
#print axioms proved
end Go.Proofs.YthjleohmlohgbaaDoor.expandPrecises
namespace Go.Proofs.YthjleohmlohgbaaDoor
end Go.Proofs.YthjleohmlohgbaaDoor
