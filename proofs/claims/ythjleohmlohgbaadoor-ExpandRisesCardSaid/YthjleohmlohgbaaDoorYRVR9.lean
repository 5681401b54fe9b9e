/- A part of the proof (9). -/
import Derived.Test.YthjleohmlohgbaaDoorYRVR8
import Derived.KernelRfl
import Derived.OpenShut
import Derived.LaidLaws
import Derived.LaidHandle
import Derived.MakeChecks
import Derived.WideShapes
import Derived.ChangeArms
namespace Go.Proofs.YthjleohmlohgbaaDoor.PA
open Go Go.RowKit Go.Proofs.YthjleohmlohgbaaDoorW.PrintWords Go.Proofs.YthjleohmlohgbaaDoorW.PrintLast Go.Proofs.YthjleohmlohgbaaDoorW.PrintMore
set_option linter.unusedVariables false
set_option linter.unusedSimpArgs false
theorem Hs.strip {xs : List Int} (h : Hs xs) : Hs (strip xs) := by
 rw [strip_take]
 exact fun y hy => h y (List.mem_of_mem_take hy)
theorem Hs.append {xs ys : List Int} (h : Hs xs) (h' : Hs ys) : Hs (xs ++ ys) := by
 intro y hy
 rcases List.mem_append.1 hy with hy | hy
 ·exact h y hy
 ·exact h' y hy
def dv (c : Nat) : Nat := if 48 ≤ c ∧ c ≤ 57 then c - 48 else if 97 ≤ c ∧ c ≤ 122 then c - 87 else if 65 ≤ c ∧ c ≤ 90 then c - 55 else 36
theorem w32_of {x : Int} (h0 : -2147483648 ≤ x) (h1 : x < 2147483648) : wrap32 x = x := by unfold wrap32; omega
theorem radix_value.f_eq (c : Nat) (hc : c < 2147483648) : radix_value.f 8 (c : Int) = some (dv c : Int) := by
 rw [radix_value.f]
 by_cases h1 : 48 ≤ c ∧ c ≤ 57
 ·have e : dv c = c - 48 := by unfold dv; rw [if_pos h1]
  rw [e, if_pos (show (c : Int) ≥ 48 by omega), decide_eq_true (show (c : Int) ≤ 57 by omega), radix_value.j0, if_pos rfl, w32_of (by omega) (by omega), u64w_of (by omega) (by omega)]
  congr 1
  omega
 ·have hj : (if (c : Int) ≥ 48 then radix_value.j0 8 (c : Int) (decide ((c : Int) ≤ 57)) else radix_value.j0 8 (c : Int) false) = radix_value.j0 8 (c : Int) false := by
   by_cases h2 : (c : Int) ≥ 48
   ·rw [if_pos h2, decide_eq_false (show ¬ (c : Int) ≤ 57 by omega)]
   ·rw [if_neg h2]
  rw [hj, radix_value.j0, if_neg (show ¬ (false = true) by decide)]
  by_cases h3 : 97 ≤ c ∧ c ≤ 122
  ·have e : dv c = c - 87 := by unfold dv; rw [if_neg h1, if_pos h3]
   rw [e, if_pos (show (c : Int) ≥ 97 by omega), decide_eq_true (show (c : Int) ≤ 122 by omega), radix_value.j1, if_pos rfl, w32_of (by omega) (by omega), u64w_of (x := (c : Int) - 97) (by omega) (by omega), u64w_of (by omega) (by omega)]
   congr 1
   omega
  ·have hj2 : (if (c : Int) ≥ 97 then radix_value.j1 7 (c : Int) (decide ((c : Int) ≤ 122)) else radix_value.j1 7 (c : Int) false) = radix_value.j1 7 (c : Int) false := by
    by_cases h2 : (c : Int) ≥ 97
    ·rw [if_pos h2, decide_eq_false (show ¬ (c : Int) ≤ 122 by omega)]
    ·rw [if_neg h2]
   rw [hj2, radix_value.j1, if_neg (show ¬ (false = true) by decide)]
   by_cases h5 : 65 ≤ c ∧ c ≤ 90
   ·have e : dv c = c - 55 := by unfold dv; rw [if_neg h1, if_neg h3, if_pos h5]
    rw [e, if_pos (show (c : Int) ≥ 65 by omega), if_pos (show (c : Int) ≤ 90 by omega), w32_of (by omega) (by omega), u64w_of (x := (c : Int) - 65) (by omega) (by omega), u64w_of (by omega) (by omega)]
    congr 1
    omega
   ·have e : dv c = 36 := by unfold dv; rw [if_neg h1, if_neg h3, if_neg h5]
    rw [e]
    by_cases h6 : (c : Int) ≥ 65
    ·rw [if_pos h6, if_neg (show ¬ (c : Int) ≤ 90 by omega)]; rfl
    ·rw [if_neg h6]; rfl
theorem dv_high {c : Nat} (h : 123 ≤ c) : dv c = 36 := by
 unfold dv
 rw [if_neg (by omega), if_neg (by omega), if_neg (by omega)]
def by_ (s : ByteArray) (i : Nat) : Nat := (s.data.toList.getD i 0).toNat
theorem by_get (s : ByteArray) (i : Nat) (h : i < s.size) : by_ s i = (s[i]'h).toNat := by
 have h2 : i < s.data.toList.length := by simpa using h
 unfold by_
 rw [List.getD_eq_getElem?_getD, List.getElem?_eq_getElem h2]
 rfl
theorem rune_val (s : ByteArray) (i b : Nat) (hb : b ≤ 36) (h : i < s.size) : ∃ r : Nat, (Utf8.decode s i).1 = r ∧ radix_value.f 8 ((Utf8.decode s i).1 : Int) = some (dv r : Int) ∧ (dv r < b ↔ dv (by_ s i) < b) ∧ (dv (by_ s i) < b → dv r = dv (by_ s i) ∧ (Utf8.decode s i).2 = 1) := by
 rw [by_get s i h]
 by_cases ha : (s[i]'h).toNat < 128
 ·rw [decode_ascii s i h ha]
  exact ⟨_, rfl, radix_value.f_eq _ (by omega), Iff.rfl, fun _ => ⟨rfl, rfl⟩⟩
 ·have hd := (decode_high s i h (by omega)).1
  have hl := decode_le s i
  have e1 := dv_high (c := (Utf8.decode s i).1) (by omega)
  have e2 := dv_high (c := (s[i]'h).toNat) (by omega)
  refine ⟨_, rfl, radix_value.f_eq _ (by omega), ?_, ?_⟩
  ·rw [e1, e2]
  ·intro h3; rw [e2] at h3; omega
theorem radix_Parse.s0_good (b : Nat) (hb : b ≤ 36) (s : ByteArray) : ∀ (d k pos : Nat), s.size - pos = d → d < k → (∀ i, pos ≤ i → i < s.size → dv (by_ s i) < b) → radix_Parse.s0 b s k pos = some (-1) := by
 intro d
 induction d with
 | zero =>
  intro k pos hd hk hg
  obtain ⟨k, rfl⟩ : ∃ j, k = j + 1 := ⟨k - 1, by omega⟩
  rw [radix_Parse.s0, if_neg (by omega)]
 | succ d ih =>
  intro k pos hd hk hg
  obtain ⟨k, rfl⟩ : ∃ j, k = j + 1 := ⟨k - 1, by omega⟩
  have hp : pos < s.size := by omega
  obtain ⟨r, _, e1, e2, e3⟩ := rune_val s pos b hb hp
  have hgp := hg pos (Nat.le_refl _) hp
  obtain ⟨e4, e5⟩ := e3 hgp
  have hlt := e2.2 hgp
  rw [radix_Parse.s0, if_pos hp, e1, Option.bind_some, u64w_of (x := (b : Int)) (by omega) (by omega), if_neg (by omega), e5]
  exact ih k (pos + 1) (by omega) (by omega) (fun i h1 h2 => hg i (by omega) h2)
def vlA (b : Nat) (a : Nat) (L : List UInt8) : Nat := L.foldl (fun a c => a * b + dv c.toNat) a
def vl (b : Nat) (L : List UInt8) : Nat := vlA b 0 L
theorem vlA_eq (b : Nat) : ∀ (L : List UInt8) (a : Nat), vlA b a L = a * b ^ L.length + vl b L
 | [], a => by simp [vlA, vl]
 | c :: L, a => by
  have h1 := vlA_eq b L (a * b + dv c.toNat)
  have h2 := vlA_eq b L (0 * b + dv c.toNat)
  show vlA b (a * b + dv c.toNat) L = a * b ^ (L.length + 1) + vlA b (0 * b + dv c.toNat) L
  rw [h1, h2, Nat.pow_succ]
  generalize b ^ L.length = p
  grind
theorem vl_cons (b : Nat) (c : UInt8) (L : List UInt8) : vl b (c :: L) = dv c.toNat * b ^ L.length + vl b L := by
 have := vlA_eq b L (0 * b + dv c.toNat)
 rw [Nat.zero_mul, Nat.zero_add] at this
 show vlA b (0 * b + dv c.toNat) L = _
 rw [Nat.zero_mul, Nat.zero_add]
 exact this
theorem vl_append (b : Nat) (L M : List UInt8) : vl b (L ++ M) = vl b L * b ^ M.length + vl b M := by
 rw [vl, vlA, List.foldl_append]
 exact vlA_eq b M _
def gd (b : Nat) (L : List UInt8) : Prop := ∀ c ∈ L, dv c.toNat < b
theorem vl_lt {b : Nat} : ∀ {L : List UInt8}, gd b L → vl b L < b ^ L.length
 | [], _ => by simp [vl, vlA]
 | c :: L, h => by
  have h1 := vl_lt (L := L) (fun x hx => h x (List.mem_cons_of_mem _ hx))
  have h2 := h c (List.mem_cons_self ..)
  rw [vl_cons, List.length_cons, Nat.pow_succ]
  have h3 : (dv c.toNat + 1) * b ^ L.length ≤ b * b ^ L.length := Nat.mul_le_mul_right _ h2
  rw [Nat.add_mul, Nat.one_mul] at h3
  rw [Nat.mul_comm (b ^ L.length)]
  omega
theorem gd_iff (b : Nat) (s : ByteArray) : gd b s.data.toList ↔ ∀ i, i < s.size → dv (by_ s i) < b := by
 constructor
 ·intro h i hi
  have h2 : i < s.data.toList.length := by simpa using hi
  unfold by_
  rw [List.getD_eq_getElem?_getD, List.getElem?_eq_getElem h2]
  exact h _ (List.getElem_mem h2)
 ·intro h c hc
  obtain ⟨i, hi, rfl⟩ := List.mem_iff_getElem.1 hc
  have h3 := h i (by simpa using hi)
  unfold by_ at h3
  rw [List.getD_eq_getElem?_getD, List.getElem?_eq_getElem hi] at h3
  exact h3
theorem size_data (s : ByteArray) : s.data.toList.length = s.size := by simp
theorem drop_data {s : ByteArray} {i : Nat} (h : i < s.size) : s.data.toList.drop i = s.data.toList.getD i 0 :: s.data.toList.drop (i + 1) := by
 have h2 : i < s.data.toList.length := by simpa using h
 rw [List.drop_eq_getElem_cons h2, List.getD_eq_getElem?_getD, List.getElem?_eq_getElem h2]; rfl
theorem radix_word.l0_eq (b : Nat) (hb2 : 2 ≤ b) (hb : b ≤ 36) (s : ByteArray) (hg : ∀ i, i < s.size → dv (by_ s i) < b) : ∀ (d k pos acc : Nat), s.size - pos = d → d < k → (acc + 1) * b ^ d ≤ 18446744073709551616 → radix_word.l0 k s b pos acc = some ((vlA b acc (s.data.toList.drop pos) : Nat) : Int) := by
 intro d
 induction d with
 | zero =>
  intro k pos acc hd hk ha
  obtain ⟨k, rfl⟩ : ∃ j, k = j + 1 := ⟨k - 1, by omega⟩
  rw [radix_word.l0, if_neg (by omega), List.drop_eq_nil_of_le (by rw [size_data]; omega)]
  rfl
 | succ d ih =>
  intro k pos acc hd hk ha
  obtain ⟨k, rfl⟩ : ∃ j, k = j + 1 := ⟨k - 1, by omega⟩
  have hp : pos < s.size := by omega
  obtain ⟨r, _, e1, e2, e3⟩ := rune_val s pos b hb hp
  have hgp := hg pos hp
  obtain ⟨e4, e5⟩ := e3 hgp
  have hstep : (acc * b + dv r + 1) * b ^ d ≤ (acc + 1) * b ^ (d + 1) := by
   rw [Nat.pow_succ, Nat.mul_comm (b ^ d), ← Nat.mul_assoc]
   apply Nat.mul_le_mul_right
   rw [Nat.add_mul, e4]
   omega
  have hpow : 1 ≤ b ^ d := Nat.one_le_iff_ne_zero.2 (Nat.ne_of_gt (Nat.pow_pos (by omega)))
  have hsm : acc * b + dv r + 1 ≤ 18446744073709551616 := by
   have h1 : (acc * b + dv r + 1) * 1 ≤ (acc * b + dv r + 1) * b ^ d := Nat.mul_le_mul_left _ hpow
   omega
  have ew : IntKind.u64.wrap ((acc : Int) * (b : Int)) = ((acc * b : Nat) : Int) := by
   rw [← Int.natCast_mul]
   exact u64w_of (Int.natCast_nonneg _) (Int.ofNat_lt.2 (Nat.lt_of_le_of_lt (Nat.le_add_right _ _) hsm))
  have eb : IntKind.u64.wrap (b : Int) = (b : Int) := u64w_of (by omega) (by omega)
  have ew2 : IntKind.u64.wrap (((acc * b : Nat) : Int) + (dv r : Int)) = ((acc * b + dv r : Nat) : Int) := by
   rw [← Int.natCast_add]
   exact u64w_of (Int.natCast_nonneg _) (Int.ofNat_lt.2 hsm)
  rw [radix_word.l0, if_pos hp, e1, Option.bind_some, eb, ew, ew2, e5, ih k (pos + 1) (acc * b + dv r) (by clear ew eb ew2; omega) (by clear ew eb ew2; omega) (Nat.le_trans hstep ha), drop_data hp, e4]
  rfl
theorem radix_word.f_eq (b : Nat) (hb2 : 2 ≤ b) (hb : b ≤ 36) (s : ByteArray) (hg : gd b s.data.toList) (hp : b ^ s.size ≤ 18446744073709551616) : radix_word.f s b = some ((vl b s.data.toList : Nat) : Int) := by
 rw [radix_word.f]
 exact radix_word.l0_eq b hb2 hb s ((gd_iff b s).1 hg) s.size (s.size + 1) 0 0 (by omega) (by omega) (by rw [Nat.zero_add, Nat.one_mul]; exact hp)
theorem nat_From.f_eq (v : Nat) (hv : v < 18446744073709551616) : nat_From.f (v : Int) = some (wd v) := by
 have hw : Ws [(v : Int)] := Ws.cons (by omega) (by omega) Ws.nil
 have e : nv [(v : Int)] = (v : Int) := by simp [nv]
 have h := wd_nv hw
 rw [e, Int.toNat_natCast] at h
 rw [nat_From.f, nat_Norm.f, if_pos (show [(v : Int)].length ≤ 35184372088832 from Nat.le_of_ble_eq_true rfl), Option.bind_some, h]
theorem nat_Add.f_eq (x y : List Int) (hx : Ws x) (hy : Ws y) (hlx : x.length ≤ 1000000) (hly : y.length ≤ 1000000) (k : Nat) (hk : 1000010 < k) : nat_Add.f k x y = some (bnd (nv x + nv y)) := by
 have h1 : nv x + nv y < 2 ^ (64 * (max x.length y.length + 1)) := by
  have a := nv_lt hx
  have b := nv_lt hy
  have c := pow_mono (show 64 * x.length ≤ 64 * max x.length y.length from by omega)
  have d := pow_mono (show 64 * y.length ≤ 64 * max x.length y.length from by omega)
  rw [pow64]
  have p := two_pow_pos (64 * max x.length y.length)
  omega
 have h0 : 0 ≤ nv x + nv y := Int.add_nonneg (nv_nonneg hx) (nv_nonneg hy)
 rw [nat_Add.f, nat_sum.f, if_pos ⟨wsB_iff.2 hx, wsB_iff.2 hy, by clear h1; omega, by clear h1; omega⟩, Option.bind_some, nat_bound.f_bnd (wn_ws _ _) (by rw [wn_length]; clear h1; omega) k (by rw [wn_length]; clear h1; omega), nv_wn _ h0 h1, Option.bind_some]
theorem rdn (xs : List Int) (n : Nat) : rd xs (n : Int) = xs.getD n 0 := rfl
theorem and_top0 {z : Nat} (hz : z < 9223372036854775808) : z &&& 9223372036854775808 = 0 := by
 rw [show (9223372036854775808 : Nat) = 2 ^ 63 from by decide]
 apply Nat.eq_of_testBit_eq
 intro i
 rw [Nat.testBit_and, Nat.testBit_two_pow, Nat.zero_testBit]
 by_cases h : 63 = i
 ·subst h
  rw [Nat.testBit_lt_two_pow (by rw [show (2 : Nat) ^ 63 = 9223372036854775808 from by decide]; omega)]
  rfl
 ·rw [decide_eq_false h, Bool.and_false]
theorem and_top1 {z : Nat} (hz : z < 9223372036854775808) : (z + 9223372036854775808) &&& 9223372036854775808 = 9223372036854775808 := by
 rw [show (9223372036854775808 : Nat) = 2 ^ 63 from by decide]
 apply Nat.eq_of_testBit_eq
 intro i
 rw [Nat.testBit_and, Nat.testBit_two_pow]
 by_cases h : 63 = i
 ·subst h
  rw [Nat.add_comm, Nat.testBit_two_pow_add_eq, Nat.testBit_lt_two_pow (by rw [show (2 : Nat) ^ 63 = 9223372036854775808 from by decide]; omega)]
  rfl
 ·rw [decide_eq_false h, Bool.and_false]
theorem top_bit {a : Int} (h0 : 0 ≤ a) (h1 : a < 18446744073709551616) : (Go.bits .and .u64 a 9223372036854775808 != 0) = decide (9223372036854775808 ≤ a) := by
 by_cases h : a < 9223372036854775808
 ·obtain ⟨z, rfl⟩ : ∃ z : Nat, a = (z : Int) := ⟨a.toNat, by omega⟩
  have e := u64_and_nat z 9223372036854775808 (by omega) (by decide)
  rw [and_top0 (by omega)] at e
  rw [show Go.bits .and .u64 (z : Int) 9223372036854775808 = 0 from e, decide_eq_false (by omega)]
  rfl
 ·obtain ⟨z, rfl⟩ : ∃ z : Nat, a = ((z + 9223372036854775808 : Nat) : Int) := ⟨a.toNat - 9223372036854775808, by omega⟩
  have e := u64_and_nat (z + 9223372036854775808) 9223372036854775808 (by omega) (by decide)
  rw [and_top1 (by omega)] at e
  rw [show Go.bits .and .u64 ((z + 9223372036854775808 : Nat) : Int) 9223372036854775808 = 9223372036854775808 from e, decide_eq_true (by omega)]
  rfl
theorem split_both {a : Int} (h0 : 0 ≤ a) (h1 : a < 18446744073709551616) (k : Nat) (hk : 1 ≤ k) :
  (f64_Split.f k a = some (false, 0, 0, 60) ∧ plumbref06_Split.f a = some (false, 0, 0, 60)) ∨
  ∃ (m : Nat) (e : Int), m < 9007199254740992 ∧ -1074 ≤ e ∧ e ≤ 971 ∧ f64_Split.f k a = some (decide (9223372036854775808 ≤ a), (m : Int), e, 0) ∧ plumbref06_Split.f a = some (decide (9223372036854775808 ≤ a), (m : Int), e, 0) := by
 obtain ⟨k, rfl⟩ : ∃ j, k = j + 1 := ⟨k - 1, by omega⟩
 have e1 : Go.bits .and .u64 a 4503599627370495 = a % 4503599627370496 := by
  rw [show Go.bits .and .u64 a 4503599627370495 = a % 2 ^ 52 from and_mask h0 h1 52 (by omega) _ rfl, show (2 : Int) ^ 52 = 4503599627370496 from by decide]
 have e2 : Go.bits .and .u64 (a / 4503599627370496) 2047 = a / 4503599627370496 % 2048 := by
  rw [show Go.bits .and .u64 (a / 4503599627370496) 2047 = (a / 4503599627370496) % 2 ^ 11 from and_mask (by omega) (by omega) 11 (by omega) _ rfl, show (2 : Int) ^ 11 = 2048 from by decide]
 have e3 : ((a / 9223372036854775808) == 1) = decide (9223372036854775808 ≤ a) := by
  by_cases h : 9223372036854775808 ≤ a
  ·rw [decide_eq_true h]; exact beq_iff_eq.mpr (by omega)
  ·rw [decide_eq_false h]; exact beq_eq_false_iff_ne.mpr (by omega)
 have e4 := top_bit h0 h1
 obtain ⟨q, hq⟩ : ∃ q : Nat, a / 4503599627370496 % 2048 = (q : Int) := ⟨(a / 4503599627370496 % 2048).toNat, by omega⟩
 obtain ⟨f, hf⟩ : ∃ f : Nat, a % 4503599627370496 = (f : Int) := ⟨(a % 4503599627370496).toNat, by omega⟩
 have hq1 : q < 2048 := by omega
 have hf1 : f < 4503599627370496 := by omega
 rw [f64_Split.f, f64_Class.f, f64_fields.f, plumbref06_Split.f, plumbref06_fields.f, e1, e2, e3, e4, hq, hf, w64_of (x := (q : Int)) (by omega) (by omega)]
 clear e1 e2 e3 e4 hq hf
 simp only [Option.bind_some]
 by_cases g0 : q = 0
 ·subst g0
  refine .inr ⟨f, -1074, by omega, by omega, by omega, ?_, ?_⟩
  ·rw [if_pos (show ((0 : Nat) : Int) = 0 from rfl), f64_Class.j0]
   by_cases g1 : f = 0
   ·subst g1; rfl
   ·rw [if_neg (by intro e; have := beq_iff_eq.1 e; omega), if_pos (show ((0 : Nat) : Int) = 0 from rfl)]; rfl
  ·rw [if_neg (by decide), if_pos (show ((0 : Nat) : Int) = 0 from rfl)]
 ·have g0' : ¬ ((q : Nat) : Int) = 0 := by omega
  rw [if_neg g0', f64_Class.j0, if_neg (by decide), if_neg g0']
  by_cases g2 : q = 2047
  ·subst g2
   refine .inl ⟨?_, ?_⟩
   ·rw [if_neg (by decide)]
    by_cases g1 : ((f : Nat) : Int) = 0
    ·rw [if_pos g1]; rfl
    ·rw [if_neg g1]; rfl
   ·rw [if_pos (show ((2047 : Nat) : Int) = 2047 from rfl)]
  ·have eo : Go.bits .or .u64 4503599627370496 (f : Int) = ((4503599627370496 + f : Nat) : Int) := by
    rw [or_join 52 (by decide) (by decide) (by decide) (by omega) (by rw [show (2 : Int) ^ 52 = 4503599627370496 from by decide]; omega) (by omega)]; omega
   refine .inr ⟨4503599627370496 + f, (q : Int) - 1075, by omega, by omega, by omega, ?_, ?_⟩
   ·rw [if_pos (by omega)]
    show some (_, Go.bits .or .u64 4503599627370496 (f : Int), wrap64 ((q : Int) - 1075), (0 : Int)) = _
    rw [eo, w64_of (by omega) (by omega)]
   ·rw [if_neg (by omega), if_neg (by omega), u64w, w64_of (by omega) (by omega), Int.emod_eq_of_lt (by omega) (by omega)]
    rfl
theorem split_eq {a : Int} (h0 : 0 ≤ a) (h1 : a < 18446744073709551616) (k : Nat) (hk : 1 ≤ k) : f64_Split.f k a = plumbref06_Split.f a := by
 rcases split_both h0 h1 k hk with ⟨e1, e2⟩ | ⟨m, e, _, _, _, e1, e2⟩
 ·rw [e1, e2]
 ·rw [e1, e2]
def tobD (n : Int) : UInt8 := UInt8.ofNat n.toNat
theorem strD (xs : List Int) : (strOfNums xs).data.toList = xs.map tobD := rfl
theorem tobD_toNat {n : Int} (h0 : 0 ≤ n) (h1 : n < 256) : ((tobD n).toNat : Int) = n := by
 unfold tobD
 have h : (UInt8.ofNat n.toNat).toNat = n.toNat := by
  rw [UInt8.toNat_ofNat']
  exact Nat.mod_eq_of_lt (by show n.toNat < 256; omega)
 rw [h]
 omega
theorem bytesD {xs : List Int} (h : ∀ c ∈ xs, 0 ≤ c ∧ c < 256) : bytesOfStr (strOfNums xs) = xs := by
 unfold bytesOfStr
 rw [strD, List.map_map]
 conv => rhs; rw [← List.map_id xs]
 apply List.map_congr_left
 intro c hc
 exact tobD_toNat (h c hc).1 (h c hc).2
def Dg (ds : List Int) : Prop := ds ≠ [] ∧ (∀ c ∈ ds, 48 ≤ c ∧ c ≤ 57) ∧ ds.getD 0 0 ≠ 48
theorem dgs10 : ∀ N : Nat, ∀ c ∈ dgs 10 N, 48 ≤ c ∧ c ≤ 57 := by
 intro N
 induction N using Nat.strongRecOn with
 | _ N ih =>
  intro c hc
  by_cases h0 : N = 0
  ·subst h0; simp [dgs_zero] at hc
  ·rw [dgs_pos (by decide) h0] at hc
   rcases List.mem_cons.1 hc with rfl | hc
   ·have hm : N % 10 < 10 := Nat.mod_lt _ (by decide)
    rw [dg_val _ (by omega), if_pos hm]; omega
   ·exact ih (N / 10) (Nat.div_lt_self (by omega) (by decide)) c hc
theorem dgs_last : ∀ N : Nat, N ≠ 0 → ∃ L v, dgs 10 N = L ++ [dg v] ∧ v ≠ 0 ∧ v < 36 := by
 intro N
 induction N using Nat.strongRecOn with
 | _ N ih =>
  intro h0
  rw [dgs_pos (by decide) h0]
  by_cases h1 : N / 10 = 0
  ·have h2 : N % 10 = N := Nat.mod_eq_of_lt ((Nat.div_eq_zero_iff_lt (by omega)).1 h1)
   refine ⟨[], N, ?_, h0, ?_⟩
   ·rw [h1, dgs_zero, h2]; rfl
   ·have := (Nat.div_eq_zero_iff_lt (by omega)).1 h1
    omega
  ·obtain ⟨L, v, e1, e2, e3⟩ := ih (N / 10) (Nat.div_lt_self (by omega) (by omega)) h1
   exact ⟨dg (N % 10) :: L, v, by rw [e1]; rfl, e2, e3⟩
theorem dgs_Dg {u : Nat} (h : u ≠ 0) : Dg (dgs 10 u).reverse := by
 obtain ⟨L, v, e1, e2, e3⟩ := dgs_last u h
 refine ⟨?_, fun c hc => dgs10 u c (List.mem_reverse.1 hc), ?_⟩
 ·rw [e1]; simp
 ·rw [e1, List.reverse_append]
  intro h2
  exact e2 ((dg_eq_zero e3).1 h2)
theorem lt_top (N t T : Nat) (h : N < 2 ^ t) (ht : t ≤ T) (hT : T = 262144) : (N : Int) < (2 : Int) ^ 262144 := by
 rw [← hT, p2cast]
 exact Int.ofNat_lt.2 (Nat.lt_of_lt_of_le h (Nat.pow_le_pow_right (by decide) ht))
theorem wd_word {m : Nat} (h0 : m ≠ 0) (h : m < 18446744073709551616) : wd m = [(m : Int)] := by
 rw [wd_pos h0, Nat.mod_eq_of_lt h, Nat.div_eq_of_lt h, wd_zero]
theorem five_pow (n : Nat) : 5 ^ n ≤ 2 ^ (3 * n) := by
 rw [Nat.pow_mul]; exact Nat.pow_le_pow_left (by decide) n
theorem rdN (xs : List Int) (n : Nat) : rd xs (n : Int) = xs.getD n 0 := rfl
theorem getD_mem {xs : List Int} {n : Nat} (h : n < xs.length) : xs.getD n 0 ∈ xs := by
 rw [List.getD_eq_getElem?_getD, List.getElem?_eq_getElem h]; exact List.getElem_mem h
def nz (l : List Int) : Bool := l.any (fun c => c != 48)
theorem nz_snoc (l : List Int) (c : Int) : nz (l ++ [c]) = (nz l || c != 48) := by simp [nz]
theorem nz_cons (l : List Int) (c : Int) : nz (c :: l) = ((c != 48) || nz l) := by simp [nz]
theorem trimR_eq : ∀ (d k : Nat) (l : List Int), l.length = d → d < k → d ≤ 4611686018427387904 → ∃ t, bytes_trimRightByte.l0 k l 48 = some t ∧ t.length ≤ l.length ∧ nz t = nz l := by
 intro d
 induction d with
 | zero =>
  intro k l hl hk hd
  obtain ⟨k, rfl⟩ : ∃ j, k = j + 1 := ⟨k - 1, by omega⟩
  rw [bytes_trimRightByte.l0, if_neg (by omega)]
  exact ⟨l, rfl, Nat.le_refl _, rfl⟩
 | succ d ih =>
  intro k l hl hk hd
  obtain ⟨k, rfl⟩ : ∃ j, k = j + 1 := ⟨k - 1, by omega⟩
  have ew : wrap64 ((l.length : Int) - 1) = (d : Int) := by rw [hl, w64_of (by omega) (by omega)]; omega
  rw [bytes_trimRightByte.l0, if_pos (by omega), ew, if_pos (by omega), if_pos (by omega), rdN]
  by_cases hc : l.getD d 0 = 48
  ·rw [if_pos hc, if_pos (by omega), Int.toNat_natCast]
   obtain ⟨t, e1, e2, e3⟩ := ih k (l.take d) (by rw [List.length_take]; omega) (by omega) (by omega)
   refine ⟨t, e1, by rw [List.length_take] at e2; omega, ?_⟩
   have es : l = l.take d ++ [l.getD d 0] := by
    have h1 : l.drop d = [l.getD d 0] := by
     rw [List.drop_eq_getElem_cons (by omega), List.drop_eq_nil_of_le (by omega), List.getD_eq_getElem?_getD, List.getElem?_eq_getElem (by omega)]; rfl
    rw [← h1, List.take_append_drop]
   rw [e3]
   conv => rhs; rw [es, nz_snoc, hc]
   rw [show ((48 : Int) != 48) = false from rfl, Bool.or_false]
  ·rw [if_neg hc]
   exact ⟨l, rfl, Nat.le_refl _, rfl⟩
theorem trimL_eq : ∀ (d k : Nat) (l : List Int), l.length = d → d < k → ∃ t, bytes_trimLeftByte.l0 k l 48 = some t ∧ decide (0 < t.length) = nz l := by
 intro d
 induction d with
 | zero =>
  intro k l hl hk
  obtain ⟨k, rfl⟩ : ∃ j, k = j + 1 := ⟨k - 1, by omega⟩
  rw [bytes_trimLeftByte.l0, if_neg (by omega), if_pos (by omega)]
  obtain rfl := List.length_eq_zero_iff.mp hl
  exact ⟨[], rfl, rfl⟩
 | succ d ih =>
  intro k l hl hk
  obtain ⟨k, rfl⟩ : ∃ j, k = j + 1 := ⟨k - 1, by omega⟩
  rw [bytes_trimLeftByte.l0, if_pos (by omega), if_pos (by omega)]
  cases l with
  | nil => cases hl
  | cons c l =>
   have e0 : rd (c :: l) 0 = c := rfl
   rw [e0]
   by_cases hc : c = 48
   ·rw [if_pos hc, if_pos (by omega)]
    obtain ⟨t, e1, e2⟩ := ih k l (by simpa using hl) (by omega)
    exact ⟨t, e1, by rw [e2, nz_cons, hc]; rfl⟩
   ·rw [if_neg hc, if_neg (by omega)]
    refine ⟨c :: l, rfl, ?_⟩
    rw [nz_cons, show (c != 48) = true from bne_iff_ne.mpr hc, Bool.true_or]
    exact decide_eq_true (by omega)
theorem trim_eq (l : List Int) (hm : l.length ≤ 4611686018427387000) (k : Nat) (hk : l.length + 1 < k) : ∃ t, bytes_Trim.f k l ⟨#[48]⟩ = some t ∧ decide (0 < t.length) = nz l := by
 rw [bytes_Trim.f]
 by_cases h0 : (l.length : Int) = 0
 ·rw [if_pos h0]
  obtain rfl := List.length_eq_zero_iff.mp (by omega : l.length = 0)
  exact ⟨[], rfl, rfl⟩
 ·obtain ⟨k, rfl⟩ : ∃ j, k = j + 1 := ⟨k - 1, by omega⟩
  rw [if_neg h0, if_neg (by rw [ByteArray.toList_eq]; decide), if_pos (by rfl), if_pos (by decide), bytes_Trim.j0, show (bt (⟨#[48]⟩ : ByteArray) 0) = 48 from rfl, decide_eq_true (by decide), if_pos rfl, if_pos (by decide), bytes_trimRightByte.f]
  obtain ⟨t, e1, e2, e3⟩ := trimR_eq l.length k l rfl (by omega) (by omega)
  rw [e1, Option.bind_some, bytes_trimLeftByte.f]
  obtain ⟨u, e4, e5⟩ := trimL_eq t.length k t rfl (by omega)
  rw [e4, Option.bind_some]
  exact ⟨u, rfl, by rw [e5, e3]⟩
def upD (last : Int) (rest : List Int) : Bool := if rest.length = 0 then false else if rd rest 0 < 53 then false else if rd rest 0 > 53 then true else (nz (rest.drop 1) || (last % 2 == 1))
theorem and_one8 {a : Int} (h0 : 48 ≤ a) (h1 : a ≤ 57) : (Go.bits .and .u8 a 1 == 1) = (a % 2 == 1) := by
 have h : a = 48 ∨ a = 49 ∨ a = 50 ∨ a = 51 ∨ a = 52 ∨ a = 53 ∨ a = 54 ∨ a = 55 ∨ a = 56 ∨ a = 57 := by omega
 rcases h with rfl | rfl | rfl | rfl | rfl | rfl | rfl | rfl | rfl | rfl <;> decide
theorem up_eq {last : Int} (h0 : 48 ≤ last) (h1 : last ≤ 57) (rest : List Int) (hm : rest.length ≤ 4611686018427387000) : expand_up.f last rest = some (upD last rest) := by
 rw [expand_up.f, upD]
 by_cases g0 : rest.length = 0
 ·rw [if_pos g0, if_pos g0]
 ·rw [if_neg g0, if_neg g0]
  by_cases g1 : rd rest 0 < 53
  ·rw [if_pos g1, if_pos g1]
  ·rw [if_neg g1, if_neg g1]
   by_cases g2 : rd rest 0 > 53
   ·rw [if_pos g2, if_pos g2]
   ·obtain ⟨t, e1, e2⟩ := trim_eq (rest.drop 1) (by rw [List.length_drop]; omega) (rest.length + 3) (by rw [List.length_drop]; omega)
    rw [if_neg g2, if_neg g2, e1, Option.bind_some, ← e2, and_one8 h0 h1]
    by_cases g3 : 0 < t.length
    ·rw [if_pos g3, decide_eq_true g3, Bool.true_or]
    ·rw [if_neg g3, decide_eq_false g3, Bool.false_or]
def plusD (h : List Int) : Nat → List Int
 | 0 => 49 :: h
 | i + 1 => if h.getD i 0 = 57 then plusD (h.set i 48) i else h.set i (h.getD i 0 + 1)
def digs (l : List Int) : Prop := ∀ c ∈ l, 48 ≤ c ∧ c ≤ 57
theorem digs_set {l : List Int} (h : digs l) {i : Nat} {c : Int} (hc : 48 ≤ c ∧ c ≤ 57) : digs (l.set i c) := by
 intro x hx
 rcases List.mem_or_eq_of_mem_set hx with h1 | rfl
 ·exact h x h1
 ·exact hc
theorem digs_at {l : List Int} (h : digs l) {i : Nat} (hi : i < l.length) : 48 ≤ l.getD i 0 ∧ l.getD i 0 ≤ 57 := h _ (getD_mem hi)
theorem carry_prog : ∀ (i k : Nat) (h : List Int), digs h → i ≤ h.length → h.length ≤ 4611686018427387000 → i < k → expand_cut.l1 k (48 :: h) (i : Int) = some (plusD h i) := by
 intro i
 induction i with
 | zero =>
  intro k h hd hi hm hk
  obtain ⟨k, rfl⟩ : ∃ j, k = j + 1 := ⟨k - 1, by omega⟩
  rw [expand_cut.l1, if_pos (by omega), if_pos (by rw [List.length_cons]; omega), rdN]
  rw [if_pos (show (48 :: h).getD 0 0 < 57 from (by decide : (48 : Int) < 57)), Option.bind_some, if_pos (by rw [List.length_cons]; omega)]
  rw [if_neg (show ¬ rd ((48 :: h).set ((0 : Nat) : Int).toNat (((48 :: h).getD 0 0 + 1) % 256)) 0 = 48 from (by decide : ¬ (49 : Int) = 48))]
  rfl
 | succ i ih =>
  intro k h hd hi hm hk
  obtain ⟨k, rfl⟩ : ∃ j, k = j + 1 := ⟨k - 1, by omega⟩
  have hx := digs_at hd (show i < h.length by omega)
  rw [expand_cut.l1, if_pos (by omega), if_pos (by rw [List.length_cons]; omega), rdN, show (48 :: h).getD (i + 1) 0 = h.getD i 0 from by simp, plusD, Int.toNat_natCast]
  by_cases hc : h.getD i 0 = 57
  ·rw [if_neg (by omega), if_pos hc, List.set_cons_succ, show wrap64 (((i + 1 : Nat) : Int) - 1) = (i : Int) from by rw [w64_of (by omega) (by omega)]; omega]
   exact ih k (h.set i 48) (digs_set hd ⟨by omega, by omega⟩) (by rw [List.length_set]; omega) (by rw [List.length_set]; omega) (by omega)
  ·rw [if_pos (by omega), if_neg hc, Option.bind_some, if_pos (by rw [List.length_cons]; omega), List.set_cons_succ]
   rw [if_pos (show rd (48 :: h.set i ((h.getD i 0 + 1) % 256)) 0 = 48 from rfl), if_pos (by rw [List.length_cons]; omega)]
   rw [show (h.getD i 0 + 1) % 256 = h.getD i 0 + 1 from by omega]
   rfl
def keptD (n : Nat) (ds : List Int) : List Int := ds.take n ++ List.replicate (n - ds.length) 48
theorem keptD_length (n : Nat) (ds : List Int) : (keptD n ds).length = n := by
 rw [keptD, List.length_append, List.length_take, List.length_replicate]; omega
theorem digs_take {ds : List Int} (h : digs ds) (n : Nat) : digs (ds.take n) := fun c hc => h c (List.mem_of_mem_take hc)
theorem digs_drop {ds : List Int} (h : digs ds) (n : Nat) : digs (ds.drop n) := fun c hc => h c (List.mem_of_mem_drop hc)
theorem digs_rep (n : Nat) : digs (List.replicate n 48) := fun c hc => by obtain ⟨_, rfl⟩ := List.mem_replicate.1 hc; omega
theorem digs_app {a b : List Int} (ha : digs a) (hb : digs b) : digs (a ++ b) := fun c hc => (List.mem_append.1 hc).elim (ha c) (hb c)
theorem digs_kept {ds : List Int} (h : digs ds) (n : Nat) : digs (keptD n ds) := digs_app (digs_take h n) (digs_rep _)
def Rnd (n : Nat) (ds : List Int) : List Int := if upD ((48 :: keptD n ds).getD n 0) (ds.drop n) = true then plusD (keptD n ds) n else keptD n ds
theorem last_digit {ds : List Int} (h : digs ds) (n : Nat) : 48 ≤ (48 :: keptD n ds).getD n 0 ∧ (48 :: keptD n ds).getD n 0 ≤ 57 := by
 cases n with
 | zero => exact ⟨(by decide : (48 : Int) ≤ 48), (by decide : (48 : Int) ≤ 57)⟩
 | succ n => exact digs_at (digs_kept h (n + 1)) (by rw [keptD_length]; omega)
theorem kept_zero {ds : List Int} {n i : Nat} (h1 : min ds.length n ≤ i) (h2 : i < n) : (keptD n ds).getD i 0 = 48 := by
 rw [keptD, List.getD_eq_getElem?_getD, List.getElem?_append_right (by rw [List.length_take]; omega), List.getElem?_replicate, if_pos (by rw [List.length_take]; omega)]; rfl
theorem fill_eq (ds : List Int) (hd : digs ds) (n : Nat) (hn : n ≤ 4000000) (hl : ds.length ≤ 4000000) : ∀ (d k i : Nat), n + 1 - i = d → d + n + 10 < k → min ds.length n + 1 ≤ i → i ≤ n + 1 →
  expand_cut.l0 k (n : Int) ((48 :: keptD n ds).take i ++ List.replicate (n + 1 - i) 0) (ds.drop n) (i : Int) = some (Rnd n ds) := by
 have hL : (48 :: keptD n ds).length = n + 1 := by rw [List.length_cons, keptD_length]
 intro d
 induction d with
 | zero =>
  intro k i hi hk h1 h2
  obtain ⟨k, rfl⟩ : ∃ j, k = j + 1 := ⟨k - 1, by omega⟩
  obtain rfl : i = n + 1 := by omega
  rw [Nat.sub_self, List.replicate_zero, List.append_nil, List.take_of_length_le (by omega), expand_cut.l0, if_neg (by omega), if_pos (by omega), if_pos (by omega), rdN]
  obtain ⟨g1, g2⟩ := last_digit hd n
  rw [up_eq g1 g2 (ds.drop n) (by rw [List.length_drop]; omega), Option.bind_some, Rnd]
  by_cases hu : upD ((48 :: keptD n ds).getD n 0) (ds.drop n) = true
  ·rw [if_pos hu, if_pos hu]
   exact carry_prog n k (keptD n ds) (digs_kept hd n) (by rw [keptD_length]; omega) (by rw [keptD_length]; omega) (by omega)
  ·rw [if_neg hu, if_neg hu, if_pos (by omega), if_pos (show rd (48 :: keptD n ds) 0 = 48 from rfl), if_pos (by omega)]
   rfl
 | succ d ih =>
  intro k i hi hk h1 h2
  obtain ⟨k, rfl⟩ : ∃ j, k = j + 1 := ⟨k - 1, by omega⟩
  have hlen : ((48 :: keptD n ds).take i ++ List.replicate (n + 1 - i) 0).length = n + 1 := by rw [List.length_append, List.length_take, hL, List.length_replicate]; omega
  rw [expand_cut.l0, if_pos (by rw [hlen]; omega), if_pos (by omega), Int.toNat_natCast, show wrap64 ((i : Int) + 1) = ((i + 1 : Nat) : Int) from by rw [w64_of (by omega) (by omega)]; omega]
  have e : ((48 :: keptD n ds).take i ++ List.replicate (n + 1 - i) (0 : Int)).set i 48 = (48 :: keptD n ds).take (i + 1) ++ List.replicate (n + 1 - (i + 1)) 0 := by
   have ht : ((48 :: keptD n ds).take i).length = i := by rw [List.length_take, hL]; omega
   obtain ⟨j, rfl⟩ : ∃ j, i = j + 1 := ⟨i - 1, by omega⟩
   have hz : (48 :: keptD n ds)[j + 1]? = some 48 := by
    have := kept_zero (ds := ds) (n := n) (i := j) (by omega) (by omega)
    rw [List.getElem?_cons_succ, List.getElem?_eq_getElem (by rw [keptD_length]; omega)]
    rw [List.getD_eq_getElem?_getD, List.getElem?_eq_getElem (by rw [keptD_length]; omega)] at this
    exact congrArg some this
   have ht2 : (48 :: keptD n ds).take (j + 1 + 1) = (48 :: keptD n ds).take (j + 1) ++ [48] := by rw [List.take_add_one, hz]; rfl
   rw [List.set_append_right _ _ (by omega), ht, Nat.sub_self, show n + 1 - (j + 1) = (n + 1 - (j + 1 + 1)) + 1 from by omega, List.replicate_succ, List.set_cons_zero, ht2, List.append_assoc]
   rfl
  rw [e]
  exact ih k (i + 1) (by omega) (by omega) (by omega) (by omega)
theorem cut_eq (ds : List Int) (hd : digs ds) (n : Nat) (hn : n ≤ 4000000) (hl : ds.length ≤ 4000000) (k : Nat) (hk : 10000000 < k) : expand_cut.f k ds (n : Int) = some (Rnd n ds) := by
 have ew : wrap64 ((n : Int) + 1) = ((n + 1 : Nat) : Int) := by rw [w64_of (by omega) (by omega)]; omega
 have er : ((List.replicate (n + 1) (0 : Int)).set (0 : Int).toNat 48) = 48 :: List.replicate n 0 := rfl
 have em : mn ((List.replicate n (0 : Int)).length : Int) (ds.length : Int) = ((min ds.length n : Nat) : Int) := by
  rw [List.length_replicate]; unfold mn; split <;> omega
 rw [expand_cut.f, if_neg (by omega), ew, if_pos (by omega), Int.toNat_natCast, if_pos (by omega), Option.bind_some, if_pos (by rw [List.length_replicate]; omega), er, Option.bind_some, if_pos (by rw [List.length_replicate]; omega)]
 rw [show (48 :: List.replicate n (0 : Int)).drop 1 = List.replicate n 0 from rfl, Option.bind_some, em, if_pos (by omega), if_pos (by omega), if_pos (by omega), Int.toNat_natCast, Int.toNat_natCast, List.take_length]
 rw [show wrap64 (((min ds.length n : Nat) : Int) + 1) = ((min ds.length n + 1 : Nat) : Int) from by rw [w64_of (by omega) (by omega)]; omega]
 have e1 : ds.drop (min ds.length n) = ds.drop n := by
  by_cases h : n ≤ ds.length
  ·rw [Nat.min_eq_right h]
  ·rw [Nat.min_eq_left (by omega), List.drop_length, List.drop_of_length_le (by omega)]
 have e2 : cutIn (48 :: List.replicate n (0 : Int)) ds = (48 :: keptD n ds).take (min ds.length n + 1) ++ List.replicate (n + 1 - (min ds.length n + 1)) 0 := by
  have hm : (48 :: List.replicate n (0 : Int)).length - 1 = n := by rw [List.length_cons, List.length_replicate]; omega
  rw [cutIn, hm, List.take_succ_cons, List.take_succ_cons, List.take_zero, Nat.add_comm 1, List.drop_succ_cons, List.drop_replicate, keptD, List.take_append_of_le_length (by rw [List.length_take]; omega), List.take_take, Nat.min_eq_left (Nat.min_le_right ds.length n), show n + 1 - (min ds.length n + 1) = n - min ds.length n from by omega]
  rfl
 rw [e1, e2]
 exact fill_eq ds hd n hn hl (n + 1 - (min ds.length n + 1)) k (min ds.length n + 1) rfl (by omega) (Nat.le_refl _) (by omega)
theorem cut_neg (ds : List Int) (n : Int) (hn : n < 0) (k : Nat) : expand_cut.f k ds n = some [] := by rw [expand_cut.f, if_pos hn]
theorem ba_ext {s t : ByteArray} (h : s.data.toList = t.data.toList) : s = t := by
 cases s with | mk a => cases t with | mk b => exact congrArg ByteArray.mk (Array.toList_inj.1 h)
theorem appD (xs ys : List Int) : strOfNums xs ++ strOfNums ys = strOfNums (xs ++ ys) := ba_ext (by rw [strD, List.map_append, ← strD, ← strD]; simp)
theorem plusD_length : ∀ (i : Nat) (h : List Int), h.length ≤ (plusD h i).length ∧ (plusD h i).length ≤ h.length + 1
 | 0, h => by rw [plusD, List.length_cons]; omega
 | i + 1, h => by
  rw [plusD]
  split
  ·have := plusD_length i (h.set i 48)
   rw [List.length_set] at this
   exact this
  ·rw [List.length_set]; omega
theorem Rnd_length (n : Nat) (ds : List Int) : n ≤ (Rnd n ds).length ∧ (Rnd n ds).length ≤ n + 1 := by
 rw [Rnd]
 split
 ·have := plusD_length n (keptD n ds); rw [keptD_length] at this; exact this
 ·rw [keptD_length]; omega
theorem Rnd_digs {ds : List Int} (h : digs ds) (n : Nat) : digs (Rnd n ds) := by
  have hp : ∀ (i : Nat) (l : List Int), digs l → i ≤ l.length → digs (plusD l i) := by
    intro i
    induction i with
    | zero => intro l hl _ c hc; rw [plusD] at hc; rcases List.mem_cons.1 hc with rfl | hc; · omega
              · exact hl c hc
    | succ i ih =>
      intro l hl hi
      have := digs_at hl (show i < l.length by omega)
      rw [plusD]
      split
      · exact ih _ (digs_set hl ⟨by omega, by omega⟩) (by rw [List.length_set]; omega)
      · exact digs_set hl ⟨by omega, by omega⟩
  rw [Rnd]
  split
  · exact hp n _ (digs_kept h n) (by rw [keptD_length]; omega)
  · exact digs_kept h n
theorem dot_size : (⟨#[46]⟩ : ByteArray).size = 1 := rfl
theorem repeat_eq (z : Nat) (h0 : 0 < z) (h1 : z ≤ 4096) : bytes_Repeat.f [48] (z : Int) = some (List.replicate z 48) := by
 rw [bytes_Repeat.f, if_pos (show [(48 : Int)].length = 1 from rfl), if_pos (by omega), if_pos (by omega), Int.toNat_natCast]; rfl
def dgv (c : Int) : Nat := (c - 48).toNat
def valD (l : List Int) : Nat := l.foldl (fun a c => 10 * a + dgv c) 0
theorem valD_from (l : List Int) : ∀ a : Nat, l.foldl (fun a c => 10 * a + dgv c) a = a * 10 ^ l.length + valD l := by
 induction l with
 | nil => intro a; simp [valD]
 | cons c l ih =>
  intro a
  have e : valD (c :: l) = (10 * 0 + dgv c) * 10 ^ l.length + valD l := by
   show List.foldl (fun a c => 10 * a + dgv c) 0 (c :: l) = _
   rw [List.foldl_cons, ih]
  rw [List.foldl_cons, ih, e, List.length_cons, Nat.pow_succ]
  grind
theorem valD_cons (c : Int) (l : List Int) : valD (c :: l) = dgv c * 10 ^ l.length + valD l := by
 rw [valD, List.foldl_cons, valD_from]; simp
theorem valD_app (a b : List Int) : valD (a ++ b) = valD a * 10 ^ b.length + valD b := by
 rw [valD, List.foldl_append, valD_from]; rfl
theorem valD_snoc (l : List Int) (c : Int) : valD (l ++ [c]) = 10 * valD l + dgv c := by
 rw [valD_app]; simp [valD_cons, valD]; omega
theorem valD_zeros (n : Nat) : valD (List.replicate n 48) = 0 := by
 induction n with
 | zero => rfl
 | succ n ih => rw [List.replicate_succ, valD_cons, ih]; simp [dgv]
theorem dgv_le {c : Int} (h : 48 ≤ c ∧ c ≤ 57) : dgv c ≤ 9 := by unfold dgv; omega
theorem valD_lt {l : List Int} (h : digs l) : valD l < 10 ^ l.length := by
 induction l with
 | nil => decide
 | cons c l ih =>
  have h1 := dgv_le (h c (List.mem_cons_self ..))
  have h2 := ih (fun x hx => h x (List.mem_cons_of_mem _ hx))
  rw [valD_cons, List.length_cons, Nat.pow_succ]
  have := Nat.mul_le_mul_right (10 ^ l.length) h1
  omega
theorem valD_dgs : ∀ N : Nat, valD (dgs 10 N).reverse = N := by
 intro N
 induction N using Nat.strongRecOn with
 | _ N ih =>
  by_cases h0 : N = 0
  ·subst h0; rfl
  ·rw [dgs_pos (by decide) h0, List.reverse_cons, valD_snoc, ih (N / 10) (Nat.div_lt_self (by omega) (by decide))]
   have hm : N % 10 < 10 := Nat.mod_lt _ (by decide)
   rw [dgv, dg_val _ (by omega), if_pos hm]
   omega
theorem valD_pos {l : List Int} (h : digs l) : (0 < valD l) ↔ nz l = true := by
 induction l with
 | nil => simp [valD, nz]
 | cons c l ih =>
  have hc := h c (List.mem_cons_self ..)
  have hi := ih (fun x hx => h x (List.mem_cons_of_mem _ hx))
  rw [valD_cons, nz_cons]
  have hp : 0 < 10 ^ l.length := Nat.pow_pos (by decide)
  by_cases h48 : c = 48
  ·subst h48
   rw [show ((48 : Int) != 48) = false from rfl, Bool.false_or, ← hi, show dgv 48 = 0 from rfl, Nat.zero_mul, Nat.zero_add]
  ·rw [show (c != 48) = true from bne_iff_ne.mpr h48, Bool.true_or]
   have : 0 < dgv c := by unfold dgv; omega
   have := Nat.mul_pos this hp
   exact ⟨fun _ => rfl, fun _ => by omega⟩
theorem valD_set : ∀ (l : List Int) (i : Nat) (c : Int), i < l.length → valD (l.set i c) + dgv (l.getD i 0) * 10 ^ (l.length - i - 1) = valD l + dgv c * 10 ^ (l.length - i - 1) := by
 intro l
 induction l with
 | nil => intro i c h; cases h
 | cons d l ih =>
  intro i c h
  cases i with
  | zero =>
   rw [List.set_cons_zero, valD_cons, valD_cons, List.length_cons, show l.length + 1 - 0 - 1 = l.length from by omega, show (d :: l).getD 0 0 = d from rfl]
   omega
  | succ i =>
   have := ih i c (by simpa using h)
   rw [List.set_cons_succ, valD_cons, valD_cons, List.length_cons, List.length_set, show l.length + 1 - (i + 1) - 1 = l.length - i - 1 from by omega, List.getD_cons_succ]
   omega
theorem valD_plus : ∀ (i : Nat) (h : List Int), digs h → i ≤ h.length → valD (plusD h i) = valD h + 10 ^ (h.length - i)
 | 0, h, _, _ => by rw [plusD, valD_cons, show dgv 49 = 1 from rfl, Nat.one_mul, Nat.sub_zero, Nat.add_comm]
 | i + 1, h, hd, hi => by
  have hx := digs_at hd (show i < h.length by omega)
  have ep : 10 ^ (h.length - i) = 10 * 10 ^ (h.length - i - 1) := by
   rw [show h.length - i = (h.length - i - 1) + 1 from by omega, Nat.pow_succ, Nat.mul_comm]; simp
  have es : h.length - (i + 1) = h.length - i - 1 := by omega
  rw [plusD, es]
  by_cases hc : h.getD i 0 = 57
  ·rw [if_pos hc, valD_plus i (h.set i 48) (digs_set hd ⟨by omega, by omega⟩) (by rw [List.length_set]; omega), List.length_set, ep]
   have := valD_set h i 48 (by omega)
   rw [hc, show dgv 57 = 9 from rfl, show dgv 48 = 0 from rfl] at this
   omega
  ·rw [if_neg hc]
   have := valD_set h i (h.getD i 0 + 1) (by omega)
   have e1 : dgv (h.getD i 0 + 1) = dgv (h.getD i 0) + 1 := by unfold dgv; omega
   rw [e1, Nat.add_mul, Nat.one_mul] at this
   omega
def rhe (p q : Nat) : Nat := p / q + (if q < 2 * (p % q) ∨ (2 * (p % q) = q ∧ p / q % 2 = 1) then 1 else 0)
theorem rhe_one (p : Nat) : rhe p 1 = p := by
 unfold rhe; rw [Nat.mod_one, Nat.div_one, if_neg (by omega), Nat.add_zero]
theorem rhe_scale (p q c : Nat) (hc : 0 < c) : rhe (p * c) (q * c) = rhe p q := by
 unfold rhe
 rw [Nat.mul_div_mul_right p q hc, Nat.mul_mod_mul_right]
 have e1 : (q * c < 2 * (p % q * c)) = (q < 2 * (p % q)) := by
  rw [← Nat.mul_assoc]; exact propext (Nat.mul_lt_mul_right hc)
 have e2 : (2 * (p % q * c) = q * c) = (2 * (p % q) = q) := by
  rw [← Nat.mul_assoc]; exact propext ⟨fun h => Nat.eq_of_mul_eq_mul_right hc h, fun h => by rw [h]⟩
 simp only [e1, e2]
theorem rhe_mono {p p' q : Nat} (hq : 0 < q) (h : p ≤ p') : rhe p q ≤ rhe p' q := by
 have h1 : p / q ≤ p' / q := Nat.div_le_div_right h
 have d1 := Nat.div_add_mod p q
 have d2 := Nat.div_add_mod p' q
 have m1 := Nat.mod_lt p hq
 have m2 := Nat.mod_lt p' hq
 unfold rhe
 rcases Nat.lt_or_ge (p / q) (p' / q) with h2 | h2
 ·split <;> split <;> omega
 ·have e : p / q = p' / q := by omega
  rw [e] at d1 ⊢
  have h3 : p % q ≤ p' % q := by omega
  split
  ·rename_i g
   rw [if_pos (by omega)]
   omega
  ·omega
theorem rhe_le (p q : Nat) (hq : 0 < q) : rhe p q ≤ p / q + 1 := by unfold rhe; split <;> omega
theorem Rnd_val {ds : List Int} (hd : digs ds) (n : Nat) (hn : n ≤ ds.length) : valD (Rnd n ds) = rhe (valD ds) (10 ^ (ds.length - n)) := by
 have ek : keptD n ds = ds.take n := by rw [keptD, show n - ds.length = 0 from by omega, List.replicate_zero, List.append_nil]
 have el : (ds.take n).length = n := by rw [List.length_take]; omega
 have hv : valD ds = valD (ds.take n) * 10 ^ (ds.length - n) + valD (ds.drop n) := by
  conv => lhs; rw [← List.take_append_drop n ds]
  rw [valD_app, List.length_drop]
 have hr := valD_lt (digs_drop hd n)
 rw [List.length_drop] at hr
 have hp : 0 < 10 ^ (ds.length - n) := Nat.pow_pos (by decide)
 have e1 : valD ds / 10 ^ (ds.length - n) = valD (ds.take n) := by
  rw [hv, Nat.add_comm, Nat.add_mul_div_right _ _ hp, Nat.div_eq_of_lt hr, Nat.zero_add]
 have e2 : valD ds % 10 ^ (ds.length - n) = valD (ds.drop n) := by
  rw [hv, Nat.add_comm, Nat.add_mul_mod_self_right, Nat.mod_eq_of_lt hr]
 have epl : valD (plusD (ds.take n) n) = valD (ds.take n) + 1 := by
  have := valD_plus n (ds.take n) (digs_take hd n) (by omega)
  rw [el, Nat.sub_self, Nat.pow_zero] at this
  exact this
 have epar : ((48 :: ds.take n).getD n 0 % 2 == 1) = decide (valD (ds.take n) % 2 = 1) := by
  cases n with
  | zero => rw [List.take_zero]; rfl
  | succ j =>
   have hj : j < ds.length := by omega
   have hc := digs_at hd hj
   have et : ds.take (j + 1) = ds.take j ++ [ds.getD j 0] := by
    rw [List.take_add_one, List.getD_eq_getElem?_getD, List.getElem?_eq_getElem hj]; rfl
   have eg : (48 :: ds.take (j + 1)).getD (j + 1) 0 = ds.getD j 0 := by
    rw [List.getD_cons_succ, List.getD_eq_getElem?_getD, List.getD_eq_getElem?_getD, List.getElem?_take_of_lt (by omega)]
   rw [eg, et, valD_snoc]
   by_cases ho : ds.getD j 0 % 2 = 1
   ·rw [decide_eq_true (by unfold dgv; omega)]; exact beq_iff_eq.mpr ho
   ·rw [decide_eq_false (by unfold dgv; omega)]; exact beq_eq_false_iff_ne.mpr ho
 have eup : (upD ((48 :: ds.take n).getD n 0) (ds.drop n) = true) ↔ (10 ^ (ds.length - n) < 2 * valD (ds.drop n) ∨ (2 * valD (ds.drop n) = 10 ^ (ds.length - n) ∧ valD (ds.take n) % 2 = 1)) := by
  rcases Nat.lt_or_ge n ds.length with hlt | hge
  ·have ed : ds.drop n = ds.getD n 0 :: ds.drop (n + 1) := by
    rw [List.drop_eq_getElem_cons hlt, List.getD_eq_getElem?_getD, List.getElem?_eq_getElem hlt]; rfl
   have hc := digs_at hd hlt
   have hq : 0 < 10 ^ (ds.drop (n + 1)).length := Nat.pow_pos (by decide)
   have hqt := valD_lt (digs_drop hd (n + 1))
   have hz := valD_pos (digs_drop hd (n + 1))
   have eT : 10 ^ (ds.length - n) = 10 * 10 ^ (ds.drop (n + 1)).length := by
    rw [List.length_drop, show ds.length - n = (ds.length - (n + 1)) + 1 from by omega, Nat.pow_succ, Nat.mul_comm]
   rw [ed, valD_cons, eT, upD, if_neg (by rw [List.length_cons]; omega), epar, show rd (ds.getD n 0 :: ds.drop (n + 1)) 0 = ds.getD n 0 from rfl, show (ds.getD n 0 :: ds.drop (n + 1)).drop 1 = ds.drop (n + 1) from rfl]
   generalize 10 ^ (ds.drop (n + 1)).length = Q at *
   generalize valD (ds.drop (n + 1)) = R at *
   by_cases g1 : ds.getD n 0 < 53
   ·rw [if_pos g1]
    have hk : dgv (ds.getD n 0) ≤ 4 := by unfold dgv; omega
    have := Nat.mul_le_mul_right Q hk
    exact ⟨fun h => (by cases h), fun h => (by exfalso; omega)⟩
   ·rw [if_neg g1]
    by_cases g2 : ds.getD n 0 > 53
    ·rw [if_pos g2]
     have hk : 6 ≤ dgv (ds.getD n 0) := by unfold dgv; omega
     have := Nat.mul_le_mul_right Q hk
     exact ⟨fun _ => .inl (by omega), fun _ => rfl⟩
    ·rw [if_neg g2]
     have hk : dgv (ds.getD n 0) = 5 := by unfold dgv; omega
     rw [hk, Bool.or_eq_true, ← hz, decide_eq_true_iff]
     constructor
     ·rintro (h | h)
      ·exact .inl (by omega)
      ·rcases Nat.eq_zero_or_pos R with h2 | h2
       ·exact .inr ⟨by omega, h⟩
       ·exact .inl (by omega)
     ·rintro (h | ⟨h, h2⟩)
      ·exact .inl (by omega)
      ·exact .inr h2
  ·have e0 : ds.drop n = [] := List.drop_of_length_le hge
   rw [e0, show ds.length - n = 0 from by omega]
   constructor
   ·intro h; cases h
   ·rintro (h | ⟨h, _⟩)
    ·exact absurd h (by decide)
    ·exact absurd h (by decide)
 unfold rhe
 rw [e1, e2, Rnd, ek]
 by_cases hu : upD ((48 :: ds.take n).getD n 0) (ds.drop n) = true
 ·rw [if_pos hu, if_pos (eup.1 hu), epl]
 ·rw [if_neg hu, if_neg (fun h => hu (eup.2 h)), Nat.add_zero]
theorem Rnd_val_long {ds : List Int} (n : Nat) (hn : ds.length ≤ n) : valD (Rnd n ds) = valD ds * 10 ^ (n - ds.length) := by
 rw [Rnd, List.drop_of_length_le hn, show upD ((48 :: keptD n ds).getD n 0) [] = false from rfl, if_neg Bool.false_ne_true, keptD, valD_app, valD_zeros, Nat.add_zero, List.length_replicate, List.take_of_length_le hn]
def pV (d : Nat) : Nat := if d < 4503599627370496 then d else (4503599627370496 + d % 4503599627370496) * 2 ^ (d / 4503599627370496 - 1)
def pU (d : Nat) : Nat := 2 ^ (d / 4503599627370496 - 1)
theorem pV_succ (d : Nat) : pV (d + 1) = pV d + pU d := by
 unfold pV pU
 by_cases h1 : d + 1 < 4503599627370496
 ·rw [if_pos h1, if_pos (by omega), Nat.div_eq_of_lt (by omega)]
 ·rw [if_neg h1]
  by_cases h2 : d < 4503599627370496
  ·obtain rfl : d = 4503599627370496 - 1 := by omega
   rw [if_pos h2]
  ·rw [if_neg h2]
   by_cases h3 : d % 4503599627370496 + 1 < 4503599627370496
   ·have e1 : (d + 1) % 4503599627370496 = d % 4503599627370496 + 1 := by omega
    have e2 : (d + 1) / 4503599627370496 = d / 4503599627370496 := by omega
    rw [e1, e2, ← Nat.add_assoc, Nat.add_mul _ 1, Nat.one_mul]
   ·have e1 : (d + 1) % 4503599627370496 = 0 := by omega
    have e2 : (d + 1) / 4503599627370496 = d / 4503599627370496 + 1 := by omega
    have e3 : d % 4503599627370496 = 4503599627370496 - 1 := by omega
    have e4 : 1 ≤ d / 4503599627370496 := by omega
    obtain ⟨j, hj⟩ : ∃ j, d / 4503599627370496 = j + 1 := ⟨d / 4503599627370496 - 1, by omega⟩
    rw [e1, e2, e3, hj, Nat.add_sub_cancel, Nat.add_sub_cancel, Nat.pow_succ, Nat.add_zero, ← Nat.succ_mul, Nat.mul_comm (2 ^ j) 2, ← Nat.mul_assoc]
theorem pU_pos (d : Nat) : 0 < pU d := Nat.pow_pos (by decide)
theorem pV_lt_succ (d : Nat) : pV d < pV (d + 1) := by have := pU_pos d; rw [pV_succ]; omega
theorem pV_le {a b : Nat} (h : a ≤ b) : pV a ≤ pV b := by
  induction b with
  | zero => obtain rfl : a = 0 := by omega
            exact Nat.le_refl _
  | succ b ih =>
    by_cases h1 : a = b + 1
    · subst h1; exact Nat.le_refl _
    · exact Nat.le_trans (ih (by omega)) (Nat.le_of_lt (pV_lt_succ b))
structure Rd (P Q d : Nat) : Prop where
 lo : pV d * Q ≤ P
 hi : P < pV (d + 1) * Q
def tl (P Q : Nat) (more : Bool) (d : Nat) : Nat :=
 if P = pV d * Q then (if more then 1 else 0) else if 2 * P < (2 * pV d + pU d) * Q then 1 else if 2 * P = (2 * pV d + pU d) * Q then (if more then 3 else 2) else 3
theorem split_val {z : Nat} (hz : z < 9218868437227405312) : ∃ m j : Nat, m < 9007199254740992 ∧ j ≤ 2045 ∧ plumbref06_Split.f (z : Int) = some (decide (9223372036854775808 ≤ (z : Int)), (m : Int), (j : Int) - 1074, 0) ∧ m * 2 ^ j = pV z := by
 obtain ⟨q, hq⟩ : ∃ q : Nat, z / 4503599627370496 = q := ⟨_, rfl⟩
 obtain ⟨f, hf⟩ : ∃ f : Nat, z % 4503599627370496 = f := ⟨_, rfl⟩
 have e1 : Go.bits .and .u64 (z : Int) 4503599627370495 = (f : Int) := by
  rw [show Go.bits .and .u64 (z : Int) 4503599627370495 = (z : Int) % 2 ^ 52 from and_mask (by omega) (by omega) 52 (by omega) _ rfl, show (2 : Int) ^ 52 = 4503599627370496 from by decide]
  omega
 have e2 : wrap64 (Go.bits .and .u64 ((z : Int) / 4503599627370496) 2047) = (q : Int) := by
  rw [show Go.bits .and .u64 ((z : Int) / 4503599627370496) 2047 = ((z : Int) / 4503599627370496) % 2 ^ 11 from and_mask (by omega) (by omega) 11 (by omega) _ rfl, show (2 : Int) ^ 11 = 2048 from by decide, w64_of (by omega) (by omega)]
  omega
 have e3 : (((z : Int) / 9223372036854775808) == 1) = decide (9223372036854775808 ≤ (z : Int)) := by
  rw [decide_eq_false (by omega)]; exact beq_eq_false_iff_ne.mpr (by omega)
 rw [plumbref06_Split.f, plumbref06_fields.f, Option.bind_some, e1, e2, e3]
 simp only []
 rw [if_neg (by omega)]
 by_cases g0 : q = 0
 ·refine ⟨f, 0, by omega, by omega, ?_, ?_⟩
  ·rw [if_pos (by omega)]; rfl
  ·rw [pV, if_pos (by omega), Nat.pow_zero, Nat.mul_one]; omega
 ·refine ⟨4503599627370496 + f, q - 1, by omega, by omega, ?_, ?_⟩
  ·rw [if_neg (by omega), u64w, w64_of (by omega) (by omega), Int.emod_eq_of_lt (by omega) (by omega), show (((q - 1 : Nat) : Int) - 1074) = (q : Int) - 1075 from by omega]
   rfl
  ·rw [pV, if_neg (by omega), hq, hf]
theorem text_val (N t T : Nat) (hN : N ≠ 0) (h : N < 2 ^ t) (ht : t ≤ T) (hT : T = 262144) (k : Nat) (hk : 90000000000 < k) :
  ∃ (u v : Nat), N = u * 10 ^ v ∧ u ≠ 0 ∧ ((dgs 10 u).reverse).length ≤ 262144 ∧ v ≤ 262144 ∧ radix_Trim.f k (wd N) = some (wd u, (v : Int)) ∧ radix_Text.f k (wd u) 10 = some (strOfNums (dgs 10 u).reverse, 0) := by
 obtain ⟨u, v, e, hu⟩ := tens_split N hN
 have hu0 : u ≠ 0 := fun h => hu (by rw [h])
 have hb := lt_top N t T h ht hT
 have hle : u ≤ N := by rw [e]; exact Nat.le_mul_of_pos_right u (Nat.pow_pos (by decide))
 have hub := lt_top u t T (Nat.lt_of_le_of_lt hle h) ht hT
 have hv : v < T := tens_few (Nat.lt_of_lt_of_le h (Nat.pow_le_pow_right (by decide) ht)) e hu0
 have hl : (wd N).length ≤ 4096 := by have := bnd_fst_len (N : Int); rw [bnd_small hb] at this; exact this
 have hlu : (wd u).length ≤ 4096 := by have := bnd_fst_len (u : Int); rw [bnd_small hub] at this; exact this
 have en : (nv (wd N)).toNat = u * 10 ^ v := by rw [nv_wd, Int.toNat_natCast]; exact e
 have enu : (nv (wd u)).toNat = u := by rw [nv_wd, Int.toNat_natCast]
 have hd : (dgs 10 u).length ≤ T := dgs_length_bits (by decide) (Nat.lt_of_le_of_lt hle (Nat.lt_of_lt_of_le h (Nat.pow_le_pow_right (by decide) ht)))
 refine ⟨u, v, e, hu0, ?_, ?_, ?_, ?_⟩
 ·rw [List.length_reverse, ← hT]; exact hd
 ·rw [← hT]; exact Nat.le_of_lt hv
 ·exact radix_Trim.f_eq (wd N) (wd_ws N) (Nat.le_trans hl (by decide)) (by rw [nv_wd]; exact hb) u v hu en k (by omega)
 ·have := radix_Text.f_eq 10 (by decide) (by decide) (wd u) (wd_ws u) (Nat.le_trans hlu (by decide)) (by rw [nv_wd]; exact hub) k (by omega)
  rw [enu] at this
  unfold txt at this
  rw [if_neg hu0] at this
  exact this
theorem all_val {z : Nat} (hz : z < 9218868437227405312) (K : Nat) (hK : K = 1074) (k : Nat) (hk : 90000000000 < k) :
  (pV z = 0 ∧ expand_all.f k (z : Int) = some ([], 0, 0)) ∨
  ∃ (ds : List Int) (E : Int), Dg ds ∧ ds.length ≤ 262144 ∧ -(K : Int) ≤ E ∧ E ≤ 262144 ∧ expand_all.f k (z : Int) = some (ds, E, 0) ∧ valD ds * 10 ^ (E + K).toNat = pV z * 5 ^ K := by
 obtain ⟨T, hT⟩ : ∃ T : Nat, T = 262144 := ⟨_, rfl⟩
 obtain ⟨m, j, hm, hj, hs, hV⟩ := split_val hz
 have hsp := (split_eq (a := (z : Int)) (by omega) (by omega) k (by omega)).trans hs
 rw [expand_all.f, hsp, Option.bind_some, if_pos rfl]
 clear hs hsp
 simp only []
 rw [← hV]
 clear hV hz
 by_cases hm0 : m = 0
 ·subst hm0
  rw [if_pos (show ((0 : Nat) : Int) = 0 from rfl), Nat.zero_mul]
  exact .inl ⟨rfl, rfl⟩
 ·refine .inr ?_
  have g0 : ¬ ((m : Nat) : Int) = 0 := by omega
  have ew := wd_word hm0 (by omega)
  have wsm : Ws [(m : Int)] := by rw [← ew]; exact wd_ws m
  have nvm : nv [(m : Int)] = (m : Int) := by rw [← ew, nv_wd]
  rw [if_neg g0, nat_From.f_eq m (by omega), Option.bind_some, ew]
  by_cases he : (j : Int) - 1074 ≥ 0
  ·obtain ⟨n, hn⟩ : ∃ n : Nat, j = n + K := ⟨j - K, by omega⟩
   have hn2 : (j : Int) - 1074 = (n : Int) := by omega
   rw [hn2] at he ⊢
   have hN : m * 2 ^ n ≠ 0 := Nat.mul_ne_zero hm0 (Nat.ne_of_gt (Nat.pow_pos (by decide)))
   have hb : m * 2 ^ n < 2 ^ (53 + n) := by
    rw [Nat.pow_add]; exact Nat.mul_lt_mul_of_pos_right (Nat.lt_of_lt_of_le hm (by decide)) (Nat.pow_pos (by decide))
   obtain ⟨u, v, hu, hu0, hl, hv, t1, t3⟩ := text_val (m * 2 ^ n) (53 + n) T hN hb (by omega) hT k hk
   have hD := dgs_Dg hu0
   have ec : (m : Int) * 2 ^ n = ((m * 2 ^ n : Nat) : Int) := by rw [Int.natCast_mul, p2cast]
   have s1 := nat_Shl.f_eq [(m : Int)] wsm (by rw [List.length_singleton]; omega) (n : Int) (by omega) k (by omega)
   rw [if_neg (by omega), nvm, if_neg g0, Int.toNat_natCast, ec, bnd_small (lt_top _ _ T hb (by omega) hT), Int.toNat_natCast] at s1
   refine ⟨(dgs 10 u).reverse, (v : Int), hD, hl, by omega, by omega, ?_, ?_⟩
   ·rw [if_pos he, s1, Option.bind_some]
    simp only []
    rw [t1, Option.bind_some]
    simp only []
    rw [t3, Option.bind_some]
    simp only []
    rw [if_pos (by rw [strOfNums_size]; omega), bytesD (fun c hc => by have := hD.2.1 c hc; omega), Int.zero_add, w64_of (by omega) (by omega)]
   ·rw [valD_dgs, show ((v : Int) + K).toNat = v + K from by omega, hn]
    rw [Nat.pow_add 10, ← Nat.mul_assoc, ← hu, show 10 = 2 * 5 from rfl, Nat.mul_pow, Nat.pow_add 2 n K]
    simp only [Nat.mul_assoc]
  ·obtain ⟨n, hn⟩ : ∃ n : Nat, n + j = K := ⟨K - j, by omega⟩
   have hn2 : (j : Int) - 1074 = -(n : Int) := by omega
   rw [hn2] at he ⊢
   have hN : m * 5 ^ n ≠ 0 := Nat.mul_ne_zero hm0 (Nat.ne_of_gt (Nat.pow_pos (by decide)))
   have hb : m * 5 ^ n < 2 ^ (53 + 3 * n) := by
    rw [Nat.pow_add]; exact Nat.lt_of_lt_of_le (Nat.mul_lt_mul_of_pos_right (Nat.lt_of_lt_of_le hm (by decide)) (Nat.pow_pos (by decide))) (Nat.mul_le_mul_left _ (five_pow n))
   obtain ⟨u, v, hu, hu0, hl, hv, t1, t3⟩ := text_val (m * 5 ^ n) (53 + 3 * n) T hN hb (by omega) hT k hk
   have hD := dgs_Dg hu0
   have e5 : (5 : Int) ^ n = ((5 ^ n : Nat) : Int) := by rw [Int.natCast_pow]; rfl
   have h5 : (5 ^ n : Nat) < 2 ^ (3 * n + 1) := Nat.lt_of_le_of_lt (five_pow n) (Nat.pow_lt_pow_right (by decide) (by omega))
   have l5 : (wd (5 ^ n)).length ≤ 4096 := by have := bnd_fst_len ((5 ^ n : Nat) : Int); rw [bnd_small (lt_top _ _ T h5 (by omega) hT)] at this; exact this
   have n5 : nv (wd (5 ^ n)) = ((5 ^ n : Nat) : Int) := nv_wd _
   have ec : (m : Int) * ((5 ^ n : Nat) : Int) = ((m * 5 ^ n : Nat) : Int) := (Int.natCast_mul _ _).symm
   have s1 := radix_Five.f_eq (n : Int) (by omega) k (by omega)
   rw [if_neg (by omega), if_neg (by omega), Int.toNat_natCast, e5, Int.toNat_natCast] at s1
   have s2 := nat_Mul.f_eq [(m : Int)] (wd (5 ^ n)) wsm (wd_ws _) (by rw [List.length_singleton]; omega) (Nat.le_trans l5 (by decide)) k (by rw [List.length_singleton]; omega)
   rw [nvm, n5, ec, if_neg (by omega), bnd_small (lt_top _ _ T hb (by omega) hT), Int.toNat_natCast] at s2
   have w1 : wrap64 (-(-(n : Int))) = (n : Int) := by rw [Int.neg_neg, w64_of (by omega) (by omega)]
   refine ⟨(dgs 10 u).reverse, -(n : Int) + (v : Int), hD, hl, by omega, by omega, ?_, ?_⟩
   ·rw [if_neg he, w1, s1, Option.bind_some]
    simp only []
    rw [s2, Option.bind_some]
    simp only []
    rw [t1, Option.bind_some]
    simp only []
    rw [t3, Option.bind_some]
    simp only []
    rw [if_pos (by rw [strOfNums_size]; omega), bytesD (fun c hc => by have := hD.2.1 c hc; omega), w64_of (by omega) (by omega)]
   ·rw [valD_dgs, show (-(n : Int) + (v : Int) + K).toNat = v + j from by omega]
    rw [← hn, Nat.pow_add 10, ← Nat.mul_assoc, ← hu, show 10 = 2 * 5 from rfl, Nat.mul_pow, Nat.pow_add 5 n j]
    simp only [Nat.mul_assoc, Nat.mul_left_comm, Nat.mul_comm]
def rowD (ds : List Int) (E : Int) (n : Nat) : List Int := if (ds.length : Int) + E + n ≥ 0 then Rnd ((ds.length : Int) + E + n).toNat ds else []
theorem row_val {ds : List Int} {E : Int} (hd : digs ds) (K V n : Nat) (hE : -(K : Int) ≤ E) (hv : valD ds * 10 ^ (E + K).toNat = V) : valD (rowD ds E n) = rhe (V * 10 ^ n) (10 ^ K) := by
 subst hv
 rw [rowD]
 have hlt := valD_lt hd
 by_cases hA : (ds.length : Int) + E + n ≥ 0
 ·rw [if_pos hA]
  by_cases hB : E + n ≤ 0
  ·obtain ⟨c, hc⟩ : ∃ c : Nat, E + n = -(c : Int) := ⟨(-(E + n)).toNat, by omega⟩
   rw [Rnd_val hd _ (by omega), show ds.length - ((ds.length : Int) + E + n).toNat = c from by omega]
   obtain ⟨d, hd2⟩ : ∃ d : Nat, K = c + d := ⟨K - c, by omega⟩
   rw [Nat.mul_assoc, ← Nat.pow_add, show (E + K).toNat + n = d from by omega, hd2, Nat.pow_add 10 c d]
   exact (rhe_scale _ _ _ (Nat.pow_pos (by decide))).symm
  ·obtain ⟨c, hc⟩ : ∃ c : Nat, E + n = (c : Int) := ⟨(E + n).toNat, by omega⟩
   rw [Rnd_val_long _ (by omega), show ((ds.length : Int) + E + n).toNat - ds.length = c from by omega, Nat.mul_assoc, ← Nat.pow_add, show (E + K).toNat + n = c + K from by omega, Nat.pow_add, ← Nat.mul_assoc]
   have hK0 : 0 < 10 ^ K := Nat.pow_pos (by decide)
   have h := rhe_scale (valD ds * 10 ^ c) 1 (10 ^ K) hK0
   rw [Nat.one_mul, rhe_one] at h
   exact h.symm
 ·rw [if_neg hA]
  show 0 = _
  rw [Nat.mul_assoc, ← Nat.pow_add]
  obtain ⟨g, hg⟩ : ∃ g : Nat, K = ds.length + ((E + K).toNat + n) + 1 + g := ⟨K - (ds.length + ((E + K).toNat + n) + 1), by omega⟩
  have hp : valD ds * 10 ^ ((E + K).toNat + n) < 10 ^ (ds.length + ((E + K).toNat + n)) := by
   have h0 : 0 < 10 ^ ((E + K).toNat + n) := Nat.pow_pos (by decide)
   rw [Nat.pow_add 10 ds.length]; exact Nat.mul_lt_mul_of_pos_right hlt h0
  have hq : 10 * 10 ^ (ds.length + ((E + K).toNat + n)) ≤ 10 ^ K := by
   rw [Nat.mul_comm, ← Nat.pow_succ]; exact Nat.pow_le_pow_right (by decide) (by omega)
  generalize valD ds * 10 ^ ((E + K).toNat + n) = P at *
  generalize 10 ^ (ds.length + ((E + K).toNat + n)) = R at *
  generalize 10 ^ K = Q at *
  unfold rhe
  rw [Nat.div_eq_of_lt (by omega), Nat.mod_eq_of_lt (by omega), if_neg (by omega)]
def ptD (P : List Int) (n : Nat) : List Int := P.take (P.length - n) ++ (if n = 0 then [] else 46 :: P.drop (P.length - n))
theorem dotD : (⟨#[46]⟩ : ByteArray) = strOfNums [46] := ba_ext rfl
theorem j1_text {z : Nat} (hz : z < 9218868437227405312) (n : Nat) (hn : n ≤ 4000000) (P : List Int) (hP : n + 1 ≤ P.length) (hl : P.length ≤ 4000000) (k : Nat) (hk : 2 < k) :
  expand_Fixed.j1 k (z : Int) (n : Int) P = some (strOfNums (ptD P n), 0) := by
 obtain ⟨k, rfl⟩ : ∃ j, k = j + 1 := ⟨k - 1, by omega⟩
 obtain ⟨m, j, hm, hj, hs, hV⟩ := split_val hz
 have hsp := (split_eq (a := (z : Int)) (by omega) (by omega) k (by omega)).trans hs
 have e1 : wrap64 ((P.length : Int) - (n : Int)) = ((P.length - n : Nat) : Int) := by rw [w64_of (by omega) (by omega)]; omega
 have l1 : (P.take (P.length - n)).length = P.length - n := by rw [List.length_take]; omega
 have l2 : (P.drop (P.length - n)).length = n := by rw [List.length_drop]; omega
 have hg : ¬ (9223372036854775808 : Int) ≤ (z : Int) := by omega
 rw [expand_Fixed.j1, e1, if_pos (by omega), if_pos (by omega), Option.bind_some, Int.toNat_natCast, hsp]
 by_cases hn0 : n = 0
 ·rw [if_neg (by omega), Option.bind_some]
  simp only []
  rw [decide_eq_false hg, if_neg Bool.false_ne_true, ptD, if_pos hn0, List.append_nil]
 ·rw [if_pos (by omega), Option.bind_some, if_pos (by rw [strOfNums_size, l2]; omega), if_pos (by rw [ByteArray.size_append, dot_size, strOfNums_size, strOfNums_size, l1, l2]; omega), Option.bind_some]
  simp only []
  rw [decide_eq_false hg, if_neg Bool.false_ne_true, ptD, if_neg hn0, dotD, appD, appD]
  rfl
theorem fixed_val {z : Nat} (hz : z < 9218868437227405312) (n : Nat) (hn : n ≤ 1100) (K : Nat) (hK : K = 1074) (k : Nat) (hk : 90000000010 < k) :
  ∃ P : List Int, digs P ∧ n + 1 ≤ P.length ∧ P.length ≤ 4000000 ∧ valD P = rhe (pV z * 5 ^ K * 10 ^ n) (10 ^ K) ∧ expand_Fixed.f k (z : Int) (n : Int) = some (strOfNums (ptD P n), 0) := by
 obtain ⟨k, rfl⟩ : ∃ j, k = j + 1 := ⟨k - 1, by omega⟩
 have ew : wrap64 ((n : Int) + 1) = ((n + 1 : Nat) : Int) := by rw [w64_of (by omega) (by omega)]; omega
 have tl : ∀ W : List Int, digs W → W.length ≤ 3000000 → ∃ P : List Int, digs P ∧ n + 1 ≤ P.length ∧ P.length ≤ 4000000 ∧ valD P = valD W ∧
   (if (W.length : Int) < wrap64 ((n : Int) + 1) then ((bytes_Repeat.f [48] (wrap64 ((wrap64 ((n : Int) + 1)) - (W.length : Int)))).bind fun t => (if t.length + W.length < 140737488355328 then expand_Fixed.j1 k (z : Int) (n : Int) (t ++ W) else none)) else expand_Fixed.j1 k (z : Int) (n : Int) W) = some (strOfNums (ptD P n), 0) := by
  intro W hd hl
  rw [ew]
  by_cases h : W.length < n + 1
  ·have ez : wrap64 (((n + 1 : Nat) : Int) - (W.length : Int)) = ((n + 1 - W.length : Nat) : Int) := by rw [w64_of (by omega) (by omega)]; omega
   have hlen : (List.replicate (n + 1 - W.length) (48 : Int) ++ W).length = n + 1 := by rw [List.length_append, List.length_replicate]; omega
   refine ⟨List.replicate (n + 1 - W.length) (48 : Int) ++ W, digs_app (digs_rep _) hd, by omega, by omega, by rw [valD_app, valD_zeros, Nat.zero_mul, Nat.zero_add], ?_⟩
   rw [if_pos (by omega), ez, repeat_eq _ (by omega) (by omega), Option.bind_some, if_pos (by rw [List.length_replicate]; omega)]
   exact j1_text hz n (by omega) _ (by omega) (by omega) k (by omega)
  ·refine ⟨W, hd, by omega, by omega, rfl, ?_⟩
   rw [if_neg (by omega)]
   exact j1_text hz n (by omega) W (by omega) (by omega) k (by omega)
 rw [expand_Fixed.f, if_neg (by omega), decide_eq_false (by omega), expand_Fixed.j0, if_neg Bool.false_ne_true]
 rcases all_val hz K hK k (by omega) with ⟨hv, e1⟩ | ⟨ds, E, hD, hl, hE1, hE2, e1, hv⟩
 ·rw [e1, Option.bind_some, if_pos rfl]
  simp only []
  have w1 : wrap64 (wrap64 ((([] : List Int).length : Int) + 0) + (n : Int)) = (n : Int) := by
   rw [show wrap64 ((([] : List Int).length : Int) + 0) = 0 from by rw [List.length_nil, w64_of (by omega) (by omega)]; rfl, Int.zero_add, w64_of (by omega) (by omega)]
  rw [w1, cut_eq [] (fun c hc => by cases hc) n (by omega) (by decide) k (by omega), Option.bind_some]
  obtain ⟨P, p1, p2, p3, p4, p5⟩ := tl (Rnd n []) (Rnd_digs (fun c hc => by cases hc) n) (by have := (Rnd_length n []).2; omega)
  refine ⟨P, p1, p2, p3, ?_, p5⟩
  rw [p4, Rnd_val_long n (Nat.zero_le _), hv, Nat.zero_mul, Nat.zero_mul, show valD [] = 0 from rfl, Nat.zero_mul]
  unfold rhe
  rw [Nat.zero_div, Nat.zero_mod, if_neg (by have : 0 < 10 ^ K := Nat.pow_pos (by decide); omega)]
 ·have hr := row_val (E := E) hD.2.1 K _ n hE1 hv
  rw [e1, Option.bind_some, if_pos rfl]
  simp only []
  have ew2 : wrap64 (wrap64 ((ds.length : Int) + E) + (n : Int)) = (ds.length : Int) + E + n := by
   rw [w64_of (x := (ds.length : Int) + E) (by omega) (by omega), w64_of (by omega) (by omega)]
  rw [ew2]
  have hcut : expand_cut.f k ds ((ds.length : Int) + E + n) = some (rowD ds E n) := by
   rw [rowD]
   by_cases hA : (ds.length : Int) + E + n ≥ 0
   ·obtain ⟨A, hA2⟩ : ∃ A : Nat, (ds.length : Int) + E + n = (A : Int) := ⟨((ds.length : Int) + E + n).toNat, by omega⟩
    rw [if_pos hA, hA2, cut_eq ds hD.2.1 A (by omega) (by omega) k (by omega), Int.toNat_natCast]
   ·rw [if_neg hA, cut_neg ds _ (by omega) k]
  have hdr : digs (rowD ds E n) := by
   rw [rowD]; split
   ·exact Rnd_digs hD.2.1 _
   ·intro c hc; cases hc
  have hlr : (rowD ds E n).length ≤ 3000000 := by
   rw [rowD]; split
   ·have := (Rnd_length ((ds.length : Int) + E + n).toNat ds).2
    omega
   ·decide
  rw [hcut, Option.bind_some]
  obtain ⟨P, p1, p2, p3, p4, p5⟩ := tl _ hdr hlr
  exact ⟨P, p1, p2, p3, p4.trans hr, p5⟩
theorem bt_strB {xs : List Int} (h : ∀ c ∈ xs, 0 ≤ c ∧ c < 256) {i : Nat} (hi : i < xs.length) : bt (strOfNums xs) (i : Int) = xs.getD i 0 := by
 have hs : i < (strOfNums xs).size := by rw [strOfNums_size]; exact hi
 unfold bt
 rw [dif_pos (by rw [Int.toNat_natCast]; exact hs)]
 have e : (strOfNums xs)[((i : Nat) : Int).toNat]'(by rw [Int.toNat_natCast]; exact hs) = tobD (xs.getD i 0) := by
  show (strOfNums xs).data[((i : Nat) : Int).toNat]'_ = _
  rw [← Array.getElem_toList]
  have := List.getElem_of_eq (strD xs) (i := ((i : Nat) : Int).toNat) (by rw [strD, List.length_map, Int.toNat_natCast]; exact hi)
  rw [this, List.getElem_map]
  congr 1
  rw [List.getD_eq_getElem?_getD, List.getElem?_eq_getElem hi]
  rfl
 rw [e]
 have := h _ (getD_mem hi)
 exact tobD_toNat (by omega) (by omega)
theorem without_l (L : List Int) (hL : ∀ c ∈ L, 46 ≤ c ∧ c ≤ 57) (hl : L.length ≤ 5000000) : ∀ (d k i : Nat) (acc : List Int), i + d = L.length → d < k → acc.length ≤ i →
  plumblaw13_without.l0 k (strOfNums L) acc (i : Int) = some (strOfNums (acc ++ (L.drop i).filter (fun c => c != 46))) := by
 intro d
 induction d with
 | zero =>
  intro k i acc h1 hk h2
  obtain ⟨k, rfl⟩ : ∃ j, k = j + 1 := ⟨k - 1, by omega⟩
  rw [plumblaw13_without.l0, if_neg (by rw [strOfNums_size]; omega), List.drop_of_length_le (by omega), List.filter_nil, List.append_nil]
 | succ d ih =>
  intro k i acc h1 hk h2
  obtain ⟨k, rfl⟩ : ∃ j, k = j + 1 := ⟨k - 1, by omega⟩
  have hi : i < L.length := by omega
  have ed : L.drop i = L.getD i 0 :: L.drop (i + 1) := by
   rw [List.drop_eq_getElem_cons hi, List.getD_eq_getElem?_getD, List.getElem?_eq_getElem hi]; rfl
  have eb := bt_strB (xs := L) (fun c hc => by have := hL c hc; omega) hi
  have hc := hL _ (getD_mem hi)
  have ew : wrap64 ((i : Int) + 1) = ((i + 1 : Nat) : Int) := by rw [w64_of (by omega) (by omega)]; omega
  rw [plumblaw13_without.l0, if_pos (by rw [strOfNums_size]; omega), if_pos (by omega), eb, ew, ed, if_neg (by omega), List.filter_cons]
  by_cases h46 : L.getD i 0 = 46
  ·rw [if_pos h46, ih k (i + 1) acc (by omega) (by omega) (by omega), if_neg (by rw [h46]; decide)]
  ·rw [if_neg h46, if_pos (by omega), ih k (i + 1) (acc ++ [L.getD i 0]) (by omega) (by omega) (by rw [List.length_append, List.length_singleton]; omega), if_pos (bne_iff_ne.mpr h46), List.append_assoc]
   rfl
theorem filt_digs {L : List Int} (h : digs L) : L.filter (fun c => c != 46) = L := by
 apply List.filter_eq_self.mpr
 intro c hc
 have := h c hc
 exact bne_iff_ne.mpr (by omega)
theorem ptD_filt {P : List Int} (h : digs P) (n : Nat) : (ptD P n).filter (fun c => c != 46) = P := by
 rw [ptD, List.filter_append, filt_digs (digs_take h _)]
 by_cases hn : n = 0
 ·subst hn
  rw [if_pos rfl, List.filter_nil, List.append_nil, Nat.sub_zero, List.take_length]
 ·rw [if_neg hn, List.filter_cons, if_neg (by decide), filt_digs (digs_drop h _), List.take_append_drop]
theorem ptD_mem {P : List Int} (h : digs P) (n : Nat) : ∀ c ∈ ptD P n, 46 ≤ c ∧ c ≤ 57 := by
 intro c hc
 rw [ptD] at hc
 rcases List.mem_append.1 hc with hc | hc
 ·have := digs_take h _ c hc; omega
 ·by_cases hn : n = 0
  ·rw [if_pos hn] at hc; cases hc
  ·rw [if_neg hn] at hc
   rcases List.mem_cons.1 hc with rfl | hc
   ·omega
   ·have := digs_drop h _ c hc; omega
theorem ptD_length (P : List Int) (n : Nat) : (ptD P n).length ≤ P.length + 1 := by
 rw [ptD, List.length_append, List.length_take]
 by_cases hn : n = 0
 ·rw [if_pos hn, List.length_nil]; omega
 ·rw [if_neg hn, List.length_cons, List.length_drop]; omega
theorem without_eq {P : List Int} (h : digs P) (n : Nat) (hl : P.length ≤ 4000000) (k : Nat) (hk : 5000000 < k) : plumblaw13_without.f k (strOfNums (ptD P n)) = some (strOfNums P) := by
 have h1 := ptD_length P n
 have := without_l (ptD P n) (ptD_mem h n) (by omega) (ptD P n).length k 0 [] (by omega) (by omega) (Nat.le_refl _)
 rw [plumblaw13_without.f]
 rw [List.drop_zero, ptD_filt h, List.nil_append] at this
 exact this
theorem pow_big {b m n : Nat} (hb : 2 ≤ b) (h : m ≤ n) : 2 ^ m ≤ b ^ n := Nat.le_trans (Nat.pow_le_pow_left hb m) (Nat.pow_le_pow_right (by omega) h)
theorem ex_data (s : ByteArray) (a : Nat) : (s.extract 0 a).data.toList = s.data.toList.take a := by simp
theorem ex_data2 (s : ByteArray) (a : Nat) : (s.extract a s.size).data.toList = s.data.toList.drop a := by
 simp
 exact List.take_of_length_le (by simp)
theorem ex_size (s : ByteArray) (a : Nat) (h : a ≤ s.size) : (s.extract 0 a).size = a := by
 rw [← size_data, ex_data, List.length_take, size_data]; omega
theorem ex_size2 (s : ByteArray) (a : Nat) : (s.extract a s.size).size = s.size - a := by
 rw [← size_data, ex_data2, List.length_drop, size_data]
theorem gd_take {b : Nat} {L : List UInt8} (h : gd b L) (a : Nat) : gd b (L.take a) := fun c hc => h c (List.mem_of_mem_take hc)
theorem gd_drop {b : Nat} {L : List UInt8} (h : gd b L) (a : Nat) : gd b (L.drop a) := fun c hc => h c (List.mem_of_mem_drop hc)
theorem vl_split (b : Nat) (L : List UInt8) (a : Nat) : vl b L = vl b (L.take a) * b ^ (L.drop a).length + vl b (L.drop a) := by
 rw [← vl_append, List.take_append_drop]
theorem radix_Parse.l2_eq (b : Nat) (hb : b ≤ 36) (x0 : ByteArray) (x8 x9 : Int) (x10 : List Int) (x11 : Int) (c : Nat) (hc : c ≤ 66) (hp : b ^ c < 18446744073709551616) (hb2 : 2 ≤ b) : ∀ (d k i : Nat), i + d = c → radix_Parse.l2 (k + d + 1) x0 b x8 x9 x10 x11 ((b ^ i : Nat) : Int) c i = radix_Parse.j4 k x0 b x8 x9 x10 x11 ((b ^ c : Nat) : Int) := by
 intro d
 induction d with
 | zero =>
  intro k i hi
  obtain rfl : i = c := by omega
  conv => lhs; unfold radix_Parse.l2
  rw [if_neg (Int.lt_irrefl _)]
 | succ d ih =>
  intro k i hi
  have hle : b ^ (i + 1) ≤ b ^ c := Nat.pow_le_pow_right (by omega) (by omega)
  have eb : IntKind.u64.wrap (b : Int) = (b : Int) := u64w_of (by omega) (by omega)
  have ep : IntKind.u64.wrap (((b ^ i : Nat) : Int) * (b : Int)) = ((b ^ (i + 1) : Nat) : Int) := by
   rw [← Int.natCast_mul, ← Nat.pow_succ]
   exact u64w_of (Int.natCast_nonneg _) (Int.ofNat_lt.2 (Nat.lt_of_le_of_lt hle hp))
  have ew := w64_succ i (by omega)
  have c1 : (i : Int) < (c : Int) := Int.ofNat_lt.2 (by omega)
  rw [show k + (d + 1) + 1 = (k + d + 1) + 1 from by omega]
  conv => lhs; unfold radix_Parse.l2
  rw [if_pos c1, eb, ep, ew]
  exact ih k (i + 1) (by omega)
theorem bnd_mono {m n : Int} (h : m ≤ n) (hm : (bnd m).2 ≠ 0) : bnd n = ([], 21) := by
 apply bnd_big
 apply Int.not_lt.1
 intro h1
 rw [bnd_small (Int.lt_of_le_of_lt h h1)] at hm
 exact hm rfl
theorem bnd_err {m : Int} (hm : (bnd m).2 ≠ 0) : (bnd m).2 = 21 := by
 unfold bnd at hm ⊢
 split at hm
 ·exact absurd rfl hm
 ·rw [if_neg (by assumption)]
theorem bnd_ok {m : Int} (hm : (bnd m).2 = 0) : m < (2 : Int) ^ 262144 := by
 apply Classical.byContradiction
 intro h
 rw [bnd_big (Int.not_lt.1 h)] at hm
 exact absurd hm (by decide)
theorem radix_Parse.j4_eq (b : Nat) (hb2 : 2 ≤ b) (hb : b ≤ 36) (s : ByteArray) (hg : gd b s.data.toList) (x8 x9 : Int) (x : List Int) (hw : Ws x) (hs : strip x = x) (hl : x.length ≤ 4096) (c : Nat) (hc1 : 1 ≤ c) (hc : c ≤ s.size) (hp : b ^ c < 18446744073709551616) (k : Nat) (hk : 20000000 < k)
  (hrec : ∀ y, Ws y → strip y = y → y.length ≤ 4096 → radix_Parse.l1 k (s.extract c s.size) b x8 x9 y = some (bnd (nv y * ((b ^ (s.size - c) : Nat) : Int) + ((vl b (s.data.toList.drop c) : Nat) : Int)))) :
  radix_Parse.j4 (k + 1) s b x8 x9 x c ((b ^ c : Nat) : Int) = some (bnd (nv x * ((b ^ s.size : Nat) : Int) + ((vl b s.data.toList : Nat) : Int))) := by
 have hn := nv_nonneg hw
 have hP : 0 < b ^ c := Nat.pow_pos (by omega)
 have hQ : 0 < b ^ (s.size - c) := Nat.pow_pos (by omega)
 have lw : (wd (b ^ c)).length ≤ 1 := wd_length_le (m := 1) (by exact hp)
 have gt := gd_take hg c
 have ltl : (s.data.toList.take c).length = c := by rw [List.length_take, size_data]; omega
 have ldl : (s.data.toList.drop c).length = s.size - c := by rw [List.length_drop, size_data]
 have hv := vl_lt gt
 rw [ltl] at hv
 have hW : vl b (s.data.toList.take c) < 18446744073709551616 := Nat.lt_trans hv hp
 have esz : b ^ s.size = b ^ c * b ^ (s.size - c) := by rw [← Nat.pow_add]; congr 1; omega
 have evl := vl_split b s.data.toList c
 rw [ldl] at evl
 have hword : radix_word.f (s.extract 0 c) b = some ((vl b (s.data.toList.take c) : Nat) : Int) := by
  have := radix_word.f_eq b hb2 hb (s.extract 0 c) (by rw [ex_data]; exact gt) (by rw [ex_size s c hc]; exact Nat.le_of_lt hp)
  rw [ex_data] at this
  exact this
 have hm1 : x.length * ((wd (b ^ c)).length + 2) ≤ 4096 * 3 := Nat.mul_le_mul hl (Nat.add_le_add_right lw 2)
 have q1 : (0 : Int) ≤ (c : Int) := Int.natCast_nonneg _
 have q2 : (c : Int) ≤ (s.size : Int) := Int.ofNat_le.2 hc
 have etot : nv x * ((b ^ s.size : Nat) : Int) + ((vl b s.data.toList : Nat) : Int) = (nv x * ((b ^ c : Nat) : Int) + ((vl b (s.data.toList.take c) : Nat) : Int)) * ((b ^ (s.size - c) : Nat) : Int) + ((vl b (s.data.toList.drop c) : Nat) : Int) := by
  rw [esz, evl]
  simp only [Int.natCast_mul, Int.natCast_add]
  generalize ((b ^ c : Nat) : Int) = p
  generalize ((b ^ (s.size - c) : Nat) : Int) = q
  grind
 have hge : nv x * ((b ^ c : Nat) : Int) + ((vl b (s.data.toList.take c) : Nat) : Int) ≤ nv x * ((b ^ s.size : Nat) : Int) + ((vl b s.data.toList : Nat) : Int) := by
  rw [etot]
  have h0 : 0 ≤ nv x * ((b ^ c : Nat) : Int) + ((vl b (s.data.toList.take c) : Nat) : Int) := Int.add_nonneg (Int.mul_nonneg hn (Int.natCast_nonneg _)) (Int.natCast_nonneg _)
  generalize nv x * ((b ^ c : Nat) : Int) + ((vl b (s.data.toList.take c) : Nat) : Int) = z at h0 ⊢
  have h1 : z * 1 ≤ z * ((b ^ (s.size - c) : Nat) : Int) := Int.mul_le_mul_of_nonneg_left (Int.ofNat_lt.2 hQ) h0
  rw [Int.mul_one] at h1
  exact Int.le_trans h1 (Int.le_add_of_nonneg_right (Int.natCast_nonneg _))
 have hmul : nat_Mul.f k x (wd (b ^ c)) = some (bnd (nv x * ((b ^ c : Nat) : Int))) := by
  rw [nat_Mul.f_eq x (wd (b ^ c)) hw (wd_ws _) (Nat.le_trans hl (by decide)) (Nat.le_trans lw (by decide)) k (by clear etot hge; omega), nv_wd]
  congr 1
  by_cases h0 : nv x * ((b ^ c : Nat) : Int) = 0
  ·rw [if_pos h0, h0, bnd_small (two_pow_pos 262144)]
   show _ = (wd 0, 0)
   rw [wd_zero]
  ·rw [if_neg h0]
 rw [radix_Parse.j4, nat_From.f_eq _ hp, Option.bind_some, hmul, Option.bind_some]
 have hm0 : 0 ≤ nv x * ((b ^ c : Nat) : Int) := Int.mul_nonneg hn (Int.natCast_nonneg _)
 by_cases h0 : (bnd (nv x * ((b ^ c : Nat) : Int))).2 = 0
 ·rw [if_pos h0, if_pos q1, if_pos q2, Int.toNat_natCast, hword, Option.bind_some, nat_From.f_eq _ hW, Option.bind_some]
  have hlt := bnd_ok h0
  have y1 := bnd_fst_len (nv x * ((b ^ c : Nat) : Int))
  have y2 := bnd_fst_ws (nv x * ((b ^ c : Nat) : Int))
  have y3 := bnd_fst_nv hm0 hlt
  have lw2 : (wd (vl b (s.data.toList.take c))).length ≤ 1 := wd_length_le (m := 1) (by exact hW)
  rw [nat_Add.f_eq _ _ y2 (wd_ws _) (Nat.le_trans y1 (by decide)) (Nat.le_trans lw2 (by decide)) k (Nat.lt_trans (by decide) hk), y3, nv_wd, Option.bind_some]
  by_cases h1 : (bnd (nv x * ((b ^ c : Nat) : Int) + ((vl b (s.data.toList.take c) : Nat) : Int))).2 = 0
  ·have hlt1 := bnd_ok h1
   have h2 : 0 ≤ nv x * ((b ^ c : Nat) : Int) + ((vl b (s.data.toList.take c) : Nat) : Int) := Int.add_nonneg hm0 (Int.natCast_nonneg _)
   have z1 := bnd_fst_len (nv x * ((b ^ c : Nat) : Int) + ((vl b (s.data.toList.take c) : Nat) : Int))
   have z2 := bnd_fst_ws (nv x * ((b ^ c : Nat) : Int) + ((vl b (s.data.toList.take c) : Nat) : Int))
   have z3 := bnd_fst_nv h2 hlt1
   have z4 : strip (bnd (nv x * ((b ^ c : Nat) : Int) + ((vl b (s.data.toList.take c) : Nat) : Int))).1 = (bnd (nv x * ((b ^ c : Nat) : Int) + ((vl b (s.data.toList.take c) : Nat) : Int))).1 := by
    rw [bnd_small hlt1]
    exact strip_wd _
   rw [if_pos h1, hrec _ z2 z4 z1, z3, etot]
  ·rw [if_neg h1, bnd_mono hge h1, bnd_err h1]
 ·have hge2 : nv x * ((b ^ c : Nat) : Int) ≤ nv x * ((b ^ s.size : Nat) : Int) + ((vl b s.data.toList : Nat) : Int) := Int.le_trans (Int.le_add_of_nonneg_right (Int.natCast_nonneg _)) hge
  rw [if_neg h0, bnd_mono hge2 h0, bnd_err h0]
theorem toList_nil (s : ByteArray) : s.toList = ([] : List UInt8) ↔ s.size = 0 := by
 rw [ByteArray.toList_eq, ← List.length_eq_zero_iff, size_data]
theorem radix_Parse.l1_eq (b n : Nat) (hb2 : 2 ≤ b) (hb : b ≤ 36) (hn1 : 1 ≤ n) (hn : n ≤ 66) (hp : b ^ n < 18446744073709551616) : ∀ (m k : Nat) (s : ByteArray) (x : List Int), s.size ≤ m → gd b s.data.toList → Ws x → strip x = x → x.length ≤ 4096 → m * 100 + 20001000 < k →
  radix_Parse.l1 k s b ((b ^ n : Nat) : Int) n x = some (bnd (nv x * ((b ^ s.size : Nat) : Int) + ((vl b s.data.toList : Nat) : Int))) := by
 intro m
 induction m with
 | zero =>
  intro k s x hm hg hw hs hl hk
  obtain ⟨k, rfl⟩ : ∃ j, k = j + 1 := ⟨k - 1, by omega⟩
  have h0 : s.size = 0 := by omega
  have hd : s.data.toList = [] := List.eq_nil_of_length_eq_zero (by rw [size_data]; exact h0)
  have hx := nv_lt hw
  have hx2 : nv x < (2 : Int) ^ 262144 := Int.lt_of_lt_of_le hx (pow_mono (by omega))
  have e : nv x * ((b ^ s.size : Nat) : Int) + ((vl b s.data.toList : Nat) : Int) = nv x := by
   rw [h0, hd, Nat.pow_zero]
   show nv x * 1 + 0 = nv x
   rw [Int.mul_one, Int.add_zero]
  simp only [radix_Parse.l1]
  rw [if_pos ((toList_nil s).2 h0), e, bnd_small hx2, wd_nv hw, hs]
 | succ m ih =>
  intro k s x hm hg hw hs hl hk
  obtain ⟨k, rfl⟩ : ∃ j, k = j + 1 := ⟨k - 1, by omega⟩
  by_cases h0 : s.size = 0
  ·exact ih (k + 1) s x (by omega) hg hw hs hl (by omega)
  ·simp only [radix_Parse.l1]
   rw [if_neg (fun h => h0 ((toList_nil s).1 h))]
   by_cases hc : n ≤ s.size
   ·have em : mn (n : Int) (s.size : Int) = (n : Int) := by unfold mn; rw [if_neg (by omega)]
    rw [em, if_neg (Int.lt_irrefl _)]
    obtain ⟨k, rfl⟩ : ∃ j, k = j + 1 := ⟨k - 1, by omega⟩
    refine radix_Parse.j4_eq b hb2 hb s hg _ _ x hw hs hl n hn1 hc hp k (by omega) ?_
    intro y y1 y2 y3
    have := ih k (s.extract n s.size) y (by rw [ex_size2]; omega) (by rw [ex_data2]; exact gd_drop hg n) y1 y2 y3 (by omega)
    rw [ex_size2, ex_data2] at this
    exact this
   ·have em : mn (n : Int) (s.size : Int) = (s.size : Int) := by unfold mn; rw [if_pos (by omega)]
    have hps : b ^ s.size < 18446744073709551616 := Nat.lt_of_le_of_lt (Nat.pow_le_pow_right (by omega) (by omega)) hp
    rw [em, if_pos (by omega)]
    obtain ⟨k, rfl⟩ : ∃ j, k = j + 1 + s.size + 1 := ⟨k - s.size - 2, by omega⟩
    have e2 := radix_Parse.l2_eq b hb s ((b ^ n : Nat) : Int) n x (s.size : Int) s.size (by omega) hps hb2 s.size (k + 1) 0 (by omega)
    rw [Nat.pow_zero] at e2
    have e3 : radix_Parse.l2 (k + 1 + s.size + 1) s b ((b ^ n : Nat) : Int) n x (s.size : Int) 1 (s.size : Int) 0 = radix_Parse.j4 (k + 1) s b ((b ^ n : Nat) : Int) n x (s.size : Int) ((b ^ s.size : Nat) : Int) := e2
    rw [e3]
    refine radix_Parse.j4_eq b hb2 hb s hg _ _ x hw hs hl s.size (by omega) (Nat.le_refl _) hps k (by omega) ?_
    intro y y1 y2 y3
    have := ih k (s.extract s.size s.size) y (by rw [ex_size2]; omega) (by rw [ex_data2]; exact gd_drop hg _) y1 y2 y3 (by omega)
    rw [ex_size2, ex_data2] at this
    exact this
theorem vl_big {b : Nat} (hb2 : 2 ≤ b) (m : Nat) (s : ByteArray) (hs : m < s.size) (hz : dv (by_ s 0) ≠ 0) : 2 ^ m ≤ vl b s.data.toList := by
 have hd := drop_data (s := s) (i := 0) (by omega)
 rw [List.drop_zero, Nat.zero_add] at hd
 have h5 : 1 ≤ dv (s.data.toList.getD 0 0).toNat := Nat.one_le_iff_ne_zero.2 hz
 rw [hd, vl_cons, List.length_drop, size_data]
 have a1 : 2 ^ m ≤ b ^ (s.size - 1) := pow_big hb2 (by omega)
 have a2 : 1 * b ^ (s.size - 1) ≤ dv (s.data.toList.getD 0 0).toNat * b ^ (s.size - 1) := Nat.mul_le_mul_right _ h5
 rw [Nat.one_mul] at a2
 exact Nat.le_trans a1 (Nat.le_trans a2 (Nat.le_add_right _ _))
theorem radix_Parse.j1_eq (b : Nat) (hb2 : 2 ≤ b) (hb : b ≤ 36) (s : ByteArray) (hg : gd b s.data.toList) (hz : s.size = 0 ∨ dv (by_ s 0) ≠ 0) (k : Nat) (hk : 60000000 < k) : radix_Parse.j1 k s b = some (bnd ((vl b s.data.toList : Nat) : Int)) := by
 obtain ⟨k, rfl⟩ : ∃ j, k = j + 1 := ⟨k - 1, by omega⟩
 obtain ⟨n, h1, h2, h3, h4⟩ := radix_chunk.f_eq b (by omega) (by omega)
 have hbn : (b : Int) ^ n = ((b ^ n : Nat) : Int) := (Int.natCast_pow b n).symm
 rw [hbn] at h3 h4
 simp only [radix_Parse.j1]
 by_cases h : (s.size : Int) > 262144
 ·rw [if_pos h]
  have h6 := vl_big hb2 262144 s (by omega) (hz.elim (fun h => by omega) id)
  rw [bnd_big (by rw [p2cast]; exact Int.ofNat_le.2 h6)]
 ·rw [if_neg h, h4, Option.bind_some]
  have := radix_Parse.l1_eq b n hb2 hb h1 h2 (Int.ofNat_lt.1 h3) s.size k s [] (Nat.le_refl _) hg Ws.nil rfl (by decide) (by omega)
  have e : nv [] * ((b ^ s.size : Nat) : Int) + ((vl b s.data.toList : Nat) : Int) = ((vl b s.data.toList : Nat) : Int) := by
   show 0 * _ + _ = _
   rw [Int.zero_mul, Int.zero_add]
  rw [e] at this
  exact this
theorem bt_by (s : ByteArray) (i : Nat) (h : i < s.size) : bt s (i : Int) = (by_ s i : Int) := by
 rw [by_get s i h, bt]
 rw [dif_pos (by rw [Int.toNat_natCast]; exact h)]
 rfl
theorem radix_Parse.l0_eq (b : Nat) (hb2 : 2 ≤ b) (hb : b ≤ 36) : ∀ (m k : Nat) (s : ByteArray), s.size ≤ m → gd b s.data.toList → m + 60000001 < k → radix_Parse.l0 k s b = some (bnd ((vl b s.data.toList : Nat) : Int)) := by
 intro m
 induction m with
 | zero =>
  intro k s hm hg hk
  obtain ⟨k, rfl⟩ : ∃ j, k = j + 1 := ⟨k - 1, by omega⟩
  simp only [radix_Parse.l0]
  rw [if_pos ((toList_nil s).2 (by omega))]
  exact radix_Parse.j1_eq b hb2 hb s hg (.inl (by omega)) k (by omega)
 | succ m ih =>
  intro k s hm hg hk
  obtain ⟨k, rfl⟩ : ∃ j, k = j + 1 := ⟨k - 1, by omega⟩
  simp only [radix_Parse.l0]
  by_cases h0 : s.size = 0
  ·rw [if_pos ((toList_nil s).2 h0)]
   exact radix_Parse.j1_eq b hb2 hb s hg (.inl h0) k (by omega)
  ·have e0 : bt s 0 = (by_ s 0 : Int) := bt_by s 0 (by omega)
   rw [if_neg (fun h => h0 ((toList_nil s).1 h)), if_pos (by omega), e0]
   by_cases h1 : (by_ s 0 : Int) = 48
   ·rw [if_pos h1, if_pos (by omega), ih k (s.extract 1 s.size) (by rw [ex_size2]; omega) (by rw [ex_data2]; exact gd_drop hg 1) (by omega), ex_data2]
    have hd := drop_data (s := s) (i := 0) (by omega)
    rw [List.drop_zero, Nat.zero_add] at hd
    have h48 : (s.data.toList.getD 0 0).toNat = 48 := Int.ofNat.inj h1
    have e9 : vl b s.data.toList = vl b (s.data.toList.drop 1) := by
     conv => lhs; rw [hd, vl_cons, h48]
     show 0 * _ + _ = _
     rw [Nat.zero_mul, Nat.zero_add]
    rw [e9]
   ·rw [if_neg h1]
    refine radix_Parse.j1_eq b hb2 hb s hg (.inr ?_) k (by omega)
    have hlt := (gd_iff b s).1 hg 0 (by omega)
    intro h2
    apply h1
    have : by_ s 0 = 48 := by
     unfold dv at h2 hlt
     split at h2
     ·omega
     ·split at h2
      ·omega
      ·split at h2 <;> omega
    rw [this]
    rfl
theorem radix_Parse.f_good (b : Nat) (hb2 : 2 ≤ b) (hb : b ≤ 36) (s : ByteArray) (hg : gd b s.data.toList) (h0 : s.size ≠ 0) (k : Nat) (hk : s.size + 60000001 < k) : radix_Parse.f k s b = some ((bnd ((vl b s.data.toList : Nat) : Int)).1, (bnd ((vl b s.data.toList : Nat) : Int)).2, 0) := by
 rw [radix_Parse.f, radix_based.f_eq, decide_eq_true (by omega), Option.bind_some, if_pos rfl, radix_Parse.s0_good b hb s s.size (s.size + 1) 0 (by omega) (by omega) (fun i _ h => (gd_iff b s).1 hg i h), Option.bind_some, if_neg (by decide), if_neg (fun h => h0 ((toList_nil s).1 h)), radix_Parse.l0_eq b hb2 hb s.size k s (Nat.le_refl _) hg hk, Option.bind_some]
theorem parse_good (b : Nat) (hb2 : 2 ≤ b) (hb : b ≤ 36) (s : ByteArray) (hg : gd b s.data.toList) (h0 : s.size ≠ 0) (k : Nat) (hk : s.size + 60000001 < k) : radix_Parse.fB k s b = some ((bnd ((vl b s.data.toList : Nat) : Int)).1, decide ((bnd ((vl b s.data.toList : Nat) : Int)).2 ≠ 0)) := by
 have h := radix_Parse.f_good b hb2 hb s hg h0 k hk
 generalize bnd ((vl b s.data.toList : Nat) : Int) = y at h ⊢
 rw [radix_Parse.fB, h]
 obtain ⟨y1, y2⟩ := y
 rfl
theorem LeO.add {α : Type} {f : Nat → Option α} (h : ∀ k, LeO (f k) (f (k + 1))) : ∀ n k, LeO (f k) (f (k + n))
 | 0, k => fun r e => e
 | n + 1, k => fun r e => h (k + n) r (LeO.add h n k r e)
structure Lng (p : Nat) (v u : List Int) (jn : Nat) : Prop where
 hv : Ws v
 lv : v.length = p + 2
 top : 9223372036854775808 ≤ v.getD (p + 1) 0
 hu : Ws u
 lu : jn + p + 3 ≤ u.length
 hm : u.length ≤ 35184372088832
def cmpI (a b : Int) : Int := if a < b then -1 else if a = b then 0 else 1
theorem wide_Cmp.words (a b : Int) (k : Nat) (hk : 0 < k) : wide_Cmp.f k 0 a 0 b = some (cmpI a b) := by
 obtain ⟨k, rfl⟩ : ∃ j, k = j + 1 := ⟨k - 1, by omega⟩
 unfold wide_Cmp.f cmpI
 rw [if_neg (by decide), if_pos rfl]
 by_cases h : a < b
 ·rw [decide_eq_true h, wide_Cmp.j0, if_pos rfl, if_pos h]
 ·rw [decide_eq_false h, wide_Cmp.j0, if_neg (by decide), if_pos rfl, if_neg h]
  by_cases h2 : a = b
  ·rw [if_pos h2, if_pos h2]
  ·rw [if_neg h2, if_neg h2]
theorem cmpI_add (a b z : Int) : cmpI (a + z) (b + z) = cmpI a b := by
 unfold cmpI
 by_cases h1 : a < b
 ·rw [if_pos h1, if_pos (by omega)]
 ·rw [if_neg h1, if_neg (by omega)]
  by_cases h2 : a = b
  ·rw [if_pos h2, if_pos (by omega)]
  ·rw [if_neg h2, if_neg (by omega)]
theorem cmp_high {a b x y P : Int} (ha0 : 0 ≤ a) (ha : a < P) (hb0 : 0 ≤ b) (hb : b < P) (h : x ≠ y) : cmpI (a + x * P) (b + y * P) = cmpI x y := by
 unfold cmpI
 by_cases h1 : x < y
 ·have : (x + 1) * P ≤ y * P := Int.mul_le_mul_of_nonneg_right (by omega) (by omega)
  rw [Int.add_mul, Int.one_mul] at this
  rw [if_pos h1, if_pos (by omega)]
 ·have : (y + 1) * P ≤ x * P := Int.mul_le_mul_of_nonneg_right (by omega) (by omega)
  rw [Int.add_mul, Int.one_mul] at this
  rw [if_neg h1, if_neg h, if_neg (by omega), if_neg (by omega)]
theorem nat_Cmp.l0_eq (x y : List Int) (hx : Ws x) (hy : Ws y) (hm : x.length ≤ 35184372088832) : ∀ (n k : Nat), n < k → n ≤ x.length → n ≤ y.length → nat_Cmp.l0 k x y ((n : Int) - 1) = some (cmpI (nv (x.take n)) (nv (y.take n))) := by
 intro n
 induction n with
 | zero =>
  intro k hk _ _
  obtain ⟨k, rfl⟩ : ∃ j, k = j + 1 := ⟨k - 1, by omega⟩
  unfold nat_Cmp.l0
  rw [if_neg (by omega)]
  rfl
 | succ n ih =>
  intro k hk h1 h2
  obtain ⟨k, rfl⟩ : ∃ j, k = j + 1 := ⟨k - 1, by omega⟩
  have er : ((n + 1 : Nat) : Int) - 1 = (n : Int) := by omega
  unfold nat_Cmp.l0
  rw [er, if_pos (by omega), if_pos (by omega), if_pos (by omega), if_pos (by omega), rdn, rdn, wide_Cmp.words _ _ k (by omega)]
  simp only [Option.bind_some]
  rw [w64_of (by omega) (by omega), nv_take_succ h1, nv_take_succ h2]
  have a0 := nv_nonneg (hx.take n)
  have a1 := nv_lt (hx.take n)
  have b0 := nv_nonneg (hy.take n)
  have b1 := nv_lt (hy.take n)
  rw [List.length_take, Nat.min_eq_left (by omega)] at a1 b1
  by_cases h : x.getD n 0 = y.getD n 0
  ·rw [h, if_pos (by unfold cmpI; rw [if_neg (by omega), if_pos rfl]), ih k (by omega) (by omega) (by omega)]
   rw [cmpI_add]
  ·rw [cmp_high a0 a1 b0 b1 h, if_neg]
   unfold cmpI
   split <;> first | decide | (rw [if_neg h]; decide)
theorem nat_Cmp.f_eq (x y : List Int) (hx : Ws x) (hy : Ws y) (hmx : x.length ≤ 35184372088832) (hmy : y.length ≤ 35184372088832) (k : Nat) (hk : x.length < k) (hk2 : y.length < k) : nat_Cmp.f k x y = some (cmpI (nv x) (nv y)) := by
 have lx := strip_length_le x
 have ly := strip_length_le y
 rw [nat_Cmp.f, nat_size.f_eq x (by omega) k hk]
 simp only [Option.bind_some]
 rw [nat_size.f_eq y (by omega) k hk2]
 simp only [Option.bind_some]
 have sx := strip_len_le hx
 have sy := strip_len_le hy
 by_cases h : (strip x).length = (strip y).length
 ·rw [if_pos (by omega), w64_of (by omega) (by omega), nat_Cmp.l0_eq x y hx hy hmx _ k (by omega) lx (by omega)]
  have e1 : x.take (strip x).length = strip x := (strip_take x).symm
  have e2 : y.take (strip x).length = strip y := by rw [h]; exact (strip_take y).symm
  rw [e1, e2, nv_strip, nv_strip]
 ·rw [if_neg (by omega)]
  by_cases h2 : (strip x).length < (strip y).length
  ·rw [if_pos (by omega)]
   have a := (sx (strip x).length).1 (Nat.le_refl _)
   have b : ¬ nv y < 2 ^ (64 * (strip x).length) := fun hc => by have := (sy (strip x).length).2 hc; omega
   unfold cmpI
   rw [if_pos (by omega)]
  ·rw [if_neg (by omega)]
   have a := (sy (strip y).length).1 (Nat.le_refl _)
   have b : ¬ nv x < 2 ^ (64 * (strip y).length) := fun hc => by have := (sx (strip y).length).2 hc; omega
   unfold cmpI
   rw [if_neg (by omega), if_neg (by omega)]
theorem dv_digit {c : Int} (h : 48 ≤ c ∧ c ≤ 57) : dv (tobD c).toNat = dgv c := by
 have h1 := tobD_toNat (n := c) (by omega) (by omega)
 unfold dv dgv
 rw [if_pos (by omega)]
 omega
theorem vl_digs {P : List Int} (h : digs P) : vl 10 (P.map tobD) = valD P ∧ gd 10 (P.map tobD) := by
 induction P with
 | nil => exact ⟨rfl, fun c hc => by cases hc⟩
 | cons c P ih =>
  have hc := h c (List.mem_cons_self ..)
  obtain ⟨i1, i2⟩ := ih (fun x hx => h x (List.mem_cons_of_mem _ hx))
  have e := dv_digit hc
  have l := dgv_le hc
  refine ⟨?_, ?_⟩
  ·rw [List.map_cons, vl_cons, valD_cons, i1, e, List.length_map]
  ·intro x hx
   rw [List.map_cons] at hx
   rcases List.mem_cons.1 hx with rfl | hx
   ·rw [e]; omega
   ·exact i2 x hx
theorem parse_digs {P : List Int} (h : digs P) (h1 : 1 ≤ P.length) (hl : P.length ≤ 4000000) (hv : (valD P : Int) < (2 : Int) ^ 262144) (k : Nat) (hk : 90000000 < k) : radix_Parse.fB k (strOfNums P) 10 = some (wd (valD P), false) := by
 obtain ⟨e1, e2⟩ := vl_digs h
 have hp := parse_good 10 (by decide) (by decide) (strOfNums P) (by rw [strD]; exact e2) (by rw [strOfNums_size]; omega) k (by rw [strOfNums_size]; omega)
 rw [strD, e1, bnd_small hv, Int.toNat_natCast] at hp
 exact hp.trans rfl
theorem size13 {a : Int} (h0 : 0 ≤ a) (h1 : a < 18446744073709551616) : plumblaw13_size.f a = some (a % 9223372036854775808) := by
 obtain ⟨x, rfl⟩ : ∃ x : Nat, a = (x : Int) := ⟨a.toNat, by omega⟩
 have h := u64_andNot_nat x 9223372036854775808 (by omega) (by decide)
 have h2 : x &&& (18446744073709551615 - 9223372036854775808) = x % 9223372036854775808 := by
  rw [show 18446744073709551615 - 9223372036854775808 = 2 ^ 63 - 1 from by decide, Nat.and_two_pow_sub_one_eq_mod]
 rw [h2] at h
 rw [plumblaw13_size.f]
 exact congrArg some (h.trans (by omega))
theorem finite13 {a : Int} (h0 : 0 ≤ a) (h1 : a < 18446744073709551616) (k : Nat) (hk : 1 ≤ k) : ∃ b, plumblaw13_finite.f k a = some b ∧ (b = true → a % 9223372036854775808 < 9218868437227405312) := by
 obtain ⟨k, rfl⟩ : ∃ j, k = j + 1 := ⟨k - 1, by omega⟩
 have e1 : Go.bits .and .u64 a 4503599627370495 = a % 4503599627370496 := by
  rw [show Go.bits .and .u64 a 4503599627370495 = a % 2 ^ 52 from and_mask h0 h1 52 (by omega) _ rfl, show (2 : Int) ^ 52 = 4503599627370496 from by decide]
 have e2 : Go.bits .and .u64 (a / 4503599627370496) 2047 = a / 4503599627370496 % 2048 := by
  rw [show Go.bits .and .u64 (a / 4503599627370496) 2047 = (a / 4503599627370496) % 2 ^ 11 from and_mask (by omega) (by omega) 11 (by omega) _ rfl, show (2 : Int) ^ 11 = 2048 from by decide]
 obtain ⟨q, hq⟩ : ∃ q : Nat, a / 4503599627370496 % 2048 = (q : Int) := ⟨(a / 4503599627370496 % 2048).toNat, by omega⟩
 obtain ⟨f, hf⟩ : ∃ f : Nat, a % 4503599627370496 = (f : Int) := ⟨(a % 4503599627370496).toNat, by omega⟩
 have key : ((q : Nat) : Int) ≠ 2047 → a % 9223372036854775808 < 9218868437227405312 := fun h => by omega
 rw [plumblaw13_finite.f, f64_Class.f, f64_fields.f, e1, e2, hq, hf, w64_of (x := (q : Int)) (by omega) (by omega), Option.bind_some]
 clear e1 e2 hf
 simp only []
 have hj : ∀ b : Bool, (b = true → q = 0) → ∃ c : Int, f64_Class.j0 (k + 1) (q : Int) (f : Int) b = some c ∧ (c < 3 → ((q : Nat) : Int) ≠ 2047) := by
  intro b hb
  rw [f64_Class.j0]
  by_cases hb1 : b = true
  ·rw [if_pos hb1]; have := hb hb1; exact ⟨_, rfl, fun _ => by omega⟩
  ·rw [if_neg hb1]
   by_cases g0 : ((q : Nat) : Int) = 0
   ·rw [if_pos g0]; exact ⟨_, rfl, fun _ => by omega⟩
   ·rw [if_neg g0]
    by_cases g2 : ((q : Nat) : Int) < 2047
    ·rw [if_pos g2]; exact ⟨_, rfl, fun _ => by omega⟩
    ·rw [if_neg g2]
     by_cases g3 : ((f : Nat) : Int) = 0
     ·rw [if_pos g3]; exact ⟨_, rfl, fun h => absurd h (by decide)⟩
     ·rw [if_neg g3]; exact ⟨_, rfl, fun h => absurd h (by decide)⟩
 by_cases g0 : ((q : Nat) : Int) = 0
 ·obtain ⟨c, c1, c2⟩ := hj ((f : Int) == 0) (fun _ => by omega)
  rw [if_pos g0, c1, Option.bind_some]
  exact ⟨_, rfl, fun h => key (c2 (of_decide_eq_true h))⟩
 ·obtain ⟨c, c1, c2⟩ := hj false (fun h => by cases h)
  rw [if_neg g0, c1, Option.bind_some]
  exact ⟨_, rfl, fun h => key (c2 (of_decide_eq_true h))⟩
theorem rises_num {y z n K : Nat} (h : y ≤ z) : rhe (pV y * 5 ^ K * 10 ^ n) (10 ^ K) ≤ rhe (pV z * 5 ^ K * 10 ^ n) (10 ^ K) :=
 rhe_mono (Nat.pow_pos (by decide)) (Nat.mul_le_mul_right _ (Nat.mul_le_mul_right _ (pV_le h)))
theorem num_small {z : Nat} (hz : z < 9218868437227405312) (n : Nat) (hn : n ≤ 1100) (K : Nat) (T : Nat) (hT : T = 262144) : ((rhe (pV z * 5 ^ K * 10 ^ n) (10 ^ K) : Nat) : Int) < (2 : Int) ^ 262144 := by
 obtain ⟨m, j, hm, hj, hs, hV⟩ := split_val hz
 have q0 : 0 < 10 ^ K := Nat.pow_pos (by decide)
 have h1 := rhe_le (pV z * 5 ^ K * 10 ^ n) (10 ^ K) q0
 have h2 : pV z * 5 ^ K * 10 ^ n / 10 ^ K ≤ pV z * 10 ^ n := by
  apply Nat.div_le_of_le_mul
  have : 5 ^ K ≤ 10 ^ K := Nat.pow_le_pow_left (by decide) K
  calc pV z * 5 ^ K * 10 ^ n = 5 ^ K * (pV z * 10 ^ n) := by rw [Nat.mul_comm (pV z), Nat.mul_assoc]
   _ ≤ 10 ^ K * (pV z * 10 ^ n) := Nat.mul_le_mul_right _ this
 have h3 : pV z < 2 ^ (53 + j) := by
  rw [← hV, Nat.pow_add]
  exact Nat.mul_lt_mul_of_pos_right (Nat.lt_of_lt_of_le hm (by decide)) (Nat.pow_pos (by decide))
 have h4 : 10 ^ n ≤ 2 ^ (4 * n) := by rw [Nat.pow_mul]; exact Nat.pow_le_pow_left (by decide) n
 have h5 : pV z * 10 ^ n < 2 ^ (53 + j + 4 * n) := by
  rw [Nat.pow_add 2 (53 + j)]
  exact Nat.lt_of_lt_of_le (Nat.mul_lt_mul_of_pos_right h3 (Nat.pow_pos (by decide))) (Nat.mul_le_mul_left _ h4)
 have h6 : 2 ^ (53 + j + 4 * n) < 2 ^ (53 + j + 4 * n + 1) := Nat.pow_lt_pow_right (by decide) (by omega)
 exact lt_top _ (53 + j + 4 * n + 1) T (by omega) (by omega) hT
theorem alive13_at : plumblaw13_alive.f 400 = some true := by kernel_rfl
theorem alive13 (k : Nat) (hk : 400 ≤ k) : plumblaw13_alive.f k = some true := by
 obtain ⟨d, rfl⟩ : ∃ d, k = 400 + d := ⟨k - 400, by omega⟩
 clear hk
 induction d with
 | zero => exact alive13_at
 | succ d ih => exact plumblaw13_alive.mono _ _ ih
end Go.Proofs.YthjleohmlohgbaaDoor.PA
namespace Go.Proofs.YthjleohmlohgbaaDoor.Pure
open Go Go.RowKit Go.Proofs.YthjleohmlohgbaaDoor.PA Go.Proofs.YthjleohmlohgbaaDoorW.PrintWords Go.Proofs.YthjleohmlohgbaaDoorW.PrintLast
set_option linter.unusedVariables false
theorem rises_two {y z : Nat} (h : y ≤ z) (hz : z < 9218868437227405312) (n : Nat) (hn : n ≤ 1100) (k : Nat) (hk : 90000000011 < k) : plumblaw13_ExpandRises.j1 k (y : Int) (z : Int) (n : Int) = some true := by
 obtain ⟨k, rfl⟩ : ∃ j, k = j + 1 := ⟨k - 1, by omega⟩
 obtain ⟨K, hK⟩ : ∃ K : Nat, K = 1074 := ⟨_, rfl⟩
 obtain ⟨T, hT⟩ : ∃ T : Nat, T = 262144 := ⟨_, rfl⟩
 obtain ⟨P, p1, p2, p3, p4, p5⟩ := fixed_val (z := y) (by omega) n hn K hK k (by omega)
 obtain ⟨Q, q1, q2, q3, q4, q5⟩ := fixed_val hz n hn K hK k (by omega)
 have hp := num_small (z := y) (by omega) n hn K T hT
 have hq := num_small hz n hn K T hT
 rw [← p4] at hp
 rw [← q4] at hq
 have hle : valD P ≤ valD Q := by rw [p4, q4]; exact rises_num h
 have lp : (wd (valD P)).length ≤ 4096 := by have := bnd_fst_len (valD P : Int); rw [bnd_small hp] at this; exact this
 have lq : (wd (valD Q)).length ≤ 4096 := by have := bnd_fst_len (valD Q : Int); rw [bnd_small hq] at this; exact this
 have hc := nat_Cmp.f_eq (wd (valD P)) (wd (valD Q)) (wd_ws _) (wd_ws _) (by omega) (by omega) k (by omega) (by omega)
 rw [nv_wd, nv_wd] at hc
 have hc2 : cmpI (valD P : Int) (valD Q : Int) ≤ 0 := by
  unfold cmpI
  split
  ·decide
  ·split
   ·decide
   ·omega
 rw [plumblaw13_ExpandRises.j1, p5, q5, Option.bind_some, Option.bind_some, without_eq p1 n p3 k (by omega), Option.bind_some, parse_digs p1 (by omega) p3 hp k (by omega), Option.bind_some, without_eq q1 n q3 k (by omega), Option.bind_some, parse_digs q1 (by omega) q3 hq k (by omega), Option.bind_some, if_pos rfl, if_pos rfl, if_neg Bool.false_ne_true, if_neg Bool.false_ne_true, hc, Option.bind_some, decide_eq_true hc2]
theorem ExpandRises : plumblaw13_ExpandRises.Pure := by
 intro a0 a1 a2 w0 w1 w2
 have b0 := Go.bounds_u64 w0
 have b1 := Go.bounds_u64 w1
 obtain ⟨k, hk⟩ : ∃ k : Nat, 90000000020 < k := ⟨90000000021, by decide⟩
 have hn : ∃ n : Nat, n ≤ 1100 ∧ wrap64 (Int.tmod (IntKind.u64.wrap a2) 400) = (n : Int) := by
  have h0 : 0 ≤ IntKind.u64.wrap a2 := by rw [u64w]; omega
  have h1 : Int.tmod (IntKind.u64.wrap a2) 400 = (IntKind.u64.wrap a2) % 400 := Int.tmod_eq_emod_of_nonneg h0
  refine ⟨(IntKind.u64.wrap a2 % 400).toNat, by omega, ?_⟩
  rw [h1, w64_of (by omega) (by omega)]
  omega
 obtain ⟨n, hn1, hn2⟩ := hn
 have al := alive13 (k + 1) (by omega)
 have al0 := alive13 k (by omega)
 have dead : plumblaw13_ExpandRises.j0 (k + 1) a0 a1 (n : Int) true = some true := by
  rw [plumblaw13_ExpandRises.j0, if_pos rfl, al0, Option.bind_some]
 obtain ⟨f0, f1, f2⟩ := finite13 b0.1 (by omega) (k + 1) (by omega)
 obtain ⟨g0, g1, g2⟩ := finite13 b1.1 (by omega) (k + 1) (by omega)
 refine ⟨k + 1, ?_⟩
 rw [plumblaw13_ExpandRises.f, al, Option.bind_some, if_pos rfl, f1, Option.bind_some, hn2]
 cases f0 with
 | false => rw [if_neg Bool.false_ne_true]; exact dead
 | true =>
  rw [if_pos rfl, g1, Option.bind_some]
  cases g0 with
  | false => exact dead
  | true =>
   have y1 := f2 rfl
   have z1 := g2 rfl
   obtain ⟨y, hy⟩ : ∃ y : Nat, a0 % 9223372036854775808 = (y : Int) := ⟨(a0 % 9223372036854775808).toNat, by omega⟩
   obtain ⟨z, hz⟩ : ∃ z : Nat, a1 % 9223372036854775808 = (z : Int) := ⟨(a1 % 9223372036854775808).toNat, by omega⟩
   rw [plumblaw13_ExpandRises.j0, if_neg (by decide), size13 b0.1 (by omega), size13 b1.1 (by omega), Option.bind_some, Option.bind_some, hy, hz]
   by_cases hg : (y : Int) > (z : Int)
   ·rw [if_pos hg]
    exact rises_two (by omega) (by omega) n hn1 k (by omega)
   ·rw [if_neg hg]
    exact rises_two (by omega) (by omega) n hn1 k (by omega)
end Go.Proofs.YthjleohmlohgbaaDoor.Pure
namespace Go.Proofs.YthjleohmlohgbaaDoorW.PrintWords
open Go
end Go.Proofs.YthjleohmlohgbaaDoorW.PrintWords
