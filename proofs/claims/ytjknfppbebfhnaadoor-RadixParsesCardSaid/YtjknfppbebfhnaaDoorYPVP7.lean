/- A part of the proof (7). -/
import Derived.Test.YtjknfppbebfhnaaDoorYPVP6
import Derived.OpenShut
import Derived.KernelRfl
namespace Go.Proofs.YtjknfppbebfhnaaDoor.PA
open Go Go.RowKit Go.Proofs.YtjknfppbebfhnaaDoorW.PrintWords Go.Proofs.YtjknfppbebfhnaaDoorW.PrintLast Go.Proofs.YtjknfppbebfhnaaDoorW.PrintMore
set_option linter.unusedVariables false
set_option linter.unusedSimpArgs false
theorem put_step {x b c : Int} (hx0 : 0 ≤ x) (hx : x < 4294967296) (hb0 : 0 ≤ b) (hb : b < 4294967296) (hc0 : 0 ≤ c) (hc : c < 4294967296) :
  IntKind.u64.wrap (IntKind.u64.wrap (x * b) + c) = x * b + c ∧ Go.bits .and .u64 (x * b + c) 4294967295 = (x * b + c) % 4294967296 ∧ 0 ≤ (x * b + c) / 4294967296 ∧ (x * b + c) / 4294967296 < 4294967296 := by
 have h0 : 0 ≤ x * b := Int.mul_nonneg hx0 hb0
 have h1 : x * b ≤ 4294967295 * 4294967295 := Int.mul_le_mul (by omega) (by omega) hb0 (by omega)
 generalize x * b = p at *
 refine ⟨?_, ?_, by omega, by omega⟩
 ·rw [u64w_of h0 (by omega), u64w_of (by omega) (by omega)]
 ·exact and_mask (by omega) (by omega) 32 (by decide) _ rfl
theorem plumbref04_put.l0_eq (b : Int) (hb0 : 0 ≤ b) (hb : b < 4294967296) (V : Int) (m : Nat) (hm : m < 1000000) : ∀ (d k : Nat) (cur : List Int) (c : Int) (i : Nat), d = m - i → d < k → i ≤ m → cur.length = m → Hs cur → 0 ≤ c → c < 4294967296 →
  hv (cur.take i) + (hv (cur.drop i) * b + c) * 2 ^ (32 * i) = V → ∃ r, plumbref04_put.l0 k cur b c (i : Int) = some r ∧ Hs r ∧ r.length ≤ m + 1 ∧ hv r = V := by
 intro d
 induction d with
 | zero =>
  intro k cur c i hd hk hi hl hw hc0 hc hv_
  obtain ⟨k, rfl⟩ : ∃ j, k = j + 1 := ⟨k - 1, by omega⟩
  obtain rfl : i = m := by omega
  rw [List.take_of_length_le (by omega), List.drop_eq_nil_of_le (by omega)] at hv_
  simp only [plumbref04_put.l0]
  rw [if_neg (by omega)]
  by_cases h : c > 0
  ·rw [if_pos h, if_pos (by omega)]
   refine ⟨_, rfl, hw.snoc hc0 hc, by rw [List.length_append, hl]; exact Nat.le_refl _, ?_⟩
   rw [hv_append, hl, ← hv_]
   simp only [hv]
   generalize (2 : Int) ^ (32 * i) = p
   grind
  ·rw [if_neg h]
   obtain rfl : c = 0 := by omega
   refine ⟨_, rfl, hw, by omega, ?_⟩
   rw [← hv_]
   simp [hv]
 | succ d ih =>
  intro k cur c i hd hk hi hl hw hc0 hc hv_
  obtain ⟨k, rfl⟩ : ∃ j, k = j + 1 := ⟨k - 1, by omega⟩
  have q1 : (i : Int) < (cur.length : Int) := by omega
  have q2 : (0 : Int) ≤ (i : Int) := Int.natCast_nonneg _
  have q3 : i < cur.length := by omega
  have q4 : d = m - (i + 1) := by omega
  have q5 : d < k := by omega
  have q6 : i + 1 ≤ m := by omega
  have ew := w64_succ i (by omega)
  have ho := hw.getD i
  obtain ⟨e1, e2, e3, e4⟩ := put_step ho.1 ho.2 hb0 hb hc0 hc
  have er : rd cur (i : Int) = cur.getD i 0 := rfl
  simp only [plumbref04_put.l0]
  rw [if_pos q1, if_pos q2, er, e1, e2, ew, Int.toNat_natCast]
  refine ih k _ _ (i + 1) q4 q5 q6 (by rw [List.length_set]; exact hl) (hw.set _ (Int.emod_nonneg _ (by decide)) (Int.emod_lt_of_pos _ (by decide))) e3 e4 ?_
  have hs : i < (cur.set i ((cur.getD i 0 * b + c) % 4294967296)).length := by rw [List.length_set]; exact q3
  rw [hv_take_succ hs, take_set_self, List.drop_set_of_lt (Nat.lt_succ_self i), pow32, ← hv_, drop_getD q3, hv_cons]
  have eg : (cur.set i ((cur.getD i 0 * b + c) % 4294967296)).getD i 0 = (cur.getD i 0 * b + c) % 4294967296 := by
   rw [List.getD_eq_getElem?_getD, List.getElem?_set_self q3]; rfl
  rw [eg]
  have hdm := Int.mul_ediv_add_emod (cur.getD i 0 * b + c) 4294967296
  clear eg hs ew e1 e2 er
  generalize (cur.getD i 0 * b + c) % 4294967296 = u at *
  generalize (cur.getD i 0 * b + c) / 4294967296 = v at *
  generalize cur.getD i 0 = x at *
  generalize (2 : Int) ^ (32 * i) = p at *
  grind
theorem chunkL_spec (b : Int) (hb : 2 ≤ b) : ∀ (k : Nat) (n : Nat), b ^ n < 18446744073709551616 → ∃ m : Nat, n ≤ m ∧ m ≤ n + k ∧ b ^ m < 18446744073709551616 ∧ chunkL b k (b ^ n) n = (b ^ m, (m : Int)) := by
 intro k
 induction k with
 | zero => intro n hn; exact ⟨n, by omega, by omega, hn, rfl⟩
 | succ k ih =>
  intro n hn
  simp only [chunkL]
  by_cases h : b ^ n ≤ 18446744073709551615 / b
  ·rw [if_pos h]
   have h1 : b ^ n * b ≤ 18446744073709551615 := (Int.le_ediv_iff_mul_le (by omega)).1 h
   rw [← Int.pow_succ] at h1 ⊢
   obtain ⟨m, e1, e2, e3, e4⟩ := ih (n + 1) (Int.lt_of_le_of_lt h1 (by decide))
   have en : ((n : Int) + 1) = ((n + 1 : Nat) : Int) := by omega
   rw [en, e4]
   exact ⟨m, by omega, by omega, e3, rfl⟩
  ·rw [if_neg h]
   exact ⟨n, by omega, by omega, hn, rfl⟩
theorem radix_chunk.f_eq (b : Int) (h2 : 2 ≤ b) (h36 : b ≤ 36) : ∃ n : Nat, 1 ≤ n ∧ n ≤ 66 ∧ b ^ n < 18446744073709551616 ∧ radix_chunk.f b = some (b ^ n, (n : Int)) := by
 have := chunkL_spec b h2 65 1 (by rw [Int.pow_one]; omega)
 obtain ⟨m, e1, e2, e3, e4⟩ := this
 rw [Int.pow_one] at e4
 have e4' : chunkL b 65 b 1 = (b ^ m, (m : Int)) := e4
 refine ⟨m, e1, by omega, e3, ?_⟩
 rw [radix_chunk.f, if_pos ⟨h2, h36⟩, e4']
def sz : List Int → List Int
 | [] => []
 | x :: xs => if sz xs = [] then (if x = 48 then [] else [x]) else x :: sz xs
theorem radix_based.f_eq (b : Int) : radix_based.f b = some (decide (2 ≤ b ∧ b ≤ 36)) := by
 rw [radix_based.f]
 by_cases h : b ≥ 2
 ·rw [if_pos h]; congr 1; rw [decide_eq_decide]; exact ⟨fun h1 => ⟨h, h1⟩, fun h1 => h1.2⟩
 ·rw [if_neg h]; congr 1; symm; rw [decide_eq_false_iff_not]; exact fun h1 => h h1.1
theorem over {b : Int} (c : Nat) (hb : b = (c : Int)) {n m : Nat} (h : Nat.ble (2 ^ m) (c ^ n) = true) : (2 : Int) ^ m ≤ b ^ n := by
 rw [hb, ← Int.natCast_pow, p2cast]
 exact Int.ofNat_le.2 (Nat.le_of_ble_eq_true h)
theorem Hs.strip {xs : List Int} (h : Hs xs) : Hs (strip xs) := by
 rw [strip_take]
 exact fun y hy => h y (List.mem_of_mem_take hy)
theorem Hs.append {xs ys : List Int} (h : Hs xs) (h' : Hs ys) : Hs (xs ++ ys) := by
 intro y hy
 rcases List.mem_append.1 hy with hy | hy
 ·exact h y hy
 ·exact h' y hy
theorem plumbref04_words.f_eq (x : List Int) (hx : Hs x) (hm : x.length ≤ 20000000) (k : Nat) (hk : 60000000 < k) : plumbref04_words.f k x = some (wd (hv x).toNat) := by
 rw [plumbref04_words.f]
 exact plumbref04_words.l0_eq x hx (by omega) (x.length + 2) k [] 0 (by omega) (by omega) (by omega) rfl Ws.nil rfl
def dv (c : Nat) : Nat := if 48 ≤ c ∧ c ≤ 57 then c - 48 else if 97 ≤ c ∧ c ≤ 122 then c - 87 else if 65 ≤ c ∧ c ≤ 90 then c - 55 else 36
theorem w32_of {x : Int} (h0 : -2147483648 ≤ x) (h1 : x < 2147483648) : wrap32 x = x := by unfold wrap32; omega
theorem radix_value.f_eq (c : Nat) (hc : c < 2147483648) : radix_value.f 8 (c : Int) = some (dv c : Int) := by
 rw [radix_value.f]
 by_cases h1 : 48 ≤ c ∧ c ≤ 57
 ·have e : dv c = c - 48 := by unfold dv; rw [if_pos h1]
  rw [e, if_pos (show (c : Int) ≥ 48 by omega), decide_eq_true (show (c : Int) ≤ 57 by omega), radix_value.j0, if_pos rfl, w32_of (by omega) (by omega), u64w_of (by omega) (by omega)]
  congr 1
  omega
 ·have hj : (if (c : Int) ≥ 48 then radix_value.j0 8 (c : Int) (decide ((c : Int) ≤ 57)) else radix_value.j0 8 (c : Int) false) = radix_value.j0 8 (c : Int) false := by
   by_cases h2 : (c : Int) ≥ 48
   ·rw [if_pos h2, decide_eq_false (show ¬ (c : Int) ≤ 57 by omega)]
   ·rw [if_neg h2]
  rw [hj, radix_value.j0, if_neg (show ¬ (false = true) by decide)]
  by_cases h3 : 97 ≤ c ∧ c ≤ 122
  ·have e : dv c = c - 87 := by unfold dv; rw [if_neg h1, if_pos h3]
   rw [e, if_pos (show (c : Int) ≥ 97 by omega), decide_eq_true (show (c : Int) ≤ 122 by omega), radix_value.j1, if_pos rfl, w32_of (by omega) (by omega), u64w_of (x := (c : Int) - 97) (by omega) (by omega), u64w_of (by omega) (by omega)]
   congr 1
   omega
  ·have hj2 : (if (c : Int) ≥ 97 then radix_value.j1 7 (c : Int) (decide ((c : Int) ≤ 122)) else radix_value.j1 7 (c : Int) false) = radix_value.j1 7 (c : Int) false := by
    by_cases h2 : (c : Int) ≥ 97
    ·rw [if_pos h2, decide_eq_false (show ¬ (c : Int) ≤ 122 by omega)]
    ·rw [if_neg h2]
   rw [hj2, radix_value.j1, if_neg (show ¬ (false = true) by decide)]
   by_cases h5 : 65 ≤ c ∧ c ≤ 90
   ·have e : dv c = c - 55 := by unfold dv; rw [if_neg h1, if_neg h3, if_pos h5]
    rw [e, if_pos (show (c : Int) ≥ 65 by omega), if_pos (show (c : Int) ≤ 90 by omega), w32_of (by omega) (by omega), u64w_of (x := (c : Int) - 65) (by omega) (by omega), u64w_of (by omega) (by omega)]
    congr 1
    omega
   ·have e : dv c = 36 := by unfold dv; rw [if_neg h1, if_neg h3, if_neg h5]
    rw [e]
    by_cases h6 : (c : Int) ≥ 65
    ·rw [if_pos h6, if_neg (show ¬ (c : Int) ≤ 90 by omega)]; rfl
    ·rw [if_neg h6]; rfl
theorem dv_high {c : Nat} (h : 123 ≤ c) : dv c = 36 := by
 unfold dv
 rw [if_neg (by omega), if_neg (by omega), if_neg (by omega)]
def by_ (s : ByteArray) (i : Nat) : Nat := (s.data.toList.getD i 0).toNat
theorem by_get (s : ByteArray) (i : Nat) (h : i < s.size) : by_ s i = (s[i]'h).toNat := by
 have h2 : i < s.data.toList.length := by simpa using h
 unfold by_
 rw [List.getD_eq_getElem?_getD, List.getElem?_eq_getElem h2]
 rfl
theorem rune_val (s : ByteArray) (i b : Nat) (hb : b ≤ 36) (h : i < s.size) : ∃ r : Nat, (Utf8.decode s i).1 = r ∧ radix_value.f 8 ((Utf8.decode s i).1 : Int) = some (dv r : Int) ∧ (dv r < b ↔ dv (by_ s i) < b) ∧ (dv (by_ s i) < b → dv r = dv (by_ s i) ∧ (Utf8.decode s i).2 = 1) := by
 rw [by_get s i h]
 by_cases ha : (s[i]'h).toNat < 128
 ·rw [decode_ascii s i h ha]
  exact ⟨_, rfl, radix_value.f_eq _ (by omega), Iff.rfl, fun _ => ⟨rfl, rfl⟩⟩
 ·have hd := (decode_high s i h (by omega)).1
  have hl := decode_le s i
  have e1 := dv_high (c := (Utf8.decode s i).1) (by omega)
  have e2 := dv_high (c := (s[i]'h).toNat) (by omega)
  refine ⟨_, rfl, radix_value.f_eq _ (by omega), ?_, ?_⟩
  ·rw [e1, e2]
  ·intro h3; rw [e2] at h3; omega
theorem radix_Parse.s0_good (b : Nat) (hb : b ≤ 36) (s : ByteArray) : ∀ (d k pos : Nat), s.size - pos = d → d < k → (∀ i, pos ≤ i → i < s.size → dv (by_ s i) < b) → radix_Parse.s0 b s k pos = some (-1) := by
 intro d
 induction d with
 | zero =>
  intro k pos hd hk hg
  obtain ⟨k, rfl⟩ : ∃ j, k = j + 1 := ⟨k - 1, by omega⟩
  rw [radix_Parse.s0, if_neg (by omega)]
 | succ d ih =>
  intro k pos hd hk hg
  obtain ⟨k, rfl⟩ : ∃ j, k = j + 1 := ⟨k - 1, by omega⟩
  have hp : pos < s.size := by omega
  obtain ⟨r, _, e1, e2, e3⟩ := rune_val s pos b hb hp
  have hgp := hg pos (Nat.le_refl _) hp
  obtain ⟨e4, e5⟩ := e3 hgp
  have hlt := e2.2 hgp
  rw [radix_Parse.s0, if_pos hp, e1, Option.bind_some, u64w_of (x := (b : Int)) (by omega) (by omega), if_neg (by omega), e5]
  exact ih k (pos + 1) (by omega) (by omega) (fun i h1 h2 => hg i (by omega) h2)
theorem radix_Parse.s0_bad (b : Nat) (hb : b ≤ 36) (s : ByteArray) (i : Nat) (hi : i < s.size) (hbad : ¬ dv (by_ s i) < b) : ∀ (d k pos : Nat), i - pos = d → pos ≤ i → d < k → (∀ j, pos ≤ j → j < i → dv (by_ s j) < b) → radix_Parse.s0 b s k pos = some (i : Int) := by
 intro d
 induction d with
 | zero =>
  intro k pos hd hpi hk hg
  obtain ⟨k, rfl⟩ : ∃ j, k = j + 1 := ⟨k - 1, by omega⟩
  obtain rfl : pos = i := by omega
  obtain ⟨r, _, e1, e2, e3⟩ := rune_val s pos b hb hi
  have hn : ¬ dv r < b := fun h => hbad (e2.1 h)
  rw [radix_Parse.s0, if_pos hi, e1, Option.bind_some, u64w_of (x := (b : Int)) (by omega) (by omega), if_pos (by omega)]
 | succ d ih =>
  intro k pos hd hpi hk hg
  obtain ⟨k, rfl⟩ : ∃ j, k = j + 1 := ⟨k - 1, by omega⟩
  have hp : pos < s.size := by omega
  obtain ⟨r, _, e1, e2, e3⟩ := rune_val s pos b hb hp
  have hgp := hg pos (Nat.le_refl _) (by omega)
  obtain ⟨e4, e5⟩ := e3 hgp
  have hlt := e2.2 hgp
  rw [radix_Parse.s0, if_pos hp, e1, Option.bind_some, u64w_of (x := (b : Int)) (by omega) (by omega), if_neg (by omega), e5]
  exact ih k (pos + 1) (by omega) (by omega) (by omega) (fun j h1 h2 => hg j (by omega) h2)
def vlA (b : Nat) (a : Nat) (L : List UInt8) : Nat := L.foldl (fun a c => a * b + dv c.toNat) a
def vl (b : Nat) (L : List UInt8) : Nat := vlA b 0 L
theorem vlA_eq (b : Nat) : ∀ (L : List UInt8) (a : Nat), vlA b a L = a * b ^ L.length + vl b L
 | [], a => by simp [vlA, vl]
 | c :: L, a => by
  have h1 := vlA_eq b L (a * b + dv c.toNat)
  have h2 := vlA_eq b L (0 * b + dv c.toNat)
  show vlA b (a * b + dv c.toNat) L = a * b ^ (L.length + 1) + vlA b (0 * b + dv c.toNat) L
  rw [h1, h2, Nat.pow_succ]
  generalize b ^ L.length = p
  grind
theorem vl_cons (b : Nat) (c : UInt8) (L : List UInt8) : vl b (c :: L) = dv c.toNat * b ^ L.length + vl b L := by
 have := vlA_eq b L (0 * b + dv c.toNat)
 rw [Nat.zero_mul, Nat.zero_add] at this
 show vlA b (0 * b + dv c.toNat) L = _
 rw [Nat.zero_mul, Nat.zero_add]
 exact this
theorem vl_append (b : Nat) (L M : List UInt8) : vl b (L ++ M) = vl b L * b ^ M.length + vl b M := by
 rw [vl, vlA, List.foldl_append]
 exact vlA_eq b M _
def gd (b : Nat) (L : List UInt8) : Prop := ∀ c ∈ L, dv c.toNat < b
theorem vl_lt {b : Nat} : ∀ {L : List UInt8}, gd b L → vl b L < b ^ L.length
 | [], _ => by simp [vl, vlA]
 | c :: L, h => by
  have h1 := vl_lt (L := L) (fun x hx => h x (List.mem_cons_of_mem _ hx))
  have h2 := h c (List.mem_cons_self ..)
  rw [vl_cons, List.length_cons, Nat.pow_succ]
  have h3 : (dv c.toNat + 1) * b ^ L.length ≤ b * b ^ L.length := Nat.mul_le_mul_right _ h2
  rw [Nat.add_mul, Nat.one_mul] at h3
  rw [Nat.mul_comm (b ^ L.length)]
  omega
theorem gd_iff (b : Nat) (s : ByteArray) : gd b s.data.toList ↔ ∀ i, i < s.size → dv (by_ s i) < b := by
 constructor
 ·intro h i hi
  have h2 : i < s.data.toList.length := by simpa using hi
  unfold by_
  rw [List.getD_eq_getElem?_getD, List.getElem?_eq_getElem h2]
  exact h _ (List.getElem_mem h2)
 ·intro h c hc
  obtain ⟨i, hi, rfl⟩ := List.mem_iff_getElem.1 hc
  have h3 := h i (by simpa using hi)
  unfold by_ at h3
  rw [List.getD_eq_getElem?_getD, List.getElem?_eq_getElem hi] at h3
  exact h3
theorem size_data (s : ByteArray) : s.data.toList.length = s.size := by simp
theorem drop_data {s : ByteArray} {i : Nat} (h : i < s.size) : s.data.toList.drop i = s.data.toList.getD i 0 :: s.data.toList.drop (i + 1) := by
 have h2 : i < s.data.toList.length := by simpa using h
 rw [List.drop_eq_getElem_cons h2, List.getD_eq_getElem?_getD, List.getElem?_eq_getElem h2]; rfl
theorem radix_word.l0_eq (b : Nat) (hb2 : 2 ≤ b) (hb : b ≤ 36) (s : ByteArray) (hg : ∀ i, i < s.size → dv (by_ s i) < b) : ∀ (d k pos acc : Nat), s.size - pos = d → d < k → (acc + 1) * b ^ d ≤ 18446744073709551616 → radix_word.l0 k s b pos acc = some ((vlA b acc (s.data.toList.drop pos) : Nat) : Int) := by
 intro d
 induction d with
 | zero =>
  intro k pos acc hd hk ha
  obtain ⟨k, rfl⟩ : ∃ j, k = j + 1 := ⟨k - 1, by omega⟩
  rw [radix_word.l0, if_neg (by omega), List.drop_eq_nil_of_le (by rw [size_data]; omega)]
  rfl
 | succ d ih =>
  intro k pos acc hd hk ha
  obtain ⟨k, rfl⟩ : ∃ j, k = j + 1 := ⟨k - 1, by omega⟩
  have hp : pos < s.size := by omega
  obtain ⟨r, _, e1, e2, e3⟩ := rune_val s pos b hb hp
  have hgp := hg pos hp
  obtain ⟨e4, e5⟩ := e3 hgp
  have hstep : (acc * b + dv r + 1) * b ^ d ≤ (acc + 1) * b ^ (d + 1) := by
   rw [Nat.pow_succ, Nat.mul_comm (b ^ d), ← Nat.mul_assoc]
   apply Nat.mul_le_mul_right
   rw [Nat.add_mul, e4]
   omega
  have hpow : 1 ≤ b ^ d := Nat.one_le_iff_ne_zero.2 (Nat.ne_of_gt (Nat.pow_pos (by omega)))
  have hsm : acc * b + dv r + 1 ≤ 18446744073709551616 := by
   have h1 : (acc * b + dv r + 1) * 1 ≤ (acc * b + dv r + 1) * b ^ d := Nat.mul_le_mul_left _ hpow
   omega
  have ew : IntKind.u64.wrap ((acc : Int) * (b : Int)) = ((acc * b : Nat) : Int) := by
   rw [← Int.natCast_mul]
   exact u64w_of (Int.natCast_nonneg _) (Int.ofNat_lt.2 (Nat.lt_of_le_of_lt (Nat.le_add_right _ _) hsm))
  have eb : IntKind.u64.wrap (b : Int) = (b : Int) := u64w_of (by omega) (by omega)
  have ew2 : IntKind.u64.wrap (((acc * b : Nat) : Int) + (dv r : Int)) = ((acc * b + dv r : Nat) : Int) := by
   rw [← Int.natCast_add]
   exact u64w_of (Int.natCast_nonneg _) (Int.ofNat_lt.2 hsm)
  rw [radix_word.l0, if_pos hp, e1, Option.bind_some, eb, ew, ew2, e5, ih k (pos + 1) (acc * b + dv r) (by clear ew eb ew2; omega) (by clear ew eb ew2; omega) (Nat.le_trans hstep ha), drop_data hp, e4]
  rfl
theorem radix_word.f_eq (b : Nat) (hb2 : 2 ≤ b) (hb : b ≤ 36) (s : ByteArray) (hg : gd b s.data.toList) (hp : b ^ s.size ≤ 18446744073709551616) : radix_word.f s b = some ((vl b s.data.toList : Nat) : Int) := by
 rw [radix_word.f]
 exact radix_word.l0_eq b hb2 hb s ((gd_iff b s).1 hg) s.size (s.size + 1) 0 0 (by omega) (by omega) (by rw [Nat.zero_add, Nat.one_mul]; exact hp)
theorem nat_From.f_eq (v : Nat) (hv : v < 18446744073709551616) : nat_From.f (v : Int) = some (wd v) := by
 have hw : Ws [(v : Int)] := Ws.cons (by omega) (by omega) Ws.nil
 have e : nv [(v : Int)] = (v : Int) := by simp [nv]
 have h := wd_nv hw
 rw [e, Int.toNat_natCast] at h
 rw [nat_From.f, nat_Norm.f, if_pos (show [(v : Int)].length ≤ 35184372088832 from Nat.le_of_ble_eq_true rfl), Option.bind_some, h]
theorem nat_Add.f_eq (x y : List Int) (hx : Ws x) (hy : Ws y) (hlx : x.length ≤ 1000000) (hly : y.length ≤ 1000000) (k : Nat) (hk : 1000010 < k) : nat_Add.f k x y = some (bnd (nv x + nv y)) := by
 have h1 : nv x + nv y < 2 ^ (64 * (max x.length y.length + 1)) := by
  have a := nv_lt hx
  have b := nv_lt hy
  have c := pow_mono (show 64 * x.length ≤ 64 * max x.length y.length from by omega)
  have d := pow_mono (show 64 * y.length ≤ 64 * max x.length y.length from by omega)
  rw [pow64]
  have p := two_pow_pos (64 * max x.length y.length)
  omega
 have h0 : 0 ≤ nv x + nv y := Int.add_nonneg (nv_nonneg hx) (nv_nonneg hy)
 rw [nat_Add.f, nat_sum.f, if_pos ⟨wsB_iff.2 hx, wsB_iff.2 hy, by clear h1; omega, by clear h1; omega⟩, Option.bind_some, nat_bound.f_bnd (wn_ws _ _) (by rw [wn_length]; clear h1; omega) k (by rw [wn_length]; clear h1; omega), nv_wn _ h0 h1, Option.bind_some]
theorem pow_big {b m n : Nat} (hb : 2 ≤ b) (h : m ≤ n) : 2 ^ m ≤ b ^ n := Nat.le_trans (Nat.pow_le_pow_left hb m) (Nat.pow_le_pow_right (by omega) h)
theorem ex_data (s : ByteArray) (a : Nat) : (s.extract 0 a).data.toList = s.data.toList.take a := by simp
theorem ex_data2 (s : ByteArray) (a : Nat) : (s.extract a s.size).data.toList = s.data.toList.drop a := by
 simp
 exact List.take_of_length_le (by simp)
theorem ex_size (s : ByteArray) (a : Nat) (h : a ≤ s.size) : (s.extract 0 a).size = a := by
 rw [← size_data, ex_data, List.length_take, size_data]; omega
theorem ex_size2 (s : ByteArray) (a : Nat) : (s.extract a s.size).size = s.size - a := by
 rw [← size_data, ex_data2, List.length_drop, size_data]
theorem gd_take {b : Nat} {L : List UInt8} (h : gd b L) (a : Nat) : gd b (L.take a) := fun c hc => h c (List.mem_of_mem_take hc)
theorem gd_drop {b : Nat} {L : List UInt8} (h : gd b L) (a : Nat) : gd b (L.drop a) := fun c hc => h c (List.mem_of_mem_drop hc)
theorem vl_split (b : Nat) (L : List UInt8) (a : Nat) : vl b L = vl b (L.take a) * b ^ (L.drop a).length + vl b (L.drop a) := by
 rw [← vl_append, List.take_append_drop]
theorem radix_Parse.l2_eq (b : Nat) (hb : b ≤ 36) (x0 : ByteArray) (x8 x9 : Int) (x10 : List Int) (x11 : Int) (c : Nat) (hc : c ≤ 66) (hp : b ^ c < 18446744073709551616) (hb2 : 2 ≤ b) : ∀ (d k i : Nat), i + d = c → radix_Parse.l2 (k + d + 1) x0 b x8 x9 x10 x11 ((b ^ i : Nat) : Int) c i = radix_Parse.j4 k x0 b x8 x9 x10 x11 ((b ^ c : Nat) : Int) := by
 intro d
 induction d with
 | zero =>
  intro k i hi
  obtain rfl : i = c := by omega
  conv => lhs; unfold radix_Parse.l2
  rw [if_neg (Int.lt_irrefl _)]
 | succ d ih =>
  intro k i hi
  have hle : b ^ (i + 1) ≤ b ^ c := Nat.pow_le_pow_right (by omega) (by omega)
  have eb : IntKind.u64.wrap (b : Int) = (b : Int) := u64w_of (by omega) (by omega)
  have ep : IntKind.u64.wrap (((b ^ i : Nat) : Int) * (b : Int)) = ((b ^ (i + 1) : Nat) : Int) := by
   rw [← Int.natCast_mul, ← Nat.pow_succ]
   exact u64w_of (Int.natCast_nonneg _) (Int.ofNat_lt.2 (Nat.lt_of_le_of_lt hle hp))
  have ew := w64_succ i (by omega)
  have c1 : (i : Int) < (c : Int) := Int.ofNat_lt.2 (by omega)
  rw [show k + (d + 1) + 1 = (k + d + 1) + 1 from by omega]
  conv => lhs; unfold radix_Parse.l2
  rw [if_pos c1, eb, ep, ew]
  exact ih k (i + 1) (by omega)
theorem bnd_mono {m n : Int} (h : m ≤ n) (hm : (bnd m).2 ≠ 0) : bnd n = ([], 21) := by
 apply bnd_big
 apply Int.not_lt.1
 intro h1
 rw [bnd_small (Int.lt_of_le_of_lt h h1)] at hm
 exact hm rfl
theorem bnd_err {m : Int} (hm : (bnd m).2 ≠ 0) : (bnd m).2 = 21 := by
 unfold bnd at hm ⊢
 split at hm
 ·exact absurd rfl hm
 ·rw [if_neg (by assumption)]
theorem bnd_ok {m : Int} (hm : (bnd m).2 = 0) : m < (2 : Int) ^ 262144 := by
 apply Classical.byContradiction
 intro h
 rw [bnd_big (Int.not_lt.1 h)] at hm
 exact absurd hm (by decide)
theorem radix_Parse.j4_eq (b : Nat) (hb2 : 2 ≤ b) (hb : b ≤ 36) (s : ByteArray) (hg : gd b s.data.toList) (x8 x9 : Int) (x : List Int) (hw : Ws x) (hs : strip x = x) (hl : x.length ≤ 4096) (c : Nat) (hc1 : 1 ≤ c) (hc : c ≤ s.size) (hp : b ^ c < 18446744073709551616) (k : Nat) (hk : 20000000 < k)
  (hrec : ∀ y, Ws y → strip y = y → y.length ≤ 4096 → radix_Parse.l1 k (s.extract c s.size) b x8 x9 y = some (bnd (nv y * ((b ^ (s.size - c) : Nat) : Int) + ((vl b (s.data.toList.drop c) : Nat) : Int)))) :
  radix_Parse.j4 (k + 1) s b x8 x9 x c ((b ^ c : Nat) : Int) = some (bnd (nv x * ((b ^ s.size : Nat) : Int) + ((vl b s.data.toList : Nat) : Int))) := by
 have hn := nv_nonneg hw
 have hP : 0 < b ^ c := Nat.pow_pos (by omega)
 have hQ : 0 < b ^ (s.size - c) := Nat.pow_pos (by omega)
 have lw : (wd (b ^ c)).length ≤ 1 := wd_length_le (m := 1) (by exact hp)
 have gt := gd_take hg c
 have ltl : (s.data.toList.take c).length = c := by rw [List.length_take, size_data]; omega
 have ldl : (s.data.toList.drop c).length = s.size - c := by rw [List.length_drop, size_data]
 have hv := vl_lt gt
 rw [ltl] at hv
 have hW : vl b (s.data.toList.take c) < 18446744073709551616 := Nat.lt_trans hv hp
 have esz : b ^ s.size = b ^ c * b ^ (s.size - c) := by rw [← Nat.pow_add]; congr 1; omega
 have evl := vl_split b s.data.toList c
 rw [ldl] at evl
 have hword : radix_word.f (s.extract 0 c) b = some ((vl b (s.data.toList.take c) : Nat) : Int) := by
  have := radix_word.f_eq b hb2 hb (s.extract 0 c) (by rw [ex_data]; exact gt) (by rw [ex_size s c hc]; exact Nat.le_of_lt hp)
  rw [ex_data] at this
  exact this
 have hm1 : x.length * ((wd (b ^ c)).length + 2) ≤ 4096 * 3 := Nat.mul_le_mul hl (Nat.add_le_add_right lw 2)
 have q1 : (0 : Int) ≤ (c : Int) := Int.natCast_nonneg _
 have q2 : (c : Int) ≤ (s.size : Int) := Int.ofNat_le.2 hc
 have etot : nv x * ((b ^ s.size : Nat) : Int) + ((vl b s.data.toList : Nat) : Int) = (nv x * ((b ^ c : Nat) : Int) + ((vl b (s.data.toList.take c) : Nat) : Int)) * ((b ^ (s.size - c) : Nat) : Int) + ((vl b (s.data.toList.drop c) : Nat) : Int) := by
  rw [esz, evl]
  simp only [Int.natCast_mul, Int.natCast_add]
  generalize ((b ^ c : Nat) : Int) = p
  generalize ((b ^ (s.size - c) : Nat) : Int) = q
  grind
 have hge : nv x * ((b ^ c : Nat) : Int) + ((vl b (s.data.toList.take c) : Nat) : Int) ≤ nv x * ((b ^ s.size : Nat) : Int) + ((vl b s.data.toList : Nat) : Int) := by
  rw [etot]
  have h0 : 0 ≤ nv x * ((b ^ c : Nat) : Int) + ((vl b (s.data.toList.take c) : Nat) : Int) := Int.add_nonneg (Int.mul_nonneg hn (Int.natCast_nonneg _)) (Int.natCast_nonneg _)
  generalize nv x * ((b ^ c : Nat) : Int) + ((vl b (s.data.toList.take c) : Nat) : Int) = z at h0 ⊢
  have h1 : z * 1 ≤ z * ((b ^ (s.size - c) : Nat) : Int) := Int.mul_le_mul_of_nonneg_left (Int.ofNat_lt.2 hQ) h0
  rw [Int.mul_one] at h1
  exact Int.le_trans h1 (Int.le_add_of_nonneg_right (Int.natCast_nonneg _))
 have hmul : nat_Mul.f k x (wd (b ^ c)) = some (bnd (nv x * ((b ^ c : Nat) : Int))) := by
  rw [nat_Mul.f_eq x (wd (b ^ c)) hw (wd_ws _) (Nat.le_trans hl (by decide)) (Nat.le_trans lw (by decide)) k (by clear etot hge; omega), nv_wd]
  congr 1
  by_cases h0 : nv x * ((b ^ c : Nat) : Int) = 0
  ·rw [if_pos h0, h0, bnd_small (two_pow_pos 262144)]
   show _ = (wd 0, 0)
   rw [wd_zero]
  ·rw [if_neg h0]
 rw [radix_Parse.j4, nat_From.f_eq _ hp, Option.bind_some, hmul, Option.bind_some]
 have hm0 : 0 ≤ nv x * ((b ^ c : Nat) : Int) := Int.mul_nonneg hn (Int.natCast_nonneg _)
 by_cases h0 : (bnd (nv x * ((b ^ c : Nat) : Int))).2 = 0
 ·rw [if_pos h0, if_pos q1, if_pos q2, Int.toNat_natCast, hword, Option.bind_some, nat_From.f_eq _ hW, Option.bind_some]
  have hlt := bnd_ok h0
  have y1 := bnd_fst_len (nv x * ((b ^ c : Nat) : Int))
  have y2 := bnd_fst_ws (nv x * ((b ^ c : Nat) : Int))
  have y3 := bnd_fst_nv hm0 hlt
  have lw2 : (wd (vl b (s.data.toList.take c))).length ≤ 1 := wd_length_le (m := 1) (by exact hW)
  rw [nat_Add.f_eq _ _ y2 (wd_ws _) (Nat.le_trans y1 (by decide)) (Nat.le_trans lw2 (by decide)) k (Nat.lt_trans (by decide) hk), y3, nv_wd, Option.bind_some]
  by_cases h1 : (bnd (nv x * ((b ^ c : Nat) : Int) + ((vl b (s.data.toList.take c) : Nat) : Int))).2 = 0
  ·have hlt1 := bnd_ok h1
   have h2 : 0 ≤ nv x * ((b ^ c : Nat) : Int) + ((vl b (s.data.toList.take c) : Nat) : Int) := Int.add_nonneg hm0 (Int.natCast_nonneg _)
   have z1 := bnd_fst_len (nv x * ((b ^ c : Nat) : Int) + ((vl b (s.data.toList.take c) : Nat) : Int))
   have z2 := bnd_fst_ws (nv x * ((b ^ c : Nat) : Int) + ((vl b (s.data.toList.take c) : Nat) : Int))
   have z3 := bnd_fst_nv h2 hlt1
   have z4 : strip (bnd (nv x * ((b ^ c : Nat) : Int) + ((vl b (s.data.toList.take c) : Nat) : Int))).1 = (bnd (nv x * ((b ^ c : Nat) : Int) + ((vl b (s.data.toList.take c) : Nat) : Int))).1 := by
    rw [bnd_small hlt1]
    exact strip_wd _
   rw [if_pos h1, hrec _ z2 z4 z1, z3, etot]
  ·rw [if_neg h1, bnd_mono hge h1, bnd_err h1]
 ·have hge2 : nv x * ((b ^ c : Nat) : Int) ≤ nv x * ((b ^ s.size : Nat) : Int) + ((vl b s.data.toList : Nat) : Int) := Int.le_trans (Int.le_add_of_nonneg_right (Int.natCast_nonneg _)) hge
  rw [if_neg h0, bnd_mono hge2 h0, bnd_err h0]
theorem toList_nil (s : ByteArray) : s.toList = ([] : List UInt8) ↔ s.size = 0 := by
 rw [ByteArray.toList_eq, ← List.length_eq_zero_iff, size_data]
theorem radix_Parse.l1_eq (b n : Nat) (hb2 : 2 ≤ b) (hb : b ≤ 36) (hn1 : 1 ≤ n) (hn : n ≤ 66) (hp : b ^ n < 18446744073709551616) : ∀ (m k : Nat) (s : ByteArray) (x : List Int), s.size ≤ m → gd b s.data.toList → Ws x → strip x = x → x.length ≤ 4096 → m * 100 + 20001000 < k →
  radix_Parse.l1 k s b ((b ^ n : Nat) : Int) n x = some (bnd (nv x * ((b ^ s.size : Nat) : Int) + ((vl b s.data.toList : Nat) : Int))) := by
 intro m
 induction m with
 | zero =>
  intro k s x hm hg hw hs hl hk
  obtain ⟨k, rfl⟩ : ∃ j, k = j + 1 := ⟨k - 1, by omega⟩
  have h0 : s.size = 0 := by omega
  have hd : s.data.toList = [] := List.eq_nil_of_length_eq_zero (by rw [size_data]; exact h0)
  have hx := nv_lt hw
  have hx2 : nv x < (2 : Int) ^ 262144 := Int.lt_of_lt_of_le hx (pow_mono (by omega))
  have e : nv x * ((b ^ s.size : Nat) : Int) + ((vl b s.data.toList : Nat) : Int) = nv x := by
   rw [h0, hd, Nat.pow_zero]
   show nv x * 1 + 0 = nv x
   rw [Int.mul_one, Int.add_zero]
  simp only [radix_Parse.l1]
  rw [if_pos ((toList_nil s).2 h0), e, bnd_small hx2, wd_nv hw, hs]
 | succ m ih =>
  intro k s x hm hg hw hs hl hk
  obtain ⟨k, rfl⟩ : ∃ j, k = j + 1 := ⟨k - 1, by omega⟩
  by_cases h0 : s.size = 0
  ·exact ih (k + 1) s x (by omega) hg hw hs hl (by omega)
  ·simp only [radix_Parse.l1]
   rw [if_neg (fun h => h0 ((toList_nil s).1 h))]
   by_cases hc : n ≤ s.size
   ·have em : mn (n : Int) (s.size : Int) = (n : Int) := by unfold mn; rw [if_neg (by omega)]
    rw [em, if_neg (Int.lt_irrefl _)]
    obtain ⟨k, rfl⟩ : ∃ j, k = j + 1 := ⟨k - 1, by omega⟩
    refine radix_Parse.j4_eq b hb2 hb s hg _ _ x hw hs hl n hn1 hc hp k (by omega) ?_
    intro y y1 y2 y3
    have := ih k (s.extract n s.size) y (by rw [ex_size2]; omega) (by rw [ex_data2]; exact gd_drop hg n) y1 y2 y3 (by omega)
    rw [ex_size2, ex_data2] at this
    exact this
   ·have em : mn (n : Int) (s.size : Int) = (s.size : Int) := by unfold mn; rw [if_pos (by omega)]
    have hps : b ^ s.size < 18446744073709551616 := Nat.lt_of_le_of_lt (Nat.pow_le_pow_right (by omega) (by omega)) hp
    rw [em, if_pos (by omega)]
    obtain ⟨k, rfl⟩ : ∃ j, k = j + 1 + s.size + 1 := ⟨k - s.size - 2, by omega⟩
    have e2 := radix_Parse.l2_eq b hb s ((b ^ n : Nat) : Int) n x (s.size : Int) s.size (by omega) hps hb2 s.size (k + 1) 0 (by omega)
    rw [Nat.pow_zero] at e2
    have e3 : radix_Parse.l2 (k + 1 + s.size + 1) s b ((b ^ n : Nat) : Int) n x (s.size : Int) 1 (s.size : Int) 0 = radix_Parse.j4 (k + 1) s b ((b ^ n : Nat) : Int) n x (s.size : Int) ((b ^ s.size : Nat) : Int) := e2
    rw [e3]
    refine radix_Parse.j4_eq b hb2 hb s hg _ _ x hw hs hl s.size (by omega) (Nat.le_refl _) hps k (by omega) ?_
    intro y y1 y2 y3
    have := ih k (s.extract s.size s.size) y (by rw [ex_size2]; omega) (by rw [ex_data2]; exact gd_drop hg _) y1 y2 y3 (by omega)
    rw [ex_size2, ex_data2] at this
    exact this
theorem vl_big {b : Nat} (hb2 : 2 ≤ b) (m : Nat) (s : ByteArray) (hs : m < s.size) (hz : dv (by_ s 0) ≠ 0) : 2 ^ m ≤ vl b s.data.toList := by
 have hd := drop_data (s := s) (i := 0) (by omega)
 rw [List.drop_zero, Nat.zero_add] at hd
 have h5 : 1 ≤ dv (s.data.toList.getD 0 0).toNat := Nat.one_le_iff_ne_zero.2 hz
 rw [hd, vl_cons, List.length_drop, size_data]
 have a1 : 2 ^ m ≤ b ^ (s.size - 1) := pow_big hb2 (by omega)
 have a2 : 1 * b ^ (s.size - 1) ≤ dv (s.data.toList.getD 0 0).toNat * b ^ (s.size - 1) := Nat.mul_le_mul_right _ h5
 rw [Nat.one_mul] at a2
 exact Nat.le_trans a1 (Nat.le_trans a2 (Nat.le_add_right _ _))
theorem radix_Parse.j1_eq (b : Nat) (hb2 : 2 ≤ b) (hb : b ≤ 36) (s : ByteArray) (hg : gd b s.data.toList) (hz : s.size = 0 ∨ dv (by_ s 0) ≠ 0) (k : Nat) (hk : 60000000 < k) : radix_Parse.j1 k s b = some (bnd ((vl b s.data.toList : Nat) : Int)) := by
 obtain ⟨k, rfl⟩ : ∃ j, k = j + 1 := ⟨k - 1, by omega⟩
 obtain ⟨n, h1, h2, h3, h4⟩ := radix_chunk.f_eq b (by omega) (by omega)
 have hbn : (b : Int) ^ n = ((b ^ n : Nat) : Int) := (Int.natCast_pow b n).symm
 rw [hbn] at h3 h4
 simp only [radix_Parse.j1]
 by_cases h : (s.size : Int) > 262144
 ·rw [if_pos h]
  have h6 := vl_big hb2 262144 s (by omega) (hz.elim (fun h => by omega) id)
  rw [bnd_big (by rw [p2cast]; exact Int.ofNat_le.2 h6)]
 ·rw [if_neg h, h4, Option.bind_some]
  have := radix_Parse.l1_eq b n hb2 hb h1 h2 (Int.ofNat_lt.1 h3) s.size k s [] (Nat.le_refl _) hg Ws.nil rfl (by decide) (by omega)
  have e : nv [] * ((b ^ s.size : Nat) : Int) + ((vl b s.data.toList : Nat) : Int) = ((vl b s.data.toList : Nat) : Int) := by
   show 0 * _ + _ = _
   rw [Int.zero_mul, Int.zero_add]
  rw [e] at this
  exact this
theorem bt_by (s : ByteArray) (i : Nat) (h : i < s.size) : bt s (i : Int) = (by_ s i : Int) := by
 rw [by_get s i h, bt]
 rw [dif_pos (by rw [Int.toNat_natCast]; exact h)]
 rfl
theorem radix_Parse.l0_eq (b : Nat) (hb2 : 2 ≤ b) (hb : b ≤ 36) : ∀ (m k : Nat) (s : ByteArray), s.size ≤ m → gd b s.data.toList → m + 60000001 < k → radix_Parse.l0 k s b = some (bnd ((vl b s.data.toList : Nat) : Int)) := by
 intro m
 induction m with
 | zero =>
  intro k s hm hg hk
  obtain ⟨k, rfl⟩ : ∃ j, k = j + 1 := ⟨k - 1, by omega⟩
  simp only [radix_Parse.l0]
  rw [if_pos ((toList_nil s).2 (by omega))]
  exact radix_Parse.j1_eq b hb2 hb s hg (.inl (by omega)) k (by omega)
 | succ m ih =>
  intro k s hm hg hk
  obtain ⟨k, rfl⟩ : ∃ j, k = j + 1 := ⟨k - 1, by omega⟩
  simp only [radix_Parse.l0]
  by_cases h0 : s.size = 0
  ·rw [if_pos ((toList_nil s).2 h0)]
   exact radix_Parse.j1_eq b hb2 hb s hg (.inl h0) k (by omega)
  ·have e0 : bt s 0 = (by_ s 0 : Int) := bt_by s 0 (by omega)
   rw [if_neg (fun h => h0 ((toList_nil s).1 h)), if_pos (by omega), e0]
   by_cases h1 : (by_ s 0 : Int) = 48
   ·rw [if_pos h1, if_pos (by omega), ih k (s.extract 1 s.size) (by rw [ex_size2]; omega) (by rw [ex_data2]; exact gd_drop hg 1) (by omega), ex_data2]
    have hd := drop_data (s := s) (i := 0) (by omega)
    rw [List.drop_zero, Nat.zero_add] at hd
    have h48 : (s.data.toList.getD 0 0).toNat = 48 := Int.ofNat.inj h1
    have e9 : vl b s.data.toList = vl b (s.data.toList.drop 1) := by
     conv => lhs; rw [hd, vl_cons, h48]
     show 0 * _ + _ = _
     rw [Nat.zero_mul, Nat.zero_add]
    rw [e9]
   ·rw [if_neg h1]
    refine radix_Parse.j1_eq b hb2 hb s hg (.inr ?_) k (by omega)
    have hlt := (gd_iff b s).1 hg 0 (by omega)
    intro h2
    apply h1
    have : by_ s 0 = 48 := by
     unfold dv at h2 hlt
     split at h2
     ·omega
     ·split at h2
      ·omega
      ·split at h2 <;> omega
    rw [this]
    rfl
theorem radix_Parse.f_good (b : Nat) (hb2 : 2 ≤ b) (hb : b ≤ 36) (s : ByteArray) (hg : gd b s.data.toList) (h0 : s.size ≠ 0) (k : Nat) (hk : s.size + 60000001 < k) : radix_Parse.f k s b = some ((bnd ((vl b s.data.toList : Nat) : Int)).1, (bnd ((vl b s.data.toList : Nat) : Int)).2, 0) := by
 rw [radix_Parse.f, radix_based.f_eq, decide_eq_true (by omega), Option.bind_some, if_pos rfl, radix_Parse.s0_good b hb s s.size (s.size + 1) 0 (by omega) (by omega) (fun i _ h => (gd_iff b s).1 hg i h), Option.bind_some, if_neg (by decide), if_neg (fun h => h0 ((toList_nil s).1 h)), radix_Parse.l0_eq b hb2 hb s.size k s (Nat.le_refl _) hg hk, Option.bind_some]
theorem radix_Parse.f_empty (b : Nat) (hb2 : 2 ≤ b) (hb : b ≤ 36) (s : ByteArray) (h0 : s.size = 0) (k : Nat) : radix_Parse.f k s b = some (([] : List Int), 41, 0) := by
 rw [radix_Parse.f, radix_based.f_eq, decide_eq_true (by omega), Option.bind_some, if_pos rfl, radix_Parse.s0_good b hb s s.size (s.size + 1) 0 (by omega) (by omega) (fun i _ h => by omega), Option.bind_some, if_neg (by decide), if_pos ((toList_nil s).2 h0)]
theorem radix_Parse.f_unbased (b : Int) (hb : ¬ (2 ≤ b ∧ b ≤ 36)) (s : ByteArray) (k : Nat) : radix_Parse.f k s b = some (([] : List Int), 40, 0) := by
 rw [radix_Parse.f, radix_based.f_eq, decide_eq_false hb, Option.bind_some, if_neg (by decide)]
theorem radix_Parse.f_bad (b : Nat) (hb2 : 2 ≤ b) (hb : b ≤ 36) (s : ByteArray) (i : Nat) (hi : i < s.size) (hbad : ¬ dv (by_ s i) < b) (hg : ∀ j, j < i → dv (by_ s j) < b) (k : Nat) : radix_Parse.f k s b = some (([] : List Int), 41, (i : Int)) := by
 rw [radix_Parse.f, radix_based.f_eq, decide_eq_true (by omega), Option.bind_some, if_pos rfl, radix_Parse.s0_bad b hb s i hi hbad i (s.size + 1) 0 (by omega) (by omega) (by omega) (fun j _ h => hg j h), Option.bind_some, if_pos (Int.natCast_nonneg _)]
theorem first_bad (b : Nat) (s : ByteArray) (h : ¬ gd b s.data.toList) : ∃ i, i < s.size ∧ ¬ dv (by_ s i) < b ∧ ∀ j, j < i → dv (by_ s j) < b := by
 rw [gd_iff] at h
 have key : ∀ n, (∀ i, i < n → i < s.size → dv (by_ s i) < b) ∨ ∃ i, i < s.size ∧ ¬ dv (by_ s i) < b ∧ ∀ j, j < i → dv (by_ s j) < b := by
  intro n
  induction n with
  | zero => exact .inl (fun i hi => by omega)
  | succ n ih =>
   rcases ih with h1 | h1
   ·by_cases h2 : n < s.size ∧ ¬ dv (by_ s n) < b
    ·exact .inr ⟨n, h2.1, h2.2, fun j hj => h1 j hj (by omega)⟩
    ·refine .inl (fun i hi his => ?_)
     by_cases h3 : i < n
     ·exact h1 i h3 his
     ·obtain rfl : i = n := by omega
      apply Classical.byContradiction
      intro h4
      exact h2 ⟨his, h4⟩
   ·exact .inr h1
 rcases key s.size with h1 | h1
 ·exact absurd (fun i hi => h1 i hi hi) h
 ·exact h1
theorem refv (c : Nat) (hc : c < 256) (k : Nat) (hk : 3 ≤ k) : ∃ v : Nat, plumbref04_value.f k (c : Int) = some (v : Int) ∧ v ≤ 99 ∧ (∀ b : Nat, b ≤ 36 → (v < b ↔ dv c < b)) ∧ (dv c < 36 → v = dv c) := by
 obtain ⟨k, rfl⟩ : ∃ j, k = j + 1 + 1 := ⟨k - 2, by omega⟩
 rw [plumbref04_value.f]
 by_cases h1 : 48 ≤ c ∧ c ≤ 57
 ·have e : dv c = c - 48 := by unfold dv; rw [if_pos h1]
  rw [if_pos (show (c : Int) ≥ 48 by omega), decide_eq_true (show (c : Int) ≤ 57 by omega), plumbref04_value.j0, if_pos rfl, e]
  exact ⟨c - 48, by congr 1; omega, by omega, fun b _ => Iff.rfl, fun _ => rfl⟩
 ·have hj : (if (c : Int) ≥ 48 then plumbref04_value.j0 (k + 1 + 1) (c : Int) (decide ((c : Int) ≤ 57)) else plumbref04_value.j0 (k + 1 + 1) (c : Int) false) = plumbref04_value.j0 (k + 1 + 1) (c : Int) false := by
   by_cases h2 : (c : Int) ≥ 48
   ·rw [if_pos h2, decide_eq_false (show ¬ (c : Int) ≤ 57 by omega)]
   ·rw [if_neg h2]
  rw [hj, plumbref04_value.j0, if_neg (show ¬ (false = true) by decide)]
  by_cases h3 : 97 ≤ c ∧ c ≤ 122
  ·have e : dv c = c - 87 := by unfold dv; rw [if_neg h1, if_pos h3]
   rw [if_pos (show (c : Int) ≥ 97 by omega), decide_eq_true (show (c : Int) ≤ 122 by omega), plumbref04_value.j1, if_pos rfl, e]
   exact ⟨c - 87, by congr 1; omega, by omega, fun b _ => Iff.rfl, fun _ => rfl⟩
  ·have hj2 : (if (c : Int) ≥ 97 then plumbref04_value.j1 (k + 1) (c : Int) (decide ((c : Int) ≤ 122)) else plumbref04_value.j1 (k + 1) (c : Int) false) = plumbref04_value.j1 (k + 1) (c : Int) false := by
    by_cases h2 : (c : Int) ≥ 97
    ·rw [if_pos h2, decide_eq_false (show ¬ (c : Int) ≤ 122 by omega)]
    ·rw [if_neg h2]
   rw [hj2, plumbref04_value.j1, if_neg (show ¬ (false = true) by decide)]
   by_cases h5 : 65 ≤ c ∧ c ≤ 90
   ·have e : dv c = c - 55 := by unfold dv; rw [if_neg h1, if_neg h3, if_pos h5]
    rw [if_pos (show (c : Int) ≥ 65 by omega), if_pos (show (c : Int) ≤ 90 by omega), e]
    exact ⟨c - 55, by congr 1; omega, by omega, fun b _ => Iff.rfl, fun _ => rfl⟩
   ·have e : dv c = 36 := by unfold dv; rw [if_neg h1, if_neg h3, if_neg h5]
    rw [e]
    have hs : (if (c : Int) ≥ 65 then (if (c : Int) ≤ 90 then some (((c : Int) - 65) % 256 + 10) else some 99) else some 99) = some (99 : Int) := by
     by_cases h6 : (c : Int) ≥ 65
     ·rw [if_pos h6, if_neg (show ¬ (c : Int) ≤ 90 by omega)]
     ·rw [if_neg h6]
    rw [hs]
    exact ⟨99, rfl, by omega, fun b hb => by omega, fun h => by omega⟩
theorem by_lt (s : ByteArray) (i : Nat) : by_ s i < 256 := by unfold by_; exact UInt8.toNat_lt _
theorem dv_zero {c : Nat} : dv c = 0 ↔ c = 48 := by unfold dv; split <;> (try split) <;> (try split) <;> omega
theorem ref_bad (b : Nat) (hb : b ≤ 36) (s : ByteArray) (hsz : s.size ≤ 140737488351232) (i : Nat) (hi : i < s.size) (hbad : ¬ dv (by_ s i) < b) : ∀ (d k pos from_ : Nat), i - pos = d → pos ≤ i → d + 3 < k → from_ ≤ pos → (∀ j, pos ≤ j → j < i → dv (by_ s j) < b) →
  plumbref04_Parse.l0 k s b from_ pos = some ([], 41, (i : Int)) := by
 intro d
 induction d with
 | zero =>
  intro k pos from_ h1 h2 hk hf hg
  obtain ⟨k, rfl⟩ : ∃ j, k = j + 1 := ⟨k - 1, by omega⟩
  obtain rfl : pos = i := by omega
  obtain ⟨v, e1, e2, e3, e4⟩ := refv (by_ s pos) (by_lt s pos) k (by omega)
  have := e3 b hb
  rw [plumbref04_Parse.l0, if_pos (by omega), if_pos (by omega), bt_by s pos hi, e1, Option.bind_some, if_pos (by omega)]
 | succ d ih =>
  intro k pos from_ h1 h2 hk hf hg
  obtain ⟨k, rfl⟩ : ∃ j, k = j + 1 := ⟨k - 1, by omega⟩
  have hp : pos < s.size := by omega
  obtain ⟨v, e1, e2, e3, e4⟩ := refv (by_ s pos) (by_lt s pos) k (by omega)
  have h3 := e3 b hb
  have h4 := hg pos (Nat.le_refl _) (by omega)
  have r1 := ih k (pos + 1) from_ (by omega) (by omega) (by omega) (by omega) (fun j hj hj2 => hg j (by omega) hj2)
  have r2 := ih k (pos + 1) (from_ + 1) (by omega) (by omega) (by omega) (by omega) (fun j hj hj2 => hg j (by omega) hj2)
  rw [plumbref04_Parse.l0, if_pos (by omega), if_pos (by omega), bt_by s pos hp, e1, Option.bind_some, if_neg (by omega), w64_succ pos (by omega), w64_succ from_ (by omega), r1, r2]
  split
  ·split <;> rfl
  ·rfl
theorem ref_good (b : Nat) (hb : b ≤ 36) (s : ByteArray) (hsz : s.size ≤ 140737488351232) (hg : ∀ j, j < s.size → dv (by_ s j) < b) : ∀ (d k pos from_ : Nat), s.size - pos = d → pos ≤ s.size → d + 3 < k → from_ ≤ pos → (∀ j, j < from_ → by_ s j = 48) → (from_ < pos → by_ s from_ ≠ 48) →
  ∃ z m : Nat, z ≤ s.size ∧ k ≤ m + d + 1 ∧ m ≤ k ∧ (∀ j, j < z → by_ s j = 48) ∧ (z < s.size → by_ s z ≠ 48) ∧ plumbref04_Parse.l0 k s b from_ pos = plumbref04_Parse.l1 m s b z 1 := by
 intro d
 induction d with
 | zero =>
  intro k pos from_ h1 h2 hk hf hz hn
  obtain ⟨k, rfl⟩ : ∃ j, k = j + 1 := ⟨k - 1, by omega⟩
  refine ⟨from_, k, by omega, by omega, by omega, hz, fun h => hn (by omega), ?_⟩
  rw [plumbref04_Parse.l0, if_neg (by omega)]
 | succ d ih =>
  intro k pos from_ h1 h2 hk hf hz hn
  obtain ⟨k, rfl⟩ : ∃ j, k = j + 1 := ⟨k - 1, by omega⟩
  have hp : pos < s.size := by omega
  obtain ⟨v, e1, e2, e3, e4⟩ := refv (by_ s pos) (by_lt s pos) k (by omega)
  have h3 := e3 b hb
  have h4 := hg pos hp
  rw [plumbref04_Parse.l0, if_pos (by omega), if_pos (by omega), bt_by s pos hp, e1, Option.bind_some, if_neg (by omega), w64_succ pos (by omega), w64_succ from_ (by omega)]
  by_cases g1 : ((by_ s pos : Nat) : Int) = 48
  ·rw [if_pos g1]
   by_cases g2 : ((pos : Nat) : Int) = (from_ : Int)
   ·rw [if_pos g2]
    obtain rfl : pos = from_ := by omega
    obtain ⟨z, m, m1, m2, m3, m4, m5, m6⟩ := ih k (pos + 1) (pos + 1) (by omega) (by omega) (by omega) (by omega) (fun j hj => by
     by_cases hjp : j = pos
     ·subst hjp; omega
     ·exact hz j (by omega)) (fun h => by omega)
    exact ⟨z, m, m1, by omega, by omega, m4, m5, m6⟩
   ·rw [if_neg g2]
    obtain ⟨z, m, m1, m2, m3, m4, m5, m6⟩ := ih k (pos + 1) from_ (by omega) (by omega) (by omega) (by omega) hz (fun _ => hn (by omega))
    exact ⟨z, m, m1, by omega, by omega, m4, m5, m6⟩
  ·rw [if_neg g1]
   obtain ⟨z, m, m1, m2, m3, m4, m5, m6⟩ := ih k (pos + 1) from_ (by omega) (by omega) (by omega) (by omega) hz (fun _ => by
    by_cases hfp : from_ = pos
    ·subst hfp; omega
    ·exact hn (by omega))
   exact ⟨z, m, m1, by omega, by omega, m4, m5, m6⟩
theorem ref_least (b : Nat) (hb2 : 2 ≤ b) (hb : b ≤ 36) (s : ByteArray) (z k : Nat) (hk : 10 < k) : ∃ l m : Nat, 1 ≤ l ∧ l ≤ 5 ∧ 2 ^ l ≤ b ∧ m < k ∧ k ≤ m + 6 ∧
  plumbref04_Parse.l1 k s b z 1 = if (wrap64 ((wrap64 ((wrap64 ((s.size : Int) - z)) - 1)) * l)) ≥ 262144 then (some (([] : List Int), 21, 0)) else plumbref04_Parse.l2 m s b [] z := by
 obtain ⟨k, rfl⟩ : ∃ j, k = j + 5 := ⟨k - 5, by omega⟩
 rw [show k + 5 = (k + 4) + 1 from rfl, plumbref04_Parse.l1, if_pos (by omega), show shl .i64 2 1 = 4 from by decide +kernel, show wrap64 ((1 : Int) + 1) = 2 from by decide +kernel]
 by_cases h1 : (b : Int) ≥ 4
 ·rw [if_pos h1, show k + 4 = (k + 3) + 1 from rfl, plumbref04_Parse.l1, if_pos (by omega), show shl .i64 2 2 = 8 from by decide +kernel, show wrap64 ((2 : Int) + 1) = 3 from by decide +kernel]
  by_cases h2 : (b : Int) ≥ 8
  ·rw [if_pos h2, show k + 3 = (k + 2) + 1 from rfl, plumbref04_Parse.l1, if_pos (by omega), show shl .i64 2 3 = 16 from by decide +kernel, show wrap64 ((3 : Int) + 1) = 4 from by decide +kernel]
   by_cases h3 : (b : Int) ≥ 16
   ·rw [if_pos h3, show k + 2 = (k + 1) + 1 from rfl, plumbref04_Parse.l1, if_pos (by omega), show shl .i64 2 4 = 32 from by decide +kernel, show wrap64 ((4 : Int) + 1) = 5 from by decide +kernel]
    by_cases h4 : (b : Int) ≥ 32
    ·rw [if_pos h4, plumbref04_Parse.l1, if_pos (by omega), show shl .i64 2 5 = 64 from by decide +kernel, if_neg (by omega)]
     exact ⟨5, k, by omega, by omega, by omega, by omega, by omega, rfl⟩
    ·rw [if_neg h4]
     exact ⟨4, k + 1, by omega, by omega, by omega, by omega, by omega, rfl⟩
   ·rw [if_neg h3]
    exact ⟨3, k + 2, by omega, by omega, by omega, by omega, by omega, rfl⟩
  ·rw [if_neg h2]
   exact ⟨2, k + 3, by omega, by omega, by omega, by omega, by omega, rfl⟩
 ·rw [if_neg h1]
  exact ⟨1, k + 4, by omega, by omega, by omega, by omega, by omega, rfl⟩
theorem pow2_le {a c : Nat} (h : a ≤ c) : (2 : Int) ^ a ≤ 2 ^ c := by
 rw [p2cast, p2cast]
 exact Int.ofNat_le.2 (Nat.pow_le_pow_right (by decide) h)
theorem ref_put (b : Nat) (hb2 : 2 ≤ b) (hb : b ≤ 36) (s : ByteArray) (hsz : s.size ≤ 140737488351232) (hg : ∀ j, j < s.size → dv (by_ s j) < b) (z : Nat) (hz : z ≤ s.size) (hfew : s.size ≤ z + 262145) : ∀ (d k i : Nat) (acc : List Int), s.size - i = d → i ≤ s.size → z ≤ i → d + 70000000 < k → Hs acc → acc.length ≤ i - z → hv acc = ((vl b ((s.data.toList.drop z).take (i - z)) : Nat) : Int) →
  plumbref04_Parse.l2 k s b acc i = some (if ((vl b (s.data.toList.drop z) : Nat) : Int) < (2 : Int) ^ 262144 then (wd (vl b (s.data.toList.drop z)), 0, -1) else ([], 21, 0)) := by
 intro d
 induction d with
 | zero =>
  intro k i acc h1 h2 h3 hk hw hl hv_
  obtain ⟨k, rfl⟩ : ∃ j, k = j + 1 := ⟨k - 1, by omega⟩
  obtain rfl : i = s.size := by omega
  rw [List.take_of_length_le (by rw [List.length_drop, size_data]; exact Nat.le_refl _)] at hv_
  rw [plumbref04_Parse.l2, if_neg (by omega), plumbref04_words.f_eq acc hw (by omega) k (by omega), Option.bind_some, hv_, Int.toNat_natCast]
  generalize vl b (s.data.toList.drop z) = V
  by_cases hV : ((V : Nat) : Int) < (2 : Int) ^ 262144
  ·have hlen : (wd V).length ≤ 4096 := by have := bnd_fst_len (V : Int); rw [bnd_small hV] at this; exact this
   rw [if_pos hV, if_neg (by clear hV; omega)]
  ·have hlen : ¬ (wd V).length ≤ 4096 := by
    intro h
    have h5 := nv_lt (wd_ws V)
    rw [nv_wd] at h5
    apply hV
    refine Int.lt_of_lt_of_le h5 ?_
    have h6 : 64 * (wd V).length ≤ 262144 := by clear hV h5; omega
    exact pow2_le h6
   rw [if_neg hV, if_pos (by clear hV; omega)]
 | succ d ih =>
  intro k i acc h1 h2 h3 hk hw hl hv_
  obtain ⟨k, rfl⟩ : ∃ j, k = j + 1 := ⟨k - 1, by omega⟩
  have hi : i < s.size := by omega
  obtain ⟨v, e1, e2, e3, e4⟩ := refv (by_ s i) (by_lt s i) k (by omega)
  have h4 := hg i hi
  have h5 := e4 (by omega)
  have u1 : IntKind.u64.wrap (b : Int) = (b : Int) := u64w_of (by omega) (by omega)
  have u2 : IntKind.u64.wrap (v : Int) = (v : Int) := u64w_of (by omega) (by omega)
  obtain ⟨r, r1, r2, r3, r4⟩ := plumbref04_put.l0_eq (b : Int) (by omega) (by omega) (hv acc * b + v) acc.length (by omega) acc.length k acc (v : Int) 0 (by omega) (by omega) (by omega) rfl hw (by omega) (by omega) (by rw [List.take_zero, List.drop_zero, Nat.mul_zero, Int.pow_zero, Int.mul_one]; simp [hv])
  have hdl : i - z < (s.data.toList.drop z).length := by rw [List.length_drop, size_data]; omega
  have et : (s.data.toList.drop z).take (i + 1 - z) = (s.data.toList.drop z).take (i - z) ++ [s.data.toList.getD i 0] := by
   rw [show i + 1 - z = (i - z) + 1 from by omega, List.take_add_one, List.getElem?_drop, show z + (i - z) = i from by omega, List.getD_eq_getElem?_getD, List.getElem?_eq_getElem (by rw [size_data]; exact hi)]
   rfl
  have ev : vl b ((s.data.toList.drop z).take (i + 1 - z)) = vl b ((s.data.toList.drop z).take (i - z)) * b + dv (by_ s i) := by
   rw [et, vl_append, List.length_singleton, Nat.pow_one, vl_cons]
   simp [vl, vlA, by_]
  rw [plumbref04_Parse.l2, if_pos (by omega), if_pos (by omega), bt_by s i hi, e1, Option.bind_some, u1, u2, plumbref04_put.f, show plumbref04_put.l0 k acc (b : Int) (v : Int) 0 = some r from r1, Option.bind_some, w64_succ i (by omega)]
  exact ih k (i + 1) r (by omega) (by omega) (by omega) (by omega) r2 (by omega) (by rw [r4, ev, hv_, h5]; push_cast; rfl)
theorem vl_zeros (b : Nat) : ∀ L : List UInt8, (∀ c ∈ L, dv c.toNat = 0) → vl b L = 0 := by
 intro L
 induction L with
 | nil => intro _; rfl
 | cons c L ih =>
  intro h
  rw [vl_cons, h c (List.mem_cons_self ..), ih (fun x hx => h x (List.mem_cons_of_mem _ hx)), Nat.zero_mul]
theorem take_zero (b : Nat) (s : ByteArray) (z : Nat) (hz : z ≤ s.size) (h : ∀ j, j < z → by_ s j = 48) : vl b s.data.toList = vl b (s.data.toList.drop z) := by
 have h0 : vl b (s.data.toList.take z) = 0 := by
  apply vl_zeros
  intro c hc
  obtain ⟨j, hj, rfl⟩ := List.mem_iff_getElem.1 hc
  rw [List.length_take, size_data] at hj
  have := h j (by omega)
  unfold by_ at this
  rw [List.getD_eq_getElem?_getD, List.getElem?_eq_getElem (by rw [size_data]; omega)] at this
  rw [List.getElem_take]
  exact dv_zero.2 this
 rw [vl_split b s.data.toList z, h0, Nat.zero_mul, Nat.zero_add]
theorem wrapprod (S z l : Nat) (hS : S ≤ 140737488351232) (hz : z ≤ S) (hl : l ≤ 5) : wrap64 ((wrap64 ((wrap64 ((S : Int) - z)) - 1)) * l) = ((S : Int) - z - 1) * l := by
 rw [w64_of (x := (S : Int) - z) (by omega) (by omega), w64_of (x := (S : Int) - z - 1) (by omega) (by omega)]
 have hc : l = 0 ∨ l = 1 ∨ l = 2 ∨ l = 3 ∨ l = 4 ∨ l = 5 := by omega
 rcases hc with rfl | rfl | rfl | rfl | rfl | rfl <;> exact w64_of (by omega) (by omega)
theorem vl_large (b l : Nat) (hl : 2 ^ l ≤ b) (c : UInt8) (L : List UInt8) (hc : dv c.toNat ≠ 0) (m : Nat) (hm : m ≤ l * L.length) : ¬ ((vl b (c :: L) : Nat) : Int) < (2 : Int) ^ m := by
 rw [p2cast]
 intro h
 have h1 := Int.ofNat_lt.1 h
 rw [vl_cons] at h1
 have h2 : (2 ^ l) ^ L.length ≤ b ^ L.length := Nat.pow_le_pow_left hl _
 rw [← Nat.pow_mul] at h2
 have h3 : 2 ^ m ≤ 2 ^ (l * L.length) := Nat.pow_le_pow_right (by decide) hm
 have h4 : 1 * b ^ L.length ≤ dv c.toNat * b ^ L.length := Nat.mul_le_mul_right _ (by omega)
 rw [Nat.one_mul] at h4
 have h5 := Nat.le_trans h3 (Nat.le_trans h2 h4)
 generalize 2 ^ m = A at *
 generalize dv c.toNat * b ^ L.length = B at *
 clear hc hl
 omega
theorem ref_parse_good (b : Nat) (hb2 : 2 ≤ b) (hb : b ≤ 36) (s : ByteArray) (hsz : s.size ≤ 140737488351232) (h0 : s.size ≠ 0) (hg : ∀ j, j < s.size → dv (by_ s j) < b) (k : Nat) (hk : s.size * 2 + 200000000 < k) :
  plumbref04_Parse.f k s b = some (if ((vl b s.data.toList : Nat) : Int) < (2 : Int) ^ 262144 then (wd (vl b s.data.toList), 0, -1) else ([], 21, 0)) := by
 obtain ⟨k, rfl⟩ : ∃ j, k = j + 1 := ⟨k - 1, by omega⟩
 rw [plumbref04_Parse.f, if_neg (by omega), decide_eq_false (by omega), plumbref04_Parse.j0, if_neg Bool.false_ne_true, if_neg (by omega)]
 obtain ⟨z, m, m1, m2, m3, m4, m5, m6⟩ := ref_good b hb s hsz hg s.size k 0 0 (by omega) (by omega) (by omega) (by omega) (fun j hj => by omega) (fun h => by omega)
 obtain ⟨l, m', l1, l2, l3, l4, l5, l6⟩ := ref_least b hb2 hb s z m (by omega)
 rw [show plumbref04_Parse.l0 k s b 0 0 = plumbref04_Parse.l1 m s b z 1 from m6, l6, wrapprod s.size z l hsz m1 l2, take_zero b s z m1 m4]
 by_cases hc : ((s.size : Int) - z - 1) * l ≥ 262144
 ·rw [if_pos hc]
  have hzs : z < s.size := by
   apply Classical.byContradiction
   intro h
   obtain rfl : z = s.size := by omega
   have hcl : l = 1 ∨ l = 2 ∨ l = 3 ∨ l = 4 ∨ l = 5 := by omega
   rcases hcl with rfl | rfl | rfl | rfl | rfl <;> omega
  have hm : 262144 ≤ l * (s.data.toList.drop (z + 1)).length := by
   rw [List.length_drop, size_data]
   have hcl : l = 1 ∨ l = 2 ∨ l = 3 ∨ l = 4 ∨ l = 5 := by omega
   rcases hcl with rfl | rfl | rfl | rfl | rfl <;> omega
  have hd : s.data.toList.drop z = s.data.toList.getD z 0 :: s.data.toList.drop (z + 1) := drop_data hzs
  have hne : dv (s.data.toList.getD z 0).toNat ≠ 0 := fun h => m5 hzs (dv_zero.1 h)
  rw [hd, if_neg (vl_large b l l3 _ _ hne _ hm)]
 ·rw [if_neg hc]
  have hfew : s.size ≤ z + 262145 := by
   have hcl : l = 1 ∨ l = 2 ∨ l = 3 ∨ l = 4 ∨ l = 5 := by omega
   rcases hcl with rfl | rfl | rfl | rfl | rfl <;> omega
  exact ref_put b hb2 hb s hsz hg z m1 hfew (s.size - z) m' z [] rfl m1 (Nat.le_refl _) (by omega) (fun x hx => by cases hx) (by simp) (by rw [Nat.sub_self, List.take_zero]; rfl)
open Go.RowKit Go.Proofs.YtjknfppbebfhnaaDoorW.PrintWords Go.Proofs.YtjknfppbebfhnaaDoorW.PrintLast Go.Proofs.YtjknfppbebfhnaaDoorW.PrintMore
theorem plumblaw04_eq.l0_eq (xs ys : List Int) (hl : xs.length = ys.length) (hm : xs.length ≤ 35184372088832) : ∀ (d k n : Nat), d = xs.length - n → d < k → n ≤ xs.length →
  plumblaw04_eq.l0 k xs ys n = some (decide (xs.drop n = ys.drop n)) := by
 intro d
 induction d with
 | zero =>
  intro k n hd hk hn
  obtain ⟨k, rfl⟩ : ∃ j, k = j + 1 := ⟨k - 1, by omega⟩
  simp only [plumblaw04_eq.l0]
  rw [if_neg (by omega), List.drop_eq_nil_of_le (by omega), List.drop_eq_nil_of_le (by omega)]
  simp
 | succ d ih =>
  intro k n hd hk hn
  obtain ⟨k, rfl⟩ : ∃ j, k = j + 1 := ⟨k - 1, by omega⟩
  simp only [plumblaw04_eq.l0]
  rw [if_pos (by omega), if_pos (by omega), if_pos (by omega)]
  have hn1 : n < xs.length := by omega
  have hn2 : n < ys.length := by omega
  have e1 : rd xs (n : Int) = xs[n]'hn1 := by
   show xs.getD n 0 = _
   rw [List.getD_eq_getElem?_getD, List.getElem?_eq_getElem hn1]; rfl
  have e2 : rd ys (n : Int) = ys[n]'hn2 := by
   show ys.getD n 0 = _
   rw [List.getD_eq_getElem?_getD, List.getElem?_eq_getElem hn2]; rfl
  have ew : wrap64 ((n : Int) + 1) = ((n + 1 : Nat) : Int) := by unfold wrap64; omega
  rw [ew, e1, e2]
  clear ew e1 e2
  rw [List.drop_eq_getElem_cons hn1, List.drop_eq_getElem_cons hn2]
  by_cases h : xs[n]'hn1 = ys[n]'hn2
  ·rw [if_pos h, ih k (n + 1) (by omega) (by omega) (by omega)]
   congr 1
   rw [decide_eq_decide, List.cons.injEq]
   exact ⟨fun h1 => ⟨h, h1⟩, fun h1 => h1.2⟩
  ·rw [if_neg h]
   congr 1
   symm
   rw [decide_eq_false_iff_not, List.cons.injEq]
   exact fun h1 => h h1.1
theorem plumblaw04_eq.f_eq (xs ys : List Int) (hm : xs.length ≤ 35184372088832) (k : Nat) (hk : xs.length < k) : plumblaw04_eq.f k xs ys = some (decide (xs = ys)) := by
 rw [plumblaw04_eq.f]
 by_cases h : xs.length = ys.length
 ·rw [if_pos (by omega)]
  have := plumblaw04_eq.l0_eq xs ys h hm xs.length k 0 (by omega) hk (by omega)
  rw [List.drop_zero, List.drop_zero] at this
  exact this
 ·rw [if_neg (by omega)]
  congr 1
  symm
  rw [decide_eq_false_iff_not]
  intro h1
  exact h (by rw [h1])
end Go.Proofs.YtjknfppbebfhnaaDoor.PA
namespace Go.Proofs.YtjknfppbebfhnaaDoor.Pure
open Go Go.RowKit Go.Proofs.YtjknfppbebfhnaaDoor.PA Go.Proofs.YtjknfppbebfhnaaDoorW.PrintWords Go.Proofs.YtjknfppbebfhnaaDoorW.PrintLast
set_option linter.unusedVariables false
theorem parses_alive_at : plumblaw04_alive.f 200 = some true := by kernel_rfl
theorem parses_alive (k : Nat) (hk : 200 ≤ k) : plumblaw04_alive.f k = some true := by
 obtain ⟨d, rfl⟩ : ∃ d, k = 200 + d := ⟨k - 200, by omega⟩
 clear hk
 induction d with
 | zero => exact parses_alive_at
 | succ d ih => exact plumblaw04_alive.mono _ _ ih
theorem parses_both (b : Int) (s : ByteArray) (hsz : s.size ≤ 140737488351232) (k : Nat) (hk : s.size * 2 + 300000000 < k) :
  ∃ (x : List Int) (c p : Int), x.length ≤ 4096 ∧ radix_Parse.f k s b = some (x, c, p) ∧ plumbref04_Parse.f k s b = some (x, c, placeOf c p) := by
 obtain ⟨k, rfl⟩ : ∃ j, k = j + 1 := ⟨k - 1, by omega⟩
 by_cases hb : 2 ≤ b ∧ b ≤ 36
 ·obtain ⟨c, rfl⟩ : ∃ c : Nat, b = (c : Int) := ⟨b.toNat, by omega⟩
  have h2 : 2 ≤ c := by omega
  have h36 : c ≤ 36 := by omega
  by_cases h0 : s.size = 0
  ·refine ⟨[], 41, 0, by decide, radix_Parse.f_empty c h2 h36 s h0 _, ?_⟩
   rw [plumbref04_Parse.f, if_neg (by omega), decide_eq_false (by omega), plumbref04_Parse.j0, if_neg Bool.false_ne_true, if_pos (by omega)]
   rfl
  ·by_cases hg : gd c s.data.toList
   ·have hp := radix_Parse.f_good c h2 h36 s hg h0 (k + 1) (by omega)
    have hd := ref_parse_good c h2 h36 s hsz h0 ((gd_iff c s).1 hg) (k + 1) (by omega)
    have hl := bnd_fst_len ((vl c s.data.toList : Nat) : Int)
    refine ⟨_, _, _, hl, hp, ?_⟩
    rw [hd]
    clear hd hp hl
    generalize vl c s.data.toList = V
    by_cases hV : ((V : Nat) : Int) < (2 : Int) ^ 262144
    ·rw [if_pos hV, bnd_small hV, Int.toNat_natCast]; rfl
    ·rw [if_neg hV, bnd_big (Int.not_lt.1 hV)]; rfl
   ·obtain ⟨i, h1, h3, h4⟩ := first_bad c s hg
    refine ⟨[], 41, (i : Int), by decide, radix_Parse.f_bad c h2 h36 s i h1 h3 h4 _, ?_⟩
    rw [plumbref04_Parse.f, if_neg (by omega), decide_eq_false (by omega), plumbref04_Parse.j0, if_neg Bool.false_ne_true, if_neg (by omega)]
    exact ref_bad c h36 s hsz i h1 h3 i k 0 0 (by omega) (by omega) (by omega) (by omega) (fun j _ h => h4 j h)
 ·refine ⟨[], 40, 0, by decide, radix_Parse.f_unbased b hb s _, ?_⟩
  rw [plumbref04_Parse.f]
  by_cases h2 : b < 2
  ·rw [if_pos h2, plumbref04_Parse.j0, if_pos rfl]; rfl
  ·rw [if_neg h2, decide_eq_true (by omega), plumbref04_Parse.j0, if_pos rfl]; rfl
theorem RadixParses : plumblaw04_RadixParses.Pure := by
 intro a0 a1 hsz w1
 obtain ⟨k, hk⟩ : ∃ k : Nat, a0.size * 2 + 300000000 < k := ⟨a0.size * 2 + 300000001, by omega⟩
 obtain ⟨x, c, p, hl, e1, e2⟩ := parses_both a1 a0 hsz k hk
 refine ⟨k, ?_⟩
 have he := plumblaw04_eq.f_eq x x (by omega) k (by omega)
 rw [decide_eq_true rfl] at he
 rw [plumblaw04_RadixParses.f, e1, e2, Option.bind_some, Option.bind_some, parses_alive k (by omega), Option.bind_some, if_pos rfl]
 simp only []
 rw [he, Option.bind_some, if_pos rfl]
 unfold isB
 rw [decide_eq_true rfl, decide_eq_true rfl]
 rfl
end Go.Proofs.YtjknfppbebfhnaaDoor.Pure
