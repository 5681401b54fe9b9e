/- A part of the proof (3). -/
import Derived.Test.YtiogfeeaepkkmaaYKGVKG2
namespace Go.Proofs.Ytiogfeeaepkkmaa.PA
open Go.RowKit Go.Proofs.YtiogfeeaepkkmaaW.PrintWords Go.Proofs.YtiogfeeaepkkmaaW.PrintLast Go.Proofs.YtiogfeeaepkkmaaW.PrintMore
attribute [local go_sem] max2_int min2_int max_two min_two max_three min_three max_four min_four
set_option linter.unusedVariables false
set_option linter.unusedSimpArgs false
def wide_Len.l0 : Nat → Int → Int → Int → Option (Int)
 | 0, _, _, _ => none
 | k + 1, x0, x3, x4 => if x4 > 0 then (if 0 ≤ x4 then (if (shr .u64 x0 x4) = 0 then (wide_Len.l0 k x0 x3 (x4 / 2)) else (wide_Len.l0 k (shr .u64 x0 x4) (wrap64 (x3 + x4)) (x4 / 2))) else (none)) else (some (wrap64 (x3 + (wrap64 (x0)))))
def wide_Len.f (k : Nat) (a0 : Int) : Option (Int) := wide_Len.l0 k a0 0 32
theorem wide_Len.mono_l : ∀ k, (∀ y0 y1 y2, LeO (wide_Len.l0 k y0 y1 y2) (wide_Len.l0 (k + 1) y0 y1 y2))
 | 0 => fun _ _ _ r h => by simp [wide_Len.l0] at h
 | k + 1 => by
  have ih0 := wide_Len.mono_l k
  ·intro y0 y1 y2
   unfold wide_Len.l0
   exact mX
theorem wide_Len.mono : ∀ a0 k, LeO (wide_Len.f k a0) (wide_Len.f (k + 1) a0) := by
 intro a0 k
 have ih0 := wide_Len.mono_l k
 unfold wide_Len.f
 exact mX
set_option maxHeartbeats 8000000 in
set_option maxRecDepth 100000 in
theorem wide_Len.calls (k : Nat) (a0 : Int) (r : Int) (w : World) (h : wide_Len.f k a0 = some r) :
  Calls Try.prog 63 #[.int .u64 a0] w fun e w' => e = .returned (.int .i64 r) ∧ Drawn0 w w' := by
 have H := h
 clear h
 unfold wide_Len.f at H
 have H' := aM H
 clear H
 go_enter Try.func63, Try.ntmps63
 go_wp2
 go_loopg [0, 3, 4] k (fun kq v0 v3 v4 w' => ∃ (x0_1 : Int) (x3_1 : Int) (x4_1 : Int), v0 = .int .u64 x0_1 ∧ v3 = .int .i64 x3_1 ∧ v4 = .int .i64 x4_1 ∧ Aside0 (wide_Len.l0 kq x0_1 x3_1 x4_1 = some r) ∧ Aside0 (kq ≤ k) ∧ Drawn0 w w')
 case atStart => exact ⟨(a0), (0), (32), dF, dF, dF, H', ⟨Nat.le_refl _⟩, dD⟩
 case round =>
  clear H'
  obtain ⟨x0_1, x3_1, x4_1, rfl, rfl, rfl, HA, HK1, ⟨m1, rfl⟩⟩ := hrel
  cases gk with
  | zero => exact absurd HA.out (by simp [wide_Len.l0])
  | succ k1 =>
   have H := HA.out
   clear HA
   simp only [wide_Len.l0] at H
   by_cases c2 : x4_1 > 0
   ·rw [if_pos c2] at H
    have c2b0 : decide (0 < x4_1) = true := decide_eq_true c2
    clear c2
    replace H := nO H
    obtain ⟨c3, H⟩ := H
    have c3b0 := eq_true c3
    have c3b1 : decide (0 ≤ x4_1) = true := decide_eq_true c3
    clear c3
    obtain ⟨ji4, hji4⟩ : ∃ j_ : Int, (shr .u64 x0_1 x4_1) = j_ := ⟨_, rfl⟩
    first | rw [hji4] at H | simp only [hji4] at H
    have hji4_ : (x0_1 / 2 ^ min x4_1.toNat 64) = ji4 := hji4
    have hji4z : x4_1 ≤ 64 → (x0_1 / 2 ^ x4_1.toNat) = ji4 := shr_small hji4
    by_cases c5 : (ji4) = 0
    ·rw [if_pos c5] at H
     obtain ⟨c5b0, c5b1⟩ := bT c5
     clear c5
     have H' := aM H
     clear H
     go_wp2
     go_roundg k1
     case measure => have := HK1.out; omega
     case rel => exact ⟨(x0_1), (x3_1), (x4_1 / 2), dF, dF, dF, H', ⟨by have := HK1.out; omega⟩, dD⟩
    ·rw [if_neg c5] at H
     obtain ⟨c5b0, c5b1⟩ := bF c5
     have c6b0 := eq_true (of_decide_eq_true dS : 0 ≤ x4_1)
     have H' := aM H
     clear H
     go_wp2
     go_roundg k1
     case measure => have := HK1.out; omega
     case rel => exact ⟨(ji4), (wrap64 (x3_1 + x4_1)), (x4_1 / 2), (by first | rfl | (simp; done) | (simp only [← hji4] <;> (first | rfl | simp)) | (simp [*]; done)), dF, dF, H', ⟨by have := HK1.out; omega⟩, dD⟩
   ·rw [if_neg c2] at H
    have c2b0 : decide (0 < x4_1) = false := decide_eq_false c2
    clear c2
    obtain rfl := Option.some.inj H
    go_wp2
    go_ret
    exact ⟨dF, dD⟩
theorem bitsN_nonneg (x : Int) : 0 ≤ bitsN x := by unfold bitsN; split <;> omega
theorem bitsN_zero : bitsN 0 = 0 := rfl
theorem bitsN_pos {x : Int} (h : 0 < x) : bitsN x = (Nat.log2 x.toNat : Int) + 1 := by unfold bitsN; rw [if_neg (by omega)]
theorem bitsN_iff {x : Int} (h : 0 < x) (n : Nat) : bitsN x = n + 1 ↔ (2 : Int) ^ n ≤ x ∧ x < 2 ^ (n + 1) := by
 rw [bitsN_pos h, p2cast, p2cast]
 have h0 : x.toNat ≠ 0 := by omega
 have h1 := Nat.log2_self_le h0
 have h2 := @Nat.lt_log2_self x.toNat
 constructor
 ·intro e
  have e' : x.toNat.log2 = n := by omega
  rw [e'] at h1 h2
  omega
 ·rintro ⟨a, b⟩
  have a' : n ≤ x.toNat.log2 := (Nat.le_log2 h0).2 (by omega)
  have b' : x.toNat.log2 < n + 1 := (Nat.log2_lt h0).2 (by omega)
  omega
theorem bitsN_lt {x : Int} (h : 0 < x) : x < 2 ^ (bitsN x).toNat := by
 have h1 := bitsN_pos h
 have := (bitsN_iff h x.toNat.log2).1 h1
 rw [h1, show ((x.toNat.log2 : Int) + 1).toNat = x.toNat.log2 + 1 from by omega]
 exact this.2
theorem bitsN_ge {x : Int} (h : 0 < x) : (2 : Int) ^ ((bitsN x).toNat - 1) ≤ x := by
 have h1 := bitsN_pos h
 have := (bitsN_iff h x.toNat.log2).1 h1
 rw [h1, show ((x.toNat.log2 : Int) + 1).toNat - 1 = x.toNat.log2 from by omega]
 exact this.1
theorem pow_mono {m n : Nat} (h : m ≤ n) : (2 : Int) ^ m ≤ 2 ^ n := by
 rw [p2cast, p2cast]; exact Int.ofNat_le.2 (Nat.pow_le_pow_right (by omega) h)
theorem bitsN_le_of_lt {x : Int} {n : Nat} (h0 : 0 ≤ x) (h : x < 2 ^ n) : bitsN x ≤ n := by
 by_cases hx : x = 0
 ·subst hx; rw [bitsN_zero]; omega
 ·have hp : 0 < x := by omega
  have := bitsN_ge hp
  apply Classical.byContradiction
  intro hc
  have h2 : n ≤ (bitsN x).toNat - 1 := by omega
  have := pow_mono h2
  omega
theorem bitsN_div {x : Int} (s : Nat) (h : (2 : Int) ^ s ≤ x) : bitsN x = s + bitsN (x / 2 ^ s) := by
 have hs := two_pow_pos s
 have hx : 0 < x := by omega
 have hq : 1 ≤ x / 2 ^ s := Int.le_ediv_of_mul_le hs (by omega)
 have h1 := bitsN_lt (x := x / 2 ^ s) (by omega)
 have h2 := bitsN_ge (x := x / 2 ^ s) (by omega)
 have h3 := bitsN_pos (x := x / 2 ^ s) (by omega)
 obtain ⟨m, hm⟩ : ∃ m : Nat, bitsN (x / 2 ^ s) = m + 1 := ⟨_, h3⟩
 rw [hm] at h1 h2 ⊢
 rw [show ((m : Int) + 1).toNat = m + 1 from by omega] at h1 h2
 simp only [Nat.add_sub_cancel] at h2
 have e : (s : Int) + (m + 1) = ((s + m : Nat) : Int) + 1 := by omega
 rw [e, bitsN_iff hx]
 have hd := Int.mul_ediv_add_emod x (2 ^ s)
 have hm0 := Int.emod_nonneg x (show (2 : Int) ^ s ≠ 0 by omega)
 have hm1 := Int.emod_lt_of_pos x hs
 constructor
 ·rw [Int.pow_add]
  have := Int.mul_le_mul_of_nonneg_left h2 (Int.le_of_lt hs)
  omega
 ·rw [show s + m + 1 = s + (m + 1) from by omega, Int.pow_add]
  have h5 : x / 2 ^ s + 1 ≤ 2 ^ (m + 1) := by omega
  have := Int.mul_le_mul_of_nonneg_left h5 (Int.le_of_lt hs)
  rw [Int.mul_add, Int.mul_one] at this
  omega
theorem wide_Len.step (j : Nat) (hj : j ≤ 5) : ∀ (k : Nat) (x n : Int), j + 1 < k → 0 ≤ x → x < 2 ^ (2 * 2 ^ j) → 0 ≤ n → n + 2 * 2 ^ j ≤ 900 → wide_Len.l0 k x n (2 ^ j) = some (n + bitsN x) := by
 induction j with
 | zero =>
  intro k x n hk hx0 hx1 hn0 hn1
  obtain ⟨k, rfl⟩ : ∃ m, k = m + 1 + 1 := ⟨k - 2, by omega⟩
  have hx1' : x < 4 := hx1
  have hn1 : n ≤ 1000 := by have h9 : n + 2 ≤ 900 := hn1; omega
  have e1 : shr .u64 x 1 = x / 2 := rfl
  have hw : ∀ m : Int, 0 ≤ m → m ≤ 2000 → wrap64 m = m := fun m h1 h2 => by unfold wrap64; omega
  simp only [wide_Len.l0, Nat.pow_zero, Int.pow_zero]
  rw [if_pos (by omega), if_pos (by omega), e1]
  simp only [show (1 : Int) / 2 = 0 from rfl, show ¬ ((0 : Int) > 0) from by omega, if_false]
  have hb : bitsN x = if x = 0 then 0 else if x = 1 then 1 else 2 := by
   by_cases h0 : x = 0
   ·subst h0; rfl
   ·by_cases h1 : x = 1
    ·subst h1; rfl
    ·rw [if_neg h0, if_neg h1]
     exact (bitsN_iff (by omega) 1).2 ⟨by show (2 : Int) ≤ x; omega, by show x < (4 : Int); omega⟩
  rw [hb]
  by_cases h : x / 2 = 0
  ·rw [if_pos h, hw x (by omega) (by omega), hw _ (by omega) (by omega)]
   congr 1
   split
   ·omega
   ·split <;> omega
  ·rw [if_neg h, hw (n + 1) (by omega) (by omega), hw (x / 2) (by omega) (by omega), hw _ (by omega) (by omega)]
   congr 1
   split
   ·omega
   ·split <;> omega
 | succ j ih =>
  intro k x n hk hx0 hx1 hn0 hn1
  have ih := ih (by omega)
  obtain ⟨k, rfl⟩ : ∃ m, k = m + 1 := ⟨k - 1, by omega⟩
  have hp : (2 : Int) ^ (j + 1) = 2 * 2 ^ j := by rw [Int.pow_succ]; omega
  have hp0 : (0 : Int) < 2 ^ j := two_pow_pos j
  have hle : (2 : Int) ^ (j + 1) ≤ 32 := pow_mono (n := 5) hj
  have hnat : ((2 : Int) ^ (j + 1)).toNat = 2 ^ (j + 1) := by rw [p2cast]; exact Int.toNat_natCast _
  have hpn : (2 ^ (j + 1) : Nat) ≤ 32 := Nat.pow_le_pow_right (n := 2) (by omega) hj
  have es : shr .u64 x (2 ^ (j + 1)) = x / 2 ^ (2 ^ (j + 1)) := by rw [shr_eq, hnat, Nat.min_eq_left (by omega)]
  have eh : (2 : Int) ^ (j + 1) / 2 = 2 ^ j := by omega
  have e2 : 2 * 2 ^ j = 2 ^ (j + 1) := by rw [Nat.pow_succ]; omega
  simp only [wide_Len.l0]
  rw [if_pos (by omega), if_pos (by omega), es, eh]
  rw [e2] at ih
  have hS := two_pow_pos (2 ^ (j + 1))
  by_cases h : x / 2 ^ (2 ^ (j + 1)) = 0
  ·rw [if_pos h]
   refine ih k x n (by omega) hx0 ?_ hn0 (by omega)
   have := Int.lt_ediv_add_one_mul_self x hS
   rw [h] at this; omega
  ·rw [if_neg h]
   have h1 : (2 : Int) ^ (2 ^ (j + 1)) ≤ x := by
    apply Classical.byContradiction
    intro hc
    exact h (Int.ediv_eq_zero_of_lt hx0 (by omega))
   have hw : wrap64 (n + 2 ^ (j + 1)) = n + 2 ^ (j + 1) := by unfold wrap64; omega
   have hd : x / 2 ^ (2 ^ (j + 1)) < 2 ^ (2 ^ (j + 1)) := by
    apply Int.ediv_lt_of_lt_mul hS
    rw [← Int.pow_add, ← Nat.two_mul]
    exact hx1
   rw [hw, ih k _ _ (by omega) (Int.ediv_nonneg hx0 (Int.le_of_lt hS)) hd (by omega) (by omega), bitsN_div _ h1]
   congr 1
   rw [p2cast (j + 1)]
   omega
theorem wide_Len.f_eq {x : Int} (h0 : 0 ≤ x) (h1 : x < 18446744073709551616) (k : Nat) (hk : 7 ≤ k) : wide_Len.f k x = some (bitsN x) := by
 have := wide_Len.step 5 (by omega) k x 0 (by omega) h0 h1 (by omega) (by omega)
 rw [wide_Len.f]
 simpa using this
def wide_Div.f (a0 : Int) (a1 : Int) (a2 : Int) : Option (Int × Int × Int) := if u64B a0 = true ∧ u64B a1 = true ∧ u64B a2 = true then (if a2 = 0 then some (0, 0, 10) else if a2 ≤ a0 then some (0, 0, 11) else some ((a0 * 18446744073709551616 + a1) / a2, (a0 * 18446744073709551616 + a1) % a2, 0)) else none
structure Mend (B r l d f : Int) : Prop where
 sum : d * (B / 4294967296) + f = r
 f0 : 0 ≤ f
 f1 : f < 4294967296
 le : (r * 4294967296 + l) / B ≤ d
structure DivIn (B r l : Int) : Prop where
 B0 : 9223372036854775808 ≤ B
 B1 : B < 18446744073709551616
 r0 : 0 ≤ r
 r1 : r < B
 l0 : 0 ≤ l
 l1 : l < 4294967296
theorem DivIn.q {B r l : Int} (h : DivIn B r l) : 0 ≤ (r * 4294967296 + l) / B ∧ (r * 4294967296 + l) / B < 4294967296 := by
 obtain ⟨h1, h2, h3, h4, h5, h6⟩ := h
 refine ⟨Int.ediv_nonneg (by omega) (by omega), ?_⟩
 exact Int.ediv_lt_of_lt_mul (by omega) (by omega)
theorem or_zero {y : Int} (h0 : 0 ≤ y) (h1 : y < 18446744073709551616) : Go.bits .or .u64 0 y = y := by rw [or_join 64 (by omega) (by omega) rfl h0 h1 h1]; omega
theorem Mend.start {B r l : Int} (h : DivIn B r l) : Mend B r l (r / (B / 4294967296)) (r % (B / 4294967296)) := by
 obtain ⟨h1, h2, h3, h4, h5, h6⟩ := h
 have hb : 0 < B / 4294967296 := by omega
 have e := Int.mul_ediv_add_emod r (B / 4294967296)
 have m0 := Int.emod_nonneg r (show B / 4294967296 ≠ 0 by omega)
 have m1 := Int.emod_lt_of_pos r hb
 refine ⟨by rw [Int.mul_comm]; exact e, m0, by omega, ?_⟩
 have hq : 0 ≤ r / (B / 4294967296) := Int.ediv_nonneg h3 (by omega)
 have hlt : r * 4294967296 + l < (r / (B / 4294967296) + 1) * B := by
  generalize r / (B / 4294967296) = q at *
  generalize hB : B / 4294967296 = b at *
  have h7 : b * 4294967296 ≤ B := by omega
  have h8 : (q + 1) * (b * 4294967296) ≤ (q + 1) * B := Int.mul_le_mul_of_nonneg_left h7 (by omega)
  have h9 : (q + 1) * (b * 4294967296) = (b * q + b) * 4294967296 := by grind
  omega
 have := Int.ediv_lt_of_lt_mul (by omega) hlt
 omega
theorem Mend.big {B r l d f : Int} (h : DivIn B r l) (m : Mend B r l d f) : 0 ≤ d ∧ d ≤ 4294967297 := by
 obtain ⟨h1, h2, h3, h4, h5, h6⟩ := h
 have h0 := Int.ediv_nonneg (show 0 ≤ r * 4294967296 + l by omega) (show 0 ≤ B by omega)
 refine ⟨Int.le_trans h0 m.le, ?_⟩
 apply Classical.byContradiction
 intro hc
 have h7 : 4294967298 * (B / 4294967296) ≤ d * (B / 4294967296) := Int.mul_le_mul_of_nonneg_right (by omega) (by omega)
 have := m.sum
 have := m.f0
 omega
theorem Mend.test {B r l d f : Int} (h : DivIn B r l) (m : Mend B r l d f) (hd : d ≤ 4294967295) :
  Go.bits .or .u64 (IntKind.u64.wrap (f * 4294967296)) l = f * 4294967296 + l ∧ IntKind.u64.wrap (d * Go.bits .and .u64 B 4294967295) = d * (B % 4294967296) ∧
  (f * 4294967296 + l < d * (B % 4294967296) ↔ (r * 4294967296 + l) / B < d) := by
 have hb := m.big h
 obtain ⟨h1, h2, h3, h4, h5, h6⟩ := h
 have f0 := m.f0
 have f1 := m.f1
 have e := m.sum
 rw [join_half f0 f1 h5 h6, and_half (by omega) h2]
 have p := mul_half (x := d) (y := B % 4294967296) (by omega) (by omega) (by omega) (by omega)
 refine ⟨rfl, u64w_of (by omega) (by omega), ?_⟩
 have eB : d * B = d * (B / 4294967296) * 4294967296 + d * (B % 4294967296) := by
  have : B = B / 4294967296 * 4294967296 + B % 4294967296 := by omega
  generalize B / 4294967296 = u at *
  generalize B % 4294967296 = v at *
  rw [this]; grind
 rw [Int.ediv_lt_iff_lt_mul (by omega), eB]
 omega
theorem Mend.lower {B r l d f : Int} (h : DivIn B r l) (m : Mend B r l d f) (ht : 4294967295 < d ∨ (r * 4294967296 + l) / B < d) :
  1 ≤ d ∧ (d - 1) * (B / 4294967296) + (f + B / 4294967296) = r ∧ (r * 4294967296 + l) / B ≤ d - 1 := by
 have hq := h.q
 have := m.le
 refine ⟨by omega, ?_, by omega⟩
 have := m.sum
 rw [Int.sub_mul]; omega
theorem Mend.next {B r l d f : Int} (h : DivIn B r l) (m : Mend B r l d f) (ht : 4294967295 < d ∨ (r * 4294967296 + l) / B < d) (hf : f + B / 4294967296 < 4294967296) : Mend B r l (d - 1) (f + B / 4294967296) := by
 have h1 := m.lower h ht
 have := m.f0
 have := h.B0
 exact ⟨h1.2.1, by omega, hf, h1.2.2⟩
theorem Mend.stop {B r l d f : Int} (h : DivIn B r l) (m : Mend B r l d f) (ht : 4294967295 < d ∨ (r * 4294967296 + l) / B < d) (hf : 4294967296 ≤ f + B / 4294967296) : d - 1 = (r * 4294967296 + l) / B := by
 have h1 := m.lower h ht
 have hb := m.big h
 obtain ⟨g1, g2, g3, g4, g5, g6⟩ := h
 have : d - 1 ≤ (r * 4294967296 + l) / B := by
  refine Int.le_ediv_of_mul_le (by omega) ?_
  have eB : (d - 1) * B = (d - 1) * (B / 4294967296) * 4294967296 + (d - 1) * (B % 4294967296) := by
   have : B = B / 4294967296 * 4294967296 + B % 4294967296 := by omega
   generalize B / 4294967296 = u at *
   generalize B % 4294967296 = v at *
   rw [this]; grind
  have h5 : (d - 1) * (B % 4294967296) ≤ 4294967296 * (B % 4294967296) := Int.mul_le_mul_of_nonneg_right (by omega) (by omega)
  rw [eB]
  have := h1.2.1
  omega
 omega
theorem div_rest {B r l : Int} (h : DivIn B r l) : IntKind.u64.wrap (IntKind.u64.wrap (IntKind.u64.wrap (r * 4294967296) + l) - IntKind.u64.wrap ((r * 4294967296 + l) / B * B)) = (r * 4294967296 + l) % B := by
 have e := Int.mul_ediv_add_emod (r * 4294967296 + l) B
 have m0 := Int.emod_nonneg (r * 4294967296 + l) (show B ≠ 0 by have := h.B0; omega)
 have m1 := Int.emod_lt_of_pos (r * 4294967296 + l) (show 0 < B by have := h.B0; omega)
 have := h.B1
 rw [Int.mul_comm] at e
 generalize (r * 4294967296 + l) / B * B = p at *
 simp only [u64w]
 omega
theorem DivIn.next {B r l l' : Int} (h : DivIn B r l) (h0 : 0 ≤ l') (h1 : l' < 4294967296) : DivIn B ((r * 4294967296 + l) % B) l' :=
 ⟨h.B0, h.B1, Int.emod_nonneg _ (by have := h.B0; omega), Int.emod_lt_of_pos _ (by have := h.B0; omega), h0, h1⟩
theorem div_two {B r l l' : Int} (h : DivIn B r l) (h0 : 0 ≤ l') (h1 : l' < 4294967296) :
  (r * 4294967296 + l) / B * 4294967296 + ((r * 4294967296 + l) % B * 4294967296 + l') / B = ((r * 4294967296 + l) * 4294967296 + l') / B ∧
  ((r * 4294967296 + l) % B * 4294967296 + l') % B = ((r * 4294967296 + l) * 4294967296 + l') % B := by
 have hB : 0 < B := by have := h.B0; omega
 have e := Int.mul_ediv_add_emod (r * 4294967296 + l) B
 generalize r * 4294967296 + l = n at *
 generalize hq : n / B = q at *
 generalize hr : n % B = s at *
 have e2 : n * 4294967296 + l' = (s * 4294967296 + l') + B * (q * 4294967296) := by rw [← e]; grind
 rw [e2, Int.add_mul_ediv_left _ _ (by omega), Int.add_mul_emod_self_left]
 exact ⟨by omega, rfl⟩
theorem div_scaled {n b : Int} (s : Nat) (hb : 0 < b) : n * 2 ^ s / (b * 2 ^ s) = n / b ∧ n * 2 ^ s % (b * 2 ^ s) / 2 ^ s = n % b := by
 have hs := two_pow_pos s
 refine ⟨Int.mul_ediv_mul_of_pos_left n b hs, ?_⟩
 rw [Int.mul_comm n, Int.mul_comm b, Int.mul_emod_mul_of_pos _ _ hs, Int.mul_ediv_cancel_left _ (by omega)]
theorem div_begin {a0 a1 a2 L : Int} (h0 : 0 ≤ a0) (h1a : 0 ≤ a1) (h1b : a1 < 18446744073709551616) (h2 : a2 < 18446744073709551616) (h02 : a0 < a2) (hL : L = bitsN a2) :
  0 ≤ L ∧ 1 ≤ L ∧ L ≤ 64 ∧ IntKind.u64.wrap (a2 * 2 ^ (64 - L).toNat) = a2 * 2 ^ (64 - L).toNat ∧
  DivIn (a2 * 2 ^ (64 - L).toNat) (Go.bits .or .u64 (IntKind.u64.wrap (a0 * 2 ^ (64 - L).toNat)) (a1 / 2 ^ (64 - (64 - L)).toNat)) (IntKind.u64.wrap (a1 * 2 ^ (64 - L).toNat) / 4294967296) ∧
  0 ≤ Go.bits .and .u64 (IntKind.u64.wrap (a1 * 2 ^ (64 - L).toNat)) 4294967295 ∧ Go.bits .and .u64 (IntKind.u64.wrap (a1 * 2 ^ (64 - L).toNat)) 4294967295 < 4294967296 ∧
  (Go.bits .or .u64 (IntKind.u64.wrap (a0 * 2 ^ (64 - L).toNat)) (a1 / 2 ^ (64 - (64 - L)).toNat) * 4294967296 + IntKind.u64.wrap (a1 * 2 ^ (64 - L).toNat) / 4294967296) * 4294967296 + Go.bits .and .u64 (IntKind.u64.wrap (a1 * 2 ^ (64 - L).toNat)) 4294967295 = (a0 * 18446744073709551616 + a1) * 2 ^ (64 - L).toNat := by
 have hp : 0 < a2 := by omega
 have hL1 : 1 ≤ L := by rw [hL, bitsN_pos hp]; omega
 have hL2 : L ≤ 64 := by rw [hL]; exact bitsN_le_of_lt (n := 64) (by omega) h2
 have hlt := bitsN_lt hp
 have hge := bitsN_ge hp
 rw [← hL] at hlt hge
 obtain ⟨l, rfl⟩ : ∃ l : Nat, L = l + 1 := ⟨(L - 1).toNat, by omega⟩
 have e1 : ((l : Int) + 1).toNat = l + 1 := by omega
 rw [e1] at hlt hge
 simp only [Nat.add_sub_cancel] at hge
 have e2 : (64 - ((l : Int) + 1)).toNat = 63 - l := by omega
 have e3 : (64 - (64 - ((l : Int) + 1))).toNat = l + 1 := by omega
 rw [e2, e3]
 have hs := two_pow_pos (63 - l)
 have hs2 := two_pow_pos (l + 1)
 have p64 : (2 : Int) ^ (l + 1) * 2 ^ (63 - l) = 18446744073709551616 := by rw [← Int.pow_add, show l + 1 + (63 - l) = 64 from by omega]; rfl
 have p63 : (2 : Int) ^ l * 2 ^ (63 - l) = 9223372036854775808 := by rw [← Int.pow_add, show l + (63 - l) = 63 from by omega]; rfl
 have hSle : (2 : Int) ^ (63 - l) ≤ 2 ^ 63 := pow_mono (by omega)
 have hS63 : (2 : Int) ^ 63 = 9223372036854775808 := rfl
 have hB1 : a2 * 2 ^ (63 - l) < 18446744073709551616 := by
  rw [← p64]; exact Int.mul_lt_mul_of_pos_right hlt hs
 have hB0 : 9223372036854775808 ≤ a2 * 2 ^ (63 - l) := by
  rw [← p63]; exact Int.mul_le_mul_of_nonneg_right hge (Int.le_of_lt hs)
 have hA : a0 * 2 ^ (63 - l) + 2 ^ (63 - l) ≤ a2 * 2 ^ (63 - l) := by
  have : (a0 + 1) * 2 ^ (63 - l) ≤ a2 * 2 ^ (63 - l) := Int.mul_le_mul_of_nonneg_right (by omega) (Int.le_of_lt hs)
  rw [Int.add_mul, Int.one_mul] at this; exact this
 have hA0 : 0 ≤ a0 * 2 ^ (63 - l) := Int.mul_nonneg h0 (Int.le_of_lt hs)
 have hd0 : 0 ≤ a1 / 2 ^ (l + 1) := Int.ediv_nonneg h1a (Int.le_of_lt hs2)
 have hd1 : a1 / 2 ^ (l + 1) < 2 ^ (63 - l) := Int.ediv_lt_of_lt_mul hs2 (by rw [Int.mul_comm, p64]; exact h1b)
 have hw0 : IntKind.u64.wrap (a0 * 2 ^ (63 - l)) = a0 * 2 ^ (63 - l) := u64w_of hA0 (by omega)
 have hor : Go.bits .or .u64 (a0 * 2 ^ (63 - l)) (a1 / 2 ^ (l + 1)) = a0 * 2 ^ (63 - l) + a1 / 2 ^ (l + 1) :=
  or_join (63 - l) hA0 (by omega) (Int.mul_emod_left _ _) hd0 hd1 (by omega)
 have hand := and_half (x := IntKind.u64.wrap (a1 * 2 ^ (63 - l))) (u64w_range _).1 (u64w_range _).2
 have hw := u64w_range (a1 * 2 ^ (63 - l))
 have hsplit : a1 * 2 ^ (63 - l) = 18446744073709551616 * (a1 / 2 ^ (l + 1)) + IntKind.u64.wrap (a1 * 2 ^ (63 - l)) := by
  rw [u64w]
  have h9 : a1 * 2 ^ (63 - l) / 18446744073709551616 = a1 / 2 ^ (l + 1) := by
   rw [← p64]; exact Int.mul_ediv_mul_of_pos_left _ _ hs
  have := Int.mul_ediv_add_emod (a1 * 2 ^ (63 - l)) 18446744073709551616
  rw [h9] at this; omega
 rw [hw0, hor, hand]
 generalize IntKind.u64.wrap (a1 * 2 ^ (63 - l)) = v at *
 refine ⟨by omega, hL1, hL2, u64w_of (by omega) hB1, ⟨hB0, hB1, by omega, by omega, by omega, by omega⟩, by omega, by omega, ?_⟩
 have e9 : (a0 * 18446744073709551616 + a1) * 2 ^ (63 - l) = a0 * 2 ^ (63 - l) * 18446744073709551616 + a1 * 2 ^ (63 - l) := by grind
 rw [e9, hsplit]
 omega
set_option maxHeartbeats 8000000 in
theorem wide_Div.calls (a0 : Int) (a1 : Int) (a2 : Int) (r1 : Int) (r2 : Int) (r3 : Int) (w : World) (h : wide_Div.f a0 a1 a2 = some (r1, r2, r3)) :
  Calls Try.prog 62 #[.int .u64 a0, .int .u64 a1, .int .u64 a2] w fun e w' => e = .returned (.tuple #[.int .u64 r1, .int .u64 r2, .int .i64 r3]) ∧ Below w.heap.size w w' := by
 unfold wide_Div.f at h
 split at h
 case isFalse => cases h
 rename_i hh
 simp only [u64B_iff] at hh
 obtain ⟨⟨h0a, h0b⟩, ⟨h1a, h1b⟩, h2a, h2b⟩ := hh
 split at h
 case isTrue hz =>
  subst hz
  simp only [Option.some.injEq, Prod.mk.injEq] at h
  obtain ⟨rfl, rfl, rfl⟩ := h
  go_enter Try.func62, Try.ntmps62
  go_wp2
  go_ret3
  exact ⟨rfl, Below.refl _ _⟩
 rename_i hz
 have g1 : (a2 == 0) = false := beq_eq_false_iff_ne.mpr hz
 split at h
 case isTrue hge =>
  simp only [Option.some.injEq, Prod.mk.injEq] at h
  obtain ⟨rfl, rfl, rfl⟩ := h
  have g2 : decide (a2 ≤ a0) = true := decide_eq_true hge
  clear hz
  go_enter Try.func62, Try.ntmps62
  go_wp2
  go_ret3
  exact ⟨rfl, Below.refl _ _⟩
 rename_i hge
 have g2 : decide (a2 ≤ a0) = false := decide_eq_false hge
 simp only [Option.some.injEq, Prod.mk.injEq] at h
 obtain ⟨e1, e2, rfl⟩ := h
 have E1 := aM e1
 have E2 := aM e2
 clear e1 e2 hz
 obtain ⟨L, hL⟩ : ∃ L, L = bitsN a2 := ⟨_, rfl⟩
 obtain ⟨hL0, hL1, hL2, hB, hin, hl0, hl1, hN⟩ := div_begin h0a h1a h1b h2b (by omega) hL
 have HL := aM (wide_Len.f_eq h2a h2b 7 (by omega))
 rw [← hL] at HL
 have HB := aM hB; have HI := aM hin; have HN := aM hN; have Hl0 := aM hl0; have Hl1 := aM hl1
 clear hL hB hin hN hl0 hl1 hge
 go_enter Try.func62, Try.ntmps62
 go_wp2_with (first | (go_at_call 63; (with_reducible refine (wide_Len.calls 7 _ _ _ HL.out).mono ?_); rintro e w' ⟨rfl, ⟨n, rfl⟩⟩))
 go_quiet (fail)
 go_wp2
 have kc : ∀ (m j : Nat), j < 2 → ((w.drewN m).alloc (Obj.cells #[Value.int IntKind.u64 0, Value.int IntKind.u64 0] 88)).cell? ⟨w.heap.size, j, none⟩ = some (.int .u64 0) := by
  intro m j hj
  rw [blk_cell (blk_new' (w.drewN m) _ (g := w.heap.size) rfl) j]
  rcases j with _ | _ | j
  ·rfl
  ·rfl
  ·omega
 have kf : ∀ (m j : Nat), ((w.drewN m).alloc (Obj.cells #[Value.int IntKind.u64 0, Value.int IntKind.u64 0] 88)).frozen? ⟨w.heap.size, j, none⟩ = false := by
  intro m j
  exact blk_frozen (blk_new' (w.drewN m) _ (g := w.heap.size) rfl) j
 have kc0 := fun m => kc m 0 (by omega)
 have kc1 := fun m => kc m 1 (by omega)
 clear kc
 go_region
 clear kc0 kc1 kf
 go_upto_block 0 with (fail)
 rw [HB.out]
 generalize hBd : a2 * 2 ^ (64 - L).toNat = B at *
 generalize hRd : Go.bits BinOp.or IntKind.u64 (IntKind.u64.wrap (a0 * 2 ^ (64 - L).toNat)) (a1 / 2 ^ (64 - (64 - L)).toNat) = R at *
 generalize hl0d : IntKind.u64.wrap (a1 * 2 ^ (64 - L).toNat) / 4294967296 = l0 at *
 generalize hl1d : Go.bits BinOp.and IntKind.u64 (IntKind.u64.wrap (a1 * 2 ^ (64 - L).toNat)) 4294967295 = l1 at *
 have HC : ((((w.drewN (n + nq + 1)).alloc (Obj.cells #[Value.int IntKind.u64 0, Value.int IntKind.u64 0] 88)).setCell ⟨w.heap.size, 0, none⟩ (Value.int IntKind.u64 l0)).setCell ⟨w.heap.size, 1, none⟩ (Value.int IntKind.u64 l1)).heap[w.heap.size]? = some (.cells #[.int .u64 l0, .int .u64 l1] 88 (0, 0)) := blk_set (blk_set (blk_new' (w.drewN (n + nq + 1)) _ (g := w.heap.size) rfl) 0 _) 1 _
 have HW := aM (show Below w.heap.size w ((((w.drewN (n + nq + 1)).alloc (Obj.cells #[Value.int IntKind.u64 0, Value.int IntKind.u64 0] 88)).setCell ⟨w.heap.size, 0, none⟩ (Value.int IntKind.u64 l0)).setCell ⟨w.heap.size, 1, none⟩ (Value.int IntKind.u64 l1)) from below_set (below_set (below_alloc (pw_below_drewN (Below.refl _ _) _) _) (Nat.le_refl _)) (Nat.le_refl _))
 generalize ((((w.drewN (n + nq + 1)).alloc (Obj.cells #[Value.int IntKind.u64 0, Value.int IntKind.u64 0] 88)).setCell ⟨w.heap.size, 0, none⟩ (Value.int IntKind.u64 l0)).setCell ⟨w.heap.size, 1, none⟩ (Value.int IntKind.u64 l1)) = W1 at *
 have HC0 := blk_cell HC 0
 have HC1 := blk_cell HC 1
 replace HC0 : W1.cell? ⟨w.heap.size, 0, none⟩ = some (.int .u64 l0) := HC0
 replace HC1 : W1.cell? ⟨w.heap.size, 1, none⟩ = some (.int .u64 l1) := HC1
 clear HC
 have HI0 := HI
 have HI1 := aM (HI.out.next Hl0.out Hl1.out)
 go_cut [10, 12] (fun v10 v12 wx => v10 = .int .u64 (((R * 4294967296 + l0) % B * 4294967296 + l1) % B) ∧ v12 = .int .u64 ((R * 4294967296 + l0) / B * 4294967296 + ((R * 4294967296 + l0) % B * 4294967296 + l1) / B) ∧ Aside0 (Below w.heap.size w wx))
 case first =>
  have hB0 := HI.out.B0; have hB1 := HI.out.B1; have hR0 := HI.out.r0; have hR1 := HI.out.r1; have hl00 := HI.out.l0; have hl01 := HI.out.l1; have hl10 := HI1.out.l0; have hl11 := HI1.out.l1
  have hq0 := HI.out.q
  obtain ⟨hq0a, hq0b⟩ := hq0
  go_wp2
  refine wp_loop_rounds 3 ?_
  rw [rounds_succ]
  go_upto_block 2 with (fail)
  go_cut [14, 15] (fun v14 v15 wx => ∃ f : Int, v14 = .int .u64 ((R * 4294967296 + l0) / B) ∧ v15 = .int .u64 f ∧ wx.cell? ⟨w.heap.size, 0, none⟩ = some (.int .u64 l0) ∧ wx.cell? ⟨w.heap.size, 1, none⟩ = some (.int .u64 l1) ∧ Aside0 (Below w.heap.size w wx))
  case first =>
   go_wp2
   go_loopw [14, 15] (fun v14 v15 wr => ∃ d f : Int, v14 = .int .u64 d ∧ v15 = .int .u64 f ∧ Mend B R l0 d f ∧ wr.cell? ⟨w.heap.size, 0, none⟩ = some (.int .u64 l0) ∧ wr.cell? ⟨w.heap.size, 1, none⟩ = some (.int .u64 l1) ∧ Aside0 (Below w.heap.size w wr)) (fun v14 _ _ => (intOf v14).toNat)
   case atStart => exact ⟨_, _, rfl, rfl, Mend.start HI0.out, HC0, HC1, HW⟩
   case round =>
    obtain ⟨d, f, rfl, rfl, hm, hc0, hc1, hb⟩ := hrel
    have hbig := hm.big HI0.out
    obtain ⟨hd0, hd1⟩ := hbig
    have hf0 := hm.f0; have hf1 := hm.f1
    by_cases ht : 4294967295 < d ∨ (R * 4294967296 + l0) / B < d
    ·have hlow := hm.lower HI0.out ht
     have hd2 : 1 ≤ d := hlow.1
     have hT := aM ht
     have hg : (decide (4294967295 < d) = true) ∨ (decide (4294967295 < d) = false ∧ decide (Go.bits .or .u64 (f * 4294967296) l0 < IntKind.u64.wrap (d * Go.bits .and .u64 B 4294967295)) = true) := by
      by_cases c1 : 4294967295 < d
      ·exact .inl (decide_eq_true c1)
      ·have h3 := hm.test HI0.out (by omega)
       refine .inr ⟨decide_eq_false c1, ?_⟩
       rw [← u64w_of (x := f * 4294967296) (by omega) (by omega), h3.1, h3.2.1]
       exact decide_eq_true (h3.2.2.2 (by omega))
     clear ht hlow
     by_cases hf2 : f + B / 4294967296 < 4294967296
     ·have hf3 : decide (4294967295 < f + B / 4294967296) = false := decide_eq_false (by omega)
      have hnx := hm.next HI0.out hT.out hf2
      clear hf2
      rcases hg with hg | ⟨hg, hg2⟩
      all_goals
       go_wp2
       go_roundw
       case rel => exact ⟨_, _, rfl, rfl, hnx, hc0, hc1, hb⟩
       case measure => simp only [intOf]; omega
     ·have hf3 : decide (4294967295 < f + B / 4294967296) = true := decide_eq_true (by omega)
      have hst := aM (hm.stop HI0.out hT.out (by omega))
      clear hf2
      rcases hg with hg | ⟨hg, hg2⟩
      all_goals
       go_wp2
       go_meet
       exact ⟨_, by rw [hst.out], rfl, hc0, hc1, hb⟩
    ·have c1 : decide (4294967295 < d) = false := decide_eq_false (by omega)
     have h3 := hm.test HI0.out (by omega)
     have c2 : decide (Go.bits .or .u64 (f * 4294967296) l0 < IntKind.u64.wrap (d * Go.bits .and .u64 B 4294967295)) = false := by
      rw [← u64w_of (x := f * 4294967296) (by omega) (by omega), h3.1, h3.2.1]
      exact decide_eq_false (fun h4 => ht (.inr (h3.2.2.1 h4)))
     have hst := aM (show d = (R * 4294967296 + l0) / B from by have := hm.le; omega)
     clear h3 ht
     go_wp2
     go_meet
     exact ⟨_, by rw [hst.out], rfl, hc0, hc1, hb⟩
  case rest =>
   obtain ⟨f0, rfl, rfl, hc0, hc1, hb⟩ := hcut
   have hR10 := HI1.out.r0; have hR11 := HI1.out.r1
   have hq1 := HI1.out.q
   obtain ⟨hq1a, hq1b⟩ := hq1
   go_wp2
   rw [div_rest HI.out, or_zero hq0a (by omega), rounds_succ]
   clear HC0 HC1
   go_upto_block 2 with (fail)
   go_cut [14, 15] (fun v14 v15 wx => ∃ f : Int, v14 = .int .u64 ((((R * 4294967296 + l0) % B) * 4294967296 + l1) / B) ∧ v15 = .int .u64 f ∧ wx.cell? ⟨w.heap.size, 0, none⟩ = some (.int .u64 l0) ∧ wx.cell? ⟨w.heap.size, 1, none⟩ = some (.int .u64 l1) ∧ Aside0 (Below w.heap.size w wx))
   case first =>
    go_wp2
    go_loopw [14, 15] (fun v14 v15 wr => ∃ d f : Int, v14 = .int .u64 d ∧ v15 = .int .u64 f ∧ Mend B ((R * 4294967296 + l0) % B) l1 d f ∧ wr.cell? ⟨w.heap.size, 0, none⟩ = some (.int .u64 l0) ∧ wr.cell? ⟨w.heap.size, 1, none⟩ = some (.int .u64 l1) ∧ Aside0 (Below w.heap.size w wr)) (fun v14 _ _ => (intOf v14).toNat)
    case atStart => exact ⟨_, _, rfl, rfl, Mend.start HI1.out, hc0, hc1, hb⟩
    case round =>
     obtain ⟨d, f, rfl, rfl, hm, hc0, hc1, hb⟩ := hrel
     have hbig := hm.big HI1.out
     obtain ⟨hd0, hd1⟩ := hbig
     have hf0 := hm.f0; have hf1 := hm.f1
     by_cases ht : 4294967295 < d ∨ (((R * 4294967296 + l0) % B) * 4294967296 + l1) / B < d
     ·have hlow := hm.lower HI1.out ht
      have hd2 : 1 ≤ d := hlow.1
      have hT := aM ht
      have hg : (decide (4294967295 < d) = true) ∨ (decide (4294967295 < d) = false ∧ decide (Go.bits .or .u64 (f * 4294967296) l1 < IntKind.u64.wrap (d * Go.bits .and .u64 B 4294967295)) = true) := by
       by_cases c1 : 4294967295 < d
       ·exact .inl (decide_eq_true c1)
       ·have h3 := hm.test HI1.out (by omega)
        refine .inr ⟨decide_eq_false c1, ?_⟩
        rw [← u64w_of (x := f * 4294967296) (by omega) (by omega), h3.1, h3.2.1]
        exact decide_eq_true (h3.2.2.2 (by omega))
      clear ht hlow
      by_cases hf2 : f + B / 4294967296 < 4294967296
      ·have hf3 : decide (4294967295 < f + B / 4294967296) = false := decide_eq_false (by omega)
       have hnx := hm.next HI1.out hT.out hf2
       clear hf2
       rcases hg with hg | ⟨hg, hg2⟩
       all_goals
        go_wp2
        go_roundw
        case rel => exact ⟨_, _, rfl, rfl, hnx, hc0, hc1, hb⟩
        case measure => simp only [intOf]; omega
      ·have hf3 : decide (4294967295 < f + B / 4294967296) = true := decide_eq_true (by omega)
       have hst := aM (hm.stop HI1.out hT.out (by omega))
       clear hf2
       rcases hg with hg | ⟨hg, hg2⟩
       all_goals
        go_wp2
        go_meet
        exact ⟨_, by rw [hst.out], rfl, hc0, hc1, hb⟩
     ·have c1 : decide (4294967295 < d) = false := decide_eq_false (by omega)
      have h3 := hm.test HI1.out (by omega)
      have c2 : decide (Go.bits .or .u64 (f * 4294967296) l1 < IntKind.u64.wrap (d * Go.bits .and .u64 B 4294967295)) = false := by
       rw [← u64w_of (x := f * 4294967296) (by omega) (by omega), h3.1, h3.2.1]
       exact decide_eq_false (fun h4 => ht (.inr (h3.2.2.1 h4)))
      have hst := aM (show d = (((R * 4294967296 + l0) % B) * 4294967296 + l1) / B from by have := hm.le; omega)
      clear h3 ht
      go_wp2
      go_meet
      exact ⟨_, by rw [hst.out], rfl, hc0, hc1, hb⟩
   case rest =>
    obtain ⟨f1, rfl, rfl, hc0, hc1, hb⟩ := hcut
    go_wp2
    rw [div_rest HI1.out, or_join 32 (by omega) (by omega) (by show _ % 4294967296 = 0; omega) hq1a (by exact hq1b) (by omega), rounds_succ]
    go_wp2
    go_meet
    exact ⟨rfl, rfl, hb⟩
 case rest =>
  obtain ⟨rfl, rfl, hb⟩ := hcut
  have hR20 : 0 ≤ ((R * 4294967296 + l0) % B * 4294967296 + l1) % B := Int.emod_nonneg _ (by have := HI.out.B0; omega)
  have hd2 := div_two HI.out Hl0.out Hl1.out
  have hsc := div_scaled (n := a0 * 18446744073709551616 + a1) (b := a2) (64 - L).toNat (by have := of_decide_eq_false g2; omega)
  rw [HN.out, ← hBd] at hd2
  rw [hsc.1] at hd2
  have hQ := aM (hd2.1.trans E1.out)
  have hr2 : ((R * 4294967296 + l0) % B * 4294967296 + l1) % B / 2 ^ (64 - L).toNat = r2 := by
   rw [← hBd, hd2.2, hsc.2, E2.out]
  have hR2 := aM hr2
  rw [hBd] at hQ
  generalize ((R * 4294967296 + l0) % B * 4294967296 + l1) % B = R2 at *
  generalize (R * 4294967296 + l0) / B * 4294967296 + ((R * 4294967296 + l0) % B * 4294967296 + l1) / B = Q at *
  clear hd2 hsc hr2
  go_wp2
  go_quiet (fail)
  go_wp2
  go_ret3
  exact ⟨by rw [hQ.out, hR2.out]; rfl, pw_below_drewN hb.out _⟩
def quot_Small.l0 : Nat → List Int → Int → List Int → Int → Int → Option (List Int × Int × Int)
 | 0, _, _, _, _, _ => none
 | k + 1, x0, x1, x7, x8, x9 => if x9 ≥ 0 then (if 0 ≤ x9 then (if x9 < (x0.length : Int) then ((wide_Div.f x8 (rd x0 x9) x1).bind fun bt120 => (if x9 < (x7.length : Int) then (quot_Small.l0 k x0 x1 (x7.set (x9 : Int).toNat bt120.1) bt120.2.1 (wrap64 (x9 - 1))) else (none))) else (none)) else (none)) else ((nat_Norm.f x7).bind fun t124 => (some (t124, x8, 0)))
def quot_Small.f (k : Nat) (l0 : List Int) (a1 : Int) : Option (List Int × Int × Int) := if a1 = 0 then (some (([] : List Int), 0, 30)) else (if 0 ≤ (l0.length : Int) then (if ((l0.length : Int) : Int).toNat ≤ 35184372088832 then (quot_Small.l0 k l0 a1 (List.replicate ((l0.length : Int) : Int).toNat 0) 0 (wrap64 ((l0.length : Int) - 1))) else (none)) else (none))
theorem quot_Small.mono_l : ∀ k, (∀ y0 y1 y2 y3 y4, LeO (quot_Small.l0 k y0 y1 y2 y3 y4) (quot_Small.l0 (k + 1) y0 y1 y2 y3 y4))
 | 0 => fun _ _ _ _ _ r h => by simp [quot_Small.l0] at h
 | k + 1 => by
  have ih0 := quot_Small.mono_l k
  ·intro y0 y1 y2 y3 y4
   unfold quot_Small.l0
   exact mX
theorem quot_Small.mono : ∀ a0 a1 k, LeO (quot_Small.f k a0 a1) (quot_Small.f (k + 1) a0 a1) := by
 intro a0 a1 k
 have ih0 := quot_Small.mono_l k
 unfold quot_Small.f
 exact mX
set_option maxHeartbeats 8000000 in
set_option maxRecDepth 100000 in
theorem quot_Small.calls (k : Nat) (A0 : Option Addr) (c0 : Nat) (l0 : List Int) (a1 : Int) (r1 : List Int) (r2 : Int) (r3 : Int) (w : World) (hr0 : Kd.C (Kd.int .u64) w A0 l0.length l0) (hc0 : l0.length ≤ c0) (h : quot_Small.f k l0 a1 = some (r1, r2, r3)) :
  Calls Try.prog 54 #[.slice A0 l0.length c0, .int .u64 a1] w fun e w' => ∃ v0_ : Value, e = .returned (.tuple #[v0_, .int .u64 r2, .int .i64 r3]) ∧ Kd.R (Kd.int .u64) 44 w' w.heap.size (fun _ => True) v0_ r1 ∧ Below w.heap.size w w' := by
 have HR0 := aM hr0
 have HC0 := aM hc0
 clear hr0 hc0
 have HB := aM (Below.refl w.heap.size w)
 have H := h
 clear h
 unfold quot_Small.f at H
 by_cases c3 : a1 = 0
 ·rw [if_pos c3] at H
  obtain ⟨c3b0, c3b1⟩ := bT c3
  clear c3
  simp only [Option.some.injEq, Prod.mk.injEq] at H
  obtain ⟨rfl, rfl, rfl⟩ := H
  go_enter Try.func54, Try.ntmps54
  go_wp2
  go_ret3
  exact ⟨_, dE, by first | exact Kd.R_nil _ _ _ _ _ | exact Kd.N_nil _ _ _ _ _ | exact Kd.V_nil _ _ _ _ _ | exact Kd.Q_nil _ _ _ _ _ | exact Kd.S_nil _ _ _ _ _, dB⟩
 ·rw [if_neg c3] at H
  obtain ⟨c3b0, c3b1⟩ := bF c3
  replace H := nO H
  obtain ⟨c4, H⟩ := H
  have c4b0 := eq_true c4
  have c4b1 : decide (0 ≤ (l0.length : Int)) = true := decide_eq_true c4
  clear c4
  replace H := nO H
  obtain ⟨c5, H⟩ := H
  have c5b0 := eq_true c5
  have c5b1 := decide_eq_true c5
  clear c5
  obtain ⟨y116, hy116⟩ : ∃ y_ : List Int, y_ = (List.replicate ((l0.length : Int) : Int).toNat 0) := ⟨_, rfl⟩
  replace H : (quot_Small.l0 k l0 a1 y116 0 (wrap64 ((l0.length : Int) - 1))) = some (r1, r2, r3) := by first | (rw [hy116]; with_reducible exact H) | (have H2_ := (Option.bind_some _ _).symm.trans H; rw [hy116]; with_reducible exact H2_) | (have H2_ := (Option.bind_some _ _).symm.trans H; with_reducible exact H2_) | with_reducible exact H | (rw [hy116]; exact H) | exact H
  have Ny116 := aM hy116
  clear hy116
  have H' := aM H
  clear H
  go_enter Try.func54, Try.ntmps54
  go_wp2_with (first | ((with_reducible refine gate_dst (N := 14) rfl ?_); refine Kd.R_make (Kd.int .u64) _ 44 rfl (N := 14) rfl 22 _ _ rfl (l0.length : Int) rfl rfl Try.underlying22 (.int .u64 0) 8 info44 rfl (by decide) (by omega) 0 (ok := fun _ => True) (okp := fun _ => True) rfl (fun _ hk => hk) trivial (of_decide_eq_true dS) (Nat.le_trans (Nat.mul_le_mul_right _ (of_decide_eq_true dS : (l0.length : Int).toNat ≤ 35184372088832)) (by omega)) (Below.refl _ _) (Nat.le_refl _) ?_; intro v117 w6 ho7 hb hg_ hnew_; clear hg_ hnew_; (first | rw [← Ny116.out] at ho7 | (simp only [Int.reduceToNat] at ho7; rw [← Ny116.out] at ho7)); have HO118 := aM (Kd.R_lower ho7 (below_size dB)); replace HB := hS HB.out hb; clear hb ho7))
  go_loopg [8, 9] k (fun kq v8 v9 w' => ∃ (x7_1 : List Int) (x8_1 : Int) (x9_1 : Int), v8 = .int .u64 x8_1 ∧ v9 = .int .i64 x9_1 ∧ Aside0 (quot_Small.l0 kq l0 a1 x7_1 x8_1 x9_1 = some (r1, r2, r3)) ∧ Aside0 (kq ≤ k) ∧ Aside0 (Kd.R (Kd.int .u64) 44 w' w.heap.size (fun _ => True) v117 x7_1) ∧ Aside0 (Below w.heap.size w w'))
  case atStart => exact ⟨(y116), (0), (wrap64 ((l0.length : Int) - 1)), dF, dF, H', ⟨Nat.le_refl _⟩, ⟨dR HO118.out⟩, ⟨dB⟩⟩
  case round =>
   clear H'
   try clear c3
   try clear c3b0 c3b1
   try clear c4
   try clear c4b0 c4b1
   try clear c5
   try clear c5b0 c5b1
   obtain ⟨x7_1, x8_1, x9_1, rfl, rfl, HA, HK1, HO_7, HB⟩ := hrel
   cases gk with
   | zero => exact absurd HA.out (by simp [quot_Small.l0])
   | succ k1 =>
    have H := HA.out
    clear HA
    simp only [quot_Small.l0] at H
    by_cases c8 : x9_1 ≥ 0
    ·rw [if_pos c8] at H
     have c8b0 : decide (0 ≤ x9_1) = true := decide_eq_true c8
     clear c8
     replace H := nO H
     obtain ⟨c9, H⟩ := H
     have c9b0 : decide (0 ≤ x9_1) = true := decide_eq_true c9
     clear c9
     replace H := nO H
     obtain ⟨c10, H⟩ := H
     have c10b0 := decide_eq_true c10
     clear c10
     replace H := oA H
     obtain ⟨⟨t120, t121, t122⟩, A11, H⟩ := H
     (try dsimp only at H)
     replace H := nO H
     obtain ⟨c12, H⟩ := H
     have c12b0 := decide_eq_true c12
     clear c12
     obtain ⟨y123, hy123⟩ : ∃ y_ : List Int, y_ = (x7_1.set (x9_1 : Int).toNat t120) := ⟨_, rfl⟩
     replace H : (quot_Small.l0 k1 l0 a1 y123 t121 (wrap64 (x9_1 - 1))) = some (r1, r2, r3) := by first | (rw [hy123]; with_reducible exact H) | (have H2_ := (Option.bind_some _ _).symm.trans H; rw [hy123]; with_reducible exact H2_) | (have H2_ := (Option.bind_some _ _).symm.trans H; with_reducible exact H2_) | with_reducible exact H | (rw [hy123]; exact H) | exact H
     have Ny123 := aM hy123
     clear hy123
     have H' := aM H
     clear H
     have p119 : 0 ≤ (x9_1 : Int) := of_decide_eq_true dS
     have q119 : x9_1 < (l0.length : Int) := of_decide_eq_true dS
     obtain ⟨ad119, e119, hx119_0⟩ := Kd.at_int HR0.out x9_1 p119 q119
     cases e119
     replace hx119_0 := (HB.out.cell (World.block_lt_of_cell? w _ hx119_0)).trans hx119_0
     replace p119 := eq_true p119
     replace q119 := eq_true q119
     go_wp2_with (first | ((with_reducible refine gate_callee (f := 62) rfl ?_); refine gL (some 31) Try.func62 #[.int .u64 x8_1, .int .u64 (rd l0 x9_1), .int .u64 a1] ?_; (with_reducible refine (wide_Div.calls x8_1 (rd l0 x9_1) a1 t120 t121 t122 _ A11.out).mono ?_); rintro e w14 ⟨rfl, hb⟩; refine ⟨_, rfl, ?_⟩; replace HO_7 := oB HO_7.out hb; replace HB := hS HB.out hb; (try clear hb); have p13 : 0 ≤ (x9_1 : Int) := of_decide_eq_true dS; have q13 : (x9_1 : Int) < ((x7_1.length : Int) : Int) := of_decide_eq_true dS; obtain ⟨go13, co13, eo13, gb13, gl13, cl13, HG13⟩ := Kd.R_form HO_7.out (by omega); (first | cases eo13 | (injection eo13 with ea_ en_ ec_; (first | subst ea_ | (injection ea_ with ea_; subst ea_)); subst ec_; clear en_)); have GB13 := aM gb13; have GG13 := aM HG13; clear gb13 gl13 HG13; obtain ⟨hx13_0, hf13_0⟩ := Kd.R_celln 0 HO_7.out (x9_1 : Int) p13 q13; replace p13 := eq_true p13; replace q13 := eq_true q13; obtain ⟨hy15_, hz15_⟩ := Kd.R_celln 0 HO_7.out (x9_1 : Int) (of_decide_eq_true dS) (of_decide_eq_true dS); have HP15 := Kd.R_putg HO_7.out (x9_1 : Int) t120) | ((with_reducible refine gate_store (t := 44) (p := 35) rfl ?_); refine store_event (t := 44) (p := 35) (v := ?vo_w16) (w1 := (w14.setCell ⟨go13, (x9_1 : Int).toNat, none⟩ (.int .u64 t120))) ?hg ?ho ?hn ?hr ?_; (case ho => rfl); (case hg => rfl); (case hn => rfl); (case hr => first | (go_simp; done) | (go_simp; rfl)); intro w16 hw; have hg : w14.grownBy w16 (some go13) := (by rw [hw]; exact HP15.2); have hp_ : Kd.R (Kd.int .u64) 44 w16 w.heap.size (fun _ => True) (.slice (some ⟨go13, 0, none⟩) x7_1.length co13) y123 := (by rw [hw, Ny123.out]; exact HP15.1); clear HP15; replace HO_7 := aM (hp_); replace HB := aM ((by rw [hw]; exact below_set (HB.out) GB13.out : Below w.heap.size w w16)); clear hg hw hp_))
     go_roundg k1
     case measure => have := HK1.out; omega
     case rel => exact ⟨(y123), (t121), (wrap64 (x9_1 - 1)), dF, dF, H', ⟨by have := HK1.out; omega⟩, ⟨dR HO_7.out⟩, ⟨dB⟩⟩
    ·rw [if_neg c8] at H
     have c8b0 : decide (0 ≤ x9_1) = false := decide_eq_false c8
     clear c8
     replace H := oA H
     obtain ⟨t124, A17, H⟩ := H
     (try dsimp only at H)
     simp only [Option.some.injEq, Prod.mk.injEq] at H
     obtain ⟨rfl, rfl, rfl⟩ := H
     obtain ⟨Ao18, co18, rfl⟩ := Kd.R_slice HO_7.out
     go_wp2_with (first | ((with_reducible refine gate_callee (f := 46) rfl ?_); refine gL (some 37) Try.func46 #[.slice Ao18 x7_1.length co18] ?_; (with_reducible refine (nat_Norm.calls _ _ x7_1 t124 _ ?side1 (Kd.R_reads' HO_7.out).2.1 A17.out).mono ?_); (case side1 => exact dC (Kd.R_reads' HO_7.out).2.2); rintro e w19 ⟨v125, rfl, ho0, hb⟩; refine ⟨_, rfl, ?_⟩; have HO126 := aM (Kd.R_lower (nW ho0 HO_7.out) (below_size dB)); replace HO_7 := oE HO_7.out ho0 hb; replace HB := hS HB.out hb; (try clear hb); (try clear ho0)))
     go_ret3
     exact ⟨_, dE, oM HO126.out (fun _ hk => trivial), dB⟩
def wide_Mul.f (a0 : Int) (a1 : Int) : Option (Int × Int) := if u64B a0 = true then (if u64B a1 = true then some (a0 * a1 / 18446744073709551616, a0 * a1 % 18446744073709551616) else none) else none
theorem mul_sum {p o c : Int} (hp : 0 ≤ p ∧ p ≤ 18446744065119617025) (ho0 : 0 ≤ o) (ho : o < 4294967296) (hc0 : 0 ≤ c) (hc : c < 4294967296) :
 IntKind.u64.wrap (IntKind.u64.wrap (IntKind.u64.wrap p + o) + c) = p + o + c := by simp only [u64w]; omega
theorem mul_sum1 {p c : Int} (hp : 0 ≤ p ∧ p ≤ 18446744065119617025) (hc0 : 0 ≤ c) (hc : c < 4294967296) :
 IntKind.u64.wrap (IntKind.u64.wrap (IntKind.u64.wrap p) + c) = p + c := by simp only [u64w]; omega
theorem mul_sum2 {p o : Int} (hp : 0 ≤ p ∧ p ≤ 18446744065119617025) (ho0 : 0 ≤ o) (ho : o < 4294967296) :
 IntKind.u64.wrap (IntKind.u64.wrap (IntKind.u64.wrap p + o)) = p + o := by simp only [u64w]; omega
theorem mul_sum0 {p : Int} (hp : 0 ≤ p ∧ p ≤ 18446744065119617025) :
 IntKind.u64.wrap (IntKind.u64.wrap (IntKind.u64.wrap p)) = p := by simp only [u64w]; omega
theorem mul_halves {a b x0 x1 y0 y1 t1 t2 t3 t4 : Int} (ha0 : 0 ≤ a) (ha : a < 18446744073709551616) (hb0 : 0 ≤ b) (hb : b < 18446744073709551616)
  (hx0 : x0 = Go.bits .and .u64 a 4294967295) (hx1 : x1 = a / 4294967296) (hy0 : y0 = Go.bits .and .u64 b 4294967295) (hy1 : y1 = b / 4294967296)
  (h1 : t1 = IntKind.u64.wrap (IntKind.u64.wrap (IntKind.u64.wrap (x0 * y0)))) (h2 : t2 = IntKind.u64.wrap (IntKind.u64.wrap (IntKind.u64.wrap (x0 * y1)) + t1 / 4294967296))
  (h3 : t3 = IntKind.u64.wrap (IntKind.u64.wrap (IntKind.u64.wrap (x1 * y0) + Go.bits .and .u64 t2 4294967295))) (h4 : t4 = IntKind.u64.wrap (IntKind.u64.wrap (IntKind.u64.wrap (x1 * y1) + t2 / 4294967296) + t3 / 4294967296)) :
  Go.bits .or .u64 (IntKind.u64.wrap (t4 / 4294967296 * 4294967296)) (Go.bits .and .u64 t4 4294967295) = a * b / 18446744073709551616 ∧
  Go.bits .or .u64 (IntKind.u64.wrap (Go.bits .and .u64 t3 4294967295 * 4294967296)) (Go.bits .and .u64 t1 4294967295) = a * b % 18446744073709551616 := by
 rw [and_half ha0 ha] at hx0
 rw [and_half hb0 hb] at hy0
 have p00 := mul_half (x := x0) (y := y0) (by omega) (by omega) (by omega) (by omega)
 have p01 := mul_half (x := x0) (y := y1) (by omega) (by omega) (by omega) (by omega)
 have p10 := mul_half (x := x1) (y := y0) (by omega) (by omega) (by omega) (by omega)
 have p11 := mul_half (x := x1) (y := y1) (by omega) (by omega) (by omega) (by omega)
 have e : a * b = x0 * y0 + 4294967296 * (x0 * y1 + x1 * y0) + 18446744073709551616 * (x1 * y1) := by
  have ea : a = x0 + 4294967296 * x1 := by omega
  have eb : b = y0 + 4294967296 * y1 := by omega
  rw [ea, eb]; grind
 rw [e]
 generalize x0 * y0 = p at *
 generalize x0 * y1 = q at *
 generalize x1 * y0 = r at *
 generalize x1 * y1 = s at *
 rw [mul_sum0 p00] at h1
 rw [mul_sum1 p01 (by omega) (by omega)] at h2
 rw [and_half (by omega) (by omega), mul_sum2 p10 (by omega) (by omega)] at h3
 rw [mul_sum p11 (by omega) (by omega) (by omega) (by omega)] at h4
 rw [and_half (x := t4) (by omega) (by omega), and_half (x := t3) (by omega) (by omega), and_half (x := t1) (by omega) (by omega), join_half (by omega) (by omega) (by omega) (by omega), join_half (by omega) (by omega) (by omega) (by omega)]
 omega
def MulOut (w W : World) (r1 r2 : Int) : Prop := ∃ o0 o1 o2 o3 : Int, (W.cell? ⟨w.heap.size + 1 + 1, 0, none⟩ = some (.int .u64 o0) ∧ W.cell? ⟨w.heap.size + 1 + 1, 1, none⟩ = some (.int .u64 o1) ∧ W.cell? ⟨w.heap.size + 1 + 1, 2, none⟩ = some (.int .u64 o2) ∧ W.cell? ⟨w.heap.size + 1 + 1, 3, none⟩ = some (.int .u64 o3)) ∧ (r1 = Go.bits .or .u64 (IntKind.u64.wrap (o3 * 4294967296)) o2 ∧ r2 = Go.bits .or .u64 (IntKind.u64.wrap (o1 * 4294967296)) o0) ∧ Below w.heap.size w W
theorem MulOut.mk {w W : World} {r1 r2 o0 o1 o2 o3 : Int} (h : ∃ (t : TypeId) (cs : Array Value), W.heap[w.heap.size + 1 + 1]? = some (.cells cs t (0, 0)) ∧ cs.toList = [.int .u64 o0, .int .u64 o1, .int .u64 o2, .int .u64 o3]) (h1 : r1 = Go.bits .or .u64 (IntKind.u64.wrap (o3 * 4294967296)) o2) (h2 : r2 = Go.bits .or .u64 (IntKind.u64.wrap (o1 * 4294967296)) o0) (hb : Below w.heap.size w W) : MulOut w W r1 r2 := by
 obtain ⟨t, cs, hc, hl⟩ := h
 obtain rfl : cs = #[.int .u64 o0, .int .u64 o1, .int .u64 o2, .int .u64 o3] := by cases cs; simp_all
 exact ⟨o0, o1, o2, o3, ⟨blk_cell hc 0, blk_cell hc 1, blk_cell hc 2, blk_cell hc 3⟩, ⟨h1, h2⟩, hb⟩
set_option maxHeartbeats 4000000 in
theorem wide_Mul.calls (a0 : Int) (a1 : Int) (r1 : Int) (r2 : Int) (w : World) (h : wide_Mul.f a0 a1 = some (r1, r2)) :
  Calls Try.prog 60 #[.int .u64 a0, .int .u64 a1] w fun e w' => e = .returned (.tuple #[.int .u64 r1, .int .u64 r2]) ∧ Below w.heap.size w w' := by
 unfold wide_Mul.f at h
 split at h
 case isFalse => cases h
 rename_i h0
 split at h
 case isFalse => cases h
 rename_i h1
 rw [u64B_iff] at h0 h1
 injection h with h
 injection h with e1 e2
 have E1 := aM e1
 have E2 := aM e2
 clear e1 e2
 obtain ⟨h0a, h0b⟩ := h0
 obtain ⟨h1a, h1b⟩ := h1
 go_enter Try.func60, Try.ntmps60
 go_upto_block 0 with (fail)
 generalize hx0 : Go.bits BinOp.and IntKind.u64 a0 4294967295 = x0
 generalize hx1 : a0 / 4294967296 = x1
 generalize hy0 : Go.bits BinOp.and IntKind.u64 a1 4294967295 = y0
 generalize hy1 : a1 / 4294967296 = y1
 have X0 := aM hx0.symm; have X1 := aM hx1.symm; have Y0 := aM hy0.symm; have Y1 := aM hy1.symm
 clear hx0 hx1 hy0 hy1
 go_cut [8] (fun v8 wx => v8 = .pointer (some ⟨w.heap.size + 1 + 1, 0, none⟩) ∧ MulOut w wx r1 r2)
 case first =>
  go_wp2
  refine wp_loop_rounds 3 ?_
  rw [rounds_succ]
  go_wp2
  refine wp_loop_rounds 3 ?_
  rw [rounds_succ]
  go_wp2
  go_quiet (fail)
  go_wp2
  generalize ht1 : IntKind.u64.wrap (IntKind.u64.wrap (IntKind.u64.wrap (x0 * y0))) = t1
  have T1 := aM ht1.symm
  clear ht1
  rw [rounds_succ]
  go_wp2
  go_quiet (fail)
  go_wp2
  generalize ht2 : IntKind.u64.wrap (IntKind.u64.wrap (IntKind.u64.wrap (x0 * y1)) + t1 / 4294967296) = t2
  have T2 := aM ht2.symm
  clear ht2
  rw [rounds_succ]
  go_wp2
  rw [rounds_succ]
  go_wp2
  refine wp_loop_rounds 3 ?_
  rw [rounds_succ]
  go_wp2
  go_quiet (fail)
  go_wp2
  generalize ht3 : IntKind.u64.wrap (IntKind.u64.wrap (IntKind.u64.wrap (x1 * y0) + Go.bits BinOp.and IntKind.u64 t2 4294967295)) = t3
  have T3 := aM ht3.symm
  clear ht3
  rw [rounds_succ]
  go_wp2
  go_quiet (fail)
  go_wp2
  generalize ht4 : IntKind.u64.wrap (IntKind.u64.wrap (IntKind.u64.wrap (x1 * y1) + t2 / 4294967296) + t3 / 4294967296) = t4
  have T4 := aM ht4.symm
  clear ht4
  rw [rounds_succ]
  go_wp2
  rw [rounds_succ]
  go_wp2
  go_meet
  go_light
  have hm := mul_halves h0a h0b h1a h1b X0.out X1.out Y0.out Y1.out T1.out T2.out T3.out T4.out
  refine ⟨rfl, MulOut.mk ?h (E1.out.symm.trans hm.1.symm) (E2.out.symm.trans hm.2.symm) ?_⟩
  case h =>
   apply Exists.intro
   apply Exists.intro
   apply And.intro
   ·repeat (first | (with_reducible apply blk_drewN) | (with_reducible apply blk_set))
    exact blk_new' _ _ (by simp)
   ·simp only [Array.toList_setIfInBounds, List.set_cons_zero, List.set_cons_succ]
  ·repeat (first | (with_reducible exact Below.refl _ _) | (with_reducible apply pw_below_drewN) | (with_reducible apply below_alloc) | (with_reducible refine below_set ?_ (by omega)))
 case rest =>
  obtain ⟨rfl, o0, o1, o2, o3, ⟨hc0, hc1, hc2, hc3⟩, hr, hb⟩ := hcut
  have hr' := aM hr; have hb' := aM hb
  clear E1 E2 X0 X1 Y0 Y1 hr hb
  go_wp2
  go_quiet (fail)
  go_wp2
  go_ret2
  refine ⟨?_, by repeat (first | exact hb'.out | (with_reducible apply pw_below_drewN) | (with_reducible apply below_drew1))⟩
  rw [hr'.out.1, hr'.out.2]; rfl
def wide_Add.f (a0 : Int) (a1 : Int) (a2 : Int) : Option (Int × Int) := if (IntKind.u64.wrap (a0 + a1)) < a0 then (some (IntKind.u64.wrap ((IntKind.u64.wrap (a0 + a1)) + (Go.bits .and .u64 a2 1)), 1)) else (if (IntKind.u64.wrap ((IntKind.u64.wrap (a0 + a1)) + (Go.bits .and .u64 a2 1))) < (IntKind.u64.wrap (a0 + a1)) then (some (IntKind.u64.wrap ((IntKind.u64.wrap (a0 + a1)) + (Go.bits .and .u64 a2 1)), 1)) else (some (IntKind.u64.wrap ((IntKind.u64.wrap (a0 + a1)) + (Go.bits .and .u64 a2 1)), 0)))
set_option maxHeartbeats 8000000 in
set_option maxRecDepth 100000 in
theorem wide_Add.calls (a0 : Int) (a1 : Int) (a2 : Int) (r1 : Int) (r2 : Int) (w : World) (h : wide_Add.f a0 a1 a2 = some (r1, r2)) :
  Calls Try.prog 61 #[.int .u64 a0, .int .u64 a1, .int .u64 a2] w fun e w' => e = .returned (.tuple #[.int .u64 r1, .int .u64 r2]) ∧ Drawn0 w w' := by
 have H := h
 clear h
 unfold wide_Add.f at H
 by_cases c4 : (IntKind.u64.wrap (a0 + a1)) < a0
 ·rw [if_pos c4] at H
  have c4b0 := decide_eq_true c4
  clear c4
  simp only [Option.some.injEq, Prod.mk.injEq] at H
  obtain ⟨rfl, rfl⟩ := H
  go_enter Try.func61, Try.ntmps61
  go_wp2
  go_ret2
  exact ⟨dF, dD⟩
 ·rw [if_neg c4] at H
  have c4b0 := decide_eq_false c4
  clear c4
  by_cases c5 : (IntKind.u64.wrap ((IntKind.u64.wrap (a0 + a1)) + (Go.bits .and .u64 a2 1))) < (IntKind.u64.wrap (a0 + a1))
  ·rw [if_pos c5] at H
   have c5b0 := decide_eq_true c5
   clear c5
   simp only [Option.some.injEq, Prod.mk.injEq] at H
   obtain ⟨rfl, rfl⟩ := H
   go_enter Try.func61, Try.ntmps61
   go_wp2
   go_ret2
   exact ⟨dF, dD⟩
  ·rw [if_neg c5] at H
   have c5b0 := decide_eq_false c5
   clear c5
   simp only [Option.some.injEq, Prod.mk.injEq] at H
   obtain ⟨rfl, rfl⟩ := H
   go_enter Try.func61, Try.ntmps61
   go_wp2
   go_ret2
   exact ⟨dF, dD⟩
theorem and_one {c : Int} (h0 : 0 ≤ c) (h1 : c < 18446744073709551616) : Go.bits .and .u64 c 1 = c % 2 := and_mask h0 h1 1 (by omega) _ rfl
theorem wide_Add.f_eq {a b c : Int} (ha0 : 0 ≤ a) (ha : a < 18446744073709551616) (hb0 : 0 ≤ b) (hb : b < 18446744073709551616) (hc0 : 0 ≤ c) (hc : c ≤ 1) :
  wide_Add.f a b c = some ((a + b + c) % 18446744073709551616, (a + b + c) / 18446744073709551616) := by
 unfold wide_Add.f
 rw [and_one hc0 (by omega)]
 simp only [u64w]
 split
 ·congr 2 <;> omega
 ·split <;> (congr 2 <;> omega)
def wide_within.f (a0 : Int) : Option (Int) := some (mn (mx a0 0) 128)
set_option maxHeartbeats 8000000 in
set_option maxRecDepth 100000 in
theorem wide_within.calls (a0 : Int) (r : Int) (w : World) (h : wide_within.f a0 = some r) :
  Calls Try.prog 70 #[.int .i64 a0] w fun e w' => e = .returned (.int .i64 r) ∧ Below w.heap.size w w' := by
 have HB := aM (Below.refl w.heap.size w)
 have H := h
 clear h
 unfold wide_within.f at H
 obtain ⟨ji2, hji2⟩ : ∃ j_ : Int, (mx a0 0) = j_ := ⟨_, rfl⟩
 first | rw [hji2] at H | simp only [hji2] at H
 (try (have hji2l : 0 ≤ ji2 := by (rw [← hji2]; unfold mx; (repeat' split) <;> omega)))
 (try (have hji2m : 0 ≤ ji2 := by omega))
 have hji2_ : (if a0 < 0 then 0 else a0) = ji2 := hji2
 obtain ⟨ji3, hji3⟩ : ∃ j_ : Int, (mn (ji2) 128) = j_ := ⟨_, rfl⟩
 first | rw [hji3] at H | simp only [hji3] at H
 have hji3_ : (if 128 < (ji2) then 128 else (ji2)) = ji3 := hji3
 obtain rfl := Option.some.inj H
 go_enter Try.func70, Try.ntmps70
 go_wp2
 go_ret
 exact ⟨by first | rfl | (simp [errW_none, errW_some] <;> rfl) | (simp only [← hji2, ← hji3]; first | rfl | (simp [errW_none, errW_some] <;> rfl)) | (simp [*, errW_none, errW_some] <;> rfl), dB⟩
def wide_Shl.f (a0 : Int) (a1 : Int) (a2 : Int) : Option (Int × Int) := (wide_within.f a2).bind fun t127 => (if t127 ≥ 64 then (if 0 ≤ (wrap64 (t127 - 64)) then (some (shl .u64 a1 (wrap64 (t127 - 64)), 0)) else (none)) else (if 0 ≤ t127 then (if 0 ≤ (wrap64 (64 - t127)) then (some (Go.bits .or .u64 (shl .u64 a0 t127) (shr .u64 a1 (wrap64 (64 - t127))), shl .u64 a1 t127)) else (none)) else (none)))
set_option maxHeartbeats 8000000 in
set_option maxRecDepth 100000 in
theorem wide_Shl.calls (a0 : Int) (a1 : Int) (a2 : Int) (r1 : Int) (r2 : Int) (w : World) (h : wide_Shl.f a0 a1 a2 = some (r1, r2)) :
  Calls Try.prog 68 #[.int .u64 a0, .int .u64 a1, .int .i64 a2] w fun e w' => e = .returned (.tuple #[.int .u64 r1, .int .u64 r2]) ∧ Below w.heap.size w w' := by
 have HB := aM (Below.refl w.heap.size w)
 have H := h
 clear h
 unfold wide_Shl.f at H
 replace H := oA H
 obtain ⟨t127, A4, H⟩ := H
 (try dsimp only at H)
 by_cases c5 : t127 ≥ 64
 ·rw [if_pos c5] at H
  have c5b0 : decide (64 ≤ t127) = true := decide_eq_true c5
  clear c5
  obtain ⟨ji6, hji6⟩ : ∃ j_ : Int, (wrap64 (t127 - 64)) = j_ := ⟨_, rfl⟩
  first | rw [hji6] at H | simp only [hji6] at H
  (try rw [hji6] at A4)
  have hji6w : (IntKind.i64.wrap (t127 - 64)) = ji6 := (i64_w _).trans hji6
  replace H := nO H
  obtain ⟨c7, H⟩ := H
  have c7b0 := eq_true c7
  have c7b1 : decide (0 ≤ (ji6)) = true := decide_eq_true c7
  clear c7
  obtain ⟨ji8, hji8⟩ : ∃ j_ : Int, (shl .u64 a1 (ji6)) = j_ := ⟨_, rfl⟩
  first | rw [hji8] at H | simp only [hji8] at H
  (try rw [hji8] at A4)
  have hji8_ : (IntKind.u64.wrap (a1 * 2 ^ min (ji6).toNat 64)) = ji8 := hji8
  have hji8z : (ji6) ≤ 64 → (IntKind.u64.wrap (a1 * 2 ^ (ji6).toNat)) = ji8 := shl_small hji8
  simp only [Option.some.injEq, Prod.mk.injEq] at H
  obtain ⟨rfl, rfl⟩ := H
  go_enter Try.func68, Try.ntmps68
  iterate 6 (go_wp2_with (first | (go_at_call 70; (with_reducible refine (wide_within.calls a2 t127 _ A4.out).mono ?_); rintro e w9 ⟨rfl, hb⟩; replace HB := hS HB.out hb; (try clear hb))); try go_quiet (fail))
  go_ret2
  exact ⟨by first | rfl | (simp [errW_none, errW_some] <;> rfl) | (simp only [← hji6, ← hji8]; first | rfl | (simp [errW_none, errW_some] <;> rfl)) | (simp [*, errW_none, errW_some] <;> rfl), dB⟩
 ·rw [if_neg c5] at H
  have c5b0 : decide (64 ≤ t127) = false := decide_eq_false c5
  clear c5
  replace H := nO H
  obtain ⟨c10, H⟩ := H
  have c10b0 := eq_true c10
  have c10b1 : decide (0 ≤ t127) = true := decide_eq_true c10
  clear c10
  obtain ⟨ji11, hji11⟩ : ∃ j_ : Int, (shl .u64 a0 t127) = j_ := ⟨_, rfl⟩
  first | rw [hji11] at H | simp only [hji11] at H
  (try rw [hji11] at A4)
  have hji11_ : (IntKind.u64.wrap (a0 * 2 ^ min t127.toNat 64)) = ji11 := hji11
  have hji11z : t127 ≤ 64 → (IntKind.u64.wrap (a0 * 2 ^ t127.toNat)) = ji11 := shl_small hji11
  obtain ⟨ji12, hji12⟩ : ∃ j_ : Int, (wrap64 (64 - t127)) = j_ := ⟨_, rfl⟩
  first | rw [hji12] at H | simp only [hji12] at H
  (try rw [hji12] at A4)
  have hji12w : (IntKind.i64.wrap (64 - t127)) = ji12 := (i64_w _).trans hji12
  replace H := nO H
  obtain ⟨c13, H⟩ := H
  have c13b0 := eq_true c13
  have c13b1 : decide (0 ≤ (ji12)) = true := decide_eq_true c13
  clear c13
  obtain ⟨ji14, hji14⟩ : ∃ j_ : Int, (shr .u64 a1 (ji12)) = j_ := ⟨_, rfl⟩
  first | rw [hji14] at H | simp only [hji14] at H
  (try rw [hji14] at A4)
  have hji14_ : (a1 / 2 ^ min (ji12).toNat 64) = ji14 := hji14
  have hji14z : (ji12) ≤ 64 → (a1 / 2 ^ (ji12).toNat) = ji14 := shr_small hji14
  have c15b0 := eq_true (of_decide_eq_true dS : 0 ≤ t127)
  obtain ⟨ji16, hji16⟩ : ∃ j_ : Int, (shl .u64 a1 t127) = j_ := ⟨_, rfl⟩
  first | rw [hji16] at H | simp only [hji16] at H
  (try rw [hji16] at A4)
  have hji16_ : (IntKind.u64.wrap (a1 * 2 ^ min t127.toNat 64)) = ji16 := hji16
  have hji16z : t127 ≤ 64 → (IntKind.u64.wrap (a1 * 2 ^ t127.toNat)) = ji16 := shl_small hji16
  simp only [Option.some.injEq, Prod.mk.injEq] at H
  obtain ⟨rfl, rfl⟩ := H
  go_enter Try.func68, Try.ntmps68
  iterate 6 (go_wp2_with (first | (go_at_call 70; (with_reducible refine (wide_within.calls a2 t127 _ A4.out).mono ?_); rintro e w17 ⟨rfl, hb⟩; replace HB := hS HB.out hb; (try clear hb))); try go_quiet (fail))
  go_ret2
  exact ⟨by first | rfl | (simp [errW_none, errW_some] <;> rfl) | (simp only [← hji11, ← hji12, ← hji14, ← hji16]; first | rfl | (simp [errW_none, errW_some] <;> rfl)) | (simp [*, errW_none, errW_some] <;> rfl), dB⟩
def quot_shl.l0 : Nat → List Int → Int → Int → List Int → Int → List Int → Int → Int → Option (List Int)
 | 0, _, _, _, _, _, _, _, _ => none
 | k + 1, x0, x1, x2, x7, x8, x15, x16, x17 => if x17 < x16 then (if 0 ≤ x17 then (if x17 < (x15.length : Int) then ((wide_Shl.f 0 (rd x15 x17) x1).bind fun bt132 => (if x17 < (x7.length : Int) then (quot_shl.l0 k x0 x1 x2 (x7.set (x17 : Int).toNat (Go.bits .or .u64 bt132.2 x8)) bt132.1 x15 x16 (wrap64 (x17 + 1))) else (none))) else (none)) else (none)) else (if (x0.length : Int) < x2 then (if 0 ≤ (x0.length : Int) then (if (x0.length : Int) < (x7.length : Int) then (some (x7.set ((x0.length : Int) : Int).toNat x8)) else (none)) else (none)) else (some x7))
def quot_shl.f (k : Nat) (l0 : List Int) (a1 : Int) (a2 : Int) : Option (List Int) := if 0 ≤ a2 then (if (a2 : Int).toNat ≤ 35184372088832 then (quot_shl.l0 k l0 a1 a2 (List.replicate (a2 : Int).toNat 0) 0 l0 (l0.length : Int) 0) else (none)) else (none)
theorem quot_shl.mono_l : ∀ k, (∀ y0 y1 y2 y3 y4 y5 y6 y7, LeO (quot_shl.l0 k y0 y1 y2 y3 y4 y5 y6 y7) (quot_shl.l0 (k + 1) y0 y1 y2 y3 y4 y5 y6 y7))
 | 0 => fun _ _ _ _ _ _ _ _ r h => by simp [quot_shl.l0] at h
 | k + 1 => by
  have ih0 := quot_shl.mono_l k
  ·intro y0 y1 y2 y3 y4 y5 y6 y7
   unfold quot_shl.l0
   exact mX
theorem quot_shl.mono : ∀ a0 a1 a2 k, LeO (quot_shl.f k a0 a1 a2) (quot_shl.f (k + 1) a0 a1 a2) := by
 intro a0 a1 a2 k
 have ih0 := quot_shl.mono_l k
 unfold quot_shl.f
 exact mX
set_option maxHeartbeats 8000000 in
set_option maxRecDepth 100000 in
theorem quot_shl.calls (k : Nat) (A0 : Option Addr) (c0 : Nat) (l0 : List Int) (a1 : Int) (a2 : Int) (r : List Int) (w : World) (hr0 : Kd.C (Kd.int .u64) w A0 l0.length l0) (hc0 : l0.length ≤ c0) (h : quot_shl.f k l0 a1 a2 = some r) :
  Calls Try.prog 64 #[.slice A0 l0.length c0, .int .i64 a1, .int .i64 a2] w fun e w' => ∃ v0_ : Value, e = .returned (v0_) ∧ Kd.R (Kd.int .u64) 44 w' w.heap.size (fun _ => True) v0_ r ∧ Below w.heap.size w w' := by
 have HR0 := aM hr0
 have HC0 := aM hc0
 clear hr0 hc0
 have HB := aM (Below.refl w.heap.size w)
 have H := h
 clear h
 unfold quot_shl.f at H
 replace H := nO H
 obtain ⟨c4, H⟩ := H
 have c4b0 := eq_true c4
 have c4b1 : decide (0 ≤ a2) = true := decide_eq_true c4
 clear c4
 replace H := nO H
 obtain ⟨c5, H⟩ := H
 have c5b0 := eq_true c5
 have c5b1 := decide_eq_true c5
 clear c5
 obtain ⟨y128, hy128⟩ : ∃ y_ : List Int, y_ = (List.replicate (a2 : Int).toNat 0) := ⟨_, rfl⟩
 replace H : (quot_shl.l0 k l0 a1 a2 y128 0 l0 (l0.length : Int) 0) = some r := by first | (rw [hy128]; with_reducible exact H) | (have H2_ := (Option.bind_some _ _).symm.trans H; rw [hy128]; with_reducible exact H2_) | (have H2_ := (Option.bind_some _ _).symm.trans H; with_reducible exact H2_) | with_reducible exact H | (rw [hy128]; exact H) | exact H
 have Ny128 := aM hy128
 clear hy128
 have H' := aM H
 clear H
 go_enter Try.func64, Try.ntmps64
 go_wp2_with (first | ((with_reducible refine gate_dst (N := 14) rfl ?_); refine Kd.R_make (Kd.int .u64) _ 44 rfl (N := 14) rfl 22 _ _ rfl a2 rfl rfl Try.underlying22 (.int .u64 0) 8 info44 rfl (by decide) (by omega) 0 (ok := fun _ => True) (okp := fun _ => True) rfl (fun _ hk => hk) trivial (of_decide_eq_true dS) (Nat.le_trans (Nat.mul_le_mul_right _ (of_decide_eq_true dS : a2.toNat ≤ 35184372088832)) (by omega)) (Below.refl _ _) (Nat.le_refl _) ?_; intro v129 w6 ho7 hb hg_ hnew_; clear hg_ hnew_; (first | rw [← Ny128.out] at ho7 | (simp only [Int.reduceToNat] at ho7; rw [← Ny128.out] at ho7)); have HO130 := aM (Kd.R_lower ho7 (below_size dB)); replace HB := hS HB.out hb; clear hb ho7))
 go_loopg [8, 17] k (fun kq v8 v17 w' => ∃ (x7_1 : List Int) (x8_1 : Int) (x17_1 : Int), v8 = .int .u64 x8_1 ∧ v17 = .int .i64 x17_1 ∧ Aside0 (quot_shl.l0 kq l0 a1 a2 x7_1 x8_1 l0 (l0.length : Int) x17_1 = some r) ∧ Aside0 (kq ≤ k) ∧ Aside0 (Kd.R (Kd.int .u64) 44 w' w.heap.size (fun _ => True) v129 x7_1) ∧ Aside0 (Below w.heap.size w w'))
 case atStart => exact ⟨(y128), (0), (0), dF, dF, H', ⟨Nat.le_refl _⟩, ⟨dR HO130.out⟩, ⟨dB⟩⟩
 case round =>
  clear H'
  try clear c4
  try clear c4b0 c4b1
  try clear c5
  try clear c5b0 c5b1
  obtain ⟨x7_1, x8_1, x17_1, rfl, rfl, HA, HK1, HO_7, HB⟩ := hrel
  cases gk with
  | zero => exact absurd HA.out (by simp [quot_shl.l0])
  | succ k1 =>
   have H := HA.out
   clear HA
   simp only [quot_shl.l0] at H
   by_cases c8 : x17_1 < (l0.length : Int)
   ·rw [if_pos c8] at H
    have c8b0 := decide_eq_true c8
    clear c8
    replace H := nO H
    obtain ⟨c9, H⟩ := H
    have c9b0 : decide (0 ≤ x17_1) = true := decide_eq_true c9
    clear c9
    replace H := nO H
    obtain ⟨c10, H⟩ := H
    have c10b0 := decide_eq_true c10
    clear c10
    replace H := oA H
    obtain ⟨⟨t132, t133⟩, A11, H⟩ := H
    (try dsimp only at H)
    replace H := nO H
    obtain ⟨c12, H⟩ := H
    have c12b0 := decide_eq_true c12
    clear c12
    obtain ⟨y134, hy134⟩ : ∃ y_ : List Int, y_ = (x7_1.set (x17_1 : Int).toNat (Go.bits .or .u64 t133 x8_1)) := ⟨_, rfl⟩
    replace H : (quot_shl.l0 k1 l0 a1 a2 y134 t132 l0 (l0.length : Int) (wrap64 (x17_1 + 1))) = some r := by first | (rw [hy134]; with_reducible exact H) | (have H2_ := (Option.bind_some _ _).symm.trans H; rw [hy134]; with_reducible exact H2_) | (have H2_ := (Option.bind_some _ _).symm.trans H; with_reducible exact H2_) | with_reducible exact H | (rw [hy134]; exact H) | exact H
    have Ny134 := aM hy134
    clear hy134
    have H' := aM H
    clear H
    have p131 : 0 ≤ (x17_1 : Int) := of_decide_eq_true dS
    have q131 : x17_1 < (l0.length : Int) := of_decide_eq_true dS
    obtain ⟨ad131, e131, hx131_0⟩ := Kd.at_int HR0.out x17_1 p131 q131
    cases e131
    replace hx131_0 := (HB.out.cell (World.block_lt_of_cell? w _ hx131_0)).trans hx131_0
    replace p131 := eq_true p131
    replace q131 := eq_true q131
    go_wp2_with (first | ((with_reducible refine gate_callee (f := 68) rfl ?_); refine gL (some 25) Try.func68 #[.int .u64 0, .int .u64 (rd l0 x17_1), .int .i64 a1] ?_; (with_reducible refine (wide_Shl.calls 0 (rd l0 x17_1) a1 t132 t133 _ A11.out).mono ?_); rintro e w14 ⟨rfl, hb⟩; refine ⟨_, rfl, ?_⟩; replace HO_7 := oB HO_7.out hb; replace HB := hS HB.out hb; (try clear hb); have p13 : 0 ≤ (x17_1 : Int) := of_decide_eq_true dS; have q13 : (x17_1 : Int) < ((x7_1.length : Int) : Int) := of_decide_eq_true dS; obtain ⟨go13, co13, eo13, gb13, gl13, cl13, HG13⟩ := Kd.R_form HO_7.out (by omega); (first | cases eo13 | (injection eo13 with ea_ en_ ec_; (first | subst ea_ | (injection ea_ with ea_; subst ea_)); subst ec_; clear en_)); have GB13 := aM gb13; have GG13 := aM HG13; clear gb13 gl13 HG13; obtain ⟨hx13_0, hf13_0⟩ := Kd.R_celln 0 HO_7.out (x17_1 : Int) p13 q13; replace p13 := eq_true p13; replace q13 := eq_true q13; obtain ⟨hy15_, hz15_⟩ := Kd.R_celln 0 HO_7.out (x17_1 : Int) (of_decide_eq_true dS) (of_decide_eq_true dS); have HP15 := Kd.R_putg HO_7.out (x17_1 : Int) (Go.bits .or .u64 t133 x8_1)) | ((with_reducible refine gate_store (t := 44) (p := 33) rfl ?_); refine store_event (t := 44) (p := 33) (v := ?vo_w16) (w1 := (w14.setCell ⟨go13, (x17_1 : Int).toNat, none⟩ (.int .u64 (Go.bits .or .u64 t133 x8_1)))) ?hg ?ho ?hn ?hr ?_; (case ho => rfl); (case hg => rfl); (case hn => rfl); (case hr => first | (go_simp; done) | (go_simp; rfl)); intro w16 hw; have hg : w14.grownBy w16 (some go13) := (by rw [hw]; exact HP15.2); have hp_ : Kd.R (Kd.int .u64) 44 w16 w.heap.size (fun _ => True) (.slice (some ⟨go13, 0, none⟩) x7_1.length co13) y134 := (by rw [hw, Ny134.out]; exact HP15.1); clear HP15; replace HO_7 := aM (hp_); replace HB := aM ((by rw [hw]; exact below_set (HB.out) GB13.out : Below w.heap.size w w16)); clear hg hw hp_))
    go_roundg k1
    case measure => have := HK1.out; omega
    case rel => exact ⟨(y134), (t132), (wrap64 (x17_1 + 1)), dF, dF, H', ⟨by have := HK1.out; omega⟩, ⟨dR HO_7.out⟩, ⟨dB⟩⟩
   ·rw [if_neg c8] at H
    have c8b0 := decide_eq_false c8
    clear c8
    by_cases c17 : (l0.length : Int) < a2
    ·rw [if_pos c17] at H
     have c17b0 := decide_eq_true c17
     clear c17
     replace H := nO H
     obtain ⟨c18, H⟩ := H
     have c18b0 : decide (0 ≤ (l0.length : Int)) = true := decide_eq_true c18
     have c18b1 : decide (0 ≤ l0.length) = true := decide_eq_true (by omega)
     clear c18
     replace H := nO H
     obtain ⟨c19, H⟩ := H
     have c19b0 := decide_eq_true c19
     have c19b1 : decide (l0.length < x7_1.length) = true := decide_eq_true (Int.ofNat_lt.mp c19)
     clear c19
     obtain ⟨y135, hy135⟩ : ∃ y_ : List Int, y_ = (x7_1.set ((l0.length : Int) : Int).toNat x8_1) := ⟨_, rfl⟩
     replace H : (some y135) = some r := by first | (rw [hy135]; with_reducible exact H) | (have H2_ := (Option.bind_some _ _).symm.trans H; rw [hy135]; with_reducible exact H2_) | (have H2_ := (Option.bind_some _ _).symm.trans H; with_reducible exact H2_) | with_reducible exact H | (rw [hy135]; exact H) | exact H
     have Ny135 := aM hy135
     clear hy135
     obtain rfl := Option.some.inj H
     have p20 : 0 ≤ ((l0.length : Int) : Int) := of_decide_eq_true dS
     have q20 : ((l0.length : Int) : Int) < ((x7_1.length : Int) : Int) := of_decide_eq_true dS
     obtain ⟨go20, co20, eo20, gb20, gl20, cl20, HG20⟩ := Kd.R_form HO_7.out (by omega)
     (first | cases eo20 | (injection eo20 with ea_ en_ ec_; (first | subst ea_ | (injection ea_ with ea_; subst ea_)); subst ec_; clear en_))
     have GB20 := aM gb20
     have GG20 := aM HG20
     clear gb20 gl20 HG20
     obtain ⟨hx20_0, hf20_0⟩ := Kd.R_celln 0 HO_7.out ((l0.length : Int) : Int) p20 q20; (try simp only [Int.toNat_natCast] at hx20_0 hf20_0)
     replace p20 := eq_true p20
     replace q20 := eq_true q20
     have HP21 := Kd.R_putg HO_7.out ((l0.length : Int) : Int) x8_1; (try simp only [Int.toNat_natCast] at HP21)
     go_wp2_with (first | ((with_reducible refine gate_store (t := 44) (p := 44) rfl ?_); refine store_event (t := 44) (p := 44) (v := ?vo_w22) (w1 := (wr.setCell ⟨go20, l0.length, none⟩ (.int .u64 x8_1))) ?hg ?ho ?hn ?hr ?_; (case ho => rfl); (case hg => rfl); (case hn => rfl); (case hr => first | (go_simp; done) | (go_simp; rfl)); intro w22 hw; have hg : wr.grownBy w22 (some go20) := (by rw [hw]; exact HP21.2); have hp_ : Kd.R (Kd.int .u64) 44 w22 w.heap.size (fun _ => True) (.slice (some ⟨go20, 0, none⟩) x7_1.length co20) y135 := (by rw [hw, Ny135.out]; exact HP21.1); clear HP21; replace HO_7 := aM (hp_); replace HB := aM ((by rw [hw]; exact below_set (HB.out) GB20.out : Below w.heap.size w w22)); clear hg hw hp_))
     go_ret
     exact ⟨_, dE, dR HO_7.out, dB⟩
    ·rw [if_neg c17] at H
     have c17b0 := decide_eq_false c17
     clear c17
     obtain rfl := Option.some.inj H
     go_wp2
     go_ret
     exact ⟨_, dE, dR HO_7.out, dB⟩
def wide_Sub.f (a0 : Int) (a1 : Int) (a2 : Int) : Option (Int × Int) := if a0 < a1 then (some (IntKind.u64.wrap ((IntKind.u64.wrap (a0 - a1)) - (Go.bits .and .u64 a2 1)), 1)) else (if a0 = a1 then (if (Go.bits .and .u64 a2 1) = 1 then (some (IntKind.u64.wrap ((IntKind.u64.wrap (a0 - a1)) - (Go.bits .and .u64 a2 1)), 1)) else (some (IntKind.u64.wrap ((IntKind.u64.wrap (a0 - a1)) - (Go.bits .and .u64 a2 1)), 0))) else (some (IntKind.u64.wrap ((IntKind.u64.wrap (a0 - a1)) - (Go.bits .and .u64 a2 1)), 0)))
set_option maxHeartbeats 8000000 in
set_option maxRecDepth 100000 in
theorem wide_Sub.calls (a0 : Int) (a1 : Int) (a2 : Int) (r1 : Int) (r2 : Int) (w : World) (h : wide_Sub.f a0 a1 a2 = some (r1, r2)) :
  Calls Try.prog 58 #[.int .u64 a0, .int .u64 a1, .int .u64 a2] w fun e w' => e = .returned (.tuple #[.int .u64 r1, .int .u64 r2]) ∧ Drawn0 w w' := by
 have H := h
 clear h
 unfold wide_Sub.f at H
 by_cases c4 : a0 < a1
 ·rw [if_pos c4] at H
  have c4b0 := decide_eq_true c4
  clear c4
  simp only [Option.some.injEq, Prod.mk.injEq] at H
  obtain ⟨rfl, rfl⟩ := H
  go_enter Try.func58, Try.ntmps58
  go_wp2
  go_ret2
  exact ⟨dF, dD⟩
 ·rw [if_neg c4] at H
  have c4b0 := decide_eq_false c4
  clear c4
  by_cases c5 : a0 = a1
  ·rw [if_pos c5] at H
   obtain ⟨c5b0, c5b1⟩ := bT c5
   clear c5
   by_cases c6 : (Go.bits .and .u64 a2 1) = 1
   ·rw [if_pos c6] at H
    obtain ⟨c6b0, c6b1⟩ := bT c6
    clear c6
    simp only [Option.some.injEq, Prod.mk.injEq] at H
    obtain ⟨rfl, rfl⟩ := H
    go_enter Try.func58, Try.ntmps58
    go_wp2
    go_ret2
    exact ⟨dF, dD⟩
   ·rw [if_neg c6] at H
    obtain ⟨c6b0, c6b1⟩ := bF c6
    simp only [Option.some.injEq, Prod.mk.injEq] at H
    obtain ⟨rfl, rfl⟩ := H
    go_enter Try.func58, Try.ntmps58
    go_wp2
    go_ret2
    exact ⟨dF, dD⟩
  ·rw [if_neg c5] at H
   obtain ⟨c5b0, c5b1⟩ := bF c5
   simp only [Option.some.injEq, Prod.mk.injEq] at H
   obtain ⟨rfl, rfl⟩ := H
   go_enter Try.func58, Try.ntmps58
   go_wp2
   go_ret2
   exact ⟨dF, dD⟩
def quot_take.l0 : Nat → List Int → List Int → Int → Int → Int → List Int → Int → Int → Option (Bool × List Int)
 | 0, _, _, _, _, _, _, _, _ => none
 | k + 1, x0, x1, x2, x7, x8, x14, x15, x16 => if x16 < x15 then (if 0 ≤ x16 then (if x16 < (x14.length : Int) then ((wide_Mul.f (rd x14 x16) x2).bind fun bt137 => ((wide_Add.f bt137.2 x7 0).bind fun bt139 => (if x16 < (x0.length : Int) then ((wide_Sub.f (rd x0 x16) bt139.1 x8).bind fun bt142 => (quot_take.l0 k (x0.set (x16 : Int).toNat bt142.1) x1 x2 (IntKind.u64.wrap (bt137.1 + bt139.2)) bt142.2 x14 x15 (wrap64 (x16 + 1)))) else (none)))) else (none)) else (none)) else (if 0 ≤ (x1.length : Int) then (if (x1.length : Int) < (x0.length : Int) then ((wide_Sub.f (rd x0 (x1.length : Int)) x7 x8).bind fun bt146 => (some ((bt146.2 == 1), (x0.set ((x1.length : Int) : Int).toNat bt146.1)))) else (none)) else (none))
def quot_take.f (k : Nat) (l0 : List Int) (l1 : List Int) (a2 : Int) : Option (Bool × List Int) := quot_take.l0 k l0 l1 a2 0 0 l1 (l1.length : Int) 0
theorem quot_take.mono_l : ∀ k, (∀ y0 y1 y2 y3 y4 y5 y6 y7, LeO (quot_take.l0 k y0 y1 y2 y3 y4 y5 y6 y7) (quot_take.l0 (k + 1) y0 y1 y2 y3 y4 y5 y6 y7))
 | 0 => fun _ _ _ _ _ _ _ _ r h => by simp [quot_take.l0] at h
 | k + 1 => by
  have ih0 := quot_take.mono_l k
  ·intro y0 y1 y2 y3 y4 y5 y6 y7
   unfold quot_take.l0
   exact mX
theorem quot_take.mono : ∀ a0 a1 a2 k, LeO (quot_take.f k a0 a1 a2) (quot_take.f (k + 1) a0 a1 a2) := by
 intro a0 a1 a2 k
 have ih0 := quot_take.mono_l k
 unfold quot_take.f
 exact mX
set_option maxHeartbeats 8000000 in
set_option maxRecDepth 100000 in
theorem quot_take.callsP (U_ : Value) (Us_ : List Int) (j_ : Nat) (k : Nat) (P0_ : Nat → Prop) (u9000_ : Value) (l0 : List Int) (A1 : Option Addr) (c1 : Nat) (l1 : List Int) (a2 : Int) (r1 : Bool) (r2 : List Int) (w0 w : World) (hB : Below w0.heap.size w0 w) (ho0 : Pc .u64 U_ Us_ j_ 44 w w0.heap.size P0_ u9000_ l0) (hr1 : ∀ W_, Kept w W_ (fun k_ => P0_ k_) → Kd.C (Kd.int .u64) W_ A1 l1.length l1) (hc1 : l1.length ≤ c1) (h : quot_take.f k l0 l1 a2 = some (r1, r2)) :
  Calls Try.prog 65 #[u9000_, .slice A1 l1.length c1, .int .u64 a2] w fun e w' => e = .returned (.bool r1) ∧ Pc .u64 U_ Us_ j_ 44 w' w0.heap.size (fun k_ => (P0_ k_ ∨ w.heap.size ≤ k_)) u9000_ r2 ∧ Below w0.heap.size w0 w' ∧ Kept w w' (fun k_ => P0_ k_) := by
 have HO0 := aM (show Pc .u64 U_ Us_ j_ 44 w w0.heap.size (fun k_ => (P0_ k_ ∨ w.heap.size ≤ k_)) u9000_ l0 from Pc_mono ho0 (fun k_ hk => (.inl hk)))
 have HR1 := aM hr1
 have HC1 := aM hc1
 clear hr1 hc1
 have HK := aM (Kept.refl w (fun k_ => P0_ k_))
 have HW0 := aM hB.size
 have HB := aM hB
 clear hB
 have H := h
 clear h
 unfold quot_take.f at H
 have H' := aM H
 clear H
 go_enter Try.func65, Try.ntmps65
 go_wp2
 go_loopg [7, 8, 16] k (fun kq v7 v8 v16 w' => ∃ (x0_1 : List Int) (x7_1 : Int) (x8_1 : Int) (x16_1 : Int), v7 = .int .u64 x7_1 ∧ v8 = .int .u64 x8_1 ∧ v16 = .int .i64 x16_1 ∧ Aside0 (quot_take.l0 kq x0_1 l1 a2 x7_1 x8_1 l1 (l1.length : Int) x16_1 = some (r1, r2)) ∧ Aside0 (kq ≤ k) ∧ Aside0 (Pc .u64 U_ Us_ j_ 44 w' w0.heap.size (fun k_ => (P0_ k_ ∨ w.heap.size ≤ k_)) u9000_ x0_1) ∧ Aside0 (Kept w w' (fun k_ => P0_ k_)) ∧ Aside0 (Below w0.heap.size w0 w'))
 case atStart => exact ⟨(l0), (0), (0), (0), dF, dF, dF, H', ⟨Nat.le_refl _⟩, ⟨by (with_reducible repeat (first | apply Pc_alloc | apply Pc_drewN | apply Pc_drew)); exact HO0.out⟩, ⟨by repeat (first | (with_reducible first | exact HK.out | apply Kept.alloc | apply Kept.drewN | apply Kept.drew) | exact HK.out)⟩, ⟨dB⟩⟩
 case round =>
  clear H'
  try clear c1
  obtain ⟨x0_1, x7_1, x8_1, x16_1, rfl, rfl, rfl, HA, HK1, HO_0, HK, HB⟩ := hrel
  cases gk with
  | zero => exact absurd HA.out (by simp [quot_take.l0])
  | succ k1 =>
   have H := HA.out
   clear HA
   simp only [quot_take.l0] at H
   by_cases c4 : x16_1 < (l1.length : Int)
   ·rw [if_pos c4] at H
    have c4b0 := decide_eq_true c4
    clear c4
    replace H := nO H
    obtain ⟨c5, H⟩ := H
    have c5b0 : decide (0 ≤ x16_1) = true := decide_eq_true c5
    clear c5
    replace H := nO H
    obtain ⟨c6, H⟩ := H
    have c6b0 := decide_eq_true c6
    clear c6
    replace H := oA H
    obtain ⟨⟨t209, t210⟩, A7, H⟩ := H
    (try dsimp only at H)
    replace H := oA H
    obtain ⟨⟨t211, t212⟩, A8, H⟩ := H
    (try dsimp only at H)
    replace H := nO H
    obtain ⟨c9, H⟩ := H
    have c9b0 := decide_eq_true c9
    clear c9
    replace H := oA H
    obtain ⟨⟨t214, t215⟩, A10, H⟩ := H
    (try dsimp only at H)
    obtain ⟨y216, hy216⟩ : ∃ y_ : List Int, y_ = (x0_1.set (x16_1 : Int).toNat t214) := ⟨_, rfl⟩
    replace H : (quot_take.l0 k1 y216 l1 a2 (IntKind.u64.wrap (t209 + t212)) t215 l1 (l1.length : Int) (wrap64 (x16_1 + 1))) = some (r1, r2) := by first | (rw [hy216]; with_reducible exact H) | (have H2_ := (Option.bind_some _ _).symm.trans H; rw [hy216]; with_reducible exact H2_) | (have H2_ := (Option.bind_some _ _).symm.trans H; with_reducible exact H2_) | with_reducible exact H | (rw [hy216]; exact H) | exact H
    have Ny216 := aM hy216
    clear hy216
    have H' := aM H
    clear H
    have p208 : 0 ≤ (x16_1 : Int) := of_decide_eq_true dS
    have q208 : x16_1 < (l1.length : Int) := of_decide_eq_true dS
    obtain ⟨ad208, e208, hx208_0⟩ := Kd.at_int (Kd.C_kept_now HR1.out HK.out) x16_1 p208 q208
    cases e208
    replace p208 := eq_true p208
    replace q208 := eq_true q208
    go_wp2_with (first | ((with_reducible refine gate_callee (f := 60) rfl ?_); refine gL (some 24) Try.func60 #[.int .u64 (rd l1 x16_1), .int .u64 a2] ?_; (with_reducible refine (wide_Mul.calls (rd l1 x16_1) a2 t209 t210 _ A7.out).mono ?_); rintro e w12 ⟨rfl, hb⟩; refine ⟨_, rfl, ?_⟩; replace HO_0 := aM (Pc_below (by (with_reducible repeat (first | apply Pc_alloc | apply Pc_drewN | apply Pc_drew)); exact HO_0.out) hb); replace HK := aM (Kept.below (S := (fun k_ => P0_ k_)) (by repeat (first | (with_reducible first | exact HK.out | apply Kept.alloc | apply Kept.drewN | apply Kept.drew) | exact HK.out)) hb); replace HB := hS HB.out hb; (try clear hb)) | ((with_reducible refine gate_callee (f := 61) rfl ?_); refine gL (some 30) Try.func61 #[.int .u64 t210, .int .u64 x7_1, .int .u64 0] ?_; (with_reducible refine (wide_Add.calls t210 x7_1 0 t211 t212 _ A8.out).mono ?_); rintro e w' ⟨rfl, ⟨nd, rfl⟩⟩; refine ⟨_, rfl, ?_⟩; (try (rw [drewN_self w12]; generalize hq_ : World.drewN w12 _ = w12; have n0_ : Aside0 (Pc .u64 U_ Us_ j_ 44 w12 w0.heap.size (fun k_ => (P0_ k_ ∨ w.heap.size ≤ k_)) u9000_ x0_1) := ⟨by rw [← hq_]; exact (by (with_reducible repeat (first | apply Pc_alloc | apply Pc_drewN | apply Pc_drew)); exact HO_0.out)⟩; have n1_ : Aside0 (Kept w w12 (fun k_ => P0_ k_)) := ⟨by rw [← hq_]; exact (by repeat (first | (with_reducible first | exact HK.out | apply Kept.alloc | apply Kept.drewN | apply Kept.drew) | exact HK.out))⟩; have n2_ : Aside0 (Below w0.heap.size w0 w12) := ⟨by rw [← hq_]; exact dB⟩; clear HO_0 HK HB hq_; have HO_0 := n0_; have HK := n1_; have HB := n2_; clear n0_ n1_ n2_)); obtain ⟨Ao13, co13, eo13⟩ := Pc_slice HO_0.out; subst eo13; have p213 : 0 ≤ (x16_1 : Int) := of_decide_eq_true dS; have q213 : x16_1 < (x0_1.length : Int) := of_decide_eq_true dS; obtain ⟨ad213, e213, hx213_0⟩ := Kd.at_int (Pc_reads' HO_0.out).2.2 x16_1 p213 q213; cases e213; replace p213 := eq_true p213; replace q213 := eq_true q213) | ((with_reducible refine gate_callee (f := 58) rfl ?_); refine gL (some 45) Try.func58 #[.int .u64 (rd x0_1 x16_1), .int .u64 t211, .int .u64 x8_1] ?_; (with_reducible refine (wide_Sub.calls (rd x0_1 x16_1) t211 x8_1 t214 t215 _ A10.out).mono ?_); rintro e w' ⟨rfl, ⟨nd, rfl⟩⟩; refine ⟨_, rfl, ?_⟩; (try (rw [drewN_self w12]; generalize hq_ : World.drewN w12 _ = w12; have n0_ : Aside0 (Pc .u64 U_ Us_ j_ 44 w12 w0.heap.size (fun k_ => (P0_ k_ ∨ w.heap.size ≤ k_)) (.slice (some ad213) x0_1.length co13) x0_1) := ⟨by rw [← hq_]; exact (by (with_reducible repeat (first | apply Pc_alloc | apply Pc_drewN | apply Pc_drew)); exact HO_0.out)⟩; have n1_ : Aside0 (Kept w w12 (fun k_ => P0_ k_)) := ⟨by rw [← hq_]; exact (by repeat (first | (with_reducible first | exact HK.out | apply Kept.alloc | apply Kept.drewN | apply Kept.drew) | exact HK.out))⟩; have n2_ : Aside0 (Below w0.heap.size w0 w12) := ⟨by rw [← hq_]; exact dB⟩; clear HO_0 HK HB hq_; have HO_0 := n0_; have HK := n1_; have HB := n2_; clear n0_ n1_ n2_)); have p11 : 0 ≤ (x16_1 : Int) := of_decide_eq_true dS; have q11 : (x16_1 : Int) < ((x0_1.length : Int) : Int) := of_decide_eq_true dS; obtain ⟨go11, co11, eo11, gb11, gl11, cl11, HG11⟩ := Pc_form HO_0.out (by omega); (first | cases eo11 | (injection eo11 with ea_ en_ ec_; (first | subst ea_ | (injection ea_ with ea_; subst ea_)); subst ec_; clear en_)); have GB11 := aM gb11; have GG11 := aM HG11; clear gb11 gl11 HG11; have HMgo11 := aM (show (P0_ go11 ∨ w.heap.size ≤ go11) from (HO_0.out.1 _ rfl)); (first | simp only [add_at] at hx213_0 | skip); obtain ⟨hx11_0, hf11_0⟩ := Pc_celln 0 HO_0.out (x16_1 : Int) p11 q11; (try simp only [Int.toNat_natCast] at hx11_0 hf11_0); replace p11 := eq_true p11; replace q11 := eq_true q11; obtain ⟨hy14_, hz14_⟩ := Pc_celln 0 HO_0.out (x16_1 : Int) (of_decide_eq_true dS) (of_decide_eq_true dS); (try simp only [Int.toNat_natCast] at hy14_ hz14_); have HP14 := Pc_putg HO_0.out (x16_1 : Int) (of_decide_eq_true dS) (of_decide_eq_true dS) t214; (try simp only [Int.toNat_natCast] at HP14)) | ((with_reducible refine gate_store (t := 44) (p := 48) rfl ?_); refine store_event (t := 44) (p := 48) (v := ?vo_w15) (w1 := (w12.setCell ⟨go11, j_ + (x16_1 : Int).toNat, none⟩ (.int .u64 t214))) ?hg ?ho ?hn ?hr ?_; (case ho => rfl); (case hg => rfl); (case hn => rfl); (case hr => first | (go_simp; done) | (go_simp; rfl)); intro w15 hw; have hg : w12.grownBy w15 (some go11) := (by rw [hw]; exact HP14.2); have hp_ : Pc .u64 U_ Us_ j_ 44 w15 w0.heap.size (fun k_ => (P0_ k_ ∨ w.heap.size ≤ k_)) (.slice (some ⟨go11, j_, none⟩) x0_1.length co13) y216 := (by rw [hw, Ny216.out]; exact HP14.1); clear HP14; replace HB := aM ((by rw [hw]; exact below_set (HB.out) GB11.out : Below w0.heap.size w0 w15)); replace HK := aM (Kept.of_grown (S := (fun k_ => P0_ k_)) hg (by repeat (first | (with_reducible first | exact HK.out | apply Kept.alloc | apply Kept.drewN | apply Kept.drew) | exact HK.out)) (fun k_ e_ => (HO_0.out.1 k_ e_))); replace HO_0 := aM (hp_); clear hg hw hp_))
    go_roundg k1
    case measure => have := HK1.out; omega
    case rel => exact ⟨(y216), (IntKind.u64.wrap (t209 + t212)), (t215), (wrap64 (x16_1 + 1)), dF, dF, dF, H', ⟨by have := HK1.out; omega⟩, ⟨by (with_reducible repeat (first | apply Pc_alloc | apply Pc_drewN | apply Pc_drew)); exact HO_0.out⟩, ⟨by repeat (first | (with_reducible first | exact HK.out | apply Kept.alloc | apply Kept.drewN | apply Kept.drew) | exact HK.out)⟩, ⟨dB⟩⟩
   ·rw [if_neg c4] at H
    have c4b0 := decide_eq_false c4
    clear c4
    replace H := nO H
    obtain ⟨c16, H⟩ := H
    have c16b0 : decide (0 ≤ (l1.length : Int)) = true := decide_eq_true c16
    have c16b1 : decide (0 ≤ l1.length) = true := decide_eq_true (by omega)
    clear c16
    replace H := nO H
    obtain ⟨c17, H⟩ := H
    have c17b0 := decide_eq_true c17
    have c17b1 : decide (l1.length < x0_1.length) = true := decide_eq_true (Int.ofNat_lt.mp c17)
    clear c17
    replace H := oA H
    obtain ⟨⟨t218, t219⟩, A18, H⟩ := H
    (try dsimp only at H)
    obtain ⟨y220, hy220⟩ : ∃ y_ : List Int, y_ = (x0_1.set ((l1.length : Int) : Int).toNat t218) := ⟨_, rfl⟩
    replace H : (some ((t219 == 1), y220)) = some (r1, r2) := by first | (rw [hy220]; with_reducible exact H) | (have H2_ := (Option.bind_some _ _).symm.trans H; rw [hy220]; with_reducible exact H2_) | (have H2_ := (Option.bind_some _ _).symm.trans H; with_reducible exact H2_) | with_reducible exact H | (rw [hy220]; exact H) | exact H
    have Ny220 := aM hy220
    clear hy220
    simp only [Option.some.injEq, Prod.mk.injEq] at H
    obtain ⟨rfl, rfl⟩ := H
    obtain ⟨Ao20, co20, eo20⟩ := Pc_slice HO_0.out
    subst eo20
    have p217 : 0 ≤ ((l1.length : Int) : Int) := of_decide_eq_true dS
    have q217 : (l1.length : Int) < (x0_1.length : Int) := of_decide_eq_true dS
    obtain ⟨ad217, e217, hx217_0⟩ := Kd.at_int (Pc_reads' HO_0.out).2.2 (l1.length : Int) p217 q217
    cases e217
    (try simp only [Go.IntWalk.toNatUp] at hx217_0)
    replace p217 := eq_true p217
    replace q217 := eq_true q217
    go_wp2_with (first | ((with_reducible refine gate_callee (f := 58) rfl ?_); refine gL (some 61) Try.func58 #[.int .u64 (rd x0_1 (l1.length : Int)), .int .u64 x7_1, .int .u64 x8_1] ?_; (with_reducible refine (wide_Sub.calls (rd x0_1 (l1.length : Int)) x7_1 x8_1 t218 t219 _ A18.out).mono ?_); rintro e w' ⟨rfl, ⟨nd, rfl⟩⟩; refine ⟨_, rfl, ?_⟩; (try (rw [drewN_self wr]; generalize hq_ : World.drewN wr _ = wr; have n0_ : Aside0 (Pc .u64 U_ Us_ j_ 44 wr w0.heap.size (fun k_ => (P0_ k_ ∨ w.heap.size ≤ k_)) (.slice (some ad217) x0_1.length co20) x0_1) := ⟨by rw [← hq_]; exact (by (with_reducible repeat (first | apply Pc_alloc | apply Pc_drewN | apply Pc_drew)); exact HO_0.out)⟩; have n1_ : Aside0 (Kept w wr (fun k_ => P0_ k_)) := ⟨by rw [← hq_]; exact (by repeat (first | (with_reducible first | exact HK.out | apply Kept.alloc | apply Kept.drewN | apply Kept.drew) | exact HK.out))⟩; have n2_ : Aside0 (Below w0.heap.size w0 wr) := ⟨by rw [← hq_]; exact dB⟩; clear HO_0 HK HB hq_; have HO_0 := n0_; have HK := n1_; have HB := n2_; clear n0_ n1_ n2_)); have p19 : 0 ≤ ((l1.length : Int) : Int) := of_decide_eq_true dS; have q19 : ((l1.length : Int) : Int) < ((x0_1.length : Int) : Int) := of_decide_eq_true dS; obtain ⟨go19, co19, eo19, gb19, gl19, cl19, HG19⟩ := Pc_form HO_0.out (by omega); (first | cases eo19 | (injection eo19 with ea_ en_ ec_; (first | subst ea_ | (injection ea_ with ea_; subst ea_)); subst ec_; clear en_)); have GB19 := aM gb19; have GG19 := aM HG19; clear gb19 gl19 HG19; have HMgo19 := aM (show (P0_ go19 ∨ w.heap.size ≤ go19) from (HO_0.out.1 _ rfl)); (first | simp only [add_at] at hx217_0 | skip); obtain ⟨hx19_0, hf19_0⟩ := Pc_celln 0 HO_0.out ((l1.length : Int) : Int) p19 q19; (try simp only [Int.toNat_natCast] at hx19_0 hf19_0); replace p19 := eq_true p19; replace q19 := eq_true q19; obtain ⟨hy21_, hz21_⟩ := Pc_celln 0 HO_0.out ((l1.length : Int) : Int) (of_decide_eq_true dS) (of_decide_eq_true dS); (try simp only [Int.toNat_natCast] at hy21_ hz21_); (try simp only [Go.IntWalk.toNatUp] at hy21_ hz21_); have HP21 := Pc_putg HO_0.out ((l1.length : Int) : Int) (of_decide_eq_true dS) (of_decide_eq_true dS) t218; (try simp only [Int.toNat_natCast] at HP21)) | ((with_reducible refine gate_store (t := 44) (p := 64) rfl ?_); refine store_event (t := 44) (p := 64) (v := ?vo_w22) (w1 := (wr.setCell ⟨go19, j_ + l1.length, none⟩ (.int .u64 t218))) ?hg ?ho ?hn ?hr ?_; (case ho => rfl); (case hg => rfl); (case hn => rfl); (case hr => first | (go_simp; done) | (go_simp; rfl)); intro w22 hw; have hg : wr.grownBy w22 (some go19) := (by rw [hw]; exact HP21.2); have hp_ : Pc .u64 U_ Us_ j_ 44 w22 w0.heap.size (fun k_ => (P0_ k_ ∨ w.heap.size ≤ k_)) (.slice (some ⟨go19, j_, none⟩) x0_1.length co20) y220 := (by rw [hw, Ny220.out]; exact HP21.1); clear HP21; replace HB := aM ((by rw [hw]; exact below_set (HB.out) GB19.out : Below w0.heap.size w0 w22)); replace HK := aM (Kept.of_grown (S := (fun k_ => P0_ k_)) hg (by repeat (first | (with_reducible first | exact HK.out | apply Kept.alloc | apply Kept.drewN | apply Kept.drew) | exact HK.out)) (fun k_ e_ => (HO_0.out.1 k_ e_))); replace HO_0 := aM (hp_); clear hg hw hp_))
    go_ret
    exact ⟨dE, by (with_reducible repeat (first | apply Pc_alloc | apply Pc_drewN | apply Pc_drew)); exact HO_0.out, dB, by repeat (first | (with_reducible first | exact HK.out | apply Kept.alloc | apply Kept.drewN | apply Kept.drew) | exact HK.out)⟩
theorem piece_whole {q : IntKind} {U : Value} {Us xs : List Int} {j e base g n c : Nat} {w : World} {ok : Nat → Prop} (h : Pc q U Us j e w base ok (.slice (some ⟨g, j, none⟩) n c) xs) : xs.length = n := by
 obtain ⟨_, _, _, ⟨g', N, c', _, hv⟩, _⟩ := h
 injection hv with _ h2 _
 exact h2.symm
def quot_takeAt.f (k : Nat) (u : List Int) (j n : Int) (v : List Int) (b : Int) : Option (Bool × List Int) :=
 if 0 ≤ j ∧ 0 ≤ n ∧ j + n + 1 ≤ (u.length : Int) ∧ wrap64 (wrap64 (j + n) + 1) = j + n + 1 then (quot_take.f k ((u.drop j.toNat).take (n.toNat + 1)) v b).bind fun y => some (y.1, u.take j.toNat ++ y.2 ++ u.drop (j.toNat + (n.toNat + 1))) else none
theorem quot_takeAt.mono : ∀ a0 a1 a2 a3 a4 k, LeO (quot_takeAt.f k a0 a1 a2 a3 a4) (quot_takeAt.f (k + 1) a0 a1 a2 a3 a4) := by
 intro a0 a1 a2 a3 a4 k
 unfold quot_takeAt.f
 exact LeO.ite (LeO.bind (quot_take.mono _ _ _ _) (fun _ => LeO.refl _)) (LeO.none _)
theorem quot_takeAt.calls (k : Nat) (P0_ : Nat → Prop) (g N c : Nat) (Us : List Int) (j n : Int) (A1 : Option Addr) (c1 : Nat) (l1 : List Int) (a2 : Int) (r1 : Bool) (r2 : List Int) (w0 w : World) (hB : Below w0.heap.size w0 w) (ho0 : Kd.R (Kd.int .u64) 44 w w0.heap.size P0_ (.slice (some ⟨g, 0, none⟩) N c) Us) (hr1 : ∀ W_, Kept w W_ (fun k_ => P0_ k_) → Kd.C (Kd.int .u64) W_ A1 l1.length l1) (hc1 : l1.length ≤ c1) (h : quot_takeAt.f k Us j n l1 a2 = some (r1, r2)) :
  Calls Try.prog 65 #[.slice (some ⟨g, j.toNat, none⟩) (n.toNat + 1) (c - j.toNat), .slice A1 l1.length c1, .int .u64 a2] w fun e w' => e = .returned (.bool r1) ∧ Kd.R (Kd.int .u64) 44 w' w0.heap.size (fun k_ => (P0_ k_ ∨ w.heap.size ≤ k_)) (.slice (some ⟨g, 0, none⟩) N c) r2 ∧ Below w0.heap.size w0 w' ∧ Kept w w' (fun k_ => P0_ k_) ∧ r2.length = Us.length := by
 unfold quot_takeAt.f at h
 split at h
 case isFalse => cases h
 rename_i hh
 replace hh := And.intro hh.1 (And.intro hh.2.1 hh.2.2.1)
 replace h := Option.bind_eq_some_iff.mp h
 obtain ⟨⟨y1, y2⟩, h1, h⟩ := h
 simp only [Option.some.injEq, Prod.mk.injEq] at h
 obtain ⟨rfl, rfl⟩ := h
 have hj : j.toNat + (n.toNat + 1) ≤ Us.length := by omega
 have hp := Pc_of (j := j.toNat) (n := n.toNat + 1) ho0 (by omega) hj
 refine (quot_take.callsP _ Us j.toNat k P0_ _ _ A1 c1 l1 a2 _ _ w0 w hB hp hr1 hc1 h1).mono ?_
 rintro e w' ⟨rfl, hP, hb, hk⟩
 have hl := piece_whole hP
 have hR := Pc_back hP
 rw [hl] at hR
 refine ⟨rfl, hR, hb, hk, ?_⟩
 rw [List.length_append, List.length_append, List.length_take, List.length_drop, hl]
 omega
def quot_give.l0 : Nat → List Int → List Int → Int → List Int → Int → Int → Option (List Int)
 | 0, _, _, _, _, _, _ => none
 | k + 1, x0, x1, x4, x7, x8, x9 => if x9 < x8 then (if 0 ≤ x9 then (if x9 < (x7.length : Int) then (if x9 < (x0.length : Int) then ((wide_Add.f (rd x0 x9) (rd x7 x9) x4).bind fun bt151 => (quot_give.l0 k (x0.set (x9 : Int).toNat bt151.1) x1 bt151.2 x7 x8 (wrap64 (x9 + 1)))) else (none)) else (none)) else (none)) else (if 0 ≤ (x1.length : Int) then (if (x1.length : Int) < (x0.length : Int) then (some (x0.set ((x1.length : Int) : Int).toNat (IntKind.u64.wrap ((rd x0 (x1.length : Int)) + x4)))) else (none)) else (none))
def quot_give.f (k : Nat) (l0 : List Int) (l1 : List Int) : Option (List Int) := quot_give.l0 k l0 l1 0 l1 (l1.length : Int) 0
theorem quot_give.mono_l : ∀ k, (∀ y0 y1 y2 y3 y4 y5, LeO (quot_give.l0 k y0 y1 y2 y3 y4 y5) (quot_give.l0 (k + 1) y0 y1 y2 y3 y4 y5))
 | 0 => fun _ _ _ _ _ _ r h => by simp [quot_give.l0] at h
 | k + 1 => by
  have ih0 := quot_give.mono_l k
  ·intro y0 y1 y2 y3 y4 y5
   unfold quot_give.l0
   exact mX
theorem quot_give.mono : ∀ a0 a1 k, LeO (quot_give.f k a0 a1) (quot_give.f (k + 1) a0 a1) := by
 intro a0 a1 k
 have ih0 := quot_give.mono_l k
 unfold quot_give.f
 exact mX
set_option maxHeartbeats 8000000 in
set_option maxRecDepth 100000 in
theorem quot_give.callsP (U_ : Value) (Us_ : List Int) (j_ : Nat) (k : Nat) (P0_ : Nat → Prop) (u9000_ : Value) (l0 : List Int) (A1 : Option Addr) (c1 : Nat) (l1 : List Int) (r : List Int) (w0 w : World) (hB : Below w0.heap.size w0 w) (ho0 : Pc .u64 U_ Us_ j_ 44 w w0.heap.size P0_ u9000_ l0) (hr1 : ∀ W_, Kept w W_ (fun k_ => P0_ k_) → Kd.C (Kd.int .u64) W_ A1 l1.length l1) (hc1 : l1.length ≤ c1) (h : quot_give.f k l0 l1 = some r) :
  Calls Try.prog 66 #[u9000_, .slice A1 l1.length c1] w fun e w' => e = .returned (.tuple #[]) ∧ Pc .u64 U_ Us_ j_ 44 w' w0.heap.size (fun k_ => (P0_ k_ ∨ w.heap.size ≤ k_)) u9000_ r ∧ Below w0.heap.size w0 w' ∧ Kept w w' (fun k_ => P0_ k_) := by
 have HO0 := aM (show Pc .u64 U_ Us_ j_ 44 w w0.heap.size (fun k_ => (P0_ k_ ∨ w.heap.size ≤ k_)) u9000_ l0 from Pc_mono ho0 (fun k_ hk => (.inl hk)))
 have HR1 := aM hr1
 have HC1 := aM hc1
 clear hr1 hc1
 have HK := aM (Kept.refl w (fun k_ => P0_ k_))
 have HW0 := aM hB.size
 have HB := aM hB
 clear hB
 have H := h
 clear h
 unfold quot_give.f at H
 have H' := aM H
 clear H
 go_enter Try.func66, Try.ntmps66
 go_wp2
 go_loopg [4, 9] k (fun kq v4 v9 w' => ∃ (x0_1 : List Int) (x4_1 : Int) (x9_1 : Int), v4 = .int .u64 x4_1 ∧ v9 = .int .i64 x9_1 ∧ Aside0 (quot_give.l0 kq x0_1 l1 x4_1 l1 (l1.length : Int) x9_1 = some r) ∧ Aside0 (kq ≤ k) ∧ Aside0 (Pc .u64 U_ Us_ j_ 44 w' w0.heap.size (fun k_ => (P0_ k_ ∨ w.heap.size ≤ k_)) u9000_ x0_1) ∧ Aside0 (Kept w w' (fun k_ => P0_ k_)) ∧ Aside0 (Below w0.heap.size w0 w'))
 case atStart => exact ⟨(l0), (0), (0), dF, dF, H', ⟨Nat.le_refl _⟩, ⟨by (with_reducible repeat (first | apply Pc_alloc | apply Pc_drewN | apply Pc_drew)); exact HO0.out⟩, ⟨by repeat (first | (with_reducible first | exact HK.out | apply Kept.alloc | apply Kept.drewN | apply Kept.drew) | exact HK.out)⟩, ⟨dB⟩⟩
 case round =>
  clear H'
  try clear c1
  obtain ⟨x0_1, x4_1, x9_1, rfl, rfl, HA, HK1, HO_0, HK, HB⟩ := hrel
  cases gk with
  | zero => exact absurd HA.out (by simp [quot_give.l0])
  | succ k1 =>
   have H := HA.out
   clear HA
   simp only [quot_give.l0] at H
   by_cases c3 : x9_1 < (l1.length : Int)
   ·rw [if_pos c3] at H
    have c3b0 := decide_eq_true c3
    clear c3
    replace H := nO H
    obtain ⟨c4, H⟩ := H
    have c4b0 : decide (0 ≤ x9_1) = true := decide_eq_true c4
    clear c4
    replace H := nO H
    obtain ⟨c5, H⟩ := H
    have c5b0 := decide_eq_true c5
    clear c5
    replace H := nO H
    obtain ⟨c6, H⟩ := H
    have c6b0 := decide_eq_true c6
    clear c6
    replace H := oA H
    obtain ⟨⟨t223, t224⟩, A7, H⟩ := H
    (try dsimp only at H)
    obtain ⟨y225, hy225⟩ : ∃ y_ : List Int, y_ = (x0_1.set (x9_1 : Int).toNat t223) := ⟨_, rfl⟩
    replace H : (quot_give.l0 k1 y225 l1 t224 l1 (l1.length : Int) (wrap64 (x9_1 + 1))) = some r := by first | (rw [hy225]; with_reducible exact H) | (have H2_ := (Option.bind_some _ _).symm.trans H; rw [hy225]; with_reducible exact H2_) | (have H2_ := (Option.bind_some _ _).symm.trans H; with_reducible exact H2_) | with_reducible exact H | (rw [hy225]; exact H) | exact H
    have Ny225 := aM hy225
    clear hy225
    have H' := aM H
    clear H
    have p221 : 0 ≤ (x9_1 : Int) := of_decide_eq_true dS
    have q221 : x9_1 < (l1.length : Int) := of_decide_eq_true dS
    obtain ⟨ad221, e221, hx221_0⟩ := Kd.at_int (Kd.C_kept_now HR1.out HK.out) x9_1 p221 q221
    cases e221
    replace p221 := eq_true p221
    replace q221 := eq_true q221
    obtain ⟨Ao9, co9, eo9⟩ := Pc_slice HO_0.out
    subst eo9
    have p222 : 0 ≤ (x9_1 : Int) := of_decide_eq_true dS
    have q222 : x9_1 < (x0_1.length : Int) := of_decide_eq_true dS
    obtain ⟨ad222, e222, hx222_0⟩ := Kd.at_int (Pc_reads' HO_0.out).2.2 x9_1 p222 q222
    cases e222
    replace p222 := eq_true p222
    replace q222 := eq_true q222
    go_wp2_with (first | ((with_reducible refine gate_callee (f := 61) rfl ?_); refine gL (some 23) Try.func61 #[.int .u64 (rd x0_1 x9_1), .int .u64 (rd l1 x9_1), .int .u64 x4_1] ?_; (with_reducible refine (wide_Add.calls (rd x0_1 x9_1) (rd l1 x9_1) x4_1 t223 t224 _ A7.out).mono ?_); rintro e w' ⟨rfl, ⟨nd, rfl⟩⟩; refine ⟨_, rfl, ?_⟩; (try (rw [drewN_self wr]; generalize hq_ : World.drewN wr _ = wr; have n0_ : Aside0 (Pc .u64 U_ Us_ j_ 44 wr w0.heap.size (fun k_ => (P0_ k_ ∨ w.heap.size ≤ k_)) (.slice (some ad222) x0_1.length co9) x0_1) := ⟨by rw [← hq_]; exact (by (with_reducible repeat (first | apply Pc_alloc | apply Pc_drewN | apply Pc_drew)); exact HO_0.out)⟩; have n1_ : Aside0 (Kept w wr (fun k_ => P0_ k_)) := ⟨by rw [← hq_]; exact (by repeat (first | (with_reducible first | exact HK.out | apply Kept.alloc | apply Kept.drewN | apply Kept.drew) | exact HK.out))⟩; have n2_ : Aside0 (Below w0.heap.size w0 wr) := ⟨by rw [← hq_]; exact dB⟩; clear HO_0 HK HB hq_; have HO_0 := n0_; have HK := n1_; have HB := n2_; clear n0_ n1_ n2_)); have p8 : 0 ≤ (x9_1 : Int) := of_decide_eq_true dS; have q8 : (x9_1 : Int) < ((x0_1.length : Int) : Int) := of_decide_eq_true dS; obtain ⟨go8, co8, eo8, gb8, gl8, cl8, HG8⟩ := Pc_form HO_0.out (by omega); (first | cases eo8 | (injection eo8 with ea_ en_ ec_; (first | subst ea_ | (injection ea_ with ea_; subst ea_)); subst ec_; clear en_)); have GB8 := aM gb8; have GG8 := aM HG8; clear gb8 gl8 HG8; have HMgo8 := aM (show (P0_ go8 ∨ w.heap.size ≤ go8) from (HO_0.out.1 _ rfl)); (first | simp only [add_at] at hx222_0 | skip); obtain ⟨hx8_0, hf8_0⟩ := Pc_celln 0 HO_0.out (x9_1 : Int) p8 q8; (try simp only [Int.toNat_natCast] at hx8_0 hf8_0); replace p8 := eq_true p8; replace q8 := eq_true q8; obtain ⟨hy10_, hz10_⟩ := Pc_celln 0 HO_0.out (x9_1 : Int) (of_decide_eq_true dS) (of_decide_eq_true dS); (try simp only [Int.toNat_natCast] at hy10_ hz10_); have HP10 := Pc_putg HO_0.out (x9_1 : Int) (of_decide_eq_true dS) (of_decide_eq_true dS) t223; (try simp only [Int.toNat_natCast] at HP10)) | ((with_reducible refine gate_store (t := 44) (p := 26) rfl ?_); refine store_event (t := 44) (p := 26) (v := ?vo_w11) (w1 := (wr.setCell ⟨go8, j_ + (x9_1 : Int).toNat, none⟩ (.int .u64 t223))) ?hg ?ho ?hn ?hr ?_; (case ho => rfl); (case hg => rfl); (case hn => rfl); (case hr => first | (go_simp; done) | (go_simp; rfl)); intro w11 hw; have hg : wr.grownBy w11 (some go8) := (by rw [hw]; exact HP10.2); have hp_ : Pc .u64 U_ Us_ j_ 44 w11 w0.heap.size (fun k_ => (P0_ k_ ∨ w.heap.size ≤ k_)) (.slice (some ⟨go8, j_, none⟩) x0_1.length co9) y225 := (by rw [hw, Ny225.out]; exact HP10.1); clear HP10; replace HB := aM ((by rw [hw]; exact below_set (HB.out) GB8.out : Below w0.heap.size w0 w11)); replace HK := aM (Kept.of_grown (S := (fun k_ => P0_ k_)) hg (by repeat (first | (with_reducible first | exact HK.out | apply Kept.alloc | apply Kept.drewN | apply Kept.drew) | exact HK.out)) (fun k_ e_ => (HO_0.out.1 k_ e_))); replace HO_0 := aM (hp_); clear hg hw hp_))
    go_roundg k1
    case measure => have := HK1.out; omega
    case rel => exact ⟨(y225), (t224), (wrap64 (x9_1 + 1)), dF, dF, H', ⟨by have := HK1.out; omega⟩, ⟨by (with_reducible repeat (first | apply Pc_alloc | apply Pc_drewN | apply Pc_drew)); exact HO_0.out⟩, ⟨by repeat (first | (with_reducible first | exact HK.out | apply Kept.alloc | apply Kept.drewN | apply Kept.drew) | exact HK.out)⟩, ⟨dB⟩⟩
   ·rw [if_neg c3] at H
    have c3b0 := decide_eq_false c3
    clear c3
    replace H := nO H
    obtain ⟨c12, H⟩ := H
    have c12b0 : decide (0 ≤ (l1.length : Int)) = true := decide_eq_true c12
    have c12b1 : decide (0 ≤ l1.length) = true := decide_eq_true (by omega)
    clear c12
    replace H := nO H
    obtain ⟨c13, H⟩ := H
    have c13b0 := decide_eq_true c13
    have c13b1 : decide (l1.length < x0_1.length) = true := decide_eq_true (Int.ofNat_lt.mp c13)
    clear c13
    obtain ⟨y227, hy227⟩ : ∃ y_ : List Int, y_ = (x0_1.set ((l1.length : Int) : Int).toNat (IntKind.u64.wrap ((rd x0_1 (l1.length : Int)) + x4_1))) := ⟨_, rfl⟩
    replace H : (some y227) = some r := by first | (rw [hy227]; with_reducible exact H) | (have H2_ := (Option.bind_some _ _).symm.trans H; rw [hy227]; with_reducible exact H2_) | (have H2_ := (Option.bind_some _ _).symm.trans H; with_reducible exact H2_) | with_reducible exact H | (rw [hy227]; exact H) | exact H
    have Ny227 := aM hy227
    clear hy227
    obtain rfl := Option.some.inj H
    obtain ⟨Ao15, co15, eo15⟩ := Pc_slice HO_0.out
    subst eo15
    have p226 : 0 ≤ ((l1.length : Int) : Int) := of_decide_eq_true dS
    have q226 : (l1.length : Int) < (x0_1.length : Int) := of_decide_eq_true dS
    obtain ⟨ad226, e226, hx226_0⟩ := Kd.at_int (Pc_reads' HO_0.out).2.2 (l1.length : Int) p226 q226
    cases e226
    (try simp only [Go.IntWalk.toNatUp] at hx226_0)
    replace p226 := eq_true p226
    replace q226 := eq_true q226
    have p14 : 0 ≤ ((l1.length : Int) : Int) := of_decide_eq_true dS
    have q14 : ((l1.length : Int) : Int) < ((x0_1.length : Int) : Int) := of_decide_eq_true dS
    obtain ⟨go14, co14, eo14, gb14, gl14, cl14, HG14⟩ := Pc_form HO_0.out (by omega)
    (first | cases eo14 | (injection eo14 with ea_ en_ ec_; (first | subst ea_ | (injection ea_ with ea_; subst ea_)); subst ec_; clear en_))
    have GB14 := aM gb14
    have GG14 := aM HG14
    clear gb14 gl14 HG14
    have HMgo14 := aM (show (P0_ go14 ∨ w.heap.size ≤ go14) from (HO_0.out.1 _ rfl))
    (first | simp only [add_at] at hx226_0 | skip)
    obtain ⟨hx14_0, hf14_0⟩ := Pc_celln 0 HO_0.out ((l1.length : Int) : Int) p14 q14; (try simp only [Int.toNat_natCast] at hx14_0 hf14_0); (try simp only [Int.toNat_natCast] at hx14_0 hf14_0)
    replace p14 := eq_true p14
    replace q14 := eq_true q14
    have HP16 := Pc_putg HO_0.out ((l1.length : Int) : Int) (of_decide_eq_true dS) (of_decide_eq_true dS) (IntKind.u64.wrap ((rd x0_1 (l1.length : Int)) + x4_1)); (try simp only [Int.toNat_natCast] at HP16); (try simp only [Int.toNat_natCast] at HP16)
    go_wp2_with (first | ((with_reducible refine gate_store (t := 44) (p := 35) rfl ?_); refine store_event (t := 44) (p := 35) (v := ?vo_w17) (w1 := (wr.setCell ⟨go14, j_ + l1.length, none⟩ (.int .u64 (IntKind.u64.wrap ((rd x0_1 (l1.length : Int)) + x4_1))))) ?hg ?ho ?hn ?hr ?_; (case ho => rfl); (case hg => rfl); (case hn => rfl); (case hr => first | (go_simp; done) | (go_simp; rfl)); intro w17 hw; have hg : wr.grownBy w17 (some go14) := (by rw [hw]; exact HP16.2); have hp_ : Pc .u64 U_ Us_ j_ 44 w17 w0.heap.size (fun k_ => (P0_ k_ ∨ w.heap.size ≤ k_)) (.slice (some ⟨go14, j_, none⟩) x0_1.length co15) y227 := (by rw [hw, Ny227.out]; exact HP16.1); clear HP16; replace HB := aM ((by rw [hw]; exact below_set (HB.out) GB14.out : Below w0.heap.size w0 w17)); replace HK := aM (Kept.of_grown (S := (fun k_ => P0_ k_)) hg (by repeat (first | (with_reducible first | exact HK.out | apply Kept.alloc | apply Kept.drewN | apply Kept.drew) | exact HK.out)) (fun k_ e_ => (HO_0.out.1 k_ e_))); replace HO_0 := aM (hp_); clear hg hw hp_))
    first | go_end0 | ((try simp only [Exit.inBlock, Exit.then]); refine bodyPost_ret (results_none rfl _ _ _) rfl ?_)
    exact ⟨dE, by (with_reducible repeat (first | apply Pc_alloc | apply Pc_drewN | apply Pc_drew)); exact HO_0.out, dB, by repeat (first | (with_reducible first | exact HK.out | apply Kept.alloc | apply Kept.drewN | apply Kept.drew) | exact HK.out)⟩
def quot_giveAt.f (k : Nat) (u : List Int) (j n : Int) (v : List Int) : Option (List Int) :=
 if 0 ≤ j ∧ 0 ≤ n ∧ j + n + 1 ≤ (u.length : Int) then (quot_give.f k ((u.drop j.toNat).take (n.toNat + 1)) v).bind fun y => some (u.take j.toNat ++ y ++ u.drop (j.toNat + (n.toNat + 1))) else none
theorem quot_giveAt.mono : ∀ a0 a1 a2 a3 k, LeO (quot_giveAt.f k a0 a1 a2 a3) (quot_giveAt.f (k + 1) a0 a1 a2 a3) := by
 intro a0 a1 a2 a3 k
 unfold quot_giveAt.f
 exact LeO.ite (LeO.bind (quot_give.mono _ _ _) (fun _ => LeO.refl _)) (LeO.none _)
theorem quot_giveAt.calls (k : Nat) (P0_ : Nat → Prop) (g N c : Nat) (Us : List Int) (j n : Int) (A1 : Option Addr) (c1 : Nat) (l1 : List Int) (r : List Int) (w0 w : World) (hB : Below w0.heap.size w0 w) (ho0 : Kd.R (Kd.int .u64) 44 w w0.heap.size P0_ (.slice (some ⟨g, 0, none⟩) N c) Us) (hr1 : ∀ W_, Kept w W_ (fun k_ => P0_ k_) → Kd.C (Kd.int .u64) W_ A1 l1.length l1) (hc1 : l1.length ≤ c1) (h : quot_giveAt.f k Us j n l1 = some r) :
  Calls Try.prog 66 #[.slice (some ⟨g, j.toNat, none⟩) (n.toNat + 1) (c - j.toNat), .slice A1 l1.length c1] w fun e w' => e = .returned (.tuple #[]) ∧ Kd.R (Kd.int .u64) 44 w' w0.heap.size (fun k_ => (P0_ k_ ∨ w.heap.size ≤ k_)) (.slice (some ⟨g, 0, none⟩) N c) r ∧ Below w0.heap.size w0 w' ∧ Kept w w' (fun k_ => P0_ k_) ∧ r.length = Us.length := by
 unfold quot_giveAt.f at h
 split at h
 case isFalse => cases h
 rename_i hh
 replace h := Option.bind_eq_some_iff.mp h
 obtain ⟨y, h1, h⟩ := h
 simp only [Option.some.injEq] at h
 subst h
 have hj : j.toNat + (n.toNat + 1) ≤ Us.length := by omega
 have hp := Pc_of (j := j.toNat) (n := n.toNat + 1) ho0 (by omega) hj
 refine (quot_give.callsP _ Us j.toNat k P0_ _ _ A1 c1 l1 _ w0 w hB hp hr1 hc1 h1).mono ?_
 rintro e w' ⟨rfl, hP, hb, hk⟩
 have hl := piece_whole hP
 have hR := Pc_back hP
 rw [hl] at hR
 refine ⟨rfl, hR, hb, hk, ?_⟩
 rw [List.length_append, List.length_append, List.length_take, List.length_drop, hl]
 omega
end Go.Proofs.Ytiogfeeaepkkmaa.PA
