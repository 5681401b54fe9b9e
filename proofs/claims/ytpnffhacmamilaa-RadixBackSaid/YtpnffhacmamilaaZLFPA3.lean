/- PA3: a part of the proof. -/
-- made by program (wip/tools of this work) out of the translation; Lean checks it
import Derived.Test.YtpnffhacmamilaaZLFPA0
import Derived.Test.YtpnffhacmamilaaZLFPA1
import Derived.Test.YtpnffhacmamilaaZLFPA2
import Derived.Test.YtpnffhacmamilaaZLFPA7
namespace Go.Proofs.Ytpnffhacmamilaa.PA
open Go.RowKit Go.Proofs.YtpnffhacmamilaaW.PrintWords Go.Proofs.YtpnffhacmamilaaW.PrintLast Go.Proofs.YtpnffhacmamilaaW.PrintMore
attribute [local go_sem] max2_int min2_int max_two min_two max_three min_three max_four min_four   -- for this text's walks alone
set_option linter.unusedVariables false
set_option linter.unusedSimpArgs false

/-! ### wide_Div: function 48 (by hand) -/
def wide_Div.f (a0 : Int) (a1 : Int) (a2 : Int) : Option (Int × Int × Int) := if u64B a0 = true ∧ u64B a1 = true ∧ u64B a2 = true then (if a2 = 0 then some (0, 0, 10) else if a2 ≤ a0 then some (0, 0, 11) else some ((a0 * 18446744073709551616 + a1) / a2, (a0 * 18446744073709551616 + a1) % a2, 0)) else none
/-- the state of the loop that mends a guessed digit -/
structure Mend (B r l d f : Int) : Prop where
  sum : d * (B / 4294967296) + f = r
  f0 : 0 ≤ f
  f1 : f < 4294967296
  le : (r * 4294967296 + l) / B ≤ d
structure DivIn (B r l : Int) : Prop where
  B0 : 9223372036854775808 ≤ B
  B1 : B < 18446744073709551616
  r0 : 0 ≤ r
  r1 : r < B
  l0 : 0 ≤ l
  l1 : l < 4294967296
theorem DivIn.q {B r l : Int} (h : DivIn B r l) : 0 ≤ (r * 4294967296 + l) / B ∧ (r * 4294967296 + l) / B < 4294967296 := by
  obtain ⟨h1, h2, h3, h4, h5, h6⟩ := h
  refine ⟨Int.ediv_nonneg (by omega) (by omega), ?_⟩
  exact Int.ediv_lt_of_lt_mul (by omega) (by omega)
theorem or_zero {y : Int} (h0 : 0 ≤ y) (h1 : y < 18446744073709551616) : Go.bits .or .u64 0 y = y := by rw [or_join 64 (by omega) (by omega) rfl h0 h1 h1]; omega
theorem Mend.start {B r l : Int} (h : DivIn B r l) : Mend B r l (r / (B / 4294967296)) (r % (B / 4294967296)) := by
  obtain ⟨h1, h2, h3, h4, h5, h6⟩ := h
  have hb : 0 < B / 4294967296 := by omega
  have e := Int.mul_ediv_add_emod r (B / 4294967296)
  have m0 := Int.emod_nonneg r (show B / 4294967296 ≠ 0 by omega)
  have m1 := Int.emod_lt_of_pos r hb
  refine ⟨by rw [Int.mul_comm]; exact e, m0, by omega, ?_⟩
  have hq : 0 ≤ r / (B / 4294967296) := Int.ediv_nonneg h3 (by omega)
  -- by the smaller divisor
  have hlt : r * 4294967296 + l < (r / (B / 4294967296) + 1) * B := by
    generalize r / (B / 4294967296) = q at *
    generalize hB : B / 4294967296 = b at *
    have h7 : b * 4294967296 ≤ B := by omega
    have h8 : (q + 1) * (b * 4294967296) ≤ (q + 1) * B := Int.mul_le_mul_of_nonneg_left h7 (by omega)
    have h9 : (q + 1) * (b * 4294967296) = (b * q + b) * 4294967296 := by grind
    omega
  have := Int.ediv_lt_of_lt_mul (by omega) hlt
  omega
theorem Mend.big {B r l d f : Int} (h : DivIn B r l) (m : Mend B r l d f) : 0 ≤ d ∧ d ≤ 4294967297 := by
  obtain ⟨h1, h2, h3, h4, h5, h6⟩ := h
  have h0 := Int.ediv_nonneg (show 0 ≤ r * 4294967296 + l by omega) (show 0 ≤ B by omega)
  refine ⟨Int.le_trans h0 m.le, ?_⟩
  apply Classical.byContradiction
  intro hc
  have h7 : 4294967298 * (B / 4294967296) ≤ d * (B / 4294967296) := Int.mul_le_mul_of_nonneg_right (by omega) (by omega)
  have := m.sum
  have := m.f0
  omega
/-- what the test says, without wraps -/
theorem Mend.test {B r l d f : Int} (h : DivIn B r l) (m : Mend B r l d f) (hd : d ≤ 4294967295) :
    Go.bits .or .u64 (IntKind.u64.wrap (f * 4294967296)) l = f * 4294967296 + l ∧ IntKind.u64.wrap (d * Go.bits .and .u64 B 4294967295) = d * (B % 4294967296) ∧
    (f * 4294967296 + l < d * (B % 4294967296) ↔ (r * 4294967296 + l) / B < d) := by
  have hb := m.big h
  obtain ⟨h1, h2, h3, h4, h5, h6⟩ := h
  have f0 := m.f0
  have f1 := m.f1
  have e := m.sum
  rw [join_half f0 f1 h5 h6, and_half (by omega) h2]
  have p := mul_half (x := d) (y := B % 4294967296) (by omega) (by omega) (by omega) (by omega)
  refine ⟨rfl, u64w_of (by omega) (by omega), ?_⟩
  have eB : d * B = d * (B / 4294967296) * 4294967296 + d * (B % 4294967296) := by
    have : B = B / 4294967296 * 4294967296 + B % 4294967296 := by omega
    generalize B / 4294967296 = u at *
    generalize B % 4294967296 = v at *
    rw [this]; grind
  rw [Int.ediv_lt_iff_lt_mul (by omega), eB]
  omega
theorem Mend.lower {B r l d f : Int} (h : DivIn B r l) (m : Mend B r l d f) (ht : 4294967295 < d ∨ (r * 4294967296 + l) / B < d) :
    1 ≤ d ∧ (d - 1) * (B / 4294967296) + (f + B / 4294967296) = r ∧ (r * 4294967296 + l) / B ≤ d - 1 := by
  have hq := h.q
  have := m.le
  refine ⟨by omega, ?_, by omega⟩
  have := m.sum
  rw [Int.sub_mul]; omega
theorem Mend.next {B r l d f : Int} (h : DivIn B r l) (m : Mend B r l d f) (ht : 4294967295 < d ∨ (r * 4294967296 + l) / B < d) (hf : f + B / 4294967296 < 4294967296) : Mend B r l (d - 1) (f + B / 4294967296) := by
  have h1 := m.lower h ht
  have := m.f0
  have := h.B0
  exact ⟨h1.2.1, by omega, hf, h1.2.2⟩
theorem Mend.stop {B r l d f : Int} (h : DivIn B r l) (m : Mend B r l d f) (ht : 4294967295 < d ∨ (r * 4294967296 + l) / B < d) (hf : 4294967296 ≤ f + B / 4294967296) : d - 1 = (r * 4294967296 + l) / B := by
  have h1 := m.lower h ht
  have hb := m.big h
  obtain ⟨g1, g2, g3, g4, g5, g6⟩ := h
  have : d - 1 ≤ (r * 4294967296 + l) / B := by
    refine Int.le_ediv_of_mul_le (by omega) ?_
    have eB : (d - 1) * B = (d - 1) * (B / 4294967296) * 4294967296 + (d - 1) * (B % 4294967296) := by
      have : B = B / 4294967296 * 4294967296 + B % 4294967296 := by omega
      generalize B / 4294967296 = u at *
      generalize B % 4294967296 = v at *
      rw [this]; grind
    have h5 : (d - 1) * (B % 4294967296) ≤ 4294967296 * (B % 4294967296) := Int.mul_le_mul_of_nonneg_right (by omega) (by omega)
    rw [eB]
    have := h1.2.1
    omega
  omega
/-- the rest of a step -/
theorem div_rest {B r l : Int} (h : DivIn B r l) : IntKind.u64.wrap (IntKind.u64.wrap (IntKind.u64.wrap (r * 4294967296) + l) - IntKind.u64.wrap ((r * 4294967296 + l) / B * B)) = (r * 4294967296 + l) % B := by
  have e := Int.mul_ediv_add_emod (r * 4294967296 + l) B
  have m0 := Int.emod_nonneg (r * 4294967296 + l) (show B ≠ 0 by have := h.B0; omega)
  have m1 := Int.emod_lt_of_pos (r * 4294967296 + l) (show 0 < B by have := h.B0; omega)
  have := h.B1
  rw [Int.mul_comm] at e
  generalize (r * 4294967296 + l) / B * B = p at *
  simp only [u64w]
  omega
theorem DivIn.next {B r l l' : Int} (h : DivIn B r l) (h0 : 0 ≤ l') (h1 : l' < 4294967296) : DivIn B ((r * 4294967296 + l) % B) l' :=
  ⟨h.B0, h.B1, Int.emod_nonneg _ (by have := h.B0; omega), Int.emod_lt_of_pos _ (by have := h.B0; omega), h0, h1⟩
/-- two digits and the rest are quotient and rest of the whole -/
theorem div_two {B r l l' : Int} (h : DivIn B r l) (h0 : 0 ≤ l') (h1 : l' < 4294967296) :
    (r * 4294967296 + l) / B * 4294967296 + ((r * 4294967296 + l) % B * 4294967296 + l') / B = ((r * 4294967296 + l) * 4294967296 + l') / B ∧
    ((r * 4294967296 + l) % B * 4294967296 + l') % B = ((r * 4294967296 + l) * 4294967296 + l') % B := by
  have hB : 0 < B := by have := h.B0; omega
  have e := Int.mul_ediv_add_emod (r * 4294967296 + l) B
  generalize r * 4294967296 + l = n at *
  generalize hq : n / B = q at *
  generalize hr : n % B = s at *
  have e2 : n * 4294967296 + l' = (s * 4294967296 + l') + B * (q * 4294967296) := by rw [← e]; grind
  rw [e2, Int.add_mul_ediv_left _ _ (by omega), Int.add_mul_emod_self_left]
  exact ⟨by omega, rfl⟩
theorem div_scaled {n b : Int} (s : Nat) (hb : 0 < b) : n * 2 ^ s / (b * 2 ^ s) = n / b ∧ n * 2 ^ s % (b * 2 ^ s) / 2 ^ s = n % b := by
  have hs := two_pow_pos s
  refine ⟨Int.mul_ediv_mul_of_pos_left n b hs, ?_⟩
  rw [Int.mul_comm n, Int.mul_comm b, Int.mul_emod_mul_of_pos _ _ hs, Int.mul_ediv_cancel_left _ (by omega)]
theorem div_begin {a0 a1 a2 L : Int} (h0 : 0 ≤ a0) (h1a : 0 ≤ a1) (h1b : a1 < 18446744073709551616) (h2 : a2 < 18446744073709551616) (h02 : a0 < a2) (hL : L = bitsN a2) :
    0 ≤ L ∧ 1 ≤ L ∧ L ≤ 64 ∧ IntKind.u64.wrap (a2 * 2 ^ (64 - L).toNat) = a2 * 2 ^ (64 - L).toNat ∧
    DivIn (a2 * 2 ^ (64 - L).toNat) (Go.bits .or .u64 (IntKind.u64.wrap (a0 * 2 ^ (64 - L).toNat)) (a1 / 2 ^ (64 - (64 - L)).toNat)) (IntKind.u64.wrap (a1 * 2 ^ (64 - L).toNat) / 4294967296) ∧
    0 ≤ Go.bits .and .u64 (IntKind.u64.wrap (a1 * 2 ^ (64 - L).toNat)) 4294967295 ∧ Go.bits .and .u64 (IntKind.u64.wrap (a1 * 2 ^ (64 - L).toNat)) 4294967295 < 4294967296 ∧
    (Go.bits .or .u64 (IntKind.u64.wrap (a0 * 2 ^ (64 - L).toNat)) (a1 / 2 ^ (64 - (64 - L)).toNat) * 4294967296 + IntKind.u64.wrap (a1 * 2 ^ (64 - L).toNat) / 4294967296) * 4294967296 + Go.bits .and .u64 (IntKind.u64.wrap (a1 * 2 ^ (64 - L).toNat)) 4294967295 = (a0 * 18446744073709551616 + a1) * 2 ^ (64 - L).toNat := by
  have hp : 0 < a2 := by omega
  have hL1 : 1 ≤ L := by rw [hL, bitsN_pos hp]; omega
  have hL2 : L ≤ 64 := by rw [hL]; exact bitsN_le_of_lt (n := 64) (by omega) h2
  have hlt := bitsN_lt hp
  have hge := bitsN_ge hp
  rw [← hL] at hlt hge
  obtain ⟨l, rfl⟩ : ∃ l : Nat, L = l + 1 := ⟨(L - 1).toNat, by omega⟩
  have e1 : ((l : Int) + 1).toNat = l + 1 := by omega
  rw [e1] at hlt hge
  simp only [Nat.add_sub_cancel] at hge
  have e2 : (64 - ((l : Int) + 1)).toNat = 63 - l := by omega
  have e3 : (64 - (64 - ((l : Int) + 1))).toNat = l + 1 := by omega
  rw [e2, e3]
  have hs := two_pow_pos (63 - l)
  have hs2 := two_pow_pos (l + 1)
  have p64 : (2 : Int) ^ (l + 1) * 2 ^ (63 - l) = 18446744073709551616 := by rw [← Int.pow_add, show l + 1 + (63 - l) = 64 from by omega]; rfl
  have p63 : (2 : Int) ^ l * 2 ^ (63 - l) = 9223372036854775808 := by rw [← Int.pow_add, show l + (63 - l) = 63 from by omega]; rfl
  have hSle : (2 : Int) ^ (63 - l) ≤ 2 ^ 63 := pow_mono (by omega)
  have hS63 : (2 : Int) ^ 63 = 9223372036854775808 := rfl
  have hB1 : a2 * 2 ^ (63 - l) < 18446744073709551616 := by
    rw [← p64]; exact Int.mul_lt_mul_of_pos_right hlt hs
  have hB0 : 9223372036854775808 ≤ a2 * 2 ^ (63 - l) := by
    rw [← p63]; exact Int.mul_le_mul_of_nonneg_right hge (Int.le_of_lt hs)
  have hA : a0 * 2 ^ (63 - l) + 2 ^ (63 - l) ≤ a2 * 2 ^ (63 - l) := by
    have : (a0 + 1) * 2 ^ (63 - l) ≤ a2 * 2 ^ (63 - l) := Int.mul_le_mul_of_nonneg_right (by omega) (Int.le_of_lt hs)
    rw [Int.add_mul, Int.one_mul] at this; exact this
  have hA0 : 0 ≤ a0 * 2 ^ (63 - l) := Int.mul_nonneg h0 (Int.le_of_lt hs)
  have hd0 : 0 ≤ a1 / 2 ^ (l + 1) := Int.ediv_nonneg h1a (Int.le_of_lt hs2)
  have hd1 : a1 / 2 ^ (l + 1) < 2 ^ (63 - l) := Int.ediv_lt_of_lt_mul hs2 (by rw [Int.mul_comm, p64]; exact h1b)
  have hw0 : IntKind.u64.wrap (a0 * 2 ^ (63 - l)) = a0 * 2 ^ (63 - l) := u64w_of hA0 (by omega)
  have hor : Go.bits .or .u64 (a0 * 2 ^ (63 - l)) (a1 / 2 ^ (l + 1)) = a0 * 2 ^ (63 - l) + a1 / 2 ^ (l + 1) :=
    or_join (63 - l) hA0 (by omega) (Int.mul_emod_left _ _) hd0 hd1 (by omega)
  have hand := and_half (x := IntKind.u64.wrap (a1 * 2 ^ (63 - l))) (u64w_range _).1 (u64w_range _).2
  have hw := u64w_range (a1 * 2 ^ (63 - l))
  have hsplit : a1 * 2 ^ (63 - l) = 18446744073709551616 * (a1 / 2 ^ (l + 1)) + IntKind.u64.wrap (a1 * 2 ^ (63 - l)) := by
    rw [u64w]
    have h9 : a1 * 2 ^ (63 - l) / 18446744073709551616 = a1 / 2 ^ (l + 1) := by
      rw [← p64]; exact Int.mul_ediv_mul_of_pos_left _ _ hs
    have := Int.mul_ediv_add_emod (a1 * 2 ^ (63 - l)) 18446744073709551616
    rw [h9] at this; omega
  rw [hw0, hor, hand]
  generalize IntKind.u64.wrap (a1 * 2 ^ (63 - l)) = v at *
  refine ⟨by omega, hL1, hL2, u64w_of (by omega) hB1, ⟨hB0, hB1, by omega, by omega, by omega, by omega⟩, by omega, by omega, ?_⟩
  have e9 : (a0 * 18446744073709551616 + a1) * 2 ^ (63 - l) = a0 * 2 ^ (63 - l) * 18446744073709551616 + a1 * 2 ^ (63 - l) := by grind
  rw [e9, hsplit]
  omega
set_option maxHeartbeats 8000000 in
theorem wide_Div.calls (a0 : Int) (a1 : Int) (a2 : Int) (r1 : Int) (r2 : Int) (r3 : Int) (w : World) (h : wide_Div.f a0 a1 a2 = some (r1, r2, r3)) :
    Calls Try.prog 48 #[.int .u64 a0, .int .u64 a1, .int .u64 a2] w fun e w' => e = .returned (.tuple #[.int .u64 r1, .int .u64 r2, .int .i64 r3]) ∧ Below w.heap.size w w' := by
  unfold wide_Div.f at h
  split at h
  case isFalse => cases h
  rename_i hh
  simp only [u64B_iff] at hh
  obtain ⟨⟨h0a, h0b⟩, ⟨h1a, h1b⟩, h2a, h2b⟩ := hh
  split at h
  case isTrue hz =>
    subst hz
    simp only [Option.some.injEq, Prod.mk.injEq] at h
    obtain ⟨rfl, rfl, rfl⟩ := h
    go_enter Try.func48, Try.ntmps48
    go_wp2
    go_ret3
    exact ⟨rfl, Below.refl _ _⟩
  rename_i hz
  have g1 : (a2 == 0) = false := beq_eq_false_iff_ne.mpr hz
  split at h
  case isTrue hge =>
    simp only [Option.some.injEq, Prod.mk.injEq] at h
    obtain ⟨rfl, rfl, rfl⟩ := h
    have g2 : decide (a2 ≤ a0) = true := decide_eq_true hge
    clear hz
    go_enter Try.func48, Try.ntmps48
    go_wp2
    go_ret3
    exact ⟨rfl, Below.refl _ _⟩
  rename_i hge
  have g2 : decide (a2 ≤ a0) = false := decide_eq_false hge
  simp only [Option.some.injEq, Prod.mk.injEq] at h
  obtain ⟨e1, e2, rfl⟩ := h
  have E1 := Aside0.mk e1
  have E2 := Aside0.mk e2
  clear e1 e2 hz
  obtain ⟨L, hL⟩ : ∃ L, L = bitsN a2 := ⟨_, rfl⟩
  obtain ⟨hL0, hL1, hL2, hB, hin, hl0, hl1, hN⟩ := div_begin h0a h1a h1b h2b (by omega) hL
  have HL := Aside0.mk (wide_Len.f_eq h2a h2b 7 (by omega))
  rw [← hL] at HL
  have HB := Aside0.mk hB; have HI := Aside0.mk hin; have HN := Aside0.mk hN; have Hl0 := Aside0.mk hl0; have Hl1 := Aside0.mk hl1
  clear hL hB hin hN hl0 hl1 hge
  go_enter Try.func48, Try.ntmps48
  go_wp2_with (first | (go_at_call 38; (with_reducible refine (wide_Len.calls 7 _ _ _ HL.out).mono ?_); rintro e w' ⟨rfl, ⟨n, rfl⟩⟩))
  go_quiet (fail)
  go_wp2
  have kc : ∀ (m j : Nat), j < 2 → ((w.drewN m).alloc (Obj.cells #[Value.int IntKind.u64 0, Value.int IntKind.u64 0] 81)).cell? ⟨w.heap.size, j, none⟩ = some (.int .u64 0) := by
    intro m j hj
    rw [blk_cell (blk_new' (w.drewN m) _ (g := w.heap.size) rfl) j]
    rcases j with _ | _ | j
    · rfl
    · rfl
    · omega
  have kf : ∀ (m j : Nat), ((w.drewN m).alloc (Obj.cells #[Value.int IntKind.u64 0, Value.int IntKind.u64 0] 81)).frozen? ⟨w.heap.size, j, none⟩ = false := by
    intro m j
    exact blk_frozen (blk_new' (w.drewN m) _ (g := w.heap.size) rfl) j
  have kc0 := fun m => kc m 0 (by omega)
  have kc1 := fun m => kc m 1 (by omega)
  clear kc
  go_region
  clear kc0 kc1 kf
  go_upto_block 0 with (fail)
  rw [HB.out]
  generalize hBd : a2 * 2 ^ (64 - L).toNat = B at *
  generalize hRd : Go.bits BinOp.or IntKind.u64 (IntKind.u64.wrap (a0 * 2 ^ (64 - L).toNat)) (a1 / 2 ^ (64 - (64 - L)).toNat) = R at *
  generalize hl0d : IntKind.u64.wrap (a1 * 2 ^ (64 - L).toNat) / 4294967296 = l0 at *
  generalize hl1d : Go.bits BinOp.and IntKind.u64 (IntKind.u64.wrap (a1 * 2 ^ (64 - L).toNat)) 4294967295 = l1 at *
  have HC : ((((w.drewN (n + nq + 1)).alloc (Obj.cells #[Value.int IntKind.u64 0, Value.int IntKind.u64 0] 81)).setCell ⟨w.heap.size, 0, none⟩ (Value.int IntKind.u64 l0)).setCell ⟨w.heap.size, 1, none⟩ (Value.int IntKind.u64 l1)).heap[w.heap.size]? = some (.cells #[.int .u64 l0, .int .u64 l1] 81 (0, 0)) := blk_set (blk_set (blk_new' (w.drewN (n + nq + 1)) _ (g := w.heap.size) rfl) 0 _) 1 _
  have HW := Aside0.mk (show Below w.heap.size w ((((w.drewN (n + nq + 1)).alloc (Obj.cells #[Value.int IntKind.u64 0, Value.int IntKind.u64 0] 81)).setCell ⟨w.heap.size, 0, none⟩ (Value.int IntKind.u64 l0)).setCell ⟨w.heap.size, 1, none⟩ (Value.int IntKind.u64 l1)) from below_set (below_set (below_alloc (pw_below_drewN (Below.refl _ _) _) _) (Nat.le_refl _)) (Nat.le_refl _))
  generalize ((((w.drewN (n + nq + 1)).alloc (Obj.cells #[Value.int IntKind.u64 0, Value.int IntKind.u64 0] 81)).setCell ⟨w.heap.size, 0, none⟩ (Value.int IntKind.u64 l0)).setCell ⟨w.heap.size, 1, none⟩ (Value.int IntKind.u64 l1)) = W1 at *
  have HC0 := blk_cell HC 0
  have HC1 := blk_cell HC 1
  replace HC0 : W1.cell? ⟨w.heap.size, 0, none⟩ = some (.int .u64 l0) := HC0
  replace HC1 : W1.cell? ⟨w.heap.size, 1, none⟩ = some (.int .u64 l1) := HC1
  clear HC
  have HI0 := HI
  have HI1 := Aside0.mk (HI.out.next Hl0.out Hl1.out)
  go_cut [10, 12] (fun v10 v12 wx => v10 = .int .u64 (((R * 4294967296 + l0) % B * 4294967296 + l1) % B) ∧ v12 = .int .u64 ((R * 4294967296 + l0) / B * 4294967296 + ((R * 4294967296 + l0) % B * 4294967296 + l1) / B) ∧ Aside0 (Below w.heap.size w wx))
  case first =>
    have hB0 := HI.out.B0; have hB1 := HI.out.B1; have hR0 := HI.out.r0; have hR1 := HI.out.r1; have hl00 := HI.out.l0; have hl01 := HI.out.l1; have hl10 := HI1.out.l0; have hl11 := HI1.out.l1
    have hq0 := HI.out.q
    obtain ⟨hq0a, hq0b⟩ := hq0
    go_wp2
    refine wp_loop_rounds 3 ?_
    rw [rounds_succ]
    go_upto_block 2 with (fail)
    go_cut [14, 15] (fun v14 v15 wx => ∃ f : Int, v14 = .int .u64 ((R * 4294967296 + l0) / B) ∧ v15 = .int .u64 f ∧ wx.cell? ⟨w.heap.size, 0, none⟩ = some (.int .u64 l0) ∧ wx.cell? ⟨w.heap.size, 1, none⟩ = some (.int .u64 l1) ∧ Aside0 (Below w.heap.size w wx))
    case first =>
      go_wp2
      go_loopw [14, 15] (fun v14 v15 wr => ∃ d f : Int, v14 = .int .u64 d ∧ v15 = .int .u64 f ∧ Mend B R l0 d f ∧ wr.cell? ⟨w.heap.size, 0, none⟩ = some (.int .u64 l0) ∧ wr.cell? ⟨w.heap.size, 1, none⟩ = some (.int .u64 l1) ∧ Aside0 (Below w.heap.size w wr)) (fun v14 _ _ => (intOf v14).toNat)
      case atStart => exact ⟨_, _, rfl, rfl, Mend.start HI0.out, HC0, HC1, HW⟩
      case round =>
        obtain ⟨d, f, rfl, rfl, hm, hc0, hc1, hb⟩ := hrel
        have hbig := hm.big HI0.out
        obtain ⟨hd0, hd1⟩ := hbig
        have hf0 := hm.f0; have hf1 := hm.f1
        by_cases ht : 4294967295 < d ∨ (R * 4294967296 + l0) / B < d
        · have hlow := hm.lower HI0.out ht
          have hd2 : 1 ≤ d := hlow.1
          have hT := Aside0.mk ht
          have hg : (decide (4294967295 < d) = true) ∨ (decide (4294967295 < d) = false ∧ decide (Go.bits .or .u64 (f * 4294967296) l0 < IntKind.u64.wrap (d * Go.bits .and .u64 B 4294967295)) = true) := by
            by_cases c1 : 4294967295 < d
            · exact .inl (decide_eq_true c1)
            · have h3 := hm.test HI0.out (by omega)
              refine .inr ⟨decide_eq_false c1, ?_⟩
              rw [← u64w_of (x := f * 4294967296) (by omega) (by omega), h3.1, h3.2.1]
              exact decide_eq_true (h3.2.2.2 (by omega))
          clear ht hlow
          by_cases hf2 : f + B / 4294967296 < 4294967296
          · have hf3 : decide (4294967295 < f + B / 4294967296) = false := decide_eq_false (by omega)
            have hnx := hm.next HI0.out hT.out hf2
            clear hf2
            rcases hg with hg | ⟨hg, hg2⟩
            all_goals
              go_wp2
              go_roundw
              case rel => exact ⟨_, _, rfl, rfl, hnx, hc0, hc1, hb⟩
              case measure => simp only [intOf]; omega
          · have hf3 : decide (4294967295 < f + B / 4294967296) = true := decide_eq_true (by omega)
            have hst := Aside0.mk (hm.stop HI0.out hT.out (by omega))
            clear hf2
            rcases hg with hg | ⟨hg, hg2⟩
            all_goals
              go_wp2
              go_meet
              exact ⟨_, by rw [hst.out], rfl, hc0, hc1, hb⟩
        · have c1 : decide (4294967295 < d) = false := decide_eq_false (by omega)
          have h3 := hm.test HI0.out (by omega)
          have c2 : decide (Go.bits .or .u64 (f * 4294967296) l0 < IntKind.u64.wrap (d * Go.bits .and .u64 B 4294967295)) = false := by
            rw [← u64w_of (x := f * 4294967296) (by omega) (by omega), h3.1, h3.2.1]
            exact decide_eq_false (fun h4 => ht (.inr (h3.2.2.1 h4)))
          have hst := Aside0.mk (show d = (R * 4294967296 + l0) / B from by have := hm.le; omega)
          clear h3 ht
          go_wp2
          go_meet
          exact ⟨_, by rw [hst.out], rfl, hc0, hc1, hb⟩
    case rest =>
      obtain ⟨f0, rfl, rfl, hc0, hc1, hb⟩ := hcut
      have hR10 := HI1.out.r0; have hR11 := HI1.out.r1
      have hq1 := HI1.out.q
      obtain ⟨hq1a, hq1b⟩ := hq1
      go_wp2
      rw [div_rest HI.out, or_zero hq0a (by omega), rounds_succ]
      clear HC0 HC1
      go_upto_block 2 with (fail)
      go_cut [14, 15] (fun v14 v15 wx => ∃ f : Int, v14 = .int .u64 ((((R * 4294967296 + l0) % B) * 4294967296 + l1) / B) ∧ v15 = .int .u64 f ∧ wx.cell? ⟨w.heap.size, 0, none⟩ = some (.int .u64 l0) ∧ wx.cell? ⟨w.heap.size, 1, none⟩ = some (.int .u64 l1) ∧ Aside0 (Below w.heap.size w wx))
      case first =>
        go_wp2
        go_loopw [14, 15] (fun v14 v15 wr => ∃ d f : Int, v14 = .int .u64 d ∧ v15 = .int .u64 f ∧ Mend B ((R * 4294967296 + l0) % B) l1 d f ∧ wr.cell? ⟨w.heap.size, 0, none⟩ = some (.int .u64 l0) ∧ wr.cell? ⟨w.heap.size, 1, none⟩ = some (.int .u64 l1) ∧ Aside0 (Below w.heap.size w wr)) (fun v14 _ _ => (intOf v14).toNat)
        case atStart => exact ⟨_, _, rfl, rfl, Mend.start HI1.out, hc0, hc1, hb⟩
        case round =>
          obtain ⟨d, f, rfl, rfl, hm, hc0, hc1, hb⟩ := hrel
          have hbig := hm.big HI1.out
          obtain ⟨hd0, hd1⟩ := hbig
          have hf0 := hm.f0; have hf1 := hm.f1
          by_cases ht : 4294967295 < d ∨ (((R * 4294967296 + l0) % B) * 4294967296 + l1) / B < d
          · have hlow := hm.lower HI1.out ht
            have hd2 : 1 ≤ d := hlow.1
            have hT := Aside0.mk ht
            have hg : (decide (4294967295 < d) = true) ∨ (decide (4294967295 < d) = false ∧ decide (Go.bits .or .u64 (f * 4294967296) l1 < IntKind.u64.wrap (d * Go.bits .and .u64 B 4294967295)) = true) := by
              by_cases c1 : 4294967295 < d
              · exact .inl (decide_eq_true c1)
              · have h3 := hm.test HI1.out (by omega)
                refine .inr ⟨decide_eq_false c1, ?_⟩
                rw [← u64w_of (x := f * 4294967296) (by omega) (by omega), h3.1, h3.2.1]
                exact decide_eq_true (h3.2.2.2 (by omega))
            clear ht hlow
            by_cases hf2 : f + B / 4294967296 < 4294967296
            · have hf3 : decide (4294967295 < f + B / 4294967296) = false := decide_eq_false (by omega)
              have hnx := hm.next HI1.out hT.out hf2
              clear hf2
              rcases hg with hg | ⟨hg, hg2⟩
              all_goals
                go_wp2
                go_roundw
                case rel => exact ⟨_, _, rfl, rfl, hnx, hc0, hc1, hb⟩
                case measure => simp only [intOf]; omega
            · have hf3 : decide (4294967295 < f + B / 4294967296) = true := decide_eq_true (by omega)
              have hst := Aside0.mk (hm.stop HI1.out hT.out (by omega))
              clear hf2
              rcases hg with hg | ⟨hg, hg2⟩
              all_goals
                go_wp2
                go_meet
                exact ⟨_, by rw [hst.out], rfl, hc0, hc1, hb⟩
          · have c1 : decide (4294967295 < d) = false := decide_eq_false (by omega)
            have h3 := hm.test HI1.out (by omega)
            have c2 : decide (Go.bits .or .u64 (f * 4294967296) l1 < IntKind.u64.wrap (d * Go.bits .and .u64 B 4294967295)) = false := by
              rw [← u64w_of (x := f * 4294967296) (by omega) (by omega), h3.1, h3.2.1]
              exact decide_eq_false (fun h4 => ht (.inr (h3.2.2.1 h4)))
            have hst := Aside0.mk (show d = (((R * 4294967296 + l0) % B) * 4294967296 + l1) / B from by have := hm.le; omega)
            clear h3 ht
            go_wp2
            go_meet
            exact ⟨_, by rw [hst.out], rfl, hc0, hc1, hb⟩
      case rest =>
        obtain ⟨f1, rfl, rfl, hc0, hc1, hb⟩ := hcut
        go_wp2
        rw [div_rest HI1.out, or_join 32 (by omega) (by omega) (by show _ % 4294967296 = 0; omega) hq1a (by exact hq1b) (by omega), rounds_succ]
        go_wp2
        go_meet
        exact ⟨rfl, rfl, hb⟩
  case rest =>
    obtain ⟨rfl, rfl, hb⟩ := hcut
    have hR20 : 0 ≤ ((R * 4294967296 + l0) % B * 4294967296 + l1) % B := Int.emod_nonneg _ (by have := HI.out.B0; omega)
    have hd2 := div_two HI.out Hl0.out Hl1.out
    have hsc := div_scaled (n := a0 * 18446744073709551616 + a1) (b := a2) (64 - L).toNat (by have := of_decide_eq_false g2; omega)
    rw [HN.out, ← hBd] at hd2
    rw [hsc.1] at hd2
    have hQ := Aside0.mk (hd2.1.trans E1.out)
    have hr2 : ((R * 4294967296 + l0) % B * 4294967296 + l1) % B / 2 ^ (64 - L).toNat = r2 := by
      rw [← hBd, hd2.2, hsc.2, E2.out]
    have hR2 := Aside0.mk hr2
    rw [hBd] at hQ
    generalize ((R * 4294967296 + l0) % B * 4294967296 + l1) % B = R2 at *
    generalize (R * 4294967296 + l0) / B * 4294967296 + ((R * 4294967296 + l0) % B * 4294967296 + l1) / B = Q at *
    clear hd2 hsc hr2
    go_wp2
    go_quiet (fail)
    go_wp2
    go_ret3
    exact ⟨by rw [hQ.out, hR2.out]; rfl, pw_below_drewN hb.out _⟩

end Go.Proofs.Ytpnffhacmamilaa.PA
