/- Numbers as lists of words (Int, the lowest first): their values, and lists of given values. Plain Lean. -/
namespace Go.Proofs.YtpnffhacmamilaaW.PrintWords

/-- all entries are words -/
def Ws (xs : List Int) : Prop := ∀ x ∈ xs, 0 ≤ x ∧ x < 18446744073709551616

/-- the number of a list -/
def nv : List Int → Int
  | [] => 0
  | x :: xs => x + 18446744073709551616 * nv xs

theorem Ws.nil : Ws [] := fun _ h => by cases h
theorem Ws.cons {x : Int} {xs : List Int} (h0 : 0 ≤ x) (h1 : x < 18446744073709551616) (h : Ws xs) : Ws (x :: xs) := by
  intro y hy
  rcases List.mem_cons.1 hy with rfl | hy
  · exact ⟨h0, h1⟩
  · exact h y hy
theorem Ws.head {x : Int} {xs : List Int} (h : Ws (x :: xs)) : 0 ≤ x ∧ x < 18446744073709551616 := h x (List.mem_cons_self)
theorem Ws.tail {x : Int} {xs : List Int} (h : Ws (x :: xs)) : Ws xs := fun y hy => h y (List.mem_cons_of_mem _ hy)
theorem Ws.append {xs ys : List Int} (h : Ws xs) (k : Ws ys) : Ws (xs ++ ys) := by
  intro y hy
  rcases List.mem_append.1 hy with hy | hy
  · exact h y hy
  · exact k y hy
theorem Ws.left {xs ys : List Int} (h : Ws (xs ++ ys)) : Ws xs := fun y hy => h y (List.mem_append_left _ hy)
theorem Ws.right {xs ys : List Int} (h : Ws (xs ++ ys)) : Ws ys := fun y hy => h y (List.mem_append_right _ hy)
theorem Ws.take {xs : List Int} (h : Ws xs) (n : Nat) : Ws (xs.take n) := fun y hy => h y (List.mem_of_mem_take hy)
theorem Ws.drop {xs : List Int} (h : Ws xs) (n : Nat) : Ws (xs.drop n) := fun y hy => h y (List.mem_of_mem_drop hy)
theorem Ws.zeros (n : Nat) : Ws (List.replicate n 0) := by
  intro y hy
  have := List.eq_of_mem_replicate hy
  omega
theorem Ws.set {xs : List Int} (h : Ws xs) (n : Nat) {v : Int} (h0 : 0 ≤ v) (h1 : v < 18446744073709551616) : Ws (xs.set n v) := by
  intro y hy
  rcases List.mem_or_eq_of_mem_set hy with hy | rfl
  · exact h y hy
  · exact ⟨h0, h1⟩
theorem Ws.getD {xs : List Int} (h : Ws xs) (n : Nat) : 0 ≤ xs.getD n 0 ∧ xs.getD n 0 < 18446744073709551616 := by
  rw [List.getD_eq_getElem?_getD]
  cases e : xs[n]? with
  | none => simp
  | some v => simpa using h v (List.mem_of_getElem? e)

theorem nv_nil : nv [] = 0 := rfl
theorem nv_cons (x : Int) (xs : List Int) : nv (x :: xs) = x + 18446744073709551616 * nv xs := rfl
theorem nv_nonneg {xs : List Int} (h : Ws xs) : 0 ≤ nv xs := by
  induction xs with
  | nil => simp [nv]
  | cons x xs ih =>
    have h1 := ih h.tail
    have h2 := h.head
    rw [nv_cons]; omega
theorem pow64 (n : Nat) : (2 : Int) ^ (64 * (n + 1)) = 18446744073709551616 * 2 ^ (64 * n) := by
  rw [show 64 * (n + 1) = 64 + 64 * n from by omega, Int.pow_add]
  rfl
theorem two_pow_pos (n : Nat) : 0 < (2 : Int) ^ n := Int.pow_pos (by omega)
theorem nv_lt {xs : List Int} (h : Ws xs) : nv xs < 2 ^ (64 * xs.length) := by
  induction xs with
  | nil => simp [nv]
  | cons x xs ih =>
    have h1 := ih h.tail
    have h2 := h.head
    rw [nv_cons, List.length_cons, pow64]
    omega
theorem nv_append (xs ys : List Int) : nv (xs ++ ys) = nv xs + 2 ^ (64 * xs.length) * nv ys := by
  induction xs with
  | nil => simp [nv]
  | cons x xs ih =>
    rw [List.cons_append, nv_cons, nv_cons, ih, List.length_cons, pow64]
    grind
theorem nv_zeros (n : Nat) : nv (List.replicate n 0) = 0 := by
  induction n with
  | zero => rfl
  | succ n ih => rw [List.replicate_succ, nv_cons, ih]; rfl
theorem nv_set {xs : List Int} {n : Nat} (h : n < xs.length) (v : Int) : nv (xs.set n v) = nv xs + (v - xs.getD n 0) * 2 ^ (64 * n) := by
  induction xs generalizing n with
  | nil => simp at h
  | cons x xs ih =>
    cases n with
    | zero => simp [nv]; omega
    | succ n =>
      have := ih (n := n) (by simpa using h)
      rw [List.set_cons_succ, nv_cons, nv_cons, this, pow64]
      simp only [List.getD_cons_succ]
      grind
/-- the words of a number, none behind that is 0 -/
def wd (n : Nat) : List Int := if n = 0 then [] else (n % 18446744073709551616 : Nat) :: wd (n / 18446744073709551616)
termination_by n
decreasing_by exact Nat.div_lt_self (by omega) (by omega)

theorem wd_zero : wd 0 = [] := by rw [wd]; simp
theorem wd_pos {n : Nat} (h : n ≠ 0) : wd n = ((n % 18446744073709551616 : Nat) : Int) :: wd (n / 18446744073709551616) := by rw [wd, if_neg h]
theorem wd_ws (n : Nat) : Ws (wd n) := by
  induction n using Nat.strongRecOn with
  | _ n ih =>
    by_cases h : n = 0
    · rw [h, wd_zero]; exact Ws.nil
    · rw [wd_pos h]
      exact Ws.cons (by omega) (by omega) (ih _ (Nat.div_lt_self (by omega) (by omega)))
theorem nv_wd (n : Nat) : nv (wd n) = n := by
  induction n using Nat.strongRecOn with
  | _ n ih =>
    by_cases h : n = 0
    · rw [h, wd_zero]; rfl
    · rw [wd_pos h, nv_cons, ih _ (Nat.div_lt_self (by omega) (by omega))]
      omega
/-- a list without the zeros at its end -/
def strip : List Int → List Int
  | [] => []
  | x :: xs => match strip xs with
    | [] => if x = 0 then [] else [x]
    | y :: ys => x :: y :: ys
/-- the k lowest words of n -/
def wn : Nat → Int → List Int
  | 0, _ => []
  | k + 1, n => n % 18446744073709551616 :: wn k (n / 18446744073709551616)
/-- are all entries words? -/
def wsB (xs : List Int) : Bool := xs.all fun x => decide (0 ≤ x) && decide (x < 18446744073709551616)
def u64B (x : Int) : Bool := decide (0 ≤ x) && decide (x < 18446744073709551616)
/-- how many bits a number has -/
def bitsN (n : Int) : Int := if n ≤ 0 then 0 else (Nat.log2 n.toNat : Int) + 1
theorem wsB_iff {xs : List Int} : wsB xs = true ↔ Ws xs := by simp [wsB, Ws, List.all_eq_true]
theorem u64B_iff {x : Int} : u64B x = true ↔ 0 ≤ x ∧ x < 18446744073709551616 := by simp [u64B]

theorem strip_cons (x : Int) (xs : List Int) : strip (x :: xs) = if strip xs = [] then (if x = 0 then [] else [x]) else x :: strip xs := by
  rw [strip]
  split
  · rename_i h; rw [h]; simp
  · rename_i y ys h; rw [h]; simp
theorem strip_snoc_zero (xs : List Int) : strip (xs ++ [0]) = strip xs := by
  induction xs with
  | nil => simp [strip]
  | cons x xs ih => rw [List.cons_append, strip_cons, strip_cons, ih]
theorem strip_snoc_ne (xs : List Int) {x : Int} (h : x ≠ 0) : strip (xs ++ [x]) = xs ++ [x] := by
  induction xs with
  | nil => simp [strip, h]
  | cons y xs ih => rw [List.cons_append, strip_cons, ih]; simp
theorem strip_take (xs : List Int) : strip xs = xs.take (strip xs).length := by
  induction xs with
  | nil => rfl
  | cons x xs ih =>
    rw [strip_cons]
    split
    · split <;> simp
    · rw [List.length_cons, List.take_succ_cons, ← ih]
theorem strip_length_le (xs : List Int) : (strip xs).length ≤ xs.length := by
  rw [strip_take, List.length_take]; omega
theorem nv_strip (xs : List Int) : nv (strip xs) = nv xs := by
  induction xs with
  | nil => rfl
  | cons x xs ih =>
    rw [strip_cons, nv_cons, ← ih]
    split
    · rename_i h
      rw [h] at ih ⊢
      have h9 : nv xs = 0 := ih.symm
      split
      · rename_i h1
        rw [nv_nil]; omega
      · rw [nv_cons, nv_nil]
    · rfl
theorem Ws.strip {xs : List Int} (h : Ws xs) : Ws (PrintWords.strip xs) := by rw [strip_take]; exact h.take _
theorem strip_strip (xs : List Int) : strip (strip xs) = strip xs := by
  induction xs with
  | nil => rfl
  | cons x xs ih =>
    rw [strip_cons]
    split
    · split
      · rfl
      · rename_i h; simp [strip, h]
    · rename_i h
      rw [strip_cons, ih, if_neg h]
theorem wd_eq_nil {n : Nat} : wd n = [] ↔ n = 0 := by
  constructor
  · intro h
    by_cases h0 : n = 0
    · exact h0
    · rw [wd_pos h0] at h; cases h
  · rintro rfl; exact wd_zero
theorem strip_wd (n : Nat) : strip (wd n) = wd n := by
  induction n using Nat.strongRecOn with
  | _ n ih =>
    by_cases h : n = 0
    · rw [h, wd_zero]; rfl
    · rw [wd_pos h, strip_cons, ih _ (Nat.div_lt_self (by omega) (by omega))]
      split
      · rename_i h1
        rw [wd_eq_nil] at h1
        rw [if_neg (by omega), h1, wd_zero]
      · rfl
theorem wd_nv {xs : List Int} (h : Ws xs) : wd (nv xs).toNat = strip xs := by
  induction xs with
  | nil => rw [strip]; exact wd_zero
  | cons x xs ih =>
    have h0 := nv_nonneg h.tail
    have h1 := h.head
    have h2 := ih h.tail
    rw [nv_cons, strip_cons]
    have e1 : (x + 18446744073709551616 * nv xs).toNat % 18446744073709551616 = x.toNat := by omega
    have e2 : (x + 18446744073709551616 * nv xs).toNat / 18446744073709551616 = (nv xs).toNat := by omega
    by_cases hz : x + 18446744073709551616 * nv xs = 0
    · have hx : x = 0 := by omega
      have hn : nv xs = 0 := by omega
      rw [hn] at h2
      rw [hz, ← h2, hx]
      simp [wd_zero]
    · rw [wd_pos (by omega), e1, e2, h2]
      by_cases hs : strip xs = []
      · have hn : nv xs = 0 := by rw [← nv_strip, hs]; rfl
        rw [if_pos hs, hs, if_neg (by omega)]
        congr 1
        omega
      · rw [if_neg hs]
        congr 1
        omega
theorem wn_length (k : Nat) (n : Int) : (wn k n).length = k := by
  induction k generalizing n with
  | zero => rfl
  | succ k ih => rw [wn, List.length_cons, ih]
theorem wn_ws (k : Nat) (n : Int) : Ws (wn k n) := by
  induction k generalizing n with
  | zero => exact Ws.nil
  | succ k ih => rw [wn]; exact Ws.cons (by omega) (by omega) (ih _)
theorem nv_wn (k : Nat) {n : Int} (h0 : 0 ≤ n) (h1 : n < 2 ^ (64 * k)) : nv (wn k n) = n := by
  induction k generalizing n with
  | zero => simp at h1; rw [wn, nv]; omega
  | succ k ih =>
    rw [pow64] at h1
    rw [wn, nv_cons, ih (by omega) (by omega)]
    omega
/-- a list of words is known by its length and its number -/
theorem nv_inj {xs ys : List Int} (hx : Ws xs) (hy : Ws ys) (hl : xs.length = ys.length) (h : nv xs = nv ys) : xs = ys := by
  induction xs generalizing ys with
  | nil => cases ys with
    | nil => rfl
    | cons y ys => simp at hl
  | cons x xs ih => cases ys with
    | nil => simp at hl
    | cons y ys =>
      have h1 := hx.head
      have h2 := hy.head
      rw [nv_cons, nv_cons] at h
      have e1 : x = y := by omega
      have e2 : nv xs = nv ys := by omega
      rw [e1, ih hx.tail hy.tail (by simpa using hl) e2]
theorem eq_wn {xs : List Int} (h : Ws xs) {k : Nat} (hl : xs.length = k) : xs = wn k (nv xs) := by
  refine nv_inj h (wn_ws _ _) (by rw [wn_length, hl]) ?_
  rw [nv_wn k (nv_nonneg h) (by rw [← hl]; exact nv_lt h)]
theorem strip_length_pos {xs : List Int} (h : Ws xs) : 0 < (strip xs).length ↔ 0 < nv xs := by
  have h0 := nv_nonneg h
  constructor
  · intro hp
    rcases Int.lt_or_eq_of_le h0 with h1 | h1
    · exact h1
    · exfalso
      have h2 := wd_nv h
      rw [← h1] at h2
      simp [wd_zero] at h2
      rw [h2] at hp
      simp at hp
  · intro hp
    rcases Nat.eq_zero_or_pos (strip xs).length with h1 | h1
    · rw [← nv_strip, List.eq_nil_of_length_eq_zero h1] at hp
      simp [nv] at hp
    · exact h1
end Go.Proofs.YtpnffhacmamilaaW.PrintWords
