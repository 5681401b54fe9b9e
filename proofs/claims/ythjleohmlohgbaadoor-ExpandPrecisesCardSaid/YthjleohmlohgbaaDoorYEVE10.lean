/- A part of the proof (10). -/
import Derived.Test.YthjleohmlohgbaaDoorYEVE9
import Derived.KernelRfl
namespace Go.Proofs.YthjleohmlohgbaaDoor.PA
open Go.RowKit Go.Proofs.YthjleohmlohgbaaDoorW.PrintWords Go.Proofs.YthjleohmlohgbaaDoorW.PrintLast Go.Proofs.YthjleohmlohgbaaDoorW.PrintMore
set_option linter.unusedVariables false
set_option linter.unusedSimpArgs false
theorem cpy_eq (z : List Int) (q m : Nat) (h : m = q + z.length + 1) : cpyAt (List.replicate m 0) z q = List.replicate q 0 ++ (z ++ [0]) := by
 unfold cpyAt
 rw [List.length_replicate, List.take_replicate, List.drop_replicate, Nat.min_eq_left (show q ≤ m by omega), Nat.min_eq_left (show z.length ≤ m - q by omega), List.take_length, show m - (q + z.length) = 1 from by omega]
 rfl
theorem bnd_small {n : Int} (h : n < (2 : Int) ^ 262144) : bnd n = (wd n.toNat, 0) := by unfold bnd; rw [if_pos h]
theorem nat_Shl.f_eq (l : List Int) (h : Ws l) (hl : l.length ≤ 1000000) (n : Int) (hn : n < 9223372036854775808) (k : Nat) (hk : 3000000 < k) :
  nat_Shl.f k l n = some (if n < 0 then ([], 22) else if nv l = 0 then ([], 0) else bnd (nv l * 2 ^ n.toNat)) := by
 have hsl := strip_length_le l
 rw [nat_Shl.f, nat_size.f_eq l (by omega) _ (by omega)]
 simp only [Option.bind_some]
 rw [if_pos (by omega), if_pos (by omega), Int.toNat_natCast, strip_take']
 have el := nv_strip l
 have wl := h.strip
 have pl := nv_pos_iff h
 rw [← el] at *
 generalize strip l = z at *
 have nz := nv_nonneg wl
 by_cases h0 : n < 0
 ·rw [if_pos h0, if_pos h0]
 ·rw [if_neg h0, if_neg h0]
  by_cases h1 : z = []
  ·subst h1
   rw [if_pos (by simp), if_pos (by simp [nv])]
  ·have hz0 : z.length ≠ 0 := fun h => h1 (List.eq_nil_of_length_eq_zero h)
   have hp := pl.2 h1
   rw [if_neg (show ¬ ((z.length : Int) = 0) by omega), if_neg (show ¬ nv z = 0 by omega), nat_Bits.f_eq z wl (by omega) k (by omega) (by omega)]
   simp only [Option.bind_some]
   have bx := bitsN_ge hp
   have bx1 := bitsN_pos hp
   have bx2 := bitsN_le_of_lt (n := 64 * z.length) nz (nv_lt wl)
   have hbx : 1 ≤ bitsN (nv z) := by omega
   clear bx1
   have ew : wrap64 (262144 - bitsN (nv z)) = 262144 - bitsN (nv z) := by unfold wrap64; omega
   rw [ew]
   clear ew
   obtain ⟨n, rfl⟩ : ∃ j : Nat, n = (j : Int) := ⟨n.toNat, by omega⟩
   rw [Int.toNat_natCast]
   by_cases hb : (n : Int) > 262144 - bitsN (nv z)
   ·rw [if_pos hb, bnd_big]
    have h3 : (2 : Int) ^ 262144 ≤ 2 ^ ((bitsN (nv z)).toNat - 1 + n) := pow_mono (by omega)
    rw [Int.pow_add] at h3
    exact Int.le_trans h3 (Int.mul_le_mul_of_nonneg_right bx (Int.le_of_lt (two_pow_pos _)))
   ·rw [if_neg hb]
    have hn2 : n ≤ 262144 := by omega
    clear hb bx bx2 hbx pl
    have et : Int.tdiv (n : Int) 64 = ((n / 64 : Nat) : Int) := by rw [Int.tdiv_eq_ediv_of_nonneg (Int.natCast_nonneg _)]; omega
    have em : Int.tmod (n : Int) 64 = ((n % 64 : Nat) : Int) := by rw [Int.tmod_eq_emod_of_nonneg (Int.natCast_nonneg _)]; omega
    have hq : n / 64 ≤ 4096 := by omega
    have hnq : n = 64 * (n / 64) + n % 64 := by omega
    have hs : n % 64 < 64 := by omega
    generalize n / 64 = q at *
    generalize n % 64 = s at *
    have ea : wrap64 (Int.tdiv (n : Int) 64) = (q : Int) := by rw [et]; clear em et; unfold wrap64; omega
    have e1 : wrap64 ((q : Int) + (z.length : Int)) = ((q + z.length : Nat) : Int) := w64_add q z.length (by clear ea em et; omega)
    have e2 : wrap64 (((q + z.length : Nat) : Int) + 1) = ((q + z.length + 1 : Nat) : Int) := w64_succ _ (by clear ea em et e1; omega)
    have c1 : (0 : Int) ≤ ((q + z.length + 1 : Nat) : Int) := Int.natCast_nonneg _
    have c2 : q + z.length + 1 ≤ 35184372088832 := by clear ea em et e1 e2; omega
    have c3 : (0 : Int) ≤ (q : Int) := Int.natCast_nonneg _
    have c4 : q ≤ q + z.length + 1 := by clear ea em et e1 e2; omega
    have c5 : q + z.length + 1 < k := by clear ea em et e1 e2; omega
    have c6 : q + z.length < q + z.length + 1 := Nat.lt_succ_self _
    have c7 : z.length + (q + z.length + 1) + 1 < k := by clear ea em et e1 e2; omega
    rw [ea, e1, e2, if_pos c1, Int.toNat_natCast, Int.toNat_natCast, if_pos ⟨c2, c3, c4⟩, cpy_eq z q _ rfl, em]
    try simp only [Option.bind_some]
    obtain ⟨y, hy⟩ : ∃ y, y = List.replicate q 0 ++ (z ++ [0]) := ⟨_, rfl⟩
    rw [← hy]
    have wy : Ws y := by rw [hy]; exact (Ws.zeros _).append (wl.append (Ws.cons (by decide) (by decide) Ws.nil))
    have ly : y.length = q + z.length + 1 := by rw [hy, List.length_append, List.length_replicate, List.length_append]; rfl
    have ny : nv y = 2 ^ (64 * q) * nv z := by
     rw [hy, nv_append, nv_append, nv_zeros, List.length_replicate]
     simp [nv]
    have tz : nv (y.take q) = 0 := by
     rw [hy, List.take_left' (by rw [List.length_replicate]), nv_zeros]
    have last : y.getD (q + z.length) 0 = 0 := by
     rw [hy, List.getD_eq_getElem?_getD, List.getElem?_append_right (by rw [List.length_replicate]; exact Nat.le_add_right _ _), List.length_replicate, Nat.add_sub_cancel_left, List.getElem?_append_right (Nat.le_refl _), Nat.sub_self]
     rfl
    have e3 : wrap64 ((y.length : Int) - 1) = ((q + z.length : Nat) : Int) := by rw [ly]; clear ea em et e1 e2; unfold wrap64; omega
    have pw : nv z * 2 ^ n = nv y * 2 ^ s := by
     rw [ny, hnq, Int.pow_add]
     generalize (2 : Int) ^ (64 * q) = p
     generalize (2 : Int) ^ s = t
     clear ea em et e1 e2 e3
     grind
    rw [pw]
    by_cases hs0 : s = 0
    ·have c8 : ¬ ((s : Nat) : Int) > 0 := by clear ea em et e1 e2 e3; omega
     rw [if_neg c8, nat_bound.f_bnd wy (by rw [ly]; exact c2) k (by rw [ly]; exact c5), hs0, Int.pow_zero, Int.mul_one]
     rfl
    ·have c8 : ((s : Nat) : Int) > 0 := by clear ea em et e1 e2 e3; omega
     rw [if_pos c8, e3]
     refine nat_Shl.l0_eq y wy q s (q + z.length + 1) _ ea (by clear ea em et e1 e2 e3; omega) (by clear ea em et e1 e2 e3; omega) c2 ly tz z.length k y _ rfl c7 c6 ly wy rfl ?_
     rw [last, List.drop_eq_nil_of_le (by rw [ly]; exact Nat.le_refl _)]
     simp [nv]
open Go Go.RowKit Go.Proofs.YthjleohmlohgbaaDoorW.PrintWords Go.Proofs.YthjleohmlohgbaaDoorW.PrintLast Go.Proofs.YthjleohmlohgbaaDoorW.PrintMore
theorem i64_and_one (a : Nat) (ha : a < 9223372036854775808) : Go.bits .and .i64 (a : Int) 1 = ((a % 2 : Nat) : Int) := by
 show IntKind.i64.wrap ((BitVec.ofInt 64 (a : Int) &&& BitVec.ofInt 64 ((1 : Nat) : Int)).toNat : Int) = _
 rw [BitVec.toNat_and, ofInt_u64 a (by omega), ofInt_u64 1 (by omega), IntKind.wrap_i64, Nat.and_one_is_mod]
 omega
theorem wd_length_le {n : Nat} {m : Nat} (h : n < 2 ^ (64 * m)) : (wd n).length ≤ m := by
 have h1 := (strip_len_le (wd_ws n) m).2 (by rw [nv_wd, p2cast]; exact Int.ofNat_lt.2 h)
 rwa [strip_wd] at h1
theorem toNat_lt_of {n : Int} {N : Nat} (hN : 0 < N) (h : n < (N : Int)) : n.toNat < N := by omega
theorem wd_len_int {n : Int} {m : Nat} (h : n < 2 ^ (64 * m)) : (wd n.toNat).length ≤ m := by
 rw [p2cast] at h
 exact wd_length_le (toNat_lt_of (Nat.pow_pos (by decide)) h)
theorem bnd_fst_len (n : Int) : (bnd n).1.length ≤ 4096 := by
 unfold bnd
 split
 ·rename_i h
  exact wd_len_int (m := 4096) h
 ·exact Nat.zero_le _
theorem bnd_fst_ws (n : Int) : Ws (bnd n).1 := by
 unfold bnd
 split
 ·exact wd_ws _
 ·exact Ws.nil
theorem bnd_fst_nv {n : Int} (h0 : 0 ≤ n) (h : n < 2 ^ 262144) : nv (bnd n).1 = n := by
 rw [bnd_small h, nv_wd]
 exact Int.toNat_of_nonneg h0
theorem bnd_snd {n : Int} (h : n < 2 ^ 262144) : (bnd n).2 = 0 := by rw [bnd_small h]
theorem pow_le_pow {b : Int} (hb : 1 ≤ b) {m n : Nat} (h : m ≤ n) : b ^ m ≤ b ^ n := by
 obtain ⟨c, rfl⟩ := Int.eq_ofNat_of_zero_le (show 0 ≤ b by omega)
 have hc : 0 < c := by omega
 have := Nat.pow_le_pow_right hc h
 rw [← Int.natCast_pow, ← Int.natCast_pow]
 exact Int.ofNat_le.2 this
theorem quot_Pow.l0_eq (z : List Int) (hz : Ws z) (lz : z.length ≤ 4096) (hb : 1 ≤ nv z) (n : Nat) (hn : n < 9223372036854775808) : ∀ (j k : Nat) (x : List Int), j ≤ 64 → j + 20000000 < k → Ws x → x.length ≤ 4096 → nv x = nv z ^ (n / 2 ^ j) →
  (x = wd (nv z ^ (n / 2 ^ j)).toNat) → nv z ^ (n / 2 ^ j) < 2 ^ 262144 → quot_Pow.l0 k z (n : Int) x ((j : Int) - 1) = some (bnd (nv z ^ n)) := by
 intro j
 induction j with
 | zero =>
  intro k x hj hk hw hl hv hx hs
  obtain ⟨k, rfl⟩ : ∃ i, k = i + 1 := ⟨k - 1, by clear hv hs; omega⟩
  have c1 : ¬ (((0 : Nat) : Int) - 1 ≥ 0) := by decide
  simp only [quot_Pow.l0]
  rw [if_neg c1]
  rw [Nat.pow_zero, Nat.div_one] at hx hs
  rw [bnd_small hs, ← hx]
 | succ j ih =>
  intro k x hj hk hw hl hv hx hs
  obtain ⟨k, rfl⟩ : ∃ i, k = i + 1 := ⟨k - 1, by clear hv hs; omega⟩
  have e1 : ((j + 1 : Nat) : Int) - 1 = (j : Int) := by omega
  have e2 : n / 2 ^ j = 2 * (n / 2 ^ (j + 1)) + n / 2 ^ j % 2 := by
   rw [Nat.pow_succ, ← Nat.div_div_eq_div_mul]
   omega
  have hle : n / 2 ^ j ≤ n := Nat.div_le_self _ _
  have ep : nv x * nv x = nv z ^ (2 * (n / 2 ^ (j + 1))) := by rw [hv, ← Int.pow_add]; congr 1; clear hv hs e1; omega
  have hpos : ∀ m, 0 < nv z ^ m := fun m => Int.pow_pos (by omega)
  have c1 : ((j : Nat) : Int) ≥ 0 := Int.natCast_nonneg _
  have esh : shr .i64 (n : Int) (j : Int) = ((n / 2 ^ j : Nat) : Int) := by
   show (n : Int) / 2 ^ (min (Int.toNat (j : Int)) 64) = _
   rw [Int.toNat_natCast, Nat.min_eq_left (by clear hv hs e1 c1; omega), p2cast, Int.natCast_ediv]
  have ebit : Go.bits .and .i64 ((n / 2 ^ j : Nat) : Int) 1 = ((n / 2 ^ j % 2 : Nat) : Int) := i64_and_one _ (Nat.lt_of_le_of_lt hle hn)
  have ew : wrap64 ((j : Int) - 1) = (j : Int) - 1 := by clear hv hs e1 c1 esh ebit ep; unfold wrap64; omega
  have hlx : x.length * (x.length + 2) ≤ 4096 * 4098 := Nat.mul_le_mul hl (by omega)
  have d1 : x.length * (x.length + 2) + x.length + x.length + 20 < k := by clear hv hs e1 c1 esh ebit ep ew; omega
  have d2 : j + 20000000 < k := by clear hv hs e1 c1 esh ebit ep ew; omega
  have d3 : j ≤ 64 := by clear hv hs e1 c1 esh ebit ep ew; omega
  have dl : x.length ≤ 1000000 := by clear hv hs e1 c1 esh ebit ep ew; omega
  have dz : z.length ≤ 1000000 := by clear hv hs e1 c1 esh ebit ep ew; omega
  have hne : ¬ nv z ^ (2 * (n / 2 ^ (j + 1))) = 0 := Int.ne_of_gt (hpos _)
  simp only [quot_Pow.l0]
  rw [e1, if_pos c1, nat_Mul.f_eq x x hw hw dl dl k d1, ep, if_neg hne]
  simp only [Option.bind_some]
  rw [if_pos c1, esh, ebit, ew]
  clear esh ebit ew e1
  generalize hP : bnd (nv z ^ (2 * (n / 2 ^ (j + 1)))) = P
  have wP : Ws P.1 := by rw [← hP]; exact bnd_fst_ws _
  have lP : P.1.length ≤ 4096 := by rw [← hP]; exact bnd_fst_len _
  have hlP : P.1.length * (z.length + 2) ≤ 4096 * 4098 := Nat.mul_le_mul lP (by clear hv hs ep hne; omega)
  have d4 : P.1.length * (z.length + 2) + P.1.length + z.length + 20 < k := by clear hv hs ep hne; omega
  have dP : P.1.length ≤ 1000000 := by clear hv hs ep hne; omega
  rw [nat_Mul.f_eq P.1 z wP hz dP dz k d4]
  simp only [Option.bind_some]
  by_cases hfit : nv z ^ (2 * (n / 2 ^ (j + 1))) < 2 ^ 262144
  ·have s1 : P.2 = 0 := by rw [← hP]; exact bnd_snd hfit
   have s2 : nv P.1 = nv z ^ (2 * (n / 2 ^ (j + 1))) := by rw [← hP]; exact bnd_fst_nv (Int.le_of_lt (hpos _)) hfit
   rw [if_pos s1, if_pos s1]
   by_cases hbit : n / 2 ^ j % 2 = 1
   ·have b1 : ((n / 2 ^ j % 2 : Nat) : Int) = 1 := by rw [hbit]; rfl
    have e3 : nv P.1 * nv z = nv z ^ (n / 2 ^ j) := by rw [s2, ← Int.pow_succ]; congr 1; rw [hbit] at e2; clear hv hs ep hne b1 s1 s2; omega
    have hne2 : ¬ nv z ^ (n / 2 ^ j) = 0 := Int.ne_of_gt (hpos _)
    rw [if_pos b1, e3, if_neg hne2]
    by_cases hf2 : nv z ^ (n / 2 ^ j) < 2 ^ 262144
    ·rw [bnd_small hf2]
     simp only [if_true]
     exact ih k _ d3 d2 (wd_ws _) (by have := bnd_fst_len (nv z ^ (n / 2 ^ j)); rw [bnd_small hf2] at this; exact this) (by rw [nv_wd]; exact Int.toNat_of_nonneg (Int.le_of_lt (hpos _))) rfl hf2
    ·have hf3 := Int.not_lt.1 hf2
     rw [bnd_big hf3, bnd_big (Int.le_trans hf3 (pow_le_pow hb hle)), if_neg (by decide)]
   ·have b0 : ¬ ((n / 2 ^ j % 2 : Nat) : Int) = 1 := fun h => hbit (by clear hv hs ep hne; omega)
    have e3 : 2 * (n / 2 ^ (j + 1)) = n / 2 ^ j := by clear hv hs ep hne b0 s2 s1; omega
    rw [if_neg b0]
    rw [e3] at hfit s2 hP
    refine ih k _ d3 d2 wP lP s2 ?_ hfit
    rw [← hP, bnd_small hfit]
  ·have hf3 := Int.not_lt.1 hfit
   have s1 : P = ([], 21) := by rw [← hP]; exact bnd_big hf3
   have hle2 : 2 * (n / 2 ^ (j + 1)) ≤ n := by clear hv hs ep hne hfit hf3; omega
   rw [s1, bnd_big (Int.le_trans hf3 (pow_le_pow hb hle2))]
   simp
theorem pow_pow_le {a b : Int} (ha : 0 ≤ a) (h : a ≤ b) (n : Nat) : a ^ n ≤ b ^ n := by
 induction n with
 | zero => simp
 | succ n ih =>
  rw [Int.pow_succ, Int.pow_succ]
  exact Int.mul_le_mul ih h ha (Int.le_trans (Int.pow_nonneg ha) ih)
theorem wd_one : wd 1 = [1] := by rw [wd_pos (by decide)]; rw [show 1 / 18446744073709551616 = 0 from rfl, wd_zero]; rfl
theorem nat_From.one : nat_From.f 1 = some [1] := by
 simp [nat_From.f, nat_Norm.f, strip]
theorem quot_Pow.f_eq (l : List Int) (h : Ws l) (hl : l.length ≤ 4096) (n : Int) (hn : n < 9223372036854775808) (k : Nat) (hk : 30000000 < k) :
  quot_Pow.f k l n = some (if n < 0 then ([], 31) else if n = 0 then ([1], 0) else if nv l < 2 then (strip l, 0) else bnd (nv l ^ n.toNat)) := by
 have hsl := strip_length_le l
 rw [quot_Pow.f, nat_Norm.f, if_pos (by omega)]
 simp only [Option.bind_some]
 have el := nv_strip l
 have wl := h.strip
 rw [nat_Bits.f_eq (strip l) wl (by omega) k (by omega) (by omega), el]
 simp only [Option.bind_some]
 have nz := nv_nonneg h
 by_cases h0 : n < 0
 ·rw [if_pos h0, if_pos h0]
 ·rw [if_neg h0, if_neg h0]
  by_cases h1 : n = 0
  ·rw [if_pos h1, if_pos h1, nat_From.one]; rfl
  ·rw [if_neg h1, if_neg h1]
   obtain ⟨n, rfl⟩ : ∃ j : Nat, n = (j : Int) := ⟨n.toNat, by omega⟩
   rw [Int.toNat_natCast]
   have hb2 : bitsN (nv l) < 2 ↔ nv l < 2 := by
    constructor
    ·intro h2
     have := lt_of_bitsN_le (n := 1) nz (by omega)
     exact this
    ·intro h2
     have := bitsN_le_of_lt (n := 1) nz h2
     omega
   by_cases h2 : nv l < 2
   ·rw [if_pos (hb2.2 h2), if_pos h2]
   ·have hp : 0 < nv l := by omega
    rw [if_neg (fun h3 => h2 (hb2.1 h3)), if_neg h2]
    have b2 : 2 ≤ bitsN (nv l) := by
     have := hb2
     omega
    have bx := bitsN_ge hp
    have bx2 := bitsN_le_of_lt (n := 64 * l.length) nz (nv_lt h)
    generalize ht : bitsN (nv l) = t at *
    clear hb2
    have ew : wrap64 (t - 1) = t - 1 := by clear bx; unfold wrap64; omega
    have hne : ¬ t - 1 = 0 := by clear bx ew; omega
    rw [ew, if_neg hne]
    clear ew
    have hd0 : 0 ≤ 262144 / (t - 1) := Int.ediv_nonneg (by decide) (by clear bx; omega)
    have hd1 : 262144 / (t - 1) ≤ 262144 := Int.ediv_le_self _ (by decide)
    have ew2 : wrap64 (Int.tdiv (262144 : Int) (t - 1)) = 262144 / (t - 1) := by
     rw [Int.tdiv_eq_ediv_of_nonneg (by decide)]
     clear bx
     unfold wrap64; omega
    rw [ew2]
    clear ew2
    by_cases h3 : (n : Int) > 262144 / (t - 1)
    ·rw [if_pos h3, bnd_big]
     have h4 : 262144 < (n : Int) * (t - 1) := Int.lt_mul_of_ediv_lt (by clear bx hd0 hd1; omega) h3
     have h5 := pow_pow_le (Int.le_of_lt (two_pow_pos (t.toNat - 1))) bx n
     rw [← Int.pow_mul] at h5
     refine Int.le_trans (pow_mono ?_) h5
     have e6 : (((t.toNat - 1) * n : Nat) : Int) = (n : Int) * (t - 1) := by
      rw [Int.natCast_mul, Int.mul_comm, show ((t.toNat - 1 : Nat) : Int) = t - 1 from by clear h5 bx h4 hd0 hd1; omega]
     have h7 : (262144 : Int) ≤ (((t.toNat - 1) * n : Nat) : Int) := by rw [e6]; exact Int.le_of_lt h4
     exact Int.ofNat_le.1 h7
    ·have hn2 : n ≤ 262144 := by clear bx; omega
     clear hd0 hd1
     have en : IntKind.u64.wrap (n : Int) = (n : Int) := u64w_of (Int.natCast_nonneg _) (by clear bx h3; omega)
     have hn0 : 0 < (n : Int) := by clear bx h3 en; omega
     rw [if_neg h3, nat_From.one, en]
     simp only [Option.bind_some]
     rw [wide_Len.f_eq (Int.natCast_nonneg _) (by clear bx h3 en; omega) k (by clear bx h3 en; omega)]
     simp only [Option.bind_some]
     have hbn := bitsN_lt hn0
     have hbn2 := bitsN_le_of_lt (n := 63) (Int.natCast_nonneg n) hn
     have hbn0 := bitsN_nonneg (n : Int)
     generalize bitsN (n : Int) = u at *
     obtain ⟨u, rfl⟩ : ∃ j : Nat, u = (j : Int) := ⟨u.toNat, by clear bx h3 en hbn; omega⟩
     have ew3 : wrap64 ((u : Int) - 1) = (u : Int) - 1 := by clear bx h3 en hbn; unfold wrap64; omega
     rw [ew3]
     clear ew3 en
     rw [Int.toNat_natCast, p2cast] at hbn
     have hdz : n / 2 ^ u = 0 := Nat.div_eq_of_lt (Int.ofNat_lt.1 hbn)
     have hone : (1 : Int) < 2 ^ 262144 := Int.lt_of_lt_of_le (show (1 : Int) < 2 ^ 1 by decide) (pow_mono (by decide))
     have r := quot_Pow.l0_eq (strip l) wl (by clear bx h3 hbn hone; omega) (by rw [el]; clear bx h3 hbn hone; omega) n (by clear bx h3 hbn hone; omega) u k [1] (by clear bx h3 hbn hone; omega) (by clear bx h3 hbn hone; omega) (Ws.cons (by decide) (by decide) Ws.nil) (by decide) (by rw [hdz, Int.pow_zero]; rfl) (by rw [hdz, Int.pow_zero]; exact wd_one.symm) (by rw [hdz, Int.pow_zero]; exact hone)
     rw [r, el]
theorem fits {b : Int} (c : Nat) (hb : b = (c : Int)) {n m : Nat} (h : Nat.ble (c ^ n + 1) (2 ^ m) = true) : b ^ n < 2 ^ m := by
 rw [hb, ← Int.natCast_pow, p2cast]
 exact Int.ofNat_lt.2 (Nat.le_of_ble_eq_true h)
theorem five_fits : (5 : Int) ^ 112899 < 2 ^ 262144 := fits 5 rfl (by kernel_rfl)
theorem five_lt {n : Nat} (h : n ≤ 112899) : (5 : Int) ^ n < 2 ^ 262144 := by
 exact Int.lt_of_le_of_lt (pow_le_pow (by decide) h) five_fits
theorem ws_five : Ws [5] := Ws.cons (by decide) (by decide) Ws.nil
theorem radix_Five.f_eq (n : Int) (hn : n < 9223372036854775808) (k : Nat) (hk : 30000000 < k) :
  radix_Five.f k n = some (if n > 112899 then ([], 21) else if n < 0 then ([], 31) else (wd ((5 : Int) ^ n.toNat).toNat, 0)) := by
 rw [radix_Five.f]
 by_cases h : n > 112899
 ·rw [if_pos h, if_pos h]
 ·rw [if_neg h, if_neg h, quot_Pow.f_eq [5] ws_five (by decide) n hn k hk]
  simp only [Option.bind_some]
  have e5 : nv [5] = 5 := rfl
  by_cases h0 : n < 0
  ·rw [if_pos h0, if_pos h0]
  ·rw [if_neg h0, if_neg h0, e5]
   by_cases h1 : n = 0
   ·rw [if_pos h1, h1]
    show some (([1] : List Int), (0 : Int)) = some (wd 1, 0)
    rw [wd_one]
   ·rw [if_neg h1, if_neg (by decide), bnd_small (five_lt (n := n.toNat) (by omega))]
theorem chunkL_spec (b : Int) (hb : 2 ≤ b) : ∀ (k : Nat) (n : Nat), b ^ n < 18446744073709551616 → ∃ m : Nat, n ≤ m ∧ m ≤ n + k ∧ b ^ m < 18446744073709551616 ∧ chunkL b k (b ^ n) n = (b ^ m, (m : Int)) := by
 intro k
 induction k with
 | zero => intro n hn; exact ⟨n, by omega, by omega, hn, rfl⟩
 | succ k ih =>
  intro n hn
  simp only [chunkL]
  by_cases h : b ^ n ≤ 18446744073709551615 / b
  ·rw [if_pos h]
   have h1 : b ^ n * b ≤ 18446744073709551615 := (Int.le_ediv_iff_mul_le (by omega)).1 h
   rw [← Int.pow_succ] at h1 ⊢
   obtain ⟨m, e1, e2, e3, e4⟩ := ih (n + 1) (Int.lt_of_le_of_lt h1 (by decide))
   have en : ((n : Int) + 1) = ((n + 1 : Nat) : Int) := by omega
   rw [en, e4]
   exact ⟨m, by omega, by omega, e3, rfl⟩
  ·rw [if_neg h]
   exact ⟨n, by omega, by omega, hn, rfl⟩
theorem radix_chunk.f_eq (b : Int) (h2 : 2 ≤ b) (h36 : b ≤ 36) : ∃ n : Nat, 1 ≤ n ∧ n ≤ 66 ∧ b ^ n < 18446744073709551616 ∧ radix_chunk.f b = some (b ^ n, (n : Int)) := by
 have := chunkL_spec b h2 65 1 (by rw [Int.pow_one]; omega)
 obtain ⟨m, e1, e2, e3, e4⟩ := this
 rw [Int.pow_one] at e4
 have e4' : chunkL b 65 b 1 = (b ^ m, (m : Int)) := e4
 refine ⟨m, e1, by omega, e3, ?_⟩
 rw [radix_chunk.f, if_pos ⟨h2, h36⟩, e4']
def dg (v : Nat) : Int := bt (⟨#[48, 49, 50, 51, 52, 53, 54, 55, 56, 57, 97, 98, 99, 100, 101, 102, 103, 104, 105, 106, 107, 108, 109, 110, 111, 112, 113, 114, 115, 116, 117, 118, 119, 120, 121, 122]⟩ : ByteArray) (v : Int)
theorem dg_zero : dg 0 = 48 := rfl
theorem dg_val : ∀ v, v < 36 → dg v = if v < 10 then 48 + v else 87 + v := by decide
theorem dg_eq_zero {v : Nat} (h : v < 36) : dg v = 48 ↔ v = 0 := by
 rw [dg_val v h]; split <;> omega
def pad (b : Nat) : Nat → Nat → List Int
 | 0, _ => []
 | m + 1, N => dg (N % b) :: pad b m (N / b)
theorem pad_length (b : Nat) : ∀ m N, (pad b m N).length = m
 | 0, _ => rfl
 | m + 1, N => by rw [pad, List.length_cons, pad_length b m]
theorem pad_add (b : Nat) : ∀ a c N, pad b (a + c) N = pad b a N ++ pad b c (N / b ^ a)
 | 0, c, N => by rw [Nat.zero_add, Nat.pow_zero, Nat.div_one]; rfl
 | a + 1, c, N => by
  rw [show a + 1 + c = (a + c) + 1 from by omega, pad, pad_add b a c, pad, List.cons_append, Nat.div_div_eq_div_mul, Nat.pow_succ, Nat.mul_comm b]
theorem pad_mod (b : Nat) (hb : 0 < b) : ∀ a N, pad b a (N % b ^ a) = pad b a N
 | 0, N => rfl
 | a + 1, N => by
  rw [pad, pad, Nat.pow_succ, Nat.mul_comm (b ^ a), Nat.mod_mul_right_mod, Nat.mod_mul_right_div_self, pad_mod b hb a]
def dgsF (b : Nat) : Nat → Nat → List Int
 | 0, _ => []
 | m + 1, N => if N = 0 then [] else dg (N % b) :: dgsF b m (N / b)
theorem dgsF_zero (b m : Nat) : dgsF b m 0 = [] := by cases m <;> rfl
theorem div_lt_pow {b m N : Nat} (h : N < b ^ (m + 1)) : N / b < b ^ m := by
 rw [Nat.pow_succ, Nat.mul_comm] at h
 exact Nat.div_lt_of_lt_mul h
theorem dgsF_eq (b : Nat) : ∀ m n N, N < b ^ m → N < b ^ n → dgsF b m N = dgsF b n N
 | 0, n, N, h, _ => by
  obtain rfl : N = 0 := by simpa using h
  rw [dgsF_zero, dgsF_zero]
 | m + 1, 0, N, _, h => by
  obtain rfl : N = 0 := by simpa using h
  rw [dgsF_zero, dgsF_zero]
 | m + 1, n + 1, N, h1, h2 => by
  rw [dgsF, dgsF, dgsF_eq b m n (N / b) (div_lt_pow h1) (div_lt_pow h2)]
def dgs (b N : Nat) : List Int := dgsF b N N
theorem dgs_zero (b : Nat) : dgs b 0 = [] := rfl
theorem dgs_of {b : Nat} (hb : 2 ≤ b) {m N : Nat} (h : N < b ^ m) : dgsF b m N = dgs b N := dgsF_eq b m N N h (Nat.lt_pow_self (by omega))
theorem dgs_pos {b : Nat} (hb : 2 ≤ b) {N : Nat} (h : N ≠ 0) : dgs b N = dg (N % b) :: dgs b (N / b) := by
 obtain ⟨M, rfl⟩ : ∃ M, N = M + 1 := ⟨N - 1, by omega⟩
 have h1 : M + 1 < b ^ (M + 1) := Nat.lt_pow_self (by omega)
 conv => lhs; unfold dgs
 rw [dgsF, if_neg h, dgs_of hb (div_lt_pow h1)]
def sz : List Int → List Int
 | [] => []
 | x :: xs => if sz xs = [] then (if x = 48 then [] else [x]) else x :: sz xs
theorem sz_snoc_zero (xs : List Int) : sz (xs ++ [48]) = sz xs := by
 induction xs with
 | nil => rfl
 | cons x xs ih => rw [List.cons_append, sz, ih, ← sz]
theorem sz_snoc_ne (xs : List Int) {c : Int} (h : c ≠ 48) : sz (xs ++ [c]) = xs ++ [c] := by
 induction xs with
 | nil => show sz [c] = [c]; simp [sz, h]
 | cons x xs ih => rw [List.cons_append, sz, ih, if_neg (by simp)]
theorem sz_pad {b : Nat} (hb : 2 ≤ b) (hb36 : b ≤ 36) : ∀ m N, N < b ^ m → sz (pad b m N) = dgsF b m N
 | 0, N, _ => rfl
 | m + 1, N, h => by
  have h1 := div_lt_pow h
  have hm : N % b < b := Nat.mod_lt _ (by omega)
  rw [pad, sz, sz_pad hb hb36 m (N / b) h1, dgsF]
  have hz : dgsF b m (N / b) = [] ↔ N / b = 0 := by
   cases m with
   | zero =>
    have : N / b = 0 := by simpa using h1
    simp [dgsF, this]
   | succ m => rw [dgsF]; by_cases h0 : N / b = 0 <;> simp [h0]
  have hd := dg_eq_zero (v := N % b) (by omega)
  by_cases h0 : N = 0
  ·subst h0
   rw [if_pos rfl, Nat.zero_div, dgsF_zero, if_pos rfl, Nat.zero_mod, if_pos dg_zero]
  ·rw [if_neg h0]
   by_cases h2 : N / b = 0
   ·have h3 : N % b = N := Nat.mod_eq_of_lt ((Nat.div_eq_zero_iff_lt (by omega)).1 h2)
    rw [if_pos (hz.2 h2), if_neg (by rw [hd, h3]; exact h0), hz.2 h2]
   ·rw [if_neg (fun h => h2 (hz.1 h))]
theorem radix_written.l2_eq : ∀ (n k : Nat) (xs : List Int), xs.length = n → n < k → n ≤ 140737488355328 → radix_written.l2 k xs = some (sz xs) := by
 intro n
 induction n with
 | zero =>
  intro k xs hl hk hm
  obtain ⟨k, rfl⟩ : ∃ j, k = j + 1 := ⟨k - 1, by omega⟩
  obtain rfl := List.eq_nil_of_length_eq_zero hl
  rfl
 | succ n ih =>
  intro k xs hl hk hm
  obtain ⟨k, rfl⟩ : ∃ j, k = j + 1 := ⟨k - 1, by omega⟩
  obtain ⟨ys, c, rfl⟩ : ∃ ys c, xs = ys ++ [c] := by
   rcases List.eq_nil_or_concat xs with rfl | ⟨ys, c, rfl⟩
   ·simp at hl
   ·exact ⟨ys, c, by rw [List.concat_eq_append]⟩
  have hl2 : ys.length = n := by simpa using hl
  have ew : wrap64 (((ys ++ [c]).length : Int) - 1) = (ys.length : Int) := by rw [hl]; unfold wrap64; omega
  have er : rd (ys ++ [c]) (ys.length : Int) = c := by
   show (ys ++ [c]).getD ys.length 0 = c
   simp
  have q1 : ((ys ++ [c]).length : Int) > 0 := by rw [hl]; omega
  have q2 : (ys.length : Int) < ((ys ++ [c]).length : Int) := by rw [hl]; omega
  simp only [radix_written.l2]
  rw [ew, er, if_pos q1, if_pos (by omega), if_pos q2, if_pos (Int.le_of_lt q2), Int.toNat_natCast, List.take_left]
  by_cases h : c = 48
  ·rw [if_pos h, h, sz_snoc_zero]
   exact ih k ys hl2 (by omega) (by omega)
  ·rw [if_neg h, sz_snoc_ne ys h]
theorem radix_written.l1_eq (b n : Nat) (hb2 : 2 ≤ b) (hb : b ≤ 36) (hn : n ≤ 100) (p : Int) (q : List Int) : ∀ (d k : Nat) (out : List Int) (r i : Nat), i + d = n → r < 18446744073709551616 → out.length + d ≤ 140737488355328 →
  radix_written.l1 (k + d + 1) b p n out q r n i = radix_written.l0 k q b p n (out ++ pad b d r) := by
 intro d
 induction d with
 | zero =>
  intro k out r i hd hr hl
  conv => lhs; unfold radix_written.l1
  rw [if_neg (by omega)]
  show _ = radix_written.l0 k q b p n (out ++ [])
  rw [List.append_nil]
 | succ d ih =>
  intro k out r i hd hr hl
  have eb : IntKind.u64.wrap (b : Int) = (b : Int) := u64w_of (by omega) (by omega)
  have em : Int.tmod (r : Int) (b : Int) = ((r % b : Nat) : Int) := by rw [Int.tmod_eq_emod_of_nonneg (by omega)]; rfl
  have hmod : r % b < b := Nat.mod_lt _ (by omega)
  have hdiv : r / b ≤ r := Nat.div_le_self _ _
  have ed : IntKind.u64.wrap (Int.tdiv (r : Int) (b : Int)) = ((r / b : Nat) : Int) := by
   rw [Int.tdiv_eq_ediv_of_nonneg (by omega)]
   have : (r : Int) / (b : Int) = ((r / b : Nat) : Int) := rfl
   rw [this]
   have h3 : r / b < 18446744073709551616 := Nat.lt_of_le_of_lt hdiv hr
   clear this em eb hdiv
   exact u64w_of (Int.natCast_nonneg _) (Int.ofNat_lt.2 h3)
  have ew := w64_succ i (by omega)
  have c1 : (i : Int) < (n : Int) := by clear em ed eb ew; omega
  have c2 : ¬ (b : Int) = 0 := by clear em ed eb ew; omega
  have c3 : (0 : Int) ≤ ((r % b : Nat) : Int) := Int.natCast_nonneg _
  have c4 : ((r % b : Nat) : Int) < 36 := Int.ofNat_lt.2 (Nat.lt_of_lt_of_le hmod hb)
  have c5 : out.length < 140737488355328 := by clear em ed eb ew; omega
  have c6 : i + 1 + d = n := by clear em ed eb ew; omega
  have c7 : r / b < 18446744073709551616 := Nat.lt_of_le_of_lt hdiv hr
  rw [show k + (d + 1) + 1 = (k + d + 1) + 1 from by clear em ed eb ew; omega]
  conv => lhs; unfold radix_written.l1
  rw [eb, em, ed, ew, if_pos c1, if_neg c2, if_pos c3, if_pos c4, if_pos c5]
  have h := ih k (out ++ [dg (r % b)]) (r / b) (i + 1) c6 c7 (by rw [List.length_append, List.length_singleton]; clear em ed eb ew; omega)
  rw [List.append_assoc] at h
  exact h
theorem wd_length_mono {x : List Int} (h : Ws x) {n : Int} (h0 : n ≤ nv x) : (wd n.toNat).length ≤ x.length := by
 apply wd_len_int
 have := nv_lt h
 omega
theorem radix_written.l0_eq (b n : Nat) (hb2 : 2 ≤ b) (hb : b ≤ 36) (hn1 : 1 ≤ n) (hn : n ≤ 66) (hp : (b : Int) ^ n < 18446744073709551616) (M : Nat) (hM : M ≤ 1000000) : ∀ (j k : Nat) (x out : List Int), Ws x → strip x = x → x.length ≤ M → nv x < 2 ^ j → j ≤ 64 * M → j * (n + 2) + 70000000 * 66 + 10 < k → out.length + 66 * j ≤ 70000000 * 66 →
  ∃ m, nv x < ((b ^ m : Nat) : Int) ∧ radix_written.l0 k x b ((b : Int) ^ n) n out = some (sz (out ++ pad b m (nv x).toNat)) := by
 intro j
 induction j with
 | zero =>
  intro k x out hw hs hl hx hj hk ho
  obtain ⟨k, rfl⟩ : ∃ i, k = i + 1 := ⟨k - 1, by omega⟩
  have h0 := nv_nonneg hw
  rw [Int.pow_zero] at hx
  have h1 : nv x = 0 := by omega
  have h2 : x = [] := by
   rcases Nat.eq_zero_or_pos (strip x).length with h3 | h3
   ·rw [hs] at h3; exact List.eq_nil_of_length_eq_zero h3
   ·have := (strip_length_pos hw).1 h3; omega
  subst h2
  refine ⟨0, by simp [nv], ?_⟩
  simp only [radix_written.l0]
  rw [if_neg (by simp), radix_written.l2_eq out.length k out rfl (by omega) (by omega)]
  show _ = some (sz (out ++ []))
  rw [List.append_nil]
 | succ j ih =>
  intro k x out hw hs hl hx hj hk ho
  have hk' : j * (n + 2) + (n + 2) + 70000000 * 66 + 10 < k := by rw [Nat.succ_mul] at hk; exact hk
  by_cases h2 : x = []
  ·subst h2
   obtain ⟨k, rfl⟩ : ∃ i, k = i + 1 := ⟨k - 1, by omega⟩
   refine ⟨0, by simp [nv], ?_⟩
   simp only [radix_written.l0]
   rw [if_neg (by simp), radix_written.l2_eq out.length k out rfl (by omega) (by omega)]
   show _ = some (sz (out ++ []))
   rw [List.append_nil]
  ·obtain ⟨i, rfl⟩ : ∃ i, k = (i + n + 1) + 1 := ⟨k - (n + 2), by omega⟩
   have hlen : 0 < x.length := List.length_pos_iff.2 h2
   have h0 := nv_nonneg hw
   have hbn : (b : Int) ^ n = ((b ^ n : Nat) : Int) := (Int.natCast_pow b n).symm
   have hP2 : 2 ≤ b ^ n := by
    have : b ^ 1 ≤ b ^ n := Nat.pow_le_pow_right (by omega) hn1
    rw [Nat.pow_one] at this
    omega
   rw [hbn] at hp ⊢
   have hP : b ^ n < 18446744073709551616 := Int.ofNat_lt.1 hp
   obtain ⟨N, hN⟩ : ∃ N : Nat, nv x = (N : Int) := ⟨(nv x).toNat, by omega⟩
   have e1 : nv x / ((b ^ n : Nat) : Int) = ((N / b ^ n : Nat) : Int) := by rw [hN]; rfl
   have e2 : nv x % ((b ^ n : Nat) : Int) = ((N % b ^ n : Nat) : Int) := by rw [hN]; rfl
   have c1 : (x.length : Int) > 0 := Int.ofNat_lt.2 hlen
   have c2 : (0 : Int) < ((b ^ n : Nat) : Int) := by omega
   have c3 : x.length ≤ 35184372088832 := by omega
   have c4 : x.length < i + n + 1 := by omega
   have c5 : N % b ^ n < 18446744073709551616 := Nat.lt_trans (Nat.mod_lt _ (by omega)) hP
   have c6 : out.length + n ≤ 140737488355328 := by omega
   have hdl : ((N / b ^ n : Nat) : Int) ≤ nv x := by rw [hN]; exact Int.ofNat_le.2 (Nat.div_le_self _ _)
   have hw2 := wd_length_mono hw hdl
   have hdx : ((N / b ^ n : Nat) : Int) < 2 ^ j := by
    rw [p2cast]
    rw [hN, p2cast] at hx
    have hx' := Int.ofNat_lt.1 hx
    rw [Nat.pow_succ] at hx'
    apply Int.ofNat_lt.2
    apply Nat.div_lt_of_lt_mul
    exact Nat.lt_of_lt_of_le hx' (by rw [Nat.mul_comm]; exact Nat.mul_le_mul_right _ hP2)
   have h9 := ih (i) (wd (N / b ^ n)) (out ++ pad b n (N % b ^ n)) (wd_ws _) (strip_wd _) (Nat.le_trans hw2 hl) (by rw [nv_wd]; exact hdx) (by omega) (by omega) (by rw [List.length_append, pad_length]; omega)
   rw [nv_wd, hbn] at h9
   obtain ⟨m, e3, e4⟩ := h9
   refine ⟨n + m, ?_, ?_⟩
   ·rw [hN, Nat.pow_add]
    apply Int.ofNat_lt.2
    have := Int.ofNat_lt.1 e3
    rw [Nat.mul_comm]
    exact (Nat.div_lt_iff_lt_mul (by omega)).1 this
   ·simp only [radix_written.l0]
    rw [if_pos c1, quot_Small.f_eq x hw _ c2 hp c3 _ c4, e1, e2]
    simp only [Option.bind_some]
    have e5 := radix_written.l1_eq b n hb2 hb (by omega) ((b ^ n : Nat) : Int) (wd (N / b ^ n)) n i out (N % b ^ n) 0 (by omega) c5 c6
    have e6 : radix_written.l1 (i + n + 1) b ((b ^ n : Nat) : Int) n out (wd (N / b ^ n)) ((N % b ^ n : Nat) : Int) n 0 = radix_written.l0 i (wd (N / b ^ n)) b ((b ^ n : Nat) : Int) n (out ++ pad b n (N % b ^ n)) := e5
    have e7 : (((N / b ^ n : Nat) : Int)).toNat = N / b ^ n := Int.toNat_natCast _
    have e8 : (nv x).toNat = N := by rw [hN]; exact Int.toNat_natCast _
    rw [e7, e6, e4, e7, e8, List.append_assoc, pad_mod b (by omega), pad_add]
theorem radix_written.f_eq (b : Nat) (hb2 : 2 ≤ b) (hb : b ≤ 36) (x : List Int) (hw : Ws x) (hl : x.length ≤ 1000000) (k : Nat) (hk : 9000000000 < k) : radix_written.f k x b = some (dgs b (nv x).toNat) := by
 obtain ⟨n, h1, h2, h3, h4⟩ := radix_chunk.f_eq b (by omega) (by omega)
 have hs := strip_length_le x
 have hwl := nv_lt hw.strip
 have hmul : 64 * x.length * (n + 2) ≤ 64 * 1000000 * 68 := Nat.mul_le_mul (by omega) (by omega)
 obtain ⟨m, e1, e2⟩ := radix_written.l0_eq b n hb2 hb h1 h2 h3 x.length hl (64 * x.length) k (strip x) [] hw.strip (strip_strip x) hs (by rw [nv_strip]; exact nv_lt hw) (Nat.le_refl _) (by omega) (by simp; omega)
 rw [nv_strip] at e1 e2
 have e3 : (nv x).toNat < b ^ m := by have := nv_nonneg hw; omega
 rw [radix_written.f, h4]
 simp only [Option.bind_some]
 rw [nat_Norm.f, if_pos (by omega)]
 simp only [Option.bind_some]
 rw [e2, List.nil_append, sz_pad hb2 hb m _ e3, dgs_of hb2 e3]
theorem slices_Reverse_byte_byte.l0_eq (xs : List Int) (hm : xs.length ≤ 140737488355328) : ∀ (d k i : Nat) (cur : List Int), xs.length - i = d → 2 * i ≤ xs.length + 1 → d < k → cur.length = xs.length →
  (∀ t, t < xs.length → cur.getD t 0 = if t < i ∨ xs.length ≤ t + i then xs.getD (xs.length - 1 - t) 0 else xs.getD t 0) →
  slices_Reverse_byte_byte.l0 k cur (i : Int) ((xs.length : Int) - 1 - i) = some xs.reverse := by
 intro d
 induction d with
 | zero =>
  intro k i cur hd hi hk hl hc
  obtain ⟨k, rfl⟩ : ∃ j, k = j + 1 := ⟨k - 1, by omega⟩
  simp only [slices_Reverse_byte_byte.l0]
  rw [if_neg (by omega)]
  congr 1
  apply List.ext_getElem (by simp [hl])
  intro t h1 h2
  have := hc t (by omega)
  rw [if_pos (by omega), List.getD_eq_getElem?_getD, List.getElem?_eq_getElem h1, List.getD_eq_getElem?_getD, List.getElem?_eq_getElem (by omega)] at this
  rw [List.getElem_reverse]
  exact this
 | succ d ih =>
  intro k i cur hd hi hk hl hc
  obtain ⟨k, rfl⟩ : ∃ j, k = j + 1 := ⟨k - 1, by omega⟩
  simp only [slices_Reverse_byte_byte.l0]
  by_cases h : (i : Int) < (xs.length : Int) - 1 - i
  ·have e1 : wrap64 ((i : Int) + 1) = ((i + 1 : Nat) : Int) := w64_succ i (by omega)
   have e2 : wrap64 ((xs.length : Int) - 1 - i - 1) = (xs.length : Int) - 1 - ((i + 1 : Nat) : Int) := by clear e1; unfold wrap64; omega
   have e3 : ((xs.length : Int) - 1 - i).toNat = xs.length - 1 - i := by clear e1 e2; omega
   have e4 : rd cur ((xs.length : Int) - 1 - i) = cur.getD (xs.length - 1 - i) 0 := by show cur.getD _ 0 = _; rw [e3]
   have e5 : rd cur (i : Int) = cur.getD i 0 := rfl
   have q1 : (0 : Int) ≤ (xs.length : Int) - 1 - i := by clear e1 e2; omega
   have q2 : (xs.length : Int) - 1 - i < (cur.length : Int) := by clear e1 e2; omega
   have q3 : (0 : Int) ≤ (i : Int) := Int.natCast_nonneg _
   have q4 : (i : Int) < (cur.length : Int) := by clear e1 e2; omega
   have q5 : xs.length - (i + 1) = d := by clear e1 e2; omega
   have q6 : 2 * (i + 1) ≤ xs.length + 1 := by clear e1 e2; omega
   have q7 : d < k := by clear e1 e2; omega
   rw [if_pos h, if_pos q1, if_pos q2, if_pos q3, if_pos q4, e1, e2, e3, e4, e5, Int.toNat_natCast]
   refine ih k (i + 1) _ q5 q6 q7 (by rw [List.length_set, List.length_set]; exact hl) ?_
   clear e1 e2 e3 e4 e5 ih
   intro t ht
   have g1 := hc i (by omega)
   have g2 := hc (xs.length - 1 - i) (by omega)
   have g3 := hc t ht
   rw [if_neg (by omega)] at g1 g2
   by_cases ht1 : t = xs.length - 1 - i
   ·subst ht1
    rw [List.getD_eq_getElem?_getD, List.getElem?_set_self (by rw [List.length_set]; omega), if_pos (by omega), show xs.length - 1 - (xs.length - 1 - i) = i from by omega]
    exact g1
   ·rw [set_getD_ne (Ne.symm ht1)]
    by_cases ht2 : t = i
    ·subst ht2
     rw [List.getD_eq_getElem?_getD, List.getElem?_set_self (by omega), if_pos (by omega)]
     exact g2
    ·rw [set_getD_ne (Ne.symm ht2), g3]
     by_cases h5 : t < i ∨ xs.length ≤ t + i
     ·rw [if_pos h5, if_pos (by omega)]
     ·rw [if_neg h5, if_neg (by omega)]
  ·rw [if_neg h]
   congr 1
   apply List.ext_getElem (by simp [hl])
   intro t h1 h2
   have := hc t (by omega)
   rw [List.getElem_reverse]
   by_cases h5 : t < i ∨ xs.length ≤ t + i
   ·rw [if_pos h5, List.getD_eq_getElem?_getD, List.getElem?_eq_getElem h1, List.getD_eq_getElem?_getD, List.getElem?_eq_getElem (by omega)] at this
    exact this
   ·rw [if_neg h5, List.getD_eq_getElem?_getD, List.getElem?_eq_getElem h1, List.getD_eq_getElem?_getD, List.getElem?_eq_getElem (by omega)] at this
    have ht : xs.length - 1 - t = t := by omega
    simp only [Option.getD_some] at this
    simp only [ht]
    exact this
theorem slices_Reverse_byte_byte.f_eq (xs : List Int) (hm : xs.length ≤ 140737488355328) (k : Nat) (hk : xs.length < k) : slices_Reverse_byte_byte.f k xs = some xs.reverse := by
 have ew : wrap64 ((xs.length : Int) - 1) = (xs.length : Int) - 1 - ((0 : Nat) : Int) := by unfold wrap64; omega
 rw [slices_Reverse_byte_byte.f, ew]
 exact slices_Reverse_byte_byte.l0_eq xs hm xs.length k 0 xs (by omega) (by omega) hk rfl (fun t ht => by rw [if_neg (by omega)])
theorem dgsF_length_le (b : Nat) : ∀ m N, (dgsF b m N).length ≤ m
 | 0, _ => Nat.le_refl _
 | m + 1, N => by
  rw [dgsF]
  split
  ·exact Nat.zero_le _
  ·rw [List.length_cons]; have := dgsF_length_le b m (N / b); omega
theorem dgs_length_le {b : Nat} (hb : 2 ≤ b) {m N : Nat} (h : N < b ^ m) : (dgs b N).length ≤ m := by
 rw [← dgs_of hb h]; exact dgsF_length_le b m N
theorem dgs_length_bits {b : Nat} (hb : 2 ≤ b) {m N : Nat} (h : N < 2 ^ m) : (dgs b N).length ≤ m := dgs_length_le hb (Nat.lt_of_lt_of_le h (Nat.pow_le_pow_left hb m))
theorem strip_nil_iff {xs : List Int} (h : Ws xs) : strip xs = [] ↔ nv xs = 0 := by
 have h1 := strip_length_pos h
 have h2 := nv_nonneg h
 constructor
 ·intro h3; rw [h3] at h1; simp at h1; omega
 ·intro h3; exact List.eq_nil_of_length_eq_zero (by omega)
theorem radix_based.f_eq (b : Int) : radix_based.f b = some (decide (2 ≤ b ∧ b ≤ 36)) := by
 rw [radix_based.f]
 by_cases h : b ≥ 2
 ·rw [if_pos h]; congr 1; rw [decide_eq_decide]; exact ⟨fun h1 => ⟨h, h1⟩, fun h1 => h1.2⟩
 ·rw [if_neg h]; congr 1; symm; rw [decide_eq_false_iff_not]; exact fun h1 => h h1.1
def txt (b N : Nat) : ByteArray := if N = 0 then ⟨#[48]⟩ else strOfNums (dgs b N).reverse
theorem radix_Text.f_eq (b : Nat) (hb2 : 2 ≤ b) (hb : b ≤ 36) (x : List Int) (hw : Ws x) (hl : x.length ≤ 35184372088832) (h : nv x < (2 : Int) ^ 262144) (k : Nat) (hk : 9000000000 < k) : radix_Text.f k x b = some (txt b (nv x).toNat, 0) := by
 have h1 := strip_len_le hw 4096
 have h2 : (strip x).length ≤ 4096 := h1.2 h
 have hn := nv_nonneg hw
 rw [radix_Text.f, radix_based.f_eq, decide_eq_true (by omega)]
 simp only [Option.bind_some, if_true]
 rw [nat_Norm.f, if_pos hl]
 simp only [Option.bind_some]
 rw [if_neg (by clear h h1; omega)]
 by_cases h0 : nv x = 0
 ·rw [(strip_nil_iff hw).2 h0, h0]
  rfl
 ·have h3 : ¬ ((strip x).length : Int) = 0 := by
   intro h4
   exact h0 ((strip_nil_iff hw).1 (List.eq_nil_of_length_eq_zero (by clear h h1; omega)))
  have h5 : (nv x).toNat < 2 ^ 262144 := by
   rw [p2cast] at h
   clear h1
   generalize 2 ^ 262144 = p at *
   omega
  have h6 := dgs_length_bits hb2 h5
  rw [if_neg h3, radix_written.f_eq b hb2 hb (strip x) hw.strip (by clear h h1 h5; omega) k hk, nv_strip]
  simp only [Option.bind_some]
  rw [slices_Reverse_byte_byte.f_eq _ (Nat.le_trans h6 (by decide)) k (Nat.lt_of_le_of_lt h6 (Nat.lt_trans (by decide) hk))]
  simp only [Option.bind_some]
  rw [txt, if_neg (by clear h h1 h5; omega)]
theorem bitsN_gt {v : Int} (h : 0 ≤ v) (n : Nat) : bitsN v > n ↔ (2 : Int) ^ n ≤ v := by
 constructor
 ·intro h1
  apply Classical.byContradiction
  intro hc
  have := bitsN_le_of_lt (n := n) h (Int.not_le.1 hc)
  omega
 ·intro h1
  apply Classical.byContradiction
  intro hc
  have hp := two_pow_pos n
  have hv : 0 < v := by omega
  have h2 := bitsN_lt hv
  have h3 := bitsN_nonneg v
  have h4 : (2 : Int) ^ (bitsN v).toNat ≤ 2 ^ n := pow_mono (by clear h1 h2 hp; omega)
  omega
theorem bitsN_dec {v : Int} (h : 0 ≤ v) (n : Nat) (c : Int) (hc : c = (n : Int)) : decide (bitsN v > c) = decide ((2 : Int) ^ n ≤ v) := by
 rw [hc, decide_eq_decide]
 exact bitsN_gt h n
theorem dgs_nil_iff {b N : Nat} (hb : 2 ≤ b) : dgs b N = [] ↔ N = 0 := by
 constructor
 ·intro h
  apply Classical.byContradiction
  intro h0
  rw [dgs_pos hb h0] at h
  simp at h
 ·intro h; rw [h]; rfl
theorem tens_split : ∀ N : Nat, N ≠ 0 → ∃ u v, N = u * 10 ^ v ∧ u % 10 ≠ 0 := by
 intro N
 induction N using Nat.strongRecOn with
 | _ N ih =>
  intro h
  by_cases h1 : N % 10 = 0
  ·obtain ⟨u, v, e1, e2⟩ := ih (N / 10) (by omega) (by omega)
   refine ⟨u, v + 1, ?_, e2⟩
   rw [Nat.pow_succ, ← Nat.mul_assoc, ← e1]
   omega
  ·exact ⟨N, 0, by rw [Nat.pow_zero, Nat.mul_one], h1⟩
theorem two_le_ten {n v : Nat} (h : n ≤ v) : 2 ^ n ≤ 10 ^ v := Nat.le_trans (Nat.pow_le_pow_left (by decide) n) (Nat.pow_le_pow_right (by decide) h)
theorem radix_Trim.l0_eq (u : Nat) (hu : u % 10 ≠ 0) : ∀ (v k c : Nat) (x : List Int), Ws x → strip x = x → x.length ≤ 1000000 → (nv x).toNat = u * 10 ^ v → v + 1000010 < k → c + v < 4611686018427387904 →
  radix_Trim.l0 k x (c : Int) = some (wd u, ((c + v : Nat) : Int)) := by
 intro v
 induction v with
 | zero =>
  intro k c x hw hs hl hx hk hc
  obtain ⟨k, rfl⟩ : ∃ j, k = j + 1 := ⟨k - 1, by omega⟩
  rw [Nat.pow_zero, Nat.mul_one] at hx
  have hn := nv_nonneg hw
  have e1 : nv x % 10 ≠ 0 := by omega
  simp only [radix_Trim.l0]
  rw [quot_Small.f_eq x hw 10 (by decide) (by decide) (by omega) k (by omega)]
  simp only [Option.bind_some]
  rw [if_neg e1, ← hx, wd_nv hw, hs, Nat.add_zero]
 | succ v ih =>
  intro k c x hw hs hl hx hk hc
  obtain ⟨k, rfl⟩ : ∃ j, k = j + 1 := ⟨k - 1, by omega⟩
  have hn := nv_nonneg hw
  have hx2 : (nv x).toNat = u * 10 ^ v * 10 := by rw [hx, Nat.pow_succ, Nat.mul_assoc]
  have e1 : nv x % 10 = 0 := by clear hx; generalize u * 10 ^ v = p at hx2; omega
  have e2 : (nv x / 10).toNat = u * 10 ^ v := by clear hx; generalize u * 10 ^ v = p at hx2 ⊢; omega
  have e3 : nv x / 10 ≤ nv x := by clear hx hx2 e2; omega
  have hl2 := wd_length_mono hw e3
  have ew := w64_succ c (by omega)
  simp only [radix_Trim.l0]
  rw [quot_Small.f_eq x hw 10 (by decide) (by decide) (by omega) k (by omega)]
  simp only [Option.bind_some]
  rw [if_pos e1, ew, e2]
  clear ew
  rw [e2] at hl2
  have h := ih k (c + 1) (wd (u * 10 ^ v)) (wd_ws _) (strip_wd _) (Nat.le_trans hl2 hl) (by rw [nv_wd]; exact Int.toNat_natCast _) (by omega) (by omega)
  rw [h]
  congr 3
  omega
theorem tens_few {m N u v : Nat} (hp : N < 2 ^ m) (hx : N = u * 10 ^ v) (hu : u ≠ 0) : v < m := by
 apply Classical.byContradiction
 intro hc
 have h3 : 2 ^ m ≤ 10 ^ v := two_le_ten (Nat.not_lt.1 hc)
 have h4 : 1 * 10 ^ v ≤ u * 10 ^ v := Nat.mul_le_mul_right _ (Nat.one_le_iff_ne_zero.2 hu)
 rw [Nat.one_mul, ← hx] at h4
 exact Nat.not_le.2 hp (Nat.le_trans h3 h4)
theorem radix_Trim.f_eq (x : List Int) (hw : Ws x) (hl : x.length ≤ 35184372088832) (h : nv x < (2 : Int) ^ 262144) (u v : Nat) (hu : u % 10 ≠ 0) (hx : (nv x).toNat = u * 10 ^ v) (k : Nat) (hk : 2000000 < k) : radix_Trim.f k x = some (wd u, (v : Int)) := by
 have h2 : (strip x).length ≤ 4096 := (strip_len_le hw 4096).2 h
 have hn := nv_nonneg hw
 have hp : (nv x).toNat < 2 ^ 262144 := by
  rw [p2cast] at h
  clear hx
  generalize 2 ^ 262144 = p at *
  omega
 have hv : v < 262144 := tens_few hp hx (fun h => hu (by rw [h]))
 have h0 : nv x ≠ 0 := by
  intro h0
  rw [h0] at hx
  have h5 : 0 < 10 ^ v := Nat.pow_pos (by decide)
  have : u = 0 := by
   rcases Nat.mul_eq_zero.1 hx.symm with h6 | h6
   ·exact h6
   ·clear h; omega
  subst this
  exact hu rfl
 have h3 : ¬ ((strip x).length : Int) = 0 := by
  intro h4
  exact h0 ((strip_nil_iff hw).1 (List.eq_nil_of_length_eq_zero (by clear h h0 hx hp; omega)))
 rw [radix_Trim.f, nat_Norm.f, if_pos hl]
 simp only [Option.bind_some]
 rw [if_neg h3]
 have := radix_Trim.l0_eq u hu v k 0 (strip x) hw.strip (strip_strip x) (by clear h h0 hx hp; omega) (by rw [nv_strip]; exact hx) (by clear h h0 hx hp; omega) (by clear h h0 hx hp; omega)
 rw [Nat.zero_add] at this
 exact this
theorem over {b : Int} (c : Nat) (hb : b = (c : Int)) {n m : Nat} (h : Nat.ble (2 ^ m) (c ^ n) = true) : (2 : Int) ^ m ≤ b ^ n := by
 rw [hb, ← Int.natCast_pow, p2cast]
 exact Int.ofNat_le.2 (Nat.le_of_ble_eq_true h)
theorem bitsN_half {v : Int} (h : 0 < v) : bitsN v = 1 + bitsN (v / 2) := by
 by_cases h1 : v = 1
 ·subst h1; rfl
 ·have := bitsN_div (x := v) 1 (by omega)
  rw [this]
  rfl
theorem plumbref03_Bits.l1_eq : ∀ (d k : Nat) (n v : Int), 0 ≤ v → v < 2 ^ d → d < k → 0 ≤ n → n + d < 4611686018427387904 → plumbref03_Bits.l1 k n v = some (n + bitsN v) := by
 intro d
 induction d with
 | zero =>
  intro k n v h0 hv hk hn hb
  obtain ⟨k, rfl⟩ : ∃ j, k = j + 1 := ⟨k - 1, by omega⟩
  obtain rfl : v = 0 := by rw [Int.pow_zero] at hv; omega
  simp only [plumbref03_Bits.l1]
  rw [if_neg (by decide), bitsN_zero, Int.add_zero]
 | succ d ih =>
  intro k n v h0 hv hk hn hb
  obtain ⟨k, rfl⟩ : ∃ j, k = j + 1 := ⟨k - 1, by omega⟩
  simp only [plumbref03_Bits.l1]
  by_cases h : v > 0
  ·have hd : v / 2 < 2 ^ d := by
    rw [Int.pow_succ] at hv
    exact Int.ediv_lt_of_lt_mul (by decide) hv
   have ew : wrap64 (n + 1) = n + 1 := by clear hd hv; unfold wrap64; omega
   rw [if_pos h, ew, ih k (n + 1) (v / 2) (by clear hd hv ew; omega) hd (by clear hd hv ew; omega) (by clear hd hv ew; omega) (by clear hd hv ew; omega), bitsN_half h]
   congr 1
   clear hd hv ew
   omega
  ·rw [if_neg h]
   obtain rfl : v = 0 := by clear hv; omega
   rw [bitsN_zero, Int.add_zero]
theorem plumbref03_Bits.l0_eq (x : List Int) (hx : Ws x) (hm : x.length ≤ 17592186044416) : ∀ (n k : Nat), n ≤ x.length → n + 70 < k → nv x = nv (x.take n) → plumbref03_Bits.l0 k x ((n : Int) - 1) = some (bitsN (nv x)) := by
 intro n
 induction n with
 | zero =>
  intro k hn hk hv
  obtain ⟨k, rfl⟩ : ∃ j, k = j + 1 := ⟨k - 1, by omega⟩
  simp only [plumbref03_Bits.l0]
  rw [if_neg (by omega), hv]
  rfl
 | succ n ih =>
  intro k hn hk hv
  obtain ⟨k, rfl⟩ : ∃ j, k = j + 1 := ⟨k - 1, by omega⟩
  have ho := hx.getD n
  have en : ((n + 1 : Nat) : Int) - 1 = (n : Int) := by omega
  have er : rd x (n : Int) = x.getD n 0 := rfl
  have c1 : (n : Int) ≥ 0 := Int.natCast_nonneg _
  have c2 : (n : Int) < (x.length : Int) := Int.ofNat_lt.2 hn
  have ew : wrap64 (64 * (n : Int)) = 64 * (n : Int) := by unfold wrap64; omega
  have ew1 : wrap64 ((n : Int) - 1) = (n : Int) - 1 := by clear ew; unfold wrap64; omega
  rw [nv_take_succ hn] at hv
  simp only [plumbref03_Bits.l0]
  rw [en, if_pos c1, if_pos c1, if_pos c2, er, ew, ew1]
  clear ew ew1 er en
  have h1 := nv_nonneg (hx.take n)
  have h2 := nv_lt (hx.take n)
  rw [List.length_take, Nat.min_eq_left (by omega)] at h2
  have hp := two_pow_pos (64 * n)
  by_cases h : x.getD n 0 > 0
  ·rw [if_pos h, plumbref03_Bits.l1_eq 64 k _ _ ho.1 ho.2 (by clear hv h2 hp; omega) (by clear hv h2 hp; omega) (by clear hv h2 hp; omega)]
   have hge : (2 : Int) ^ (64 * n) ≤ nv x := by
    rw [hv]
    have := Int.mul_le_mul_of_nonneg_right (show 1 ≤ x.getD n 0 from h) (Int.le_of_lt hp)
    rw [Int.one_mul] at this
    clear h2
    omega
   have hd : nv x / 2 ^ (64 * n) = x.getD n 0 := by rw [hv, Int.add_mul_ediv_right _ _ (Int.ne_of_gt hp), Int.ediv_eq_zero_of_lt h1 h2, Int.zero_add]
   rw [bitsN_div (64 * n) hge, hd]
   congr 1
  ·rw [if_neg h]
   have h0 : x.getD n 0 = 0 := by clear hv h2 hp; omega
   rw [h0, Int.zero_mul, Int.add_zero] at hv
   exact ih k (by clear hv h2 hp; omega) (by clear hv h2 hp; omega) hv
theorem plumbref03_Bits.f_eq (x : List Int) (hx : Ws x) (hm : x.length ≤ 17592186044416) (k : Nat) (hk : x.length + 70 < k) : plumbref03_Bits.f k x = some (bitsN (nv x)) := by
 have ew : wrap64 ((x.length : Int) - 1) = (x.length : Int) - 1 := by unfold wrap64; omega
 rw [plumbref03_Bits.f, ew]
 exact plumbref03_Bits.l0_eq x hx hm x.length k (Nat.le_refl _) hk (by rw [List.take_length])
theorem plumbref04_TooLong.f_eq (x : List Int) (hx : Ws x) (hm : x.length ≤ 100000000) (k : Nat) (hk : x.length + 70 < k) : plumbref04_TooLong.f k x = some (decide ((2 : Int) ^ 262144 ≤ nv x)) := by
 rw [plumbref04_TooLong.f, plumbref03_Bits.f_eq x hx (by omega) k hk, Option.bind_some, bitsN_dec (nv_nonneg hx) 262144 262144 rfl]
theorem hv_nonneg {xs : List Int} (h : Hs xs) : 0 ≤ hv xs := by
 induction xs with
 | nil => exact Int.le_refl _
 | cons x xs ih =>
  rw [hv_cons]
  have h1 := h x (List.mem_cons_self ..)
  have h2 := ih (fun y hy => h y (List.mem_cons_of_mem _ hy))
  omega
theorem hv_strip (xs : List Int) : hv (strip xs) = hv xs := by
 induction xs with
 | nil => rfl
 | cons x xs ih =>
  rw [strip_cons, hv_cons, ← ih]
  by_cases h : strip xs = []
  ·rw [if_pos h, h]
   by_cases h0 : x = 0
   ·rw [if_pos h0, h0]; rfl
   ·rw [if_neg h0]; rfl
  ·rw [if_neg h, hv_cons]
theorem Hs.strip {xs : List Int} (h : Hs xs) : Hs (strip xs) := by
 rw [strip_take]
 exact fun y hy => h y (List.mem_of_mem_take hy)
theorem Hs.append {xs ys : List Int} (h : Hs xs) (h' : Hs ys) : Hs (xs ++ ys) := by
 intro y hy
 rcases List.mem_append.1 hy with hy | hy
 ·exact h y hy
 ·exact h' y hy
theorem hv_pos {xs : List Int} (h : Hs xs) (hs : strip xs = xs) (hne : xs ≠ []) : 0 < hv xs := by
 have h1 := hv_nonneg h
 apply Classical.byContradiction
 intro hc
 have h0 : hv xs = 0 := by omega
 have hz : ∀ ys : List Int, Hs ys → hv ys = 0 → ∀ y ∈ ys, y = 0 := by
  intro ys
  induction ys with
  | nil => intro _ _ y hy; simp at hy
  | cons z zs ih =>
   intro hz h2 y hy
   rw [hv_cons] at h2
   have h3 := hz z (List.mem_cons_self ..)
   have h4 := hv_nonneg (xs := zs) (fun y hy => hz y (List.mem_cons_of_mem _ hy))
   rcases List.mem_cons.1 hy with rfl | hy
   ·omega
   ·exact ih (fun y hy => hz y (List.mem_cons_of_mem _ hy)) (by omega) y hy
 have h2 := strip_eq_nil.2 (hz xs h h0)
 rw [hs] at h2
 exact hne h2
theorem plumbref04_limbs.l0_eq (x : List Int) (hx : Ws x) (hm : x.length ≤ 10000000) : ∀ (d k : Nat) (acc : List Int) (i : Nat), x.length - i = d → i ≤ x.length → d + 2 * x.length + 1 < k → acc.length = 2 * i → Hs acc → hv acc = nv (x.take i) →
  ∃ r, plumbref04_limbs.l0 k x acc (i : Int) = some r ∧ Hs r ∧ strip r = r ∧ r.length ≤ 2 * x.length ∧ hv r = nv x := by
 intro d
 induction d with
 | zero =>
  intro k acc i hd hi hk hl hw hv_
  obtain ⟨k, rfl⟩ : ∃ j, k = j + 1 := ⟨k - 1, by omega⟩
  obtain rfl : i = x.length := by omega
  rw [List.take_length] at hv_
  have hs := strip_length_le acc
  refine ⟨strip acc, ?_, hw.strip, strip_strip acc, by omega, by rw [hv_strip]; exact hv_⟩
  simp only [plumbref04_limbs.l0]
  rw [if_neg (Int.lt_irrefl _), plumbref04_cut.f, plumbref04_cut.l0_eq acc.length k acc rfl (by omega) (by omega)]
  rfl
 | succ d ih =>
  intro k acc i hd hi hk hl hw hv_
  obtain ⟨k, rfl⟩ : ∃ j, k = j + 1 := ⟨k - 1, by omega⟩
  have c1 : (i : Int) < (x.length : Int) := by omega
  have c2 : (0 : Int) ≤ (i : Int) := Int.natCast_nonneg _
  have ho := hx.getD i
  have er : rd x (i : Int) = x.getD i 0 := rfl
  have ew := w64_succ i (by omega)
  have em : Go.bits .and .u64 (x.getD i 0) 4294967295 = x.getD i 0 % 4294967296 := and_mask ho.1 ho.2 32 (by decide) _ rfl
  have hlo : 0 ≤ x.getD i 0 % 4294967296 ∧ x.getD i 0 % 4294967296 < 4294967296 := ⟨Int.emod_nonneg _ (by decide), Int.emod_lt_of_pos _ (by decide)⟩
  have hhi : 0 ≤ x.getD i 0 / 4294967296 ∧ x.getD i 0 / 4294967296 < 4294967296 := by omega
  have hdm := Int.mul_ediv_add_emod (x.getD i 0) 4294967296
  simp only [plumbref04_limbs.l0]
  rw [if_pos c1, if_pos c2, er, em, ew, Option.bind_some, if_pos (by rw [hl]; show 2 * i + 2 < 17592186044416; clear hdm hhi hlo em ew er; omega)]
  refine ih k _ (i + 1) (by clear hdm hhi hlo em ew er hv_; omega) (by clear hdm hhi hlo em ew er hv_; omega) (by clear hdm hhi hlo em ew er hv_; omega) ?_ ?_ ?_
  ·rw [List.length_append, hl]; show 2 * i + 2 = 2 * (i + 1); omega
  ·apply hw.append
   intro y hy
   rcases List.mem_cons.1 hy with rfl | hy
   ·exact hlo
   ·rcases List.mem_singleton.1 hy with rfl
    exact hhi
  ·rw [hv_append, hl, hv_, nv_take_succ (by clear hdm hhi hlo em ew er hv_; omega)]
   have e64 : 32 * (2 * i) = 64 * i := by omega
   rw [e64]
   simp only [hv]
   clear em ew er hv_
   generalize (2 : Int) ^ (64 * i) = p at *
   generalize x.getD i 0 % 4294967296 = lo at *
   generalize x.getD i 0 / 4294967296 = hi at *
   generalize x.getD i 0 = w at *
   grind
theorem plumbref04_limbs.f_eq (x : List Int) (hx : Ws x) (hm : x.length ≤ 10000000) (k : Nat) (hk : 3 * x.length + 1 < k) :
  ∃ r, plumbref04_limbs.f k x = some r ∧ Hs r ∧ strip r = r ∧ r.length ≤ 2 * x.length ∧ hv r = nv x := by
 rw [plumbref04_limbs.f]
 exact plumbref04_limbs.l0_eq x hx hm x.length k [] 0 (by omega) (by omega) (by omega) rfl (fun y hy => by simp at hy) rfl
theorem take_step {r l m : Int} (hr0 : 0 ≤ r) (hr : r < m) (hl0 : 0 ≤ l) (hl : l < 4294967296) (hm : m < 4294967296) :
  Go.bits .or .u64 (IntKind.u64.wrap (r * 4294967296)) l = r * 4294967296 + l ∧ IntKind.u64.wrap (Int.tdiv (r * 4294967296 + l) m) = (r * 4294967296 + l) / m ∧ Int.tmod (r * 4294967296 + l) m = (r * 4294967296 + l) % m ∧
   0 ≤ (r * 4294967296 + l) / m ∧ (r * 4294967296 + l) / m < 4294967296 ∧ 0 ≤ (r * 4294967296 + l) % m ∧ (r * 4294967296 + l) % m < m := by
 have h1 : Go.bits .or .u64 (IntKind.u64.wrap (r * 4294967296)) l = r * 4294967296 + l := by
  rw [u64w_of (by omega) (by omega)]
  exact or_join 32 (by omega) (by omega) (show r * 4294967296 % 4294967296 = 0 by omega) hl0 (show l < 4294967296 from hl) (by omega)
 have h2 : 0 ≤ r * 4294967296 + l := by omega
 have h3 : 0 ≤ (r * 4294967296 + l) / m := Int.ediv_nonneg h2 (by omega)
 have h4 : (r * 4294967296 + l) / m < 4294967296 := by
  apply Int.ediv_lt_of_lt_mul (by omega)
  have : r * 4294967296 ≤ (m - 1) * 4294967296 := Int.mul_le_mul_of_nonneg_right (by omega) (by omega)
  rw [Int.mul_comm]
  omega
 refine ⟨h1, ?_, Int.tmod_eq_emod_of_nonneg h2, h3, h4, Int.emod_nonneg _ (by omega), Int.emod_lt_of_pos _ (by omega)⟩
 rw [Int.tdiv_eq_ediv_of_nonneg h2]
 exact u64w_of h3 (Int.lt_trans h4 (by decide))
theorem plumbref04_take.l0_eq (x : List Int) (hx : Hs x) (m : Int) (hm0 : 0 < m) (hm : m < 4294967296) (hl_ : x.length ≤ 20000000) : ∀ (n k : Nat) (cur : List Int) (r : Int), n + x.length + 1 < k → n ≤ x.length → cur.length = x.length → Hs cur → 0 ≤ r → r < m → cur.take n = x.take n → hv (x.drop n) = hv (cur.drop n) * m + r →
  ∃ y, plumbref04_take.l0 k cur m r ((n : Int) - 1) = some (y, hv x % m) ∧ Hs y ∧ strip y = y ∧ y.length ≤ x.length ∧ hv y = hv x / m := by
 intro n
 induction n with
 | zero =>
  intro k cur r hk hn hl hw hr0 hr ht hv_
  obtain ⟨k, rfl⟩ : ∃ j, k = j + 1 := ⟨k - 1, by omega⟩
  rw [List.drop_zero, List.drop_zero] at hv_
  have e1 : hv x / m = hv cur := by rw [hv_, Int.add_comm, Int.add_mul_ediv_right _ _ (by omega), Int.ediv_eq_zero_of_lt hr0 hr, Int.zero_add]
  have e2 : hv x % m = r := by rw [hv_, Int.add_comm, Int.add_mul_emod_self_right, Int.emod_eq_of_lt hr0 hr]
  have hs := strip_length_le cur
  refine ⟨strip cur, ?_, hw.strip, strip_strip cur, by omega, by rw [hv_strip, e1]⟩
  simp only [plumbref04_take.l0]
  rw [if_neg (by omega), plumbref04_cut.f, plumbref04_cut.l0_eq cur.length k cur rfl (by omega) (by omega), e2]
  rfl
 | succ n ih =>
  intro k cur r hk hn hl hw hr0 hr ht hv_
  obtain ⟨k, rfl⟩ : ∃ j, k = j + 1 := ⟨k - 1, by omega⟩
  have en : ((n + 1 : Nat) : Int) - 1 = (n : Int) := by omega
  have q1 : ((n : Int)) ≥ 0 := Int.natCast_nonneg _
  have q2 : (n : Int) < (cur.length : Int) := by omega
  have q4 : n < cur.length := by omega
  have q5 : n < x.length := by omega
  have ew : wrap64 ((n : Int) - 1) = (n : Int) - 1 := by unfold wrap64; omega
  have ho := hw.getD n
  have ex : cur.getD n 0 = x.getD n 0 := by
   have h1 : (cur.take (n + 1)).getD n 0 = (x.take (n + 1)).getD n 0 := by rw [ht]
   rw [List.getD_eq_getElem?_getD, List.getD_eq_getElem?_getD, List.getElem?_take_of_lt (Nat.lt_succ_self n), List.getElem?_take_of_lt (Nat.lt_succ_self n), ← List.getD_eq_getElem?_getD, ← List.getD_eq_getElem?_getD] at h1
   exact h1
  obtain ⟨e1, e2, e3, e4, e5, e6, e7⟩ := take_step hr0 hr ho.1 ho.2 hm
  have er : rd cur (n : Int) = cur.getD n 0 := rfl
  simp only [plumbref04_take.l0]
  rw [en, if_pos q1, if_pos q1, if_pos q2, if_neg (Int.ne_of_gt hm0), er, e1, e2, e3, ew, Int.toNat_natCast]
  clear en ew er e1 e2 e3
  refine ih k _ _ (by omega) (by omega) (by rw [List.length_set, hl]) (hw.set _ e4 e5) e6 e7 ?_ ?_
  ·rw [List.take_set_of_le (Nat.le_refl n)]
   have h1 : (cur.take (n + 1)).take n = (x.take (n + 1)).take n := by rw [ht]
   rw [List.take_take, List.take_take, Nat.min_eq_left (Nat.le_succ n)] at h1
   exact h1
  ·rw [drop_set_self q4, drop_getD q5, hv_cons, hv_cons, hv_, ← ex]
   have hdm := Int.mul_ediv_add_emod (r * 4294967296 + cur.getD n 0) m
   generalize (r * 4294967296 + cur.getD n 0) / m = q at *
   generalize (r * 4294967296 + cur.getD n 0) % m = s at *
   generalize hv (cur.drop (n + 1)) = z at *
   generalize cur.getD n 0 = y at *
   clear ih ht
   grind
theorem plumbref04_take.f_eq (x : List Int) (hx : Hs x) (m : Int) (hm0 : 0 < m) (hm : m < 4294967296) (hl : x.length ≤ 20000000) (k : Nat) (hk : 2 * x.length + 1 < k) :
  ∃ y, plumbref04_take.f k x m = some (y, hv x % m) ∧ Hs y ∧ strip y = y ∧ y.length ≤ x.length ∧ hv y = hv x / m := by
 have ew : wrap64 ((x.length : Int) - 1) = (x.length : Int) - 1 := by unfold wrap64; omega
 rw [plumbref04_take.f, ew]
 exact plumbref04_take.l0_eq x hx m hm0 hm hl x.length k x 0 (by omega) (Nat.le_refl _) rfl hx (Int.le_refl _) hm0 rfl (by rw [List.drop_eq_nil_of_le (Nat.le_refl _)]; simp [hv])
theorem plumbref04_step.l0_eq (b : Nat) (hb2 : 2 ≤ b) (hb : b ≤ 36) : ∀ (d k n : Nat), n + d = 32 → d < k → (b : Int) ^ n < 4294967296 → ∃ m : Nat, n ≤ m ∧ m ≤ 32 ∧ (b : Int) ^ m < 4294967296 ∧ plumbref04_step.l0 k b ((b : Int) ^ n) n = some ((b : Int) ^ m, (m : Int)) := by
 intro d
 induction d with
 | zero =>
  intro k n hn hk hp
  exfalso
  have h1 : (2 : Nat) ^ 32 ≤ b ^ n := by rw [show n = 32 from by omega]; exact Nat.pow_le_pow_left hb2 32
  have h2 : (b : Int) ^ n = ((b ^ n : Nat) : Int) := (Int.natCast_pow b n).symm
  rw [h2] at hp
  have h3 : b ^ n < 4294967296 := Int.ofNat_lt.1 hp
  exact Nat.not_le.2 h3 h1
 | succ d ih =>
  intro k n hn hk hp
  obtain ⟨k, rfl⟩ : ∃ j, k = j + 1 := ⟨k - 1, by omega⟩
  have hp0 : (0 : Int) < (b : Int) ^ n := Int.pow_pos (by omega)
  have h36 : (b : Int) ^ n * b ≤ 4294967296 * 36 := Int.mul_le_mul (Int.le_of_lt hp) (by omega) (by omega) (by decide)
  have h0 : 0 ≤ (b : Int) ^ n * b := Int.mul_nonneg (Int.le_of_lt hp0) (by omega)
  have eb : IntKind.u64.wrap (b : Int) = (b : Int) := u64w_of (by omega) (by omega)
  have ep : IntKind.u64.wrap ((b : Int) ^ n * b) = (b : Int) ^ (n + 1) := by rw [u64w_of h0 (Int.lt_of_le_of_lt h36 (by decide)), Int.pow_succ]
  have ew := w64_succ n (by omega)
  simp only [plumbref04_step.l0]
  rw [eb, ep, ew]
  by_cases h : (b : Int) ^ (n + 1) < 4294967296
  ·rw [if_pos h]
   obtain ⟨m, e1, e2, e3, e4⟩ := ih k (n + 1) (by clear eb ep ew h36 h0; omega) (by clear eb ep ew h36 h0; omega) h
   exact ⟨m, by clear eb ep ew h36 h0; omega, e2, e3, e4⟩
  ·rw [if_neg h]
   exact ⟨n, Nat.le_refl _, by clear eb ep ew h36 h0; omega, hp, rfl⟩
theorem plumbref04_step.f_eq (b : Nat) (hb2 : 2 ≤ b) (hb : b ≤ 36) (k : Nat) (hk : 32 < k) : ∃ m : Nat, 1 ≤ m ∧ m ≤ 32 ∧ (b : Int) ^ m < 4294967296 ∧ plumbref04_step.f k b = some ((b : Int) ^ m, (m : Int)) := by
 have eb : IntKind.u64.wrap (b : Int) = (b : Int) := u64w_of (by omega) (by omega)
 have h := plumbref04_step.l0_eq b hb2 hb 31 k 1 (by omega) (by omega) (by rw [Int.pow_one]; omega)
 rw [Int.pow_one] at h
 rw [plumbref04_step.f, eb]
 exact h
theorem plumbref04_Text.l3_eq (xs : List Int) (hm : xs.length ≤ 140737488355328) : ∀ (d k i : Nat) (cur : List Int), xs.length - i = d → 2 * i ≤ xs.length → d < k → cur.length = xs.length →
  (∀ t, t < xs.length → cur.getD t 0 = if t < i ∨ xs.length ≤ t + i then xs.getD (xs.length - 1 - t) 0 else xs.getD t 0) →
  plumbref04_Text.l3 k cur (i : Int) = some (strOfNums xs.reverse, 0) := by
 intro d
 induction d with
 | zero =>
  intro k i cur hd hi hk hl hc
  obtain ⟨k, rfl⟩ : ∃ j, k = j + 1 := ⟨k - 1, by omega⟩
  have h0 : xs = [] := List.eq_nil_of_length_eq_zero (by omega)
  subst h0
  obtain rfl : cur = [] := List.eq_nil_of_length_eq_zero hl
  obtain rfl : i = 0 := by simp at hi; omega
  have e0 : wrap64 ((([] : List Int).length : Int) / 2) = 0 := by rw [List.length_nil]; unfold wrap64; decide
  simp only [plumbref04_Text.l3]
  rw [e0, if_neg (by simp)]
  rfl
 | succ d ih =>
  intro k i cur hd hi hk hl hc
  obtain ⟨k, rfl⟩ : ∃ j, k = j + 1 := ⟨k - 1, by omega⟩
  have e0 : wrap64 ((cur.length : Int) / 2) = ((xs.length / 2 : Nat) : Int) := by rw [hl]; unfold wrap64; omega
  have e2 : wrap64 (wrap64 ((cur.length : Int) - 1) - (i : Int)) = ((xs.length - 1 - i : Nat) : Int) := by
   clear e0
   have e1 : wrap64 ((cur.length : Int) - 1) = (cur.length : Int) - 1 := by unfold wrap64; omega
   rw [e1, hl]
   clear e1
   unfold wrap64; omega
  simp only [plumbref04_Text.l3]
  rw [e0, e2]
  clear e0 e2
  by_cases h : i < xs.length / 2
  ·have e1 : wrap64 ((i : Int) + 1) = ((i + 1 : Nat) : Int) := w64_succ i (by omega)
   have e4 : rd cur ((xs.length - 1 - i : Nat) : Int) = cur.getD (xs.length - 1 - i) 0 := rfl
   have e5 : rd cur (i : Int) = cur.getD i 0 := rfl
   have c0 : (i : Int) < ((xs.length / 2 : Nat) : Int) := Int.ofNat_lt.2 h
   have q1 : (0 : Int) ≤ ((xs.length - 1 - i : Nat) : Int) := Int.natCast_nonneg _
   have q2 : ((xs.length - 1 - i : Nat) : Int) < (cur.length : Int) := Int.ofNat_lt.2 (by rw [hl]; clear e1; omega)
   have q3 : (0 : Int) ≤ (i : Int) := Int.natCast_nonneg _
   have q4 : (i : Int) < (cur.length : Int) := Int.ofNat_lt.2 (by rw [hl]; clear e1; omega)
   rw [if_pos c0, if_pos q3, if_pos q4, if_pos q1, if_pos q2, e1, e4, e5, Int.toNat_natCast, Int.toNat_natCast]
   refine ih k (i + 1) _ (by clear e1; omega) (by clear e1; omega) (by clear e1; omega) (by rw [List.length_set, List.length_set]; exact hl) ?_
   clear e1 e4 e5 ih
   intro t ht
   have g1 := hc i (by omega)
   have g2 := hc (xs.length - 1 - i) (by omega)
   have g3 := hc t ht
   rw [if_neg (by omega)] at g1 g2
   by_cases ht1 : t = xs.length - 1 - i
   ·subst ht1
    rw [List.getD_eq_getElem?_getD, List.getElem?_set_self (by rw [List.length_set]; omega), if_pos (by omega), show xs.length - 1 - (xs.length - 1 - i) = i from by omega]
    exact g1
   ·rw [set_getD_ne (Ne.symm ht1)]
    by_cases ht2 : t = i
    ·subst ht2
     rw [List.getD_eq_getElem?_getD, List.getElem?_set_self (by omega), if_pos (by omega)]
     exact g2
    ·rw [set_getD_ne (Ne.symm ht2), g3]
     by_cases h5 : t < i ∨ xs.length ≤ t + i
     ·rw [if_pos h5, if_pos (by omega)]
     ·rw [if_neg h5, if_neg (by omega)]
  ·rw [if_neg (fun hh => h (Int.ofNat_lt.1 hh))]
   have he : cur = xs.reverse := by
    apply List.ext_getElem (by simp [hl])
    intro t h1 h2
    have := hc t (by omega)
    rw [List.getElem_reverse]
    by_cases h5 : t < i ∨ xs.length ≤ t + i
    ·rw [if_pos h5, List.getD_eq_getElem?_getD, List.getElem?_eq_getElem h1, List.getD_eq_getElem?_getD, List.getElem?_eq_getElem (by omega)] at this
     exact this
    ·rw [if_neg h5, List.getD_eq_getElem?_getD, List.getElem?_eq_getElem h1, List.getD_eq_getElem?_getD, List.getElem?_eq_getElem (by omega)] at this
     have ht : xs.length - 1 - t = t := by omega
     simp only [Option.getD_some] at this
     simp only [ht]
     exact this
   rw [he]
theorem plumbref04_Text.j4_eq (xs : List Int) (hm : xs.length ≤ 140737488355328) (k : Nat) (hk : xs.length + 1 < k) : plumbref04_Text.j4 k xs = some (if xs = [] then ⟨#[48]⟩ else strOfNums xs.reverse, 0) := by
 obtain ⟨k, rfl⟩ : ∃ j, k = j + 1 := ⟨k - 1, by omega⟩
 rw [plumbref04_Text.j4]
 by_cases h : xs = []
 ·rw [if_pos h, h]; rfl
 ·have h0 : ¬ (xs.length : Int) = 0 := fun h1 => h (List.eq_nil_of_length_eq_zero (Int.ofNat.inj h1))
  rw [if_neg h0, if_neg h]
  exact plumbref04_Text.l3_eq xs hm xs.length k 0 xs (by omega) (by omega) (by omega) rfl (fun t ht => by rw [if_neg (by omega)])
theorem plumbref04_Text.l2_eq : ∀ (n k : Nat) (xs : List Int), xs.length = n → 2 * n + 2 < k → n ≤ 140737488355328 → plumbref04_Text.l2 k xs = some (if sz xs = [] then ⟨#[48]⟩ else strOfNums (sz xs).reverse, 0) := by
 intro n
 induction n with
 | zero =>
  intro k xs hl hk hm
  obtain ⟨k, rfl⟩ : ∃ j, k = j + 1 + 1 := ⟨k - 2, by omega⟩
  obtain rfl := List.eq_nil_of_length_eq_zero hl
  rfl
 | succ n ih =>
  intro k xs hl hk hm
  obtain ⟨k, rfl⟩ : ∃ j, k = j + 1 := ⟨k - 1, by omega⟩
  obtain ⟨ys, c, rfl⟩ : ∃ ys c, xs = ys ++ [c] := by
   rcases List.eq_nil_or_concat xs with rfl | ⟨ys, c, rfl⟩
   ·simp at hl
   ·exact ⟨ys, c, by rw [List.concat_eq_append]⟩
  have hl2 : ys.length = n := by simpa using hl
  have ew : wrap64 (((ys ++ [c]).length : Int) - 1) = (ys.length : Int) := by rw [hl]; unfold wrap64; omega
  have er : rd (ys ++ [c]) (ys.length : Int) = c := by
   show (ys ++ [c]).getD ys.length 0 = c
   simp
  have q1 : ((ys ++ [c]).length : Int) > 0 := by rw [hl]; omega
  have q2 : (ys.length : Int) < ((ys ++ [c]).length : Int) := by rw [hl]; omega
  simp only [plumbref04_Text.l2]
  rw [ew, er, if_pos q1, if_pos (by omega), if_pos q2, if_pos (Int.le_of_lt q2), Int.toNat_natCast, List.take_left]
  by_cases h : c = 48
  ·rw [if_pos h, h, sz_snoc_zero]
   exact ih k ys hl2 (by omega) (by omega)
  ·rw [if_neg h, sz_snoc_ne ys h]
   exact plumbref04_Text.j4_eq (ys ++ [c]) (by rw [hl]; exact hm) k (by rw [hl]; omega)
theorem plumbref04_Text.l1_eq (b n : Nat) (hb2 : 2 ≤ b) (hb : b ≤ 36) (hn : n ≤ 100) (p : Int) (q : List Int) : ∀ (d k : Nat) (out : List Int) (r i : Nat), i + d = n → r < 18446744073709551616 → out.length + d ≤ 140737488355328 →
  plumbref04_Text.l1 (k + d + 1) b (⟨#[48, 49, 50, 51, 52, 53, 54, 55, 56, 57, 97, 98, 99, 100, 101, 102, 103, 104, 105, 106, 107, 108, 109, 110, 111, 112, 113, 114, 115, 116, 117, 118, 119, 120, 121, 122]⟩ : ByteArray) p n q out r i = plumbref04_Text.l0 k b (⟨#[48, 49, 50, 51, 52, 53, 54, 55, 56, 57, 97, 98, 99, 100, 101, 102, 103, 104, 105, 106, 107, 108, 109, 110, 111, 112, 113, 114, 115, 116, 117, 118, 119, 120, 121, 122]⟩ : ByteArray) p n q (out ++ pad b d r) := by
 intro d
 induction d with
 | zero =>
  intro k out r i hd hr hl
  conv => lhs; unfold plumbref04_Text.l1
  rw [if_neg (by omega)]
  show _ = plumbref04_Text.l0 k b _ p n q (out ++ [])
  rw [List.append_nil]
 | succ d ih =>
  intro k out r i hd hr hl
  have eb : IntKind.u64.wrap (b : Int) = (b : Int) := u64w_of (by omega) (by omega)
  have hmod : r % b < b := Nat.mod_lt _ (by omega)
  have em : wrap64 (Int.tmod (r : Int) (b : Int)) = ((r % b : Nat) : Int) := by
   rw [Int.tmod_eq_emod_of_nonneg (Int.natCast_nonneg _)]
   show wrap64 ((r % b : Nat) : Int) = _
   clear eb
   unfold wrap64; omega
  have hdiv : r / b ≤ r := Nat.div_le_self _ _
  have h3 : r / b < 18446744073709551616 := Nat.lt_of_le_of_lt hdiv hr
  have ed : IntKind.u64.wrap (Int.tdiv (r : Int) (b : Int)) = ((r / b : Nat) : Int) := by
   rw [Int.tdiv_eq_ediv_of_nonneg (Int.natCast_nonneg _)]
   have : (r : Int) / (b : Int) = ((r / b : Nat) : Int) := rfl
   rw [this]
   clear this em eb hdiv
   exact u64w_of (Int.natCast_nonneg _) (Int.ofNat_lt.2 h3)
  have ew := w64_succ i (by omega)
  have c1 : (i : Int) < (n : Int) := by clear em ed eb ew; omega
  have c2 : ¬ (b : Int) = 0 := by clear em ed eb ew; omega
  have c3 : (0 : Int) ≤ ((r % b : Nat) : Int) := Int.natCast_nonneg _
  have c4 : ((r % b : Nat) : Int) < (((⟨#[48, 49, 50, 51, 52, 53, 54, 55, 56, 57, 97, 98, 99, 100, 101, 102, 103, 104, 105, 106, 107, 108, 109, 110, 111, 112, 113, 114, 115, 116, 117, 118, 119, 120, 121, 122]⟩ : ByteArray).size : Nat) : Int) := Int.ofNat_lt.2 (Nat.lt_of_lt_of_le hmod hb)
  have c5 : out.length < 140737488355328 := by clear em ed eb ew; omega
  have c6 : i + 1 + d = n := by clear em ed eb ew; omega
  rw [show k + (d + 1) + 1 = (k + d + 1) + 1 from by clear em ed eb ew; omega]
  conv => lhs; unfold plumbref04_Text.l1
  rw [eb, em, ed, ew, if_pos c1, if_neg c2, if_pos c3, if_pos c4, if_pos c5]
  have h := ih k (out ++ [dg (r % b)]) (r / b) (i + 1) c6 h3 (by rw [List.length_append, List.length_singleton]; clear em ed eb ew; omega)
  rw [List.append_assoc] at h
  exact h
theorem plumbref04_Text.l0_eq (b n : Nat) (hb2 : 2 ≤ b) (hb : b ≤ 36) (hn1 : 1 ≤ n) (hn : n ≤ 32) (hp : (b : Int) ^ n < 4294967296) (M : Nat) (hM : M ≤ 1000000) : ∀ (j k : Nat) (x out : List Int), Hs x → strip x = x → x.length ≤ 20000000 → hv x < 2 ^ j → j ≤ 64 * M → j * (n + 2) + 80000000 * 66 * 3 < k → out.length + 66 * j ≤ 70000000 * 66 →
  ∃ m, hv x < ((b ^ m : Nat) : Int) ∧ plumbref04_Text.l0 k b (⟨#[48, 49, 50, 51, 52, 53, 54, 55, 56, 57, 97, 98, 99, 100, 101, 102, 103, 104, 105, 106, 107, 108, 109, 110, 111, 112, 113, 114, 115, 116, 117, 118, 119, 120, 121, 122]⟩ : ByteArray) ((b : Int) ^ n) n x out = some (if sz (out ++ pad b m (hv x).toNat) = [] then ⟨#[48]⟩ else strOfNums (sz (out ++ pad b m (hv x).toNat)).reverse, 0) := by
 intro j
 induction j with
 | zero =>
  intro k x out hw hs hl hx hj hk ho
  obtain ⟨k, rfl⟩ : ∃ i, k = i + 1 := ⟨k - 1, by omega⟩
  rw [Int.pow_zero] at hx
  have h2 : x = [] := by
   apply Classical.byContradiction
   intro h3
   have := hv_pos hw hs h3
   omega
  subst h2
  refine ⟨0, by simp [hv], ?_⟩
  have e0 : out ++ pad b 0 (hv []).toNat = out := List.append_nil out
  simp only [plumbref04_Text.l0]
  rw [if_neg (by simp), plumbref04_Text.l2_eq out.length k out rfl (by clear hx hp; omega) (by clear hx hp; omega), e0]
 | succ j ih =>
  intro k x out hw hs hl hx hj hk ho
  have hk' : j * (n + 2) + (n + 2) + 80000000 * 66 * 3 < k := by rw [Nat.succ_mul] at hk; exact hk
  by_cases h2 : x = []
  ·subst h2
   obtain ⟨k, rfl⟩ : ∃ i, k = i + 1 := ⟨k - 1, by omega⟩
   refine ⟨0, by simp [hv], ?_⟩
   have e0 : out ++ pad b 0 (hv []).toNat = out := List.append_nil out
   simp only [plumbref04_Text.l0]
   rw [if_neg (by simp), plumbref04_Text.l2_eq out.length k out rfl (by clear hx hp; omega) (by clear hx hp; omega), e0]
  ·obtain ⟨i, rfl⟩ : ∃ i, k = (i + n + 1) + 1 := ⟨k - (n + 2), by omega⟩
   have hlen : 0 < x.length := List.length_pos_iff.2 h2
   have h0 := hv_nonneg hw
   have hbn : (b : Int) ^ n = ((b ^ n : Nat) : Int) := (Int.natCast_pow b n).symm
   have hP2 : 2 ≤ b ^ n := by
    have : b ^ 1 ≤ b ^ n := Nat.pow_le_pow_right (by omega) hn1
    rw [Nat.pow_one] at this
    omega
   rw [hbn] at hp ⊢
   have hP : b ^ n < 4294967296 := Int.ofNat_lt.1 hp
   obtain ⟨N, hN⟩ : ∃ N : Nat, hv x = (N : Int) := ⟨(hv x).toNat, by omega⟩
   have e1 : hv x / ((b ^ n : Nat) : Int) = ((N / b ^ n : Nat) : Int) := by rw [hN]; rfl
   have e2 : hv x % ((b ^ n : Nat) : Int) = ((N % b ^ n : Nat) : Int) := by rw [hN]; rfl
   have c1 : (x.length : Int) > 0 := Int.ofNat_lt.2 hlen
   have c2 : (0 : Int) < ((b ^ n : Nat) : Int) := by omega
   have c5 : N % b ^ n < 18446744073709551616 := Nat.lt_trans (Nat.mod_lt _ (by omega)) (Nat.lt_trans hP (by decide))
   have c6 : out.length + n ≤ 140737488355328 := by omega
   obtain ⟨y, t1, t2, t3, t4, t5⟩ := plumbref04_take.f_eq x hw ((b ^ n : Nat) : Int) c2 hp hl (i + n + 1) (by omega)
   rw [e1] at t5
   rw [e2] at t1
   have hdx : hv y < 2 ^ j := by
    rw [t5, p2cast]
    rw [hN, p2cast] at hx
    have hx' := Int.ofNat_lt.1 hx
    rw [Nat.pow_succ] at hx'
    apply Int.ofNat_lt.2
    apply Nat.div_lt_of_lt_mul
    exact Nat.lt_of_lt_of_le hx' (by rw [Nat.mul_comm]; exact Nat.mul_le_mul_right _ hP2)
   have h9 := ih i y (out ++ pad b n (N % b ^ n)) t2 t3 (Nat.le_trans t4 hl) hdx (by omega) (by omega) (by rw [List.length_append, pad_length]; omega)
   rw [hbn, t5] at h9
   obtain ⟨m, e3, e4⟩ := h9
   refine ⟨n + m, ?_, ?_⟩
   ·rw [hN, Nat.pow_add]
    apply Int.ofNat_lt.2
    have := Int.ofNat_lt.1 e3
    rw [Nat.mul_comm]
    exact (Nat.div_lt_iff_lt_mul (by omega)).1 this
   ·have e5 := plumbref04_Text.l1_eq b n hb2 hb (by omega) ((b ^ n : Nat) : Int) y n i out (N % b ^ n) 0 (by omega) c5 c6
    have e6 : plumbref04_Text.l1 (i + n + 1) b (⟨#[48, 49, 50, 51, 52, 53, 54, 55, 56, 57, 97, 98, 99, 100, 101, 102, 103, 104, 105, 106, 107, 108, 109, 110, 111, 112, 113, 114, 115, 116, 117, 118, 119, 120, 121, 122]⟩ : ByteArray) ((b ^ n : Nat) : Int) n y out ((N % b ^ n : Nat) : Int) 0 = plumbref04_Text.l0 i b _ ((b ^ n : Nat) : Int) n y (out ++ pad b n (N % b ^ n)) := e5
    have e7 : (((N / b ^ n : Nat) : Int)).toNat = N / b ^ n := Int.toNat_natCast _
    have e8 : (hv x).toNat = N := by rw [hN]; exact Int.toNat_natCast _
    simp only [plumbref04_Text.l0]
    rw [if_pos c1, t1]
    simp only [Option.bind_some]
    rw [e6, e4, e7, e8, List.append_assoc, pad_mod b (by omega), pad_add]
theorem txt_eq {b : Nat} (hb : 2 ≤ b) (N : Nat) : (if dgs b N = [] then (⟨#[48]⟩ : ByteArray) else strOfNums (dgs b N).reverse) = txt b N := by
 rw [txt]
 by_cases h : N = 0
 ·rw [if_pos ((dgs_nil_iff hb).2 h), if_pos h]
 ·rw [if_neg (fun h1 => h ((dgs_nil_iff hb).1 h1)), if_neg h]
theorem plumbref04_Text.f_eq (b : Nat) (hb2 : 2 ≤ b) (hb : b ≤ 36) (x : List Int) (hw : Ws x) (hl : x.length ≤ 10000000) (h : nv x < (2 : Int) ^ 262144) (k : Nat) (hk : 80000000000 < k) : plumbref04_Text.f k x b = some (txt b (nv x).toNat, 0) := by
 obtain ⟨k, rfl⟩ : ∃ j, k = j + 1 := ⟨k - 1, by clear h; omega⟩
 have hd : ¬ (decide ((b : Int) > 36) = true) := by rw [decide_eq_true_eq]; clear h; omega
 obtain ⟨n, h1, h2, h3, h4⟩ := plumbref04_step.f_eq b hb2 hb k (by clear h; omega)
 obtain ⟨r, r1, r2, r3, r4, r5⟩ := plumbref04_limbs.f_eq x hw hl k (by clear h; omega)
 have hz : ¬ (2 : Int) ^ 262144 ≤ nv x := Int.not_le.2 h
 have hmul : 64 * 4096 * (n + 2) ≤ 64 * 4096 * 68 := Nat.mul_le_mul_left _ (by clear h hz; omega)
 obtain ⟨m, e1, e2⟩ := plumbref04_Text.l0_eq b n hb2 hb h1 h2 h3 4096 (by decide) (64 * 4096) k r [] r2 r3 (by clear h hz; omega) (by rw [r5]; exact h) (Nat.le_refl _) (by clear h hz; omega) (by rw [List.length_nil]; decide)
 rw [r5, List.nil_append] at e2
 rw [r5] at e1
 have e3 : (nv x).toNat < b ^ m := by have := nv_nonneg hw; clear h hz; omega
 rw [sz_pad hb2 hb m _ e3, dgs_of hb2 e3, txt_eq hb2] at e2
 rw [plumbref04_Text.f, if_neg (by clear h hz; omega), plumbref04_Text.j0, if_neg hd, plumbref04_TooLong.f_eq x hw (by clear h hz; omega) k (by clear h hz; omega), decide_eq_false hz, Option.bind_some, if_neg (by decide), h4, Option.bind_some, r1, Option.bind_some]
 exact e2
theorem plumbref04_words.f_eq (x : List Int) (hx : Hs x) (hm : x.length ≤ 20000000) (k : Nat) (hk : 60000000 < k) : plumbref04_words.f k x = some (wd (hv x).toNat) := by
 rw [plumbref04_words.f]
 exact plumbref04_words.l0_eq x hx (by omega) (x.length + 2) k [] 0 (by omega) (by omega) (by omega) rfl Ws.nil rfl
theorem plumbref04_Trim.l0_eq (u : Nat) (hu : u % 10 ≠ 0) : ∀ (v k c : Nat) (x : List Int), Hs x → strip x = x → x.length ≤ 20000000 → (hv x).toNat = u * 10 ^ v → v + 70000000 < k → c + v < 4611686018427387904 →
  plumbref04_Trim.l0 k x (c : Int) = some (wd u, ((c + v : Nat) : Int)) := by
 intro v
 induction v with
 | zero =>
  intro k c x hw hs hl hx hk hc
  obtain ⟨k, rfl⟩ : ∃ j, k = j + 1 := ⟨k - 1, by omega⟩
  rw [Nat.pow_zero, Nat.mul_one] at hx
  have hn := hv_nonneg hw
  have e1 : hv x % 10 ≠ 0 := by omega
  have hne : x ≠ [] := fun h => by subst h; exact e1 rfl
  have c1 : (x.length : Int) > 0 := Int.ofNat_lt.2 (List.length_pos_iff.2 hne)
  obtain ⟨y, t1, t2, t3, t4, t5⟩ := plumbref04_take.f_eq x hw 10 (by decide) (by decide) hl k (by omega)
  simp only [plumbref04_Trim.l0]
  rw [if_pos c1, Option.bind_some, if_pos (by rw [List.length_nil]; omega), List.nil_append, t1]
  simp only [Option.bind_some]
  rw [if_neg e1, plumbref04_words.f_eq x hw hl k (by omega), Option.bind_some, hx, Nat.add_zero]
 | succ v ih =>
  intro k c x hw hs hl hx hk hc
  obtain ⟨k, rfl⟩ : ∃ j, k = j + 1 := ⟨k - 1, by omega⟩
  have hn := hv_nonneg hw
  have hx2 : (hv x).toNat = u * 10 ^ v * 10 := by rw [hx, Nat.pow_succ, Nat.mul_assoc]
  have e1 : hv x % 10 = 0 := by clear hx; generalize u * 10 ^ v = p at hx2; omega
  have e2 : (hv x / 10).toNat = u * 10 ^ v := by clear hx; generalize u * 10 ^ v = p at hx2 ⊢; omega
  have hne : x ≠ [] := by
   intro h
   subst h
   have h5 : 0 < 10 ^ (v + 1) := Nat.pow_pos (by decide)
   have h6 : u * 10 ^ (v + 1) = 0 := hx.symm
   rcases Nat.mul_eq_zero.1 h6 with h7 | h7
   ·subst h7; exact hu rfl
   ·omega
  have c1 : (x.length : Int) > 0 := Int.ofNat_lt.2 (List.length_pos_iff.2 hne)
  have ew := w64_succ c (by omega)
  obtain ⟨y, t1, t2, t3, t4, t5⟩ := plumbref04_take.f_eq x hw 10 (by decide) (by decide) hl k (by omega)
  simp only [plumbref04_Trim.l0]
  rw [if_pos c1, Option.bind_some, if_pos (by rw [List.length_nil]; omega), List.nil_append, t1]
  simp only [Option.bind_some]
  rw [if_pos e1, ew]
  clear ew
  have h := ih k (c + 1) y t2 t3 (Nat.le_trans t4 hl) (by rw [t5]; exact e2) (by omega) (by omega)
  rw [h]
  congr 3
  omega
theorem plumbref04_Trim.f_eq (x : List Int) (hw : Ws x) (hl : x.length ≤ 10000000) (u v : Nat) (hu : u % 10 ≠ 0) (hx : (nv x).toNat = u * 10 ^ v) (hv_ : v < 1000000000) (k : Nat) (hk : 2000000000 < k) : plumbref04_Trim.f k x = some (wd u, (v : Int)) := by
 obtain ⟨r, r1, r2, r3, r4, r5⟩ := plumbref04_limbs.f_eq x hw hl k (by omega)
 have h := plumbref04_Trim.l0_eq u hu v k 0 r r2 r3 (by omega) (by rw [r5]; exact hx) (by omega) (by omega)
 rw [Nat.zero_add] at h
 rw [plumbref04_Trim.f, r1, Option.bind_some]
 exact h
theorem put_step {x b c : Int} (hx0 : 0 ≤ x) (hx : x < 4294967296) (hb0 : 0 ≤ b) (hb : b < 4294967296) (hc0 : 0 ≤ c) (hc : c < 4294967296) :
  IntKind.u64.wrap (IntKind.u64.wrap (x * b) + c) = x * b + c ∧ Go.bits .and .u64 (x * b + c) 4294967295 = (x * b + c) % 4294967296 ∧ 0 ≤ (x * b + c) / 4294967296 ∧ (x * b + c) / 4294967296 < 4294967296 := by
 have h0 : 0 ≤ x * b := Int.mul_nonneg hx0 hb0
 have h1 : x * b ≤ 4294967295 * 4294967295 := Int.mul_le_mul (by omega) (by omega) hb0 (by omega)
 generalize x * b = p at *
 refine ⟨?_, ?_, by omega, by omega⟩
 ·rw [u64w_of h0 (by omega), u64w_of (by omega) (by omega)]
 ·exact and_mask (by omega) (by omega) 32 (by decide) _ rfl
theorem plumbref04_put.l0_eq (b : Int) (hb0 : 0 ≤ b) (hb : b < 4294967296) (V : Int) (m : Nat) (hm : m < 1000000) : ∀ (d k : Nat) (cur : List Int) (c : Int) (i : Nat), d = m - i → d < k → i ≤ m → cur.length = m → Hs cur → 0 ≤ c → c < 4294967296 →
  hv (cur.take i) + (hv (cur.drop i) * b + c) * 2 ^ (32 * i) = V → ∃ r, plumbref04_put.l0 k cur b c (i : Int) = some r ∧ Hs r ∧ r.length ≤ m + 1 ∧ hv r = V := by
 intro d
 induction d with
 | zero =>
  intro k cur c i hd hk hi hl hw hc0 hc hv_
  obtain ⟨k, rfl⟩ : ∃ j, k = j + 1 := ⟨k - 1, by omega⟩
  obtain rfl : i = m := by omega
  rw [List.take_of_length_le (by omega), List.drop_eq_nil_of_le (by omega)] at hv_
  simp only [plumbref04_put.l0]
  rw [if_neg (by omega)]
  by_cases h : c > 0
  ·rw [if_pos h, if_pos (by omega)]
   refine ⟨_, rfl, hw.snoc hc0 hc, by rw [List.length_append, hl]; exact Nat.le_refl _, ?_⟩
   rw [hv_append, hl, ← hv_]
   simp only [hv]
   generalize (2 : Int) ^ (32 * i) = p
   grind
  ·rw [if_neg h]
   obtain rfl : c = 0 := by omega
   refine ⟨_, rfl, hw, by omega, ?_⟩
   rw [← hv_]
   simp [hv]
 | succ d ih =>
  intro k cur c i hd hk hi hl hw hc0 hc hv_
  obtain ⟨k, rfl⟩ : ∃ j, k = j + 1 := ⟨k - 1, by omega⟩
  have q1 : (i : Int) < (cur.length : Int) := by omega
  have q2 : (0 : Int) ≤ (i : Int) := Int.natCast_nonneg _
  have q3 : i < cur.length := by omega
  have q4 : d = m - (i + 1) := by omega
  have q5 : d < k := by omega
  have q6 : i + 1 ≤ m := by omega
  have ew := w64_succ i (by omega)
  have ho := hw.getD i
  obtain ⟨e1, e2, e3, e4⟩ := put_step ho.1 ho.2 hb0 hb hc0 hc
  have er : rd cur (i : Int) = cur.getD i 0 := rfl
  simp only [plumbref04_put.l0]
  rw [if_pos q1, if_pos q2, er, e1, e2, ew, Int.toNat_natCast]
  refine ih k _ _ (i + 1) q4 q5 q6 (by rw [List.length_set]; exact hl) (hw.set _ (Int.emod_nonneg _ (by decide)) (Int.emod_lt_of_pos _ (by decide))) e3 e4 ?_
  have hs : i < (cur.set i ((cur.getD i 0 * b + c) % 4294967296)).length := by rw [List.length_set]; exact q3
  rw [hv_take_succ hs, take_set_self, List.drop_set_of_lt (Nat.lt_succ_self i), pow32, ← hv_, drop_getD q3, hv_cons]
  have eg : (cur.set i ((cur.getD i 0 * b + c) % 4294967296)).getD i 0 = (cur.getD i 0 * b + c) % 4294967296 := by
   rw [List.getD_eq_getElem?_getD, List.getElem?_set_self q3]; rfl
  rw [eg]
  have hdm := Int.mul_ediv_add_emod (cur.getD i 0 * b + c) 4294967296
  clear eg hs ew e1 e2 er
  generalize (cur.getD i 0 * b + c) % 4294967296 = u at *
  generalize (cur.getD i 0 * b + c) / 4294967296 = v at *
  generalize cur.getD i 0 = x at *
  generalize (2 : Int) ^ (32 * i) = p at *
  grind
theorem plumbref04_Power.l0_eq (b : Int) (hb0 : 0 ≤ b) (hb : b < 4294967296) (n : Nat) (hn : n < 100000) : ∀ (d k : Nat) (x : List Int) (i : Nat), d = n - i → d + 1000000 < k → i ≤ n → Hs x → x.length ≤ i + 1 → hv x = b ^ i →
  plumbref04_Power.l0 k b (n : Int) x (i : Int) = some (wd (b ^ n).toNat) := by
 intro d
 induction d with
 | zero =>
  intro k x i hd hk hi hw hl hv_
  obtain ⟨k, rfl⟩ : ∃ j, k = j + 1 := ⟨k - 1, by clear hv_; omega⟩
  obtain rfl : i = n := by clear hv_; omega
  simp only [plumbref04_Power.l0]
  rw [if_neg (Int.lt_irrefl _), plumbref04_words.f]
  have r := plumbref04_words.l0_eq x hw (by clear hv_; omega) (x.length + 2) k [] 0 (by clear hv_; omega) (by clear hv_; omega) (by clear hv_; omega) rfl Ws.nil rfl
  have r2 : plumbref04_words.l0 k x [] 0 = some (wd (hv x).toNat) := r
  rw [r2, hv_]
  rfl
 | succ d ih =>
  intro k x i hd hk hi hw hl hv_
  obtain ⟨k, rfl⟩ : ∃ j, k = j + 1 := ⟨k - 1, by clear hv_; omega⟩
  have c1 : (i : Int) < (n : Int) := by clear hv_; omega
  have ew := w64_succ i (by clear hv_; omega)
  obtain ⟨r, e1, e2, e3, e4⟩ := plumbref04_put.l0_eq b hb0 hb (hv x * b) x.length (by clear hv_ ew; omega) x.length k x 0 0 rfl (by clear hv_ ew; omega) (Nat.zero_le _) rfl hw (by decide) (by decide) (by simp [hv])
  have e1' : plumbref04_put.l0 k x b 0 0 = some r := e1
  simp only [plumbref04_Power.l0]
  rw [if_pos c1, plumbref04_put.f, e1', ew]
  simp only [Option.bind_some]
  refine ih k r (i + 1) (by clear hv_ ew e4; omega) (by clear hv_ ew e4; omega) (by clear hv_ ew e4; omega) e2 (by clear hv_ ew e4; omega) ?_
  rw [e4, hv_, Int.pow_succ]
theorem plumbref04_Power.f_eq (b : Int) (hb0 : 0 ≤ b) (hb : b < 4294967296) (n : Nat) (hn : n < 100000) (k : Nat) (hk : 2000000 < k) : plumbref04_Power.f k b (n : Int) = some (wd (b ^ n).toNat) := by
 rw [plumbref04_Power.f]
 refine plumbref04_Power.l0_eq b hb0 hb n hn n k [1] 0 rfl (by omega) (Nat.zero_le _) ?_ (by decide) (by rw [Int.pow_zero]; rfl)
 intro y hy
 rcases List.mem_singleton.1 hy with rfl
 exact ⟨by decide, by decide⟩
def dv (c : Nat) : Nat := if 48 ≤ c ∧ c ≤ 57 then c - 48 else if 97 ≤ c ∧ c ≤ 122 then c - 87 else if 65 ≤ c ∧ c ≤ 90 then c - 55 else 36
def by_ (s : ByteArray) (i : Nat) : Nat := (s.data.toList.getD i 0).toNat
def gd (b : Nat) (L : List UInt8) : Prop := ∀ c ∈ L, dv c.toNat < b
theorem nat_From.f_eq (v : Nat) (hv : v < 18446744073709551616) : nat_From.f (v : Int) = some (wd v) := by
 have hw : Ws [(v : Int)] := Ws.cons (by omega) (by omega) Ws.nil
 have e : nv [(v : Int)] = (v : Int) := by simp [nv]
 have h := wd_nv hw
 rw [e, Int.toNat_natCast] at h
 rw [nat_From.f, nat_Norm.f, if_pos (show [(v : Int)].length ≤ 35184372088832 from Nat.le_of_ble_eq_true rfl), Option.bind_some, h]
theorem rdn (xs : List Int) (n : Nat) : rd xs (n : Int) = xs.getD n 0 := rfl
theorem w64_s (n : Nat) (h : n < 9223372036854775807) : wrap64 ((n : Int) + 1) = ((n + 1 : Nat) : Int) := by rw [w64_of (by omega) (by omega)]; omega
theorem w64_p (n : Nat) (h : n < 9223372036854775807) : wrap64 (((n + 1 : Nat) : Int) - 1) = (n : Int) := by rw [w64_of (by omega) (by omega)]; omega
theorem take_snocD {xs : List Int} {i : Nat} (h : i < xs.length) : xs.take (i + 1) = xs.take i ++ [xs.getD i 0] := by
 rw [List.take_succ_eq_append_getElem h, List.getD_eq_getElem?_getD, List.getElem?_eq_getElem h]; rfl
theorem plumbref03_Norm.l1_eq (x : List Int) (n : Nat) (hn : n ≤ x.length) (hm : x.length ≤ 17592186044416) : ∀ (d k i : Nat), d = n - i → d < k → i ≤ n → plumbref03_Norm.l1 k x (n : Int) (x.take i) (i : Int) = some (x.take n) := by
 intro d
 induction d with
 | zero =>
  intro k i hd hk hi
  obtain ⟨k, rfl⟩ : ∃ j, k = j + 1 := ⟨k - 1, by omega⟩
  obtain rfl : i = n := by omega
  rw [plumbref03_Norm.l1, if_neg (by omega)]
 | succ d ih =>
  intro k i hd hk hi
  obtain ⟨k, rfl⟩ : ∃ j, k = j + 1 := ⟨k - 1, by omega⟩
  have ht : (x.take i).length ≤ i := List.length_take_le _ _
  rw [plumbref03_Norm.l1, if_pos (by omega), if_pos (by omega), if_pos (by omega), if_pos (by omega), rdn, w64_s i (by omega), ← take_snocD (by omega)]
  exact ih k (i + 1) (by omega) (by omega) (by omega)
theorem plumbref03_Norm.l0_eq (x : List Int) (hm : x.length ≤ 17592186044416) : ∀ (n k : Nat), n ≤ x.length → x.length + n + 2 < k → strip x = strip (x.take n) → plumbref03_Norm.l0 k x (n : Int) = some (strip x) := by
 intro n
 induction n with
 | zero =>
  intro k hn hk hs
  obtain ⟨k, rfl⟩ : ∃ j, k = j + 2 := ⟨k - 2, by omega⟩
  rw [plumbref03_Norm.l0, if_neg (by omega), plumbref03_Norm.j1]
  have := plumbref03_Norm.l1_eq x 0 (by omega) hm 0 k 0 (by omega) (by omega) (by omega)
  rw [List.take_zero] at this hs
  rw [hs]
  exact this
 | succ n ih =>
  intro k hn hk hs
  obtain ⟨k, rfl⟩ : ∃ j, k = j + 2 := ⟨k - 2, by omega⟩
  rw [take_snocD (by omega)] at hs
  rw [plumbref03_Norm.l0, if_pos (by omega), w64_p n (by omega), if_pos (by omega), if_pos (by omega), rdn]
  by_cases h0 : x.getD n 0 = 0
  ·rw [if_pos h0]
   rw [h0, strip_snoc_zero] at hs
   exact ih (k + 1) (by omega) (by omega) hs
  ·rw [if_neg h0, plumbref03_Norm.j1]
   have := plumbref03_Norm.l1_eq x (n + 1) hn hm (n + 1) k 0 (by omega) (by omega) (by omega)
   rw [List.take_zero] at this
   rw [strip_snoc_ne _ h0, ← take_snocD (by omega)] at hs
   rw [hs]
   exact this
theorem plumbref03_Norm.f_eq (x : List Int) (hm : x.length ≤ 17592186044416) (k : Nat) (hk : 2 * x.length + 2 < k) : plumbref03_Norm.f k x = some (strip x) := by
 rw [plumbref03_Norm.f]
 exact plumbref03_Norm.l0_eq x hm x.length k (Nat.le_refl _) (by omega) (by rw [List.take_length])
theorem nv_take_lt {xs : List Int} (h : Ws xs) (i : Nat) : nv (xs.take i) < 2 ^ (64 * i) := by
 have h1 := nv_lt (h.take i)
 have h2 : (xs.take i).length ≤ i := List.length_take_le _ _
 exact Int.lt_of_lt_of_le h1 (pow_mono (by omega))
theorem nv_snoc (xs : List Int) (v : Int) : nv (xs ++ [v]) = nv xs + 2 ^ (64 * xs.length) * v := by
 rw [nv_append]; simp [nv]
theorem Ws_snoc {xs : List Int} (h : Ws xs) {v : Int} (h0 : 0 ≤ v) (h1 : v < 18446744073709551616) : Ws (xs ++ [v]) := h.append (Ws.cons h0 h1 Ws.nil)
theorem plumbref03_Shl.l1_eq (x : List Int) (hx : Ws x) (q s : Nat) (hs : s ≤ 63) (hm : x.length + q ≤ 17592186044415) : ∀ (d k i : Nat) (acc : List Int) (c : Int), d = x.length - i → d + 2 * (x.length + q) + 10 < k → i ≤ x.length → acc.length = q + i → Ws acc → 0 ≤ c → c < 2 ^ s → nv acc + 2 ^ (64 * (q + i)) * c = nv (x.take i) * 2 ^ s * 2 ^ (64 * q) →
  plumbref03_Shl.l1 k x acc (s : Int) c (i : Int) = some (wd (nv x * 2 ^ (64 * q + s)).toNat) := by
 have hP := two_pow_pos s
 have hR := two_pow_pos (64 - s)
 have hPR := pow_split (s := s) (by omega)
 have hle : (2 : Int) ^ s ≤ 2 ^ 63 := pow_mono hs
 rw [show (2 : Int) ^ 63 = 9223372036854775808 from by decide] at hle
 intro d
 induction d with
 | zero =>
  intro k i acc c hd hk hi hl hw hc0 hc he
  obtain ⟨k, rfl⟩ : ∃ j, k = j + 1 := ⟨k - 1, by omega⟩
  obtain rfl : i = x.length := by omega
  rw [List.take_length] at he
  have hw2 := Ws_snoc hw hc0 (by omega : c < 18446744073709551616)
  rw [plumbref03_Shl.l1, if_neg (by omega), if_pos (by omega), plumbref03_Norm.f_eq _ (by rw [List.length_append, List.length_singleton]; omega) k (by rw [List.length_append, List.length_singleton]; omega), Option.bind_some, ← wd_nv hw2, nv_snoc, hl, he, Int.mul_assoc, ← Int.pow_add, Nat.add_comm s]
 | succ d ih =>
  intro k i acc c hd hk hi hl hw hc0 hc he
  obtain ⟨k, rfl⟩ : ∃ j, k = j + 1 := ⟨k - 1, by omega⟩
  have ho := hx.getD i
  have hy : x.getD i 0 / 2 ^ (64 - s) < 2 ^ s := Int.ediv_lt_of_lt_mul hR (by rw [hPR]; exact ho.2)
  have hy0 : 0 ≤ x.getD i 0 / 2 ^ (64 - s) := Int.ediv_nonneg ho.1 (Int.le_of_lt hR)
  have hlow := shl_low (x := x.getD i 0) hP hPR
  have hm1 := Int.emod_nonneg (x.getD i 0 * 2 ^ s) (show (18446744073709551616 : Int) ≠ 0 by decide)
  have hm2 := Int.emod_lt_of_pos (x.getD i 0 * 2 ^ s) (show (0 : Int) < 18446744073709551616 by decide)
  have g1 : x.getD i 0 % 2 ^ (64 - s) < 2 ^ (64 - s) := Int.emod_lt_of_pos _ hR
  have hsum : x.getD i 0 * 2 ^ s % 18446744073709551616 + c < 18446744073709551616 := by
   rw [hlow, ← hPR]
   have h3 : 2 ^ s * (x.getD i 0 % 2 ^ (64 - s) + 1) ≤ 2 ^ s * 2 ^ (64 - s) := Int.mul_le_mul_of_nonneg_left g1 (Int.le_of_lt hP)
   rw [Int.mul_add, Int.mul_one] at h3
   omega
  have e1 : shl .u64 (x.getD i 0) (s : Int) = x.getD i 0 * 2 ^ s % 18446744073709551616 := by rw [shl_eq, Int.toNat_natCast, Nat.min_eq_left (by omega)]
  have e2 : Go.bits .or .u64 (x.getD i 0 * 2 ^ s % 18446744073709551616) c = x.getD i 0 * 2 ^ s % 18446744073709551616 + c := or_join s hm1 hm2 (by rw [hlow, Int.mul_emod_right]) hc0 hc (by omega)
  have e3 : ∀ (z : Int), nv (acc ++ [x.getD i 0 * 2 ^ s % 18446744073709551616 + c]) + 2 ^ (64 * (q + (i + 1))) * (x.getD i 0 / 2 ^ (64 - s)) = nv (x.take (i + 1)) * 2 ^ s * 2 ^ (64 * q) := by
   intro _
   rw [nv_snoc, hl, nv_take_succ (by omega), show q + (i + 1) = (q + i) + 1 from rfl, pow64, Int.add_mul, Int.add_mul, ← he]
   have h2 := shl_word (x := x.getD i 0) hP hPR
   have e4 : x.getD i 0 * 2 ^ (64 * i) * 2 ^ s * 2 ^ (64 * q) = x.getD i 0 * 2 ^ s * 2 ^ (64 * (q + i)) := by
    rw [show 64 * (q + i) = 64 * i + 64 * q from by omega, Int.pow_add]; grind
   rw [e4]
   generalize x.getD i 0 * 2 ^ s % 18446744073709551616 = v at *
   rw [h2]
   generalize x.getD i 0 / 2 ^ (64 - s) = u
   generalize (2 : Int) ^ (64 * (q + i)) = p
   grind
  rw [plumbref03_Shl.l1, if_pos (by omega), if_pos (by omega), if_pos (by omega), if_pos (by omega), Option.bind_some, rdn, e1, e2, w64_s i (by omega)]
  have hlen : (acc ++ [x.getD i 0 * 2 ^ s % 18446744073709551616 + c]).length = q + (i + 1) := by rw [List.length_append, List.length_singleton]; omega
  by_cases hs0 : s = 0
  ·subst hs0
   rw [if_neg (by decide)]
   have hz : x.getD i 0 / 2 ^ (64 - 0) = 0 := by
    rw [show (2 : Int) ^ (64 - 0) = 18446744073709551616 from by decide]; omega
   have e5 := e3 0
   rw [hz] at e5
   exact ih k (i + 1) _ 0 (by omega) (by omega) (by omega) hlen (Ws_snoc hw (by omega) hsum) (by decide) (by decide) e5
  ·have e6 : wrap64 (64 - (s : Int)) = ((64 - s : Nat) : Int) := by rw [w64_of (by omega) (by omega)]; omega
   have e7 : shr .u64 (x.getD i 0) ((64 - s : Nat) : Int) = x.getD i 0 / 2 ^ (64 - s) := by rw [shr_eq, Int.toNat_natCast, Nat.min_eq_left (by omega)]
   rw [if_pos (by omega), e6, if_pos (Int.natCast_nonneg _), e7]
   exact ih k (i + 1) _ _ (by omega) (by omega) (by omega) hlen (Ws_snoc hw (by omega) hsum) hy0 hy (e3 0)
theorem plumbref03_Shl.l0_eq (x : List Int) (hx : Ws x) (n : Nat) (hn : n ≤ 4503599627370496) (hm : x.length + n / 64 ≤ 17592186044415) : ∀ (d k i : Nat), d = n / 64 - i → d + 4 * (x.length + n / 64) + 20 < k → i ≤ n / 64 → plumbref03_Shl.l0 k x (n : Int) (List.replicate i 0) (i : Int) = some (wd (nv x * 2 ^ n).toNat) := by
 have e1 : wrap64 (Int.tdiv (n : Int) 64) = ((n / 64 : Nat) : Int) := by
  rw [Int.tdiv_eq_ediv_of_nonneg (by omega), w64_of (by omega) (by omega)]; omega
 have e2 : Int.tmod (n : Int) 64 = ((n % 64 : Nat) : Int) := by
  rw [Int.tmod_eq_emod_of_nonneg (by omega)]; omega
 intro d
 induction d with
 | zero =>
  intro k i hd hk hi
  obtain ⟨k, rfl⟩ : ∃ j, k = j + 1 := ⟨k - 1, by omega⟩
  obtain rfl : i = n / 64 := by omega
  rw [plumbref03_Shl.l0, e1, if_neg (by omega), e2]
  have r := plumbref03_Shl.l1_eq x hx (n / 64) (n % 64) (by omega) hm x.length k 0 (List.replicate (n / 64) 0) 0 (by omega) (by omega) (by omega) (by simp) (Ws.zeros _) (by decide) (two_pow_pos _) (by rw [nv_zeros]; simp [nv])
  rw [show 64 * (n / 64) + n % 64 = n from by omega] at r
  exact r
 | succ d ih =>
  intro k i hd hk hi
  obtain ⟨k, rfl⟩ : ∃ j, k = j + 1 := ⟨k - 1, by omega⟩
  rw [plumbref03_Shl.l0, e1, if_pos (by omega), if_pos (by rw [List.length_replicate]; omega), w64_s i (by omega)]
  have : List.replicate i (0 : Int) ++ [0] = List.replicate (i + 1) 0 := by rw [← List.replicate_succ']
  rw [this]
  exact ih k (i + 1) (by omega) (by omega) (by omega)
theorem plumbref03_Shl.f_eq (x : List Int) (hx : Ws x) (n : Nat) (hn : n ≤ 4503599627370496) (hm : x.length + n / 64 ≤ 17592186044415) (k : Nat) (hk : n / 64 + 4 * (x.length + n / 64) + 20 < k) : plumbref03_Shl.f k x (n : Int) = some (wd (nv x * 2 ^ n).toNat) := by
 rw [plumbref03_Shl.f]
 exact plumbref03_Shl.l0_eq x hx n hn hm (n / 64) k 0 (by omega) hk (by omega)
theorem hvm_nonneg {xs : List Int} (h : Hs xs) : 0 ≤ hv xs := by
 induction xs with
 | nil => exact Int.le_refl 0
 | cons x xs ih =>
  have h1 := ih (fun y hy => h y (List.mem_cons_of_mem _ hy))
  have h2 := h x List.mem_cons_self
  rw [hv_cons]; omega
theorem Hs_take {xs : List Int} (h : Hs xs) (n : Nat) : Hs (xs.take n) := fun y hy => h y (List.mem_of_mem_take hy)
theorem Hs_drop {xs : List Int} (h : Hs xs) (n : Nat) : Hs (xs.drop n) := fun y hy => h y (List.mem_of_mem_drop hy)
theorem hvm_split (xs : List Int) {n : Nat} (h : n ≤ xs.length) : hv xs = hv (xs.take n) + 2 ^ (32 * n) * hv (xs.drop n) := by
 conv => lhs; rw [← List.take_append_drop n xs]
 rw [hv_append, List.length_take, Nat.min_eq_left h]
theorem hvm_zero_of_lt {xs : List Int} (h : Hs xs) {t : Nat} (hl : hv xs < 2 ^ (32 * t)) : xs.getD t 0 = 0 := by
 by_cases ht : t < xs.length
 ·have e1 := hvm_split xs (n := t) (by omega)
  have h1 := hvm_nonneg (Hs_take h t)
  have h2 := hvm_nonneg (Hs_drop h t)
  have hp := two_pow_pos (32 * t)
  have h3 : hv (xs.drop t) < 1 := by
   apply Classical.byContradiction
   intro hn
   have : 2 ^ (32 * t) * 1 ≤ 2 ^ (32 * t) * hv (xs.drop t) := Int.mul_le_mul_of_nonneg_left (by omega) (Int.le_of_lt hp)
   omega
  rw [List.drop_eq_getElem_cons ht, hv_cons] at h3
  have h4 := hvm_nonneg (Hs_drop h (t + 1))
  have h5 := h.getD t
  rw [List.getD_eq_getElem?_getD, List.getElem?_eq_getElem ht] at h5 ⊢
  simp only [Option.getD_some] at h5 ⊢
  clear e1 hl h1 h2 hp
  omega
 ·rw [List.getD_eq_getElem?_getD, List.getElem?_eq_none (by omega)]; rfl
theorem hvm_set {xs : List Int} {n : Nat} (h : n < xs.length) (v : Int) : hv (xs.set n v) = hv xs + (v - xs.getD n 0) * 2 ^ (32 * n) := by
 have e1 := hvm_split xs (n := n) (by omega)
 have e2 := hvm_split (xs.set n v) (n := n) (by rw [List.length_set]; omega)
 rw [e2, e1, List.take_set_of_le (Nat.le_refl n), List.drop_eq_getElem_cons (by rw [List.length_set]; exact h), List.drop_eq_getElem_cons h, hv_cons, hv_cons, List.getElem_set_self, List.getD_eq_getElem?_getD, List.getElem?_eq_getElem h, Option.getD_some, List.drop_set_of_lt (by omega)]
 grind
def hlf (v : Int) (j : Nat) : Int := v / 2 ^ (32 * j) % 4294967296
theorem hlf_bd (v : Int) (j : Nat) : 0 ≤ hlf v j ∧ hlf v j < 4294967296 := by unfold hlf; omega
theorem hlf_succ (v : Int) (j : Nat) : v % 2 ^ (32 * (j + 1)) = v % 2 ^ (32 * j) + hlf v j * 2 ^ (32 * j) := by
 unfold hlf
 rw [pow32]
 have hp := two_pow_pos (32 * j)
 generalize (2 : Int) ^ (32 * j) = p at *
 have e1 := Int.mul_ediv_add_emod v p
 have b1 := Int.emod_nonneg v (Int.ne_of_gt hp)
 have b2 := Int.emod_lt_of_pos v hp
 have e2 : v = (v % p + v / p % 4294967296 * p) + 4294967296 * p * (v / p / 4294967296) := by
  have e3 : v / p = 4294967296 * (v / p / 4294967296) + v / p % 4294967296 := by omega
  generalize v / p / 4294967296 = a at *
  generalize v / p % 4294967296 = b at *
  rw [e3] at e1
  rw [← e1]
  grind
 conv => lhs; rw [e2]
 rw [Int.add_mul_emod_self_left]
 apply Int.emod_eq_of_lt
 ·have := Int.mul_nonneg (show 0 ≤ v / p % 4294967296 from by omega) (Int.le_of_lt hp)
  omega
 ·have : (v / p % 4294967296 + 1) * p ≤ 4294967296 * p := Int.mul_le_mul_of_nonneg_right (by omega) (Int.le_of_lt hp)
  rw [Int.add_mul, Int.one_mul] at this
  omega
theorem nv_at {y : List Int} (hy : Ws y) (i : Nat) : nv y / 2 ^ (64 * i) % 18446744073709551616 = y.getD i 0 := by
 by_cases h : i < y.length
 ·have e1 := nv_split (xs := y) (n := i) (by omega)
  have h1 := nv_nonneg (hy.take i)
  have h2 := nv_take_lt hy i
  have hp := two_pow_pos (64 * i)
  have e2 : nv y / 2 ^ (64 * i) = nv (y.drop i) := by
   rw [e1, Int.add_mul_ediv_left _ _ (Int.ne_of_gt hp), Int.ediv_eq_zero_of_lt h1 h2, Int.zero_add]
  have hg := hy.getD i
  rw [e2, List.drop_eq_getElem_cons h, nv_cons]
  rw [List.getD_eq_getElem?_getD, List.getElem?_eq_getElem h, Option.getD_some] at hg ⊢
  clear e1 e2 h1 h2 hp
  omega
 ·have h1 := nv_lt hy
  have h2 : (2 : Int) ^ (64 * y.length) ≤ 2 ^ (64 * i) := pow_mono (by omega)
  rw [Int.ediv_eq_zero_of_lt (nv_nonneg hy) (by omega), List.getD_eq_getElem?_getD, List.getElem?_eq_none (by omega)]
  rfl
theorem hlf_code {y : List Int} (hy : Ws y) (j : Nat) (hj : j < 4611686018427387904) : Go.bits .and .u64 (shr .u64 (rd y (wrap64 (Int.tdiv (j : Int) 2))) (wrap64 (32 * Int.tmod (j : Int) 2))) 4294967295 = hlf (nv y) j := by
 have e1 : wrap64 (Int.tdiv (j : Int) 2) = ((j / 2 : Nat) : Int) := by
  rw [Int.tdiv_eq_ediv_of_nonneg (by omega), w64_of (by omega) (by omega)]; omega
 have e2 : wrap64 (32 * Int.tmod (j : Int) 2) = ((32 * (j % 2) : Nat) : Int) := by
  rw [Int.tmod_eq_emod_of_nonneg (by omega), w64_of (by omega) (by omega)]; omega
 have hg := hy.getD (j / 2)
 have e0 := nv_at hy (j / 2)
 unfold hlf
 have ej : (2 : Int) ^ (32 * j) = 2 ^ (64 * (j / 2)) * 2 ^ (32 * (j % 2)) := by rw [← Int.pow_add]; congr 1; omega
 rw [e1, e2, rdn, shr_eq, Int.toNat_natCast, Nat.min_eq_left (by omega), ej, ← Int.ediv_ediv_of_nonneg (Int.le_of_lt (two_pow_pos _))]
 generalize nv y / 2 ^ (64 * (j / 2)) = w at *
 rw [← e0] at hg ⊢
 rcases Nat.mod_two_eq_zero_or_one j with h | h
 ·rw [h, show (2 : Int) ^ (32 * 0) = 1 from by decide, and_half (by omega) (by omega)]
  omega
 ·rw [h, show (2 : Int) ^ (32 * 1) = 4294967296 from by decide, and_half (by omega) (by omega)]
  omega
theorem mulh_step {a b o c : Int} (ha0 : 0 ≤ a) (ha : a < 4294967296) (hb0 : 0 ≤ b) (hb : b < 4294967296) (ho0 : 0 ≤ o) (ho : o < 4294967296) (hc0 : 0 ≤ c) (hc : c < 4294967296) :
  ∃ s, IntKind.u64.wrap (IntKind.u64.wrap (IntKind.u64.wrap (a * b) + o) + c) = s ∧ s = a * b + o + c ∧ Go.bits .and .u64 s 4294967295 = s % 4294967296 ∧ 0 ≤ s % 4294967296 ∧ s % 4294967296 < 4294967296 ∧ 0 ≤ s / 4294967296 ∧ s / 4294967296 < 4294967296 := by
 have hm := mul_half ha0 ha hb0 hb
 generalize a * b = z at *
 refine ⟨z + o + c, ?_, rfl, and_half (by omega) (by omega), by omega, by omega, by omega, by omega⟩
 rw [u64w_of (x := z) (by omega) (by omega), u64w_of (x := z + o) (by omega) (by omega), u64w_of (by omega) (by omega)]
theorem plumbref03_Mul.l1_eq (x y : List Int) (hy : Ws y) (i m n : Nat) (hn : n = 2 * y.length) (a : Int) (ha0 : 0 ≤ a) (ha : a < 4294967296) (hm : m ≤ 35184372088832) (him : i + n < m) :
  ∀ (d k : Nat) (out : List Int) (c : Int) (j : Nat), d = n - j → j ≤ n → out.length = m → Hs out → 0 ≤ c → c < 4294967296 → out.getD (i + n) 0 = 0 →
  ∃ out' c', Hs out' ∧ out'.length = m ∧ 0 ≤ c' ∧ c' < 4294967296 ∧ out'.getD (i + n) 0 = 0 ∧
   hv out' + c' * 2 ^ (32 * (i + n)) + a * (nv y % 2 ^ (32 * j)) * 2 ^ (32 * i) = hv out + c * 2 ^ (32 * (i + j)) + a * (nv y % 2 ^ (32 * n)) * 2 ^ (32 * i) ∧
   plumbref03_Mul.l1 (k + d + 1) x y out i a c j = plumbref03_Mul.l0 k x y (out'.set (i + n) c') ((i + 1 : Nat) : Int) := by
 have hw0 : wrap64 (2 * (y.length : Int)) = (n : Int) := by rw [w64_of (by omega) (by omega)]; omega
 intro d
 induction d with
 | zero =>
  intro k out c j hd hj hl hw hc0 hc hz
  obtain rfl : j = n := by omega
  refine ⟨out, c, hw, hl, hc0, hc, hz, rfl, ?_⟩
  rw [Nat.add_zero, plumbref03_Mul.l1, hw0, if_neg (by omega), w64_add i j (by omega), w64_succ i (by omega), Int.toNat_natCast, if_pos (by omega), if_pos (by omega), rdn, hz, Int.zero_add, u64w_of hc0 (by omega)]
 | succ d ih =>
  intro k out c j hd hj hl hw hc0 hc hz
  have b1 : i + j < 9223372036854775808 := by omega
  have b2 : j < 9223372036854775807 := by omega
  have q0 : (j : Int) < (n : Int) := by omega
  have q2 : (0 : Int) ≤ ((i + j : Nat) : Int) := by omega
  have q3 : ((i + j : Nat) : Int) < (out.length : Int) := by omega
  have q4 : d = n - (j + 1) := by omega
  have q5 : j + 1 ≤ n := by omega
  have q6 : i + j ≠ i + n := by omega
  have q7 : i + j < out.length := by omega
  have e1 : wrap64 (Int.tdiv (j : Int) 2) = ((j / 2 : Nat) : Int) := by
   rw [Int.tdiv_eq_ediv_of_nonneg (by omega), w64_of (by omega) (by omega)]; omega
  have e2 : wrap64 (32 * Int.tmod (j : Int) 2) = ((32 * (j % 2) : Nat) : Int) := by
   rw [Int.tmod_eq_emod_of_nonneg (by omega), w64_of (by omega) (by omega)]; omega
  have q8 : (0 : Int) ≤ ((j / 2 : Nat) : Int) := by omega
  have q9 : ((j / 2 : Nat) : Int) < (y.length : Int) := by omega
  have q10 : (0 : Int) ≤ ((32 * (j % 2) : Nat) : Int) := by omega
  have ec := hlf_code hy j (by omega)
  have hyj := hlf_bd (nv y) j
  have hoj := hw.getD (i + j)
  obtain ⟨s, es, ev, ea, hv0, hv1, hc0', hc'⟩ := mulh_step ha0 ha hyj.1 hyj.2 hoj.1 hoj.2 hc0 hc
  obtain ⟨out', c2, h1, h2, h3, h4, h5, h6, h7⟩ := ih k (out.set (i + j) (s % 4294967296)) (s / 4294967296) (j + 1) q4 q5 (by rw [List.length_set, hl]) (hw.set _ hv0 hv1) hc0' hc' (by rw [set_getD_ne q6]; exact hz)
  refine ⟨out', c2, h1, h2, h3, h4, h5, ?_, ?_⟩
  ·rw [hvm_set q7, hlf_succ] at h6
   clear e1 e2 ec es ea
   rw [show 32 * (i + (j + 1)) = 32 * (i + j + 1) from by omega, pow32, show 32 * (i + j) = 32 * i + 32 * j from by omega, Int.pow_add] at h6
   rw [show 32 * (i + j) = 32 * i + 32 * j from by omega, Int.pow_add]
   generalize nv y % 2 ^ (32 * n) = T at *
   generalize nv y % 2 ^ (32 * j) = U at *
   generalize (2 : Int) ^ (32 * i) = pi at *
   generalize (2 : Int) ^ (32 * j) = pj at *
   generalize out.getD (i + j) 0 = o at *
   generalize hlf (nv y) j = yj at *
   have e9 : s % 4294967296 = a * yj + o + c - s / 4294967296 * 4294967296 := by rw [← ev]; omega
   rw [e9] at h6
   generalize s / 4294967296 = c' at *
   clear h7 ih hyj hoj e9 ev
   grind
  ·rw [← h7, show k + (d + 1) + 1 = (k + d + 1) + 1 from by omega, plumbref03_Mul.l1, ec, e1, e2, hw0, w64_add i j b1, w64_succ j b2, if_pos q0, if_pos q8, if_pos q9, if_pos q10, if_pos q2, if_pos q3, rdn, es, ea, Int.toNat_natCast]
theorem wordh_join {lo hi : Int} (h0 : 0 ≤ lo) (h1 : lo < 4294967296) (h2 : 0 ≤ hi) (h3 : hi < 4294967296) : Go.bits .or .u64 lo (IntKind.u64.wrap (hi * 4294967296)) = lo + hi * 4294967296 := by
 rw [u64w_of (by omega) (by omega)]
 exact or_join' 32 (by omega) (by omega) (show hi * 4294967296 % 4294967296 = 0 by omega) h0 (show lo < 4294967296 from h1) (by omega)
theorem plumbref03_Mul.l2_eq (out : List Int) (ho : Hs out) (m : Nat) (hl : out.length = 2 * m + 1) (hm : m ≤ 17592186044415) (hv_ : hv out < 2 ^ (64 * m)) : ∀ (d k : Nat) (acc : List Int) (t : Nat), d = m - t → t ≤ m → d + 2 * m + 3 < k → acc.length = t → Ws acc → nv acc = hv (out.take (2 * t)) →
  plumbref03_Mul.l2 k out acc ((2 * t : Nat) : Int) = some (wd (hv out).toNat) := by
 intro d
 induction d with
 | zero =>
  intro k acc t hd ht hk ha hw he
  obtain ⟨k, rfl⟩ : ∃ j, k = j + 1 := ⟨k - 1, by omega⟩
  obtain rfl : t = m := by omega
  have hz : out.getD (2 * t) 0 = 0 := hvm_zero_of_lt ho (by rw [show 32 * (2 * t) = 64 * t from by omega]; exact hv_)
  have e1 : hv out = nv acc := by
   have e2 := hv_take_succ (xs := out) (i := 2 * t) (by omega)
   rw [List.take_of_length_le (by omega), hz, Int.zero_mul, Int.add_zero] at e2
   rw [e2, he]
  rw [plumbref03_Mul.l2, w64_s _ (by omega), if_neg (by omega), plumbref03_Norm.f_eq _ (by omega) k (by omega), Option.bind_some, e1, wd_nv hw]
 | succ d ih =>
  intro k acc t hd ht hk ha hw he
  obtain ⟨k, rfl⟩ : ∃ j, k = j + 1 := ⟨k - 1, by omega⟩
  have g1 := ho.getD (2 * t)
  have g2 := ho.getD (2 * t + 1)
  have ew2 : wrap64 (((2 * t : Nat) : Int) + 2) = ((2 * (t + 1) : Nat) : Int) := by rw [w64_of (by omega) (by omega)]; omega
  rw [plumbref03_Mul.l2, w64_s _ (by omega), ew2, if_pos (by omega), if_pos (by omega), if_pos (by omega), if_pos (by omega), if_pos (by omega), rdn, rdn, wordh_join g1.1 g1.2 g2.1 g2.2]
  refine ih k _ (t + 1) (by omega) (by omega) (by omega) (by rw [List.length_append, List.length_singleton, ha]) (hw.append (Ws.cons (by omega) (by omega) Ws.nil)) ?_
  rw [nv_append, he, show 2 * (t + 1) = 2 * t + 1 + 1 from by omega, hv_take_succ (by omega), hv_take_succ (by omega), pow32, ha, show 32 * (2 * t) = 64 * t from by omega]
  simp only [nv_cons, nv_nil]
  generalize (2 : Int) ^ (64 * t) = p
  generalize out.getD (2 * t) 0 = a
  generalize out.getD (2 * t + 1) 0 = b
  grind
theorem plumbref03_Mul.l0_eq (x y : List Int) (hx : Ws x) (hy : Ws y) (m : Nat) (hm : m ≤ 17592186044415) (hlm : x.length + y.length = m) : ∀ (d k : Nat) (out : List Int) (i : Nat), d = 2 * x.length - i → d * (2 * y.length + 2) + 3 * m + 10 < k → i ≤ 2 * x.length → out.length = 2 * m + 1 → Hs out → hv out = (nv x % 2 ^ (32 * i)) * nv y →
  plumbref03_Mul.l0 k x y out i = some (wd (nv x * nv y).toNat) := by
 have hw0 : wrap64 (2 * (x.length : Int)) = ((2 * x.length : Nat) : Int) := by rw [w64_of (by omega) (by omega)]; omega
 have hfull : ∀ z : List Int, Ws z → nv z % 2 ^ (32 * (2 * z.length)) = nv z := fun z hz =>
  Int.emod_eq_of_lt (nv_nonneg hz) (by have := nv_lt hz; rw [show 32 * (2 * z.length) = 64 * z.length from by omega]; exact this)
 intro d
 induction d with
 | zero =>
  intro k out i hd hk hi hl hw hv_
  obtain ⟨k, rfl⟩ : ∃ j, k = j + 1 := ⟨k - 1, by omega⟩
  obtain rfl : i = 2 * x.length := by omega
  rw [hfull x hx] at hv_
  rw [plumbref03_Mul.l0, hw0, if_neg (by omega), ← hv_]
  refine plumbref03_Mul.l2_eq out hw m hl (by omega) ?_ m k [] 0 (by omega) (by omega) (by omega) rfl Ws.nil (by simp [hv, nv])
  rw [hv_, ← hlm, Nat.mul_add, Int.pow_add]
  have h1 := nv_lt hx
  have h2 := nv_lt hy
  have h3 := nv_nonneg hx
  have h4 := nv_nonneg hy
  have h5 : nv x * nv y ≤ nv x * 2 ^ (64 * y.length) := Int.mul_le_mul_of_nonneg_left (Int.le_of_lt h2) h3
  have h6 : nv x * 2 ^ (64 * y.length) < 2 ^ (64 * x.length) * 2 ^ (64 * y.length) := Int.mul_lt_mul_of_pos_right h1 (two_pow_pos _)
  exact Int.lt_of_le_of_lt h5 h6
 | succ d ih =>
  intro k out i hd hk hi hl hw hv_
  have hk' : d * (2 * y.length + 2) + (2 * y.length + 2) + 3 * m + 10 < k := by rw [Nat.succ_mul] at hk; exact hk
  obtain ⟨k, rfl⟩ : ∃ j, k = j + 2 * y.length + 1 + 1 := ⟨k - (2 * y.length + 2), by omega⟩
  have hxi := hlf_bd (nv x) i
  have e1 : wrap64 (Int.tdiv (i : Int) 2) = ((i / 2 : Nat) : Int) := by
   rw [Int.tdiv_eq_ediv_of_nonneg (by omega), w64_of (by omega) (by omega)]; omega
  have e2 : wrap64 (32 * Int.tmod (i : Int) 2) = ((32 * (i % 2) : Nat) : Int) := by
   rw [Int.tmod_eq_emod_of_nonneg (by omega), w64_of (by omega) (by omega)]; omega
  have ec := hlf_code hx i (by omega)
  have htop : hv out < 2 ^ (32 * (i + 2 * y.length)) := by
   rw [hv_, Nat.mul_add, Int.pow_add, show 32 * (2 * y.length) = 64 * y.length from by omega]
   have h1 := Int.emod_lt_of_pos (nv x) (two_pow_pos (32 * i))
   have h2 := nv_lt hy
   have h3 := Int.emod_nonneg (nv x) (Int.ne_of_gt (two_pow_pos (32 * i)))
   have h5 : nv x % 2 ^ (32 * i) * nv y ≤ nv x % 2 ^ (32 * i) * 2 ^ (64 * y.length) := Int.mul_le_mul_of_nonneg_left (Int.le_of_lt h2) h3
   have h6 : nv x % 2 ^ (32 * i) * 2 ^ (64 * y.length) < 2 ^ (32 * i) * 2 ^ (64 * y.length) := Int.mul_lt_mul_of_pos_right h1 (two_pow_pos _)
   exact Int.lt_of_le_of_lt h5 h6
  obtain ⟨out', c', h1, h2, h3, h4, h5, h6, h7⟩ := plumbref03_Mul.l1_eq x y hy i (2 * m + 1) (2 * y.length) rfl (hlf (nv x) i) hxi.1 hxi.2 (by omega) (by omega) (2 * y.length) k out 0 0 (by omega) (by omega) hl hw (by omega) (by omega) (hvm_zero_of_lt hw htop)
  have h7' : plumbref03_Mul.l1 (k + 2 * y.length + 1) x y out i (hlf (nv x) i) 0 0 = plumbref03_Mul.l0 k x y (out'.set (i + 2 * y.length) c') ((i + 1 : Nat) : Int) := h7
  rw [plumbref03_Mul.l0, ec, e1, e2, hw0, if_pos (by omega), if_pos (by omega), if_pos (by omega), if_pos (by omega), h7']
  refine ih k _ (i + 1) (by omega) (by omega) (by omega) (by rw [List.length_set, h2]) (h1.set _ h3 h4) ?_
  rw [hvm_set (by omega), h5, hlf_succ, Int.add_mul, ← hv_]
  rw [hfull y hy] at h6
  simp only [Nat.mul_zero, Int.pow_zero, Int.emod_one, Int.mul_zero, Int.zero_mul, Int.add_zero] at h6
  generalize (2 : Int) ^ (32 * i) = pi at *
  generalize (2 : Int) ^ (32 * (i + 2 * y.length)) = pl at *
  generalize hlf (nv x) i = xi at *
  clear h7 h7' e1 e2 ec ih hk hk'
  grind
theorem plumbref03_Mul.f_eq (x y : List Int) (hx : Ws x) (hy : Ws y) (hm : x.length + y.length ≤ 17592186044415) (k : Nat) (hk : 2 * x.length * (2 * y.length + 2) + 3 * (x.length + y.length) + 10 < k) : plumbref03_Mul.f k x y = some (wd (nv x * nv y).toNat) := by
 have e1 : wrap64 (wrap64 (2 * wrap64 ((x.length : Int) + (y.length : Int))) + 1) = ((2 * (x.length + y.length) + 1 : Nat) : Int) := by
  rw [w64_of (x := (x.length : Int) + (y.length : Int)) (by omega) (by omega), w64_of (x := 2 * _) (by omega) (by omega), w64_of (by omega) (by omega)]; omega
 rw [plumbref03_Mul.f, e1, if_pos (by omega), Int.toNat_natCast, if_pos (by omega)]
 refine plumbref03_Mul.l0_eq x y hx hy (x.length + y.length) hm rfl (2 * x.length) k _ 0 (by omega) hk (by omega) (by rw [List.length_replicate]) ?_ ?_
 ·intro z hz
  rw [List.eq_of_mem_replicate hz]; omega
 ·have : hv (List.replicate (2 * (x.length + y.length) + 1) 0) = 0 := by
   generalize 2 * (x.length + y.length) + 1 = n
   induction n with
   | zero => rfl
   | succ n ih => rw [List.replicate_succ, hv_cons, ih]; rfl
  rw [this]; simp
theorem and_top0 {z : Nat} (hz : z < 9223372036854775808) : z &&& 9223372036854775808 = 0 := by
 rw [show (9223372036854775808 : Nat) = 2 ^ 63 from by decide]
 apply Nat.eq_of_testBit_eq
 intro i
 rw [Nat.testBit_and, Nat.testBit_two_pow, Nat.zero_testBit]
 by_cases h : 63 = i
 ·subst h
  rw [Nat.testBit_lt_two_pow (by rw [show (2 : Nat) ^ 63 = 9223372036854775808 from by decide]; omega)]
  rfl
 ·rw [decide_eq_false h, Bool.and_false]
theorem and_top1 {z : Nat} (hz : z < 9223372036854775808) : (z + 9223372036854775808) &&& 9223372036854775808 = 9223372036854775808 := by
 rw [show (9223372036854775808 : Nat) = 2 ^ 63 from by decide]
 apply Nat.eq_of_testBit_eq
 intro i
 rw [Nat.testBit_and, Nat.testBit_two_pow]
 by_cases h : 63 = i
 ·subst h
  rw [Nat.add_comm, Nat.testBit_two_pow_add_eq, Nat.testBit_lt_two_pow (by rw [show (2 : Nat) ^ 63 = 9223372036854775808 from by decide]; omega)]
  rfl
 ·rw [decide_eq_false h, Bool.and_false]
theorem top_bit {a : Int} (h0 : 0 ≤ a) (h1 : a < 18446744073709551616) : (Go.bits .and .u64 a 9223372036854775808 != 0) = decide (9223372036854775808 ≤ a) := by
 by_cases h : a < 9223372036854775808
 ·obtain ⟨z, rfl⟩ : ∃ z : Nat, a = (z : Int) := ⟨a.toNat, by omega⟩
  have e := u64_and_nat z 9223372036854775808 (by omega) (by decide)
  rw [and_top0 (by omega)] at e
  rw [show Go.bits .and .u64 (z : Int) 9223372036854775808 = 0 from e, decide_eq_false (by omega)]
  rfl
 ·obtain ⟨z, rfl⟩ : ∃ z : Nat, a = ((z + 9223372036854775808 : Nat) : Int) := ⟨a.toNat - 9223372036854775808, by omega⟩
  have e := u64_and_nat (z + 9223372036854775808) 9223372036854775808 (by omega) (by decide)
  rw [and_top1 (by omega)] at e
  rw [show Go.bits .and .u64 ((z + 9223372036854775808 : Nat) : Int) 9223372036854775808 = 9223372036854775808 from e, decide_eq_true (by omega)]
  rfl
theorem split_both {a : Int} (h0 : 0 ≤ a) (h1 : a < 18446744073709551616) (k : Nat) (hk : 1 ≤ k) :
  (f64_Split.f k a = some (false, 0, 0, 60) ∧ plumbref06_Split.f a = some (false, 0, 0, 60)) ∨
  ∃ (m : Nat) (e : Int), m < 9007199254740992 ∧ -1074 ≤ e ∧ e ≤ 971 ∧ f64_Split.f k a = some (decide (9223372036854775808 ≤ a), (m : Int), e, 0) ∧ plumbref06_Split.f a = some (decide (9223372036854775808 ≤ a), (m : Int), e, 0) := by
 obtain ⟨k, rfl⟩ : ∃ j, k = j + 1 := ⟨k - 1, by omega⟩
 have e1 : Go.bits .and .u64 a 4503599627370495 = a % 4503599627370496 := by
  rw [show Go.bits .and .u64 a 4503599627370495 = a % 2 ^ 52 from and_mask h0 h1 52 (by omega) _ rfl, show (2 : Int) ^ 52 = 4503599627370496 from by decide]
 have e2 : Go.bits .and .u64 (a / 4503599627370496) 2047 = a / 4503599627370496 % 2048 := by
  rw [show Go.bits .and .u64 (a / 4503599627370496) 2047 = (a / 4503599627370496) % 2 ^ 11 from and_mask (by omega) (by omega) 11 (by omega) _ rfl, show (2 : Int) ^ 11 = 2048 from by decide]
 have e3 : ((a / 9223372036854775808) == 1) = decide (9223372036854775808 ≤ a) := by
  by_cases h : 9223372036854775808 ≤ a
  ·rw [decide_eq_true h]; exact beq_iff_eq.mpr (by omega)
  ·rw [decide_eq_false h]; exact beq_eq_false_iff_ne.mpr (by omega)
 have e4 := top_bit h0 h1
 obtain ⟨q, hq⟩ : ∃ q : Nat, a / 4503599627370496 % 2048 = (q : Int) := ⟨(a / 4503599627370496 % 2048).toNat, by omega⟩
 obtain ⟨f, hf⟩ : ∃ f : Nat, a % 4503599627370496 = (f : Int) := ⟨(a % 4503599627370496).toNat, by omega⟩
 have hq1 : q < 2048 := by omega
 have hf1 : f < 4503599627370496 := by omega
 rw [f64_Split.f, f64_Class.f, f64_fields.f, plumbref06_Split.f, plumbref06_fields.f, e1, e2, e3, e4, hq, hf, w64_of (x := (q : Int)) (by omega) (by omega)]
 clear e1 e2 e3 e4 hq hf
 simp only [Option.bind_some]
 by_cases g0 : q = 0
 ·subst g0
  refine .inr ⟨f, -1074, by omega, by omega, by omega, ?_, ?_⟩
  ·rw [if_pos (show ((0 : Nat) : Int) = 0 from rfl), f64_Class.j0]
   by_cases g1 : f = 0
   ·subst g1; rfl
   ·rw [if_neg (by intro e; have := beq_iff_eq.1 e; omega), if_pos (show ((0 : Nat) : Int) = 0 from rfl)]; rfl
  ·rw [if_neg (by decide), if_pos (show ((0 : Nat) : Int) = 0 from rfl)]
 ·have g0' : ¬ ((q : Nat) : Int) = 0 := by omega
  rw [if_neg g0', f64_Class.j0, if_neg (by decide), if_neg g0']
  by_cases g2 : q = 2047
  ·subst g2
   refine .inl ⟨?_, ?_⟩
   ·rw [if_neg (by decide)]
    by_cases g1 : ((f : Nat) : Int) = 0
    ·rw [if_pos g1]; rfl
    ·rw [if_neg g1]; rfl
   ·rw [if_pos (show ((2047 : Nat) : Int) = 2047 from rfl)]
  ·have eo : Go.bits .or .u64 4503599627370496 (f : Int) = ((4503599627370496 + f : Nat) : Int) := by
    rw [or_join 52 (by decide) (by decide) (by decide) (by omega) (by rw [show (2 : Int) ^ 52 = 4503599627370496 from by decide]; omega) (by omega)]; omega
   refine .inr ⟨4503599627370496 + f, (q : Int) - 1075, by omega, by omega, by omega, ?_, ?_⟩
   ·rw [if_pos (by omega)]
    show some (_, Go.bits .or .u64 4503599627370496 (f : Int), wrap64 ((q : Int) - 1075), (0 : Int)) = _
    rw [eo, w64_of (by omega) (by omega)]
   ·rw [if_neg (by omega), if_neg (by omega), u64w, w64_of (by omega) (by omega), Int.emod_eq_of_lt (by omega) (by omega)]
    rfl
theorem split_eq {a : Int} (h0 : 0 ≤ a) (h1 : a < 18446744073709551616) (k : Nat) (hk : 1 ≤ k) : f64_Split.f k a = plumbref06_Split.f a := by
 rcases split_both h0 h1 k hk with ⟨e1, e2⟩ | ⟨m, e, _, _, _, e1, e2⟩
 ·rw [e1, e2]
 ·rw [e1, e2]
end Go.Proofs.YthjleohmlohgbaaDoor.PA
