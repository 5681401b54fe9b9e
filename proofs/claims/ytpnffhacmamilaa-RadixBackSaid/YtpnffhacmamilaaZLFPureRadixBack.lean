/- RadixBack: for every list of words, every base and number of zeros the law's printed function tells true. No conditions but that the list's words are words and that it is no longer than a list can be. -/
import Derived.Test.YtpnffhacmamilaaZLFLF
import Derived.OpenShut
namespace Go.Proofs.Ytpnffhacmamilaa.Pure
open Go Go.RowKit Go.Proofs.Ytpnffhacmamilaa.PA Go.Proofs.YtpnffhacmamilaaW.PrintWords Go.Proofs.YtpnffhacmamilaaW.PrintLast
set_option linter.unusedVariables false
set_option linter.unusedSimpArgs false
theorem ext_getD {xs ys : List Int} (hl : xs.length = ys.length) (h : ∀ t, t < ys.length → xs.getD t 0 = ys.getD t 0) : xs = ys := by
  apply List.ext_getElem hl
  intro t h1 h2
  have := h t h2
  rw [List.getD_eq_getElem?_getD, List.getElem?_eq_getElem h1, List.getD_eq_getElem?_getD, List.getElem?_eq_getElem h2] at this
  exact this
theorem back_l0 (x0 : List Int) (x1 x2 : Int) (s : ByteArray) (L : List Int) (hl : L.length ≤ 281474976710656) (z : Nat) (hz : wrap64 (Int.tmod (IntKind.u64.wrap x2) 50) = (z : Int)) (hz50 : z < 50) :
    ∀ (d k i : Nat) (cur : List Int), L.length - i = d → i ≤ L.length → cur.length = L.length → (∀ t, t < L.length → cur.getD t 0 = if t < i then upc (L.getD t 0) else L.getD t 0) →
    plumblaw04_RadixBack.l0 (k + d + 1) x0 x1 x2 s cur i = plumblaw04_RadixBack.l1 k x0 x1 s (L.map upc) (List.replicate z 0) 0 := by
  intro d
  induction d with
  | zero =>
    intro k i cur hd hi hc hv
    have e : cur = L.map upc := by
      apply ext_getD (by rw [List.length_map]; exact hc)
      intro t ht
      rw [List.length_map] at ht
      rw [hv t ht, if_pos (by omega), List.getD_eq_getElem?_getD, List.getD_eq_getElem?_getD, List.getElem?_map, List.getElem?_eq_getElem ht]
      rfl
    conv => lhs; unfold plumblaw04_RadixBack.l0
    rw [if_neg (by omega), hz, if_pos (Int.natCast_nonneg _), Int.toNat_natCast, if_pos (by omega), e]
  | succ d ih =>
    intro k i cur hd hi hc hv
    have c1 : (i : Int) < (cur.length : Int) := by omega
    have c2 : (0 : Int) ≤ (i : Int) := Int.natCast_nonneg _
    have er : rd cur (i : Int) = L.getD i 0 := by
      show cur.getD i 0 = _
      rw [hv i (by omega), if_neg (Nat.lt_irrefl _)]
    have ew := w64_succ i (by omega)
    rw [show k + (d + 1) + 1 = (k + d + 1) + 1 from by omega]
    conv => lhs; unfold plumblaw04_RadixBack.l0
    rw [if_pos c1, if_pos c2, er, ew, Int.toNat_natCast]
    clear ew
    have stay : upc (L.getD i 0) = L.getD i 0 → ∀ t, t < L.length → cur.getD t 0 = if t < i + 1 then upc (L.getD t 0) else L.getD t 0 := by
      intro hs t ht
      rw [hv t ht]
      by_cases h1 : t < i
      · rw [if_pos h1, if_pos (by omega)]
      · rw [if_neg h1]
        by_cases h2 : t = i
        · subst h2; rw [if_pos (by omega), hs]
        · rw [if_neg (by omega)]
    by_cases h1 : L.getD i 0 ≥ 97
    · rw [if_pos h1]
      by_cases h2 : L.getD i 0 ≤ 122
      · rw [if_pos h2]
        refine ih k (i + 1) _ (by omega) (by omega) (by rw [List.length_set]; exact hc) ?_
        intro t ht
        by_cases h3 : t = i
        · subst h3
          rw [if_pos (by omega), List.getD_eq_getElem?_getD, List.getElem?_set_self (by omega)]
          unfold upc
          rw [if_pos h1, if_pos h2]
          rfl
        · rw [set_getD_ne (Ne.symm h3), hv t ht]
          by_cases h4 : t < i
          · rw [if_pos h4, if_pos (by omega)]
          · rw [if_neg h4, if_neg (by omega)]
      · rw [if_neg h2]
        exact ih k (i + 1) cur (by omega) (by omega) hc (stay (by unfold upc; rw [if_pos h1, if_neg h2]))
    · rw [if_neg h1]
      exact ih k (i + 1) cur (by omega) (by omega) hc (stay (by unfold upc; rw [if_neg h1]))
theorem back_l1 (x0 : List Int) (x1 : Int) (s : ByteArray) (Y : List Int) (z : Nat) (hz50 : z < 50) :
    ∀ (d k i : Nat) (cur : List Int), z - i = d → i ≤ z → cur.length = z → (∀ t, t < z → cur.getD t 0 = if t < i then 48 else 0) →
    plumblaw04_RadixBack.l1 (k + d + 1) x0 x1 s Y cur i = plumblaw04_RadixBack.l1 (k + 1) x0 x1 s Y (List.replicate z 48) (z : Int) := by
  intro d
  induction d with
  | zero =>
    intro k i cur hd hi hc hv
    have e : cur = List.replicate z 48 := by
      apply ext_getD (by rw [List.length_replicate]; exact hc)
      intro t ht
      rw [List.length_replicate] at ht
      rw [hv t ht, if_pos (by omega), List.getD_eq_getElem?_getD, List.getElem?_replicate, if_pos ht]
      rfl
    obtain rfl : i = z := by omega
    rw [e]
  | succ d ih =>
    intro k i cur hd hi hc hv
    have c1 : (i : Int) < (cur.length : Int) := by omega
    have c2 : (0 : Int) ≤ (i : Int) := Int.natCast_nonneg _
    have ew := w64_succ i (by omega)
    rw [show k + (d + 1) + 1 = (k + d + 1) + 1 from by omega]
    conv => lhs; unfold plumblaw04_RadixBack.l1
    rw [if_pos c1, if_pos c2, ew, Int.toNat_natCast]
    clear ew
    refine ih k (i + 1) _ (by omega) (by omega) (by rw [List.length_set]; exact hc) ?_
    intro t ht
    by_cases h3 : t = i
    · subst h3
      rw [if_pos (by omega), List.getD_eq_getElem?_getD, List.getElem?_set_self (by omega)]
      rfl
    · rw [set_getD_ne (Ne.symm h3), hv t ht]
      by_cases h4 : t < i
      · rw [if_pos h4, if_pos (by omega)]
      · rw [if_neg h4, if_neg (by omega)]
theorem empty_list : ((⟨#[]⟩ : ByteArray).toList == ([] : List UInt8)) = true := by rw [ByteArray.toList_eq]; rfl
theorem up48 : upc 48 = 48 := by decide
/-- from the text on -/
theorem back_mid (x : List Int) (hw : Ws x) (hl : x.length ≤ 35184372088832) (hv : nv x < (2 : Int) ^ 262144) (b : Nat) (hb2 : 2 ≤ b) (hb : b ≤ 36) (a2 : Int) (k : Nat) (hk : 10000000000 < k) :
    plumblaw04_RadixBack.j0 k x b a2 (txt b (nv x).toNat) 0 false = some true := by
  have hn := nv_nonneg hw
  obtain ⟨N, hN⟩ : ∃ N : Nat, nv x = (N : Int) := ⟨(nv x).toNat, by clear hv; omega⟩
  have hs : wd N = strip x := by
    have := wd_nv hw
    rw [hN, Int.toNat_natCast] at this
    exact this
  have hsl : (strip x).length ≤ 4096 := (strip_len_le hw 4096).2 hv
  rw [hN] at hv ⊢
  rw [Int.toNat_natCast, txt_tx]
  have hby := tx_bytes hb2 hb N
  have hne := tx_ne b N hb2
  have hv2 : N < 2 ^ 262144 := by
    have := toNat_lt_pow 262144 hv
    rw [Int.toNat_natCast] at this
    exact this
  have hlen : (tx b N).length ≤ 262144 := by
    unfold tx
    by_cases h0 : N = 0
    · rw [if_pos h0]; decide
    · rw [if_neg h0, List.length_reverse]; exact dgs_length_bits hb2 hv2
  clear hv2
  have hpos : 0 < (tx b N).length := List.length_pos_iff.2 hne
  obtain ⟨z, hz50, hz⟩ : ∃ z : Nat, z < 50 ∧ wrap64 (Int.tmod (IntKind.u64.wrap a2) 50) = (z : Int) := by
    have h1 := u64w_range a2
    clear hv
    generalize IntKind.u64.wrap a2 = q at *
    refine ⟨(q % 50).toNat, by omega, ?_⟩
    rw [Int.tmod_eq_emod_of_nonneg h1.1]
    unfold wrap64; omega
  have hss : (strOfNums (tx b N)).size = (tx b N).length := str_size _
  -- the two texts read
  obtain ⟨v1, g1⟩ := vl_tx (fun c => c) dv_dg rfl hb2 hb N
  obtain ⟨v2, g2⟩ := vl_tx upc dv_up up48 hb2 hb N
  rw [List.map_id'] at v1 g1
  have p1 := parse_good b hb2 hb (strOfNums (tx b N)) g1 (by rw [hss]; exact Nat.ne_of_gt hpos)
  have eD : (strOfNums (List.replicate z 48) ++ strOfNums ((tx b N).map upc)).data.toList = (List.replicate z (48 : Int)).map tob ++ ((tx b N).map upc).map tob := by rw [app_data, str_data, str_data]
  have g3 : gd b (strOfNums (List.replicate z 48) ++ strOfNums ((tx b N).map upc)).data.toList := by rw [eD]; exact gd_append (gd_zeros b hb2 z) g2
  have v3 : vl b (strOfNums (List.replicate z 48) ++ strOfNums ((tx b N).map upc)).data.toList = N := by rw [eD, vl_append, vl_zeros, v2, Nat.zero_mul, Nat.zero_add]
  have z3 : (strOfNums (List.replicate z 48) ++ strOfNums ((tx b N).map upc)).size = z + (tx b N).length := by rw [← size_data, eD]; simp
  have p3 := parse_good b hb2 hb (strOfNums (List.replicate z 48) ++ strOfNums ((tx b N).map upc)) g3 (by rw [z3]; omega)
  rw [v3, bnd_small hv, Int.toNat_natCast, z3] at p3
  rw [str_data] at p1
  rw [v1, bnd_small hv, Int.toNat_natCast, hss] at p1
  have ed : decide ((0 : Int) ≠ 0) = false := decide_eq_false (fun h => h rfl)
  obtain ⟨k, rfl⟩ : ∃ j, k = j + 1 + 1 + ((tx b N).length + 1) + (z + 1) := ⟨k - 2 - ((tx b N).length + 1) - (z + 1), by clear hv; omega⟩
  have kk : 1000000000 < k := by clear hv; omega
  -- the way there
  have hj1 : ∀ j, j = k + (z + 1) + ((tx b N).length + 1) + 1 → plumblaw04_RadixBack.j1 j x b a2 (strOfNums (tx b N)) false = some true := by
    intro j hj
    rw [hj, plumblaw04_RadixBack.j1, if_neg (show ¬ (false = true) by decide), if_pos (by rw [hss]; clear hv; omega), bytes_str hby]
    have e1 := back_l0 x b a2 (strOfNums (tx b N)) (tx b N) (by clear hv; omega) z hz hz50 (tx b N).length (k + (z + 1)) 0 (tx b N) (by clear hv; omega) (by clear hv; omega) rfl (fun t ht => by rw [if_neg (by clear hv; omega)])
    have e1' : plumblaw04_RadixBack.l0 (k + (z + 1) + ((tx b N).length + 1)) x b a2 (strOfNums (tx b N)) (tx b N) 0 = plumblaw04_RadixBack.l1 (k + (z + 1)) x b (strOfNums (tx b N)) ((tx b N).map upc) (List.replicate z 0) 0 := e1
    have e2 := back_l1 x b (strOfNums (tx b N)) ((tx b N).map upc) z hz50 z k 0 (List.replicate z 0) (by clear hv; omega) (by clear hv; omega) (by rw [List.length_replicate]) (fun t ht => by rw [if_neg (by clear hv; omega), List.getD_eq_getElem?_getD, List.getElem?_replicate, if_pos ht]; rfl)
    have e2' : plumblaw04_RadixBack.l1 (k + (z + 1)) x b (strOfNums (tx b N)) ((tx b N).map upc) (List.replicate z 0) 0 = plumblaw04_RadixBack.l1 (k + 1) x b (strOfNums (tx b N)) ((tx b N).map upc) (List.replicate z 48) (z : Int) := e2
    rw [e1', e2', plumblaw04_RadixBack.l1, if_neg (by rw [List.length_replicate]; exact Int.lt_irrefl _), p1 k (by clear hv; omega), Option.bind_some, if_pos (by rw [str_size, str_size, List.length_replicate, List.length_map]; clear hv; omega), p3 k (by clear hv; omega), Option.bind_some, ed, if_neg (show ¬ (false = true) by decide), if_neg (show ¬ (false = true) by decide), nat_Norm.f, if_pos hl, Option.bind_some, hs, plumblaw04_eq.f_eq _ _ (Nat.le_trans hsl (by decide)) k (Nat.lt_of_le_of_lt hsl (by clear hv; omega)), decide_eq_true rfl, Option.bind_some, if_pos rfl, Option.bind_some]
  have ek : k + 1 + 1 + ((tx b N).length + 1) + (z + 1) = (k + (z + 1) + ((tx b N).length + 1) + 1) + 1 := by clear hv; omega
  have hj := hj1 (k + (z + 1) + ((tx b N).length + 1) + 1) rfl
  rw [ek, plumblaw04_RadixBack.j0, if_neg (show ¬ (false = true) by decide), if_pos rfl, hss, if_neg (by clear hv; omega), if_pos (by clear hv; omega), bt_str hby hne]
  by_cases h48 : (tx b N).getD 0 0 = 48
  · have h0 := tx_head hb2 hb N h48
    have e0 : ((strOfNums (tx b N)).toList != ([48] : List UInt8)) = false := by
      rw [h0]
      rw [ByteArray.toList_eq, str_data]
      rfl
    rw [if_pos h48, e0]
    exact hj
  · rw [if_neg h48]
    exact hj
theorem RadixBack : plumblaw04_RadixBack.Pure := by
  intro l0 a1 a2 hml hl8 hws hw1 hw2
  have hw : Ws l0 := fun x hx => ⟨(bounds_u64 (hws x hx)).1, Int.lt_add_one_of_le (bounds_u64 (hws x hx)).2⟩
  refine ⟨100000000000 + l0.length, ?_⟩
  have kk : 10000000000 < 100000000000 + l0.length := by omega
  have kl : l0.length < 100000000000 + l0.length := by omega
  generalize 100000000000 + l0.length = k at *
  have hll : l0.length ≤ 35184372088832 := by omega
  rw [plumblaw04_RadixBack.f]
  by_cases hb : 2 ≤ a1 ∧ a1 ≤ 36
  · obtain ⟨b, rfl⟩ : ∃ b : Nat, a1 = (b : Int) := ⟨a1.toNat, by omega⟩
    have hbits := nat_Bits.f_eq l0 hw hll k kl (by omega)
    by_cases hv : nv l0 < (2 : Int) ^ 262144
    · have hdec : decide (bitsN (nv l0) > 262144) = false := by
        apply decide_eq_false
        have := bitsN_le_of_lt (n := 262144) (nv_nonneg hw) hv
        clear hv
        omega
      rw [radix_Text.f_eq b (by clear hv; omega) (by clear hv; omega) l0 hw hll hv k (by clear hv; omega), Option.bind_some, alive_at k (by clear hv; omega), Option.bind_some, if_pos rfl, if_neg (by clear hv; omega), if_neg (by clear hv; omega), hbits, Option.bind_some, hdec]
      exact back_mid l0 hw hll hv b (by clear hv; omega) (by clear hv; omega) a2 k kk
    · have hbig := Int.not_lt.1 hv
      have hdec : decide (bitsN (nv l0) > 262144) = true := by
        rw [bitsN_dec (nv_nonneg hw) 262144 262144 rfl]
        exact decide_eq_true hbig
      obtain ⟨k, rfl⟩ : ∃ j, k = j + 1 := ⟨k - 1, by clear hv hbig; omega⟩
      rw [radix_Text.long b hb l0 hw hll hbig (k + 1), Option.bind_some, alive_at (k + 1) (by clear hv hbig; omega), Option.bind_some, if_pos rfl, if_neg (by clear hv hbig; omega), if_neg (by clear hv hbig; omega), hbits, Option.bind_some, hdec, plumblaw04_RadixBack.j0, if_pos rfl, if_neg (show ¬ (21 : Int) = 0 by decide)]
      exact congrArg some empty_list
  · have hj : plumblaw04_RadixBack.j0 k l0 a1 a2 (⟨#[]⟩ : ByteArray) 40 true = some true := by
      obtain ⟨k, rfl⟩ : ∃ j, k = j + 1 := ⟨k - 1, by omega⟩
      rw [plumblaw04_RadixBack.j0, if_pos rfl, if_neg (show ¬ (40 : Int) = 0 by decide)]
      exact congrArg some empty_list
    rw [radix_Text.unbased a1 hb l0 k, Option.bind_some, alive_at k (by omega), Option.bind_some, if_pos rfl]
    by_cases h2 : a1 < 2
    · rw [if_pos h2]; exact hj
    · rw [if_neg h2, if_pos (show a1 > 36 by omega)]; exact hj
end Go.Proofs.Ytpnffhacmamilaa.Pure
