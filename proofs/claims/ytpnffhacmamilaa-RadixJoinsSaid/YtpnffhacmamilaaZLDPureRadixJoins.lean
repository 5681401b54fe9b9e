/- RadixJoins: for all texts and every base the law's printed function tells true. No conditions but that the texts are no longer than a text can be. -/
import Derived.Test.YtpnffhacmamilaaZLDLD
import Derived.OpenShut
namespace Go.Proofs.Ytpnffhacmamilaa.Pure
open Go Go.RowKit Go.Proofs.Ytpnffhacmamilaa.PA Go.Proofs.YtpnffhacmamilaaW.PrintWords Go.Proofs.YtpnffhacmamilaaW.PrintLast
set_option linter.unusedVariables false
set_option linter.unusedSimpArgs false
theorem joins_err (k : Nat) (hk : 100 < k) (t : ByteArray) (b : Int) (x : List Int) (e1 : Bool) (y : List Int) (e2 : Bool) (z : List Int) (e3 : Bool) (h : e1 = true ∨ e2 = true ∨ e3 = true) : plumblaw04_RadixJoins.j0 k t b x e1 y e2 z e3 true = some true := by
  obtain ⟨k, rfl⟩ : ∃ j, k = j + 1 := ⟨k - 1, by omega⟩
  rw [plumblaw04_RadixJoins.j0, if_pos rfl, alive_at k (by omega), Option.bind_some, if_pos rfl]
  cases e3 with
  | true => rfl
  | false =>
    cases e1 with
    | true => rfl
    | false =>
      cases e2 with
      | true => rfl
      | false => simp at h
theorem RadixJoins : plumblaw04_RadixJoins.Pure := by
  intro s t b hs ht hw
  have hb64 := bounds_i64 hw
  refine ⟨1000000000000000, ?_⟩
  have hsz : (s ++ t).size = s.size + t.size := by rw [← size_data, app_data, List.length_append, size_data, size_data]
  have k1 : s.size + 60000001 < 1000000000000000 := by omega
  have k2 : t.size + 60000001 < 1000000000000000 := by omega
  have k3 : (s ++ t).size + 60000001 < 1000000000000000 := by rw [hsz]; omega
  have kk : 999999999999999 < 1000000000000000 := by decide
  generalize 1000000000000000 = k at *
  have hal : plumblaw04_alive.f k = some true := alive_at k (by omega)
  have hss : s.size + t.size ≤ 9223372036854775807 := by omega
  rw [plumblaw04_RadixJoins.f]
  rcases parse_cases b s k k1 with ⟨xs, h1⟩ | ⟨c, rfl, hc2, hc36, g1, s0, v1, h1⟩
  · obtain ⟨y, e2, h2⟩ : ∃ y e, radix_Parse.fB k t b = some (y, e) := by
      rcases parse_cases b t k k2 with ⟨xs, h⟩ | ⟨c, _, _, _, _, _, _, h⟩ <;> exact ⟨_, _, h⟩
    obtain ⟨z, e3, h3⟩ : ∃ y e, radix_Parse.fB k (s ++ t) b = some (y, e) := by
      rcases parse_cases b (s ++ t) k k3 with ⟨xs, h⟩ | ⟨c, _, _, _, _, _, _, h⟩ <;> exact ⟨_, _, h⟩
    rw [h1, Option.bind_some, h2, Option.bind_some, if_pos hss, h3, Option.bind_some, hal, Option.bind_some, if_pos rfl, if_pos rfl]
    exact joins_err k (by omega) _ _ _ _ _ _ _ _ (.inl rfl)
  · rcases parse_cases (c : Int) t k k2 with ⟨ys, h2⟩ | ⟨c', ec, _, _, g2, t0, v2, h2⟩
    · obtain ⟨z, e3, h3⟩ : ∃ y e, radix_Parse.fB k (s ++ t) (c : Int) = some (y, e) := by
        rcases parse_cases (c : Int) (s ++ t) k k3 with ⟨xs, h⟩ | ⟨c, _, _, _, _, _, _, h⟩ <;> exact ⟨_, _, h⟩
      rw [h1, Option.bind_some, h2, Option.bind_some, if_pos hss, h3, Option.bind_some, hal, Option.bind_some, if_pos rfl, if_neg (show ¬ (false = true) by decide), if_pos rfl]
      exact joins_err k (by omega) _ _ _ _ _ _ _ _ (.inr (.inl rfl))
    · obtain rfl : c = c' := Int.ofNat.inj ec
      have g3 : gd c (s ++ t).data.toList := by rw [app_data]; exact gd_append g1 g2
      have h3 := parse_good c hc2 hc36 (s ++ t) g3 (by rw [hsz]; omega) k k3
      have eZ : vl c (s ++ t).data.toList = vl c s.data.toList * c ^ t.size + vl c t.data.toList := by rw [app_data, vl_append, size_data]
      rw [eZ] at h3
      rw [h1, Option.bind_some, h2, Option.bind_some, if_pos hss, h3, Option.bind_some, hal, Option.bind_some, if_pos rfl, if_neg (show ¬ (false = true) by decide), if_neg (show ¬ (false = true) by decide)]
      generalize vl c s.data.toList = X at *
      generalize vl c t.data.toList = Y at *
      by_cases hZ : ((X * c ^ t.size + Y : Nat) : Int) < (2 : Int) ^ 262144
      · have ed : decide ((bnd ((X * c ^ t.size + Y : Nat) : Int)).2 ≠ 0) = false := by rw [bnd_small hZ]; rfl
        rw [ed, bnd_small hZ, Int.toNat_natCast]
        obtain ⟨k, rfl⟩ : ∃ j, k = j + 1 := ⟨k - 1, by clear hZ v1 v2; omega⟩
        have ec : IntKind.u64.wrap (c : Int) = (c : Int) := u64w_of (by clear hZ v1 v2; omega) (by clear hZ v1 v2; omega)
        have wc : Ws [(c : Int)] := Ws.cons (by clear hZ v1 v2; omega) (by clear hZ v1 v2; omega) Ws.nil
        have ncv : nv [(c : Int)] = (c : Int) := by simp [nv]
        have ht0 : ¬ (t.size : Int) < 0 := by clear hZ v1 v2; omega
        have ht1 : ¬ (t.size : Int) = 0 := by clear hZ v1 v2; omega
        have hc1 : ¬ (c : Int) < 2 := by clear hZ v1 v2; omega
        have hP := quot_Pow.f_eq [(c : Int)] wc (by simp) (t.size : Int) (by clear hZ v1 v2; omega) k (by clear hZ v1 v2; omega)
        rw [ncv, if_neg ht0, if_neg ht1, if_neg hc1, Int.toNat_natCast] at hP
        have epow : (c : Int) ^ t.size = ((c ^ t.size : Nat) : Int) := (Int.natCast_pow c t.size).symm
        rw [epow] at hP
        have lz : (wd (X * c ^ t.size + Y)).length ≤ 4096 := by
          have := wd_len_int (n := ((X * c ^ t.size + Y : Nat) : Int)) (m := 4096) hZ
          rw [Int.toNat_natCast] at this
          exact this
        have ly : (wd Y).length ≤ 4096 := by
          have := wd_len_int (n := ((Y : Nat) : Int)) (m := 4096) v2
          rw [Int.toNat_natCast] at this
          exact this
        have lx : (wd X).length ≤ 4096 := by
          have := wd_len_int (n := ((X : Nat) : Int)) (m := 4096) v1
          rw [Int.toNat_natCast] at this
          exact this
        have k4 : 4096 < k := by clear hZ v1 v2; omega
        rw [plumblaw04_RadixJoins.j0, if_neg (show ¬ (false = true) by decide), ec, hP, Option.bind_some]
        by_cases hp : ((c ^ t.size : Nat) : Int) < (2 : Int) ^ 262144
        · have ep : (bnd ((c ^ t.size : Nat) : Int)).2 = 0 := by rw [bnd_small hp]
          have ep1 : (bnd ((c ^ t.size : Nat) : Int)).1 = wd (c ^ t.size) := by rw [bnd_small hp, Int.toNat_natCast]
          have lp : (wd (c ^ t.size)).length ≤ 4096 := by
            have := wd_len_int (n := ((c ^ t.size : Nat) : Int)) (m := 4096) hp
            rw [Int.toNat_natCast] at this
            exact this
          have hm : (wd X).length * ((wd (c ^ t.size)).length + 2) ≤ 4096 * 4098 := Nat.mul_le_mul lx (Nat.add_le_add_right lp 2)
          have hXP : ((X * c ^ t.size : Nat) : Int) < (2 : Int) ^ 262144 := Int.lt_of_le_of_lt (Int.ofNat_le.2 (Nat.le_add_right _ _)) hZ
          have hq0 : (if ((X * c ^ t.size : Nat) : Int) = 0 then (([] : List Int), (0 : Int)) else bnd ((X * c ^ t.size : Nat) : Int)) = (wd (X * c ^ t.size), 0) := by
            by_cases h0 : ((X * c ^ t.size : Nat) : Int) = 0
            · rw [if_pos h0, Int.ofNat.inj h0, wd_zero]
            · rw [if_neg h0, bnd_small hXP, Int.toNat_natCast]
          have hmul : nat_Mul.f k (wd X) (wd (c ^ t.size)) = some (wd (X * c ^ t.size), 0) := by
            rw [nat_Mul.f_eq _ _ (wd_ws _) (wd_ws _) (Nat.le_trans lx (by decide)) (Nat.le_trans lp (by decide)) k (by clear hZ v1 v2 hp hXP hq0; omega), nv_wd, nv_wd, ← Int.natCast_mul, hq0]
          have lq : (wd (X * c ^ t.size)).length ≤ 4096 := by
            have := wd_len_int (n := ((X * c ^ t.size : Nat) : Int)) (m := 4096) hXP
            rw [Int.toNat_natCast] at this
            exact this
          have hadd : nat_Add.f k (wd (X * c ^ t.size)) (wd Y) = some (wd (X * c ^ t.size + Y), 0) := by
            rw [nat_Add.f_eq _ _ (wd_ws _) (wd_ws _) (Nat.le_trans lq (by decide)) (Nat.le_trans ly (by decide)) k (by clear hZ v1 v2 hp hXP; omega), nv_wd, nv_wd, ← Int.natCast_add, bnd_small hZ, Int.toNat_natCast]
          rw [if_pos ep, ep1, hmul, Option.bind_some, hadd, Option.bind_some, if_pos rfl, if_pos rfl, plumblaw04_eq.f_eq _ _ (Nat.le_trans lz (by decide)) k (Nat.lt_of_le_of_lt lz k4), decide_eq_true rfl]
          rfl
        · have hbig := Int.not_lt.1 hp
          have ep : ¬ (bnd ((c ^ t.size : Nat) : Int)).2 = 0 := by rw [bnd_big hbig]; show ¬ (21 : Int) = 0; decide
          have hX : X = 0 := by
            apply Classical.byContradiction
            intro h0
            have h5 : 1 * c ^ t.size ≤ X * c ^ t.size := Nat.mul_le_mul_right _ (Nat.one_le_iff_ne_zero.2 h0)
            rw [Nat.one_mul] at h5
            have h6 : ((c ^ t.size : Nat) : Int) ≤ ((X * c ^ t.size + Y : Nat) : Int) := Int.ofNat_le.2 (Nat.le_trans h5 (Nat.le_add_right _ _))
            exact hp (Int.lt_of_le_of_lt h6 hZ)
          subst hX
          have eY : 0 * c ^ t.size + Y = Y := by rw [Nat.zero_mul, Nat.zero_add]
          have hN : nat_Norm.f (wd 0) = some [] := by rw [wd_zero]; rfl
          have hlz : ((([] : List Int).length : Nat) : Int) = 0 := rfl
          rw [if_neg ep, hN, Option.bind_some, if_pos hlz, eY, plumblaw04_eq.f_eq _ _ (Nat.le_trans ly (by decide)) k (Nat.lt_of_le_of_lt ly k4), decide_eq_true rfl]
          rfl
      · have ed : decide ((bnd ((X * c ^ t.size + Y : Nat) : Int)).2 ≠ 0) = true := by rw [bnd_big (Int.not_lt.1 hZ)]; rfl
        rw [ed]
        exact joins_err k (by clear hZ v1 v2; omega) _ _ _ _ _ _ _ _ (.inr (.inr rfl))
end Go.Proofs.Ytpnffhacmamilaa.Pure
