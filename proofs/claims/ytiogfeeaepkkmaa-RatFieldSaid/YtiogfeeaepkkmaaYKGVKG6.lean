/- A part of the proof (6). -/
import Derived.Test.YtiogfeeaepkkmaaYKGVKG2
import Derived.Test.YtiogfeeaepkkmaaYKGVKG3
import Derived.Test.YtiogfeeaepkkmaaYKGVKG5
namespace Go.Proofs.Ytiogfeeaepkkmaa.PA
open Go.RowKit Go.Proofs.YtiogfeeaepkkmaaW.PrintWords Go.Proofs.YtiogfeeaepkkmaaW.PrintLast Go.Proofs.YtiogfeeaepkkmaaW.PrintMore
attribute [local go_sem] max2_int min2_int max_two min_two max_three min_three max_four min_four
set_option linter.unusedVariables false
set_option linter.unusedSimpArgs false
def quot_DivMod.f (k : Nat) (l0 : List Int) (l1 : List Int) : Option (List Int × List Int × Int) := (nat_Norm.f l0).bind fun t169 => ((nat_Norm.f l1).bind fun t172 => (if (t172.length : Int) = 0 then (some (([] : List Int), ([] : List Int), 30)) else ((nat_Cmp.f k t169 t172).bind fun t175 => (if t175 < 0 then (some (([] : List Int), t169, 0)) else (if (t172.length : Int) = 1 then (if 0 < (t172.length : Int) then ((quot_Small.f k t169 (rd t172 0)).bind fun bt177 => ((nat_From.f bt177.2.1).bind fun t182 => (some (bt177.1, t182, 0)))) else (none)) else ((quot_long.f k t169 t172).bind fun bt185 => (some (bt185.1, bt185.2, 0))))))))
theorem quot_DivMod.mono : ∀ a0 a1 k, LeO (quot_DivMod.f k a0 a1) (quot_DivMod.f (k + 1) a0 a1) := by
 intro a0 a1 k
 unfold quot_DivMod.f
 have m0_ := nat_Cmp.mono
 have m1_ := quot_Small.mono
 have m2_ := quot_long.mono
 exact mX
set_option maxHeartbeats 8000000 in
set_option maxRecDepth 100000 in
theorem quot_DivMod.calls (k : Nat) (A0 : Option Addr) (c0 : Nat) (l0 : List Int) (A1 : Option Addr) (c1 : Nat) (l1 : List Int) (r1 : List Int) (r2 : List Int) (r3 : Int) (w : World) (hr0 : Kd.C (Kd.int .u64) w A0 l0.length l0) (hc0 : l0.length ≤ c0) (hr1 : Kd.C (Kd.int .u64) w A1 l1.length l1) (hc1 : l1.length ≤ c1) (h : quot_DivMod.f k l0 l1 = some (r1, r2, r3)) :
  Calls Try.prog 36 #[.slice A0 l0.length c0, .slice A1 l1.length c1] w fun e w' => ∃ v0_ v1_ : Value, e = .returned (.tuple #[v0_, v1_, .int .i64 r3]) ∧ Kd.R (Kd.int .u64) 44 w' w.heap.size (fun k_ => some k_ ≠ (v1_ : Value).ownBlock) v0_ r1 ∧ Kd.R (Kd.int .u64) 44 w' w.heap.size (fun k_ => some k_ ≠ (v0_ : Value).ownBlock) v1_ r2 ∧ Below w.heap.size w w' := by
 have HR0 := aM hr0
 have HC0 := aM hc0
 clear hr0 hc0
 have HR1 := aM hr1
 have HC1 := aM hc1
 clear hr1 hc1
 have HB := aM (Below.refl w.heap.size w)
 have H := h
 clear h
 unfold quot_DivMod.f at H
 replace H := oA H
 obtain ⟨t169, A3, H⟩ := H
 (try dsimp only at H)
 replace H := oA H
 obtain ⟨t172, A4, H⟩ := H
 (try dsimp only at H)
 by_cases c5 : (t172.length : Int) = 0
 ·rw [if_pos c5] at H
  obtain ⟨c5b0, c5b1⟩ := bT c5
  clear c5
  simp only [Option.some.injEq, Prod.mk.injEq] at H
  obtain ⟨rfl, rfl, rfl⟩ := H
  go_enter Try.func36, Try.ntmps36
  go_wp2_with (first | ((with_reducible refine gate_callee (f := 46) rfl ?_); refine gL (some 13) Try.func46 #[.slice A0 l0.length c0] ?_; (with_reducible refine (nat_Norm.calls _ _ l0 t169 _ ?side1 HC0.out A3.out).mono ?_); (case side1 => exact dC HR0.out); rintro e w6 ⟨v170, rfl, ho0, hb⟩; refine ⟨_, rfl, ?_⟩; have HO171 := aM (Kd.R_lower ho0 (below_size dB)); replace HB := hS HB.out hb; (try clear hb); (try clear ho0)) | ((with_reducible refine gate_callee (f := 46) rfl ?_); refine gL (some 15) Try.func46 #[.slice A1 l1.length c1] ?_; (with_reducible refine (nat_Norm.calls _ _ l1 t172 _ ?side1 HC1.out A4.out).mono ?_); (case side1 => exact dC (Kd.C_below HR1.out HB.out)); rintro e w7 ⟨v173, rfl, ho0, hb⟩; refine ⟨_, rfl, ?_⟩; have HO174 := aM (Kd.R_lower (nW ho0 HO171.out) (below_size dB)); replace HO171 := oE HO171.out ho0 hb; replace HB := hS HB.out hb; (try clear hb); (try clear ho0); obtain ⟨Ao8, co8, rfl⟩ := Kd.R_slice HO174.out))
  go_ret3
  exact ⟨_, _, dE, by first | exact Kd.R_nil _ _ _ _ _ | exact Kd.N_nil _ _ _ _ _ | exact Kd.V_nil _ _ _ _ _ | exact Kd.Q_nil _ _ _ _ _ | exact Kd.S_nil _ _ _ _ _, by first | exact Kd.R_nil _ _ _ _ _ | exact Kd.N_nil _ _ _ _ _ | exact Kd.V_nil _ _ _ _ _ | exact Kd.Q_nil _ _ _ _ _ | exact Kd.S_nil _ _ _ _ _, dB⟩
 ·rw [if_neg c5] at H
  obtain ⟨c5b0, c5b1⟩ := bF c5
  have c5b2 : ¬ (t172 = []) := fun h_ => c5 (by rw [h_]; rfl)
  replace H := oA H
  obtain ⟨t175, A9, H⟩ := H
  (try dsimp only at H)
  by_cases c10 : t175 < 0
  ·rw [if_pos c10] at H
   have c10b0 := decide_eq_true c10
   clear c10
   simp only [Option.some.injEq, Prod.mk.injEq] at H
   obtain ⟨rfl, rfl, rfl⟩ := H
   go_enter Try.func36, Try.ntmps36
   go_wp2_with (first | ((with_reducible refine gate_callee (f := 46) rfl ?_); refine gL (some 13) Try.func46 #[.slice A0 l0.length c0] ?_; (with_reducible refine (nat_Norm.calls _ _ l0 t169 _ ?side1 HC0.out A3.out).mono ?_); (case side1 => exact dC HR0.out); rintro e w11 ⟨v170, rfl, ho0, hb⟩; refine ⟨_, rfl, ?_⟩; have HO171 := aM (Kd.R_lower ho0 (below_size dB)); replace HB := hS HB.out hb; (try clear hb); (try clear ho0)) | ((with_reducible refine gate_callee (f := 46) rfl ?_); refine gL (some 15) Try.func46 #[.slice A1 l1.length c1] ?_; (with_reducible refine (nat_Norm.calls _ _ l1 t172 _ ?side1 HC1.out A4.out).mono ?_); (case side1 => exact dC (Kd.C_below HR1.out HB.out)); rintro e w12 ⟨v173, rfl, ho0, hb⟩; refine ⟨_, rfl, ?_⟩; have HO174 := aM (Kd.R_lower (nW ho0 HO171.out) (below_size dB)); replace HO171 := oE HO171.out ho0 hb; replace HB := hS HB.out hb; (try clear hb); (try clear ho0); obtain ⟨Ao13, co13, rfl⟩ := Kd.R_slice HO174.out; obtain ⟨Ao14, co14, rfl⟩ := Kd.R_slice HO171.out) | ((with_reducible refine gate_callee (f := 32) rfl ?_); refine gL (some 23) Try.func32 #[.slice Ao14 t169.length co14, .slice Ao13 t172.length co13] ?_; (with_reducible refine (nat_Cmp.calls k _ _ t169 _ _ t172 t175 _ ?side1 (Kd.R_reads' HO171.out).2.1 ?side3 (Kd.R_reads' HO174.out).2.1 A9.out).mono ?_); (case side1 => exact dC (Kd.R_reads' HO171.out).2.2); (case side3 => exact dC (Kd.R_reads' HO174.out).2.2); rintro e w' ⟨rfl, ⟨nd, rfl⟩⟩; refine ⟨_, rfl, ?_⟩))
   go_ret3
   exact ⟨_, _, dE, by first | exact Kd.R_nil _ _ _ _ _ | exact Kd.N_nil _ _ _ _ _ | exact Kd.V_nil _ _ _ _ _ | exact Kd.Q_nil _ _ _ _ _ | exact Kd.S_nil _ _ _ _ _, oM HO171.out (fun _ hk => (by simp [Value.ownBlock])), dB⟩
  ·rw [if_neg c10] at H
   have c10b0 := decide_eq_false c10
   clear c10
   by_cases c15 : (t172.length : Int) = 1
   ·rw [if_pos c15] at H
    obtain ⟨c15b0, c15b1⟩ := bT c15
    clear c15
    replace H := nO H
    obtain ⟨c16, H⟩ := H
    have c16b0 : decide (0 < (t172.length : Int)) = true := decide_eq_true c16
    have c16b1 : decide (0 < t172.length) = true := decide_eq_true (by omega)
    clear c16
    replace H := oA H
    obtain ⟨⟨t177, t178, t179⟩, A17, H⟩ := H
    (try dsimp only at H)
    replace H := oA H
    obtain ⟨t182, A18, H⟩ := H
    (try dsimp only at H)
    simp only [Option.some.injEq, Prod.mk.injEq] at H
    obtain ⟨rfl, rfl, rfl⟩ := H
    go_enter Try.func36, Try.ntmps36
    go_wp2_with (first | ((with_reducible refine gate_callee (f := 46) rfl ?_); refine gL (some 13) Try.func46 #[.slice A0 l0.length c0] ?_; (with_reducible refine (nat_Norm.calls _ _ l0 t169 _ ?side1 HC0.out A3.out).mono ?_); (case side1 => exact dC HR0.out); rintro e w19 ⟨v170, rfl, ho0, hb⟩; refine ⟨_, rfl, ?_⟩; have HO171 := aM (Kd.R_lower ho0 (below_size dB)); replace HB := hS HB.out hb; (try clear hb); (try clear ho0)) | ((with_reducible refine gate_callee (f := 46) rfl ?_); refine gL (some 15) Try.func46 #[.slice A1 l1.length c1] ?_; (with_reducible refine (nat_Norm.calls _ _ l1 t172 _ ?side1 HC1.out A4.out).mono ?_); (case side1 => exact dC (Kd.C_below HR1.out HB.out)); rintro e w20 ⟨v173, rfl, ho0, hb⟩; refine ⟨_, rfl, ?_⟩; have HO174 := aM (Kd.R_lower (nW ho0 HO171.out) (below_size dB)); replace HO171 := oE HO171.out ho0 hb; replace HB := hS HB.out hb; (try clear hb); (try clear ho0); obtain ⟨Ao21, co21, rfl⟩ := Kd.R_slice HO174.out; obtain ⟨Ao22, co22, rfl⟩ := Kd.R_slice HO171.out) | ((with_reducible refine gate_callee (f := 32) rfl ?_); refine gL (some 23) Try.func32 #[.slice Ao22 t169.length co22, .slice Ao21 t172.length co21] ?_; (with_reducible refine (nat_Cmp.calls k _ _ t169 _ _ t172 t175 _ ?side1 (Kd.R_reads' HO171.out).2.1 ?side3 (Kd.R_reads' HO174.out).2.1 A9.out).mono ?_); (case side1 => exact dC (Kd.R_reads' HO171.out).2.2); (case side3 => exact dC (Kd.R_reads' HO174.out).2.2); rintro e w' ⟨rfl, ⟨nd, rfl⟩⟩; refine ⟨_, rfl, ?_⟩; have p176 : 0 ≤ (0 : Int) := (by omega); have q176 : 0 < (t172.length : Int) := of_decide_eq_true dS; obtain ⟨ad176, e176, hx176_0⟩ := Kd.at_int (Kd.R_reads' HO174.out).2.2 0 p176 q176; cases e176; have qi176 : (0 < t172.length) = True := eq_true (by omega); (try rw [show ((0 : Int)).toNat = 0 from rfl] at hx176_0); (try rw [Addr.add_zero'] at hx176_0); replace p176 := eq_true p176; replace q176 := eq_true q176) | ((with_reducible refine gate_callee (f := 54) rfl ?_); refine gL (some 35) Try.func54 #[.slice Ao22 t169.length co22, .int .u64 (rd t172 0)] ?_; (with_reducible refine (quot_Small.calls k _ _ t169 (rd t172 0) t177 t178 t179 _ ?side1 (Kd.R_reads' HO171.out).2.1 A17.out).mono ?_); (case side1 => exact dC (Kd.R_reads' HO171.out).2.2); rintro e w23 ⟨v180, rfl, ho0, hb⟩; refine ⟨_, rfl, ?_⟩; have HO181 := aM (Kd.R_lower (nW (nW ho0 HO171.out) HO174.out) (below_size dB)); replace HO171 := oE HO171.out ho0 hb; replace HO174 := oE HO174.out ho0 hb; replace HB := hS HB.out hb; (try clear hb); (try clear ho0)) | ((with_reducible refine gate_callee (f := 24) rfl ?_); refine gL (some 41) Try.func24 #[.int .u64 t178] ?_; (with_reducible refine (nat_From.calls t178 t182 _ A18.out).mono ?_); rintro e w24 ⟨v183, rfl, ho0, hb⟩; refine ⟨_, rfl, ?_⟩; have HO184 := aM (Kd.R_lower (nW (nW (nW ho0 HO171.out) HO174.out) HO181.out) (below_size dB)); replace HO171 := oE HO171.out ho0 hb; replace HO174 := oE HO174.out ho0 hb; replace HO181 := oE HO181.out ho0 hb; replace HB := hS HB.out hb; (try clear hb); (try clear ho0)))
    go_ret3
    exact ⟨_, _, dE, oM HO181.out (fun _ hk => hk.2), oM HO184.out (fun _ hk => hk.2), dB⟩
   ·rw [if_neg c15] at H
    obtain ⟨c15b0, c15b1⟩ := bF c15
    replace H := oA H
    obtain ⟨⟨t185, t186⟩, A25, H⟩ := H
    (try dsimp only at H)
    simp only [Option.some.injEq, Prod.mk.injEq] at H
    obtain ⟨rfl, rfl, rfl⟩ := H
    go_enter Try.func36, Try.ntmps36
    go_wp2_with (first | ((with_reducible refine gate_callee (f := 46) rfl ?_); refine gL (some 13) Try.func46 #[.slice A0 l0.length c0] ?_; (with_reducible refine (nat_Norm.calls _ _ l0 t169 _ ?side1 HC0.out A3.out).mono ?_); (case side1 => exact dC HR0.out); rintro e w26 ⟨v170, rfl, ho0, hb⟩; refine ⟨_, rfl, ?_⟩; have HO171 := aM (Kd.R_lower ho0 (below_size dB)); replace HB := hS HB.out hb; (try clear hb); (try clear ho0)) | ((with_reducible refine gate_callee (f := 46) rfl ?_); refine gL (some 15) Try.func46 #[.slice A1 l1.length c1] ?_; (with_reducible refine (nat_Norm.calls _ _ l1 t172 _ ?side1 HC1.out A4.out).mono ?_); (case side1 => exact dC (Kd.C_below HR1.out HB.out)); rintro e w27 ⟨v173, rfl, ho0, hb⟩; refine ⟨_, rfl, ?_⟩; have HO174 := aM (Kd.R_lower (nW ho0 HO171.out) (below_size dB)); replace HO171 := oE HO171.out ho0 hb; replace HB := hS HB.out hb; (try clear hb); (try clear ho0); obtain ⟨Ao28, co28, rfl⟩ := Kd.R_slice HO174.out; obtain ⟨Ao29, co29, rfl⟩ := Kd.R_slice HO171.out) | ((with_reducible refine gate_callee (f := 32) rfl ?_); refine gL (some 23) Try.func32 #[.slice Ao29 t169.length co29, .slice Ao28 t172.length co28] ?_; (with_reducible refine (nat_Cmp.calls k _ _ t169 _ _ t172 t175 _ ?side1 (Kd.R_reads' HO171.out).2.1 ?side3 (Kd.R_reads' HO174.out).2.1 A9.out).mono ?_); (case side1 => exact dC (Kd.R_reads' HO171.out).2.2); (case side3 => exact dC (Kd.R_reads' HO174.out).2.2); rintro e w' ⟨rfl, ⟨nd, rfl⟩⟩; refine ⟨_, rfl, ?_⟩) | ((with_reducible refine gate_callee (f := 55) rfl ?_); refine gL (some 45) Try.func55 #[.slice Ao29 t169.length co29, .slice Ao28 t172.length co28] ?_; (with_reducible refine (quot_long.calls k _ _ t169 _ _ t172 t185 t186 _ ?side1 (Kd.R_reads' HO171.out).2.1 ?side3 (Kd.R_reads' HO174.out).2.1 A25.out).mono ?_); (case side1 => exact dC (Kd.R_reads' HO171.out).2.2); (case side3 => exact dC (Kd.R_reads' HO174.out).2.2); rintro e w30 ⟨v187, v189, rfl, ho0, ho1, hb⟩; refine ⟨_, rfl, ?_⟩; have HO188 := aM (Kd.R_lower (nW (nW ho0 HO171.out) HO174.out) (below_size dB)); have HO190 := aM (Kd.R_lower (nW (nW ho1 HO171.out) HO174.out) (below_size dB)); replace HO171 := tT HO171.out hb ho0 ho1; replace HO174 := tT HO174.out hb ho0 ho1; replace HB := hS HB.out hb; (try clear hb); (try clear ho0); (try clear ho1)))
    go_ret3
    exact ⟨_, _, dE, oM HO188.out (fun _ hk => hk.1.1), oM HO190.out (fun _ hk => hk.1.1), dB⟩
def quot_Gcd.l0 : Nat → List Int → List Int → Option (List Int)
 | 0, _, _ => none
 | k + 1, x0, x1 => if (x1.length : Int) > 0 then ((quot_DivMod.f k x0 x1).bind fun bt197 => (quot_Gcd.l0 k x1 bt197.2.1)) else (some x0)
def quot_Gcd.f (k : Nat) (l0 : List Int) (l1 : List Int) : Option (List Int) := (nat_Norm.f l0).bind fun t191 => ((nat_Norm.f l1).bind fun t194 => (quot_Gcd.l0 k t191 t194))
theorem quot_Gcd.mono_l : ∀ k, (∀ y0 y1, LeO (quot_Gcd.l0 k y0 y1) (quot_Gcd.l0 (k + 1) y0 y1))
 | 0 => fun _ _ r h => by simp [quot_Gcd.l0] at h
 | k + 1 => by
  have ih0 := quot_Gcd.mono_l k
  ·intro y0 y1
   unfold quot_Gcd.l0
   have m0_ := quot_DivMod.mono
   exact mX
theorem quot_Gcd.mono : ∀ a0 a1 k, LeO (quot_Gcd.f k a0 a1) (quot_Gcd.f (k + 1) a0 a1) := by
 intro a0 a1 k
 have ih0 := quot_Gcd.mono_l k
 unfold quot_Gcd.f
 have m0_ := quot_DivMod.mono
 exact mX
set_option maxHeartbeats 8000000 in
set_option maxRecDepth 100000 in
theorem quot_Gcd.calls (k : Nat) (A0 : Option Addr) (c0 : Nat) (l0 : List Int) (A1 : Option Addr) (c1 : Nat) (l1 : List Int) (r : List Int) (w : World) (hr0 : Kd.C (Kd.int .u64) w A0 l0.length l0) (hc0 : l0.length ≤ c0) (hr1 : Kd.C (Kd.int .u64) w A1 l1.length l1) (hc1 : l1.length ≤ c1) (h : quot_Gcd.f k l0 l1 = some r) :
  Calls Try.prog 41 #[.slice A0 l0.length c0, .slice A1 l1.length c1] w fun e w' => ∃ v0_ : Value, e = .returned (v0_) ∧ Kd.R (Kd.int .u64) 44 w' w.heap.size (fun _ => True) v0_ r ∧ Below w.heap.size w w' := by
 have HR0 := aM hr0
 have HC0 := aM hc0
 clear hr0 hc0
 have HR1 := aM hr1
 have HC1 := aM hc1
 clear hr1 hc1
 have HB := aM (Below.refl w.heap.size w)
 have H := h
 clear h
 unfold quot_Gcd.f at H
 replace H := oA H
 obtain ⟨t191, A3, H⟩ := H
 (try dsimp only at H)
 replace H := oA H
 obtain ⟨t194, A4, H⟩ := H
 (try dsimp only at H)
 have H' := aM H
 clear H
 go_enter Try.func41, Try.ntmps41
 go_wp2_with (first | ((with_reducible refine gate_callee (f := 46) rfl ?_); refine gL (some 9) Try.func46 #[.slice A0 l0.length c0] ?_; (with_reducible refine (nat_Norm.calls _ _ l0 t191 _ ?side1 HC0.out A3.out).mono ?_); (case side1 => exact dC HR0.out); rintro e w5 ⟨v192, rfl, ho0, hb⟩; refine ⟨_, rfl, ?_⟩; have HO193 := aM (Kd.R_lower ho0 (below_size dB)); replace HB := hS HB.out hb; (try clear hb); (try clear ho0)) | ((with_reducible refine gate_callee (f := 46) rfl ?_); refine gL (some 11) Try.func46 #[.slice A1 l1.length c1] ?_; (with_reducible refine (nat_Norm.calls _ _ l1 t194 _ ?side1 HC1.out A4.out).mono ?_); (case side1 => exact dC (Kd.C_below HR1.out HB.out)); rintro e w6 ⟨v195, rfl, ho0, hb⟩; refine ⟨_, rfl, ?_⟩; have HO196 := aM (Kd.R_lower (nW ho0 HO193.out) (below_size dB)); replace HO193 := oE HO193.out ho0 hb; replace HB := hS HB.out hb; (try clear hb); (try clear ho0)))
 go_loopg [0, 1] k (fun kq v0 v1 w' => ∃ (x0_1 : List Int) (x1_1 : List Int), Aside0 (quot_Gcd.l0 kq x0_1 x1_1 = some r) ∧ Aside0 (kq ≤ k) ∧ Aside0 (Kd.R (Kd.int .u64) 44 w' w.heap.size (fun k_ => some k_ ≠ (v1 : Value).ownBlock) v0 x0_1) ∧ Aside0 (Kd.R (Kd.int .u64) 44 w' w.heap.size (fun k_ => some k_ ≠ (v0 : Value).ownBlock) v1 x1_1) ∧ Aside0 (Below w.heap.size w w'))
 case atStart => exact ⟨(t191), (t194), H', ⟨Nat.le_refl _⟩, ⟨oM HO193.out (fun _ hk => hk.2)⟩, ⟨oM HO196.out (fun _ hk => hk.2)⟩, ⟨dB⟩⟩
 case round =>
  clear H'
  try clear c1
  obtain ⟨x0_1, x1_1, HA, HK1, HO_0, HO_1, HB⟩ := hrel
  cases gk with
  | zero => exact absurd HA.out (by simp [quot_Gcd.l0])
  | succ k1 =>
   have H := HA.out
   clear HA
   simp only [quot_Gcd.l0] at H
   by_cases c7 : (x1_1.length : Int) > 0
   ·rw [if_pos c7] at H
    have c7b0 : decide (0 < (x1_1.length : Int)) = true := decide_eq_true c7
    have c7b1 : decide (0 < x1_1.length) = true := decide_eq_true (by omega)
    clear c7
    replace H := oA H
    obtain ⟨⟨t197, t198, t199⟩, A8, H⟩ := H
    (try dsimp only at H)
    have H' := aM H
    clear H
    obtain ⟨Ao9, co9, rfl⟩ := Kd.R_slice HO_1.out
    obtain ⟨Ao10, co10, rfl⟩ := Kd.R_slice HO_0.out
    go_wp2_with (first | ((with_reducible refine gate_callee (f := 36) rfl ?_); refine gL (some 18) Try.func36 #[.slice Ao10 x0_1.length co10, .slice Ao9 x1_1.length co9] ?_; (with_reducible refine (quot_DivMod.calls k1 _ _ x0_1 _ _ x1_1 t197 t198 t199 _ ?side1 (Kd.R_reads' HO_0.out).2.1 ?side3 (Kd.R_reads' HO_1.out).2.1 A8.out).mono ?_); (case side1 => exact dC (Kd.R_reads' HO_0.out).2.2); (case side3 => exact dC (Kd.R_reads' HO_1.out).2.2); rintro e w11 ⟨v200, v202, rfl, ho0, ho1, hb⟩; refine ⟨_, rfl, ?_⟩; have HO201 := aM (Kd.R_lower (nW (nW ho0 HO_0.out) HO_1.out) (below_size dB)); have HO203 := aM (Kd.R_lower (nW (nW ho1 HO_0.out) HO_1.out) (below_size dB)); replace HO_0 := tT HO_0.out hb ho0 ho1; replace HO_1 := tT HO_1.out hb ho0 ho1; replace HB := hS HB.out hb; (try clear hb); (try clear ho0); (try clear ho1)))
    go_roundg k1
    case measure => have := HK1.out; omega
    case rel => exact ⟨(x1_1), (t198), H', ⟨by have := HK1.out; omega⟩, ⟨oM HO_1.out (fun _ hk => hk.2)⟩, ⟨oM HO203.out (fun _ hk => hk.2)⟩, ⟨dB⟩⟩
   ·rw [if_neg c7] at H
    have c7b0 : decide (0 < (x1_1.length : Int)) = false := decide_eq_false c7
    have c7b1 : decide (0 < x1_1.length) = false := decide_eq_false (by omega)
    clear c7
    obtain rfl := Option.some.inj H
    obtain ⟨Ao12, co12, rfl⟩ := Kd.R_slice HO_1.out
    go_wp2
    go_ret
    exact ⟨_, dE, oM HO_0.out (fun _ hk => trivial), dB⟩
def rat_Check.j0 : Nat → Bool → Bool → List Int → List Int → Option (Int)
 | 0, _, _, _, _ => none
 | k + 1, x30, x205000, x205001, x205002 => if x30 = true then (none) else ((quot_Gcd.f k x205001 x205002).bind fun t207 => ((nat_Word.f k t207).bind fun bt210 => (if bt210.2 = true then (if bt210.1 = 1 then (some 0) else (none)) else (none))))
def rat_Check.f (k : Nat) (a0_0 : Bool) (l0_1 : List Int) (l0_2 : List Int) : Option (Int) := (rat_normal.f l0_1).bind fun t205 => (if t205 = true then ((rat_normal.f l0_2).bind fun t206 => (if t206 = true then (if (l0_2.length : Int) = 0 then (none) else (if a0_0 = true then (rat_Check.j0 k ((l0_1.length : Int) == 0) a0_0 l0_1 l0_2) else (rat_Check.j0 k false a0_0 l0_1 l0_2))) else (none))) else (none))
theorem rat_Check.mono_l : ∀ k, (∀ y0 y1 y2 y3, LeO (rat_Check.j0 k y0 y1 y2 y3) (rat_Check.j0 (k + 1) y0 y1 y2 y3))
 | 0 => fun _ _ _ _ r h => by simp [rat_Check.j0] at h
 | k + 1 => by
  have ih0 := rat_Check.mono_l k
  ·intro y0 y1 y2 y3
   unfold rat_Check.j0
   have m0_ := nat_Word.mono
   have m1_ := quot_Gcd.mono
   exact mX
theorem rat_Check.mono : ∀ a0 a1 a2 k, LeO (rat_Check.f k a0 a1 a2) (rat_Check.f (k + 1) a0 a1 a2) := by
 intro a0 a1 a2 k
 have ih0 := rat_Check.mono_l k
 unfold rat_Check.f
 have m0_ := nat_Word.mono
 have m1_ := quot_Gcd.mono
 exact mX
set_option maxHeartbeats 8000000 in
set_option maxRecDepth 100000 in
theorem rat_Check.calls (k : Nat) (a0_0 : Bool) (A0_1 : Option Addr) (c0_1 : Nat) (l0_1 : List Int) (A0_2 : Option Addr) (c0_2 : Nat) (l0_2 : List Int) (r : Int) (w : World) (hr0_1 : Kd.C (Kd.int .u64) w A0_1 l0_1.length l0_1) (hc0_1 : l0_1.length ≤ c0_1) (hr0_2 : Kd.C (Kd.int .u64) w A0_2 l0_2.length l0_2) (hc0_2 : l0_2.length ≤ c0_2) (h : rat_Check.f k a0_0 l0_1 l0_2 = some r) :
  Calls Try.prog 19 #[.agg #[.bool a0_0, .slice A0_1 l0_1.length c0_1, .slice A0_2 l0_2.length c0_2]] w fun e w' => e = .returned (.int .i64 r) ∧ Below w.heap.size w w' := by
 have hu25 := Try.underlying25
 have HR0_1 := aM hr0_1
 have HC0_1 := aM hc0_1
 clear hr0_1 hc0_1
 have HR0_2 := aM hr0_2
 have HC0_2 := aM hc0_2
 clear hr0_2 hc0_2
 have HB := aM (Below.refl w.heap.size w)
 have H := h
 clear h
 unfold rat_Check.f at H
 have HC2 := aM H
 clear H
 go_enter Try.func19, Try.ntmps19
 go_upto_region 1 with (first | ((with_reducible refine gate_dst (N := 1) rfl ?_); (try (refine gate_guard (by rfl) ?_; dsimp only)); refine bE 1 #[.bool a0_0, .slice A0_1 l0_1.length c0_1, .slice A0_2 l0_2.length c0_2] 25 ?_; intro gb204 hg w3 hbox hb; have BK204 := aM (hbox); have GE204 : Aside0 (w.heap.size ≤ gb204) := gE hg; replace HB := hS HB.out hb; clear hb hbox hg))
 (try simp only [Act.put, List.setIfInBounds_toArray, List.set_cons_zero, List.set_cons_succ])
 go_cut [30] (fun v30 wc => ∃ (kq : Nat) (x30_1 : Bool), v30 = .bool x30_1 ∧ Aside0 (rat_Check.j0 kq x30_1 a0_0 l0_1 l0_2 = some r) ∧ Aside0 (kq ≤ k) ∧ Aside0 (wc.heap[gb204]? = some (.cells #[.bool a0_0, (.slice A0_1 l0_1.length c0_1), (.slice A0_2 l0_2.length c0_2)] 25 (0, 0))) ∧ Aside0 (Below w.heap.size w wc))
 case first =>
  have H := HC2.out
  clear HC2
  replace H := oA H
  obtain ⟨t205, A4, H⟩ := H
  (try dsimp only at H)
  replace H := nO H
  obtain ⟨rfl, H⟩ := H
  (try dsimp only at H)
  replace H := oA H
  obtain ⟨t206, A6, H⟩ := H
  (try dsimp only at H)
  replace H := nO H
  obtain ⟨rfl, H⟩ := H
  (try dsimp only at H)
  replace H := nQ H
  obtain ⟨c8, H⟩ := H
  obtain ⟨c8b0, c8b1⟩ := bF c8
  have c8b2 : ¬ (l0_2 = []) := fun h_ => c8 (by rw [h_]; rfl)
  (first | rw [c8b0] | (simp only [i64_w, i32_w]; rw [c8b0]) | skip)
  by_cases c9 : a0_0 = true
  ·subst c9
   rw [if_pos rfl] at H
   (try dsimp only at H)
   have H' := aM H
   clear H
   obtain ⟨hcz10_0, hcz10_1, hcz10_2⟩ := cz3 BK204.out
   obtain ⟨hfz10_0, hfz10_1, hfz10_2⟩ := fz3 BK204.out
   go_wp2_with (first | ((with_reducible refine gate_callee (f := 39) rfl ?_); refine gL (some 7) Try.func39 #[.slice A0_1 l0_1.length c0_1] ?_; (with_reducible refine (rat_normal.calls _ _ l0_1 true _ ?side1 HC0_1.out A4.out).mono ?_); (case side1 => exact dC (Kd.C_below HR0_1.out HB.out)); rintro e w' ⟨rfl, ⟨nd, rfl⟩⟩; refine ⟨_, rfl, ?_⟩) | (go_at_call 39; (with_reducible refine (rat_normal.calls _ _ l0_2 true _ ?side1 HC0_2.out A6.out).mono ?_); (case side1 => exact dC (Kd.C_below HR0_2.out eB)); rintro e w' ⟨rfl, ⟨nd, rfl⟩⟩))
   go_meet
   case rel => exact ⟨_, (((l0_1.length : Int) == 0)), dF, H', ⟨dN⟩, ⟨dK BK204.out⟩, ⟨dG GE204.out⟩⟩
  ·replace c9 := Bool.eq_false_iff.mpr c9
   subst c9
   rw [if_neg (show ¬ (false = true) by decide)] at H
   (try dsimp only at H)
   have H' := aM H
   clear H
   obtain ⟨hcz11_0, hcz11_1, hcz11_2⟩ := cz3 BK204.out
   obtain ⟨hfz11_0, hfz11_1, hfz11_2⟩ := fz3 BK204.out
   go_wp2_with (first | ((with_reducible refine gate_callee (f := 39) rfl ?_); refine gL (some 7) Try.func39 #[.slice A0_1 l0_1.length c0_1] ?_; (with_reducible refine (rat_normal.calls _ _ l0_1 true _ ?side1 HC0_1.out A4.out).mono ?_); (case side1 => exact dC (Kd.C_below HR0_1.out HB.out)); rintro e w' ⟨rfl, ⟨nd, rfl⟩⟩; refine ⟨_, rfl, ?_⟩) | (go_at_call 39; (with_reducible refine (rat_normal.calls _ _ l0_2 true _ ?side1 HC0_2.out A6.out).mono ?_); (case side1 => exact dC (Kd.C_below HR0_2.out eB)); rintro e w' ⟨rfl, ⟨nd, rfl⟩⟩))
   go_meet
   case rel => exact ⟨_, (false), dF, H', ⟨dN⟩, ⟨dK BK204.out⟩, ⟨dG GE204.out⟩⟩
 case rest =>
  clear HC2
  obtain ⟨kq, x30_1, rfl, HA, HJ1, BK204, HB⟩ := hcut
  cases kq with
  | zero => exact absurd HA.out (by simp [rat_Check.j0])
  | succ kj1 =>
   have H := HA.out
   clear HA
   simp only [rat_Check.j0] at H
   replace H := nR H
   obtain ⟨rfl, H⟩ := H
   (try dsimp only at H)
   replace H := oA H
   obtain ⟨t207, A13, H⟩ := H
   (try dsimp only at H)
   replace H := oA H
   obtain ⟨⟨t210, t211⟩, A14, H⟩ := H
   (try dsimp only at H)
   replace H := nO H
   obtain ⟨rfl, H⟩ := H
   (try dsimp only at H)
   replace H := nO H
   obtain ⟨c16, H⟩ := H
   obtain ⟨c16b0, c16b1⟩ := bT c16
   clear c16
   obtain rfl := Option.some.inj H
   obtain ⟨hcz17_0, hcz17_1, hcz17_2⟩ := cz3 BK204.out
   obtain ⟨hfz17_0, hfz17_1, hfz17_2⟩ := fz3 BK204.out
   go_wp2_with (first | ((with_reducible refine gate_callee (f := 41) rfl ?_); refine gL (some 36) Try.func41 #[.slice A0_1 l0_1.length c0_1, .slice A0_2 l0_2.length c0_2] ?_; (with_reducible refine (quot_Gcd.calls kj1 _ _ l0_1 _ _ l0_2 t207 _ ?side1 HC0_1.out ?side3 HC0_2.out A13.out).mono ?_); (case side1 => exact dC (Kd.C_below HR0_1.out HB.out)); (case side3 => exact dC (Kd.C_below HR0_2.out HB.out)); rintro e w18 ⟨v208, rfl, ho0, hb⟩; refine ⟨_, rfl, ?_⟩; have HO209 := aM (Kd.R_lower ho0 (below_size eB)); replace BK204 := bB BK204.out hb; replace HB := hS HB.out hb; (try clear hb); (try clear ho0); obtain ⟨Ao19, co19, rfl⟩ := Kd.R_slice HO209.out) | ((with_reducible refine gate_callee (f := 40) rfl ?_); refine gL (some 37) Try.func40 #[.slice Ao19 t207.length co19] ?_; (with_reducible refine (nat_Word.calls kj1 _ _ t207 t210 true _ ?side1 (Kd.R_reads' HO209.out).2.1 A14.out).mono ?_); (case side1 => exact dC (Kd.R_reads' HO209.out).2.2); rintro e w' ⟨rfl, ⟨nd, rfl⟩⟩; refine ⟨_, rfl, ?_⟩))
   go_ret
   exact ⟨dE, dG GE204.out⟩
def plumblaw05_cut.l0 : Nat → List Int → List Int → Int → Option (List Int)
 | 0, _, _, _ => none
 | k + 1, x0, x3, x4 => if x4 < (x0.length : Int) then (if x4 < 12 then (if 0 ≤ x4 then (if x3.length < 17592186044416 then (plumblaw05_cut.l0 k x0 (x3 ++ [rd x0 x4]) (wrap64 (x4 + 1))) else (none)) else (none)) else (some x3)) else (some x3)
def plumblaw05_cut.f (k : Nat) (l0 : List Int) : Option (List Int) := plumblaw05_cut.l0 k l0 ([] : List Int) 0
set_option maxHeartbeats 8000000 in
set_option maxRecDepth 100000 in
theorem plumblaw05_cut.calls (k : Nat) (A0 : Option Addr) (c0 : Nat) (l0 : List Int) (r : List Int) (w : World) (hr0 : Kd.C (Kd.int .u64) w A0 l0.length l0) (hc0 : l0.length ≤ c0) (h : plumblaw05_cut.f k l0 = some r) :
  Calls Try.prog 53 #[.slice A0 l0.length c0] w fun e w' => ∃ v0_ : Value, e = .returned (v0_) ∧ Kd.R (Kd.int .u64) 44 w' w.heap.size (fun _ => True) v0_ r ∧ Below w.heap.size w w' := by
 have HR0 := aM hr0
 have HC0 := aM hc0
 clear hr0 hc0
 have HB := aM (Below.refl w.heap.size w)
 have H := h
 clear h
 unfold plumblaw05_cut.f at H
 have H' := aM H
 clear H
 go_enter Try.func53, Try.ntmps53
 go_wp2
 go_loopg [3, 4] k (fun kq v3 v4 w' => ∃ (x3_1 : List Int) (x4_1 : Int), v4 = .int .i64 x4_1 ∧ Aside0 (plumblaw05_cut.l0 kq l0 x3_1 x4_1 = some r) ∧ Aside0 (kq ≤ k) ∧ Aside0 (Kd.R (Kd.int .u64) 44 w' w.heap.size (fun _ => True) v3 x3_1) ∧ Aside0 (Below w.heap.size w w'))
 case atStart => exact ⟨(([] : List Int)), (0), dF, H', ⟨Nat.le_refl _⟩, ⟨by first | exact Kd.R_nil _ _ _ _ _ | exact Kd.N_nil _ _ _ _ _ | exact Kd.V_nil _ _ _ _ _ | exact Kd.Q_nil _ _ _ _ _ | exact Kd.S_nil _ _ _ _ _⟩, ⟨dB⟩⟩
 case round =>
  clear H'
  obtain ⟨x3_1, x4_1, rfl, HA, HK1, HO_3, HB⟩ := hrel
  cases gk with
  | zero => exact absurd HA.out (by simp [plumblaw05_cut.l0])
  | succ k1 =>
   have H := HA.out
   clear HA
   simp only [plumblaw05_cut.l0] at H
   by_cases c2 : x4_1 < (l0.length : Int)
   ·rw [if_pos c2] at H
    have c2b0 := decide_eq_true c2
    clear c2
    by_cases c3 : x4_1 < 12
    ·rw [if_pos c3] at H
     have c3b0 := decide_eq_true c3
     clear c3
     replace H := nO H
     obtain ⟨c4, H⟩ := H
     have c4b0 : decide (0 ≤ x4_1) = true := decide_eq_true c4
     clear c4
     replace H := nO H
     obtain ⟨c5, H⟩ := H
     have LMc5 := aM c5
     clear c5
     obtain ⟨y213, hy213⟩ : ∃ y_ : List Int, y_ = (x3_1 ++ [rd l0 x4_1]) := ⟨_, rfl⟩
     replace H : (plumblaw05_cut.l0 k1 l0 y213 (wrap64 (x4_1 + 1))) = some r := by first | (rw [hy213]; with_reducible exact H) | (have H2_ := (Option.bind_some _ _).symm.trans H; rw [hy213]; with_reducible exact H2_) | (have H2_ := (Option.bind_some _ _).symm.trans H; with_reducible exact H2_) | with_reducible exact H | (rw [hy213]; exact H) | exact H
     have Ny213 := aM hy213
     clear hy213
     have H' := aM H
     clear H
     have p212 : 0 ≤ (x4_1 : Int) := of_decide_eq_true dS
     have q212 : x4_1 < (l0.length : Int) := of_decide_eq_true dS
     obtain ⟨ad212, e212, hx212_0⟩ := Kd.at_int HR0.out x4_1 p212 q212
     cases e212
     replace hx212_0 := (HB.out.cell (World.block_lt_of_cell? w _ hx212_0)).trans hx212_0
     replace p212 := eq_true p212
     replace q212 := eq_true q212
     go_wp2_with (first | ((with_reducible refine gate_builtin (b := .append) (xs := #[.tmp 15, .tmp 20]) rfl ?_); at_builtin; refine Kd.R_append (Kd.int .u64) (w0 := w) w.heap.size rfl (.tmp 15) (.tmp 20) 22 44 (.int .u64 0) 8 rfl Try.underlying22 info44 rfl (by decide) (by omega) u3 x3_1 (rd l0 x4_1) [.int .u64 (rd l0 x4_1)] (fun _ => True) (fun _ => False) rfl rfl ?aP (fun _ hk => hk.elim) ?aF ?aO ?aB ?aS ?aL ?_; (case aP => exact rfl); (case aB => exact dB); (case aF => exact (fun _ _ => trivial)); (case aO => exact (dR HO_3.out)); (case aS => exact (below_size dB)); (case aL => have := LMc5.out; omega); intro v214 w6 ho hb hg hat; rw [← Ny213.out] at ho; replace HB := aM (hb); have HO215 := aM (ho); clear HO_3; clear ho hb hg hat))
     go_roundg k1
     case measure => have := HK1.out; omega
     case rel => exact ⟨(y213), (wrap64 (x4_1 + 1)), dF, H', ⟨by have := HK1.out; omega⟩, ⟨dR HO215.out⟩, ⟨dB⟩⟩
    ·rw [if_neg c3] at H
     have c3b0 := decide_eq_false c3
     clear c3
     obtain rfl := Option.some.inj H
     go_wp2
     go_ret
     exact ⟨_, dE, dR HO_3.out, dB⟩
   ·rw [if_neg c2] at H
    have c2b0 := decide_eq_false c2
    clear c2
    obtain rfl := Option.some.inj H
    go_wp2
    go_ret
    exact ⟨_, dE, dR HO_3.out, dB⟩
def plumblaw05_Part_whole.l0 : Nat → List Int → List Int → Bool → Int → Option (List Int × List Int)
 | 0, _, _, _, _ => none
 | k + 1, x4, x5, x6, x7 => if x7 < (x5.length : Int) then (if x6 = true then (if 0 ≤ x7 then (plumblaw05_Part_whole.l0 k x4 x5 ((rd x5 x7) == 0) (wrap64 (x7 + 1))) else (none)) else (plumblaw05_Part_whole.l0 k x4 x5 false (wrap64 (x7 + 1)))) else (if x6 = true then (some (x4, (([1] : List Int)))) else (some (x4, x5)))
def plumblaw05_Part_whole.f (k : Nat) (a0_0 : Bool) (l0_1 : List Int) (l0_2 : List Int) : Option (List Int × List Int) := (plumblaw05_cut.f k l0_1).bind fun t217 => ((plumblaw05_cut.f k l0_2).bind fun t220 => (plumblaw05_Part_whole.l0 k t217 t220 true 0))
def plumblaw05_Part_whole.T1 : Bool × List (List Nat × List Nat) := (true, [([], []), ([0], [0]), ([1], [1]), ([], []), ([3], [3]), ([4, 2], [4]), ([2, 5, 0, 1, 2], [2]), ([5, 6, 0, 1, 2, 3, 4, 5, 6], [5])])
def plumblaw05_Part_whole.B1 : List Nat := [0, 1, 3, 0, 8, 31, 63, 127]
theorem plumblaw05_Part_whole.tab1 : rtab .any (opsOf Try.f33 1) = plumblaw05_Part_whole.T1 := by kernel_rfl
theorem plumblaw05_Part_whole.bits1 : waitsOk plumblaw05_Part_whole.T1.2 plumblaw05_Part_whole.B1 = true := by kernel_rfl
set_option maxHeartbeats 8000000 in
set_option maxRecDepth 100000 in
theorem plumblaw05_Part_whole.calls (k : Nat) (a0_0 : Bool) (A0_1 : Option Addr) (c0_1 : Nat) (l0_1 : List Int) (A0_2 : Option Addr) (c0_2 : Nat) (l0_2 : List Int) (r1 : List Int) (r2 : List Int) (w : World) (hr0_1 : Kd.C (Kd.int .u64) w A0_1 l0_1.length l0_1) (hc0_1 : l0_1.length ≤ c0_1) (hr0_2 : Kd.C (Kd.int .u64) w A0_2 l0_2.length l0_2) (hc0_2 : l0_2.length ≤ c0_2) (h : plumblaw05_Part_whole.f k a0_0 l0_1 l0_2 = some (r1, r2)) :
  Calls Try.prog 33 #[.agg #[.bool a0_0, .slice A0_1 l0_1.length c0_1, .slice A0_2 l0_2.length c0_2]] w fun e w' => ∃ v0_ v1_ : Value, e = .returned (.tuple #[v0_, v1_]) ∧ Kd.R (Kd.int .u64) 44 w' w.heap.size (fun k_ => some k_ ≠ (v1_ : Value).ownBlock) v0_ r1 ∧ Kd.R (Kd.int .u64) 44 w' w.heap.size (fun k_ => some k_ ≠ (v0_ : Value).ownBlock) v1_ r2 ∧ Below w.heap.size w w' := by
 have hu24 := Try.underlying24
 have HR0_1 := aM hr0_1
 have HC0_1 := aM hc0_1
 clear hr0_1 hc0_1
 have HR0_2 := aM hr0_2
 have HC0_2 := aM hc0_2
 clear hr0_2 hc0_2
 have HB := aM (Below.refl w.heap.size w)
 have H := h
 clear h
 unfold plumblaw05_Part_whole.f at H
 replace H := oA H
 obtain ⟨t217, A2, H⟩ := H
 (try dsimp only at H)
 replace H := oA H
 obtain ⟨t220, A3, H⟩ := H
 (try dsimp only at H)
 have H' := aM H
 clear H
 go_enter Try.func33, Try.ntmps33
 try go_wp2_with (first | ((with_reducible refine gate_dst (N := 1) rfl ?_); refine bE 1 #[.bool a0_0, .slice A0_1 l0_1.length c0_1, .slice A0_2 l0_2.length c0_2] 24 ?_; intro gb216 hg w4 hbox hb; have BK216 := aM (hbox); have GE216 : Aside0 (w.heap.size ≤ gb216) := gE hg; replace HB := hS HB.out hb; clear hb hbox hg))
 replace BK216 := aM (blk_drew BK216.out)
 replace HB := aM (below_drew1 HB.out)
 refine start_ (n := 8) (S := fun w' => w'.cell? ⟨gb216, 0, none⟩ = some (.bool a0_0) ∧ w'.cell? ⟨gb216, 1, none⟩ = some (.slice A0_1 l0_1.length c0_1) ∧ w'.cell? ⟨gb216, 2, none⟩ = some (.slice A0_2 l0_2.length c0_2)) (ds := []) #[false, false, false, false, false, false, false, false] (by kernel_rfl) rfl rfl (cz3 BK216.out) (fun hHeld => ?_); refine with_tabW plumblaw05_Part_whole.tab1 plumblaw05_Part_whole.bits1 (fun HT_ HW_ => ?_)
 generalize w4.drew = w5 at BK216 HB hHeld ⊢
 refine pP 0 (some 8) ?_
 refine pP 3 (some 11) ?_
 refine pH3 1 (some 9) hHeld ?_
 refine pH3 4 (some 12) hHeld ?_
 refine one_ (i := 2) (N := some 10) #[true, true, true, true, true, false, false, false] rfl rfl (one_of HT_.out (by kernel_rfl)) (by decide) (fun K hK => ?_)
 refine goes_ Try.func53 (by kernel_rfl) rfl #[.slice A0_1 l0_1.length c0_1] (by rfl) rfl rfl dA ?_
 with_reducible refine (plumblaw05_cut.calls k _ _ l0_1 t217 _ ?side1 HC0_1.out A2.out).mono ?_
 (case side1 => exact dC (Kd.C_below HR0_1.out HB.out))
 rintro e w6 ⟨v218, rfl, ho0, hb⟩
 refine ⟨_, rfl, ?_⟩
 have HO219 := aM (Kd.R_lower ho0 (below_size eB))
 replace BK216 := bB BK216.out hb
 replace HB := hS HB.out hb
 (try clear hb)
 (try clear hb2)
 (try clear hk)
 (try clear hi)
 (try clear ho0)
 refine hK.out _ _ (cz3 BK216.out) (fun hHeld => ?_)
 clear hK K
 refine norm_ (a' := ?_) ?_ ?_
 rotate_left
 ·show Act.put _ (some 10) _ = _
  simp only [Act.put, List.setIfInBounds_toArray, List.set_cons_zero, List.set_cons_succ, i64_w, i32_w]
  rfl
 refine one_ (i := 5) (N := some 13) #[true, true, true, true, true, true, false, false] rfl rfl (one_of HT_.out (by kernel_rfl)) (by decide) (fun K hK => ?_)
 refine goes_ Try.func53 (by kernel_rfl) rfl #[.slice A0_2 l0_2.length c0_2] (by rfl) rfl rfl dA ?_
 with_reducible refine (plumblaw05_cut.calls k _ _ l0_2 t220 _ ?side1 HC0_2.out A3.out).mono ?_
 (case side1 => exact dC (Kd.C_below HR0_2.out HB.out))
 rintro e w7 ⟨v221, rfl, ho0, hb⟩
 refine ⟨_, rfl, ?_⟩
 have HO222 := aM (Kd.R_lower (nW ho0 HO219.out) (below_size eB))
 replace HO219 := oE HO219.out ho0 hb
 replace BK216 := bB BK216.out hb
 replace HB := hS HB.out hb
 (try clear hb)
 (try clear hb2)
 (try clear hk)
 (try clear hi)
 (try clear ho0)
 refine hK.out _ _ (cz3 BK216.out) (fun hHeld => ?_)
 clear hK K
 refine norm_ (a' := ?_) ?_ ?_
 rotate_left
 ·show Act.put _ (some 13) _ = _
  simp only [Act.put, List.setIfInBounds_toArray, List.set_cons_zero, List.set_cons_succ, i64_w, i32_w]
  rfl
 refine pP 6 (some 4) ?_
 refine pP 7 (some 5) ?_
 refine done_ (done_of HT_.out (by kernel_rfl)) ?_
 try go_wp2
 go_loopg [6, 7] k (fun kq v6 v7 w' => ∃ (x6_1 : Bool) (x7_1 : Int), v6 = .bool x6_1 ∧ v7 = .int .i64 x7_1 ∧ Aside0 (plumblaw05_Part_whole.l0 kq t217 t220 x6_1 x7_1 = some (r1, r2)) ∧ Aside0 (kq ≤ k) ∧ Aside0 (Kd.R (Kd.int .u64) 44 w' w.heap.size (fun k_ => some k_ ≠ (v221 : Value).ownBlock) v218 t217) ∧ Aside0 (Kd.R (Kd.int .u64) 44 w' w.heap.size (fun k_ => some k_ ≠ (v218 : Value).ownBlock) v221 t220) ∧ Aside0 (w'.heap[gb216]? = some (.cells #[.bool a0_0, (.slice A0_1 l0_1.length c0_1), (.slice A0_2 l0_2.length c0_2)] 24 (0, 0))) ∧ Aside0 (Below w.heap.size w w'))
 case atStart => exact ⟨(true), (0), dF, dF, H', ⟨Nat.le_refl _⟩, ⟨oM HO219.out (fun _ hk => hk.2)⟩, ⟨oM HO222.out (fun _ hk => hk.2)⟩, ⟨dK BK216.out⟩, ⟨dG GE216.out⟩⟩
 case round =>
  clear H'
  obtain ⟨x6_1, x7_1, rfl, rfl, HA, HK1, HO_4, HO_5, BK216, HB⟩ := hrel
  cases gk with
  | zero => exact absurd HA.out (by simp [plumblaw05_Part_whole.l0])
  | succ k1 =>
   have H := HA.out
   clear HA
   simp only [plumblaw05_Part_whole.l0] at H
   by_cases c8 : x7_1 < (t220.length : Int)
   ·rw [if_pos c8] at H
    have c8b0 := decide_eq_true c8
    clear c8
    by_cases c9 : x6_1 = true
    ·subst c9
     rw [if_pos rfl] at H
     (try dsimp only at H)
     replace H := nO H
     obtain ⟨c10, H⟩ := H
     have c10b0 : decide (0 ≤ x7_1) = true := decide_eq_true c10
     clear c10
     have H' := aM H
     clear H
     obtain ⟨Ao11, co11, rfl⟩ := Kd.R_slice HO_5.out
     have p223 : 0 ≤ (x7_1 : Int) := of_decide_eq_true dS
     have q223 : x7_1 < (t220.length : Int) := of_decide_eq_true dS
     obtain ⟨ad223, e223, hx223_0⟩ := Kd.at_int (Kd.R_reads' HO_5.out).2.2 x7_1 p223 q223
     cases e223
     replace p223 := eq_true p223
     replace q223 := eq_true q223
     go_wp2
     go_roundg k1
     case measure => have := HK1.out; omega
     case rel => exact ⟨(((rd t220 x7_1) == 0)), (wrap64 (x7_1 + 1)), dF, dF, H', ⟨by have := HK1.out; omega⟩, ⟨dR HO_4.out⟩, ⟨dR HO_5.out⟩, ⟨dK BK216.out⟩, ⟨dG GE216.out⟩⟩
    ·replace c9 := Bool.eq_false_iff.mpr c9
     subst c9
     rw [if_neg (show ¬ (false = true) by decide)] at H
     (try dsimp only at H)
     have H' := aM H
     clear H
     obtain ⟨Ao12, co12, rfl⟩ := Kd.R_slice HO_5.out
     go_wp2
     go_roundg k1
     case measure => have := HK1.out; omega
     case rel => exact ⟨(false), (wrap64 (x7_1 + 1)), dF, dF, H', ⟨by have := HK1.out; omega⟩, ⟨dR HO_4.out⟩, ⟨dR HO_5.out⟩, ⟨dK BK216.out⟩, ⟨dG GE216.out⟩⟩
   ·rw [if_neg c8] at H
    have c8b0 := decide_eq_false c8
    clear c8
    by_cases c13 : x6_1 = true
    ·subst c13
     rw [if_pos rfl] at H
     (try dsimp only at H)
     obtain ⟨y224, hy224⟩ : ∃ y_ : List Int, y_ = (([1] : List Int)) := ⟨_, rfl⟩
     replace H : (some (t217, y224)) = some (r1, r2) := by first | (rw [hy224]; with_reducible exact H) | (have H2_ := (Option.bind_some _ _).symm.trans H; rw [hy224]; with_reducible exact H2_) | (have H2_ := (Option.bind_some _ _).symm.trans H; with_reducible exact H2_) | with_reducible exact H | (rw [hy224]; exact H) | exact H
     have Ny224 := aM hy224
     clear hy224
     simp only [Option.some.injEq, Prod.mk.injEq] at H
     obtain ⟨rfl, rfl⟩ := H
     obtain ⟨Ao14, co14, rfl⟩ := Kd.R_slice HO_5.out
     go_wp2_with (first | ((with_reducible refine gate_dst (N := 29) rfl ?_); refine Kd.R_lit (Kd.int .u64) _ 44 ?hg (N := 29) ?hd (xs := ([1] : List Int)) (inner := [.int .u64 1]) (ok := fun _ => True) (okp := fun _ => True) ?hr ?hp (fun _ hk => hk) trivial (Below.refl _ _) (Nat.le_refl _) (by simp) ?_; (case hd => rfl); (case hg => rfl); (case hr => first | (go_simp; done) | (go_simp; rfl)); (case hp => exact (Reps.one (show Kd.M (Kd.int .u64) _ _ _ 1 [.int .u64 1] from rfl) (Reps.none _ _))); intro v225 w15 ho16 hb hg_ hnew_; clear hg_ hnew_; (first | rw [← Ny224.out] at ho16 | (simp only [Int.reduceToNat] at ho16; rw [← Ny224.out] at ho16)); have HO226 := aM (Kd.R_lower (nW (nW ho16 HO_4.out) HO_5.out) (below_size eB)); replace HO_4 := oE HO_4.out ho16 hb; replace HO_5 := oE HO_5.out ho16 hb; replace BK216 := bB BK216.out hb; replace HB := hS HB.out hb; clear hb ho16))
     go_ret2
     exact ⟨_, _, dE, oM HO_4.out (fun _ hk => hk.2), oM HO226.out (fun _ hk => hk.1.2), dG GE216.out⟩
    ·replace c13 := Bool.eq_false_iff.mpr c13
     subst c13
     rw [if_neg (show ¬ (false = true) by decide)] at H
     (try dsimp only at H)
     simp only [Option.some.injEq, Prod.mk.injEq] at H
     obtain ⟨rfl, rfl⟩ := H
     obtain ⟨Ao17, co17, rfl⟩ := Kd.R_slice HO_5.out
     go_wp2
     go_ret2
     exact ⟨_, _, dE, dR HO_4.out, dR HO_5.out, dG GE216.out⟩
def quot_Lowest.f (k : Nat) (l0 : List Int) (l1 : List Int) : Option (List Int × List Int) := (quot_Gcd.f k l0 l1).bind fun t227 => (if (t227.length : Int) = 0 then (some (([] : List Int), ([] : List Int))) else ((quot_DivMod.f k l0 t227).bind fun bt230 => ((quot_DivMod.f k l1 t227).bind fun bt237 => (some (bt230.1, bt237.1)))))
theorem quot_Lowest.mono : ∀ a0 a1 k, LeO (quot_Lowest.f k a0 a1) (quot_Lowest.f (k + 1) a0 a1) := by
 intro a0 a1 k
 unfold quot_Lowest.f
 have m0_ := quot_DivMod.mono
 have m1_ := quot_Gcd.mono
 exact mX
set_option maxHeartbeats 8000000 in
set_option maxRecDepth 100000 in
theorem quot_Lowest.calls (k : Nat) (A0 : Option Addr) (c0 : Nat) (l0 : List Int) (A1 : Option Addr) (c1 : Nat) (l1 : List Int) (r1 : List Int) (r2 : List Int) (w : World) (hr0 : Kd.C (Kd.int .u64) w A0 l0.length l0) (hc0 : l0.length ≤ c0) (hr1 : Kd.C (Kd.int .u64) w A1 l1.length l1) (hc1 : l1.length ≤ c1) (h : quot_Lowest.f k l0 l1 = some (r1, r2)) :
  Calls Try.prog 49 #[.slice A0 l0.length c0, .slice A1 l1.length c1] w fun e w' => ∃ v0_ v1_ : Value, e = .returned (.tuple #[v0_, v1_]) ∧ Kd.R (Kd.int .u64) 44 w' w.heap.size (fun k_ => some k_ ≠ (v1_ : Value).ownBlock) v0_ r1 ∧ Kd.R (Kd.int .u64) 44 w' w.heap.size (fun k_ => some k_ ≠ (v0_ : Value).ownBlock) v1_ r2 ∧ Below w.heap.size w w' := by
 have HR0 := aM hr0
 have HC0 := aM hc0
 clear hr0 hc0
 have HR1 := aM hr1
 have HC1 := aM hc1
 clear hr1 hc1
 have HB := aM (Below.refl w.heap.size w)
 have H := h
 clear h
 unfold quot_Lowest.f at H
 replace H := oA H
 obtain ⟨t227, A3, H⟩ := H
 (try dsimp only at H)
 by_cases c4 : (t227.length : Int) = 0
 ·rw [if_pos c4] at H
  obtain ⟨c4b0, c4b1⟩ := bT c4
  clear c4
  simp only [Option.some.injEq, Prod.mk.injEq] at H
  obtain ⟨rfl, rfl⟩ := H
  go_enter Try.func49, Try.ntmps49
  go_wp2_with (first | ((with_reducible refine gate_callee (f := 41) rfl ?_); refine gL (some 15) Try.func41 #[.slice A0 l0.length c0, .slice A1 l1.length c1] ?_; (with_reducible refine (quot_Gcd.calls k _ _ l0 _ _ l1 t227 _ ?side1 HC0.out ?side3 HC1.out A3.out).mono ?_); (case side1 => exact dC HR0.out); (case side3 => exact dC HR1.out); rintro e w5 ⟨v228, rfl, ho0, hb⟩; refine ⟨_, rfl, ?_⟩; have HO229 := aM (Kd.R_lower ho0 (below_size dB)); replace HB := hS HB.out hb; (try clear hb); (try clear ho0); obtain ⟨Ao6, co6, rfl⟩ := Kd.R_slice HO229.out))
  go_ret2
  exact ⟨_, _, dE, by first | exact Kd.R_nil _ _ _ _ _ | exact Kd.N_nil _ _ _ _ _ | exact Kd.V_nil _ _ _ _ _ | exact Kd.Q_nil _ _ _ _ _ | exact Kd.S_nil _ _ _ _ _, by first | exact Kd.R_nil _ _ _ _ _ | exact Kd.N_nil _ _ _ _ _ | exact Kd.V_nil _ _ _ _ _ | exact Kd.Q_nil _ _ _ _ _ | exact Kd.S_nil _ _ _ _ _, dB⟩
 ·rw [if_neg c4] at H
  obtain ⟨c4b0, c4b1⟩ := bF c4
  have c4b2 : ¬ (t227 = []) := fun h_ => c4 (by rw [h_]; rfl)
  replace H := oA H
  obtain ⟨⟨t230, t231, t232⟩, A7, H⟩ := H
  (try dsimp only at H)
  replace H := oA H
  obtain ⟨⟨t237, t238, t239⟩, A8, H⟩ := H
  (try dsimp only at H)
  simp only [Option.some.injEq, Prod.mk.injEq] at H
  obtain ⟨rfl, rfl⟩ := H
  go_enter Try.func49, Try.ntmps49
  go_wp2_with (first | ((with_reducible refine gate_callee (f := 41) rfl ?_); refine gL (some 15) Try.func41 #[.slice A0 l0.length c0, .slice A1 l1.length c1] ?_; (with_reducible refine (quot_Gcd.calls k _ _ l0 _ _ l1 t227 _ ?side1 HC0.out ?side3 HC1.out A3.out).mono ?_); (case side1 => exact dC HR0.out); (case side3 => exact dC HR1.out); rintro e w9 ⟨v228, rfl, ho0, hb⟩; refine ⟨_, rfl, ?_⟩; have HO229 := aM (Kd.R_lower ho0 (below_size dB)); replace HB := hS HB.out hb; (try clear hb); (try clear ho0); obtain ⟨Ao10, co10, rfl⟩ := Kd.R_slice HO229.out) | ((with_reducible refine gate_callee (f := 36) rfl ?_); refine gL (some 22) Try.func36 #[.slice A0 l0.length c0, .slice Ao10 t227.length co10] ?_; (with_reducible refine (quot_DivMod.calls k _ _ l0 _ _ t227 t230 t231 t232 _ ?side1 HC0.out ?side3 (Kd.R_reads' HO229.out).2.1 A7.out).mono ?_); (case side1 => exact dC (Kd.C_below HR0.out HB.out)); (case side3 => exact dC (Kd.R_reads' HO229.out).2.2); rintro e w11 ⟨v233, v235, rfl, ho0, ho1, hb⟩; refine ⟨_, rfl, ?_⟩; have HO234 := aM (Kd.R_lower (nW ho0 HO229.out) (below_size dB)); have HO236 := aM (Kd.R_lower (nW ho1 HO229.out) (below_size dB)); replace HO229 := tT HO229.out hb ho0 ho1; replace HB := hS HB.out hb; (try clear hb); (try clear ho0); (try clear ho1)) | ((with_reducible refine gate_callee (f := 36) rfl ?_); refine gL (some 29) Try.func36 #[.slice A1 l1.length c1, .slice Ao10 t227.length co10] ?_; (with_reducible refine (quot_DivMod.calls k _ _ l1 _ _ t227 t237 t238 t239 _ ?side1 HC1.out ?side3 (Kd.R_reads' HO229.out).2.1 A8.out).mono ?_); (case side1 => exact dC (Kd.C_below HR1.out HB.out)); (case side3 => exact dC (Kd.R_reads' HO229.out).2.2); rintro e w12 ⟨v240, v242, rfl, ho0, ho1, hb⟩; refine ⟨_, rfl, ?_⟩; have HO241 := aM (Kd.R_lower (nW (nW (nW ho0 HO229.out) HO234.out) HO236.out) (below_size dB)); have HO243 := aM (Kd.R_lower (nW (nW (nW ho1 HO229.out) HO234.out) HO236.out) (below_size dB)); replace HO229 := tT HO229.out hb ho0 ho1; replace HO234 := tT HO234.out hb ho0 ho1; replace HO236 := tT HO236.out hb ho0 ho1; replace HB := hS HB.out hb; (try clear hb); (try clear ho0); (try clear ho1)))
  go_ret2
  exact ⟨_, _, dE, oM HO234.out (fun _ hk => hk.1.2), oM HO241.out (fun _ hk => hk.1.2), dB⟩
def rat_lowest.f (k : Nat) (a0 : Bool) (l1 : List Int) (l2 : List Int) : Option (Bool × List Int × List Int) := (quot_Lowest.f k l1 l2).bind fun bt420 => (if a0 = true then (some (decide ((bt420.1.length : Int) > 0), bt420.1, bt420.2)) else (some (false, bt420.1, bt420.2)))
theorem rat_lowest.mono : ∀ a0 a1 a2 k, LeO (rat_lowest.f k a0 a1 a2) (rat_lowest.f (k + 1) a0 a1 a2) := by
 intro a0 a1 a2 k
 unfold rat_lowest.f
 have m0_ := quot_Lowest.mono
 exact mX
set_option maxHeartbeats 8000000 in
set_option maxRecDepth 100000 in
theorem rat_lowest.calls (k : Nat) (a0 : Bool) (A1 : Option Addr) (c1 : Nat) (l1 : List Int) (A2 : Option Addr) (c2 : Nat) (l2 : List Int) (r1 : Bool) (r2 : List Int) (r3 : List Int) (w : World) (hr1 : Kd.C (Kd.int .u64) w A1 l1.length l1) (hc1 : l1.length ≤ c1) (hr2 : Kd.C (Kd.int .u64) w A2 l2.length l2) (hc2 : l2.length ≤ c2) (h : rat_lowest.f k a0 l1 l2 = some (r1, r2, r3)) :
  Calls Try.prog 29 #[.bool a0, .slice A1 l1.length c1, .slice A2 l2.length c2] w fun e w' => ∃ v1_ v2_ : Value, e = .returned (.agg #[.bool r1, v1_, v2_]) ∧ Kd.R (Kd.int .u64) 44 w' w.heap.size (fun k_ => some k_ ≠ (v2_ : Value).ownBlock) v1_ r2 ∧ Kd.R (Kd.int .u64) 44 w' w.heap.size (fun k_ => some k_ ≠ (v1_ : Value).ownBlock) v2_ r3 ∧ Below w.heap.size w w' := by
 have hu46 := Try.underlying25
 have HR1 := aM hr1
 have HC1 := aM hc1
 clear hr1 hc1
 have HR2 := aM hr2
 have HC2 := aM hc2
 clear hr2 hc2
 have HB := aM (Below.refl w.heap.size w)
 have H := h
 clear h
 unfold rat_lowest.f at H
 replace H := oA H
 obtain ⟨⟨t420, t421⟩, A4, H⟩ := H
 (try dsimp only at H)
 by_cases c5 : a0 = true
 ·subst c5
  rw [if_pos rfl] at H
  (try dsimp only at H)
  simp only [Option.some.injEq, Prod.mk.injEq] at H
  obtain ⟨rfl, rfl, rfl⟩ := H
  go_enter Try.func29, Try.ntmps29
  go_wp2_with (first | ((with_reducible refine gate_dst (N := 6) rfl ?_); (try (refine gate_guard (by rfl) ?_; dsimp only)); refine bE 6 #[.bool false, .slice none 0 0, .slice none 0 0] 25 ?_; intro gb419 hg w6 hbox hb; have BK419 := aM (hbox); have GE419 : Aside0 (w.heap.size ≤ gb419) := gE hg; replace HB := hS HB.out hb; clear hb hbox hg) | ((with_reducible refine gate_callee (f := 49) rfl ?_); refine gL (some 12) Try.func49 #[.slice A1 l1.length c1, .slice A2 l2.length c2] ?_; (with_reducible refine (quot_Lowest.calls k _ _ l1 _ _ l2 t420 t421 _ ?side1 HC1.out ?side3 HC2.out A4.out).mono ?_); (case side1 => exact dC (Kd.C_below HR1.out HB.out)); (case side3 => exact dC (Kd.C_below HR2.out HB.out)); rintro e w7 ⟨v422, v424, rfl, ho0, ho1, hb⟩; refine ⟨_, rfl, ?_⟩; have HO423 := aM (Kd.R_lower ho0 (below_size eB)); have HO425 := aM (Kd.R_lower ho1 (below_size eB)); replace BK419 := bB BK419.out hb; replace HB := hS HB.out hb; (try clear hb); (try clear ho0); (try clear ho1); obtain ⟨Ao8, co8, rfl⟩ := Kd.R_slice HO423.out; obtain ⟨Ao9, co9, rfl⟩ := Kd.R_slice HO425.out; obtain ⟨hcz10_0, hcz10_1, hcz10_2⟩ := cz3 BK419.out; obtain ⟨hfz10_0, hfz10_1, hfz10_2⟩ := fz3 BK419.out))
  (try rw [show decide (0 < t420.length) = decide ((t420.length : Int) > 0) from by rw [decide_eq_decide]; omega])
  refine bodyPost_ret (results_cell_row rfl _ _ gb419 25 #[.bool (decide ((t420.length : Int) > 0)), .slice Ao8 t420.length co8, .slice Ao9 t421.length co9] (0, 0) _ rfl (dP BK419.out) Try.underlying25 rfl (by kernel_rfl)) rfl ?_
  exact ⟨_, _, dE, oR HO423.out BK419.out, oR HO425.out BK419.out, dG GE419.out⟩
 ·replace c5 := Bool.eq_false_iff.mpr c5
  subst c5
  rw [if_neg (show ¬ (false = true) by decide)] at H
  (try dsimp only at H)
  simp only [Option.some.injEq, Prod.mk.injEq] at H
  obtain ⟨rfl, rfl, rfl⟩ := H
  go_enter Try.func29, Try.ntmps29
  go_wp2_with (first | ((with_reducible refine gate_dst (N := 6) rfl ?_); (try (refine gate_guard (by rfl) ?_; dsimp only)); refine bE 6 #[.bool false, .slice none 0 0, .slice none 0 0] 25 ?_; intro gb419 hg w11 hbox hb; have BK419 := aM (hbox); have GE419 : Aside0 (w.heap.size ≤ gb419) := gE hg; replace HB := hS HB.out hb; clear hb hbox hg) | ((with_reducible refine gate_callee (f := 49) rfl ?_); refine gL (some 12) Try.func49 #[.slice A1 l1.length c1, .slice A2 l2.length c2] ?_; (with_reducible refine (quot_Lowest.calls k _ _ l1 _ _ l2 t420 t421 _ ?side1 HC1.out ?side3 HC2.out A4.out).mono ?_); (case side1 => exact dC (Kd.C_below HR1.out HB.out)); (case side3 => exact dC (Kd.C_below HR2.out HB.out)); rintro e w12 ⟨v422, v424, rfl, ho0, ho1, hb⟩; refine ⟨_, rfl, ?_⟩; have HO423 := aM (Kd.R_lower ho0 (below_size eB)); have HO425 := aM (Kd.R_lower ho1 (below_size eB)); replace BK419 := bB BK419.out hb; replace HB := hS HB.out hb; (try clear hb); (try clear ho0); (try clear ho1); obtain ⟨Ao13, co13, rfl⟩ := Kd.R_slice HO425.out; obtain ⟨Ao14, co14, rfl⟩ := Kd.R_slice HO423.out; obtain ⟨hcz15_0, hcz15_1, hcz15_2⟩ := cz3 BK419.out; obtain ⟨hfz15_0, hfz15_1, hfz15_2⟩ := fz3 BK419.out))
  refine bodyPost_ret (results_cell_row rfl _ _ gb419 25 #[.bool false, .slice Ao14 t420.length co14, .slice Ao13 t421.length co13] (0, 0) _ rfl (dP BK419.out) Try.underlying25 rfl (by kernel_rfl)) rfl ?_
  exact ⟨_, _, dE, oR HO423.out BK419.out, oR HO425.out BK419.out, dG GE419.out⟩
def rat_New.f (k : Nat) (a0 : Bool) (l1 : List Int) (l2 : List Int) : Option (Bool × List Int × List Int × Int) := (nat_Norm.f l1).bind fun t245 => ((nat_Norm.f l2).bind fun t248 => (if (t248.length : Int) = 0 then (none) else (if (t245.length : Int) > 4096 then (none) else (if (t248.length : Int) > 4096 then (none) else ((rat_lowest.f k a0 t245 t248).bind fun bt251 => (some (bt251.1, bt251.2.1, bt251.2.2, 0)))))))
theorem rat_New.mono : ∀ a0 a1 a2 k, LeO (rat_New.f k a0 a1 a2) (rat_New.f (k + 1) a0 a1 a2) := by
 intro a0 a1 a2 k
 unfold rat_New.f
 have m0_ := rat_lowest.mono
 exact mX
set_option maxHeartbeats 8000000 in
set_option maxRecDepth 100000 in
theorem rat_New.calls (k : Nat) (a0 : Bool) (A1 : Option Addr) (c1 : Nat) (l1 : List Int) (A2 : Option Addr) (c2 : Nat) (l2 : List Int) (r1 : Bool) (r2 : List Int) (r3 : List Int) (r4 : Int) (w : World) (hr1 : Kd.C (Kd.int .u64) w A1 l1.length l1) (hc1 : l1.length ≤ c1) (hr2 : Kd.C (Kd.int .u64) w A2 l2.length l2) (hc2 : l2.length ≤ c2) (h : rat_New.f k a0 l1 l2 = some (r1, r2, r3, r4)) :
  Calls Try.prog 34 #[.bool a0, .slice A1 l1.length c1, .slice A2 l2.length c2] w fun e w' => ∃ v1_ v2_ : Value, e = .returned (.tuple #[.agg #[.bool r1, v1_, v2_], .int .i64 r4]) ∧ Kd.R (Kd.int .u64) 44 w' w.heap.size (fun k_ => some k_ ≠ (v2_ : Value).ownBlock) v1_ r2 ∧ Kd.R (Kd.int .u64) 44 w' w.heap.size (fun k_ => some k_ ≠ (v1_ : Value).ownBlock) v2_ r3 ∧ Below w.heap.size w w' := by
 have hu25 := Try.underlying25
 have HR1 := aM hr1
 have HC1 := aM hc1
 clear hr1 hc1
 have HR2 := aM hr2
 have HC2 := aM hc2
 clear hr2 hc2
 have HB := aM (Below.refl w.heap.size w)
 have H := h
 clear h
 unfold rat_New.f at H
 replace H := oA H
 obtain ⟨t245, A4, H⟩ := H
 (try dsimp only at H)
 replace H := oA H
 obtain ⟨t248, A5, H⟩ := H
 (try dsimp only at H)
 replace H := nQ H
 obtain ⟨c6, H⟩ := H
 obtain ⟨c6b0, c6b1⟩ := bF c6
 have c6b2 : ¬ (t248 = []) := fun h_ => c6 (by rw [h_]; rfl)
 replace H := nQ H
 obtain ⟨c7, H⟩ := H
 have c7b0 : decide (4096 < (t245.length : Int)) = false := decide_eq_false c7
 have c7b1 : decide (4096 < t245.length) = false := decide_eq_false (by omega)
 clear c7
 replace H := nQ H
 obtain ⟨c8, H⟩ := H
 have c8b0 : decide (4096 < (t248.length : Int)) = false := decide_eq_false c8
 have c8b1 : decide (4096 < t248.length) = false := decide_eq_false (by omega)
 clear c8
 replace H := oA H
 obtain ⟨⟨t251, t252, t255⟩, A9, H⟩ := H
 (try dsimp only at H)
 simp only [Option.some.injEq, Prod.mk.injEq] at H
 obtain ⟨rfl, rfl, rfl, rfl⟩ := H
 go_enter Try.func34, Try.ntmps34
 go_wp2_with (first | ((with_reducible refine gate_dst (N := 6) rfl ?_); (try (refine gate_guard (by rfl) ?_; dsimp only)); refine bE 6 #[.bool false, .slice none 0 0, .slice none 0 0] 25 ?_; intro gb244 hg w10 hbox hb; have BK244 := aM (hbox); have GE244 : Aside0 (w.heap.size ≤ gb244) := gE hg; replace HB := hS HB.out hb; clear hb hbox hg) | ((with_reducible refine gate_callee (f := 46) rfl ?_); refine gL (some 9) Try.func46 #[.slice A1 l1.length c1] ?_; (with_reducible refine (nat_Norm.calls _ _ l1 t245 _ ?side1 HC1.out A4.out).mono ?_); (case side1 => exact dC (Kd.C_below HR1.out HB.out)); rintro e w11 ⟨v246, rfl, ho0, hb⟩; refine ⟨_, rfl, ?_⟩; have HO247 := aM (Kd.R_lower ho0 (below_size eB)); replace BK244 := bB BK244.out hb; replace HB := hS HB.out hb; (try clear hb); (try clear ho0)) | ((with_reducible refine gate_callee (f := 46) rfl ?_); refine gL (some 11) Try.func46 #[.slice A2 l2.length c2] ?_; (with_reducible refine (nat_Norm.calls _ _ l2 t248 _ ?side1 HC2.out A5.out).mono ?_); (case side1 => exact dC (Kd.C_below HR2.out HB.out)); rintro e w12 ⟨v249, rfl, ho0, hb⟩; refine ⟨_, rfl, ?_⟩; have HO250 := aM (Kd.R_lower (nW ho0 HO247.out) (below_size eB)); replace HO247 := oE HO247.out ho0 hb; replace BK244 := bB BK244.out hb; replace HB := hS HB.out hb; (try clear hb); (try clear ho0); obtain ⟨Ao13, co13, rfl⟩ := Kd.R_slice HO250.out; obtain ⟨Ao14, co14, rfl⟩ := Kd.R_slice HO247.out) | ((with_reducible refine gate_callee (f := 29) rfl ?_); refine gL (some 30) Try.func29 #[.bool a0, .slice Ao14 t245.length co14, .slice Ao13 t248.length co13] ?_; (with_reducible refine (rat_lowest.calls k a0 _ _ t245 _ _ t248 t251 t252 t255 _ ?side1 (Kd.R_reads' HO247.out).2.1 ?side3 (Kd.R_reads' HO250.out).2.1 A9.out).mono ?_); (case side1 => exact dC (Kd.R_reads' HO247.out).2.2); (case side3 => exact dC (Kd.R_reads' HO250.out).2.2); rintro e w15 ⟨v253, v256, rfl, ho0, ho1, hb⟩; refine ⟨_, rfl, ?_⟩; have HO254 := aM (Kd.R_lower (nW (nW ho0 HO247.out) HO250.out) (below_size eB)); have HO257 := aM (Kd.R_lower (nW (nW ho1 HO247.out) HO250.out) (below_size eB)); replace HO247 := tT HO247.out hb ho0 ho1; replace HO250 := tT HO250.out hb ho0 ho1; replace BK244 := bB BK244.out hb; replace HB := hS HB.out hb; (try clear hb); (try clear ho0); (try clear ho1); obtain ⟨hcz16_0, hcz16_1, hcz16_2⟩ := cz3 BK244.out; obtain ⟨hfz16_0, hfz16_1, hfz16_2⟩ := fz3 BK244.out; obtain ⟨Ao17, co17, rfl⟩ := Kd.R_slice HO254.out; obtain ⟨Ao18, co18, rfl⟩ := Kd.R_slice HO257.out))
 refine bodyPost_ret (results_ct rfl _ _ gb244 25 #[.bool t251, .slice Ao17 t252.length co17, .slice Ao18 t255.length co18] (0, 0) _ rfl (dP BK244.out) Try.underlying25 rfl (by kernel_rfl)) rfl ?_
 exact ⟨_, _, dE, by (with_reducible repeat (first | apply Kd.R_alloc | apply Kd.R_drewN | apply Kd.R_drew)); exact Kd.R_mono (Kd.R_far (p := ⟨gb244, 2, none⟩) (Kd.R_far (p := ⟨gb244, 1, none⟩) (Kd.R_far (p := ⟨gb244, 0, none⟩) (Kd.R_types HO254.out BK244.out (by decide)) (fun _ hk => hk.2) (.bool t251)) (fun _ hk => hk.2) (.slice Ao17 t252.length co17)) (fun _ hk => hk.2) (.slice Ao18 t255.length co18)) (fun _ hk => hk.1.1.1), by (with_reducible repeat (first | apply Kd.R_alloc | apply Kd.R_drewN | apply Kd.R_drew)); exact Kd.R_mono (Kd.R_far (p := ⟨gb244, 2, none⟩) (Kd.R_far (p := ⟨gb244, 1, none⟩) (Kd.R_far (p := ⟨gb244, 0, none⟩) (Kd.R_types HO257.out BK244.out (by decide)) (fun _ hk => hk.2) (.bool t251)) (fun _ hk => hk.2) (.slice Ao17 t252.length co17)) (fun _ hk => hk.2) (.slice Ao18 t255.length co18)) (fun _ hk => hk.1.1.1), dG GE244.out⟩
def plumblaw05_Part_made.f (k : Nat) (a0_0 : Bool) (l0_1 : List Int) (l0_2 : List Int) : Option (Bool × List Int × List Int × Bool) := (plumblaw05_Part_whole.f k a0_0 l0_1 l0_2).bind fun bt260 => ((rat_New.f k a0_0 bt260.1 bt260.2).bind fun bt266 => (if bt266.2.2.2 = 0 then ((rat_Check.f k bt266.1 bt266.2.1 bt266.2.2.1).bind fun t275 => (some (bt266.1, bt266.2.1, bt266.2.2.1, (t275 == 0)))) else (none)))
def plumblaw05_Part_made.T3 : Bool × List (List Nat × List Nat) := (true, [([], []), ([], []), ([1], [1]), ([2], [2]), ([3], [3]), ([4, 3, 3], [3, 4]), ([5, 3], [3, 5]), ([3, 6], [3, 6]), ([0, 5, 0], [0]), ([7, 8, 0, 1, 2, 3, 4, 5, 6, 7, 8], [7])])
def plumblaw05_Part_made.B3 : List Nat := [0, 0, 2, 6, 14, 30, 62, 126, 63, 511]
theorem plumblaw05_Part_made.tab3 : rtab .any (opsOf Try.f16 3) = plumblaw05_Part_made.T3 := by kernel_rfl
theorem plumblaw05_Part_made.bits3 : waitsOk plumblaw05_Part_made.T3.2 plumblaw05_Part_made.B3 = true := by kernel_rfl
set_option maxHeartbeats 8000000 in
set_option maxRecDepth 100000 in
theorem plumblaw05_Part_made.calls (k : Nat) (a0_0 : Bool) (A0_1 : Option Addr) (c0_1 : Nat) (l0_1 : List Int) (A0_2 : Option Addr) (c0_2 : Nat) (l0_2 : List Int) (r1 : Bool) (r2 : List Int) (r3 : List Int) (r4 : Bool) (w : World) (hr0_1 : Kd.C (Kd.int .u64) w A0_1 l0_1.length l0_1) (hc0_1 : l0_1.length ≤ c0_1) (hr0_2 : Kd.C (Kd.int .u64) w A0_2 l0_2.length l0_2) (hc0_2 : l0_2.length ≤ c0_2) (h : plumblaw05_Part_made.f k a0_0 l0_1 l0_2 = some (r1, r2, r3, r4)) :
  Calls Try.prog 16 #[.agg #[.bool a0_0, .slice A0_1 l0_1.length c0_1, .slice A0_2 l0_2.length c0_2]] w fun e w' => ∃ v1_ v2_ : Value, e = .returned (.tuple #[.agg #[.bool r1, v1_, v2_], .bool r4]) ∧ Kd.R (Kd.int .u64) 44 w' w.heap.size (fun k_ => some k_ ≠ (v2_ : Value).ownBlock) v1_ r2 ∧ Kd.R (Kd.int .u64) 44 w' w.heap.size (fun k_ => some k_ ≠ (v1_ : Value).ownBlock) v2_ r3 ∧ Below w.heap.size w w' := by
 have hu24 := Try.underlying24
 have hu25 := Try.underlying25
 have HR0_1 := aM hr0_1
 have HC0_1 := aM hc0_1
 clear hr0_1 hc0_1
 have HR0_2 := aM hr0_2
 have HC0_2 := aM hc0_2
 clear hr0_2 hc0_2
 have HB := aM (Below.refl w.heap.size w)
 have H := h
 clear h
 unfold plumblaw05_Part_made.f at H
 replace H := oA H
 obtain ⟨⟨t260, t263⟩, A2, H⟩ := H
 (try dsimp only at H)
 replace H := oA H
 obtain ⟨⟨t266, t267, t270, t273⟩, A3, H⟩ := H
 (try dsimp only at H)
 replace H := nO H
 obtain ⟨c4, H⟩ := H
 obtain ⟨c4b0, c4b1⟩ := bT c4
 clear c4
 replace H := oA H
 obtain ⟨t275, A5, H⟩ := H
 (try dsimp only at H)
 simp only [Option.some.injEq, Prod.mk.injEq] at H
 obtain ⟨rfl, rfl, rfl, rfl⟩ := H
 go_enter Try.func16, Try.ntmps16
 try go_wp2_with (first | ((with_reducible refine gate_dst (N := 1) rfl ?_); refine bE 1 #[.bool a0_0, .slice A0_1 l0_1.length c0_1, .slice A0_2 l0_2.length c0_2] 24 ?_; intro gb258 hg w6 hbox hb; have BK258 := aM (hbox); have GE258 : Aside0 (w.heap.size ≤ gb258) := gE hg; replace HB := hS HB.out hb; clear hb hbox hg) | ((with_reducible refine gate_dst (N := 2) rfl ?_); refine bE 2 #[.bool false, .slice none 0 0, .slice none 0 0] 25 ?_; intro gb259 hg w7 hbox hb; have BK259 := aM (hbox); have GE259 : Aside0 (w.heap.size ≤ gb259) := gE hg; replace HB := hS HB.out hb; have NB258_259 := nL hg BK258.out; have NB259_258 := nG hg BK258.out; replace BK258 := bB BK258.out hb; clear hb hbox hg; have hnb8 := NB258_259.out; have hnc8 := NB259_258.out; obtain ⟨hcz9_0, hcz9_1, hcz9_2⟩ := cz3 BK258.out; obtain ⟨hfz9_0, hfz9_1, hfz9_2⟩ := fz3 BK258.out) | ((with_reducible refine gate_callee (f := 33) rfl ?_); refine gL (some 10) Try.func33 #[.agg #[.bool a0_0, .slice A0_1 l0_1.length c0_1, .slice A0_2 l0_2.length c0_2]] ?_; (with_reducible refine (plumblaw05_Part_whole.calls k a0_0 _ _ l0_1 _ _ l0_2 t260 t263 _ ?side1 HC0_1.out ?side3 HC0_2.out A2.out).mono ?_); (case side1 => exact dC (Kd.C_below HR0_1.out HB.out)); (case side3 => exact dC (Kd.C_below HR0_2.out HB.out)); rintro e w10 ⟨v261, v264, rfl, ho0, ho1, hb⟩; refine ⟨_, rfl, ?_⟩; have HO262 := aM (Kd.R_lower ho0 (below_size eB)); have HO265 := aM (Kd.R_lower ho1 (below_size eB)); replace BK258 := bB BK258.out hb; replace BK259 := bB BK259.out hb; replace HB := hS HB.out hb; (try clear hb); (try clear ho0); (try clear ho1); obtain ⟨hcz11_0, hcz11_1, hcz11_2⟩ := cz3 BK258.out; obtain ⟨hfz11_0, hfz11_1, hfz11_2⟩ := fz3 BK258.out; obtain ⟨Ao12, co12, rfl⟩ := Kd.R_slice HO262.out; obtain ⟨Ao13, co13, rfl⟩ := Kd.R_slice HO265.out) | ((with_reducible refine gate_callee (f := 34) rfl ?_); refine gL (some 18) Try.func34 #[.bool a0_0, .slice Ao12 t260.length co12, .slice Ao13 t263.length co13] ?_; (with_reducible refine (rat_New.calls k a0_0 _ _ t260 _ _ t263 t266 t267 t270 t273 _ ?side1 (Kd.R_reads' HO262.out).2.1 ?side3 (Kd.R_reads' HO265.out).2.1 A3.out).mono ?_); (case side1 => exact dC (Kd.R_reads' HO262.out).2.2); (case side3 => exact dC (Kd.R_reads' HO265.out).2.2); rintro e w14 ⟨v268, v271, rfl, ho0, ho1, hb⟩; refine ⟨_, rfl, ?_⟩; have HO269 := aM (Kd.R_lower (nW (nW ho0 HO262.out) HO265.out) (below_size eB)); have HO272 := aM (Kd.R_lower (nW (nW ho1 HO262.out) HO265.out) (below_size eB)); replace HO262 := tT HO262.out hb ho0 ho1; replace HO265 := tT HO265.out hb ho0 ho1; replace BK258 := bB BK258.out hb; replace BK259 := bB BK259.out hb; replace HB := hS HB.out hb; (try clear hb); (try clear ho0); (try clear ho1)) | ((with_reducible refine gate_dst (N := 6) rfl ?_); refine bE 6 #[.bool false, .slice none 0 0, .slice none 0 0] 25 ?_; intro gb274 hg w15 hbox hb; replace HO262 := oB HO262.out hb; replace HO265 := oB HO265.out hb; replace HO269 := oB HO269.out hb; replace HO272 := oB HO272.out hb; have BK274 := aM (hbox); have GE274 : Aside0 (w.heap.size ≤ gb274) := gE hg; replace HB := hS HB.out hb; have NB258_274 := nL hg BK258.out; have NB274_258 := nG hg BK258.out; replace BK258 := bB BK258.out hb; have NB259_274 := nL hg BK259.out; have NB274_259 := nG hg BK259.out; replace BK259 := bB BK259.out hb; clear hb hbox hg; have hnb16 := NB274_258.out; have hnc16 := NB258_274.out; have hnb17 := NB274_259.out; have hnc17 := NB259_274.out; obtain ⟨hcz18_0, hcz18_1, hcz18_2⟩ := cz3 BK274.out; obtain ⟨hfz18_0, hfz18_1, hfz18_2⟩ := fz3 BK274.out; obtain ⟨Ao19, co19, rfl⟩ := Kd.R_slice HO269.out; obtain ⟨Ao20, co20, rfl⟩ := Kd.R_slice HO272.out))
 have n0_ : Aside0 (Kd.R (Kd.int .u64) 44 (((w15.setCell ⟨gb274, 0, none⟩ (.bool t266)).setCell ⟨gb274, 1, none⟩ (.slice Ao19 t267.length co19)).setCell ⟨gb274, 2, none⟩ (.slice Ao20 t270.length co20)) w.heap.size (fun k_ => oN Ao13 t263 co13 k_ ∧ oN Ao19 t267 co19 k_ ∧ oN Ao20 t270 co20 k_) (.slice Ao12 t260.length co12) t260) := ⟨oP HO262.out BK274.out⟩
 have n1_ : Aside0 (Kd.R (Kd.int .u64) 44 (((w15.setCell ⟨gb274, 0, none⟩ (.bool t266)).setCell ⟨gb274, 1, none⟩ (.slice Ao19 t267.length co19)).setCell ⟨gb274, 2, none⟩ (.slice Ao20 t270.length co20)) w.heap.size (fun k_ => oN Ao12 t260 co12 k_ ∧ oN Ao19 t267 co19 k_ ∧ oN Ao20 t270 co20 k_) (.slice Ao13 t263.length co13) t263) := ⟨oP HO265.out BK274.out⟩
 have n2_ : Aside0 (Kd.R (Kd.int .u64) 44 (((w15.setCell ⟨gb274, 0, none⟩ (.bool t266)).setCell ⟨gb274, 1, none⟩ (.slice Ao19 t267.length co19)).setCell ⟨gb274, 2, none⟩ (.slice Ao20 t270.length co20)) w.heap.size (fun k_ => oN Ao12 t260 co12 k_ ∧ oN Ao13 t263 co13 k_ ∧ oN Ao20 t270 co20 k_) (.slice Ao19 t267.length co19) t267) := ⟨oP HO269.out BK274.out⟩
 have n3_ : Aside0 (Kd.R (Kd.int .u64) 44 (((w15.setCell ⟨gb274, 0, none⟩ (.bool t266)).setCell ⟨gb274, 1, none⟩ (.slice Ao19 t267.length co19)).setCell ⟨gb274, 2, none⟩ (.slice Ao20 t270.length co20)) w.heap.size (fun k_ => oN Ao12 t260 co12 k_ ∧ oN Ao13 t263 co13 k_ ∧ oN Ao19 t267 co19 k_) (.slice Ao20 t270.length co20) t270) := ⟨oP HO272.out BK274.out⟩
 have n4_ : Aside0 ((((w15.setCell ⟨gb274, 0, none⟩ (.bool t266)).setCell ⟨gb274, 1, none⟩ (.slice Ao19 t267.length co19)).setCell ⟨gb274, 2, none⟩ (.slice Ao20 t270.length co20)).heap[gb258]? = some (.cells #[.bool a0_0, .slice A0_1 l0_1.length c0_1, .slice A0_2 l0_2.length c0_2] 24 (0, 0))) := ⟨dU1 BK258.out NB258_274.out⟩
 have n5_ : Aside0 ((((w15.setCell ⟨gb274, 0, none⟩ (.bool t266)).setCell ⟨gb274, 1, none⟩ (.slice Ao19 t267.length co19)).setCell ⟨gb274, 2, none⟩ (.slice Ao20 t270.length co20)).heap[gb259]? = some (.cells #[.bool false, .slice none 0 0, .slice none 0 0] 25 (0, 0))) := ⟨dU1 BK259.out NB259_274.out⟩
 have n6_ : Aside0 ((((w15.setCell ⟨gb274, 0, none⟩ (.bool t266)).setCell ⟨gb274, 1, none⟩ (.slice Ao19 t267.length co19)).setCell ⟨gb274, 2, none⟩ (.slice Ao20 t270.length co20)).heap[gb274]? = some (.cells #[.bool t266, .slice Ao19 t267.length co19, .slice Ao20 t270.length co20] 25 (0, 0))) := ⟨dP BK274.out⟩
 have n7_ : Aside0 (Below w.heap.size w (((w15.setCell ⟨gb274, 0, none⟩ (.bool t266)).setCell ⟨gb274, 1, none⟩ (.slice Ao19 t267.length co19)).setCell ⟨gb274, 2, none⟩ (.slice Ao20 t270.length co20))) := ⟨eB⟩
 (try clear HO262)
 (try clear HO265)
 (try clear HO269)
 (try clear HO272)
 (try clear BK258)
 (try clear BK259)
 (try clear BK274)
 (try clear HB)
 generalize (((w15.setCell ⟨gb274, 0, none⟩ (.bool t266)).setCell ⟨gb274, 1, none⟩ (.slice Ao19 t267.length co19)).setCell ⟨gb274, 2, none⟩ (.slice Ao20 t270.length co20)) = w21 at n0_ n1_ n2_ n3_ n4_ n5_ n6_ n7_ ⊢
 have HO262 := n0_
 have HO265 := n1_
 have HO269 := n2_
 have HO272 := n3_
 have BK258 := n4_
 have BK259 := n5_
 have BK274 := n6_
 have HB := n7_
 clear n0_ n1_ n2_ n3_ n4_ n5_ n6_ n7_
 replace HO262 := aM (Kd.R_drew HO262.out)
 replace HO265 := aM (Kd.R_drew HO265.out)
 replace HO269 := aM (Kd.R_drew HO269.out)
 replace HO272 := aM (Kd.R_drew HO272.out)
 replace BK258 := aM (blk_drew BK258.out)
 replace BK259 := aM (blk_drew BK259.out)
 replace BK274 := aM (blk_drew BK274.out)
 replace HB := aM (below_drew1 HB.out)
 refine start_ (n := 10) (S := fun w' => w'.cell? ⟨gb274, 0, none⟩ = some (.bool t266) ∧ w'.cell? ⟨gb274, 1, none⟩ = some (.slice Ao19 t267.length co19) ∧ w'.cell? ⟨gb274, 2, none⟩ = some (.slice Ao20 t270.length co20)) (ds := []) #[false, false, false, false, false, false, false, false, false, false] (by kernel_rfl) rfl rfl (cz3 BK274.out) (fun hHeld => ?_); refine with_tabW plumblaw05_Part_made.tab3 plumblaw05_Part_made.bits3 (fun HT_ HW_ => ?_)
 generalize w21.drew = w22 at HO262 HO265 HO269 HO272 BK258 BK259 BK274 HB hHeld ⊢
 refine pP 1 (some 22) ?_
 refine pP 2 (some 23) ?_
 refine pP 3 (some 24) ?_
 refine pH3 0 (some 21) hHeld ?_
 refine pH3 4 (some 25) hHeld ?_
 refine one_ (i := 5) (N := some 26) #[true, true, true, true, true, true, false, false, false, false] rfl rfl (one_of HT_.out (by kernel_rfl)) (by decide) (fun K hK => ?_)
 refine goes_ Try.func19 (by kernel_rfl) rfl #[.agg #[.bool t266, .slice Ao19 t267.length co19, .slice Ao20 t270.length co20]] (by rfl) rfl rfl dA ?_
 with_reducible refine (rat_Check.calls k t266 _ _ t267 _ _ t270 t275 _ ?side1 (Kd.R_reads' HO269.out).2.1 ?side3 (Kd.R_reads' HO272.out).2.1 A5.out).mono ?_
 (case side1 => exact dC (Kd.R_reads' HO269.out).2.2)
 (case side3 => exact dC (Kd.R_reads' HO272.out).2.2)
 rintro e w23 ⟨rfl, hb⟩
 refine ⟨_, rfl, ?_⟩
 replace HO262 := oB HO262.out hb
 replace HO265 := oB HO265.out hb
 replace HO269 := oB HO269.out hb
 replace HO272 := oB HO272.out hb
 replace BK258 := bB BK258.out hb
 replace BK259 := bB BK259.out hb
 replace BK274 := bB BK274.out hb
 replace HB := hS HB.out hb
 (try clear hb)
 (try clear hb2)
 (try clear hk)
 (try clear hi)
 refine hK.out _ _ (cz3 BK274.out) (fun hHeld => ?_)
 clear hK K
 refine norm_ (a' := ?_) ?_ ?_
 rotate_left
 ·show Act.put _ (some 26) _ = _
  simp only [Act.put, List.setIfInBounds_toArray, List.set_cons_zero, List.set_cons_succ, i64_w, i32_w]
  rfl
 refine pP 6 (some 27) ?_
 refine pP 7 (some 28) ?_
 refine one_ (i := 8) (N := none) #[true, true, true, true, true, true, true, true, true, false] rfl rfl (one_of HT_.out (by kernel_rfl)) (by decide) (fun K hK => ?_)
 have hs24 : w23.cell? ⟨gb259, 0, none⟩ = some (.bool false) := (blk_cell BK259.out 0).trans rfl
 have hfs24 := blk_frozen BK259.out 0
 have hns24_0 := NB258_259.out
 have hns24_2 := NB274_259.out
 have hms24_0 := NB259_258.out
 have hms24_2 := NB259_274.out
 have hs25 : w23.cell? ⟨gb259, 1, none⟩ = some (.slice none 0 0) := (blk_cell BK259.out 1).trans rfl
 have hfs25 := blk_frozen BK259.out 1
 have hns25_0 := NB258_259.out
 have hns25_2 := NB274_259.out
 have hms25_0 := NB259_258.out
 have hms25_2 := NB259_274.out
 have hs26 : w23.cell? ⟨gb259, 2, none⟩ = some (.slice none 0 0) := (blk_cell BK259.out 2).trans rfl
 have hfs26 := blk_frozen BK259.out 2
 have hns26_0 := NB258_259.out
 have hns26_2 := NB274_259.out
 have hms26_0 := NB259_258.out
 have hms26_2 := NB259_274.out
 refine skip_ (w1 := ?_) (by rfl) rfl ?_ ?_
 rotate_left
 ·go_simp
  rfl
 refine hK.out _ _ ⟨((cell_far (p := ⟨gb259, _, none⟩) NB274_259.out _).trans (((cell_far (p := ⟨gb259, _, none⟩) NB274_259.out _).trans (((cell_far (p := ⟨gb259, _, none⟩) NB274_259.out _).trans (hHeld.1)))))), ((cell_far (p := ⟨gb259, _, none⟩) NB274_259.out _).trans (((cell_far (p := ⟨gb259, _, none⟩) NB274_259.out _).trans (((cell_far (p := ⟨gb259, _, none⟩) NB274_259.out _).trans (hHeld.2.1)))))), ((cell_far (p := ⟨gb259, _, none⟩) NB274_259.out _).trans (((cell_far (p := ⟨gb259, _, none⟩) NB274_259.out _).trans (((cell_far (p := ⟨gb259, _, none⟩) NB274_259.out _).trans (hHeld.2.2))))))⟩ (fun hHeld => ?_)
 clear hK K
 refine pP 9 (some 3) ?_
 refine done_ (done_of HT_.out (by kernel_rfl)) ?_
 try go_wp2
 refine bodyPost_ret (results_ct rfl _ _ gb259 25 #[.bool t266, .slice Ao19 t267.length co19, .slice Ao20 t270.length co20] (0, 0) _ rfl (dP BK259.out) Try.underlying25 rfl (by kernel_rfl)) rfl ?_
 exact ⟨_, _, dE, by (with_reducible repeat (first | apply Kd.R_alloc | apply Kd.R_drewN | apply Kd.R_drew)); exact Kd.R_mono (Kd.R_far (p := ⟨gb259, 2, none⟩) (Kd.R_far (p := ⟨gb259, 1, none⟩) (Kd.R_far (p := ⟨gb259, 0, none⟩) (Kd.R_types HO269.out BK259.out (by decide)) (fun _ hk => hk.2) (.bool t266)) (fun _ hk => hk.2) (.slice Ao19 t267.length co19)) (fun _ hk => hk.2) (.slice Ao20 t270.length co20)) (fun _ hk => hk.1.2.2), by (with_reducible repeat (first | apply Kd.R_alloc | apply Kd.R_drewN | apply Kd.R_drew)); exact Kd.R_mono (Kd.R_far (p := ⟨gb259, 2, none⟩) (Kd.R_far (p := ⟨gb259, 1, none⟩) (Kd.R_far (p := ⟨gb259, 0, none⟩) (Kd.R_types HO272.out BK259.out (by decide)) (fun _ hk => hk.2) (.bool t266)) (fun _ hk => hk.2) (.slice Ao19 t267.length co19)) (fun _ hk => hk.2) (.slice Ao20 t270.length co20)) (fun _ hk => hk.1.2.2), eB⟩
end Go.Proofs.Ytiogfeeaepkkmaa.PA
