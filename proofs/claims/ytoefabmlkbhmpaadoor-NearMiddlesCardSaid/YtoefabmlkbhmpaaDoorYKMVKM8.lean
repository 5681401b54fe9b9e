/- A part of the proof (8). -/
import Derived.Test.YtoefabmlkbhmpaaDoorYKMVKM2
import Derived.Test.YtoefabmlkbhmpaaDoorYKMVKM3
import Derived.Test.YtoefabmlkbhmpaaDoorYKMVKM7
namespace Go.Proofs.YtoefabmlkbhmpaaDoor.PA
open Go.RowKit Go.Proofs.YtoefabmlkbhmpaaDoorW.PrintWords Go.Proofs.YtoefabmlkbhmpaaDoorW.PrintLast Go.Proofs.YtoefabmlkbhmpaaDoorW.PrintMore
attribute [local go_sem] max2_int min2_int max_two min_two max_three min_three max_four min_four
set_option linter.unusedVariables false
set_option linter.unusedSimpArgs false
def quot_Gcd.l0 : Nat → List Int → List Int → Option (List Int)
 | 0, _, _ => none
 | k + 1, x0, x1 => if (x1.length : Int) > 0 then ((quot_DivMod.f k x0 x1).bind fun bt233 => (quot_Gcd.l0 k x1 bt233.2.1)) else (some x0)
def quot_Gcd.f (k : Nat) (l0 : List Int) (l1 : List Int) : Option (List Int) := (nat_Norm.f l0).bind fun t227 => ((nat_Norm.f l1).bind fun t230 => (quot_Gcd.l0 k t227 t230))
set_option maxHeartbeats 8000000 in
set_option maxRecDepth 100000 in
theorem quot_Gcd.calls (k : Nat) (A0 : Option Addr) (c0 : Nat) (l0 : List Int) (A1 : Option Addr) (c1 : Nat) (l1 : List Int) (r : List Int) (w : World) (hr0 : Kd.C (Kd.int .u64) w A0 l0.length l0) (hc0 : l0.length ≤ c0) (hr1 : Kd.C (Kd.int .u64) w A1 l1.length l1) (hc1 : l1.length ≤ c1) (h : quot_Gcd.f k l0 l1 = some r) :
  Calls Tryd.prog 97 #[.slice A0 l0.length c0, .slice A1 l1.length c1] w fun e w' => ∃ v0_ : Value, e = .returned (v0_) ∧ Kd.R (Kd.int .u64) 26 w' w.heap.size (fun _ => True) v0_ r ∧ Below w.heap.size w w' := by
 have HR0 := aM hr0
 have HC0 := aM hc0
 clear hr0 hc0
 have HR1 := aM hr1
 have HC1 := aM hc1
 clear hr1 hc1
 have HB := aM (Below.refl w.heap.size w)
 have H := h
 clear h
 unfold quot_Gcd.f at H
 replace H := oA H
 obtain ⟨t227, A3, H⟩ := H
 (try dsimp only at H)
 replace H := oA H
 obtain ⟨t230, A4, H⟩ := H
 (try dsimp only at H)
 have H' := aM H
 clear H
 go_enter Tryd.func97, Tryd.ntmps97
 go_wp2_with (first | ((with_reducible refine gate_callee (f := 51) rfl ?_); refine gL (some 9) Tryd.func51 #[.slice A0 l0.length c0] ?_; (with_reducible refine (nat_Norm.calls _ _ l0 t227 _ ?side1 HC0.out A3.out).mono ?_); (case side1 => exact dC HR0.out); rintro e w5 ⟨v228, rfl, ho0, hb⟩; refine ⟨_, rfl, ?_⟩; have HO229 := aM (Kd.R_lower ho0 (below_size dB)); replace HB := hS HB.out hb; (try clear hb); (try clear ho0)) | ((with_reducible refine gate_callee (f := 51) rfl ?_); refine gL (some 11) Tryd.func51 #[.slice A1 l1.length c1] ?_; (with_reducible refine (nat_Norm.calls _ _ l1 t230 _ ?side1 HC1.out A4.out).mono ?_); (case side1 => exact dC (Kd.C_below HR1.out HB.out)); rintro e w6 ⟨v231, rfl, ho0, hb⟩; refine ⟨_, rfl, ?_⟩; have HO232 := aM (Kd.R_lower (Kd.R_new' ho0 (Kd.R_lt (dR HO229.out))) (below_size dB)); replace HO229 := oE HO229.out ho0 hb; replace HB := hS HB.out hb; (try clear hb); (try clear ho0)))
 go_loopg [0, 1] k (fun kq v0 v1 w' => ∃ (x0_1 : List Int) (x1_1 : List Int), Aside0 (quot_Gcd.l0 kq x0_1 x1_1 = some r) ∧ Aside0 (kq ≤ k) ∧ Aside0 (Kd.R (Kd.int .u64) 26 w' w.heap.size (fun k_ => some k_ ≠ (v1 : Value).ownBlock) v0 x0_1) ∧ Aside0 (Kd.R (Kd.int .u64) 26 w' w.heap.size (fun k_ => some k_ ≠ (v0 : Value).ownBlock) v1 x1_1) ∧ Aside0 (Below w.heap.size w w'))
 case atStart => exact ⟨(t227), (t230), H', ⟨Nat.le_refl _⟩, ⟨oM HO229.out (fun _ hk => hk.2)⟩, ⟨oM HO232.out (fun _ hk => hk.2)⟩, ⟨dB⟩⟩
 case round =>
  clear H'
  try clear c1
  obtain ⟨x0_1, x1_1, HA, HK1, HO_0, HO_1, HB⟩ := hrel
  cases gk with
  | zero => exact absurd HA.out (by simp [quot_Gcd.l0])
  | succ k1 =>
   have H := HA.out
   clear HA
   simp only [quot_Gcd.l0] at H
   by_cases c7 : (x1_1.length : Int) > 0
   ·rw [if_pos c7] at H
    have c7b0 : decide (0 < (x1_1.length : Int)) = true := decide_eq_true c7
    have c7b1 : decide (0 < x1_1.length) = true := decide_eq_true (by omega)
    clear c7
    replace H := oA H
    obtain ⟨⟨t233, t234, t235⟩, A8, H⟩ := H
    (try dsimp only at H)
    have H' := aM H
    clear H
    obtain ⟨Ao9, co9, rfl⟩ := Kd.R_slice HO_1.out
    obtain ⟨Ao10, co10, rfl⟩ := Kd.R_slice HO_0.out
    go_wp2_with (first | ((with_reducible refine gate_callee (f := 53) rfl ?_); refine gL (some 18) Tryd.func53 #[.slice Ao10 x0_1.length co10, .slice Ao9 x1_1.length co9] ?_; (with_reducible refine (quot_DivMod.calls k1 _ _ x0_1 _ _ x1_1 t233 t234 t235 _ ?side1 (Kd.R_reads' HO_0.out).2.1 ?side3 (Kd.R_reads' HO_1.out).2.1 A8.out).mono ?_); (case side1 => exact dC (Kd.R_reads' HO_0.out).2.2); (case side3 => exact dC (Kd.R_reads' HO_1.out).2.2); rintro e w11 ⟨v236, v238, rfl, ho0, ho1, hb⟩; refine ⟨_, rfl, ?_⟩; have HO237 := aM (Kd.R_lower (Kd.R_new' (Kd.R_new' ho0 (Kd.R_lt (dR HO_0.out))) (Kd.R_lt (dR HO_1.out))) (below_size dB)); have HO239 := aM (Kd.R_lower (Kd.R_new' (Kd.R_new' ho1 (Kd.R_lt (dR HO_0.out))) (Kd.R_lt (dR HO_1.out))) (below_size dB)); replace HO_0 := aM (Kd.R_mono (Kd.R_told (Kd.R_told (Kd.R_old (dR HO_0.out) hb) (Kd.R_base ho0)) (Kd.R_base ho1)) (fun _ h_ => h_.1)); replace HO_1 := aM (Kd.R_mono (Kd.R_told (Kd.R_told (Kd.R_old (dR HO_1.out) hb) (Kd.R_base ho0)) (Kd.R_base ho1)) (fun _ h_ => h_.1)); replace HB := hS HB.out hb; (try clear hb); (try clear ho0); (try clear ho1)))
    go_roundg k1
    case measure => have := HK1.out; omega
    case rel => exact ⟨(x1_1), (t234), H', ⟨by have := HK1.out; omega⟩, ⟨oM HO_1.out (fun _ hk => hk.2)⟩, ⟨oM HO239.out (fun _ hk => hk.2)⟩, ⟨dB⟩⟩
   ·rw [if_neg c7] at H
    have c7b0 : decide (0 < (x1_1.length : Int)) = false := decide_eq_false c7
    have c7b1 : decide (0 < x1_1.length) = false := decide_eq_false (by omega)
    clear c7
    obtain rfl := Option.some.inj H
    obtain ⟨Ao12, co12, rfl⟩ := Kd.R_slice HO_1.out
    go_wp2
    go_ret
    exact ⟨_, dE, oM HO_0.out (fun _ hk => trivial), dB⟩
def quot_Lowest.f (k : Nat) (l0 : List Int) (l1 : List Int) : Option (List Int × List Int) := (quot_Gcd.f k l0 l1).bind fun t240 => (if (t240.length : Int) = 0 then (some (([] : List Int), ([] : List Int))) else ((quot_DivMod.f k l0 t240).bind fun bt243 => ((quot_DivMod.f k l1 t240).bind fun bt250 => (some (bt243.1, bt250.1)))))
set_option maxHeartbeats 8000000 in
set_option maxRecDepth 100000 in
theorem quot_Lowest.calls (k : Nat) (A0 : Option Addr) (c0 : Nat) (l0 : List Int) (A1 : Option Addr) (c1 : Nat) (l1 : List Int) (r1 : List Int) (r2 : List Int) (w : World) (hr0 : Kd.C (Kd.int .u64) w A0 l0.length l0) (hc0 : l0.length ≤ c0) (hr1 : Kd.C (Kd.int .u64) w A1 l1.length l1) (hc1 : l1.length ≤ c1) (h : quot_Lowest.f k l0 l1 = some (r1, r2)) :
  Calls Tryd.prog 101 #[.slice A0 l0.length c0, .slice A1 l1.length c1] w fun e w' => ∃ v0_ v1_ : Value, e = .returned (.tuple #[v0_, v1_]) ∧ Kd.R (Kd.int .u64) 26 w' w.heap.size (fun k_ => some k_ ≠ (v1_ : Value).ownBlock) v0_ r1 ∧ Kd.R (Kd.int .u64) 26 w' w.heap.size (fun k_ => some k_ ≠ (v0_ : Value).ownBlock) v1_ r2 ∧ Below w.heap.size w w' := by
 have HR0 := aM hr0
 have HC0 := aM hc0
 clear hr0 hc0
 have HR1 := aM hr1
 have HC1 := aM hc1
 clear hr1 hc1
 have HB := aM (Below.refl w.heap.size w)
 have H := h
 clear h
 unfold quot_Lowest.f at H
 replace H := oA H
 obtain ⟨t240, A3, H⟩ := H
 (try dsimp only at H)
 by_cases c4 : (t240.length : Int) = 0
 ·rw [if_pos c4] at H
  obtain ⟨c4b0, c4b1⟩ := bT c4
  clear c4
  simp only [Option.some.injEq, Prod.mk.injEq] at H
  obtain ⟨rfl, rfl⟩ := H
  go_enter Tryd.func101, Tryd.ntmps101
  go_wp2_with (first | ((with_reducible refine gate_callee (f := 97) rfl ?_); refine gL (some 15) Tryd.func97 #[.slice A0 l0.length c0, .slice A1 l1.length c1] ?_; (with_reducible refine (quot_Gcd.calls k _ _ l0 _ _ l1 t240 _ ?side1 HC0.out ?side3 HC1.out A3.out).mono ?_); (case side1 => exact dC HR0.out); (case side3 => exact dC HR1.out); rintro e w5 ⟨v241, rfl, ho0, hb⟩; refine ⟨_, rfl, ?_⟩; have HO242 := aM (Kd.R_lower ho0 (below_size dB)); replace HB := hS HB.out hb; (try clear hb); (try clear ho0); obtain ⟨Ao6, co6, rfl⟩ := Kd.R_slice HO242.out))
  go_ret2
  exact ⟨_, _, dE, by first | exact Kd.R_nil _ _ _ _ _ | exact Kd.N_nil _ _ _ _ _ | exact Kd.V_nil _ _ _ _ _ | exact Kd.Q_nil _ _ _ _ _ | exact Kd.S_nil _ _ _ _ _, by first | exact Kd.R_nil _ _ _ _ _ | exact Kd.N_nil _ _ _ _ _ | exact Kd.V_nil _ _ _ _ _ | exact Kd.Q_nil _ _ _ _ _ | exact Kd.S_nil _ _ _ _ _, dB⟩
 ·rw [if_neg c4] at H
  obtain ⟨c4b0, c4b1⟩ := bF c4
  have c4b2 : ¬ (t240 = []) := fun h_ => c4 (by rw [h_]; rfl)
  replace H := oA H
  obtain ⟨⟨t243, t244, t245⟩, A7, H⟩ := H
  (try dsimp only at H)
  replace H := oA H
  obtain ⟨⟨t250, t251, t252⟩, A8, H⟩ := H
  (try dsimp only at H)
  simp only [Option.some.injEq, Prod.mk.injEq] at H
  obtain ⟨rfl, rfl⟩ := H
  go_enter Tryd.func101, Tryd.ntmps101
  go_wp2_with (first | ((with_reducible refine gate_callee (f := 97) rfl ?_); refine gL (some 15) Tryd.func97 #[.slice A0 l0.length c0, .slice A1 l1.length c1] ?_; (with_reducible refine (quot_Gcd.calls k _ _ l0 _ _ l1 t240 _ ?side1 HC0.out ?side3 HC1.out A3.out).mono ?_); (case side1 => exact dC HR0.out); (case side3 => exact dC HR1.out); rintro e w9 ⟨v241, rfl, ho0, hb⟩; refine ⟨_, rfl, ?_⟩; have HO242 := aM (Kd.R_lower ho0 (below_size dB)); replace HB := hS HB.out hb; (try clear hb); (try clear ho0); obtain ⟨Ao10, co10, rfl⟩ := Kd.R_slice HO242.out) | ((with_reducible refine gate_callee (f := 53) rfl ?_); refine gL (some 22) Tryd.func53 #[.slice A0 l0.length c0, .slice Ao10 t240.length co10] ?_; (with_reducible refine (quot_DivMod.calls k _ _ l0 _ _ t240 t243 t244 t245 _ ?side1 HC0.out ?side3 (Kd.R_reads' HO242.out).2.1 A7.out).mono ?_); (case side1 => exact dC (Kd.C_below HR0.out HB.out)); (case side3 => exact dC (Kd.R_reads' HO242.out).2.2); rintro e w11 ⟨v246, v248, rfl, ho0, ho1, hb⟩; refine ⟨_, rfl, ?_⟩; have HO247 := aM (Kd.R_lower (Kd.R_new' ho0 (Kd.R_lt (dR HO242.out))) (below_size dB)); have HO249 := aM (Kd.R_lower (Kd.R_new' ho1 (Kd.R_lt (dR HO242.out))) (below_size dB)); replace HO242 := aM (Kd.R_mono (Kd.R_told (Kd.R_told (Kd.R_old (dR HO242.out) hb) (Kd.R_base ho0)) (Kd.R_base ho1)) (fun _ h_ => h_.1)); replace HB := hS HB.out hb; (try clear hb); (try clear ho0); (try clear ho1)) | ((with_reducible refine gate_callee (f := 53) rfl ?_); refine gL (some 29) Tryd.func53 #[.slice A1 l1.length c1, .slice Ao10 t240.length co10] ?_; (with_reducible refine (quot_DivMod.calls k _ _ l1 _ _ t240 t250 t251 t252 _ ?side1 HC1.out ?side3 (Kd.R_reads' HO242.out).2.1 A8.out).mono ?_); (case side1 => exact dC (Kd.C_below HR1.out HB.out)); (case side3 => exact dC (Kd.R_reads' HO242.out).2.2); rintro e w12 ⟨v253, v255, rfl, ho0, ho1, hb⟩; refine ⟨_, rfl, ?_⟩; have HO254 := aM (Kd.R_lower (Kd.R_new' (Kd.R_new' (Kd.R_new' ho0 (Kd.R_lt (dR HO242.out))) (Kd.R_lt (dR HO247.out))) (Kd.R_lt (dR HO249.out))) (below_size dB)); have HO256 := aM (Kd.R_lower (Kd.R_new' (Kd.R_new' (Kd.R_new' ho1 (Kd.R_lt (dR HO242.out))) (Kd.R_lt (dR HO247.out))) (Kd.R_lt (dR HO249.out))) (below_size dB)); replace HO242 := aM (Kd.R_mono (Kd.R_told (Kd.R_told (Kd.R_old (dR HO242.out) hb) (Kd.R_base ho0)) (Kd.R_base ho1)) (fun _ h_ => h_.1)); replace HO247 := aM (Kd.R_mono (Kd.R_told (Kd.R_told (Kd.R_old (dR HO247.out) hb) (Kd.R_base ho0)) (Kd.R_base ho1)) (fun _ h_ => h_.1)); replace HO249 := aM (Kd.R_mono (Kd.R_told (Kd.R_told (Kd.R_old (dR HO249.out) hb) (Kd.R_base ho0)) (Kd.R_base ho1)) (fun _ h_ => h_.1)); replace HB := hS HB.out hb; (try clear hb); (try clear ho0); (try clear ho1)))
  go_ret2
  exact ⟨_, _, dE, oM HO247.out (fun _ hk => hk.1.2), oM HO254.out (fun _ hk => hk.1.2), dB⟩
def rat_lowest.f (k : Nat) (a0 : Bool) (l1 : List Int) (l2 : List Int) : Option (Bool × List Int × List Int) := (quot_Lowest.f k l1 l2).bind fun bt420 => (if a0 = true then (some (decide ((bt420.1.length : Int) > 0), bt420.1, bt420.2)) else (some (false, bt420.1, bt420.2)))
set_option maxHeartbeats 8000000 in
set_option maxRecDepth 100000 in
theorem rat_lowest.calls (k : Nat) (a0 : Bool) (A1 : Option Addr) (c1 : Nat) (l1 : List Int) (A2 : Option Addr) (c2 : Nat) (l2 : List Int) (r1 : Bool) (r2 : List Int) (r3 : List Int) (w : World) (hr1 : Kd.C (Kd.int .u64) w A1 l1.length l1) (hc1 : l1.length ≤ c1) (hr2 : Kd.C (Kd.int .u64) w A2 l2.length l2) (hc2 : l2.length ≤ c2) (h : rat_lowest.f k a0 l1 l2 = some (r1, r2, r3)) :
  Calls Tryd.prog 74 #[.bool a0, .slice A1 l1.length c1, .slice A2 l2.length c2] w fun e w' => ∃ v1_ v2_ : Value, e = .returned (.agg #[.bool r1, v1_, v2_]) ∧ Kd.R (Kd.int .u64) 26 w' w.heap.size (fun k_ => some k_ ≠ (v2_ : Value).ownBlock) v1_ r2 ∧ Kd.R (Kd.int .u64) 26 w' w.heap.size (fun k_ => some k_ ≠ (v1_ : Value).ownBlock) v2_ r3 ∧ Below w.heap.size w w' := by
 have hu46 := Tryd.underlying46
 have HR1 := aM hr1
 have HC1 := aM hc1
 clear hr1 hc1
 have HR2 := aM hr2
 have HC2 := aM hc2
 clear hr2 hc2
 have HB := aM (Below.refl w.heap.size w)
 have H := h
 clear h
 unfold rat_lowest.f at H
 replace H := oA H
 obtain ⟨⟨t420, t421⟩, A4, H⟩ := H
 (try dsimp only at H)
 by_cases c5 : a0 = true
 ·subst c5
  rw [if_pos rfl] at H
  (try dsimp only at H)
  simp only [Option.some.injEq, Prod.mk.injEq] at H
  obtain ⟨rfl, rfl, rfl⟩ := H
  go_enter Tryd.func74, Tryd.ntmps74
  go_wp2_with (first | ((with_reducible refine gate_dst (N := 6) rfl ?_); (try (refine gate_guard (by rfl) ?_; dsimp only)); refine bE 6 #[.bool false, .slice none 0 0, .slice none 0 0] 46 ?_; intro gb419 hg w6 hbox hb; have BK419 := aM (hbox); have GE419 : Aside0 (w.heap.size ≤ gb419) := gE hg; replace HB := hS HB.out hb; clear hb hbox hg) | ((with_reducible refine gate_callee (f := 101) rfl ?_); refine gL (some 12) Tryd.func101 #[.slice A1 l1.length c1, .slice A2 l2.length c2] ?_; (with_reducible refine (quot_Lowest.calls k _ _ l1 _ _ l2 t420 t421 _ ?side1 HC1.out ?side3 HC2.out A4.out).mono ?_); (case side1 => exact dC (Kd.C_below HR1.out HB.out)); (case side3 => exact dC (Kd.C_below HR2.out HB.out)); rintro e w7 ⟨v422, v424, rfl, ho0, ho1, hb⟩; refine ⟨_, rfl, ?_⟩; have HO423 := aM (Kd.R_lower ho0 (below_size eB)); have HO425 := aM (Kd.R_lower ho1 (below_size eB)); replace BK419 := bB BK419.out hb; replace HB := hS HB.out hb; (try clear hb); (try clear ho0); (try clear ho1); obtain ⟨Ao8, co8, rfl⟩ := Kd.R_slice HO423.out; obtain ⟨Ao9, co9, rfl⟩ := Kd.R_slice HO425.out; obtain ⟨hcz10_0, hcz10_1, hcz10_2⟩ := cz3 BK419.out; obtain ⟨hfz10_0, hfz10_1, hfz10_2⟩ := fz3 BK419.out))
  (try rw [show decide (0 < t420.length) = decide ((t420.length : Int) > 0) from by rw [decide_eq_decide]; omega])
  refine bodyPost_ret (results_cell_row rfl _ _ gb419 46 #[.bool (decide ((t420.length : Int) > 0)), .slice Ao8 t420.length co8, .slice Ao9 t421.length co9] (0, 0) _ rfl (dP BK419.out) Tryd.underlying46 rfl (by kernel_rfl)) rfl ?_
  exact ⟨_, _, dE, oR HO423.out BK419.out, oR HO425.out BK419.out, dG GE419.out⟩
 ·replace c5 := Bool.eq_false_iff.mpr c5
  subst c5
  rw [if_neg (show ¬ (false = true) by decide)] at H
  (try dsimp only at H)
  simp only [Option.some.injEq, Prod.mk.injEq] at H
  obtain ⟨rfl, rfl, rfl⟩ := H
  go_enter Tryd.func74, Tryd.ntmps74
  go_wp2_with (first | ((with_reducible refine gate_dst (N := 6) rfl ?_); (try (refine gate_guard (by rfl) ?_; dsimp only)); refine bE 6 #[.bool false, .slice none 0 0, .slice none 0 0] 46 ?_; intro gb419 hg w11 hbox hb; have BK419 := aM (hbox); have GE419 : Aside0 (w.heap.size ≤ gb419) := gE hg; replace HB := hS HB.out hb; clear hb hbox hg) | ((with_reducible refine gate_callee (f := 101) rfl ?_); refine gL (some 12) Tryd.func101 #[.slice A1 l1.length c1, .slice A2 l2.length c2] ?_; (with_reducible refine (quot_Lowest.calls k _ _ l1 _ _ l2 t420 t421 _ ?side1 HC1.out ?side3 HC2.out A4.out).mono ?_); (case side1 => exact dC (Kd.C_below HR1.out HB.out)); (case side3 => exact dC (Kd.C_below HR2.out HB.out)); rintro e w12 ⟨v422, v424, rfl, ho0, ho1, hb⟩; refine ⟨_, rfl, ?_⟩; have HO423 := aM (Kd.R_lower ho0 (below_size eB)); have HO425 := aM (Kd.R_lower ho1 (below_size eB)); replace BK419 := bB BK419.out hb; replace HB := hS HB.out hb; (try clear hb); (try clear ho0); (try clear ho1); obtain ⟨Ao13, co13, rfl⟩ := Kd.R_slice HO425.out; obtain ⟨Ao14, co14, rfl⟩ := Kd.R_slice HO423.out; obtain ⟨hcz15_0, hcz15_1, hcz15_2⟩ := cz3 BK419.out; obtain ⟨hfz15_0, hfz15_1, hfz15_2⟩ := fz3 BK419.out))
  refine bodyPost_ret (results_cell_row rfl _ _ gb419 46 #[.bool false, .slice Ao14 t420.length co14, .slice Ao13 t421.length co13] (0, 0) _ rfl (dP BK419.out) Tryd.underlying46 rfl (by kernel_rfl)) rfl ?_
  exact ⟨_, _, dE, oR HO423.out BK419.out, oR HO425.out BK419.out, dG GE419.out⟩
def rat_New.f (k : Nat) (a0 : Bool) (l1 : List Int) (l2 : List Int) : Option (Bool × List Int × List Int × Int) := (nat_Norm.f l1).bind fun t258 => ((nat_Norm.f l2).bind fun t261 => (if (t261.length : Int) = 0 then (none) else (if (t258.length : Int) > 4096 then (none) else (if (t261.length : Int) > 4096 then (none) else ((rat_lowest.f k a0 t258 t261).bind fun bt264 => (some (bt264.1, bt264.2.1, bt264.2.2, 0)))))))
set_option maxHeartbeats 8000000 in
set_option maxRecDepth 100000 in
theorem rat_New.calls (k : Nat) (a0 : Bool) (A1 : Option Addr) (c1 : Nat) (l1 : List Int) (A2 : Option Addr) (c2 : Nat) (l2 : List Int) (r1 : Bool) (r2 : List Int) (r3 : List Int) (r4 : Int) (w : World) (hr1 : Kd.C (Kd.int .u64) w A1 l1.length l1) (hc1 : l1.length ≤ c1) (hr2 : Kd.C (Kd.int .u64) w A2 l2.length l2) (hc2 : l2.length ≤ c2) (h : rat_New.f k a0 l1 l2 = some (r1, r2, r3, r4)) :
  Calls Tryd.prog 59 #[.bool a0, .slice A1 l1.length c1, .slice A2 l2.length c2] w fun e w' => ∃ v1_ v2_ : Value, e = .returned (.tuple #[.agg #[.bool r1, v1_, v2_], .int .i64 r4]) ∧ Kd.R (Kd.int .u64) 26 w' w.heap.size (fun k_ => some k_ ≠ (v2_ : Value).ownBlock) v1_ r2 ∧ Kd.R (Kd.int .u64) 26 w' w.heap.size (fun k_ => some k_ ≠ (v1_ : Value).ownBlock) v2_ r3 ∧ Below w.heap.size w w' := by
 have hu46 := Tryd.underlying46
 have HR1 := aM hr1
 have HC1 := aM hc1
 clear hr1 hc1
 have HR2 := aM hr2
 have HC2 := aM hc2
 clear hr2 hc2
 have HB := aM (Below.refl w.heap.size w)
 have H := h
 clear h
 unfold rat_New.f at H
 replace H := oA H
 obtain ⟨t258, A4, H⟩ := H
 (try dsimp only at H)
 replace H := oA H
 obtain ⟨t261, A5, H⟩ := H
 (try dsimp only at H)
 replace H := nQ H
 obtain ⟨c6, H⟩ := H
 obtain ⟨c6b0, c6b1⟩ := bF c6
 have c6b2 : ¬ (t261 = []) := fun h_ => c6 (by rw [h_]; rfl)
 replace H := nQ H
 obtain ⟨c7, H⟩ := H
 have c7b0 : decide (4096 < (t258.length : Int)) = false := decide_eq_false c7
 have c7b1 : decide (4096 < t258.length) = false := decide_eq_false (by omega)
 clear c7
 replace H := nQ H
 obtain ⟨c8, H⟩ := H
 have c8b0 : decide (4096 < (t261.length : Int)) = false := decide_eq_false c8
 have c8b1 : decide (4096 < t261.length) = false := decide_eq_false (by omega)
 clear c8
 replace H := oA H
 obtain ⟨⟨t264, t265, t268⟩, A9, H⟩ := H
 (try dsimp only at H)
 simp only [Option.some.injEq, Prod.mk.injEq] at H
 obtain ⟨rfl, rfl, rfl, rfl⟩ := H
 go_enter Tryd.func59, Tryd.ntmps59
 go_wp2_with (first | ((with_reducible refine gate_dst (N := 6) rfl ?_); (try (refine gate_guard (by rfl) ?_; dsimp only)); refine bE 6 #[.bool false, .slice none 0 0, .slice none 0 0] 46 ?_; intro gb257 hg w10 hbox hb; have BK257 := aM (hbox); have GE257 : Aside0 (w.heap.size ≤ gb257) := gE hg; replace HB := hS HB.out hb; clear hb hbox hg) | ((with_reducible refine gate_callee (f := 51) rfl ?_); refine gL (some 9) Tryd.func51 #[.slice A1 l1.length c1] ?_; (with_reducible refine (nat_Norm.calls _ _ l1 t258 _ ?side1 HC1.out A4.out).mono ?_); (case side1 => exact dC (Kd.C_below HR1.out HB.out)); rintro e w11 ⟨v259, rfl, ho0, hb⟩; refine ⟨_, rfl, ?_⟩; have HO260 := aM (Kd.R_lower ho0 (below_size eB)); replace BK257 := bB BK257.out hb; replace HB := hS HB.out hb; (try clear hb); (try clear ho0)) | ((with_reducible refine gate_callee (f := 51) rfl ?_); refine gL (some 11) Tryd.func51 #[.slice A2 l2.length c2] ?_; (with_reducible refine (nat_Norm.calls _ _ l2 t261 _ ?side1 HC2.out A5.out).mono ?_); (case side1 => exact dC (Kd.C_below HR2.out HB.out)); rintro e w12 ⟨v262, rfl, ho0, hb⟩; refine ⟨_, rfl, ?_⟩; have HO263 := aM (Kd.R_lower (Kd.R_new' ho0 (Kd.R_lt (dR HO260.out))) (below_size eB)); replace HO260 := oE HO260.out ho0 hb; replace BK257 := bB BK257.out hb; replace HB := hS HB.out hb; (try clear hb); (try clear ho0); obtain ⟨Ao13, co13, rfl⟩ := Kd.R_slice HO263.out; obtain ⟨Ao14, co14, rfl⟩ := Kd.R_slice HO260.out) | ((with_reducible refine gate_callee (f := 74) rfl ?_); refine gL (some 30) Tryd.func74 #[.bool a0, .slice Ao14 t258.length co14, .slice Ao13 t261.length co13] ?_; (with_reducible refine (rat_lowest.calls k a0 _ _ t258 _ _ t261 t264 t265 t268 _ ?side1 (Kd.R_reads' HO260.out).2.1 ?side3 (Kd.R_reads' HO263.out).2.1 A9.out).mono ?_); (case side1 => exact dC (Kd.R_reads' HO260.out).2.2); (case side3 => exact dC (Kd.R_reads' HO263.out).2.2); rintro e w15 ⟨v266, v269, rfl, ho0, ho1, hb⟩; refine ⟨_, rfl, ?_⟩; have HO267 := aM (Kd.R_lower (Kd.R_new' (Kd.R_new' ho0 (Kd.R_lt (dR HO260.out))) (Kd.R_lt (dR HO263.out))) (below_size eB)); have HO270 := aM (Kd.R_lower (Kd.R_new' (Kd.R_new' ho1 (Kd.R_lt (dR HO260.out))) (Kd.R_lt (dR HO263.out))) (below_size eB)); replace HO260 := aM (Kd.R_mono (Kd.R_told (Kd.R_told (Kd.R_old (dR HO260.out) hb) (Kd.R_base ho0)) (Kd.R_base ho1)) (fun _ h_ => h_.1)); replace HO263 := aM (Kd.R_mono (Kd.R_told (Kd.R_told (Kd.R_old (dR HO263.out) hb) (Kd.R_base ho0)) (Kd.R_base ho1)) (fun _ h_ => h_.1)); replace BK257 := bB BK257.out hb; replace HB := hS HB.out hb; (try clear hb); (try clear ho0); (try clear ho1); obtain ⟨hcz16_0, hcz16_1, hcz16_2⟩ := cz3 BK257.out; obtain ⟨hfz16_0, hfz16_1, hfz16_2⟩ := fz3 BK257.out; obtain ⟨Ao17, co17, rfl⟩ := Kd.R_slice HO267.out; obtain ⟨Ao18, co18, rfl⟩ := Kd.R_slice HO270.out))
 refine bodyPost_ret (results_ct rfl _ _ gb257 46 #[.bool t264, .slice Ao17 t265.length co17, .slice Ao18 t268.length co18] (0, 0) _ rfl (dP BK257.out) Tryd.underlying46 rfl (by kernel_rfl)) rfl ?_
 exact ⟨_, _, dE, by (with_reducible repeat (first | apply Kd.R_alloc | apply Kd.R_drewN | apply Kd.R_drew)); exact Kd.R_mono (Kd.R_far (p := ⟨gb257, 2, none⟩) (Kd.R_far (p := ⟨gb257, 1, none⟩) (Kd.R_far (p := ⟨gb257, 0, none⟩) (Kd.R_types HO267.out BK257.out (by decide)) (fun _ hk => hk.2) (.bool t264)) (fun _ hk => hk.2) (.slice Ao17 t265.length co17)) (fun _ hk => hk.2) (.slice Ao18 t268.length co18)) (fun _ hk => hk.1.1.1), by (with_reducible repeat (first | apply Kd.R_alloc | apply Kd.R_drewN | apply Kd.R_drew)); exact Kd.R_mono (Kd.R_far (p := ⟨gb257, 2, none⟩) (Kd.R_far (p := ⟨gb257, 1, none⟩) (Kd.R_far (p := ⟨gb257, 0, none⟩) (Kd.R_types HO270.out BK257.out (by decide)) (fun _ hk => hk.2) (.bool t264)) (fun _ hk => hk.2) (.slice Ao17 t265.length co17)) (fun _ hk => hk.2) (.slice Ao18 t268.length co18)) (fun _ hk => hk.1.1.1), dG GE257.out⟩
def plumblaw07_whole.f (k : Nat) (a0 : Bool) (a1 : Int) (a2 : Int) : Option (Bool × List Int × List Int) := (nat_Shl.f k (([a1] : List Int)) a2).bind fun bt275 => ((rat_New.f k a0 bt275.1 (([1] : List Int))).bind fun bt282 => (some (bt282.1, bt282.2.1, bt282.2.2.1)))
set_option maxHeartbeats 8000000 in
set_option maxRecDepth 100000 in
theorem plumblaw07_whole.calls (k : Nat) (a0 : Bool) (a1 : Int) (a2 : Int) (r1 : Bool) (r2 : List Int) (r3 : List Int) (w : World) (h : plumblaw07_whole.f k a0 a1 a2 = some (r1, r2, r3)) :
  Calls Tryd.prog 31 #[.bool a0, .int .u64 a1, .int .i64 a2] w fun e w' => ∃ v1_ v2_ : Value, e = .returned (.agg #[.bool r1, v1_, v2_]) ∧ Kd.R (Kd.int .u64) 26 w' w.heap.size (fun k_ => some k_ ≠ (v2_ : Value).ownBlock) v1_ r2 ∧ Kd.R (Kd.int .u64) 26 w' w.heap.size (fun k_ => some k_ ≠ (v1_ : Value).ownBlock) v2_ r3 ∧ Below w.heap.size w w' := by
 have hu46 := Tryd.underlying46
 have HB := aM (Below.refl w.heap.size w)
 have H := h
 clear h
 unfold plumblaw07_whole.f at H
 obtain ⟨y272, hy272⟩ : ∃ y_ : List Int, y_ = (([a1] : List Int)) := ⟨_, rfl⟩
 replace H : ((nat_Shl.f k y272 a2).bind fun bt275 => ((rat_New.f k a0 bt275.1 (([1] : List Int))).bind fun bt282 => (some (bt282.1, bt282.2.1, bt282.2.2.1)))) = some (r1, r2, r3) := by first | (rw [hy272]; with_reducible exact H) | (have H2_ := (Option.bind_some _ _).symm.trans H; rw [hy272]; with_reducible exact H2_) | (have H2_ := (Option.bind_some _ _).symm.trans H; with_reducible exact H2_) | with_reducible exact H | (rw [hy272]; exact H) | exact H
 have Ny272 := aM hy272
 clear hy272
 replace H := oA H
 obtain ⟨⟨t275, t276⟩, A4, H⟩ := H
 (try dsimp only at H)
 obtain ⟨y279, hy279⟩ : ∃ y_ : List Int, y_ = (([1] : List Int)) := ⟨_, rfl⟩
 replace H : ((rat_New.f k a0 t275 y279).bind fun bt282 => (some (bt282.1, bt282.2.1, bt282.2.2.1))) = some (r1, r2, r3) := by first | (rw [hy279]; with_reducible exact H) | (have H2_ := (Option.bind_some _ _).symm.trans H; rw [hy279]; with_reducible exact H2_) | (have H2_ := (Option.bind_some _ _).symm.trans H; with_reducible exact H2_) | with_reducible exact H | (rw [hy279]; exact H) | exact H
 have Ny279 := aM hy279
 clear hy279
 replace H := oA H
 obtain ⟨⟨t282, t283, t286, t289⟩, A5, H⟩ := H
 (try dsimp only at H)
 simp only [Option.some.injEq, Prod.mk.injEq] at H
 obtain ⟨rfl, rfl, rfl⟩ := H
 go_enter Tryd.func31, Tryd.ntmps31
 go_wp2_with (first | ((with_reducible refine gate_dst (N := 6) rfl ?_); refine bE 6 #[.bool false, .slice none 0 0, .slice none 0 0] 46 ?_; intro gb271 hg w6 hbox hb; have BK271 := aM (hbox); have GE271 : Aside0 (w.heap.size ≤ gb271) := gE hg; replace HB := hS HB.out hb; clear hb hbox hg) | ((with_reducible refine gate_dst (N := 13) rfl ?_); refine Kd.R_lit (Kd.int .u64) _ 26 ?hg (N := 13) ?hd (xs := ([a1] : List Int)) (inner := [.int .u64 a1]) (ok := fun _ => True) (okp := fun _ => True) ?hr ?hp (fun _ hk => hk) trivial (Below.refl _ _) (Nat.le_refl _) (by simp) ?_; (case hd => rfl); (case hg => rfl); (case hr => first | (go_simp; done) | (go_simp; rfl)); (case hp => exact (Reps.one (show Kd.M (Kd.int .u64) _ _ _ a1 [.int .u64 a1] from rfl) (Reps.none _ _))); intro v273 w7 ho8 hb hg_ hnew_; clear hg_ hnew_; (first | rw [← Ny272.out] at ho8 | (simp only [Int.reduceToNat] at ho8; rw [← Ny272.out] at ho8)); have HO274 := aM (Kd.R_lower ho8 (below_size eB)); replace BK271 := bB BK271.out hb; replace HB := hS HB.out hb; clear hb ho8; obtain ⟨Ao9, co9, rfl⟩ := Kd.R_slice HO274.out) | ((with_reducible refine gate_callee (f := 21) rfl ?_); refine gL (some 15) Tryd.func21 #[.slice Ao9 y272.length co9, .int .i64 a2] ?_; (with_reducible refine (nat_Shl.calls k _ _ y272 a2 t275 t276 _ ?side1 (Kd.R_reads' HO274.out).2.1 A4.out).mono ?_); (case side1 => exact dC (Kd.R_reads' HO274.out).2.2); rintro e w10 ⟨v277, rfl, ho0, hb⟩; refine ⟨_, rfl, ?_⟩; have HO278 := aM (Kd.R_lower (Kd.R_new' ho0 (Kd.R_lt (dR HO274.out))) (below_size eB)); replace HO274 := oE HO274.out ho0 hb; replace BK271 := bB BK271.out hb; replace HB := hS HB.out hb; (try clear hb); (try clear ho0)) | ((with_reducible refine gate_dst (N := 21) rfl ?_); refine Kd.R_lit (Kd.int .u64) _ 26 ?hg (N := 21) ?hd (xs := ([1] : List Int)) (inner := [.int .u64 1]) (ok := fun _ => True) (okp := fun _ => True) ?hr ?hp (fun _ hk => hk) trivial (Below.refl _ _) (Nat.le_refl _) (by simp) ?_; (case hd => rfl); (case hg => rfl); (case hr => first | (go_simp; done) | (go_simp; rfl)); (case hp => exact (Reps.one (show Kd.M (Kd.int .u64) _ _ _ 1 [.int .u64 1] from rfl) (Reps.none _ _))); intro v280 w11 ho12 hb hg_ hnew_; clear hg_ hnew_; (first | rw [← Ny279.out] at ho12 | (simp only [Int.reduceToNat] at ho12; rw [← Ny279.out] at ho12)); have HO281 := aM (Kd.R_lower (Kd.R_new' (Kd.R_new' ho12 (Kd.R_lt (dR HO274.out))) (Kd.R_lt (dR HO278.out))) (below_size eB)); replace HO274 := oE HO274.out ho12 hb; replace HO278 := oE HO278.out ho12 hb; replace BK271 := bB BK271.out hb; replace HB := hS HB.out hb; clear hb ho12; obtain ⟨Ao13, co13, rfl⟩ := Kd.R_slice HO278.out; obtain ⟨Ao14, co14, rfl⟩ := Kd.R_slice HO281.out) | ((with_reducible refine gate_callee (f := 59) rfl ?_); refine gL (some 22) Tryd.func59 #[.bool a0, .slice Ao13 t275.length co13, .slice Ao14 y279.length co14] ?_; (with_reducible refine (rat_New.calls k a0 _ _ t275 _ _ y279 t282 t283 t286 t289 _ ?side1 (Kd.R_reads' HO278.out).2.1 ?side3 (Kd.R_reads' HO281.out).2.1 A5.out).mono ?_); (case side1 => exact dC (Kd.R_reads' HO278.out).2.2); (case side3 => exact dC (Kd.R_reads' HO281.out).2.2); rintro e w15 ⟨v284, v287, rfl, ho0, ho1, hb⟩; refine ⟨_, rfl, ?_⟩; have HO285 := aM (Kd.R_lower (Kd.R_new' (Kd.R_new' (Kd.R_new' ho0 (Kd.R_lt (dR HO274.out))) (Kd.R_lt (dR HO278.out))) (Kd.R_lt (dR HO281.out))) (below_size eB)); have HO288 := aM (Kd.R_lower (Kd.R_new' (Kd.R_new' (Kd.R_new' ho1 (Kd.R_lt (dR HO274.out))) (Kd.R_lt (dR HO278.out))) (Kd.R_lt (dR HO281.out))) (below_size eB)); replace HO274 := aM (Kd.R_mono (Kd.R_told (Kd.R_told (Kd.R_old (dR HO274.out) hb) (Kd.R_base ho0)) (Kd.R_base ho1)) (fun _ h_ => h_.1)); replace HO278 := aM (Kd.R_mono (Kd.R_told (Kd.R_told (Kd.R_old (dR HO278.out) hb) (Kd.R_base ho0)) (Kd.R_base ho1)) (fun _ h_ => h_.1)); replace HO281 := aM (Kd.R_mono (Kd.R_told (Kd.R_told (Kd.R_old (dR HO281.out) hb) (Kd.R_base ho0)) (Kd.R_base ho1)) (fun _ h_ => h_.1)); replace BK271 := bB BK271.out hb; replace HB := hS HB.out hb; (try clear hb); (try clear ho0); (try clear ho1)) | ((with_reducible refine gate_dst (N := 9) rfl ?_); refine bE 9 #[.bool false, .slice none 0 0, .slice none 0 0] 46 ?_; intro gb290 hg w16 hbox hb; replace HO274 := oB HO274.out hb; replace HO278 := oB HO278.out hb; replace HO281 := oB HO281.out hb; replace HO285 := oB HO285.out hb; replace HO288 := oB HO288.out hb; have BK290 := aM (hbox); have GE290 : Aside0 (w.heap.size ≤ gb290) := gE hg; replace HB := hS HB.out hb; have NB271_290 := nL hg BK271.out; have NB290_271 := nG hg BK271.out; replace BK271 := bB BK271.out hb; clear hb hbox hg; have hnb17 := NB290_271.out; have hnc17 := NB271_290.out; obtain ⟨hcz18_0, hcz18_1, hcz18_2⟩ := cz3 BK290.out; obtain ⟨hfz18_0, hfz18_1, hfz18_2⟩ := fz3 BK290.out; obtain ⟨Ao19, co19, rfl⟩ := Kd.R_slice HO285.out; obtain ⟨Ao20, co20, rfl⟩ := Kd.R_slice HO288.out; obtain ⟨hcz21_0, hcz21_1, hcz21_2⟩ := cz3 BK271.out; obtain ⟨hfz21_0, hfz21_1, hfz21_2⟩ := fz3 BK271.out))
 refine bodyPost_ret (results_cell_row rfl _ _ gb271 46 #[.bool t282, .slice Ao19 t283.length co19, .slice Ao20 t286.length co20] (0, 0) _ rfl (dQ1 BK271.out NB271_290.out) Tryd.underlying46 rfl (by kernel_rfl)) rfl ?_
 exact ⟨_, _, dE, by (with_reducible repeat (first | apply Kd.R_alloc | apply Kd.R_drewN | apply Kd.R_drew)); exact Kd.R_mono (Kd.R_far (p := ⟨gb271, 2, none⟩) (Kd.R_far (p := ⟨gb271, 1, none⟩) (Kd.R_far (p := ⟨gb271, 0, none⟩) (Kd.R_far (p := ⟨gb290, 2, none⟩) (Kd.R_far (p := ⟨gb290, 1, none⟩) (Kd.R_far (p := ⟨gb290, 0, none⟩) (Kd.R_types (Kd.R_types HO285.out BK290.out (by decide)) BK271.out (by decide)) (fun _ hk => hk.1.2) (.bool t282)) (fun _ hk => hk.1.2) (.slice Ao19 t283.length co19)) (fun _ hk => hk.1.2) (.slice Ao20 t286.length co20)) (fun _ hk => hk.2) (.bool t282)) (fun _ hk => hk.2) (.slice Ao19 t283.length co19)) (fun _ hk => hk.2) (.slice Ao20 t286.length co20)) (fun _ hk => hk.1.1.1.1.1), by (with_reducible repeat (first | apply Kd.R_alloc | apply Kd.R_drewN | apply Kd.R_drew)); exact Kd.R_mono (Kd.R_far (p := ⟨gb271, 2, none⟩) (Kd.R_far (p := ⟨gb271, 1, none⟩) (Kd.R_far (p := ⟨gb271, 0, none⟩) (Kd.R_far (p := ⟨gb290, 2, none⟩) (Kd.R_far (p := ⟨gb290, 1, none⟩) (Kd.R_far (p := ⟨gb290, 0, none⟩) (Kd.R_types (Kd.R_types HO288.out BK290.out (by decide)) BK271.out (by decide)) (fun _ hk => hk.1.2) (.bool t282)) (fun _ hk => hk.1.2) (.slice Ao19 t283.length co19)) (fun _ hk => hk.1.2) (.slice Ao20 t286.length co20)) (fun _ hk => hk.2) (.bool t282)) (fun _ hk => hk.2) (.slice Ao19 t283.length co19)) (fun _ hk => hk.2) (.slice Ao20 t286.length co20)) (fun _ hk => hk.1.1.1.1.1), eB⟩
def f64_fields.f (a0 : Int) : Option (Int × Int) := some (wrap64 (Go.bits .and .u64 (a0 / 4503599627370496) 2047), Go.bits .and .u64 a0 4503599627370495)
set_option maxHeartbeats 8000000 in
set_option maxRecDepth 100000 in
theorem f64_fields.calls (a0 : Int) (r1 : Int) (r2 : Int) (w : World) (h : f64_fields.f a0 = some (r1, r2)) :
  Calls Tryd.prog 67 #[.int .u64 a0] w fun e w' => e = .returned (.tuple #[.int .i64 r1, .int .u64 r2]) ∧ Drawn0 w w' := by
 have H := h
 clear h
 unfold f64_fields.f at H
 simp only [Option.some.injEq, Prod.mk.injEq] at H
 obtain ⟨rfl, rfl⟩ := H
 go_enter Tryd.func67, Tryd.ntmps67
 go_wp2
 go_ret2
 exact ⟨dF, dD⟩
def f64_Class.j0 : Nat → Int → Int → Bool → Option (Int)
 | 0, _, _, _ => none
 | k + 1, x3, x4, x10 => if x10 = true then (some 0) else (if x3 = 0 then (some 1) else (if x3 < 2047 then (some 2) else (if x4 = 0 then (some 3) else (some 4))))
def f64_Class.f (k : Nat) (a0 : Int) : Option (Int) := (f64_fields.f a0).bind fun bt291 => (if bt291.1 = 0 then (f64_Class.j0 k bt291.1 bt291.2 (bt291.2 == 0)) else (f64_Class.j0 k bt291.1 bt291.2 false))
set_option maxHeartbeats 8000000 in
set_option maxRecDepth 100000 in
theorem f64_Class.calls (k : Nat) (a0 : Int) (r : Int) (w : World) (h : f64_Class.f k a0 = some r) :
  Calls Tryd.prog 34 #[.int .u64 a0] w fun e w' => e = .returned (.int .i64 r) ∧ Drawn0 w w' := by
 have H := h
 clear h
 unfold f64_Class.f at H
 replace H := oA H
 obtain ⟨⟨t291, t292⟩, A2, H⟩ := H
 (try dsimp only at H)
 have HC3 := aM H
 clear H
 go_enter Tryd.func34, Tryd.ntmps34
 go_upto_region 2 with (first | ((with_reducible refine gate_callee (f := 67) rfl ?_); refine gL (some 7) Tryd.func67 #[.int .u64 a0] ?_; (with_reducible refine (f64_fields.calls a0 t291 t292 _ A2.out).mono ?_); rintro e w' ⟨rfl, ⟨nd, rfl⟩⟩; refine ⟨_, rfl, ?_⟩))
 (try simp only [Act.put, List.setIfInBounds_toArray, List.set_cons_zero, List.set_cons_succ])
 go_cut [10] (fun v10 wc => ∃ (kq : Nat) (x10_2 : Bool), v10 = .bool x10_2 ∧ Aside0 (f64_Class.j0 kq t291 t292 x10_2 = some r) ∧ Aside0 (kq ≤ k) ∧ Drawn0 w wc)
 case first =>
  have H := HC3.out
  clear HC3
  by_cases c4 : t291 = 0
  ·rw [if_pos c4] at H
   obtain ⟨c4b0, c4b1⟩ := bT c4
   clear c4
   (first | rw [c4b0] | (simp only [i64_w, i32_w]; rw [c4b0]) | skip)
   have H' := aM H
   clear H
   go_wp2
   go_meet
   case rel => exact ⟨_, ((t292 == 0)), dF, H', ⟨dN⟩, dD⟩
  ·rw [if_neg c4] at H
   obtain ⟨c4b0, c4b1⟩ := bF c4
   (first | rw [c4b0] | (simp only [i64_w, i32_w]; rw [c4b0]) | skip)
   have H' := aM H
   clear H
   go_wp2
   go_meet
   case rel => exact ⟨_, (false), dF, H', ⟨dN⟩, dD⟩
 case rest =>
  clear HC3
  obtain ⟨kq, x10_2, rfl, HA, HJ2, ⟨mc2, rfl⟩⟩ := hcut
  cases kq with
  | zero => exact absurd HA.out (by simp [f64_Class.j0])
  | succ kj2 =>
   have H := HA.out
   clear HA
   simp only [f64_Class.j0] at H
   by_cases c5 : x10_2 = true
   ·subst c5
    rw [if_pos rfl] at H
    (try dsimp only at H)
    obtain rfl := Option.some.inj H
    go_wp2
    go_ret
    exact ⟨dF, dD⟩
   ·replace c5 := Bool.eq_false_iff.mpr c5
    subst c5
    rw [if_neg (show ¬ (false = true) by decide)] at H
    (try dsimp only at H)
    by_cases c6 : t291 = 0
    ·rw [if_pos c6] at H
     obtain ⟨c6b0, c6b1⟩ := bT c6
     clear c6
     obtain rfl := Option.some.inj H
     go_wp2
     go_ret
     exact ⟨dF, dD⟩
    ·rw [if_neg c6] at H
     obtain ⟨c6b0, c6b1⟩ := bF c6
     by_cases c7 : t291 < 2047
     ·rw [if_pos c7] at H
      have c7b0 := decide_eq_true c7
      clear c7
      obtain rfl := Option.some.inj H
      go_wp2
      go_ret
      exact ⟨dF, dD⟩
     ·rw [if_neg c7] at H
      have c7b0 := decide_eq_false c7
      clear c7
      by_cases c8 : t292 = 0
      ·rw [if_pos c8] at H
       obtain ⟨c8b0, c8b1⟩ := bT c8
       clear c8
       obtain rfl := Option.some.inj H
       go_wp2
       go_ret
       exact ⟨dF, dD⟩
      ·rw [if_neg c8] at H
       obtain ⟨c8b0, c8b1⟩ := bF c8
       obtain rfl := Option.some.inj H
       go_wp2
       go_ret
       exact ⟨dF, dD⟩
def f64_Split.f (k : Nat) (a0 : Int) : Option (Bool × Int × Int × Int) := (f64_fields.f a0).bind fun bt293 => ((f64_Class.f k a0).bind fun t295 => (if t295 = 0 then (some (((Go.bits .and .u64 a0 9223372036854775808) != 0), bt293.2, (-1074), 0)) else (if t295 = 1 then (some (((Go.bits .and .u64 a0 9223372036854775808) != 0), bt293.2, (-1074), 0)) else (if t295 = 2 then (some (((Go.bits .and .u64 a0 9223372036854775808) != 0), Go.bits .or .u64 4503599627370496 bt293.2, wrap64 (bt293.1 - 1075), 0)) else (some (false, 0, 0, 60))))))
set_option maxHeartbeats 8000000 in
set_option maxRecDepth 100000 in
theorem f64_Split.calls (k : Nat) (a0 : Int) (r1 : Bool) (r2 : Int) (r3 : Int) (r4 : Int) (w : World) (h : f64_Split.f k a0 = some (r1, r2, r3, r4)) :
  Calls Tryd.prog 62 #[.int .u64 a0] w fun e w' => e = .returned (.tuple #[.bool r1, .int .u64 r2, .int .i64 r3, .int .i64 r4]) ∧ Drawn0 w w' := by
 have H := h
 clear h
 unfold f64_Split.f at H
 replace H := oA H
 obtain ⟨⟨t293, t294⟩, A2, H⟩ := H
 (try dsimp only at H)
 replace H := oA H
 obtain ⟨t295, A3, H⟩ := H
 (try dsimp only at H)
 by_cases c4 : t295 = 0
 ·rw [if_pos c4] at H
  obtain ⟨c4b0, c4b1⟩ := bT c4
  clear c4
  simp only [Option.some.injEq, Prod.mk.injEq] at H
  obtain ⟨rfl, rfl, rfl, rfl⟩ := H
  go_enter Tryd.func62, Tryd.ntmps62
  go_wp2_with (first | ((with_reducible refine gate_callee (f := 67) rfl ?_); refine gL (some 11) Tryd.func67 #[.int .u64 a0] ?_; (with_reducible refine (f64_fields.calls a0 t293 t294 _ A2.out).mono ?_); rintro e w' ⟨rfl, ⟨nd, rfl⟩⟩; refine ⟨_, rfl, ?_⟩) | ((with_reducible refine gate_callee (f := 34) rfl ?_); refine gL (some 18) Tryd.func34 #[.int .u64 a0] ?_; (with_reducible refine (f64_Class.calls k a0 t295 _ A3.out).mono ?_); rintro e w' ⟨rfl, ⟨nd, rfl⟩⟩; refine ⟨_, rfl, ?_⟩))
  refine bodyPost_ret (results_list (rs := [.tmp 2, .tmp 3, .tmp 4, .tmp 5]) rfl (by simp) (.tmp (.tmp (.tmp (.tmp .nil))))) rfl ?_
  exact ⟨dF, dD⟩
 ·rw [if_neg c4] at H
  obtain ⟨c4b0, c4b1⟩ := bF c4
  by_cases c5 : t295 = 1
  ·rw [if_pos c5] at H
   obtain ⟨c5b0, c5b1⟩ := bT c5
   clear c5
   simp only [Option.some.injEq, Prod.mk.injEq] at H
   obtain ⟨rfl, rfl, rfl, rfl⟩ := H
   go_enter Tryd.func62, Tryd.ntmps62
   go_wp2_with (first | ((with_reducible refine gate_callee (f := 67) rfl ?_); refine gL (some 11) Tryd.func67 #[.int .u64 a0] ?_; (with_reducible refine (f64_fields.calls a0 t293 t294 _ A2.out).mono ?_); rintro e w' ⟨rfl, ⟨nd, rfl⟩⟩; refine ⟨_, rfl, ?_⟩) | ((with_reducible refine gate_callee (f := 34) rfl ?_); refine gL (some 18) Tryd.func34 #[.int .u64 a0] ?_; (with_reducible refine (f64_Class.calls k a0 t295 _ A3.out).mono ?_); rintro e w' ⟨rfl, ⟨nd, rfl⟩⟩; refine ⟨_, rfl, ?_⟩))
   refine bodyPost_ret (results_list (rs := [.tmp 2, .tmp 3, .tmp 4, .tmp 5]) rfl (by simp) (.tmp (.tmp (.tmp (.tmp .nil))))) rfl ?_
   exact ⟨dF, dD⟩
  ·rw [if_neg c5] at H
   obtain ⟨c5b0, c5b1⟩ := bF c5
   by_cases c6 : t295 = 2
   ·rw [if_pos c6] at H
    obtain ⟨c6b0, c6b1⟩ := bT c6
    clear c6
    simp only [Option.some.injEq, Prod.mk.injEq] at H
    obtain ⟨rfl, rfl, rfl, rfl⟩ := H
    go_enter Tryd.func62, Tryd.ntmps62
    go_wp2_with (first | ((with_reducible refine gate_callee (f := 67) rfl ?_); refine gL (some 11) Tryd.func67 #[.int .u64 a0] ?_; (with_reducible refine (f64_fields.calls a0 t293 t294 _ A2.out).mono ?_); rintro e w' ⟨rfl, ⟨nd, rfl⟩⟩; refine ⟨_, rfl, ?_⟩) | ((with_reducible refine gate_callee (f := 34) rfl ?_); refine gL (some 18) Tryd.func34 #[.int .u64 a0] ?_; (with_reducible refine (f64_Class.calls k a0 t295 _ A3.out).mono ?_); rintro e w' ⟨rfl, ⟨nd, rfl⟩⟩; refine ⟨_, rfl, ?_⟩))
    refine bodyPost_ret (results_list (rs := [.tmp 2, .tmp 3, .tmp 4, .tmp 5]) rfl (by simp) (.tmp (.tmp (.tmp (.tmp .nil))))) rfl ?_
    exact ⟨dF, dD⟩
   ·rw [if_neg c6] at H
    obtain ⟨c6b0, c6b1⟩ := bF c6
    simp only [Option.some.injEq, Prod.mk.injEq] at H
    obtain ⟨rfl, rfl, rfl, rfl⟩ := H
    go_enter Tryd.func62, Tryd.ntmps62
    go_wp2_with (first | ((with_reducible refine gate_callee (f := 67) rfl ?_); refine gL (some 11) Tryd.func67 #[.int .u64 a0] ?_; (with_reducible refine (f64_fields.calls a0 t293 t294 _ A2.out).mono ?_); rintro e w' ⟨rfl, ⟨nd, rfl⟩⟩; refine ⟨_, rfl, ?_⟩) | ((with_reducible refine gate_callee (f := 34) rfl ?_); refine gL (some 18) Tryd.func34 #[.int .u64 a0] ?_; (with_reducible refine (f64_Class.calls k a0 t295 _ A3.out).mono ?_); rintro e w' ⟨rfl, ⟨nd, rfl⟩⟩; refine ⟨_, rfl, ?_⟩))
    refine bodyPost_ret (results_list (rs := [.tmp 2, .tmp 3, .tmp 4, .tmp 5]) rfl (by simp) (.tmp (.tmp (.tmp (.tmp .nil))))) rfl ?_
    exact ⟨dF, dD⟩
def plumblaw07_value.f (k : Nat) (a0 : Int) : Option (Bool × List Int × List Int × Bool) := (f64_Split.f k a0).bind fun bt297 => ((plumblaw07_num.f bt297.2.2.2).bind fun t301 => (if t301 = 0 then (if bt297.2.2.1 ≥ 0 then ((plumblaw07_whole.f k bt297.1 bt297.2.1 bt297.2.2.1).bind fun bt302 => (some (bt302.1, bt302.2.1, bt302.2.2, true))) else ((nat_Shl.f k (([1] : List Int)) (wrap64 (-bt297.2.2.1))).bind fun bt312 => ((rat_New.f k bt297.1 (([bt297.2.1] : List Int)) bt312.1).bind fun bt319 => ((plumblaw07_num.f bt312.2).bind fun t328 => (if t328 = 0 then ((plumblaw07_num.f bt319.2.2.2).bind fun t329 => (some (bt319.1, bt319.2.1, bt319.2.2.1, (t329 == 0)))) else (none)))))) else (none)))
def plumblaw07_value.T8 : Bool × List (List Nat × List Nat) := (true, [([], []), ([], []), ([1], [1]), ([2], [2]), ([3, 2], [3]), ([4], [4]), ([5, 4, 4], [4, 5]), ([6, 4], [4, 6]), ([4, 7], [4, 7]), ([0, 6, 0], [0]), ([8, 9, 0, 1, 2, 3, 4, 5, 6, 7, 8, 9], [8])])
def plumblaw07_value.B8 : List Nat := [0, 0, 2, 6, 14, 30, 62, 126, 254, 127, 1023]
theorem plumblaw07_value.tab8 : rtab .any (opsOf Tryd.f25 8) = plumblaw07_value.T8 := by kernel_rfl
theorem plumblaw07_value.bits8 : waitsOk plumblaw07_value.T8.2 plumblaw07_value.B8 = true := by kernel_rfl
set_option maxHeartbeats 8000000 in
set_option maxRecDepth 100000 in
theorem plumblaw07_value.calls (k : Nat) (a0 : Int) (r1 : Bool) (r2 : List Int) (r3 : List Int) (r4 : Bool) (w : World) (h : plumblaw07_value.f k a0 = some (r1, r2, r3, r4)) :
  Calls Tryd.prog 25 #[.int .u64 a0] w fun e w' => ∃ v1_ v2_ : Value, e = .returned (.tuple #[.agg #[.bool r1, v1_, v2_], .bool r4]) ∧ Kd.R (Kd.int .u64) 26 w' w.heap.size (fun k_ => some k_ ≠ (v2_ : Value).ownBlock) v1_ r2 ∧ Kd.R (Kd.int .u64) 26 w' w.heap.size (fun k_ => some k_ ≠ (v1_ : Value).ownBlock) v2_ r3 ∧ Below w.heap.size w w' := by
 have hu46 := Tryd.underlying46
 have HB := aM (Below.refl w.heap.size w)
 have H := h
 clear h
 unfold plumblaw07_value.f at H
 replace H := oA H
 obtain ⟨⟨t297, t298, t299, t300⟩, A2, H⟩ := H
 (try dsimp only at H)
 replace H := oA H
 obtain ⟨t301, A3, H⟩ := H
 (try dsimp only at H)
 replace H := nO H
 obtain ⟨c4, H⟩ := H
 obtain ⟨c4b0, c4b1⟩ := bT c4
 clear c4
 by_cases c5 : t299 ≥ 0
 ·rw [if_pos c5] at H
  have c5b0 : decide (0 ≤ t299) = true := decide_eq_true c5
  clear c5
  replace H := oA H
  obtain ⟨⟨t302, t303, t306⟩, A6, H⟩ := H
  (try dsimp only at H)
  simp only [Option.some.injEq, Prod.mk.injEq] at H
  obtain ⟨rfl, rfl, rfl, rfl⟩ := H
  go_enter Tryd.func25, Tryd.ntmps25
  go_wp2_with (first | ((with_reducible refine gate_dst (N := 2) rfl ?_); refine bE 2 #[.bool false, .slice none 0 0, .slice none 0 0] 46 ?_; intro gb296 hg w7 hbox hb; have BK296 := aM (hbox); have GE296 : Aside0 (w.heap.size ≤ gb296) := gE hg; replace HB := hS HB.out hb; clear hb hbox hg) | ((with_reducible refine gate_callee (f := 62) rfl ?_); refine gL (some 14) Tryd.func62 #[.int .u64 a0] ?_; (with_reducible refine (f64_Split.calls k a0 t297 t298 t299 t300 _ A2.out).mono ?_); rintro e w' ⟨rfl, ⟨nd, rfl⟩⟩; refine ⟨_, rfl, ?_⟩; (try (rw [drewN_self w7]; generalize hq_ : World.drewN w7 _ = w7; have n0_ : Aside0 (w7.heap[gb296]? = some (.cells #[.bool false, .slice none 0 0, .slice none 0 0] 46 (0, 0))) := ⟨by rw [← hq_]; exact (dK BK296.out)⟩; have n1_ : Aside0 (Below w.heap.size w w7) := ⟨by rw [← hq_]; exact eB⟩; clear BK296 HB hq_; have BK296 := n0_; have HB := n1_; clear n0_ n1_))) | ((with_reducible refine gate_callee (f := 15) rfl ?_); refine gL (some 20) Tryd.func15 #[.int .i64 t300] ?_; (with_reducible refine (plumblaw07_num.calls t300 t301 _ A3.out).mono ?_); rintro e w' ⟨rfl, ⟨nd, rfl⟩⟩; refine ⟨_, rfl, ?_⟩; (try (rw [drewN_self w7]; generalize hq_ : World.drewN w7 _ = w7; have n0_ : Aside0 (w7.heap[gb296]? = some (.cells #[.bool false, .slice none 0 0, .slice none 0 0] 46 (0, 0))) := ⟨by rw [← hq_]; exact (dK BK296.out)⟩; have n1_ : Aside0 (Below w.heap.size w w7) := ⟨by rw [← hq_]; exact eB⟩; clear BK296 HB hq_; have BK296 := n0_; have HB := n1_; clear n0_ n1_))) | ((with_reducible refine gate_callee (f := 31) rfl ?_); refine gL (some 28) Tryd.func31 #[.bool t297, .int .u64 t298, .int .i64 t299] ?_; (with_reducible refine (plumblaw07_whole.calls k t297 t298 t299 t302 t303 t306 _ A6.out).mono ?_); rintro e w8 ⟨v304, v307, rfl, ho0, ho1, hb⟩; refine ⟨_, rfl, ?_⟩; have HO305 := aM (Kd.R_lower ho0 (below_size eB)); have HO308 := aM (Kd.R_lower ho1 (below_size eB)); replace BK296 := bB BK296.out hb; replace HB := hS HB.out hb; (try clear hb); (try clear ho0); (try clear ho1); obtain ⟨hcz9_0, hcz9_1, hcz9_2⟩ := cz3 BK296.out; obtain ⟨hfz9_0, hfz9_1, hfz9_2⟩ := fz3 BK296.out; obtain ⟨Ao10, co10, rfl⟩ := Kd.R_slice HO305.out; obtain ⟨Ao11, co11, rfl⟩ := Kd.R_slice HO308.out))
  refine bodyPost_ret (results_ct rfl _ _ gb296 46 #[.bool t302, .slice Ao10 t303.length co10, .slice Ao11 t306.length co11] (0, 0) _ rfl (dP BK296.out) Tryd.underlying46 rfl (by kernel_rfl)) rfl ?_
  exact ⟨_, _, dE, oR HO305.out BK296.out, oR HO308.out BK296.out, dG GE296.out⟩
 ·rw [if_neg c5] at H
  have c5b0 : decide (0 ≤ t299) = false := decide_eq_false c5
  clear c5
  obtain ⟨y309, hy309⟩ : ∃ y_ : List Int, y_ = (([1] : List Int)) := ⟨_, rfl⟩
  replace H : ((nat_Shl.f k y309 (wrap64 (-t299))).bind fun bt312 => ((rat_New.f k t297 (([t298] : List Int)) bt312.1).bind fun bt319 => ((plumblaw07_num.f bt312.2).bind fun t328 => (if t328 = 0 then ((plumblaw07_num.f bt319.2.2.2).bind fun t329 => (some (bt319.1, bt319.2.1, bt319.2.2.1, (t329 == 0)))) else (none))))) = some (r1, r2, r3, r4) := by first | (rw [hy309]; with_reducible exact H) | (have H2_ := (Option.bind_some _ _).symm.trans H; rw [hy309]; with_reducible exact H2_) | (have H2_ := (Option.bind_some _ _).symm.trans H; with_reducible exact H2_) | with_reducible exact H | (rw [hy309]; exact H) | exact H
  have Ny309 := aM hy309
  clear hy309
  replace H := oA H
  obtain ⟨⟨t312, t313⟩, A12, H⟩ := H
  (try dsimp only at H)
  obtain ⟨y316, hy316⟩ : ∃ y_ : List Int, y_ = (([t298] : List Int)) := ⟨_, rfl⟩
  replace H : ((rat_New.f k t297 y316 t312).bind fun bt319 => ((plumblaw07_num.f t313).bind fun t328 => (if t328 = 0 then ((plumblaw07_num.f bt319.2.2.2).bind fun t329 => (some (bt319.1, bt319.2.1, bt319.2.2.1, (t329 == 0)))) else (none)))) = some (r1, r2, r3, r4) := by first | (rw [hy316]; with_reducible exact H) | (have H2_ := (Option.bind_some _ _).symm.trans H; rw [hy316]; with_reducible exact H2_) | (have H2_ := (Option.bind_some _ _).symm.trans H; with_reducible exact H2_) | with_reducible exact H | (rw [hy316]; exact H) | exact H
  have Ny316 := aM hy316
  clear hy316
  replace H := oA H
  obtain ⟨⟨t319, t320, t323, t326⟩, A13, H⟩ := H
  (try dsimp only at H)
  replace H := oA H
  obtain ⟨t328, A14, H⟩ := H
  (try dsimp only at H)
  replace H := nO H
  obtain ⟨c15, H⟩ := H
  obtain ⟨c15b0, c15b1⟩ := bT c15
  clear c15
  replace H := oA H
  obtain ⟨t329, A16, H⟩ := H
  (try dsimp only at H)
  simp only [Option.some.injEq, Prod.mk.injEq] at H
  obtain ⟨rfl, rfl, rfl, rfl⟩ := H
  go_enter Tryd.func25, Tryd.ntmps25
  try go_wp2_with (first | ((with_reducible refine gate_dst (N := 2) rfl ?_); refine bE 2 #[.bool false, .slice none 0 0, .slice none 0 0] 46 ?_; intro gb296 hg w17 hbox hb; have BK296 := aM (hbox); have GE296 : Aside0 (w.heap.size ≤ gb296) := gE hg; replace HB := hS HB.out hb; clear hb hbox hg) | ((with_reducible refine gate_callee (f := 62) rfl ?_); refine gL (some 14) Tryd.func62 #[.int .u64 a0] ?_; (with_reducible refine (f64_Split.calls k a0 t297 t298 t299 t300 _ A2.out).mono ?_); rintro e w' ⟨rfl, ⟨nd, rfl⟩⟩; refine ⟨_, rfl, ?_⟩; (try (rw [drewN_self w17]; generalize hq_ : World.drewN w17 _ = w17; have n0_ : Aside0 (w17.heap[gb296]? = some (.cells #[.bool false, .slice none 0 0, .slice none 0 0] 46 (0, 0))) := ⟨by rw [← hq_]; exact (dK BK296.out)⟩; have n1_ : Aside0 (Below w.heap.size w w17) := ⟨by rw [← hq_]; exact eB⟩; clear BK296 HB hq_; have BK296 := n0_; have HB := n1_; clear n0_ n1_))) | ((with_reducible refine gate_callee (f := 15) rfl ?_); refine gL (some 20) Tryd.func15 #[.int .i64 t300] ?_; (with_reducible refine (plumblaw07_num.calls t300 t301 _ A3.out).mono ?_); rintro e w' ⟨rfl, ⟨nd, rfl⟩⟩; refine ⟨_, rfl, ?_⟩; (try (rw [drewN_self w17]; generalize hq_ : World.drewN w17 _ = w17; have n0_ : Aside0 (w17.heap[gb296]? = some (.cells #[.bool false, .slice none 0 0, .slice none 0 0] 46 (0, 0))) := ⟨by rw [← hq_]; exact (dK BK296.out)⟩; have n1_ : Aside0 (Below w.heap.size w w17) := ⟨by rw [← hq_]; exact eB⟩; clear BK296 HB hq_; have BK296 := n0_; have HB := n1_; clear n0_ n1_))) | ((with_reducible refine gate_dst (N := 30) rfl ?_); refine Kd.R_lit (Kd.int .u64) _ 26 ?hg (N := 30) ?hd (xs := ([1] : List Int)) (inner := [.int .u64 1]) (ok := fun _ => True) (okp := fun _ => True) ?hr ?hp (fun _ hk => hk) trivial (Below.refl _ _) (Nat.le_refl _) (by simp) ?_; (case hd => rfl); (case hg => rfl); (case hr => first | (go_simp; done) | (go_simp; rfl)); (case hp => exact (Reps.one (show Kd.M (Kd.int .u64) _ _ _ 1 [.int .u64 1] from rfl) (Reps.none _ _))); intro v310 w18 ho19 hb hg_ hnew_; clear hg_ hnew_; (first | rw [← Ny309.out] at ho19 | (simp only [Int.reduceToNat] at ho19; rw [← Ny309.out] at ho19)); have HO311 := aM (Kd.R_lower ho19 (below_size eB)); replace BK296 := bB BK296.out hb; replace HB := hS HB.out hb; clear hb ho19; obtain ⟨Ao20, co20, rfl⟩ := Kd.R_slice HO311.out) | ((with_reducible refine gate_callee (f := 21) rfl ?_); refine gL (some 33) Tryd.func21 #[.slice Ao20 y309.length co20, .int .i64 (wrap64 (-t299))] ?_; (with_reducible refine (nat_Shl.calls k _ _ y309 (wrap64 (-t299)) t312 t313 _ ?side1 (Kd.R_reads' HO311.out).2.1 A12.out).mono ?_); (case side1 => exact dC (Kd.R_reads' HO311.out).2.2); rintro e w21 ⟨v314, rfl, ho0, hb⟩; refine ⟨_, rfl, ?_⟩; have HO315 := aM (Kd.R_lower (Kd.R_new' ho0 (Kd.R_lt (dR HO311.out))) (below_size eB)); replace HO311 := oE HO311.out ho0 hb; replace BK296 := bB BK296.out hb; replace HB := hS HB.out hb; (try clear hb); (try clear ho0)) | ((with_reducible refine gate_dst (N := 39) rfl ?_); refine Kd.R_lit (Kd.int .u64) _ 26 ?hg (N := 39) ?hd (xs := ([t298] : List Int)) (inner := [.int .u64 t298]) (ok := fun _ => True) (okp := fun _ => True) ?hr ?hp (fun _ hk => hk) trivial (Below.refl _ _) (Nat.le_refl _) (by simp) ?_; (case hd => rfl); (case hg => rfl); (case hr => first | (go_simp; done) | (go_simp; rfl)); (case hp => exact (Reps.one (show Kd.M (Kd.int .u64) _ _ _ t298 [.int .u64 t298] from rfl) (Reps.none _ _))); intro v317 w22 ho23 hb hg_ hnew_; clear hg_ hnew_; (first | rw [← Ny316.out] at ho23 | (simp only [Int.reduceToNat] at ho23; rw [← Ny316.out] at ho23)); have HO318 := aM (Kd.R_lower (Kd.R_new' (Kd.R_new' ho23 (Kd.R_lt (dR HO311.out))) (Kd.R_lt (dR HO315.out))) (below_size eB)); replace HO311 := oE HO311.out ho23 hb; replace HO315 := oE HO315.out ho23 hb; replace BK296 := bB BK296.out hb; replace HB := hS HB.out hb; clear hb ho23; obtain ⟨Ao24, co24, rfl⟩ := Kd.R_slice HO318.out; obtain ⟨Ao25, co25, rfl⟩ := Kd.R_slice HO315.out) | ((with_reducible refine gate_callee (f := 59) rfl ?_); refine gL (some 41) Tryd.func59 #[.bool t297, .slice Ao24 y316.length co24, .slice Ao25 t312.length co25] ?_; (with_reducible refine (rat_New.calls k t297 _ _ y316 _ _ t312 t319 t320 t323 t326 _ ?side1 (Kd.R_reads' HO318.out).2.1 ?side3 (Kd.R_reads' HO315.out).2.1 A13.out).mono ?_); (case side1 => exact dC (Kd.R_reads' HO318.out).2.2); (case side3 => exact dC (Kd.R_reads' HO315.out).2.2); rintro e w26 ⟨v321, v324, rfl, ho0, ho1, hb⟩; refine ⟨_, rfl, ?_⟩; have HO322 := aM (Kd.R_lower (Kd.R_new' (Kd.R_new' (Kd.R_new' ho0 (Kd.R_lt (dR HO311.out))) (Kd.R_lt (dR HO315.out))) (Kd.R_lt (dR HO318.out))) (below_size eB)); have HO325 := aM (Kd.R_lower (Kd.R_new' (Kd.R_new' (Kd.R_new' ho1 (Kd.R_lt (dR HO311.out))) (Kd.R_lt (dR HO315.out))) (Kd.R_lt (dR HO318.out))) (below_size eB)); replace HO311 := aM (Kd.R_mono (Kd.R_told (Kd.R_told (Kd.R_old (dR HO311.out) hb) (Kd.R_base ho0)) (Kd.R_base ho1)) (fun _ h_ => h_.1)); replace HO315 := aM (Kd.R_mono (Kd.R_told (Kd.R_told (Kd.R_old (dR HO315.out) hb) (Kd.R_base ho0)) (Kd.R_base ho1)) (fun _ h_ => h_.1)); replace HO318 := aM (Kd.R_mono (Kd.R_told (Kd.R_told (Kd.R_old (dR HO318.out) hb) (Kd.R_base ho0)) (Kd.R_base ho1)) (fun _ h_ => h_.1)); replace BK296 := bB BK296.out hb; replace HB := hS HB.out hb; (try clear hb); (try clear ho0); (try clear ho1)) | ((with_reducible refine gate_dst (N := 10) rfl ?_); refine bE 10 #[.bool false, .slice none 0 0, .slice none 0 0] 46 ?_; intro gb327 hg w27 hbox hb; replace HO311 := oB HO311.out hb; replace HO315 := oB HO315.out hb; replace HO318 := oB HO318.out hb; replace HO322 := oB HO322.out hb; replace HO325 := oB HO325.out hb; have BK327 := aM (hbox); have GE327 : Aside0 (w.heap.size ≤ gb327) := gE hg; replace HB := hS HB.out hb; have NB296_327 := nL hg BK296.out; have NB327_296 := nG hg BK296.out; replace BK296 := bB BK296.out hb; clear hb hbox hg; have hnb28 := NB327_296.out; have hnc28 := NB296_327.out; obtain ⟨hcz29_0, hcz29_1, hcz29_2⟩ := cz3 BK327.out; obtain ⟨hfz29_0, hfz29_1, hfz29_2⟩ := fz3 BK327.out; obtain ⟨Ao30, co30, rfl⟩ := Kd.R_slice HO322.out; obtain ⟨Ao31, co31, rfl⟩ := Kd.R_slice HO325.out))
  have n0_ : Aside0 (Kd.R (Kd.int .u64) 26 (((w27.setCell ⟨gb327, 0, none⟩ (.bool t319)).setCell ⟨gb327, 1, none⟩ (.slice Ao30 t320.length co30)).setCell ⟨gb327, 2, none⟩ (.slice Ao31 t323.length co31)) w.heap.size (fun k_ => oN Ao25 t312 co25 k_ ∧ oN Ao24 y316 co24 k_ ∧ oN Ao30 t320 co30 k_ ∧ oN Ao31 t323 co31 k_) (.slice Ao20 y309.length co20) y309) := ⟨by (with_reducible repeat (first | apply Kd.R_alloc | apply Kd.R_drewN | apply Kd.R_drew)); exact Kd.R_mono (Kd.R_far (p := ⟨gb327, 2, none⟩) (Kd.R_far (p := ⟨gb327, 1, none⟩) (Kd.R_far (p := ⟨gb327, 0, none⟩) (Kd.R_types HO311.out BK327.out (by decide)) (fun _ hk => hk.2) (.bool t319)) (fun _ hk => hk.2) (.slice Ao30 t320.length co30)) (fun _ hk => hk.2) (.slice Ao31 t323.length co31)) (fun _ hk => ⟨hk.1.1.1.1.2, ⟨hk.1.1.1.2, ⟨hk.1.1.2, hk.1.2⟩⟩⟩)⟩
  have n1_ : Aside0 (Kd.R (Kd.int .u64) 26 (((w27.setCell ⟨gb327, 0, none⟩ (.bool t319)).setCell ⟨gb327, 1, none⟩ (.slice Ao30 t320.length co30)).setCell ⟨gb327, 2, none⟩ (.slice Ao31 t323.length co31)) w.heap.size (fun k_ => oN Ao20 y309 co20 k_ ∧ oN Ao24 y316 co24 k_ ∧ oN Ao30 t320 co30 k_ ∧ oN Ao31 t323 co31 k_) (.slice Ao25 t312.length co25) t312) := ⟨by (with_reducible repeat (first | apply Kd.R_alloc | apply Kd.R_drewN | apply Kd.R_drew)); exact Kd.R_mono (Kd.R_far (p := ⟨gb327, 2, none⟩) (Kd.R_far (p := ⟨gb327, 1, none⟩) (Kd.R_far (p := ⟨gb327, 0, none⟩) (Kd.R_types HO315.out BK327.out (by decide)) (fun _ hk => hk.2) (.bool t319)) (fun _ hk => hk.2) (.slice Ao30 t320.length co30)) (fun _ hk => hk.2) (.slice Ao31 t323.length co31)) (fun _ hk => ⟨hk.1.1.1.1.2, ⟨hk.1.1.1.2, ⟨hk.1.1.2, hk.1.2⟩⟩⟩)⟩
  have n2_ : Aside0 (Kd.R (Kd.int .u64) 26 (((w27.setCell ⟨gb327, 0, none⟩ (.bool t319)).setCell ⟨gb327, 1, none⟩ (.slice Ao30 t320.length co30)).setCell ⟨gb327, 2, none⟩ (.slice Ao31 t323.length co31)) w.heap.size (fun k_ => oN Ao20 y309 co20 k_ ∧ oN Ao25 t312 co25 k_ ∧ oN Ao30 t320 co30 k_ ∧ oN Ao31 t323 co31 k_) (.slice Ao24 y316.length co24) y316) := ⟨by (with_reducible repeat (first | apply Kd.R_alloc | apply Kd.R_drewN | apply Kd.R_drew)); exact Kd.R_mono (Kd.R_far (p := ⟨gb327, 2, none⟩) (Kd.R_far (p := ⟨gb327, 1, none⟩) (Kd.R_far (p := ⟨gb327, 0, none⟩) (Kd.R_types HO318.out BK327.out (by decide)) (fun _ hk => hk.2) (.bool t319)) (fun _ hk => hk.2) (.slice Ao30 t320.length co30)) (fun _ hk => hk.2) (.slice Ao31 t323.length co31)) (fun _ hk => ⟨hk.1.1.1.1.2, ⟨hk.1.1.1.2, ⟨hk.1.1.2, hk.1.2⟩⟩⟩)⟩
  have n3_ : Aside0 (Kd.R (Kd.int .u64) 26 (((w27.setCell ⟨gb327, 0, none⟩ (.bool t319)).setCell ⟨gb327, 1, none⟩ (.slice Ao30 t320.length co30)).setCell ⟨gb327, 2, none⟩ (.slice Ao31 t323.length co31)) w.heap.size (fun k_ => oN Ao20 y309 co20 k_ ∧ oN Ao25 t312 co25 k_ ∧ oN Ao24 y316 co24 k_ ∧ oN Ao31 t323 co31 k_) (.slice Ao30 t320.length co30) t320) := ⟨by (with_reducible repeat (first | apply Kd.R_alloc | apply Kd.R_drewN | apply Kd.R_drew)); exact Kd.R_mono (Kd.R_far (p := ⟨gb327, 2, none⟩) (Kd.R_far (p := ⟨gb327, 1, none⟩) (Kd.R_far (p := ⟨gb327, 0, none⟩) (Kd.R_types HO322.out BK327.out (by decide)) (fun _ hk => hk.2) (.bool t319)) (fun _ hk => hk.2) (.slice Ao30 t320.length co30)) (fun _ hk => hk.2) (.slice Ao31 t323.length co31)) (fun _ hk => ⟨hk.1.1.1.2, ⟨hk.1.1.2, ⟨hk.1.2, hk.1.1.1.1⟩⟩⟩)⟩
  have n4_ : Aside0 (Kd.R (Kd.int .u64) 26 (((w27.setCell ⟨gb327, 0, none⟩ (.bool t319)).setCell ⟨gb327, 1, none⟩ (.slice Ao30 t320.length co30)).setCell ⟨gb327, 2, none⟩ (.slice Ao31 t323.length co31)) w.heap.size (fun k_ => oN Ao20 y309 co20 k_ ∧ oN Ao25 t312 co25 k_ ∧ oN Ao24 y316 co24 k_ ∧ oN Ao30 t320 co30 k_) (.slice Ao31 t323.length co31) t323) := ⟨by (with_reducible repeat (first | apply Kd.R_alloc | apply Kd.R_drewN | apply Kd.R_drew)); exact Kd.R_mono (Kd.R_far (p := ⟨gb327, 2, none⟩) (Kd.R_far (p := ⟨gb327, 1, none⟩) (Kd.R_far (p := ⟨gb327, 0, none⟩) (Kd.R_types HO325.out BK327.out (by decide)) (fun _ hk => hk.2) (.bool t319)) (fun _ hk => hk.2) (.slice Ao30 t320.length co30)) (fun _ hk => hk.2) (.slice Ao31 t323.length co31)) (fun _ hk => ⟨hk.1.1.1.2, ⟨hk.1.1.2, ⟨hk.1.2, hk.1.1.1.1⟩⟩⟩)⟩
  have n5_ : Aside0 ((((w27.setCell ⟨gb327, 0, none⟩ (.bool t319)).setCell ⟨gb327, 1, none⟩ (.slice Ao30 t320.length co30)).setCell ⟨gb327, 2, none⟩ (.slice Ao31 t323.length co31)).heap[gb296]? = some (.cells #[.bool false, .slice none 0 0, .slice none 0 0] 46 (0, 0))) := ⟨dQ1 BK296.out NB296_327.out⟩
  have n6_ : Aside0 ((((w27.setCell ⟨gb327, 0, none⟩ (.bool t319)).setCell ⟨gb327, 1, none⟩ (.slice Ao30 t320.length co30)).setCell ⟨gb327, 2, none⟩ (.slice Ao31 t323.length co31)).heap[gb327]? = some (.cells #[.bool t319, .slice Ao30 t320.length co30, .slice Ao31 t323.length co31] 46 (0, 0))) := ⟨dP BK327.out⟩
  have n7_ : Aside0 (Below w.heap.size w (((w27.setCell ⟨gb327, 0, none⟩ (.bool t319)).setCell ⟨gb327, 1, none⟩ (.slice Ao30 t320.length co30)).setCell ⟨gb327, 2, none⟩ (.slice Ao31 t323.length co31))) := ⟨eB⟩
  (try clear HO311)
  (try clear HO315)
  (try clear HO318)
  (try clear HO322)
  (try clear HO325)
  (try clear BK296)
  (try clear BK327)
  (try clear HB)
  generalize (((w27.setCell ⟨gb327, 0, none⟩ (.bool t319)).setCell ⟨gb327, 1, none⟩ (.slice Ao30 t320.length co30)).setCell ⟨gb327, 2, none⟩ (.slice Ao31 t323.length co31)) = w32 at n0_ n1_ n2_ n3_ n4_ n5_ n6_ n7_ ⊢
  have HO311 := n0_
  have HO315 := n1_
  have HO318 := n2_
  have HO322 := n3_
  have HO325 := n4_
  have BK296 := n5_
  have BK327 := n6_
  have HB := n7_
  clear n0_ n1_ n2_ n3_ n4_ n5_ n6_ n7_
  replace HO311 := aM (Kd.R_drew HO311.out)
  replace HO315 := aM (Kd.R_drew HO315.out)
  replace HO318 := aM (Kd.R_drew HO318.out)
  replace HO322 := aM (Kd.R_drew HO322.out)
  replace HO325 := aM (Kd.R_drew HO325.out)
  replace BK296 := aM (blk_drew BK296.out)
  replace BK327 := aM (blk_drew BK327.out)
  replace HB := aM (below_drew1 HB.out)
  refine start_ (n := 11) (S := fun w' => w'.cell? ⟨gb327, 0, none⟩ = some (.bool t319) ∧ w'.cell? ⟨gb327, 1, none⟩ = some (.slice Ao30 t320.length co30) ∧ w'.cell? ⟨gb327, 2, none⟩ = some (.slice Ao31 t323.length co31)) (ds := []) #[false, false, false, false, false, false, false, false, false, false, false] (by kernel_rfl) rfl rfl (cz3 BK327.out) (fun hHeld => ?_); refine with_tabW plumblaw07_value.tab8 plumblaw07_value.bits8 (fun HT_ HW_ => ?_)
  generalize w32.drew = w33 at HO311 HO315 HO318 HO322 HO325 BK296 BK327 HB hHeld ⊢
  refine pP 1 (some 45) ?_
  refine pH3 0 (some 44) hHeld ?_
  refine one_ (i := 2) (N := some 46) #[true, true, true, false, false, false, false, false, false, false, false] rfl rfl (one_of HT_.out (by kernel_rfl)) (by decide) (fun K hK => ?_)
  refine goes_ Tryd.func15 (by kernel_rfl) rfl #[.int .i64 t313] (by rfl) rfl rfl dA ?_
  with_reducible refine (plumblaw07_num.calls t313 t328 _ A14.out).mono ?_
  rintro e w' ⟨rfl, ⟨nd, rfl⟩⟩
  refine ⟨_, rfl, ?_⟩
  refine hK.out _ _ (cz3 BK327.out) (fun hHeld => ?_)
  clear hK K
  refine norm_ (a' := ?_) ?_ ?_
  rotate_left
  ·show Act.put _ (some 46) _ = _
   simp only [Act.put, List.setIfInBounds_toArray, List.set_cons_zero, List.set_cons_succ, i64_w, i32_w]
   rfl
  refine pP 3 (some 47) ?_
  refine pP 4 (some 48) ?_
  refine pP 5 (some 49) ?_
  refine one_ (i := 6) (N := some 50) #[true, true, true, true, true, true, true, false, false, false, false] rfl rfl (one_of HT_.out (by kernel_rfl)) (by decide) (fun K hK => ?_)
  refine goes_ Tryd.func15 (by kernel_rfl) rfl #[.int .i64 t326] (by rfl) rfl rfl dA ?_
  with_reducible refine (plumblaw07_num.calls t326 t329 _ A16.out).mono ?_
  rintro e w' ⟨rfl, ⟨nd, rfl⟩⟩
  refine ⟨_, rfl, ?_⟩
  refine hK.out _ _ (cz3 BK327.out) (fun hHeld => ?_)
  clear hK K
  refine norm_ (a' := ?_) ?_ ?_
  rotate_left
  ·show Act.put _ (some 50) _ = _
   simp only [Act.put, List.setIfInBounds_toArray, List.set_cons_zero, List.set_cons_succ, i64_w, i32_w]
   rfl
  refine pP 7 (some 51) ?_
  refine pP 8 (some 52) ?_
  refine one_ (i := 9) (N := none) #[true, true, true, true, true, true, true, true, true, true, false] rfl rfl (one_of HT_.out (by kernel_rfl)) (by decide) (fun K hK => ?_)
  have hs34 : w33.cell? ⟨gb296, 0, none⟩ = some (.bool false) := (blk_cell BK296.out 0).trans rfl
  have hfs34 := blk_frozen BK296.out 0
  have hns34_1 := NB327_296.out
  have hms34_1 := NB296_327.out
  have hs35 : w33.cell? ⟨gb296, 1, none⟩ = some (.slice none 0 0) := (blk_cell BK296.out 1).trans rfl
  have hfs35 := blk_frozen BK296.out 1
  have hns35_1 := NB327_296.out
  have hms35_1 := NB296_327.out
  have hs36 : w33.cell? ⟨gb296, 2, none⟩ = some (.slice none 0 0) := (blk_cell BK296.out 2).trans rfl
  have hfs36 := blk_frozen BK296.out 2
  have hns36_1 := NB327_296.out
  have hms36_1 := NB296_327.out
  refine skip_ (w1 := ?_) (by rfl) rfl ?_ ?_
  rotate_left
  ·go_simp
   rfl
  refine hK.out _ _ ⟨((cell_far (p := ⟨gb296, _, none⟩) NB327_296.out _).trans (((cell_far (p := ⟨gb296, _, none⟩) NB327_296.out _).trans (((cell_far (p := ⟨gb296, _, none⟩) NB327_296.out _).trans (hHeld.1)))))), ((cell_far (p := ⟨gb296, _, none⟩) NB327_296.out _).trans (((cell_far (p := ⟨gb296, _, none⟩) NB327_296.out _).trans (((cell_far (p := ⟨gb296, _, none⟩) NB327_296.out _).trans (hHeld.2.1)))))), ((cell_far (p := ⟨gb296, _, none⟩) NB327_296.out _).trans (((cell_far (p := ⟨gb296, _, none⟩) NB327_296.out _).trans (((cell_far (p := ⟨gb296, _, none⟩) NB327_296.out _).trans (hHeld.2.2))))))⟩ (fun hHeld => ?_)
  clear hK K
  refine pP 10 (some 3) ?_
  refine done_ (done_of HT_.out (by kernel_rfl)) ?_
  try go_wp2
  refine bodyPost_ret (results_ct rfl _ _ gb296 46 #[.bool t319, .slice Ao30 t320.length co30, .slice Ao31 t323.length co31] (0, 0) _ rfl (dP BK296.out) Tryd.underlying46 rfl (by kernel_rfl)) rfl ?_
  exact ⟨_, _, dE, by (with_reducible repeat (first | apply Kd.R_alloc | apply Kd.R_drewN | apply Kd.R_drew)); exact Kd.R_mono (Kd.R_far (p := ⟨gb296, 2, none⟩) (Kd.R_far (p := ⟨gb296, 1, none⟩) (Kd.R_far (p := ⟨gb296, 0, none⟩) (Kd.R_types HO322.out BK296.out (by decide)) (fun _ hk => hk.2) (.bool t319)) (fun _ hk => hk.2) (.slice Ao30 t320.length co30)) (fun _ hk => hk.2) (.slice Ao31 t323.length co31)) (fun _ hk => hk.1.2.2.2), by (with_reducible repeat (first | apply Kd.R_alloc | apply Kd.R_drewN | apply Kd.R_drew)); exact Kd.R_mono (Kd.R_far (p := ⟨gb296, 2, none⟩) (Kd.R_far (p := ⟨gb296, 1, none⟩) (Kd.R_far (p := ⟨gb296, 0, none⟩) (Kd.R_types HO325.out BK296.out (by decide)) (fun _ hk => hk.2) (.bool t319)) (fun _ hk => hk.2) (.slice Ao30 t320.length co30)) (fun _ hk => hk.2) (.slice Ao31 t323.length co31)) (fun _ hk => hk.1.2.2.2), eB⟩
def rat_normal.f (l0 : List Int) : Option (Bool) := if (l0.length : Int) ≤ 4096 then (if (l0.length : Int) = 0 then (some true) else (if 0 ≤ (wrap64 ((l0.length : Int) - 1)) then (if (wrap64 ((l0.length : Int) - 1)) < (l0.length : Int) then (some ((rd l0 (wrap64 ((l0.length : Int) - 1))) != 0)) else (none)) else (none))) else (some false)
set_option maxHeartbeats 8000000 in
set_option maxRecDepth 100000 in
theorem rat_normal.calls (A0 : Option Addr) (c0 : Nat) (l0 : List Int) (r : Bool) (w : World) (hr0 : Kd.C (Kd.int .u64) w A0 l0.length l0) (hc0 : l0.length ≤ c0) (h : rat_normal.f l0 = some r) :
  Calls Tryd.prog 96 #[.slice A0 l0.length c0] w fun e w' => e = .returned (.bool r) ∧ Drawn0 w w' := by
 have HR0 := aM hr0
 have HC0 := aM hc0
 clear hr0 hc0
 have H := h
 clear h
 unfold rat_normal.f at H
 by_cases c2 : (l0.length : Int) ≤ 4096
 ·rw [if_pos c2] at H
  have c2b0 := decide_eq_true c2
  have c2b1 : decide (l0.length ≤ 4096) = true := decide_eq_true (by omega)
  clear c2
  by_cases c3 : (l0.length : Int) = 0
  ·rw [if_pos c3] at H
   obtain ⟨c3b0, c3b1⟩ := bT c3
   clear c3
   obtain rfl := Option.some.inj H
   go_enter Tryd.func96, Tryd.ntmps96
   go_wp2
   go_ret
   exact ⟨dF, dD⟩
  ·rw [if_neg c3] at H
   obtain ⟨c3b0, c3b1⟩ := bF c3
   have c3b2 : ¬ (l0 = []) := fun h_ => c3 (by rw [h_]; rfl)
   obtain ⟨ji4, hji4⟩ : ∃ j_ : Int, (wrap64 ((l0.length : Int) - 1)) = j_ := ⟨_, rfl⟩
   first | rw [hji4] at H | simp only [hji4] at H
   have hji4w : (IntKind.i64.wrap ((l0.length : Int) - 1)) = ji4 := (i64_w _).trans hji4
   replace H := nO H
   obtain ⟨c5, H⟩ := H
   have c5b0 : decide (0 ≤ (ji4)) = true := decide_eq_true c5
   clear c5
   replace H := nO H
   obtain ⟨c6, H⟩ := H
   have c6b0 := decide_eq_true c6
   clear c6
   obtain rfl := Option.some.inj H
   have p330 : 0 ≤ ((ji4) : Int) := of_decide_eq_true dS
   have q330 : (ji4) < (l0.length : Int) := of_decide_eq_true dS
   obtain ⟨ad330, e330, hx330_0⟩ := Kd.at_int HR0.out (ji4) p330 q330
   cases e330
   replace p330 := eq_true p330
   replace q330 := eq_true q330
   go_enter Tryd.func96, Tryd.ntmps96
   go_wp2
   go_ret
   exact ⟨by first | rfl | (simp; done) | (simp only [← hji4] <;> (first | rfl | simp)) | (simp [*]; done), dD⟩
 ·rw [if_neg c2] at H
  have c2b0 := decide_eq_false c2
  have c2b1 : decide (l0.length ≤ 4096) = false := decide_eq_false (by omega)
  clear c2
  obtain rfl := Option.some.inj H
  go_enter Tryd.func96, Tryd.ntmps96
  go_wp2
  go_ret
  exact ⟨dF, dD⟩
end Go.Proofs.YtoefabmlkbhmpaaDoor.PA
