/- A part of the proof (6). -/
import Derived.Test.YtjknfppbebfhnaaDoorYPVP2
import Derived.Test.YtjknfppbebfhnaaDoorYPVP4
import Derived.Test.YtjknfppbebfhnaaDoorYPVP5
import Derived.Test.YtjknfppbebfhnaaDoorYPVP1
import Derived.Test.YtjknfppbebfhnaaDoorYPVP3
import Derived.KernelRfl
namespace Go.Proofs.YtjknfppbebfhnaaDoor.PA
open Go.RowKit Go.Proofs.YtjknfppbebfhnaaDoorW.PrintWords Go.Proofs.YtjknfppbebfhnaaDoorW.PrintLast Go.Proofs.YtjknfppbebfhnaaDoorW.PrintMore
attribute [local go_sem] max2_int min2_int max_two min_two max_three min_three max_four min_four
set_option linter.unusedVariables false
set_option linter.unusedSimpArgs false
def radix_Ten.f (k : Nat) (a0 : Int) : Option (List Int × Int) := if a0 > 78913 then (some (([] : List Int), 21)) else ((radix_Five.f k a0).bind fun bt219 => (if bt219.2 = 0 then ((nat_Shl.f k bt219.1 a0).bind fun bt223 => (some (bt223.1, bt223.2))) else (some (([] : List Int), bt219.2))))
theorem radix_Ten.mono : ∀ a0 k, LeO (radix_Ten.f k a0) (radix_Ten.f (k + 1) a0) := by
 intro a0 k
 unfold radix_Ten.f
 have m0_ := nat_Shl.mono
 have m1_ := radix_Five.mono
 exact mX
set_option maxHeartbeats 8000000 in
set_option maxRecDepth 100000 in
theorem radix_Ten.calls (k : Nat) (a0 : Int) (r1 : List Int) (r2 : Int) (w : World) (h : radix_Ten.f k a0 = some (r1, r2)) :
  Calls Tryd.prog 21 #[.int .i64 a0] w fun e w' => ∃ v0_ : Value, e = .returned (.tuple #[v0_, .int .i64 r2]) ∧ Kd.R (Kd.int .u64) 36 w' w.heap.size (fun _ => True) v0_ r1 ∧ Below w.heap.size w w' := by
 have HB := aM (Below.refl w.heap.size w)
 have H := h
 clear h
 unfold radix_Ten.f at H
 by_cases c2 : a0 > 78913
 ·rw [if_pos c2] at H
  have c2b0 : decide (78913 < a0) = true := decide_eq_true c2
  clear c2
  simp only [Option.some.injEq, Prod.mk.injEq] at H
  obtain ⟨rfl, rfl⟩ := H
  go_enter Tryd.func21, Tryd.ntmps21
  go_wp2
  go_ret2
  exact ⟨_, dE, by first | exact Kd.R_nil _ _ _ _ _ | exact Kd.N_nil _ _ _ _ _ | exact Kd.V_nil _ _ _ _ _ | exact Kd.Q_nil _ _ _ _ _ | exact Kd.S_nil _ _ _ _ _, dB⟩
 ·rw [if_neg c2] at H
  have c2b0 : decide (78913 < a0) = false := decide_eq_false c2
  clear c2
  replace H := oA H
  obtain ⟨⟨t219, t220⟩, A3, H⟩ := H
  (try dsimp only at H)
  by_cases c4 : t220 = 0
  ·rw [if_pos c4] at H
   obtain ⟨c4b0, c4b1⟩ := bT c4
   clear c4
   replace H := oA H
   obtain ⟨⟨t223, t224⟩, A5, H⟩ := H
   (try dsimp only at H)
   simp only [Option.some.injEq, Prod.mk.injEq] at H
   obtain ⟨rfl, rfl⟩ := H
   go_enter Tryd.func21, Tryd.ntmps21
   go_wp2_with (first | ((with_reducible refine gate_callee (f := 34) rfl ?_); refine gL (some 10) Tryd.func34 #[.int .i64 a0] ?_; (with_reducible refine (radix_Five.calls k a0 t219 t220 _ A3.out).mono ?_); rintro e w6 ⟨v221, rfl, ho0, hb⟩; refine ⟨_, rfl, ?_⟩; have HO222 := aM (Kd.R_lower ho0 (below_size dB)); replace HB := hS HB.out hb; (try clear hb); (try clear ho0); obtain ⟨Ao7, co7, rfl⟩ := Kd.R_slice HO222.out) | ((with_reducible refine gate_callee (f := 35) rfl ?_); refine gL (some 18) Tryd.func35 #[.slice Ao7 t219.length co7, .int .i64 a0] ?_; (with_reducible refine (nat_Shl.calls k _ _ t219 a0 t223 t224 _ ?side1 (Kd.R_reads' HO222.out).2.1 A5.out).mono ?_); (case side1 => exact dC (Kd.R_reads' HO222.out).2.2); rintro e w8 ⟨v225, rfl, ho0, hb⟩; refine ⟨_, rfl, ?_⟩; have HO226 := aM (Kd.R_lower (nW ho0 HO222.out) (below_size dB)); replace HO222 := oE HO222.out ho0 hb; replace HB := hS HB.out hb; (try clear hb); (try clear ho0)))
   go_ret2
   exact ⟨_, dE, oM HO226.out (fun _ hk => trivial), dB⟩
  ·rw [if_neg c4] at H
   obtain ⟨c4b0, c4b1⟩ := bF c4
   simp only [Option.some.injEq, Prod.mk.injEq] at H
   obtain ⟨rfl, rfl⟩ := H
   go_enter Tryd.func21, Tryd.ntmps21
   go_wp2_with (first | ((with_reducible refine gate_callee (f := 34) rfl ?_); refine gL (some 10) Tryd.func34 #[.int .i64 a0] ?_; (with_reducible refine (radix_Five.calls k a0 t219 t220 _ A3.out).mono ?_); rintro e w9 ⟨v221, rfl, ho0, hb⟩; refine ⟨_, rfl, ?_⟩; have HO222 := aM (Kd.R_lower ho0 (below_size dB)); replace HB := hS HB.out hb; (try clear hb); (try clear ho0)))
   go_ret2
   exact ⟨_, dE, by first | exact Kd.R_nil _ _ _ _ _ | exact Kd.N_nil _ _ _ _ _ | exact Kd.V_nil _ _ _ _ _ | exact Kd.Q_nil _ _ _ _ _ | exact Kd.S_nil _ _ _ _ _, dB⟩
def radix_Parse.fB (k : Nat) (a0 : ByteArray) (a1 : Int) : Option (List Int × Bool) := (radix_Parse.f k a0 a1).bind fun y => some (y.1, decide (y.2.1 ≠ 0))
theorem radix_Parse.monoB : ∀ a0 a1 k, LeO (radix_Parse.fB k a0 a1) (radix_Parse.fB (k + 1) a0 a1) := fun a0 a1 k => LeO.bind (radix_Parse.mono a0 a1 k) (fun _ => LeO.refl _)
theorem radix_Parse.callsB (k : Nat) (a0 : ByteArray) (a1 : Int) (r1 : List Int) (r2 : Bool) (w : World) (h : radix_Parse.fB k a0 a1 = some (r1, r2)) :
  Calls Tryd.prog 4 #[.string a0, .int .i64 a1] w fun e w' => ∃ v0_ ve_ : Value, e = .returned (.tuple #[v0_, ve_]) ∧ Kd.R (Kd.int .u64) 36 w' w.heap.size (fun _ => True) v0_ r1 ∧ Below w.heap.size w w' ∧ (r2 = true → ∃ g, ve_ = .iface 52 (.pointer (some ⟨g, 0, none⟩))) ∧ (r2 = false → ve_ = .nilIface) := by
 unfold radix_Parse.fB at h
 replace h := Option.bind_eq_some_iff.mp h
 obtain ⟨⟨y1, y2, y3⟩, h1, h⟩ := h
 simp only [Option.some.injEq, Prod.mk.injEq] at h
 obtain ⟨rfl, rfl⟩ := h
 refine (radix_Parse.calls k a0 a1 _ _ _ w h1).mono ?_
 rintro e w' ⟨v0, ve, rfl, ho, hb, hf⟩
 unfold faultIs at hf
 refine ⟨v0, ve, rfl, ho, hb, fun h2 => ?_, fun h2 => ?_⟩
 ·rw [if_neg (of_decide_eq_true h2)] at hf
  obtain ⟨g, hg, _⟩ := hf
  exact ⟨g, hg⟩
 ·have h3 := of_decide_eq_false h2
  rw [if_pos (Classical.not_not.1 h3)] at hf
  exact hf
def errB (g : Nat) (b : Bool) : Value := if b = true then .iface 52 (.pointer (some ⟨g, 0, none⟩)) else .nilIface
theorem errB_true (g : Nat) : errB g true = .iface 52 (.pointer (some ⟨g, 0, none⟩)) := rfl
theorem errB_false (g : Nat) : errB g false = .nilIface := rfl
theorem radix_Parse.callsE (k : Nat) (a0 : ByteArray) (a1 : Int) (r1 : List Int) (r2 : Bool) (w : World) (h : radix_Parse.fB k a0 a1 = some (r1, r2)) :
  Calls Tryd.prog 4 #[.string a0, .int .i64 a1] w fun e w' => ∃ (v0_ : Value) (g_ : Nat), e = .returned (.tuple #[v0_, errB g_ r2]) ∧ Kd.R (Kd.int .u64) 36 w' w.heap.size (fun _ => True) v0_ r1 ∧ Below w.heap.size w w' := by
 refine (radix_Parse.callsB k a0 a1 r1 r2 w h).mono ?_
 rintro e w' ⟨v0, ve, rfl, ho, hb, h1, h2⟩
 cases r2 with
 | true =>
  obtain ⟨g, rfl⟩ := h1 rfl
  exact ⟨v0, g, rfl, ho, hb⟩
 | false =>
  obtain rfl := h2 rfl
  exact ⟨v0, 0, rfl, ho, hb⟩
theorem guard_neq_errB (g : Nat) (b : Bool) (n : Nat) (w : World) : Sem.run Tryd.prog (eqGuard BinOp.neq 24 (Operand.tmp n) (Operand.const Value.nilIface) (errB g b) .nilIface) w = .ok () w := by
 cases b <;> simp [errB_true, errB_false, go_sem]
theorem guard_eql_errB (g : Nat) (b : Bool) (n : Nat) (w : World) : Sem.run Tryd.prog (eqGuard BinOp.eql 24 (Operand.tmp n) (Operand.const Value.nilIface) (errB g b) .nilIface) w = .ok () w := by
 cases b <;> simp [errB_true, errB_false, go_sem]
theorem neq_errB (g : Nat) (b : Bool) (w : World) : Sem.run Tryd.prog (binOp BinOp.neq 24 (errB g b) .nilIface) w = .ok (.bool b) w := by
 cases b <;> simp [errB_true, errB_false, go_sem]
theorem eql_errB (g : Nat) (b : Bool) (w : World) : Sem.run Tryd.prog (binOp BinOp.eql 24 (errB g b) .nilIface) w = .ok (.bool (!b)) w := by
 cases b <;> simp [errB_true, errB_false, go_sem]
attribute [local go_sem] errB_true errB_false guard_neq_errB guard_eql_errB neq_errB eql_errB
def plumblaw04_alive.f (k : Nat)  : Option (Bool) := (radix_Parse.fB k (⟨#[49, 56, 52, 52, 54, 55, 52, 52, 48, 55, 51, 55, 48, 57, 53, 53, 49, 54, 49, 54]⟩ : ByteArray) 10).bind fun bt227 => ((radix_Text.f k (([0, 1] : List Int)) 16).bind fun bt234 => ((radix_Ten.f k 20).bind fun bt236 => (if bt227.2 = true then (none) else ((plumblaw04_eq.f k bt227.1 (([0, 1] : List Int))).bind fun t243 => (if t243 = true then (if bt234.2 = 0 then (if bt234.1.toList = ([49, 48, 48, 48, 48, 48, 48, 48, 48, 48, 48, 48, 48, 48, 48, 48, 48] : List UInt8) then (if bt236.2 = 0 then ((plumblaw04_eq.f k bt236.1 (([7766279631452241920, 5] : List Int))).bind fun t247 => (some t247)) else (none)) else (none)) else (none)) else (none))))))
theorem plumblaw04_alive.mono : ∀ k, LeO (plumblaw04_alive.f k ) (plumblaw04_alive.f (k + 1) ) := by
 intro  k
 unfold plumblaw04_alive.f
 repeat' first
   | (with_reducible exact plumblaw04_eq.mono _ _ _)
   | (with_reducible exact radix_Parse.monoB _ _ _)
   | (with_reducible exact radix_Ten.mono _ _)
   | (with_reducible exact radix_Text.mono _ _ _)
   | (with_reducible exact LeO.refl _)
   | (with_reducible exact LeO.none _)
   | (with_reducible refine LeO.ite ?_ ?_)
   | (with_reducible refine LeO.bind ?_ (fun _ => ?_))
   | exact plumblaw04_eq.mono _ _ _
   | exact radix_Parse.monoB _ _ _
   | exact radix_Ten.mono _ _
   | exact radix_Text.mono _ _ _
   | exact LeO.none _
   | refine LeO.ite ?_ ?_
   | refine LeO.bind ?_ (fun _ => ?_)
set_option maxHeartbeats 8000000 in
set_option maxRecDepth 100000 in
theorem plumblaw04_alive.calls (k : Nat)  (r : Bool) (w : World) (h : plumblaw04_alive.f k  = some r) :
  Calls Tryd.prog 6 #[] w fun e w' => e = .returned (.bool r) ∧ Below w.heap.size w w' := by
 have HB := aM (Below.refl w.heap.size w)
 have H := h
 clear h
 unfold plumblaw04_alive.f at H
 replace H := oA H
 obtain ⟨⟨t227, t228⟩, A1, H⟩ := H
 (try dsimp only at H)
 obtain ⟨y231, hy231⟩ : ∃ y_ : List Int, y_ = (([0, 1] : List Int)) := ⟨_, rfl⟩
 replace H : ((radix_Text.f k y231 16).bind fun bt234 => ((radix_Ten.f k 20).bind fun bt236 => (if t228 = true then (none) else ((plumblaw04_eq.f k t227 (([0, 1] : List Int))).bind fun t243 => (if t243 = true then (if bt234.2 = 0 then (if bt234.1.toList = ([49, 48, 48, 48, 48, 48, 48, 48, 48, 48, 48, 48, 48, 48, 48, 48, 48] : List UInt8) then (if bt236.2 = 0 then ((plumblaw04_eq.f k bt236.1 (([7766279631452241920, 5] : List Int))).bind fun t247 => (some t247)) else (none)) else (none)) else (none)) else (none)))))) = some r := by first | (rw [hy231]; with_reducible exact H) | (have H2_ := (Option.bind_some _ _).symm.trans H; rw [hy231]; with_reducible exact H2_) | (have H2_ := (Option.bind_some _ _).symm.trans H; with_reducible exact H2_) | with_reducible exact H | (rw [hy231]; exact H) | exact H
 have Ny231 := aM hy231
 clear hy231
 replace H := oA H
 obtain ⟨⟨t234, t235⟩, A2, H⟩ := H
 (try dsimp only at H)
 replace H := oA H
 obtain ⟨⟨t236, t237⟩, A3, H⟩ := H
 (try dsimp only at H)
 replace H := nR H
 obtain ⟨rfl, H⟩ := H
 (try dsimp only at H)
 obtain ⟨y240, hy240⟩ : ∃ y_ : List Int, y_ = (([0, 1] : List Int)) := ⟨_, rfl⟩
 replace H : ((plumblaw04_eq.f k t227 y240).bind fun t243 => (if t243 = true then (if t235 = 0 then (if t234.toList = ([49, 48, 48, 48, 48, 48, 48, 48, 48, 48, 48, 48, 48, 48, 48, 48, 48] : List UInt8) then (if t237 = 0 then ((plumblaw04_eq.f k t236 (([7766279631452241920, 5] : List Int))).bind fun t247 => (some t247)) else (none)) else (none)) else (none)) else (none))) = some r := by first | (rw [hy240]; with_reducible exact H) | (have H2_ := (Option.bind_some _ _).symm.trans H; rw [hy240]; with_reducible exact H2_) | (have H2_ := (Option.bind_some _ _).symm.trans H; with_reducible exact H2_) | with_reducible exact H | (rw [hy240]; exact H) | exact H
 have Ny240 := aM hy240
 clear hy240
 replace H := oA H
 obtain ⟨t243, A5, H⟩ := H
 (try dsimp only at H)
 replace H := nO H
 obtain ⟨rfl, H⟩ := H
 (try dsimp only at H)
 replace H := nO H
 obtain ⟨c7, H⟩ := H
 obtain ⟨c7b0, c7b1⟩ := bT c7
 clear c7
 replace H := nO H
 obtain ⟨c8, H⟩ := H
 obtain ⟨c8b0, c8b1⟩ := bT c8
 clear c8
 replace H := nO H
 obtain ⟨c9, H⟩ := H
 obtain ⟨c9b0, c9b1⟩ := bT c9
 clear c9
 obtain ⟨y244, hy244⟩ : ∃ y_ : List Int, y_ = (([7766279631452241920, 5] : List Int)) := ⟨_, rfl⟩
 replace H : ((plumblaw04_eq.f k t236 y244).bind fun t247 => (some t247)) = some r := by first | (rw [hy244]; with_reducible exact H) | (have H2_ := (Option.bind_some _ _).symm.trans H; rw [hy244]; with_reducible exact H2_) | (have H2_ := (Option.bind_some _ _).symm.trans H; with_reducible exact H2_) | with_reducible exact H | (rw [hy244]; exact H) | exact H
 have Ny244 := aM hy244
 clear hy244
 replace H := oA H
 obtain ⟨t247, A10, H⟩ := H
 (try dsimp only at H)
 obtain rfl := Option.some.inj H
 go_enter Tryd.func6, Tryd.ntmps6
 go_wp2_with (first | ((with_reducible refine gate_callee (f := 4) rfl ?_); refine gL (some 8) Tryd.func4 #[.string (⟨#[49, 56, 52, 52, 54, 55, 52, 52, 48, 55, 51, 55, 48, 57, 53, 53, 49, 54, 49, 54]⟩ : ByteArray), .int .i64 10] ?_; (with_reducible refine (radix_Parse.callsE k (⟨#[49, 56, 52, 52, 54, 55, 52, 52, 48, 55, 51, 55, 48, 57, 53, 53, 49, 54, 49, 54]⟩ : ByteArray) 10 t227 false _ A1.out).mono ?_); rintro e w11 ⟨v229, gv229, rfl, ho0, hb⟩; refine ⟨_, rfl, ?_⟩; have HO230 := aM (Kd.R_lower ho0 (below_size dB)); replace HB := hS HB.out hb; (try clear hb); (try clear ho0)) | ((with_reducible refine gate_dst (N := 12) rfl ?_); (try (refine gate_guard (by rfl) ?_; dsimp only)); refine Kd.R_lit (Kd.int .u64) _ 36 ?hg (N := 12) ?hd (xs := ([0, 1] : List Int)) (inner := [.int .u64 0, .int .u64 1]) (ok := fun _ => True) (okp := fun _ => True) ?hr ?hp (fun _ hk => hk) trivial (Below.refl _ _) (Nat.le_refl _) (by simp) ?_; (case hd => rfl); (case hg => rfl); (case hr => first | (go_simp; done) | (go_simp; rfl)); (case hp => exact (Reps.one (show Kd.M (Kd.int .u64) _ _ _ 0 [.int .u64 0] from rfl) (Reps.one (show Kd.M (Kd.int .u64) _ _ _ 1 [.int .u64 1] from rfl) (Reps.none _ _)))); intro v232 w12 ho13 hb hg_ hnew_; clear hg_ hnew_; (first | rw [← Ny231.out] at ho13 | (simp only [Int.reduceToNat] at ho13; rw [← Ny231.out] at ho13)); have HO233 := aM (Kd.R_lower (nW ho13 HO230.out) (below_size dB)); replace HO230 := oE HO230.out ho13 hb; replace HB := hS HB.out hb; clear hb ho13; obtain ⟨Ao14, co14, rfl⟩ := Kd.R_slice HO233.out) | ((with_reducible refine gate_callee (f := 20) rfl ?_); refine gL (some 13) Tryd.func20 #[.slice Ao14 y231.length co14, .int .i64 16] ?_; (with_reducible refine (radix_Text.calls k _ _ y231 16 t234 t235 _ ?side1 (Kd.R_reads' HO233.out).2.1 A2.out).mono ?_); (case side1 => exact dC (Kd.R_reads' HO233.out).2.2); rintro e w15 ⟨rfl, hb⟩; refine ⟨_, rfl, ?_⟩; replace HO230 := oB HO230.out hb; replace HO233 := oB HO233.out hb; replace HB := hS HB.out hb; (try clear hb)) | ((with_reducible refine gate_callee (f := 21) rfl ?_); refine gL (some 17) Tryd.func21 #[.int .i64 20] ?_; (with_reducible refine (radix_Ten.calls k 20 t236 t237 _ A3.out).mono ?_); rintro e w16 ⟨v238, rfl, ho0, hb⟩; refine ⟨_, rfl, ?_⟩; have HO239 := aM (Kd.R_lower (nW (nW ho0 HO230.out) HO233.out) (below_size dB)); replace HO230 := oE HO230.out ho0 hb; replace HO233 := oE HO233.out ho0 hb; replace HB := hS HB.out hb; (try clear hb); (try clear ho0)) | ((with_reducible refine gate_dst (N := 24) rfl ?_); (try (refine gate_guard (by rfl) ?_; dsimp only)); refine Kd.R_lit (Kd.int .u64) _ 36 ?hg (N := 24) ?hd (xs := ([0, 1] : List Int)) (inner := [.int .u64 0, .int .u64 1]) (ok := fun _ => True) (okp := fun _ => True) ?hr ?hp (fun _ hk => hk) trivial (Below.refl _ _) (Nat.le_refl _) (by simp) ?_; (case hd => rfl); (case hg => rfl); (case hr => first | (go_simp; done) | (go_simp; rfl)); (case hp => exact (Reps.one (show Kd.M (Kd.int .u64) _ _ _ 0 [.int .u64 0] from rfl) (Reps.one (show Kd.M (Kd.int .u64) _ _ _ 1 [.int .u64 1] from rfl) (Reps.none _ _)))); intro v241 w17 ho18 hb hg_ hnew_; clear hg_ hnew_; (first | rw [← Ny240.out] at ho18 | (simp only [Int.reduceToNat] at ho18; rw [← Ny240.out] at ho18)); have HO242 := aM (Kd.R_lower (nW (nW (nW ho18 HO230.out) HO233.out) HO239.out) (below_size dB)); replace HO230 := oE HO230.out ho18 hb; replace HO233 := oE HO233.out ho18 hb; replace HO239 := oE HO239.out ho18 hb; replace HB := hS HB.out hb; clear hb ho18; obtain ⟨Ao19, co19, rfl⟩ := Kd.R_slice HO230.out; obtain ⟨Ao20, co20, rfl⟩ := Kd.R_slice HO242.out) | (go_at_call 7; (with_reducible refine (plumblaw04_eq.calls k _ _ t227 _ _ y240 true _ ?side1 (Kd.R_reads' HO230.out).2.1 ?side3 (Kd.R_reads' HO242.out).2.1 A5.out).mono ?_); (case side1 => exact dC (Kd.R_reads' HO230.out).2.2); (case side3 => exact dC (Kd.R_reads' HO242.out).2.2); rintro e w' ⟨rfl, ⟨nd, rfl⟩⟩) | ((with_reducible refine gate_dst (N := 41) rfl ?_); (try (refine gate_guard (by rfl) ?_; dsimp only)); refine Kd.R_lit (Kd.int .u64) _ 36 ?hg (N := 41) ?hd (xs := ([7766279631452241920, 5] : List Int)) (inner := [.int .u64 7766279631452241920, .int .u64 5]) (ok := fun _ => True) (okp := fun _ => True) ?hr ?hp (fun _ hk => hk) trivial (Below.refl _ _) (Nat.le_refl _) (by simp) ?_; (case hd => rfl); (case hg => rfl); (case hr => first | (go_simp; done) | (go_simp; rfl)); (case hp => exact (Reps.one (show Kd.M (Kd.int .u64) _ _ _ 7766279631452241920 [.int .u64 7766279631452241920] from rfl) (Reps.one (show Kd.M (Kd.int .u64) _ _ _ 5 [.int .u64 5] from rfl) (Reps.none _ _)))); intro v245 w21 ho22 hb hg_ hnew_; clear hg_ hnew_; (first | rw [← Ny244.out] at ho22 | (simp only [Int.reduceToNat] at ho22; rw [← Ny244.out] at ho22)); have HO246 := aM (Kd.R_lower (nW (nW (nW (nW ho22 HO230.out) HO233.out) HO239.out) HO242.out) (below_size dB)); replace HO230 := oE HO230.out ho22 hb; replace HO233 := oE HO233.out ho22 hb; replace HO239 := oE HO239.out ho22 hb; replace HO242 := oE HO242.out ho22 hb; replace HB := hS HB.out hb; clear hb ho22; obtain ⟨Ao23, co23, rfl⟩ := Kd.R_slice HO239.out; obtain ⟨Ao24, co24, rfl⟩ := Kd.R_slice HO246.out) | (go_at_call 7; (with_reducible refine (plumblaw04_eq.calls k _ _ t236 _ _ y244 t247 _ ?side1 (Kd.R_reads' HO239.out).2.1 ?side3 (Kd.R_reads' HO246.out).2.1 A10.out).mono ?_); (case side1 => exact dC (Kd.R_reads' HO239.out).2.2); (case side3 => exact dC (Kd.R_reads' HO246.out).2.2); rintro e w' ⟨rfl, ⟨nd, rfl⟩⟩))
 go_ret
 exact ⟨dE, dB⟩
mutual
def plumbref04_value.j0 : Nat → Int → Bool → Option (Int)
 | 0, _, _ => none
 | k + 1, x0, x3 => if x3 = true then (some ((x0 - 48) % 256)) else (if x0 ≥ 97 then (plumbref04_value.j1 k x0 (decide (x0 ≤ 122))) else (plumbref04_value.j1 k x0 false))
def plumbref04_value.j1 : Nat → Int → Bool → Option (Int)
 | 0, _, _ => none
 | k + 1, x0, x13 => if x13 = true then (some (((x0 - 97) % 256) + 10)) else (if x0 ≥ 65 then (if x0 ≤ 90 then (some (((x0 - 65) % 256) + 10)) else (some 99)) else (some 99))
end
def plumbref04_value.f (k : Nat) (a0 : Int) : Option (Int) := if a0 ≥ 48 then (plumbref04_value.j0 k a0 (decide (a0 ≤ 57))) else (plumbref04_value.j0 k a0 false)
set_option maxHeartbeats 8000000 in
set_option maxRecDepth 100000 in
theorem plumbref04_value.calls (k : Nat) (a0 : Int) (r : Int) (w : World) (h : plumbref04_value.f k a0 = some r) :
  Calls Tryd.prog 17 #[.int .u8 a0] w fun e w' => e = .returned (.int .i64 r) ∧ Drawn0 w w' := by
 have H := h
 clear h
 unfold plumbref04_value.f at H
 have HC2 := aM H
 clear H
 go_enter Tryd.func17, Tryd.ntmps17
 go_upto_region 1 with (fail)
 go_cut [3] (fun v3 wc => ∃ (kq : Nat) (x3_1 : Bool), v3 = .bool x3_1 ∧ Aside0 (plumbref04_value.j0 kq a0 x3_1 = some r) ∧ Aside0 (kq ≤ k) ∧ Drawn0 w wc)
 case first =>
  have H := HC2.out
  clear HC2
  by_cases c3 : a0 ≥ 48
  ·rw [if_pos c3] at H
   have c3b0 : decide (48 ≤ a0) = true := decide_eq_true c3
   clear c3
   (first | rw [c3b0] | (simp only [i64_w, i32_w]; rw [c3b0]) | skip)
   have H' := aM H
   clear H
   go_wp2
   go_meet
   case rel => exact ⟨_, (decide (a0 ≤ 57)), dF, H', ⟨dN⟩, dD⟩
  ·rw [if_neg c3] at H
   have c3b0 : decide (48 ≤ a0) = false := decide_eq_false c3
   clear c3
   (first | rw [c3b0] | (simp only [i64_w, i32_w]; rw [c3b0]) | skip)
   have H' := aM H
   clear H
   go_wp2
   go_meet
   case rel => exact ⟨_, (false), dF, H', ⟨dN⟩, dD⟩
 case rest =>
  clear HC2
  obtain ⟨kq, x3_1, rfl, HA, HJ1, ⟨mc1, rfl⟩⟩ := hcut
  cases kq with
  | zero => exact absurd HA.out (by simp [plumbref04_value.j0])
  | succ kj1 =>
   have H := HA.out
   clear HA
   simp only [plumbref04_value.j0] at H
   by_cases c4 : x3_1 = true
   ·subst c4
    rw [if_pos rfl] at H
    (try dsimp only at H)
    obtain rfl := Option.some.inj H
    go_wp2
    go_ret
    exact ⟨dF, dD⟩
   ·replace c4 := Bool.eq_false_iff.mpr c4
    subst c4
    rw [if_neg (show ¬ (false = true) by decide)] at H
    (try dsimp only at H)
    have HC5 := aM H
    clear H
    go_upto_region 3 with (fail)
    go_cut [13] (fun v13 wc => ∃ (kq : Nat) (x13_4 : Bool), v13 = .bool x13_4 ∧ Aside0 (plumbref04_value.j1 kq a0 x13_4 = some r) ∧ Aside0 (kq ≤ kj1) ∧ Drawn0 w wc)
    case first =>
     have H := HC5.out
     clear HC5
     by_cases c6 : a0 ≥ 97
     ·rw [if_pos c6] at H
      have c6b0 : decide (97 ≤ a0) = true := decide_eq_true c6
      clear c6
      (first | rw [c6b0] | (simp only [i64_w, i32_w]; rw [c6b0]) | skip)
      have H' := aM H
      clear H
      go_wp2
      go_meet
      case rel => exact ⟨_, (decide (a0 ≤ 122)), dF, H', ⟨by have := HJ1.out; first | omega | exact Nat.le_refl _⟩, dD⟩
     ·rw [if_neg c6] at H
      have c6b0 : decide (97 ≤ a0) = false := decide_eq_false c6
      clear c6
      (first | rw [c6b0] | (simp only [i64_w, i32_w]; rw [c6b0]) | skip)
      have H' := aM H
      clear H
      go_wp2
      go_meet
      case rel => exact ⟨_, (false), dF, H', ⟨by have := HJ1.out; first | omega | exact Nat.le_refl _⟩, dD⟩
    case rest =>
     clear HC5
     try clear c4
     obtain ⟨kq, x13_4, rfl, HA, HJ4, ⟨mc4, rfl⟩⟩ := hcut
     cases kq with
     | zero => exact absurd HA.out (by simp [plumbref04_value.j1])
     | succ kj4 =>
      have H := HA.out
      clear HA
      simp only [plumbref04_value.j1] at H
      by_cases c7 : x13_4 = true
      ·subst c7
       rw [if_pos rfl] at H
       (try dsimp only at H)
       obtain rfl := Option.some.inj H
       go_wp2
       go_ret
       exact ⟨dF, dD⟩
      ·replace c7 := Bool.eq_false_iff.mpr c7
       subst c7
       rw [if_neg (show ¬ (false = true) by decide)] at H
       (try dsimp only at H)
       by_cases c8 : a0 ≥ 65
       ·rw [if_pos c8] at H
        have c8b0 : decide (65 ≤ a0) = true := decide_eq_true c8
        clear c8
        by_cases c9 : a0 ≤ 90
        ·rw [if_pos c9] at H
         have c9b0 := decide_eq_true c9
         clear c9
         obtain rfl := Option.some.inj H
         go_wp2
         go_ret
         exact ⟨dF, dD⟩
        ·rw [if_neg c9] at H
         have c9b0 := decide_eq_false c9
         clear c9
         obtain rfl := Option.some.inj H
         go_wp2
         go_ret
         exact ⟨dF, dD⟩
       ·rw [if_neg c8] at H
        have c8b0 : decide (65 ≤ a0) = false := decide_eq_false c8
        clear c8
        obtain rfl := Option.some.inj H
        go_wp2
        go_ret
        exact ⟨dF, dD⟩
def plumbref04_put.l0 : Nat → List Int → Int → Int → Int → Option (List Int)
 | 0, _, _, _, _ => none
 | k + 1, x0, x1, x2, x7 => if x7 < (x0.length : Int) then (if 0 ≤ x7 then (plumbref04_put.l0 k (x0.set (x7 : Int).toNat (Go.bits .and .u64 (IntKind.u64.wrap ((IntKind.u64.wrap ((rd x0 x7) * x1)) + x2)) 4294967295)) x1 ((IntKind.u64.wrap ((IntKind.u64.wrap ((rd x0 x7) * x1)) + x2)) / 4294967296) (wrap64 (x7 + 1))) else (none)) else (if x2 > 0 then (if x0.length < 17592186044416 then (some (x0 ++ [x2])) else (none)) else (some x0))
def plumbref04_put.f (k : Nat) (l0 : List Int) (a1 : Int) (a2 : Int) : Option (List Int) := plumbref04_put.l0 k l0 a1 a2 0
set_option maxHeartbeats 8000000 in
set_option maxRecDepth 100000 in
theorem plumbref04_put.calls (k : Nat) (P0_ : Nat → Prop) (u9000_ : Value) (l0 : List Int) (a1 : Int) (a2 : Int) (r : List Int) (w0 w : World) (hB : Below w0.heap.size w0 w) (ho0 : Kd.R (Kd.int .u64) 36 w w0.heap.size P0_ u9000_ l0) (h : plumbref04_put.f k l0 a1 a2 = some r) :
  Calls Tryd.prog 18 #[u9000_, .int .u64 a1, .int .u64 a2] w fun e w' => ∃ v0_ : Value, e = .returned (v0_) ∧ Kd.R (Kd.int .u64) 36 w' w0.heap.size (fun k_ => (P0_ k_ ∨ w.heap.size ≤ k_)) v0_ r ∧ Below w0.heap.size w0 w' ∧ Kept w w' (fun k_ => P0_ k_) := by
 have HO0 := aM (show Kd.R (Kd.int .u64) 36 w w0.heap.size (fun k_ => (P0_ k_ ∨ w.heap.size ≤ k_)) u9000_ l0 from Kd.R_mono ho0 (fun k_ hk => (.inl hk)))
 have HK := aM (Kept.refl w (fun k_ => P0_ k_))
 have HW0 := aM hB.size
 have HB := aM hB
 clear hB
 have H := h
 clear h
 unfold plumbref04_put.f at H
 have H' := aM H
 clear H
 go_enter Tryd.func18, Tryd.ntmps18
 go_wp2
 go_loopg [2, 7] k (fun kq v2 v7 w' => ∃ (x0_1 : List Int) (x2_1 : Int) (x7_1 : Int), v2 = .int .u64 x2_1 ∧ v7 = .int .i64 x7_1 ∧ Aside0 (plumbref04_put.l0 kq x0_1 a1 x2_1 x7_1 = some r) ∧ Aside0 (kq ≤ k) ∧ Aside0 (Kd.R (Kd.int .u64) 36 w' w0.heap.size (fun k_ => (P0_ k_ ∨ w.heap.size ≤ k_)) u9000_ x0_1) ∧ Aside0 (Kept w w' (fun k_ => P0_ k_)) ∧ Aside0 (Below w0.heap.size w0 w'))
 case atStart => exact ⟨(l0), (a2), (0), dF, dF, H', ⟨Nat.le_refl _⟩, ⟨dR HO0.out⟩, ⟨by repeat (first | (with_reducible first | exact HK.out | apply Kept.alloc | apply Kept.drewN | apply Kept.drew) | exact HK.out)⟩, ⟨dB⟩⟩
 case round =>
  clear H'
  obtain ⟨x0_1, x2_1, x7_1, rfl, rfl, HA, HK1, HO_0, HK, HB⟩ := hrel
  cases gk with
  | zero => exact absurd HA.out (by simp [plumbref04_put.l0])
  | succ k1 =>
   have H := HA.out
   clear HA
   simp only [plumbref04_put.l0] at H
   by_cases c4 : x7_1 < (x0_1.length : Int)
   ·rw [if_pos c4] at H
    have c4b0 := decide_eq_true c4
    clear c4
    replace H := nO H
    obtain ⟨c5, H⟩ := H
    have c5b0 : decide (0 ≤ x7_1) = true := decide_eq_true c5
    clear c5
    obtain ⟨y200, hy200⟩ : ∃ y_ : List Int, y_ = (x0_1.set (x7_1 : Int).toNat (Go.bits .and .u64 (IntKind.u64.wrap ((IntKind.u64.wrap ((rd x0_1 x7_1) * a1)) + x2_1)) 4294967295)) := ⟨_, rfl⟩
    replace H : (plumbref04_put.l0 k1 y200 a1 ((IntKind.u64.wrap ((IntKind.u64.wrap ((rd x0_1 x7_1) * a1)) + x2_1)) / 4294967296) (wrap64 (x7_1 + 1))) = some r := by first | (rw [hy200]; with_reducible exact H) | (have H2_ := (Option.bind_some _ _).symm.trans H; rw [hy200]; with_reducible exact H2_) | (have H2_ := (Option.bind_some _ _).symm.trans H; with_reducible exact H2_) | with_reducible exact H | (rw [hy200]; exact H) | exact H
    have Ny200 := aM hy200
    clear hy200
    have H' := aM H
    clear H
    obtain ⟨Ao7, co7, rfl⟩ := Kd.R_slice HO_0.out
    have p199 : 0 ≤ (x7_1 : Int) := of_decide_eq_true dS
    have q199 : x7_1 < (x0_1.length : Int) := of_decide_eq_true dS
    obtain ⟨ad199, e199, hx199_0⟩ := Kd.at_int (Kd.R_reads' HO_0.out).2.2 x7_1 p199 q199
    cases e199
    replace p199 := eq_true p199
    replace q199 := eq_true q199
    have p6 : 0 ≤ (x7_1 : Int) := of_decide_eq_true dS
    have q6 : (x7_1 : Int) < ((x0_1.length : Int) : Int) := of_decide_eq_true dS
    obtain ⟨go6, co6, eo6, gb6, gl6, cl6, HG6⟩ := Kd.R_form HO_0.out (by omega)
    (first | cases eo6 | (injection eo6 with ea_ en_ ec_; (first | subst ea_ | (injection ea_ with ea_; subst ea_)); subst ec_; clear en_))
    have GB6 := aM gb6
    have GG6 := aM HG6
    clear gb6 gl6 HG6
    have HMgo6 := aM (show (P0_ go6 ∨ w.heap.size ≤ go6) from (HO_0.out.1 _ rfl))
    (first | simp only [add_plain] at hx199_0 | skip)
    obtain ⟨hx6_0, hf6_0⟩ := Kd.R_celln 0 HO_0.out (x7_1 : Int) p6 q6
    replace p6 := eq_true p6
    replace q6 := eq_true q6
    have HP8 := Kd.R_putg HO_0.out (x7_1 : Int) (Go.bits .and .u64 (IntKind.u64.wrap ((IntKind.u64.wrap ((rd x0_1 x7_1) * a1)) + x2_1)) 4294967295)
    go_wp2_with (first | ((with_reducible refine gate_store (t := 36) (p := 27) rfl ?_); refine store_event (t := 36) (p := 27) (v := ?vo_w9) (w1 := (wr.setCell ⟨go6, (x7_1 : Int).toNat, none⟩ (.int .u64 (Go.bits .and .u64 (IntKind.u64.wrap ((IntKind.u64.wrap ((rd x0_1 x7_1) * a1)) + x2_1)) 4294967295)))) ?hg ?ho ?hn ?hr ?_; (case ho => rfl); (case hg => rfl); (case hn => rfl); (case hr => first | (go_simp; done) | (go_simp; rfl)); intro w9 hw; have hg : wr.grownBy w9 (some go6) := (by rw [hw]; exact HP8.2); have hp_ : Kd.R (Kd.int .u64) 36 w9 w0.heap.size (fun k_ => (P0_ k_ ∨ w.heap.size ≤ k_)) (.slice (some ⟨go6, 0, none⟩) x0_1.length co7) y200 := (by rw [hw, Ny200.out]; exact HP8.1); clear HP8; replace HB := aM ((by rw [hw]; exact below_set (HB.out) GB6.out : Below w0.heap.size w0 w9)); replace HK := aM (Kept.of_grown (S := (fun k_ => P0_ k_)) hg (by repeat (first | (with_reducible first | exact HK.out | apply Kept.alloc | apply Kept.drewN | apply Kept.drew) | exact HK.out)) (fun k_ e_ => (HO_0.out.1 k_ e_))); replace HO_0 := aM (hp_); clear hg hw hp_))
    go_roundg k1
    case measure => have := HK1.out; omega
    case rel => exact ⟨(y200), ((IntKind.u64.wrap ((IntKind.u64.wrap ((rd x0_1 x7_1) * a1)) + x2_1)) / 4294967296), (wrap64 (x7_1 + 1)), dF, dF, H', ⟨by have := HK1.out; omega⟩, ⟨dR HO_0.out⟩, ⟨by repeat (first | (with_reducible first | exact HK.out | apply Kept.alloc | apply Kept.drewN | apply Kept.drew) | exact HK.out)⟩, ⟨dB⟩⟩
   ·rw [if_neg c4] at H
    have c4b0 := decide_eq_false c4
    clear c4
    by_cases c10 : x2_1 > 0
    ·rw [if_pos c10] at H
     have c10b0 : decide (0 < x2_1) = true := decide_eq_true c10
     clear c10
     replace H := nO H
     obtain ⟨c11, H⟩ := H
     have LMc11 := aM c11
     clear c11
     obtain ⟨y201, hy201⟩ : ∃ y_ : List Int, y_ = (x0_1 ++ [x2_1]) := ⟨_, rfl⟩
     replace H : (some y201) = some r := by first | (rw [hy201]; with_reducible exact H) | (have H2_ := (Option.bind_some _ _).symm.trans H; rw [hy201]; with_reducible exact H2_) | (have H2_ := (Option.bind_some _ _).symm.trans H; with_reducible exact H2_) | with_reducible exact H | (rw [hy201]; exact H) | exact H
     have Ny201 := aM hy201
     clear hy201
     obtain rfl := Option.some.inj H
     obtain ⟨Ao12, co12, rfl⟩ := Kd.R_slice HO_0.out
     go_wp2_with (first | ((with_reducible refine gate_builtin (b := .append) (xs := #[.tmp 32, .tmp 34]) rfl ?_); at_builtin; refine Kd.R_append (Kd.int .u64) (w0 := w0) w0.heap.size rfl (.tmp 32) (.tmp 34) 22 36 (.int .u64 0) 8 rfl Tryd.underlying22 info36 rfl (by decide) (by omega) (.slice Ao12 x0_1.length co12) x0_1 x2_1 [.int .u64 x2_1] (fun k_ => (P0_ k_ ∨ w.heap.size ≤ k_)) (fun _ => False) rfl rfl ?aP (fun _ hk => hk.elim) ?aF ?aO ?aB ?aS ?aL ?_; (case aP => exact rfl); (case aB => exact dB); (case aF => exact (fun k_ hk => (.inr (Nat.le_trans (by first | exact HK.out.1 | exact (show Kept w _ (fun k_ => P0_ k_) from by repeat (first | (with_reducible first | exact HK.out | apply Kept.alloc | apply Kept.drewN | apply Kept.drew) | exact HK.out)).1) hk)))); (case aO => exact (dR HO_0.out)); (case aS => exact (below_size dB)); (case aL => have := LMc11.out; omega); intro v202 w13 ho hb hg hat; rw [← Ny201.out] at ho; replace HB := aM (hb); replace HK := aM (Kept.of_grown (S := (fun k_ => P0_ k_)) hg (by repeat (first | (with_reducible first | exact HK.out | apply Kept.alloc | apply Kept.drewN | apply Kept.drew) | exact HK.out)) (fun k_ e_ => (HO_0.out.1 k_ e_))); have HO203 := aM (ho); clear HO_0; clear ho hb hg hat))
     go_ret
     exact ⟨_, dE, dR HO203.out, dB, by repeat (first | (with_reducible first | exact HK.out | apply Kept.alloc | apply Kept.drewN | apply Kept.drew) | exact HK.out)⟩
    ·rw [if_neg c10] at H
     have c10b0 : decide (0 < x2_1) = false := decide_eq_false c10
     clear c10
     obtain rfl := Option.some.inj H
     obtain ⟨Ao14, co14, rfl⟩ := Kd.R_slice HO_0.out
     go_wp2
     go_ret
     exact ⟨_, dE, dR HO_0.out, dB, by repeat (first | (with_reducible first | exact HK.out | apply Kept.alloc | apply Kept.drewN | apply Kept.drew) | exact HK.out)⟩
def plumbref04_cut.l0 : Nat → List Int → Option (List Int)
 | 0, _ => none
 | k + 1, x0 => if (x0.length : Int) > 0 then (if 0 ≤ (wrap64 ((x0.length : Int) - 1)) then (if (wrap64 ((x0.length : Int) - 1)) < (x0.length : Int) then (if (rd x0 (wrap64 ((x0.length : Int) - 1))) = 0 then (if (wrap64 ((x0.length : Int) - 1)) ≤ (x0.length : Int) then (plumbref04_cut.l0 k (x0.take ((wrap64 ((x0.length : Int) - 1)) : Int).toNat)) else (none)) else (some x0)) else (none)) else (none)) else (some x0)
def plumbref04_cut.f (k : Nat) (l0 : List Int) : Option (List Int) := plumbref04_cut.l0 k l0
set_option maxHeartbeats 8000000 in
set_option maxRecDepth 100000 in
theorem plumbref04_cut.calls (k : Nat) (P0_ : Nat → Prop) (u9000_ : Value) (l0 : List Int) (r : List Int) (w0 w : World) (hB : Below w0.heap.size w0 w) (ho0 : Kd.R (Kd.int .u64) 36 w w0.heap.size P0_ u9000_ l0) (h : plumbref04_cut.f k l0 = some r) :
  Calls Tryd.prog 31 #[u9000_] w fun e w' => ∃ v0_ : Value, e = .returned (v0_) ∧ Kd.R (Kd.int .u64) 36 w' w0.heap.size (fun k_ => (P0_ k_ ∨ w.heap.size ≤ k_)) v0_ r ∧ Below w0.heap.size w0 w' ∧ Kept w w' (fun k_ => P0_ k_) := by
 have HO0 := aM (show Kd.R (Kd.int .u64) 36 w w0.heap.size (fun k_ => (P0_ k_ ∨ w.heap.size ≤ k_)) u9000_ l0 from Kd.R_mono ho0 (fun k_ hk => (.inl hk)))
 have HK := aM (Kept.refl w (fun k_ => P0_ k_))
 have HW0 := aM hB.size
 have HB := aM hB
 clear hB
 have H := h
 clear h
 unfold plumbref04_cut.f at H
 have H' := aM H
 clear H
 go_enter Tryd.func31, Tryd.ntmps31
 go_wp2
 go_loopg [0] k (fun kq v0 w' => ∃ (x0_1 : List Int), Aside0 (plumbref04_cut.l0 kq x0_1 = some r) ∧ Aside0 (kq ≤ k) ∧ Aside0 (Kd.R (Kd.int .u64) 36 w' w0.heap.size (fun k_ => (P0_ k_ ∨ w.heap.size ≤ k_)) v0 x0_1) ∧ Aside0 (Kept w w' (fun k_ => P0_ k_)) ∧ Aside0 (Below w0.heap.size w0 w'))
 case atStart => exact ⟨(l0), H', ⟨Nat.le_refl _⟩, ⟨dR HO0.out⟩, ⟨by repeat (first | (with_reducible first | exact HK.out | apply Kept.alloc | apply Kept.drewN | apply Kept.drew) | exact HK.out)⟩, ⟨dB⟩⟩
 case round =>
  clear H'
  obtain ⟨x0_1, HA, HK1, HO_0, HK, HB⟩ := hrel
  cases gk with
  | zero => exact absurd HA.out (by simp [plumbref04_cut.l0])
  | succ k1 =>
   have H := HA.out
   clear HA
   simp only [plumbref04_cut.l0] at H
   by_cases c2 : (x0_1.length : Int) > 0
   ·rw [if_pos c2] at H
    have c2b0 : decide (0 < (x0_1.length : Int)) = true := decide_eq_true c2
    have c2b1 : decide (0 < x0_1.length) = true := decide_eq_true (by omega)
    clear c2
    obtain ⟨ji3, hji3⟩ : ∃ j_ : Int, (wrap64 ((x0_1.length : Int) - 1)) = j_ := ⟨_, rfl⟩
    first | rw [hji3] at H | simp only [hji3] at H
    have hji3w : (IntKind.i64.wrap ((x0_1.length : Int) - 1)) = ji3 := (i64_w _).trans hji3
    replace H := nO H
    obtain ⟨c4, H⟩ := H
    have c4b0 : decide (0 ≤ (ji3)) = true := decide_eq_true c4
    clear c4
    replace H := nO H
    obtain ⟨c5, H⟩ := H
    have c5b0 := decide_eq_true c5
    clear c5
    by_cases c6 : (rd x0_1 (ji3)) = 0
    ·rw [if_pos c6] at H
     obtain ⟨c6b0, c6b1⟩ := bT c6
     clear c6
     replace H := nO H
     obtain ⟨c7, H⟩ := H
     have c7b0 := eq_true c7
     have c7b1 := decide_eq_true c7
     clear c7
     obtain ⟨y205, hy205⟩ : ∃ y_ : List Int, y_ = (x0_1.take ((ji3) : Int).toNat) := ⟨_, rfl⟩
     replace H : (plumbref04_cut.l0 k1 y205) = some r := by first | (rw [hy205]; with_reducible exact H) | (have H2_ := (Option.bind_some _ _).symm.trans H; rw [hy205]; with_reducible exact H2_) | (have H2_ := (Option.bind_some _ _).symm.trans H; with_reducible exact H2_) | with_reducible exact H | (rw [hy205]; exact H) | exact H
     have Ny205 := aM hy205
     clear hy205
     have H' := aM H
     clear H
     obtain ⟨Ao8, co8, rfl⟩ := Kd.R_slice HO_0.out
     have p204 : 0 ≤ ((ji3) : Int) := of_decide_eq_true dS
     have q204 : (ji3) < (x0_1.length : Int) := of_decide_eq_true dS
     obtain ⟨ad204, e204, hx204_0⟩ := Kd.at_int (Kd.R_reads' HO_0.out).2.2 (ji3) p204 q204
     cases e204
     replace p204 := eq_true p204
     replace q204 := eq_true q204
     have q9 : ((ji3) : Int) ≤ ((x0_1.length : Int) : Int) := of_decide_eq_true dS
     obtain ⟨i09, hi09, _, hsz9, _⟩ := info_parts info36
     have hcut9 := cut_to (P := Tryd.prog) 22 36 .i64 Tryd.underlying22 hi09 (some ad204) x0_1.length co8 (ji3) (of_decide_eq_true dS) q9 (Kd.R_reads' HO_0.out).2.1
     have hr9 := Kd.R_take (m := ((ji3) : Int).toNat) HO_0.out (by omega)
     have hy9 : y205.length = ((ji3) : Int).toNat := (by rw [Ny205.out, List.length_take]; omega)
     rw [← Ny205.out] at hr9
     rw [← hy9] at hr9 hcut9
     clear hy9 hi09 hsz9 HO_0
     have HO207 := aM hr9
     clear hr9
     replace q9 := eq_true q9
     go_wp2
     go_roundg k1
     case measure => have := HK1.out; omega
     case rel => exact ⟨(y205), H', ⟨by have := HK1.out; omega⟩, ⟨dR HO207.out⟩, ⟨by repeat (first | (with_reducible first | exact HK.out | apply Kept.alloc | apply Kept.drewN | apply Kept.drew) | exact HK.out)⟩, ⟨dB⟩⟩
    ·rw [if_neg c6] at H
     obtain ⟨c6b0, c6b1⟩ := bF c6
     obtain rfl := Option.some.inj H
     obtain ⟨Ao10, co10, rfl⟩ := Kd.R_slice HO_0.out
     have p204 : 0 ≤ ((ji3) : Int) := of_decide_eq_true dS
     have q204 : (ji3) < (x0_1.length : Int) := of_decide_eq_true dS
     obtain ⟨ad204, e204, hx204_0⟩ := Kd.at_int (Kd.R_reads' HO_0.out).2.2 (ji3) p204 q204
     cases e204
     replace p204 := eq_true p204
     replace q204 := eq_true q204
     go_wp2
     go_ret
     exact ⟨_, by first | rfl | (simp [errW_none, errW_some] <;> rfl) | (simp only [← hji3]; first | rfl | (simp [errW_none, errW_some] <;> rfl)) | (simp [*, errW_none, errW_some] <;> rfl), dR HO_0.out, dB, by repeat (first | (with_reducible first | exact HK.out | apply Kept.alloc | apply Kept.drewN | apply Kept.drew) | exact HK.out)⟩
   ·rw [if_neg c2] at H
    have c2b0 : decide (0 < (x0_1.length : Int)) = false := decide_eq_false c2
    have c2b1 : decide (0 < x0_1.length) = false := decide_eq_false (by omega)
    clear c2
    obtain rfl := Option.some.inj H
    obtain ⟨Ao11, co11, rfl⟩ := Kd.R_slice HO_0.out
    go_wp2
    go_ret
    exact ⟨_, dE, dR HO_0.out, dB, by repeat (first | (with_reducible first | exact HK.out | apply Kept.alloc | apply Kept.drewN | apply Kept.drew) | exact HK.out)⟩
def plumbref04_words.l0 : Nat → List Int → List Int → Int → Option (List Int)
 | 0, _, _, _ => none
 | k + 1, x0, x3, x4 => if x4 < (x0.length : Int) then (if 0 ≤ x4 then (if (wrap64 (x4 + 1)) < (x0.length : Int) then (if 0 ≤ (wrap64 (x4 + 1)) then (if x3.length < 17592186044416 then (plumbref04_words.l0 k x0 (x3 ++ [Go.bits .or .u64 (rd x0 x4) (IntKind.u64.wrap ((rd x0 (wrap64 (x4 + 1))) * 4294967296))]) (wrap64 (x4 + 2))) else (none)) else (none)) else (if x3.length < 17592186044416 then (plumbref04_words.l0 k x0 (x3 ++ [rd x0 x4]) (wrap64 (x4 + 2))) else (none))) else (none)) else ((plumbref04_cut.f k x3).bind fun t216 => (some t216))
def plumbref04_words.f (k : Nat) (l0 : List Int) : Option (List Int) := plumbref04_words.l0 k l0 ([] : List Int) 0
set_option maxHeartbeats 8000000 in
set_option maxRecDepth 100000 in
theorem plumbref04_words.calls (k : Nat) (A0 : Option Addr) (c0 : Nat) (l0 : List Int) (r : List Int) (w : World) (hr0 : Kd.C (Kd.int .u64) w A0 l0.length l0) (hc0 : l0.length ≤ c0) (h : plumbref04_words.f k l0 = some r) :
  Calls Tryd.prog 19 #[.slice A0 l0.length c0] w fun e w' => ∃ v0_ : Value, e = .returned (v0_) ∧ Kd.R (Kd.int .u64) 36 w' w.heap.size (fun _ => True) v0_ r ∧ Below w.heap.size w w' := by
 have HR0 := aM hr0
 have HC0 := aM hc0
 clear hr0 hc0
 have HB := aM (Below.refl w.heap.size w)
 have H := h
 clear h
 unfold plumbref04_words.f at H
 have H' := aM H
 clear H
 go_enter Tryd.func19, Tryd.ntmps19
 go_wp2
 go_loopg [3, 4] k (fun kq v3 v4 w' => ∃ (x3_1 : List Int) (x4_1 : Int), v4 = .int .i64 x4_1 ∧ Aside0 (plumbref04_words.l0 kq l0 x3_1 x4_1 = some r) ∧ Aside0 (kq ≤ k) ∧ Aside0 (Kd.R (Kd.int .u64) 36 w' w.heap.size (fun _ => True) v3 x3_1) ∧ Aside0 (Below w.heap.size w w'))
 case atStart => exact ⟨(([] : List Int)), (0), dF, H', ⟨Nat.le_refl _⟩, ⟨by first | exact Kd.R_nil _ _ _ _ _ | exact Kd.N_nil _ _ _ _ _ | exact Kd.V_nil _ _ _ _ _ | exact Kd.Q_nil _ _ _ _ _ | exact Kd.S_nil _ _ _ _ _⟩, ⟨dB⟩⟩
 case round =>
  clear H'
  obtain ⟨x3_1, x4_1, rfl, HA, HK1, HO_3, HB⟩ := hrel
  cases gk with
  | zero => exact absurd HA.out (by simp [plumbref04_words.l0])
  | succ k1 =>
   have H := HA.out
   clear HA
   simp only [plumbref04_words.l0] at H
   by_cases c2 : x4_1 < (l0.length : Int)
   ·rw [if_pos c2] at H
    have c2b0 := decide_eq_true c2
    clear c2
    replace H := nO H
    obtain ⟨c3, H⟩ := H
    have c3b0 : decide (0 ≤ x4_1) = true := decide_eq_true c3
    clear c3
    by_cases c4 : (wrap64 (x4_1 + 1)) < (l0.length : Int)
    ·rw [if_pos c4] at H
     have c4b0 := decide_eq_true c4
     clear c4
     obtain ⟨ji5, hji5⟩ : ∃ j_ : Int, (wrap64 (x4_1 + 1)) = j_ := ⟨_, rfl⟩
     first | rw [hji5] at H | simp only [hji5] at H
     (try rw [hji5] at c4b0)
     have hji5w : (IntKind.i64.wrap (x4_1 + 1)) = ji5 := (i64_w _).trans hji5
     replace H := nO H
     obtain ⟨c6, H⟩ := H
     have c6b0 : decide (0 ≤ (ji5)) = true := decide_eq_true c6
     clear c6
     replace H := nO H
     obtain ⟨c7, H⟩ := H
     have LMc7 := aM c7
     clear c7
     obtain ⟨y210, hy210⟩ : ∃ y_ : List Int, y_ = (x3_1 ++ [Go.bits .or .u64 (rd l0 x4_1) (IntKind.u64.wrap ((rd l0 (ji5)) * 4294967296))]) := ⟨_, rfl⟩
     replace H : (plumbref04_words.l0 k1 l0 y210 (wrap64 (x4_1 + 2))) = some r := by first | (rw [hy210]; with_reducible exact H) | (have H2_ := (Option.bind_some _ _).symm.trans H; rw [hy210]; with_reducible exact H2_) | (have H2_ := (Option.bind_some _ _).symm.trans H; with_reducible exact H2_) | with_reducible exact H | (rw [hy210]; exact H) | exact H
     have Ny210 := aM hy210
     clear hy210
     have H' := aM H
     clear H
     have p208 : 0 ≤ (x4_1 : Int) := of_decide_eq_true dS
     have q208 : x4_1 < (l0.length : Int) := of_decide_eq_true dS
     obtain ⟨ad208, e208, hx208_0⟩ := Kd.at_int HR0.out x4_1 p208 q208
     cases e208
     replace hx208_0 := (HB.out.cell (World.block_lt_of_cell? w _ hx208_0)).trans hx208_0
     replace p208 := eq_true p208
     replace q208 := eq_true q208
     have p209 : 0 ≤ ((ji5) : Int) := of_decide_eq_true dS
     have q209 : (ji5) < (l0.length : Int) := of_decide_eq_true dS
     obtain ⟨ad209, e209, hx209_0⟩ := Kd.at_int HR0.out (ji5) p209 q209
     obtain rfl : ad208 = ad209 := (by injection e209)
     replace hx209_0 := (HB.out.cell (World.block_lt_of_cell? w _ hx209_0)).trans hx209_0
     replace p209 := eq_true p209
     replace q209 := eq_true q209
     go_wp2_with (first | ((with_reducible refine gate_builtin (b := .append) (xs := #[.tmp 29, .tmp 31]) rfl ?_); at_builtin; refine Kd.R_append (Kd.int .u64) (w0 := w) w.heap.size rfl (.tmp 29) (.tmp 31) 22 36 (.int .u64 0) 8 rfl Tryd.underlying22 info36 rfl (by decide) (by omega) u3 x3_1 (Go.bits .or .u64 (rd l0 x4_1) (IntKind.u64.wrap ((rd l0 (ji5)) * 4294967296))) [.int .u64 (Go.bits .or .u64 (rd l0 x4_1) (IntKind.u64.wrap ((rd l0 (ji5)) * 4294967296)))] (fun _ => True) (fun _ => False) rfl rfl ?aP (fun _ hk => hk.elim) ?aF ?aO ?aB ?aS ?aL ?_; (case aP => exact rfl); (case aB => exact dB); (case aF => exact (fun _ _ => trivial)); (case aO => exact (dR HO_3.out)); (case aS => exact (below_size dB)); (case aL => have := LMc7.out; omega); intro v211 w8 ho hb hg hat; rw [← Ny210.out] at ho; replace HB := aM (hb); have HO212 := aM (ho); clear HO_3; clear ho hb hg hat))
     go_roundg k1
     case measure => have := HK1.out; omega
     case rel => exact ⟨(y210), (wrap64 (x4_1 + 2)), dF, H', ⟨by have := HK1.out; omega⟩, ⟨dR HO212.out⟩, ⟨dB⟩⟩
    ·rw [if_neg c4] at H
     have c4b0 := decide_eq_false c4
     clear c4
     replace H := nO H
     obtain ⟨c9, H⟩ := H
     have LMc9 := aM c9
     clear c9
     obtain ⟨y213, hy213⟩ : ∃ y_ : List Int, y_ = (x3_1 ++ [rd l0 x4_1]) := ⟨_, rfl⟩
     replace H : (plumbref04_words.l0 k1 l0 y213 (wrap64 (x4_1 + 2))) = some r := by first | (rw [hy213]; with_reducible exact H) | (have H2_ := (Option.bind_some _ _).symm.trans H; rw [hy213]; with_reducible exact H2_) | (have H2_ := (Option.bind_some _ _).symm.trans H; with_reducible exact H2_) | with_reducible exact H | (rw [hy213]; exact H) | exact H
     have Ny213 := aM hy213
     clear hy213
     have H' := aM H
     clear H
     have p208 : 0 ≤ (x4_1 : Int) := of_decide_eq_true dS
     have q208 : x4_1 < (l0.length : Int) := of_decide_eq_true dS
     obtain ⟨ad208, e208, hx208_0⟩ := Kd.at_int HR0.out x4_1 p208 q208
     cases e208
     replace hx208_0 := (HB.out.cell (World.block_lt_of_cell? w _ hx208_0)).trans hx208_0
     replace p208 := eq_true p208
     replace q208 := eq_true q208
     go_wp2_with (first | ((with_reducible refine gate_builtin (b := .append) (xs := #[.tmp 29, .tmp 31]) rfl ?_); at_builtin; refine Kd.R_append (Kd.int .u64) (w0 := w) w.heap.size rfl (.tmp 29) (.tmp 31) 22 36 (.int .u64 0) 8 rfl Tryd.underlying22 info36 rfl (by decide) (by omega) u3 x3_1 (rd l0 x4_1) [.int .u64 (rd l0 x4_1)] (fun _ => True) (fun _ => False) rfl rfl ?aP (fun _ hk => hk.elim) ?aF ?aO ?aB ?aS ?aL ?_; (case aP => exact rfl); (case aB => exact dB); (case aF => exact (fun _ _ => trivial)); (case aO => exact (dR HO_3.out)); (case aS => exact (below_size dB)); (case aL => have := LMc9.out; omega); intro v214 w10 ho hb hg hat; rw [← Ny213.out] at ho; replace HB := aM (hb); have HO215 := aM (ho); clear HO_3; clear ho hb hg hat))
     go_roundg k1
     case measure => have := HK1.out; omega
     case rel => exact ⟨(y213), (wrap64 (x4_1 + 2)), dF, H', ⟨by have := HK1.out; omega⟩, ⟨dR HO215.out⟩, ⟨dB⟩⟩
   ·rw [if_neg c2] at H
    have c2b0 := decide_eq_false c2
    clear c2
    replace H := oA H
    obtain ⟨t216, A11, H⟩ := H
    (try dsimp only at H)
    obtain rfl := Option.some.inj H
    obtain ⟨Ao12, co12, rfl⟩ := Kd.R_slice HO_3.out
    go_wp2_with (first | ((with_reducible refine gate_callee (f := 31) rfl ?_); refine gL (some 34) Tryd.func31 #[.slice Ao12 x3_1.length co12] ?_; (with_reducible refine (plumbref04_cut.calls k1 (fun k_ => some k_ = (.slice Ao12 x3_1.length co12 : Value).ownBlock) (.slice Ao12 x3_1.length co12) x3_1 t216 w _ ?side1 ?side2 A11.out).mono ?_); (case side1 => repeat (first | (with_reducible first | exact HB.out | apply below_alloc | apply pw_below_drewN | apply below_drew1) | exact HB.out)); (case side2 => exact Kd.R_tight rfl HO_3.out); rintro e w13 ⟨v217, rfl, ho0, hb, hkp⟩; refine ⟨_, rfl, ?_⟩; have HO218 := aM (Kd.R_mono (ok' := fun k_ => True) ho0 (fun k_ hk_ => trivial)); replace HB := aM (hb); clear HO_3; (try clear hb); (try clear hkp); (try clear ho0)))
    go_ret
    exact ⟨_, dE, dR HO218.out, dB⟩
mutual
def plumbref04_Parse.j0 : Nat → ByteArray → Int → Bool → Option (List Int × Int × Int)
 | 0, _, _, _ => none
 | k + 1, x0, x1, x18 => if x18 = true then (some (([] : List Int), 40, 0)) else (if (x0.size : Int) = 0 then (some (([] : List Int), 41, 0)) else (plumbref04_Parse.l0 k x0 x1 0 0))
def plumbref04_Parse.l0 : Nat → ByteArray → Int → Int → Int → Option (List Int × Int × Int)
 | 0, _, _, _, _ => none
 | k + 1, x0, x1, x7, x8 => if x8 < (x0.size : Int) then (if 0 ≤ x8 then ((plumbref04_value.f k (bt x0 x8)).bind fun t219 => (if t219 ≥ x1 then (some (([] : List Int), 41, x8)) else (if (bt x0 x8) = 48 then (if x8 = x7 then (plumbref04_Parse.l0 k x0 x1 (wrap64 (x7 + 1)) (wrap64 (x8 + 1))) else (plumbref04_Parse.l0 k x0 x1 x7 (wrap64 (x8 + 1)))) else (plumbref04_Parse.l0 k x0 x1 x7 (wrap64 (x8 + 1)))))) else (none)) else (plumbref04_Parse.l1 k x0 x1 x7 1)
def plumbref04_Parse.l1 : Nat → ByteArray → Int → Int → Int → Option (List Int × Int × Int)
 | 0, _, _, _, _ => none
 | k + 1, x0, x1, x7, x9 => if 0 ≤ x9 then (if x1 ≥ (shl .i64 2 x9) then (plumbref04_Parse.l1 k x0 x1 x7 (wrap64 (x9 + 1))) else (if (wrap64 ((wrap64 ((wrap64 ((x0.size : Int) - x7)) - 1)) * x9)) ≥ 262144 then (some (([] : List Int), 21, 0)) else (plumbref04_Parse.l2 k x0 x1 ([] : List Int) x7))) else (none)
def plumbref04_Parse.l2 : Nat → ByteArray → Int → List Int → Int → Option (List Int × Int × Int)
 | 0, _, _, _, _ => none
 | k + 1, x0, x1, x10, x11 => if x11 < (x0.size : Int) then (if 0 ≤ x11 then ((plumbref04_value.f k (bt x0 x11)).bind fun t220 => ((plumbref04_put.f k x10 (IntKind.u64.wrap (x1)) (IntKind.u64.wrap (t220))).bind fun t221 => (plumbref04_Parse.l2 k x0 x1 t221 (wrap64 (x11 + 1))))) else (none)) else ((plumbref04_words.f k x10).bind fun t224 => (if (t224.length : Int) > 4096 then (some (([] : List Int), 21, 0)) else (some (t224, 0, (-1)))))
end
def plumbref04_Parse.f (k : Nat) (a0 : ByteArray) (a1 : Int) : Option (List Int × Int × Int) := if a1 < 2 then (plumbref04_Parse.j0 k a0 a1 true) else (plumbref04_Parse.j0 k a0 a1 (decide (a1 > 36)))
set_option maxHeartbeats 8000000 in
set_option maxRecDepth 100000 in
theorem plumbref04_Parse.calls (k : Nat) (a0 : ByteArray) (a1 : Int) (r1 : List Int) (r2 : Int) (r3 : Int) (w : World) (h : plumbref04_Parse.f k a0 a1 = some (r1, r2, r3)) :
  Calls Tryd.prog 5 #[.string a0, .int .i64 a1] w fun e w' => ∃ v0_ : Value, e = .returned (.tuple #[v0_, .int .i64 r2, .int .i64 r3]) ∧ Kd.R (Kd.int .u64) 36 w' w.heap.size (fun _ => True) v0_ r1 ∧ Below w.heap.size w w' := by
 have HB := aM (Below.refl w.heap.size w)
 have H := h
 clear h
 unfold plumbref04_Parse.f at H
 have HC3 := aM H
 clear H
 go_enter Tryd.func5, Tryd.ntmps5
 go_upto_region 1 with (fail)
 go_cut [18] (fun v18 wc => ∃ (kq : Nat) (x18_2 : Bool), v18 = .bool x18_2 ∧ Aside0 (plumbref04_Parse.j0 kq a0 a1 x18_2 = some (r1, r2, r3)) ∧ Aside0 (kq ≤ k) ∧ Aside0 (Below w.heap.size w wc))
 case first =>
  have H := HC3.out
  clear HC3
  by_cases c4 : a1 < 2
  ·rw [if_pos c4] at H
   have c4b0 := decide_eq_true c4
   clear c4
   (first | rw [c4b0] | (simp only [i64_w, i32_w]; rw [c4b0]) | skip)
   have H' := aM H
   clear H
   go_wp2
   go_meet
   case rel => exact ⟨_, (true), dF, H', ⟨dN⟩, ⟨dB⟩⟩
  ·rw [if_neg c4] at H
   have c4b0 := decide_eq_false c4
   clear c4
   (first | rw [c4b0] | (simp only [i64_w, i32_w]; rw [c4b0]) | skip)
   have H' := aM H
   clear H
   go_wp2
   go_meet
   case rel => exact ⟨_, (decide (a1 > 36)), dF, H', ⟨dN⟩, ⟨dB⟩⟩
 case rest =>
  clear HC3
  obtain ⟨kq, x18_2, rfl, HA, HJ2, HB⟩ := hcut
  cases kq with
  | zero => exact absurd HA.out (by simp [plumbref04_Parse.j0])
  | succ kj2 =>
   have H := HA.out
   clear HA
   simp only [plumbref04_Parse.j0] at H
   by_cases c5 : x18_2 = true
   ·subst c5
    rw [if_pos rfl] at H
    (try dsimp only at H)
    simp only [Option.some.injEq, Prod.mk.injEq] at H
    obtain ⟨rfl, rfl, rfl⟩ := H
    go_wp2
    go_ret3
    exact ⟨_, dE, by first | exact Kd.R_nil _ _ _ _ _ | exact Kd.N_nil _ _ _ _ _ | exact Kd.V_nil _ _ _ _ _ | exact Kd.Q_nil _ _ _ _ _ | exact Kd.S_nil _ _ _ _ _, dB⟩
   ·replace c5 := Bool.eq_false_iff.mpr c5
    subst c5
    rw [if_neg (show ¬ (false = true) by decide)] at H
    (try dsimp only at H)
    by_cases c6 : (a0.size : Int) = 0
    ·rw [if_pos c6] at H
     obtain ⟨c6b0, c6b1⟩ := bT c6
     clear c6
     simp only [Option.some.injEq, Prod.mk.injEq] at H
     obtain ⟨rfl, rfl, rfl⟩ := H
     go_wp2
     go_ret3
     exact ⟨_, dE, by first | exact Kd.R_nil _ _ _ _ _ | exact Kd.N_nil _ _ _ _ _ | exact Kd.V_nil _ _ _ _ _ | exact Kd.Q_nil _ _ _ _ _ | exact Kd.S_nil _ _ _ _ _, dB⟩
    ·rw [if_neg c6] at H
     obtain ⟨c6b0, c6b1⟩ := bF c6
     have H' := aM H
     clear H
     go_wp2
     go_loopg [7, 8] kj2 (fun kq v7 v8 w' => ∃ (x7_2 : Int) (x8_2 : Int), v7 = .int .i64 x7_2 ∧ v8 = .int .i64 x8_2 ∧ Aside0 (plumbref04_Parse.l0 kq a0 a1 x7_2 x8_2 = some (r1, r2, r3)) ∧ Aside0 (kq ≤ kj2) ∧ Aside0 (Below w.heap.size w w'))
     case atStart => exact ⟨(0), (0), dF, dF, H', ⟨Nat.le_refl _⟩, ⟨dB⟩⟩
     case round =>
      clear H'
      try clear c5
      try clear c6
      try clear c6b0 c6b1
      obtain ⟨x7_2, x8_2, rfl, rfl, HA, HK2, HB⟩ := hrel
      cases gk with
      | zero => exact absurd HA.out (by simp [plumbref04_Parse.l0])
      | succ k2 =>
       have H := HA.out
       clear HA
       simp only [plumbref04_Parse.l0] at H
       by_cases c7 : x8_2 < (a0.size : Int)
       ·rw [if_pos c7] at H
        have c7b0 := decide_eq_true c7
        clear c7
        replace H := nO H
        obtain ⟨c8, H⟩ := H
        have c8b0 : decide (0 ≤ x8_2) = true := decide_eq_true c8
        clear c8
        replace H := oA H
        obtain ⟨t219, A10, H⟩ := H
        (try dsimp only at H)
        by_cases c11 : t219 ≥ a1
        ·rw [if_pos c11] at H
         have c11b0 : decide (a1 ≤ t219) = true := decide_eq_true c11
         clear c11
         simp only [Option.some.injEq, Prod.mk.injEq] at H
         obtain ⟨rfl, rfl, rfl⟩ := H
         have p9 : 0 ≤ (x8_2 : Int) := of_decide_eq_true dS
         have q9 : x8_2 < (a0.size : Int) := of_decide_eq_true dS
         have hx9 := bt_at a0 x8_2
         replace p9 := eq_true p9
         replace q9 := eq_true q9
         go_wp2_with (first | ((with_reducible refine gate_callee (f := 17) rfl ?_); refine gL (some 31) Tryd.func17 #[.int .u8 (bt a0 x8_2)] ?_; (with_reducible refine (plumbref04_value.calls k2 (bt a0 x8_2) t219 _ A10.out).mono ?_); rintro e w' ⟨rfl, ⟨nd, rfl⟩⟩; refine ⟨_, rfl, ?_⟩))
         go_ret3
         exact ⟨_, dE, by first | exact Kd.R_nil _ _ _ _ _ | exact Kd.N_nil _ _ _ _ _ | exact Kd.V_nil _ _ _ _ _ | exact Kd.Q_nil _ _ _ _ _ | exact Kd.S_nil _ _ _ _ _, dB⟩
        ·rw [if_neg c11] at H
         have c11b0 : decide (a1 ≤ t219) = false := decide_eq_false c11
         clear c11
         by_cases c13 : (bt a0 x8_2) = 48
         ·rw [if_pos c13] at H
          obtain ⟨c13b0, c13b1⟩ := bT c13
          clear c13
          by_cases c14 : x8_2 = x7_2
          ·rw [if_pos c14] at H
           obtain ⟨c14b0, c14b1⟩ := bT c14
           clear c14
           have H' := aM H
           clear H
           have p9 : 0 ≤ (x8_2 : Int) := of_decide_eq_true dS
           have q9 : x8_2 < (a0.size : Int) := of_decide_eq_true dS
           have hx9 := bt_at a0 x8_2
           replace p9 := eq_true p9
           replace q9 := eq_true q9
           go_wp2_with (first | ((with_reducible refine gate_callee (f := 17) rfl ?_); refine gL (some 31) Tryd.func17 #[.int .u8 (bt a0 x8_2)] ?_; (with_reducible refine (plumbref04_value.calls k2 (bt a0 x8_2) t219 _ A10.out).mono ?_); rintro e w' ⟨rfl, ⟨nd, rfl⟩⟩; refine ⟨_, rfl, ?_⟩; have p12 : 0 ≤ (x8_2 : Int) := of_decide_eq_true dS; have q12 : x8_2 < (a0.size : Int) := of_decide_eq_true dS; have hx12 := bt_at a0 x8_2; replace p12 := eq_true p12; replace q12 := eq_true q12))
           go_roundg k2
           case measure => have := HJ2.out; have := HK2.out; omega
           case rel => exact ⟨(wrap64 (x7_2 + 1)), (wrap64 (x8_2 + 1)), dF, dF, H', ⟨by have := HJ2.out; have := HK2.out; omega⟩, ⟨dB⟩⟩
          ·rw [if_neg c14] at H
           obtain ⟨c14b0, c14b1⟩ := bF c14
           have H' := aM H
           clear H
           have p9 : 0 ≤ (x8_2 : Int) := of_decide_eq_true dS
           have q9 : x8_2 < (a0.size : Int) := of_decide_eq_true dS
           have hx9 := bt_at a0 x8_2
           replace p9 := eq_true p9
           replace q9 := eq_true q9
           go_wp2_with (first | ((with_reducible refine gate_callee (f := 17) rfl ?_); refine gL (some 31) Tryd.func17 #[.int .u8 (bt a0 x8_2)] ?_; (with_reducible refine (plumbref04_value.calls k2 (bt a0 x8_2) t219 _ A10.out).mono ?_); rintro e w' ⟨rfl, ⟨nd, rfl⟩⟩; refine ⟨_, rfl, ?_⟩; have p12 : 0 ≤ (x8_2 : Int) := of_decide_eq_true dS; have q12 : x8_2 < (a0.size : Int) := of_decide_eq_true dS; have hx12 := bt_at a0 x8_2; replace p12 := eq_true p12; replace q12 := eq_true q12))
           go_roundg k2
           case measure => have := HJ2.out; have := HK2.out; omega
           case rel => exact ⟨(x7_2), (wrap64 (x8_2 + 1)), dF, dF, H', ⟨by have := HJ2.out; have := HK2.out; omega⟩, ⟨dB⟩⟩
         ·rw [if_neg c13] at H
          obtain ⟨c13b0, c13b1⟩ := bF c13
          have H' := aM H
          clear H
          have p9 : 0 ≤ (x8_2 : Int) := of_decide_eq_true dS
          have q9 : x8_2 < (a0.size : Int) := of_decide_eq_true dS
          have hx9 := bt_at a0 x8_2
          replace p9 := eq_true p9
          replace q9 := eq_true q9
          go_wp2_with (first | ((with_reducible refine gate_callee (f := 17) rfl ?_); refine gL (some 31) Tryd.func17 #[.int .u8 (bt a0 x8_2)] ?_; (with_reducible refine (plumbref04_value.calls k2 (bt a0 x8_2) t219 _ A10.out).mono ?_); rintro e w' ⟨rfl, ⟨nd, rfl⟩⟩; refine ⟨_, rfl, ?_⟩; have p12 : 0 ≤ (x8_2 : Int) := of_decide_eq_true dS; have q12 : x8_2 < (a0.size : Int) := of_decide_eq_true dS; have hx12 := bt_at a0 x8_2; replace p12 := eq_true p12; replace q12 := eq_true q12))
          go_roundg k2
          case measure => have := HJ2.out; have := HK2.out; omega
          case rel => exact ⟨(x7_2), (wrap64 (x8_2 + 1)), dF, dF, H', ⟨by have := HJ2.out; have := HK2.out; omega⟩, ⟨dB⟩⟩
       ·rw [if_neg c7] at H
        have c7b0 := decide_eq_false c7
        clear c7
        have H' := aM H
        clear H
        go_wp2
        go_loopg [9] k2 (fun kq v9 w' => ∃ (x9_3 : Int), v9 = .int .i64 x9_3 ∧ Aside0 (plumbref04_Parse.l1 kq a0 a1 x7_2 x9_3 = some (r1, r2, r3)) ∧ Aside0 (kq ≤ k2) ∧ Aside0 (Below w.heap.size w w'))
        case atStart => exact ⟨(1), dF, H', ⟨Nat.le_refl _⟩, ⟨dB⟩⟩
        case round =>
         clear H'
         try clear c5
         try clear c6
         try clear c6b0 c6b1
         try clear c7
         try clear c7b0
         obtain ⟨x9_3, rfl, HA, HK3, HB⟩ := hrel
         cases gk with
         | zero => exact absurd HA.out (by simp [plumbref04_Parse.l1])
         | succ k3 =>
          have H := HA.out
          clear HA
          simp only [plumbref04_Parse.l1] at H
          replace H := nO H
          obtain ⟨c15, H⟩ := H
          have c15b0 := eq_true c15
          have c15b1 : decide (0 ≤ x9_3) = true := decide_eq_true c15
          clear c15
          obtain ⟨ji16, hji16⟩ : ∃ j_ : Int, (shl .i64 2 x9_3) = j_ := ⟨_, rfl⟩
          first | rw [hji16] at H | simp only [hji16] at H
          have hji16_ : (IntKind.i64.wrap (2 * 2 ^ min x9_3.toNat 64)) = ji16 := hji16
          have hji16z : x9_3 ≤ 64 → (IntKind.i64.wrap (2 * 2 ^ x9_3.toNat)) = ji16 := shl_small hji16
          have hji16y : (wrap64 (2 * 2 ^ min x9_3.toNat 64)) = ji16 := (i64_w _).symm.trans hji16_
          have hji16x : x9_3 ≤ 64 → (wrap64 (2 * 2 ^ x9_3.toNat)) = ji16 := fun h_ => (i64_w _).symm.trans (hji16z h_)
          by_cases c17 : a1 ≥ (ji16)
          ·rw [if_pos c17] at H
           have c17b0 : decide ((ji16) ≤ a1) = true := decide_eq_true c17
           clear c17
           have H' := aM H
           clear H
           go_wp2
           go_roundg k3
           case measure => have := HJ2.out; have := HK2.out; have := HK3.out; omega
           case rel => exact ⟨(wrap64 (x9_3 + 1)), dF, H', ⟨by have := HJ2.out; have := HK2.out; have := HK3.out; omega⟩, ⟨dB⟩⟩
          ·rw [if_neg c17] at H
           have c17b0 : decide ((ji16) ≤ a1) = false := decide_eq_false c17
           clear c17
           by_cases c18 : (wrap64 ((wrap64 ((wrap64 ((a0.size : Int) - x7_2)) - 1)) * x9_3)) ≥ 262144
           ·rw [if_pos c18] at H
            have c18b0 : decide (262144 ≤ (wrap64 ((wrap64 ((wrap64 ((a0.size : Int) - x7_2)) - 1)) * x9_3))) = true := decide_eq_true c18
            clear c18
            simp only [Option.some.injEq, Prod.mk.injEq] at H
            obtain ⟨rfl, rfl, rfl⟩ := H
            go_wp2
            go_ret3
            exact ⟨_, by first | rfl | (simp [errW_none, errW_some] <;> rfl) | (simp only [← hji16]; first | rfl | (simp [errW_none, errW_some] <;> rfl)) | (simp [*, errW_none, errW_some] <;> rfl), by first | exact Kd.R_nil _ _ _ _ _ | exact Kd.N_nil _ _ _ _ _ | exact Kd.V_nil _ _ _ _ _ | exact Kd.Q_nil _ _ _ _ _ | exact Kd.S_nil _ _ _ _ _, dB⟩
           ·rw [if_neg c18] at H
            have c18b0 : decide (262144 ≤ (wrap64 ((wrap64 ((wrap64 ((a0.size : Int) - x7_2)) - 1)) * x9_3))) = false := decide_eq_false c18
            clear c18
            have H' := aM H
            clear H
            go_wp2
            go_loopg [10, 11] k3 (fun kq v10 v11 w' => ∃ (x10_4 : List Int) (x11_4 : Int), v11 = .int .i64 x11_4 ∧ Aside0 (plumbref04_Parse.l2 kq a0 a1 x10_4 x11_4 = some (r1, r2, r3)) ∧ Aside0 (kq ≤ k3) ∧ Aside0 (Kd.R (Kd.int .u64) 36 w' w.heap.size (fun _ => True) v10 x10_4) ∧ Aside0 (Below w.heap.size w w'))
            case atStart => exact ⟨(([] : List Int)), (x7_2), dF, H', ⟨Nat.le_refl _⟩, ⟨by first | exact Kd.R_nil _ _ _ _ _ | exact Kd.N_nil _ _ _ _ _ | exact Kd.V_nil _ _ _ _ _ | exact Kd.Q_nil _ _ _ _ _ | exact Kd.S_nil _ _ _ _ _⟩, ⟨dB⟩⟩
            case round =>
             clear H'
             try clear c5
             try clear c6
             try clear c6b0 c6b1
             try clear c7
             try clear c7b0
             try clear c15
             try clear c15b0 c15b1
             try clear c17
             try clear c17b0
             try clear c18
             try clear c18b0
             obtain ⟨x10_4, x11_4, rfl, HA, HK4, HO_10, HB⟩ := hrel
             cases gk with
             | zero => exact absurd HA.out (by simp [plumbref04_Parse.l2])
             | succ k4 =>
              have H := HA.out
              clear HA
              simp only [plumbref04_Parse.l2] at H
              by_cases c19 : x11_4 < (a0.size : Int)
              ·rw [if_pos c19] at H
               have c19b0 := decide_eq_true c19
               clear c19
               replace H := nO H
               obtain ⟨c20, H⟩ := H
               have c20b0 : decide (0 ≤ x11_4) = true := decide_eq_true c20
               clear c20
               replace H := oA H
               obtain ⟨t220, A22, H⟩ := H
               (try dsimp only at H)
               replace H := oA H
               obtain ⟨t221, A23, H⟩ := H
               (try dsimp only at H)
               have H' := aM H
               clear H
               have p21 : 0 ≤ (x11_4 : Int) := of_decide_eq_true dS
               have q21 : x11_4 < (a0.size : Int) := of_decide_eq_true dS
               have hx21 := bt_at a0 x11_4
               replace p21 := eq_true p21
               replace q21 := eq_true q21
               go_wp2_with (first | ((with_reducible refine gate_callee (f := 17) rfl ?_); refine gL (some 73) Tryd.func17 #[.int .u8 (bt a0 x11_4)] ?_; (with_reducible refine (plumbref04_value.calls k4 (bt a0 x11_4) t220 _ A22.out).mono ?_); rintro e w' ⟨rfl, ⟨nd, rfl⟩⟩; refine ⟨_, rfl, ?_⟩; obtain ⟨Ao24, co24, rfl⟩ := Kd.R_slice HO_10.out) | ((with_reducible refine gate_callee (f := 18) rfl ?_); refine gL (some 75) Tryd.func18 #[.slice Ao24 x10_4.length co24, .int .u64 (IntKind.u64.wrap (a1)), .int .u64 (IntKind.u64.wrap (t220))] ?_; (with_reducible refine (plumbref04_put.calls k4 (fun k_ => some k_ = (.slice Ao24 x10_4.length co24 : Value).ownBlock) (.slice Ao24 x10_4.length co24) x10_4 (IntKind.u64.wrap (a1)) (IntKind.u64.wrap (t220)) t221 w _ ?side1 ?side2 A23.out).mono ?_); (case side1 => repeat (first | (with_reducible first | exact HB.out | apply below_alloc | apply pw_below_drewN | apply below_drew1) | exact HB.out)); (case side2 => exact Kd.R_tight rfl HO_10.out); rintro e w25 ⟨v222, rfl, ho0, hb, hkp⟩; refine ⟨_, rfl, ?_⟩; have HO223 := aM (Kd.R_mono (ok' := fun k_ => True) ho0 (fun k_ hk_ => trivial)); replace HB := aM (hb); clear HO_10; (try clear hb); (try clear hkp); (try clear ho0)))
               go_roundg k4
               case measure => have := HJ2.out; have := HK2.out; have := HK3.out; have := HK4.out; omega
               case rel => exact ⟨(t221), (wrap64 (x11_4 + 1)), dF, H', ⟨by have := HJ2.out; have := HK2.out; have := HK3.out; have := HK4.out; omega⟩, ⟨dR HO223.out⟩, ⟨dB⟩⟩
              ·rw [if_neg c19] at H
               have c19b0 := decide_eq_false c19
               clear c19
               replace H := oA H
               obtain ⟨t224, A26, H⟩ := H
               (try dsimp only at H)
               by_cases c27 : (t224.length : Int) > 4096
               ·rw [if_pos c27] at H
                have c27b0 : decide (4096 < (t224.length : Int)) = true := decide_eq_true c27
                have c27b1 : decide (4096 < t224.length) = true := decide_eq_true (by omega)
                clear c27
                simp only [Option.some.injEq, Prod.mk.injEq] at H
                obtain ⟨rfl, rfl, rfl⟩ := H
                obtain ⟨Ao28, co28, rfl⟩ := Kd.R_slice HO_10.out
                go_wp2_with (first | ((with_reducible refine gate_callee (f := 19) rfl ?_); refine gL (some 77) Tryd.func19 #[.slice Ao28 x10_4.length co28] ?_; (with_reducible refine (plumbref04_words.calls k4 _ _ x10_4 t224 _ ?side1 (Kd.R_reads' HO_10.out).2.1 A26.out).mono ?_); (case side1 => exact dC (Kd.R_reads' HO_10.out).2.2); rintro e w29 ⟨v225, rfl, ho0, hb⟩; refine ⟨_, rfl, ?_⟩; have HO226 := aM (Kd.R_lower (nW ho0 HO_10.out) (below_size dB)); replace HO_10 := oE HO_10.out ho0 hb; replace HB := hS HB.out hb; (try clear hb); (try clear ho0); obtain ⟨Ao30, co30, rfl⟩ := Kd.R_slice HO226.out))
                go_ret3
                exact ⟨_, by first | rfl | (simp [errW_none, errW_some] <;> rfl) | (simp only [← hji16]; first | rfl | (simp [errW_none, errW_some] <;> rfl)) | (simp [*, errW_none, errW_some] <;> rfl), by first | exact Kd.R_nil _ _ _ _ _ | exact Kd.N_nil _ _ _ _ _ | exact Kd.V_nil _ _ _ _ _ | exact Kd.Q_nil _ _ _ _ _ | exact Kd.S_nil _ _ _ _ _, dB⟩
               ·rw [if_neg c27] at H
                have c27b0 : decide (4096 < (t224.length : Int)) = false := decide_eq_false c27
                have c27b1 : decide (4096 < t224.length) = false := decide_eq_false (by omega)
                clear c27
                simp only [Option.some.injEq, Prod.mk.injEq] at H
                obtain ⟨rfl, rfl, rfl⟩ := H
                obtain ⟨Ao31, co31, rfl⟩ := Kd.R_slice HO_10.out
                go_wp2_with (first | ((with_reducible refine gate_callee (f := 19) rfl ?_); refine gL (some 77) Tryd.func19 #[.slice Ao31 x10_4.length co31] ?_; (with_reducible refine (plumbref04_words.calls k4 _ _ x10_4 t224 _ ?side1 (Kd.R_reads' HO_10.out).2.1 A26.out).mono ?_); (case side1 => exact dC (Kd.R_reads' HO_10.out).2.2); rintro e w32 ⟨v225, rfl, ho0, hb⟩; refine ⟨_, rfl, ?_⟩; have HO226 := aM (Kd.R_lower (nW ho0 HO_10.out) (below_size dB)); replace HO_10 := oE HO_10.out ho0 hb; replace HB := hS HB.out hb; (try clear hb); (try clear ho0); obtain ⟨Ao33, co33, rfl⟩ := Kd.R_slice HO226.out))
                go_ret3
                exact ⟨_, by first | rfl | (simp [errW_none, errW_some] <;> rfl) | (simp only [← hji16]; first | rfl | (simp [errW_none, errW_some] <;> rfl)) | (simp [*, errW_none, errW_some] <;> rfl), oM HO226.out (fun _ hk => trivial), dB⟩
open Go Go.RowKit Go.Proofs.YtjknfppbebfhnaaDoorW.PrintWords Go.Proofs.YtjknfppbebfhnaaDoorW.PrintLast Go.Proofs.YtjknfppbebfhnaaDoorW.PrintMore
def errT : Value := .iface 91 (.agg #[.pointer (some ⟨1, 24, none⟩)])
def errAt (w : World) (ve : Value) (c p : Int) : Prop :=
 if c = 0 then ve = .nilIface else ∃ g, ve = .iface 52 (.pointer (some ⟨g, 0, none⟩)) ∧ w.heap[g]? = some (.cells #[.int .i64 p, .iface 35 (.int .i64 c)] 54 (0, 0))
theorem errAt_of {w : World} {base : Nat} {ve : Value} {c p : Int} (h : faultIs w base ve c p) : errAt w ve c p := by
 unfold faultIs at h
 unfold errAt
 by_cases hc : c = 0
 ·rw [if_pos hc] at h ⊢; exact h
 ·rw [if_neg hc] at h ⊢
  obtain ⟨g, h1, _, h3⟩ := h
  exact ⟨g, h1, h3⟩
theorem errAt_below {w w' : World} {ve : Value} {c p : Int} (h : errAt w ve c p) (hb : Below w.heap.size w w') : errAt w' ve c p := by
 unfold errAt at h ⊢
 by_cases hc : c = 0
 ·rw [if_pos hc] at h ⊢; exact h
 ·rw [if_neg hc] at h ⊢
  obtain ⟨g, h1, h3⟩ := h
  exact ⟨g, h1, blk_below h3 hb⟩
theorem cell_lt {w : World} {a : Addr} {v : Value} (h : w.cell? a = some v) : a.block < w.heap.size := by
 rcases Nat.lt_or_ge a.block w.heap.size with h1 | h1
 ·exact h1
 ·simp [World.cell?, Array.getElem?_eq_none h1] at h
theorem cell_below {w w' : World} {a : Addr} {v : Value} (h : w.cell? a = some v) (hb : Below w.heap.size w w') : w'.cell? a = some v := by
 rw [hb.cell (cell_lt h)]; exact h
set_option maxHeartbeats 4000000 in
theorem api_Code.calls (ve : Value) (c p : Int) (w : World) (he : errAt w ve c p) (hG : w.cell? ⟨0, 0, none⟩ = some errT) :
  Calls Tryd.prog 22 #[ve] w fun e w' => e = .returned (.int .i64 c) ∧ Below w.heap.size w w' := by
 unfold errAt at he
 by_cases hc : c = 0
 ·rw [if_pos hc] at he
  subst hc
  subst he
  go_enter Tryd.func22, Tryd.ntmps22
  go_wp2
  go_ret
  exact ⟨rfl, below_alloc (Below.refl _ _) _⟩
 ·rw [if_neg hc] at he
  obtain ⟨g, rfl, hg⟩ := he
  have hlt : (0 : Nat) < w.heap.size := cell_lt hG
  have hgl : g < w.heap.size := blk_lt hg
  have hc1 : w.cell? ⟨g, 1, none⟩ = some (.iface 35 (.int .i64 c)) := by simp [World.cell?, hg]
  have k1 : (w.alloc (.cells #[.int .i64 0] 35)).cell? ⟨0, 0, none⟩ = some errT := by rw [World.cell?_alloc_lt _ _ ⟨0, 0, none⟩ hlt]; exact hG
  have k2 : (w.alloc (.cells #[.int .i64 0] 35)).cell? ⟨w.heap.size, 0, none⟩ = some (.int .i64 0) := by rw [World.cell?_alloc_at _ _ _ _ (by simp)]; rfl
  have k3 : (w.alloc (.cells #[.int .i64 0] 35)).frozen? ⟨w.heap.size, 0, none⟩ = false := by simp
  have k4 : (w.alloc (.cells #[.int .i64 0] 35)).cell? ⟨g, 1, none⟩ = some (.iface 35 (.int .i64 c)) := by rw [World.cell?_alloc_lt _ _ ⟨g, 1, none⟩ hgl]; exact hc1
  go_enter Tryd.func22, Tryd.ntmps22
  go_wp2_with (go_at_call 36; refine (errAs.as_code g c ⟨w.heap.size, 0, none⟩ (.int .i64 0) _ k1 k2 k3 k4).mono ?_; rintro e w' ⟨rfl, rfl⟩)
  go_ret
  refine ⟨rfl, ?_⟩
  repeat (first | exact Below.refl _ _ | refine below_alloc ?_ _)
def placeOf (c p : Int) : Int := if c = 0 then -1 else p
set_option maxHeartbeats 4000000 in
theorem api_Place.calls (ve : Value) (c p : Int) (w : World) (he : errAt w ve c p) (hG : w.cell? ⟨0, 0, none⟩ = some errT) :
  Calls Tryd.prog 23 #[ve] w fun e w' => e = .returned (.int .i64 (placeOf c p)) ∧ Below w.heap.size w w' := by
 unfold errAt at he
 unfold placeOf
 by_cases hc : c = 0
 ·rw [if_pos hc] at he
  rw [if_pos hc]
  subst hc
  subst he
  go_enter Tryd.func23, Tryd.ntmps23
  go_wp2_with (go_at_call 36; refine (errAs.as_nil _ _).mono ?_; rintro e w' ⟨rfl, rfl⟩)
  go_ret
  exact ⟨rfl, by repeat (first | exact Below.refl _ _ | refine below_alloc ?_ _)⟩
 ·rw [if_neg hc] at he
  rw [if_neg hc]
  obtain ⟨g, rfl, hg⟩ := he
  have hlt : (0 : Nat) < w.heap.size := cell_lt hG
  have hgl : g < w.heap.size := blk_lt hg
  have hc0 : w.cell? ⟨g, 0, none⟩ = some (.int .i64 p) := by simp [World.cell?, hg]
  have k1 : (w.alloc (.cells #[.pointer none] 52)).cell? ⟨0, 0, none⟩ = some errT := by rw [World.cell?_alloc_lt _ _ ⟨0, 0, none⟩ hlt]; exact hG
  have k2 : (w.alloc (.cells #[.pointer none] 52)).cell? ⟨w.heap.size, 0, none⟩ = some (.pointer none) := by rw [World.cell?_alloc_at _ _ _ _ (by simp)]; rfl
  have k3 : (w.alloc (.cells #[.pointer none] 52)).frozen? ⟨w.heap.size, 0, none⟩ = false := by simp
  have kc : ∀ W : World, Below w.heap.size w W → W.cell? ⟨g, 0, none⟩ = some (.int .i64 p) := fun W hb => cell_below hc0 hb
  have k5 := kc (((((w.alloc (.cells #[.pointer (some ⟨g, 0, none⟩)] 52)).alloc (.cells #[.pointer (some ⟨w.heap.size, 0, none⟩)] 68)).alloc (.cells #[.pointer (some ⟨1, 68, none⟩), .pointer (some ⟨w.heap.size + 1, 0, none⟩), .int .u64 150] 78)).alloc (.cells #[.pointer (some ⟨1, 68, none⟩), .pointer (some ⟨w.heap.size + 1, 0, none⟩), .int .u64 150] 78)).alloc (.cells #[.pointer (some ⟨g, 0, none⟩)] 52)) (by repeat (first | exact Below.refl _ _ | refine below_alloc ?_ _))
  clear kc hc0
  go_enter Tryd.func23, Tryd.ntmps23
  go_wp2_with (go_at_call 36; refine (errAs.as_fault ⟨g, 0, none⟩ ⟨w.heap.size, 0, none⟩ (.pointer none) _ k1 k2 k3).mono ?_; rintro e w' ⟨rfl, rfl⟩)
  go_ret
  refine ⟨rfl, ?_⟩
  repeat (first | exact Below.refl _ _ | refine below_alloc ?_ _)
def isB (c p a1 a2 : Int) : Bool := decide (c = a1) && decide (placeOf c p = a2)
set_option maxHeartbeats 4000000 in
theorem plumblaw04_is.callsE (ve : Value) (c p a1 a2 : Int) (w : World) (he : errAt w ve c p) (hG : w.cell? ⟨0, 0, none⟩ = some errT) :
  Calls Tryd.prog 8 #[ve, .int .i64 a1, .int .i64 a2] w fun e w' => e = .returned (.bool (isB c p a1 a2)) ∧ Below w.heap.size w w' := by
 have HB := aM (Below.refl w.heap.size w)
 unfold isB
 go_enter Tryd.func8, Tryd.ntmps8
 go_wp2_with (first
  | (go_at_call 22; refine (api_Code.calls ve c p w he hG).mono ?_; rintro e w1 ⟨rfl, hb1⟩; have he1 := errAt_below he hb1; have hG1 := cell_below hG hb1)
  | (go_at_call 23; refine (api_Place.calls ve c p w1 he1 hG1).mono ?_; rintro e w2 ⟨rfl, hb2⟩))
 ·rename_i h1
  go_ret
  refine ⟨?_, below_step hb1 hb2⟩
  subst h1
  have e1 : (placeOf c p == a2) = (decide (c = c) && decide (placeOf c p = a2)) := by rw [Bool.eq_iff_iff]; simp
  rw [← e1]
  rfl
 ·rename_i h1
  go_ret
  refine ⟨?_, hb1⟩
  rw [decide_eq_false h1]
  rfl
def plumblaw04_RadixParses.f (k : Nat) (a0 : ByteArray) (a1 : Int) : Option (Bool) := (radix_Parse.f k a0 a1).bind fun bt227 => ((plumbref04_Parse.f k a0 a1).bind fun bt231 => ((plumblaw04_alive.f k).bind fun t236 => (if t236 = true then ((plumblaw04_eq.f k bt227.1 bt231.1).bind fun t237 => (if t237 = true then (some (isB bt227.2.1 bt227.2.2 bt231.2.1 bt231.2.2)) else (none))) else (none))))
set_option maxHeartbeats 8000000 in
set_option maxRecDepth 100000 in
theorem plumblaw04_RadixParses.calls (k : Nat) (a0 : ByteArray) (a1 : Int) (r : Bool) (w : World) (hG : w.cell? ⟨0, 0, none⟩ = some errT) (h : plumblaw04_RadixParses.f k a0 a1 = some r) :
  Calls Tryd.prog 3 #[.string a0, .int .i64 a1] w fun e w' => e = .returned (.bool r) ∧ Below w.heap.size w w' := by
 have HB := aM (Below.refl w.heap.size w)
 have H := h
 clear h
 unfold plumblaw04_RadixParses.f at H
 replace H := Option.bind_eq_some_iff.mp H
 obtain ⟨⟨t227, t228, p228⟩, A30, H⟩ := H
 (try dsimp only at H)
 have A3 := aM A30
 clear A30
 replace H := Option.bind_eq_some_iff.mp H
 obtain ⟨⟨t231, t232, t233⟩, A40, H⟩ := H
 (try dsimp only at H)
 have A4 := aM A40
 clear A40
 replace H := Option.bind_eq_some_iff.mp H
 obtain ⟨t236, A50, H⟩ := H
 (try dsimp only at H)
 have A5 := aM A50
 clear A50
 replace H := nO H
 obtain ⟨rfl, H⟩ := H
 (try dsimp only at H)
 replace H := Option.bind_eq_some_iff.mp H
 obtain ⟨t237, A70, H⟩ := H
 (try dsimp only at H)
 have A7 := aM A70
 clear A70
 replace H := nO H
 obtain ⟨rfl, H⟩ := H
 (try dsimp only at H)
 obtain rfl := Option.some.inj H
 go_enter Tryd.func3, Tryd.ntmps3
 go_wp2_with (first | ((with_reducible refine gate_callee (f := 4) rfl ?_); refine goesL_ (some 13) rfl rfl Tryd.func4 (by kernel_rfl) rfl #[.string a0, .int .i64 a1] rfl (by (try simp only [List.map_toArray, List.map_cons, List.map_nil]); first | done | rfl | (simp only [List.length_drop, List.length_take]; rfl)) ?_; (with_reducible refine (radix_Parse.calls k a0 a1 t227 t228 p228 _ A3.out).mono ?_); rintro e w10 ⟨v229, ve, rfl, ho0, hb, hf⟩; refine ⟨_, rfl, ?_⟩; have n0_ := aM (Kd.R_lower ho0 (below_size eB)); have n1_ := aM (below_step eB hb); clear HB; have HO230 := n0_; have HB := n1_; clear n0_ n1_; have HE := aM (errAt_of hf); clear hf; (try clear hb); (try clear hb2); (try clear hk); (try clear hi); (try clear ho0)) | ((with_reducible refine gate_callee (f := 5) rfl ?_); refine goesL_ (some 19) rfl rfl Tryd.func5 (by kernel_rfl) rfl #[.string a0, .int .i64 a1] rfl (by (try simp only [List.map_toArray, List.map_cons, List.map_nil]); first | done | rfl | (simp only [List.length_drop, List.length_take]; rfl)) ?_; (with_reducible refine (plumbref04_Parse.calls k a0 a1 t231 t232 t233 _ A4.out).mono ?_); rintro e w11 ⟨v234, rfl, ho0, hb⟩; refine ⟨_, rfl, ?_⟩; have HE2 := aM (errAt_below (by exact HE.out) hb); clear HE; have n0_ := oE HO230.out ho0 hb; have n1_ := aM (Kd.R_lower (nW ho0 HO230.out) (below_size eB)); have n2_ := aM (below_step eB hb); clear HO230; clear HB; have HO230 := n0_; have HO235 := n1_; have HB := n2_; clear n0_ n1_ n2_; (try clear hb); (try clear hb2); (try clear hk); (try clear hi); (try clear ho0)) | ((with_reducible refine gate_callee (f := 6) rfl ?_); refine goesL_ (some 23) rfl rfl Tryd.func6 (by kernel_rfl) rfl #[] rfl (by (try simp only [List.map_toArray, List.map_cons, List.map_nil]); first | done | rfl | (simp only [List.length_drop, List.length_take]; rfl)) ?_; (with_reducible refine (plumblaw04_alive.calls k  true _ A5.out).mono ?_); rintro e w12 ⟨rfl, hb⟩; refine ⟨_, rfl, ?_⟩; have HE3 := aM (errAt_below (by exact HE2.out) hb); clear HE2; have n0_ := oB HO230.out hb; have n1_ := oB HO235.out hb; have n2_ := aM (below_step eB hb); clear HO230; clear HO235; clear HB; have HO230 := n0_; have HO235 := n1_; have HB := n2_; clear n0_ n1_ n2_; (try clear hb); (try clear hb2); (try clear hk); (try clear hi); obtain ⟨Ao13, co13, rfl⟩ := Kd.R_slice HO230.out; obtain ⟨Ao14, co14, rfl⟩ := Kd.R_slice HO235.out) | (go_at_call 7; (with_reducible refine (plumblaw04_eq.calls k _ _ t227 _ _ t231 true _ ?side1 (Kd.R_reads' HO230.out).2.1 ?side3 (Kd.R_reads' HO235.out).2.1 A7.out).mono ?_); (case side1 => repeat (first | exact (Kd.R_reads' HO230.out).2.2 | (with_reducible refine Kd.C_alloc ?_ _) | (with_reducible refine Kd.C_drewN ?_ _) | (with_reducible refine Kd.C_drew ?_))); (case side3 => repeat (first | exact (Kd.R_reads' HO235.out).2.2 | (with_reducible refine Kd.C_alloc ?_ _) | (with_reducible refine Kd.C_drewN ?_ _) | (with_reducible refine Kd.C_drew ?_))); rintro e w' ⟨rfl, ⟨nd, rfl⟩⟩) | (go_at_call 8; (refine (plumblaw04_is.callsE ve t228 p228 t232 t233 _ (by exact HE3.out) (cell_below hG eB)).mono ?_); rintro e w15 ⟨rfl, hb⟩; have n0_ := oB HO230.out hb; have n1_ := oB HO235.out hb; have n2_ := aM (below_step eB hb); clear HO230; clear HO235; clear HB; have HO230 := n0_; have HO235 := n1_; have HB := n2_; clear n0_ n1_ n2_; (try clear hb); (try clear hb2); (try clear hk); (try clear hi)))
 go_ret
 exact ⟨by first | rfl | (simp [errW_none, errW_some] <;> rfl) | (simp [*, errW_none, errW_some] <;> rfl), eB⟩
def plumblaw04_RadixParses.Pure : Prop := ∀ (a0 : ByteArray) (a1 : Int), a0.size ≤ 140737488351232 → (Lit.int .i64 a1).wf = true → ∃ k, plumblaw04_RadixParses.f k a0 a1 = some true
theorem plumblaw04_RadixParses.walk (P : plumblaw04_RadixParses.Pure) (a0 : ByteArray) (a1 : Int) (w : World) (hG : w.cell? ⟨0, 0, none⟩ = some errT) (w0 : a0.size ≤ 140737488351232) (w1 : (Lit.int .i64 a1).wf = true) :
  Calls Tryd.prog 3 #[.string a0, .int .i64 a1] w fun e w' => e = .returned (.bool true) ∧ Below w.heap.size w w' := by
 obtain ⟨k, h⟩ := P a0 a1 w0 w1
 refine (plumblaw04_RadixParses.calls k a0 a1 true w hG h).mono ?_
 rintro e w' ⟨rfl, hd⟩
 exact ⟨rfl, hd⟩
theorem strip_last {xs : List Int} (h : 0 < (strip xs).length) : xs.getD ((strip xs).length - 1) 0 ≠ 0 := by
 induction xs with
 | nil => simp [strip] at h
 | cons x xs ih =>
  rw [strip_cons] at h ⊢
  by_cases hs : strip xs = []
  ·rw [if_pos hs] at h ⊢
   by_cases hx : x = 0
   ·rw [if_pos hx] at h; simp at h
   ·rw [if_neg hx]; simpa using hx
  ·rw [if_neg hs]
   have h1 : 0 < (strip xs).length := by
    rcases Nat.eq_zero_or_pos (strip xs).length with h0 | h0
    ·exact absurd (List.eq_nil_of_length_eq_zero h0) hs
    ·exact h0
   have h2 := ih h1
   rw [List.length_cons, show (strip xs).length + 1 - 1 = ((strip xs).length - 1) + 1 from by omega, List.getD_cons_succ]
   exact h2
theorem nv_split {xs : List Int} {n : Nat} (h : n ≤ xs.length) : nv xs = nv (xs.take n) + 2 ^ (64 * n) * nv (xs.drop n) := by
 conv => lhs; rw [← List.take_append_drop n xs, nv_append]
 rw [List.length_take, Nat.min_eq_left h]
theorem nv_top {xs : List Int} (h : Ws xs) {n : Nat} (hn : (strip xs).length = n + 1) : nv xs / 2 ^ (64 * n) = xs.getD n 0 := by
 have hl := strip_length_le xs
 have e : nv xs = nv (xs.take n) + 2 ^ (64 * n) * xs.getD n 0 := by
  rw [← nv_strip xs, strip_take xs, hn, List.take_succ_eq_append_getElem (by omega), nv_append, List.length_take, Nat.min_eq_left (by omega), List.getD_eq_getElem?_getD, List.getElem?_eq_getElem (by omega)]
  simp [nv]
 have h1 := nv_nonneg (h.take n)
 have h2 := nv_lt (h.take n)
 rw [List.length_take, Nat.min_eq_left (by omega)] at h2
 rw [e, Int.add_mul_ediv_left _ _ (by omega), Int.ediv_eq_zero_of_lt h1 h2, Int.zero_add]
theorem nat_Bits.f_eq (xs : List Int) (h : Ws xs) (hl : xs.length ≤ 35184372088832) (k : Nat) (hk : xs.length < k) (hk7 : 7 ≤ k) : nat_Bits.f k xs = some (bitsN (nv xs)) := by
 rw [nat_Bits.f, nat_size.f_eq xs (by omega) k hk]
 simp only [Option.bind_some]
 have hsl := strip_length_le xs
 rcases Nat.eq_zero_or_pos (strip xs).length with h0 | h0
 ·rw [if_pos (by omega)]
  have : nv xs = 0 := by rw [← nv_strip, List.eq_nil_of_length_eq_zero h0]; rfl
  rw [this]; rfl
 ·obtain ⟨n, hn⟩ : ∃ n, (strip xs).length = n + 1 := ⟨(strip xs).length - 1, by omega⟩
  rw [hn, if_neg (by omega)]
  have ew : wrap64 (((n + 1 : Nat) : Int) - 1) = (n : Int) := by unfold wrap64; omega
  rw [ew, if_pos (by omega), if_pos (by omega)]
  clear ew
  have er : rd xs (n : Int) = xs.getD n 0 := rfl
  have ho := h.getD n
  have hne := strip_last h0
  rw [hn, Nat.add_sub_cancel] at hne
  rw [er, wide_Len.f_eq ho.1 ho.2 k hk7]
  simp only [Option.bind_some]
  have ht := nv_top h hn
  have hge : (2 : Int) ^ (64 * n) ≤ nv xs := by
   have h1 := Int.mul_ediv_add_emod (nv xs) (2 ^ (64 * n))
   have h2 := Int.emod_nonneg (nv xs) (show (2 : Int) ^ (64 * n) ≠ 0 by have := two_pow_pos (64 * n); omega)
   have h3 := Int.mul_le_mul_of_nonneg_left (show 1 ≤ nv xs / 2 ^ (64 * n) by omega) (Int.le_of_lt (two_pow_pos (64 * n)))
   omega
  rw [bitsN_div (64 * n) hge, ht]
  have hb := bitsN_le_of_lt (n := 64) ho.1 ho.2
  have hb0 := bitsN_nonneg (xs.getD n 0)
  clear ho hne ht hge
  generalize bitsN (xs.getD n 0) = z at *
  congr 1
  unfold wrap64
  omega
theorem nat_bound.f_eq (xs : List Int) (hl : xs.length ≤ 35184372088832) (k : Nat) (hk : xs.length < k) : nat_bound.f k xs = some (if (strip xs).length ≤ 4096 then (strip xs, 0) else ([], 21)) := by
 rw [nat_bound.f, nat_size.f_eq xs (by omega) k hk]
 simp only [Option.bind_some]
 have hsl := strip_length_le xs
 by_cases h : (strip xs).length ≤ 4096
 ·rw [if_pos (by omega), if_pos (by omega), if_pos (by omega), if_pos h, Int.toNat_natCast, ← strip_take]
 ·rw [if_neg (by omega), if_neg h]
theorem strip_len_le {xs : List Int} (h : Ws xs) (n : Nat) : (strip xs).length ≤ n ↔ nv xs < 2 ^ (64 * n) := by
 constructor
 ·intro hn
  have h1 := nv_lt h.strip
  rw [nv_strip] at h1
  have := pow_mono (show 64 * (strip xs).length ≤ 64 * n from by omega)
  omega
 ·intro hn
  apply Classical.byContradiction
  intro hc
  obtain ⟨m, hm⟩ : ∃ m, (strip xs).length = m + 1 := ⟨(strip xs).length - 1, by omega⟩
  have h1 := strip_last (xs := xs) (by omega)
  rw [hm, Nat.add_sub_cancel] at h1
  have ht := nv_top h hm
  have ho := h.getD m
  have h2 := Int.mul_ediv_add_emod (nv xs) (2 ^ (64 * m))
  have h3 := Int.emod_nonneg (nv xs) (show (2 : Int) ^ (64 * m) ≠ 0 by have := two_pow_pos (64 * m); omega)
  have h4 := Int.mul_le_mul_of_nonneg_left (show 1 ≤ nv xs / 2 ^ (64 * m) by omega) (Int.le_of_lt (two_pow_pos (64 * m)))
  have h5 := pow_mono (show 64 * n ≤ 64 * m from by omega)
  omega
def bnd (n : Int) : List Int × Int := if n < 2 ^ 262144 then (wd n.toNat, 0) else ([], 21)
theorem nat_bound.f_bnd {xs : List Int} (h : Ws xs) (hl : xs.length ≤ 35184372088832) (k : Nat) (hk : xs.length < k) : nat_bound.f k xs = some (bnd (nv xs)) := by
 rw [nat_bound.f_eq xs hl k hk]
 congr 1
 unfold bnd
 have := strip_len_le h 4096
 by_cases h1 : (strip xs).length ≤ 4096
 ·rw [if_pos h1, if_pos (this.1 h1), wd_nv h]
 ·rw [if_neg h1, if_neg (fun h2 => h1 (this.2 h2))]
theorem getD_zero_of_lt {xs : List Int} (h : Ws xs) {t : Nat} (hl : nv xs < 2 ^ (64 * t)) : xs.getD t 0 = 0 := by
 by_cases ht : t < xs.length
 ·have e := nv_split (xs := xs) (n := t) (by omega)
  have h1 := nv_nonneg (h.take t)
  have h2 := nv_nonneg (h.drop t)
  have hp := two_pow_pos (64 * t)
  have h3 : nv (xs.drop t) < 1 := by
   apply Classical.byContradiction
   intro hc
   have := Int.mul_le_mul_of_nonneg_left (show 1 ≤ nv (xs.drop t) by omega) (Int.le_of_lt hp)
   omega
  have h4 : nv (xs.drop t) = 0 := by omega
  rw [List.drop_eq_getElem_cons ht, nv_cons] at h4
  have h5 := nv_nonneg (h.drop (t + 1))
  have h6 := h.getD t
  rw [List.getD_eq_getElem?_getD, List.getElem?_eq_getElem ht] at h6 ⊢
  simp only [Option.getD_some] at h6 ⊢
  omega
 ·rw [List.getD_eq_getElem?_getD, List.getElem?_eq_none (by omega)]; rfl
theorem set_getD_ne {xs : List Int} {i j : Nat} {v : Int} (h : i ≠ j) : (xs.set i v).getD j 0 = xs.getD j 0 := by
 rw [List.getD_eq_getElem?_getD, List.getD_eq_getElem?_getD, List.getElem?_set_ne h]
theorem mul_step {a b o c : Int} (ha0 : 0 ≤ a) (ha : a < 18446744073709551616) (hb0 : 0 ≤ b) (hb : b < 18446744073709551616) (ho0 : 0 ≤ o) (ho : o < 18446744073709551616) (hc0 : 0 ≤ c) (hc : c < 18446744073709551616) :
  ∃ lo hi k1 k2 v c' : Int, a * b = hi * 18446744073709551616 + lo ∧ 0 ≤ lo ∧ lo < 18446744073709551616 ∧
   wide_Mul.f a b = some (hi, lo) ∧ ∃ s, wide_Add.f lo o 0 = some (s, k1) ∧ wide_Add.f s c 0 = some (v, k2) ∧ IntKind.u64.wrap (IntKind.u64.wrap (hi + k1) + k2) = c' ∧
   v + c' * 18446744073709551616 = a * b + o + c ∧ 0 ≤ v ∧ v < 18446744073709551616 ∧ 0 ≤ c' ∧ c' < 18446744073709551616 := by
 have hab0 : 0 ≤ a * b := Int.mul_nonneg ha0 hb0
 have hab : a * b ≤ 18446744073709551615 * 18446744073709551615 := Int.mul_le_mul (by omega) (by omega) hb0 (by omega)
 refine ⟨a * b % 18446744073709551616, a * b / 18446744073709551616, _, _, _, _, by omega, by omega, by omega, ?_, _, wide_Add.f_eq (by omega) (by omega) ho0 ho (by omega) (by omega), wide_Add.f_eq (by omega) (by omega) hc0 hc (by omega) (by omega), rfl, ?_, by omega, by omega, ?_, ?_⟩
 ·unfold wide_Mul.f
  rw [if_pos (u64B_iff.2 ⟨ha0, ha⟩), if_pos (u64B_iff.2 ⟨hb0, hb⟩)]
 ·simp only [u64w]
  generalize a * b = p at *
  omega
 ·simp only [u64w]; omega
 ·simp only [u64w]; omega
theorem w64_add (i j : Nat) (h : i + j < 9223372036854775808) : wrap64 ((i : Int) + (j : Int)) = ((i + j : Nat) : Int) := by unfold wrap64; omega
theorem w64_succ (i : Nat) (h : i < 9223372036854775807) : wrap64 ((i : Int) + 1) = ((i + 1 : Nat) : Int) := by unfold wrap64; omega
theorem nat_Mul.l1_eq (x y : List Int) (hy : Ws y) (i m : Nat) (a : Int) (ha0 : 0 ≤ a) (ha : a < 18446744073709551616) (hm : m ≤ 35184372088832) (him : i + y.length < m) :
  ∀ (d k : Nat) (out : List Int) (c : Int) (j : Nat), d = y.length - j → j ≤ y.length → out.length = m → Ws out → 0 ≤ c → c < 18446744073709551616 → out.getD (i + y.length) 0 = 0 →
  ∃ out' c', Ws out' ∧ out'.length = m ∧ 0 ≤ c' ∧ c' < 18446744073709551616 ∧ out'.getD (i + y.length) 0 = 0 ∧
   nv out' + c' * 2 ^ (64 * (i + y.length)) + a * nv (y.take j) * 2 ^ (64 * i) = nv out + c * 2 ^ (64 * (i + j)) + a * nv y * 2 ^ (64 * i) ∧
   nat_Mul.l1 (k + d + 1) y out i a c x (x.length : Int) i y (y.length : Int) j = nat_Mul.l0 k y (out'.set (i + y.length) c') x (x.length : Int) ((i + 1 : Nat) : Int) := by
 intro d
 induction d with
 | zero =>
  intro k out c j hd hj hl hw hc0 hc hz
  obtain rfl : j = y.length := by omega
  refine ⟨out, c, hw, hl, hc0, hc, hz, by rw [List.take_length], ?_⟩
  rw [Nat.add_zero]
  conv => lhs; unfold nat_Mul.l1
  rw [if_neg (by omega)]
  have b1 : i + y.length < 9223372036854775808 := by omega
  have b2 : i < 9223372036854775807 := by omega
  have b3 : (0 : Int) ≤ ((i + y.length : Nat) : Int) := by omega
  have b4 : ((i + y.length : Nat) : Int) < (out.length : Int) := by omega
  have ew := w64_add i y.length b1
  have ew2 := w64_succ i b2
  rw [ew, ew2, Int.toNat_natCast]
  rw [if_pos b3, if_pos b4]
 | succ d ih =>
  intro k out c j hd hj hl hw hc0 hc hz
  have b1 : i + j < 9223372036854775808 := by omega
  have b2 : j < 9223372036854775807 := by omega
  have q0 : (j : Int) < (y.length : Int) := by omega
  have q1 : (0 : Int) ≤ (j : Int) := by omega
  have q2 : (0 : Int) ≤ ((i + j : Nat) : Int) := by omega
  have q3 : ((i + j : Nat) : Int) < (out.length : Int) := by omega
  have q4 : d = y.length - (j + 1) := by omega
  have q5 : j + 1 ≤ y.length := by omega
  have q6 : i + j ≠ i + y.length := by omega
  have q7 : i + j < out.length := by omega
  have q8 : j < y.length := by omega
  have ew := w64_add i j b1
  have ew2 := w64_succ j b2
  have hyj := hy.getD j
  have hoj := hw.getD (i + j)
  obtain ⟨lo, hi, k1, k2, v, c', e1, hlo0, hlo, eM, s, eA, eB, ec, ev, hv0, hv, hc0', hc'⟩ := mul_step ha0 ha hyj.1 hyj.2 hoj.1 hoj.2 hc0 hc
  obtain ⟨out', c2, h1, h2, h3, h4, h5, h6, h7⟩ := ih k (out.set (i + j) v) c' (j + 1) q4 q5 (by rw [List.length_set, hl]) (hw.set _ hv0 hv) hc0' hc' (by rw [set_getD_ne q6]; exact hz)
  refine ⟨out', c2, h1, h2, h3, h4, h5, ?_, ?_⟩
  ·rw [nv_set q7, nv_take_succ q8] at h6
   clear ec ew ew2
   rw [show 64 * (i + (j + 1)) = 64 * (i + j + 1) from by omega, pow64, show 64 * (i + j) = 64 * i + 64 * j from by omega, Int.pow_add] at h6
   rw [show 64 * (i + j) = 64 * i + 64 * j from by omega, Int.pow_add]
   generalize (2 : Int) ^ (64 * i) = pi at *
   generalize (2 : Int) ^ (64 * j) = pj at *
   generalize out.getD (i + j) 0 = o at *
   generalize y.getD j 0 = yj at *
   obtain rfl : v = a * yj + o + c - c' * 18446744073709551616 := by omega
   clear eM eA eB h7 ih e1 hyj hoj hlo hlo0
   grind
  ·rw [← h7, show k + (d + 1) + 1 = (k + d + 1) + 1 from by omega]
   conv => lhs; unfold nat_Mul.l1
   have er : rd y (j : Int) = y.getD j 0 := rfl
   have er2 : rd out ((i + j : Nat) : Int) = out.getD (i + j) 0 := rfl
   rw [ew, ew2, er, er2, eM]
   simp only [Option.bind_some]
   rw [if_pos q0, if_pos q1, if_pos q0, if_pos q2, if_pos q3, eA]
   simp only [Option.bind_some]
   rw [eB]
   simp only [Option.bind_some]
   rw [ec, Int.toNat_natCast]
theorem nat_Mul.l0_eq (x y : List Int) (hx : Ws x) (hy : Ws y) (m : Nat) (hm : m ≤ 35184372088832) (hlm : x.length + y.length = m) : ∀ (d k : Nat) (out : List Int) (i : Nat), d = x.length - i → d * (y.length + 2) + m + 1 < k → i ≤ x.length → out.length = m → Ws out → nv out = nv (x.take i) * nv y →
  nat_Mul.l0 k y out x (x.length : Int) i = some (bnd (nv x * nv y)) := by
 intro d
 induction d with
 | zero =>
  intro k out i hd hk hi hl hw hv
  obtain ⟨k, rfl⟩ : ∃ j, k = j + 1 := ⟨k - 1, by omega⟩
  obtain rfl : i = x.length := by omega
  rw [List.take_length] at hv
  simp only [nat_Mul.l0]
  rw [if_neg (by omega), nat_bound.f_bnd hw (by omega) k (by omega), hv]
  rfl
 | succ d ih =>
  intro k out i hd hk hi hl hw hv
  have hk' : d * (y.length + 2) + (y.length + 2) + m + 1 < k := by rw [Nat.succ_mul] at hk; exact hk
  obtain ⟨k, rfl⟩ : ∃ j, k = j + y.length + 1 + 1 := ⟨k - (y.length + 2), by omega⟩
  have hxi := hx.getD i
  have htop : nv out < 2 ^ (64 * (i + y.length)) := by
   rw [hv, show 64 * (i + y.length) = 64 * i + 64 * y.length from by omega, Int.pow_add]
   have h1 := nv_lt (hx.take i)
   rw [List.length_take, Nat.min_eq_left (by omega)] at h1
   have h2 := nv_lt hy
   have h3 := nv_nonneg (hx.take i)
   have h4 := nv_nonneg hy
   have hp := two_pow_pos (64 * i)
   have h5 : nv (x.take i) * nv y ≤ nv (x.take i) * 2 ^ (64 * y.length) := Int.mul_le_mul_of_nonneg_left (by omega) h3
   have h6 : nv (x.take i) * 2 ^ (64 * y.length) < 2 ^ (64 * i) * 2 ^ (64 * y.length) := Int.mul_lt_mul_of_pos_right h1 (two_pow_pos _)
   omega
  obtain ⟨out', c', h1, h2, h3, h4, h5, h6, h7⟩ := nat_Mul.l1_eq x y hy i m (x.getD i 0) hxi.1 hxi.2 hm (by omega) y.length k out 0 0 (by omega) (by omega) hl hw (by omega) (by omega) (getD_zero_of_lt hw htop)
  conv => lhs; unfold nat_Mul.l0
  have er : rd x (i : Int) = x.getD i 0 := rfl
  rw [if_pos (by omega), if_pos (by omega), if_pos (by omega), er]
  have h7' : nat_Mul.l1 (k + y.length + 1) y out i (x.getD i 0) 0 x (x.length : Int) i y (y.length : Int) 0 = nat_Mul.l0 k y (out'.set (i + y.length) c') x (x.length : Int) ((i + 1 : Nat) : Int) := h7
  rw [h7']
  refine ih k _ (i + 1) (by omega) (by omega) (by omega) (by rw [List.length_set, h2]) (h1.set _ h3 h4) ?_
  rw [nv_set (by omega), h5, nv_take_succ (by omega), Int.add_mul, ← hv]
  simp only [List.take_zero, nv_nil] at h6
  generalize (2 : Int) ^ (64 * i) = pi at *
  generalize (2 : Int) ^ (64 * (i + y.length)) = pl at *
  generalize x.getD i 0 = xi at *
  clear h7 h7' er ih hk hk'
  grind
theorem strip_take' (xs : List Int) : xs.take (strip xs).length = strip xs := (strip_take xs).symm
theorem bnd_big {n : Int} (h : (2 : Int) ^ 262144 ≤ n) : bnd n = ([], 21) := by unfold bnd; rw [if_neg (by omega)]
theorem nv_pos_iff {xs : List Int} (h : Ws xs) : 0 < nv xs ↔ (strip xs) ≠ [] := by
 rw [← strip_length_pos h]
 exact ⟨fun h1 h2 => by rw [h2] at h1; simp at h1, fun h1 => List.length_pos_iff.2 h1⟩
theorem nat_Mul.f_eq (x y : List Int) (hx : Ws x) (hy : Ws y) (hlx : x.length ≤ 1000000) (hly : y.length ≤ 1000000) (k : Nat) (hk : x.length * (y.length + 2) + x.length + y.length + 20 < k) :
  nat_Mul.f k x y = some (if nv x * nv y = 0 then ([], 0) else bnd (nv x * nv y)) := by
 have hsx := strip_length_le x
 have hsy := strip_length_le y
 have hm : (strip x).length * ((strip y).length + 2) ≤ x.length * (y.length + 2) := Nat.mul_le_mul hsx (by omega)
 obtain ⟨k, rfl⟩ : ∃ j, k = j + 1 := ⟨k - 1, by omega⟩
 rw [nat_Mul.f, nat_size.f_eq x (by omega) _ (by omega)]
 simp only [Option.bind_some]
 rw [if_pos (by omega), if_pos (by omega), nat_size.f_eq y (by omega) _ (by omega)]
 simp only [Option.bind_some]
 rw [if_pos (by omega), if_pos (by omega), Int.toNat_natCast, Int.toNat_natCast, strip_take', strip_take']
 have ex := nv_strip x
 have ey := nv_strip y
 have wx := hx.strip
 have wy := hy.strip
 have px := nv_pos_iff hx
 have py := nv_pos_iff hy
 rw [← ex, ← ey] at *
 generalize strip x = x' at *
 generalize strip y = y' at *
 have nx := nv_nonneg wx
 have ny := nv_nonneg wy
 by_cases h0 : x' = []
 ·subst h0
  rw [if_pos (by simp), nat_Mul.j0, if_pos rfl]
  simp [nv]
 ·have hx0 : x'.length ≠ 0 := fun h => h0 (List.eq_nil_of_length_eq_zero h)
  rw [if_neg (by omega)]
  by_cases h1 : y' = []
  ·subst h1
   rw [nat_Mul.j0, if_pos (by simp)]
   simp [nv]
  ·have hy0 : y'.length ≠ 0 := fun h => h1 (List.eq_nil_of_length_eq_zero h)
   have hpx := px.2 h0
   have hpy := py.2 h1
   have hp : 0 < nv x' * nv y' := Int.mul_pos hpx hpy
   rw [nat_Mul.j0, if_neg (by simp only [beq_iff_eq]; omega), nat_Bits.f_eq x' wx (by omega) k (by omega) (by omega), if_neg (show ¬ nv x' * nv y' = 0 by omega)]
   simp only [Option.bind_some]
   rw [nat_Bits.f_eq y' wy (by omega) k (by omega) (by omega)]
   simp only [Option.bind_some]
   have bx := bitsN_ge hpx
   have by_ := bitsN_ge hpy
   have bx1 := bitsN_pos hpx
   have by1 := bitsN_pos hpy
   have bx2 := bitsN_le_of_lt (n := 64 * x'.length) nx (nv_lt wx)
   have by2 := bitsN_le_of_lt (n := 64 * y'.length) ny (nv_lt wy)
   have hbx : 1 ≤ bitsN (nv x') := by omega
   have hby : 1 ≤ bitsN (nv y') := by omega
   clear bx1 by1
   have ew : wrap64 (bitsN (nv x') - 1) = bitsN (nv x') - 1 := by unfold wrap64; omega
   have ew2 : wrap64 (262144 - bitsN (nv y')) = 262144 - bitsN (nv y') := by clear ew; unfold wrap64; omega
   rw [ew, ew2]
   clear ew ew2
   by_cases hb : bitsN (nv x') - 1 > 262144 - bitsN (nv y')
   ·rw [if_pos hb, bnd_big]
    have h3 : (2 : Int) ^ 262144 ≤ 2 ^ ((bitsN (nv x')).toNat - 1 + ((bitsN (nv y')).toNat - 1)) := pow_mono (by omega)
    rw [Int.pow_add] at h3
    exact Int.le_trans h3 (Int.mul_le_mul bx by_ (Int.le_of_lt (two_pow_pos _)) nx)
   ·rw [if_neg hb]
    clear hb bx by_ bx2 by2 hbx hby
    have ew := w64_add x'.length y'.length (by omega)
    have c1 : (0 : Int) ≤ ((x'.length + y'.length : Nat) : Int) := Int.natCast_nonneg _
    rw [ew, if_pos c1, Int.toNat_natCast]
    clear ew c1
    rw [if_pos (by omega)]
    exact nat_Mul.l0_eq x' y' wx wy (x'.length + y'.length) (by omega) rfl x'.length k _ 0 (by omega) (by omega) (by omega) (by simp) (Ws.zeros _) (by rw [nv_zeros]; simp [nv])
theorem drop_getD {xs : List Int} {m : Nat} (h : m < xs.length) : xs.drop m = xs.getD m 0 :: xs.drop (m + 1) := by
 rw [List.drop_eq_getElem_cons h, List.getD_eq_getElem?_getD, List.getElem?_eq_getElem h]; rfl
theorem take_set_self {xs : List Int} {n : Nat} {v : Int} : (xs.set n v).take n = xs.take n := by
 rw [List.take_set]
 exact List.set_eq_of_length_le (by rw [List.length_take]; omega)
def Hs (xs : List Int) : Prop := ∀ x ∈ xs, 0 ≤ x ∧ x < 4294967296
def hv : List Int → Int
 | [] => 0
 | x :: xs => x + 4294967296 * hv xs
theorem hv_cons (x : Int) (xs : List Int) : hv (x :: xs) = x + 4294967296 * hv xs := rfl
theorem pow32 (n : Nat) : (2 : Int) ^ (32 * (n + 1)) = 4294967296 * 2 ^ (32 * n) := by
 rw [show 32 * (n + 1) = 32 + 32 * n from by omega, Int.pow_add]; rfl
theorem hv_append (xs ys : List Int) : hv (xs ++ ys) = hv xs + 2 ^ (32 * xs.length) * hv ys := by
 induction xs with
 | nil => simp [hv]
 | cons x xs ih =>
  rw [List.cons_append, hv_cons, hv_cons, ih, List.length_cons, pow32]
  grind
theorem Hs.getD {xs : List Int} (h : Hs xs) (n : Nat) : 0 ≤ xs.getD n 0 ∧ xs.getD n 0 < 4294967296 := by
 rw [List.getD_eq_getElem?_getD]
 cases e : xs[n]? with
 | none => simp
 | some v => simpa using h v (List.mem_of_getElem? e)
theorem Hs.set {xs : List Int} (h : Hs xs) (n : Nat) {v : Int} (h0 : 0 ≤ v) (h1 : v < 4294967296) : Hs (xs.set n v) := by
 intro y hy
 rcases List.mem_or_eq_of_mem_set hy with hy | rfl
 ·exact h y hy
 ·exact ⟨h0, h1⟩
theorem Hs.snoc {xs : List Int} (h : Hs xs) {v : Int} (h0 : 0 ≤ v) (h1 : v < 4294967296) : Hs (xs ++ [v]) := by
 intro y hy
 rcases List.mem_append.1 hy with hy | hy
 ·exact h y hy
 ·rcases List.mem_singleton.1 hy with rfl
  exact ⟨h0, h1⟩
theorem hv_take_succ {xs : List Int} {i : Nat} (h : i < xs.length) : hv (xs.take (i + 1)) = hv (xs.take i) + xs.getD i 0 * 2 ^ (32 * i) := by
 rw [List.take_succ_eq_append_getElem h, hv_append, List.length_take, Nat.min_eq_left (by omega), List.getD_eq_getElem?_getD, List.getElem?_eq_getElem h]
 simp [hv]
 rw [Int.mul_comm]
theorem plumbref04_cut.l0_eq : ∀ (n k : Nat) (xs : List Int), xs.length = n → n < k → n < 100000000 → plumbref04_cut.l0 k xs = some (strip xs) := by
 intro n
 induction n with
 | zero =>
  intro k xs hl hk hm
  obtain ⟨k, rfl⟩ : ∃ j, k = j + 1 := ⟨k - 1, by omega⟩
  rw [List.eq_nil_of_length_eq_zero hl]
  rfl
 | succ n ih =>
  intro k xs hl hk hm
  obtain ⟨k, rfl⟩ : ∃ j, k = j + 1 := ⟨k - 1, by omega⟩
  have c1 : (xs.length : Int) > 0 := by omega
  have c2 : (0 : Int) ≤ (n : Int) := Int.natCast_nonneg _
  have c3 : (n : Int) < (xs.length : Int) := by omega
  have c4 : (n : Int) ≤ (xs.length : Int) := by omega
  have c5 : n < xs.length := by omega
  have ew : wrap64 ((xs.length : Int) - 1) = (n : Int) := by rw [hl]; unfold wrap64; omega
  have er : rd xs (n : Int) = xs.getD n 0 := rfl
  have e2 : xs = xs.take n ++ [xs.getD n 0] := by
   conv => lhs; rw [← List.take_of_length_le (l := xs) (i := n + 1) (by omega), List.take_succ_eq_append_getElem c5]
   rw [List.getD_eq_getElem?_getD, List.getElem?_eq_getElem c5]; rfl
  simp only [plumbref04_cut.l0]
  rw [if_pos c1, ew, if_pos c2, if_pos c3, er, Int.toNat_natCast]
  by_cases h : xs.getD n 0 = 0
  ·rw [if_pos h, if_pos c4, ih k _ (by rw [List.length_take]; clear ew er; omega) (by clear ew er; omega) (by clear ew er; omega)]
   conv => rhs; rw [e2, h, strip_snoc_zero]
  ·rw [if_neg h]
   conv => rhs; rw [e2, strip_snoc_ne _ h]
   rw [← e2]
theorem word_join {lo hi : Int} (h0 : 0 ≤ lo) (h1 : lo < 4294967296) (h2 : 0 ≤ hi) (h3 : hi < 4294967296) : Go.bits .or .u64 lo (IntKind.u64.wrap (hi * 4294967296)) = lo + hi * 4294967296 := by
 rw [u64w_of (by omega) (by omega)]
 exact or_join' 32 (by omega) (by omega) (show hi * 4294967296 % 4294967296 = 0 by omega) h0 (show lo < 4294967296 from h1) (by omega)
theorem w64_two (i : Nat) (h : i < 9223372036854775800) : wrap64 ((i : Int) + 2) = ((i + 2 : Nat) : Int) := by unfold wrap64; omega
theorem nv_snocL (xs : List Int) (w : Int) : nv (xs ++ [w]) = nv xs + w * 2 ^ (64 * xs.length) := by
 rw [nv_append]
 simp [nv]
 rw [Int.mul_comm]
theorem ws_snoc {xs : List Int} (h : Ws xs) {v : Int} (h0 : 0 ≤ v) (h1 : v < 18446744073709551616) : Ws (xs ++ [v]) := h.append (Ws.cons h0 h1 Ws.nil)
theorem plumbref04_words.l0_eq (x : List Int) (hx : Hs x) (hm : x.length < 100000000) : ∀ (d k : Nat) (acc : List Int) (t : Nat), x.length + 2 ≤ d + 2 * t → d + x.length + 10 < k → 2 * t ≤ x.length + 1 → acc.length = t → Ws acc → nv acc = hv (x.take (2 * t)) →
  plumbref04_words.l0 k x acc ((2 * t : Nat) : Int) = some (wd (hv x).toNat) := by
 intro d
 induction d with
 | zero =>
  intro k acc t hd hk ht hl hw hv_
  omega
 | succ d ih =>
  intro k acc t hd hk ht hl hw hv_
  obtain ⟨k, rfl⟩ : ∃ j, k = j + 1 := ⟨k - 1, by omega⟩
  by_cases h0 : 2 * t < x.length
  ·have c1 : ((2 * t : Nat) : Int) < (x.length : Int) := Int.ofNat_lt.2 h0
   have c2 : (0 : Int) ≤ ((2 * t : Nat) : Int) := Int.natCast_nonneg _
   have c3 : acc.length < 17592186044416 := by omega
   have c4 : (0 : Int) ≤ ((2 * t + 1 : Nat) : Int) := Int.natCast_nonneg _
   have d1 : x.length + 2 ≤ d + 2 * (t + 1) := by omega
   have d2 : d + x.length + 10 < k := by omega
   have d3 : 2 * (t + 1) ≤ x.length + 1 := by omega
   have b1 : 2 * t < 9223372036854775800 := by omega
   have b2 : 2 * t < 9223372036854775807 := by omega
   have ew2 := w64_two (2 * t) b1
   have ew1 := w64_succ (2 * t) b2
   have ho := hx.getD (2 * t)
   have ho1 := hx.getD (2 * t + 1)
   have er : rd x ((2 * t : Nat) : Int) = x.getD (2 * t) 0 := rfl
   have er1 : rd x ((2 * t + 1 : Nat) : Int) = x.getD (2 * t + 1) 0 := rfl
   simp only [plumbref04_words.l0]
   rw [if_pos c1, if_pos c2, ew1, ew2]
   by_cases h1 : 2 * t + 1 < x.length
   ·have c5 : ((2 * t + 1 : Nat) : Int) < (x.length : Int) := Int.ofNat_lt.2 h1
    rw [if_pos c5, if_pos c4, if_pos c3, er, er1, word_join ho.1 ho.2 ho1.1 ho1.2]
    refine ih k _ (t + 1) d1 d2 d3 (by rw [List.length_append, hl]; rfl) (ws_snoc hw (by clear ew1 ew2 er er1; omega) (by clear ew1 ew2 er er1; omega)) ?_
    rw [nv_snocL, hv_, show 2 * (t + 1) = 2 * t + 1 + 1 from by clear ew1 ew2 er er1; omega, hv_take_succ h1, hv_take_succ h0, pow32, hl, show 32 * (2 * t) = 64 * t from by clear ew1 ew2 er er1; omega]
    generalize (2 : Int) ^ (64 * t) = p
    generalize x.getD (2 * t) 0 = a
    generalize x.getD (2 * t + 1) 0 = b
    clear ew1 ew2 er er1
    grind
   ·have c5 : ¬ ((2 * t + 1 : Nat) : Int) < (x.length : Int) := fun h => h1 (Int.ofNat_lt.1 h)
    rw [if_neg c5, if_pos c3, er]
    refine ih k _ (t + 1) d1 d2 d3 (by rw [List.length_append, hl]; rfl) (ws_snoc hw (by clear ew1 ew2 er er1; omega) (by clear ew1 ew2 er er1; omega)) ?_
    have hxe : x.length = 2 * t + 1 := by clear ew1 ew2 er er1; omega
    rw [nv_snocL, hv_, List.take_of_length_le (i := 2 * (t + 1)) (by clear ew1 ew2 er er1; omega)]
    have e9 : hv x = hv (x.take (2 * t + 1)) := by rw [List.take_of_length_le (by rw [hxe]; exact Nat.le_refl _)]
    rw [e9, hv_take_succ h0, hl, show 32 * (2 * t) = 64 * t from by clear ew1 ew2 er er1 e9; omega]
  ·have c1 : ¬ ((2 * t : Nat) : Int) < (x.length : Int) := fun h => h0 (Int.ofNat_lt.1 h)
   rw [List.take_of_length_le (by omega)] at hv_
   simp only [plumbref04_words.l0]
   rw [if_neg c1, plumbref04_cut.f, plumbref04_cut.l0_eq acc.length k acc rfl (by omega) (by omega), ← hv_, wd_nv hw]
   rfl
theorem bnd_small {n : Int} (h : n < (2 : Int) ^ 262144) : bnd n = (wd n.toNat, 0) := by unfold bnd; rw [if_pos h]
theorem wd_length_le {n : Nat} {m : Nat} (h : n < 2 ^ (64 * m)) : (wd n).length ≤ m := by
 have h1 := (strip_len_le (wd_ws n) m).2 (by rw [nv_wd, p2cast]; exact Int.ofNat_lt.2 h)
 rwa [strip_wd] at h1
theorem toNat_lt_of {n : Int} {N : Nat} (hN : 0 < N) (h : n < (N : Int)) : n.toNat < N := by omega
theorem wd_len_int {n : Int} {m : Nat} (h : n < 2 ^ (64 * m)) : (wd n.toNat).length ≤ m := by
 rw [p2cast] at h
 exact wd_length_le (toNat_lt_of (Nat.pow_pos (by decide)) h)
theorem bnd_fst_len (n : Int) : (bnd n).1.length ≤ 4096 := by
 unfold bnd
 split
 ·rename_i h
  exact wd_len_int (m := 4096) h
 ·exact Nat.zero_le _
theorem bnd_fst_ws (n : Int) : Ws (bnd n).1 := by
 unfold bnd
 split
 ·exact wd_ws _
 ·exact Ws.nil
theorem bnd_fst_nv {n : Int} (h0 : 0 ≤ n) (h : n < 2 ^ 262144) : nv (bnd n).1 = n := by
 rw [bnd_small h, nv_wd]
 exact Int.toNat_of_nonneg h0
end Go.Proofs.YtjknfppbebfhnaaDoor.PA
