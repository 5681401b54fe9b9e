/- A part of the proof (4). -/
import Derived.Test.YtjknfppbebfhnaaDoorYPVP2
import Derived.Test.YtjknfppbebfhnaaDoorYPVP3
namespace Go.Proofs.YtjknfppbebfhnaaDoor.PA
open Go.RowKit Go.Proofs.YtjknfppbebfhnaaDoorW.PrintWords Go.Proofs.YtjknfppbebfhnaaDoorW.PrintLast Go.Proofs.YtjknfppbebfhnaaDoorW.PrintMore
attribute [local go_sem] max2_int min2_int max_two min_two max_three min_three max_four min_four
set_option linter.unusedVariables false
set_option linter.unusedSimpArgs false
set_option maxHeartbeats 8000000 in
set_option maxRecDepth 100000 in
theorem api_Wrap.calls (a0 a1 : Int) (w : World) :
  Calls Tryd.prog 10 #[.int .i64 a0, .int .i64 a1] w fun e w' => e = .returned (.iface 52 (.pointer (some ⟨w.heap.size, 0, none⟩))) ∧ ∃ nd, w' = (w.drewN nd).alloc (.cells #[.int .i64 a0, .iface 35 (.int .i64 a1)] 54) := by
 go_enter Tryd.func10, Tryd.ntmps10
 go_wp2
 go_ret
 exact ⟨rfl, 0, rfl⟩
mutual
def radix_Parse.j1 : Nat → ByteArray → Int → Option (List Int × Int)
 | 0, _, _ => none
 | k + 1, x0, x1 => if (x0.size : Int) > 262144 then (some (([] : List Int), 21)) else ((radix_chunk.f x1).bind fun bt122 => (radix_Parse.l1 k x0 x1 bt122.1 bt122.2 ([] : List Int)))
def radix_Parse.l1 : Nat → ByteArray → Int → Int → Int → List Int → Option (List Int × Int)
 | 0, _, _, _, _, _ => none
 | k + 1, x0, x1, x8, x9, x10 => if x0.toList = ([] : List UInt8) then (some (x10, 0)) else (if (mn x9 (x0.size : Int)) < x9 then (radix_Parse.l2 k x0 x1 x8 x9 x10 (mn x9 (x0.size : Int)) 1 (mn x9 (x0.size : Int)) 0) else (radix_Parse.j4 k x0 x1 x8 x9 x10 (mn x9 (x0.size : Int)) x8))
def radix_Parse.j4 : Nat → ByteArray → Int → Int → Int → List Int → Int → Int → Option (List Int × Int)
 | 0, _, _, _, _, _, _, _ => none
 | k + 1, x0, x1, x8, x9, x10, x11, x12 => (nat_From.f x12).bind fun t124 => ((nat_Mul.f k x10 t124).bind fun bt127 => (if bt127.2 = 0 then (if 0 ≤ x11 then (if x11 ≤ (x0.size : Int) then ((radix_word.f (x0.extract 0 (x11 : Int).toNat) x1).bind fun t131 => ((nat_From.f t131).bind fun t132 => ((nat_Add.f k bt127.1 t132).bind fun bt135 => (if bt135.2 = 0 then (radix_Parse.l1 k (x0.extract (x11 : Int).toNat x0.size) x1 x8 x9 bt135.1) else (some (([] : List Int), bt135.2)))))) else (none)) else (none)) else (some (([] : List Int), bt127.2))))
def radix_Parse.l2 : Nat → ByteArray → Int → Int → Int → List Int → Int → Int → Int → Int → Option (List Int × Int)
 | 0, _, _, _, _, _, _, _, _, _ => none
 | k + 1, x0, x1, x8, x9, x10, x11, x12, x63, x64 => if x64 < x63 then (radix_Parse.l2 k x0 x1 x8 x9 x10 x11 (IntKind.u64.wrap (x12 * (IntKind.u64.wrap (x1)))) x63 (wrap64 (x64 + 1))) else (radix_Parse.j4 k x0 x1 x8 x9 x10 x11 x12)
def radix_Parse.l0 : Nat → ByteArray → Int → Option (List Int × Int)
 | 0, _, _ => none
 | k + 1, x0, x1 => if x0.toList = ([] : List UInt8) then (radix_Parse.j1 k x0 x1) else (if 0 < (x0.size : Int) then (if (bt x0 0) = 48 then (if 1 ≤ (x0.size : Int) then (radix_Parse.l0 k (x0.extract 1 x0.size) x1) else (none)) else (radix_Parse.j1 k x0 x1)) else (none))
end
def radix_Parse.s0 (b : Int) (s : ByteArray) : Nat → Nat → Option Int
 | 0, _ => none
 | k + 1, pos => if pos < s.size then (radix_value.f 8 ((Utf8.decode s pos).1 : Int)).bind fun v => (if v ≥ IntKind.u64.wrap b then some (pos : Int) else radix_Parse.s0 b s k (pos + (Utf8.decode s pos).2)) else some (-1)
def radix_Parse.f (k : Nat) (a0 : ByteArray) (a1 : Int) : Option (List Int × Int × Int) :=
 (radix_based.f a1).bind fun t => (if t = true then ((radix_Parse.s0 a1 a0 (a0.size + 1) 0).bind fun p => (if p ≥ 0 then some (([] : List Int), 41, p) else (if a0.toList = ([] : List UInt8) then some (([] : List Int), 41, 0) else ((radix_Parse.l0 k a0 a1).bind fun y => some (y.1, y.2, 0))))) else some (([] : List Int), 40, 0))
theorem radix_Parse.mono_l : ∀ k, (∀ y0 y1, LeO (radix_Parse.j1 k y0 y1) (radix_Parse.j1 (k + 1) y0 y1)) ∧ (∀ y0 y1 y2 y3 y4, LeO (radix_Parse.l1 k y0 y1 y2 y3 y4) (radix_Parse.l1 (k + 1) y0 y1 y2 y3 y4)) ∧ (∀ y0 y1 y2 y3 y4 y5 y6, LeO (radix_Parse.j4 k y0 y1 y2 y3 y4 y5 y6) (radix_Parse.j4 (k + 1) y0 y1 y2 y3 y4 y5 y6)) ∧ (∀ y0 y1 y2 y3 y4 y5 y6 y7 y8, LeO (radix_Parse.l2 k y0 y1 y2 y3 y4 y5 y6 y7 y8) (radix_Parse.l2 (k + 1) y0 y1 y2 y3 y4 y5 y6 y7 y8)) ∧ (∀ y0 y1, LeO (radix_Parse.l0 k y0 y1) (radix_Parse.l0 (k + 1) y0 y1))
 | 0 => ⟨fun _ _ r h => by simp [radix_Parse.j1] at h, fun _ _ _ _ _ r h => by simp [radix_Parse.l1] at h, fun _ _ _ _ _ _ _ r h => by simp [radix_Parse.j4] at h, fun _ _ _ _ _ _ _ _ _ r h => by simp [radix_Parse.l2] at h, fun _ _ r h => by simp [radix_Parse.l0] at h⟩
 | k + 1 => by
  obtain ⟨ih0, ih1, ih2, ih3, ih4⟩ := radix_Parse.mono_l k
  refine ⟨?_, ?_, ?_, ?_, ?_⟩
  ·intro y0 y1
   unfold radix_Parse.j1
   have m0_ := nat_Add.mono
   have m1_ := nat_Mul.mono
   exact mX
  ·intro y0 y1 y2 y3 y4
   unfold radix_Parse.l1
   have m0_ := nat_Add.mono
   have m1_ := nat_Mul.mono
   exact mX
  ·intro y0 y1 y2 y3 y4 y5 y6
   unfold radix_Parse.j4
   have m0_ := nat_Add.mono
   have m1_ := nat_Mul.mono
   exact mX
  ·intro y0 y1 y2 y3 y4 y5 y6 y7 y8
   unfold radix_Parse.l2
   have m0_ := nat_Add.mono
   have m1_ := nat_Mul.mono
   exact mX
  ·intro y0 y1
   unfold radix_Parse.l0
   have m0_ := nat_Add.mono
   have m1_ := nat_Mul.mono
   exact mX
theorem radix_Parse.mono : ∀ a0 a1 k, LeO (radix_Parse.f k a0 a1) (radix_Parse.f (k + 1) a0 a1) := by
 intro a0 a1 k
 unfold radix_Parse.f
 refine LeO.bind (LeO.refl _) (fun t => LeO.ite (LeO.bind (LeO.refl _) (fun p => LeO.ite (LeO.refl _) (LeO.ite (LeO.refl _) (LeO.bind ?_ (fun y => LeO.refl _))))) (LeO.refl _))
 exact (radix_Parse.mono_l k).2.2.2.2 _ _
def faultIs (w' : World) (base : Nat) (ve : Value) (c p : Int) : Prop :=
 if c = 0 then ve = .nilIface else ∃ g, ve = .iface 52 (.pointer (some ⟨g, 0, none⟩)) ∧ base ≤ g ∧ w'.heap[g]? = some (.cells #[.int .i64 p, .iface 35 (.int .i64 c)] 54 (0, 0))
theorem fault_none (w : World) (base : Nat) : faultIs w base .nilIface 0 0 := by simp [faultIs]
theorem fault_new {base : Nat} {wr : World} {c p : Int} (nd : Nat) (hc : c ≠ 0) (h : base ≤ wr.heap.size) :
  faultIs ((wr.drewN nd).alloc (.cells #[.int .i64 p, .iface 35 (.int .i64 c)] 54)) base (.iface 52 (.pointer (some ⟨wr.heap.size, 0, none⟩))) c p := by
 unfold faultIs
 rw [if_neg hc]
 exact ⟨_, rfl, h, blk_new (wr.drewN nd) _⟩
set_option maxHeartbeats 8000000 in
set_option maxRecDepth 100000 in
theorem radix_Parse.calls (k : Nat) (a0 : ByteArray) (a1 : Int) (r1 : List Int) (r2 r3 : Int) (w : World) (h : radix_Parse.f k a0 a1 = some (r1, r2, r3)) :
  Calls Tryd.prog 4 #[.string a0, .int .i64 a1] w fun e w' => ∃ v0_ ve_ : Value, e = .returned (.tuple #[v0_, ve_]) ∧ Kd.R (Kd.int .u64) 36 w' w.heap.size (fun _ => True) v0_ r1 ∧ Below w.heap.size w w' ∧ faultIs w' w.heap.size ve_ r2 r3 := by
 have HB := aM (Below.refl w.heap.size w)
 unfold radix_Parse.f at h
 replace h := Option.bind_eq_some_iff.mp h
 obtain ⟨t, AB0, h⟩ := h
 have AB := aM AB0
 clear AB0
 by_cases ct : t = true
 case neg =>
  rw [if_neg ct] at h
  simp only [Option.some.injEq, Prod.mk.injEq] at h
  obtain ⟨rfl, rfl, rfl⟩ := h
  obtain rfl : t = false := by simpa using ct
  go_enter Tryd.func4, Tryd.ntmps4
  go_wp2_with (first | ((with_reducible refine gate_callee (f := 9) rfl ?_); refine goesL_ (some 16) rfl rfl Tryd.func9 (by kernel_rfl) rfl #[.int .i64 a1] rfl (by (try simp only [List.map_toArray, List.map_cons, List.map_nil]); first | done | rfl) ?_; (with_reducible refine (radix_based.calls a1 _ _ AB.out).mono ?_); rintro e w' ⟨rfl, ⟨ndb, rfl⟩⟩; refine ⟨_, rfl, ?_⟩) | ((with_reducible refine gate_callee (f := 10) rfl ?_); refine goesL_ (some 18) rfl rfl Tryd.func10 (by kernel_rfl) rfl #[.int .i64 0, .int .i64 40] rfl (by (try simp only [List.map_toArray, List.map_cons, List.map_nil]); first | done | rfl) ?_; (with_reducible refine (api_Wrap.calls 0 40 _).mono ?_); rintro e w' ⟨rfl, ⟨nde, rfl⟩⟩; refine ⟨_, rfl, ?_⟩))
  go_ret2
  exact ⟨_, _, by first | rfl | (simp; done) | (simp [*]; done), Kd.R_nil _ _ _ _ _, dB, fault_new _ (by decide) (below_size dB)⟩
 rw [if_pos ct] at h
 subst ct
 replace h := Option.bind_eq_some_iff.mp h
 obtain ⟨p, AS0, h⟩ := h
 have AS := aM AS0
 have HH := aM h
 clear AS0 h
 go_enter Tryd.func4, Tryd.ntmps4
 go_upto_block 0 with (first | ((with_reducible refine gate_callee (f := 9) rfl ?_); refine goesL_ (some 16) rfl rfl Tryd.func9 (by kernel_rfl) rfl #[.int .i64 a1] rfl (by (try simp only [List.map_toArray, List.map_cons, List.map_nil]); first | done | rfl) ?_; (with_reducible refine (radix_based.calls a1 _ _ AB.out).mono ?_); rintro e w' ⟨rfl, ⟨ndb, rfl⟩⟩; refine ⟨_, rfl, ?_⟩))
 go_cut [0] (fun v0 wc => v0 = .string a0 ∧ Aside0 (p = -1) ∧ Aside0 (Below w.heap.size w wc))
 case first =>
  go_wp2
  go_loopw [6] (fun v6 w' => ∃ (pos kq nd : Nat), w' = (w.drewN nd).iter a0 pos ∧ Aside0 (radix_Parse.s0 a1 a0 kq pos = some p)) (fun _ w' => a0.size - w'.iterPos w.heap.size)
  case atStart => exact ⟨0, a0.size + 1, ndb, rfl, AS⟩
  case round =>
   clear AS
   obtain ⟨pos, kq, nd, rfl, HA⟩ := hrel
   cases kq with
   | zero => exact absurd HA.out (by simp [radix_Parse.s0])
   | succ kq =>
    have H := HA.out
    clear HA
    simp only [radix_Parse.s0] at H
    by_cases hp : pos < a0.size
    ·rw [if_pos hp] at H
     replace H := oA H
     obtain ⟨v, A1, H⟩ := H
     have hnx : ∀ ty, (Instr.next (.pointer (some ⟨w.heap.size, 0, none⟩)) true ty).run Tryd.prog ((w.drewN nd).iter a0 pos) = _ := fun ty => run_next_any (w.drewN nd) a0 pos ty hp
     by_cases c2 : v ≥ IntKind.u64.wrap a1
     ·rw [if_pos c2] at H
      obtain rfl := Option.some.inj H
      have c2b0 : decide (IntKind.u64.wrap a1 ≤ v) = true := decide_eq_true c2
      have h := HH.out
      clear HH H
      rw [if_pos (by omega)] at h
      simp only [Option.some.injEq, Prod.mk.injEq] at h
      obtain ⟨rfl, rfl, rfl⟩ := h
      go_wp2_with (first | ((with_reducible refine gate_callee (f := 11) rfl ?_); refine goesL_ (some 26) rfl rfl Tryd.func11 (by kernel_rfl) rfl #[.int .i32 (Utf8.decode a0 pos).1] rfl (by (try simp only [List.map_toArray, List.map_cons, List.map_nil]); first | done | rfl) ?_; (with_reducible refine (radix_value.calls 8 _ _ _ A1.out).mono ?_); rintro e w' ⟨rfl, ⟨ndv, rfl⟩⟩; refine ⟨_, rfl, ?_⟩) | ((with_reducible refine gate_callee (f := 10) rfl ?_); refine goesL_ (some 31) rfl rfl Tryd.func10 (by kernel_rfl) rfl #[.int .i64 (pos : Int), .int .i64 41] rfl (by (try simp only [List.map_toArray, List.map_cons, List.map_nil]); first | done | rfl) ?_; (with_reducible refine (api_Wrap.calls (pos : Int) 41 _).mono ?_); rintro e w' ⟨rfl, ⟨nde, rfl⟩⟩; refine ⟨_, rfl, ?_⟩))
      go_ret2
      exact ⟨_, _, by first | rfl | (simp; done) | (simp [*]; done), Kd.R_nil _ _ _ _ _, by unfold World.iter; repeat (with_reducible first | exact Below.refl _ _ | apply below_alloc | apply pw_below_drewN), fault_new _ (by decide) (below_size (by unfold World.iter; repeat (with_reducible first | exact Below.refl _ _ | apply below_alloc | apply pw_below_drewN)))⟩
     ·rw [if_neg c2] at H
      have c2b0 : decide (IntKind.u64.wrap a1 ≤ v) = false := decide_eq_false c2
      have HN := aM H
      clear H
      go_wp2_with (first | ((with_reducible refine gate_callee (f := 11) rfl ?_); refine goesL_ (some 26) rfl rfl Tryd.func11 (by kernel_rfl) rfl #[.int .i32 (Utf8.decode a0 pos).1] rfl (by (try simp only [List.map_toArray, List.map_cons, List.map_nil]); first | done | rfl) ?_; (with_reducible refine (radix_value.calls 8 _ _ _ A1.out).mono ?_); rintro e w' ⟨rfl, ⟨ndv, rfl⟩⟩; refine ⟨_, rfl, ?_⟩))
      have hwd := rune_width a0 pos hp
      go_roundw
      case rel => exact ⟨pos + (Utf8.decode a0 pos).2, kq, _, iter_drewN w nd _ a0 _, HN⟩
      case measure =>
       have e1 : ∀ nq, World.iterPos (((w.drewN nd).iter a0 (pos + (Utf8.decode a0 pos).2)).drewN nq) w.heap.size = pos + (Utf8.decode a0 pos).2 := fun nq => World.iterPos_iter (w.drewN nd) a0 _
       have e2 : World.iterPos ((w.drewN nd).iter a0 pos) w.heap.size = pos := World.iterPos_iter (w.drewN nd) a0 _
       rw [e1, e2]
       omega
    ·rw [if_neg hp] at H
     have hpe : p = -1 := (Option.some.inj H).symm
     clear H
     have hnx : ∀ ty, (Instr.next (.pointer (some ⟨w.heap.size, 0, none⟩)) true ty).run Tryd.prog ((w.drewN nd).iter a0 pos) = _ := fun ty => run_next_end (w.drewN nd) a0 pos ty hp
     go_wp2
     go_meet
     case rel => exact ⟨rfl, ⟨hpe⟩, ⟨below_alloc (pw_below_drewN (Below.refl _ _) _) _⟩⟩
 case rest =>
  clear AS
  obtain ⟨rfl, hpe, HB⟩ := hcut
  have h := HH.out
  clear HH
  rw [hpe.out] at h
  clear hpe
  rw [if_neg (by omega)] at h
  by_cases ce : a0.toList = ([] : List UInt8)
  ·rw [if_pos ce] at h
   simp only [Option.some.injEq, Prod.mk.injEq] at h
   obtain ⟨rfl, rfl, rfl⟩ := h
   have ceb0 : (a0.toList == ([] : List UInt8)) = true := beq_iff_eq.mpr ce
   have ceb1 : (a0.toList != ([] : List UInt8)) = false := bne_eq_false_iff_eq.mpr ce
   go_wp2_with (first | ((with_reducible refine gate_callee (f := 10) rfl ?_); refine goesL_ (some 34) rfl rfl Tryd.func10 (by kernel_rfl) rfl #[.int .i64 0, .int .i64 41] rfl (by (try simp only [List.map_toArray, List.map_cons, List.map_nil]); first | done | rfl) ?_; (with_reducible refine (api_Wrap.calls 0 41 _).mono ?_); rintro e w' ⟨rfl, ⟨nde, rfl⟩⟩; refine ⟨_, rfl, ?_⟩))
   go_ret2
   exact ⟨_, _, by first | rfl | (simp; done) | (simp [*]; done), Kd.R_nil _ _ _ _ _, dB, fault_new _ (by decide) (below_size dB)⟩
  rw [if_neg ce] at h
  have ceb0 : (a0.toList == ([] : List UInt8)) = false := beq_eq_false_iff_ne.mpr ce
  have ceb1 : (a0.toList != ([] : List UInt8)) = true := bne_iff_ne.mpr ce
  clear ce
  replace h := Option.bind_eq_some_iff.mp h
  obtain ⟨⟨r1, r2⟩, HC0, h⟩ := h
  simp only [Option.some.injEq, Prod.mk.injEq] at h
  obtain ⟨rfl, rfl, rfl⟩ := h
  have HC3 := aM HC0
  clear HC0
  go_upto_block 2 with (fail)
  go_cut [0] (fun v0 wc => ∃ (kq : Nat) (x0_2 : ByteArray), v0 = .string x0_2 ∧ Aside0 (radix_Parse.j1 kq x0_2 a1 = some (r1, r2)) ∧ Aside0 (kq ≤ k) ∧ Aside0 (Below w.heap.size w wc))
  case first =>
   have H := HC3.out
   clear HC3
   have H' := aM H
   clear H
   go_wp2
   go_loopg [0] k (fun kq v0 w' => ∃ (x0_1 : ByteArray), v0 = .string x0_1 ∧ Aside0 (radix_Parse.l0 kq x0_1 a1 = some (r1, r2)) ∧ Aside0 (kq ≤ k) ∧ Aside0 (Below w.heap.size w w'))
   case atStart => exact ⟨(a0), dF, H', ⟨Nat.le_refl _⟩, ⟨dB⟩⟩
   case round =>
    clear H'
    obtain ⟨x0_1, rfl, HA, HK1, HB⟩ := hrel
    cases gk with
    | zero => exact absurd HA.out (by simp [radix_Parse.l0])
    | succ k1 =>
     have H := HA.out
     clear HA
     simp only [radix_Parse.l0] at H
     by_cases c4 : x0_1.toList = ([] : List UInt8)
     ·rw [if_pos c4] at H
      obtain ⟨c4b0, c4b1⟩ := bT c4
      clear c4
      (first | rw [c4b0] | (simp only [i64_w, i32_w]; rw [c4b0]) | skip)
      have H' := aM H
      clear H
      go_wp2
      go_meet
      case rel => exact ⟨_, (x0_1), dF, H', ⟨by have := HK1.out; first | omega | exact Nat.le_refl _⟩, ⟨dB⟩⟩
     ·rw [if_neg c4] at H
      obtain ⟨c4b0, c4b1⟩ := bF c4
      (first | rw [c4b0] | (simp only [i64_w, i32_w]; rw [c4b0]) | skip)
      replace H := nO H
      obtain ⟨c5, H⟩ := H
      have c5b0 : decide (0 < (x0_1.size : Int)) = true := decide_eq_true c5
      have c5b1 : decide (0 < x0_1.size) = true := decide_eq_true (by omega)
      clear c5
      by_cases c7 : (bt x0_1 0) = 48
      ·rw [if_pos c7] at H
       obtain ⟨c7b0, c7b1⟩ := bT c7
       clear c7
       replace H := nO H
       obtain ⟨c8, H⟩ := H
       have c8b0 := eq_true c8
       have c8b1 : decide (1 ≤ (x0_1.size : Int)) = true := decide_eq_true c8
       clear c8
       have H' := aM H
       clear H
       have p6 : 0 ≤ (0 : Int) := (by omega)
       have q6 : 0 < x0_1.size := (by have : (0 : Int) < (x0_1.size : Int) := of_decide_eq_true dS; omega)
       have hx6 : ∀ h : 0 < x0_1.size, ((x0_1[0]'h).toNat : Int) = bt x0_1 0 := bt_at x0_1 0
       clear p6
       have qi6 : (0 < (x0_1.size : Int)) = True := eq_true (of_decide_eq_true dS)
       replace q6 := eq_true q6
       go_wp2
       go_roundg k1
       case measure => have := HK1.out; omega
       case rel => exact ⟨(x0_1.extract 1 x0_1.size), dF, H', ⟨by have := HK1.out; omega⟩, ⟨dB⟩⟩
      ·rw [if_neg c7] at H
       obtain ⟨c7b0, c7b1⟩ := bF c7
       have H' := aM H
       clear H
       have p6 : 0 ≤ (0 : Int) := (by omega)
       have q6 : 0 < x0_1.size := (by have : (0 : Int) < (x0_1.size : Int) := of_decide_eq_true dS; omega)
       have hx6 : ∀ h : 0 < x0_1.size, ((x0_1[0]'h).toNat : Int) = bt x0_1 0 := bt_at x0_1 0
       clear p6
       have qi6 : (0 < (x0_1.size : Int)) = True := eq_true (of_decide_eq_true dS)
       replace q6 := eq_true q6
       go_wp2
       go_meet
       case rel => exact ⟨_, (x0_1), dF, H', ⟨by have := HK1.out; first | omega | exact Nat.le_refl _⟩, ⟨dB⟩⟩
  case rest =>
   clear HC3
   obtain ⟨kq, x0_2, rfl, HA, HJ2, HB⟩ := hcut
   cases kq with
   | zero => exact absurd HA.out (by simp [radix_Parse.j1])
   | succ kj2 =>
    have H := HA.out
    clear HA
    simp only [radix_Parse.j1] at H
    by_cases c9 : (x0_2.size : Int) > 262144
    ·rw [if_pos c9] at H
     have c9b0 : decide (262144 < (x0_2.size : Int)) = true := decide_eq_true c9
     have c9b1 : decide (262144 < x0_2.size) = true := decide_eq_true (by omega)
     clear c9
     simp only [Option.some.injEq, Prod.mk.injEq] at H
     obtain ⟨rfl, rfl⟩ := H
     go_wp2_with (first | ((with_reducible refine gate_callee (f := 10) rfl ?_); refine goesL_ (some 47) rfl rfl Tryd.func10 (by kernel_rfl) rfl #[.int .i64 0, .int .i64 21] rfl (by (try simp only [List.map_toArray, List.map_cons, List.map_nil]); first | done | rfl) ?_; (with_reducible refine (api_Wrap.calls 0 21 _).mono ?_); rintro e w' ⟨rfl, ⟨nde, rfl⟩⟩; refine ⟨_, rfl, ?_⟩))
     go_ret2
     exact ⟨_, _, by first | rfl | (simp; done) | (simp [*]; done), Kd.R_nil _ _ _ _ _, dB, fault_new _ (by decide) (below_size dB)⟩
    ·rw [if_neg c9] at H
     have c9b0 : decide (262144 < (x0_2.size : Int)) = false := decide_eq_false c9
     have c9b1 : decide (262144 < x0_2.size) = false := decide_eq_false (by omega)
     clear c9
     replace H := oA H
     obtain ⟨⟨t122, t123⟩, A10, H⟩ := H
     (try dsimp only at H)
     have H' := aM H
     clear H
     go_wp2_with (first | ((with_reducible refine gate_callee (f := 12) rfl ?_); refine gL (some 50) Tryd.func12 #[.int .i64 a1] ?_; (with_reducible refine (radix_chunk.calls a1 t122 t123 _ A10.out).mono ?_); rintro e w' ⟨rfl, ⟨nd, rfl⟩⟩; refine ⟨_, rfl, ?_⟩))
     go_loopg [0, 10] kj2 (fun kq v0 v10 w' => ∃ (x0_2 : ByteArray) (x10_2 : List Int), v0 = .string x0_2 ∧ Aside0 (radix_Parse.l1 kq x0_2 a1 t122 t123 x10_2 = some (r1, r2)) ∧ Aside0 (kq ≤ kj2) ∧ Aside0 (Kd.R (Kd.int .u64) 36 w' w.heap.size (fun _ => True) v10 x10_2) ∧ Aside0 (Below w.heap.size w w'))
     case atStart => exact ⟨(x0_2), (([] : List Int)), dF, H', ⟨Nat.le_refl _⟩, ⟨by first | exact Kd.R_nil _ _ _ _ _ | exact Kd.N_nil _ _ _ _ _ | exact Kd.V_nil _ _ _ _ _ | exact Kd.Q_nil _ _ _ _ _ | exact Kd.S_nil _ _ _ _ _⟩, ⟨dB⟩⟩
     case round =>
      clear H'
      try clear c9
      try clear c9b0 c9b1
      obtain ⟨x0_2, x10_2, rfl, HA, HK2, HO_10, HB⟩ := hrel
      cases gk with
      | zero => exact absurd HA.out (by simp [radix_Parse.l1])
      | succ k2 =>
       have H := HA.out
       clear HA
       simp only [radix_Parse.l1] at H
       by_cases c11 : x0_2.toList = ([] : List UInt8)
       ·rw [if_pos c11] at H
        obtain ⟨c11b0, c11b1⟩ := bT c11
        clear c11
        simp only [Option.some.injEq, Prod.mk.injEq] at H
        obtain ⟨rfl, rfl⟩ := H
        go_wp2
        go_ret2
        exact ⟨_, _, dE, dR HO_10.out, dB, fault_none _ _⟩
       ·rw [if_neg c11] at H
        obtain ⟨c11b0, c11b1⟩ := bF c11
        obtain ⟨ji12, hji12⟩ : ∃ j_ : Int, (mn t123 (x0_2.size : Int)) = j_ := ⟨_, rfl⟩
        first | rw [hji12] at H | simp only [hji12] at H
        have hji12_ : (if (x0_2.size : Int) < t123 then (x0_2.size : Int) else t123) = ji12 := hji12
        have HC13 := aM H
        clear H
        go_upto_if 62 with (fail)
        go_cut [12] (fun v12 wc => ∃ (kq : Nat) (x12_12 : Int), v12 = .int .u64 x12_12 ∧ Aside0 (radix_Parse.j4 kq x0_2 a1 t122 t123 x10_2 ji12 x12_12 = some (r1, r2)) ∧ Aside0 (kq ≤ k2) ∧ Aside0 (Kd.R (Kd.int .u64) 36 wc w.heap.size (fun _ => True) u10 x10_2) ∧ Aside0 (Below w.heap.size w wc))
        case first =>
         have H := HC13.out
         clear HC13
         by_cases c14 : (ji12) < t123
         ·rw [if_pos c14] at H
          have c14b0 := decide_eq_true c14
          clear c14
          (first | rw [c14b0] | (simp only [i64_w, i32_w]; rw [c14b0]) | skip)
          have H' := aM H
          clear H
          go_wp2
          go_loopg [12, 64] k2 (fun kq v12 v64 w' => ∃ (x12_3 : Int) (x64_3 : Int), v12 = .int .u64 x12_3 ∧ v64 = .int .i64 x64_3 ∧ Aside0 (radix_Parse.l2 kq x0_2 a1 t122 t123 x10_2 ji12 x12_3 ji12 x64_3 = some (r1, r2)) ∧ Aside0 (kq ≤ k2) ∧ Aside0 (Kd.R (Kd.int .u64) 36 w' w.heap.size (fun _ => True) u10 x10_2) ∧ Aside0 (Below w.heap.size w w'))
          case atStart => exact ⟨(1), (0), dF, dF, H', ⟨Nat.le_refl _⟩, ⟨dR HO_10.out⟩, ⟨dB⟩⟩
          case round =>
           clear H'
           try clear c9
           try clear c9b0 c9b1
           try clear c11
           try clear c11b0 c11b1
           try clear c14
           try clear c14b0
           obtain ⟨x12_3, x64_3, rfl, rfl, HA, HK3, HO_10, HB⟩ := hrel
           cases gk with
           | zero => exact absurd HA.out (by simp [radix_Parse.l2])
           | succ k3 =>
            have H := HA.out
            clear HA
            simp only [radix_Parse.l2] at H
            by_cases c15 : x64_3 < ji12
            ·rw [if_pos c15] at H
             have c15b0 := decide_eq_true c15
             clear c15
             have H' := aM H
             clear H
             go_wp2
             go_roundg k3
             case measure => have := HJ2.out; have := HK2.out; have := HK3.out; omega
             case rel => exact ⟨(IntKind.u64.wrap (x12_3 * (IntKind.u64.wrap (a1)))), (wrap64 (x64_3 + 1)), dF, dF, H', ⟨by have := HJ2.out; have := HK2.out; have := HK3.out; omega⟩, ⟨dR HO_10.out⟩, ⟨dB⟩⟩
            ·rw [if_neg c15] at H
             have c15b0 := decide_eq_false c15
             clear c15
             have H' := aM H
             clear H
             go_wp2
             go_meet
             case rel => exact ⟨_, (x12_3), dF, H', ⟨by have := HJ2.out; have := HK2.out; have := HK3.out; first | omega | exact Nat.le_refl _⟩, ⟨dR HO_10.out⟩, ⟨dB⟩⟩
         ·rw [if_neg c14] at H
          have c14b0 := decide_eq_false c14
          clear c14
          (first | rw [c14b0] | (simp only [i64_w, i32_w]; rw [c14b0]) | skip)
          have H' := aM H
          clear H
          go_wp2
          go_meet
          case rel => exact ⟨_, (t122), dF, H', ⟨by have := HJ2.out; have := HK2.out; first | omega | exact Nat.le_refl _⟩, ⟨dR HO_10.out⟩, ⟨dB⟩⟩
        case rest =>
         clear HC13
         try clear c9
         try clear c9b0 c9b1
         try clear c11
         try clear c11b0 c11b1
         obtain ⟨kq, x12_12, rfl, HA, HJ12, HO_10, HB⟩ := hcut
         cases kq with
         | zero => exact absurd HA.out (by simp [radix_Parse.j4])
         | succ kj12 =>
          have H := HA.out
          clear HA
          simp only [radix_Parse.j4] at H
          replace H := oA H
          obtain ⟨t124, A16, H⟩ := H
          (try dsimp only at H)
          replace H := oA H
          obtain ⟨⟨t127, t128⟩, A17, H⟩ := H
          (try dsimp only at H)
          by_cases c18 : t128 = 0
          ·rw [if_pos c18] at H
           obtain ⟨c18b0, c18b1⟩ := bT c18
           clear c18
           replace H := nO H
           obtain ⟨c19, H⟩ := H
           have c19b0 := eq_true c19
           have c19b1 : decide (0 ≤ ji12) = true := decide_eq_true c19
           clear c19
           replace H := nO H
           obtain ⟨c20, H⟩ := H
           have c20b0 := eq_true c20
           have c20b1 := decide_eq_true c20
           clear c20
           replace H := oA H
           obtain ⟨t131, A21, H⟩ := H
           (try dsimp only at H)
           replace H := oA H
           obtain ⟨t132, A22, H⟩ := H
           (try dsimp only at H)
           replace H := oA H
           obtain ⟨⟨t135, t136⟩, A23, H⟩ := H
           (try dsimp only at H)
           by_cases c24 : t136 = 0
           ·rw [if_pos c24] at H
            obtain ⟨c24b0, c24b1⟩ := bT c24
            clear c24
            have c25b0 := eq_true (of_decide_eq_true dS : 0 ≤ ji12)
            have c26b0 := eq_true (of_decide_eq_true dS : ji12 ≤ (x0_2.size : Int))
            have H' := aM H
            clear H
            go_wp2_with (first | ((with_reducible refine gate_callee (f := 14) rfl ?_); refine gL (some 74) Tryd.func14 #[.int .u64 x12_12] ?_; (with_reducible refine (nat_From.calls x12_12 t124 _ A16.out).mono ?_); rintro e w27 ⟨v125, rfl, ho0, hb⟩; refine ⟨_, rfl, ?_⟩; have HO126 := aM (Kd.R_lower (nW ho0 HO_10.out) (below_size dB)); replace HO_10 := oE HO_10.out ho0 hb; replace HB := hS HB.out hb; (try clear hb); (try clear ho0); obtain ⟨Ao28, co28, rfl⟩ := Kd.R_slice HO_10.out; obtain ⟨Ao29, co29, rfl⟩ := Kd.R_slice HO126.out) | ((with_reducible refine gate_callee (f := 13) rfl ?_); refine gL (some 75) Tryd.func13 #[.slice Ao28 x10_2.length co28, .slice Ao29 t124.length co29] ?_; (with_reducible refine (nat_Mul.calls kj12 _ _ x10_2 _ _ t124 t127 t128 _ ?side1 (Kd.R_reads' HO_10.out).2.1 ?side3 (Kd.R_reads' HO126.out).2.1 A17.out).mono ?_); (case side1 => exact dC (Kd.R_reads' HO_10.out).2.2); (case side3 => exact dC (Kd.R_reads' HO126.out).2.2); rintro e w30 ⟨v129, rfl, ho0, hb⟩; refine ⟨_, rfl, ?_⟩; have HO130 := aM (Kd.R_lower (nW (nW ho0 HO_10.out) HO126.out) (below_size dB)); replace HO_10 := oE HO_10.out ho0 hb; replace HO126 := oE HO126.out ho0 hb; replace HB := hS HB.out hb; (try clear hb); (try clear ho0)) | ((with_reducible refine gate_callee (f := 16) rfl ?_); refine goesL_ (some 88) rfl rfl Tryd.func16 (by kernel_rfl) rfl #[.string (x0_2.extract 0 (ji12 : Int).toNat), .int .i64 a1] rfl (by (try simp only [List.map_toArray, List.map_cons, List.map_nil]); first | done | (simp only [hji12]; rfl) | rfl | (simp only [List.length_drop, List.length_take]; rfl)) ?_; (with_reducible refine (radix_word.calls (x0_2.extract 0 (ji12 : Int).toNat) a1 t131 _ A21.out).mono ?_); rintro e w31 ⟨rfl, hb⟩; refine ⟨_, rfl, ?_⟩; replace HO_10 := oB HO_10.out hb; replace HO126 := oB HO126.out hb; replace HO130 := oB HO130.out hb; replace HB := hS HB.out hb; (try clear hb)) | ((with_reducible refine gate_callee (f := 14) rfl ?_); refine gL (some 89) Tryd.func14 #[.int .u64 t131] ?_; (with_reducible refine (nat_From.calls t131 t132 _ A22.out).mono ?_); rintro e w32 ⟨v133, rfl, ho0, hb⟩; refine ⟨_, rfl, ?_⟩; have HO134 := aM (Kd.R_lower (nW (nW (nW ho0 HO_10.out) HO126.out) HO130.out) (below_size dB)); replace HO_10 := oE HO_10.out ho0 hb; replace HO126 := oE HO126.out ho0 hb; replace HO130 := oE HO130.out ho0 hb; replace HB := hS HB.out hb; (try clear hb); (try clear ho0); obtain ⟨Ao33, co33, rfl⟩ := Kd.R_slice HO130.out; obtain ⟨Ao34, co34, rfl⟩ := Kd.R_slice HO134.out) | ((with_reducible refine gate_callee (f := 15) rfl ?_); refine gL (some 90) Tryd.func15 #[.slice Ao33 t127.length co33, .slice Ao34 t132.length co34] ?_; (with_reducible refine (nat_Add.calls kj12 _ _ t127 _ _ t132 t135 t136 _ ?side1 (Kd.R_reads' HO130.out).2.1 ?side3 (Kd.R_reads' HO134.out).2.1 A23.out).mono ?_); (case side1 => exact dC (Kd.R_reads' HO130.out).2.2); (case side3 => exact dC (Kd.R_reads' HO134.out).2.2); rintro e w35 ⟨v137, rfl, ho0, hb⟩; refine ⟨_, rfl, ?_⟩; have HO138 := aM (Kd.R_lower (nW (nW (nW (nW ho0 HO_10.out) HO126.out) HO130.out) HO134.out) (below_size dB)); replace HO_10 := oE HO_10.out ho0 hb; replace HO126 := oE HO126.out ho0 hb; replace HO130 := oE HO130.out ho0 hb; replace HO134 := oE HO134.out ho0 hb; replace HB := hS HB.out hb; (try clear hb); (try clear ho0)))
            go_roundg kj12
            case measure => have := HJ2.out; have := HK2.out; have := HJ12.out; omega
            case rel => exact ⟨(x0_2.extract (ji12 : Int).toNat x0_2.size), (t135), (by first | rfl | (simp; done) | (simp only [← hji12] <;> (first | rfl | simp)) | (simp [*]; done)), H', ⟨by have := HJ2.out; have := HK2.out; have := HJ12.out; omega⟩, ⟨oM HO138.out (fun _ hk => trivial)⟩, ⟨dB⟩⟩
           ·rw [if_neg c24] at H
            obtain ⟨c24b0, c24b1⟩ := bF c24
            simp only [Option.some.injEq, Prod.mk.injEq] at H
            obtain ⟨rfl, rfl⟩ := H
            go_wp2_with (first | ((with_reducible refine gate_callee (f := 14) rfl ?_); refine gL (some 74) Tryd.func14 #[.int .u64 x12_12] ?_; (with_reducible refine (nat_From.calls x12_12 t124 _ A16.out).mono ?_); rintro e w36 ⟨v125, rfl, ho0, hb⟩; refine ⟨_, rfl, ?_⟩; have HO126 := aM (Kd.R_lower (nW ho0 HO_10.out) (below_size dB)); replace HO_10 := oE HO_10.out ho0 hb; replace HB := hS HB.out hb; (try clear hb); (try clear ho0); obtain ⟨Ao37, co37, rfl⟩ := Kd.R_slice HO_10.out; obtain ⟨Ao38, co38, rfl⟩ := Kd.R_slice HO126.out) | ((with_reducible refine gate_callee (f := 13) rfl ?_); refine gL (some 75) Tryd.func13 #[.slice Ao37 x10_2.length co37, .slice Ao38 t124.length co38] ?_; (with_reducible refine (nat_Mul.calls kj12 _ _ x10_2 _ _ t124 t127 t128 _ ?side1 (Kd.R_reads' HO_10.out).2.1 ?side3 (Kd.R_reads' HO126.out).2.1 A17.out).mono ?_); (case side1 => exact dC (Kd.R_reads' HO_10.out).2.2); (case side3 => exact dC (Kd.R_reads' HO126.out).2.2); rintro e w39 ⟨v129, rfl, ho0, hb⟩; refine ⟨_, rfl, ?_⟩; have HO130 := aM (Kd.R_lower (nW (nW ho0 HO_10.out) HO126.out) (below_size dB)); replace HO_10 := oE HO_10.out ho0 hb; replace HO126 := oE HO126.out ho0 hb; replace HB := hS HB.out hb; (try clear hb); (try clear ho0)) | ((with_reducible refine gate_callee (f := 16) rfl ?_); refine goesL_ (some 88) rfl rfl Tryd.func16 (by kernel_rfl) rfl #[.string (x0_2.extract 0 (ji12 : Int).toNat), .int .i64 a1] rfl (by (try simp only [List.map_toArray, List.map_cons, List.map_nil]); first | done | (simp only [hji12]; rfl) | rfl | (simp only [List.length_drop, List.length_take]; rfl)) ?_; (with_reducible refine (radix_word.calls (x0_2.extract 0 (ji12 : Int).toNat) a1 t131 _ A21.out).mono ?_); rintro e w40 ⟨rfl, hb⟩; refine ⟨_, rfl, ?_⟩; replace HO_10 := oB HO_10.out hb; replace HO126 := oB HO126.out hb; replace HO130 := oB HO130.out hb; replace HB := hS HB.out hb; (try clear hb)) | ((with_reducible refine gate_callee (f := 14) rfl ?_); refine gL (some 89) Tryd.func14 #[.int .u64 t131] ?_; (with_reducible refine (nat_From.calls t131 t132 _ A22.out).mono ?_); rintro e w41 ⟨v133, rfl, ho0, hb⟩; refine ⟨_, rfl, ?_⟩; have HO134 := aM (Kd.R_lower (nW (nW (nW ho0 HO_10.out) HO126.out) HO130.out) (below_size dB)); replace HO_10 := oE HO_10.out ho0 hb; replace HO126 := oE HO126.out ho0 hb; replace HO130 := oE HO130.out ho0 hb; replace HB := hS HB.out hb; (try clear hb); (try clear ho0); obtain ⟨Ao42, co42, rfl⟩ := Kd.R_slice HO130.out; obtain ⟨Ao43, co43, rfl⟩ := Kd.R_slice HO134.out) | ((with_reducible refine gate_callee (f := 15) rfl ?_); refine gL (some 90) Tryd.func15 #[.slice Ao42 t127.length co42, .slice Ao43 t132.length co43] ?_; (with_reducible refine (nat_Add.calls kj12 _ _ t127 _ _ t132 t135 t136 _ ?side1 (Kd.R_reads' HO130.out).2.1 ?side3 (Kd.R_reads' HO134.out).2.1 A23.out).mono ?_); (case side1 => exact dC (Kd.R_reads' HO130.out).2.2); (case side3 => exact dC (Kd.R_reads' HO134.out).2.2); rintro e w44 ⟨v137, rfl, ho0, hb⟩; refine ⟨_, rfl, ?_⟩; have HO138 := aM (Kd.R_lower (nW (nW (nW (nW ho0 HO_10.out) HO126.out) HO130.out) HO134.out) (below_size dB)); replace HO_10 := oE HO_10.out ho0 hb; replace HO126 := oE HO126.out ho0 hb; replace HO130 := oE HO130.out ho0 hb; replace HO134 := oE HO134.out ho0 hb; replace HB := hS HB.out hb; (try clear hb); (try clear ho0)) | ((with_reducible refine gate_callee (f := 10) rfl ?_); refine goesL_ (some 96) rfl rfl Tryd.func10 (by kernel_rfl) rfl #[.int .i64 0, .int .i64 t136] rfl (by (try simp only [List.map_toArray, List.map_cons, List.map_nil]); first | done | rfl) ?_; (with_reducible refine (api_Wrap.calls 0 t136 _).mono ?_); rintro e w' ⟨rfl, ⟨nde, rfl⟩⟩; refine ⟨_, rfl, ?_⟩))
            go_ret2
            exact ⟨_, _, by first | rfl | (simp; done) | (simp [*]; done), Kd.R_nil _ _ _ _ _, dB, fault_new _ c24 (below_size dB)⟩
          ·rw [if_neg c18] at H
           obtain ⟨c18b0, c18b1⟩ := bF c18
           simp only [Option.some.injEq, Prod.mk.injEq] at H
           obtain ⟨rfl, rfl⟩ := H
           go_wp2_with (first | ((with_reducible refine gate_callee (f := 14) rfl ?_); refine gL (some 74) Tryd.func14 #[.int .u64 x12_12] ?_; (with_reducible refine (nat_From.calls x12_12 t124 _ A16.out).mono ?_); rintro e w45 ⟨v125, rfl, ho0, hb⟩; refine ⟨_, rfl, ?_⟩; have HO126 := aM (Kd.R_lower (nW ho0 HO_10.out) (below_size dB)); replace HO_10 := oE HO_10.out ho0 hb; replace HB := hS HB.out hb; (try clear hb); (try clear ho0); obtain ⟨Ao46, co46, rfl⟩ := Kd.R_slice HO_10.out; obtain ⟨Ao47, co47, rfl⟩ := Kd.R_slice HO126.out) | ((with_reducible refine gate_callee (f := 13) rfl ?_); refine gL (some 75) Tryd.func13 #[.slice Ao46 x10_2.length co46, .slice Ao47 t124.length co47] ?_; (with_reducible refine (nat_Mul.calls kj12 _ _ x10_2 _ _ t124 t127 t128 _ ?side1 (Kd.R_reads' HO_10.out).2.1 ?side3 (Kd.R_reads' HO126.out).2.1 A17.out).mono ?_); (case side1 => exact dC (Kd.R_reads' HO_10.out).2.2); (case side3 => exact dC (Kd.R_reads' HO126.out).2.2); rintro e w48 ⟨v129, rfl, ho0, hb⟩; refine ⟨_, rfl, ?_⟩; have HO130 := aM (Kd.R_lower (nW (nW ho0 HO_10.out) HO126.out) (below_size dB)); replace HO_10 := oE HO_10.out ho0 hb; replace HO126 := oE HO126.out ho0 hb; replace HB := hS HB.out hb; (try clear hb); (try clear ho0)) | ((with_reducible refine gate_callee (f := 10) rfl ?_); refine goesL_ (some 81) rfl rfl Tryd.func10 (by kernel_rfl) rfl #[.int .i64 0, .int .i64 t128] rfl (by (try simp only [List.map_toArray, List.map_cons, List.map_nil]); first | done | rfl) ?_; (with_reducible refine (api_Wrap.calls 0 t128 _).mono ?_); rintro e w' ⟨rfl, ⟨nde, rfl⟩⟩; refine ⟨_, rfl, ?_⟩))
           go_ret2
           exact ⟨_, _, by first | rfl | (simp; done) | (simp [*]; done), Kd.R_nil _ _ _ _ _, dB, fault_new _ c18 (below_size dB)⟩
def plumblaw04_eq.l0 : Nat → List Int → List Int → Int → Option (Bool)
 | 0, _, _, _ => none
 | k + 1, x0, x1, x5 => if x5 < (x0.length : Int) then (if 0 ≤ x5 then (if x5 < (x1.length : Int) then (if (rd x0 x5) = (rd x1 x5) then (plumblaw04_eq.l0 k x0 x1 (wrap64 (x5 + 1))) else (some false)) else (none)) else (none)) else (some true)
def plumblaw04_eq.f (k : Nat) (l0 : List Int) (l1 : List Int) : Option (Bool) := if (l0.length : Int) = (l1.length : Int) then (plumblaw04_eq.l0 k l0 l1 0) else (some false)
theorem plumblaw04_eq.mono_l : ∀ k, (∀ y0 y1 y2, LeO (plumblaw04_eq.l0 k y0 y1 y2) (plumblaw04_eq.l0 (k + 1) y0 y1 y2))
 | 0 => fun _ _ _ r h => by simp [plumblaw04_eq.l0] at h
 | k + 1 => by
  have ih0 := plumblaw04_eq.mono_l k
  ·intro y0 y1 y2
   unfold plumblaw04_eq.l0
   exact mX
theorem plumblaw04_eq.mono : ∀ a0 a1 k, LeO (plumblaw04_eq.f k a0 a1) (plumblaw04_eq.f (k + 1) a0 a1) := by
 intro a0 a1 k
 have ih0 := plumblaw04_eq.mono_l k
 unfold plumblaw04_eq.f
 exact mX
set_option maxHeartbeats 8000000 in
set_option maxRecDepth 100000 in
theorem plumblaw04_eq.calls (k : Nat) (A0 : Option Addr) (c0 : Nat) (l0 : List Int) (A1 : Option Addr) (c1 : Nat) (l1 : List Int) (r : Bool) (w : World) (hr0 : Kd.C (Kd.int .u64) w A0 l0.length l0) (hc0 : l0.length ≤ c0) (hr1 : Kd.C (Kd.int .u64) w A1 l1.length l1) (hc1 : l1.length ≤ c1) (h : plumblaw04_eq.f k l0 l1 = some r) :
  Calls Tryd.prog 7 #[.slice A0 l0.length c0, .slice A1 l1.length c1] w fun e w' => e = .returned (.bool r) ∧ Drawn0 w w' := by
 have HR0 := aM hr0
 have HC0 := aM hc0
 clear hr0 hc0
 have HR1 := aM hr1
 have HC1 := aM hc1
 clear hr1 hc1
 have H := h
 clear h
 unfold plumblaw04_eq.f at H
 by_cases c3 : (l0.length : Int) = (l1.length : Int)
 ·rw [if_pos c3] at H
  obtain ⟨c3b0, c3b1⟩ := bT c3
  have c3b2 : (l0.length == l1.length) = true := by first | simpa using c3 | (simp at c3 ⊢; omega)
  clear c3
  have H' := aM H
  clear H
  go_enter Tryd.func7, Tryd.ntmps7
  go_wp2
  repeat (go_quiet (fail); try go_wp2)
  go_loopg [5] k (fun kq v5 w' => ∃ (x5_1 : Int), v5 = .int .i64 x5_1 ∧ Aside0 (plumblaw04_eq.l0 kq l0 l1 x5_1 = some r) ∧ Aside0 (kq ≤ k) ∧ Drawn0 w w')
  case atStart => exact ⟨(0), dF, H', ⟨Nat.le_refl _⟩, dD⟩
  case round =>
   clear H'
   try clear c1
   try clear c3
   try clear c3b0 c3b1
   try clear c3b2
   obtain ⟨x5_1, rfl, HA, HK1, ⟨m1, rfl⟩⟩ := hrel
   cases gk with
   | zero => exact absurd HA.out (by simp [plumblaw04_eq.l0])
   | succ k1 =>
    have H := HA.out
    clear HA
    simp only [plumblaw04_eq.l0] at H
    by_cases c4 : x5_1 < (l0.length : Int)
    ·rw [if_pos c4] at H
     have c4b0 := decide_eq_true c4
     clear c4
     replace H := nO H
     obtain ⟨c5, H⟩ := H
     have c5b0 : decide (0 ≤ x5_1) = true := decide_eq_true c5
     clear c5
     replace H := nO H
     obtain ⟨c6, H⟩ := H
     have c6b0 := decide_eq_true c6
     clear c6
     by_cases c7 : (rd l0 x5_1) = (rd l1 x5_1)
     ·rw [if_pos c7] at H
      obtain ⟨c7b0, c7b1⟩ := bT c7
      clear c7
      have H' := aM H
      clear H
      have p122 : 0 ≤ (x5_1 : Int) := of_decide_eq_true dS
      have q122 : x5_1 < (l0.length : Int) := of_decide_eq_true dS
      obtain ⟨ad122, e122, hx122_0⟩ := Kd.at_int HR0.out x5_1 p122 q122
      cases e122
      replace p122 := eq_true p122
      replace q122 := eq_true q122
      have p123 : 0 ≤ (x5_1 : Int) := of_decide_eq_true dS
      have q123 : x5_1 < (l1.length : Int) := of_decide_eq_true dS
      obtain ⟨ad123, e123, hx123_0⟩ := Kd.at_int HR1.out x5_1 p123 q123
      cases e123
      replace p123 := eq_true p123
      replace q123 := eq_true q123
      go_wp2
      repeat (go_quiet (fail); try go_wp2)
      go_roundg k1
      case measure => have := HK1.out; omega
      case rel => exact ⟨(wrap64 (x5_1 + 1)), dF, H', ⟨by have := HK1.out; omega⟩, dD⟩
     ·rw [if_neg c7] at H
      obtain ⟨c7b0, c7b1⟩ := bF c7
      obtain rfl := Option.some.inj H
      have p122 : 0 ≤ (x5_1 : Int) := of_decide_eq_true dS
      have q122 : x5_1 < (l0.length : Int) := of_decide_eq_true dS
      obtain ⟨ad122, e122, hx122_0⟩ := Kd.at_int HR0.out x5_1 p122 q122
      cases e122
      replace p122 := eq_true p122
      replace q122 := eq_true q122
      have p123 : 0 ≤ (x5_1 : Int) := of_decide_eq_true dS
      have q123 : x5_1 < (l1.length : Int) := of_decide_eq_true dS
      obtain ⟨ad123, e123, hx123_0⟩ := Kd.at_int HR1.out x5_1 p123 q123
      cases e123
      replace p123 := eq_true p123
      replace q123 := eq_true q123
      go_wp2
      repeat (go_quiet (fail); try go_wp2)
      go_ret
      exact ⟨dF, dD⟩
    ·rw [if_neg c4] at H
     have c4b0 := decide_eq_false c4
     clear c4
     obtain rfl := Option.some.inj H
     go_wp2
     repeat (go_quiet (fail); try go_wp2)
     go_ret
     exact ⟨dF, dD⟩
 ·rw [if_neg c3] at H
  obtain ⟨c3b0, c3b1⟩ := bF c3
  have c3b2 : (l0.length == l1.length) = false := by first | simpa using c3 | (simp at c3 ⊢; omega)
  obtain rfl := Option.some.inj H
  go_enter Tryd.func7, Tryd.ntmps7
  go_wp2
  repeat (go_quiet (fail); try go_wp2)
  go_ret
  exact ⟨dF, dD⟩
def wide_Div.f (a0 : Int) (a1 : Int) (a2 : Int) : Option (Int × Int × Int) := if u64B a0 = true ∧ u64B a1 = true ∧ u64B a2 = true then (if a2 = 0 then some (0, 0, 10) else if a2 ≤ a0 then some (0, 0, 11) else some ((a0 * 18446744073709551616 + a1) / a2, (a0 * 18446744073709551616 + a1) % a2, 0)) else none
structure Mend (B r l d f : Int) : Prop where
 sum : d * (B / 4294967296) + f = r
 f0 : 0 ≤ f
 f1 : f < 4294967296
 le : (r * 4294967296 + l) / B ≤ d
structure DivIn (B r l : Int) : Prop where
 B0 : 9223372036854775808 ≤ B
 B1 : B < 18446744073709551616
 r0 : 0 ≤ r
 r1 : r < B
 l0 : 0 ≤ l
 l1 : l < 4294967296
theorem DivIn.q {B r l : Int} (h : DivIn B r l) : 0 ≤ (r * 4294967296 + l) / B ∧ (r * 4294967296 + l) / B < 4294967296 := by
 obtain ⟨h1, h2, h3, h4, h5, h6⟩ := h
 refine ⟨Int.ediv_nonneg (by omega) (by omega), ?_⟩
 exact Int.ediv_lt_of_lt_mul (by omega) (by omega)
theorem or_zero {y : Int} (h0 : 0 ≤ y) (h1 : y < 18446744073709551616) : Go.bits .or .u64 0 y = y := by rw [or_join 64 (by omega) (by omega) rfl h0 h1 h1]; omega
theorem Mend.start {B r l : Int} (h : DivIn B r l) : Mend B r l (r / (B / 4294967296)) (r % (B / 4294967296)) := by
 obtain ⟨h1, h2, h3, h4, h5, h6⟩ := h
 have hb : 0 < B / 4294967296 := by omega
 have e := Int.mul_ediv_add_emod r (B / 4294967296)
 have m0 := Int.emod_nonneg r (show B / 4294967296 ≠ 0 by omega)
 have m1 := Int.emod_lt_of_pos r hb
 refine ⟨by rw [Int.mul_comm]; exact e, m0, by omega, ?_⟩
 have hq : 0 ≤ r / (B / 4294967296) := Int.ediv_nonneg h3 (by omega)
 have hlt : r * 4294967296 + l < (r / (B / 4294967296) + 1) * B := by
  generalize r / (B / 4294967296) = q at *
  generalize hB : B / 4294967296 = b at *
  have h7 : b * 4294967296 ≤ B := by omega
  have h8 : (q + 1) * (b * 4294967296) ≤ (q + 1) * B := Int.mul_le_mul_of_nonneg_left h7 (by omega)
  have h9 : (q + 1) * (b * 4294967296) = (b * q + b) * 4294967296 := by grind
  omega
 have := Int.ediv_lt_of_lt_mul (by omega) hlt
 omega
theorem Mend.big {B r l d f : Int} (h : DivIn B r l) (m : Mend B r l d f) : 0 ≤ d ∧ d ≤ 4294967297 := by
 obtain ⟨h1, h2, h3, h4, h5, h6⟩ := h
 have h0 := Int.ediv_nonneg (show 0 ≤ r * 4294967296 + l by omega) (show 0 ≤ B by omega)
 refine ⟨Int.le_trans h0 m.le, ?_⟩
 apply Classical.byContradiction
 intro hc
 have h7 : 4294967298 * (B / 4294967296) ≤ d * (B / 4294967296) := Int.mul_le_mul_of_nonneg_right (by omega) (by omega)
 have := m.sum
 have := m.f0
 omega
theorem Mend.test {B r l d f : Int} (h : DivIn B r l) (m : Mend B r l d f) (hd : d ≤ 4294967295) :
  Go.bits .or .u64 (IntKind.u64.wrap (f * 4294967296)) l = f * 4294967296 + l ∧ IntKind.u64.wrap (d * Go.bits .and .u64 B 4294967295) = d * (B % 4294967296) ∧
  (f * 4294967296 + l < d * (B % 4294967296) ↔ (r * 4294967296 + l) / B < d) := by
 have hb := m.big h
 obtain ⟨h1, h2, h3, h4, h5, h6⟩ := h
 have f0 := m.f0
 have f1 := m.f1
 have e := m.sum
 rw [join_half f0 f1 h5 h6, and_half (by omega) h2]
 have p := mul_half (x := d) (y := B % 4294967296) (by omega) (by omega) (by omega) (by omega)
 refine ⟨rfl, u64w_of (by omega) (by omega), ?_⟩
 have eB : d * B = d * (B / 4294967296) * 4294967296 + d * (B % 4294967296) := by
  have : B = B / 4294967296 * 4294967296 + B % 4294967296 := by omega
  generalize B / 4294967296 = u at *
  generalize B % 4294967296 = v at *
  rw [this]; grind
 rw [Int.ediv_lt_iff_lt_mul (by omega), eB]
 omega
theorem Mend.lower {B r l d f : Int} (h : DivIn B r l) (m : Mend B r l d f) (ht : 4294967295 < d ∨ (r * 4294967296 + l) / B < d) :
  1 ≤ d ∧ (d - 1) * (B / 4294967296) + (f + B / 4294967296) = r ∧ (r * 4294967296 + l) / B ≤ d - 1 := by
 have hq := h.q
 have := m.le
 refine ⟨by omega, ?_, by omega⟩
 have := m.sum
 rw [Int.sub_mul]; omega
theorem Mend.next {B r l d f : Int} (h : DivIn B r l) (m : Mend B r l d f) (ht : 4294967295 < d ∨ (r * 4294967296 + l) / B < d) (hf : f + B / 4294967296 < 4294967296) : Mend B r l (d - 1) (f + B / 4294967296) := by
 have h1 := m.lower h ht
 have := m.f0
 have := h.B0
 exact ⟨h1.2.1, by omega, hf, h1.2.2⟩
theorem Mend.stop {B r l d f : Int} (h : DivIn B r l) (m : Mend B r l d f) (ht : 4294967295 < d ∨ (r * 4294967296 + l) / B < d) (hf : 4294967296 ≤ f + B / 4294967296) : d - 1 = (r * 4294967296 + l) / B := by
 have h1 := m.lower h ht
 have hb := m.big h
 obtain ⟨g1, g2, g3, g4, g5, g6⟩ := h
 have : d - 1 ≤ (r * 4294967296 + l) / B := by
  refine Int.le_ediv_of_mul_le (by omega) ?_
  have eB : (d - 1) * B = (d - 1) * (B / 4294967296) * 4294967296 + (d - 1) * (B % 4294967296) := by
   have : B = B / 4294967296 * 4294967296 + B % 4294967296 := by omega
   generalize B / 4294967296 = u at *
   generalize B % 4294967296 = v at *
   rw [this]; grind
  have h5 : (d - 1) * (B % 4294967296) ≤ 4294967296 * (B % 4294967296) := Int.mul_le_mul_of_nonneg_right (by omega) (by omega)
  rw [eB]
  have := h1.2.1
  omega
 omega
theorem div_rest {B r l : Int} (h : DivIn B r l) : IntKind.u64.wrap (IntKind.u64.wrap (IntKind.u64.wrap (r * 4294967296) + l) - IntKind.u64.wrap ((r * 4294967296 + l) / B * B)) = (r * 4294967296 + l) % B := by
 have e := Int.mul_ediv_add_emod (r * 4294967296 + l) B
 have m0 := Int.emod_nonneg (r * 4294967296 + l) (show B ≠ 0 by have := h.B0; omega)
 have m1 := Int.emod_lt_of_pos (r * 4294967296 + l) (show 0 < B by have := h.B0; omega)
 have := h.B1
 rw [Int.mul_comm] at e
 generalize (r * 4294967296 + l) / B * B = p at *
 simp only [u64w]
 omega
theorem DivIn.next {B r l l' : Int} (h : DivIn B r l) (h0 : 0 ≤ l') (h1 : l' < 4294967296) : DivIn B ((r * 4294967296 + l) % B) l' :=
 ⟨h.B0, h.B1, Int.emod_nonneg _ (by have := h.B0; omega), Int.emod_lt_of_pos _ (by have := h.B0; omega), h0, h1⟩
theorem div_two {B r l l' : Int} (h : DivIn B r l) (h0 : 0 ≤ l') (h1 : l' < 4294967296) :
  (r * 4294967296 + l) / B * 4294967296 + ((r * 4294967296 + l) % B * 4294967296 + l') / B = ((r * 4294967296 + l) * 4294967296 + l') / B ∧
  ((r * 4294967296 + l) % B * 4294967296 + l') % B = ((r * 4294967296 + l) * 4294967296 + l') % B := by
 have hB : 0 < B := by have := h.B0; omega
 have e := Int.mul_ediv_add_emod (r * 4294967296 + l) B
 generalize r * 4294967296 + l = n at *
 generalize hq : n / B = q at *
 generalize hr : n % B = s at *
 have e2 : n * 4294967296 + l' = (s * 4294967296 + l') + B * (q * 4294967296) := by rw [← e]; grind
 rw [e2, Int.add_mul_ediv_left _ _ (by omega), Int.add_mul_emod_self_left]
 exact ⟨by omega, rfl⟩
theorem div_scaled {n b : Int} (s : Nat) (hb : 0 < b) : n * 2 ^ s / (b * 2 ^ s) = n / b ∧ n * 2 ^ s % (b * 2 ^ s) / 2 ^ s = n % b := by
 have hs := two_pow_pos s
 refine ⟨Int.mul_ediv_mul_of_pos_left n b hs, ?_⟩
 rw [Int.mul_comm n, Int.mul_comm b, Int.mul_emod_mul_of_pos _ _ hs, Int.mul_ediv_cancel_left _ (by omega)]
theorem div_begin {a0 a1 a2 L : Int} (h0 : 0 ≤ a0) (h1a : 0 ≤ a1) (h1b : a1 < 18446744073709551616) (h2 : a2 < 18446744073709551616) (h02 : a0 < a2) (hL : L = bitsN a2) :
  0 ≤ L ∧ 1 ≤ L ∧ L ≤ 64 ∧ IntKind.u64.wrap (a2 * 2 ^ (64 - L).toNat) = a2 * 2 ^ (64 - L).toNat ∧
  DivIn (a2 * 2 ^ (64 - L).toNat) (Go.bits .or .u64 (IntKind.u64.wrap (a0 * 2 ^ (64 - L).toNat)) (a1 / 2 ^ (64 - (64 - L)).toNat)) (IntKind.u64.wrap (a1 * 2 ^ (64 - L).toNat) / 4294967296) ∧
  0 ≤ Go.bits .and .u64 (IntKind.u64.wrap (a1 * 2 ^ (64 - L).toNat)) 4294967295 ∧ Go.bits .and .u64 (IntKind.u64.wrap (a1 * 2 ^ (64 - L).toNat)) 4294967295 < 4294967296 ∧
  (Go.bits .or .u64 (IntKind.u64.wrap (a0 * 2 ^ (64 - L).toNat)) (a1 / 2 ^ (64 - (64 - L)).toNat) * 4294967296 + IntKind.u64.wrap (a1 * 2 ^ (64 - L).toNat) / 4294967296) * 4294967296 + Go.bits .and .u64 (IntKind.u64.wrap (a1 * 2 ^ (64 - L).toNat)) 4294967295 = (a0 * 18446744073709551616 + a1) * 2 ^ (64 - L).toNat := by
 have hp : 0 < a2 := by omega
 have hL1 : 1 ≤ L := by rw [hL, bitsN_pos hp]; omega
 have hL2 : L ≤ 64 := by rw [hL]; exact bitsN_le_of_lt (n := 64) (by omega) h2
 have hlt := bitsN_lt hp
 have hge := bitsN_ge hp
 rw [← hL] at hlt hge
 obtain ⟨l, rfl⟩ : ∃ l : Nat, L = l + 1 := ⟨(L - 1).toNat, by omega⟩
 have e1 : ((l : Int) + 1).toNat = l + 1 := by omega
 rw [e1] at hlt hge
 simp only [Nat.add_sub_cancel] at hge
 have e2 : (64 - ((l : Int) + 1)).toNat = 63 - l := by omega
 have e3 : (64 - (64 - ((l : Int) + 1))).toNat = l + 1 := by omega
 rw [e2, e3]
 have hs := two_pow_pos (63 - l)
 have hs2 := two_pow_pos (l + 1)
 have p64 : (2 : Int) ^ (l + 1) * 2 ^ (63 - l) = 18446744073709551616 := by rw [← Int.pow_add, show l + 1 + (63 - l) = 64 from by omega]; rfl
 have p63 : (2 : Int) ^ l * 2 ^ (63 - l) = 9223372036854775808 := by rw [← Int.pow_add, show l + (63 - l) = 63 from by omega]; rfl
 have hSle : (2 : Int) ^ (63 - l) ≤ 2 ^ 63 := pow_mono (by omega)
 have hS63 : (2 : Int) ^ 63 = 9223372036854775808 := rfl
 have hB1 : a2 * 2 ^ (63 - l) < 18446744073709551616 := by
  rw [← p64]; exact Int.mul_lt_mul_of_pos_right hlt hs
 have hB0 : 9223372036854775808 ≤ a2 * 2 ^ (63 - l) := by
  rw [← p63]; exact Int.mul_le_mul_of_nonneg_right hge (Int.le_of_lt hs)
 have hA : a0 * 2 ^ (63 - l) + 2 ^ (63 - l) ≤ a2 * 2 ^ (63 - l) := by
  have : (a0 + 1) * 2 ^ (63 - l) ≤ a2 * 2 ^ (63 - l) := Int.mul_le_mul_of_nonneg_right (by omega) (Int.le_of_lt hs)
  rw [Int.add_mul, Int.one_mul] at this; exact this
 have hA0 : 0 ≤ a0 * 2 ^ (63 - l) := Int.mul_nonneg h0 (Int.le_of_lt hs)
 have hd0 : 0 ≤ a1 / 2 ^ (l + 1) := Int.ediv_nonneg h1a (Int.le_of_lt hs2)
 have hd1 : a1 / 2 ^ (l + 1) < 2 ^ (63 - l) := Int.ediv_lt_of_lt_mul hs2 (by rw [Int.mul_comm, p64]; exact h1b)
 have hw0 : IntKind.u64.wrap (a0 * 2 ^ (63 - l)) = a0 * 2 ^ (63 - l) := u64w_of hA0 (by omega)
 have hor : Go.bits .or .u64 (a0 * 2 ^ (63 - l)) (a1 / 2 ^ (l + 1)) = a0 * 2 ^ (63 - l) + a1 / 2 ^ (l + 1) :=
  or_join (63 - l) hA0 (by omega) (Int.mul_emod_left _ _) hd0 hd1 (by omega)
 have hand := and_half (x := IntKind.u64.wrap (a1 * 2 ^ (63 - l))) (u64w_range _).1 (u64w_range _).2
 have hw := u64w_range (a1 * 2 ^ (63 - l))
 have hsplit : a1 * 2 ^ (63 - l) = 18446744073709551616 * (a1 / 2 ^ (l + 1)) + IntKind.u64.wrap (a1 * 2 ^ (63 - l)) := by
  rw [u64w]
  have h9 : a1 * 2 ^ (63 - l) / 18446744073709551616 = a1 / 2 ^ (l + 1) := by
   rw [← p64]; exact Int.mul_ediv_mul_of_pos_left _ _ hs
  have := Int.mul_ediv_add_emod (a1 * 2 ^ (63 - l)) 18446744073709551616
  rw [h9] at this; omega
 rw [hw0, hor, hand]
 generalize IntKind.u64.wrap (a1 * 2 ^ (63 - l)) = v at *
 refine ⟨by omega, hL1, hL2, u64w_of (by omega) hB1, ⟨hB0, hB1, by omega, by omega, by omega, by omega⟩, by omega, by omega, ?_⟩
 have e9 : (a0 * 18446744073709551616 + a1) * 2 ^ (63 - l) = a0 * 2 ^ (63 - l) * 18446744073709551616 + a1 * 2 ^ (63 - l) := by grind
 rw [e9, hsplit]
 omega
set_option maxHeartbeats 8000000 in
theorem wide_Div.calls (a0 : Int) (a1 : Int) (a2 : Int) (r1 : Int) (r2 : Int) (r3 : Int) (w : World) (h : wide_Div.f a0 a1 a2 = some (r1, r2, r3)) :
  Calls Tryd.prog 45 #[.int .u64 a0, .int .u64 a1, .int .u64 a2] w fun e w' => e = .returned (.tuple #[.int .u64 r1, .int .u64 r2, .int .i64 r3]) ∧ Below w.heap.size w w' := by
 unfold wide_Div.f at h
 split at h
 case isFalse => cases h
 rename_i hh
 simp only [u64B_iff] at hh
 obtain ⟨⟨h0a, h0b⟩, ⟨h1a, h1b⟩, h2a, h2b⟩ := hh
 split at h
 case isTrue hz =>
  subst hz
  simp only [Option.some.injEq, Prod.mk.injEq] at h
  obtain ⟨rfl, rfl, rfl⟩ := h
  go_enter Tryd.func45, Tryd.ntmps45
  go_wp2
  go_ret3
  exact ⟨rfl, Below.refl _ _⟩
 rename_i hz
 have g1 : (a2 == 0) = false := beq_eq_false_iff_ne.mpr hz
 split at h
 case isTrue hge =>
  simp only [Option.some.injEq, Prod.mk.injEq] at h
  obtain ⟨rfl, rfl, rfl⟩ := h
  have g2 : decide (a2 ≤ a0) = true := decide_eq_true hge
  clear hz
  go_enter Tryd.func45, Tryd.ntmps45
  go_wp2
  go_ret3
  exact ⟨rfl, Below.refl _ _⟩
 rename_i hge
 have g2 : decide (a2 ≤ a0) = false := decide_eq_false hge
 simp only [Option.some.injEq, Prod.mk.injEq] at h
 obtain ⟨e1, e2, rfl⟩ := h
 have E1 := aM e1
 have E2 := aM e2
 clear e1 e2 hz
 obtain ⟨L, hL⟩ : ∃ L, L = bitsN a2 := ⟨_, rfl⟩
 obtain ⟨hL0, hL1, hL2, hB, hin, hl0, hl1, hN⟩ := div_begin h0a h1a h1b h2b (by omega) hL
 have HL := aM (wide_Len.f_eq h2a h2b 7 (by omega))
 rw [← hL] at HL
 have HB := aM hB; have HI := aM hin; have HN := aM hN; have Hl0 := aM hl0; have Hl1 := aM hl1
 clear hL hB hin hN hl0 hl1 hge
 go_enter Tryd.func45, Tryd.ntmps45
 go_wp2_with (first | (go_at_call 37; (with_reducible refine (wide_Len.calls 7 _ _ _ HL.out).mono ?_); rintro e w' ⟨rfl, ⟨n, rfl⟩⟩))
 go_quiet (fail)
 go_wp2
 have kc : ∀ (m j : Nat), j < 2 → ((w.drewN m).alloc (Obj.cells #[Value.int IntKind.u64 0, Value.int IntKind.u64 0] 70)).cell? ⟨w.heap.size, j, none⟩ = some (.int .u64 0) := by
  intro m j hj
  rw [blk_cell (blk_new' (w.drewN m) _ (g := w.heap.size) rfl) j]
  rcases j with _ | _ | j
  ·rfl
  ·rfl
  ·omega
 have kf : ∀ (m j : Nat), ((w.drewN m).alloc (Obj.cells #[Value.int IntKind.u64 0, Value.int IntKind.u64 0] 70)).frozen? ⟨w.heap.size, j, none⟩ = false := by
  intro m j
  exact blk_frozen (blk_new' (w.drewN m) _ (g := w.heap.size) rfl) j
 have kc0 := fun m => kc m 0 (by omega)
 have kc1 := fun m => kc m 1 (by omega)
 clear kc
 go_region
 clear kc0 kc1 kf
 go_upto_block 0 with (fail)
 rw [HB.out]
 generalize hBd : a2 * 2 ^ (64 - L).toNat = B at *
 generalize hRd : Go.bits BinOp.or IntKind.u64 (IntKind.u64.wrap (a0 * 2 ^ (64 - L).toNat)) (a1 / 2 ^ (64 - (64 - L)).toNat) = R at *
 generalize hl0d : IntKind.u64.wrap (a1 * 2 ^ (64 - L).toNat) / 4294967296 = l0 at *
 generalize hl1d : Go.bits BinOp.and IntKind.u64 (IntKind.u64.wrap (a1 * 2 ^ (64 - L).toNat)) 4294967295 = l1 at *
 have HC : ((((w.drewN (n + nq + 1)).alloc (Obj.cells #[Value.int IntKind.u64 0, Value.int IntKind.u64 0] 70)).setCell ⟨w.heap.size, 0, none⟩ (Value.int IntKind.u64 l0)).setCell ⟨w.heap.size, 1, none⟩ (Value.int IntKind.u64 l1)).heap[w.heap.size]? = some (.cells #[.int .u64 l0, .int .u64 l1] 70 (0, 0)) := blk_set (blk_set (blk_new' (w.drewN (n + nq + 1)) _ (g := w.heap.size) rfl) 0 _) 1 _
 have HW := aM (show Below w.heap.size w ((((w.drewN (n + nq + 1)).alloc (Obj.cells #[Value.int IntKind.u64 0, Value.int IntKind.u64 0] 70)).setCell ⟨w.heap.size, 0, none⟩ (Value.int IntKind.u64 l0)).setCell ⟨w.heap.size, 1, none⟩ (Value.int IntKind.u64 l1)) from below_set (below_set (below_alloc (pw_below_drewN (Below.refl _ _) _) _) (Nat.le_refl _)) (Nat.le_refl _))
 generalize ((((w.drewN (n + nq + 1)).alloc (Obj.cells #[Value.int IntKind.u64 0, Value.int IntKind.u64 0] 70)).setCell ⟨w.heap.size, 0, none⟩ (Value.int IntKind.u64 l0)).setCell ⟨w.heap.size, 1, none⟩ (Value.int IntKind.u64 l1)) = W1 at *
 have HC0 := blk_cell HC 0
 have HC1 := blk_cell HC 1
 replace HC0 : W1.cell? ⟨w.heap.size, 0, none⟩ = some (.int .u64 l0) := HC0
 replace HC1 : W1.cell? ⟨w.heap.size, 1, none⟩ = some (.int .u64 l1) := HC1
 clear HC
 have HI0 := HI
 have HI1 := aM (HI.out.next Hl0.out Hl1.out)
 go_cut [10, 12] (fun v10 v12 wx => v10 = .int .u64 (((R * 4294967296 + l0) % B * 4294967296 + l1) % B) ∧ v12 = .int .u64 ((R * 4294967296 + l0) / B * 4294967296 + ((R * 4294967296 + l0) % B * 4294967296 + l1) / B) ∧ Aside0 (Below w.heap.size w wx))
 case first =>
  have hB0 := HI.out.B0; have hB1 := HI.out.B1; have hR0 := HI.out.r0; have hR1 := HI.out.r1; have hl00 := HI.out.l0; have hl01 := HI.out.l1; have hl10 := HI1.out.l0; have hl11 := HI1.out.l1
  have hq0 := HI.out.q
  obtain ⟨hq0a, hq0b⟩ := hq0
  go_wp2
  refine wp_loop_rounds 3 ?_
  rw [rounds_succ]
  go_upto_block 2 with (fail)
  go_cut [14, 15] (fun v14 v15 wx => ∃ f : Int, v14 = .int .u64 ((R * 4294967296 + l0) / B) ∧ v15 = .int .u64 f ∧ wx.cell? ⟨w.heap.size, 0, none⟩ = some (.int .u64 l0) ∧ wx.cell? ⟨w.heap.size, 1, none⟩ = some (.int .u64 l1) ∧ Aside0 (Below w.heap.size w wx))
  case first =>
   go_wp2
   go_loopw [14, 15] (fun v14 v15 wr => ∃ d f : Int, v14 = .int .u64 d ∧ v15 = .int .u64 f ∧ Mend B R l0 d f ∧ wr.cell? ⟨w.heap.size, 0, none⟩ = some (.int .u64 l0) ∧ wr.cell? ⟨w.heap.size, 1, none⟩ = some (.int .u64 l1) ∧ Aside0 (Below w.heap.size w wr)) (fun v14 _ _ => (intOf v14).toNat)
   case atStart => exact ⟨_, _, rfl, rfl, Mend.start HI0.out, HC0, HC1, HW⟩
   case round =>
    obtain ⟨d, f, rfl, rfl, hm, hc0, hc1, hb⟩ := hrel
    have hbig := hm.big HI0.out
    obtain ⟨hd0, hd1⟩ := hbig
    have hf0 := hm.f0; have hf1 := hm.f1
    by_cases ht : 4294967295 < d ∨ (R * 4294967296 + l0) / B < d
    ·have hlow := hm.lower HI0.out ht
     have hd2 : 1 ≤ d := hlow.1
     have hT := aM ht
     have hg : (decide (4294967295 < d) = true) ∨ (decide (4294967295 < d) = false ∧ decide (Go.bits .or .u64 (f * 4294967296) l0 < IntKind.u64.wrap (d * Go.bits .and .u64 B 4294967295)) = true) := by
      by_cases c1 : 4294967295 < d
      ·exact .inl (decide_eq_true c1)
      ·have h3 := hm.test HI0.out (by omega)
       refine .inr ⟨decide_eq_false c1, ?_⟩
       rw [← u64w_of (x := f * 4294967296) (by omega) (by omega), h3.1, h3.2.1]
       exact decide_eq_true (h3.2.2.2 (by omega))
     clear ht hlow
     by_cases hf2 : f + B / 4294967296 < 4294967296
     ·have hf3 : decide (4294967295 < f + B / 4294967296) = false := decide_eq_false (by omega)
      have hnx := hm.next HI0.out hT.out hf2
      clear hf2
      rcases hg with hg | ⟨hg, hg2⟩
      all_goals
       go_wp2
       go_roundw
       case rel => exact ⟨_, _, rfl, rfl, hnx, hc0, hc1, hb⟩
       case measure => simp only [intOf]; omega
     ·have hf3 : decide (4294967295 < f + B / 4294967296) = true := decide_eq_true (by omega)
      have hst := aM (hm.stop HI0.out hT.out (by omega))
      clear hf2
      rcases hg with hg | ⟨hg, hg2⟩
      all_goals
       go_wp2
       go_meet
       exact ⟨_, by rw [hst.out], rfl, hc0, hc1, hb⟩
    ·have c1 : decide (4294967295 < d) = false := decide_eq_false (by omega)
     have h3 := hm.test HI0.out (by omega)
     have c2 : decide (Go.bits .or .u64 (f * 4294967296) l0 < IntKind.u64.wrap (d * Go.bits .and .u64 B 4294967295)) = false := by
      rw [← u64w_of (x := f * 4294967296) (by omega) (by omega), h3.1, h3.2.1]
      exact decide_eq_false (fun h4 => ht (.inr (h3.2.2.1 h4)))
     have hst := aM (show d = (R * 4294967296 + l0) / B from by have := hm.le; omega)
     clear h3 ht
     go_wp2
     go_meet
     exact ⟨_, by rw [hst.out], rfl, hc0, hc1, hb⟩
  case rest =>
   obtain ⟨f0, rfl, rfl, hc0, hc1, hb⟩ := hcut
   have hR10 := HI1.out.r0; have hR11 := HI1.out.r1
   have hq1 := HI1.out.q
   obtain ⟨hq1a, hq1b⟩ := hq1
   go_wp2
   rw [div_rest HI.out, or_zero hq0a (by omega), rounds_succ]
   clear HC0 HC1
   go_upto_block 2 with (fail)
   go_cut [14, 15] (fun v14 v15 wx => ∃ f : Int, v14 = .int .u64 ((((R * 4294967296 + l0) % B) * 4294967296 + l1) / B) ∧ v15 = .int .u64 f ∧ wx.cell? ⟨w.heap.size, 0, none⟩ = some (.int .u64 l0) ∧ wx.cell? ⟨w.heap.size, 1, none⟩ = some (.int .u64 l1) ∧ Aside0 (Below w.heap.size w wx))
   case first =>
    go_wp2
    go_loopw [14, 15] (fun v14 v15 wr => ∃ d f : Int, v14 = .int .u64 d ∧ v15 = .int .u64 f ∧ Mend B ((R * 4294967296 + l0) % B) l1 d f ∧ wr.cell? ⟨w.heap.size, 0, none⟩ = some (.int .u64 l0) ∧ wr.cell? ⟨w.heap.size, 1, none⟩ = some (.int .u64 l1) ∧ Aside0 (Below w.heap.size w wr)) (fun v14 _ _ => (intOf v14).toNat)
    case atStart => exact ⟨_, _, rfl, rfl, Mend.start HI1.out, hc0, hc1, hb⟩
    case round =>
     obtain ⟨d, f, rfl, rfl, hm, hc0, hc1, hb⟩ := hrel
     have hbig := hm.big HI1.out
     obtain ⟨hd0, hd1⟩ := hbig
     have hf0 := hm.f0; have hf1 := hm.f1
     by_cases ht : 4294967295 < d ∨ (((R * 4294967296 + l0) % B) * 4294967296 + l1) / B < d
     ·have hlow := hm.lower HI1.out ht
      have hd2 : 1 ≤ d := hlow.1
      have hT := aM ht
      have hg : (decide (4294967295 < d) = true) ∨ (decide (4294967295 < d) = false ∧ decide (Go.bits .or .u64 (f * 4294967296) l1 < IntKind.u64.wrap (d * Go.bits .and .u64 B 4294967295)) = true) := by
       by_cases c1 : 4294967295 < d
       ·exact .inl (decide_eq_true c1)
       ·have h3 := hm.test HI1.out (by omega)
        refine .inr ⟨decide_eq_false c1, ?_⟩
        rw [← u64w_of (x := f * 4294967296) (by omega) (by omega), h3.1, h3.2.1]
        exact decide_eq_true (h3.2.2.2 (by omega))
      clear ht hlow
      by_cases hf2 : f + B / 4294967296 < 4294967296
      ·have hf3 : decide (4294967295 < f + B / 4294967296) = false := decide_eq_false (by omega)
       have hnx := hm.next HI1.out hT.out hf2
       clear hf2
       rcases hg with hg | ⟨hg, hg2⟩
       all_goals
        go_wp2
        go_roundw
        case rel => exact ⟨_, _, rfl, rfl, hnx, hc0, hc1, hb⟩
        case measure => simp only [intOf]; omega
      ·have hf3 : decide (4294967295 < f + B / 4294967296) = true := decide_eq_true (by omega)
       have hst := aM (hm.stop HI1.out hT.out (by omega))
       clear hf2
       rcases hg with hg | ⟨hg, hg2⟩
       all_goals
        go_wp2
        go_meet
        exact ⟨_, by rw [hst.out], rfl, hc0, hc1, hb⟩
     ·have c1 : decide (4294967295 < d) = false := decide_eq_false (by omega)
      have h3 := hm.test HI1.out (by omega)
      have c2 : decide (Go.bits .or .u64 (f * 4294967296) l1 < IntKind.u64.wrap (d * Go.bits .and .u64 B 4294967295)) = false := by
       rw [← u64w_of (x := f * 4294967296) (by omega) (by omega), h3.1, h3.2.1]
       exact decide_eq_false (fun h4 => ht (.inr (h3.2.2.1 h4)))
      have hst := aM (show d = (((R * 4294967296 + l0) % B) * 4294967296 + l1) / B from by have := hm.le; omega)
      clear h3 ht
      go_wp2
      go_meet
      exact ⟨_, by rw [hst.out], rfl, hc0, hc1, hb⟩
   case rest =>
    obtain ⟨f1, rfl, rfl, hc0, hc1, hb⟩ := hcut
    go_wp2
    rw [div_rest HI1.out, or_join 32 (by omega) (by omega) (by show _ % 4294967296 = 0; omega) hq1a (by exact hq1b) (by omega), rounds_succ]
    go_wp2
    go_meet
    exact ⟨rfl, rfl, hb⟩
 case rest =>
  obtain ⟨rfl, rfl, hb⟩ := hcut
  have hR20 : 0 ≤ ((R * 4294967296 + l0) % B * 4294967296 + l1) % B := Int.emod_nonneg _ (by have := HI.out.B0; omega)
  have hd2 := div_two HI.out Hl0.out Hl1.out
  have hsc := div_scaled (n := a0 * 18446744073709551616 + a1) (b := a2) (64 - L).toNat (by have := of_decide_eq_false g2; omega)
  rw [HN.out, ← hBd] at hd2
  rw [hsc.1] at hd2
  have hQ := aM (hd2.1.trans E1.out)
  have hr2 : ((R * 4294967296 + l0) % B * 4294967296 + l1) % B / 2 ^ (64 - L).toNat = r2 := by
   rw [← hBd, hd2.2, hsc.2, E2.out]
  have hR2 := aM hr2
  rw [hBd] at hQ
  generalize ((R * 4294967296 + l0) % B * 4294967296 + l1) % B = R2 at *
  generalize (R * 4294967296 + l0) / B * 4294967296 + ((R * 4294967296 + l0) % B * 4294967296 + l1) / B = Q at *
  clear hd2 hsc hr2
  go_wp2
  go_quiet (fail)
  go_wp2
  go_ret3
  exact ⟨by rw [hQ.out, hR2.out]; rfl, pw_below_drewN hb.out _⟩
def quot_Small.l0 : Nat → List Int → Int → List Int → Int → Int → Option (List Int × Int × Int)
 | 0, _, _, _, _, _ => none
 | k + 1, x0, x1, x7, x8, x9 => if x9 ≥ 0 then (if 0 ≤ x9 then (if x9 < (x0.length : Int) then ((wide_Div.f x8 (rd x0 x9) x1).bind fun bt128 => (if x9 < (x7.length : Int) then (quot_Small.l0 k x0 x1 (x7.set (x9 : Int).toNat bt128.1) bt128.2.1 (wrap64 (x9 - 1))) else (none))) else (none)) else (none)) else ((nat_Norm.f x7).bind fun t132 => (some (t132, x8, 0)))
def quot_Small.f (k : Nat) (l0 : List Int) (a1 : Int) : Option (List Int × Int × Int) := if a1 = 0 then (some (([] : List Int), 0, 30)) else (if 0 ≤ (l0.length : Int) then (if ((l0.length : Int) : Int).toNat ≤ 35184372088832 then (quot_Small.l0 k l0 a1 (List.replicate ((l0.length : Int) : Int).toNat 0) 0 (wrap64 ((l0.length : Int) - 1))) else (none)) else (none))
theorem quot_Small.mono_l : ∀ k, (∀ y0 y1 y2 y3 y4, LeO (quot_Small.l0 k y0 y1 y2 y3 y4) (quot_Small.l0 (k + 1) y0 y1 y2 y3 y4))
 | 0 => fun _ _ _ _ _ r h => by simp [quot_Small.l0] at h
 | k + 1 => by
  have ih0 := quot_Small.mono_l k
  ·intro y0 y1 y2 y3 y4
   unfold quot_Small.l0
   exact mX
theorem quot_Small.mono : ∀ a0 a1 k, LeO (quot_Small.f k a0 a1) (quot_Small.f (k + 1) a0 a1) := by
 intro a0 a1 k
 have ih0 := quot_Small.mono_l k
 unfold quot_Small.f
 exact mX
set_option maxHeartbeats 8000000 in
set_option maxRecDepth 100000 in
theorem quot_Small.calls (k : Nat) (A0 : Option Addr) (c0 : Nat) (l0 : List Int) (a1 : Int) (r1 : List Int) (r2 : Int) (r3 : Int) (w : World) (hr0 : Kd.C (Kd.int .u64) w A0 l0.length l0) (hc0 : l0.length ≤ c0) (h : quot_Small.f k l0 a1 = some (r1, r2, r3)) :
  Calls Tryd.prog 38 #[.slice A0 l0.length c0, .int .u64 a1] w fun e w' => ∃ v0_ : Value, e = .returned (.tuple #[v0_, .int .u64 r2, .int .i64 r3]) ∧ Kd.R (Kd.int .u64) 36 w' w.heap.size (fun _ => True) v0_ r1 ∧ Below w.heap.size w w' := by
 have HR0 := aM hr0
 have HC0 := aM hc0
 clear hr0 hc0
 have HB := aM (Below.refl w.heap.size w)
 have H := h
 clear h
 unfold quot_Small.f at H
 by_cases c3 : a1 = 0
 ·rw [if_pos c3] at H
  obtain ⟨c3b0, c3b1⟩ := bT c3
  clear c3
  simp only [Option.some.injEq, Prod.mk.injEq] at H
  obtain ⟨rfl, rfl, rfl⟩ := H
  go_enter Tryd.func38, Tryd.ntmps38
  go_wp2
  go_ret3
  exact ⟨_, dE, by first | exact Kd.R_nil _ _ _ _ _ | exact Kd.N_nil _ _ _ _ _ | exact Kd.V_nil _ _ _ _ _ | exact Kd.Q_nil _ _ _ _ _ | exact Kd.S_nil _ _ _ _ _, dB⟩
 ·rw [if_neg c3] at H
  obtain ⟨c3b0, c3b1⟩ := bF c3
  replace H := nO H
  obtain ⟨c4, H⟩ := H
  have c4b0 := eq_true c4
  have c4b1 : decide (0 ≤ (l0.length : Int)) = true := decide_eq_true c4
  clear c4
  replace H := nO H
  obtain ⟨c5, H⟩ := H
  have c5b0 := eq_true c5
  have c5b1 := decide_eq_true c5
  clear c5
  obtain ⟨y124, hy124⟩ : ∃ y_ : List Int, y_ = (List.replicate ((l0.length : Int) : Int).toNat 0) := ⟨_, rfl⟩
  replace H : (quot_Small.l0 k l0 a1 y124 0 (wrap64 ((l0.length : Int) - 1))) = some (r1, r2, r3) := by first | (rw [hy124]; with_reducible exact H) | (have H2_ := (Option.bind_some _ _).symm.trans H; rw [hy124]; with_reducible exact H2_) | (have H2_ := (Option.bind_some _ _).symm.trans H; with_reducible exact H2_) | with_reducible exact H | (rw [hy124]; exact H) | exact H
  have Ny124 := aM hy124
  clear hy124
  have H' := aM H
  clear H
  go_enter Tryd.func38, Tryd.ntmps38
  go_wp2_with (first | ((with_reducible refine gate_dst (N := 14) rfl ?_); refine Kd.R_make (Kd.int .u64) _ 36 rfl (N := 14) rfl 22 _ _ rfl (l0.length : Int) rfl rfl Tryd.underlying22 (.int .u64 0) 8 info36 rfl (by decide) (by omega) 0 (ok := fun _ => True) (okp := fun _ => True) rfl (fun _ hk => hk) trivial (of_decide_eq_true dS) (Nat.le_trans (Nat.mul_le_mul_right _ (of_decide_eq_true dS : (l0.length : Int).toNat ≤ 35184372088832)) (by omega)) (Below.refl _ _) (Nat.le_refl _) ?_; intro v125 w6 ho7 hb hg_ hnew_; clear hg_ hnew_; (first | rw [← Ny124.out] at ho7 | (simp only [Int.reduceToNat] at ho7; rw [← Ny124.out] at ho7)); have HO126 := aM (Kd.R_lower ho7 (below_size dB)); replace HB := hS HB.out hb; clear hb ho7))
  go_loopg [8, 9] k (fun kq v8 v9 w' => ∃ (x7_1 : List Int) (x8_1 : Int) (x9_1 : Int), v8 = .int .u64 x8_1 ∧ v9 = .int .i64 x9_1 ∧ Aside0 (quot_Small.l0 kq l0 a1 x7_1 x8_1 x9_1 = some (r1, r2, r3)) ∧ Aside0 (kq ≤ k) ∧ Aside0 (Kd.R (Kd.int .u64) 36 w' w.heap.size (fun _ => True) v125 x7_1) ∧ Aside0 (Below w.heap.size w w'))
  case atStart => exact ⟨(y124), (0), (wrap64 ((l0.length : Int) - 1)), dF, dF, H', ⟨Nat.le_refl _⟩, ⟨dR HO126.out⟩, ⟨dB⟩⟩
  case round =>
   clear H'
   try clear c3
   try clear c3b0 c3b1
   try clear c4
   try clear c4b0 c4b1
   try clear c5
   try clear c5b0 c5b1
   obtain ⟨x7_1, x8_1, x9_1, rfl, rfl, HA, HK1, HO_7, HB⟩ := hrel
   cases gk with
   | zero => exact absurd HA.out (by simp [quot_Small.l0])
   | succ k1 =>
    have H := HA.out
    clear HA
    simp only [quot_Small.l0] at H
    by_cases c8 : x9_1 ≥ 0
    ·rw [if_pos c8] at H
     have c8b0 : decide (0 ≤ x9_1) = true := decide_eq_true c8
     clear c8
     replace H := nO H
     obtain ⟨c9, H⟩ := H
     have c9b0 : decide (0 ≤ x9_1) = true := decide_eq_true c9
     clear c9
     replace H := nO H
     obtain ⟨c10, H⟩ := H
     have c10b0 := decide_eq_true c10
     clear c10
     replace H := oA H
     obtain ⟨⟨t128, t129, t130⟩, A11, H⟩ := H
     (try dsimp only at H)
     replace H := nO H
     obtain ⟨c12, H⟩ := H
     have c12b0 := decide_eq_true c12
     clear c12
     obtain ⟨y131, hy131⟩ : ∃ y_ : List Int, y_ = (x7_1.set (x9_1 : Int).toNat t128) := ⟨_, rfl⟩
     replace H : (quot_Small.l0 k1 l0 a1 y131 t129 (wrap64 (x9_1 - 1))) = some (r1, r2, r3) := by first | (rw [hy131]; with_reducible exact H) | (have H2_ := (Option.bind_some _ _).symm.trans H; rw [hy131]; with_reducible exact H2_) | (have H2_ := (Option.bind_some _ _).symm.trans H; with_reducible exact H2_) | with_reducible exact H | (rw [hy131]; exact H) | exact H
     have Ny131 := aM hy131
     clear hy131
     have H' := aM H
     clear H
     have p127 : 0 ≤ (x9_1 : Int) := of_decide_eq_true dS
     have q127 : x9_1 < (l0.length : Int) := of_decide_eq_true dS
     obtain ⟨ad127, e127, hx127_0⟩ := Kd.at_int HR0.out x9_1 p127 q127
     cases e127
     replace hx127_0 := (HB.out.cell (World.block_lt_of_cell? w _ hx127_0)).trans hx127_0
     replace p127 := eq_true p127
     replace q127 := eq_true q127
     go_wp2_with (first | ((with_reducible refine gate_callee (f := 45) rfl ?_); refine gL (some 31) Tryd.func45 #[.int .u64 x8_1, .int .u64 (rd l0 x9_1), .int .u64 a1] ?_; (with_reducible refine (wide_Div.calls x8_1 (rd l0 x9_1) a1 t128 t129 t130 _ A11.out).mono ?_); rintro e w14 ⟨rfl, hb⟩; refine ⟨_, rfl, ?_⟩; replace HO_7 := oB HO_7.out hb; replace HB := hS HB.out hb; (try clear hb); have p13 : 0 ≤ (x9_1 : Int) := of_decide_eq_true dS; have q13 : (x9_1 : Int) < ((x7_1.length : Int) : Int) := of_decide_eq_true dS; obtain ⟨go13, co13, eo13, gb13, gl13, cl13, HG13⟩ := Kd.R_form HO_7.out (by omega); (first | cases eo13 | (injection eo13 with ea_ en_ ec_; (first | subst ea_ | (injection ea_ with ea_; subst ea_)); subst ec_; clear en_)); have GB13 := aM gb13; have GG13 := aM HG13; clear gb13 gl13 HG13; obtain ⟨hx13_0, hf13_0⟩ := Kd.R_celln 0 HO_7.out (x9_1 : Int) p13 q13; replace p13 := eq_true p13; replace q13 := eq_true q13; obtain ⟨hy15_, hz15_⟩ := Kd.R_celln 0 HO_7.out (x9_1 : Int) (of_decide_eq_true dS) (of_decide_eq_true dS); have HP15 := Kd.R_putg HO_7.out (x9_1 : Int) t128) | ((with_reducible refine gate_store (t := 36) (p := 35) rfl ?_); refine store_event (t := 36) (p := 35) (v := ?vo_w16) (w1 := (w14.setCell ⟨go13, (x9_1 : Int).toNat, none⟩ (.int .u64 t128))) ?hg ?ho ?hn ?hr ?_; (case ho => rfl); (case hg => rfl); (case hn => rfl); (case hr => first | (go_simp; done) | (go_simp; rfl)); intro w16 hw; have hg : w14.grownBy w16 (some go13) := (by rw [hw]; exact HP15.2); have hp_ : Kd.R (Kd.int .u64) 36 w16 w.heap.size (fun _ => True) (.slice (some ⟨go13, 0, none⟩) x7_1.length co13) y131 := (by rw [hw, Ny131.out]; exact HP15.1); clear HP15; replace HO_7 := aM (hp_); replace HB := aM ((by rw [hw]; exact below_set (HB.out) GB13.out : Below w.heap.size w w16)); clear hg hw hp_))
     go_roundg k1
     case measure => have := HK1.out; omega
     case rel => exact ⟨(y131), (t129), (wrap64 (x9_1 - 1)), dF, dF, H', ⟨by have := HK1.out; omega⟩, ⟨dR HO_7.out⟩, ⟨dB⟩⟩
    ·rw [if_neg c8] at H
     have c8b0 : decide (0 ≤ x9_1) = false := decide_eq_false c8
     clear c8
     replace H := oA H
     obtain ⟨t132, A17, H⟩ := H
     (try dsimp only at H)
     simp only [Option.some.injEq, Prod.mk.injEq] at H
     obtain ⟨rfl, rfl, rfl⟩ := H
     obtain ⟨Ao18, co18, rfl⟩ := Kd.R_slice HO_7.out
     go_wp2_with (first | ((with_reducible refine gate_callee (f := 29) rfl ?_); refine gL (some 37) Tryd.func29 #[.slice Ao18 x7_1.length co18] ?_; (with_reducible refine (nat_Norm.calls _ _ x7_1 t132 _ ?side1 (Kd.R_reads' HO_7.out).2.1 A17.out).mono ?_); (case side1 => exact dC (Kd.R_reads' HO_7.out).2.2); rintro e w19 ⟨v133, rfl, ho0, hb⟩; refine ⟨_, rfl, ?_⟩; have HO134 := aM (Kd.R_lower (nW ho0 HO_7.out) (below_size dB)); replace HO_7 := oE HO_7.out ho0 hb; replace HB := hS HB.out hb; (try clear hb); (try clear ho0)))
     go_ret3
     exact ⟨_, dE, oM HO134.out (fun _ hk => trivial), dB⟩
mutual
def radix_written.l0 : Nat → List Int → Int → Int → Int → List Int → Option (List Int)
 | 0, _, _, _, _, _ => none
 | k + 1, x0, x1, x5, x6, x7 => if (x0.length : Int) > 0 then ((quot_Small.f k x0 x5).bind fun bt140 => (radix_written.l1 k x1 x5 x6 x7 bt140.1 bt140.2.1 x6 0)) else (radix_written.l2 k x7)
def radix_written.l1 : Nat → Int → Int → Int → List Int → List Int → Int → Int → Int → Option (List Int)
 | 0, _, _, _, _, _, _, _, _ => none
 | k + 1, x1, x5, x6, x7, x8, x9, x28, x29 => if x29 < x28 then (if (IntKind.u64.wrap (x1)) = 0 then (none) else (if 0 ≤ (Int.tmod x9 (IntKind.u64.wrap (x1))) then (if (Int.tmod x9 (IntKind.u64.wrap (x1))) < 36 then (if x7.length < 140737488355328 then (radix_written.l1 k x1 x5 x6 (x7 ++ [bt (⟨#[48, 49, 50, 51, 52, 53, 54, 55, 56, 57, 97, 98, 99, 100, 101, 102, 103, 104, 105, 106, 107, 108, 109, 110, 111, 112, 113, 114, 115, 116, 117, 118, 119, 120, 121, 122]⟩ : ByteArray) (Int.tmod x9 (IntKind.u64.wrap (x1)))]) x8 (IntKind.u64.wrap (Int.tdiv x9 (IntKind.u64.wrap (x1)))) x28 (wrap64 (x29 + 1))) else (none)) else (none)) else (none))) else (radix_written.l0 k x8 x1 x5 x6 x7)
def radix_written.l2 : Nat → List Int → Option (List Int)
 | 0, _ => none
 | k + 1, x7 => if (x7.length : Int) > 0 then (if 0 ≤ (wrap64 ((x7.length : Int) - 1)) then (if (wrap64 ((x7.length : Int) - 1)) < (x7.length : Int) then (if (rd x7 (wrap64 ((x7.length : Int) - 1))) = 48 then (if (wrap64 ((x7.length : Int) - 1)) ≤ (x7.length : Int) then (radix_written.l2 k (x7.take ((wrap64 ((x7.length : Int) - 1)) : Int).toNat)) else (none)) else (some x7)) else (none)) else (none)) else (some x7)
end
def radix_written.f (k : Nat) (l0 : List Int) (a1 : Int) : Option (List Int) := (radix_chunk.f a1).bind fun bt135 => ((nat_Norm.f l0).bind fun t137 => (radix_written.l0 k t137 a1 bt135.1 bt135.2 ([] : List Int)))
theorem radix_written.mono_l : ∀ k, (∀ y0 y1 y2 y3 y4, LeO (radix_written.l0 k y0 y1 y2 y3 y4) (radix_written.l0 (k + 1) y0 y1 y2 y3 y4)) ∧ (∀ y0 y1 y2 y3 y4 y5 y6 y7, LeO (radix_written.l1 k y0 y1 y2 y3 y4 y5 y6 y7) (radix_written.l1 (k + 1) y0 y1 y2 y3 y4 y5 y6 y7)) ∧ (∀ y0, LeO (radix_written.l2 k y0) (radix_written.l2 (k + 1) y0))
 | 0 => ⟨fun _ _ _ _ _ r h => by simp [radix_written.l0] at h, fun _ _ _ _ _ _ _ _ r h => by simp [radix_written.l1] at h, fun _ r h => by simp [radix_written.l2] at h⟩
 | k + 1 => by
  obtain ⟨ih0, ih1, ih2⟩ := radix_written.mono_l k
  refine ⟨?_, ?_, ?_⟩
  ·intro y0 y1 y2 y3 y4
   unfold radix_written.l0
   have m0_ := quot_Small.mono
   exact mX
  ·intro y0 y1 y2 y3 y4 y5 y6 y7
   unfold radix_written.l1
   have m0_ := quot_Small.mono
   exact mX
  ·intro y0
   unfold radix_written.l2
   have m0_ := quot_Small.mono
   exact mX
theorem radix_written.mono : ∀ a0 a1 k, LeO (radix_written.f k a0 a1) (radix_written.f (k + 1) a0 a1) := by
 intro a0 a1 k
 obtain ⟨ih0, ih1, ih2⟩ := radix_written.mono_l k
 unfold radix_written.f
 have m0_ := quot_Small.mono
 exact mX
set_option maxHeartbeats 8000000 in
set_option maxRecDepth 100000 in
theorem radix_written.calls (k : Nat) (A0 : Option Addr) (c0 : Nat) (l0 : List Int) (a1 : Int) (r : List Int) (w : World) (hr0 : Kd.C (Kd.int .u64) w A0 l0.length l0) (hc0 : l0.length ≤ c0) (h : radix_written.f k l0 a1 = some r) :
  Calls Tryd.prog 32 #[.slice A0 l0.length c0, .int .i64 a1] w fun e w' => ∃ v0_ : Value, e = .returned (v0_) ∧ Kd.R (Kd.int .u8) 5 w' w.heap.size (fun _ => True) v0_ r ∧ Below w.heap.size w w' := by
 have HR0 := aM hr0
 have HC0 := aM hc0
 clear hr0 hc0
 have HB := aM (Below.refl w.heap.size w)
 have H := h
 clear h
 unfold radix_written.f at H
 replace H := oA H
 obtain ⟨⟨t135, t136⟩, A3, H⟩ := H
 (try dsimp only at H)
 replace H := oA H
 obtain ⟨t137, A4, H⟩ := H
 (try dsimp only at H)
 have H' := aM H
 clear H
 go_enter Tryd.func32, Tryd.ntmps32
 go_wp2_with (first | ((with_reducible refine gate_callee (f := 12) rfl ?_); refine gL (some 13) Tryd.func12 #[.int .i64 a1] ?_; (with_reducible refine (radix_chunk.calls a1 t135 t136 _ A3.out).mono ?_); rintro e w' ⟨rfl, ⟨nd, rfl⟩⟩; refine ⟨_, rfl, ?_⟩) | ((with_reducible refine gate_callee (f := 29) rfl ?_); refine gL (some 17) Tryd.func29 #[.slice A0 l0.length c0] ?_; (with_reducible refine (nat_Norm.calls _ _ l0 t137 _ ?side1 HC0.out A4.out).mono ?_); (case side1 => exact dC HR0.out); rintro e w5 ⟨v138, rfl, ho0, hb⟩; refine ⟨_, rfl, ?_⟩; have HO139 := aM (Kd.R_lower ho0 (below_size dB)); replace HB := hS HB.out hb; (try clear hb); (try clear ho0)))
 go_loopg [0, 7] k (fun kq v0 v7 w' => ∃ (x0_1 : List Int) (x7_1 : List Int), Aside0 (radix_written.l0 kq x0_1 a1 t135 t136 x7_1 = some r) ∧ Aside0 (kq ≤ k) ∧ Aside0 (Kd.R (Kd.int .u64) 36 w' w.heap.size (fun _ => True) v0 x0_1) ∧ Aside0 (Kd.R (Kd.int .u8) 5 w' w.heap.size (fun _ => True) v7 x7_1) ∧ Aside0 (Below w.heap.size w w'))
 case atStart => exact ⟨(t137), (([] : List Int)), H', ⟨Nat.le_refl _⟩, ⟨dR HO139.out⟩, ⟨by first | exact Kd.R_nil _ _ _ _ _ | exact Kd.N_nil _ _ _ _ _ | exact Kd.V_nil _ _ _ _ _ | exact Kd.Q_nil _ _ _ _ _ | exact Kd.S_nil _ _ _ _ _⟩, ⟨dB⟩⟩
 case round =>
  clear H'
  obtain ⟨x0_1, x7_1, HA, HK1, HO_0, HO_7, HB⟩ := hrel
  cases gk with
  | zero => exact absurd HA.out (by simp [radix_written.l0])
  | succ k1 =>
   have H := HA.out
   clear HA
   simp only [radix_written.l0] at H
   by_cases c6 : (x0_1.length : Int) > 0
   ·rw [if_pos c6] at H
    have c6b0 : decide (0 < (x0_1.length : Int)) = true := decide_eq_true c6
    have c6b1 : decide (0 < x0_1.length) = true := decide_eq_true (by omega)
    clear c6
    replace H := oA H
    obtain ⟨⟨t140, t141, t142⟩, A7, H⟩ := H
    (try dsimp only at H)
    have H' := aM H
    clear H
    obtain ⟨Ao8, co8, rfl⟩ := Kd.R_slice HO_0.out
    go_wp2_with (first | ((with_reducible refine gate_callee (f := 38) rfl ?_); refine gL (some 24) Tryd.func38 #[.slice Ao8 x0_1.length co8, .int .u64 t135] ?_; (with_reducible refine (quot_Small.calls k1 _ _ x0_1 t135 t140 t141 t142 _ ?side1 (Kd.R_reads' HO_0.out).2.1 A7.out).mono ?_); (case side1 => exact dC (Kd.R_reads' HO_0.out).2.2); rintro e w9 ⟨v143, rfl, ho0, hb⟩; refine ⟨_, rfl, ?_⟩; replace HO_7 := oB HO_7.out hb; have HO144 := aM (Kd.R_lower (nW ho0 HO_0.out) (below_size dB)); replace HO_0 := oE HO_0.out ho0 hb; replace HB := hS HB.out hb; (try clear hb); (try clear ho0)))
    go_loopg [7, 9, 29] k1 (fun kq v7 v9 v29 w' => ∃ (x7_2 : List Int) (x9_2 : Int) (x29_2 : Int), v9 = .int .u64 x9_2 ∧ v29 = .int .i64 x29_2 ∧ Aside0 (radix_written.l1 kq a1 t135 t136 x7_2 t140 x9_2 t136 x29_2 = some r) ∧ Aside0 (kq ≤ k1) ∧ Aside0 (Kd.R (Kd.int .u8) 5 w' w.heap.size (fun _ => True) v7 x7_2) ∧ Aside0 (Kd.R (Kd.int .u64) 36 w' w.heap.size (fun _ => True) v143 t140) ∧ Aside0 (Below w.heap.size w w'))
    case atStart => exact ⟨(x7_1), (t141), (0), dF, dF, H', ⟨Nat.le_refl _⟩, ⟨dR HO_7.out⟩, ⟨oM HO144.out (fun _ hk => trivial)⟩, ⟨dB⟩⟩
    case round =>
     clear H'
     try clear c6
     try clear c6b0 c6b1
     obtain ⟨x7_2, x9_2, x29_2, rfl, rfl, HA, HK2, HO_7, HO_8, HB⟩ := hrel
     cases gk with
     | zero => exact absurd HA.out (by simp [radix_written.l1])
     | succ k2 =>
      have H := HA.out
      clear HA
      simp only [radix_written.l1] at H
      by_cases c10 : x29_2 < t136
      ·rw [if_pos c10] at H
       have c10b0 := decide_eq_true c10
       clear c10
       replace H := nQ H
       obtain ⟨c11, H⟩ := H
       obtain ⟨c11b0, c11b1⟩ := bF c11
       obtain ⟨ji12, hji12⟩ : ∃ j_ : Int, (Int.tmod x9_2 (IntKind.u64.wrap (a1))) = j_ := ⟨_, rfl⟩
       first | rw [hji12] at H | simp only [hji12] at H
       replace H := nO H
       obtain ⟨c13, H⟩ := H
       have c13b0 : decide (0 ≤ (ji12)) = true := decide_eq_true c13
       clear c13
       replace H := nO H
       obtain ⟨c14, H⟩ := H
       have c14b0 := decide_eq_true c14
       clear c14
       replace H := nO H
       obtain ⟨c16, H⟩ := H
       have LMc16 := aM c16
       clear c16
       obtain ⟨y145, hy145⟩ : ∃ y_ : List Int, y_ = (x7_2 ++ [bt (⟨#[48, 49, 50, 51, 52, 53, 54, 55, 56, 57, 97, 98, 99, 100, 101, 102, 103, 104, 105, 106, 107, 108, 109, 110, 111, 112, 113, 114, 115, 116, 117, 118, 119, 120, 121, 122]⟩ : ByteArray) (ji12)]) := ⟨_, rfl⟩
       replace H : (radix_written.l1 k2 a1 t135 t136 y145 t140 (IntKind.u64.wrap (Int.tdiv x9_2 (IntKind.u64.wrap (a1)))) t136 (wrap64 (x29_2 + 1))) = some r := by first | (rw [hy145]; with_reducible exact H) | (have H2_ := (Option.bind_some _ _).symm.trans H; rw [hy145]; with_reducible exact H2_) | (have H2_ := (Option.bind_some _ _).symm.trans H; with_reducible exact H2_) | with_reducible exact H | (rw [hy145]; exact H) | exact H
       have Ny145 := aM hy145
       clear hy145
       have H' := aM H
       clear H
       have p15 : 0 ≤ ((ji12) : Int) := of_decide_eq_true dS
       have q15 : (ji12) < (36 : Int) := of_decide_eq_true dS
       have hx15 := bt_at (⟨#[48, 49, 50, 51, 52, 53, 54, 55, 56, 57, 97, 98, 99, 100, 101, 102, 103, 104, 105, 106, 107, 108, 109, 110, 111, 112, 113, 114, 115, 116, 117, 118, 119, 120, 121, 122]⟩ : ByteArray) (ji12)
       replace p15 := eq_true p15
       replace q15 := eq_true q15
       go_wp2_with (first | ((with_reducible refine gate_builtin (b := .append) (xs := #[.tmp 31, .tmp 37]) rfl ?_); (try (refine gate_guard (by rfl) ?_; dsimp only)); at_builtin; refine Kd.R_append (Kd.int .u8) (w0 := w) w.heap.size rfl (.tmp 31) (.tmp 37) 62 5 (.int .u8 0) 1 rfl Tryd.underlying62 info5 rfl (by decide) (by omega) u7 x7_2 (bt (⟨#[48, 49, 50, 51, 52, 53, 54, 55, 56, 57, 97, 98, 99, 100, 101, 102, 103, 104, 105, 106, 107, 108, 109, 110, 111, 112, 113, 114, 115, 116, 117, 118, 119, 120, 121, 122]⟩ : ByteArray) (ji12)) [.int .u8 (bt (⟨#[48, 49, 50, 51, 52, 53, 54, 55, 56, 57, 97, 98, 99, 100, 101, 102, 103, 104, 105, 106, 107, 108, 109, 110, 111, 112, 113, 114, 115, 116, 117, 118, 119, 120, 121, 122]⟩ : ByteArray) (ji12))] (fun _ => True) (fun _ => False) rfl rfl ?aP (fun _ hk => hk.elim) ?aF ?aO ?aB ?aS ?aL ?_; (case aP => exact rfl); (case aB => exact dB); (case aF => exact (fun _ _ => trivial)); (case aO => exact (dR HO_7.out)); (case aS => exact (below_size dB)); (case aL => have := LMc16.out; omega); intro v146 w17 ho hb hg hat; rw [← Ny145.out] at ho; replace HO_8 := aM (Kd.R_over' (dR HO_8.out) (Kd.R_typed (dR HO_7.out)) (by decide) hg); replace HB := aM (hb); have HO147 := aM (ho); clear HO_7; clear ho hb hg hat))
       go_roundg k2
       case measure => have := HK1.out; have := HK2.out; omega
       case rel => exact ⟨(y145), (IntKind.u64.wrap (Int.tdiv x9_2 (IntKind.u64.wrap (a1)))), (wrap64 (x29_2 + 1)), dF, dF, H', ⟨by have := HK1.out; have := HK2.out; omega⟩, ⟨dR HO147.out⟩, ⟨dR HO_8.out⟩, ⟨dB⟩⟩
      ·rw [if_neg c10] at H
       have c10b0 := decide_eq_false c10
       clear c10
       have H' := aM H
       clear H
       go_wp2
       go_roundg k2
       case measure => have := HK1.out; have := HK2.out; omega
       case rel => exact ⟨(t140), (x7_2), H', ⟨by have := HK1.out; have := HK2.out; omega⟩, ⟨dR HO_8.out⟩, ⟨dR HO_7.out⟩, ⟨dB⟩⟩
   ·rw [if_neg c6] at H
    have c6b0 : decide (0 < (x0_1.length : Int)) = false := decide_eq_false c6
    have c6b1 : decide (0 < x0_1.length) = false := decide_eq_false (by omega)
    clear c6
    have H' := aM H
    clear H
    obtain ⟨Ao18, co18, rfl⟩ := Kd.R_slice HO_0.out
    go_wp2
    go_loopg [7] k1 (fun kq v7 w' => ∃ (x7_2 : List Int), Aside0 (radix_written.l2 kq x7_2 = some r) ∧ Aside0 (kq ≤ k1) ∧ Aside0 (Kd.R (Kd.int .u8) 5 w' w.heap.size (fun _ => True) v7 x7_2) ∧ Aside0 (Below w.heap.size w w'))
    case atStart => exact ⟨(x7_1), H', ⟨Nat.le_refl _⟩, ⟨dR HO_7.out⟩, ⟨dB⟩⟩
    case round =>
     clear H'
     try clear c6
     try clear c6b0 c6b1
     obtain ⟨x7_2, HA, HK2, HO_7, HB⟩ := hrel
     cases gk with
     | zero => exact absurd HA.out (by simp [radix_written.l2])
     | succ k2 =>
      have H := HA.out
      clear HA
      simp only [radix_written.l2] at H
      by_cases c19 : (x7_2.length : Int) > 0
      ·rw [if_pos c19] at H
       have c19b0 : decide (0 < (x7_2.length : Int)) = true := decide_eq_true c19
       have c19b1 : decide (0 < x7_2.length) = true := decide_eq_true (by omega)
       clear c19
       obtain ⟨ji20, hji20⟩ : ∃ j_ : Int, (wrap64 ((x7_2.length : Int) - 1)) = j_ := ⟨_, rfl⟩
       first | rw [hji20] at H | simp only [hji20] at H
       have hji20w : (IntKind.i64.wrap ((x7_2.length : Int) - 1)) = ji20 := (i64_w _).trans hji20
       replace H := nO H
       obtain ⟨c21, H⟩ := H
       have c21b0 : decide (0 ≤ (ji20)) = true := decide_eq_true c21
       clear c21
       replace H := nO H
       obtain ⟨c22, H⟩ := H
       have c22b0 := decide_eq_true c22
       clear c22
       by_cases c23 : (rd x7_2 (ji20)) = 48
       ·rw [if_pos c23] at H
        obtain ⟨c23b0, c23b1⟩ := bT c23
        clear c23
        replace H := nO H
        obtain ⟨c24, H⟩ := H
        have c24b0 := eq_true c24
        have c24b1 := decide_eq_true c24
        clear c24
        obtain ⟨y149, hy149⟩ : ∃ y_ : List Int, y_ = (x7_2.take ((ji20) : Int).toNat) := ⟨_, rfl⟩
        replace H : (radix_written.l2 k2 y149) = some r := by first | (rw [hy149]; with_reducible exact H) | (have H2_ := (Option.bind_some _ _).symm.trans H; rw [hy149]; with_reducible exact H2_) | (have H2_ := (Option.bind_some _ _).symm.trans H; with_reducible exact H2_) | with_reducible exact H | (rw [hy149]; exact H) | exact H
        have Ny149 := aM hy149
        clear hy149
        have H' := aM H
        clear H
        obtain ⟨Ao25, co25, rfl⟩ := Kd.R_slice HO_7.out
        have p148 : 0 ≤ ((ji20) : Int) := of_decide_eq_true dS
        have q148 : (ji20) < (x7_2.length : Int) := of_decide_eq_true dS
        obtain ⟨ad148, e148, hx148_0⟩ := Kd.at_int (Kd.R_reads' HO_7.out).2.2 (ji20) p148 q148
        cases e148
        replace p148 := eq_true p148
        replace q148 := eq_true q148
        have q26 : ((ji20) : Int) ≤ ((x7_2.length : Int) : Int) := of_decide_eq_true dS
        obtain ⟨i026, hi026, _, hsz26, _⟩ := info_parts info5
        have hcut26 := cut_to (P := Tryd.prog) 62 5 .i64 Tryd.underlying62 hi026 (some ad148) x7_2.length co25 (ji20) (of_decide_eq_true dS) q26 (Kd.R_reads' HO_7.out).2.1
        have hr26 := Kd.R_take (m := ((ji20) : Int).toNat) HO_7.out (by omega)
        have hy26 : y149.length = ((ji20) : Int).toNat := (by rw [Ny149.out, List.length_take]; omega)
        rw [← Ny149.out] at hr26
        rw [← hy26] at hr26 hcut26
        clear hy26 hi026 hsz26 HO_7
        have HO151 := aM hr26
        clear hr26
        replace q26 := eq_true q26
        go_wp2
        go_roundg k2
        case measure => have := HK1.out; have := HK2.out; omega
        case rel => exact ⟨(y149), H', ⟨by have := HK1.out; have := HK2.out; omega⟩, ⟨dR HO151.out⟩, ⟨dB⟩⟩
       ·rw [if_neg c23] at H
        obtain ⟨c23b0, c23b1⟩ := bF c23
        obtain rfl := Option.some.inj H
        obtain ⟨Ao27, co27, rfl⟩ := Kd.R_slice HO_7.out
        have p148 : 0 ≤ ((ji20) : Int) := of_decide_eq_true dS
        have q148 : (ji20) < (x7_2.length : Int) := of_decide_eq_true dS
        obtain ⟨ad148, e148, hx148_0⟩ := Kd.at_int (Kd.R_reads' HO_7.out).2.2 (ji20) p148 q148
        cases e148
        replace p148 := eq_true p148
        replace q148 := eq_true q148
        go_wp2
        go_ret
        exact ⟨_, by first | rfl | (simp [errW_none, errW_some] <;> rfl) | (simp only [← hji20]; first | rfl | (simp [errW_none, errW_some] <;> rfl)) | (simp [*, errW_none, errW_some] <;> rfl), dR HO_7.out, dB⟩
      ·rw [if_neg c19] at H
       have c19b0 : decide (0 < (x7_2.length : Int)) = false := decide_eq_false c19
       have c19b1 : decide (0 < x7_2.length) = false := decide_eq_false (by omega)
       clear c19
       obtain rfl := Option.some.inj H
       obtain ⟨Ao28, co28, rfl⟩ := Kd.R_slice HO_7.out
       go_wp2
       go_ret
       exact ⟨_, dE, dR HO_7.out, dB⟩
end Go.Proofs.YtjknfppbebfhnaaDoor.PA
