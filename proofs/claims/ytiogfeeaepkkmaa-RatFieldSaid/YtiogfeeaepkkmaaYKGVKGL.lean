/- The row of RatField. -/
import Derived.Test.YtiogfeeaepkkmaaRows
import Derived.Test.YtiogfeeaepkkmaaYKGVKG15
import Derived.Test.YtiogfeeaepkkmaaYKGVKG17
import Derived.WalkKit
import Derived.ProofKit
import Derived.LaidMore
import Derived.OpenShut
import Derived.ShutString
import Derived.ChangeOld
import Derived.Below
import Derived.SizedLaws
namespace Go.Proofs.Ytiogfeeaepkkmaa.ratField
open Go.ChangeShapes Go.WideShapes Go.ChangeAt Go.RowKit
open Go.Proofs.YtiogfeeaepkkmaaW.PrintWords
open Go.ChangeMaps (open_string shut_string)
set_option linter.unusedVariables false
theorem own : ownKnob Try.prog.godebug = none := by kernel_rfl
theorem laidOut : laidOutB Try.prog = true := by kernel_rfl
theorem walk (n0 : Bool) (a0a : Option Addr) (len0a cap0a : Nat) (z0a : List Int) (a0b : Option Addr) (len0b cap0b : Nat) (z0b : List Int) (n1 : Bool) (a1a : Option Addr) (len1a cap1a : Nat) (z1a : List Int) (a1b : Option Addr) (len1b cap1b : Nat) (z1b : List Int) (n2 : Bool) (a2a : Option Addr) (len2a cap2a : Nat) (z2a : List Int) (a2b : Option Addr) (len2b cap2b : Nat) (z2b : List Int) (w : World) (w0a : (a0a = none ∧ len0a = 0 ∧ cap0a = 0 ∧ z0a = []) ∨ ∃ x, a0a = some x ∧ len0a ≤ cap0a ∧ cap0a ≤ maxLen ∧ z0a.length = cap0a ∧ (∀ i, i < z0a.length → w.cell? (x.add i) = some (.int .u64 (z0a.getD i 0))) ∧ ∀ n ∈ z0a, (Lit.int .u64 n).wf = true) (w0b : (a0b = none ∧ len0b = 0 ∧ cap0b = 0 ∧ z0b = []) ∨ ∃ x, a0b = some x ∧ len0b ≤ cap0b ∧ cap0b ≤ maxLen ∧ z0b.length = cap0b ∧ (∀ i, i < z0b.length → w.cell? (x.add i) = some (.int .u64 (z0b.getD i 0))) ∧ ∀ n ∈ z0b, (Lit.int .u64 n).wf = true) (w1a : (a1a = none ∧ len1a = 0 ∧ cap1a = 0 ∧ z1a = []) ∨ ∃ x, a1a = some x ∧ len1a ≤ cap1a ∧ cap1a ≤ maxLen ∧ z1a.length = cap1a ∧ (∀ i, i < z1a.length → w.cell? (x.add i) = some (.int .u64 (z1a.getD i 0))) ∧ ∀ n ∈ z1a, (Lit.int .u64 n).wf = true) (w1b : (a1b = none ∧ len1b = 0 ∧ cap1b = 0 ∧ z1b = []) ∨ ∃ x, a1b = some x ∧ len1b ≤ cap1b ∧ cap1b ≤ maxLen ∧ z1b.length = cap1b ∧ (∀ i, i < z1b.length → w.cell? (x.add i) = some (.int .u64 (z1b.getD i 0))) ∧ ∀ n ∈ z1b, (Lit.int .u64 n).wf = true) (w2a : (a2a = none ∧ len2a = 0 ∧ cap2a = 0 ∧ z2a = []) ∨ ∃ x, a2a = some x ∧ len2a ≤ cap2a ∧ cap2a ≤ maxLen ∧ z2a.length = cap2a ∧ (∀ i, i < z2a.length → w.cell? (x.add i) = some (.int .u64 (z2a.getD i 0))) ∧ ∀ n ∈ z2a, (Lit.int .u64 n).wf = true) (w2b : (a2b = none ∧ len2b = 0 ∧ cap2b = 0 ∧ z2b = []) ∨ ∃ x, a2b = some x ∧ len2b ≤ cap2b ∧ cap2b ≤ maxLen ∧ z2b.length = cap2b ∧ (∀ i, i < z2b.length → w.cell? (x.add i) = some (.int .u64 (z2b.getD i 0))) ∧ ∀ n ∈ z2b, (Lit.int .u64 n).wf = true) :
    Calls Try.prog 3 #[.agg #[.bool n0, .slice a0a len0a cap0a, .slice a0b len0b cap0b], .agg #[.bool n1, .slice a1a len1a cap1a, .slice a1b len1b cap1b], .agg #[.bool n2, .slice a2a len2a cap2a, .slice a2b len2b cap2b]] w fun e w' => e = .returned (.bool true) ∧ Below w.heap.size w w' := by
  obtain ⟨l0a, rfl, hr0a, hm0a, hw0a, hc0a⟩ := ReadsInt.ofRowC w0a
  obtain ⟨l0b, rfl, hr0b, hm0b, hw0b, hc0b⟩ := ReadsInt.ofRowC w0b
  obtain ⟨l1a, rfl, hr1a, hm1a, hw1a, hc1a⟩ := ReadsInt.ofRowC w1a
  obtain ⟨l1b, rfl, hr1b, hm1b, hw1b, hc1b⟩ := ReadsInt.ofRowC w1b
  obtain ⟨l2a, rfl, hr2a, hm2a, hw2a, hc2a⟩ := ReadsInt.ofRowC w2a
  obtain ⟨l2b, rfl, hr2b, hm2b, hw2b, hc2b⟩ := ReadsInt.ofRowC w2b
  obtain ⟨k, h⟩ := Pure.ratField_pure n0 l0a l0b n1 l1a l1b n2 l2a l2b (fun x hx => by have b := Go.bounds_u64 (hw0a x hx); omega) (fun x hx => by have b := Go.bounds_u64 (hw0b x hx); omega) (fun x hx => by have b := Go.bounds_u64 (hw1a x hx); omega) (fun x hx => by have b := Go.bounds_u64 (hw1b x hx); omega) (fun x hx => by have b := Go.bounds_u64 (hw2a x hx); omega) (fun x hx => by have b := Go.bounds_u64 (hw2b x hx); omega)
  refine (PA.plumblaw05_RatField.calls k n0 _ _ l0a _ _ l0b n1 _ _ l1a _ _ l1b n2 _ _ l2a _ _ l2b true w (Kd.C_of_reads (d := (0 : Int)) (h1 := fun _ => rfl) hr0a) hc0a (Kd.C_of_reads (d := (0 : Int)) (h1 := fun _ => rfl) hr0b) hc0b (Kd.C_of_reads (d := (0 : Int)) (h1 := fun _ => rfl) hr1a) hc1a (Kd.C_of_reads (d := (0 : Int)) (h1 := fun _ => rfl) hr1b) hc1b (Kd.C_of_reads (d := (0 : Int)) (h1 := fun _ => rfl) hr2a) hc2a (Kd.C_of_reads (d := (0 : Int)) (h1 := fun _ => rfl) hr2b) hc2b h).mono ?_
  rintro e w' ⟨rfl, hd⟩
  exact ⟨rfl, hd⟩
def IsRow (k : IntKind) (w : World) (a : Option Addr) (len cap : Nat) (zs : List Int) : Prop :=
  (a = none ∧ len = 0 ∧ cap = 0 ∧ zs = []) ∨
  ∃ x, a = some x ∧ len ≤ cap ∧ cap ≤ maxLen ∧ zs.length = cap ∧ (∀ i, i < zs.length → w.cell? (x.add i) = some (.int k (zs.getD i 0))) ∧ ∀ n ∈ zs, (Lit.int k n).wf = true
/-- a field that is a list of words: its row -/
theorem open_row {H : Type} {enc : TypeId × Value → H} {P : Program} {W : World} {base fuel : Nat} {held : Bool} {t e : TypeId} {k : IntKind} {v : Value} {y : DataW H × List MemPlace}
    (hu : P.underlying t = some (.slice e)) (he : P.underlying e = some (.int k)) (hc : P.cellsOf e = 1) (h : DataW.trod enc P W base (fun _ => true) held fuel t [v] = some y) :
    ∃ a len cap zs, v = .slice a len cap ∧ IsRow k W a len cap zs := by
  rcases open_ints hu he hc h with ⟨hcs, hx⟩ | ⟨x, l, c, zs, hcs, _, hl, hm, hz, hx, hcell, hwz⟩
  · obtain rfl := (List.cons.inj hcs).1
    exact ⟨none, 0, 0, [], rfl, .inl ⟨rfl, rfl, rfl, rfl⟩⟩
  · obtain rfl := (List.cons.inj hcs).1
    rw [if_pos rfl] at hz
    exact ⟨some x, l, c, zs, rfl, .inr ⟨_, rfl, hl, hm, hz, hcell, hwz⟩⟩
set_option maxRecDepth 100000 in
theorem lifted (os : Os) (started : os.Started) (H : Type) (enc : TypeId × Value → H) :
    ReturnsInHanded {} Try.checked os 3 .any (Rows.ratFieldSpec.pre6 enc Try.prog Try.f3 Rows.ratFieldRow.domain false) (Rows.ratFieldSpec.post enc Try.prog Try.f3 false true false false) := by
  refine returnsInHanded_of_change_sized (C := Try.checked) own started (by kernel_rfl) Try.func3
    (ChangeSpec.witness6 (enc := enc) (C := Try.checked) false ⟨#[], #[.agg #[.bool false, .slice none 0 0, .slice none 0 0], .agg #[.bool false, .slice none 0 0, .slice none 0 0], .agg #[.bool false, .slice none 0 0, .slice none 0 0]], []⟩ 8 (by kernel_rfl) (by kernel_rfl) (by kernel_rfl) (by kernel_rfl)) ?_
  intro W base args ds gs before hval0 hW hcnd hsz0 _
  have hsz : (DataW.weightsEach Try.prog (Try.f3.params.toList ++ Rows.ratFieldSpec.plain.varTypes Try.prog) (ds ++ gs)).all (· ≤ reachBytes) = true := hsz0
  have hval : ∀ (j : Nat) t v, Try.f3.params[j]? = some t → args[j]? = some v → Value.okWide Try.prog W .any base t v := hval0
  have hW' := hW
  obtain ⟨p, q, hA0, hV, rfl, hfz, hnd⟩ := hW
  have hA : DataW.TrodAll enc Try.prog W 0 (fun _ => true) true Try.f3.params.toList args.toList ds p := hA0
  rw [Try.params3] at hA hval hsz
  obtain ⟨v0, vs0, d0, ds0, p0, q0, hargs, rfl, rfl, h0, r0⟩ := trodAll_cons hA
  obtain ⟨v1, vs1, d1, ds1, p1, q1, rfl, rfl, rfl, h1, r1⟩ := trodAll_cons r0
  obtain ⟨v2, vs2, d2, ds2, p2, q2, rfl, rfl, rfl, h2, r2⟩ := trodAll_cons r1
  obtain ⟨rfl, rfl, rfl⟩ := trodAll_nil r2
  obtain rfl : args = #[v0, v1, v2] := by cases args; simp_all
  obtain ⟨rfl, rfl⟩ := trodVars_none hV
  have k0 := h0
  have lt0 : ∀ x ∈ p0, x.block < W.heap.size := by obtain ⟨m, hm⟩ := k0; exact DataW.trod_lt m _ _ _ hm
  obtain ⟨c00, c01, c02, y00, y01, y02, n0, hv0, hd0, t00, t01, t02⟩ := open_three Try.underlying24 (by kernel_rfl) rfl rfl rfl (by kernel_rfl) (by kernel_rfl) (by kernel_rfl) (hval 0 24 v0 rfl rfl) h0
  obtain ⟨b0, e00, _⟩ := DataW.trod_bool Try.underlying4 t00
  obtain ⟨a0a, len0a, cap0a, z0a, e01, w0a⟩ := open_row Try.underlying22 Try.underlying44 (by kernel_rfl) t01
  obtain ⟨a0b, len0b, cap0b, z0b, e02, w0b⟩ := open_row Try.underlying22 Try.underlying44 (by kernel_rfl) t02
  obtain rfl := (List.cons.inj e00).1
  obtain rfl := e01
  obtain rfl := e02
  have k1 := h1
  have lt1 : ∀ x ∈ p1, x.block < W.heap.size := by obtain ⟨m, hm⟩ := k1; exact DataW.trod_lt m _ _ _ hm
  obtain ⟨c10, c11, c12, y10, y11, y12, n1, hv1, hd1, t10, t11, t12⟩ := open_three Try.underlying24 (by kernel_rfl) rfl rfl rfl (by kernel_rfl) (by kernel_rfl) (by kernel_rfl) (hval 1 24 v1 rfl rfl) h1
  obtain ⟨b1, e10, _⟩ := DataW.trod_bool Try.underlying4 t10
  obtain ⟨a1a, len1a, cap1a, z1a, e11, w1a⟩ := open_row Try.underlying22 Try.underlying44 (by kernel_rfl) t11
  obtain ⟨a1b, len1b, cap1b, z1b, e12, w1b⟩ := open_row Try.underlying22 Try.underlying44 (by kernel_rfl) t12
  obtain rfl := (List.cons.inj e10).1
  obtain rfl := e11
  obtain rfl := e12
  have k2 := h2
  have lt2 : ∀ x ∈ p2, x.block < W.heap.size := by obtain ⟨m, hm⟩ := k2; exact DataW.trod_lt m _ _ _ hm
  obtain ⟨c20, c21, c22, y20, y21, y22, n2, hv2, hd2, t20, t21, t22⟩ := open_three Try.underlying24 (by kernel_rfl) rfl rfl rfl (by kernel_rfl) (by kernel_rfl) (by kernel_rfl) (hval 2 24 v2 rfl rfl) h2
  obtain ⟨b2, e20, _⟩ := DataW.trod_bool Try.underlying4 t20
  obtain ⟨a2a, len2a, cap2a, z2a, e21, w2a⟩ := open_row Try.underlying22 Try.underlying44 (by kernel_rfl) t21
  obtain ⟨a2b, len2b, cap2b, z2b, e22, w2b⟩ := open_row Try.underlying22 Try.underlying44 (by kernel_rfl) t22
  obtain rfl := (List.cons.inj e20).1
  obtain rfl := e21
  obtain rfl := e22
  obtain rfl := hv0
  obtain rfl := hv1
  obtain rfl := hv2
  clear hA0 hval0 hsz0 hsz
  refine (walk b0 a0a len0a cap0a z0a a0b len0b cap0b z0b b1 a1a len1a cap1a z1a a1b len1b cap1b z1b b2 a2a len2a cap2a z2a a2b len2b cap2b z2b W w0a w0b w1a w1b w2a w2b).mono fun e W' ⟨he, bel⟩ => ?_
  subst he
  exact ⟨_, rfl, _, _, _, [], _, [], hW', trodAll_mk1 (shut_bool Try.underlying4 _), (trodAll_cons_mk (Below.trod laidOut (by kernel_rfl) (of_decide_eq_true (by kernel_rfl)) k0 bel lt0) (trodAll_cons_mk (Below.trod laidOut (by kernel_rfl) (of_decide_eq_true (by kernel_rfl)) k1 bel lt1) (trodAll_cons_mk (Below.trod laidOut (by kernel_rfl) (of_decide_eq_true (by kernel_rfl)) k2 bel lt2) trodAll_mk0))), rfl, bel.frame _, fun h => by cases h⟩
theorem over : Rows.ratFieldRow.holds Try.pinned (OpenSpec.ofChange Rows.ratFieldSpec) :=
  OpenClaim.holds_of_wide 3 Try.f3 rfl rfl rfl rfl rfl rfl rfl ⟨rfl, rfl, rfl, rfl, rfl⟩ rfl rfl rfl rfl rfl (by kernel_rfl) Try.func3 (by kernel_rfl)
    (of_decide_eq_true (by kernel_rfl)) (by unfold Func.isWrapper; first | (rw [if_pos (by decide +kernel)]; kernel_rfl) | (rw [if_neg (by decide +kernel)]; exact ⟨rfl, rfl⟩))
    (fun os started H enc _ => lifted os started H enc)
theorem proved : Rows.RatFieldSaid := over
#print axioms proved
end Go.Proofs.Ytiogfeeaepkkmaa.ratField
namespace Go.Proofs.Ytiogfeeaepkkmaa
/-- The row, under a short name, for the claim. -/
theorem ratField_holds : Rows.RatFieldSaid := ratField.proved
end Go.Proofs.Ytiogfeeaepkkmaa
