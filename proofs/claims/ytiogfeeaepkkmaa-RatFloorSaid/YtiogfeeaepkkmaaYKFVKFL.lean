/- The row of RatFloor. -/
import Derived.Test.YtiogfeeaepkkmaaRows
import Derived.Test.YtiogfeeaepkkmaaYKFVKF12
import Derived.Test.YtiogfeeaepkkmaaYKFVKF14
import Derived.WalkKit
import Derived.ProofKit
import Derived.LaidMore
import Derived.OpenShut
import Derived.ShutString
import Derived.ChangeOld
import Derived.Below
import Derived.SizedLaws
namespace Go.Proofs.Ytiogfeeaepkkmaa.ratFloor
open Go.ChangeShapes Go.WideShapes Go.ChangeAt Go.RowKit
open Go.Proofs.YtiogfeeaepkkmaaW.PrintWords
open Go.ChangeMaps (open_string shut_string)
set_option linter.unusedVariables false
theorem own : ownKnob Try.prog.godebug = none := by kernel_rfl
theorem laidOut : laidOutB Try.prog = true := by kernel_rfl
theorem walk (n0 : Bool) (a0a : Option Addr) (len0a cap0a : Nat) (z0a : List Int) (a0b : Option Addr) (len0b cap0b : Nat) (z0b : List Int) (w : World) (w0a : (a0a = none ∧ len0a = 0 ∧ cap0a = 0 ∧ z0a = []) ∨ ∃ x, a0a = some x ∧ len0a ≤ cap0a ∧ cap0a ≤ maxLen ∧ z0a.length = cap0a ∧ (∀ i, i < z0a.length → w.cell? (x.add i) = some (.int .u64 (z0a.getD i 0))) ∧ ∀ n ∈ z0a, (Lit.int .u64 n).wf = true) (w0b : (a0b = none ∧ len0b = 0 ∧ cap0b = 0 ∧ z0b = []) ∨ ∃ x, a0b = some x ∧ len0b ≤ cap0b ∧ cap0b ≤ maxLen ∧ z0b.length = cap0b ∧ (∀ i, i < z0b.length → w.cell? (x.add i) = some (.int .u64 (z0b.getD i 0))) ∧ ∀ n ∈ z0b, (Lit.int .u64 n).wf = true) :
    Calls Try.prog 5 #[.agg #[.bool n0, .slice a0a len0a cap0a, .slice a0b len0b cap0b]] w fun e w' => e = .returned (.bool true) ∧ Below w.heap.size w w' := by
  obtain ⟨l0a, rfl, hr0a, hm0a, hw0a, hc0a⟩ := ReadsInt.ofRowC w0a
  obtain ⟨l0b, rfl, hr0b, hm0b, hw0b, hc0b⟩ := ReadsInt.ofRowC w0b
  obtain ⟨k, h⟩ := Pure.ratFloor_pure n0 l0a l0b (fun x hx => by have b := Go.bounds_u64 (hw0a x hx); omega) (fun x hx => by have b := Go.bounds_u64 (hw0b x hx); omega)
  refine (PA.plumblaw05_RatFloor.calls k n0 _ _ l0a _ _ l0b true w (Kd.C_of_reads (d := (0 : Int)) (h1 := fun _ => rfl) hr0a) hc0a (Kd.C_of_reads (d := (0 : Int)) (h1 := fun _ => rfl) hr0b) hc0b h).mono ?_
  rintro e w' ⟨rfl, hd⟩
  exact ⟨rfl, hd⟩
def IsRow (k : IntKind) (w : World) (a : Option Addr) (len cap : Nat) (zs : List Int) : Prop :=
  (a = none ∧ len = 0 ∧ cap = 0 ∧ zs = []) ∨
  ∃ x, a = some x ∧ len ≤ cap ∧ cap ≤ maxLen ∧ zs.length = cap ∧ (∀ i, i < zs.length → w.cell? (x.add i) = some (.int k (zs.getD i 0))) ∧ ∀ n ∈ zs, (Lit.int k n).wf = true
/-- a field that is a list of words: its row -/
theorem open_row {H : Type} {enc : TypeId × Value → H} {P : Program} {W : World} {base fuel : Nat} {held : Bool} {t e : TypeId} {k : IntKind} {v : Value} {y : DataW H × List MemPlace}
    (hu : P.underlying t = some (.slice e)) (he : P.underlying e = some (.int k)) (hc : P.cellsOf e = 1) (h : DataW.trod enc P W base (fun _ => true) held fuel t [v] = some y) :
    ∃ a len cap zs, v = .slice a len cap ∧ IsRow k W a len cap zs := by
  rcases open_ints hu he hc h with ⟨hcs, hx⟩ | ⟨x, l, c, zs, hcs, _, hl, hm, hz, hx, hcell, hwz⟩
  · obtain rfl := (List.cons.inj hcs).1
    exact ⟨none, 0, 0, [], rfl, .inl ⟨rfl, rfl, rfl, rfl⟩⟩
  · obtain rfl := (List.cons.inj hcs).1
    rw [if_pos rfl] at hz
    exact ⟨some x, l, c, zs, rfl, .inr ⟨_, rfl, hl, hm, hz, hcell, hwz⟩⟩
set_option maxRecDepth 100000 in
theorem lifted (os : Os) (started : os.Started) (H : Type) (enc : TypeId × Value → H) :
    ReturnsInHanded {} Try.checked os 5 .any (Rows.ratFloorSpec.pre6 enc Try.prog Try.f5 Rows.ratFloorRow.domain false) (Rows.ratFloorSpec.post enc Try.prog Try.f5 false true false false) := by
  refine returnsInHanded_of_change_sized (C := Try.checked) own started (by kernel_rfl) Try.func5
    (ChangeSpec.witness6 (enc := enc) (C := Try.checked) false ⟨#[], #[.agg #[.bool false, .slice none 0 0, .slice none 0 0]], []⟩ 8 (by kernel_rfl) (by kernel_rfl) (by kernel_rfl) (by kernel_rfl)) ?_
  intro W base args ds gs before hval0 hW hcnd hsz0 _
  have hsz : (DataW.weightsEach Try.prog (Try.f5.params.toList ++ Rows.ratFloorSpec.plain.varTypes Try.prog) (ds ++ gs)).all (· ≤ reachBytes) = true := hsz0
  have hval : ∀ (j : Nat) t v, Try.f5.params[j]? = some t → args[j]? = some v → Value.okWide Try.prog W .any base t v := hval0
  have hW' := hW
  obtain ⟨p, q, hA0, hV, rfl, hfz, hnd⟩ := hW
  have hA : DataW.TrodAll enc Try.prog W 0 (fun _ => true) true Try.f5.params.toList args.toList ds p := hA0
  rw [Try.params5] at hA hval hsz
  obtain ⟨v0, vs0, d0, ds0, p0, q0, hargs, rfl, rfl, h0, r0⟩ := trodAll_cons hA
  obtain ⟨rfl, rfl, rfl⟩ := trodAll_nil r0
  obtain rfl : args = #[v0] := by cases args; simp_all
  obtain ⟨rfl, rfl⟩ := trodVars_none hV
  have k0 := h0
  have lt0 : ∀ x ∈ p0, x.block < W.heap.size := by obtain ⟨m, hm⟩ := k0; exact DataW.trod_lt m _ _ _ hm
  obtain ⟨c00, c01, c02, y00, y01, y02, n0, hv0, hd0, t00, t01, t02⟩ := open_three Try.underlying24 (by kernel_rfl) rfl rfl rfl (by kernel_rfl) (by kernel_rfl) (by kernel_rfl) (hval 0 24 v0 rfl rfl) h0
  obtain ⟨b0, e00, _⟩ := DataW.trod_bool Try.underlying4 t00
  obtain ⟨a0a, len0a, cap0a, z0a, e01, w0a⟩ := open_row Try.underlying22 Try.underlying44 (by kernel_rfl) t01
  obtain ⟨a0b, len0b, cap0b, z0b, e02, w0b⟩ := open_row Try.underlying22 Try.underlying44 (by kernel_rfl) t02
  obtain rfl := (List.cons.inj e00).1
  obtain rfl := e01
  obtain rfl := e02
  obtain rfl := hv0
  clear hA0 hval0 hsz0 hsz
  refine (walk b0 a0a len0a cap0a z0a a0b len0b cap0b z0b W w0a w0b).mono fun e W' ⟨he, bel⟩ => ?_
  subst he
  exact ⟨_, rfl, _, _, _, [], _, [], hW', trodAll_mk1 (shut_bool Try.underlying4 _), (trodAll_cons_mk (Below.trod laidOut (by kernel_rfl) (of_decide_eq_true (by kernel_rfl)) k0 bel lt0) trodAll_mk0), rfl, bel.frame _, fun h => by cases h⟩
theorem over : Rows.ratFloorRow.holds Try.pinned (OpenSpec.ofChange Rows.ratFloorSpec) :=
  OpenClaim.holds_of_wide 5 Try.f5 rfl rfl rfl rfl rfl rfl rfl ⟨rfl, rfl, rfl, rfl, rfl⟩ rfl rfl rfl rfl rfl (by kernel_rfl) Try.func5 (by kernel_rfl)
    (of_decide_eq_true (by kernel_rfl)) (by unfold Func.isWrapper; first | (rw [if_pos (by decide +kernel)]; kernel_rfl) | (rw [if_neg (by decide +kernel)]; exact ⟨rfl, rfl⟩))
    (fun os started H enc _ => lifted os started H enc)
theorem proved : Rows.RatFloorSaid := over
#print axioms proved
end Go.Proofs.Ytiogfeeaepkkmaa.ratFloor
namespace Go.Proofs.Ytiogfeeaepkkmaa
/-- The row, under a short name, for the claim. -/
theorem ratFloor_holds : Rows.RatFloorSaid := ratFloor.proved
end Go.Proofs.Ytiogfeeaepkkmaa
