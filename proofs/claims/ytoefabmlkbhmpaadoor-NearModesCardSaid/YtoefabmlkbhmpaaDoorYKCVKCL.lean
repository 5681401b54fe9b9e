/- The row and the card of NearModes. No conditions. -/
import Derived.Test.YtoefabmlkbhmpaaDoorRows
import Derived.Test.YtoefabmlkbhmpaaDoorYKCVKC12
import Derived.Test.YtoefabmlkbhmpaaDoorYKCVKC14
import Derived.WalkKit
import Derived.ProofKit
import Derived.LaidMore
import Derived.Stop.Joined
import Derived.SevenTiedAt
import Derived.Test.YtoefabmlkbhmpaaDoorCards
import Derived.Test.YtoefabmlkbhmpaaDoorTie
import Derived.Test.YtoefabmlkbhmpaaDoorYKCVKC15
import Derived.OpenShut
import Derived.ShutString
import Derived.ChangeOld
import Derived.Below
import Derived.SizedLaws
namespace Go.Proofs.YtoefabmlkbhmpaaDoor.nearModes
open Go.ChangeShapes Go.WideShapes Go.ChangeAt Go.RowKit
open Go.Proofs.YtoefabmlkbhmpaaDoorW.PrintWords
open Go.ChangeMaps (open_string shut_string)
set_option linter.unusedVariables false
theorem own : ownKnob Tryd.prog.godebug = none := by kernel_rfl
theorem laidOut : laidOutB Tryd.prog = true := by kernel_rfl
theorem walk (n0 : Bool) (a0a : Option Addr) (len0a cap0a : Nat) (z0a : List Int) (a0b : Option Addr) (len0b cap0b : Nat) (z0b : List Int) (w : World) (w0a : (a0a = none ∧ len0a = 0 ∧ cap0a = 0 ∧ z0a = []) ∨ ∃ x, a0a = some x ∧ len0a ≤ cap0a ∧ cap0a ≤ maxLen ∧ z0a.length = cap0a ∧ (∀ i, i < z0a.length → w.cell? (x.add i) = some (.int .u64 (z0a.getD i 0))) ∧ ∀ n ∈ z0a, (Lit.int .u64 n).wf = true) (w0b : (a0b = none ∧ len0b = 0 ∧ cap0b = 0 ∧ z0b = []) ∨ ∃ x, a0b = some x ∧ len0b ≤ cap0b ∧ cap0b ≤ maxLen ∧ z0b.length = cap0b ∧ (∀ i, i < z0b.length → w.cell? (x.add i) = some (.int .u64 (z0b.getD i 0))) ∧ ∀ n ∈ z0b, (Lit.int .u64 n).wf = true) (hS : PA.StaysLaid w) :
    Calls Tryd.prog 7 #[.agg #[.bool n0, .slice a0a len0a cap0a, .slice a0b len0b cap0b]] w fun e w' => e = .returned (.bool true) ∧ Below w.heap.size w w' := by
  obtain ⟨l0a, rfl, hr0a, hm0a, hw0a, hc0a⟩ := ReadsInt.ofRowC w0a
  obtain ⟨l0b, rfl, hr0b, hm0b, hw0b, hc0b⟩ := ReadsInt.ofRowC w0b
  obtain ⟨k, h⟩ := Pure.nearModes_pure n0 l0a l0b (fun x hx => by have b := Go.bounds_u64 (hw0a x hx); omega) (fun x hx => by have b := Go.bounds_u64 (hw0b x hx); omega)
  refine (PA.plumblaw07_NearModes.calls k n0 _ _ l0a _ _ l0b true w (Kd.C_of_reads (d := (0 : Int)) (h1 := fun _ => rfl) hr0a) hc0a (Kd.C_of_reads (d := (0 : Int)) (h1 := fun _ => rfl) hr0b) hc0b h hS).mono ?_
  rintro e w' ⟨rfl, hd⟩
  exact ⟨rfl, hd⟩
def IsRow (k : IntKind) (w : World) (a : Option Addr) (len cap : Nat) (zs : List Int) : Prop :=
  (a = none ∧ len = 0 ∧ cap = 0 ∧ zs = []) ∨
  ∃ x, a = some x ∧ len ≤ cap ∧ cap ≤ maxLen ∧ zs.length = cap ∧ (∀ i, i < zs.length → w.cell? (x.add i) = some (.int k (zs.getD i 0))) ∧ ∀ n ∈ zs, (Lit.int k n).wf = true
/-- a field that is a list of words: its row -/
theorem open_row {H : Type} {enc : TypeId × Value → H} {P : Program} {W : World} {base fuel : Nat} {held : Bool} {t e : TypeId} {k : IntKind} {v : Value} {y : DataW H × List MemPlace}
    (hu : P.underlying t = some (.slice e)) (he : P.underlying e = some (.int k)) (hc : P.cellsOf e = 1) (h : DataW.trod enc P W base (fun _ => true) held fuel t [v] = some y) :
    ∃ a len cap zs, v = .slice a len cap ∧ IsRow k W a len cap zs := by
  rcases open_ints hu he hc h with ⟨hcs, hx⟩ | ⟨x, l, c, zs, hcs, _, hl, hm, hz, hx, hcell, hwz⟩
  · obtain rfl := (List.cons.inj hcs).1
    exact ⟨none, 0, 0, [], rfl, .inl ⟨rfl, rfl, rfl, rfl⟩⟩
  · obtain rfl := (List.cons.inj hcs).1
    rw [if_pos rfl] at hz
    exact ⟨some x, l, c, zs, rfl, .inr ⟨_, rfl, hl, hm, hz, hcell, hwz⟩⟩
/-- the door's own heap meets the condition -/
theorem door_met (os : Os) (args : Array Value) : laidMetH Tryd.prog Rows.nearModesRow.laid ((World.doorLaid Tryd.prog 400 os).forCall (fun _ _ => 0) ⟨#[], args, []⟩).memory :=
  laidMetH_of_parts3 (fuel := 8) (laidMet_of_run' 8 (by kernel_rfl) (by kernel_rfl)) (by kernel_rfl) (by kernel_rfl)
/-- what the condition says of the variable's cells -/
theorem of_laid {W : World} (h : laidMetH Tryd.prog Rows.nearModesRow.laid W) : PA.StaysLaid W := by
  rw [MakeChecks.laidMetH_plain _ _ _ (by kernel_rfl)] at h
  obtain ⟨ps, ⟨g0, t0, cs0, f0, p0, q0, hg0, ht0, hv0, hd0, _, _⟩, _, _⟩ := h
  obtain rfl := Option.some.inj ((show Tryd.prog.globalNamed "plumb/near.stays" = some 0 by kernel_rfl).symm.trans hg0)
  obtain rfl := Option.some.inj ((show (Tryd.prog.globals[0]?).map (·.type) = some 113 by kernel_rfl).symm.trans ht0)
  exact fun i j hi hj => by
    rw [World.var?_cell hg0 hv0 (2 * i + j)]
    have e := trod_pairs Tryd.underlying113 Tryd.underlying112 Tryd.underlying4 (by kernel_rfl) (by kernel_rfl) (L := PA.near_staysL) hd0 i hi j hj
    rwa [Array.getElem?_toList] at e
set_option maxRecDepth 100000 in
theorem lifted (os : Os) (started : os.Started) (H : Type) (enc : TypeId × Value → H) :
    ReturnsInHanded {} Tryd.checked os 7 .any (fun w args => (Rows.nearModesSpec.pre enc Tryd.prog Tryd.f7 Rows.nearModesRow.domain false w args ∧ laidMetH Tryd.prog Rows.nearModesRow.laid w) ∧ sizedMet enc Tryd.prog Tryd.f7 (OpenSpec.ofChange Rows.nearModesSpec) false w args) (Rows.nearModesSpec.post enc Tryd.prog Tryd.f7 false true false false) := by
  refine returnsInHanded_of_change_and (C := Tryd.checked) (X := fun w _ => laidMetH Tryd.prog Rows.nearModesRow.laid w) (fun _ _ _ hh h => h.of_heap hh) own started (by kernel_rfl) Tryd.func7
    (ChangeSpec.witness_shaped (enc := enc) (C := Tryd.checked) (os := os) (X := fun w _ => laidMetH Tryd.prog Rows.nearModesRow.laid w) false (World.doorLaid Tryd.prog 400 os) #[.agg #[.bool false, .slice none 0 0, .slice none 0 0]] 8 rfl (World.shaped_of_RefB (by kernel_rfl) (by kernel_rfl)) (by kernel_rfl) (by kernel_rfl) (by kernel_rfl) (door_met os _)) ?_
  intro W base args ds gs before hval0 hW hcnd hsz0 hL _
  have hsz : (DataW.weightsEach Tryd.prog (Tryd.f7.params.toList ++ Rows.nearModesSpec.plain.varTypes Tryd.prog) (ds ++ gs)).all (· ≤ reachBytes) = true := hsz0
  have hval : ∀ (j : Nat) t v, Tryd.f7.params[j]? = some t → args[j]? = some v → Value.okWide Tryd.prog W .any base t v := hval0
  have hW' := hW
  obtain ⟨p, q, hA0, hV, rfl, hfz, hnd⟩ := hW
  have hA : DataW.TrodAll enc Tryd.prog W 0 (fun _ => true) true Tryd.f7.params.toList args.toList ds p := hA0
  rw [Tryd.params7] at hA hval hsz
  obtain ⟨v0, vs0, d0, ds0, p0, q0, hargs, rfl, rfl, h0, r0⟩ := trodAll_cons hA
  obtain ⟨rfl, rfl, rfl⟩ := trodAll_nil r0
  obtain rfl : args = #[v0] := by cases args; simp_all
  obtain ⟨rfl, rfl⟩ := trodVars_none hV
  have k0 := h0
  have lt0 : ∀ x ∈ p0, x.block < W.heap.size := by obtain ⟨m, hm⟩ := k0; exact DataW.trod_lt m _ _ _ hm
  obtain ⟨c00, c01, c02, y00, y01, y02, n0, hv0, hd0, t00, t01, t02⟩ := open_three Tryd.underlying36 (by kernel_rfl) rfl rfl rfl (by kernel_rfl) (by kernel_rfl) (by kernel_rfl) (hval 0 36 v0 rfl rfl) h0
  obtain ⟨b0, e00, _⟩ := DataW.trod_bool Tryd.underlying4 t00
  obtain ⟨a0a, len0a, cap0a, z0a, e01, w0a⟩ := open_row Tryd.underlying22 Tryd.underlying26 (by kernel_rfl) t01
  obtain ⟨a0b, len0b, cap0b, z0b, e02, w0b⟩ := open_row Tryd.underlying22 Tryd.underlying26 (by kernel_rfl) t02
  obtain rfl := (List.cons.inj e00).1
  obtain rfl := e01
  obtain rfl := e02
  obtain rfl := hv0
  clear hA0 hval0 hsz0 hsz
  refine (walk b0 a0a len0a cap0a z0a a0b len0b cap0b z0b W w0a w0b (of_laid hL)).mono fun e W' ⟨he, bel⟩ => ?_
  subst he
  exact ⟨_, rfl, _, _, _, [], _, [], hW', trodAll_mk1 (shut_bool Tryd.underlying4 _), (trodAll_cons_mk (Below.trod laidOut (by kernel_rfl) (of_decide_eq_true (by kernel_rfl)) k0 bel lt0) trodAll_mk0), rfl, bel.frame _, fun h => by cases h⟩
theorem over : Rows.nearModesRow.holds Tryd.pinned (OpenSpec.ofChange Rows.nearModesSpec) :=
  OpenClaim.holds_of_wide 7 Tryd.f7 rfl rfl rfl rfl rfl rfl rfl ⟨rfl, rfl, rfl, rfl, rfl⟩ rfl rfl rfl rfl rfl (by kernel_rfl) Tryd.func7 (by kernel_rfl)
    (of_decide_eq_true (by kernel_rfl)) (by unfold Func.isWrapper; first | (rw [if_pos (by decide +kernel)]; kernel_rfl) | (rw [if_neg (by decide +kernel)]; exact ⟨rfl, rfl⟩))
    (fun os started H enc _ => lifted os started H enc)
set_option maxRecDepth 100000 in
theorem proved : Rows.NearModesCardSaid :=
  Claim7.holds_tied_plain_at .later [] _ _ _ _
    over (fun _ h => by cases h) (by kernel_rfl) (fun _ h => by cases h) nearModes_row_tie rfl ⟨rfl, rfl⟩ (by kernel_rfl) rfl
    (fun f fn hf hfn => by
      obtain rfl : f = 7 := (Option.some.inj ((show Tryd.prog.funcNamed "plumb/plumblaw07.NearModes" = some 7 by kernel_rfl).symm.trans hf)).symm
      obtain rfl : fn = Tryd.f7 := (Option.some.inj (Tryd.func7.symm.trans hfn)).symm
      exact ⟨by kernel_rfl, fun j t ht => by
        have hall : (Tryd.f7.params.toList.all fun t => !Tryd.prog.wantsStandIn t) = true := by kernel_rfl
        have hm : t ∈ Tryd.f7.params.toList := by rw [← Array.getElem?_toList] at ht; exact List.mem_of_getElem? ht
        have hz : Tryd.prog.wantsStandIn t = false := by simpa using List.all_eq_true.1 hall t hm
        exact hz⟩)
    (by kernel_rfl)
#print axioms proved
end Go.Proofs.YtoefabmlkbhmpaaDoor.nearModes
namespace Go.Proofs.YtoefabmlkbhmpaaDoor
/-- The row, under a short name, for the claim. -/
theorem nearModes_holds : Rows.NearModesCardSaid := nearModes.proved
end Go.Proofs.YtoefabmlkbhmpaaDoor
