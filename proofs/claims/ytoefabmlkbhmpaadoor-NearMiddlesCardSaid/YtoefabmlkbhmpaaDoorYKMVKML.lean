/- The row and the card of NearMiddles. No conditions. -/
import Derived.Test.YtoefabmlkbhmpaaDoorRows
import Derived.Test.YtoefabmlkbhmpaaDoorYKMVKM16
import Derived.Test.YtoefabmlkbhmpaaDoorYKMVKM19
import Derived.WalkKit
import Derived.ProofKit
import Derived.LaidMore
import Derived.Stop.Joined
import Derived.SevenTiedAt
import Derived.Test.YtoefabmlkbhmpaaDoorCards
import Derived.Test.YtoefabmlkbhmpaaDoorTie
import Derived.OpenShut
import Derived.ShutString
import Derived.ChangeOld
import Derived.Below
import Derived.SizedLaws
namespace Go.Proofs.YtoefabmlkbhmpaaDoor.nearMiddles
open Go.ChangeShapes Go.WideShapes Go.ChangeAt Go.RowKit
open Go.Proofs.YtoefabmlkbhmpaaDoorW.PrintWords
open Go.ChangeMaps (open_string shut_string)
set_option linter.unusedVariables false
theorem own : ownKnob Tryd.prog.godebug = none := by kernel_rfl
theorem laidOut : laidOutB Tryd.prog = true := by kernel_rfl
theorem walk (v0 : Int) (w : World) (w0 : (Lit.int .u64 v0).wf = true) (hS : PA.StaysLaid w) :
    Calls Tryd.prog 11 #[.int .u64 v0] w fun e w' => e = .returned (.bool true) ∧ Below w.heap.size w w' := by
  have b0 := Go.bounds_u64 w0
  obtain ⟨k, h⟩ := Pure.nearMiddles_pure v0 (by omega) (by omega)
  refine (PA.plumblaw07_NearMiddles.calls k v0 true w  h hS).mono ?_
  rintro e w' ⟨rfl, hd⟩
  exact ⟨rfl, hd⟩
def IsRow (k : IntKind) (w : World) (a : Option Addr) (len cap : Nat) (zs : List Int) : Prop :=
  (a = none ∧ len = 0 ∧ cap = 0 ∧ zs = []) ∨
  ∃ x, a = some x ∧ len ≤ cap ∧ cap ≤ maxLen ∧ zs.length = cap ∧ (∀ i, i < zs.length → w.cell? (x.add i) = some (.int k (zs.getD i 0))) ∧ ∀ n ∈ zs, (Lit.int k n).wf = true
/-- a field that is a list of words: its row -/
theorem open_row {H : Type} {enc : TypeId × Value → H} {P : Program} {W : World} {base fuel : Nat} {held : Bool} {t e : TypeId} {k : IntKind} {v : Value} {y : DataW H × List MemPlace}
    (hu : P.underlying t = some (.slice e)) (he : P.underlying e = some (.int k)) (hc : P.cellsOf e = 1) (h : DataW.trod enc P W base (fun _ => true) held fuel t [v] = some y) :
    ∃ a len cap zs, v = .slice a len cap ∧ IsRow k W a len cap zs := by
  rcases open_ints hu he hc h with ⟨hcs, hx⟩ | ⟨x, l, c, zs, hcs, _, hl, hm, hz, hx, hcell, hwz⟩
  · obtain rfl := (List.cons.inj hcs).1
    exact ⟨none, 0, 0, [], rfl, .inl ⟨rfl, rfl, rfl, rfl⟩⟩
  · obtain rfl := (List.cons.inj hcs).1
    rw [if_pos rfl] at hz
    exact ⟨some x, l, c, zs, rfl, .inr ⟨_, rfl, hl, hm, hz, hcell, hwz⟩⟩
/-- the door's own heap meets the condition -/
theorem door_met (os : Os) (args : Array Value) : laidMetH Tryd.prog Rows.nearMiddlesRow.laid ((World.doorLaid Tryd.prog 400 os).forCall (fun _ _ => 0) ⟨#[], args, []⟩).memory :=
  laidMetH_of_parts3 (fuel := 8) (laidMet_of_run' 8 (by kernel_rfl) (by kernel_rfl)) (by kernel_rfl) (by kernel_rfl)
/-- what the condition says of the variable's cells -/
theorem of_laid {W : World} (h : laidMetH Tryd.prog Rows.nearMiddlesRow.laid W) : PA.StaysLaid W := by
  rw [MakeChecks.laidMetH_plain _ _ _ (by kernel_rfl)] at h
  obtain ⟨ps, ⟨g0, t0, cs0, f0, p0, q0, hg0, ht0, hv0, hd0, _, _⟩, _, _⟩ := h
  obtain rfl := Option.some.inj ((show Tryd.prog.globalNamed "plumb/near.stays" = some 0 by kernel_rfl).symm.trans hg0)
  obtain rfl := Option.some.inj ((show (Tryd.prog.globals[0]?).map (·.type) = some 113 by kernel_rfl).symm.trans ht0)
  exact fun i j hi hj => by
    rw [World.var?_cell hg0 hv0 (2 * i + j)]
    have e := trod_pairs Tryd.underlying113 Tryd.underlying112 Tryd.underlying4 (by kernel_rfl) (by kernel_rfl) (L := PA.near_staysL) hd0 i hi j hj
    rwa [Array.getElem?_toList] at e
set_option maxRecDepth 100000 in
theorem lifted (os : Os) (started : os.Started) (H : Type) (enc : TypeId × Value → H) :
    ReturnsInHanded {} Tryd.checked os 11 .any (fun w args => (Rows.nearMiddlesSpec.pre enc Tryd.prog Tryd.f11 Rows.nearMiddlesRow.domain false w args ∧ laidMetH Tryd.prog Rows.nearMiddlesRow.laid w) ∧ sizedMet enc Tryd.prog Tryd.f11 (OpenSpec.ofChange Rows.nearMiddlesSpec) false w args) (Rows.nearMiddlesSpec.post enc Tryd.prog Tryd.f11 false true false false) := by
  refine returnsInHanded_of_change_and (C := Tryd.checked) (X := fun w _ => laidMetH Tryd.prog Rows.nearMiddlesRow.laid w) (fun _ _ _ hh h => h.of_heap hh) own started (by kernel_rfl) Tryd.func11
    (ChangeSpec.witness_shaped (enc := enc) (C := Tryd.checked) (os := os) (X := fun w _ => laidMetH Tryd.prog Rows.nearMiddlesRow.laid w) false (World.doorLaid Tryd.prog 400 os) #[.int .u64 0] 8 rfl (World.shaped_of_RefB (by kernel_rfl) (by kernel_rfl)) (by kernel_rfl) (by kernel_rfl) (by kernel_rfl) (door_met os _)) ?_
  intro W base args ds gs before hval0 hW hcnd hsz0 hL _
  have hsz : (DataW.weightsEach Tryd.prog (Tryd.f11.params.toList ++ Rows.nearMiddlesSpec.plain.varTypes Tryd.prog) (ds ++ gs)).all (· ≤ reachBytes) = true := hsz0
  have hval : ∀ (j : Nat) t v, Tryd.f11.params[j]? = some t → args[j]? = some v → Value.okWide Tryd.prog W .any base t v := hval0
  have hW' := hW
  obtain ⟨p, q, hA0, hV, rfl, hfz, hnd⟩ := hW
  have hA : DataW.TrodAll enc Tryd.prog W 0 (fun _ => true) true Tryd.f11.params.toList args.toList ds p := hA0
  rw [Tryd.params11] at hA hval hsz
  obtain ⟨v0, vs0, d0, ds0, p0, q0, hargs, rfl, rfl, h0, r0⟩ := trodAll_cons hA
  obtain ⟨rfl, rfl, rfl⟩ := trodAll_nil r0
  obtain rfl : args = #[v0] := by cases args; simp_all
  obtain ⟨rfl, rfl⟩ := trodVars_none hV
  obtain ⟨x0, rfl, rfl, rfl, w0⟩ := open_int Tryd.underlying26 (hval 0 26 v0 rfl rfl) h0
  clear hA0 hval0 hsz0 hsz
  refine (walk x0 W w0 (of_laid hL)).mono fun e W' ⟨he, bel⟩ => ?_
  subst he
  exact ⟨_, rfl, _, _, _, [], _, [], hW', trodAll_mk1 (shut_bool Tryd.underlying4 _), (trodAll_cons_mk (shut_int Tryd.underlying26 w0) trodAll_mk0), rfl, bel.frame _, fun h => by cases h⟩
theorem over : Rows.nearMiddlesRow.holds Tryd.pinned (OpenSpec.ofChange Rows.nearMiddlesSpec) :=
  OpenClaim.holds_of_wide 11 Tryd.f11 rfl rfl rfl rfl rfl rfl rfl ⟨rfl, rfl, rfl, rfl, rfl⟩ rfl rfl rfl rfl rfl (by kernel_rfl) Tryd.func11 (by kernel_rfl)
    (of_decide_eq_true (by kernel_rfl)) (by unfold Func.isWrapper; first | (rw [if_pos (by decide +kernel)]; kernel_rfl) | (rw [if_neg (by decide +kernel)]; exact ⟨rfl, rfl⟩))
    (fun os started H enc _ => lifted os started H enc)
set_option maxRecDepth 100000 in
theorem proved : Rows.NearMiddlesCardSaid :=
  Claim7.holds_tied_plain_at .later [] _ _ _ _
    over (fun _ h => by cases h) (by kernel_rfl) (fun _ h => by cases h) nearMiddles_row_tie rfl ⟨rfl, rfl⟩ (by kernel_rfl) rfl
    (fun f fn hf hfn => by
      obtain rfl : f = 11 := (Option.some.inj ((show Tryd.prog.funcNamed "plumb/plumblaw07.NearMiddles" = some 11 by kernel_rfl).symm.trans hf)).symm
      obtain rfl : fn = Tryd.f11 := (Option.some.inj (Tryd.func11.symm.trans hfn)).symm
      exact ⟨by kernel_rfl, fun j t ht => by
        have hall : (Tryd.f11.params.toList.all fun t => !Tryd.prog.wantsStandIn t) = true := by kernel_rfl
        have hm : t ∈ Tryd.f11.params.toList := by rw [← Array.getElem?_toList] at ht; exact List.mem_of_getElem? ht
        have hz : Tryd.prog.wantsStandIn t = false := by simpa using List.all_eq_true.1 hall t hm
        exact hz⟩)
    (by kernel_rfl)
#print axioms proved
end Go.Proofs.YtoefabmlkbhmpaaDoor.nearMiddles
namespace Go.Proofs.YtoefabmlkbhmpaaDoor
/-- The row, under a short name, for the claim. -/
theorem nearMiddles_holds : Rows.NearMiddlesCardSaid := nearMiddles.proved
end Go.Proofs.YtoefabmlkbhmpaaDoor
