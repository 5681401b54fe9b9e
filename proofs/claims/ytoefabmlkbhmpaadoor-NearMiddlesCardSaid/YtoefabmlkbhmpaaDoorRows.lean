/-
  NARROWER THAN 'FOR EVERY INPUT', by the rows' own cells (each row's printed sentence says how): NearScaleds: laid · NearQuotients: laid · NearSticky: laid · NearScale: laid · NearModes: laid · NearMonotone: laid · NearNearest: laid · NearBack: laid · NearMiddles: laid.
  DERIVED. THE GIVEN ROWS OF THIS SEAT. 9 by the template 'for every input the law returns true; each argument reads behind the call as it read before'; 0 by the template 'total and deterministic' (their statements: YtoefabmlkbhmpaaDoorTotals.lean).
  GIVEN WITH THE SEED: the statements are not yours to turn. If you find one false, say at which input.
  Laid BY PROGRAM, IN A SANDBOX (cutbox-rows.mjs): the forced cells as the released guide's own fill.sh prints them over the translation 3f46cf24208a9455… (all of the seat's roots in one cut). By AI agents, Wed Nov 11 2026. No macro, syntax, notation, axiom, sorry.
-/
import Derived.Test.YtoefabmlkbhmpaaDoorChecked
import GoSem.Claim
import GoSem.ClaimJoined
import GoSem.ClaimMapViews
import Derived.JoinedTies
import Derived.KernelRfl
namespace Go.Proofs.YtoefabmlkbhmpaaDoor
/- THE CELL 'sum', in the pinned program and in every row, IS THE sha256 OF THE DUMP (.gsa) THAT YtoefabmlkbhmpaaDoorProg.lean LOADS. Nothing in Lean hashes anything: it is a label: what it is worth is what the hold of that sum in a sandbox is worth. -/
noncomputable def Tryd.pinned : Pinned := { name := "ytoefabmlkbhmpaadoor", sum := "3f46cf24208a9455391420aeba96178590cea7d09ee840b8223f5cb894a67ce0", checked := Tryd.checked }
namespace Rows
def none {H : Type} : Left H := { results := [], args := [] }

/- WHAT THE LISTED PACKAGE-LEVEL VARIABLES READ AS WHEN THE CALL BEGINS. Each datum BY PROGRAM (the guide's laid-datum.mjs) off the statement by which the dump's own 'gosem.cut.vars' lays the variable. In a bare row this is a premise. The card (YtoefabmlkbhmpaaDoorCards.lean) ties it to the program's text. -/
def laid_plumb_near_stays {H : Type} : DataW H := .agg [.agg [.lit (.bool false), .lit (.bool false)], .agg [.lit (.bool true), .lit (.bool true)], .agg [.lit (.bool false), .lit (.bool false)], .agg [.lit (.bool false), .lit (.bool true)], .agg [.lit (.bool true), .lit (.bool false)]]

/-- 'plumblaw07.NearScaleds': WHATEVER THE INPUT: true; the input reads as it did. -/
def nearScaledsSpec : ChangeSpec := { name := "nearScaleds", fn := fun _ => fun
  | [d1, d2] => { results := [.lit (.bool true)], args := [d1, d2] }
  | _ => none }
def nearScaledsRow : OpenClaim := { program := "ytoefabmlkbhmpaadoor", sum := "3f46cf24208a9455391420aeba96178590cea7d09ee840b8223f5cb894a67ce0", func := "plumb/plumblaw07.NearScaleds", spec := "nearScaleds", unfollowed := true, recurses := true, named := ["plumb/near.stays"], apart := false, laid := [("plumb/near.stays", laid_plumb_near_stays)] }
def NearScaledsSaid : Prop := nearScaledsRow.holds Tryd.pinned (OpenSpec.ofChange nearScaledsSpec)

/-- ITS FALSE NEIGHBOUR: 'it returns false'. Refute it at one input. -/
def nearScaledsWrong : ChangeSpec := { name := "nearScaleds", fn := fun _ => fun
  | [d1, d2] => { results := [.lit (.bool false)], args := [d1, d2] }
  | _ => none }
def NearScaledsWrongFalsely : Prop := nearScaledsRow.holds Tryd.pinned (OpenSpec.ofChange nearScaledsWrong)

/-- 'plumblaw07.NearQuotients': WHATEVER THE INPUT: true; the input reads as it did. -/
def nearQuotientsSpec : ChangeSpec := { name := "nearQuotients", fn := fun _ => fun
  | [d1, d2] => { results := [.lit (.bool true)], args := [d1, d2] }
  | _ => none }
def nearQuotientsRow : OpenClaim := { program := "ytoefabmlkbhmpaadoor", sum := "3f46cf24208a9455391420aeba96178590cea7d09ee840b8223f5cb894a67ce0", func := "plumb/plumblaw07.NearQuotients", spec := "nearQuotients", unfollowed := true, recurses := true, named := ["plumb/near.stays"], apart := false, laid := [("plumb/near.stays", laid_plumb_near_stays)] }
def NearQuotientsSaid : Prop := nearQuotientsRow.holds Tryd.pinned (OpenSpec.ofChange nearQuotientsSpec)

/-- ITS FALSE NEIGHBOUR: 'it returns false'. Refute it at one input. -/
def nearQuotientsWrong : ChangeSpec := { name := "nearQuotients", fn := fun _ => fun
  | [d1, d2] => { results := [.lit (.bool false)], args := [d1, d2] }
  | _ => none }
def NearQuotientsWrongFalsely : Prop := nearQuotientsRow.holds Tryd.pinned (OpenSpec.ofChange nearQuotientsWrong)

/-- 'plumblaw07.NearSticky': WHATEVER THE INPUT: true; the input reads as it did. -/
def nearStickySpec : ChangeSpec := { name := "nearSticky", fn := fun _ => fun
  | [d] => { results := [.lit (.bool true)], args := [d] }
  | _ => none }
def nearStickyRow : OpenClaim := { program := "ytoefabmlkbhmpaadoor", sum := "3f46cf24208a9455391420aeba96178590cea7d09ee840b8223f5cb894a67ce0", func := "plumb/plumblaw07.NearSticky", spec := "nearSticky", unfollowed := true, recurses := true, named := ["plumb/near.stays"], apart := false, laid := [("plumb/near.stays", laid_plumb_near_stays)] }
def NearStickySaid : Prop := nearStickyRow.holds Tryd.pinned (OpenSpec.ofChange nearStickySpec)

/-- ITS FALSE NEIGHBOUR: 'it returns false'. Refute it at one input. -/
def nearStickyWrong : ChangeSpec := { name := "nearSticky", fn := fun _ => fun
  | [d] => { results := [.lit (.bool false)], args := [d] }
  | _ => none }
def NearStickyWrongFalsely : Prop := nearStickyRow.holds Tryd.pinned (OpenSpec.ofChange nearStickyWrong)

/-- 'plumblaw07.NearScale': WHATEVER THE INPUT: true; the input reads as it did. -/
def nearScaleSpec : ChangeSpec := { name := "nearScale", fn := fun _ => fun
  | [d1, d2, d3] => { results := [.lit (.bool true)], args := [d1, d2, d3] }
  | _ => none }
def nearScaleRow : OpenClaim := { program := "ytoefabmlkbhmpaadoor", sum := "3f46cf24208a9455391420aeba96178590cea7d09ee840b8223f5cb894a67ce0", func := "plumb/plumblaw07.NearScale", spec := "nearScale", unfollowed := true, recurses := true, named := ["plumb/near.stays"], apart := false, laid := [("plumb/near.stays", laid_plumb_near_stays)] }
def NearScaleSaid : Prop := nearScaleRow.holds Tryd.pinned (OpenSpec.ofChange nearScaleSpec)

/-- ITS FALSE NEIGHBOUR: 'it returns false'. Refute it at one input. -/
def nearScaleWrong : ChangeSpec := { name := "nearScale", fn := fun _ => fun
  | [d1, d2, d3] => { results := [.lit (.bool false)], args := [d1, d2, d3] }
  | _ => none }
def NearScaleWrongFalsely : Prop := nearScaleRow.holds Tryd.pinned (OpenSpec.ofChange nearScaleWrong)

/-- 'plumblaw07.NearModes': WHATEVER THE INPUT: true; the input reads as it did. -/
def nearModesSpec : ChangeSpec := { name := "nearModes", fn := fun _ => fun
  | [d] => { results := [.lit (.bool true)], args := [d] }
  | _ => none }
def nearModesRow : OpenClaim := { program := "ytoefabmlkbhmpaadoor", sum := "3f46cf24208a9455391420aeba96178590cea7d09ee840b8223f5cb894a67ce0", func := "plumb/plumblaw07.NearModes", spec := "nearModes", unfollowed := true, recurses := true, named := ["plumb/near.stays"], apart := false, laid := [("plumb/near.stays", laid_plumb_near_stays)] }
def NearModesSaid : Prop := nearModesRow.holds Tryd.pinned (OpenSpec.ofChange nearModesSpec)

/-- ITS FALSE NEIGHBOUR: 'it returns false'. Refute it at one input. -/
def nearModesWrong : ChangeSpec := { name := "nearModes", fn := fun _ => fun
  | [d] => { results := [.lit (.bool false)], args := [d] }
  | _ => none }
def NearModesWrongFalsely : Prop := nearModesRow.holds Tryd.pinned (OpenSpec.ofChange nearModesWrong)

/-- 'plumblaw07.NearMonotone': WHATEVER THE INPUT: true; the input reads as it did. -/
def nearMonotoneSpec : ChangeSpec := { name := "nearMonotone", fn := fun _ => fun
  | [d1, d2] => { results := [.lit (.bool true)], args := [d1, d2] }
  | _ => none }
def nearMonotoneRow : OpenClaim := { program := "ytoefabmlkbhmpaadoor", sum := "3f46cf24208a9455391420aeba96178590cea7d09ee840b8223f5cb894a67ce0", func := "plumb/plumblaw07.NearMonotone", spec := "nearMonotone", unfollowed := true, recurses := true, named := ["plumb/near.stays"], apart := false, laid := [("plumb/near.stays", laid_plumb_near_stays)] }
def NearMonotoneSaid : Prop := nearMonotoneRow.holds Tryd.pinned (OpenSpec.ofChange nearMonotoneSpec)

/-- ITS FALSE NEIGHBOUR: 'it returns false'. Refute it at one input. -/
def nearMonotoneWrong : ChangeSpec := { name := "nearMonotone", fn := fun _ => fun
  | [d1, d2] => { results := [.lit (.bool false)], args := [d1, d2] }
  | _ => none }
def NearMonotoneWrongFalsely : Prop := nearMonotoneRow.holds Tryd.pinned (OpenSpec.ofChange nearMonotoneWrong)

/-- 'plumblaw07.NearNearest': WHATEVER THE INPUT: true; the input reads as it did. -/
def nearNearestSpec : ChangeSpec := { name := "nearNearest", fn := fun _ => fun
  | [d] => { results := [.lit (.bool true)], args := [d] }
  | _ => none }
def nearNearestRow : OpenClaim := { program := "ytoefabmlkbhmpaadoor", sum := "3f46cf24208a9455391420aeba96178590cea7d09ee840b8223f5cb894a67ce0", func := "plumb/plumblaw07.NearNearest", spec := "nearNearest", unfollowed := true, recurses := true, named := ["plumb/near.stays"], apart := false, laid := [("plumb/near.stays", laid_plumb_near_stays)] }
def NearNearestSaid : Prop := nearNearestRow.holds Tryd.pinned (OpenSpec.ofChange nearNearestSpec)

/-- ITS FALSE NEIGHBOUR: 'it returns false'. Refute it at one input. -/
def nearNearestWrong : ChangeSpec := { name := "nearNearest", fn := fun _ => fun
  | [d] => { results := [.lit (.bool false)], args := [d] }
  | _ => none }
def NearNearestWrongFalsely : Prop := nearNearestRow.holds Tryd.pinned (OpenSpec.ofChange nearNearestWrong)

/-- 'plumblaw07.NearBack': WHATEVER THE INPUT: true; the input reads as it did. -/
def nearBackSpec : ChangeSpec := { name := "nearBack", fn := fun _ => fun
  | [d] => { results := [.lit (.bool true)], args := [d] }
  | _ => none }
def nearBackRow : OpenClaim := { program := "ytoefabmlkbhmpaadoor", sum := "3f46cf24208a9455391420aeba96178590cea7d09ee840b8223f5cb894a67ce0", func := "plumb/plumblaw07.NearBack", spec := "nearBack", unfollowed := true, recurses := true, named := ["plumb/near.stays"], apart := false, laid := [("plumb/near.stays", laid_plumb_near_stays)] }
def NearBackSaid : Prop := nearBackRow.holds Tryd.pinned (OpenSpec.ofChange nearBackSpec)

/-- ITS FALSE NEIGHBOUR: 'it returns false'. Refute it at one input. -/
def nearBackWrong : ChangeSpec := { name := "nearBack", fn := fun _ => fun
  | [d] => { results := [.lit (.bool false)], args := [d] }
  | _ => none }
def NearBackWrongFalsely : Prop := nearBackRow.holds Tryd.pinned (OpenSpec.ofChange nearBackWrong)

/-- 'plumblaw07.NearMiddles': WHATEVER THE INPUT: true; the input reads as it did. -/
def nearMiddlesSpec : ChangeSpec := { name := "nearMiddles", fn := fun _ => fun
  | [d] => { results := [.lit (.bool true)], args := [d] }
  | _ => none }
def nearMiddlesRow : OpenClaim := { program := "ytoefabmlkbhmpaadoor", sum := "3f46cf24208a9455391420aeba96178590cea7d09ee840b8223f5cb894a67ce0", func := "plumb/plumblaw07.NearMiddles", spec := "nearMiddles", unfollowed := true, recurses := true, named := ["plumb/near.stays"], apart := false, laid := [("plumb/near.stays", laid_plumb_near_stays)] }
def NearMiddlesSaid : Prop := nearMiddlesRow.holds Tryd.pinned (OpenSpec.ofChange nearMiddlesSpec)

/-- ITS FALSE NEIGHBOUR: 'it returns false'. Refute it at one input. -/
def nearMiddlesWrong : ChangeSpec := { name := "nearMiddles", fn := fun _ => fun
  | [d] => { results := [.lit (.bool false)], args := [d] }
  | _ => none }
def NearMiddlesWrongFalsely : Prop := nearMiddlesRow.holds Tryd.pinned (OpenSpec.ofChange nearMiddlesWrong)

/- THE SECOND FORM. 'bulk': how many values and letters a reading holds, each counted each time it is reached (what is shared counts as often as it is met; a slice's spare places count too). A statement '..UptoSaid' is the law's where the arguments, and the package variables that the reading takes, are together of bulk at most 1048576: NARROWER than '..Said'. Prove '..Said' where nothing that the law and all that it calls make is longer than what came in: it says more and counts as full. Else prove '..UptoSaid'. A law counts once. -/
mutual
def uptoBulk {H : Type} : DataW H → Nat
  | .lit (.string bytes) => bytes.length + 1
  | .lit _ => 1
  | .nil => 1
  | .ptr d => uptoBulk d + 1
  | .slice elems spare => uptoBulkAll elems + uptoBulkAll spare + 1
  | .agg parts => uptoBulkAll parts + 1
  | .iface _ d => uptoBulk d + 1
  | .map entries => uptoBulkEntries entries + 1
  | .held _ => 1
def uptoBulkAll {H : Type} : List (DataW H) → Nat
  | [] => 0
  | d :: r => uptoBulk d + uptoBulkAll r
def uptoBulkEntries {H : Type} : List (Lit × DataW H) → Nat
  | [] => 0
  | x :: r => uptoBulkEntry x + uptoBulkEntries r
def uptoBulkEntry {H : Type} : Lit × DataW H → Nat
  | (.string bytes, d) => bytes.length + uptoBulk d + 1
  | (_, d) => uptoBulk d + 1
 end
def uptoSmall : (H : Type) → List (DataW H) → Bool := fun _ ds => decide (uptoBulkAll ds ≤ 1048576)
def OpenSpec.upto (s : _root_.Go.ChangeSpec) : _root_.Go.OpenSpec := { _root_.Go.OpenSpec.ofChange s with cond := some uptoSmall }

/-- 'plumblaw07.NearScaleds', WHERE WHAT IT READS IS OF BULK AT MOST 1048576: true; the input reads as it did. -/
def nearScaledsUptoRow : OpenClaim := { program := "ytoefabmlkbhmpaadoor", sum := "3f46cf24208a9455391420aeba96178590cea7d09ee840b8223f5cb894a67ce0", func := "plumb/plumblaw07.NearScaleds", spec := "nearScaleds", unfollowed := true, recurses := true, named := ["plumb/near.stays"], apart := false, laid := [("plumb/near.stays", laid_plumb_near_stays)], narrowed := true }
def NearScaledsUptoSaid : Prop := nearScaledsUptoRow.holds Tryd.pinned (OpenSpec.upto nearScaledsSpec)

/-- 'plumblaw07.NearQuotients', WHERE WHAT IT READS IS OF BULK AT MOST 1048576: true; the input reads as it did. -/
def nearQuotientsUptoRow : OpenClaim := { program := "ytoefabmlkbhmpaadoor", sum := "3f46cf24208a9455391420aeba96178590cea7d09ee840b8223f5cb894a67ce0", func := "plumb/plumblaw07.NearQuotients", spec := "nearQuotients", unfollowed := true, recurses := true, named := ["plumb/near.stays"], apart := false, laid := [("plumb/near.stays", laid_plumb_near_stays)], narrowed := true }
def NearQuotientsUptoSaid : Prop := nearQuotientsUptoRow.holds Tryd.pinned (OpenSpec.upto nearQuotientsSpec)

/-- 'plumblaw07.NearSticky', WHERE WHAT IT READS IS OF BULK AT MOST 1048576: true; the input reads as it did. -/
def nearStickyUptoRow : OpenClaim := { program := "ytoefabmlkbhmpaadoor", sum := "3f46cf24208a9455391420aeba96178590cea7d09ee840b8223f5cb894a67ce0", func := "plumb/plumblaw07.NearSticky", spec := "nearSticky", unfollowed := true, recurses := true, named := ["plumb/near.stays"], apart := false, laid := [("plumb/near.stays", laid_plumb_near_stays)], narrowed := true }
def NearStickyUptoSaid : Prop := nearStickyUptoRow.holds Tryd.pinned (OpenSpec.upto nearStickySpec)

/-- 'plumblaw07.NearScale', WHERE WHAT IT READS IS OF BULK AT MOST 1048576: true; the input reads as it did. -/
def nearScaleUptoRow : OpenClaim := { program := "ytoefabmlkbhmpaadoor", sum := "3f46cf24208a9455391420aeba96178590cea7d09ee840b8223f5cb894a67ce0", func := "plumb/plumblaw07.NearScale", spec := "nearScale", unfollowed := true, recurses := true, named := ["plumb/near.stays"], apart := false, laid := [("plumb/near.stays", laid_plumb_near_stays)], narrowed := true }
def NearScaleUptoSaid : Prop := nearScaleUptoRow.holds Tryd.pinned (OpenSpec.upto nearScaleSpec)

/-- 'plumblaw07.NearModes', WHERE WHAT IT READS IS OF BULK AT MOST 1048576: true; the input reads as it did. -/
def nearModesUptoRow : OpenClaim := { program := "ytoefabmlkbhmpaadoor", sum := "3f46cf24208a9455391420aeba96178590cea7d09ee840b8223f5cb894a67ce0", func := "plumb/plumblaw07.NearModes", spec := "nearModes", unfollowed := true, recurses := true, named := ["plumb/near.stays"], apart := false, laid := [("plumb/near.stays", laid_plumb_near_stays)], narrowed := true }
def NearModesUptoSaid : Prop := nearModesUptoRow.holds Tryd.pinned (OpenSpec.upto nearModesSpec)

/-- 'plumblaw07.NearMonotone', WHERE WHAT IT READS IS OF BULK AT MOST 1048576: true; the input reads as it did. -/
def nearMonotoneUptoRow : OpenClaim := { program := "ytoefabmlkbhmpaadoor", sum := "3f46cf24208a9455391420aeba96178590cea7d09ee840b8223f5cb894a67ce0", func := "plumb/plumblaw07.NearMonotone", spec := "nearMonotone", unfollowed := true, recurses := true, named := ["plumb/near.stays"], apart := false, laid := [("plumb/near.stays", laid_plumb_near_stays)], narrowed := true }
def NearMonotoneUptoSaid : Prop := nearMonotoneUptoRow.holds Tryd.pinned (OpenSpec.upto nearMonotoneSpec)

/-- 'plumblaw07.NearNearest', WHERE WHAT IT READS IS OF BULK AT MOST 1048576: true; the input reads as it did. -/
def nearNearestUptoRow : OpenClaim := { program := "ytoefabmlkbhmpaadoor", sum := "3f46cf24208a9455391420aeba96178590cea7d09ee840b8223f5cb894a67ce0", func := "plumb/plumblaw07.NearNearest", spec := "nearNearest", unfollowed := true, recurses := true, named := ["plumb/near.stays"], apart := false, laid := [("plumb/near.stays", laid_plumb_near_stays)], narrowed := true }
def NearNearestUptoSaid : Prop := nearNearestUptoRow.holds Tryd.pinned (OpenSpec.upto nearNearestSpec)

/-- 'plumblaw07.NearBack', WHERE WHAT IT READS IS OF BULK AT MOST 1048576: true; the input reads as it did. -/
def nearBackUptoRow : OpenClaim := { program := "ytoefabmlkbhmpaadoor", sum := "3f46cf24208a9455391420aeba96178590cea7d09ee840b8223f5cb894a67ce0", func := "plumb/plumblaw07.NearBack", spec := "nearBack", unfollowed := true, recurses := true, named := ["plumb/near.stays"], apart := false, laid := [("plumb/near.stays", laid_plumb_near_stays)], narrowed := true }
def NearBackUptoSaid : Prop := nearBackUptoRow.holds Tryd.pinned (OpenSpec.upto nearBackSpec)

/-- 'plumblaw07.NearMiddles', WHERE WHAT IT READS IS OF BULK AT MOST 1048576: true; the input reads as it did. -/
def nearMiddlesUptoRow : OpenClaim := { program := "ytoefabmlkbhmpaadoor", sum := "3f46cf24208a9455391420aeba96178590cea7d09ee840b8223f5cb894a67ce0", func := "plumb/plumblaw07.NearMiddles", spec := "nearMiddles", unfollowed := true, recurses := true, named := ["plumb/near.stays"], apart := false, laid := [("plumb/near.stays", laid_plumb_near_stays)], narrowed := true }
def NearMiddlesUptoSaid : Prop := nearMiddlesUptoRow.holds Tryd.pinned (OpenSpec.upto nearMiddlesSpec)

end Rows
end Go.Proofs.YtoefabmlkbhmpaaDoor
