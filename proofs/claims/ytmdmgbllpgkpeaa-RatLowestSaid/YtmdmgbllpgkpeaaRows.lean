/-
  No cell of these rows narrows 'for every input' (looked for: loops, veiled, ifaces, maps, wideKeys, modest, calm, conditions, laid).
  DERIVED. THE GIVEN ROWS OF THIS SEAT. 7 by the template 'for every input the law returns true; each argument reads behind the call as it read before'; 0 by the template 'total and deterministic' (their statements: YtmdmgbllpgkpeaaTotals.lean).
  GIVEN WITH THE SEED: the statements are not yours to turn. If you find one false, say at which input.
  Laid BY PROGRAM, IN A SANDBOX (cutbox-rows.mjs): the forced cells as the released guide's own fill.sh prints them over the translation 94531537182d7276… (all of the seat's roots in one cut). By AI agents, Wed Nov 11 2026. No macro, syntax, notation, axiom, sorry.
-/
import Derived.Test.YtmdmgbllpgkpeaaChecked
import GoSem.Claim
import GoSem.ClaimJoined
import GoSem.ClaimMapViews
import Derived.JoinedTies
import Derived.KernelRfl
namespace Go.Proofs.Ytmdmgbllpgkpeaa
/- THE CELL 'sum', in the pinned program and in every row, IS THE sha256 OF THE DUMP (.gsa) THAT YtmdmgbllpgkpeaaProg.lean LOADS. Nothing in Lean hashes anything: it is a label: what it is worth is what the hold of that sum in a sandbox is worth. -/
noncomputable def Try.pinned : Pinned := { name := "ytmdmgbllpgkpeaa", sum := "94531537182d7276860f489cc509de2c3b4a1adeee7c5d2b5da2af95c3c2027d", checked := Try.checked }
namespace Rows
def none {H : Type} : Left H := { results := [], args := [] }

/-- 'plumblaw05.RatLowest': WHATEVER THE INPUT: true; the input reads as it did. -/
def ratLowestSpec : ChangeSpec := { name := "ratLowest", fn := fun _ => fun
  | [d1, d2, d3] => { results := [.lit (.bool true)], args := [d1, d2, d3] }
  | _ => none }
def ratLowestRow : OpenClaim := { program := "ytmdmgbllpgkpeaa", sum := "94531537182d7276860f489cc509de2c3b4a1adeee7c5d2b5da2af95c3c2027d", func := "plumb/plumblaw05.RatLowest", spec := "ratLowest", unfollowed := true, recurses := true, apart := false }
def RatLowestSaid : Prop := ratLowestRow.holds Try.pinned (OpenSpec.ofChange ratLowestSpec)

/-- ITS FALSE NEIGHBOUR: 'it returns false'. Refute it at one input. -/
def ratLowestWrong : ChangeSpec := { name := "ratLowest", fn := fun _ => fun
  | [d1, d2, d3] => { results := [.lit (.bool false)], args := [d1, d2, d3] }
  | _ => none }
def RatLowestWrongFalsely : Prop := ratLowestRow.holds Try.pinned (OpenSpec.ofChange ratLowestWrong)

/-- 'plumblaw05.RatField': WHATEVER THE INPUT: true; the input reads as it did. -/
def ratFieldSpec : ChangeSpec := { name := "ratField", fn := fun _ => fun
  | [d1, d2, d3] => { results := [.lit (.bool true)], args := [d1, d2, d3] }
  | _ => none }
def ratFieldRow : OpenClaim := { program := "ytmdmgbllpgkpeaa", sum := "94531537182d7276860f489cc509de2c3b4a1adeee7c5d2b5da2af95c3c2027d", func := "plumb/plumblaw05.RatField", spec := "ratField", unfollowed := true, recurses := true, apart := false }
def RatFieldSaid : Prop := ratFieldRow.holds Try.pinned (OpenSpec.ofChange ratFieldSpec)

/-- ITS FALSE NEIGHBOUR: 'it returns false'. Refute it at one input. -/
def ratFieldWrong : ChangeSpec := { name := "ratField", fn := fun _ => fun
  | [d1, d2, d3] => { results := [.lit (.bool false)], args := [d1, d2, d3] }
  | _ => none }
def RatFieldWrongFalsely : Prop := ratFieldRow.holds Try.pinned (OpenSpec.ofChange ratFieldWrong)

/-- 'plumblaw05.RatOrder': WHATEVER THE INPUT: true; the input reads as it did. -/
def ratOrderSpec : ChangeSpec := { name := "ratOrder", fn := fun _ => fun
  | [d1, d2, d3] => { results := [.lit (.bool true)], args := [d1, d2, d3] }
  | _ => none }
def ratOrderRow : OpenClaim := { program := "ytmdmgbllpgkpeaa", sum := "94531537182d7276860f489cc509de2c3b4a1adeee7c5d2b5da2af95c3c2027d", func := "plumb/plumblaw05.RatOrder", spec := "ratOrder", unfollowed := true, recurses := true, apart := false }
def RatOrderSaid : Prop := ratOrderRow.holds Try.pinned (OpenSpec.ofChange ratOrderSpec)

/-- ITS FALSE NEIGHBOUR: 'it returns false'. Refute it at one input. -/
def ratOrderWrong : ChangeSpec := { name := "ratOrder", fn := fun _ => fun
  | [d1, d2, d3] => { results := [.lit (.bool false)], args := [d1, d2, d3] }
  | _ => none }
def RatOrderWrongFalsely : Prop := ratOrderRow.holds Try.pinned (OpenSpec.ofChange ratOrderWrong)

/-- 'plumblaw05.RatFloor': WHATEVER THE INPUT: true; the input reads as it did. -/
def ratFloorSpec : ChangeSpec := { name := "ratFloor", fn := fun _ => fun
  | [d] => { results := [.lit (.bool true)], args := [d] }
  | _ => none }
def ratFloorRow : OpenClaim := { program := "ytmdmgbllpgkpeaa", sum := "94531537182d7276860f489cc509de2c3b4a1adeee7c5d2b5da2af95c3c2027d", func := "plumb/plumblaw05.RatFloor", spec := "ratFloor", unfollowed := true, recurses := true, apart := false }
def RatFloorSaid : Prop := ratFloorRow.holds Try.pinned (OpenSpec.ofChange ratFloorSpec)

/-- ITS FALSE NEIGHBOUR: 'it returns false'. Refute it at one input. -/
def ratFloorWrong : ChangeSpec := { name := "ratFloor", fn := fun _ => fun
  | [d] => { results := [.lit (.bool false)], args := [d] }
  | _ => none }
def RatFloorWrongFalsely : Prop := ratFloorRow.holds Try.pinned (OpenSpec.ofChange ratFloorWrong)

/-- 'plumblaw05.RatDoes': WHATEVER THE INPUT: true; the input reads as it did. -/
def ratDoesSpec : ChangeSpec := { name := "ratDoes", fn := fun _ => fun
  | [d1, d2] => { results := [.lit (.bool true)], args := [d1, d2] }
  | _ => none }
def ratDoesRow : OpenClaim := { program := "ytmdmgbllpgkpeaa", sum := "94531537182d7276860f489cc509de2c3b4a1adeee7c5d2b5da2af95c3c2027d", func := "plumb/plumblaw05.RatDoes", spec := "ratDoes", unfollowed := true, recurses := true, apart := false }
def RatDoesSaid : Prop := ratDoesRow.holds Try.pinned (OpenSpec.ofChange ratDoesSpec)

/-- ITS FALSE NEIGHBOUR: 'it returns false'. Refute it at one input. -/
def ratDoesWrong : ChangeSpec := { name := "ratDoes", fn := fun _ => fun
  | [d1, d2] => { results := [.lit (.bool false)], args := [d1, d2] }
  | _ => none }
def RatDoesWrongFalsely : Prop := ratDoesRow.holds Try.pinned (OpenSpec.ofChange ratDoesWrong)

/-- 'plumblaw05.RatHuge': WHATEVER THE INPUT: true; the input reads as it did. -/
def ratHugeSpec : ChangeSpec := { name := "ratHuge", fn := fun _ => fun
  | [d1, d2] => { results := [.lit (.bool true)], args := [d1, d2] }
  | _ => none }
def ratHugeRow : OpenClaim := { program := "ytmdmgbllpgkpeaa", sum := "94531537182d7276860f489cc509de2c3b4a1adeee7c5d2b5da2af95c3c2027d", func := "plumb/plumblaw05.RatHuge", spec := "ratHuge", unfollowed := true, recurses := true, apart := false }
def RatHugeSaid : Prop := ratHugeRow.holds Try.pinned (OpenSpec.ofChange ratHugeSpec)

/-- ITS FALSE NEIGHBOUR: 'it returns false'. Refute it at one input. -/
def ratHugeWrong : ChangeSpec := { name := "ratHuge", fn := fun _ => fun
  | [d1, d2] => { results := [.lit (.bool false)], args := [d1, d2] }
  | _ => none }
def RatHugeWrongFalsely : Prop := ratHugeRow.holds Try.pinned (OpenSpec.ofChange ratHugeWrong)

/-- 'plumblaw05.RatFresh': WHATEVER THE INPUT: true; the input reads as it did. -/
def ratFreshSpec : ChangeSpec := { name := "ratFresh", fn := fun _ => fun
  | [d1, d2] => { results := [.lit (.bool true)], args := [d1, d2] }
  | _ => none }
def ratFreshRow : OpenClaim := { program := "ytmdmgbllpgkpeaa", sum := "94531537182d7276860f489cc509de2c3b4a1adeee7c5d2b5da2af95c3c2027d", func := "plumb/plumblaw05.RatFresh", spec := "ratFresh", unfollowed := true, recurses := true, apart := false }
def RatFreshSaid : Prop := ratFreshRow.holds Try.pinned (OpenSpec.ofChange ratFreshSpec)

/-- ITS FALSE NEIGHBOUR: 'it returns false'. Refute it at one input. -/
def ratFreshWrong : ChangeSpec := { name := "ratFresh", fn := fun _ => fun
  | [d1, d2] => { results := [.lit (.bool false)], args := [d1, d2] }
  | _ => none }
def RatFreshWrongFalsely : Prop := ratFreshRow.holds Try.pinned (OpenSpec.ofChange ratFreshWrong)

/- THE SECOND FORM. 'bulk': how many values and letters a reading holds, each counted each time it is reached (what is shared counts as often as it is met; a slice's spare places count too). A statement '..UptoSaid' is the law's where the arguments, and the package variables that the reading takes, are together of bulk at most 1048576: NARROWER than '..Said'. Prove '..Said' where nothing that the law and all that it calls make is longer than what came in: it says more and counts as full. Else prove '..UptoSaid'. A law counts once. -/
mutual
def uptoBulk {H : Type} : DataW H → Nat
  | .lit (.string bytes) => bytes.length + 1
  | .lit _ => 1
  | .nil => 1
  | .ptr d => uptoBulk d + 1
  | .slice elems spare => uptoBulkAll elems + uptoBulkAll spare + 1
  | .agg parts => uptoBulkAll parts + 1
  | .iface _ d => uptoBulk d + 1
  | .map entries => uptoBulkEntries entries + 1
  | .held _ => 1
def uptoBulkAll {H : Type} : List (DataW H) → Nat
  | [] => 0
  | d :: r => uptoBulk d + uptoBulkAll r
def uptoBulkEntries {H : Type} : List (Lit × DataW H) → Nat
  | [] => 0
  | x :: r => uptoBulkEntry x + uptoBulkEntries r
def uptoBulkEntry {H : Type} : Lit × DataW H → Nat
  | (.string bytes, d) => bytes.length + uptoBulk d + 1
  | (_, d) => uptoBulk d + 1
 end
def uptoSmall : (H : Type) → List (DataW H) → Bool := fun _ ds => decide (uptoBulkAll ds ≤ 1048576)
def OpenSpec.upto (s : _root_.Go.ChangeSpec) : _root_.Go.OpenSpec := { _root_.Go.OpenSpec.ofChange s with cond := some uptoSmall }

/-- 'plumblaw05.RatLowest', WHERE WHAT IT READS IS OF BULK AT MOST 1048576: true; the input reads as it did. -/
def ratLowestUptoRow : OpenClaim := { program := "ytmdmgbllpgkpeaa", sum := "94531537182d7276860f489cc509de2c3b4a1adeee7c5d2b5da2af95c3c2027d", func := "plumb/plumblaw05.RatLowest", spec := "ratLowest", unfollowed := true, recurses := true, apart := false, narrowed := true }
def RatLowestUptoSaid : Prop := ratLowestUptoRow.holds Try.pinned (OpenSpec.upto ratLowestSpec)

/-- 'plumblaw05.RatField', WHERE WHAT IT READS IS OF BULK AT MOST 1048576: true; the input reads as it did. -/
def ratFieldUptoRow : OpenClaim := { program := "ytmdmgbllpgkpeaa", sum := "94531537182d7276860f489cc509de2c3b4a1adeee7c5d2b5da2af95c3c2027d", func := "plumb/plumblaw05.RatField", spec := "ratField", unfollowed := true, recurses := true, apart := false, narrowed := true }
def RatFieldUptoSaid : Prop := ratFieldUptoRow.holds Try.pinned (OpenSpec.upto ratFieldSpec)

/-- 'plumblaw05.RatOrder', WHERE WHAT IT READS IS OF BULK AT MOST 1048576: true; the input reads as it did. -/
def ratOrderUptoRow : OpenClaim := { program := "ytmdmgbllpgkpeaa", sum := "94531537182d7276860f489cc509de2c3b4a1adeee7c5d2b5da2af95c3c2027d", func := "plumb/plumblaw05.RatOrder", spec := "ratOrder", unfollowed := true, recurses := true, apart := false, narrowed := true }
def RatOrderUptoSaid : Prop := ratOrderUptoRow.holds Try.pinned (OpenSpec.upto ratOrderSpec)

/-- 'plumblaw05.RatFloor', WHERE WHAT IT READS IS OF BULK AT MOST 1048576: true; the input reads as it did. -/
def ratFloorUptoRow : OpenClaim := { program := "ytmdmgbllpgkpeaa", sum := "94531537182d7276860f489cc509de2c3b4a1adeee7c5d2b5da2af95c3c2027d", func := "plumb/plumblaw05.RatFloor", spec := "ratFloor", unfollowed := true, recurses := true, apart := false, narrowed := true }
def RatFloorUptoSaid : Prop := ratFloorUptoRow.holds Try.pinned (OpenSpec.upto ratFloorSpec)

/-- 'plumblaw05.RatDoes', WHERE WHAT IT READS IS OF BULK AT MOST 1048576: true; the input reads as it did. -/
def ratDoesUptoRow : OpenClaim := { program := "ytmdmgbllpgkpeaa", sum := "94531537182d7276860f489cc509de2c3b4a1adeee7c5d2b5da2af95c3c2027d", func := "plumb/plumblaw05.RatDoes", spec := "ratDoes", unfollowed := true, recurses := true, apart := false, narrowed := true }
def RatDoesUptoSaid : Prop := ratDoesUptoRow.holds Try.pinned (OpenSpec.upto ratDoesSpec)

/-- 'plumblaw05.RatHuge', WHERE WHAT IT READS IS OF BULK AT MOST 1048576: true; the input reads as it did. -/
def ratHugeUptoRow : OpenClaim := { program := "ytmdmgbllpgkpeaa", sum := "94531537182d7276860f489cc509de2c3b4a1adeee7c5d2b5da2af95c3c2027d", func := "plumb/plumblaw05.RatHuge", spec := "ratHuge", unfollowed := true, recurses := true, apart := false, narrowed := true }
def RatHugeUptoSaid : Prop := ratHugeUptoRow.holds Try.pinned (OpenSpec.upto ratHugeSpec)

/-- 'plumblaw05.RatFresh', WHERE WHAT IT READS IS OF BULK AT MOST 1048576: true; the input reads as it did. -/
def ratFreshUptoRow : OpenClaim := { program := "ytmdmgbllpgkpeaa", sum := "94531537182d7276860f489cc509de2c3b4a1adeee7c5d2b5da2af95c3c2027d", func := "plumb/plumblaw05.RatFresh", spec := "ratFresh", unfollowed := true, recurses := true, apart := false, narrowed := true }
def RatFreshUptoSaid : Prop := ratFreshUptoRow.holds Try.pinned (OpenSpec.upto ratFreshSpec)

end Rows
end Go.Proofs.Ytmdmgbllpgkpeaa
