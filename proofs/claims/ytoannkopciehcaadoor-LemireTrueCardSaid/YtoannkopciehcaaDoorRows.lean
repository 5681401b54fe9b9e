/-
  NARROWER THAN 'FOR EVERY INPUT', by the rows' own cells (each row's printed sentence says how): LemireFasts: laid · LemireCuts: laid · LemireTens: laid · LemireRises: laid · LemireUnsure: laid · LemireTrue: laid · LemireBounds: laid.
  DERIVED. THE GIVEN ROWS OF THIS SEAT. 7 by the template 'for every input the law returns true; each argument reads behind the call as it read before'; 0 by the template 'total and deterministic' (their statements: YtoannkopciehcaaDoorTotals.lean).
  GIVEN WITH THE SEED: the statements are not yours to turn. If you find one false, say at which input.
  Laid BY PROGRAM, IN A SANDBOX (cutbox-rows.mjs): the forced cells as the released guide's own fill.sh prints them over the translation 3ae1145ff1c4d23e… (all of the seat's roots in one cut). By AI agents, Wed Nov 11 2026. No macro, syntax, notation, axiom, sorry.
-/
import Derived.Test.YtoannkopciehcaaDoorChecked
import GoSem.Claim
import GoSem.ClaimJoined
import GoSem.ClaimMapViews
import Derived.JoinedTies
import Derived.KernelRfl
namespace Go.Proofs.YtoannkopciehcaaDoor
/- THE CELL 'sum', in the pinned program and in every row, IS THE sha256 OF THE DUMP (.gsa) THAT YtoannkopciehcaaDoorProg.lean LOADS. Nothing in Lean hashes anything: it is a label: what it is worth is what the hold of that sum in a sandbox is worth. -/
noncomputable def Tryd.pinned : Pinned := { name := "ytoannkopciehcaadoor", sum := "3ae1145ff1c4d23e32fdb869a50632de4ae644f781c9da571e5b59a44f8b029e", checked := Tryd.checked }
namespace Rows
def none {H : Type} : Left H := { results := [], args := [] }

/- WHAT THE LISTED PACKAGE-LEVEL VARIABLES READ AS WHEN THE CALL BEGINS. Each datum BY PROGRAM (the guide's laid-datum.mjs) off the statement by which the dump's own 'gosem.cut.vars' lays the variable. In a bare row this is a premise. The card (YtoannkopciehcaaDoorCards.lean) ties it to the program's text. -/
def laid_plumb_lemire_tens {H : Type} : DataW H := .agg [.lit (.int .u64 1), .lit (.int .u64 5), .lit (.int .u64 25), .lit (.int .u64 125), .lit (.int .u64 625), .lit (.int .u64 3125), .lit (.int .u64 15625), .lit (.int .u64 78125), .lit (.int .u64 390625), .lit (.int .u64 1953125), .lit (.int .u64 9765625), .lit (.int .u64 48828125), .lit (.int .u64 244140625), .lit (.int .u64 1220703125), .lit (.int .u64 6103515625), .lit (.int .u64 30517578125), .lit (.int .u64 152587890625), .lit (.int .u64 762939453125), .lit (.int .u64 3814697265625), .lit (.int .u64 19073486328125), .lit (.int .u64 95367431640625), .lit (.int .u64 476837158203125), .lit (.int .u64 2384185791015625)]
def laid_plumb_near_stays {H : Type} : DataW H := .agg [.agg [.lit (.bool false), .lit (.bool false)], .agg [.lit (.bool true), .lit (.bool true)], .agg [.lit (.bool false), .lit (.bool false)], .agg [.lit (.bool false), .lit (.bool true)], .agg [.lit (.bool true), .lit (.bool false)]]
def laid_errors_errorType {H : Type} : DataW H := .iface "internal/reflectlite.rtype" (.agg [.ptr (.lit (.string [101, 114, 114, 111, 114]))])

/-- 'plumblaw10.LemireFasts': WHATEVER THE INPUT: true; the input reads as it did. -/
def lemireFastsSpec : ChangeSpec := { name := "lemireFasts", fn := fun _ => fun
  | [d1, d2] => { results := [.lit (.bool true)], args := [d1, d2] }
  | _ => none }
def lemireFastsRow : OpenClaim := { program := "ytoannkopciehcaadoor", sum := "3ae1145ff1c4d23e32fdb869a50632de4ae644f781c9da571e5b59a44f8b029e", func := "plumb/plumblaw10.LemireFasts", spec := "lemireFasts", unfollowed := true, recurses := true, named := ["plumb/lemire.tens"], apart := false, laid := [("plumb/lemire.tens", laid_plumb_lemire_tens)] }
def LemireFastsSaid : Prop := lemireFastsRow.holds Tryd.pinned (OpenSpec.ofChange lemireFastsSpec)

/-- ITS FALSE NEIGHBOUR: 'it returns false'. Refute it at one input. -/
def lemireFastsWrong : ChangeSpec := { name := "lemireFasts", fn := fun _ => fun
  | [d1, d2] => { results := [.lit (.bool false)], args := [d1, d2] }
  | _ => none }
def LemireFastsWrongFalsely : Prop := lemireFastsRow.holds Tryd.pinned (OpenSpec.ofChange lemireFastsWrong)

/-- 'plumblaw10.LemireCuts': WHATEVER THE INPUT: true; the input reads as it did. -/
def lemireCutsSpec : ChangeSpec := { name := "lemireCuts", fn := fun _ => fun
  | [d] => { results := [.lit (.bool true)], args := [d] }
  | _ => none }
def lemireCutsRow : OpenClaim := { program := "ytoannkopciehcaadoor", sum := "3ae1145ff1c4d23e32fdb869a50632de4ae644f781c9da571e5b59a44f8b029e", func := "plumb/plumblaw10.LemireCuts", spec := "lemireCuts", unfollowed := true, recurses := true, named := ["plumb/lemire.tens"], apart := false, laid := [("plumb/lemire.tens", laid_plumb_lemire_tens)] }
def LemireCutsSaid : Prop := lemireCutsRow.holds Tryd.pinned (OpenSpec.ofChange lemireCutsSpec)

/-- ITS FALSE NEIGHBOUR: 'it returns false'. Refute it at one input. -/
def lemireCutsWrong : ChangeSpec := { name := "lemireCuts", fn := fun _ => fun
  | [d] => { results := [.lit (.bool false)], args := [d] }
  | _ => none }
def LemireCutsWrongFalsely : Prop := lemireCutsRow.holds Tryd.pinned (OpenSpec.ofChange lemireCutsWrong)

/-- 'plumblaw10.LemireTens': WHATEVER THE INPUT: true; the input reads as it did. -/
def lemireTensSpec : ChangeSpec := { name := "lemireTens", fn := fun _ => fun
  | [d1, d2] => { results := [.lit (.bool true)], args := [d1, d2] }
  | _ => none }
def lemireTensRow : OpenClaim := { program := "ytoannkopciehcaadoor", sum := "3ae1145ff1c4d23e32fdb869a50632de4ae644f781c9da571e5b59a44f8b029e", func := "plumb/plumblaw10.LemireTens", spec := "lemireTens", unfollowed := true, recurses := true, named := ["plumb/lemire.tens"], apart := false, laid := [("plumb/lemire.tens", laid_plumb_lemire_tens)] }
def LemireTensSaid : Prop := lemireTensRow.holds Tryd.pinned (OpenSpec.ofChange lemireTensSpec)

/-- ITS FALSE NEIGHBOUR: 'it returns false'. Refute it at one input. -/
def lemireTensWrong : ChangeSpec := { name := "lemireTens", fn := fun _ => fun
  | [d1, d2] => { results := [.lit (.bool false)], args := [d1, d2] }
  | _ => none }
def LemireTensWrongFalsely : Prop := lemireTensRow.holds Tryd.pinned (OpenSpec.ofChange lemireTensWrong)

/-- 'plumblaw10.LemireRises': WHATEVER THE INPUT: true; the input reads as it did. -/
def lemireRisesSpec : ChangeSpec := { name := "lemireRises", fn := fun _ => fun
  | [d1, d2, d3, d4] => { results := [.lit (.bool true)], args := [d1, d2, d3, d4] }
  | _ => none }
def lemireRisesRow : OpenClaim := { program := "ytoannkopciehcaadoor", sum := "3ae1145ff1c4d23e32fdb869a50632de4ae644f781c9da571e5b59a44f8b029e", func := "plumb/plumblaw10.LemireRises", spec := "lemireRises", unfollowed := true, recurses := true, named := ["plumb/lemire.tens"], apart := false, laid := [("plumb/lemire.tens", laid_plumb_lemire_tens)] }
def LemireRisesSaid : Prop := lemireRisesRow.holds Tryd.pinned (OpenSpec.ofChange lemireRisesSpec)

/-- ITS FALSE NEIGHBOUR: 'it returns false'. Refute it at one input. -/
def lemireRisesWrong : ChangeSpec := { name := "lemireRises", fn := fun _ => fun
  | [d1, d2, d3, d4] => { results := [.lit (.bool false)], args := [d1, d2, d3, d4] }
  | _ => none }
def LemireRisesWrongFalsely : Prop := lemireRisesRow.holds Tryd.pinned (OpenSpec.ofChange lemireRisesWrong)

/-- 'plumblaw10.LemireUnsure': WHATEVER THE INPUT: true; the input reads as it did. -/
def lemireUnsureSpec : ChangeSpec := { name := "lemireUnsure", fn := fun _ => fun
  | [d1, d2] => { results := [.lit (.bool true)], args := [d1, d2] }
  | _ => none }
def lemireUnsureRow : OpenClaim := { program := "ytoannkopciehcaadoor", sum := "3ae1145ff1c4d23e32fdb869a50632de4ae644f781c9da571e5b59a44f8b029e", func := "plumb/plumblaw10.LemireUnsure", spec := "lemireUnsure", unfollowed := true, recurses := true, named := ["plumb/lemire.tens", "plumb/near.stays"], apart := false, laid := [("plumb/lemire.tens", laid_plumb_lemire_tens), ("plumb/near.stays", laid_plumb_near_stays)] }
def LemireUnsureSaid : Prop := lemireUnsureRow.holds Tryd.pinned (OpenSpec.ofChange lemireUnsureSpec)

/-- ITS FALSE NEIGHBOUR: 'it returns false'. Refute it at one input. -/
def lemireUnsureWrong : ChangeSpec := { name := "lemireUnsure", fn := fun _ => fun
  | [d1, d2] => { results := [.lit (.bool false)], args := [d1, d2] }
  | _ => none }
def LemireUnsureWrongFalsely : Prop := lemireUnsureRow.holds Tryd.pinned (OpenSpec.ofChange lemireUnsureWrong)

/-- 'plumblaw10.LemireTrue': WHATEVER THE INPUT: true; the input reads as it did. -/
def lemireTrueSpec : ChangeSpec := { name := "lemireTrue", fn := fun _ => fun
  | [d1, d2] => { results := [.lit (.bool true)], args := [d1, d2] }
  | _ => none }
def lemireTrueRow : OpenClaim := { program := "ytoannkopciehcaadoor", sum := "3ae1145ff1c4d23e32fdb869a50632de4ae644f781c9da571e5b59a44f8b029e", func := "plumb/plumblaw10.LemireTrue", spec := "lemireTrue", unfollowed := true, recurses := true, named := ["plumb/lemire.tens", "plumb/near.stays"], apart := false, laid := [("plumb/lemire.tens", laid_plumb_lemire_tens), ("plumb/near.stays", laid_plumb_near_stays)] }
def LemireTrueSaid : Prop := lemireTrueRow.holds Tryd.pinned (OpenSpec.ofChange lemireTrueSpec)

/-- ITS FALSE NEIGHBOUR: 'it returns false'. Refute it at one input. -/
def lemireTrueWrong : ChangeSpec := { name := "lemireTrue", fn := fun _ => fun
  | [d1, d2] => { results := [.lit (.bool false)], args := [d1, d2] }
  | _ => none }
def LemireTrueWrongFalsely : Prop := lemireTrueRow.holds Tryd.pinned (OpenSpec.ofChange lemireTrueWrong)

/-- 'plumblaw10.LemireBounds': WHATEVER THE INPUT: true; the input reads as it did. -/
def lemireBoundsSpec : ChangeSpec := { name := "lemireBounds", fn := fun _ => fun
  | [d] => { results := [.lit (.bool true)], args := [d] }
  | _ => none }
def lemireBoundsRow : OpenClaim := { program := "ytoannkopciehcaadoor", sum := "3ae1145ff1c4d23e32fdb869a50632de4ae644f781c9da571e5b59a44f8b029e", func := "plumb/plumblaw10.LemireBounds", spec := "lemireBounds", inPlace := ["internal/reflectlite.ValueOf", "(internal/reflectlite.Value).Type", "(internal/reflectlite.Value).IsNil", "internal/reflectlite.TypeOf", "(internal/reflectlite.Value).Elem", "(internal/reflectlite.Value).Set"], unfollowed := true, recurses := true, named := ["plumb/lemire.tens", "errors.errorType"], apart := false, laid := [("errors.errorType", laid_errors_errorType), ("plumb/lemire.tens", laid_plumb_lemire_tens)] }
def LemireBoundsSaid : Prop := lemireBoundsRow.holds Tryd.pinned (OpenSpec.ofChange lemireBoundsSpec)

/-- ITS FALSE NEIGHBOUR: 'it returns false'. Refute it at one input. -/
def lemireBoundsWrong : ChangeSpec := { name := "lemireBounds", fn := fun _ => fun
  | [d] => { results := [.lit (.bool false)], args := [d] }
  | _ => none }
def LemireBoundsWrongFalsely : Prop := lemireBoundsRow.holds Tryd.pinned (OpenSpec.ofChange lemireBoundsWrong)

/- THE SECOND FORM. 'bulk': how many values and letters a reading holds, each counted each time it is reached (what is shared counts as often as it is met; a slice's spare places count too). A statement '..UptoSaid' is the law's where the arguments, and the package variables that the reading takes, are together of bulk at most 1048576: NARROWER than '..Said'. Prove '..Said' where nothing that the law and all that it calls make is longer than what came in: it says more and counts as full. Else prove '..UptoSaid'. A law counts once. -/
mutual
def uptoBulk {H : Type} : DataW H → Nat
  | .lit (.string bytes) => bytes.length + 1
  | .lit _ => 1
  | .nil => 1
  | .ptr d => uptoBulk d + 1
  | .slice elems spare => uptoBulkAll elems + uptoBulkAll spare + 1
  | .agg parts => uptoBulkAll parts + 1
  | .iface _ d => uptoBulk d + 1
  | .map entries => uptoBulkEntries entries + 1
  | .held _ => 1
def uptoBulkAll {H : Type} : List (DataW H) → Nat
  | [] => 0
  | d :: r => uptoBulk d + uptoBulkAll r
def uptoBulkEntries {H : Type} : List (Lit × DataW H) → Nat
  | [] => 0
  | x :: r => uptoBulkEntry x + uptoBulkEntries r
def uptoBulkEntry {H : Type} : Lit × DataW H → Nat
  | (.string bytes, d) => bytes.length + uptoBulk d + 1
  | (_, d) => uptoBulk d + 1
 end
def uptoSmall : (H : Type) → List (DataW H) → Bool := fun _ ds => decide (uptoBulkAll ds ≤ 1048576)
def OpenSpec.upto (s : _root_.Go.ChangeSpec) : _root_.Go.OpenSpec := { _root_.Go.OpenSpec.ofChange s with cond := some uptoSmall }

/-- 'plumblaw10.LemireFasts', WHERE WHAT IT READS IS OF BULK AT MOST 1048576: true; the input reads as it did. -/
def lemireFastsUptoRow : OpenClaim := { program := "ytoannkopciehcaadoor", sum := "3ae1145ff1c4d23e32fdb869a50632de4ae644f781c9da571e5b59a44f8b029e", func := "plumb/plumblaw10.LemireFasts", spec := "lemireFasts", unfollowed := true, recurses := true, named := ["plumb/lemire.tens"], apart := false, laid := [("plumb/lemire.tens", laid_plumb_lemire_tens)], narrowed := true }
def LemireFastsUptoSaid : Prop := lemireFastsUptoRow.holds Tryd.pinned (OpenSpec.upto lemireFastsSpec)

/-- 'plumblaw10.LemireCuts', WHERE WHAT IT READS IS OF BULK AT MOST 1048576: true; the input reads as it did. -/
def lemireCutsUptoRow : OpenClaim := { program := "ytoannkopciehcaadoor", sum := "3ae1145ff1c4d23e32fdb869a50632de4ae644f781c9da571e5b59a44f8b029e", func := "plumb/plumblaw10.LemireCuts", spec := "lemireCuts", unfollowed := true, recurses := true, named := ["plumb/lemire.tens"], apart := false, laid := [("plumb/lemire.tens", laid_plumb_lemire_tens)], narrowed := true }
def LemireCutsUptoSaid : Prop := lemireCutsUptoRow.holds Tryd.pinned (OpenSpec.upto lemireCutsSpec)

/-- 'plumblaw10.LemireTens', WHERE WHAT IT READS IS OF BULK AT MOST 1048576: true; the input reads as it did. -/
def lemireTensUptoRow : OpenClaim := { program := "ytoannkopciehcaadoor", sum := "3ae1145ff1c4d23e32fdb869a50632de4ae644f781c9da571e5b59a44f8b029e", func := "plumb/plumblaw10.LemireTens", spec := "lemireTens", unfollowed := true, recurses := true, named := ["plumb/lemire.tens"], apart := false, laid := [("plumb/lemire.tens", laid_plumb_lemire_tens)], narrowed := true }
def LemireTensUptoSaid : Prop := lemireTensUptoRow.holds Tryd.pinned (OpenSpec.upto lemireTensSpec)

/-- 'plumblaw10.LemireRises', WHERE WHAT IT READS IS OF BULK AT MOST 1048576: true; the input reads as it did. -/
def lemireRisesUptoRow : OpenClaim := { program := "ytoannkopciehcaadoor", sum := "3ae1145ff1c4d23e32fdb869a50632de4ae644f781c9da571e5b59a44f8b029e", func := "plumb/plumblaw10.LemireRises", spec := "lemireRises", unfollowed := true, recurses := true, named := ["plumb/lemire.tens"], apart := false, laid := [("plumb/lemire.tens", laid_plumb_lemire_tens)], narrowed := true }
def LemireRisesUptoSaid : Prop := lemireRisesUptoRow.holds Tryd.pinned (OpenSpec.upto lemireRisesSpec)

/-- 'plumblaw10.LemireUnsure', WHERE WHAT IT READS IS OF BULK AT MOST 1048576: true; the input reads as it did. -/
def lemireUnsureUptoRow : OpenClaim := { program := "ytoannkopciehcaadoor", sum := "3ae1145ff1c4d23e32fdb869a50632de4ae644f781c9da571e5b59a44f8b029e", func := "plumb/plumblaw10.LemireUnsure", spec := "lemireUnsure", unfollowed := true, recurses := true, named := ["plumb/lemire.tens", "plumb/near.stays"], apart := false, laid := [("plumb/lemire.tens", laid_plumb_lemire_tens), ("plumb/near.stays", laid_plumb_near_stays)], narrowed := true }
def LemireUnsureUptoSaid : Prop := lemireUnsureUptoRow.holds Tryd.pinned (OpenSpec.upto lemireUnsureSpec)

/-- 'plumblaw10.LemireTrue', WHERE WHAT IT READS IS OF BULK AT MOST 1048576: true; the input reads as it did. -/
def lemireTrueUptoRow : OpenClaim := { program := "ytoannkopciehcaadoor", sum := "3ae1145ff1c4d23e32fdb869a50632de4ae644f781c9da571e5b59a44f8b029e", func := "plumb/plumblaw10.LemireTrue", spec := "lemireTrue", unfollowed := true, recurses := true, named := ["plumb/lemire.tens", "plumb/near.stays"], apart := false, laid := [("plumb/lemire.tens", laid_plumb_lemire_tens), ("plumb/near.stays", laid_plumb_near_stays)], narrowed := true }
def LemireTrueUptoSaid : Prop := lemireTrueUptoRow.holds Tryd.pinned (OpenSpec.upto lemireTrueSpec)

/-- 'plumblaw10.LemireBounds', WHERE WHAT IT READS IS OF BULK AT MOST 1048576: true; the input reads as it did. -/
def lemireBoundsUptoRow : OpenClaim := { program := "ytoannkopciehcaadoor", sum := "3ae1145ff1c4d23e32fdb869a50632de4ae644f781c9da571e5b59a44f8b029e", func := "plumb/plumblaw10.LemireBounds", spec := "lemireBounds", inPlace := ["internal/reflectlite.ValueOf", "(internal/reflectlite.Value).Type", "(internal/reflectlite.Value).IsNil", "internal/reflectlite.TypeOf", "(internal/reflectlite.Value).Elem", "(internal/reflectlite.Value).Set"], unfollowed := true, recurses := true, named := ["plumb/lemire.tens", "errors.errorType"], apart := false, laid := [("errors.errorType", laid_errors_errorType), ("plumb/lemire.tens", laid_plumb_lemire_tens)], narrowed := true }
def LemireBoundsUptoSaid : Prop := lemireBoundsUptoRow.holds Tryd.pinned (OpenSpec.upto lemireBoundsSpec)

end Rows
end Go.Proofs.YtoannkopciehcaaDoor
