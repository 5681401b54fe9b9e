/-
  No cell of these rows narrows 'for every input' (looked for: loops, veiled, ifaces, maps, wideKeys, modest, calm, conditions, laid).
  DERIVED. THE GIVEN ROWS OF THIS SEAT. 6 by the template 'for every input the law returns true; each argument reads behind the call as it read before'; 0 by the template 'total and deterministic' (their statements: YtpnffhacmamilaaTotals.lean).
  GIVEN WITH THE SEED: the statements are not yours to turn. If you find one false, say at which input.
  Laid BY PROGRAM, IN A SANDBOX (cutbox-rows.mjs): the forced cells as the released guide's own fill.sh prints them over the translation e7dc75351e90a07d… (all of the seat's roots in one cut). By AI agents, Wed Nov 11 2026. No macro, syntax, notation, axiom, sorry.
-/
import Derived.Test.YtpnffhacmamilaaChecked
import GoSem.Claim
import GoSem.ClaimJoined
import GoSem.ClaimMapViews
import Derived.JoinedTies
import Derived.KernelRfl
namespace Go.Proofs.Ytpnffhacmamilaa
/- THE CELL 'sum', in the pinned program and in every row, IS THE sha256 OF THE DUMP (.gsa) THAT YtpnffhacmamilaaProg.lean LOADS. Nothing in Lean hashes anything: it is a label: what it is worth is what the hold of that sum in a sandbox is worth. -/
noncomputable def Try.pinned : Pinned := { name := "ytpnffhacmamilaa", sum := "e7dc75351e90a07d5004cf7179e74a819adc392fd98363be4029e9852a5a5f06", checked := Try.checked }
namespace Rows
def none {H : Type} : Left H := { results := [], args := [] }

/-- 'plumblaw04.RadixBack': WHATEVER THE INPUT: true; the input reads as it did. -/
def radixBackSpec : ChangeSpec := { name := "radixBack", fn := fun _ => fun
  | [d1, d2, d3] => { results := [.lit (.bool true)], args := [d1, d2, d3] }
  | _ => none }
def radixBackRow : OpenClaim := { program := "ytpnffhacmamilaa", sum := "e7dc75351e90a07d5004cf7179e74a819adc392fd98363be4029e9852a5a5f06", func := "plumb/plumblaw04.RadixBack", spec := "radixBack", apart := false }
def RadixBackSaid : Prop := radixBackRow.holds Try.pinned (OpenSpec.ofChange radixBackSpec)

/-- ITS FALSE NEIGHBOUR: 'it returns false'. Refute it at one input. -/
def radixBackWrong : ChangeSpec := { name := "radixBack", fn := fun _ => fun
  | [d1, d2, d3] => { results := [.lit (.bool false)], args := [d1, d2, d3] }
  | _ => none }
def RadixBackWrongFalsely : Prop := radixBackRow.holds Try.pinned (OpenSpec.ofChange radixBackWrong)

/-- 'plumblaw04.RadixJoins': WHATEVER THE INPUT: true; the input reads as it did. -/
def radixJoinsSpec : ChangeSpec := { name := "radixJoins", fn := fun _ => fun
  | [d1, d2, d3] => { results := [.lit (.bool true)], args := [d1, d2, d3] }
  | _ => none }
def radixJoinsRow : OpenClaim := { program := "ytpnffhacmamilaa", sum := "e7dc75351e90a07d5004cf7179e74a819adc392fd98363be4029e9852a5a5f06", func := "plumb/plumblaw04.RadixJoins", spec := "radixJoins", apart := false }
def RadixJoinsSaid : Prop := radixJoinsRow.holds Try.pinned (OpenSpec.ofChange radixJoinsSpec)

/-- ITS FALSE NEIGHBOUR: 'it returns false'. Refute it at one input. -/
def radixJoinsWrong : ChangeSpec := { name := "radixJoins", fn := fun _ => fun
  | [d1, d2, d3] => { results := [.lit (.bool false)], args := [d1, d2, d3] }
  | _ => none }
def RadixJoinsWrongFalsely : Prop := radixJoinsRow.holds Try.pinned (OpenSpec.ofChange radixJoinsWrong)

/-- 'plumblaw04.RadixPowers': WHATEVER THE INPUT: true; the input reads as it did. -/
def radixPowersSpec : ChangeSpec := { name := "radixPowers", fn := fun _ => fun
  | [d] => { results := [.lit (.bool true)], args := [d] }
  | _ => none }
def radixPowersRow : OpenClaim := { program := "ytpnffhacmamilaa", sum := "e7dc75351e90a07d5004cf7179e74a819adc392fd98363be4029e9852a5a5f06", func := "plumb/plumblaw04.RadixPowers", spec := "radixPowers", apart := false }
def RadixPowersSaid : Prop := radixPowersRow.holds Try.pinned (OpenSpec.ofChange radixPowersSpec)

/-- ITS FALSE NEIGHBOUR: 'it returns false'. Refute it at one input. -/
def radixPowersWrong : ChangeSpec := { name := "radixPowers", fn := fun _ => fun
  | [d] => { results := [.lit (.bool false)], args := [d] }
  | _ => none }
def RadixPowersWrongFalsely : Prop := radixPowersRow.holds Try.pinned (OpenSpec.ofChange radixPowersWrong)

/-- 'plumblaw04.RadixFresh': WHATEVER THE INPUT: true; the input reads as it did. -/
def radixFreshSpec : ChangeSpec := { name := "radixFresh", fn := fun _ => fun
  | [d1, d2] => { results := [.lit (.bool true)], args := [d1, d2] }
  | _ => none }
def radixFreshRow : OpenClaim := { program := "ytpnffhacmamilaa", sum := "e7dc75351e90a07d5004cf7179e74a819adc392fd98363be4029e9852a5a5f06", func := "plumb/plumblaw04.RadixFresh", spec := "radixFresh", apart := false }
def RadixFreshSaid : Prop := radixFreshRow.holds Try.pinned (OpenSpec.ofChange radixFreshSpec)

/-- ITS FALSE NEIGHBOUR: 'it returns false'. Refute it at one input. -/
def radixFreshWrong : ChangeSpec := { name := "radixFresh", fn := fun _ => fun
  | [d1, d2] => { results := [.lit (.bool false)], args := [d1, d2] }
  | _ => none }
def RadixFreshWrongFalsely : Prop := radixFreshRow.holds Try.pinned (OpenSpec.ofChange radixFreshWrong)

/-- 'plumblaw04.RadixTexts': WHATEVER THE INPUT: true; the input reads as it did. -/
def radixTextsSpec : ChangeSpec := { name := "radixTexts", fn := fun _ => fun
  | [d1, d2] => { results := [.lit (.bool true)], args := [d1, d2] }
  | _ => none }
def radixTextsRow : OpenClaim := { program := "ytpnffhacmamilaa", sum := "e7dc75351e90a07d5004cf7179e74a819adc392fd98363be4029e9852a5a5f06", func := "plumb/plumblaw04.RadixTexts", spec := "radixTexts", apart := false }
def RadixTextsSaid : Prop := radixTextsRow.holds Try.pinned (OpenSpec.ofChange radixTextsSpec)

/-- ITS FALSE NEIGHBOUR: 'it returns false'. Refute it at one input. -/
def radixTextsWrong : ChangeSpec := { name := "radixTexts", fn := fun _ => fun
  | [d1, d2] => { results := [.lit (.bool false)], args := [d1, d2] }
  | _ => none }
def RadixTextsWrongFalsely : Prop := radixTextsRow.holds Try.pinned (OpenSpec.ofChange radixTextsWrong)

/-- 'plumblaw04.RadixSums': WHATEVER THE INPUT: true; the input reads as it did. -/
def radixSumsSpec : ChangeSpec := { name := "radixSums", fn := fun _ => fun
  | [d1, d2, d3] => { results := [.lit (.bool true)], args := [d1, d2, d3] }
  | _ => none }
def radixSumsRow : OpenClaim := { program := "ytpnffhacmamilaa", sum := "e7dc75351e90a07d5004cf7179e74a819adc392fd98363be4029e9852a5a5f06", func := "plumb/plumblaw04.RadixSums", spec := "radixSums", apart := false }
def RadixSumsSaid : Prop := radixSumsRow.holds Try.pinned (OpenSpec.ofChange radixSumsSpec)

/-- ITS FALSE NEIGHBOUR: 'it returns false'. Refute it at one input. -/
def radixSumsWrong : ChangeSpec := { name := "radixSums", fn := fun _ => fun
  | [d1, d2, d3] => { results := [.lit (.bool false)], args := [d1, d2, d3] }
  | _ => none }
def RadixSumsWrongFalsely : Prop := radixSumsRow.holds Try.pinned (OpenSpec.ofChange radixSumsWrong)

/- THE SECOND FORM. 'bulk': how many values and letters a reading holds, each counted each time it is reached (what is shared counts as often as it is met; a slice's spare places count too). A statement '..UptoSaid' is the law's where the arguments, and the package variables that the reading takes, are together of bulk at most 1048576: NARROWER than '..Said'. Prove '..Said' where nothing that the law and all that it calls make is longer than what came in: it says more and counts as full. Else prove '..UptoSaid'. A law counts once. -/
mutual
def uptoBulk {H : Type} : DataW H → Nat
  | .lit (.string bytes) => bytes.length + 1
  | .lit _ => 1
  | .nil => 1
  | .ptr d => uptoBulk d + 1
  | .slice elems spare => uptoBulkAll elems + uptoBulkAll spare + 1
  | .agg parts => uptoBulkAll parts + 1
  | .iface _ d => uptoBulk d + 1
  | .map entries => uptoBulkEntries entries + 1
  | .held _ => 1
def uptoBulkAll {H : Type} : List (DataW H) → Nat
  | [] => 0
  | d :: r => uptoBulk d + uptoBulkAll r
def uptoBulkEntries {H : Type} : List (Lit × DataW H) → Nat
  | [] => 0
  | x :: r => uptoBulkEntry x + uptoBulkEntries r
def uptoBulkEntry {H : Type} : Lit × DataW H → Nat
  | (.string bytes, d) => bytes.length + uptoBulk d + 1
  | (_, d) => uptoBulk d + 1
 end
def uptoSmall : (H : Type) → List (DataW H) → Bool := fun _ ds => decide (uptoBulkAll ds ≤ 1048576)
def OpenSpec.upto (s : _root_.Go.ChangeSpec) : _root_.Go.OpenSpec := { _root_.Go.OpenSpec.ofChange s with cond := some uptoSmall }

/-- 'plumblaw04.RadixBack', WHERE WHAT IT READS IS OF BULK AT MOST 1048576: true; the input reads as it did. -/
def radixBackUptoRow : OpenClaim := { program := "ytpnffhacmamilaa", sum := "e7dc75351e90a07d5004cf7179e74a819adc392fd98363be4029e9852a5a5f06", func := "plumb/plumblaw04.RadixBack", spec := "radixBack", apart := false, narrowed := true }
def RadixBackUptoSaid : Prop := radixBackUptoRow.holds Try.pinned (OpenSpec.upto radixBackSpec)

/-- 'plumblaw04.RadixJoins', WHERE WHAT IT READS IS OF BULK AT MOST 1048576: true; the input reads as it did. -/
def radixJoinsUptoRow : OpenClaim := { program := "ytpnffhacmamilaa", sum := "e7dc75351e90a07d5004cf7179e74a819adc392fd98363be4029e9852a5a5f06", func := "plumb/plumblaw04.RadixJoins", spec := "radixJoins", apart := false, narrowed := true }
def RadixJoinsUptoSaid : Prop := radixJoinsUptoRow.holds Try.pinned (OpenSpec.upto radixJoinsSpec)

/-- 'plumblaw04.RadixPowers', WHERE WHAT IT READS IS OF BULK AT MOST 1048576: true; the input reads as it did. -/
def radixPowersUptoRow : OpenClaim := { program := "ytpnffhacmamilaa", sum := "e7dc75351e90a07d5004cf7179e74a819adc392fd98363be4029e9852a5a5f06", func := "plumb/plumblaw04.RadixPowers", spec := "radixPowers", apart := false, narrowed := true }
def RadixPowersUptoSaid : Prop := radixPowersUptoRow.holds Try.pinned (OpenSpec.upto radixPowersSpec)

/-- 'plumblaw04.RadixFresh', WHERE WHAT IT READS IS OF BULK AT MOST 1048576: true; the input reads as it did. -/
def radixFreshUptoRow : OpenClaim := { program := "ytpnffhacmamilaa", sum := "e7dc75351e90a07d5004cf7179e74a819adc392fd98363be4029e9852a5a5f06", func := "plumb/plumblaw04.RadixFresh", spec := "radixFresh", apart := false, narrowed := true }
def RadixFreshUptoSaid : Prop := radixFreshUptoRow.holds Try.pinned (OpenSpec.upto radixFreshSpec)

/-- 'plumblaw04.RadixTexts', WHERE WHAT IT READS IS OF BULK AT MOST 1048576: true; the input reads as it did. -/
def radixTextsUptoRow : OpenClaim := { program := "ytpnffhacmamilaa", sum := "e7dc75351e90a07d5004cf7179e74a819adc392fd98363be4029e9852a5a5f06", func := "plumb/plumblaw04.RadixTexts", spec := "radixTexts", apart := false, narrowed := true }
def RadixTextsUptoSaid : Prop := radixTextsUptoRow.holds Try.pinned (OpenSpec.upto radixTextsSpec)

/-- 'plumblaw04.RadixSums', WHERE WHAT IT READS IS OF BULK AT MOST 1048576: true; the input reads as it did. -/
def radixSumsUptoRow : OpenClaim := { program := "ytpnffhacmamilaa", sum := "e7dc75351e90a07d5004cf7179e74a819adc392fd98363be4029e9852a5a5f06", func := "plumb/plumblaw04.RadixSums", spec := "radixSums", apart := false, narrowed := true }
def RadixSumsUptoSaid : Prop := radixSumsUptoRow.holds Try.pinned (OpenSpec.upto radixSumsSpec)

end Rows
end Go.Proofs.Ytpnffhacmamilaa
