/-
  DERIVED. GIVEN WITH THE SEED: THE CARDS: each row of YtjknfppbebfhnaaDoorRows.lean that lists a variable, with what it lists TIED to the program's text (the seventh form; the later family's looks); each row that meets fmt, with fmt's text TOLD by the authors' own Lean function (tested against real Go, not proved from fmt's source: count such statements apart). THE CARD IS WHAT COUNTS. Prove the row's statement (the work); the ties are given (YtjknfppbebfhnaaDoorTie.lean); close each card by the builder's one call (the guide's Derived/Test/ToyasCard.lean, 'card_holds'). Laid BY PROGRAM, IN A SANDBOX (cutbox-door.mjs). By AI agents, Wed Nov 11 2026. No macro, syntax, notation, axiom, sorry.
-/
import Derived.Test.YtjknfppbebfhnaaDoorRows
import GoSem.ClaimSeven
namespace Go.Proofs.YtjknfppbebfhnaaDoor
namespace Rows

/-- THE TIED CARD OF 'plumblaw04.RadixParses'. -/
def radixParsesCard : Claim7 := { stood := { row := radixParsesRow, standIns := [], harness := (true, "217655f5dc0b46a245c0dee468e3fe5ec47a218fbd49946e2b5415c7ca96d16b"), looks := true }, kinds := [], alts := [], laidByText := true, laidKinds := [.handle], laidTests := true, laidLooks := .later }
def RadixParsesCardSaid : Prop := Claim7.holds Tryd.pinned (.plain (OpenSpec.ofChange radixParsesSpec)) radixParsesCard

/-- THE SECOND FORM's CARD OF 'plumblaw04.RadixParses'. -/
def radixParsesUptoCard : Claim7 := { stood := { row := radixParsesUptoRow, standIns := [], harness := (true, "217655f5dc0b46a245c0dee468e3fe5ec47a218fbd49946e2b5415c7ca96d16b"), looks := true }, kinds := [], alts := [], laidByText := true, laidKinds := [.handle], laidTests := true, laidLooks := .later }
def RadixParsesUptoCardSaid : Prop := Claim7.holds Tryd.pinned (.plain (OpenSpec.upto radixParsesSpec)) radixParsesUptoCard
end Rows
end Go.Proofs.YtjknfppbebfhnaaDoor
