/-
  DERIVED. GIVEN WITH THE SEED: THE CARDS: each row of YthjleohmlohgbaaDoorRows.lean that lists a variable, with what it lists TIED to the program's text (the seventh form; the later family's looks); each row that meets fmt, with fmt's text TOLD by the authors' own Lean function (tested against real Go, not proved from fmt's source: count such statements apart). THE CARD IS WHAT COUNTS. Prove the row's statement (the work); the ties are given (YthjleohmlohgbaaDoorTie.lean); close each card by the builder's one call (the guide's Derived/Test/ToyasCard.lean, 'card_holds'). Laid BY PROGRAM, IN A SANDBOX (cutbox-door.mjs). By AI agents, Wed Nov 11 2026. No macro, syntax, notation, axiom, sorry.
-/
import Derived.Test.YthjleohmlohgbaaDoorRows
import GoSem.ClaimSeven
namespace Go.Proofs.YthjleohmlohgbaaDoor
namespace Rows

/-- THE TIED CARD OF 'plumblaw13.ExpandFixes'. -/
def expandFixesCard : Claim7 := { stood := { row := expandFixesRow, standIns := [], harness := (true, "787aaf6badd8a3146128416eaaf169cf5da039bd46a3b2163e1d156690b6d35d"), looks := false }, kinds := [], alts := [], laidByText := true, laidKinds := [.data, .pinned], laidTests := true, laidLooks := .later }
def ExpandFixesCardSaid : Prop := Claim7.holds Tryd.pinned (.plain (OpenSpec.ofChange expandFixesSpec)) expandFixesCard

/-- THE TIED CARD OF 'plumblaw13.ExpandPrecises'. -/
def expandPrecisesCard : Claim7 := { stood := { row := expandPrecisesRow, standIns := [], harness := (true, "787aaf6badd8a3146128416eaaf169cf5da039bd46a3b2163e1d156690b6d35d"), looks := false }, kinds := [], alts := [], laidByText := true, laidKinds := [.data, .pinned], laidTests := true, laidLooks := .later }
def ExpandPrecisesCardSaid : Prop := Claim7.holds Tryd.pinned (.plain (OpenSpec.ofChange expandPrecisesSpec)) expandPrecisesCard

/-- THE TIED CARD OF 'plumblaw13.ExpandRises'. -/
def expandRisesCard : Claim7 := { stood := { row := expandRisesRow, standIns := [], harness := (true, "787aaf6badd8a3146128416eaaf169cf5da039bd46a3b2163e1d156690b6d35d"), looks := false }, kinds := [], alts := [], laidByText := true, laidKinds := [.data, .pinned], laidTests := true, laidLooks := .later }
def ExpandRisesCardSaid : Prop := Claim7.holds Tryd.pinned (.plain (OpenSpec.ofChange expandRisesSpec)) expandRisesCard

/-- THE SECOND FORM's CARD OF 'plumblaw13.ExpandFixes'. -/
def expandFixesUptoCard : Claim7 := { stood := { row := expandFixesUptoRow, standIns := [], harness := (true, "787aaf6badd8a3146128416eaaf169cf5da039bd46a3b2163e1d156690b6d35d"), looks := false }, kinds := [], alts := [], laidByText := true, laidKinds := [.data, .pinned], laidTests := true, laidLooks := .later }
def ExpandFixesUptoCardSaid : Prop := Claim7.holds Tryd.pinned (.plain (OpenSpec.upto expandFixesSpec)) expandFixesUptoCard

/-- THE SECOND FORM's CARD OF 'plumblaw13.ExpandPrecises'. -/
def expandPrecisesUptoCard : Claim7 := { stood := { row := expandPrecisesUptoRow, standIns := [], harness := (true, "787aaf6badd8a3146128416eaaf169cf5da039bd46a3b2163e1d156690b6d35d"), looks := false }, kinds := [], alts := [], laidByText := true, laidKinds := [.data, .pinned], laidTests := true, laidLooks := .later }
def ExpandPrecisesUptoCardSaid : Prop := Claim7.holds Tryd.pinned (.plain (OpenSpec.upto expandPrecisesSpec)) expandPrecisesUptoCard

/-- THE SECOND FORM's CARD OF 'plumblaw13.ExpandRises'. -/
def expandRisesUptoCard : Claim7 := { stood := { row := expandRisesUptoRow, standIns := [], harness := (true, "787aaf6badd8a3146128416eaaf169cf5da039bd46a3b2163e1d156690b6d35d"), looks := false }, kinds := [], alts := [], laidByText := true, laidKinds := [.data, .pinned], laidTests := true, laidLooks := .later }
def ExpandRisesUptoCardSaid : Prop := Claim7.holds Tryd.pinned (.plain (OpenSpec.upto expandRisesSpec)) expandRisesUptoCard
end Rows
end Go.Proofs.YthjleohmlohgbaaDoor
