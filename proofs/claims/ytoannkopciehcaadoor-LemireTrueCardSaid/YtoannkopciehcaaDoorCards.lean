/-
  DERIVED. GIVEN WITH THE SEED: THE CARDS: each row of YtoannkopciehcaaDoorRows.lean that lists a variable, with what it lists TIED to the program's text (the seventh form; the later family's looks); each row that meets fmt, with fmt's text TOLD by the authors' own Lean function (tested against real Go, not proved from fmt's source: count such statements apart). THE CARD IS WHAT COUNTS. Prove the row's statement (the work); the ties are given (YtoannkopciehcaaDoorTie.lean); close each card by the builder's one call (the guide's Derived/Test/ToyasCard.lean, 'card_holds'). Laid BY PROGRAM, IN A SANDBOX (cutbox-door.mjs). By AI agents, Wed Nov 11 2026. No macro, syntax, notation, axiom, sorry.
-/
import Derived.Test.YtoannkopciehcaaDoorRows
import GoSem.ClaimSeven
namespace Go.Proofs.YtoannkopciehcaaDoor
namespace Rows

/-- THE TIED CARD OF 'plumblaw10.LemireFasts'. -/
def lemireFastsCard : Claim7 := { stood := { row := lemireFastsRow, standIns := [], harness := (true, "edb50a61f7774a70730552cf16676197a30bb9f2c5a5699edca448e9415e3cb7"), looks := true }, kinds := [], alts := [], laidByText := true, laidKinds := [.data], laidTests := true, laidLooks := .later }
def LemireFastsCardSaid : Prop := Claim7.holds Tryd.pinned (.plain (OpenSpec.ofChange lemireFastsSpec)) lemireFastsCard

/-- THE TIED CARD OF 'plumblaw10.LemireCuts'. -/
def lemireCutsCard : Claim7 := { stood := { row := lemireCutsRow, standIns := [], harness := (true, "edb50a61f7774a70730552cf16676197a30bb9f2c5a5699edca448e9415e3cb7"), looks := true }, kinds := [], alts := [], laidByText := true, laidKinds := [.data], laidTests := true, laidLooks := .later }
def LemireCutsCardSaid : Prop := Claim7.holds Tryd.pinned (.plain (OpenSpec.ofChange lemireCutsSpec)) lemireCutsCard

/-- THE TIED CARD OF 'plumblaw10.LemireTens'. -/
def lemireTensCard : Claim7 := { stood := { row := lemireTensRow, standIns := [], harness := (true, "edb50a61f7774a70730552cf16676197a30bb9f2c5a5699edca448e9415e3cb7"), looks := true }, kinds := [], alts := [], laidByText := true, laidKinds := [.data], laidTests := true, laidLooks := .later }
def LemireTensCardSaid : Prop := Claim7.holds Tryd.pinned (.plain (OpenSpec.ofChange lemireTensSpec)) lemireTensCard

/-- THE TIED CARD OF 'plumblaw10.LemireRises'. -/
def lemireRisesCard : Claim7 := { stood := { row := lemireRisesRow, standIns := [], harness := (true, "edb50a61f7774a70730552cf16676197a30bb9f2c5a5699edca448e9415e3cb7"), looks := true }, kinds := [], alts := [], laidByText := true, laidKinds := [.data], laidTests := true, laidLooks := .later }
def LemireRisesCardSaid : Prop := Claim7.holds Tryd.pinned (.plain (OpenSpec.ofChange lemireRisesSpec)) lemireRisesCard

/-- THE TIED CARD OF 'plumblaw10.LemireUnsure'. -/
def lemireUnsureCard : Claim7 := { stood := { row := lemireUnsureRow, standIns := [], harness := (true, "edb50a61f7774a70730552cf16676197a30bb9f2c5a5699edca448e9415e3cb7"), looks := true }, kinds := [], alts := [], laidByText := true, laidKinds := [.data, .data], laidTests := true, laidLooks := .later }
def LemireUnsureCardSaid : Prop := Claim7.holds Tryd.pinned (.plain (OpenSpec.ofChange lemireUnsureSpec)) lemireUnsureCard

/-- THE TIED CARD OF 'plumblaw10.LemireTrue'. -/
def lemireTrueCard : Claim7 := { stood := { row := lemireTrueRow, standIns := [], harness := (true, "edb50a61f7774a70730552cf16676197a30bb9f2c5a5699edca448e9415e3cb7"), looks := true }, kinds := [], alts := [], laidByText := true, laidKinds := [.data, .data], laidTests := true, laidLooks := .later }
def LemireTrueCardSaid : Prop := Claim7.holds Tryd.pinned (.plain (OpenSpec.ofChange lemireTrueSpec)) lemireTrueCard

/-- THE TIED CARD OF 'plumblaw10.LemireBounds'. -/
def lemireBoundsCard : Claim7 := { stood := { row := lemireBoundsRow, standIns := [], harness := (true, "edb50a61f7774a70730552cf16676197a30bb9f2c5a5699edca448e9415e3cb7"), looks := true }, kinds := [], alts := [], laidByText := true, laidKinds := [.handle, .data], laidTests := true, laidLooks := .later }
def LemireBoundsCardSaid : Prop := Claim7.holds Tryd.pinned (.plain (OpenSpec.ofChange lemireBoundsSpec)) lemireBoundsCard

/-- THE SECOND FORM's CARD OF 'plumblaw10.LemireFasts'. -/
def lemireFastsUptoCard : Claim7 := { stood := { row := lemireFastsUptoRow, standIns := [], harness := (true, "edb50a61f7774a70730552cf16676197a30bb9f2c5a5699edca448e9415e3cb7"), looks := true }, kinds := [], alts := [], laidByText := true, laidKinds := [.data], laidTests := true, laidLooks := .later }
def LemireFastsUptoCardSaid : Prop := Claim7.holds Tryd.pinned (.plain (OpenSpec.upto lemireFastsSpec)) lemireFastsUptoCard

/-- THE SECOND FORM's CARD OF 'plumblaw10.LemireCuts'. -/
def lemireCutsUptoCard : Claim7 := { stood := { row := lemireCutsUptoRow, standIns := [], harness := (true, "edb50a61f7774a70730552cf16676197a30bb9f2c5a5699edca448e9415e3cb7"), looks := true }, kinds := [], alts := [], laidByText := true, laidKinds := [.data], laidTests := true, laidLooks := .later }
def LemireCutsUptoCardSaid : Prop := Claim7.holds Tryd.pinned (.plain (OpenSpec.upto lemireCutsSpec)) lemireCutsUptoCard

/-- THE SECOND FORM's CARD OF 'plumblaw10.LemireTens'. -/
def lemireTensUptoCard : Claim7 := { stood := { row := lemireTensUptoRow, standIns := [], harness := (true, "edb50a61f7774a70730552cf16676197a30bb9f2c5a5699edca448e9415e3cb7"), looks := true }, kinds := [], alts := [], laidByText := true, laidKinds := [.data], laidTests := true, laidLooks := .later }
def LemireTensUptoCardSaid : Prop := Claim7.holds Tryd.pinned (.plain (OpenSpec.upto lemireTensSpec)) lemireTensUptoCard

/-- THE SECOND FORM's CARD OF 'plumblaw10.LemireRises'. -/
def lemireRisesUptoCard : Claim7 := { stood := { row := lemireRisesUptoRow, standIns := [], harness := (true, "edb50a61f7774a70730552cf16676197a30bb9f2c5a5699edca448e9415e3cb7"), looks := true }, kinds := [], alts := [], laidByText := true, laidKinds := [.data], laidTests := true, laidLooks := .later }
def LemireRisesUptoCardSaid : Prop := Claim7.holds Tryd.pinned (.plain (OpenSpec.upto lemireRisesSpec)) lemireRisesUptoCard

/-- THE SECOND FORM's CARD OF 'plumblaw10.LemireUnsure'. -/
def lemireUnsureUptoCard : Claim7 := { stood := { row := lemireUnsureUptoRow, standIns := [], harness := (true, "edb50a61f7774a70730552cf16676197a30bb9f2c5a5699edca448e9415e3cb7"), looks := true }, kinds := [], alts := [], laidByText := true, laidKinds := [.data, .data], laidTests := true, laidLooks := .later }
def LemireUnsureUptoCardSaid : Prop := Claim7.holds Tryd.pinned (.plain (OpenSpec.upto lemireUnsureSpec)) lemireUnsureUptoCard

/-- THE SECOND FORM's CARD OF 'plumblaw10.LemireTrue'. -/
def lemireTrueUptoCard : Claim7 := { stood := { row := lemireTrueUptoRow, standIns := [], harness := (true, "edb50a61f7774a70730552cf16676197a30bb9f2c5a5699edca448e9415e3cb7"), looks := true }, kinds := [], alts := [], laidByText := true, laidKinds := [.data, .data], laidTests := true, laidLooks := .later }
def LemireTrueUptoCardSaid : Prop := Claim7.holds Tryd.pinned (.plain (OpenSpec.upto lemireTrueSpec)) lemireTrueUptoCard

/-- THE SECOND FORM's CARD OF 'plumblaw10.LemireBounds'. -/
def lemireBoundsUptoCard : Claim7 := { stood := { row := lemireBoundsUptoRow, standIns := [], harness := (true, "edb50a61f7774a70730552cf16676197a30bb9f2c5a5699edca448e9415e3cb7"), looks := true }, kinds := [], alts := [], laidByText := true, laidKinds := [.handle, .data], laidTests := true, laidLooks := .later }
def LemireBoundsUptoCardSaid : Prop := Claim7.holds Tryd.pinned (.plain (OpenSpec.upto lemireBoundsSpec)) lemireBoundsUptoCard
end Rows
end Go.Proofs.YtoannkopciehcaaDoor
