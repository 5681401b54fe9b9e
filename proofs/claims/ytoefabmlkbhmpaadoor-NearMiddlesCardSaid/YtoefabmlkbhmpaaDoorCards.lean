/-
  DERIVED. GIVEN WITH THE SEED: THE CARDS: each row of YtoefabmlkbhmpaaDoorRows.lean that lists a variable, with what it lists TIED to the program's text (the seventh form; the later family's looks); each row that meets fmt, with fmt's text TOLD by the authors' own Lean function (tested against real Go, not proved from fmt's source: count such statements apart). THE CARD IS WHAT COUNTS. Prove the row's statement (the work); the ties are given (YtoefabmlkbhmpaaDoorTie.lean); close each card by the builder's one call (the guide's Derived/Test/ToyasCard.lean, 'card_holds'). Laid BY PROGRAM, IN A SANDBOX (cutbox-door.mjs). By AI agents, Wed Nov 11 2026. No macro, syntax, notation, axiom, sorry.
-/
import Derived.Test.YtoefabmlkbhmpaaDoorRows
import GoSem.ClaimSeven
namespace Go.Proofs.YtoefabmlkbhmpaaDoor
namespace Rows

/-- THE TIED CARD OF 'plumblaw07.NearScaleds'. -/
def nearScaledsCard : Claim7 := { stood := { row := nearScaledsRow, standIns := [], harness := (true, "91a5927158ab9ae89cf0d3f9fa3307f11cb3ff2e0e67d6fcd3b966df174127cf"), looks := true }, kinds := [], alts := [], laidByText := true, laidKinds := [.data], laidTests := true, laidLooks := .later }
def NearScaledsCardSaid : Prop := Claim7.holds Tryd.pinned (.plain (OpenSpec.ofChange nearScaledsSpec)) nearScaledsCard

/-- THE TIED CARD OF 'plumblaw07.NearQuotients'. -/
def nearQuotientsCard : Claim7 := { stood := { row := nearQuotientsRow, standIns := [], harness := (true, "91a5927158ab9ae89cf0d3f9fa3307f11cb3ff2e0e67d6fcd3b966df174127cf"), looks := true }, kinds := [], alts := [], laidByText := true, laidKinds := [.data], laidTests := true, laidLooks := .later }
def NearQuotientsCardSaid : Prop := Claim7.holds Tryd.pinned (.plain (OpenSpec.ofChange nearQuotientsSpec)) nearQuotientsCard

/-- THE TIED CARD OF 'plumblaw07.NearSticky'. -/
def nearStickyCard : Claim7 := { stood := { row := nearStickyRow, standIns := [], harness := (true, "91a5927158ab9ae89cf0d3f9fa3307f11cb3ff2e0e67d6fcd3b966df174127cf"), looks := true }, kinds := [], alts := [], laidByText := true, laidKinds := [.data], laidTests := true, laidLooks := .later }
def NearStickyCardSaid : Prop := Claim7.holds Tryd.pinned (.plain (OpenSpec.ofChange nearStickySpec)) nearStickyCard

/-- THE TIED CARD OF 'plumblaw07.NearScale'. -/
def nearScaleCard : Claim7 := { stood := { row := nearScaleRow, standIns := [], harness := (true, "91a5927158ab9ae89cf0d3f9fa3307f11cb3ff2e0e67d6fcd3b966df174127cf"), looks := true }, kinds := [], alts := [], laidByText := true, laidKinds := [.data], laidTests := true, laidLooks := .later }
def NearScaleCardSaid : Prop := Claim7.holds Tryd.pinned (.plain (OpenSpec.ofChange nearScaleSpec)) nearScaleCard

/-- THE TIED CARD OF 'plumblaw07.NearModes'. -/
def nearModesCard : Claim7 := { stood := { row := nearModesRow, standIns := [], harness := (true, "91a5927158ab9ae89cf0d3f9fa3307f11cb3ff2e0e67d6fcd3b966df174127cf"), looks := true }, kinds := [], alts := [], laidByText := true, laidKinds := [.data], laidTests := true, laidLooks := .later }
def NearModesCardSaid : Prop := Claim7.holds Tryd.pinned (.plain (OpenSpec.ofChange nearModesSpec)) nearModesCard

/-- THE TIED CARD OF 'plumblaw07.NearMonotone'. -/
def nearMonotoneCard : Claim7 := { stood := { row := nearMonotoneRow, standIns := [], harness := (true, "91a5927158ab9ae89cf0d3f9fa3307f11cb3ff2e0e67d6fcd3b966df174127cf"), looks := true }, kinds := [], alts := [], laidByText := true, laidKinds := [.data], laidTests := true, laidLooks := .later }
def NearMonotoneCardSaid : Prop := Claim7.holds Tryd.pinned (.plain (OpenSpec.ofChange nearMonotoneSpec)) nearMonotoneCard

/-- THE TIED CARD OF 'plumblaw07.NearNearest'. -/
def nearNearestCard : Claim7 := { stood := { row := nearNearestRow, standIns := [], harness := (true, "91a5927158ab9ae89cf0d3f9fa3307f11cb3ff2e0e67d6fcd3b966df174127cf"), looks := true }, kinds := [], alts := [], laidByText := true, laidKinds := [.data], laidTests := true, laidLooks := .later }
def NearNearestCardSaid : Prop := Claim7.holds Tryd.pinned (.plain (OpenSpec.ofChange nearNearestSpec)) nearNearestCard

/-- THE TIED CARD OF 'plumblaw07.NearBack'. -/
def nearBackCard : Claim7 := { stood := { row := nearBackRow, standIns := [], harness := (true, "91a5927158ab9ae89cf0d3f9fa3307f11cb3ff2e0e67d6fcd3b966df174127cf"), looks := true }, kinds := [], alts := [], laidByText := true, laidKinds := [.data], laidTests := true, laidLooks := .later }
def NearBackCardSaid : Prop := Claim7.holds Tryd.pinned (.plain (OpenSpec.ofChange nearBackSpec)) nearBackCard

/-- THE TIED CARD OF 'plumblaw07.NearMiddles'. -/
def nearMiddlesCard : Claim7 := { stood := { row := nearMiddlesRow, standIns := [], harness := (true, "91a5927158ab9ae89cf0d3f9fa3307f11cb3ff2e0e67d6fcd3b966df174127cf"), looks := true }, kinds := [], alts := [], laidByText := true, laidKinds := [.data], laidTests := true, laidLooks := .later }
def NearMiddlesCardSaid : Prop := Claim7.holds Tryd.pinned (.plain (OpenSpec.ofChange nearMiddlesSpec)) nearMiddlesCard

/-- THE SECOND FORM's CARD OF 'plumblaw07.NearScaleds'. -/
def nearScaledsUptoCard : Claim7 := { stood := { row := nearScaledsUptoRow, standIns := [], harness := (true, "91a5927158ab9ae89cf0d3f9fa3307f11cb3ff2e0e67d6fcd3b966df174127cf"), looks := true }, kinds := [], alts := [], laidByText := true, laidKinds := [.data], laidTests := true, laidLooks := .later }
def NearScaledsUptoCardSaid : Prop := Claim7.holds Tryd.pinned (.plain (OpenSpec.upto nearScaledsSpec)) nearScaledsUptoCard

/-- THE SECOND FORM's CARD OF 'plumblaw07.NearQuotients'. -/
def nearQuotientsUptoCard : Claim7 := { stood := { row := nearQuotientsUptoRow, standIns := [], harness := (true, "91a5927158ab9ae89cf0d3f9fa3307f11cb3ff2e0e67d6fcd3b966df174127cf"), looks := true }, kinds := [], alts := [], laidByText := true, laidKinds := [.data], laidTests := true, laidLooks := .later }
def NearQuotientsUptoCardSaid : Prop := Claim7.holds Tryd.pinned (.plain (OpenSpec.upto nearQuotientsSpec)) nearQuotientsUptoCard

/-- THE SECOND FORM's CARD OF 'plumblaw07.NearSticky'. -/
def nearStickyUptoCard : Claim7 := { stood := { row := nearStickyUptoRow, standIns := [], harness := (true, "91a5927158ab9ae89cf0d3f9fa3307f11cb3ff2e0e67d6fcd3b966df174127cf"), looks := true }, kinds := [], alts := [], laidByText := true, laidKinds := [.data], laidTests := true, laidLooks := .later }
def NearStickyUptoCardSaid : Prop := Claim7.holds Tryd.pinned (.plain (OpenSpec.upto nearStickySpec)) nearStickyUptoCard

/-- THE SECOND FORM's CARD OF 'plumblaw07.NearScale'. -/
def nearScaleUptoCard : Claim7 := { stood := { row := nearScaleUptoRow, standIns := [], harness := (true, "91a5927158ab9ae89cf0d3f9fa3307f11cb3ff2e0e67d6fcd3b966df174127cf"), looks := true }, kinds := [], alts := [], laidByText := true, laidKinds := [.data], laidTests := true, laidLooks := .later }
def NearScaleUptoCardSaid : Prop := Claim7.holds Tryd.pinned (.plain (OpenSpec.upto nearScaleSpec)) nearScaleUptoCard

/-- THE SECOND FORM's CARD OF 'plumblaw07.NearModes'. -/
def nearModesUptoCard : Claim7 := { stood := { row := nearModesUptoRow, standIns := [], harness := (true, "91a5927158ab9ae89cf0d3f9fa3307f11cb3ff2e0e67d6fcd3b966df174127cf"), looks := true }, kinds := [], alts := [], laidByText := true, laidKinds := [.data], laidTests := true, laidLooks := .later }
def NearModesUptoCardSaid : Prop := Claim7.holds Tryd.pinned (.plain (OpenSpec.upto nearModesSpec)) nearModesUptoCard

/-- THE SECOND FORM's CARD OF 'plumblaw07.NearMonotone'. -/
def nearMonotoneUptoCard : Claim7 := { stood := { row := nearMonotoneUptoRow, standIns := [], harness := (true, "91a5927158ab9ae89cf0d3f9fa3307f11cb3ff2e0e67d6fcd3b966df174127cf"), looks := true }, kinds := [], alts := [], laidByText := true, laidKinds := [.data], laidTests := true, laidLooks := .later }
def NearMonotoneUptoCardSaid : Prop := Claim7.holds Tryd.pinned (.plain (OpenSpec.upto nearMonotoneSpec)) nearMonotoneUptoCard

/-- THE SECOND FORM's CARD OF 'plumblaw07.NearNearest'. -/
def nearNearestUptoCard : Claim7 := { stood := { row := nearNearestUptoRow, standIns := [], harness := (true, "91a5927158ab9ae89cf0d3f9fa3307f11cb3ff2e0e67d6fcd3b966df174127cf"), looks := true }, kinds := [], alts := [], laidByText := true, laidKinds := [.data], laidTests := true, laidLooks := .later }
def NearNearestUptoCardSaid : Prop := Claim7.holds Tryd.pinned (.plain (OpenSpec.upto nearNearestSpec)) nearNearestUptoCard

/-- THE SECOND FORM's CARD OF 'plumblaw07.NearBack'. -/
def nearBackUptoCard : Claim7 := { stood := { row := nearBackUptoRow, standIns := [], harness := (true, "91a5927158ab9ae89cf0d3f9fa3307f11cb3ff2e0e67d6fcd3b966df174127cf"), looks := true }, kinds := [], alts := [], laidByText := true, laidKinds := [.data], laidTests := true, laidLooks := .later }
def NearBackUptoCardSaid : Prop := Claim7.holds Tryd.pinned (.plain (OpenSpec.upto nearBackSpec)) nearBackUptoCard

/-- THE SECOND FORM's CARD OF 'plumblaw07.NearMiddles'. -/
def nearMiddlesUptoCard : Claim7 := { stood := { row := nearMiddlesUptoRow, standIns := [], harness := (true, "91a5927158ab9ae89cf0d3f9fa3307f11cb3ff2e0e67d6fcd3b966df174127cf"), looks := true }, kinds := [], alts := [], laidByText := true, laidKinds := [.data], laidTests := true, laidLooks := .later }
def NearMiddlesUptoCardSaid : Prop := Claim7.holds Tryd.pinned (.plain (OpenSpec.upto nearMiddlesSpec)) nearMiddlesUptoCard
end Rows
end Go.Proofs.YtoefabmlkbhmpaaDoor
