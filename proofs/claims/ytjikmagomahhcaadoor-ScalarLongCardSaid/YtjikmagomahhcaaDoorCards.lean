/-
  DERIVED. GIVEN WITH THE SEED: THE CARDS: each row of YtjikmagomahhcaaDoorRows.lean that lists a variable, with what it lists TIED to the program's text (the seventh form; the later family's looks); each row that meets fmt, with fmt's text TOLD by the authors' own Lean function (tested against real Go, not proved from fmt's source: count such statements apart). THE CARD IS WHAT COUNTS. Prove the row's statement (the work); the ties are given (YtjikmagomahhcaaDoorTie.lean); close each card by the builder's one call (the guide's Derived/Test/ToyasCard.lean, 'card_holds'). Laid BY PROGRAM, IN A SANDBOX (cutbox-door.mjs). By AI agents, Wed Nov 11 2026. No macro, syntax, notation, axiom, sorry.
-/
import Derived.Test.YtjikmagomahhcaaDoorRows
import GoSem.ClaimSeven
namespace Go.Proofs.YtjikmagomahhcaaDoor
namespace Rows

/-- THE TIED CARD OF 'skifflaw02.ScalarReduces'. -/
def scalarReducesCard : Claim7 := { stood := { row := scalarReducesRow, standIns := [], harness := (true, "c0324e44f25db2dca24d97d0c266754d7c432d47a86ef9501e543b3af309f1b1"), looks := false }, kinds := [], alts := [], laidByText := true, laidKinds := [.data], laidTests := true, laidLooks := .later }
def ScalarReducesCardSaid : Prop := Claim7.holds Tryd.pinned (.plain (OpenSpec.ofChange scalarReducesSpec)) scalarReducesCard

/-- THE TIED CARD OF 'skifflaw02.ScalarNear'. -/
def scalarNearCard : Claim7 := { stood := { row := scalarNearRow, standIns := [], harness := (true, "c0324e44f25db2dca24d97d0c266754d7c432d47a86ef9501e543b3af309f1b1"), looks := false }, kinds := [], alts := [], laidByText := true, laidKinds := [.data], laidTests := true, laidLooks := .later }
def ScalarNearCardSaid : Prop := Claim7.holds Tryd.pinned (.plain (OpenSpec.ofChange scalarNearSpec)) scalarNearCard

/-- THE TIED CARD OF 'skifflaw02.ScalarRuns'. -/
def scalarRunsCard : Claim7 := { stood := { row := scalarRunsRow, standIns := [], harness := (true, "c0324e44f25db2dca24d97d0c266754d7c432d47a86ef9501e543b3af309f1b1"), looks := false }, kinds := [], alts := [], laidByText := true, laidKinds := [.data], laidTests := true, laidLooks := .later }
def ScalarRunsCardSaid : Prop := Claim7.holds Tryd.pinned (.plain (OpenSpec.ofChange scalarRunsSpec)) scalarRunsCard

/-- THE TIED CARD OF 'skifflaw02.ScalarLaws'. -/
def scalarLawsCard : Claim7 := { stood := { row := scalarLawsRow, standIns := [], harness := (true, "c0324e44f25db2dca24d97d0c266754d7c432d47a86ef9501e543b3af309f1b1"), looks := false }, kinds := [], alts := [], laidByText := true, laidKinds := [.data], laidTests := true, laidLooks := .later }
def ScalarLawsCardSaid : Prop := Claim7.holds Tryd.pinned (.plain (OpenSpec.ofChange scalarLawsSpec)) scalarLawsCard

/-- THE TIED CARD OF 'skifflaw02.ScalarLong'. -/
def scalarLongCard : Claim7 := { stood := { row := scalarLongRow, standIns := [], harness := (true, "c0324e44f25db2dca24d97d0c266754d7c432d47a86ef9501e543b3af309f1b1"), looks := false }, kinds := [], alts := [], laidByText := true, laidKinds := [.data], laidTests := true, laidLooks := .later }
def ScalarLongCardSaid : Prop := Claim7.holds Tryd.pinned (.plain (OpenSpec.ofChange scalarLongSpec)) scalarLongCard

/-- THE TIED CARD OF 'skifflaw02.ScalarOften'. -/
def scalarOftenCard : Claim7 := { stood := { row := scalarOftenRow, standIns := [], harness := (true, "c0324e44f25db2dca24d97d0c266754d7c432d47a86ef9501e543b3af309f1b1"), looks := false }, kinds := [], alts := [], laidByText := true, laidKinds := [.data], laidTests := true, laidLooks := .later }
def ScalarOftenCardSaid : Prop := Claim7.holds Tryd.pinned (.plain (OpenSpec.ofChange scalarOftenSpec)) scalarOftenCard

/-- THE SECOND FORM's CARD OF 'skifflaw02.ScalarReduces'. -/
def scalarReducesUptoCard : Claim7 := { stood := { row := scalarReducesUptoRow, standIns := [], harness := (true, "c0324e44f25db2dca24d97d0c266754d7c432d47a86ef9501e543b3af309f1b1"), looks := false }, kinds := [], alts := [], laidByText := true, laidKinds := [.data], laidTests := true, laidLooks := .later }
def ScalarReducesUptoCardSaid : Prop := Claim7.holds Tryd.pinned (.plain (OpenSpec.upto scalarReducesSpec)) scalarReducesUptoCard

/-- THE SECOND FORM's CARD OF 'skifflaw02.ScalarNear'. -/
def scalarNearUptoCard : Claim7 := { stood := { row := scalarNearUptoRow, standIns := [], harness := (true, "c0324e44f25db2dca24d97d0c266754d7c432d47a86ef9501e543b3af309f1b1"), looks := false }, kinds := [], alts := [], laidByText := true, laidKinds := [.data], laidTests := true, laidLooks := .later }
def ScalarNearUptoCardSaid : Prop := Claim7.holds Tryd.pinned (.plain (OpenSpec.upto scalarNearSpec)) scalarNearUptoCard

/-- THE SECOND FORM's CARD OF 'skifflaw02.ScalarRuns'. -/
def scalarRunsUptoCard : Claim7 := { stood := { row := scalarRunsUptoRow, standIns := [], harness := (true, "c0324e44f25db2dca24d97d0c266754d7c432d47a86ef9501e543b3af309f1b1"), looks := false }, kinds := [], alts := [], laidByText := true, laidKinds := [.data], laidTests := true, laidLooks := .later }
def ScalarRunsUptoCardSaid : Prop := Claim7.holds Tryd.pinned (.plain (OpenSpec.upto scalarRunsSpec)) scalarRunsUptoCard

/-- THE SECOND FORM's CARD OF 'skifflaw02.ScalarLaws'. -/
def scalarLawsUptoCard : Claim7 := { stood := { row := scalarLawsUptoRow, standIns := [], harness := (true, "c0324e44f25db2dca24d97d0c266754d7c432d47a86ef9501e543b3af309f1b1"), looks := false }, kinds := [], alts := [], laidByText := true, laidKinds := [.data], laidTests := true, laidLooks := .later }
def ScalarLawsUptoCardSaid : Prop := Claim7.holds Tryd.pinned (.plain (OpenSpec.upto scalarLawsSpec)) scalarLawsUptoCard

/-- THE SECOND FORM's CARD OF 'skifflaw02.ScalarLong'. -/
def scalarLongUptoCard : Claim7 := { stood := { row := scalarLongUptoRow, standIns := [], harness := (true, "c0324e44f25db2dca24d97d0c266754d7c432d47a86ef9501e543b3af309f1b1"), looks := false }, kinds := [], alts := [], laidByText := true, laidKinds := [.data], laidTests := true, laidLooks := .later }
def ScalarLongUptoCardSaid : Prop := Claim7.holds Tryd.pinned (.plain (OpenSpec.upto scalarLongSpec)) scalarLongUptoCard

/-- THE SECOND FORM's CARD OF 'skifflaw02.ScalarOften'. -/
def scalarOftenUptoCard : Claim7 := { stood := { row := scalarOftenUptoRow, standIns := [], harness := (true, "c0324e44f25db2dca24d97d0c266754d7c432d47a86ef9501e543b3af309f1b1"), looks := false }, kinds := [], alts := [], laidByText := true, laidKinds := [.data], laidTests := true, laidLooks := .later }
def ScalarOftenUptoCardSaid : Prop := Claim7.holds Tryd.pinned (.plain (OpenSpec.upto scalarOftenSpec)) scalarOftenUptoCard
end Rows
end Go.Proofs.YtjikmagomahhcaaDoor
