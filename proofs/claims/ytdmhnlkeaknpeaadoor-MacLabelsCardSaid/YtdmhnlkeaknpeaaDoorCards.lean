/-
  DERIVED. GIVEN WITH THE SEED: THE CARDS: each row of YtdmhnlkeaknpeaaDoorRows.lean that lists a variable, with what it lists TIED to the program's text (the seventh form; the later family's looks); each row that meets fmt, with fmt's text TOLD by the authors' own Lean function (tested against real Go, not proved from fmt's source: count such statements apart). THE CARD IS WHAT COUNTS. Prove the row's statement (the work); the ties are given (YtdmhnlkeaknpeaaDoorTie.lean); close each card by the builder's one call (the guide's Derived/Test/ToyasCard.lean, 'card_holds'). Laid BY PROGRAM, IN A SANDBOX (cutbox-door.mjs). By AI agents, Wed Nov 11 2026. No macro, syntax, notation, axiom, sorry.
-/
import Derived.Test.YtdmhnlkeaknpeaaDoorRows
import GoSem.ClaimSeven
namespace Go.Proofs.YtdmhnlkeaknpeaaDoor
namespace Rows

/-- THE TIED CARD OF 'skifflaw04.MacSums'. -/
def macSumsCard : Claim7 := { stood := { row := macSumsRow, standIns := [], harness := (true, "e0e4ab54ae4e279fc30dd471756ff3fb1ccdfc9b4d0b0d51abfdf0e26952e815"), looks := false }, kinds := [], alts := [], laidByText := true, laidKinds := [.data, .data, .data], laidTests := true, laidLooks := .later }
def MacSumsCardSaid : Prop := Claim7.holds Tryd.pinned (.plain (OpenSpec.ofChange macSumsSpec)) macSumsCard

/-- THE TIED CARD OF 'skifflaw04.MacLong'. -/
def macLongCard : Claim7 := { stood := { row := macLongRow, standIns := [], harness := (true, "e0e4ab54ae4e279fc30dd471756ff3fb1ccdfc9b4d0b0d51abfdf0e26952e815"), looks := false }, kinds := [], alts := [], laidByText := true, laidKinds := [.data], laidTests := true, laidLooks := .later }
def MacLongCardSaid : Prop := Claim7.holds Tryd.pinned (.plain (OpenSpec.ofChange macLongSpec)) macLongCard

/-- THE TIED CARD OF 'skifflaw04.MacExpands'. -/
def macExpandsCard : Claim7 := { stood := { row := macExpandsRow, standIns := [], harness := (true, "e0e4ab54ae4e279fc30dd471756ff3fb1ccdfc9b4d0b0d51abfdf0e26952e815"), looks := false }, kinds := [], alts := [], laidByText := true, laidKinds := [.data, .data, .data], laidTests := true, laidLooks := .later }
def MacExpandsCardSaid : Prop := Claim7.holds Tryd.pinned (.plain (OpenSpec.ofChange macExpandsSpec)) macExpandsCard

/-- THE TIED CARD OF 'skifflaw04.MacMore'. -/
def macMoreCard : Claim7 := { stood := { row := macMoreRow, standIns := [], harness := (true, "e0e4ab54ae4e279fc30dd471756ff3fb1ccdfc9b4d0b0d51abfdf0e26952e815"), looks := false }, kinds := [], alts := [], laidByText := true, laidKinds := [.data], laidTests := true, laidLooks := .later }
def MacMoreCardSaid : Prop := Claim7.holds Tryd.pinned (.plain (OpenSpec.ofChange macMoreSpec)) macMoreCard

/-- THE TIED CARD OF 'skifflaw03.Sha2Small'. -/
def sha2SmallCard : Claim7 := { stood := { row := sha2SmallRow, standIns := [], harness := (true, "e0e4ab54ae4e279fc30dd471756ff3fb1ccdfc9b4d0b0d51abfdf0e26952e815"), looks := false }, kinds := [], alts := [], laidByText := true, laidKinds := [.data, .data, .data], laidTests := true, laidLooks := .later }
def Sha2SmallCardSaid : Prop := Claim7.holds Tryd.pinned (.plain (OpenSpec.ofChange sha2SmallSpec)) sha2SmallCard

/-- THE TIED CARD OF 'skifflaw03.Sha2Cuts'. -/
def sha2CutsCard : Claim7 := { stood := { row := sha2CutsRow, standIns := [], harness := (true, "e0e4ab54ae4e279fc30dd471756ff3fb1ccdfc9b4d0b0d51abfdf0e26952e815"), looks := false }, kinds := [], alts := [], laidByText := true, laidKinds := [.data], laidTests := true, laidLooks := .later }
def Sha2CutsCardSaid : Prop := Claim7.holds Tryd.pinned (.plain (OpenSpec.ofChange sha2CutsSpec)) sha2CutsCard

/-- THE TIED CARD OF 'skifflaw03.Sha2Twice'. -/
def sha2TwiceCard : Claim7 := { stood := { row := sha2TwiceRow, standIns := [], harness := (true, "e0e4ab54ae4e279fc30dd471756ff3fb1ccdfc9b4d0b0d51abfdf0e26952e815"), looks := false }, kinds := [], alts := [], laidByText := true, laidKinds := [.data], laidTests := true, laidLooks := .later }
def Sha2TwiceCardSaid : Prop := Claim7.holds Tryd.pinned (.plain (OpenSpec.ofChange sha2TwiceSpec)) sha2TwiceCard

/-- THE TIED CARD OF 'skifflaw04.MacLabels'. -/
def macLabelsCard : Claim7 := { stood := { row := macLabelsRow, standIns := [], harness := (true, "e0e4ab54ae4e279fc30dd471756ff3fb1ccdfc9b4d0b0d51abfdf0e26952e815"), looks := false }, kinds := [], alts := [], laidByText := true, laidKinds := [.data, .data, .data], laidTests := true, laidLooks := .later }
def MacLabelsCardSaid : Prop := Claim7.holds Tryd.pinned (.plain (OpenSpec.ofChange macLabelsSpec)) macLabelsCard

/-- THE SECOND FORM's CARD OF 'skifflaw04.MacSums'. -/
def macSumsUptoCard : Claim7 := { stood := { row := macSumsUptoRow, standIns := [], harness := (true, "e0e4ab54ae4e279fc30dd471756ff3fb1ccdfc9b4d0b0d51abfdf0e26952e815"), looks := false }, kinds := [], alts := [], laidByText := true, laidKinds := [.data, .data, .data], laidTests := true, laidLooks := .later }
def MacSumsUptoCardSaid : Prop := Claim7.holds Tryd.pinned (.plain (OpenSpec.upto macSumsSpec)) macSumsUptoCard

/-- THE SECOND FORM's CARD OF 'skifflaw04.MacLong'. -/
def macLongUptoCard : Claim7 := { stood := { row := macLongUptoRow, standIns := [], harness := (true, "e0e4ab54ae4e279fc30dd471756ff3fb1ccdfc9b4d0b0d51abfdf0e26952e815"), looks := false }, kinds := [], alts := [], laidByText := true, laidKinds := [.data], laidTests := true, laidLooks := .later }
def MacLongUptoCardSaid : Prop := Claim7.holds Tryd.pinned (.plain (OpenSpec.upto macLongSpec)) macLongUptoCard

/-- THE SECOND FORM's CARD OF 'skifflaw04.MacExpands'. -/
def macExpandsUptoCard : Claim7 := { stood := { row := macExpandsUptoRow, standIns := [], harness := (true, "e0e4ab54ae4e279fc30dd471756ff3fb1ccdfc9b4d0b0d51abfdf0e26952e815"), looks := false }, kinds := [], alts := [], laidByText := true, laidKinds := [.data, .data, .data], laidTests := true, laidLooks := .later }
def MacExpandsUptoCardSaid : Prop := Claim7.holds Tryd.pinned (.plain (OpenSpec.upto macExpandsSpec)) macExpandsUptoCard

/-- THE SECOND FORM's CARD OF 'skifflaw04.MacMore'. -/
def macMoreUptoCard : Claim7 := { stood := { row := macMoreUptoRow, standIns := [], harness := (true, "e0e4ab54ae4e279fc30dd471756ff3fb1ccdfc9b4d0b0d51abfdf0e26952e815"), looks := false }, kinds := [], alts := [], laidByText := true, laidKinds := [.data], laidTests := true, laidLooks := .later }
def MacMoreUptoCardSaid : Prop := Claim7.holds Tryd.pinned (.plain (OpenSpec.upto macMoreSpec)) macMoreUptoCard

/-- THE SECOND FORM's CARD OF 'skifflaw03.Sha2Small'. -/
def sha2SmallUptoCard : Claim7 := { stood := { row := sha2SmallUptoRow, standIns := [], harness := (true, "e0e4ab54ae4e279fc30dd471756ff3fb1ccdfc9b4d0b0d51abfdf0e26952e815"), looks := false }, kinds := [], alts := [], laidByText := true, laidKinds := [.data, .data, .data], laidTests := true, laidLooks := .later }
def Sha2SmallUptoCardSaid : Prop := Claim7.holds Tryd.pinned (.plain (OpenSpec.upto sha2SmallSpec)) sha2SmallUptoCard

/-- THE SECOND FORM's CARD OF 'skifflaw03.Sha2Cuts'. -/
def sha2CutsUptoCard : Claim7 := { stood := { row := sha2CutsUptoRow, standIns := [], harness := (true, "e0e4ab54ae4e279fc30dd471756ff3fb1ccdfc9b4d0b0d51abfdf0e26952e815"), looks := false }, kinds := [], alts := [], laidByText := true, laidKinds := [.data], laidTests := true, laidLooks := .later }
def Sha2CutsUptoCardSaid : Prop := Claim7.holds Tryd.pinned (.plain (OpenSpec.upto sha2CutsSpec)) sha2CutsUptoCard

/-- THE SECOND FORM's CARD OF 'skifflaw03.Sha2Twice'. -/
def sha2TwiceUptoCard : Claim7 := { stood := { row := sha2TwiceUptoRow, standIns := [], harness := (true, "e0e4ab54ae4e279fc30dd471756ff3fb1ccdfc9b4d0b0d51abfdf0e26952e815"), looks := false }, kinds := [], alts := [], laidByText := true, laidKinds := [.data], laidTests := true, laidLooks := .later }
def Sha2TwiceUptoCardSaid : Prop := Claim7.holds Tryd.pinned (.plain (OpenSpec.upto sha2TwiceSpec)) sha2TwiceUptoCard

/-- THE SECOND FORM's CARD OF 'skifflaw04.MacLabels'. -/
def macLabelsUptoCard : Claim7 := { stood := { row := macLabelsUptoRow, standIns := [], harness := (true, "e0e4ab54ae4e279fc30dd471756ff3fb1ccdfc9b4d0b0d51abfdf0e26952e815"), looks := false }, kinds := [], alts := [], laidByText := true, laidKinds := [.data, .data, .data], laidTests := true, laidLooks := .later }
def MacLabelsUptoCardSaid : Prop := Claim7.holds Tryd.pinned (.plain (OpenSpec.upto macLabelsSpec)) macLabelsUptoCard
end Rows
end Go.Proofs.YtdmhnlkeaknpeaaDoor
