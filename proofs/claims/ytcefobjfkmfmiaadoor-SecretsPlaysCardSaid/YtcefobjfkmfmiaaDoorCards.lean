/-
  DERIVED. GIVEN WITH THE SEED: THE CARDS: each row of YtcefobjfkmfmiaaDoorRows.lean that lists a variable, with what it lists TIED to the program's text (the seventh form; the later family's looks); each row that meets fmt, with fmt's text TOLD by the authors' own Lean function (tested against real Go, not proved from fmt's source: count such statements apart). THE CARD IS WHAT COUNTS. Prove the row's statement (the work); the ties are given (YtcefobjfkmfmiaaDoorTie.lean); close each card by the builder's one call (the guide's Derived/Test/ToyasCard.lean, 'card_holds'). Laid BY PROGRAM, IN A SANDBOX (cutbox-door.mjs). By AI agents, Wed Nov 11 2026. No macro, syntax, notation, axiom, sorry.
-/
import Derived.Test.YtcefobjfkmfmiaaDoorRows
import GoSem.ClaimSeven
namespace Go.Proofs.YtcefobjfkmfmiaaDoor
namespace Rows

/-- THE TIED CARD OF 'skifflaw13.GuardKeys'. -/
def guardKeysCard : Claim7 := { stood := { row := guardKeysRow, standIns := [], harness := (true, "9af494e39d17c69892efef07be13eb0698da01ebf0614d6ad232398164abd249"), looks := false }, kinds := [], alts := [], laidByText := true, laidKinds := [.data, .data, .data], laidTests := true, laidLooks := .later }
def GuardKeysCardSaid : Prop := Claim7.holds Tryd.pinned (.plain (OpenSpec.ofChange guardKeysSpec)) guardKeysCard

/-- THE TIED CARD OF 'skifflaw15.SecretsFinished'. -/
def secretsFinishedCard : Claim7 := { stood := { row := secretsFinishedRow, standIns := [], harness := (true, "9af494e39d17c69892efef07be13eb0698da01ebf0614d6ad232398164abd249"), looks := false }, kinds := [], alts := [], laidByText := true, laidKinds := [.data, .data, .data], laidTests := true, laidLooks := .later }
def SecretsFinishedCardSaid : Prop := Claim7.holds Tryd.pinned (.plain (OpenSpec.ofChange secretsFinishedSpec)) secretsFinishedCard

/-- THE TIED CARD OF 'skifflaw15.SecretsPlays'. -/
def secretsPlaysCard : Claim7 := { stood := { row := secretsPlaysRow, standIns := [], harness := (true, "9af494e39d17c69892efef07be13eb0698da01ebf0614d6ad232398164abd249"), looks := false }, kinds := [], alts := [], laidByText := true, laidKinds := [.data, .data, .data], laidTests := true, laidLooks := .later }
def SecretsPlaysCardSaid : Prop := Claim7.holds Tryd.pinned (.plain (OpenSpec.ofChange secretsPlaysSpec)) secretsPlaysCard

/-- THE TIED CARD OF 'skifflaw15.SecretsCuts'. -/
def secretsCutsCard : Claim7 := { stood := { row := secretsCutsRow, standIns := [], harness := (true, "9af494e39d17c69892efef07be13eb0698da01ebf0614d6ad232398164abd249"), looks := false }, kinds := [], alts := [], laidByText := true, laidKinds := [.data, .data, .data], laidTests := true, laidLooks := .later }
def SecretsCutsCardSaid : Prop := Claim7.holds Tryd.pinned (.plain (OpenSpec.ofChange secretsCutsSpec)) secretsCutsCard

/-- THE TIED CARD OF 'skifflaw15.SecretsNil'. -/
def secretsNilCard : Claim7 := { stood := { row := secretsNilRow, standIns := [], harness := (true, "9af494e39d17c69892efef07be13eb0698da01ebf0614d6ad232398164abd249"), looks := false }, kinds := [], alts := [], laidByText := true, laidKinds := [.data, .data, .data], laidTests := true, laidLooks := .later }
def SecretsNilCardSaid : Prop := Claim7.holds Tryd.pinned (.plain (OpenSpec.ofChange secretsNilSpec)) secretsNilCard

/-- THE TIED CARD OF 'skifflaw13.GuardSeals'. -/
def guardSealsCard : Claim7 := { stood := { row := guardSealsRow, standIns := [], harness := (true, "9af494e39d17c69892efef07be13eb0698da01ebf0614d6ad232398164abd249"), looks := false }, kinds := [], alts := [], laidByText := true, laidKinds := [.data], laidTests := true, laidLooks := .later }
def GuardSealsCardSaid : Prop := Claim7.holds Tryd.pinned (.plain (OpenSpec.ofChange guardSealsSpec)) guardSealsCard

/-- THE TIED CARD OF 'skifflaw13.GuardBack'. -/
def guardBackCard : Claim7 := { stood := { row := guardBackRow, standIns := [], harness := (true, "9af494e39d17c69892efef07be13eb0698da01ebf0614d6ad232398164abd249"), looks := false }, kinds := [], alts := [], laidByText := true, laidKinds := [.data], laidTests := true, laidLooks := .later }
def GuardBackCardSaid : Prop := Claim7.holds Tryd.pinned (.plain (OpenSpec.ofChange guardBackSpec)) guardBackCard

/-- THE TIED CARD OF 'skifflaw13.GuardOpens'. -/
def guardOpensCard : Claim7 := { stood := { row := guardOpensRow, standIns := [], harness := (true, "9af494e39d17c69892efef07be13eb0698da01ebf0614d6ad232398164abd249"), looks := false }, kinds := [], alts := [], laidByText := true, laidKinds := [.data], laidTests := true, laidLooks := .later }
def GuardOpensCardSaid : Prop := Claim7.holds Tryd.pinned (.plain (OpenSpec.ofChange guardOpensSpec)) guardOpensCard

/-- THE TIED CARD OF 'skifflaw13.GuardRow'. -/
def guardRowCard : Claim7 := { stood := { row := guardRowRow, standIns := [], harness := (true, "9af494e39d17c69892efef07be13eb0698da01ebf0614d6ad232398164abd249"), looks := false }, kinds := [], alts := [], laidByText := true, laidKinds := [.data], laidTests := true, laidLooks := .later }
def GuardRowCardSaid : Prop := Claim7.holds Tryd.pinned (.plain (OpenSpec.ofChange guardRowSpec)) guardRowCard

/-- THE SECOND FORM's CARD OF 'skifflaw13.GuardKeys'. -/
def guardKeysUptoCard : Claim7 := { stood := { row := guardKeysUptoRow, standIns := [], harness := (true, "9af494e39d17c69892efef07be13eb0698da01ebf0614d6ad232398164abd249"), looks := false }, kinds := [], alts := [], laidByText := true, laidKinds := [.data, .data, .data], laidTests := true, laidLooks := .later }
def GuardKeysUptoCardSaid : Prop := Claim7.holds Tryd.pinned (.plain (OpenSpec.upto guardKeysSpec)) guardKeysUptoCard

/-- THE SECOND FORM's CARD OF 'skifflaw15.SecretsFinished'. -/
def secretsFinishedUptoCard : Claim7 := { stood := { row := secretsFinishedUptoRow, standIns := [], harness := (true, "9af494e39d17c69892efef07be13eb0698da01ebf0614d6ad232398164abd249"), looks := false }, kinds := [], alts := [], laidByText := true, laidKinds := [.data, .data, .data], laidTests := true, laidLooks := .later }
def SecretsFinishedUptoCardSaid : Prop := Claim7.holds Tryd.pinned (.plain (OpenSpec.upto secretsFinishedSpec)) secretsFinishedUptoCard

/-- THE SECOND FORM's CARD OF 'skifflaw15.SecretsPlays'. -/
def secretsPlaysUptoCard : Claim7 := { stood := { row := secretsPlaysUptoRow, standIns := [], harness := (true, "9af494e39d17c69892efef07be13eb0698da01ebf0614d6ad232398164abd249"), looks := false }, kinds := [], alts := [], laidByText := true, laidKinds := [.data, .data, .data], laidTests := true, laidLooks := .later }
def SecretsPlaysUptoCardSaid : Prop := Claim7.holds Tryd.pinned (.plain (OpenSpec.upto secretsPlaysSpec)) secretsPlaysUptoCard

/-- THE SECOND FORM's CARD OF 'skifflaw15.SecretsCuts'. -/
def secretsCutsUptoCard : Claim7 := { stood := { row := secretsCutsUptoRow, standIns := [], harness := (true, "9af494e39d17c69892efef07be13eb0698da01ebf0614d6ad232398164abd249"), looks := false }, kinds := [], alts := [], laidByText := true, laidKinds := [.data, .data, .data], laidTests := true, laidLooks := .later }
def SecretsCutsUptoCardSaid : Prop := Claim7.holds Tryd.pinned (.plain (OpenSpec.upto secretsCutsSpec)) secretsCutsUptoCard

/-- THE SECOND FORM's CARD OF 'skifflaw15.SecretsNil'. -/
def secretsNilUptoCard : Claim7 := { stood := { row := secretsNilUptoRow, standIns := [], harness := (true, "9af494e39d17c69892efef07be13eb0698da01ebf0614d6ad232398164abd249"), looks := false }, kinds := [], alts := [], laidByText := true, laidKinds := [.data, .data, .data], laidTests := true, laidLooks := .later }
def SecretsNilUptoCardSaid : Prop := Claim7.holds Tryd.pinned (.plain (OpenSpec.upto secretsNilSpec)) secretsNilUptoCard

/-- THE SECOND FORM's CARD OF 'skifflaw13.GuardSeals'. -/
def guardSealsUptoCard : Claim7 := { stood := { row := guardSealsUptoRow, standIns := [], harness := (true, "9af494e39d17c69892efef07be13eb0698da01ebf0614d6ad232398164abd249"), looks := false }, kinds := [], alts := [], laidByText := true, laidKinds := [.data], laidTests := true, laidLooks := .later }
def GuardSealsUptoCardSaid : Prop := Claim7.holds Tryd.pinned (.plain (OpenSpec.upto guardSealsSpec)) guardSealsUptoCard

/-- THE SECOND FORM's CARD OF 'skifflaw13.GuardBack'. -/
def guardBackUptoCard : Claim7 := { stood := { row := guardBackUptoRow, standIns := [], harness := (true, "9af494e39d17c69892efef07be13eb0698da01ebf0614d6ad232398164abd249"), looks := false }, kinds := [], alts := [], laidByText := true, laidKinds := [.data], laidTests := true, laidLooks := .later }
def GuardBackUptoCardSaid : Prop := Claim7.holds Tryd.pinned (.plain (OpenSpec.upto guardBackSpec)) guardBackUptoCard

/-- THE SECOND FORM's CARD OF 'skifflaw13.GuardOpens'. -/
def guardOpensUptoCard : Claim7 := { stood := { row := guardOpensUptoRow, standIns := [], harness := (true, "9af494e39d17c69892efef07be13eb0698da01ebf0614d6ad232398164abd249"), looks := false }, kinds := [], alts := [], laidByText := true, laidKinds := [.data], laidTests := true, laidLooks := .later }
def GuardOpensUptoCardSaid : Prop := Claim7.holds Tryd.pinned (.plain (OpenSpec.upto guardOpensSpec)) guardOpensUptoCard

/-- THE SECOND FORM's CARD OF 'skifflaw13.GuardRow'. -/
def guardRowUptoCard : Claim7 := { stood := { row := guardRowUptoRow, standIns := [], harness := (true, "9af494e39d17c69892efef07be13eb0698da01ebf0614d6ad232398164abd249"), looks := false }, kinds := [], alts := [], laidByText := true, laidKinds := [.data], laidTests := true, laidLooks := .later }
def GuardRowUptoCardSaid : Prop := Claim7.holds Tryd.pinned (.plain (OpenSpec.upto guardRowSpec)) guardRowUptoCard
end Rows
end Go.Proofs.YtcefobjfkmfmiaaDoor
