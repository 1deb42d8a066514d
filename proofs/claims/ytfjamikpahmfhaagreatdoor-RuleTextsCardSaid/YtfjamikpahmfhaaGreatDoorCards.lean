/-
  DERIVED. GIVEN WITH THE SEED: THE CARDS: each row of YtfjamikpahmfhaaGreatDoorRows.lean that lists a variable, with what it lists TIED to the program's text (the seventh form; the later family's looks); each row that meets fmt, with fmt's text TOLD by the authors' own Lean function (tested against real Go, not proved from fmt's source: count such statements apart). THE CARD IS WHAT COUNTS. Prove the row's statement (the work); the ties are given (YtfjamikpahmfhaaGreatDoorTie.lean); close each card by the builder's one call (the guide's Derived/Test/ToyasCard.lean, 'card_holds'). Laid BY PROGRAM, IN A SANDBOX (cutbox-door.mjs). By AI agents, Wed Nov 11 2026. No macro, syntax, notation, axiom, sorry.
-/
import Derived.Test.YtfjamikpahmfhaaGreatDoorRows
import GoSem.ClaimSeven
namespace Go.Proofs.YtfjamikpahmfhaaGreatDoor
namespace Rows

/-- THE TIED CARD OF 'waystonelaw07.RuleTexts'. -/
def ruleTextsCard : Claim7 := { stood := { row := ruleTextsRow, standIns := [], harness := (true, "a438b13c0e251f61b6d04b9b9295878224090174e213c7e36f57d321a59f022d"), looks := true }, kinds := [], alts := [], laidByText := true, laidKinds := [.data, .data, .data, .data, .sentinel, .sentinel, .pinned], laidTests := true, laidLooks := .later }
def RuleTextsCardSaid : Prop := Claim7.holds Tryz.pinned (.plain (OpenSpec.ofChange ruleTextsSpec)) ruleTextsCard

/-- THE TIED CARD OF 'waystonelaw07.RuleMatches'. -/
def ruleMatchesCard : Claim7 := { stood := { row := ruleMatchesRow, standIns := [], harness := (true, "a438b13c0e251f61b6d04b9b9295878224090174e213c7e36f57d321a59f022d"), looks := true }, kinds := [], alts := [], laidByText := true, laidKinds := [.data, .data, .data, .data, .sentinel, .sentinel, .pinned], laidTests := true, laidLooks := .later }
def RuleMatchesCardSaid : Prop := Claim7.holds Tryz.pinned (.plain (OpenSpec.ofChange ruleMatchesSpec)) ruleMatchesCard

/-- THE TIED CARD OF 'waystonelaw16.BranchRoots'. -/
def branchRootsCard : Claim7 := { stood := { row := branchRootsRow, standIns := [], harness := (true, "a438b13c0e251f61b6d04b9b9295878224090174e213c7e36f57d321a59f022d"), looks := true }, kinds := [], alts := [], laidByText := true, laidKinds := [.data, .pinned], laidTests := true, laidLooks := .later }
def BranchRootsCardSaid : Prop := Claim7.holds Tryz.pinned (.plain (OpenSpec.ofChange branchRootsSpec)) branchRootsCard

/-- THE TIED CARD OF 'waystonelaw16.BranchAgain'. -/
def branchAgainCard : Claim7 := { stood := { row := branchAgainRow, standIns := [], harness := (true, "a438b13c0e251f61b6d04b9b9295878224090174e213c7e36f57d321a59f022d"), looks := true }, kinds := [], alts := [], laidByText := true, laidKinds := [.data, .pinned], laidTests := true, laidLooks := .later }
def BranchAgainCardSaid : Prop := Claim7.holds Tryz.pinned (.plain (OpenSpec.ofChange branchAgainSpec)) branchAgainCard

/-- THE TIED CARD OF 'waystonelaw16.BranchPlays'. -/
def branchPlaysCard : Claim7 := { stood := { row := branchPlaysRow, standIns := [], harness := (true, "a438b13c0e251f61b6d04b9b9295878224090174e213c7e36f57d321a59f022d"), looks := true }, kinds := [], alts := [], laidByText := true, laidKinds := [.data, .pinned], laidTests := true, laidLooks := .later }
def BranchPlaysCardSaid : Prop := Claim7.holds Tryz.pinned (.plain (OpenSpec.ofChange branchPlaysSpec)) branchPlaysCard

/-- THE TIED CARD OF 'waystonelaw16.BranchStays'. -/
def branchStaysCard : Claim7 := { stood := { row := branchStaysRow, standIns := [], harness := (true, "a438b13c0e251f61b6d04b9b9295878224090174e213c7e36f57d321a59f022d"), looks := true }, kinds := [], alts := [], laidByText := true, laidKinds := [.data, .pinned], laidTests := true, laidLooks := .later }
def BranchStaysCardSaid : Prop := Claim7.holds Tryz.pinned (.plain (OpenSpec.ofChange branchStaysSpec)) branchStaysCard

/-- THE TIED CARD OF 'waystonelaw16.BranchNil'. -/
def branchNilCard : Claim7 := { stood := { row := branchNilRow, standIns := [], harness := (true, "a438b13c0e251f61b6d04b9b9295878224090174e213c7e36f57d321a59f022d"), looks := true }, kinds := [], alts := [], laidByText := true, laidKinds := [.data, .pinned], laidTests := true, laidLooks := .later }
def BranchNilCardSaid : Prop := Claim7.holds Tryz.pinned (.plain (OpenSpec.ofChange branchNilSpec)) branchNilCard

/-- THE SECOND FORM's CARD OF 'waystonelaw07.RuleTexts'. -/
def ruleTextsUptoCard : Claim7 := { stood := { row := ruleTextsUptoRow, standIns := [], harness := (true, "a438b13c0e251f61b6d04b9b9295878224090174e213c7e36f57d321a59f022d"), looks := true }, kinds := [], alts := [], laidByText := true, laidKinds := [.data, .data, .data, .data, .sentinel, .sentinel, .pinned], laidTests := true, laidLooks := .later }
def RuleTextsUptoCardSaid : Prop := Claim7.holds Tryz.pinned (.plain (OpenSpec.upto ruleTextsSpec)) ruleTextsUptoCard

/-- THE SECOND FORM's CARD OF 'waystonelaw07.RuleMatches'. -/
def ruleMatchesUptoCard : Claim7 := { stood := { row := ruleMatchesUptoRow, standIns := [], harness := (true, "a438b13c0e251f61b6d04b9b9295878224090174e213c7e36f57d321a59f022d"), looks := true }, kinds := [], alts := [], laidByText := true, laidKinds := [.data, .data, .data, .data, .sentinel, .sentinel, .pinned], laidTests := true, laidLooks := .later }
def RuleMatchesUptoCardSaid : Prop := Claim7.holds Tryz.pinned (.plain (OpenSpec.upto ruleMatchesSpec)) ruleMatchesUptoCard

/-- THE SECOND FORM's CARD OF 'waystonelaw16.BranchRoots'. -/
def branchRootsUptoCard : Claim7 := { stood := { row := branchRootsUptoRow, standIns := [], harness := (true, "a438b13c0e251f61b6d04b9b9295878224090174e213c7e36f57d321a59f022d"), looks := true }, kinds := [], alts := [], laidByText := true, laidKinds := [.data, .pinned], laidTests := true, laidLooks := .later }
def BranchRootsUptoCardSaid : Prop := Claim7.holds Tryz.pinned (.plain (OpenSpec.upto branchRootsSpec)) branchRootsUptoCard

/-- THE SECOND FORM's CARD OF 'waystonelaw16.BranchAgain'. -/
def branchAgainUptoCard : Claim7 := { stood := { row := branchAgainUptoRow, standIns := [], harness := (true, "a438b13c0e251f61b6d04b9b9295878224090174e213c7e36f57d321a59f022d"), looks := true }, kinds := [], alts := [], laidByText := true, laidKinds := [.data, .pinned], laidTests := true, laidLooks := .later }
def BranchAgainUptoCardSaid : Prop := Claim7.holds Tryz.pinned (.plain (OpenSpec.upto branchAgainSpec)) branchAgainUptoCard

/-- THE SECOND FORM's CARD OF 'waystonelaw16.BranchPlays'. -/
def branchPlaysUptoCard : Claim7 := { stood := { row := branchPlaysUptoRow, standIns := [], harness := (true, "a438b13c0e251f61b6d04b9b9295878224090174e213c7e36f57d321a59f022d"), looks := true }, kinds := [], alts := [], laidByText := true, laidKinds := [.data, .pinned], laidTests := true, laidLooks := .later }
def BranchPlaysUptoCardSaid : Prop := Claim7.holds Tryz.pinned (.plain (OpenSpec.upto branchPlaysSpec)) branchPlaysUptoCard

/-- THE SECOND FORM's CARD OF 'waystonelaw16.BranchStays'. -/
def branchStaysUptoCard : Claim7 := { stood := { row := branchStaysUptoRow, standIns := [], harness := (true, "a438b13c0e251f61b6d04b9b9295878224090174e213c7e36f57d321a59f022d"), looks := true }, kinds := [], alts := [], laidByText := true, laidKinds := [.data, .pinned], laidTests := true, laidLooks := .later }
def BranchStaysUptoCardSaid : Prop := Claim7.holds Tryz.pinned (.plain (OpenSpec.upto branchStaysSpec)) branchStaysUptoCard

/-- THE SECOND FORM's CARD OF 'waystonelaw16.BranchNil'. -/
def branchNilUptoCard : Claim7 := { stood := { row := branchNilUptoRow, standIns := [], harness := (true, "a438b13c0e251f61b6d04b9b9295878224090174e213c7e36f57d321a59f022d"), looks := true }, kinds := [], alts := [], laidByText := true, laidKinds := [.data, .pinned], laidTests := true, laidLooks := .later }
def BranchNilUptoCardSaid : Prop := Claim7.holds Tryz.pinned (.plain (OpenSpec.upto branchNilSpec)) branchNilUptoCard
end Rows
end Go.Proofs.YtfjamikpahmfhaaGreatDoor
