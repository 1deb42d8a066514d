/-
  DERIVED. GIVEN WITH THE SEED: THE CARDS: each row of YtfjamikpahmfhaaDoorRows.lean that lists a variable, with what it lists TIED to the program's text (the seventh form; the later family's looks); each row that meets fmt, with fmt's text TOLD by the authors' own Lean function (tested against real Go, not proved from fmt's source: count such statements apart). THE CARD IS WHAT COUNTS. Prove the row's statement (the work); the ties are given (YtfjamikpahmfhaaDoorTie.lean); close each card by the builder's one call (the guide's Derived/Test/ToyasCard.lean, 'card_holds'). Laid BY PROGRAM, IN A SANDBOX (cutbox-door.mjs). By AI agents, Wed Nov 11 2026. No macro, syntax, notation, axiom, sorry.
-/
import Derived.Test.YtfjamikpahmfhaaDoorRows
import GoSem.ClaimSeven
namespace Go.Proofs.YtfjamikpahmfhaaDoor
namespace Rows

/-- THE TIED CARD OF 'waystonelaw02.PrefixBack'. -/
def prefixBackCard : Claim7 := { stood := { row := prefixBackRow, standIns := [], harness := (true, "301da80ec0fb6b869c0720fbc36f30f49090fe7435f3d6c8065fd42a2ce683ef"), looks := true }, kinds := [], alts := [], laidByText := true, laidKinds := [.data, .data, .data, .data, .sentinel, .sentinel, .pinned], laidTests := true, laidLooks := .later }
def PrefixBackCardSaid : Prop := Claim7.holds Tryd.pinned (.plain (OpenSpec.ofChange prefixBackSpec)) prefixBackCard

/-- THE TIED CARD OF 'waystonelaw07.RuleBack'. -/
def ruleBackCard : Claim7 := { stood := { row := ruleBackRow, standIns := [], harness := (true, "301da80ec0fb6b869c0720fbc36f30f49090fe7435f3d6c8065fd42a2ce683ef"), looks := true }, kinds := [], alts := [], laidByText := true, laidKinds := [.data, .data, .data, .data, .sentinel, .sentinel, .pinned], laidTests := true, laidLooks := .later }
def RuleBackCardSaid : Prop := Claim7.holds Tryd.pinned (.plain (OpenSpec.ofChange ruleBackSpec)) ruleBackCard

/-- THE TIED CARD OF 'waystonelaw07.RuleApart'. -/
def ruleApartCard : Claim7 := { stood := { row := ruleApartRow, standIns := [], harness := (true, "301da80ec0fb6b869c0720fbc36f30f49090fe7435f3d6c8065fd42a2ce683ef"), looks := true }, kinds := [], alts := [], laidByText := true, laidKinds := [.data, .data, .data, .data, .sentinel, .sentinel, .pinned], laidTests := true, laidLooks := .later }
def RuleApartCardSaid : Prop := Claim7.holds Tryd.pinned (.plain (OpenSpec.ofChange ruleApartSpec)) ruleApartCard

/-- THE TIED CARD OF 'waystonelaw07.RuleTells'. -/
def ruleTellsCard : Claim7 := { stood := { row := ruleTellsRow, standIns := [], harness := (true, "301da80ec0fb6b869c0720fbc36f30f49090fe7435f3d6c8065fd42a2ce683ef"), looks := true }, kinds := [], alts := [], laidByText := true, laidKinds := [.data, .data, .data, .data, .sentinel, .sentinel, .pinned], laidTests := true, laidLooks := .later }
def RuleTellsCardSaid : Prop := Claim7.holds Tryd.pinned (.plain (OpenSpec.ofChange ruleTellsSpec)) ruleTellsCard

/-- THE TIED CARD OF 'waystonelaw07.RuleFirst'. -/
def ruleFirstCard : Claim7 := { stood := { row := ruleFirstRow, standIns := [], harness := (true, "301da80ec0fb6b869c0720fbc36f30f49090fe7435f3d6c8065fd42a2ce683ef"), looks := true }, kinds := [], alts := [], laidByText := true, laidKinds := [.data, .data, .data, .data, .sentinel, .sentinel, .pinned], laidTests := true, laidLooks := .later }
def RuleFirstCardSaid : Prop := Claim7.holds Tryd.pinned (.plain (OpenSpec.ofChange ruleFirstSpec)) ruleFirstCard

/-- THE SECOND FORM's CARD OF 'waystonelaw02.PrefixBack'. -/
def prefixBackUptoCard : Claim7 := { stood := { row := prefixBackUptoRow, standIns := [], harness := (true, "301da80ec0fb6b869c0720fbc36f30f49090fe7435f3d6c8065fd42a2ce683ef"), looks := true }, kinds := [], alts := [], laidByText := true, laidKinds := [.data, .data, .data, .data, .sentinel, .sentinel, .pinned], laidTests := true, laidLooks := .later }
def PrefixBackUptoCardSaid : Prop := Claim7.holds Tryd.pinned (.plain (OpenSpec.upto prefixBackSpec)) prefixBackUptoCard

/-- THE SECOND FORM's CARD OF 'waystonelaw07.RuleBack'. -/
def ruleBackUptoCard : Claim7 := { stood := { row := ruleBackUptoRow, standIns := [], harness := (true, "301da80ec0fb6b869c0720fbc36f30f49090fe7435f3d6c8065fd42a2ce683ef"), looks := true }, kinds := [], alts := [], laidByText := true, laidKinds := [.data, .data, .data, .data, .sentinel, .sentinel, .pinned], laidTests := true, laidLooks := .later }
def RuleBackUptoCardSaid : Prop := Claim7.holds Tryd.pinned (.plain (OpenSpec.upto ruleBackSpec)) ruleBackUptoCard

/-- THE SECOND FORM's CARD OF 'waystonelaw07.RuleApart'. -/
def ruleApartUptoCard : Claim7 := { stood := { row := ruleApartUptoRow, standIns := [], harness := (true, "301da80ec0fb6b869c0720fbc36f30f49090fe7435f3d6c8065fd42a2ce683ef"), looks := true }, kinds := [], alts := [], laidByText := true, laidKinds := [.data, .data, .data, .data, .sentinel, .sentinel, .pinned], laidTests := true, laidLooks := .later }
def RuleApartUptoCardSaid : Prop := Claim7.holds Tryd.pinned (.plain (OpenSpec.upto ruleApartSpec)) ruleApartUptoCard

/-- THE SECOND FORM's CARD OF 'waystonelaw07.RuleTells'. -/
def ruleTellsUptoCard : Claim7 := { stood := { row := ruleTellsUptoRow, standIns := [], harness := (true, "301da80ec0fb6b869c0720fbc36f30f49090fe7435f3d6c8065fd42a2ce683ef"), looks := true }, kinds := [], alts := [], laidByText := true, laidKinds := [.data, .data, .data, .data, .sentinel, .sentinel, .pinned], laidTests := true, laidLooks := .later }
def RuleTellsUptoCardSaid : Prop := Claim7.holds Tryd.pinned (.plain (OpenSpec.upto ruleTellsSpec)) ruleTellsUptoCard

/-- THE SECOND FORM's CARD OF 'waystonelaw07.RuleFirst'. -/
def ruleFirstUptoCard : Claim7 := { stood := { row := ruleFirstUptoRow, standIns := [], harness := (true, "301da80ec0fb6b869c0720fbc36f30f49090fe7435f3d6c8065fd42a2ce683ef"), looks := true }, kinds := [], alts := [], laidByText := true, laidKinds := [.data, .data, .data, .data, .sentinel, .sentinel, .pinned], laidTests := true, laidLooks := .later }
def RuleFirstUptoCardSaid : Prop := Claim7.holds Tryd.pinned (.plain (OpenSpec.upto ruleFirstSpec)) ruleFirstUptoCard
end Rows
end Go.Proofs.YtfjamikpahmfhaaDoor
