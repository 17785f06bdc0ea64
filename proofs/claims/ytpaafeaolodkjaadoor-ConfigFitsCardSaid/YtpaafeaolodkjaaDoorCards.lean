/-
  DERIVED. GIVEN WITH THE SEED: THE CARDS: each row of YtpaafeaolodkjaaDoorRows.lean that lists a variable, with what it lists TIED to the program's text (the seventh form; the later family's looks); each row that meets fmt, with fmt's text TOLD by the authors' own Lean function (tested against real Go, not proved from fmt's source: count such statements apart). THE CARD IS WHAT COUNTS. Prove the row's statement (the work); the ties are given (YtpaafeaolodkjaaDoorTie.lean); close each card by the builder's one call (the guide's Derived/Test/ToyasCard.lean, 'card_holds'). Laid BY PROGRAM, IN A SANDBOX (cutbox-door.mjs). By AI agents, Wed Nov 11 2026. No macro, syntax, notation, axiom, sorry.
-/
import Derived.Test.YtpaafeaolodkjaaDoorRows
import GoSem.ClaimSeven
namespace Go.Proofs.YtpaafeaolodkjaaDoor
namespace Rows

/-- THE TIED CARD OF 'shellgamelaw13.ConfigFirst'. -/
def configFirstCard : Claim7 := { stood := { row := configFirstRow, standIns := [], harness := (true, "e5c9f4d28e16435e4f70fab4889d3a636bd356055cccd00db68fe573a0516ccb"), looks := true }, kinds := [], alts := [], laidByText := true, laidKinds := [.handle], laidTests := true, laidLooks := .later }
def ConfigFirstCardSaid : Prop := Claim7.holds Tryd.pinned (.plain (OpenSpec.ofChange configFirstSpec)) configFirstCard

/-- THE TIED CARD OF 'shellgamelaw13.ConfigTables'. -/
def configTablesCard : Claim7 := { stood := { row := configTablesRow, standIns := [], harness := (true, "e5c9f4d28e16435e4f70fab4889d3a636bd356055cccd00db68fe573a0516ccb"), looks := true }, kinds := [], alts := [], laidByText := true, laidKinds := [.handle], laidTests := true, laidLooks := .later }
def ConfigTablesCardSaid : Prop := Claim7.holds Tryd.pinned (.plain (OpenSpec.ofChange configTablesSpec)) configTablesCard

/-- THE TIED CARD OF 'shellgamelaw13.ConfigBatches'. -/
def configBatchesCard : Claim7 := { stood := { row := configBatchesRow, standIns := [], harness := (true, "e5c9f4d28e16435e4f70fab4889d3a636bd356055cccd00db68fe573a0516ccb"), looks := true }, kinds := [], alts := [], laidByText := true, laidKinds := [.handle], laidTests := true, laidLooks := .later }
def ConfigBatchesCardSaid : Prop := Claim7.holds Tryd.pinned (.plain (OpenSpec.ofChange configBatchesSpec)) configBatchesCard

/-- THE TIED CARD OF 'shellgamelaw13.ConfigChecks'. -/
def configChecksCard : Claim7 := { stood := { row := configChecksRow, standIns := [], harness := (true, "e5c9f4d28e16435e4f70fab4889d3a636bd356055cccd00db68fe573a0516ccb"), looks := true }, kinds := [], alts := [], laidByText := true, laidKinds := [.handle], laidTests := true, laidLooks := .later }
def ConfigChecksCardSaid : Prop := Claim7.holds Tryd.pinned (.plain (OpenSpec.ofChange configChecksSpec)) configChecksCard

/-- THE TIED CARD OF 'shellgamelaw13.ConfigFits'. -/
def configFitsCard : Claim7 := { stood := { row := configFitsRow, standIns := [], harness := (true, "e5c9f4d28e16435e4f70fab4889d3a636bd356055cccd00db68fe573a0516ccb"), looks := true }, kinds := [], alts := [], laidByText := true, laidKinds := [.handle], laidTests := true, laidLooks := .later }
def ConfigFitsCardSaid : Prop := Claim7.holds Tryd.pinned (.plain (OpenSpec.ofChange configFitsSpec)) configFitsCard

/-- THE TIED CARD OF 'shellgamelaw13.ConfigMore'. -/
def configMoreCard : Claim7 := { stood := { row := configMoreRow, standIns := [], harness := (true, "e5c9f4d28e16435e4f70fab4889d3a636bd356055cccd00db68fe573a0516ccb"), looks := true }, kinds := [], alts := [], laidByText := true, laidKinds := [.handle], laidTests := true, laidLooks := .later }
def ConfigMoreCardSaid : Prop := Claim7.holds Tryd.pinned (.plain (OpenSpec.ofChange configMoreSpec)) configMoreCard

/-- THE SECOND FORM's CARD OF 'shellgamelaw13.ConfigFirst'. -/
def configFirstUptoCard : Claim7 := { stood := { row := configFirstUptoRow, standIns := [], harness := (true, "e5c9f4d28e16435e4f70fab4889d3a636bd356055cccd00db68fe573a0516ccb"), looks := true }, kinds := [], alts := [], laidByText := true, laidKinds := [.handle], laidTests := true, laidLooks := .later }
def ConfigFirstUptoCardSaid : Prop := Claim7.holds Tryd.pinned (.plain (OpenSpec.upto configFirstSpec)) configFirstUptoCard

/-- THE SECOND FORM's CARD OF 'shellgamelaw13.ConfigTables'. -/
def configTablesUptoCard : Claim7 := { stood := { row := configTablesUptoRow, standIns := [], harness := (true, "e5c9f4d28e16435e4f70fab4889d3a636bd356055cccd00db68fe573a0516ccb"), looks := true }, kinds := [], alts := [], laidByText := true, laidKinds := [.handle], laidTests := true, laidLooks := .later }
def ConfigTablesUptoCardSaid : Prop := Claim7.holds Tryd.pinned (.plain (OpenSpec.upto configTablesSpec)) configTablesUptoCard

/-- THE SECOND FORM's CARD OF 'shellgamelaw13.ConfigBatches'. -/
def configBatchesUptoCard : Claim7 := { stood := { row := configBatchesUptoRow, standIns := [], harness := (true, "e5c9f4d28e16435e4f70fab4889d3a636bd356055cccd00db68fe573a0516ccb"), looks := true }, kinds := [], alts := [], laidByText := true, laidKinds := [.handle], laidTests := true, laidLooks := .later }
def ConfigBatchesUptoCardSaid : Prop := Claim7.holds Tryd.pinned (.plain (OpenSpec.upto configBatchesSpec)) configBatchesUptoCard

/-- THE SECOND FORM's CARD OF 'shellgamelaw13.ConfigChecks'. -/
def configChecksUptoCard : Claim7 := { stood := { row := configChecksUptoRow, standIns := [], harness := (true, "e5c9f4d28e16435e4f70fab4889d3a636bd356055cccd00db68fe573a0516ccb"), looks := true }, kinds := [], alts := [], laidByText := true, laidKinds := [.handle], laidTests := true, laidLooks := .later }
def ConfigChecksUptoCardSaid : Prop := Claim7.holds Tryd.pinned (.plain (OpenSpec.upto configChecksSpec)) configChecksUptoCard

/-- THE SECOND FORM's CARD OF 'shellgamelaw13.ConfigFits'. -/
def configFitsUptoCard : Claim7 := { stood := { row := configFitsUptoRow, standIns := [], harness := (true, "e5c9f4d28e16435e4f70fab4889d3a636bd356055cccd00db68fe573a0516ccb"), looks := true }, kinds := [], alts := [], laidByText := true, laidKinds := [.handle], laidTests := true, laidLooks := .later }
def ConfigFitsUptoCardSaid : Prop := Claim7.holds Tryd.pinned (.plain (OpenSpec.upto configFitsSpec)) configFitsUptoCard

/-- THE SECOND FORM's CARD OF 'shellgamelaw13.ConfigMore'. -/
def configMoreUptoCard : Claim7 := { stood := { row := configMoreUptoRow, standIns := [], harness := (true, "e5c9f4d28e16435e4f70fab4889d3a636bd356055cccd00db68fe573a0516ccb"), looks := true }, kinds := [], alts := [], laidByText := true, laidKinds := [.handle], laidTests := true, laidLooks := .later }
def ConfigMoreUptoCardSaid : Prop := Claim7.holds Tryd.pinned (.plain (OpenSpec.upto configMoreSpec)) configMoreUptoCard
end Rows
end Go.Proofs.YtpaafeaolodkjaaDoor
