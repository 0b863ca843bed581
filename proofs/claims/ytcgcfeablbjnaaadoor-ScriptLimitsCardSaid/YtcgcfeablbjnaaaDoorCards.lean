/-
  DERIVED. GIVEN WITH THE SEED: THE CARDS: each row of YtcgcfeablbjnaaaDoorRows.lean that lists a variable, with what it lists TIED to the program's text (the seventh form; the later family's looks); each row that meets fmt, with fmt's text TOLD by the authors' own Lean function (tested against real Go, not proved from fmt's source: count such statements apart). THE CARD IS WHAT COUNTS. Prove the row's statement (the work); the ties are given (YtcgcfeablbjnaaaDoorTie.lean); close each card by the builder's one call (the guide's Derived/Test/ToyasCard.lean, 'card_holds'). Laid BY PROGRAM, IN A SANDBOX (cutbox-door.mjs). By AI agents, Wed Nov 11 2026. No macro, syntax, notation, axiom, sorry.
-/
import Derived.Test.YtcgcfeablbjnaaaDoorRows
import GoSem.ClaimSeven
namespace Go.Proofs.YtcgcfeablbjnaaaDoor
namespace Rows

/-- THE TIED CARD OF 'cellplanelaw44.ScriptReplies'. -/
def scriptRepliesCard : Claim7 := { stood := { row := scriptRepliesRow, standIns := [], harness := (true, "56267c3a0421ab99d0b01aed609405120691df2d6924d485ded767cb1c27384a"), looks := false }, kinds := [], alts := [], laidByText := true, laidKinds := [.data, .data, .data], laidTests := true, laidLooks := .later }
def ScriptRepliesCardSaid : Prop := Claim7.holds Tryd.pinned (.plain (OpenSpec.ofChange scriptRepliesSpec)) scriptRepliesCard

/-- THE TIED CARD OF 'cellplanelaw44.ScriptNames'. -/
def scriptNamesCard : Claim7 := { stood := { row := scriptNamesRow, standIns := [], harness := (true, "56267c3a0421ab99d0b01aed609405120691df2d6924d485ded767cb1c27384a"), looks := false }, kinds := [], alts := [], laidByText := true, laidKinds := [.data, .data, .data], laidTests := true, laidLooks := .later }
def ScriptNamesCardSaid : Prop := Claim7.holds Tryd.pinned (.plain (OpenSpec.ofChange scriptNamesSpec)) scriptNamesCard

/-- THE TIED CARD OF 'cellplanelaw44.ScriptLimits'. -/
def scriptLimitsCard : Claim7 := { stood := { row := scriptLimitsRow, standIns := [], harness := (true, "56267c3a0421ab99d0b01aed609405120691df2d6924d485ded767cb1c27384a"), looks := false }, kinds := [], alts := [], laidByText := true, laidKinds := [.data, .data, .data], laidTests := true, laidLooks := .later }
def ScriptLimitsCardSaid : Prop := Claim7.holds Tryd.pinned (.plain (OpenSpec.ofChange scriptLimitsSpec)) scriptLimitsCard

/-- THE SECOND FORM's CARD OF 'cellplanelaw44.ScriptReplies'. -/
def scriptRepliesUptoCard : Claim7 := { stood := { row := scriptRepliesUptoRow, standIns := [], harness := (true, "56267c3a0421ab99d0b01aed609405120691df2d6924d485ded767cb1c27384a"), looks := false }, kinds := [], alts := [], laidByText := true, laidKinds := [.data, .data, .data], laidTests := true, laidLooks := .later }
def ScriptRepliesUptoCardSaid : Prop := Claim7.holds Tryd.pinned (.plain (OpenSpec.upto scriptRepliesSpec)) scriptRepliesUptoCard

/-- THE SECOND FORM's CARD OF 'cellplanelaw44.ScriptNames'. -/
def scriptNamesUptoCard : Claim7 := { stood := { row := scriptNamesUptoRow, standIns := [], harness := (true, "56267c3a0421ab99d0b01aed609405120691df2d6924d485ded767cb1c27384a"), looks := false }, kinds := [], alts := [], laidByText := true, laidKinds := [.data, .data, .data], laidTests := true, laidLooks := .later }
def ScriptNamesUptoCardSaid : Prop := Claim7.holds Tryd.pinned (.plain (OpenSpec.upto scriptNamesSpec)) scriptNamesUptoCard

/-- THE SECOND FORM's CARD OF 'cellplanelaw44.ScriptLimits'. -/
def scriptLimitsUptoCard : Claim7 := { stood := { row := scriptLimitsUptoRow, standIns := [], harness := (true, "56267c3a0421ab99d0b01aed609405120691df2d6924d485ded767cb1c27384a"), looks := false }, kinds := [], alts := [], laidByText := true, laidKinds := [.data, .data, .data], laidTests := true, laidLooks := .later }
def ScriptLimitsUptoCardSaid : Prop := Claim7.holds Tryd.pinned (.plain (OpenSpec.upto scriptLimitsSpec)) scriptLimitsUptoCard
end Rows
end Go.Proofs.YtcgcfeablbjnaaaDoor
