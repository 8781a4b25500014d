/-
  DERIVED. GIVEN WITH THE SEED: THE CARDS: each row of YtfnginkcmcfdfaaGreatDoorRows.lean that lists a variable, with what it lists TIED to the program's text (the seventh form; the later family's looks); each row that meets fmt, with fmt's text TOLD by the authors' own Lean function (tested against real Go, not proved from fmt's source: count such statements apart). THE CARD IS WHAT COUNTS. Prove the row's statement (the work); the ties are given (YtfnginkcmcfdfaaGreatDoorTie.lean); close each card by the builder's one call (the guide's Derived/Test/ToyasCard.lean, 'card_holds'). Laid BY PROGRAM, IN A SANDBOX (cutbox-door.mjs). By AI agents, Wed Nov 11 2026. No macro, syntax, notation, axiom, sorry.
-/
import Derived.Test.YtfnginkcmcfdfaaGreatDoorRows
import GoSem.ClaimSeven
namespace Go.Proofs.YtfnginkcmcfdfaaGreatDoor
namespace Rows

/-- THE TIED CARD OF 'laws.FnExactFitsNumber'. -/
def fnExactFitsNumberCard : Claim7 := { stood := { row := fnExactFitsNumberRow, standIns := [], harness := (true, "b6589457b183390351fe447f52b09d75d14c69b6eccc4f6dda3a2d94e545a32d"), looks := false }, kinds := [], alts := [], laidByText := true, laidKinds := [.data, .data, .data], laidTests := true, laidLooks := .later }
def FnExactFitsNumberCardSaid : Prop := Claim7.holds Tryz.pinned (.plain (OpenSpec.ofChange fnExactFitsNumberSpec)) fnExactFitsNumberCard

/-- THE TIED CARD OF 'laws.FnExactNumberForm'. -/
def fnExactNumberFormCard : Claim7 := { stood := { row := fnExactNumberFormRow, standIns := [], harness := (true, "b6589457b183390351fe447f52b09d75d14c69b6eccc4f6dda3a2d94e545a32d"), looks := false }, kinds := [], alts := [], laidByText := true, laidKinds := [.data, .data, .data], laidTests := true, laidLooks := .later }
def FnExactNumberFormCardSaid : Prop := Claim7.holds Tryz.pinned (.plain (OpenSpec.ofChange fnExactNumberFormSpec)) fnExactNumberFormCard

/-- THE TIED CARD OF 'laws.FnExactIsWhole'. -/
def fnExactIsWholeCard : Claim7 := { stood := { row := fnExactIsWholeRow, standIns := [], harness := (true, "b6589457b183390351fe447f52b09d75d14c69b6eccc4f6dda3a2d94e545a32d"), looks := false }, kinds := [], alts := [], laidByText := true, laidKinds := [.data, .data, .data], laidTests := true, laidLooks := .later }
def FnExactIsWholeCardSaid : Prop := Claim7.holds Tryz.pinned (.plain (OpenSpec.ofChange fnExactIsWholeSpec)) fnExactIsWholeCard

/-- THE TIED CARD OF 'laws.FnExactLessForm'. -/
def fnExactLessFormCard : Claim7 := { stood := { row := fnExactLessFormRow, standIns := [], harness := (true, "b6589457b183390351fe447f52b09d75d14c69b6eccc4f6dda3a2d94e545a32d"), looks := false }, kinds := [], alts := [], laidByText := true, laidKinds := [.data, .data, .data], laidTests := true, laidLooks := .later }
def FnExactLessFormCardSaid : Prop := Claim7.holds Tryz.pinned (.plain (OpenSpec.ofChange fnExactLessFormSpec)) fnExactLessFormCard

/-- THE TIED CARD OF 'laws.FnExactNumberOf'. -/
def fnExactNumberOfCard : Claim7 := { stood := { row := fnExactNumberOfRow, standIns := [], harness := (true, "b6589457b183390351fe447f52b09d75d14c69b6eccc4f6dda3a2d94e545a32d"), looks := false }, kinds := [], alts := [], laidByText := true, laidKinds := [.data, .data, .data], laidTests := true, laidLooks := .later }
def FnExactNumberOfCardSaid : Prop := Claim7.holds Tryz.pinned (.plain (OpenSpec.ofChange fnExactNumberOfSpec)) fnExactNumberOfCard

/-- THE TIED CARD OF 'laws.FnExactSimplestFor'. -/
def fnExactSimplestForCard : Claim7 := { stood := { row := fnExactSimplestForRow, standIns := [], harness := (true, "b6589457b183390351fe447f52b09d75d14c69b6eccc4f6dda3a2d94e545a32d"), looks := false }, kinds := [], alts := [], laidByText := true, laidKinds := [.data, .data, .data], laidTests := true, laidLooks := .later }
def FnExactSimplestForCardSaid : Prop := Claim7.holds Tryz.pinned (.plain (OpenSpec.ofChange fnExactSimplestForSpec)) fnExactSimplestForCard

/-- THE TIED CARD OF 'laws.FnExactStarOf'. -/
def fnExactStarOfCard : Claim7 := { stood := { row := fnExactStarOfRow, standIns := [], harness := (true, "b6589457b183390351fe447f52b09d75d14c69b6eccc4f6dda3a2d94e545a32d"), looks := false }, kinds := [], alts := [], laidByText := true, laidKinds := [.data, .data, .data], laidTests := true, laidLooks := .later }
def FnExactStarOfCardSaid : Prop := Claim7.holds Tryz.pinned (.plain (OpenSpec.ofChange fnExactStarOfSpec)) fnExactStarOfCard

/-- THE TIED CARD OF 'laws.FnExactUpsForm'. -/
def fnExactUpsFormCard : Claim7 := { stood := { row := fnExactUpsFormRow, standIns := [], harness := (true, "b6589457b183390351fe447f52b09d75d14c69b6eccc4f6dda3a2d94e545a32d"), looks := false }, kinds := [], alts := [], laidByText := true, laidKinds := [.data, .data, .data], laidTests := true, laidLooks := .later }
def FnExactUpsFormCardSaid : Prop := Claim7.holds Tryz.pinned (.plain (OpenSpec.ofChange fnExactUpsFormSpec)) fnExactUpsFormCard

/-- THE TIED CARD OF 'laws.FnExactSwitchForm'. -/
def fnExactSwitchFormCard : Claim7 := { stood := { row := fnExactSwitchFormRow, standIns := [], harness := (true, "b6589457b183390351fe447f52b09d75d14c69b6eccc4f6dda3a2d94e545a32d"), looks := false }, kinds := [], alts := [], laidByText := true, laidKinds := [.data, .data, .data], laidTests := true, laidLooks := .later }
def FnExactSwitchFormCardSaid : Prop := Claim7.holds Tryz.pinned (.plain (OpenSpec.ofChange fnExactSwitchFormSpec)) fnExactSwitchFormCard

/-- THE TIED CARD OF 'laws.FnExactTinyForm'. -/
def fnExactTinyFormCard : Claim7 := { stood := { row := fnExactTinyFormRow, standIns := [], harness := (true, "b6589457b183390351fe447f52b09d75d14c69b6eccc4f6dda3a2d94e545a32d"), looks := false }, kinds := [], alts := [], laidByText := true, laidKinds := [.data, .data, .data], laidTests := true, laidLooks := .later }
def FnExactTinyFormCardSaid : Prop := Claim7.holds Tryz.pinned (.plain (OpenSpec.ofChange fnExactTinyFormSpec)) fnExactTinyFormCard

/-- THE TIED CARD OF 'laws.FnExactSwitchOf'. -/
def fnExactSwitchOfCard : Claim7 := { stood := { row := fnExactSwitchOfRow, standIns := [], harness := (true, "b6589457b183390351fe447f52b09d75d14c69b6eccc4f6dda3a2d94e545a32d"), looks := false }, kinds := [], alts := [], laidByText := true, laidKinds := [.data, .data, .data], laidTests := true, laidLooks := .later }
def FnExactSwitchOfCardSaid : Prop := Claim7.holds Tryz.pinned (.plain (OpenSpec.ofChange fnExactSwitchOfSpec)) fnExactSwitchOfCard

/-- THE TIED CARD OF 'laws.FnExactLeftStop'. -/
def fnExactLeftStopCard : Claim7 := { stood := { row := fnExactLeftStopRow, standIns := [], harness := (true, "b6589457b183390351fe447f52b09d75d14c69b6eccc4f6dda3a2d94e545a32d"), looks := false }, kinds := [], alts := [], laidByText := true, laidKinds := [.data, .data, .data], laidTests := true, laidLooks := .later }
def FnExactLeftStopCardSaid : Prop := Claim7.holds Tryz.pinned (.plain (OpenSpec.ofChange fnExactLeftStopSpec)) fnExactLeftStopCard

/-- THE SECOND FORM's CARD OF 'laws.FnExactFitsNumber'. -/
def fnExactFitsNumberUptoCard : Claim7 := { stood := { row := fnExactFitsNumberUptoRow, standIns := [], harness := (true, "b6589457b183390351fe447f52b09d75d14c69b6eccc4f6dda3a2d94e545a32d"), looks := false }, kinds := [], alts := [], laidByText := true, laidKinds := [.data, .data, .data], laidTests := true, laidLooks := .later }
def FnExactFitsNumberUptoCardSaid : Prop := Claim7.holds Tryz.pinned (.plain (OpenSpec.upto fnExactFitsNumberSpec)) fnExactFitsNumberUptoCard

/-- THE SECOND FORM's CARD OF 'laws.FnExactNumberForm'. -/
def fnExactNumberFormUptoCard : Claim7 := { stood := { row := fnExactNumberFormUptoRow, standIns := [], harness := (true, "b6589457b183390351fe447f52b09d75d14c69b6eccc4f6dda3a2d94e545a32d"), looks := false }, kinds := [], alts := [], laidByText := true, laidKinds := [.data, .data, .data], laidTests := true, laidLooks := .later }
def FnExactNumberFormUptoCardSaid : Prop := Claim7.holds Tryz.pinned (.plain (OpenSpec.upto fnExactNumberFormSpec)) fnExactNumberFormUptoCard

/-- THE SECOND FORM's CARD OF 'laws.FnExactIsWhole'. -/
def fnExactIsWholeUptoCard : Claim7 := { stood := { row := fnExactIsWholeUptoRow, standIns := [], harness := (true, "b6589457b183390351fe447f52b09d75d14c69b6eccc4f6dda3a2d94e545a32d"), looks := false }, kinds := [], alts := [], laidByText := true, laidKinds := [.data, .data, .data], laidTests := true, laidLooks := .later }
def FnExactIsWholeUptoCardSaid : Prop := Claim7.holds Tryz.pinned (.plain (OpenSpec.upto fnExactIsWholeSpec)) fnExactIsWholeUptoCard

/-- THE SECOND FORM's CARD OF 'laws.FnExactLessForm'. -/
def fnExactLessFormUptoCard : Claim7 := { stood := { row := fnExactLessFormUptoRow, standIns := [], harness := (true, "b6589457b183390351fe447f52b09d75d14c69b6eccc4f6dda3a2d94e545a32d"), looks := false }, kinds := [], alts := [], laidByText := true, laidKinds := [.data, .data, .data], laidTests := true, laidLooks := .later }
def FnExactLessFormUptoCardSaid : Prop := Claim7.holds Tryz.pinned (.plain (OpenSpec.upto fnExactLessFormSpec)) fnExactLessFormUptoCard

/-- THE SECOND FORM's CARD OF 'laws.FnExactNumberOf'. -/
def fnExactNumberOfUptoCard : Claim7 := { stood := { row := fnExactNumberOfUptoRow, standIns := [], harness := (true, "b6589457b183390351fe447f52b09d75d14c69b6eccc4f6dda3a2d94e545a32d"), looks := false }, kinds := [], alts := [], laidByText := true, laidKinds := [.data, .data, .data], laidTests := true, laidLooks := .later }
def FnExactNumberOfUptoCardSaid : Prop := Claim7.holds Tryz.pinned (.plain (OpenSpec.upto fnExactNumberOfSpec)) fnExactNumberOfUptoCard

/-- THE SECOND FORM's CARD OF 'laws.FnExactSimplestFor'. -/
def fnExactSimplestForUptoCard : Claim7 := { stood := { row := fnExactSimplestForUptoRow, standIns := [], harness := (true, "b6589457b183390351fe447f52b09d75d14c69b6eccc4f6dda3a2d94e545a32d"), looks := false }, kinds := [], alts := [], laidByText := true, laidKinds := [.data, .data, .data], laidTests := true, laidLooks := .later }
def FnExactSimplestForUptoCardSaid : Prop := Claim7.holds Tryz.pinned (.plain (OpenSpec.upto fnExactSimplestForSpec)) fnExactSimplestForUptoCard

/-- THE SECOND FORM's CARD OF 'laws.FnExactStarOf'. -/
def fnExactStarOfUptoCard : Claim7 := { stood := { row := fnExactStarOfUptoRow, standIns := [], harness := (true, "b6589457b183390351fe447f52b09d75d14c69b6eccc4f6dda3a2d94e545a32d"), looks := false }, kinds := [], alts := [], laidByText := true, laidKinds := [.data, .data, .data], laidTests := true, laidLooks := .later }
def FnExactStarOfUptoCardSaid : Prop := Claim7.holds Tryz.pinned (.plain (OpenSpec.upto fnExactStarOfSpec)) fnExactStarOfUptoCard

/-- THE SECOND FORM's CARD OF 'laws.FnExactUpsForm'. -/
def fnExactUpsFormUptoCard : Claim7 := { stood := { row := fnExactUpsFormUptoRow, standIns := [], harness := (true, "b6589457b183390351fe447f52b09d75d14c69b6eccc4f6dda3a2d94e545a32d"), looks := false }, kinds := [], alts := [], laidByText := true, laidKinds := [.data, .data, .data], laidTests := true, laidLooks := .later }
def FnExactUpsFormUptoCardSaid : Prop := Claim7.holds Tryz.pinned (.plain (OpenSpec.upto fnExactUpsFormSpec)) fnExactUpsFormUptoCard

/-- THE SECOND FORM's CARD OF 'laws.FnExactSwitchForm'. -/
def fnExactSwitchFormUptoCard : Claim7 := { stood := { row := fnExactSwitchFormUptoRow, standIns := [], harness := (true, "b6589457b183390351fe447f52b09d75d14c69b6eccc4f6dda3a2d94e545a32d"), looks := false }, kinds := [], alts := [], laidByText := true, laidKinds := [.data, .data, .data], laidTests := true, laidLooks := .later }
def FnExactSwitchFormUptoCardSaid : Prop := Claim7.holds Tryz.pinned (.plain (OpenSpec.upto fnExactSwitchFormSpec)) fnExactSwitchFormUptoCard

/-- THE SECOND FORM's CARD OF 'laws.FnExactTinyForm'. -/
def fnExactTinyFormUptoCard : Claim7 := { stood := { row := fnExactTinyFormUptoRow, standIns := [], harness := (true, "b6589457b183390351fe447f52b09d75d14c69b6eccc4f6dda3a2d94e545a32d"), looks := false }, kinds := [], alts := [], laidByText := true, laidKinds := [.data, .data, .data], laidTests := true, laidLooks := .later }
def FnExactTinyFormUptoCardSaid : Prop := Claim7.holds Tryz.pinned (.plain (OpenSpec.upto fnExactTinyFormSpec)) fnExactTinyFormUptoCard

/-- THE SECOND FORM's CARD OF 'laws.FnExactSwitchOf'. -/
def fnExactSwitchOfUptoCard : Claim7 := { stood := { row := fnExactSwitchOfUptoRow, standIns := [], harness := (true, "b6589457b183390351fe447f52b09d75d14c69b6eccc4f6dda3a2d94e545a32d"), looks := false }, kinds := [], alts := [], laidByText := true, laidKinds := [.data, .data, .data], laidTests := true, laidLooks := .later }
def FnExactSwitchOfUptoCardSaid : Prop := Claim7.holds Tryz.pinned (.plain (OpenSpec.upto fnExactSwitchOfSpec)) fnExactSwitchOfUptoCard

/-- THE SECOND FORM's CARD OF 'laws.FnExactLeftStop'. -/
def fnExactLeftStopUptoCard : Claim7 := { stood := { row := fnExactLeftStopUptoRow, standIns := [], harness := (true, "b6589457b183390351fe447f52b09d75d14c69b6eccc4f6dda3a2d94e545a32d"), looks := false }, kinds := [], alts := [], laidByText := true, laidKinds := [.data, .data, .data], laidTests := true, laidLooks := .later }
def FnExactLeftStopUptoCardSaid : Prop := Claim7.holds Tryz.pinned (.plain (OpenSpec.upto fnExactLeftStopSpec)) fnExactLeftStopUptoCard
end Rows
end Go.Proofs.YtfnginkcmcfdfaaGreatDoor
