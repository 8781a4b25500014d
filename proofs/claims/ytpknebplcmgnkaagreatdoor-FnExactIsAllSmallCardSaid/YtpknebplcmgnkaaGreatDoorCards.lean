/-
  DERIVED. GIVEN WITH THE SEED: THE CARDS: each row of YtpknebplcmgnkaaGreatDoorRows.lean that lists a variable, with what it lists TIED to the program's text (the seventh form; the later family's looks); each row that meets fmt, with fmt's text TOLD by the authors' own Lean function (tested against real Go, not proved from fmt's source: count such statements apart). THE CARD IS WHAT COUNTS. Prove the row's statement (the work); the ties are given (YtpknebplcmgnkaaGreatDoorTie.lean); close each card by the builder's one call (the guide's Derived/Test/ToyasCard.lean, 'card_holds'). Laid BY PROGRAM, IN A SANDBOX (cutbox-door.mjs). By AI agents, Wed Nov 11 2026. No macro, syntax, notation, axiom, sorry.
-/
import Derived.Test.YtpknebplcmgnkaaGreatDoorRows
import GoSem.ClaimSeven
namespace Go.Proofs.YtpknebplcmgnkaaGreatDoor
namespace Rows

/-- THE TIED CARD OF 'laws.FnExactFitsNumber'. -/
def fnExactFitsNumberCard : Claim7 := { stood := { row := fnExactFitsNumberRow, standIns := [], harness := (true, "26eb691d432efe9bdfa9202cfb56581ac29a39f5a1dd262bb5202f36a961cbca"), looks := false }, kinds := [], alts := [], laidByText := true, laidKinds := [.data, .data, .data], laidTests := true, laidLooks := .later }
def FnExactFitsNumberCardSaid : Prop := Claim7.holds Tryz.pinned (.plain (OpenSpec.ofChange fnExactFitsNumberSpec)) fnExactFitsNumberCard

/-- THE TIED CARD OF 'laws.FnExactIsAllSmall'. -/
def fnExactIsAllSmallCard : Claim7 := { stood := { row := fnExactIsAllSmallRow, standIns := [], harness := (true, "26eb691d432efe9bdfa9202cfb56581ac29a39f5a1dd262bb5202f36a961cbca"), looks := false }, kinds := [], alts := [], laidByText := true, laidKinds := [.data, .data, .data], laidTests := true, laidLooks := .later }
def FnExactIsAllSmallCardSaid : Prop := Claim7.holds Tryz.pinned (.plain (OpenSpec.ofChange fnExactIsAllSmallSpec)) fnExactIsAllSmallCard

/-- THE TIED CARD OF 'laws.FnExactNumberForm'. -/
def fnExactNumberFormCard : Claim7 := { stood := { row := fnExactNumberFormRow, standIns := [], harness := (true, "26eb691d432efe9bdfa9202cfb56581ac29a39f5a1dd262bb5202f36a961cbca"), looks := false }, kinds := [], alts := [], laidByText := true, laidKinds := [.data, .data, .data], laidTests := true, laidLooks := .later }
def FnExactNumberFormCardSaid : Prop := Claim7.holds Tryz.pinned (.plain (OpenSpec.ofChange fnExactNumberFormSpec)) fnExactNumberFormCard

/-- THE TIED CARD OF 'laws.FnExactIsWhole'. -/
def fnExactIsWholeCard : Claim7 := { stood := { row := fnExactIsWholeRow, standIns := [], harness := (true, "26eb691d432efe9bdfa9202cfb56581ac29a39f5a1dd262bb5202f36a961cbca"), looks := false }, kinds := [], alts := [], laidByText := true, laidKinds := [.data, .data, .data], laidTests := true, laidLooks := .later }
def FnExactIsWholeCardSaid : Prop := Claim7.holds Tryz.pinned (.plain (OpenSpec.ofChange fnExactIsWholeSpec)) fnExactIsWholeCard

/-- THE TIED CARD OF 'laws.FnExactLessForm'. -/
def fnExactLessFormCard : Claim7 := { stood := { row := fnExactLessFormRow, standIns := [], harness := (true, "26eb691d432efe9bdfa9202cfb56581ac29a39f5a1dd262bb5202f36a961cbca"), looks := false }, kinds := [], alts := [], laidByText := true, laidKinds := [.data, .data, .data], laidTests := true, laidLooks := .later }
def FnExactLessFormCardSaid : Prop := Claim7.holds Tryz.pinned (.plain (OpenSpec.ofChange fnExactLessFormSpec)) fnExactLessFormCard

/-- THE TIED CARD OF 'laws.FnExactNumberOf'. -/
def fnExactNumberOfCard : Claim7 := { stood := { row := fnExactNumberOfRow, standIns := [], harness := (true, "26eb691d432efe9bdfa9202cfb56581ac29a39f5a1dd262bb5202f36a961cbca"), looks := false }, kinds := [], alts := [], laidByText := true, laidKinds := [.data, .data, .data], laidTests := true, laidLooks := .later }
def FnExactNumberOfCardSaid : Prop := Claim7.holds Tryz.pinned (.plain (OpenSpec.ofChange fnExactNumberOfSpec)) fnExactNumberOfCard

/-- THE TIED CARD OF 'laws.FnExactSimplestFor'. -/
def fnExactSimplestForCard : Claim7 := { stood := { row := fnExactSimplestForRow, standIns := [], harness := (true, "26eb691d432efe9bdfa9202cfb56581ac29a39f5a1dd262bb5202f36a961cbca"), looks := false }, kinds := [], alts := [], laidByText := true, laidKinds := [.data, .data, .data], laidTests := true, laidLooks := .later }
def FnExactSimplestForCardSaid : Prop := Claim7.holds Tryz.pinned (.plain (OpenSpec.ofChange fnExactSimplestForSpec)) fnExactSimplestForCard

/-- THE TIED CARD OF 'laws.FnExactNegForm'. -/
def fnExactNegFormCard : Claim7 := { stood := { row := fnExactNegFormRow, standIns := [], harness := (true, "26eb691d432efe9bdfa9202cfb56581ac29a39f5a1dd262bb5202f36a961cbca"), looks := false }, kinds := [], alts := [], laidByText := true, laidKinds := [.data, .data, .data], laidTests := true, laidLooks := .later }
def FnExactNegFormCardSaid : Prop := Claim7.holds Tryz.pinned (.plain (OpenSpec.ofChange fnExactNegFormSpec)) fnExactNegFormCard

/-- THE TIED CARD OF 'laws.FnExactOrdinalSum'. -/
def fnExactOrdinalSumCard : Claim7 := { stood := { row := fnExactOrdinalSumRow, standIns := [], harness := (true, "26eb691d432efe9bdfa9202cfb56581ac29a39f5a1dd262bb5202f36a961cbca"), looks := false }, kinds := [], alts := [], laidByText := true, laidKinds := [.data, .data, .data], laidTests := true, laidLooks := .later }
def FnExactOrdinalSumCardSaid : Prop := Claim7.holds Tryz.pinned (.plain (OpenSpec.ofChange fnExactOrdinalSumSpec)) fnExactOrdinalSumCard

/-- THE TIED CARD OF 'laws.FnExactSumForms'. -/
def fnExactSumFormsCard : Claim7 := { stood := { row := fnExactSumFormsRow, standIns := [], harness := (true, "26eb691d432efe9bdfa9202cfb56581ac29a39f5a1dd262bb5202f36a961cbca"), looks := false }, kinds := [], alts := [], laidByText := true, laidKinds := [.data, .data, .data], laidTests := true, laidLooks := .later }
def FnExactSumFormsCardSaid : Prop := Claim7.holds Tryz.pinned (.plain (OpenSpec.ofChange fnExactSumFormsSpec)) fnExactSumFormsCard

/-- THE TIED CARD OF 'laws.FnExactMakeForm'. -/
def fnExactMakeFormCard : Claim7 := { stood := { row := fnExactMakeFormRow, standIns := [], harness := (true, "26eb691d432efe9bdfa9202cfb56581ac29a39f5a1dd262bb5202f36a961cbca"), looks := false }, kinds := [], alts := [], laidByText := true, laidKinds := [.data, .data, .data], laidTests := true, laidLooks := .later }
def FnExactMakeFormCardSaid : Prop := Claim7.holds Tryz.pinned (.plain (OpenSpec.ofChange fnExactMakeFormSpec)) fnExactMakeFormCard

/-- THE TIED CARD OF 'laws.FnExactMinusForms'. -/
def fnExactMinusFormsCard : Claim7 := { stood := { row := fnExactMinusFormsRow, standIns := [], harness := (true, "26eb691d432efe9bdfa9202cfb56581ac29a39f5a1dd262bb5202f36a961cbca"), looks := false }, kinds := [], alts := [], laidByText := true, laidKinds := [.data, .data, .data], laidTests := true, laidLooks := .later }
def FnExactMinusFormsCardSaid : Prop := Claim7.holds Tryz.pinned (.plain (OpenSpec.ofChange fnExactMinusFormsSpec)) fnExactMinusFormsCard

/-- THE SECOND FORM's CARD OF 'laws.FnExactFitsNumber'. -/
def fnExactFitsNumberUptoCard : Claim7 := { stood := { row := fnExactFitsNumberUptoRow, standIns := [], harness := (true, "26eb691d432efe9bdfa9202cfb56581ac29a39f5a1dd262bb5202f36a961cbca"), looks := false }, kinds := [], alts := [], laidByText := true, laidKinds := [.data, .data, .data], laidTests := true, laidLooks := .later }
def FnExactFitsNumberUptoCardSaid : Prop := Claim7.holds Tryz.pinned (.plain (OpenSpec.upto fnExactFitsNumberSpec)) fnExactFitsNumberUptoCard

/-- THE SECOND FORM's CARD OF 'laws.FnExactIsAllSmall'. -/
def fnExactIsAllSmallUptoCard : Claim7 := { stood := { row := fnExactIsAllSmallUptoRow, standIns := [], harness := (true, "26eb691d432efe9bdfa9202cfb56581ac29a39f5a1dd262bb5202f36a961cbca"), looks := false }, kinds := [], alts := [], laidByText := true, laidKinds := [.data, .data, .data], laidTests := true, laidLooks := .later }
def FnExactIsAllSmallUptoCardSaid : Prop := Claim7.holds Tryz.pinned (.plain (OpenSpec.upto fnExactIsAllSmallSpec)) fnExactIsAllSmallUptoCard

/-- THE SECOND FORM's CARD OF 'laws.FnExactNumberForm'. -/
def fnExactNumberFormUptoCard : Claim7 := { stood := { row := fnExactNumberFormUptoRow, standIns := [], harness := (true, "26eb691d432efe9bdfa9202cfb56581ac29a39f5a1dd262bb5202f36a961cbca"), looks := false }, kinds := [], alts := [], laidByText := true, laidKinds := [.data, .data, .data], laidTests := true, laidLooks := .later }
def FnExactNumberFormUptoCardSaid : Prop := Claim7.holds Tryz.pinned (.plain (OpenSpec.upto fnExactNumberFormSpec)) fnExactNumberFormUptoCard

/-- THE SECOND FORM's CARD OF 'laws.FnExactIsWhole'. -/
def fnExactIsWholeUptoCard : Claim7 := { stood := { row := fnExactIsWholeUptoRow, standIns := [], harness := (true, "26eb691d432efe9bdfa9202cfb56581ac29a39f5a1dd262bb5202f36a961cbca"), looks := false }, kinds := [], alts := [], laidByText := true, laidKinds := [.data, .data, .data], laidTests := true, laidLooks := .later }
def FnExactIsWholeUptoCardSaid : Prop := Claim7.holds Tryz.pinned (.plain (OpenSpec.upto fnExactIsWholeSpec)) fnExactIsWholeUptoCard

/-- THE SECOND FORM's CARD OF 'laws.FnExactLessForm'. -/
def fnExactLessFormUptoCard : Claim7 := { stood := { row := fnExactLessFormUptoRow, standIns := [], harness := (true, "26eb691d432efe9bdfa9202cfb56581ac29a39f5a1dd262bb5202f36a961cbca"), looks := false }, kinds := [], alts := [], laidByText := true, laidKinds := [.data, .data, .data], laidTests := true, laidLooks := .later }
def FnExactLessFormUptoCardSaid : Prop := Claim7.holds Tryz.pinned (.plain (OpenSpec.upto fnExactLessFormSpec)) fnExactLessFormUptoCard

/-- THE SECOND FORM's CARD OF 'laws.FnExactNumberOf'. -/
def fnExactNumberOfUptoCard : Claim7 := { stood := { row := fnExactNumberOfUptoRow, standIns := [], harness := (true, "26eb691d432efe9bdfa9202cfb56581ac29a39f5a1dd262bb5202f36a961cbca"), looks := false }, kinds := [], alts := [], laidByText := true, laidKinds := [.data, .data, .data], laidTests := true, laidLooks := .later }
def FnExactNumberOfUptoCardSaid : Prop := Claim7.holds Tryz.pinned (.plain (OpenSpec.upto fnExactNumberOfSpec)) fnExactNumberOfUptoCard

/-- THE SECOND FORM's CARD OF 'laws.FnExactSimplestFor'. -/
def fnExactSimplestForUptoCard : Claim7 := { stood := { row := fnExactSimplestForUptoRow, standIns := [], harness := (true, "26eb691d432efe9bdfa9202cfb56581ac29a39f5a1dd262bb5202f36a961cbca"), looks := false }, kinds := [], alts := [], laidByText := true, laidKinds := [.data, .data, .data], laidTests := true, laidLooks := .later }
def FnExactSimplestForUptoCardSaid : Prop := Claim7.holds Tryz.pinned (.plain (OpenSpec.upto fnExactSimplestForSpec)) fnExactSimplestForUptoCard

/-- THE SECOND FORM's CARD OF 'laws.FnExactNegForm'. -/
def fnExactNegFormUptoCard : Claim7 := { stood := { row := fnExactNegFormUptoRow, standIns := [], harness := (true, "26eb691d432efe9bdfa9202cfb56581ac29a39f5a1dd262bb5202f36a961cbca"), looks := false }, kinds := [], alts := [], laidByText := true, laidKinds := [.data, .data, .data], laidTests := true, laidLooks := .later }
def FnExactNegFormUptoCardSaid : Prop := Claim7.holds Tryz.pinned (.plain (OpenSpec.upto fnExactNegFormSpec)) fnExactNegFormUptoCard

/-- THE SECOND FORM's CARD OF 'laws.FnExactOrdinalSum'. -/
def fnExactOrdinalSumUptoCard : Claim7 := { stood := { row := fnExactOrdinalSumUptoRow, standIns := [], harness := (true, "26eb691d432efe9bdfa9202cfb56581ac29a39f5a1dd262bb5202f36a961cbca"), looks := false }, kinds := [], alts := [], laidByText := true, laidKinds := [.data, .data, .data], laidTests := true, laidLooks := .later }
def FnExactOrdinalSumUptoCardSaid : Prop := Claim7.holds Tryz.pinned (.plain (OpenSpec.upto fnExactOrdinalSumSpec)) fnExactOrdinalSumUptoCard

/-- THE SECOND FORM's CARD OF 'laws.FnExactSumForms'. -/
def fnExactSumFormsUptoCard : Claim7 := { stood := { row := fnExactSumFormsUptoRow, standIns := [], harness := (true, "26eb691d432efe9bdfa9202cfb56581ac29a39f5a1dd262bb5202f36a961cbca"), looks := false }, kinds := [], alts := [], laidByText := true, laidKinds := [.data, .data, .data], laidTests := true, laidLooks := .later }
def FnExactSumFormsUptoCardSaid : Prop := Claim7.holds Tryz.pinned (.plain (OpenSpec.upto fnExactSumFormsSpec)) fnExactSumFormsUptoCard

/-- THE SECOND FORM's CARD OF 'laws.FnExactMakeForm'. -/
def fnExactMakeFormUptoCard : Claim7 := { stood := { row := fnExactMakeFormUptoRow, standIns := [], harness := (true, "26eb691d432efe9bdfa9202cfb56581ac29a39f5a1dd262bb5202f36a961cbca"), looks := false }, kinds := [], alts := [], laidByText := true, laidKinds := [.data, .data, .data], laidTests := true, laidLooks := .later }
def FnExactMakeFormUptoCardSaid : Prop := Claim7.holds Tryz.pinned (.plain (OpenSpec.upto fnExactMakeFormSpec)) fnExactMakeFormUptoCard

/-- THE SECOND FORM's CARD OF 'laws.FnExactMinusForms'. -/
def fnExactMinusFormsUptoCard : Claim7 := { stood := { row := fnExactMinusFormsUptoRow, standIns := [], harness := (true, "26eb691d432efe9bdfa9202cfb56581ac29a39f5a1dd262bb5202f36a961cbca"), looks := false }, kinds := [], alts := [], laidByText := true, laidKinds := [.data, .data, .data], laidTests := true, laidLooks := .later }
def FnExactMinusFormsUptoCardSaid : Prop := Claim7.holds Tryz.pinned (.plain (OpenSpec.upto fnExactMinusFormsSpec)) fnExactMinusFormsUptoCard
end Rows
end Go.Proofs.YtpknebplcmgnkaaGreatDoor
