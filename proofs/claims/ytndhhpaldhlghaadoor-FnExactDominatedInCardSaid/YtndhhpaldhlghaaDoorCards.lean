/-
  DERIVED. GIVEN WITH THE SEED: THE CARDS: each row of YtndhhpaldhlghaaDoorRows.lean that lists a variable, with what it lists TIED to the program's text (the seventh form; the later family's looks); each row that meets fmt, with fmt's text TOLD by the authors' own Lean function (tested against real Go, not proved from fmt's source: count such statements apart). THE CARD IS WHAT COUNTS. Prove the row's statement (the work); the ties are given (YtndhhpaldhlghaaDoorTie.lean); close each card by the builder's one call (the guide's Derived/Test/ToyasCard.lean, 'card_holds'). Laid BY PROGRAM, IN A SANDBOX (cutbox-door.mjs). By AI agents, Wed Nov 11 2026. No macro, syntax, notation, axiom, sorry.
-/
import Derived.Test.YtndhhpaldhlghaaDoorRows
import GoSem.ClaimSeven
namespace Go.Proofs.YtndhhpaldhlghaaDoor
namespace Rows

/-- THE TIED CARD OF 'laws.FnExactAtLeast'. -/
def fnExactAtLeastCard : Claim7 := { stood := { row := fnExactAtLeastRow, standIns := [], harness := (true, "d1330bb1695b00c7cef97cb6eca26384e12b0430887aa6548f456e3dc120573b"), looks := false }, kinds := [], alts := [], laidByText := true, laidKinds := [.data, .data, .data], laidTests := true, laidLooks := .later }
def FnExactAtLeastCardSaid : Prop := Claim7.holds Tryd.pinned (.plain (OpenSpec.ofChange fnExactAtLeastSpec)) fnExactAtLeastCard

/-- THE TIED CARD OF 'laws.FnExactEqualForms'. -/
def fnExactEqualFormsCard : Claim7 := { stood := { row := fnExactEqualFormsRow, standIns := [], harness := (true, "d1330bb1695b00c7cef97cb6eca26384e12b0430887aa6548f456e3dc120573b"), looks := false }, kinds := [], alts := [], laidByText := true, laidKinds := [.data, .data, .data], laidTests := true, laidLooks := .later }
def FnExactEqualFormsCardSaid : Prop := Claim7.holds Tryd.pinned (.plain (OpenSpec.ofChange fnExactEqualFormsSpec)) fnExactEqualFormsCard

/-- THE TIED CARD OF 'laws.FnExactCompareForms'. -/
def fnExactCompareFormsCard : Claim7 := { stood := { row := fnExactCompareFormsRow, standIns := [], harness := (true, "d1330bb1695b00c7cef97cb6eca26384e12b0430887aa6548f456e3dc120573b"), looks := false }, kinds := [], alts := [], laidByText := true, laidKinds := [.data, .data, .data], laidTests := true, laidLooks := .later }
def FnExactCompareFormsCardSaid : Prop := Claim7.holds Tryd.pinned (.plain (OpenSpec.ofChange fnExactCompareFormsSpec)) fnExactCompareFormsCard

/-- THE TIED CARD OF 'laws.FnExactGreatestOf'. -/
def fnExactGreatestOfCard : Claim7 := { stood := { row := fnExactGreatestOfRow, standIns := [], harness := (true, "d1330bb1695b00c7cef97cb6eca26384e12b0430887aa6548f456e3dc120573b"), looks := false }, kinds := [], alts := [], laidByText := true, laidKinds := [.data, .data, .data], laidTests := true, laidLooks := .later }
def FnExactGreatestOfCardSaid : Prop := Claim7.holds Tryd.pinned (.plain (OpenSpec.ofChange fnExactGreatestOfSpec)) fnExactGreatestOfCard

/-- THE TIED CARD OF 'laws.FnExactDominatedIn'. -/
def fnExactDominatedInCard : Claim7 := { stood := { row := fnExactDominatedInRow, standIns := [], harness := (true, "d1330bb1695b00c7cef97cb6eca26384e12b0430887aa6548f456e3dc120573b"), looks := false }, kinds := [], alts := [], laidByText := true, laidKinds := [.data, .data, .data], laidTests := true, laidLooks := .later }
def FnExactDominatedInCardSaid : Prop := Claim7.holds Tryd.pinned (.plain (OpenSpec.ofChange fnExactDominatedInSpec)) fnExactDominatedInCard

/-- THE TIED CARD OF 'laws.FnExactReversibleIn'. -/
def fnExactReversibleInCard : Claim7 := { stood := { row := fnExactReversibleInRow, standIns := [], harness := (true, "d1330bb1695b00c7cef97cb6eca26384e12b0430887aa6548f456e3dc120573b"), looks := false }, kinds := [], alts := [], laidByText := true, laidKinds := [.data, .data, .data], laidTests := true, laidLooks := .later }
def FnExactReversibleInCardSaid : Prop := Claim7.holds Tryd.pinned (.plain (OpenSpec.ofChange fnExactReversibleInSpec)) fnExactReversibleInCard

/-- THE SECOND FORM's CARD OF 'laws.FnExactAtLeast'. -/
def fnExactAtLeastUptoCard : Claim7 := { stood := { row := fnExactAtLeastUptoRow, standIns := [], harness := (true, "d1330bb1695b00c7cef97cb6eca26384e12b0430887aa6548f456e3dc120573b"), looks := false }, kinds := [], alts := [], laidByText := true, laidKinds := [.data, .data, .data], laidTests := true, laidLooks := .later }
def FnExactAtLeastUptoCardSaid : Prop := Claim7.holds Tryd.pinned (.plain (OpenSpec.upto fnExactAtLeastSpec)) fnExactAtLeastUptoCard

/-- THE SECOND FORM's CARD OF 'laws.FnExactEqualForms'. -/
def fnExactEqualFormsUptoCard : Claim7 := { stood := { row := fnExactEqualFormsUptoRow, standIns := [], harness := (true, "d1330bb1695b00c7cef97cb6eca26384e12b0430887aa6548f456e3dc120573b"), looks := false }, kinds := [], alts := [], laidByText := true, laidKinds := [.data, .data, .data], laidTests := true, laidLooks := .later }
def FnExactEqualFormsUptoCardSaid : Prop := Claim7.holds Tryd.pinned (.plain (OpenSpec.upto fnExactEqualFormsSpec)) fnExactEqualFormsUptoCard

/-- THE SECOND FORM's CARD OF 'laws.FnExactCompareForms'. -/
def fnExactCompareFormsUptoCard : Claim7 := { stood := { row := fnExactCompareFormsUptoRow, standIns := [], harness := (true, "d1330bb1695b00c7cef97cb6eca26384e12b0430887aa6548f456e3dc120573b"), looks := false }, kinds := [], alts := [], laidByText := true, laidKinds := [.data, .data, .data], laidTests := true, laidLooks := .later }
def FnExactCompareFormsUptoCardSaid : Prop := Claim7.holds Tryd.pinned (.plain (OpenSpec.upto fnExactCompareFormsSpec)) fnExactCompareFormsUptoCard

/-- THE SECOND FORM's CARD OF 'laws.FnExactGreatestOf'. -/
def fnExactGreatestOfUptoCard : Claim7 := { stood := { row := fnExactGreatestOfUptoRow, standIns := [], harness := (true, "d1330bb1695b00c7cef97cb6eca26384e12b0430887aa6548f456e3dc120573b"), looks := false }, kinds := [], alts := [], laidByText := true, laidKinds := [.data, .data, .data], laidTests := true, laidLooks := .later }
def FnExactGreatestOfUptoCardSaid : Prop := Claim7.holds Tryd.pinned (.plain (OpenSpec.upto fnExactGreatestOfSpec)) fnExactGreatestOfUptoCard

/-- THE SECOND FORM's CARD OF 'laws.FnExactDominatedIn'. -/
def fnExactDominatedInUptoCard : Claim7 := { stood := { row := fnExactDominatedInUptoRow, standIns := [], harness := (true, "d1330bb1695b00c7cef97cb6eca26384e12b0430887aa6548f456e3dc120573b"), looks := false }, kinds := [], alts := [], laidByText := true, laidKinds := [.data, .data, .data], laidTests := true, laidLooks := .later }
def FnExactDominatedInUptoCardSaid : Prop := Claim7.holds Tryd.pinned (.plain (OpenSpec.upto fnExactDominatedInSpec)) fnExactDominatedInUptoCard

/-- THE SECOND FORM's CARD OF 'laws.FnExactReversibleIn'. -/
def fnExactReversibleInUptoCard : Claim7 := { stood := { row := fnExactReversibleInUptoRow, standIns := [], harness := (true, "d1330bb1695b00c7cef97cb6eca26384e12b0430887aa6548f456e3dc120573b"), looks := false }, kinds := [], alts := [], laidByText := true, laidKinds := [.data, .data, .data], laidTests := true, laidLooks := .later }
def FnExactReversibleInUptoCardSaid : Prop := Claim7.holds Tryd.pinned (.plain (OpenSpec.upto fnExactReversibleInSpec)) fnExactReversibleInUptoCard
end Rows
end Go.Proofs.YtndhhpaldhlghaaDoor
