/-
  DERIVED. GIVEN WITH THE SEED: THE CARDS: each row of YtppeejkegbjgdaaDoorRows.lean that lists a variable, with what it lists TIED to the program's text (the seventh form; the later family's looks); each row that meets fmt, with fmt's text TOLD by the authors' own Lean function (tested against real Go, not proved from fmt's source: count such statements apart). THE CARD IS WHAT COUNTS. Prove the row's statement (the work); the ties are given (YtppeejkegbjgdaaDoorTie.lean); close each card by the builder's one call (the guide's Derived/Test/ToyasCard.lean, 'card_holds'). Laid BY PROGRAM, IN A SANDBOX (cutbox-door.mjs). By AI agents, Wed Nov 11 2026. No macro, syntax, notation, axiom, sorry.
-/
import Derived.Test.YtppeejkegbjgdaaDoorRows
import GoSem.ClaimSeven
namespace Go.Proofs.YtppeejkegbjgdaaDoor
namespace Rows

/-- THE TIED CARD OF 'stockyardlaw10.KeywordBack'. -/
def keywordBackCard : Claim7 := { stood := { row := keywordBackRow, standIns := [], harness := (true, "7b119b0c75a07cd43f4567154f5795d9f888677fb1d276fa290b79ce2e3a15cd"), looks := false }, kinds := [], alts := [], laidByText := true, laidKinds := [.data, .pinned], laidTests := true, laidLooks := .later }
def KeywordBackCardSaid : Prop := Claim7.holds Tryd.pinned (.plain (OpenSpec.ofChange keywordBackSpec)) keywordBackCard

/-- THE TIED CARD OF 'stockyardlaw10.KeywordOccurs'. -/
def keywordOccursCard : Claim7 := { stood := { row := keywordOccursRow, standIns := [], harness := (true, "7b119b0c75a07cd43f4567154f5795d9f888677fb1d276fa290b79ce2e3a15cd"), looks := false }, kinds := [], alts := [], laidByText := true, laidKinds := [.data, .pinned], laidTests := true, laidLooks := .later }
def KeywordOccursCardSaid : Prop := Claim7.holds Tryd.pinned (.plain (OpenSpec.ofChange keywordOccursSpec)) keywordOccursCard

/-- THE TIED CARD OF 'stockyardlaw10.KeywordPlaces'. -/
def keywordPlacesCard : Claim7 := { stood := { row := keywordPlacesRow, standIns := [], harness := (true, "7b119b0c75a07cd43f4567154f5795d9f888677fb1d276fa290b79ce2e3a15cd"), looks := false }, kinds := [], alts := [], laidByText := true, laidKinds := [.data, .pinned], laidTests := true, laidLooks := .later }
def KeywordPlacesCardSaid : Prop := Claim7.holds Tryd.pinned (.plain (OpenSpec.ofChange keywordPlacesSpec)) keywordPlacesCard

/-- THE TIED CARD OF 'stockyardlaw10.KeywordExpands'. -/
def keywordExpandsCard : Claim7 := { stood := { row := keywordExpandsRow, standIns := [], harness := (true, "7b119b0c75a07cd43f4567154f5795d9f888677fb1d276fa290b79ce2e3a15cd"), looks := false }, kinds := [], alts := [], laidByText := true, laidKinds := [.data, .pinned], laidTests := true, laidLooks := .later }
def KeywordExpandsCardSaid : Prop := Claim7.holds Tryd.pinned (.plain (OpenSpec.ofChange keywordExpandsSpec)) keywordExpandsCard

/-- THE TIED CARD OF 'stockyardlaw10.KeywordOutside'. -/
def keywordOutsideCard : Claim7 := { stood := { row := keywordOutsideRow, standIns := [], harness := (true, "7b119b0c75a07cd43f4567154f5795d9f888677fb1d276fa290b79ce2e3a15cd"), looks := false }, kinds := [], alts := [], laidByText := true, laidKinds := [.data, .pinned], laidTests := true, laidLooks := .later }
def KeywordOutsideCardSaid : Prop := Claim7.holds Tryd.pinned (.plain (OpenSpec.ofChange keywordOutsideSpec)) keywordOutsideCard

/-- THE TIED CARD OF 'stockyardlaw10.KeywordCollapses'. -/
def keywordCollapsesCard : Claim7 := { stood := { row := keywordCollapsesRow, standIns := [], harness := (true, "7b119b0c75a07cd43f4567154f5795d9f888677fb1d276fa290b79ce2e3a15cd"), looks := false }, kinds := [], alts := [], laidByText := true, laidKinds := [.data, .pinned], laidTests := true, laidLooks := .later }
def KeywordCollapsesCardSaid : Prop := Claim7.holds Tryd.pinned (.plain (OpenSpec.ofChange keywordCollapsesSpec)) keywordCollapsesCard

/-- THE TIED CARD OF 'stockyardlaw10.KeywordFinds'. -/
def keywordFindsCard : Claim7 := { stood := { row := keywordFindsRow, standIns := [], harness := (true, "7b119b0c75a07cd43f4567154f5795d9f888677fb1d276fa290b79ce2e3a15cd"), looks := false }, kinds := [], alts := [], laidByText := true, laidKinds := [.data, .pinned], laidTests := true, laidLooks := .later }
def KeywordFindsCardSaid : Prop := Claim7.holds Tryd.pinned (.plain (OpenSpec.ofChange keywordFindsSpec)) keywordFindsCard

/-- THE TIED CARD OF 'stockyardlaw10.KeywordLines'. -/
def keywordLinesCard : Claim7 := { stood := { row := keywordLinesRow, standIns := [], harness := (true, "7b119b0c75a07cd43f4567154f5795d9f888677fb1d276fa290b79ce2e3a15cd"), looks := false }, kinds := [], alts := [], laidByText := true, laidKinds := [.data, .pinned], laidTests := true, laidLooks := .later }
def KeywordLinesCardSaid : Prop := Claim7.holds Tryd.pinned (.plain (OpenSpec.ofChange keywordLinesSpec)) keywordLinesCard

/-- THE SECOND FORM's CARD OF 'stockyardlaw10.KeywordBack'. -/
def keywordBackUptoCard : Claim7 := { stood := { row := keywordBackUptoRow, standIns := [], harness := (true, "7b119b0c75a07cd43f4567154f5795d9f888677fb1d276fa290b79ce2e3a15cd"), looks := false }, kinds := [], alts := [], laidByText := true, laidKinds := [.data, .pinned], laidTests := true, laidLooks := .later }
def KeywordBackUptoCardSaid : Prop := Claim7.holds Tryd.pinned (.plain (OpenSpec.upto keywordBackSpec)) keywordBackUptoCard

/-- THE SECOND FORM's CARD OF 'stockyardlaw10.KeywordOccurs'. -/
def keywordOccursUptoCard : Claim7 := { stood := { row := keywordOccursUptoRow, standIns := [], harness := (true, "7b119b0c75a07cd43f4567154f5795d9f888677fb1d276fa290b79ce2e3a15cd"), looks := false }, kinds := [], alts := [], laidByText := true, laidKinds := [.data, .pinned], laidTests := true, laidLooks := .later }
def KeywordOccursUptoCardSaid : Prop := Claim7.holds Tryd.pinned (.plain (OpenSpec.upto keywordOccursSpec)) keywordOccursUptoCard

/-- THE SECOND FORM's CARD OF 'stockyardlaw10.KeywordPlaces'. -/
def keywordPlacesUptoCard : Claim7 := { stood := { row := keywordPlacesUptoRow, standIns := [], harness := (true, "7b119b0c75a07cd43f4567154f5795d9f888677fb1d276fa290b79ce2e3a15cd"), looks := false }, kinds := [], alts := [], laidByText := true, laidKinds := [.data, .pinned], laidTests := true, laidLooks := .later }
def KeywordPlacesUptoCardSaid : Prop := Claim7.holds Tryd.pinned (.plain (OpenSpec.upto keywordPlacesSpec)) keywordPlacesUptoCard

/-- THE SECOND FORM's CARD OF 'stockyardlaw10.KeywordExpands'. -/
def keywordExpandsUptoCard : Claim7 := { stood := { row := keywordExpandsUptoRow, standIns := [], harness := (true, "7b119b0c75a07cd43f4567154f5795d9f888677fb1d276fa290b79ce2e3a15cd"), looks := false }, kinds := [], alts := [], laidByText := true, laidKinds := [.data, .pinned], laidTests := true, laidLooks := .later }
def KeywordExpandsUptoCardSaid : Prop := Claim7.holds Tryd.pinned (.plain (OpenSpec.upto keywordExpandsSpec)) keywordExpandsUptoCard

/-- THE SECOND FORM's CARD OF 'stockyardlaw10.KeywordOutside'. -/
def keywordOutsideUptoCard : Claim7 := { stood := { row := keywordOutsideUptoRow, standIns := [], harness := (true, "7b119b0c75a07cd43f4567154f5795d9f888677fb1d276fa290b79ce2e3a15cd"), looks := false }, kinds := [], alts := [], laidByText := true, laidKinds := [.data, .pinned], laidTests := true, laidLooks := .later }
def KeywordOutsideUptoCardSaid : Prop := Claim7.holds Tryd.pinned (.plain (OpenSpec.upto keywordOutsideSpec)) keywordOutsideUptoCard

/-- THE SECOND FORM's CARD OF 'stockyardlaw10.KeywordCollapses'. -/
def keywordCollapsesUptoCard : Claim7 := { stood := { row := keywordCollapsesUptoRow, standIns := [], harness := (true, "7b119b0c75a07cd43f4567154f5795d9f888677fb1d276fa290b79ce2e3a15cd"), looks := false }, kinds := [], alts := [], laidByText := true, laidKinds := [.data, .pinned], laidTests := true, laidLooks := .later }
def KeywordCollapsesUptoCardSaid : Prop := Claim7.holds Tryd.pinned (.plain (OpenSpec.upto keywordCollapsesSpec)) keywordCollapsesUptoCard

/-- THE SECOND FORM's CARD OF 'stockyardlaw10.KeywordFinds'. -/
def keywordFindsUptoCard : Claim7 := { stood := { row := keywordFindsUptoRow, standIns := [], harness := (true, "7b119b0c75a07cd43f4567154f5795d9f888677fb1d276fa290b79ce2e3a15cd"), looks := false }, kinds := [], alts := [], laidByText := true, laidKinds := [.data, .pinned], laidTests := true, laidLooks := .later }
def KeywordFindsUptoCardSaid : Prop := Claim7.holds Tryd.pinned (.plain (OpenSpec.upto keywordFindsSpec)) keywordFindsUptoCard

/-- THE SECOND FORM's CARD OF 'stockyardlaw10.KeywordLines'. -/
def keywordLinesUptoCard : Claim7 := { stood := { row := keywordLinesUptoRow, standIns := [], harness := (true, "7b119b0c75a07cd43f4567154f5795d9f888677fb1d276fa290b79ce2e3a15cd"), looks := false }, kinds := [], alts := [], laidByText := true, laidKinds := [.data, .pinned], laidTests := true, laidLooks := .later }
def KeywordLinesUptoCardSaid : Prop := Claim7.holds Tryd.pinned (.plain (OpenSpec.upto keywordLinesSpec)) keywordLinesUptoCard
end Rows
end Go.Proofs.YtppeejkegbjgdaaDoor
