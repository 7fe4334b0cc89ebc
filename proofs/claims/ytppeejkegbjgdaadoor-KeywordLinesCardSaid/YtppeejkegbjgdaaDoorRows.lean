/-
  NARROWER THAN 'FOR EVERY INPUT', by the rows' own cells (each row's printed sentence says how): KeywordBack: laid · KeywordOccurs: laid · KeywordPlaces: laid · KeywordExpands: laid · KeywordOutside: laid · KeywordCollapses: laid · KeywordFinds: laid · KeywordLines: laid.
  DERIVED. THE GIVEN ROWS OF THIS SEAT. 8 by the template 'for every input the law returns true; each argument reads behind the call as it read before'; 0 by the template 'total and deterministic' (their statements: YtppeejkegbjgdaaDoorTotals.lean).
  GIVEN WITH THE SEED: the statements are not yours to turn. If you find one false, say at which input.
  Laid BY PROGRAM, IN A SANDBOX (cutbox-rows.mjs): the forced cells as the released guide's own fill.sh prints them over the translation 9f6c0eac3f8dfd24… (all of the seat's roots in one cut). By AI agents, Wed Nov 11 2026. No macro, syntax, notation, axiom, sorry.
-/
import Derived.Test.YtppeejkegbjgdaaDoorChecked
import GoSem.PinnedTables
import GoSem.Claim
import GoSem.ClaimJoined
import GoSem.ClaimMapViews
import Derived.JoinedTies
import Derived.KernelRfl
namespace Go.Proofs.YtppeejkegbjgdaaDoor
/- THE CELL 'sum', in the pinned program and in every row, IS THE sha256 OF THE DUMP (.gsa) THAT YtppeejkegbjgdaaDoorProg.lean LOADS. Nothing in Lean hashes anything: it is a label: what it is worth is what the hold of that sum in a sandbox is worth. -/
noncomputable def Tryd.pinned : Pinned := { name := "ytppeejkegbjgdaadoor", sum := "9f6c0eac3f8dfd24a3406cd4c25cab12b10a0f186b0fcb5ad08c2bf0dfe18b86", checked := Tryd.checked }
namespace Rows
def none {H : Type} : Left H := { results := [], args := [] }

/- WHAT THE LISTED PACKAGE-LEVEL VARIABLES READ AS WHEN THE CALL BEGINS. Each datum BY PROGRAM (the guide's laid-datum.mjs) off the statement by which the dump's own 'gosem.cut.vars' lays the variable. In a bare row this is a premise. The card (YtppeejkegbjgdaaDoorCards.lean) ties it to the program's text. -/
def laid_unicode_utf8_acceptRanges {H : Type} : DataW H := .agg [.agg [.lit (.int .u8 128), .lit (.int .u8 191)], .agg [.lit (.int .u8 160), .lit (.int .u8 191)], .agg [.lit (.int .u8 128), .lit (.int .u8 159)], .agg [.lit (.int .u8 144), .lit (.int .u8 191)], .agg [.lit (.int .u8 128), .lit (.int .u8 143)], .agg [.lit (.int .u8 0), .lit (.int .u8 0)], .agg [.lit (.int .u8 0), .lit (.int .u8 0)], .agg [.lit (.int .u8 0), .lit (.int .u8 0)], .agg [.lit (.int .u8 0), .lit (.int .u8 0)], .agg [.lit (.int .u8 0), .lit (.int .u8 0)], .agg [.lit (.int .u8 0), .lit (.int .u8 0)], .agg [.lit (.int .u8 0), .lit (.int .u8 0)], .agg [.lit (.int .u8 0), .lit (.int .u8 0)], .agg [.lit (.int .u8 0), .lit (.int .u8 0)], .agg [.lit (.int .u8 0), .lit (.int .u8 0)], .agg [.lit (.int .u8 0), .lit (.int .u8 0)]]
/-- One of Go's own tables, pinned by name: the form's constant. -/
def laid_unicode_utf8_first : DataW Unit := Go.Pinned.utf8First

/-- 'stockyardlaw10.KeywordBack': WHATEVER THE INPUT: true; the input reads as it did. -/
def keywordBackSpec : ChangeSpec := { name := "keywordBack", fn := fun _ => fun
  | [d1, d2] => { results := [.lit (.bool true)], args := [d1, d2] }
  | _ => none }
def keywordBackRow : OpenClaim := { program := "ytppeejkegbjgdaadoor", sum := "9f6c0eac3f8dfd24a3406cd4c25cab12b10a0f186b0fcb5ad08c2bf0dfe18b86", func := "stockyard/stockyardlaw10.KeywordBack", spec := "keywordBack", inPlace := ["internal/bytealg.IndexByteString", "internal/bytealg.IndexByte", "internal/bytealg.Index", "internal/bytealg.IndexString"], unfollowed := true, recurses := true, named := ["internal/bytealg.MaxLen", "unicode/utf8.first", "unicode/utf8.acceptRanges"], apart := false, laid := [("unicode/utf8.acceptRanges", laid_unicode_utf8_acceptRanges), ("unicode/utf8.first", laid_unicode_utf8_first)] }
def KeywordBackSaid : Prop := keywordBackRow.holds Tryd.pinned (OpenSpec.ofChange keywordBackSpec)

/-- ITS FALSE NEIGHBOUR: 'it returns false'. Refute it at one input. -/
def keywordBackWrong : ChangeSpec := { name := "keywordBack", fn := fun _ => fun
  | [d1, d2] => { results := [.lit (.bool false)], args := [d1, d2] }
  | _ => none }
def KeywordBackWrongFalsely : Prop := keywordBackRow.holds Tryd.pinned (OpenSpec.ofChange keywordBackWrong)

/-- 'stockyardlaw10.KeywordOccurs': WHATEVER THE INPUT: true; the input reads as it did. -/
def keywordOccursSpec : ChangeSpec := { name := "keywordOccurs", fn := fun _ => fun
  | [d1, d2] => { results := [.lit (.bool true)], args := [d1, d2] }
  | _ => none }
def keywordOccursRow : OpenClaim := { program := "ytppeejkegbjgdaadoor", sum := "9f6c0eac3f8dfd24a3406cd4c25cab12b10a0f186b0fcb5ad08c2bf0dfe18b86", func := "stockyard/stockyardlaw10.KeywordOccurs", spec := "keywordOccurs", inPlace := ["internal/bytealg.IndexByteString", "internal/bytealg.IndexByte", "internal/bytealg.Index", "internal/bytealg.IndexString"], unfollowed := true, recurses := true, named := ["internal/bytealg.MaxLen", "unicode/utf8.first", "unicode/utf8.acceptRanges"], apart := false, laid := [("unicode/utf8.acceptRanges", laid_unicode_utf8_acceptRanges), ("unicode/utf8.first", laid_unicode_utf8_first)] }
def KeywordOccursSaid : Prop := keywordOccursRow.holds Tryd.pinned (OpenSpec.ofChange keywordOccursSpec)

/-- ITS FALSE NEIGHBOUR: 'it returns false'. Refute it at one input. -/
def keywordOccursWrong : ChangeSpec := { name := "keywordOccurs", fn := fun _ => fun
  | [d1, d2] => { results := [.lit (.bool false)], args := [d1, d2] }
  | _ => none }
def KeywordOccursWrongFalsely : Prop := keywordOccursRow.holds Tryd.pinned (OpenSpec.ofChange keywordOccursWrong)

/-- 'stockyardlaw10.KeywordPlaces': WHATEVER THE INPUT: true; the input reads as it did. -/
def keywordPlacesSpec : ChangeSpec := { name := "keywordPlaces", fn := fun _ => fun
  | [d1, d2, d3] => { results := [.lit (.bool true)], args := [d1, d2, d3] }
  | _ => none }
def keywordPlacesRow : OpenClaim := { program := "ytppeejkegbjgdaadoor", sum := "9f6c0eac3f8dfd24a3406cd4c25cab12b10a0f186b0fcb5ad08c2bf0dfe18b86", func := "stockyard/stockyardlaw10.KeywordPlaces", spec := "keywordPlaces", inPlace := ["internal/bytealg.IndexByteString", "internal/bytealg.IndexByte", "internal/bytealg.Index", "internal/bytealg.IndexString"], unfollowed := true, recurses := true, named := ["internal/bytealg.MaxLen", "unicode/utf8.first", "unicode/utf8.acceptRanges"], apart := false, laid := [("unicode/utf8.acceptRanges", laid_unicode_utf8_acceptRanges), ("unicode/utf8.first", laid_unicode_utf8_first)] }
def KeywordPlacesSaid : Prop := keywordPlacesRow.holds Tryd.pinned (OpenSpec.ofChange keywordPlacesSpec)

/-- ITS FALSE NEIGHBOUR: 'it returns false'. Refute it at one input. -/
def keywordPlacesWrong : ChangeSpec := { name := "keywordPlaces", fn := fun _ => fun
  | [d1, d2, d3] => { results := [.lit (.bool false)], args := [d1, d2, d3] }
  | _ => none }
def KeywordPlacesWrongFalsely : Prop := keywordPlacesRow.holds Tryd.pinned (OpenSpec.ofChange keywordPlacesWrong)

/-- 'stockyardlaw10.KeywordExpands': WHATEVER THE INPUT: true; the input reads as it did. -/
def keywordExpandsSpec : ChangeSpec := { name := "keywordExpands", fn := fun _ => fun
  | [d1, d2] => { results := [.lit (.bool true)], args := [d1, d2] }
  | _ => none }
def keywordExpandsRow : OpenClaim := { program := "ytppeejkegbjgdaadoor", sum := "9f6c0eac3f8dfd24a3406cd4c25cab12b10a0f186b0fcb5ad08c2bf0dfe18b86", func := "stockyard/stockyardlaw10.KeywordExpands", spec := "keywordExpands", inPlace := ["internal/bytealg.IndexByteString", "internal/bytealg.IndexByte", "internal/bytealg.Index", "internal/bytealg.IndexString"], unfollowed := true, recurses := true, named := ["internal/bytealg.MaxLen", "unicode/utf8.first", "unicode/utf8.acceptRanges"], apart := false, laid := [("unicode/utf8.acceptRanges", laid_unicode_utf8_acceptRanges), ("unicode/utf8.first", laid_unicode_utf8_first)] }
def KeywordExpandsSaid : Prop := keywordExpandsRow.holds Tryd.pinned (OpenSpec.ofChange keywordExpandsSpec)

/-- ITS FALSE NEIGHBOUR: 'it returns false'. Refute it at one input. -/
def keywordExpandsWrong : ChangeSpec := { name := "keywordExpands", fn := fun _ => fun
  | [d1, d2] => { results := [.lit (.bool false)], args := [d1, d2] }
  | _ => none }
def KeywordExpandsWrongFalsely : Prop := keywordExpandsRow.holds Tryd.pinned (OpenSpec.ofChange keywordExpandsWrong)

/-- 'stockyardlaw10.KeywordOutside': WHATEVER THE INPUT: true; the input reads as it did. -/
def keywordOutsideSpec : ChangeSpec := { name := "keywordOutside", fn := fun _ => fun
  | [d1, d2] => { results := [.lit (.bool true)], args := [d1, d2] }
  | _ => none }
def keywordOutsideRow : OpenClaim := { program := "ytppeejkegbjgdaadoor", sum := "9f6c0eac3f8dfd24a3406cd4c25cab12b10a0f186b0fcb5ad08c2bf0dfe18b86", func := "stockyard/stockyardlaw10.KeywordOutside", spec := "keywordOutside", inPlace := ["internal/bytealg.IndexByteString", "internal/bytealg.IndexByte", "internal/bytealg.Index", "internal/bytealg.IndexString"], unfollowed := true, recurses := true, named := ["internal/bytealg.MaxLen", "unicode/utf8.first", "unicode/utf8.acceptRanges"], apart := false, laid := [("unicode/utf8.acceptRanges", laid_unicode_utf8_acceptRanges), ("unicode/utf8.first", laid_unicode_utf8_first)] }
def KeywordOutsideSaid : Prop := keywordOutsideRow.holds Tryd.pinned (OpenSpec.ofChange keywordOutsideSpec)

/-- ITS FALSE NEIGHBOUR: 'it returns false'. Refute it at one input. -/
def keywordOutsideWrong : ChangeSpec := { name := "keywordOutside", fn := fun _ => fun
  | [d1, d2] => { results := [.lit (.bool false)], args := [d1, d2] }
  | _ => none }
def KeywordOutsideWrongFalsely : Prop := keywordOutsideRow.holds Tryd.pinned (OpenSpec.ofChange keywordOutsideWrong)

/-- 'stockyardlaw10.KeywordCollapses': WHATEVER THE INPUT: true; the input reads as it did. -/
def keywordCollapsesSpec : ChangeSpec := { name := "keywordCollapses", fn := fun _ => fun
  | [d1, d2] => { results := [.lit (.bool true)], args := [d1, d2] }
  | _ => none }
def keywordCollapsesRow : OpenClaim := { program := "ytppeejkegbjgdaadoor", sum := "9f6c0eac3f8dfd24a3406cd4c25cab12b10a0f186b0fcb5ad08c2bf0dfe18b86", func := "stockyard/stockyardlaw10.KeywordCollapses", spec := "keywordCollapses", inPlace := ["internal/bytealg.IndexByteString", "internal/bytealg.IndexByte", "internal/bytealg.Index", "internal/bytealg.IndexString"], unfollowed := true, recurses := true, named := ["internal/bytealg.MaxLen", "unicode/utf8.first", "unicode/utf8.acceptRanges"], apart := false, laid := [("unicode/utf8.acceptRanges", laid_unicode_utf8_acceptRanges), ("unicode/utf8.first", laid_unicode_utf8_first)] }
def KeywordCollapsesSaid : Prop := keywordCollapsesRow.holds Tryd.pinned (OpenSpec.ofChange keywordCollapsesSpec)

/-- ITS FALSE NEIGHBOUR: 'it returns false'. Refute it at one input. -/
def keywordCollapsesWrong : ChangeSpec := { name := "keywordCollapses", fn := fun _ => fun
  | [d1, d2] => { results := [.lit (.bool false)], args := [d1, d2] }
  | _ => none }
def KeywordCollapsesWrongFalsely : Prop := keywordCollapsesRow.holds Tryd.pinned (OpenSpec.ofChange keywordCollapsesWrong)

/-- 'stockyardlaw10.KeywordFinds': WHATEVER THE INPUT: true; the input reads as it did. -/
def keywordFindsSpec : ChangeSpec := { name := "keywordFinds", fn := fun _ => fun
  | [d1, d2] => { results := [.lit (.bool true)], args := [d1, d2] }
  | _ => none }
def keywordFindsRow : OpenClaim := { program := "ytppeejkegbjgdaadoor", sum := "9f6c0eac3f8dfd24a3406cd4c25cab12b10a0f186b0fcb5ad08c2bf0dfe18b86", func := "stockyard/stockyardlaw10.KeywordFinds", spec := "keywordFinds", inPlace := ["internal/bytealg.IndexByteString", "internal/bytealg.IndexByte", "internal/bytealg.Index", "internal/bytealg.IndexString"], unfollowed := true, recurses := true, named := ["internal/bytealg.MaxLen", "unicode/utf8.first", "unicode/utf8.acceptRanges"], apart := false, laid := [("unicode/utf8.acceptRanges", laid_unicode_utf8_acceptRanges), ("unicode/utf8.first", laid_unicode_utf8_first)] }
def KeywordFindsSaid : Prop := keywordFindsRow.holds Tryd.pinned (OpenSpec.ofChange keywordFindsSpec)

/-- ITS FALSE NEIGHBOUR: 'it returns false'. Refute it at one input. -/
def keywordFindsWrong : ChangeSpec := { name := "keywordFinds", fn := fun _ => fun
  | [d1, d2] => { results := [.lit (.bool false)], args := [d1, d2] }
  | _ => none }
def KeywordFindsWrongFalsely : Prop := keywordFindsRow.holds Tryd.pinned (OpenSpec.ofChange keywordFindsWrong)

/-- 'stockyardlaw10.KeywordLines': WHATEVER THE INPUT: true; the input reads as it did. -/
def keywordLinesSpec : ChangeSpec := { name := "keywordLines", fn := fun _ => fun
  | [d1, d2] => { results := [.lit (.bool true)], args := [d1, d2] }
  | _ => none }
def keywordLinesRow : OpenClaim := { program := "ytppeejkegbjgdaadoor", sum := "9f6c0eac3f8dfd24a3406cd4c25cab12b10a0f186b0fcb5ad08c2bf0dfe18b86", func := "stockyard/stockyardlaw10.KeywordLines", spec := "keywordLines", inPlace := ["internal/bytealg.IndexByteString", "internal/bytealg.IndexByte", "internal/bytealg.Index", "internal/bytealg.IndexString", "internal/bytealg.CountString", "internal/abi.NoEscape", "internal/bytealg.MakeNoZero"], unfollowed := true, recurses := true, named := ["internal/bytealg.MaxLen", "unicode/utf8.first", "unicode/utf8.acceptRanges"], apart := false, laid := [("unicode/utf8.acceptRanges", laid_unicode_utf8_acceptRanges), ("unicode/utf8.first", laid_unicode_utf8_first)] }
def KeywordLinesSaid : Prop := keywordLinesRow.holds Tryd.pinned (OpenSpec.ofChange keywordLinesSpec)

/-- ITS FALSE NEIGHBOUR: 'it returns false'. Refute it at one input. -/
def keywordLinesWrong : ChangeSpec := { name := "keywordLines", fn := fun _ => fun
  | [d1, d2] => { results := [.lit (.bool false)], args := [d1, d2] }
  | _ => none }
def KeywordLinesWrongFalsely : Prop := keywordLinesRow.holds Tryd.pinned (OpenSpec.ofChange keywordLinesWrong)

/- THE SECOND FORM. 'bulk': how many values and letters a reading holds, each counted each time it is reached (what is shared counts as often as it is met; a slice's spare places count too). A statement '..UptoSaid' is the law's where the arguments, and the package variables that the reading takes, are together of bulk at most 1048576: NARROWER than '..Said'. Prove '..Said' where nothing that the law and all that it calls make is longer than what came in: it says more and counts as full. Else prove '..UptoSaid'. A law counts once. -/
mutual
def uptoBulk {H : Type} : DataW H → Nat
  | .lit (.string bytes) => bytes.length + 1
  | .lit _ => 1
  | .nil => 1
  | .ptr d => uptoBulk d + 1
  | .slice elems spare => uptoBulkAll elems + uptoBulkAll spare + 1
  | .agg parts => uptoBulkAll parts + 1
  | .iface _ d => uptoBulk d + 1
  | .map entries => uptoBulkEntries entries + 1
  | .held _ => 1
def uptoBulkAll {H : Type} : List (DataW H) → Nat
  | [] => 0
  | d :: r => uptoBulk d + uptoBulkAll r
def uptoBulkEntries {H : Type} : List (Lit × DataW H) → Nat
  | [] => 0
  | x :: r => uptoBulkEntry x + uptoBulkEntries r
def uptoBulkEntry {H : Type} : Lit × DataW H → Nat
  | (.string bytes, d) => bytes.length + uptoBulk d + 1
  | (_, d) => uptoBulk d + 1
 end
def uptoSmall : (H : Type) → List (DataW H) → Bool := fun _ ds => decide (uptoBulkAll ds ≤ 1048576)
def OpenSpec.upto (s : _root_.Go.ChangeSpec) : _root_.Go.OpenSpec := { _root_.Go.OpenSpec.ofChange s with cond := some uptoSmall }

/-- 'stockyardlaw10.KeywordBack', WHERE WHAT IT READS IS OF BULK AT MOST 1048576: true; the input reads as it did. -/
def keywordBackUptoRow : OpenClaim := { program := "ytppeejkegbjgdaadoor", sum := "9f6c0eac3f8dfd24a3406cd4c25cab12b10a0f186b0fcb5ad08c2bf0dfe18b86", func := "stockyard/stockyardlaw10.KeywordBack", spec := "keywordBack", inPlace := ["internal/bytealg.IndexByteString", "internal/bytealg.IndexByte", "internal/bytealg.Index", "internal/bytealg.IndexString"], unfollowed := true, recurses := true, named := ["internal/bytealg.MaxLen", "unicode/utf8.first", "unicode/utf8.acceptRanges"], apart := false, laid := [("unicode/utf8.acceptRanges", laid_unicode_utf8_acceptRanges), ("unicode/utf8.first", laid_unicode_utf8_first)], narrowed := true }
def KeywordBackUptoSaid : Prop := keywordBackUptoRow.holds Tryd.pinned (OpenSpec.upto keywordBackSpec)

/-- 'stockyardlaw10.KeywordOccurs', WHERE WHAT IT READS IS OF BULK AT MOST 1048576: true; the input reads as it did. -/
def keywordOccursUptoRow : OpenClaim := { program := "ytppeejkegbjgdaadoor", sum := "9f6c0eac3f8dfd24a3406cd4c25cab12b10a0f186b0fcb5ad08c2bf0dfe18b86", func := "stockyard/stockyardlaw10.KeywordOccurs", spec := "keywordOccurs", inPlace := ["internal/bytealg.IndexByteString", "internal/bytealg.IndexByte", "internal/bytealg.Index", "internal/bytealg.IndexString"], unfollowed := true, recurses := true, named := ["internal/bytealg.MaxLen", "unicode/utf8.first", "unicode/utf8.acceptRanges"], apart := false, laid := [("unicode/utf8.acceptRanges", laid_unicode_utf8_acceptRanges), ("unicode/utf8.first", laid_unicode_utf8_first)], narrowed := true }
def KeywordOccursUptoSaid : Prop := keywordOccursUptoRow.holds Tryd.pinned (OpenSpec.upto keywordOccursSpec)

/-- 'stockyardlaw10.KeywordPlaces', WHERE WHAT IT READS IS OF BULK AT MOST 1048576: true; the input reads as it did. -/
def keywordPlacesUptoRow : OpenClaim := { program := "ytppeejkegbjgdaadoor", sum := "9f6c0eac3f8dfd24a3406cd4c25cab12b10a0f186b0fcb5ad08c2bf0dfe18b86", func := "stockyard/stockyardlaw10.KeywordPlaces", spec := "keywordPlaces", inPlace := ["internal/bytealg.IndexByteString", "internal/bytealg.IndexByte", "internal/bytealg.Index", "internal/bytealg.IndexString"], unfollowed := true, recurses := true, named := ["internal/bytealg.MaxLen", "unicode/utf8.first", "unicode/utf8.acceptRanges"], apart := false, laid := [("unicode/utf8.acceptRanges", laid_unicode_utf8_acceptRanges), ("unicode/utf8.first", laid_unicode_utf8_first)], narrowed := true }
def KeywordPlacesUptoSaid : Prop := keywordPlacesUptoRow.holds Tryd.pinned (OpenSpec.upto keywordPlacesSpec)

/-- 'stockyardlaw10.KeywordExpands', WHERE WHAT IT READS IS OF BULK AT MOST 1048576: true; the input reads as it did. -/
def keywordExpandsUptoRow : OpenClaim := { program := "ytppeejkegbjgdaadoor", sum := "9f6c0eac3f8dfd24a3406cd4c25cab12b10a0f186b0fcb5ad08c2bf0dfe18b86", func := "stockyard/stockyardlaw10.KeywordExpands", spec := "keywordExpands", inPlace := ["internal/bytealg.IndexByteString", "internal/bytealg.IndexByte", "internal/bytealg.Index", "internal/bytealg.IndexString"], unfollowed := true, recurses := true, named := ["internal/bytealg.MaxLen", "unicode/utf8.first", "unicode/utf8.acceptRanges"], apart := false, laid := [("unicode/utf8.acceptRanges", laid_unicode_utf8_acceptRanges), ("unicode/utf8.first", laid_unicode_utf8_first)], narrowed := true }
def KeywordExpandsUptoSaid : Prop := keywordExpandsUptoRow.holds Tryd.pinned (OpenSpec.upto keywordExpandsSpec)

/-- 'stockyardlaw10.KeywordOutside', WHERE WHAT IT READS IS OF BULK AT MOST 1048576: true; the input reads as it did. -/
def keywordOutsideUptoRow : OpenClaim := { program := "ytppeejkegbjgdaadoor", sum := "9f6c0eac3f8dfd24a3406cd4c25cab12b10a0f186b0fcb5ad08c2bf0dfe18b86", func := "stockyard/stockyardlaw10.KeywordOutside", spec := "keywordOutside", inPlace := ["internal/bytealg.IndexByteString", "internal/bytealg.IndexByte", "internal/bytealg.Index", "internal/bytealg.IndexString"], unfollowed := true, recurses := true, named := ["internal/bytealg.MaxLen", "unicode/utf8.first", "unicode/utf8.acceptRanges"], apart := false, laid := [("unicode/utf8.acceptRanges", laid_unicode_utf8_acceptRanges), ("unicode/utf8.first", laid_unicode_utf8_first)], narrowed := true }
def KeywordOutsideUptoSaid : Prop := keywordOutsideUptoRow.holds Tryd.pinned (OpenSpec.upto keywordOutsideSpec)

/-- 'stockyardlaw10.KeywordCollapses', WHERE WHAT IT READS IS OF BULK AT MOST 1048576: true; the input reads as it did. -/
def keywordCollapsesUptoRow : OpenClaim := { program := "ytppeejkegbjgdaadoor", sum := "9f6c0eac3f8dfd24a3406cd4c25cab12b10a0f186b0fcb5ad08c2bf0dfe18b86", func := "stockyard/stockyardlaw10.KeywordCollapses", spec := "keywordCollapses", inPlace := ["internal/bytealg.IndexByteString", "internal/bytealg.IndexByte", "internal/bytealg.Index", "internal/bytealg.IndexString"], unfollowed := true, recurses := true, named := ["internal/bytealg.MaxLen", "unicode/utf8.first", "unicode/utf8.acceptRanges"], apart := false, laid := [("unicode/utf8.acceptRanges", laid_unicode_utf8_acceptRanges), ("unicode/utf8.first", laid_unicode_utf8_first)], narrowed := true }
def KeywordCollapsesUptoSaid : Prop := keywordCollapsesUptoRow.holds Tryd.pinned (OpenSpec.upto keywordCollapsesSpec)

/-- 'stockyardlaw10.KeywordFinds', WHERE WHAT IT READS IS OF BULK AT MOST 1048576: true; the input reads as it did. -/
def keywordFindsUptoRow : OpenClaim := { program := "ytppeejkegbjgdaadoor", sum := "9f6c0eac3f8dfd24a3406cd4c25cab12b10a0f186b0fcb5ad08c2bf0dfe18b86", func := "stockyard/stockyardlaw10.KeywordFinds", spec := "keywordFinds", inPlace := ["internal/bytealg.IndexByteString", "internal/bytealg.IndexByte", "internal/bytealg.Index", "internal/bytealg.IndexString"], unfollowed := true, recurses := true, named := ["internal/bytealg.MaxLen", "unicode/utf8.first", "unicode/utf8.acceptRanges"], apart := false, laid := [("unicode/utf8.acceptRanges", laid_unicode_utf8_acceptRanges), ("unicode/utf8.first", laid_unicode_utf8_first)], narrowed := true }
def KeywordFindsUptoSaid : Prop := keywordFindsUptoRow.holds Tryd.pinned (OpenSpec.upto keywordFindsSpec)

/-- 'stockyardlaw10.KeywordLines', WHERE WHAT IT READS IS OF BULK AT MOST 1048576: true; the input reads as it did. -/
def keywordLinesUptoRow : OpenClaim := { program := "ytppeejkegbjgdaadoor", sum := "9f6c0eac3f8dfd24a3406cd4c25cab12b10a0f186b0fcb5ad08c2bf0dfe18b86", func := "stockyard/stockyardlaw10.KeywordLines", spec := "keywordLines", inPlace := ["internal/bytealg.IndexByteString", "internal/bytealg.IndexByte", "internal/bytealg.Index", "internal/bytealg.IndexString", "internal/bytealg.CountString", "internal/abi.NoEscape", "internal/bytealg.MakeNoZero"], unfollowed := true, recurses := true, named := ["internal/bytealg.MaxLen", "unicode/utf8.first", "unicode/utf8.acceptRanges"], apart := false, laid := [("unicode/utf8.acceptRanges", laid_unicode_utf8_acceptRanges), ("unicode/utf8.first", laid_unicode_utf8_first)], narrowed := true }
def KeywordLinesUptoSaid : Prop := keywordLinesUptoRow.holds Tryd.pinned (OpenSpec.upto keywordLinesSpec)

end Rows
end Go.Proofs.YtppeejkegbjgdaaDoor
