/- KeywordLines answers true for every text and every list of names, and its arguments read behind the call as they read before; the condition: the tables unicode/utf8.first and unicode/utf8.acceptRanges read, when the call begins, as the row lists them (the card ties them to the program's text). -/
import Derived.Test.YtppeejkegbjgdaaDoorKx
import Derived.Test.YtppeejkegbjgdaaDoorKr
import Derived.Test.YtppeejkegbjgdaaDoorCards
import Derived.Test.YtppeejkegbjgdaaDoorTie
import Derived.SevenTiedAt
set_option linter.unusedVariables false
namespace Go.Law10
open Go Go.Avm Go.RowKit Go.ChangeShapes Go.WideShapes Go.Proofs Go.Shelf Go.Proofs.YtppeejkegbjgdaaDoor
open Go.K10 (Glob)

theorem keywordLines_witness (os : Os) {H : Type} (enc : TypeId × Value → H) :
    (OpenSpec.ofChange Rows.keywordLinesSpec).preRow enc Tryd.prog Tryd.f10 Rows.keywordLinesRow.domain false Rows.keywordLinesRow.laid ((laidWorld os).forCall (fun _ _ => 0) ⟨#[], #[.slice none 0 0, .slice none 0 0], []⟩).memory #[.slice none 0 0, .slice none 0 0] := by
  have hw : (DataW.whole enc Tryd.prog ((laidWorld os).forCall (fun _ _ => 0) ⟨#[], #[.slice none 0 0, .slice none 0 0], []⟩).memory Tryd.f10.params.toList (OpenSpec.ofChange Rows.keywordLinesSpec).vars false #[Value.slice none 0 0, .slice none 0 0].toList 8).map (fun x => (x.1, x.2.1)) =
      some ([.nil, .nil], []) := by kernel_rfl
  obtain ⟨⟨x1, x2, x3⟩, hx, hx1⟩ := Option.map_eq_some_iff.1 hw
  simp only [Prod.mk.injEq] at hx1
  obtain ⟨rfl, rfl⟩ := hx1
  exact OpenSpec.preRow_of_cond 8 hx (by kernel_rfl) (fun k hk => by cases hk) (by kernel_rfl) (laid_met os _)

theorem keywordLines_lifted (os : Os) (started : os.Started) (H : Type) (enc : TypeId × Value → H) (F : Stop.Interp) :
    ReturnsInHanded {} Tryd.checked os 10 .any ((OpenSpec.ofChange Rows.keywordLinesSpec).preRow enc Tryd.prog Tryd.f10 Rows.keywordLinesRow.domain false Rows.keywordLinesRow.laid) (((OpenSpec.ofChange Rows.keywordLinesSpec).at F).post enc Tryd.prog Tryd.f10 false true false false) := by
  refine law_lifted (n := 3) (tb := 4) own0 started (by kernel_rfl) Tryd.func10 laid0 (by kernel_rfl) (by kernel_rfl) rfl (by kernel_rfl) (by kernel_rfl) ?_
    (witness_row_atRef (enc := enc) (C := Tryd.checked) false (laidWorld os) #[.slice none 0 0, .slice none 0 0] rfl (by kernel_rfl) (by kernel_rfl) (by kernel_rfl) (keywordLines_witness os enc)) ?_
  · intro ds hl
    have hlen : ds.length = 2 := hl.trans (by kernel_rfl)
    match ds, hlen with
    | [d1, d2], _ => rfl
  · have ep : Tryd.f10.params.toList = [22, 31] := by kernel_rfl
    rw [ep]
    rintro W qs hL hsh hqs
    obtain ⟨bs, ws, f1, n1, f2, n2, rfl, hb, hw⟩ := bs_args (P := Tryd.prog) (n := 1) (e1 := 5) (e2 := 9) (by kernel_rfl) (by kernel_rfl) (by kernel_rfl) (by kernel_rfl) (by kernel_rfl) (by kernel_rfl) hqs
    exact K10.keywordLines_ok (glob_of hL hsh) bs ws f1 n1 f2 n2 [] hw

theorem keywordLines_holds : Rows.KeywordLinesSaid :=
  OpenClaim.holds_of_cond 10 Tryd.f10 rfl rfl rfl rfl rfl rfl rfl ⟨rfl, rfl, rfl, rfl, rfl⟩ rfl rfl rfl rfl rfl (by kernel_rfl) Tryd.func10 (by kernel_rfl)
    (of_decide_eq_true (by kernel_rfl)) (by unfold Func.isWrapper; rw [if_neg (of_decide_eq_false (by kernel_rfl))]; exact ⟨rfl, rfl⟩)
    (fun os started H enc _ F0 => by rw [OpenClaim.pre_eq_preRow]; exact keywordLines_lifted os started H enc F0)

theorem keywordLines_card : Rows.KeywordLinesCardSaid :=
  Claim7.holds_tied_plain_at .later [] [.data, .pinned] true (true, "7b119b0c75a07cd43f4567154f5795d9f888677fb1d276fa290b79ce2e3a15cd") false
    keywordLines_holds (fun _ h => by cases h) (by kernel_rfl) (fun _ h => by cases h) keywordLines_row_tie rfl ⟨rfl, rfl⟩ (by kernel_rfl) rfl
    (fun f fn hf hfn => by
      obtain rfl : f = 10 := Option.some.inj ((show Tryd.prog.funcNamed "stockyard/stockyardlaw10.KeywordLines" = some 10 by kernel_rfl).symm.trans hf) |>.symm
      obtain rfl : fn = Tryd.f10 := (Option.some.inj (Tryd.func10.symm.trans hfn)).symm
      have ep : Tryd.f10.params = #[22, 31] := by kernel_rfl
      exact ⟨by kernel_rfl, fun j t ht => by
        rw [ep] at ht
        rcases j with _ | _ | j
        · have h3 : t = 22 := by simpa using ht.symm
          subst h3; exact (show Tryd.prog.wantsStandIn 22 = false by kernel_rfl)
        · have h3 : t = 31 := by simpa using ht.symm
          subst h3; exact (show Tryd.prog.wantsStandIn 31 = false by kernel_rfl)
        · simp at ht⟩)
    (by kernel_rfl)
end Go.Law10

namespace Go.Proofs.YtppeejkegbjgdaaDoor
theorem keywordLines_card : Rows.KeywordLinesCardSaid := Law10.keywordLines_card
#print axioms keywordLines_card
end Go.Proofs.YtppeejkegbjgdaaDoor
