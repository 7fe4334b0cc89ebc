/- Contracts: strings.ReplaceAll at the ends of lines; filetype.name at the base text. -/
import Derived.Test.YtppeejkegbjgdaaDoorKt
import Derived.Test.YtppeejkegbjgdaaDoorKs
import Derived.Test.YtppeejkegbjgdaaDoorKu
import Derived.Test.YtppeejkegbjgdaaDoorKg
set_option linter.unusedSimpArgs false
set_option linter.unusedVariables false
namespace Go.K10
open Go Go.RowKit Go.Avm Go.Proofs

theorem nameC {g0 : Gh} (h : AH) : ACalls Tryd.prog g0 78 [.int .i64 1] h fun r h' => h' = h ∧ r = .tuple [.str [116, 101, 120, 116], .bool true] := by
  refine acalls_of_calls fun g w cargs hg _ hr => ?_
  obtain ⟨v, rfl, hv⟩ := vrels1 hr
  cases hv
  refine (Go.Proofs.Law10.name_walk w).mono ?_
  rintro e w' ⟨rfl, hb⟩
  refine ⟨_, rfl, ?_, hb⟩
  refine .tuple rfl (fun i p v hp hv => ?_)
  match i, hp, hv with
  | 0, hp, hv => simp at hp hv; subst hp; subst hv; exact .str _
  | 1, hp, hv => simp at hp hv; subst hp; subst hv; exact .bool _
  | i + 2, hp, hv => simp at hp

theorem ReplaceAll {g0 : Gh} (hG : Glob g0) (s : Bs) (h : AH) (hs : s.length < 100000000) : ACalls Tryd.prog g0 48 [.str s, .str [13, 10], .str [10]] h fun r h' => h' = h ∧ r = .str (canon s) := by
  refine acalls_of_calls fun g w cargs hg hF hr => ?_
  obtain ⟨u, v, x, rfl, hu, hv, hx⟩ := vrels3 hr
  cases hu; cases hv; cases hx
  obtain ⟨m, hm⟩ := (hG.le hg).maxLen
  obtain ⟨c, hc, hcv⟩ := hF 0 0 _ hm
  cases hcv
  have hcb := Lib.countB_le (⟨⟨[13, 10]⟩⟩ : ByteArray) (by decide) s.length ⟨⟨s⟩⟩ (Nat.le_refl _)
  have hsz : (⟨⟨s⟩⟩ : ByteArray).size = s.length := rfl
  have h1 : (⟨⟨[10]⟩⟩ : ByteArray).size = 1 := rfl
  have key := Any.strings_ReplaceAll Tryd.lays155 Tryd.extra155 ⟨⟨s⟩⟩ ⟨⟨[13, 10]⟩⟩ ⟨⟨[10]⟩⟩ m w (by rw [hsz]; omega) hc (by decide) (by rw [h1, Nat.mul_one, hsz]; rw [hsz] at hcb; omega)
  refine (show Calls Tryd.prog 48 _ w _ from key).mono ?_
  rintro e w' ⟨rfl, hb⟩
  refine ⟨_, rfl, ?_, hb⟩
  have e1 : Lib.replaceAll s [13, 10] [10] = canon s := by
    have : Lib.replaceAll s [13, 10] [10] = Lib.replaceK [13, 10] [10] (Lib.count s [13, 10]) s := rfl
    rw [this, replaceK_canon s.length s (Nat.le_refl _)]
  show VRel Tryd.prog g (.str (canon s)) (.string ⟨(Lib.replaceAll s [13, 10] [10]).toArray⟩)
  rw [e1]
  exact .str _

end Go.K10
