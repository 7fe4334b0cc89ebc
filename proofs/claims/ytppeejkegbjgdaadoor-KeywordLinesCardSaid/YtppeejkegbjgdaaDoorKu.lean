/- The plain law: ends of lines and occurrences. -/
import Derived.Test.YtppeejkegbjgdaaDoorKq
import Derived.Lib.ReplaceLaws
set_option linter.unusedSimpArgs false
set_option linter.unusedVariables false
namespace Go.K10
open Go Go.Avm Go.Proofs

/-- Each end of a line of two bytes made one of one byte. -/
def canon : Bs → Bs
  | [] => []
  | [c] => [c]
  | c :: d :: r => if c = 13 ∧ d = 10 then 10 :: canon r else c :: canon (d :: r)

theorem canon_ne {c : UInt8} {l : Bs} (h : ¬ (c = 13 ∧ l.head? = some 10)) : canon (c :: l) = c :: canon l := by
  cases l with
  | nil => rfl
  | cons d r =>
    rw [canon, if_neg]
    rintro ⟨h1, h2⟩
    exact h ⟨h1, by simp [h2]⟩

theorem canon_index : ∀ s : Bs, (Lib.index s [13, 10] = -1 → canon s = s) ∧ (∀ i : Nat, Lib.index s [13, 10] = i → canon s = s.take i ++ [10] ++ canon (s.drop (i + 2)))
  | [] => ⟨fun _ => rfl, fun i h => by simp [Lib.index] at h⟩
  | b :: l => by
    obtain ⟨h1, h2⟩ := canon_index l
    have hge := Lib.index_ge l [13, 10]
    rw [Lib.index]
    by_cases hp : ([13, 10] : Bs).isPrefixOf (b :: l) = true
    · rw [if_pos hp]
      refine ⟨fun h => by omega, fun i hi => ?_⟩
      have : i = 0 := by omega
      subst this
      cases l with
      | nil => simp at hp
      | cons d r =>
        simp only [List.isPrefixOf, Bool.and_eq_true, beq_iff_eq, Bool.and_true] at hp
        rw [canon, if_pos ⟨hp.1.symm, hp.2.symm⟩]
        simp
    · rw [if_neg hp]
      have hn : ¬ (b = 13 ∧ l.head? = some 10) := by
        rintro ⟨e1, e2⟩
        cases l with
        | nil => simp at e2
        | cons d r =>
          simp only [List.head?_cons, Option.some.injEq] at e2
          subst e1; subst e2
          exact hp (by simp [List.isPrefixOf])
      rw [canon_ne hn]
      by_cases hm : Lib.index l [13, 10] = -1
      · rw [if_pos (by rw [hm]; rfl)]
        exact ⟨fun _ => by rw [h1 hm], fun i hi => by omega⟩
      · rw [if_neg (by simpa using hm)]
        refine ⟨fun h => by omega, fun i hi => ?_⟩
        cases i with
        | zero => omega
        | succ i =>
          rw [h2 i (by omega)]
          simp

theorem index_room : ∀ (s : Bs) (i : Nat), Lib.index s [13, 10] = i → ¬ s.length < i + 2
  | [], i, h => by simp [Lib.index] at h
  | b :: l, i, h => by
    rw [Lib.index] at h
    split at h
    · rename_i hp
      have : i = 0 := by omega
      subst this
      cases l with
      | nil => simp at hp
      | cons d r => simp
    · have hge := Lib.index_ge l [13, 10]
      split at h
      · omega
      · rename_i hm
        have hm' : ¬ Lib.index l [13, 10] = -1 := by simpa using hm
        cases i with
        | zero => omega
        | succ i =>
          have := index_room l i (by omega)
          simp only [List.length_cons]; omega

theorem replaceK_canon : ∀ (n : Nat) (s : Bs), s.length ≤ n → Lib.replaceK [13, 10] [10] (Lib.count s [13, 10]) s = canon s
  | n, s, hn => by
    obtain ⟨h1, h2⟩ := canon_index s
    by_cases hm : Lib.index s [13, 10] = -1
    · rw [Lib.count_miss hm, Lib.replaceK, h1 hm]
    · have hge := Lib.index_ge s [13, 10]
      obtain ⟨i, hi⟩ : ∃ i : Nat, Lib.index s [13, 10] = i := ⟨(Lib.index s [13, 10]).toNat, by omega⟩
      have hl : i + 2 ≤ s.length := by
        rcases Nat.lt_or_ge s.length (i + 2) with hlt | hge2
        · exfalso
          exact index_room s i hi hlt
        · exact hge2
      rw [Lib.count_hit (by simp) hi, Nat.add_comm, Lib.replaceK_hit [13, 10] [10] _ s i hi, h2 i hi]
      have ih := replaceK_canon (n - 2) (s.drop (i + 2)) (by rw [List.length_drop]; omega)
      simp only [List.length_cons, List.length_nil, Nat.zero_add, Nat.reduceAdd]
      rw [ih]

theorem canon_split : ∀ (p q : Bs), canon (p ++ 36 :: q) = canon p ++ 36 :: canon q
  | [], q => by
    rw [List.nil_append, canon_ne (by rintro ⟨h, _⟩; revert h; decide)]; rfl
  | [c], q => by
    rw [List.cons_append, List.nil_append, canon_ne (by rintro ⟨_, h⟩; revert h; simp), canon_ne (by rintro ⟨h, _⟩; revert h; decide)]; rfl
  | c :: d :: r, q => by
    by_cases h : c = 13 ∧ d = 10
    · rw [canon, if_pos h, List.cons_append, List.cons_append, canon, if_pos h, canon_split r q]; rfl
    · have e1 : canon (c :: d :: r) = c :: canon (d :: r) := by rw [canon, if_neg h]
      have e2 : canon (c :: d :: r ++ 36 :: q) = c :: canon (d :: r ++ 36 :: q) := by
        rw [List.cons_append, List.cons_append, canon, if_neg h]
      rw [e1, e2, canon_split (d :: r) q]; rfl

theorem canon_join : ∀ (ps : List Bs) (p : Bs), canon (p ++ joinD ps) = canon p ++ joinD (ps.map canon)
  | [], p => by simp [joinD]
  | q :: ps, p => by
    rw [joinD, List.cons_append, canon_split, canon_join ps q]
    simp [joinD]

theorem canon_mem : ∀ (p : Bs) (c : UInt8), c ∈ canon p → c ∈ p
  | [], c, h => h
  | [d], c, h => h
  | a :: d :: r, c, h => by
    rw [canon] at h
    split at h
    · rename_i he
      rcases List.mem_cons.1 h with rfl | h
      · rw [← he.2]; simp
      · have := canon_mem r c h; simp [this]
    · rcases List.mem_cons.1 h with rfl | h
      · simp
      · have := canon_mem (d :: r) c h
        exact List.mem_cons_of_mem _ this

theorem canon_ten : ∀ (p : Bs), 10 ∈ p → 10 ∈ canon p
  | [], h => h
  | [d], h => h
  | a :: d :: r, h => by
    rw [canon]
    split
    · simp
    · rename_i he
      rcases List.mem_cons.1 h with e | h
      · rw [← e]; simp
      · exact List.mem_cons_of_mem _ (canon_ten (d :: r) h)

theorem canon_same : ∀ (p : Bs), 10 ∉ p → canon p = p
  | [], _ => rfl
  | [d], _ => rfl
  | a :: d :: r, h => by
    simp only [List.mem_cons, not_or] at h
    rw [canon, if_neg (fun e => h.2.1 e.2.symm), canon_same (d :: r) (by simp [h.2.1, h.2.2])]

theorem canon_nod {p : Bs} (h : NoD p) : NoD (canon p) := fun c hc => h c (canon_mem p c hc)

theorem dnm_ten {names : List Bs} (hn : ∀ s ∈ names, isNm s = true) {p : Bs} (h : 10 ∈ p) : dnm names p = none := by
  unfold dnm
  rw [if_neg]
  rintro ⟨h1, h2 | h2⟩
  · rw [h2] at h1
    exact nm_no (hn p h1) (c := 10) (by decide) 10 h rfl
  · exact h2 h

theorem dnm_canon {names : List Bs} (hn : ∀ s ∈ names, isNm s = true) (p : Bs) : dnm names (canon p) = dnm names p := by
  by_cases h : (10 : UInt8) ∈ p
  · rw [dnm_ten hn h, dnm_ten hn (canon_ten p h)]
  · rw [canon_same p h]

theorem canon_nm {s : Bs} (h : isNm s = true) : canon s = s := canon_same s fun h10 => nm_no h (c := 10) (by decide) 10 h10 rfl

theorem gop_canon {names : List Bs} (hn : ∀ s ∈ names, isNm s = true) : ∀ (n : Nat) (ps : List Bs), ps.length ≤ n → gop names (fun s => s) (ps.map canon) = (gop names (fun s => s) ps).map canon
  | _, [], _ => rfl
  | _, [p], _ => rfl
  | n + 1, p :: q :: r, hl => by
    simp only [List.map_cons, gop, dnm_canon hn]
    cases hd : dnm names p with
    | some nm =>
      have hm : nm ∈ names := by
        unfold dnm at hd
        split at hd
        · rename_i hc; cases hd; exact hc.1
        · cases hd
      simp only [List.map_cons, canon_nm (hn nm hm)]
      rw [gop_canon hn n r (by simp at hl; omega)]
    | none =>
      simp only [List.map_cons]
      have := gop_canon hn n (q :: r) (by simp at hl ⊢; omega)
      simp only [List.map_cons] at this
      rw [this]

/-- COLLAPSING AND THE ENDS OF LINES. -/
theorem repl_canon {names : List Bs} (hn : namesOk names = true) (b : Bs) : repl (canon b) cform (occs (canon b) names 0) = canon (repl b cform (occs b names 0)) := by
  have hm := nm_of hn
  obtain ⟨p, ps, rfl, hp, hs⟩ := split_all b.length b (Nat.le_refl _)
  rw [repl_cut hm (cform_in names) hp hs, canon_join, canon_join, repl_cut hm (cform_in names) (canon_nod hp) (fun q hq => by
    obtain ⟨x, hx, rfl⟩ := List.mem_map.1 hq
    exact canon_nod (hs x hx)), gop_canon hm ps.length ps (Nat.le_refl _)]

theorem canon_len : ∀ p : Bs, (canon p).length ≤ p.length
  | [] => Nat.le_refl _
  | [d] => Nat.le_refl _
  | a :: d :: r => by
    rw [canon]
    split
    · have := canon_len r; simp only [List.length_cons]; omega
    · have := canon_len (d :: r); simp only [List.length_cons] at this ⊢; omega

end Go.K10
