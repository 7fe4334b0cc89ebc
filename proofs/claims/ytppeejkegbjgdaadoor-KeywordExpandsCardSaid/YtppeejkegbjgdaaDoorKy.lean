/- The plain law: the reference's list is the program's. -/
import Derived.Test.YtppeejkegbjgdaaDoorKx
set_option linter.unusedSimpArgs false
set_option linter.unusedVariables false
namespace Go.K10
open Go Go.Avm Go.Proofs

def key (p : Bs) : Bs := p.takeWhile fun c => !decide (c = 58)

theorem preB_cons {t nm : Bs} : preB (36 :: t) (36 :: nm) = decide (t.take nm.length = nm) := by
  unfold preB
  simp only [List.length_cons, List.take_succ_cons, List.cons.injEq, true_and]
  by_cases h : t.take nm.length = nm
  · have : nm.length ≤ t.length := by
      have := congrArg List.length h
      rw [List.length_take] at this; omega
    simp [h, this]
  · simp [h]

theorem hit1_off {t nm : Bs} (h : t[0]? ≠ some 36) : hit1 t nm = none := by
  have : preB t (36 :: nm) = false := by
    unfold preB
    cases t with
    | nil => simp
    | cons c t =>
      simp only [List.getElem?_cons_zero, ne_eq, Option.some.injEq] at h
      simp [h]
  simp [hit1, this]

theorem pre_in {nm p r : Bs} (hn : isNm nm = true) (h : (p ++ 36 :: r).take nm.length = nm) : ∃ p', p = nm ++ p' := by
  have hle : nm.length ≤ p.length := by
    rcases Nat.lt_or_ge p.length nm.length with hlt | hge
    · exfalso
      have h1 : nm[p.length]? = some 36 := by
        rw [← h, List.getElem?_take_of_lt hlt, get_app]
      obtain ⟨q1, q2⟩ := List.getElem?_eq_some_iff.1 h1
      exact nm_no hn (c := 36) (by decide) _ (List.getElem_mem q1) q2
    · exact hge
  rw [List.take_append_of_le_length hle] at h
  exact ⟨p.drop nm.length, by conv => lhs; rw [← List.take_append_drop nm.length p, h]⟩

theorem key_app {nm p : Bs} (hn : isNm nm = true) : key (nm ++ p) = nm ++ key p := by
  unfold key
  rw [List.takeWhile_append_of_pos]
  intro c hc
  have := nm_no hn (c := 58) (by decide) c hc
  simpa using this

theorem hit1_dollar {nm p r : Bs} (hn : isNm nm = true) (hp : NoD p) : hit1 (36 :: (p ++ 36 :: r)) nm = if key p = nm ∧ (key p = p ∨ 10 ∉ p) then some (p.length + 2) else none := by
  unfold hit1
  rw [preB_cons]
  by_cases hpre : (p ++ 36 :: r).take nm.length = nm
  · obtain ⟨p', rfl⟩ := pre_in hn hpre
    rw [key_app hn, if_pos (by simp [hpre])]
    have hd : (36 :: (nm ++ p' ++ 36 :: r)).drop (nm.length + 1) = p' ++ 36 :: r := by
      rw [List.drop_succ_cons, List.append_assoc, List.drop_left]
    rw [hd]
    have hn10 : (10 : UInt8) ∉ nm := fun h => nm_no hn (c := 10) (by decide) _ h rfl
    cases p' with
    | nil =>
      simp [key]
    | cons c q =>
      have hc36 : c ≠ 36 := hp c (by simp)
      simp only [List.cons_append]
      rw [if_neg hc36]
      by_cases hc : c = 58
      · rw [if_neg (by simpa using hc)]
        have hk : key (c :: q) = [] := by simp [key, hc]
        rw [hk, List.append_nil]
        have hne : nm ≠ nm ++ c :: q := by
          intro e
          have := congrArg List.length e
          simp at this
        by_cases h10 : (10 : UInt8) ∈ c :: q
        · rw [if_neg (c := nm = nm ∧ _) (by rintro ⟨_, h | h⟩; exact hne h; exact h (List.mem_append_right _ h10))]
          rcases split_at 10 (c :: q) with h | ⟨a, b, e, h⟩
          · exact absurd rfl (h 10 h10)
          · have e2 : c :: (q ++ 36 :: r) = a ++ 10 :: (b ++ 36 :: r) := by rw [← List.cons_append, e]; simp
            have hpa : ∀ x ∈ a, plc x = true := fun x hx => by
              have h1 := hp x (List.mem_append_right _ (by rw [e]; exact List.mem_append_left _ hx))
              simp [plc, h1, h x hx]
            have ht : ((c :: (q ++ 36 :: r)).takeWhile plc).length = a.length := by
              rw [e2]
              refine tw_len (by rw [List.take_left]; exact hpa) (by simp) (fun x hx => ?_)
              rw [get_app] at hx; cases hx; rfl
            rw [ht, e2, get_app]
            simp
        · have hpa : ∀ x ∈ c :: q, plc x = true := fun x hx => by
            have h1 := hp x (List.mem_append_right _ hx)
            have h2 : x ≠ 10 := fun e => h10 (e ▸ hx)
            simp [plc, h1, h2]
          have e2 : c :: (q ++ 36 :: r) = (c :: q) ++ 36 :: r := by simp
          have ht : ((c :: (q ++ 36 :: r)).takeWhile plc).length = (c :: q).length := by
            rw [e2]
            refine tw_len (by rw [List.take_left]; exact hpa) (by simp) (fun x hx => ?_)
            rw [get_app] at hx; cases hx; rfl
          rw [ht, e2, get_app, if_pos rfl, if_pos ⟨rfl, .inr (by simp [hn10]; simpa using h10)⟩]
          simp; omega
      · rw [if_pos (by simpa using hc)]
        have hk : key (c :: q) = c :: key q := by simp [key, hc]
        rw [if_neg]
        rintro ⟨h, _⟩
        rw [hk] at h
        have := congrArg List.length h
        simp at this
  · rw [if_neg (by simp [hpre]), if_neg]
    rintro ⟨hk, _⟩
    apply hpre
    obtain ⟨q1, q2, _⟩ := tw_next p
    have hk' : p.takeWhile (fun c => !decide (c = 58)) = nm := hk
    rw [hk'] at q1 q2
    rw [List.take_append_of_le_length q1, q2]

theorem hit1_last {nm p : Bs} (hn : isNm nm = true) (hp : NoD p) : hit1 (36 :: p) nm = none := by
  unfold hit1
  rw [preB_cons]
  by_cases hpre : p.take nm.length = nm
  · rw [if_pos (by simp [hpre]), List.drop_succ_cons]
    have hq : NoD (p.drop nm.length) := fun c hc => hp c (List.mem_of_mem_drop hc)
    cases hd : p.drop nm.length with
    | nil => rfl
    | cons c q =>
      rw [hd] at hq
      simp only []
      rw [if_neg (hq c (by simp))]
      split
      · rfl
      · rw [if_neg]
        intro h
        obtain ⟨h1, h2⟩ := List.getElem?_eq_some_iff.1 h
        exact hq _ (List.getElem_mem h1) h2
  · rw [if_neg (by simp [hpre])]

theorem bgn_none {s : Bs} {names : List Bs} {k : Nat} (h : ∀ x ∈ names, hit1 s x = none) : bgn s k names = (0, 0) := by
  have := bgn_skip (k := k) (r := []) h
  rw [List.append_nil] at this
  rw [this, bgn]

theorem bgn_dollar {p r : Bs} (hp : NoD p) : ∀ {names : List Bs} {k : Nat}, (∀ s ∈ names, isNm s = true) → bgn (36 :: (p ++ 36 :: r)) k names = match dnm names p with
    | some nm => (p.length + 2, k + names.idxOf nm)
    | none => (0, 0)
  | [], k, _ => by simp [bgn, dnm]
  | nm :: names, k, hn => by
    have ih := bgn_dollar (r := r) hp (names := names) (k := k + 1) fun s hs => hn s (List.mem_cons_of_mem _ hs)
    rw [bgn, hit1_dollar (hn nm List.mem_cons_self) hp]
    have hdk : ∀ l, dnm l p = if key p ∈ l ∧ (key p = p ∨ 10 ∉ p) then some (key p) else none := fun l => rfl
    rw [hdk] at ih ⊢
    by_cases hC : key p = p ∨ 10 ∉ p
    · by_cases hk : key p = nm
      · rw [if_pos ⟨hk, hC⟩, if_pos ⟨by rw [hk]; exact List.mem_cons_self, hC⟩]
        simp [hk]
      · rw [if_neg (fun h => hk h.1)]
        simp only []
        rw [ih]
        by_cases hm : key p ∈ names
        · rw [if_pos ⟨hm, hC⟩, if_pos ⟨List.mem_cons_of_mem _ hm, hC⟩]
          simp only []
          have hbe : (nm == key p) = false := by simpa using fun e => hk e.symm
          rw [List.idxOf_cons, hbe]
          simp only [cond_false]
          congr 1; omega
        · rw [if_neg (fun h => hm h.1), if_neg (fun h => (List.mem_cons.1 h.1).elim hk hm)]
    · rw [if_neg (fun h => hC h.2), if_neg (fun h => hC h.2)]
      simp only []
      rw [ih, if_neg (fun h => hC h.2)]

def occN (names : List Bs) (o : Occ) : Nat × Nat × Nat := (o.2.1, o.2.2, names.idxOf o.1)

/-- THE TWO LISTS. -/
theorem rfind_occs {b : Bs} {names : List Bs} (hn : ∀ s ∈ names, isNm s = true) : ∀ (m i : Nat), b.length - i ≤ m → rfind b names i = (occs b names i).map (occN names)
  | m, i, hm => by
    by_cases hi : i < b.length
    · cases m with
      | zero => omega
      | succ m =>
        have ih := fun j (hj : i < j) => rfind_occs (b := b) hn m j (by omega)
        have hu : (b.take i).length = i := by rw [List.length_take]; omega
        have hb : b = b.take i ++ b.drop i := (List.take_append_drop i b).symm
        have hd : b.drop i = b[i] :: b.drop (i + 1) := List.drop_eq_getElem_cons hi
        by_cases hc : b[i] = 36
        · rw [hc] at hd
          rcases split_one (b.drop (i + 1)) with hno | ⟨p, q, e, hp⟩
          · have ha : atP b i names = none := by
              have := atP_one (names := names) (u := b.take i) hno
              rw [← hd, ← hb, hu] at this
              exact this
            have hg : bgn (b.drop i) 0 names = (0, 0) := by
              rw [hd]; exact bgn_none fun x hx => hit1_last (hn x hx) hno
            rw [rfind_zero hi hg, occs_none hi ha]
            exact ih _ (by omega)
          · rw [e] at hd
            have ha := atP_two (u := b.take i) (r := q) hn hp
            rw [← hd, ← hb, hu] at ha
            have hg := bgn_dollar (r := q) hp (k := 0) hn
            rw [← hd] at hg
            cases hdn : dnm names p with
            | some nm =>
              rw [hdn] at ha hg
              simp only [Nat.zero_add] at hg ha
              rw [rfind_succ hi (n := p.length + 1) hg, occs_some ha]
              simp only [List.map_cons]
              rw [ih _ (by omega)]
              have e1 : i + (p.length + 1) = i + 1 + p.length := by omega
              simp only [occN, e1]
            | none =>
              rw [hdn] at ha hg
              rw [rfind_zero hi hg, occs_none hi ha]
              exact ih _ (by omega)
        · have h0 : b[i]? ≠ some 36 := by rw [List.getElem?_eq_getElem hi]; simpa using hc
          have hg : bgn (b.drop i) 0 names = (0, 0) := bgn_none fun x hx => hit1_off (by rw [List.getElem?_drop]; simpa using h0)
          rw [rfind_zero hi hg, occs_none hi (atP_off h0)]
          exact ih _ (by omega)
    · rw [rfind_end hi, occs_end hi]; rfl

end Go.K10
