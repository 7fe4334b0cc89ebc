/- The plain law: a text, cut at its dollar signs. -/
import Derived.Test.YtppeejkegbjgdaaDoorKn
set_option linter.unusedSimpArgs false
set_option linter.unusedVariables false
namespace Go.K10
open Go Go.Avm Go.Proofs

/-- No dollar sign. -/
def NoD (p : Bs) : Prop := ∀ c ∈ p, c ≠ 36

def joinD : List Bs → Bs
  | [] => []
  | p :: ps => 36 :: p ++ joinD ps

theorem split_one : ∀ s : Bs, NoD s ∨ ∃ p q, s = p ++ 36 :: q ∧ NoD p
  | [] => .inl (by simp [NoD])
  | c :: s => by
    by_cases hc : c = 36
    · exact .inr ⟨[], s, by simp [hc], by simp [NoD]⟩
    · rcases split_one s with h | ⟨p, q, e, h⟩
      · exact .inl fun x hx => (List.mem_cons.1 hx).elim (fun e => e ▸ hc) (h x)
      · exact .inr ⟨c :: p, q, by simp [e], fun x hx => (List.mem_cons.1 hx).elim (fun e => e ▸ hc) (h x)⟩

theorem split_all : ∀ (n : Nat) (s : Bs), s.length ≤ n → ∃ p ps, s = p ++ joinD ps ∧ NoD p ∧ ∀ q ∈ ps, NoD q
  | n, s, hn => by
    rcases split_one s with h | ⟨p, q, e, h⟩
    · exact ⟨s, [], by simp [joinD], h, by simp⟩
    · cases n with
      | zero => rw [e] at hn; simp at hn
      | succ n =>
        obtain ⟨p', ps, e', h', hs⟩ := split_all n q (by rw [e] at hn; simp at hn; omega)
        exact ⟨p, p' :: ps, by rw [e, e', joinD]; simp, h, fun x hx => (List.mem_cons.1 hx).elim (fun e => e ▸ h') (hs x)⟩

theorem split_at (d : UInt8) : ∀ s : Bs, (∀ c ∈ s, c ≠ d) ∨ ∃ a b, s = a ++ d :: b ∧ ∀ c ∈ a, c ≠ d
  | [] => .inl (by simp)
  | c :: s => by
    by_cases hc : c = d
    · exact .inr ⟨[], s, by simp [hc], by simp⟩
    · rcases split_at d s with h | ⟨p, q, e, h⟩
      · exact .inl fun x hx => (List.mem_cons.1 hx).elim (fun e => e ▸ hc) (h x)
      · exact .inr ⟨c :: p, q, by simp [e], fun x hx => (List.mem_cons.1 hx).elim (fun e => e ▸ hc) (h x)⟩

theorem cons_all {p : UInt8 → Prop} {c : UInt8} {l : Bs} (h1 : p c) (h2 : ∀ x ∈ l, p x) : ∀ x ∈ c :: l, p x := by
  intro x hx
  rcases List.mem_cons.1 hx with rfl | hx
  · exact h1
  · exact h2 x hx

/-- The name of an occurrence with this text between its dollar signs. -/
def dnm (names : List Bs) (p : Bs) : Option Bs :=
  if p.takeWhile (fun c => !decide (c = 58)) ∈ names ∧ (p.takeWhile (fun c => !decide (c = 58)) = p ∨ 10 ∉ p) then some (p.takeWhile fun c => !decide (c = 58)) else none

theorem tw_all {p : UInt8 → Bool} : ∀ {l : Bs}, (∀ c ∈ l, p c = true) → l.takeWhile p = l
  | [], _ => rfl
  | c :: l, h => by rw [List.takeWhile_cons, if_pos (h c List.mem_cons_self), tw_all fun x hx => h x (List.mem_cons_of_mem _ hx)]

theorem letters {names : List Bs} (hn : ∀ s ∈ names, isNm s = true) {s : Bs} (hs : s ∈ names) {c : UInt8} (hc : c ∈ s) : letter c = true := by
  have := hn s hs
  simp only [isNm, Bool.and_eq_true, List.all_eq_true] at this
  exact this.1 c hc

theorem get_app {u r : Bs} {x : UInt8} : (u ++ x :: r)[u.length]? = some x := by simp

/-- At a dollar sign with another one behind it. -/
theorem atP_two {names : List Bs} (hn : ∀ s ∈ names, isNm s = true) {u p r : Bs} (hp : NoD p) :
    atP (u ++ 36 :: (p ++ 36 :: r)) u.length names = (dnm names p).map fun nm => (nm, u.length, u.length + 1 + p.length) := by
  have hd : (u ++ 36 :: (p ++ 36 :: r)).drop (u.length + 1) = p ++ 36 :: r := by
    rw [← List.drop_drop, List.drop_left]; rfl
  unfold atP
  rw [if_neg (by simp), hd]
  -- up to the first colon
  rcases split_at 58 p with h58 | ⟨a, b, rfl, h58⟩
  · rw [idx_hit (fun y hy => ⟨hp y hy, h58 y hy⟩) (.inl rfl)]
    simp only []
    have ht : (p ++ 36 :: r).take p.length = p := by simp
    have hw : p.takeWhile (fun c => !decide (c = 58)) = p := tw_all fun c hc => by simp [h58 c hc]
    have hg : (u ++ 36 :: (p ++ 36 :: r))[u.length + 1 + p.length]? = some 36 := by
      have : u ++ 36 :: (p ++ 36 :: r) = (u ++ 36 :: p) ++ 36 :: r := by simp
      rw [this, show u.length + 1 + p.length = (u ++ 36 :: p).length by simp; omega]
      exact get_app
    rw [ht, dnm, hw]
    by_cases hm : p ∈ names
    · rw [if_neg (by rw [Bool.not_eq_false]; exact List.any_eq_true.2 ⟨p, hm, by simp⟩), if_pos hg, if_pos ⟨hm, .inl rfl⟩]
      rfl
    · rw [if_pos (by rw [List.any_eq_false]; intro y hy e; exact hm (of_decide_eq_true e ▸ hy)), if_neg (fun e => hm e.1)]
      rfl
  · have hpa : ∀ c ∈ a, c ≠ 36 := fun c hc => hp c (by simp [hc])
    have hpb : ∀ c ∈ b, c ≠ 36 := fun c hc => hp c (by simp [hc])
    have e1 : a ++ 58 :: b ++ 36 :: r = a ++ 58 :: (b ++ 36 :: r) := by simp
    rw [e1, idx_hit (fun y hy => ⟨hpa y hy, h58 y hy⟩) (.inr rfl)]
    simp only []
    have ht : (a ++ 58 :: (b ++ 36 :: r)).take a.length = a := by simp
    have hw : (a ++ 58 :: b).takeWhile (fun c => !decide (c = 58)) = a := by
      rw [List.takeWhile_append_of_pos (fun c hc => by simp [h58 c hc])]
      simp
    rw [ht, dnm, hw]
    by_cases hm : a ∈ names
    · rw [if_neg (by rw [Bool.not_eq_false]; exact List.any_eq_true.2 ⟨a, hm, by simp⟩)]
      have e2 : u ++ 36 :: (a ++ 58 :: (b ++ 36 :: r)) = (u ++ 36 :: a) ++ 58 :: (b ++ 36 :: r) := by simp
      have e3 : u.length + 1 + a.length = (u ++ 36 :: a).length := by simp; omega
      rw [e2, e3, get_app, if_neg (by decide), List.drop_left]
      have hne : ¬ a = a ++ 58 :: b := by
        intro e; have := congrArg List.length e; simp at this
      by_cases h10 : (10 : UInt8) ∈ b
      · -- an end of a line
        obtain ⟨x, y, rfl, hx⟩ := (split_at 10 b).resolve_left fun h => h 10 h10 rfl
        have e4 : 58 :: (x ++ 10 :: y ++ 36 :: r) = (58 :: x) ++ 10 :: (y ++ 36 :: r) := by simp
        rw [e4, idx_hit (cons_all (by decide) fun z hz => ⟨hpb z (by simp [hz]), hx z hz⟩) (.inr rfl)]
        simp only []
        have e5 : (u ++ 36 :: a) ++ ((58 :: x) ++ 10 :: (y ++ 36 :: r)) = ((u ++ 36 :: a) ++ (58 :: x)) ++ 10 :: (y ++ 36 :: r) := by simp
        rw [e5, show (u ++ 36 :: a).length + (58 :: x).length = ((u ++ 36 :: a) ++ (58 :: x)).length from (List.length_append).symm, get_app, if_neg (by decide), if_neg]
        · rfl
        · rintro ⟨_, h | h⟩
          · exact hne h
          · exact h (by simp)
      · have e4 : 58 :: (b ++ 36 :: r) = (58 :: b) ++ 36 :: r := by simp
        rw [e4, idx_hit (cons_all (by decide) fun z hz => ⟨hpb z hz, fun e => h10 (by rw [← e]; exact hz)⟩) (.inl rfl)]
        simp only []
        have e5 : (u ++ 36 :: a) ++ ((58 :: b) ++ 36 :: r) = ((u ++ 36 :: a) ++ (58 :: b)) ++ 36 :: r := by simp
        have h10a : (10 : UInt8) ∉ a := fun h => by have := letters hn hm h; simp [letter] at this
        rw [e5, show (u ++ 36 :: a).length + (58 :: b).length = ((u ++ 36 :: a) ++ (58 :: b)).length from (List.length_append).symm, get_app, if_pos rfl, if_pos ⟨hm, .inr (by simp [h10, h10a])⟩]
        simp only [Option.map_some, Option.some.injEq, Prod.mk.injEq, true_and]
        simp; omega
    · rw [if_pos (by rw [List.any_eq_false]; intro y hy e; exact hm (of_decide_eq_true e ▸ hy)), if_neg (fun e => hm e.1)]
      rfl


/-- At a dollar sign with no other one behind it. -/
theorem atP_one {names : List Bs} {u p : Bs} (hp : NoD p) : atP (u ++ 36 :: p) u.length names = none := by
  have hd : (u ++ 36 :: p).drop (u.length + 1) = p := by
    rw [← List.drop_drop, List.drop_left]; rfl
  unfold atP
  rw [if_neg (by simp), hd]
  have nod : ∀ i, u.length < i → ¬ (u ++ 36 :: p)[i]? = some 36 := by
    intro i hi e
    rw [List.getElem?_append_right (by omega)] at e
    obtain ⟨k, hk⟩ : ∃ k, i - u.length = k + 1 := ⟨i - u.length - 1, by omega⟩
    rw [hk, List.getElem?_cons_succ] at e
    exact hp _ (List.mem_of_getElem? e) rfl
  cases idx p 58 with
  | none => rfl
  | some n =>
    simp only []
    split
    · rfl
    rw [if_neg (nod _ (by omega))]
    cases idx ((u ++ 36 :: p).drop (u.length + 1 + n)) 10 with
    | none => rfl
    | some m => simp only []; rw [if_neg (nod _ (by omega))]

theorem atP_off {names : List Bs} {b : Bs} {i : Nat} (h : b[i]? ≠ some 36) : atP b i names = none := by
  unfold atP; rw [if_pos h]

/-- Bytes that are no dollar signs are passed over. -/
theorem occs_skip {names : List Bs} : ∀ {p u r : Bs}, NoD p → occs (u ++ p ++ r) names u.length = occs (u ++ p ++ r) names (u.length + p.length)
  | [], u, r, _ => by simp
  | c :: p, u, r, h => by
    have h1 : (u ++ c :: p ++ r)[u.length]? = some c := by simp
    have h2 : atP (u ++ c :: p ++ r) u.length names = none := atP_off (by rw [h1]; intro e; exact h c List.mem_cons_self (Option.some.inj e))
    rw [occs_none (by simp) h2]
    have e : u ++ c :: p ++ r = (u ++ [c]) ++ p ++ r := by simp
    have := occs_skip (names := names) (p := p) (u := u ++ [c]) (r := r) fun x hx => h x (List.mem_cons_of_mem _ hx)
    rw [e]
    simp only [List.length_append, List.length_cons, List.length_nil] at this ⊢
    rw [this]; congr 1; omega

/-- The occurrences by the pieces; the first piece stands behind the dollar sign at this place. -/
def occL (names : List Bs) : Nat → List Bs → List Occ
  | _, [] => []
  | _, [_] => []
  | i, p :: q :: r =>
    match dnm names p with
    | some nm => (nm, i, i + 1 + p.length) :: occL names (i + 1 + p.length + 1 + q.length) r
    | none => occL names (i + 1 + p.length) (q :: r)

theorem occs_pieces {names : List Bs} (hn : ∀ s ∈ names, isNm s = true) : ∀ (n : Nat) (ps : List Bs) (u : Bs), ps.length ≤ n → (∀ p ∈ ps, NoD p) → occs (u ++ joinD ps) names u.length = occL names u.length ps
  | _, [], u, _, _ => by simp [joinD, occL, occs_end]
  | _, [p], u, _, h => by
    have hp := h p (by simp)
    have e : u ++ joinD [p] = u ++ 36 :: p := by simp [joinD]
    rw [e, occs_none (by simp) (atP_one hp)]
    have := occs_skip (names := names) (p := p) (u := u ++ [36]) (r := []) hp
    simp only [List.append_nil, List.length_append, List.length_cons, List.length_nil, List.append_assoc, List.cons_append, List.nil_append] at this
    rw [this, occs_end (by simp; omega)]
    rfl
  | n + 1, p :: q :: r, u, hl, h => by
    have hp := h p (by simp)
    have hq := h q (by simp)
    have e : u ++ joinD (p :: q :: r) = u ++ 36 :: (p ++ 36 :: (q ++ joinD r)) := by simp [joinD]
    have ha := atP_two (u := u) (r := q ++ joinD r) hn hp
    rw [e, occL]
    cases hd : dnm names p with
    | some nm =>
      rw [hd] at ha
      rw [occs_some ha]
      simp only []
      congr 1
      have e2 : u ++ 36 :: (p ++ 36 :: (q ++ joinD r)) = (u ++ 36 :: (p ++ [36])) ++ q ++ joinD r := by simp
      have h3 := occs_skip (names := names) (p := q) (u := u ++ 36 :: (p ++ [36])) (r := joinD r) hq
      have hlen : (u ++ 36 :: (p ++ [36])).length = u.length + 1 + p.length + 1 := by simp; omega
      rw [hlen] at h3
      rw [e2, h3]
      have ih := occs_pieces hn n r ((u ++ 36 :: (p ++ [36])) ++ q) (by simp at hl; omega) (fun x hx => h x (by simp [hx]))
      have hlen2 : ((u ++ 36 :: (p ++ [36])) ++ q).length = u.length + 1 + p.length + 1 + q.length := by rw [List.length_append, hlen]
      rw [hlen2] at ih
      exact ih
    | none =>
      rw [hd] at ha
      rw [occs_none (by simp) ha]
      simp only []
      have e2 : u ++ 36 :: (p ++ 36 :: (q ++ joinD r)) = (u ++ [36]) ++ p ++ joinD (q :: r) := by simp [joinD]
      have h3 := occs_skip (names := names) (p := p) (u := u ++ [36]) (r := joinD (q :: r)) hp
      have hlen : (u ++ [36]).length = u.length + 1 := by simp
      rw [hlen] at h3
      rw [e2, h3]
      have ih := occs_pieces hn n (q :: r) ((u ++ [36]) ++ p) (by simp at hl ⊢; omega) (fun x hx => h x (by simp at hx ⊢; exact .inr hx))
      have hlen2 : ((u ++ [36]) ++ p).length = u.length + 1 + p.length := by simp; omega
      rw [hlen2] at ih
      exact ih

/-- The occurrences of a text that is cut at its dollar signs. -/
theorem occs_cut {names : List Bs} (hn : ∀ s ∈ names, isNm s = true) {p : Bs} {ps : List Bs} (hp : NoD p) (h : ∀ q ∈ ps, NoD q) : occs (p ++ joinD ps) names 0 = occL names p.length ps := by
  have h1 := occs_skip (names := names) (p := p) (u := []) (r := joinD ps) hp
  simp only [List.nil_append, List.length_nil, Nat.zero_add] at h1
  rw [h1, occs_pieces hn ps.length ps p (Nat.le_refl _) h]

/-- The pieces of the text in which the occurrences are replaced. -/
def gop (names : List Bs) (inner : Bs → Bs) : List Bs → List Bs
  | [] => []
  | [p] => [p]
  | p :: q :: r =>
    match dnm names p with
    | some nm => inner nm :: q :: gop names inner r
    | none => p :: gop names inner (q :: r)

theorem repSt_app {b : Bs} {form : Bs → Bs} : ∀ {os : List Occ} {s : Bs × Nat} {x : Bs}, os.foldl (repStep b form) (x ++ s.1, s.2) = (x ++ (os.foldl (repStep b form) s).1, (os.foldl (repStep b form) s).2)
  | [], s, x => rfl
  | o :: os, s, x => by
    rw [List.foldl_cons, List.foldl_cons]
    have : repStep b form (x ++ s.1, s.2) o = (x ++ (repStep b form s o).1, (repStep b form s o).2) := by simp [repStep]
    rw [this]; exact repSt_app

def replF (b : Bs) (form : Bs → Bs) (from_ : Nat) (os : List Occ) : Bs := (os.foldl (repStep b form) ([], from_)).1 ++ b.drop (os.foldl (repStep b form) ([], from_)).2

theorem replF_cons {b : Bs} {form : Bs → Bs} {i : Nat} {o : Occ} {os : List Occ} : replF b form i (o :: os) = (b.take o.2.1).drop i ++ form o.1 ++ replF b form (o.2.2 + 1) os := by
  have := repSt_app (b := b) (form := form) (os := os) (s := ([], o.2.2 + 1)) (x := (b.take o.2.1).drop i ++ form o.1)
  simp only [List.append_nil] at this
  have e : repStep b form ([], i) o = ((b.take o.2.1).drop i ++ form o.1, o.2.2 + 1) := by simp [repStep]
  rw [replF, List.foldl_cons, e, this]
  simp [replF]

theorem replF_pieces {names : List Bs} {form inner : Bs → Bs} (hf : ∀ s ∈ names, form s = 36 :: (inner s ++ [36])) : ∀ (n : Nat) (ps : List Bs) (u v : Bs), ps.length ≤ n → (∀ p ∈ ps, NoD p) →
    replF (u ++ v ++ joinD ps) form u.length (occL names (u.length + v.length) ps) = v ++ joinD (gop names inner ps)
  | _, [], u, v, _, _ => by simp [occL, replF, joinD, gop]
  | _, [p], u, v, _, _ => by simp [occL, replF, joinD, gop]
  | n + 1, p :: q :: r, u, v, hl, h => by
    rw [occL, gop]
    cases hd : dnm names p with
    | some nm =>
      simp only []
      have hm : nm ∈ names := by
        unfold dnm at hd
        split at hd
        · rename_i hc; cases hd; exact hc.1
        · cases hd
      rw [replF_cons]
      have e1 : u ++ v ++ joinD (p :: q :: r) = u ++ v ++ (36 :: (p ++ 36 :: (q ++ joinD r))) := by simp [joinD]
      have e2 : ((u ++ v ++ joinD (p :: q :: r)).take (u.length + v.length)).drop u.length = v := by
        rw [show u.length + v.length = (u ++ v).length by simp, List.take_left, List.drop_left]
      have e3 : u ++ v ++ joinD (p :: q :: r) = (u ++ v ++ 36 :: (p ++ [36])) ++ q ++ joinD r := by simp [joinD]
      have ih := replF_pieces hf n r (u ++ v ++ 36 :: (p ++ [36])) q (by simp at hl; omega) (fun x hx => h x (by simp [hx]))
      have hlen : (u ++ v ++ 36 :: (p ++ [36])).length = u.length + v.length + 1 + p.length + 1 := by simp; omega
      rw [hlen, ← e3] at ih
      rw [e2, ih, hf nm hm]
      simp [joinD]
    | none =>
      simp only []
      have e3 : u ++ v ++ joinD (p :: q :: r) = u ++ (v ++ 36 :: p) ++ joinD (q :: r) := by simp [joinD]
      have ih := replF_pieces hf n (q :: r) u (v ++ 36 :: p) (by simp at hl ⊢; omega) (fun x hx => h x (by simp at hx ⊢; exact .inr hx))
      have hlen : u.length + (v ++ 36 :: p).length = u.length + v.length + 1 + p.length := by simp; omega
      rw [hlen, ← e3] at ih
      rw [ih]
      simp [joinD]

theorem repl_cut {names : List Bs} (hn : ∀ s ∈ names, isNm s = true) {form inner : Bs → Bs} (hf : ∀ s ∈ names, form s = 36 :: (inner s ++ [36])) {p : Bs} {ps : List Bs} (hp : NoD p) (h : ∀ q ∈ ps, NoD q) :
    repl (p ++ joinD ps) form (occs (p ++ joinD ps) names 0) = p ++ joinD (gop names inner ps) := by
  have := replF_pieces hf ps.length ps [] p (Nat.le_refl _) h
  simp only [List.nil_append, List.length_nil, Nat.zero_add] at this
  rw [occs_cut hn hp h]
  exact this

/-- Between the dollar signs of an occurrence of a name. -/
def Inner (names : List Bs) (inner : Bs → Bs) : Prop := ∀ s ∈ names, dnm names (inner s) = some s ∧ NoD (inner s)

theorem gop_nod {names : List Bs} {inner : Bs → Bs} (hi : Inner names inner) : ∀ (n : Nat) (ps : List Bs), ps.length ≤ n → (∀ p ∈ ps, NoD p) → ∀ p ∈ gop names inner ps, NoD p
  | _, [], _, _ => by simp [gop]
  | _, [p], _, h => by simpa [gop] using h
  | n + 1, p :: q :: r, hl, h => by
    rw [gop]
    cases hd : dnm names p with
    | some nm =>
      simp only []
      have hm : nm ∈ names := by
        unfold dnm at hd
        split at hd
        · rename_i hc; cases hd; exact hc.1
        · cases hd
      have ih := gop_nod hi n r (by simp at hl; omega) (fun x hx => h x (by simp [hx]))
      intro x hx
      simp only [List.mem_cons] at hx
      rcases hx with rfl | rfl | hx
      · exact (hi nm hm).2
      · exact h _ (by simp)
      · exact ih x hx
    | none =>
      simp only []
      have ih := gop_nod hi n (q :: r) (by simp at hl ⊢; omega) (fun x hx => h x (by simp at hx ⊢; exact .inr hx))
      intro x hx
      rcases List.mem_cons.1 hx with rfl | hx
      · exact h _ (by simp)
      · exact ih x hx

theorem gop_gop {names : List Bs} {f g : Bs → Bs} (hi : Inner names f) : ∀ (n : Nat) (ps : List Bs), ps.length ≤ n → gop names g (gop names f ps) = gop names g ps
  | _, [], _ => by simp [gop]
  | _, [p], _ => by simp [gop]
  | n + 1, p :: q :: r, hl => by
    cases hd : dnm names p with
    | some nm =>
      have hm : nm ∈ names := by
        unfold dnm at hd
        split at hd
        · rename_i hc; cases hd; exact hc.1
        · cases hd
      have ih := gop_gop (g := g) hi n r (by simp at hl; omega)
      simp only [gop, hd, (hi nm hm).1, ih]
    | none =>
      have ih := gop_gop (g := g) hi n (q :: r) (by simp at hl ⊢; omega)
      have hshape : ∃ a l, gop names f (q :: r) = a :: l := by
        cases r with
        | nil => exact ⟨q, [], rfl⟩
        | cons s r =>
          rw [gop]
          cases dnm names q with
          | some nm => exact ⟨_, _, rfl⟩
          | none => exact ⟨_, _, rfl⟩
      obtain ⟨a, l, e⟩ := hshape
      have e1 : gop names f (p :: q :: r) = p :: gop names f (q :: r) := by simp only [gop, hd]
      have e2 : gop names g (p :: q :: r) = p :: gop names g (q :: r) := by simp only [gop, hd]
      rw [e1, e2, ← ih, e]
      simp only [gop, hd]

/-- REPLACING AND REPLACING AGAIN. -/
theorem repl_repl {names : List Bs} (hn : ∀ s ∈ names, isNm s = true) {F G f g : Bs → Bs} (hF : ∀ s ∈ names, F s = 36 :: (f s ++ [36])) (hG : ∀ s ∈ names, G s = 36 :: (g s ++ [36])) (hf : Inner names f) (b : Bs) :
    repl (repl b F (occs b names 0)) G (occs (repl b F (occs b names 0)) names 0) = repl b G (occs b names 0) := by
  obtain ⟨p, ps, rfl, hp, hs⟩ := split_all b.length b (Nat.le_refl _)
  rw [repl_cut hn hF hp hs, repl_cut hn hG hp (gop_nod hf ps.length ps (Nat.le_refl _) hs), repl_cut hn hG hp hs, gop_gop hf ps.length ps (Nat.le_refl _)]

end Go.K10
