/- The statement KeywordOccurs. -/
import Derived.Test.YtppeejkegbjgdaaDoorKs
set_option linter.unusedSimpArgs false
set_option linter.unusedVariables false
namespace Go.K10
open Go Go.Avm Go.Proofs

theorem tw_next : ∀ l : Bs, (l.takeWhile fun c => !decide (c = 58)).length ≤ l.length ∧ l.take (l.takeWhile fun c => !decide (c = 58)).length = (l.takeWhile fun c => !decide (c = 58)) ∧
    (l.length = (l.takeWhile fun c => !decide (c = 58)).length ∨ l[(l.takeWhile fun c => !decide (c = 58)).length]? = some 58)
  | [] => by simp
  | c :: l => by
    obtain ⟨h1, h2, h3⟩ := tw_next l
    by_cases hc : c = 58
    · simp [hc]
    · rw [List.takeWhile_cons, if_pos (by simp [hc])]
      simp only [List.length_cons, List.take_succ_cons, h2, List.getElem?_cons_succ]
      exact ⟨by omega, trivial, by rcases h3 with h | h; exact .inl (by omega); exact .inr h⟩

/-- What an occurrence is. -/
structure OccOk (b : Bs) (names : List Bs) (o : Occ) : Prop where
  first : b[o.2.1]? = some 36
  last : b[o.2.2]? = some 36
  long : o.2.1 + 1 < o.2.2
  noD : ∀ c ∈ (b.take o.2.2).drop (o.2.1 + 1), c ≠ 36 ∧ c ≠ 10
  name : o.1 ∈ names
  size : o.1.length ≤ ((b.take o.2.2).drop (o.2.1 + 1)).length
  pre : ((b.take o.2.2).drop (o.2.1 + 1)).take o.1.length = o.1
  next : ((b.take o.2.2).drop (o.2.1 + 1)).length = o.1.length ∨ ((b.take o.2.2).drop (o.2.1 + 1))[o.1.length]? = some 58

theorem occOk_of {names : List Bs} (hn : ∀ s ∈ names, isNm s = true) {u p r : Bs} {nm : Bs} (hp : NoD p) (hd : dnm names p = some nm) : OccOk (u ++ 36 :: (p ++ 36 :: r)) names (nm, u.length, u.length + 1 + p.length) := by
  have hm := dnm_mem hd
  have hnm := hn nm hm
  unfold dnm at hd
  split at hd
  · rename_i hc
    obtain ⟨q1, q2, q3⟩ := tw_next p
    have en : p.takeWhile (fun c => !decide (c = 58)) = nm := Option.some.inj hd
    rw [en] at q1 q2 q3 hc
    have e0 : u ++ 36 :: (p ++ 36 :: r) = (u ++ 36 :: p) ++ 36 :: r := by simp
    have e1 : u.length + 1 + p.length = (u ++ 36 :: p).length := by simp; omega
    have e2 : (u ++ 36 :: p).drop (u.length + 1) = p := by
      have : u ++ 36 :: p = (u ++ [36]) ++ p := by simp
      rw [this, show u.length + 1 = (u ++ [36]).length by simp, List.drop_left]
    have hb : ((u ++ 36 :: (p ++ 36 :: r)).take (u.length + 1 + p.length)).drop (u.length + 1) = p := by
      rw [e0, e1, List.take_left, e2]
    have hne : 1 ≤ nm.length := by
      simp only [isNm, Bool.and_eq_true] at hnm
      have := hnm.2.1
      cases nm with
      | nil => simp at this
      | cons a l => simp
    refine ⟨by simp, ?_, by show u.length + 1 < u.length + 1 + p.length; omega, ?_, hm, ?_, ?_, ?_⟩
    · rw [e0]
      show ((u ++ 36 :: p) ++ 36 :: r)[u.length + 1 + p.length]? = some 36
      rw [e1, get_app]
    · show ∀ c ∈ ((u ++ 36 :: (p ++ 36 :: r)).take (u.length + 1 + p.length)).drop (u.length + 1), c ≠ 36 ∧ c ≠ 10
      rw [hb]
      intro c hc'
      refine ⟨hp c hc', ?_⟩
      rcases hc.2 with h | h
      · rw [← h] at hc'
        exact nm_no hnm (by decide) c hc'
      · rintro rfl; exact h hc'
    · show nm.length ≤ (((u ++ 36 :: (p ++ 36 :: r)).take (u.length + 1 + p.length)).drop (u.length + 1)).length
      rw [hb]; exact q1
    · show (((u ++ 36 :: (p ++ 36 :: r)).take (u.length + 1 + p.length)).drop (u.length + 1)).take nm.length = nm
      rw [hb]; exact q2
    · show (((u ++ 36 :: (p ++ 36 :: r)).take (u.length + 1 + p.length)).drop (u.length + 1)).length = nm.length ∨ (((u ++ 36 :: (p ++ 36 :: r)).take (u.length + 1 + p.length)).drop (u.length + 1))[nm.length]? = some 58
      rw [hb]; exact q3
  · cases hd

theorem occL_ok {names : List Bs} (hn : ∀ s ∈ names, isNm s = true) : ∀ (n : Nat) (ps : List Bs) (u : Bs), ps.length ≤ n → (∀ p ∈ ps, NoD p) → ∀ o ∈ occL names u.length ps, OccOk (u ++ joinD ps) names o
  | _, [], u, _, _ => by simp [occL]
  | _, [p], u, _, _ => by simp [occL]
  | n + 1, p :: q :: r, u, hl, h => by
    have hp := h p (by simp)
    rw [occL]
    cases hd : dnm names p with
    | some nm =>
      simp only []
      intro o ho
      have e3 : u ++ joinD (p :: q :: r) = (u ++ 36 :: (p ++ [36]) ++ q) ++ joinD r := by simp [joinD]
      rcases List.mem_cons.1 ho with rfl | ho
      · have e4 : u ++ joinD (p :: q :: r) = u ++ 36 :: (p ++ 36 :: (q ++ joinD r)) := by simp [joinD]
        rw [e4]
        exact occOk_of hn hp hd
      · have hlen : (u ++ 36 :: (p ++ [36]) ++ q).length = u.length + 1 + p.length + 1 + q.length := by simp; omega
        rw [← hlen] at ho
        rw [e3]
        exact occL_ok hn n r _ (by simp at hl; omega) (fun x hx => h x (by simp [hx])) o ho
    | none =>
      simp only []
      intro o ho
      have e3 : u ++ joinD (p :: q :: r) = (u ++ 36 :: p) ++ joinD (q :: r) := by simp [joinD]
      have hlen : (u ++ 36 :: p).length = u.length + 1 + p.length := by simp; omega
      rw [← hlen] at ho
      rw [e3]
      exact occL_ok hn n (q :: r) _ (by simp at hl ⊢; omega) (fun x hx => h x (by simp at hx ⊢; exact .inr hx)) o ho

theorem occs_ok {names : List Bs} (hn : ∀ s ∈ names, isNm s = true) (b : Bs) : ∀ o ∈ occs b names 0, OccOk b names o := by
  obtain ⟨p, ps, rfl, hp, hs⟩ := split_all b.length b (Nat.le_refl _)
  rw [occs_cut hn hp hs]
  exact occL_ok hn ps.length ps p (Nat.le_refl _) hs

def hitB (body s : Bs) : Bool := decide (s.length ≤ body.length) && decide (body.take s.length = s) && (decide (body.length = s.length) || decide (body[s.length]? = some 58))

theorem chained_at {n : Nat} : ∀ {os : List Occ} {i k : Nat}, Chained n i os → k < os.length → ∃ j, (∀ o, os[k]? = some o → j ≤ o.2.1 ∧ o.2.1 < o.2.2 ∧ o.2.2 < n) ∧ (k = 0 → j = i) ∧ (∀ k', k = k' + 1 → ∀ o, os[k']? = some o → j = o.2.2 + 1)
  | [], i, k, h, hk => by simp at hk
  | o :: os, i, 0, h, hk => ⟨i, fun o' ho => by simp at ho; subst ho; exact ⟨h.1, h.2.1, h.2.2.1⟩, fun _ => rfl, fun k' e => by omega⟩
  | o :: os, i, k + 1, h, hk => by
    obtain ⟨j, h1, h2, h3⟩ := chained_at (k := k) h.2.2.2 (by simpa using hk)
    refine ⟨j, fun o' ho => h1 o' (by simpa using ho), fun e => by omega, fun k' e o' ho => ?_⟩
    have : k = k' := by omega
    subst this
    cases k with
    | zero => simp at ho; subst ho; exact h2 rfl
    | succ k => exact h3 k rfl o' (by simpa using ho)

/-- Where the search goes on behind the first k occurrences. -/
def endOf (os : List Occ) (k : Nat) : Nat :=
  match k with
  | 0 => 0
  | k + 1 => ((os[k]?).map fun o => o.2.2 + 1).getD 0

theorem keywordOccurs_ok {g0 : Gh} (hG : Glob g0) (b : Bs) (ns : List Bs) (f1 n1 f2 n2 : Bool) (h : AH) (hw : ns.length ≤ 9223372036854775807) :
    ACalls Tryd.prog g0 4 [.sl 1 (b.map byteV) f1 n1, .sl 1 (ns.map .str) f2 n2] h fun r h' => h' = h ∧ r = .bool true := by
  refine acalls_E F4_ok rfl fun g1 hg => ?_
  simp only [F4, symCode, symIts, symOp, symBind, symQ, symT, symVal, symLook, symSlice, symHeap, symStep, symRange, symRaw, symBsl, symClr, symClrH, symGb, junkG, Bool.false_eq_true, decide_true, decide_false, symRes, symFrz, symApp, symMap, symMapOp, bindO_some, Option.map_some, Option.bind_some, List.length_cons, List.length_nil, List.length_append, List.drop_zero, List.drop_succ_cons, List.take_succ_cons, List.take_zero, List.getElem?_cons_zero, List.getElem?_cons_succ, List.set_cons_zero, List.set_cons_succ, Nat.reduceLeDiff, List.map_cons, List.map_nil, setPart_agg, setPart_one, symSet, symSetF, Nat.reduceLT, fillV, buildV, List.replicate_succ, List.replicate_zero, Nat.lt_add_one, and_self, if_true, PV.one, PV.isAgg, PV.cells, PV.okc, List.all_cons, List.all_nil, Bool.and_self, List.nil_append, List.append_nil, List.cons_append, Nat.zero_add, Nat.add_zero, true_and, and_true, Nat.reduceEqDiff, reduceIte, Nat.reduceAdd]
  refine (large b ns f1 n1 f2 n2 h hw).go' ?_
  rintro r rfl
  simp only [symCode, symIts, symOp, symBind, symQ, symT, symVal, symLook, symSlice, symHeap, symStep, symRange, symRaw, symBsl, symClr, symClrH, symGb, junkG, Bool.false_eq_true, decide_true, decide_false, symRes, symFrz, symApp, symMap, symMapOp, bindO_some, Option.map_some, Option.bind_some, List.length_cons, List.length_nil, List.length_append, List.drop_zero, List.drop_succ_cons, List.take_succ_cons, List.take_zero, List.getElem?_cons_zero, List.getElem?_cons_succ, List.set_cons_zero, List.set_cons_succ, Nat.reduceLeDiff, List.map_cons, List.map_nil, setPart_agg, setPart_one, symSet, symSetF, Nat.reduceLT, fillV, buildV, List.replicate_succ, List.replicate_zero, Nat.lt_add_one, and_self, if_true, PV.one, PV.isAgg, PV.cells, PV.okc, List.all_cons, List.all_nil, Bool.and_self, List.nil_append, List.append_nil, List.cons_append, Nat.zero_add, Nat.add_zero, true_and, and_true, Nat.reduceEqDiff, reduceIte, Nat.reduceAdd]
  refine brC_mk (fun hc => ?_) (fun hc => ?_)
  · simp only [symCode, symIts, symOp, symBind, symQ, symT, symVal, symLook, symSlice, symHeap, symStep, symRange, symRaw, symBsl, symClr, symClrH, symGb, junkG, Bool.false_eq_true, decide_true, decide_false, symRes, symFrz, symApp, symMap, symMapOp, bindO_some, Option.map_some, Option.bind_some, List.length_cons, List.length_nil, List.length_append, List.drop_zero, List.drop_succ_cons, List.take_succ_cons, List.take_zero, List.getElem?_cons_zero, List.getElem?_cons_succ, List.set_cons_zero, List.set_cons_succ, Nat.reduceLeDiff, List.map_cons, List.map_nil, setPart_agg, setPart_one, symSet, symSetF, Nat.reduceLT, fillV, buildV, List.replicate_succ, List.replicate_zero, Nat.lt_add_one, and_self, if_true, PV.one, PV.isAgg, PV.cells, PV.okc, List.all_cons, List.all_nil, Bool.and_self, List.nil_append, List.append_nil, List.cons_append, Nat.zero_add, Nat.add_zero, true_and, and_true, Nat.reduceEqDiff, reduceIte, Nat.reduceAdd]
    refine (awake (hG.le hg) h).go' ?_
    rintro r rfl
    simp only [symCode, symIts, symOp, symBind, symQ, symT, symVal, symLook, symSlice, symHeap, symStep, symRange, symRaw, symBsl, symClr, symClrH, symGb, junkG, Bool.false_eq_true, decide_true, decide_false, symRes, symFrz, symApp, symMap, symMapOp, bindO_some, Option.map_some, Option.bind_some, List.length_cons, List.length_nil, List.length_append, List.drop_zero, List.drop_succ_cons, List.take_succ_cons, List.take_zero, List.getElem?_cons_zero, List.getElem?_cons_succ, List.set_cons_zero, List.set_cons_succ, Nat.reduceLeDiff, List.map_cons, List.map_nil, setPart_agg, setPart_one, symSet, symSetF, Nat.reduceLT, fillV, buildV, List.replicate_succ, List.replicate_zero, Nat.lt_add_one, and_self, if_true, PV.one, PV.isAgg, PV.cells, PV.okc, List.all_cons, List.all_nil, Bool.and_self, List.nil_append, List.append_nil, List.cons_append, Nat.zero_add, Nat.add_zero, true_and, and_true, Nat.reduceEqDiff, reduceIte, Nat.reduceAdd]
    exact ⟨Ext.refl _, rfl⟩
  have hbl : b.length ≤ 1500 := by simp [largeB] at hc; omega
  have hnl : ns.length ≤ 8 := by simp [largeB] at hc; omega
  have hns : ∀ s ∈ ns, s.length ≤ 60 := by simp [largeB] at hc; exact hc.2
  have hol := occs_len b ns
  simp only [symCode, symIts, symOp, symBind, symQ, symT, symVal, symLook, symSlice, symHeap, symStep, symRange, symRaw, symBsl, symClr, symClrH, symGb, junkG, Bool.false_eq_true, decide_true, decide_false, symRes, symFrz, symApp, symMap, symMapOp, bindO_some, Option.map_some, Option.bind_some, List.length_cons, List.length_nil, List.length_append, List.drop_zero, List.drop_succ_cons, List.take_succ_cons, List.take_zero, List.getElem?_cons_zero, List.getElem?_cons_succ, List.set_cons_zero, List.set_cons_succ, Nat.reduceLeDiff, List.map_cons, List.map_nil, setPart_agg, setPart_one, symSet, symSetF, Nat.reduceLT, fillV, buildV, List.replicate_succ, List.replicate_zero, Nat.lt_add_one, and_self, if_true, PV.one, PV.isAgg, PV.cells, PV.okc, List.all_cons, List.all_nil, Bool.and_self, List.nil_append, List.append_nil, List.cons_append, Nat.zero_add, Nat.add_zero, true_and, and_true, Nat.reduceEqDiff, reduceIte, Nat.reduceAdd]
  refine (Find (hG.le hg) b ns f1 n1 f2 n2 h (by omega) (by omega) (fun s hs => by have := hns s hs; omega) (by omega)).go' ?_
  have e1 : decide ((100 : Int) = 0) = false := by decide
  rintro _ (⟨hy, rfl⟩ | ⟨hy, pf, pn, rfl⟩)
  · simp only [symCode, symIts, symOp, symBind, symQ, symT, symVal, symLook, symSlice, symHeap, symStep, symRange, symRaw, symBsl, symClr, symClrH, symGb, junkG, Bool.false_eq_true, decide_true, decide_false, symRes, symFrz, symApp, symMap, symMapOp, bindO_some, Option.map_some, Option.bind_some, List.length_cons, List.length_nil, List.length_append, List.drop_zero, List.drop_succ_cons, List.take_succ_cons, List.take_zero, List.getElem?_cons_zero, List.getElem?_cons_succ, List.set_cons_zero, List.set_cons_succ, Nat.reduceLeDiff, List.map_cons, List.map_nil, setPart_agg, setPart_one, symSet, symSetF, Nat.reduceLT, fillV, buildV, List.replicate_succ, List.replicate_zero, Nat.lt_add_one, and_self, if_true, PV.one, PV.isAgg, PV.cells, PV.okc, List.all_cons, List.all_nil, Bool.and_self, List.nil_append, List.append_nil, List.cons_append, Nat.zero_add, Nat.add_zero, true_and, and_true, Nat.reduceEqDiff, reduceIte, Nat.reduceAdd, e1, Bool.not_false]
    refine (awake (hG.le hg) h).go' ?_
    rintro r rfl
    simp only [symCode, symIts, symOp, symBind, symQ, symT, symVal, symLook, symSlice, symHeap, symStep, symRange, symRaw, symBsl, symClr, symClrH, symGb, junkG, Bool.false_eq_true, decide_true, decide_false, symRes, symFrz, symApp, symMap, symMapOp, bindO_some, Option.map_some, Option.bind_some, List.length_cons, List.length_nil, List.length_append, List.drop_zero, List.drop_succ_cons, List.take_succ_cons, List.take_zero, List.getElem?_cons_zero, List.getElem?_cons_succ, List.set_cons_zero, List.set_cons_succ, Nat.reduceLeDiff, List.map_cons, List.map_nil, setPart_agg, setPart_one, symSet, symSetF, Nat.reduceLT, fillV, buildV, List.replicate_succ, List.replicate_zero, Nat.lt_add_one, and_self, if_true, PV.one, PV.isAgg, PV.cells, PV.okc, List.all_cons, List.all_nil, Bool.and_self, List.nil_append, List.append_nil, List.cons_append, Nat.zero_add, Nat.add_zero, true_and, and_true, Nat.reduceEqDiff, reduceIte, Nat.reduceAdd]
    exact ⟨Ext.refl _, rfl⟩
  have hok := occs_ok (nm_of hy) b
  have hch := chained_occs b ns
  generalize hos : occs b ns 0 = os at *
  simp only [symCode, symIts, symOp, symBind, symQ, symT, symVal, symLook, symSlice, symHeap, symStep, symRange, symRaw, symBsl, symClr, symClrH, symGb, junkG, Bool.false_eq_true, decide_true, decide_false, symRes, symFrz, symApp, symMap, symMapOp, bindO_some, Option.map_some, Option.bind_some, List.length_cons, List.length_nil, List.length_append, List.drop_zero, List.drop_succ_cons, List.take_succ_cons, List.take_zero, List.getElem?_cons_zero, List.getElem?_cons_succ, List.set_cons_zero, List.set_cons_succ, Nat.reduceLeDiff, List.map_cons, List.map_nil, setPart_agg, setPart_one, symSet, symSetF, Nat.reduceLT, fillV, buildV, List.replicate_succ, List.replicate_zero, Nat.lt_add_one, and_self, if_true, PV.one, PV.isAgg, PV.cells, PV.okc, List.all_cons, List.all_nil, Bool.and_self, List.nil_append, List.append_nil, List.cons_append, Nat.zero_add, Nat.add_zero, true_and, and_true, Nat.reduceEqDiff, reduceIte, Nat.reduceAdd, Bool.not_true]
  refine ALoop.range os.length (fun k t h' => Ext h h' ∧ t = [(0, .sl 1 (b.map byteV) f1 n1), (1, .sl 1 (ns.map .str) f2 n2), (7, .int .i64 (endOf os k)), (30, .sl 2 ((os.map (·.2)).map rngV) pf pn), (31, .int .i64 os.length), (32, .int .i64 k)]) ?_ ?_
  · simp only [symCode, symIts, symOp, symBind, symQ, symT, symVal, symLook, symSlice, symHeap, symStep, symRange, symRaw, symBsl, symClr, symClrH, symGb, junkG, Bool.false_eq_true, decide_true, decide_false, symRes, symFrz, symApp, symMap, symMapOp, bindO_some, Option.map_some, Option.bind_some, List.length_cons, List.length_nil, List.length_append, List.drop_zero, List.drop_succ_cons, List.take_succ_cons, List.take_zero, List.getElem?_cons_zero, List.getElem?_cons_succ, List.set_cons_zero, List.set_cons_succ, Nat.reduceLeDiff, List.map_cons, List.map_nil, setPart_agg, setPart_one, symSet, symSetF, Nat.reduceLT, fillV, buildV, List.replicate_succ, List.replicate_zero, Nat.lt_add_one, and_self, if_true, PV.one, PV.isAgg, PV.cells, PV.okc, List.all_cons, List.all_nil, Bool.and_self, List.nil_append, List.append_nil, List.cons_append, Nat.zero_add, Nat.add_zero, true_and, and_true, Nat.reduceEqDiff, reduceIte, Nat.reduceAdd, List.length_map]
    exact ⟨Ext.refl h, rfl⟩
  rintro k t h' hk ⟨he, rfl⟩
  simp only [symCode, symIts, symOp, symBind, symQ, symT, symVal, symLook, symSlice, symHeap, symStep, symRange, symRaw, symBsl, symClr, symClrH, symGb, junkG, Bool.false_eq_true, decide_true, decide_false, symRes, symFrz, symApp, symMap, symMapOp, bindO_some, Option.map_some, Option.bind_some, List.length_cons, List.length_nil, List.length_append, List.drop_zero, List.drop_succ_cons, List.take_succ_cons, List.take_zero, List.getElem?_cons_zero, List.getElem?_cons_succ, List.set_cons_zero, List.set_cons_succ, Nat.reduceLeDiff, List.map_cons, List.map_nil, setPart_agg, setPart_one, symSet, symSetF, Nat.reduceLT, fillV, buildV, List.replicate_succ, List.replicate_zero, Nat.lt_add_one, and_self, if_true, PV.one, PV.isAgg, PV.cells, PV.okc, List.all_cons, List.all_nil, Bool.and_self, List.nil_append, List.append_nil, List.cons_append, Nat.zero_add, Nat.add_zero, true_and, and_true, Nat.reduceEqDiff, reduceIte, Nat.reduceAdd]
  refine brC_mk (fun hc => ?_) (fun hc => ?_)
  · have hi : k < os.length := by simpa using hc
    obtain ⟨j, j1, j2, j3⟩ := chained_at hch hi
    have hj : j = endOf os k := by
      cases k with
      | zero => exact j2 rfl
      | succ k =>
        rw [j3 k rfl os[k] (List.getElem?_eq_getElem (by omega))]
        simp [endOf, List.getElem?_eq_getElem (show k < os.length by omega)]
    obtain ⟨c1, c2, c3⟩ := j1 os[k] (List.getElem?_eq_getElem hi)
    obtain ⟨o1, o2, o3, o4, o5, o6, o7, o8⟩ := hok os[k] (List.getElem_mem hi)
    have hend : endOf os (k + 1) = os[k].2.2 + 1 := by simp [endOf, List.getElem?_eq_getElem hi]
    rw [hj] at c1
    generalize ho : os[k] = o at *
    have d1 : decide ((o.2.1 : Int) < (endOf os k : Nat)) = false := by simp; omega
    have d2 : decide ((o.2.2 : Int) ≤ (o.2.1 : Int) + 1) = false := by simp; omega
    have d3 : decide ((o.2.2 : Int) ≥ (b.length : Nat)) = false := by simp; omega
    have d4 : decide (((36 : UInt8).toNat : Int) = 36) = true := by decide
    simp only [symCode, symIts, symOp, symBind, symQ, symT, symVal, symLook, symSlice, symHeap, symStep, symRange, symRaw, symBsl, symClr, symClrH, symGb, junkG, Bool.false_eq_true, decide_true, decide_false, symRes, symFrz, symApp, symMap, symMapOp, bindO_some, Option.map_some, Option.bind_some, List.length_cons, List.length_nil, List.length_append, List.drop_zero, List.drop_succ_cons, List.take_succ_cons, List.take_zero, List.getElem?_cons_zero, List.getElem?_cons_succ, List.set_cons_zero, List.set_cons_succ, Nat.reduceLeDiff, List.map_cons, List.map_nil, setPart_agg, setPart_one, symSet, symSetF, Nat.reduceLT, fillV, buildV, List.replicate_succ, List.replicate_zero, Nat.lt_add_one, and_self, if_true, PV.one, PV.isAgg, PV.cells, PV.okc, List.all_cons, List.all_nil, Bool.and_self, List.nil_append, List.append_nil, List.cons_append, Nat.zero_add, Nat.add_zero, true_and, and_true, Nat.reduceEqDiff, reduceIte, Nat.reduceAdd, Int.toNat_natCast, List.getElem?_map, List.getElem?_eq_getElem hi, ho, rngV, List.length_map, d1, d2, d3]
    (repeat (first | refine And.intro (inR_i64.2 (by omega)) ?_ | refine And.intro (by omega) ?_))
    have d5 : (!decide (((36 : UInt8).toNat : Int) = 36)) = false := by decide
    have d6 : ((o.2.1 : Int) + 1).toNat = o.2.1 + 1 := by omega
    simp only [symCode, symIts, symOp, symBind, symQ, symT, symVal, symLook, symSlice, symHeap, symStep, symRange, symRaw, symBsl, symClr, symClrH, symGb, junkG, Bool.false_eq_true, decide_true, decide_false, symRes, symFrz, symApp, symMap, symMapOp, bindO_some, Option.map_some, Option.bind_some, List.length_cons, List.length_nil, List.length_append, List.drop_zero, List.drop_succ_cons, List.take_succ_cons, List.take_zero, List.getElem?_cons_zero, List.getElem?_cons_succ, List.set_cons_zero, List.set_cons_succ, Nat.reduceLeDiff, List.map_cons, List.map_nil, setPart_agg, setPart_one, symSet, symSetF, Nat.reduceLT, fillV, buildV, List.replicate_succ, List.replicate_zero, Nat.lt_add_one, and_self, if_true, PV.one, PV.isAgg, PV.cells, PV.okc, List.all_cons, List.all_nil, Bool.and_self, List.nil_append, List.append_nil, List.cons_append, Nat.zero_add, Nat.add_zero, true_and, and_true, Nat.reduceEqDiff, reduceIte, Nat.reduceAdd, Int.toNat_natCast, List.getElem?_map, o1, o2, byteV, d5, d6, List.length_map]
    (repeat (first | refine And.intro (inR_i64.2 (by omega)) ?_ | refine And.intro (by omega) ?_))
    have hmp : ∀ l : Bs, List.map (fun x => PV.int .u8 x.toNat) l = l.map byteV := fun _ => rfl
    simp only [symCode, symIts, symOp, symBind, symQ, symT, symVal, symLook, symSlice, symHeap, symStep, symRange, symRaw, symBsl, symClr, symClrH, symGb, junkG, Bool.false_eq_true, decide_true, decide_false, symRes, symFrz, symApp, symMap, symMapOp, bindO_some, Option.map_some, Option.bind_some, List.length_cons, List.length_nil, List.length_append, List.drop_zero, List.drop_succ_cons, List.take_succ_cons, List.take_zero, List.getElem?_cons_zero, List.getElem?_cons_succ, List.set_cons_zero, List.set_cons_succ, Nat.reduceLeDiff, List.map_cons, List.map_nil, setPart_agg, setPart_one, symSet, symSetF, Nat.reduceLT, fillV, buildV, List.replicate_succ, List.replicate_zero, Nat.lt_add_one, and_self, if_true, PV.one, PV.isAgg, PV.cells, PV.okc, List.all_cons, List.all_nil, Bool.and_self, List.nil_append, List.append_nil, List.cons_append, Nat.zero_add, Nat.add_zero, true_and, and_true, Nat.reduceEqDiff, reduceIte, Nat.reduceAdd, hmp, ← List.map_take, ← List.map_drop, bytesOf_map]
    have hbll : ((b.take o.2.2).drop (o.2.1 + 1)).length ≤ 1500 := by rw [List.length_drop, List.length_take]; omega
    generalize hbody : (b.take o.2.2).drop (o.2.1 + 1) = body at *
    generalize hx : h' ++ [AObj.arr 2 [PV.agg [PV.int .i64 o.2.1, PV.int .i64 o.2.2]] true] = hx'
    have hxg : hx'[h'.length]? = some (AObj.arr 2 [PV.agg [PV.int .i64 o.2.1, PV.int .i64 o.2.2]] true) := by rw [← hx]; simp
    have hex : Ext h hx' := by rw [← hx]; exact he.app _
    refine ALoop.range body.length (fun i t h'' => hx' = h'' ∧ t = [(0, .sl 1 (b.map byteV) f1 n1), (1, .sl 1 (ns.map .str) f2 n2), (9, .ptr h'.length 2 0 0), (10, .str body), (11, .bool false), (30, .sl 2 ((os.map (·.2)).map rngV) pf pn), (31, .int .i64 os.length), (32, .int .i64 k), (80, .sl 1 (body.map byteV) false false), (81, .int .i64 body.length), (82, .int .i64 i)]) ?_ ?_
    · simp only [symCode, symIts, symOp, symBind, symQ, symT, symVal, symLook, symSlice, symHeap, symStep, symRange, symRaw, symBsl, symClr, symClrH, symGb, junkG, Bool.false_eq_true, decide_true, decide_false, symRes, symFrz, symApp, symMap, symMapOp, bindO_some, Option.map_some, Option.bind_some, List.length_cons, List.length_nil, List.length_append, List.drop_zero, List.drop_succ_cons, List.take_succ_cons, List.take_zero, List.getElem?_cons_zero, List.getElem?_cons_succ, List.set_cons_zero, List.set_cons_succ, Nat.reduceLeDiff, List.map_cons, List.map_nil, setPart_agg, setPart_one, symSet, symSetF, Nat.reduceLT, fillV, buildV, List.replicate_succ, List.replicate_zero, Nat.lt_add_one, and_self, if_true, PV.one, PV.isAgg, PV.cells, PV.okc, List.all_cons, List.all_nil, Bool.and_self, List.nil_append, List.append_nil, List.cons_append, Nat.zero_add, Nat.add_zero, true_and, and_true, Nat.reduceEqDiff, reduceIte, Nat.reduceAdd, List.length_map]
      rfl
    rintro i t h'' hik ⟨rfl, rfl⟩
    simp only [symCode, symIts, symOp, symBind, symQ, symT, symVal, symLook, symSlice, symHeap, symStep, symRange, symRaw, symBsl, symClr, symClrH, symGb, junkG, Bool.false_eq_true, decide_true, decide_false, symRes, symFrz, symApp, symMap, symMapOp, bindO_some, Option.map_some, Option.bind_some, List.length_cons, List.length_nil, List.length_append, List.drop_zero, List.drop_succ_cons, List.take_succ_cons, List.take_zero, List.getElem?_cons_zero, List.getElem?_cons_succ, List.set_cons_zero, List.set_cons_succ, Nat.reduceLeDiff, List.map_cons, List.map_nil, setPart_agg, setPart_one, symSet, symSetF, Nat.reduceLT, fillV, buildV, List.replicate_succ, List.replicate_zero, Nat.lt_add_one, and_self, if_true, PV.one, PV.isAgg, PV.cells, PV.okc, List.all_cons, List.all_nil, Bool.and_self, List.nil_append, List.append_nil, List.cons_append, Nat.zero_add, Nat.add_zero, true_and, and_true, Nat.reduceEqDiff, reduceIte, Nat.reduceAdd]
    refine brC_mk (fun hc1 => ?_) (fun hc1 => ?_)
    · have hil : i < body.length := by simpa using hc1
      have hcc := o4 body[i] (List.getElem_mem hil)
      have d7 : decide ((body[i].toNat : Int) = 36) = false := by
        rw [decide_eq_false_iff_not]
        intro e
        exact hcc.1 (UInt8.toNat_inj.1 (by rw [show (36 : UInt8).toNat = 36 from rfl]; omega))
      have d8 : decide ((body[i].toNat : Int) = 10) = false := by
        rw [decide_eq_false_iff_not]
        intro e
        exact hcc.2 (UInt8.toNat_inj.1 (by rw [show (10 : UInt8).toNat = 10 from rfl]; omega))
      simp only [symCode, symIts, symOp, symBind, symQ, symT, symVal, symLook, symSlice, symHeap, symStep, symRange, symRaw, symBsl, symClr, symClrH, symGb, junkG, Bool.false_eq_true, decide_true, decide_false, symRes, symFrz, symApp, symMap, symMapOp, bindO_some, Option.map_some, Option.bind_some, List.length_cons, List.length_nil, List.length_append, List.drop_zero, List.drop_succ_cons, List.take_succ_cons, List.take_zero, List.getElem?_cons_zero, List.getElem?_cons_succ, List.set_cons_zero, List.set_cons_succ, Nat.reduceLeDiff, List.map_cons, List.map_nil, setPart_agg, setPart_one, symSet, symSetF, Nat.reduceLT, fillV, buildV, List.replicate_succ, List.replicate_zero, Nat.lt_add_one, and_self, if_true, PV.one, PV.isAgg, PV.cells, PV.okc, List.all_cons, List.all_nil, Bool.and_self, List.nil_append, List.append_nil, List.cons_append, Nat.zero_add, Nat.add_zero, true_and, and_true, Nat.reduceEqDiff, reduceIte, Nat.reduceAdd, Int.toNat_natCast, List.getElem?_map, List.getElem?_eq_getElem hil, byteV, d7, d8]
      (repeat (first | refine And.intro (inR_i64.2 (by omega)) ?_ | refine And.intro (by omega) ?_))
      rfl
    simp only [symCode, symIts, symOp, symBind, symQ, symT, symVal, symLook, symSlice, symHeap, symStep, symRange, symRaw, symBsl, symClr, symClrH, symGb, junkG, Bool.false_eq_true, decide_true, decide_false, symRes, symFrz, symApp, symMap, symMapOp, bindO_some, Option.map_some, Option.bind_some, List.length_cons, List.length_nil, List.length_append, List.drop_zero, List.drop_succ_cons, List.take_succ_cons, List.take_zero, List.getElem?_cons_zero, List.getElem?_cons_succ, List.set_cons_zero, List.set_cons_succ, Nat.reduceLeDiff, List.map_cons, List.map_nil, setPart_agg, setPart_one, symSet, symSetF, Nat.reduceLT, fillV, buildV, List.replicate_succ, List.replicate_zero, Nat.lt_add_one, and_self, if_true, PV.one, PV.isAgg, PV.cells, PV.okc, List.all_cons, List.all_nil, Bool.and_self, List.nil_append, List.append_nil, List.cons_append, Nat.zero_add, Nat.add_zero, true_and, and_true, Nat.reduceEqDiff, reduceIte, Nat.reduceAdd]
    refine ALoop.range ns.length (fun i t h'' => hx' = h'' ∧ t = [(0, .sl 1 (b.map byteV) f1 n1), (1, .sl 1 (ns.map .str) f2 n2), (9, .ptr h'.length 2 0 0), (10, .str body), (11, .bool ((ns.take i).any (hitB body))), (30, .sl 2 ((os.map (·.2)).map rngV) pf pn), (31, .int .i64 os.length), (32, .int .i64 k), (93, .sl 1 (ns.map .str) f2 n2), (94, .int .i64 ns.length), (95, .int .i64 i)]) ?_ ?_
    · simp only [symCode, symIts, symOp, symBind, symQ, symT, symVal, symLook, symSlice, symHeap, symStep, symRange, symRaw, symBsl, symClr, symClrH, symGb, junkG, Bool.false_eq_true, decide_true, decide_false, symRes, symFrz, symApp, symMap, symMapOp, bindO_some, Option.map_some, Option.bind_some, List.length_cons, List.length_nil, List.length_append, List.drop_zero, List.drop_succ_cons, List.take_succ_cons, List.take_zero, List.getElem?_cons_zero, List.getElem?_cons_succ, List.set_cons_zero, List.set_cons_succ, Nat.reduceLeDiff, List.map_cons, List.map_nil, setPart_agg, setPart_one, symSet, symSetF, Nat.reduceLT, fillV, buildV, List.replicate_succ, List.replicate_zero, Nat.lt_add_one, and_self, if_true, PV.one, PV.isAgg, PV.cells, PV.okc, List.all_cons, List.all_nil, Bool.and_self, List.nil_append, List.append_nil, List.cons_append, Nat.zero_add, Nat.add_zero, true_and, and_true, Nat.reduceEqDiff, reduceIte, Nat.reduceAdd, List.length_map]
      rfl
    rintro i t h'' hik ⟨rfl, rfl⟩
    simp only [symCode, symIts, symOp, symBind, symQ, symT, symVal, symLook, symSlice, symHeap, symStep, symRange, symRaw, symBsl, symClr, symClrH, symGb, junkG, Bool.false_eq_true, decide_true, decide_false, symRes, symFrz, symApp, symMap, symMapOp, bindO_some, Option.map_some, Option.bind_some, List.length_cons, List.length_nil, List.length_append, List.drop_zero, List.drop_succ_cons, List.take_succ_cons, List.take_zero, List.getElem?_cons_zero, List.getElem?_cons_succ, List.set_cons_zero, List.set_cons_succ, Nat.reduceLeDiff, List.map_cons, List.map_nil, setPart_agg, setPart_one, symSet, symSetF, Nat.reduceLT, fillV, buildV, List.replicate_succ, List.replicate_zero, Nat.lt_add_one, and_self, if_true, PV.one, PV.isAgg, PV.cells, PV.okc, List.all_cons, List.all_nil, Bool.and_self, List.nil_append, List.append_nil, List.cons_append, Nat.zero_add, Nat.add_zero, true_and, and_true, Nat.reduceEqDiff, reduceIte, Nat.reduceAdd]
    refine brC_mk (fun hc1 => ?_) (fun hc1 => ?_)
    · have hil : i < ns.length := by simpa using hc1
      simp only [symCode, symIts, symOp, symBind, symQ, symT, symVal, symLook, symSlice, symHeap, symStep, symRange, symRaw, symBsl, symClr, symClrH, symGb, junkG, Bool.false_eq_true, decide_true, decide_false, symRes, symFrz, symApp, symMap, symMapOp, bindO_some, Option.map_some, Option.bind_some, List.length_cons, List.length_nil, List.length_append, List.drop_zero, List.drop_succ_cons, List.take_succ_cons, List.take_zero, List.getElem?_cons_zero, List.getElem?_cons_succ, List.set_cons_zero, List.set_cons_succ, Nat.reduceLeDiff, List.map_cons, List.map_nil, setPart_agg, setPart_one, symSet, symSetF, Nat.reduceLT, fillV, buildV, List.replicate_succ, List.replicate_zero, Nat.lt_add_one, and_self, if_true, PV.one, PV.isAgg, PV.cells, PV.okc, List.all_cons, List.all_nil, Bool.and_self, List.nil_append, List.append_nil, List.cons_append, Nat.zero_add, Nat.add_zero, true_and, and_true, Nat.reduceEqDiff, reduceIte, Nat.reduceAdd, Int.toNat_natCast, List.getElem?_map, List.getElem?_eq_getElem hil]
      (repeat (first | refine And.intro (inR_i64.2 (by omega)) ?_ | refine And.intro (by omega) ?_))
      have hset : (ns.take (i + 1)).any (hitB body) = ((ns.take i).any (hitB body) || hitB body ns[i]) := by rw [take_snoc hil, List.any_append]; simp
      have hsl := hns ns[i] (List.getElem_mem hil)
      generalize hs : ns[i] = s at *
      by_cases q1 : s.length ≤ body.length
      · by_cases q2 : body.take s.length = s
        · have dq1 : decide ((s.length : Int) ≤ body.length) = true := by simp; omega
          have dq2 : decide (body.take s.length = s) = true := by simp [q2]
          simp only [symCode, symIts, symOp, symBind, symQ, symT, symVal, symLook, symSlice, symHeap, symStep, symRange, symRaw, symBsl, symClr, symClrH, symGb, junkG, Bool.false_eq_true, decide_true, decide_false, symRes, symFrz, symApp, symMap, symMapOp, bindO_some, Option.map_some, Option.bind_some, List.length_cons, List.length_nil, List.length_append, List.drop_zero, List.drop_succ_cons, List.take_succ_cons, List.take_zero, List.getElem?_cons_zero, List.getElem?_cons_succ, List.set_cons_zero, List.set_cons_succ, Nat.reduceLeDiff, List.map_cons, List.map_nil, setPart_agg, setPart_one, symSet, symSetF, Nat.reduceLT, fillV, buildV, List.replicate_succ, List.replicate_zero, Nat.lt_add_one, and_self, if_true, PV.one, PV.isAgg, PV.cells, PV.okc, List.all_cons, List.all_nil, Bool.and_self, List.nil_append, List.append_nil, List.cons_append, Nat.zero_add, Nat.add_zero, true_and, and_true, Nat.reduceEqDiff, reduceIte, Nat.reduceAdd, dq1, dq2, q2, Int.toNat_natCast]
          refine ⟨by omega, by omega, by omega, ?_⟩
          by_cases q3 : body.length = s.length
          · have dq3 : decide ((body.length : Int) = s.length) = true := by simp; omega
            have hh : hitB body s = true := by simp only [hitB, q1, q2, q3, decide_true, Bool.true_or, Bool.and_self, Bool.true_and, Nat.le_refl]
            simp only [symCode, symIts, symOp, symBind, symQ, symT, symVal, symLook, symSlice, symHeap, symStep, symRange, symRaw, symBsl, symClr, symClrH, symGb, junkG, Bool.false_eq_true, decide_true, decide_false, symRes, symFrz, symApp, symMap, symMapOp, bindO_some, Option.map_some, Option.bind_some, List.length_cons, List.length_nil, List.length_append, List.drop_zero, List.drop_succ_cons, List.take_succ_cons, List.take_zero, List.getElem?_cons_zero, List.getElem?_cons_succ, List.set_cons_zero, List.set_cons_succ, Nat.reduceLeDiff, List.map_cons, List.map_nil, setPart_agg, setPart_one, symSet, symSetF, Nat.reduceLT, fillV, buildV, List.replicate_succ, List.replicate_zero, Nat.lt_add_one, and_self, if_true, PV.one, PV.isAgg, PV.cells, PV.okc, List.all_cons, List.all_nil, Bool.and_self, List.nil_append, List.append_nil, List.cons_append, Nat.zero_add, Nat.add_zero, true_and, and_true, Nat.reduceEqDiff, reduceIte, Nat.reduceAdd, dq3, hset, hh, Bool.or_true]
            (repeat (first | refine And.intro (inR_i64.2 (by omega)) ?_ | refine And.intro (by omega) ?_))
            rfl
          · have hlt : s.length < body.length := by omega
            have dq3 : decide ((body.length : Int) = s.length) = false := by simp; omega
            simp only [symCode, symIts, symOp, symBind, symQ, symT, symVal, symLook, symSlice, symHeap, symStep, symRange, symRaw, symBsl, symClr, symClrH, symGb, junkG, Bool.false_eq_true, decide_true, decide_false, symRes, symFrz, symApp, symMap, symMapOp, bindO_some, Option.map_some, Option.bind_some, List.length_cons, List.length_nil, List.length_append, List.drop_zero, List.drop_succ_cons, List.take_succ_cons, List.take_zero, List.getElem?_cons_zero, List.getElem?_cons_succ, List.set_cons_zero, List.set_cons_succ, Nat.reduceLeDiff, List.map_cons, List.map_nil, setPart_agg, setPart_one, symSet, symSetF, Nat.reduceLT, fillV, buildV, List.replicate_succ, List.replicate_zero, Nat.lt_add_one, and_self, if_true, PV.one, PV.isAgg, PV.cells, PV.okc, List.all_cons, List.all_nil, Bool.and_self, List.nil_append, List.append_nil, List.cons_append, Nat.zero_add, Nat.add_zero, true_and, and_true, Nat.reduceEqDiff, reduceIte, Nat.reduceAdd, dq3, Bool.not_false, Int.toNat_natCast, List.getElem?_eq_getElem hlt]
            refine ⟨by omega, ?_⟩
            by_cases q4 : body[s.length] = 58
            · have dq4 : decide ((body[s.length].toNat : Int) = 58) = true := by rw [q4]; rfl
              have hh : hitB body s = true := by simp only [hitB, q1, q2, List.getElem?_eq_getElem hlt, q4, decide_true, Bool.or_true, Bool.and_self, Bool.true_and]
              simp only [symCode, symIts, symOp, symBind, symQ, symT, symVal, symLook, symSlice, symHeap, symStep, symRange, symRaw, symBsl, symClr, symClrH, symGb, junkG, Bool.false_eq_true, decide_true, decide_false, symRes, symFrz, symApp, symMap, symMapOp, bindO_some, Option.map_some, Option.bind_some, List.length_cons, List.length_nil, List.length_append, List.drop_zero, List.drop_succ_cons, List.take_succ_cons, List.take_zero, List.getElem?_cons_zero, List.getElem?_cons_succ, List.set_cons_zero, List.set_cons_succ, Nat.reduceLeDiff, List.map_cons, List.map_nil, setPart_agg, setPart_one, symSet, symSetF, Nat.reduceLT, fillV, buildV, List.replicate_succ, List.replicate_zero, Nat.lt_add_one, and_self, if_true, PV.one, PV.isAgg, PV.cells, PV.okc, List.all_cons, List.all_nil, Bool.and_self, List.nil_append, List.append_nil, List.cons_append, Nat.zero_add, Nat.add_zero, true_and, and_true, Nat.reduceEqDiff, reduceIte, Nat.reduceAdd, byteV, dq4, hset, hh, Bool.or_true]
              (repeat (first | refine And.intro (inR_i64.2 (by omega)) ?_ | refine And.intro (by omega) ?_))
              rfl
            · have dq4 : decide ((body[s.length].toNat : Int) = 58) = false := by
                rw [decide_eq_false_iff_not]
                intro e
                exact q4 (UInt8.toNat_inj.1 (by rw [show (58 : UInt8).toNat = 58 from rfl]; omega))
              have hh : hitB body s = false := by simp [hitB, List.getElem?_eq_getElem hlt, q4, q3]
              simp only [symCode, symIts, symOp, symBind, symQ, symT, symVal, symLook, symSlice, symHeap, symStep, symRange, symRaw, symBsl, symClr, symClrH, symGb, junkG, Bool.false_eq_true, decide_true, decide_false, symRes, symFrz, symApp, symMap, symMapOp, bindO_some, Option.map_some, Option.bind_some, List.length_cons, List.length_nil, List.length_append, List.drop_zero, List.drop_succ_cons, List.take_succ_cons, List.take_zero, List.getElem?_cons_zero, List.getElem?_cons_succ, List.set_cons_zero, List.set_cons_succ, Nat.reduceLeDiff, List.map_cons, List.map_nil, setPart_agg, setPart_one, symSet, symSetF, Nat.reduceLT, fillV, buildV, List.replicate_succ, List.replicate_zero, Nat.lt_add_one, and_self, if_true, PV.one, PV.isAgg, PV.cells, PV.okc, List.all_cons, List.all_nil, Bool.and_self, List.nil_append, List.append_nil, List.cons_append, Nat.zero_add, Nat.add_zero, true_and, and_true, Nat.reduceEqDiff, reduceIte, Nat.reduceAdd, byteV, dq4, hset, hh, Bool.or_false]
              (repeat (first | refine And.intro (inR_i64.2 (by omega)) ?_ | refine And.intro (by omega) ?_))
              rfl
        · have dq1 : decide ((s.length : Int) ≤ body.length) = true := by simp; omega
          have dq2 : decide (body.take s.length = s) = false := by simp [q2]
          have hh : hitB body s = false := by simp [hitB, q2]
          simp only [symCode, symIts, symOp, symBind, symQ, symT, symVal, symLook, symSlice, symHeap, symStep, symRange, symRaw, symBsl, symClr, symClrH, symGb, junkG, Bool.false_eq_true, decide_true, decide_false, symRes, symFrz, symApp, symMap, symMapOp, bindO_some, Option.map_some, Option.bind_some, List.length_cons, List.length_nil, List.length_append, List.drop_zero, List.drop_succ_cons, List.take_succ_cons, List.take_zero, List.getElem?_cons_zero, List.getElem?_cons_succ, List.set_cons_zero, List.set_cons_succ, Nat.reduceLeDiff, List.map_cons, List.map_nil, setPart_agg, setPart_one, symSet, symSetF, Nat.reduceLT, fillV, buildV, List.replicate_succ, List.replicate_zero, Nat.lt_add_one, and_self, if_true, PV.one, PV.isAgg, PV.cells, PV.okc, List.all_cons, List.all_nil, Bool.and_self, List.nil_append, List.append_nil, List.cons_append, Nat.zero_add, Nat.add_zero, true_and, and_true, Nat.reduceEqDiff, reduceIte, Nat.reduceAdd, dq1, dq2, Int.toNat_natCast]
          refine ⟨by omega, by omega, by omega, ?_⟩
          simp only [symCode, symIts, symOp, symBind, symQ, symT, symVal, symLook, symSlice, symHeap, symStep, symRange, symRaw, symBsl, symClr, symClrH, symGb, junkG, Bool.false_eq_true, decide_true, decide_false, symRes, symFrz, symApp, symMap, symMapOp, bindO_some, Option.map_some, Option.bind_some, List.length_cons, List.length_nil, List.length_append, List.drop_zero, List.drop_succ_cons, List.take_succ_cons, List.take_zero, List.getElem?_cons_zero, List.getElem?_cons_succ, List.set_cons_zero, List.set_cons_succ, Nat.reduceLeDiff, List.map_cons, List.map_nil, setPart_agg, setPart_one, symSet, symSetF, Nat.reduceLT, fillV, buildV, List.replicate_succ, List.replicate_zero, Nat.lt_add_one, and_self, if_true, PV.one, PV.isAgg, PV.cells, PV.okc, List.all_cons, List.all_nil, Bool.and_self, List.nil_append, List.append_nil, List.cons_append, Nat.zero_add, Nat.add_zero, true_and, and_true, Nat.reduceEqDiff, reduceIte, Nat.reduceAdd, dq2, Bool.not_false, hset, hh, Bool.or_false]
          (repeat (first | refine And.intro (inR_i64.2 (by omega)) ?_ | refine And.intro (by omega) ?_))
          rfl
      · have dq1 : decide ((s.length : Int) ≤ body.length) = false := by simp; omega
        have hh : hitB body s = false := by simp [hitB, q1]
        simp only [symCode, symIts, symOp, symBind, symQ, symT, symVal, symLook, symSlice, symHeap, symStep, symRange, symRaw, symBsl, symClr, symClrH, symGb, junkG, Bool.false_eq_true, decide_true, decide_false, symRes, symFrz, symApp, symMap, symMapOp, bindO_some, Option.map_some, Option.bind_some, List.length_cons, List.length_nil, List.length_append, List.drop_zero, List.drop_succ_cons, List.take_succ_cons, List.take_zero, List.getElem?_cons_zero, List.getElem?_cons_succ, List.set_cons_zero, List.set_cons_succ, Nat.reduceLeDiff, List.map_cons, List.map_nil, setPart_agg, setPart_one, symSet, symSetF, Nat.reduceLT, fillV, buildV, List.replicate_succ, List.replicate_zero, Nat.lt_add_one, and_self, if_true, PV.one, PV.isAgg, PV.cells, PV.okc, List.all_cons, List.all_nil, Bool.and_self, List.nil_append, List.append_nil, List.cons_append, Nat.zero_add, Nat.add_zero, true_and, and_true, Nat.reduceEqDiff, reduceIte, Nat.reduceAdd, dq1, Bool.not_false, hset, hh, Bool.or_false]
        (repeat (first | refine And.intro (inR_i64.2 (by omega)) ?_ | refine And.intro (by omega) ?_))
        rfl
    have hin : ¬ i < ns.length := by simpa using hc1
    have hh : (ns.take i).any (hitB body) = true := by
      rw [List.take_of_length_le (by omega), List.any_eq_true]
      refine ⟨o.1, o5, ?_⟩
      simp only [hitB, o6, o7, decide_true, Bool.true_and]
      rcases o8 with q | q <;> simp [q]
    simp only [symCode, symIts, symOp, symBind, symQ, symT, symVal, symLook, symSlice, symHeap, symStep, symRange, symRaw, symBsl, symClr, symClrH, symGb, junkG, Bool.false_eq_true, decide_true, decide_false, symRes, symFrz, symApp, symMap, symMapOp, bindO_some, Option.map_some, Option.bind_some, List.length_cons, List.length_nil, List.length_append, List.drop_zero, List.drop_succ_cons, List.take_succ_cons, List.take_zero, List.getElem?_cons_zero, List.getElem?_cons_succ, List.set_cons_zero, List.set_cons_succ, Nat.reduceLeDiff, List.map_cons, List.map_nil, setPart_agg, setPart_one, symSet, symSetF, Nat.reduceLT, fillV, buildV, List.replicate_succ, List.replicate_zero, Nat.lt_add_one, and_self, if_true, PV.one, PV.isAgg, PV.cells, PV.okc, List.all_cons, List.all_nil, Bool.and_self, List.nil_append, List.append_nil, List.cons_append, Nat.zero_add, Nat.add_zero, true_and, and_true, Nat.reduceEqDiff, reduceIte, Nat.reduceAdd, hh, Bool.not_true, hxg]
    (repeat (first | refine And.intro (inR_i64.2 (by omega)) ?_ | refine And.intro (by omega) ?_))
    rw [hend]
    rfl
  · simp only [symCode, symIts, symOp, symBind, symQ, symT, symVal, symLook, symSlice, symHeap, symStep, symRange, symRaw, symBsl, symClr, symClrH, symGb, junkG, Bool.false_eq_true, decide_true, decide_false, symRes, symFrz, symApp, symMap, symMapOp, bindO_some, Option.map_some, Option.bind_some, List.length_cons, List.length_nil, List.length_append, List.drop_zero, List.drop_succ_cons, List.take_succ_cons, List.take_zero, List.getElem?_cons_zero, List.getElem?_cons_succ, List.set_cons_zero, List.set_cons_succ, Nat.reduceLeDiff, List.map_cons, List.map_nil, setPart_agg, setPart_one, symSet, symSetF, Nat.reduceLT, fillV, buildV, List.replicate_succ, List.replicate_zero, Nat.lt_add_one, and_self, if_true, PV.one, PV.isAgg, PV.cells, PV.okc, List.all_cons, List.all_nil, Bool.and_self, List.nil_append, List.append_nil, List.cons_append, Nat.zero_add, Nat.add_zero, true_and, and_true, Nat.reduceEqDiff, reduceIte, Nat.reduceAdd]
    refine (awake (hG.le hg) _).go' ?_
    rintro r rfl
    simp only [symCode, symIts, symOp, symBind, symQ, symT, symVal, symLook, symSlice, symHeap, symStep, symRange, symRaw, symBsl, symClr, symClrH, symGb, junkG, Bool.false_eq_true, decide_true, decide_false, symRes, symFrz, symApp, symMap, symMapOp, bindO_some, Option.map_some, Option.bind_some, List.length_cons, List.length_nil, List.length_append, List.drop_zero, List.drop_succ_cons, List.take_succ_cons, List.take_zero, List.getElem?_cons_zero, List.getElem?_cons_succ, List.set_cons_zero, List.set_cons_succ, Nat.reduceLeDiff, List.map_cons, List.map_nil, setPart_agg, setPart_one, symSet, symSetF, Nat.reduceLT, fillV, buildV, List.replicate_succ, List.replicate_zero, Nat.lt_add_one, and_self, if_true, PV.one, PV.isAgg, PV.cells, PV.okc, List.all_cons, List.all_nil, Bool.and_self, List.nil_append, List.append_nil, List.cons_append, Nat.zero_add, Nat.add_zero, true_and, and_true, Nat.reduceEqDiff, reduceIte, Nat.reduceAdd]
    exact ⟨he, rfl⟩

end Go.K10
