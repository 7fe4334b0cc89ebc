/- Contracts: Collapse, Expand. -/
import Derived.Test.YtppeejkegbjgdaaDoorKl
set_option linter.unusedSimpArgs false
set_option linter.unusedVariables false
namespace Go.K10
open Go Go.Avm Go.Proofs

def cform (s : Bs) : Bs := [36] ++ s ++ [36]

theorem collapse1 {g0 : Gh} (s : Bs) (h : AH) (hl : s.length ≤ 100000000) : ACalls Tryd.prog g0 32 [.str s] h fun r h' => h' = h ∧ r = .str (cform s) := by
  refine acalls_E F32_ok rfl fun g1 hg => ?_
  simp only [F32, symCode, symIts, symOp, symBind, symQ, symT, symVal, symLook, symSlice, symHeap, symStep, symRange, symRaw, symBsl, symClr, symClrH, symGb, junkG, Bool.false_eq_true, decide_true, decide_false, symRes, symFrz, symApp, symMap, symMapOp, bindO_some, Option.map_some, Option.bind_some, List.length_cons, List.length_nil, List.length_append, List.drop_zero, List.drop_succ_cons, List.take_succ_cons, List.take_zero, List.getElem?_cons_zero, List.getElem?_cons_succ, List.set_cons_zero, List.set_cons_succ, Nat.reduceLeDiff, List.map_cons, List.map_nil, setPart_agg, setPart_one, symSet, symSetF, Nat.reduceLT, fillV, buildV, List.replicate_succ, List.replicate_zero, Nat.lt_add_one, and_self, if_true, PV.one, PV.isAgg, PV.cells, PV.okc, List.all_cons, List.all_nil, Bool.and_self, List.nil_append, List.append_nil, List.cons_append, Nat.zero_add, Nat.add_zero, true_and, and_true, Nat.reduceEqDiff, reduceIte, Nat.reduceAdd]
  (repeat (first | refine And.intro (inR_i64.2 (by omega)) ?_ | refine And.intro (by omega) ?_))
  exact ⟨Ext.refl _, rfl, rfl⟩

theorem nm_len {s : Bs} (h : isNm s = true) : s.length ≤ 24 := by
  simp [isNm] at h; exact h.2.2

theorem names_len {names : List Bs} (h : namesOk names = true) {s : Bs} (hs : s ∈ names) : s.length ≤ 24 := by
  simp [namesOk] at h; exact nm_len (h.1 s hs)

theorem Collapse {g0 : Gh} (hG : Glob g0) (b : Bs) (names : List Bs) (f1 n1 f2 n2 : Bool) (h : AH) (hl : b.length < 100000000) (hn : names.length ≤ 12) (hs : ∀ x ∈ names, x.length < 1000000000000) :
    ACalls Tryd.prog g0 15 [.sl 1 (b.map byteV) f1 n1, .sl 1 (names.map .str) f2 n2] h fun r h' => h' = h ∧
      ((namesOk names = false ∧ r = .tuple [.sl 1 [] true true, .int .i64 100]) ∨ (namesOk names = true ∧ ∃ f n, r = .tuple [.sl 1 ((repl b cform (occs b names 0)).map byteV) f n, .int .i64 0])) := by
  refine acalls_ES F15_ok rfl fun g1 hg => ?_
  simp only [F15, symCode, symIts, symOp, symBind, symQ, symT, symVal, symLook, symSlice, symHeap, symStep, symRange, symRaw, symBsl, symClr, symClrH, symGb, junkG, Bool.false_eq_true, decide_true, decide_false, symRes, symFrz, symApp, symMap, symMapOp, bindO_some, Option.map_some, Option.bind_some, List.length_cons, List.length_nil, List.length_append, List.drop_zero, List.drop_succ_cons, List.take_succ_cons, List.take_zero, List.getElem?_cons_zero, List.getElem?_cons_succ, List.set_cons_zero, List.set_cons_succ, Nat.reduceLeDiff, List.map_cons, List.map_nil, setPart_agg, setPart_one, symSet, symSetF, Nat.reduceLT, fillV, buildV, List.replicate_succ, List.replicate_zero, Nat.lt_add_one, and_self, if_true, PV.one, PV.isAgg, PV.cells, PV.okc, List.all_cons, List.all_nil, Bool.and_self, List.nil_append, List.append_nil, List.cons_append, Nat.zero_add, Nat.add_zero, true_and, and_true, Nat.reduceEqDiff, reduceIte, Nat.reduceAdd]
  refine (are names f2 n2 h hn hs).go' ?_
  rintro r rfl
  simp only [symCode, symIts, symOp, symBind, symQ, symT, symVal, symLook, symSlice, symHeap, symStep, symRange, symRaw, symBsl, symClr, symClrH, symGb, junkG, Bool.false_eq_true, decide_true, decide_false, symRes, symFrz, symApp, symMap, symMapOp, bindO_some, Option.map_some, Option.bind_some, List.length_cons, List.length_nil, List.length_append, List.drop_zero, List.drop_succ_cons, List.take_succ_cons, List.take_zero, List.getElem?_cons_zero, List.getElem?_cons_succ, List.set_cons_zero, List.set_cons_succ, Nat.reduceLeDiff, List.map_cons, List.map_nil, setPart_agg, setPart_one, symSet, symSetF, Nat.reduceLT, fillV, buildV, List.replicate_succ, List.replicate_zero, Nat.lt_add_one, and_self, if_true, PV.one, PV.isAgg, PV.cells, PV.okc, List.all_cons, List.all_nil, Bool.and_self, List.nil_append, List.append_nil, List.cons_append, Nat.zero_add, Nat.add_zero, true_and, and_true, Nat.reduceEqDiff, reduceIte, Nat.reduceAdd]
  refine brC_mk (fun hc => ?_) (fun hc => ?_)
  · simp only [symCode, symIts, symOp, symBind, symQ, symT, symVal, symLook, symSlice, symHeap, symStep, symRange, symRaw, symBsl, symClr, symClrH, symGb, junkG, Bool.false_eq_true, decide_true, decide_false, symRes, symFrz, symApp, symMap, symMapOp, bindO_some, Option.map_some, Option.bind_some, List.length_cons, List.length_nil, List.length_append, List.drop_zero, List.drop_succ_cons, List.take_succ_cons, List.take_zero, List.getElem?_cons_zero, List.getElem?_cons_succ, List.set_cons_zero, List.set_cons_succ, Nat.reduceLeDiff, List.map_cons, List.map_nil, setPart_agg, setPart_one, symSet, symSetF, Nat.reduceLT, fillV, buildV, List.replicate_succ, List.replicate_zero, Nat.lt_add_one, and_self, if_true, PV.one, PV.isAgg, PV.cells, PV.okc, List.all_cons, List.all_nil, Bool.and_self, List.nil_append, List.append_nil, List.cons_append, Nat.zero_add, Nat.add_zero, true_and, and_true, Nat.reduceEqDiff, reduceIte, Nat.reduceAdd]
    exact ⟨Ext.refl _, rfl, _, Sim.tuple2 (Sim.sl_nil _ _ _ _) (Sim.refl _), .inl ⟨by simpa using hc, rfl⟩⟩
  have hok : namesOk names = true := by simpa using hc
  simp only [symCode, symIts, symOp, symBind, symQ, symT, symVal, symLook, symSlice, symHeap, symStep, symRange, symRaw, symBsl, symClr, symClrH, symGb, junkG, Bool.false_eq_true, decide_true, decide_false, symRes, symFrz, symApp, symMap, symMapOp, bindO_some, Option.map_some, Option.bind_some, List.length_cons, List.length_nil, List.length_append, List.drop_zero, List.drop_succ_cons, List.take_succ_cons, List.take_zero, List.getElem?_cons_zero, List.getElem?_cons_succ, List.set_cons_zero, List.set_cons_succ, Nat.reduceLeDiff, List.map_cons, List.map_nil, setPart_agg, setPart_one, symSet, symSetF, Nat.reduceLT, fillV, buildV, List.replicate_succ, List.replicate_zero, Nat.lt_add_one, and_self, if_true, PV.one, PV.isAgg, PV.cells, PV.okc, List.all_cons, List.all_nil, Bool.and_self, List.nil_append, List.append_nil, List.cons_append, Nat.zero_add, Nat.add_zero, true_and, and_true, Nat.reduceEqDiff, reduceIte, Nat.reduceAdd]
  refine (replace (hG.le hg) b names cform 32 [] [] f1 n1 f2 n2 h hl hn (fun o ho => ?_) (fun g2 h' s hg2 he hsl => collapse1 s h' hsl)).go ?_
  · have := names_len hok (occs_mem b.length 0 (by omega) ho).1
    simp only [cform, List.length_append, List.length_cons, List.length_nil]; omega
  rintro r h' ⟨he, ho⟩
  simp only [symCode, symIts, symOp, symBind, symQ, symT, symVal, symLook, symSlice, symHeap, symStep, symRange, symRaw, symBsl, symClr, symClrH, symGb, junkG, Bool.false_eq_true, decide_true, decide_false, symRes, symFrz, symApp, symMap, symMapOp, bindO_some, Option.map_some, Option.bind_some, List.length_cons, List.length_nil, List.length_append, List.drop_zero, List.drop_succ_cons, List.take_succ_cons, List.take_zero, List.getElem?_cons_zero, List.getElem?_cons_succ, List.set_cons_zero, List.set_cons_succ, Nat.reduceLeDiff, List.map_cons, List.map_nil, setPart_agg, setPart_one, symSet, symSetF, Nat.reduceLT, fillV, buildV, List.replicate_succ, List.replicate_zero, Nat.lt_add_one, and_self, if_true, PV.one, PV.isAgg, PV.cells, PV.okc, List.all_cons, List.all_nil, Bool.and_self, List.nil_append, List.append_nil, List.cons_append, Nat.zero_add, Nat.add_zero, true_and, and_true, Nat.reduceEqDiff, reduceIte, Nat.reduceAdd]
  refine ho.frz fun h2 sz' full nl hl2 hk2 hsz => ?_
  simp only [symCode, symIts, symOp, symBind, symQ, symT, symVal, symLook, symSlice, symHeap, symStep, symRange, symRaw, symBsl, symClr, symClrH, symGb, junkG, Bool.false_eq_true, decide_true, decide_false, symRes, symFrz, symApp, symMap, symMapOp, bindO_some, Option.map_some, Option.bind_some, List.length_cons, List.length_nil, List.length_append, List.drop_zero, List.drop_succ_cons, List.take_succ_cons, List.take_zero, List.getElem?_cons_zero, List.getElem?_cons_succ, List.set_cons_zero, List.set_cons_succ, Nat.reduceLeDiff, List.map_cons, List.map_nil, setPart_agg, setPart_one, symSet, symSetF, Nat.reduceLT, fillV, buildV, List.replicate_succ, List.replicate_zero, Nat.lt_add_one, and_self, if_true, PV.one, PV.isAgg, PV.cells, PV.okc, List.all_cons, List.all_nil, Bool.and_self, List.nil_append, List.append_nil, List.cons_append, Nat.zero_add, Nat.add_zero, true_and, and_true, Nat.reduceEqDiff, reduceIte, Nat.reduceAdd]
  have hsz' : sz' = 1 ∨ (repl b cform (occs b names 0)).map byteV = [] := hsz
  refine ⟨⟨by have := he.1; omega, fun i hi => by rw [hk2 i hi]; exact he.2 i hi⟩, ?_, _, Sim.tuple2 (Sim.sl hsz') (Sim.refl _), .inr ⟨hok, _, _, rfl⟩⟩
  simp only [idsB, idsL, Bool.and_true]
  exact idsL_map (fun _ => rfl) _

/-- Keys and values. -/
def aset (k v : Bs) : List (Bs × Bs) → List (Bs × Bs)
  | [] => [(k, v)]
  | e :: es => if k = e.1 then (k, v) :: es else e :: aset k v es
def aget (k : Bs) : List (Bs × Bs) → Option Bs
  | [] => none
  | e :: es => if k = e.1 then some e.2 else aget k es
def enc2 (p : Bs × Bs) : PV × PV := (.str p.1, .str p.2)

theorem mset_enc (k v : Bs) : ∀ m : List (Bs × Bs), mset (.str k) (.str v) (m.map enc2) = (aset k v m).map enc2
  | [] => rfl
  | e :: m => by
    have hc : cellsEq (PV.str k).cells (enc2 e).1.cells = decide (k = e.1) := by simp [enc2, PV.cells, cellsEq, cellEq, beq_dec]
    simp only [List.map_cons, mset, hc, aset, mset_enc k v m, decide_eq_true_eq]
    split <;> rfl
theorem mfind_enc (k : Bs) : ∀ m : List (Bs × Bs), mfind (.str k) (m.map enc2) = (aget k m).map .str
  | [] => rfl
  | e :: m => by
    have hc : cellsEq (PV.str k).cells (enc2 e).1.cells = decide (k = e.1) := by simp [enc2, PV.cells, cellsEq, cellEq, beq_dec]
    simp only [List.map_cons, mfind, hc, aget, mfind_enc k m, decide_eq_true_eq]
    split <;> rfl
theorem keys_enc (m : List (Bs × Bs)) : keysOk [.str] false (m.map enc2) = true := by
  simp [keysOk, enc2, keyOk, sigOk, kdOk, PV.cells, PV.isAgg]
theorem aset_new {k v : Bs} : ∀ {m : List (Bs × Bs)}, (∀ e ∈ m, e.1 ≠ k) → aset k v m = m ++ [(k, v)]
  | [], _ => rfl
  | e :: m, h => by
    rw [aset, if_neg (Ne.symm (h e List.mem_cons_self)), aset_new fun x hx => h x (List.mem_cons_of_mem _ hx)]; rfl

def mapSt (ws : List (Bs × Bs)) : List (Bs × Bs) := ws.foldl (fun m w => aset w.1 w.2 m) []

theorem fold_aset : ∀ (ws m : List (Bs × Bs)), ((m ++ ws).map (·.1)).Nodup → ws.foldl (fun m w => aset w.1 w.2 m) m = m ++ ws
  | [], m, _ => by simp
  | w :: ws, m, h => by
    have hd : ∀ e ∈ m, e.1 ≠ w.1 := by
      intro e he e'
      simp only [List.map_append, List.map_cons, List.nodup_append] at h
      exact h.2.2 e.1 (List.mem_map.2 ⟨e, he, rfl⟩) w.1 (by simp) e'
    have ha : aset w.1 w.2 m = m ++ [w] := aset_new hd
    rw [List.foldl_cons, ha, fold_aset ws (m ++ [w]) (by simpa using h)]
    simp

theorem mapSt_nodup {ws : List (Bs × Bs)} (h : (ws.map (·.1)).Nodup) : mapSt ws = ws := by
  have := fold_aset ws [] (by simpa using h)
  simpa [mapSt] using this

def eform (m : List (Bs × Bs)) (s : Bs) : Bs := [36] ++ s ++ [58, 32] ++ (aget s m).getD [] ++ [32, 36]

theorem aget_mem {k v : Bs} : ∀ {m : List (Bs × Bs)}, aget k m = some v → (k, v) ∈ m
  | [], h => by cases h
  | e :: m, h => by
    rw [aget] at h
    split at h
    · rename_i hk; cases h; rw [hk]; exact List.mem_cons_self
    · exact List.mem_cons_of_mem _ (aget_mem h)

theorem expand1 {g0 : Gh} (m : List (Bs × Bs)) (s : Bs) (id id2 : Nat) (h : AH) (hl : s.length ≤ 100000000) (hm : ∀ w ∈ m, w.2.length ≤ 100000) (h1 : h[id]? = some (.arr 1 [.map id2] true)) (h2 : h[id2]? = some (.map (m.map enc2))) :
    ACalls Tryd.prog g0 31 [.str s, .ptr id 1 0 0] h fun r h' => h' = h ∧ r = .str (eform m s) := by
  refine acalls_E F31_ok rfl fun g1 hg => ?_
  have hpm : partV (.map id2) 0 1 false = some (.map id2) := rfl
  simp only [F31, symCode, symIts, symOp, symBind, symQ, symT, symVal, symLook, symSlice, symHeap, symStep, symRange, symRaw, symBsl, symClr, symClrH, symGb, junkG, Bool.false_eq_true, decide_true, decide_false, symRes, symFrz, symApp, symMap, symMapOp, bindO_some, Option.map_some, Option.bind_some, List.length_cons, List.length_nil, List.length_append, List.drop_zero, List.drop_succ_cons, List.take_succ_cons, List.take_zero, List.getElem?_cons_zero, List.getElem?_cons_succ, List.set_cons_zero, List.set_cons_succ, Nat.reduceLeDiff, List.map_cons, List.map_nil, setPart_agg, setPart_one, symSet, symSetF, Nat.reduceLT, fillV, buildV, List.replicate_succ, List.replicate_zero, Nat.lt_add_one, and_self, if_true, PV.one, PV.isAgg, PV.cells, PV.okc, List.all_cons, List.all_nil, Bool.and_self, List.nil_append, List.append_nil, List.cons_append, Nat.zero_add, Nat.add_zero, true_and, and_true, Nat.reduceEqDiff, reduceIte, Nat.reduceAdd, h1, h2, hpm, mfind_enc]
  have hv : ((aget s m).getD []).length ≤ 100000 := by
    cases ha : aget s m with
    | none => simp
    | some v => exact hm _ (aget_mem ha)
  (repeat (first | refine And.intro (inR_i64.2 (by omega)) ?_ | refine And.intro (by omega) ?_))
  refine ⟨rfl, keys_enc m, ?_⟩
  cases ha : aget s m with
  | none =>
    rw [ha] at hv
    simp only [Option.map_none, symCode, symIts, symOp, symBind, symQ, symT, symVal, symLook, symSlice, symHeap, symStep, symRange, symRaw, symBsl, symClr, symClrH, symGb, junkG, Bool.false_eq_true, decide_true, decide_false, symRes, symFrz, symApp, symMap, symMapOp, bindO_some, Option.map_some, Option.bind_some, List.length_cons, List.length_nil, List.length_append, List.drop_zero, List.drop_succ_cons, List.take_succ_cons, List.take_zero, List.getElem?_cons_zero, List.getElem?_cons_succ, List.set_cons_zero, List.set_cons_succ, Nat.reduceLeDiff, List.map_cons, List.map_nil, setPart_agg, setPart_one, symSet, symSetF, Nat.reduceLT, fillV, buildV, List.replicate_succ, List.replicate_zero, Nat.lt_add_one, and_self, if_true, PV.one, PV.isAgg, PV.cells, PV.okc, List.all_cons, List.all_nil, Bool.and_self, List.nil_append, List.append_nil, List.cons_append, Nat.zero_add, Nat.add_zero, true_and, and_true, Nat.reduceEqDiff, reduceIte, Nat.reduceAdd]
    (repeat (first | refine And.intro (inR_i64.2 (by omega)) ?_ | refine And.intro (by omega) ?_))
    exact ⟨Ext.refl _, rfl, by simp [eform, ha]⟩
  | some v =>
    rw [ha] at hv
    simp only [Option.getD_some] at hv
    simp only [Option.map_some, symCode, symIts, symOp, symBind, symQ, symT, symVal, symLook, symSlice, symHeap, symStep, symRange, symRaw, symBsl, symClr, symClrH, symGb, junkG, Bool.false_eq_true, decide_true, decide_false, symRes, symFrz, symApp, symMap, symMapOp, bindO_some, Option.map_some, Option.bind_some, List.length_cons, List.length_nil, List.length_append, List.drop_zero, List.drop_succ_cons, List.take_succ_cons, List.take_zero, List.getElem?_cons_zero, List.getElem?_cons_succ, List.set_cons_zero, List.set_cons_succ, Nat.reduceLeDiff, List.map_cons, List.map_nil, setPart_agg, setPart_one, symSet, symSetF, Nat.reduceLT, fillV, buildV, List.replicate_succ, List.replicate_zero, Nat.lt_add_one, and_self, if_true, PV.one, PV.isAgg, PV.cells, PV.okc, List.all_cons, List.all_nil, Bool.and_self, List.nil_append, List.append_nil, List.cons_append, Nat.zero_add, Nat.add_zero, true_and, and_true, Nat.reduceEqDiff, reduceIte, Nat.reduceAdd]
    (repeat (first | refine And.intro (inR_i64.2 (by omega)) ?_ | refine And.intro (by omega) ?_))
    exact ⟨Ext.refl _, rfl, by simp [eform, ha]⟩

end Go.K10
