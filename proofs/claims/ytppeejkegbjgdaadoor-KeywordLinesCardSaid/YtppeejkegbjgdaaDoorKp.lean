/- Contracts: the names of keywords; the sanity check. -/
import Derived.Test.YtppeejkegbjgdaaDoorKo
set_option linter.unusedSimpArgs false
set_option linter.unusedVariables false
namespace Go.K10
open Go Go.Avm Go.Proofs

theorem names {g0 : Gh} (ws : List (Bs × Bs)) (f n : Bool) (h : AH) (hw : ws.length < 1000000000) :
    ACalls Tryd.prog g0 16 [.sl 2 (ws.map wordV) f n] h fun r h' => h' = h ∧ ∃ f n, r = .sl 1 ((ws.map (·.1)).map .str) f n := by
  refine acalls_ES F16_ok rfl fun g1 hg => ?_
  simp only [F16, symCode, symIts, symOp, symBind, symQ, symT, symVal, symLook, symSlice, symHeap, symStep, symRange, symRaw, symBsl, symClr, symClrH, symGb, junkG, Bool.false_eq_true, decide_true, decide_false, symRes, symFrz, symApp, symMap, symMapOp, bindO_some, Option.map_some, Option.bind_some, List.length_cons, List.length_nil, List.length_append, List.drop_zero, List.drop_succ_cons, List.take_succ_cons, List.take_zero, List.getElem?_cons_zero, List.getElem?_cons_succ, List.set_cons_zero, List.set_cons_succ, Nat.reduceLeDiff, List.map_cons, List.map_nil, setPart_agg, setPart_one, symSet, symSetF, Nat.reduceLT, fillV, buildV, List.replicate_succ, List.replicate_zero, Nat.lt_add_one, and_self, if_true, PV.one, PV.isAgg, PV.cells, PV.okc, List.all_cons, List.all_nil, Bool.and_self, List.nil_append, List.append_nil, List.cons_append, Nat.zero_add, Nat.add_zero, true_and, and_true, Nat.reduceEqDiff, reduceIte, Nat.reduceAdd]
  refine ALoop.range ws.length (fun k t h' => ∃ v, Acc h h' v 1 (((ws.take k).map (·.1)).map .str) ∧ t = [(3, v), (6, .sl 2 (ws.map wordV) f n), (7, .int .i64 ws.length), (8, .int .i64 k)]) ?_ ?_
  · simp only [symCode, symIts, symOp, symBind, symQ, symT, symVal, symLook, symSlice, symHeap, symStep, symRange, symRaw, symBsl, symClr, symClrH, symGb, junkG, Bool.false_eq_true, decide_true, decide_false, symRes, symFrz, symApp, symMap, symMapOp, bindO_some, Option.map_some, Option.bind_some, List.length_cons, List.length_nil, List.length_append, List.drop_zero, List.drop_succ_cons, List.take_succ_cons, List.take_zero, List.getElem?_cons_zero, List.getElem?_cons_succ, List.set_cons_zero, List.set_cons_succ, Nat.reduceLeDiff, List.map_cons, List.map_nil, setPart_agg, setPart_one, symSet, symSetF, Nat.reduceLT, fillV, buildV, List.replicate_succ, List.replicate_zero, Nat.lt_add_one, and_self, if_true, PV.one, PV.isAgg, PV.cells, PV.okc, List.all_cons, List.all_nil, Bool.and_self, List.nil_append, List.append_nil, List.cons_append, Nat.zero_add, Nat.add_zero, true_and, and_true, Nat.reduceEqDiff, reduceIte, Nat.reduceAdd, List.length_map]
    exact ⟨_, ⟨Ext.refl h, .inl ⟨by simp, 0, rfl⟩⟩, rfl⟩
  · rintro k t h' hk ⟨v, hacc, rfl⟩
    simp only [symCode, symIts, symOp, symBind, symQ, symT, symVal, symLook, symSlice, symHeap, symStep, symRange, symRaw, symBsl, symClr, symClrH, symGb, junkG, Bool.false_eq_true, decide_true, decide_false, symRes, symFrz, symApp, symMap, symMapOp, bindO_some, Option.map_some, Option.bind_some, List.length_cons, List.length_nil, List.length_append, List.drop_zero, List.drop_succ_cons, List.take_succ_cons, List.take_zero, List.getElem?_cons_zero, List.getElem?_cons_succ, List.set_cons_zero, List.set_cons_succ, Nat.reduceLeDiff, List.map_cons, List.map_nil, setPart_agg, setPart_one, symSet, symSetF, Nat.reduceLT, fillV, buildV, List.replicate_succ, List.replicate_zero, Nat.lt_add_one, and_self, if_true, PV.one, PV.isAgg, PV.cells, PV.okc, List.all_cons, List.all_nil, Bool.and_self, List.nil_append, List.append_nil, List.cons_append, Nat.zero_add, Nat.add_zero, true_and, and_true, Nat.reduceEqDiff, reduceIte, Nat.reduceAdd]
    refine brC_mk (fun hc => ?_) (fun hc => ?_)
    · have hi : k < ws.length := by simpa using hc
      simp only [symCode, symIts, symOp, symBind, symQ, symT, symVal, symLook, symSlice, symHeap, symStep, symRange, symRaw, symBsl, symClr, symClrH, symGb, junkG, Bool.false_eq_true, decide_true, decide_false, symRes, symFrz, symApp, symMap, symMapOp, bindO_some, Option.map_some, Option.bind_some, List.length_cons, List.length_nil, List.length_append, List.drop_zero, List.drop_succ_cons, List.take_succ_cons, List.take_zero, List.getElem?_cons_zero, List.getElem?_cons_succ, List.set_cons_zero, List.set_cons_succ, Nat.reduceLeDiff, List.map_cons, List.map_nil, setPart_agg, setPart_one, symSet, symSetF, Nat.reduceLT, fillV, buildV, List.replicate_succ, List.replicate_zero, Nat.lt_add_one, and_self, if_true, PV.one, PV.isAgg, PV.cells, PV.okc, List.all_cons, List.all_nil, Bool.and_self, List.nil_append, List.append_nil, List.cons_append, Nat.zero_add, Nat.add_zero, true_and, and_true, Nat.reduceEqDiff, reduceIte, Nat.reduceAdd, Int.toNat_natCast, List.getElem?_map, List.getElem?_eq_getElem hi, wordV]
      (repeat (first | refine And.intro (inR_i64.2 (by omega)) ?_ | refine And.intro (by omega) ?_))
      refine (hacc.ext _).app ⟨by simp; omega, by simp; omega⟩ fun v' h'' ha hl => ?_
      simp only [symCode, symIts, symOp, symBind, symQ, symT, symVal, symLook, symSlice, symHeap, symStep, symRange, symRaw, symBsl, symClr, symClrH, symGb, junkG, Bool.false_eq_true, decide_true, decide_false, symRes, symFrz, symApp, symMap, symMapOp, bindO_some, Option.map_some, Option.bind_some, List.length_cons, List.length_nil, List.length_append, List.drop_zero, List.drop_succ_cons, List.take_succ_cons, List.take_zero, List.getElem?_cons_zero, List.getElem?_cons_succ, List.set_cons_zero, List.set_cons_succ, Nat.reduceLeDiff, List.map_cons, List.map_nil, setPart_agg, setPart_one, symSet, symSetF, Nat.reduceLT, fillV, buildV, List.replicate_succ, List.replicate_zero, Nat.lt_add_one, and_self, if_true, PV.one, PV.isAgg, PV.cells, PV.okc, List.all_cons, List.all_nil, Bool.and_self, List.nil_append, List.append_nil, List.cons_append, Nat.zero_add, Nat.add_zero, true_and, and_true, Nat.reduceEqDiff, reduceIte, Nat.reduceAdd]
      (repeat (first | refine And.intro (inR_i64.2 (by omega)) ?_ | refine And.intro (by omega) ?_))
      refine ⟨v', ?_, rfl⟩
      rw [take_snoc hi, List.map_append, List.map_append]
      exact ha
    · have hi : ¬ k < ws.length := by simpa using hc
      simp only [symCode, symIts, symOp, symBind, symQ, symT, symVal, symLook, symSlice, symHeap, symStep, symRange, symRaw, symBsl, symClr, symClrH, symGb, junkG, Bool.false_eq_true, decide_true, decide_false, symRes, symFrz, symApp, symMap, symMapOp, bindO_some, Option.map_some, Option.bind_some, List.length_cons, List.length_nil, List.length_append, List.drop_zero, List.drop_succ_cons, List.take_succ_cons, List.take_zero, List.getElem?_cons_zero, List.getElem?_cons_succ, List.set_cons_zero, List.set_cons_succ, Nat.reduceLeDiff, List.map_cons, List.map_nil, setPart_agg, setPart_one, symSet, symSetF, Nat.reduceLT, fillV, buildV, List.replicate_succ, List.replicate_zero, Nat.lt_add_one, and_self, if_true, PV.one, PV.isAgg, PV.cells, PV.okc, List.all_cons, List.all_nil, Bool.and_self, List.nil_append, List.append_nil, List.cons_append, Nat.zero_add, Nat.add_zero, true_and, and_true, Nat.reduceEqDiff, reduceIte, Nat.reduceAdd]
      refine hacc.frz fun h'' sz' full nl he hs => ?_
      simp only [symCode, symIts, symOp, symBind, symQ, symT, symVal, symLook, symSlice, symHeap, symStep, symRange, symRaw, symBsl, symClr, symClrH, symGb, junkG, Bool.false_eq_true, decide_true, decide_false, symRes, symFrz, symApp, symMap, symMapOp, bindO_some, Option.map_some, Option.bind_some, List.length_cons, List.length_nil, List.length_append, List.drop_zero, List.drop_succ_cons, List.take_succ_cons, List.take_zero, List.getElem?_cons_zero, List.getElem?_cons_succ, List.set_cons_zero, List.set_cons_succ, Nat.reduceLeDiff, List.map_cons, List.map_nil, setPart_agg, setPart_one, symSet, symSetF, Nat.reduceLT, fillV, buildV, List.replicate_succ, List.replicate_zero, Nat.lt_add_one, and_self, if_true, PV.one, PV.isAgg, PV.cells, PV.okc, List.all_cons, List.all_nil, Bool.and_self, List.nil_append, List.append_nil, List.cons_append, Nat.zero_add, Nat.add_zero, true_and, and_true, Nat.reduceEqDiff, reduceIte, Nat.reduceAdd]
      rw [List.take_of_length_le (by omega)] at hs ⊢
      exact ⟨he, by simp only [idsB]; exact idsL_map (fun _ => rfl) _, _, Sim.sl hs, _, _, rfl⟩

/-- The occurrences, computed. -/
def occsF : Nat → Bs → List Bs → Nat → List Occ
  | 0, _, _, _ => []
  | m + 1, b, names, i =>
    if i < b.length then
      match atP b i names with
      | some o => o :: occsF m b names (o.2.2 + 1)
      | none => occsF m b names (i + 1)
    else []
theorem occs_F {b : Bs} {names : List Bs} : ∀ (m i : Nat), b.length - i ≤ m → occs b names i = occsF m b names i
  | 0, i, h => by rw [occs_end (by omega)]; rfl
  | m + 1, i, h => by
    rw [occsF]
    split
    · rename_i hlt
      cases ho : atP b i names with
      | some o =>
        obtain ⟨q1, q2, q3⟩ := atP_last ho
        rw [occs_some ho, occs_F m (o.2.2 + 1) (by omega)]
      | none => rw [occs_none hlt ho, occs_F m (i + 1) (by omega)]
    · rw [occs_end (by omega)]

theorem awake {g0 : Gh} (hG : Glob g0) (h : AH) : ACalls Tryd.prog g0 13 [] h fun r h' => h' = h ∧ r = .bool true := by
  refine acalls_E F13_ok rfl fun g1 hg => ?_
  simp only [F13, symCode, symIts, symOp, symBind, symQ, symT, symVal, symLook, symSlice, symHeap, symStep, symRange, symRaw, symBsl, symClr, symClrH, symGb, junkG, Bool.false_eq_true, decide_true, decide_false, symRes, symFrz, symApp, symMap, symMapOp, bindO_some, Option.map_some, Option.bind_some, List.length_cons, List.length_nil, List.length_append, List.drop_zero, List.drop_succ_cons, List.take_succ_cons, List.take_zero, List.getElem?_cons_zero, List.getElem?_cons_succ, List.set_cons_zero, List.set_cons_succ, Nat.reduceLeDiff, List.map_cons, List.map_nil, setPart_agg, setPart_one, symSet, symSetF, Nat.reduceLT, fillV, buildV, List.replicate_succ, List.replicate_zero, Nat.lt_add_one, and_self, if_true, PV.one, PV.isAgg, PV.cells, PV.okc, List.all_cons, List.all_nil, Bool.and_self, List.nil_append, List.append_nil, List.cons_append, Nat.zero_add, Nat.add_zero, true_and, and_true, Nat.reduceEqDiff, reduceIte, Nat.reduceAdd]
  have e1 : ([.int .u8 36, .int .u8 73, .int .u8 100, .int .u8 36, .int .u8 32, .int .u8 36, .int .u8 82, .int .u8 101, .int .u8 118, .int .u8 36] : List PV) = ([36, 73, 100, 36, 32, 36, 82, 101, 118, 36] : Bs).map byteV := rfl
  have e2 : ([.agg [.str [73, 100], .str [55]]] : List PV) = ([([73, 100], [55])] : List (Bs × Bs)).map wordV := rfl
  have ex : expOk [([73, 100], [55])] = true := by decide
  have er : repl [36, 73, 100, 36, 32, 36, 82, 101, 118, 36] (eform [([73, 100], [55])]) (occs [36, 73, 100, 36, 32, 36, 82, 101, 118, 36] [[73, 100]] 0) = [36, 73, 100, 58, 32, 55, 32, 36, 32, 36, 82, 101, 118, 36] := by
    rw [occs_F 10 0 (by decide)]; decide
  obtain ⟨R, hR⟩ : ∃ R : Bs, R = [36, 73, 100, 58, 32, 55, 32, 36, 32, 36, 82, 101, 118, 36] := ⟨_, rfl⟩
  rw [← hR] at er
  rw [e1]
  simp only [symCode, symIts, symOp, symBind, symQ, symT, symVal, symLook, symSlice, symHeap, symStep, symRange, symRaw, symBsl, symClr, symClrH, symGb, junkG, Bool.false_eq_true, decide_true, decide_false, symRes, symFrz, symApp, symMap, symMapOp, bindO_some, Option.map_some, Option.bind_some, List.length_cons, List.length_nil, List.length_append, List.drop_zero, List.drop_succ_cons, List.take_succ_cons, List.take_zero, List.getElem?_cons_zero, List.getElem?_cons_succ, List.set_cons_zero, List.set_cons_succ, Nat.reduceLeDiff, List.map_cons, List.map_nil, setPart_agg, setPart_one, symSet, symSetF, Nat.reduceLT, fillV, buildV, List.replicate_succ, List.replicate_zero, Nat.lt_add_one, and_self, if_true, PV.one, PV.isAgg, PV.cells, PV.okc, List.all_cons, List.all_nil, Bool.and_self, List.nil_append, List.append_nil, List.cons_append, Nat.zero_add, Nat.add_zero, true_and, and_true, Nat.reduceEqDiff, reduceIte, Nat.reduceAdd, b2bA, e2]
  refine (Expand (hG.le hg) [36, 73, 100, 36, 32, 36, 82, 101, 118, 36] [([73, 100], [55])] _ _ _ _ _ (by decide) (by decide) (by decide)).go' ?_
  rintro r (⟨h1, rfl⟩ | ⟨h1, f, n, rfl⟩)
  · rw [ex] at h1; cases h1
  · simp only [symCode, symIts, symOp, symBind, symQ, symT, symVal, symLook, symSlice, symHeap, symStep, symRange, symRaw, symBsl, symClr, symClrH, symGb, junkG, Bool.false_eq_true, decide_true, decide_false, symRes, symFrz, symApp, symMap, symMapOp, bindO_some, Option.map_some, Option.bind_some, List.length_cons, List.length_nil, List.length_append, List.drop_zero, List.drop_succ_cons, List.take_succ_cons, List.take_zero, List.getElem?_cons_zero, List.getElem?_cons_succ, List.set_cons_zero, List.set_cons_succ, Nat.reduceLeDiff, List.map_cons, List.map_nil, setPart_agg, setPart_one, symSet, symSetF, Nat.reduceLT, fillV, buildV, List.replicate_succ, List.replicate_zero, Nat.lt_add_one, and_self, if_true, PV.one, PV.isAgg, PV.cells, PV.okc, List.all_cons, List.all_nil, Bool.and_self, List.nil_append, List.append_nil, List.cons_append, Nat.zero_add, Nat.add_zero, true_and, and_true, Nat.reduceEqDiff, reduceIte, Nat.reduceAdd, bytesOf_map, er, decide_eq_true hR]
    exact ⟨(Ext.refl _).app _, rfl⟩

end Go.K10
