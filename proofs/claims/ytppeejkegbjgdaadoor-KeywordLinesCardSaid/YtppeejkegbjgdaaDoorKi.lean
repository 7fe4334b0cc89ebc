/- Contracts: one occurrence. -/
import Derived.Test.YtppeejkegbjgdaaDoorKh
set_option linter.unusedSimpArgs false
set_option linter.unusedVariables false
namespace Go.K10
open Go Go.Avm Go.Proofs

abbrev Occ := Bs × Nat × Nat
def occV (o : Occ) : PV := .agg [.str o.1, .int .i64 o.2.1, .int .i64 o.2.2]

theorem bytesOf_map : ∀ l : Bs, bytesOf (l.map byteV) = some l
  | [] => rfl
  | b :: l => by simp [byteV, bytesOf, bytesOf_map l]

/-- The occurrence that begins at a place. -/
def atP (b : Bs) (i : Nat) (names : List Bs) : Option Occ :=
  if b[i]? ≠ some 36 then none else
  match idx (b.drop (i + 1)) 58 with
  | none => none
  | some n =>
    if (names.any fun y => decide ((b.drop (i + 1)).take n = y)) = false then none else
    if b[i + 1 + n]? = some 36 then some ((b.drop (i + 1)).take n, i, i + 1 + n) else
    match idx (b.drop (i + 1 + n)) 10 with
    | none => none
    | some m => if b[i + 1 + n + m]? = some 36 then some ((b.drop (i + 1)).take n, i, i + 1 + n + m) else none

def atV : Option Occ → PV
  | some o => .tuple [occV o, .bool true]
  | none => .tuple [occV ([], 0, 0), .bool false]

theorem idx_lt {s : Bs} {c : UInt8} {n : Nat} (h : idx s c = some n) : n < s.length := by
  unfold idx at h
  exact (List.findIdx?_eq_some_iff_findIdx_eq.1 h).1

theorem at_ {g0 : Gh} (hG : Glob g0) (b : Bs) (i : Nat) (names : List Bs) (f1 n1 f2 n2 : Bool) (h : AH) (hl : b.length < 1000000000000) (hn : names.length < 1000000000000) (hi : i < b.length) :
    ACalls Tryd.prog g0 44 [.sl 1 (b.map byteV) f1 n1, .int .i64 i, .sl 1 (names.map .str) f2 n2] h fun r h' => h' = h ∧ r = atV (atP b i names) := by
  refine acalls_E F44_ok rfl fun g1 hg => ?_
  simp only [F44, symCode, symIts, symOp, symBind, symQ, symT, symVal, symLook, symSlice, symHeap, symStep, symRange, symRaw, symBsl, symClr, symClrH, symGb, junkG, Bool.false_eq_true, decide_true, decide_false, symRes, symFrz, symApp, symMap, symMapOp, bindO_some, Option.map_some, Option.bind_some, List.length_cons, List.length_nil, List.length_append, List.drop_zero, List.drop_succ_cons, List.take_succ_cons, List.take_zero, List.getElem?_cons_zero, List.getElem?_cons_succ, List.set_cons_zero, List.set_cons_succ, Nat.reduceLeDiff, List.map_cons, List.map_nil, setPart_agg, setPart_one, symSet, symSetF, Nat.reduceLT, fillV, buildV, List.replicate_succ, List.replicate_zero, Nat.lt_add_one, and_self, if_true, PV.one, PV.isAgg, PV.cells, PV.okc, List.all_cons, List.all_nil, Bool.and_self, List.nil_append, List.append_nil, List.cons_append, Nat.zero_add, Nat.add_zero, true_and, and_true, Nat.reduceEqDiff, reduceIte, Nat.reduceAdd, Int.toNat_natCast, List.getElem?_map, List.getElem?_eq_getElem hi, byteV]
  refine ⟨by omega, brC_mk (fun hc => ?_) (fun hc => ?_)⟩
  · simp only [symCode, symIts, symOp, symBind, symQ, symT, symVal, symLook, symSlice, symHeap, symStep, symRange, symRaw, symBsl, symClr, symClrH, symGb, junkG, Bool.false_eq_true, decide_true, decide_false, symRes, symFrz, symApp, symMap, symMapOp, bindO_some, Option.map_some, Option.bind_some, List.length_cons, List.length_nil, List.length_append, List.drop_zero, List.drop_succ_cons, List.take_succ_cons, List.take_zero, List.getElem?_cons_zero, List.getElem?_cons_succ, List.set_cons_zero, List.set_cons_succ, Nat.reduceLeDiff, List.map_cons, List.map_nil, setPart_agg, setPart_one, symSet, symSetF, Nat.reduceLT, fillV, buildV, List.replicate_succ, List.replicate_zero, Nat.lt_add_one, and_self, if_true, PV.one, PV.isAgg, PV.cells, PV.okc, List.all_cons, List.all_nil, Bool.and_self, List.nil_append, List.append_nil, List.cons_append, Nat.zero_add, Nat.add_zero, true_and, and_true, Nat.reduceEqDiff, reduceIte, Nat.reduceAdd]
    refine ⟨(Ext.refl _).app _, rfl, ?_⟩
    have : b[i]? ≠ some 36 := by
      rw [List.getElem?_eq_getElem hi]
      intro e
      rw [Option.some.inj e] at hc
      simp at hc
    rw [atP, if_pos this]; rfl
  have hd : b[i]? = some 36 := by
    rw [List.getElem?_eq_getElem hi]
    have : (b[i].toNat : Int) = 36 := by simpa using hc
    congr 1
    exact UInt8.toNat_inj.1 (by rw [show (36 : UInt8).toNat = 36 from rfl]; omega)
  have hat : atP b i names = atP b i names := rfl
  conv at hat => rhs; unfold atP
  rw [if_neg (by simpa using hd)] at hat
  have e1 : ((i : Int) + 1).toNat = i + 1 := by omega
  simp only [symCode, symIts, symOp, symBind, symQ, symT, symVal, symLook, symSlice, symHeap, symStep, symRange, symRaw, symBsl, symClr, symClrH, symGb, junkG, Bool.false_eq_true, decide_true, decide_false, symRes, symFrz, symApp, symMap, symMapOp, bindO_some, Option.map_some, Option.bind_some, List.length_cons, List.length_nil, List.length_append, List.drop_zero, List.drop_succ_cons, List.take_succ_cons, List.take_zero, List.getElem?_cons_zero, List.getElem?_cons_succ, List.set_cons_zero, List.set_cons_succ, Nat.reduceLeDiff, List.map_cons, List.map_nil, setPart_agg, setPart_one, symSet, symSetF, Nat.reduceLT, fillV, buildV, List.replicate_succ, List.replicate_zero, Nat.lt_add_one, and_self, if_true, PV.one, PV.isAgg, PV.cells, PV.okc, List.all_cons, List.all_nil, Bool.and_self, List.nil_append, List.append_nil, List.cons_append, Nat.zero_add, Nat.add_zero, true_and, and_true, Nat.reduceEqDiff, reduceIte, Nat.reduceAdd, e1, List.length_map, ← List.map_drop, Int.toNat_natCast, ← List.map_take, List.take_length]
  (repeat (first | refine And.intro (inR_i64.2 (by omega)) ?_ | refine And.intro (by omega) ?_))
  refine (IndexAny (hG.le hg) (b.drop (i + 1)) _ _ 58 (.inl rfl) _ (by rw [List.length_drop]; omega)).go' ?_
  rintro r rfl
  simp only [symCode, symIts, symOp, symBind, symQ, symT, symVal, symLook, symSlice, symHeap, symStep, symRange, symRaw, symBsl, symClr, symClrH, symGb, junkG, Bool.false_eq_true, decide_true, decide_false, symRes, symFrz, symApp, symMap, symMapOp, bindO_some, Option.map_some, Option.bind_some, List.length_cons, List.length_nil, List.length_append, List.drop_zero, List.drop_succ_cons, List.take_succ_cons, List.take_zero, List.getElem?_cons_zero, List.getElem?_cons_succ, List.set_cons_zero, List.set_cons_succ, Nat.reduceLeDiff, List.map_cons, List.map_nil, setPart_agg, setPart_one, symSet, symSetF, Nat.reduceLT, fillV, buildV, List.replicate_succ, List.replicate_zero, Nat.lt_add_one, and_self, if_true, PV.one, PV.isAgg, PV.cells, PV.okc, List.all_cons, List.all_nil, Bool.and_self, List.nil_append, List.append_nil, List.cons_append, Nat.zero_add, Nat.add_zero, true_and, and_true, Nat.reduceEqDiff, reduceIte, Nat.reduceAdd]
  refine brC_mk (fun hc => ?_) (fun hc => ?_)
  · simp only [symCode, symIts, symOp, symBind, symQ, symT, symVal, symLook, symSlice, symHeap, symStep, symRange, symRaw, symBsl, symClr, symClrH, symGb, junkG, Bool.false_eq_true, decide_true, decide_false, symRes, symFrz, symApp, symMap, symMapOp, bindO_some, Option.map_some, Option.bind_some, List.length_cons, List.length_nil, List.length_append, List.drop_zero, List.drop_succ_cons, List.take_succ_cons, List.take_zero, List.getElem?_cons_zero, List.getElem?_cons_succ, List.set_cons_zero, List.set_cons_succ, Nat.reduceLeDiff, List.map_cons, List.map_nil, setPart_agg, setPart_one, symSet, symSetF, Nat.reduceLT, fillV, buildV, List.replicate_succ, List.replicate_zero, Nat.lt_add_one, and_self, if_true, PV.one, PV.isAgg, PV.cells, PV.okc, List.all_cons, List.all_nil, Bool.and_self, List.nil_append, List.append_nil, List.cons_append, Nat.zero_add, Nat.add_zero, true_and, and_true, Nat.reduceEqDiff, reduceIte, Nat.reduceAdd]
    refine ⟨(Ext.refl _).app _, rfl, ?_⟩
    cases hx : idx (b.drop (i + 1)) 58 with
    | none => rw [hx] at hat; rw [hat]; rfl
    | some n =>
      rw [hx] at hc
      have : ((n : Nat) : Int) < 0 := of_decide_eq_true hc
      omega
  cases hx : idx (b.drop (i + 1)) 58 with
  | none => rw [hx] at hc; simp [idxI] at hc
  | some n =>
    rw [hx] at hat
    have hnl := idx_lt hx
    rw [List.length_drop] at hnl
    have e2 : ((i : Int) + 1 + (n : Int)).toNat = i + 1 + n := by omega
    have e3 : (b.take (i + 1 + n)).drop (i + 1) = (b.drop (i + 1)).take n := by rw [List.drop_take, Nat.add_sub_cancel_left]
    have hn2 : i + 1 + n < b.length := by omega
    simp only [symCode, symIts, symOp, symBind, symQ, symT, symVal, symLook, symSlice, symHeap, symStep, symRange, symRaw, symBsl, symClr, symClrH, symGb, junkG, Bool.false_eq_true, decide_true, decide_false, symRes, symFrz, symApp, symMap, symMapOp, bindO_some, Option.map_some, Option.bind_some, List.length_cons, List.length_nil, List.length_append, List.drop_zero, List.drop_succ_cons, List.take_succ_cons, List.take_zero, List.getElem?_cons_zero, List.getElem?_cons_succ, List.set_cons_zero, List.set_cons_succ, Nat.reduceLeDiff, List.map_cons, List.map_nil, setPart_agg, setPart_one, symSet, symSetF, Nat.reduceLT, fillV, buildV, List.replicate_succ, List.replicate_zero, Nat.lt_add_one, and_self, if_true, PV.one, PV.isAgg, PV.cells, PV.okc, List.all_cons, List.all_nil, Bool.and_self, List.nil_append, List.append_nil, List.cons_append, Nat.zero_add, Nat.add_zero, true_and, and_true, Nat.reduceEqDiff, reduceIte, Nat.reduceAdd, idxI, e1, e2, List.length_map, ← List.map_drop, ← List.map_take, e3, bytesOf_map]
    (repeat (first | refine And.intro (inR_i64.2 (by omega)) ?_ | refine And.intro (by omega) ?_))
    refine (Contains names f2 n2 _ _ hn).go' ?_
    rintro r rfl
    simp only [symCode, symIts, symOp, symBind, symQ, symT, symVal, symLook, symSlice, symHeap, symStep, symRange, symRaw, symBsl, symClr, symClrH, symGb, junkG, Bool.false_eq_true, decide_true, decide_false, symRes, symFrz, symApp, symMap, symMapOp, bindO_some, Option.map_some, Option.bind_some, List.length_cons, List.length_nil, List.length_append, List.drop_zero, List.drop_succ_cons, List.take_succ_cons, List.take_zero, List.getElem?_cons_zero, List.getElem?_cons_succ, List.set_cons_zero, List.set_cons_succ, Nat.reduceLeDiff, List.map_cons, List.map_nil, setPart_agg, setPart_one, symSet, symSetF, Nat.reduceLT, fillV, buildV, List.replicate_succ, List.replicate_zero, Nat.lt_add_one, and_self, if_true, PV.one, PV.isAgg, PV.cells, PV.okc, List.all_cons, List.all_nil, Bool.and_self, List.nil_append, List.append_nil, List.cons_append, Nat.zero_add, Nat.add_zero, true_and, and_true, Nat.reduceEqDiff, reduceIte, Nat.reduceAdd]
    refine brC_mk (fun hc => ?_) (fun hc => ?_)
    · simp only [symCode, symIts, symOp, symBind, symQ, symT, symVal, symLook, symSlice, symHeap, symStep, symRange, symRaw, symBsl, symClr, symClrH, symGb, junkG, Bool.false_eq_true, decide_true, decide_false, symRes, symFrz, symApp, symMap, symMapOp, bindO_some, Option.map_some, Option.bind_some, List.length_cons, List.length_nil, List.length_append, List.drop_zero, List.drop_succ_cons, List.take_succ_cons, List.take_zero, List.getElem?_cons_zero, List.getElem?_cons_succ, List.set_cons_zero, List.set_cons_succ, Nat.reduceLeDiff, List.map_cons, List.map_nil, setPart_agg, setPart_one, symSet, symSetF, Nat.reduceLT, fillV, buildV, List.replicate_succ, List.replicate_zero, Nat.lt_add_one, and_self, if_true, PV.one, PV.isAgg, PV.cells, PV.okc, List.all_cons, List.all_nil, Bool.and_self, List.nil_append, List.append_nil, List.cons_append, Nat.zero_add, Nat.add_zero, true_and, and_true, Nat.reduceEqDiff, reduceIte, Nat.reduceAdd]
      refine ⟨(Ext.refl _).app _, rfl, ?_⟩
      rw [hat]; simp only []
      rw [if_pos (by simpa using hc)]; rfl
    simp only [] at hat
    rw [if_neg (by simpa using hc)] at hat
    simp only [symCode, symIts, symOp, symBind, symQ, symT, symVal, symLook, symSlice, symHeap, symStep, symRange, symRaw, symBsl, symClr, symClrH, symGb, junkG, Bool.false_eq_true, decide_true, decide_false, symRes, symFrz, symApp, symMap, symMapOp, bindO_some, Option.map_some, Option.bind_some, List.length_cons, List.length_nil, List.length_append, List.drop_zero, List.drop_succ_cons, List.take_succ_cons, List.take_zero, List.getElem?_cons_zero, List.getElem?_cons_succ, List.set_cons_zero, List.set_cons_succ, Nat.reduceLeDiff, List.map_cons, List.map_nil, setPart_agg, setPart_one, symSet, symSetF, Nat.reduceLT, fillV, buildV, List.replicate_succ, List.replicate_zero, Nat.lt_add_one, and_self, if_true, PV.one, PV.isAgg, PV.cells, PV.okc, List.all_cons, List.all_nil, Bool.and_self, List.nil_append, List.append_nil, List.cons_append, Nat.zero_add, Nat.add_zero, true_and, and_true, Nat.reduceEqDiff, reduceIte, Nat.reduceAdd, e2, List.getElem?_map, List.getElem?_eq_getElem hn2, byteV]
    (repeat (first | refine And.intro (inR_i64.2 (by omega)) ?_ | refine And.intro (by omega) ?_))
    refine brC_mk (fun hc => ?_) (fun hc => ?_)
    · simp only [symCode, symIts, symOp, symBind, symQ, symT, symVal, symLook, symSlice, symHeap, symStep, symRange, symRaw, symBsl, symClr, symClrH, symGb, junkG, Bool.false_eq_true, decide_true, decide_false, symRes, symFrz, symApp, symMap, symMapOp, bindO_some, Option.map_some, Option.bind_some, List.length_cons, List.length_nil, List.length_append, List.drop_zero, List.drop_succ_cons, List.take_succ_cons, List.take_zero, List.getElem?_cons_zero, List.getElem?_cons_succ, List.set_cons_zero, List.set_cons_succ, Nat.reduceLeDiff, List.map_cons, List.map_nil, setPart_agg, setPart_one, symSet, symSetF, Nat.reduceLT, fillV, buildV, List.replicate_succ, List.replicate_zero, Nat.lt_add_one, and_self, if_true, PV.one, PV.isAgg, PV.cells, PV.okc, List.all_cons, List.all_nil, Bool.and_self, List.nil_append, List.append_nil, List.cons_append, Nat.zero_add, Nat.add_zero, true_and, and_true, Nat.reduceEqDiff, reduceIte, Nat.reduceAdd]
      refine ⟨(Ext.refl _).app _, rfl, ?_⟩
      have : b[i + 1 + n]? = some 36 := by
        rw [List.getElem?_eq_getElem hn2]
        have : (b[i + 1 + n].toNat : Int) = 36 := by simpa using hc
        congr 1
        exact UInt8.toNat_inj.1 (by rw [show (36 : UInt8).toNat = 36 from rfl]; omega)
      rw [hat, if_pos this]
      simp only [atV, occV]
      congr 3
    have hne : ¬ b[i + 1 + n]? = some 36 := by
      rw [List.getElem?_eq_getElem hn2]
      intro e
      rw [Option.some.inj e] at hc
      simp at hc
    rw [if_neg hne] at hat
    simp only [symCode, symIts, symOp, symBind, symQ, symT, symVal, symLook, symSlice, symHeap, symStep, symRange, symRaw, symBsl, symClr, symClrH, symGb, junkG, Bool.false_eq_true, decide_true, decide_false, symRes, symFrz, symApp, symMap, symMapOp, bindO_some, Option.map_some, Option.bind_some, List.length_cons, List.length_nil, List.length_append, List.drop_zero, List.drop_succ_cons, List.take_succ_cons, List.take_zero, List.getElem?_cons_zero, List.getElem?_cons_succ, List.set_cons_zero, List.set_cons_succ, Nat.reduceLeDiff, List.map_cons, List.map_nil, setPart_agg, setPart_one, symSet, symSetF, Nat.reduceLT, fillV, buildV, List.replicate_succ, List.replicate_zero, Nat.lt_add_one, and_self, if_true, PV.one, PV.isAgg, PV.cells, PV.okc, List.all_cons, List.all_nil, Bool.and_self, List.nil_append, List.append_nil, List.cons_append, Nat.zero_add, Nat.add_zero, true_and, and_true, Nat.reduceEqDiff, reduceIte, Nat.reduceAdd, e2, List.length_map, ← List.map_drop, Int.toNat_natCast, ← List.map_take, List.take_length]
    (repeat (first | refine And.intro (inR_i64.2 (by omega)) ?_ | refine And.intro (by omega) ?_))
    refine (IndexAny (hG.le hg) (b.drop (i + 1 + n)) _ _ 10 (.inr rfl) _ (by rw [List.length_drop]; omega)).go' ?_
    rintro r rfl
    simp only [symCode, symIts, symOp, symBind, symQ, symT, symVal, symLook, symSlice, symHeap, symStep, symRange, symRaw, symBsl, symClr, symClrH, symGb, junkG, Bool.false_eq_true, decide_true, decide_false, symRes, symFrz, symApp, symMap, symMapOp, bindO_some, Option.map_some, Option.bind_some, List.length_cons, List.length_nil, List.length_append, List.drop_zero, List.drop_succ_cons, List.take_succ_cons, List.take_zero, List.getElem?_cons_zero, List.getElem?_cons_succ, List.set_cons_zero, List.set_cons_succ, Nat.reduceLeDiff, List.map_cons, List.map_nil, setPart_agg, setPart_one, symSet, symSetF, Nat.reduceLT, fillV, buildV, List.replicate_succ, List.replicate_zero, Nat.lt_add_one, and_self, if_true, PV.one, PV.isAgg, PV.cells, PV.okc, List.all_cons, List.all_nil, Bool.and_self, List.nil_append, List.append_nil, List.cons_append, Nat.zero_add, Nat.add_zero, true_and, and_true, Nat.reduceEqDiff, reduceIte, Nat.reduceAdd]
    cases hy : idx (b.drop (i + 1 + n)) 10 with
    | none =>
      rw [hy] at hat
      have e4 : decide (idxI none < 0) = true := rfl
      simp only [symCode, symIts, symOp, symBind, symQ, symT, symVal, symLook, symSlice, symHeap, symStep, symRange, symRaw, symBsl, symClr, symClrH, symGb, junkG, Bool.false_eq_true, decide_true, decide_false, symRes, symFrz, symApp, symMap, symMapOp, bindO_some, Option.map_some, Option.bind_some, List.length_cons, List.length_nil, List.length_append, List.drop_zero, List.drop_succ_cons, List.take_succ_cons, List.take_zero, List.getElem?_cons_zero, List.getElem?_cons_succ, List.set_cons_zero, List.set_cons_succ, Nat.reduceLeDiff, List.map_cons, List.map_nil, setPart_agg, setPart_one, symSet, symSetF, Nat.reduceLT, fillV, buildV, List.replicate_succ, List.replicate_zero, Nat.lt_add_one, and_self, if_true, PV.one, PV.isAgg, PV.cells, PV.okc, List.all_cons, List.all_nil, Bool.and_self, List.nil_append, List.append_nil, List.cons_append, Nat.zero_add, Nat.add_zero, true_and, and_true, Nat.reduceEqDiff, reduceIte, Nat.reduceAdd, e4, Bool.not_true]
      refine ⟨(Ext.refl _).app _, rfl, ?_⟩
      rw [hat]; rfl
    | some m =>
      rw [hy] at hat
      have hml := idx_lt hy
      rw [List.length_drop] at hml
      have hn3 : i + 1 + n + m < b.length := by omega
      have e4 : decide (((m : Nat) : Int) < 0) = false := decide_eq_false (by omega)
      have e5 : ((i : Int) + 1 + (n : Int) + (m : Int)).toNat = i + 1 + n + m := by omega
      simp only [] at hat
      have e6 : idxI (some m) = ((m : Nat) : Int) := rfl
      rw [e6]
      simp only [symCode, symIts, symOp, symBind, symQ, symT, symVal, symLook, symSlice, symHeap, symStep, symRange, symRaw, symBsl, symClr, symClrH, symGb, junkG, Bool.false_eq_true, decide_true, decide_false, symRes, symFrz, symApp, symMap, symMapOp, bindO_some, Option.map_some, Option.bind_some, List.length_cons, List.length_nil, List.length_append, List.drop_zero, List.drop_succ_cons, List.take_succ_cons, List.take_zero, List.getElem?_cons_zero, List.getElem?_cons_succ, List.set_cons_zero, List.set_cons_succ, Nat.reduceLeDiff, List.map_cons, List.map_nil, setPart_agg, setPart_one, symSet, symSetF, Nat.reduceLT, fillV, buildV, List.replicate_succ, List.replicate_zero, Nat.lt_add_one, and_self, if_true, PV.one, PV.isAgg, PV.cells, PV.okc, List.all_cons, List.all_nil, Bool.and_self, List.nil_append, List.append_nil, List.cons_append, Nat.zero_add, Nat.add_zero, true_and, and_true, Nat.reduceEqDiff, reduceIte, Nat.reduceAdd, e4, e5, Bool.not_false, List.getElem?_map, List.getElem?_eq_getElem hn3, byteV]
      (repeat (first | refine And.intro (inR_i64.2 (by omega)) ?_ | refine And.intro (by omega) ?_))
      refine brC_mk (fun hc => ?_) (fun hc => ?_)
      · simp only [symCode, symIts, symOp, symBind, symQ, symT, symVal, symLook, symSlice, symHeap, symStep, symRange, symRaw, symBsl, symClr, symClrH, symGb, junkG, Bool.false_eq_true, decide_true, decide_false, symRes, symFrz, symApp, symMap, symMapOp, bindO_some, Option.map_some, Option.bind_some, List.length_cons, List.length_nil, List.length_append, List.drop_zero, List.drop_succ_cons, List.take_succ_cons, List.take_zero, List.getElem?_cons_zero, List.getElem?_cons_succ, List.set_cons_zero, List.set_cons_succ, Nat.reduceLeDiff, List.map_cons, List.map_nil, setPart_agg, setPart_one, symSet, symSetF, Nat.reduceLT, fillV, buildV, List.replicate_succ, List.replicate_zero, Nat.lt_add_one, and_self, if_true, PV.one, PV.isAgg, PV.cells, PV.okc, List.all_cons, List.all_nil, Bool.and_self, List.nil_append, List.append_nil, List.cons_append, Nat.zero_add, Nat.add_zero, true_and, and_true, Nat.reduceEqDiff, reduceIte, Nat.reduceAdd]
        refine ⟨(Ext.refl _).app _, rfl, ?_⟩
        have hne : ¬ b[i + 1 + n + m]? = some 36 := by
          rw [List.getElem?_eq_getElem hn3]
          intro e
          rw [Option.some.inj e] at hc
          simp at hc
        rw [hat, if_neg hne]; rfl
      · simp only [symCode, symIts, symOp, symBind, symQ, symT, symVal, symLook, symSlice, symHeap, symStep, symRange, symRaw, symBsl, symClr, symClrH, symGb, junkG, Bool.false_eq_true, decide_true, decide_false, symRes, symFrz, symApp, symMap, symMapOp, bindO_some, Option.map_some, Option.bind_some, List.length_cons, List.length_nil, List.length_append, List.drop_zero, List.drop_succ_cons, List.take_succ_cons, List.take_zero, List.getElem?_cons_zero, List.getElem?_cons_succ, List.set_cons_zero, List.set_cons_succ, Nat.reduceLeDiff, List.map_cons, List.map_nil, setPart_agg, setPart_one, symSet, symSetF, Nat.reduceLT, fillV, buildV, List.replicate_succ, List.replicate_zero, Nat.lt_add_one, and_self, if_true, PV.one, PV.isAgg, PV.cells, PV.okc, List.all_cons, List.all_nil, Bool.and_self, List.nil_append, List.append_nil, List.cons_append, Nat.zero_add, Nat.add_zero, true_and, and_true, Nat.reduceEqDiff, reduceIte, Nat.reduceAdd]
        (repeat (first | refine And.intro (inR_i64.2 (by omega)) ?_ | refine And.intro (by omega) ?_))
        refine ⟨(Ext.refl _).app _, rfl, ?_⟩
        have : b[i + 1 + n + m]? = some 36 := by
          rw [List.getElem?_eq_getElem hn3]
          have : (b[i + 1 + n + m].toNat : Int) = 36 := by simpa using hc
          congr 1
          exact UInt8.toNat_inj.1 (by rw [show (36 : UInt8).toNat = 36 from rfl]; omega)
        rw [hat, if_pos this]
        simp only [atV, occV]
        congr 3


theorem atP_last {b : Bs} {i : Nat} {names : List Bs} {o : Occ} (h : atP b i names = some o) : o.2.1 = i ∧ i < o.2.2 ∧ o.2.2 < b.length := by
  unfold atP at h
  split at h
  · cases h
  split at h
  · cases h
  rename_i n hn
  have := idx_lt hn
  rw [List.length_drop] at this
  split at h
  · cases h
  split at h
  · cases h; exact ⟨rfl, by simp; omega, by simp; omega⟩
  split at h
  · cases h
  rename_i m hm
  have := idx_lt hm
  rw [List.length_drop] at this
  split at h
  · cases h; exact ⟨rfl, by simp; omega, by simp; omega⟩
  · cases h

/-- The occurrences from a place on. -/
def occs (b : Bs) (names : List Bs) (i : Nat) : List Occ :=
  if _h : i < b.length then
    match atP b i names with
    | some o => o :: occs b names (max i o.2.2 + 1)
    | none => occs b names (i + 1)
  else []
termination_by b.length - i

theorem occs_end {b : Bs} {names : List Bs} {i : Nat} (h : ¬ i < b.length) : occs b names i = [] := by rw [occs, dif_neg h]
theorem occs_some {b : Bs} {names : List Bs} {i : Nat} {o : Occ} (h : atP b i names = some o) : occs b names i = o :: occs b names (o.2.2 + 1) := by
  obtain ⟨_, h1, h2⟩ := atP_last h
  rw [occs, dif_pos (by omega), h]
  simp only []
  rw [Nat.max_eq_right (by omega)]
theorem occs_none {b : Bs} {names : List Bs} {i : Nat} (hi : i < b.length) (h : atP b i names = none) : occs b names i = occs b names (i + 1) := by
  rw [occs, dif_pos hi, h]


theorem atP_name {b : Bs} {i : Nat} {names : List Bs} {o : Occ} (h : atP b i names = some o) : o.1 ∈ names ∧ o.1.length ≤ b.length := by
  unfold atP at h
  split at h
  · cases h
  split at h
  · cases h
  rename_i n hn
  split at h
  · cases h
  rename_i hany
  have hm : (b.drop (i + 1)).take n ∈ names := by
    have : (names.any fun y => decide ((b.drop (i + 1)).take n = y)) = true := by simpa using hany
    rw [List.any_eq_true] at this
    obtain ⟨y, hy, e⟩ := this
    rw [of_decide_eq_true e]; exact hy
  have hl : ((b.drop (i + 1)).take n).length ≤ b.length := by rw [List.length_take, List.length_drop]; omega
  split at h
  · cases h; exact ⟨hm, hl⟩
  split at h
  · cases h
  split at h
  · cases h; exact ⟨hm, hl⟩
  · cases h

theorem occs_mem {b : Bs} {names : List Bs} {o : Occ} : ∀ (m i : Nat), b.length - i ≤ m → o ∈ occs b names i → o.1 ∈ names ∧ o.1.length ≤ b.length
  | m, i, hm, h => by
    by_cases hlt : i < b.length
    · cases ho : atP b i names with
      | none =>
        rw [occs_none hlt ho] at h
        cases m with
        | zero => omega
        | succ m => exact occs_mem m (i + 1) (by omega) h
      | some o' =>
        rw [occs_some ho] at h
        obtain ⟨q1, q2, q3⟩ := atP_last ho
        rcases List.mem_cons.1 h with rfl | h
        · exact atP_name ho
        cases m with
        | zero => omega
        | succ m => exact occs_mem m (o'.2.2 + 1) (by omega) h
    · rw [occs_end hlt] at h; cases h

end Go.K10
