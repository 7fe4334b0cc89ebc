/- Contracts: copies and the sort of at most twelve texts. -/
import Derived.Test.YtppeejkegbjgdaaDoorKc
set_option linter.unusedSimpArgs false
set_option linter.unusedVariables false
namespace Go.K10
open Go Go.Avm Go.Proofs

/-- What follows from how the arguments lie may be taken for granted. -/
theorem when {P : Program} {g0 : Gh} {f : FuncId} {args : List PV} {h : AH} {Post : PV → AH → Prop} {C : Prop} (hC : ∀ g vs, VRels P g args vs → C) (hc : C → ACalls P g0 f args h Post) : ACalls P g0 f args h Post :=
  fun E g w cargs hg hI hr => hc (hC g cargs hr) E g w cargs hg hI hr

theorem nl_of {P : Program} {g : Gh} {sz : Nat} {xs l : List PV} {f n : Bool} {vs : List Go.Value} (h : VRels P g (.sl sz xs f n :: l) vs) : n = true → xs = [] := by
  rintro rfl
  obtain ⟨hl, h⟩ := h
  match vs, hl with
  | v :: vs, _ =>
    have := h 0 _ v rfl rfl
    cases this with
    | slnil => rfl

/-- An own slice of texts, or an empty one. -/
def OwnS (h0 : AH) (r : PV) (h : AH) (xs : List Bs) : Prop :=
  (xs = [] ∧ h = h0 ∧ ∃ f n, r = .sl 1 [] f n) ∨ (h = h0 ++ [.arr 1 (xs.map .str) true] ∧ r = .asl h0.length 1 0 xs.length)

theorem Clone {g0 : Gh} (xs : List Bs) (f n : Bool) (h : AH) (hl : xs.length < 1000000000) :
    ACalls Tryd.prog g0 37 [.sl 1 (xs.map .str) f n] h fun r h' => OwnS h r h' xs := by
  refine when (fun g vs hr => nl_of hr) fun hn => ACalls.res (acalls_W F37_ok rfl fun g1 hg => ?_)
  simp only [F37, symCode, symIts, symOp, symBind, symQ, symT, symVal, symLook, symSlice, symHeap, symStep, symRange, symBsl, symClr, symClrH, symGb, junkG, Bool.false_eq_true, symRes, symFrz, symApp, symMap, symMapOp, bindO_some, Option.map_some, Option.bind_some, List.length_cons, List.length_nil, List.length_append, List.drop_zero, List.drop_succ_cons, List.take_succ_cons, List.take_zero, List.getElem?_cons_zero, List.getElem?_cons_succ, List.set_cons_zero, List.set_cons_succ, Nat.reduceLeDiff, List.map_cons, List.map_nil, setPart_agg, setPart_one, symSet, symSetF, Nat.reduceLT, fillV, buildV, List.replicate_succ, List.replicate_zero, Nat.lt_add_one, and_self, if_true, PV.one, PV.isAgg, PV.cells, PV.okc, List.all_cons, List.all_nil, Bool.and_self, List.nil_append, List.append_nil, List.cons_append, Nat.zero_add, Nat.add_zero, true_and, and_true, Nat.reduceEqDiff, reduceIte, Nat.reduceAdd, isNilV]
  refine brC_mk (fun hc => ?_) (fun hc => ?_)
  · have h0 : xs = [] := by simpa using hn (by simpa using hc)
    subst h0
    simp only [symCode, symIts, symOp, symBind, symQ, symT, symVal, symLook, symSlice, symHeap, symStep, symRange, symBsl, symClr, symClrH, symGb, junkG, Bool.false_eq_true, symRes, symFrz, symApp, symMap, symMapOp, bindO_some, Option.map_some, Option.bind_some, List.length_cons, List.length_nil, List.length_append, List.drop_zero, List.drop_succ_cons, List.take_succ_cons, List.take_zero, List.getElem?_cons_zero, List.getElem?_cons_succ, List.set_cons_zero, List.set_cons_succ, Nat.reduceLeDiff, List.map_cons, List.map_nil, setPart_agg, setPart_one, symSet, symSetF, Nat.reduceLT, fillV, buildV, List.replicate_succ, List.replicate_zero, Nat.lt_add_one, and_self, if_true, PV.one, PV.isAgg, PV.cells, PV.okc, List.all_cons, List.all_nil, Bool.and_self, List.nil_append, List.append_nil, List.cons_append, Nat.zero_add, Nat.add_zero, true_and, and_true, Nat.reduceEqDiff, reduceIte, Nat.reduceAdd]
    exact ⟨_, Sim.sl_nil 0 1 _ _, .inl ⟨rfl, rfl, _, _, rfl⟩⟩
  · simp only [symCode, symIts, symOp, symBind, symQ, symT, symVal, symLook, symSlice, symHeap, symStep, symRange, symBsl, symClr, symClrH, symGb, junkG, Bool.false_eq_true, symRes, symFrz, symApp, symMap, symMapOp, bindO_some, Option.map_some, Option.bind_some, List.length_cons, List.length_nil, List.length_append, List.drop_zero, List.drop_succ_cons, List.take_succ_cons, List.take_zero, List.getElem?_cons_zero, List.getElem?_cons_succ, List.set_cons_zero, List.set_cons_succ, Nat.reduceLeDiff, List.map_cons, List.map_nil, setPart_agg, setPart_one, symSet, symSetF, Nat.reduceLT, fillV, buildV, List.replicate_succ, List.replicate_zero, Nat.lt_add_one, and_self, if_true, PV.one, PV.isAgg, PV.cells, PV.okc, List.all_cons, List.all_nil, Bool.and_self, List.nil_append, List.append_nil, List.cons_append, Nat.zero_add, Nat.add_zero, true_and, and_true, Nat.reduceEqDiff, reduceIte, Nat.reduceAdd]
    refine appH_sl (.inl rfl) (fun e => ?_) (fun e => ?_)
    · have h0 : xs = [] := by simpa using e
      subst h0
      simp only [symCode, symIts, symOp, symBind, symQ, symT, symVal, symLook, symSlice, symHeap, symStep, symRange, symBsl, symClr, symClrH, symGb, junkG, Bool.false_eq_true, symRes, symFrz, symApp, symMap, symMapOp, bindO_some, Option.map_some, Option.bind_some, List.length_cons, List.length_nil, List.length_append, List.drop_zero, List.drop_succ_cons, List.take_succ_cons, List.take_zero, List.getElem?_cons_zero, List.getElem?_cons_succ, List.set_cons_zero, List.set_cons_succ, Nat.reduceLeDiff, List.map_cons, List.map_nil, setPart_agg, setPart_one, symSet, symSetF, Nat.reduceLT, fillV, buildV, List.replicate_succ, List.replicate_zero, Nat.lt_add_one, and_self, if_true, PV.one, PV.isAgg, PV.cells, PV.okc, List.all_cons, List.all_nil, Bool.and_self, List.nil_append, List.append_nil, List.cons_append, Nat.zero_add, Nat.add_zero, true_and, and_true, Nat.reduceEqDiff, reduceIte, Nat.reduceAdd]
      exact ⟨_, Sim.refl _, .inl ⟨rfl, rfl, _, _, rfl⟩⟩
    · refine ⟨⟨by simp; omega, by simp; omega⟩, ?_⟩
      simp only [symCode, symIts, symOp, symBind, symQ, symT, symVal, symLook, symSlice, symHeap, symStep, symRange, symBsl, symClr, symClrH, symGb, junkG, Bool.false_eq_true, symRes, symFrz, symApp, symMap, symMapOp, bindO_some, Option.map_some, Option.bind_some, List.length_cons, List.length_nil, List.length_append, List.drop_zero, List.drop_succ_cons, List.take_succ_cons, List.take_zero, List.getElem?_cons_zero, List.getElem?_cons_succ, List.set_cons_zero, List.set_cons_succ, Nat.reduceLeDiff, List.map_cons, List.map_nil, setPart_agg, setPart_one, symSet, symSetF, Nat.reduceLT, fillV, buildV, List.replicate_succ, List.replicate_zero, Nat.lt_add_one, and_self, if_true, PV.one, PV.isAgg, PV.cells, PV.okc, List.all_cons, List.all_nil, Bool.and_self, List.nil_append, List.append_nil, List.cons_append, Nat.zero_add, Nat.add_zero, true_and, and_true, Nat.reduceEqDiff, reduceIte, Nat.reduceAdd, List.length_map]
      exact ⟨_, Sim.refl _, .inr ⟨rfl, by simp⟩⟩

theorem isNaN {g0 : Gh} (x : Bs) (h : AH) : ACalls Tryd.prog g0 91 [.str x] h fun r h' => h' = h ∧ r = .bool false := by
  refine acalls_E F91_ok rfl fun g1 hg => ?_
  simp only [F91, symCode, symIts, symOp, symBind, symQ, symT, symVal, symLook, symSlice, symHeap, symStep, symRange, symBsl, symClr, symClrH, symGb, junkG, Bool.false_eq_true, symRes, symFrz, symApp, symMap, symMapOp, bindO_some, Option.map_some, Option.bind_some, List.length_cons, List.length_nil, List.length_append, List.drop_zero, List.drop_succ_cons, List.take_succ_cons, List.take_zero, List.getElem?_cons_zero, List.getElem?_cons_succ, List.set_cons_zero, List.set_cons_succ, Nat.reduceLeDiff, List.map_cons, List.map_nil, setPart_agg, setPart_one, symSet, symSetF, Nat.reduceLT, fillV, buildV, List.replicate_succ, List.replicate_zero, Nat.lt_add_one, and_self, if_true, PV.one, PV.isAgg, PV.cells, PV.okc, List.all_cons, List.all_nil, Bool.and_self, List.nil_append, List.append_nil, List.cons_append, Nat.zero_add, Nat.add_zero, true_and, and_true, Nat.reduceEqDiff, reduceIte, Nat.reduceAdd]
  exact ⟨Ext.refl _, rfl, by simp⟩

theorem Less {g0 : Gh} (x y : Bs) (h : AH) : ACalls Tryd.prog g0 64 [.str x, .str y] h fun r h' => h' = h ∧ r = .bool (Go.Avm.bytesLess x y) := by
  refine acalls_E F64_ok rfl fun g1 hg => ?_
  simp only [F64, symCode, symIts, symOp, symBind, symQ, symT, symVal, symLook, symSlice, symHeap, symStep, symRange, symBsl, symClr, symClrH, symGb, junkG, Bool.false_eq_true, symRes, symFrz, symApp, symMap, symMapOp, bindO_some, Option.map_some, Option.bind_some, List.length_cons, List.length_nil, List.length_append, List.drop_zero, List.drop_succ_cons, List.take_succ_cons, List.take_zero, List.getElem?_cons_zero, List.getElem?_cons_succ, List.set_cons_zero, List.set_cons_succ, Nat.reduceLeDiff, List.map_cons, List.map_nil, setPart_agg, setPart_one, symSet, symSetF, Nat.reduceLT, fillV, buildV, List.replicate_succ, List.replicate_zero, Nat.lt_add_one, and_self, if_true, PV.one, PV.isAgg, PV.cells, PV.okc, List.all_cons, List.all_nil, Bool.and_self, List.nil_append, List.append_nil, List.cons_append, Nat.zero_add, Nat.add_zero, true_and, and_true, Nat.reduceEqDiff, reduceIte, Nat.reduceAdd]
  refine (isNaN x h).go' ?_
  rintro r rfl
  simp only [symCode, symIts, symOp, symBind, symQ, symT, symVal, symLook, symSlice, symHeap, symStep, symRange, symBsl, symClr, symClrH, symGb, junkG, Bool.false_eq_true, symRes, symFrz, symApp, symMap, symMapOp, bindO_some, Option.map_some, Option.bind_some, List.length_cons, List.length_nil, List.length_append, List.drop_zero, List.drop_succ_cons, List.take_succ_cons, List.take_zero, List.getElem?_cons_zero, List.getElem?_cons_succ, List.set_cons_zero, List.set_cons_succ, Nat.reduceLeDiff, List.map_cons, List.map_nil, setPart_agg, setPart_one, symSet, symSetF, Nat.reduceLT, fillV, buildV, List.replicate_succ, List.replicate_zero, Nat.lt_add_one, and_self, if_true, PV.one, PV.isAgg, PV.cells, PV.okc, List.all_cons, List.all_nil, Bool.and_self, List.nil_append, List.append_nil, List.cons_append, Nat.zero_add, Nat.add_zero, true_and, and_true, Nat.reduceEqDiff, reduceIte, Nat.reduceAdd, Bool.not_false]
  exact ⟨Ext.refl _, rfl⟩

set_option maxRecDepth 100000 in
theorem Len64 {g0 : Gh} (n : Nat) (h : AH) (hn : n ≤ 12) : ACalls Tryd.prog g0 68 [.int .u64 n] h fun r h' => h' = h ∧ ∃ m : Int, r = .int .i64 m := by
  refine acalls_E F68_ok rfl fun g1 hg => ?_
  have e1 : decide (4294967296 ≤ (n : Int)) = false := by simp; omega
  have e2 : decide (65536 ≤ (n : Int)) = false := by simp; omega
  have e3 : decide (256 ≤ (n : Int)) = false := by simp; omega
  have e4 : IntKind.wrap .u8 (n : Int) = n := by
    have : n = 0 ∨ n = 1 ∨ n = 2 ∨ n = 3 ∨ n = 4 ∨ n = 5 ∨ n = 6 ∨ n = 7 ∨ n = 8 ∨ n = 9 ∨ n = 10 ∨ n = 11 ∨ n = 12 := by omega
    rcases this with rfl | rfl | rfl | rfl | rfl | rfl | rfl | rfl | rfl | rfl | rfl | rfl | rfl <;> rfl
  simp only [F68, symCode, symIts, symOp, symBind, symQ, symT, symVal, symLook, symSlice, symHeap, symStep, symRange, symBsl, symClr, symClrH, symGb, junkG, Bool.false_eq_true, symRes, symFrz, symApp, symMap, symMapOp, bindO_some, Option.map_some, Option.bind_some, List.length_cons, List.length_nil, List.length_append, List.drop_zero, List.drop_succ_cons, List.take_succ_cons, List.take_zero, List.getElem?_cons_zero, List.getElem?_cons_succ, List.set_cons_zero, List.set_cons_succ, Nat.reduceLeDiff, List.map_cons, List.map_nil, setPart_agg, setPart_one, symSet, symSetF, Nat.reduceLT, fillV, buildV, List.replicate_succ, List.replicate_zero, Nat.lt_add_one, and_self, if_true, PV.one, PV.isAgg, PV.cells, PV.okc, List.all_cons, List.all_nil, Bool.and_self, List.nil_append, List.append_nil, List.cons_append, Nat.zero_add, Nat.add_zero, true_and, and_true, Nat.reduceEqDiff, reduceIte, Nat.reduceAdd, e1, e2, e3, e4]
  refine ⟨by omega, ?_⟩
  rw [Int.toNat_natCast, List.getElem?_eq_getElem (show n < 256 by omega)]
  have e5 : ∀ b : UInt8, IntKind.wrap .i64 (b.toNat : Int) = b.toNat := fun b => by
    have hbl := b.toNat_lt
    exact IntWalk.i64_in _ (by omega)
  have e6 : ∀ b : UInt8, inR .i64 (0 + (b.toNat : Int)) := fun b => by
    have hbl := b.toNat_lt
    exact inR_i64.2 (by omega)
  simp only [symCode, symIts, symOp, symBind, symQ, symT, symVal, symLook, symSlice, symHeap, symStep, symRange, symBsl, symClr, symClrH, symGb, junkG, Bool.false_eq_true, symRes, symFrz, symApp, symMap, symMapOp, bindO_some, Option.map_some, Option.bind_some, List.length_cons, List.length_nil, List.length_append, List.drop_zero, List.drop_succ_cons, List.take_succ_cons, List.take_zero, List.getElem?_cons_zero, List.getElem?_cons_succ, List.set_cons_zero, List.set_cons_succ, Nat.reduceLeDiff, List.map_cons, List.map_nil, setPart_agg, setPart_one, symSet, symSetF, Nat.reduceLT, fillV, buildV, List.replicate_succ, List.replicate_zero, Nat.lt_add_one, and_self, if_true, PV.one, PV.isAgg, PV.cells, PV.okc, List.all_cons, List.all_nil, Bool.and_self, List.nil_append, List.append_nil, List.cons_append, Nat.zero_add, Nat.add_zero, true_and, and_true, Nat.reduceEqDiff, reduceIte, Nat.reduceAdd, byteV, e5]
  exact ⟨e6 _, Ext.refl _, rfl, _, rfl⟩

theorem Len {g0 : Gh} (n : Nat) (h : AH) (hn : n ≤ 12) : ACalls Tryd.prog g0 50 [.int .u64 n] h fun r h' => h' = h ∧ ∃ m : Int, r = .int .i64 m := by
  refine acalls_E F50_ok rfl fun g1 hg => ?_
  simp only [F50, symCode, symIts, symOp, symBind, symQ, symT, symVal, symLook, symSlice, symHeap, symStep, symRange, symBsl, symClr, symClrH, symGb, junkG, Bool.false_eq_true, symRes, symFrz, symApp, symMap, symMapOp, bindO_some, Option.map_some, Option.bind_some, List.length_cons, List.length_nil, List.length_append, List.drop_zero, List.drop_succ_cons, List.take_succ_cons, List.take_zero, List.getElem?_cons_zero, List.getElem?_cons_succ, List.set_cons_zero, List.set_cons_succ, Nat.reduceLeDiff, List.map_cons, List.map_nil, setPart_agg, setPart_one, symSet, symSetF, Nat.reduceLT, fillV, buildV, List.replicate_succ, List.replicate_zero, Nat.lt_add_one, and_self, if_true, PV.one, PV.isAgg, PV.cells, PV.okc, List.all_cons, List.all_nil, Bool.and_self, List.nil_append, List.append_nil, List.cons_append, Nat.zero_add, Nat.add_zero, true_and, and_true, Nat.reduceEqDiff, reduceIte, Nat.reduceAdd]
  refine (Len64 n h hn).go' ?_
  rintro r ⟨m, rfl⟩
  simp only [symCode, symIts, symOp, symBind, symQ, symT, symVal, symLook, symSlice, symHeap, symStep, symRange, symBsl, symClr, symClrH, symGb, junkG, Bool.false_eq_true, symRes, symFrz, symApp, symMap, symMapOp, bindO_some, Option.map_some, Option.bind_some, List.length_cons, List.length_nil, List.length_append, List.drop_zero, List.drop_succ_cons, List.take_succ_cons, List.take_zero, List.getElem?_cons_zero, List.getElem?_cons_succ, List.set_cons_zero, List.set_cons_succ, Nat.reduceLeDiff, List.map_cons, List.map_nil, setPart_agg, setPart_one, symSet, symSetF, Nat.reduceLT, fillV, buildV, List.replicate_succ, List.replicate_zero, Nat.lt_add_one, and_self, if_true, PV.one, PV.isAgg, PV.cells, PV.okc, List.all_cons, List.all_nil, Bool.and_self, List.nil_append, List.append_nil, List.cons_append, Nat.zero_add, Nat.add_zero, true_and, and_true, Nat.reduceEqDiff, reduceIte, Nat.reduceAdd]
  exact ⟨Ext.refl _, rfl, _, rfl⟩

end Go.K10
