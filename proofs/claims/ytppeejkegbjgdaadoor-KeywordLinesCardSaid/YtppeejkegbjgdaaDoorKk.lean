/- Contracts: Find. -/
import Derived.Test.YtppeejkegbjgdaaDoorKj
import Derived.Test.YtppeejkegbjgdaaDoorVd
set_option linter.unusedSimpArgs false
set_option linter.unusedVariables false
namespace Go.K10
open Go Go.Avm Go.Proofs

/-- While occurrences are gone through: the list that is gathered. -/
def FindI (h0 : AH) (xs : List (Nat × Nat)) (k : Nat) (h : AH) : Prop :=
  h0.length + 2 ≤ h.length ∧ (∀ i, i < h0.length → h[i]? = h0[i]?) ∧ h[h0.length + 1]? = some (.loop .ready none) ∧ ∃ v, h[h0.length]? = some (.arr 1 [v] true) ∧ Own (h0.length + 2) h v 2 ((xs.take k).map rngV)

theorem Find {g0 : Gh} (hG : Glob g0) (b : Bs) (names : List Bs) (f1 n1 f2 n2 : Bool) (h : AH) (hl : b.length < 1000000000) (hn : names.length ≤ 12) (hs : ∀ x ∈ names, x.length < 1000000000000) (hx : (occs b names 0).length < 1000000000) :
    ACalls Tryd.prog g0 17 [.sl 1 (b.map byteV) f1 n1, .sl 1 (names.map .str) f2 n2] h fun r h' => h' = h ∧
      ((namesOk names = false ∧ r = .tuple [.sl 2 [] true true, .int .i64 100]) ∨ (namesOk names = true ∧ ∃ f n, r = .tuple [.sl 2 (((occs b names 0).map (·.2)).map rngV) f n, .int .i64 0])) := by
  refine acalls_ES F17_ok rfl fun g1 hg => ?_
  simp only [F17, symCode, symIts, symOp, symBind, symQ, symT, symVal, symLook, symSlice, symHeap, symStep, symRange, symRaw, symBsl, symClr, symClrH, symGb, junkG, Bool.false_eq_true, decide_true, decide_false, symRes, symFrz, symApp, symMap, symMapOp, bindO_some, Option.map_some, Option.bind_some, List.length_cons, List.length_nil, List.length_append, List.drop_zero, List.drop_succ_cons, List.take_succ_cons, List.take_zero, List.getElem?_cons_zero, List.getElem?_cons_succ, List.set_cons_zero, List.set_cons_succ, Nat.reduceLeDiff, List.map_cons, List.map_nil, setPart_agg, setPart_one, symSet, symSetF, Nat.reduceLT, fillV, buildV, List.replicate_succ, List.replicate_zero, Nat.lt_add_one, and_self, if_true, PV.one, PV.isAgg, PV.cells, PV.okc, List.all_cons, List.all_nil, Bool.and_self, List.nil_append, List.append_nil, List.cons_append, Nat.zero_add, Nat.add_zero, true_and, and_true, Nat.reduceEqDiff, reduceIte, Nat.reduceAdd]
  refine (are names f2 n2 h hn hs).go' ?_
  rintro r rfl
  simp only [symCode, symIts, symOp, symBind, symQ, symT, symVal, symLook, symSlice, symHeap, symStep, symRange, symRaw, symBsl, symClr, symClrH, symGb, junkG, Bool.false_eq_true, decide_true, decide_false, symRes, symFrz, symApp, symMap, symMapOp, bindO_some, Option.map_some, Option.bind_some, List.length_cons, List.length_nil, List.length_append, List.drop_zero, List.drop_succ_cons, List.take_succ_cons, List.take_zero, List.getElem?_cons_zero, List.getElem?_cons_succ, List.set_cons_zero, List.set_cons_succ, Nat.reduceLeDiff, List.map_cons, List.map_nil, setPart_agg, setPart_one, symSet, symSetF, Nat.reduceLT, fillV, buildV, List.replicate_succ, List.replicate_zero, Nat.lt_add_one, and_self, if_true, PV.one, PV.isAgg, PV.cells, PV.okc, List.all_cons, List.all_nil, Bool.and_self, List.nil_append, List.append_nil, List.cons_append, Nat.zero_add, Nat.add_zero, true_and, and_true, Nat.reduceEqDiff, reduceIte, Nat.reduceAdd]
  refine brC_mk (fun hc => ?_) (fun hc => ?_)
  · simp only [symCode, symIts, symOp, symBind, symQ, symT, symVal, symLook, symSlice, symHeap, symStep, symRange, symRaw, symBsl, symClr, symClrH, symGb, junkG, Bool.false_eq_true, decide_true, decide_false, symRes, symFrz, symApp, symMap, symMapOp, bindO_some, Option.map_some, Option.bind_some, List.length_cons, List.length_nil, List.length_append, List.drop_zero, List.drop_succ_cons, List.take_succ_cons, List.take_zero, List.getElem?_cons_zero, List.getElem?_cons_succ, List.set_cons_zero, List.set_cons_succ, Nat.reduceLeDiff, List.map_cons, List.map_nil, setPart_agg, setPart_one, symSet, symSetF, Nat.reduceLT, fillV, buildV, List.replicate_succ, List.replicate_zero, Nat.lt_add_one, and_self, if_true, PV.one, PV.isAgg, PV.cells, PV.okc, List.all_cons, List.all_nil, Bool.and_self, List.nil_append, List.append_nil, List.cons_append, Nat.zero_add, Nat.add_zero, true_and, and_true, Nat.reduceEqDiff, reduceIte, Nat.reduceAdd]
    exact ⟨Ext.refl _, rfl, _, Sim.tuple2 (Sim.sl_nil _ _ _ _) (Sim.refl _), .inl ⟨by simpa using hc, rfl⟩⟩
  simp only [symCode, symIts, symOp, symBind, symQ, symT, symVal, symLook, symSlice, symHeap, symStep, symRange, symRaw, symBsl, symClr, symClrH, symGb, junkG, Bool.false_eq_true, decide_true, decide_false, symRes, symFrz, symApp, symMap, symMapOp, bindO_some, Option.map_some, Option.bind_some, List.length_cons, List.length_nil, List.length_append, List.drop_zero, List.drop_succ_cons, List.take_succ_cons, List.take_zero, List.getElem?_cons_zero, List.getElem?_cons_succ, List.set_cons_zero, List.set_cons_succ, Nat.reduceLeDiff, List.map_cons, List.map_nil, setPart_agg, setPart_one, symSet, symSetF, Nat.reduceLT, fillV, buildV, List.replicate_succ, List.replicate_zero, Nat.lt_add_one, and_self, if_true, PV.one, PV.isAgg, PV.cells, PV.okc, List.all_cons, List.all_nil, Bool.and_self, List.nil_append, List.append_nil, List.cons_append, Nat.zero_add, Nat.add_zero, true_and, and_true, Nat.reduceEqDiff, reduceIte, Nat.reduceAdd]
  refine (all_ b names f1 n1 f2 n2 _).go' ?_
  rintro r rfl
  simp only [symCode, symIts, symOp, symBind, symQ, symT, symVal, symLook, symSlice, symHeap, symStep, symRange, symRaw, symBsl, symClr, symClrH, symGb, junkG, Bool.false_eq_true, decide_true, decide_false, symRes, symFrz, symApp, symMap, symMapOp, bindO_some, Option.map_some, Option.bind_some, List.length_cons, List.length_nil, List.length_append, List.drop_zero, List.drop_succ_cons, List.take_succ_cons, List.take_zero, List.getElem?_cons_zero, List.getElem?_cons_succ, List.set_cons_zero, List.set_cons_succ, Nat.reduceLeDiff, List.map_cons, List.map_nil, setPart_agg, setPart_one, symSet, symSetF, Nat.reduceLT, fillV, buildV, List.replicate_succ, List.replicate_zero, Nat.lt_add_one, and_self, if_true, PV.one, PV.isAgg, PV.cells, PV.okc, List.all_cons, List.all_nil, Bool.and_self, List.nil_append, List.append_nil, List.cons_append, Nat.zero_add, Nat.add_zero, true_and, and_true, Nat.reduceEqDiff, reduceIte, Nat.reduceAdd]
  refine vc_rfun rfl fun g2 hg2 hyield => ?_
  simp only [List.length_append, List.length_cons, List.length_nil, Nat.zero_add, List.append_assoc, List.cons_append, List.nil_append] at hyield ⊢
  have hlen2 : ((occs b names 0).map (·.2)).length = (occs b names 0).length := by simp
  refine (all1 ((hG.le hg).le hg2) b names f1 n1 f2 n2 (by omega) (by omega) (FindI h ((occs b names 0).map (·.2))) _ _ ?_ ?_ ?_).mono ?_
  · -- more memory
    rintro k h' x ⟨i1, i2, i3, v, i4, i5⟩
    refine ⟨by simp; omega, fun i hi => by rw [List.getElem?_append_left (by omega)]; exact i2 i hi, getElem?_app i3, v, getElem?_app i4, i5.keep fun id hid => List.getElem?_append_left (i5.lt hid).2⟩
  · -- a round
    rintro g3 k h' o x hg3 ⟨i1, i2, i3, v, i4, i5⟩ ho
    have hkl : k < (occs b names 0).length := (List.getElem?_eq_some_iff.1 ho).1
    have hlt5 := fun id hid => (i5.lt (id := id) hid)
    refine (hyield [occV o] (h' ++ [x]) _ rfl (getElem?_app i3) fun g4 hg4 => ?_).later hg3
    simp only [symCode, symIts, symOp, symBind, symQ, symT, symVal, symLook, symSlice, symHeap, symStep, symRange, symRaw, symBsl, symClr, symClrH, symGb, junkG, Bool.false_eq_true, decide_true, decide_false, symRes, symFrz, symApp, symMap, symMapOp, bindO_some, Option.map_some, Option.bind_some, List.length_cons, List.length_nil, List.length_append, List.drop_zero, List.drop_succ_cons, List.take_succ_cons, List.take_zero, List.getElem?_cons_zero, List.getElem?_cons_succ, List.set_cons_zero, List.set_cons_succ, Nat.reduceLeDiff, List.map_cons, List.map_nil, setPart_agg, setPart_one, symSet, symSetF, Nat.reduceLT, fillV, buildV, List.replicate_succ, List.replicate_zero, Nat.lt_add_one, and_self, if_true, PV.one, PV.isAgg, PV.cells, PV.okc, List.all_cons, List.all_nil, Bool.and_self, List.nil_append, List.append_nil, List.cons_append, Nat.zero_add, Nat.add_zero, true_and, and_true, Nat.reduceEqDiff, reduceIte, Nat.reduceAdd, occV, symWo]
    have hL : ∀ l, (h' ++ l)[h.length + 1]? = some (.loop .ready none) := fun l => getElem?_app i3
    have hset : ∀ l o, (h' ++ l).set (h.length + 1) o = h'.set (h.length + 1) o ++ l := fun l o => by rw [List.set_append_left _ _ (by omega)]
    have hB : ∀ l o, (h'.set (h.length + 1) o ++ l)[h.length]? = some (.arr 1 [v] true) := fun l o => getElem?_app (by rw [List.getElem?_set_ne (by omega)]; exact i4)
    have hO : ∀ x y o, (h'.set (h.length + 1) o ++ [x, y])[h'.length + 1]? = some y := fun x y o => by rw [List.getElem?_append_right (by simp)]; simp
    have hv1 : partV v 0 1 false = some v := by
      rcases i5 with ⟨_, sz', rfl⟩ | ⟨id', _, _, rfl⟩ <;> rfl
    simp only [symCode, symIts, symOp, symBind, symQ, symT, symVal, symLook, symSlice, symHeap, symStep, symRange, symRaw, symBsl, symClr, symClrH, symGb, junkG, Bool.false_eq_true, decide_true, decide_false, symRes, symFrz, symApp, symMap, symMapOp, bindO_some, Option.map_some, Option.bind_some, List.length_cons, List.length_nil, List.length_append, List.drop_zero, List.drop_succ_cons, List.take_succ_cons, List.take_zero, List.getElem?_cons_zero, List.getElem?_cons_succ, List.set_cons_zero, List.set_cons_succ, Nat.reduceLeDiff, List.map_cons, List.map_nil, setPart_agg, setPart_one, symSet, symSetF, Nat.reduceLT, fillV, buildV, List.replicate_succ, List.replicate_zero, Nat.lt_add_one, and_self, if_true, PV.one, PV.isAgg, PV.cells, PV.okc, List.all_cons, List.all_nil, Bool.and_self, List.nil_append, List.append_nil, List.cons_append, Nat.zero_add, Nat.add_zero, true_and, and_true, Nat.reduceEqDiff, reduceIte, Nat.reduceAdd, hL, hset, hB, hO, hv1]
    have hown : Own (h.length + 2) (h'.set (h.length + 1) (.loop .busy none) ++ [x, .arr 3 [.agg [.str o.1, .int .i64 o.2.1, .int .i64 o.2.2]] true]) v 2 ((((occs b names 0).map (·.2)).take k).map rngV) :=
      i5.keep fun id hid => by
        have := hlt5 id hid
        rw [List.getElem?_append_left (by simp; omega), List.getElem?_set_ne (by omega)]
    refine hown.app (by simp; omega) ⟨by simp; omega, by simp; omega⟩ fun v' h2 ha hl2 hkp _ => ?_
    simp only [List.length_append, List.length_set, List.length_cons, List.length_nil] at hl2 hkp
    have hB2 : h2[h.length]? = some (.arr 1 [v] true) := by
      rw [hkp _ (by omega) (fun e => by have := hlt5 _ e; omega)]
      exact hB _ _
    have hL2 : h2[h.length + 1]? = some (.loop .busy none) := by
      rw [hkp _ (by omega) (fun e => by have := hlt5 _ e; omega), List.getElem?_append_left (by simp; omega), List.getElem?_set_self (by omega)]
    have hX2 : h2[h'.length]? = some x := by
      rw [hkp _ (by omega) (fun e => by have := hlt5 _ e; omega), List.getElem?_append_right (by simp)]
      simp
    have hsp : setPart v 0 1 v' = some v' := setPart_cell _ _ i5.one.2 ha.one.2 ha.one.1
    have hlt6 := fun id hid => (ha.lt (id := id) hid)
    simp only [symCode, symIts, symOp, symBind, symQ, symT, symVal, symLook, symSlice, symHeap, symStep, symRange, symRaw, symBsl, symClr, symClrH, symGb, junkG, Bool.false_eq_true, decide_true, decide_false, symRes, symFrz, symApp, symMap, symMapOp, bindO_some, Option.map_some, Option.bind_some, List.length_cons, List.length_nil, List.length_append, List.drop_zero, List.drop_succ_cons, List.take_succ_cons, List.take_zero, List.getElem?_cons_zero, List.getElem?_cons_succ, List.set_cons_zero, List.set_cons_succ, Nat.reduceLeDiff, List.map_cons, List.map_nil, setPart_agg, setPart_one, symSet, symSetF, Nat.reduceLT, fillV, buildV, List.replicate_succ, List.replicate_zero, Nat.lt_add_one, and_self, if_true, PV.one, PV.isAgg, PV.cells, PV.okc, List.all_cons, List.all_nil, Bool.and_self, List.nil_append, List.append_nil, List.cons_append, Nat.zero_add, Nat.add_zero, true_and, and_true, Nat.reduceEqDiff, reduceIte, Nat.reduceAdd, hB2, hsp, symRound]
    refine ⟨by rw [List.getElem?_set_ne (by omega)]; exact hL2, ⟨by simp; omega, fun i hi => ?_, by rw [List.getElem?_set_self (by simp; omega)], v', ?_, ?_⟩, ?_⟩
    · rw [List.getElem?_set_ne (by omega), List.getElem?_set_ne (by omega), hkp _ (by omega) (fun e => by have := hlt5 _ e; omega), List.getElem?_append_left (by simp; omega), List.getElem?_set_ne (by omega)]
      exact i2 i hi
    · rw [List.getElem?_set_ne (by omega), List.getElem?_set_self (by omega)]
    · have : ((occs b names 0).map (·.2)).take (k + 1) = ((occs b names 0).map (·.2)).take k ++ [o.2] := by
        rw [take_snoc (by omega)]
        congr 2
        have := (List.getElem?_eq_some_iff.1 ho).2
        simp [this]
      rw [this, List.map_append]
      refine Own.keep ha fun id hid => ?_
      have := hlt6 id hid
      rw [List.getElem?_set_ne (by omega), List.getElem?_set_ne (by omega)]
    · rw [List.getElem?_set_ne (by omega), List.getElem?_set_ne (by omega)]
      exact hX2
  · -- ahead of the first one
    refine ⟨by simp, fun i hi => by rw [List.getElem?_append_left hi], by simp, .sl 0 [] true true, by simp, .inl ⟨by simp, 0, rfl⟩⟩
  · -- behind the last one
    rintro r h' ⟨rfl, i1, i2, i3, v, i4, i5⟩
    refine rfunQ_ready i3 ?_
    have hv1 : partV v 0 1 false = some v := by
      rcases i5 with ⟨_, sz', rfl⟩ | ⟨id', _, _, rfl⟩ <;> rfl
    have hB : (h'.set (h.length + 1) .dead)[h.length]? = some (.arr 1 [v] true) := by rw [List.getElem?_set_ne (by omega)]; exact i4
    simp only [symCode, symIts, symOp, symBind, symQ, symT, symVal, symLook, symSlice, symHeap, symStep, symRange, symRaw, symBsl, symClr, symClrH, symGb, junkG, Bool.false_eq_true, decide_true, decide_false, symRes, symFrz, symApp, symMap, symMapOp, bindO_some, Option.map_some, Option.bind_some, List.length_cons, List.length_nil, List.length_append, List.drop_zero, List.drop_succ_cons, List.take_succ_cons, List.take_zero, List.getElem?_cons_zero, List.getElem?_cons_succ, List.set_cons_zero, List.set_cons_succ, Nat.reduceLeDiff, List.map_cons, List.map_nil, setPart_agg, setPart_one, symSet, symSetF, Nat.reduceLT, fillV, buildV, List.replicate_succ, List.replicate_zero, Nat.lt_add_one, and_self, if_true, PV.one, PV.isAgg, PV.cells, PV.okc, List.all_cons, List.all_nil, Bool.and_self, List.nil_append, List.append_nil, List.cons_append, Nat.zero_add, Nat.add_zero, true_and, and_true, Nat.reduceEqDiff, reduceIte, Nat.reduceAdd, hB, hv1]
    have hlt5 := fun id hid => (i5.lt (id := id) hid)
    have hown : Own (h.length + 2) (h'.set (h.length + 1) .dead) v 2 ((((occs b names 0).map (·.2)).take (occs b names 0).length).map rngV) := i5.keep fun id hid => by
      have := hlt5 id hid
      rw [List.getElem?_set_ne (by omega)]
    refine hown.frz fun h2 sz' full nl hl2 hk2 hsz => ?_
    rw [List.take_of_length_le (by omega)] at hsz ⊢
    simp only [symCode, symIts, symOp, symBind, symQ, symT, symVal, symLook, symSlice, symHeap, symStep, symRange, symRaw, symBsl, symClr, symClrH, symGb, junkG, Bool.false_eq_true, decide_true, decide_false, symRes, symFrz, symApp, symMap, symMapOp, bindO_some, Option.map_some, Option.bind_some, List.length_cons, List.length_nil, List.length_append, List.drop_zero, List.drop_succ_cons, List.take_succ_cons, List.take_zero, List.getElem?_cons_zero, List.getElem?_cons_succ, List.set_cons_zero, List.set_cons_succ, Nat.reduceLeDiff, List.map_cons, List.map_nil, setPart_agg, setPart_one, symSet, symSetF, Nat.reduceLT, fillV, buildV, List.replicate_succ, List.replicate_zero, Nat.lt_add_one, and_self, if_true, PV.one, PV.isAgg, PV.cells, PV.okc, List.all_cons, List.all_nil, Bool.and_self, List.nil_append, List.append_nil, List.cons_append, Nat.zero_add, Nat.add_zero, true_and, and_true, Nat.reduceEqDiff, reduceIte, Nat.reduceAdd]
    refine ⟨⟨by rw [hl2]; simp; omega, fun i hi => ?_⟩, ?_, _, Sim.tuple2 (Sim.sl hsz) (Sim.refl _), .inr ⟨by simpa using hc, _, _, rfl⟩⟩
    · rw [hk2 i (by omega), List.getElem?_set_ne (by omega)]; exact i2 i hi
    · simp only [idsB, idsL, Bool.and_true]
      exact idsL_map (fun _ => rfl) _

end Go.K10
