/- The statement KeywordBack. -/
import Derived.Test.YtppeejkegbjgdaaDoorKp
set_option linter.unusedSimpArgs false
set_option linter.unusedVariables false
namespace Go.K10
open Go Go.Avm Go.Proofs

theorem repl_len {b : Bs} {names : List Bs} {form : Bs → Bs} {M : Nat} (hM : ∀ o ∈ occs b names 0, (form o.1).length ≤ M) : (repl b form (occs b names 0)).length ≤ b.length + b.length * M := by
  obtain ⟨q1, q2, q3⟩ := repSt_bound (b := b) (form := form) (os := occs b names 0) (s := ([], 0)) (M := M) (chained_occs b names) hM _ (Nat.le_refl _)
  rw [List.take_length] at q1 q2
  rw [List.drop_length] at q1
  have e0 : (occs b names 0).foldl (repStep b form) ([], 0) = repSt b form (occs b names 0) := rfl
  rw [e0] at q1 q2
  simp only [List.length_nil, Nat.add_zero, Nat.zero_add] at q2
  have q4 : (repSt b form (occs b names 0)).2 ≤ b.length := q1
  have := Nat.mul_le_mul_right M (occs_len b names)
  simp only [repl, List.length_append, List.length_drop]
  omega

theorem nm_of {names : List Bs} (h : namesOk names = true) : ∀ s ∈ names, isNm s = true := by
  simp [namesOk] at h; exact h.1

theorem nm_no {s : Bs} (h : isNm s = true) {c : UInt8} (hc : letter c = false) : ∀ x ∈ s, x ≠ c := by
  simp only [isNm, Bool.and_eq_true, List.all_eq_true] at h
  rintro x hx rfl
  rw [h.1 x hx] at hc; cases hc

theorem inner_c {names : List Bs} (h : namesOk names = true) : Inner names fun s => s := by
  intro s hs
  have hn := nm_of h s hs
  have ht : s.takeWhile (fun c => !decide (c = 58)) = s := tw_all fun c hc => by simp [nm_no hn (c := 58) (by decide) c hc]
  refine ⟨?_, nm_no hn (by decide)⟩
  rw [dnm, ht, if_pos ⟨hs, .inl rfl⟩]

theorem val_no {s : Bs} (h : isVal s = true) {c : UInt8} (hc : valc c = false) : ∀ x ∈ s, x ≠ c := by
  simp only [isVal, Bool.and_eq_true, List.all_eq_true] at h
  rintro x hx rfl
  rw [h.1 x hx] at hc; cases hc

def einner (ws : List (Bs × Bs)) (s : Bs) : Bs := s ++ [58, 32] ++ (aget s ws).getD [] ++ [32]

theorem inner_e {ws : List (Bs × Bs)} (h : expOk ws = true) : Inner (ws.map (·.1)) (einner ws) := by
  intro s hs
  simp only [expOk, Bool.and_eq_true] at h
  have hn := nm_of h.2 s hs
  have hv : ∀ c : UInt8, valc c = false → ∀ x ∈ (aget s ws).getD [], x ≠ c := by
    intro c hc x hx
    cases ha : aget s ws with
    | none => rw [ha] at hx; simp at hx
    | some v =>
      rw [ha] at hx
      exact val_no (List.all_eq_true.1 h.1 _ (aget_mem ha)) hc x hx
  have ht : (einner ws s).takeWhile (fun c => !decide (c = 58)) = s := by
    have : einner ws s = s ++ 58 :: (32 :: (aget s ws).getD [] ++ [32]) := by simp [einner]
    rw [this, List.takeWhile_append_of_pos (fun c hc => by simp [nm_no hn (c := 58) (by decide) c hc])]
    simp
  have hno : ∀ c : UInt8, letter c = false → valc c = false → c ≠ 58 → c ≠ 32 → ∀ x ∈ einner ws s, x ≠ c := by
    intro c h1 h2 h3 h4 x hx
    simp only [einner, List.mem_append, List.mem_cons, List.not_mem_nil, or_false] at hx
    rcases hx with ((hx | hx | hx) | hx) | hx
    · exact nm_no hn h1 x hx
    · subst hx; exact Ne.symm h3
    · subst hx; exact Ne.symm h4
    · exact hv c h2 x hx
    · subst hx; exact Ne.symm h4
  refine ⟨?_, hno 36 (by decide) (by decide) (by decide) (by decide)⟩
  rw [dnm, ht, if_pos ⟨hs, .inr fun hm => hno 10 (by decide) (by decide) (by decide) (by decide) 10 hm rfl⟩]

theorem cform_in (names : List Bs) : ∀ s ∈ names, cform s = 36 :: (s ++ [36]) := fun s _ => by simp [cform]
theorem eform_in (ws : List (Bs × Bs)) (names : List Bs) : ∀ s ∈ names, eform ws s = 36 :: (einner ws s ++ [36]) := fun s _ => by simp [eform, einner]

theorem eform_len {ws : List (Bs × Bs)} (h : expOk ws = true) {s : Bs} (hs : s ∈ ws.map (·.1)) : (eform ws s).length ≤ 2000 := by
  simp only [expOk, Bool.and_eq_true] at h
  have := names_len h.2 hs
  have hv2 : ((aget s ws).getD []).length ≤ 1024 := by
    cases ha : aget s ws with
    | none => simp
    | some v => exact val_len (List.all_eq_true.1 h.1 _ (aget_mem ha))
  simp only [eform, List.length_append, List.length_cons, List.length_nil]; omega

theorem cform_len {names : List Bs} (h : namesOk names = true) {s : Bs} (hs : s ∈ names) : (cform s).length ≤ 2000 := by
  have := names_len h hs
  simp only [cform, List.length_append, List.length_cons, List.length_nil]; omega

theorem large0 {g0 : Gh} (b : Bs) (f1 n1 : Bool) (h : AH) : ACalls Tryd.prog g0 11 [.sl 1 (b.map byteV) f1 n1, .sl 0 [] true true] h fun r h' => h' = h ∧ r = .bool (largeB b []) :=
  ACalls.args (qs := [.sl 1 (b.map byteV) f1 n1, .sl 1 (([] : List Bs).map .str) true true]) ⟨Sim.refl _, Sim.sl_nil _ _ _ _, trivial⟩ (large b [] f1 n1 true true h (by simp))

theorem guard_of {b : Bs} {ws : List (Bs × Bs)} (h : (largeB b [] || wordsB ws) = false) : b.length ≤ 1500 ∧ ws.length ≤ 8 ∧ ∀ w ∈ ws, w.1.length ≤ 60 ∧ w.2.length ≤ 1100 := by
  simp [largeB, wordsB] at h
  exact ⟨by omega, by omega, fun w hw => h.2.2 _ _ hw⟩

theorem keywordBack_ok {g0 : Gh} (hG : Glob g0) (b : Bs) (ws : List (Bs × Bs)) (f1 n1 f2 n2 : Bool) (h : AH) (hw : ws.length ≤ 9223372036854775807) :
    ACalls Tryd.prog g0 3 [.sl 1 (b.map byteV) f1 n1, .sl 2 (ws.map wordV) f2 n2] h fun r h' => h' = h ∧ r = .bool true := by
  refine acalls_E F3_ok rfl fun g1 hg => ?_
  simp only [F3, symCode, symIts, symOp, symBind, symQ, symT, symVal, symLook, symSlice, symHeap, symStep, symRange, symRaw, symBsl, symClr, symClrH, symGb, junkG, Bool.false_eq_true, decide_true, decide_false, symRes, symFrz, symApp, symMap, symMapOp, bindO_some, Option.map_some, Option.bind_some, List.length_cons, List.length_nil, List.length_append, List.drop_zero, List.drop_succ_cons, List.take_succ_cons, List.take_zero, List.getElem?_cons_zero, List.getElem?_cons_succ, List.set_cons_zero, List.set_cons_succ, Nat.reduceLeDiff, List.map_cons, List.map_nil, setPart_agg, setPart_one, symSet, symSetF, Nat.reduceLT, fillV, buildV, List.replicate_succ, List.replicate_zero, Nat.lt_add_one, and_self, if_true, PV.one, PV.isAgg, PV.cells, PV.okc, List.all_cons, List.all_nil, Bool.and_self, List.nil_append, List.append_nil, List.cons_append, Nat.zero_add, Nat.add_zero, true_and, and_true, Nat.reduceEqDiff, reduceIte, Nat.reduceAdd]
  refine (large0 b f1 n1 h).go' ?_
  rintro r rfl
  simp only [symCode, symIts, symOp, symBind, symQ, symT, symVal, symLook, symSlice, symHeap, symStep, symRange, symRaw, symBsl, symClr, symClrH, symGb, junkG, Bool.false_eq_true, decide_true, decide_false, symRes, symFrz, symApp, symMap, symMapOp, bindO_some, Option.map_some, Option.bind_some, List.length_cons, List.length_nil, List.length_append, List.drop_zero, List.drop_succ_cons, List.take_succ_cons, List.take_zero, List.getElem?_cons_zero, List.getElem?_cons_succ, List.set_cons_zero, List.set_cons_succ, Nat.reduceLeDiff, List.map_cons, List.map_nil, setPart_agg, setPart_one, symSet, symSetF, Nat.reduceLT, fillV, buildV, List.replicate_succ, List.replicate_zero, Nat.lt_add_one, and_self, if_true, PV.one, PV.isAgg, PV.cells, PV.okc, List.all_cons, List.all_nil, Bool.and_self, List.nil_append, List.append_nil, List.cons_append, Nat.zero_add, Nat.add_zero, true_and, and_true, Nat.reduceEqDiff, reduceIte, Nat.reduceAdd]
  refine brG_pick (.bool (largeB b [] || wordsB ws)) (fun hc => ?_) (fun hc => ?_) ?_
  · simp only [symCode, symIts, symOp, symBind, symQ, symT, symVal, symLook, symSlice, symHeap, symStep, symRange, symRaw, symBsl, symClr, symClrH, symGb, junkG, Bool.false_eq_true, decide_true, decide_false, symRes, symFrz, symApp, symMap, symMapOp, bindO_some, Option.map_some, Option.bind_some, List.length_cons, List.length_nil, List.length_append, List.drop_zero, List.drop_succ_cons, List.take_succ_cons, List.take_zero, List.getElem?_cons_zero, List.getElem?_cons_succ, List.set_cons_zero, List.set_cons_succ, Nat.reduceLeDiff, List.map_cons, List.map_nil, setPart_agg, setPart_one, symSet, symSetF, Nat.reduceLT, fillV, buildV, List.replicate_succ, List.replicate_zero, Nat.lt_add_one, and_self, if_true, PV.one, PV.isAgg, PV.cells, PV.okc, List.all_cons, List.all_nil, Bool.and_self, List.nil_append, List.append_nil, List.cons_append, Nat.zero_add, Nat.add_zero, true_and, and_true, Nat.reduceEqDiff, reduceIte, Nat.reduceAdd]
    refine (words ws f2 n2 _ hw).go' ?_
    rintro r rfl
    simp only [symCode, symIts, symOp, symBind, symQ, symT, symVal, symLook, symSlice, symHeap, symStep, symRange, symRaw, symBsl, symClr, symClrH, symGb, junkG, Bool.false_eq_true, decide_true, decide_false, symRes, symFrz, symApp, symMap, symMapOp, bindO_some, Option.map_some, Option.bind_some, List.length_cons, List.length_nil, List.length_append, List.drop_zero, List.drop_succ_cons, List.take_succ_cons, List.take_zero, List.getElem?_cons_zero, List.getElem?_cons_succ, List.set_cons_zero, List.set_cons_succ, Nat.reduceLeDiff, List.map_cons, List.map_nil, setPart_agg, setPart_one, symSet, symSetF, Nat.reduceLT, fillV, buildV, List.replicate_succ, List.replicate_zero, Nat.lt_add_one, and_self, if_true, PV.one, PV.isAgg, PV.cells, PV.okc, List.all_cons, List.all_nil, Bool.and_self, List.nil_append, List.append_nil, List.cons_append, Nat.zero_add, Nat.add_zero, true_and, and_true, Nat.reduceEqDiff, reduceIte, Nat.reduceAdd, pickT, hc, Bool.false_or]
  · simp only [symCode, symIts, symOp, symBind, symQ, symT, symVal, symLook, symSlice, symHeap, symStep, symRange, symRaw, symBsl, symClr, symClrH, symGb, junkG, Bool.false_eq_true, decide_true, decide_false, symRes, symFrz, symApp, symMap, symMapOp, bindO_some, Option.map_some, Option.bind_some, List.length_cons, List.length_nil, List.length_append, List.drop_zero, List.drop_succ_cons, List.take_succ_cons, List.take_zero, List.getElem?_cons_zero, List.getElem?_cons_succ, List.set_cons_zero, List.set_cons_succ, Nat.reduceLeDiff, List.map_cons, List.map_nil, setPart_agg, setPart_one, symSet, symSetF, Nat.reduceLT, fillV, buildV, List.replicate_succ, List.replicate_zero, Nat.lt_add_one, and_self, if_true, PV.one, PV.isAgg, PV.cells, PV.okc, List.all_cons, List.all_nil, Bool.and_self, List.nil_append, List.append_nil, List.cons_append, Nat.zero_add, Nat.add_zero, true_and, and_true, Nat.reduceEqDiff, reduceIte, Nat.reduceAdd, pickT, hc, Bool.not_false, Bool.true_or]
  simp only [symCode, symIts, symOp, symBind, symQ, symT, symVal, symLook, symSlice, symHeap, symStep, symRange, symRaw, symBsl, symClr, symClrH, symGb, junkG, Bool.false_eq_true, decide_true, decide_false, symRes, symFrz, symApp, symMap, symMapOp, bindO_some, Option.map_some, Option.bind_some, List.length_cons, List.length_nil, List.length_append, List.drop_zero, List.drop_succ_cons, List.take_succ_cons, List.take_zero, List.getElem?_cons_zero, List.getElem?_cons_succ, List.set_cons_zero, List.set_cons_succ, Nat.reduceLeDiff, List.map_cons, List.map_nil, setPart_agg, setPart_one, symSet, symSetF, Nat.reduceLT, fillV, buildV, List.replicate_succ, List.replicate_zero, Nat.lt_add_one, and_self, if_true, PV.one, PV.isAgg, PV.cells, PV.okc, List.all_cons, List.all_nil, Bool.and_self, List.nil_append, List.append_nil, List.cons_append, Nat.zero_add, Nat.add_zero, true_and, and_true, Nat.reduceEqDiff, reduceIte, Nat.reduceAdd]
  intros
  refine brC_mk (fun hc => ?_) (fun hc => ?_)
  · simp only [symCode, symIts, symOp, symBind, symQ, symT, symVal, symLook, symSlice, symHeap, symStep, symRange, symRaw, symBsl, symClr, symClrH, symGb, junkG, Bool.false_eq_true, decide_true, decide_false, symRes, symFrz, symApp, symMap, symMapOp, bindO_some, Option.map_some, Option.bind_some, List.length_cons, List.length_nil, List.length_append, List.drop_zero, List.drop_succ_cons, List.take_succ_cons, List.take_zero, List.getElem?_cons_zero, List.getElem?_cons_succ, List.set_cons_zero, List.set_cons_succ, Nat.reduceLeDiff, List.map_cons, List.map_nil, setPart_agg, setPart_one, symSet, symSetF, Nat.reduceLT, fillV, buildV, List.replicate_succ, List.replicate_zero, Nat.lt_add_one, and_self, if_true, PV.one, PV.isAgg, PV.cells, PV.okc, List.all_cons, List.all_nil, Bool.and_self, List.nil_append, List.append_nil, List.cons_append, Nat.zero_add, Nat.add_zero, true_and, and_true, Nat.reduceEqDiff, reduceIte, Nat.reduceAdd]
    refine (awake (hG.le hg) h).go' ?_
    rintro r rfl
    simp only [symCode, symIts, symOp, symBind, symQ, symT, symVal, symLook, symSlice, symHeap, symStep, symRange, symRaw, symBsl, symClr, symClrH, symGb, junkG, Bool.false_eq_true, decide_true, decide_false, symRes, symFrz, symApp, symMap, symMapOp, bindO_some, Option.map_some, Option.bind_some, List.length_cons, List.length_nil, List.length_append, List.drop_zero, List.drop_succ_cons, List.take_succ_cons, List.take_zero, List.getElem?_cons_zero, List.getElem?_cons_succ, List.set_cons_zero, List.set_cons_succ, Nat.reduceLeDiff, List.map_cons, List.map_nil, setPart_agg, setPart_one, symSet, symSetF, Nat.reduceLT, fillV, buildV, List.replicate_succ, List.replicate_zero, Nat.lt_add_one, and_self, if_true, PV.one, PV.isAgg, PV.cells, PV.okc, List.all_cons, List.all_nil, Bool.and_self, List.nil_append, List.append_nil, List.cons_append, Nat.zero_add, Nat.add_zero, true_and, and_true, Nat.reduceEqDiff, reduceIte, Nat.reduceAdd]
    exact ⟨Ext.refl _, rfl⟩
  obtain ⟨hb, hwl, hws⟩ := guard_of hc
  have hsz : ∀ x ∈ ws, x.1.length < 1000000000000 ∧ x.2.length < 1000000000000 := fun x hx => by have := hws x hx; omega
  have hsn : ∀ x ∈ ws.map (·.1), x.length < 1000000000000 := fun x hx => by
    obtain ⟨w, hw, rfl⟩ := List.mem_map.1 hx
    exact (hsz w hw).1
  have hnl : (ws.map (·.1)).length ≤ 12 := by simp; omega
  simp only [symCode, symIts, symOp, symBind, symQ, symT, symVal, symLook, symSlice, symHeap, symStep, symRange, symRaw, symBsl, symClr, symClrH, symGb, junkG, Bool.false_eq_true, decide_true, decide_false, symRes, symFrz, symApp, symMap, symMapOp, bindO_some, Option.map_some, Option.bind_some, List.length_cons, List.length_nil, List.length_append, List.drop_zero, List.drop_succ_cons, List.take_succ_cons, List.take_zero, List.getElem?_cons_zero, List.getElem?_cons_succ, List.set_cons_zero, List.set_cons_succ, Nat.reduceLeDiff, List.map_cons, List.map_nil, setPart_agg, setPart_one, symSet, symSetF, Nat.reduceLT, fillV, buildV, List.replicate_succ, List.replicate_zero, Nat.lt_add_one, and_self, if_true, PV.one, PV.isAgg, PV.cells, PV.okc, List.all_cons, List.all_nil, Bool.and_self, List.nil_append, List.append_nil, List.cons_append, Nat.zero_add, Nat.add_zero, true_and, and_true, Nat.reduceEqDiff, reduceIte, Nat.reduceAdd]
  refine (Expand (hG.le hg) b ws f1 n1 f2 n2 h (by omega) (by omega) hsz).go' ?_
  rintro _ (⟨hx, rfl⟩ | ⟨hx, xf, xn, rfl⟩)
  · -- not expanded
    simp only [symCode, symIts, symOp, symBind, symQ, symT, symVal, symLook, symSlice, symHeap, symStep, symRange, symRaw, symBsl, symClr, symClrH, symGb, junkG, Bool.false_eq_true, decide_true, decide_false, symRes, symFrz, symApp, symMap, symMapOp, bindO_some, Option.map_some, Option.bind_some, List.length_cons, List.length_nil, List.length_append, List.drop_zero, List.drop_succ_cons, List.take_succ_cons, List.take_zero, List.getElem?_cons_zero, List.getElem?_cons_succ, List.set_cons_zero, List.set_cons_succ, Nat.reduceLeDiff, List.map_cons, List.map_nil, setPart_agg, setPart_one, symSet, symSetF, Nat.reduceLT, fillV, buildV, List.replicate_succ, List.replicate_zero, Nat.lt_add_one, and_self, if_true, PV.one, PV.isAgg, PV.cells, PV.okc, List.all_cons, List.all_nil, Bool.and_self, List.nil_append, List.append_nil, List.cons_append, Nat.zero_add, Nat.add_zero, true_and, and_true, Nat.reduceEqDiff, reduceIte, Nat.reduceAdd]
    refine (names ws f2 n2 h (by omega)).go' ?_
    rintro _ ⟨nf, nn, rfl⟩
    simp only [symCode, symIts, symOp, symBind, symQ, symT, symVal, symLook, symSlice, symHeap, symStep, symRange, symRaw, symBsl, symClr, symClrH, symGb, junkG, Bool.false_eq_true, decide_true, decide_false, symRes, symFrz, symApp, symMap, symMapOp, bindO_some, Option.map_some, Option.bind_some, List.length_cons, List.length_nil, List.length_append, List.drop_zero, List.drop_succ_cons, List.take_succ_cons, List.take_zero, List.getElem?_cons_zero, List.getElem?_cons_succ, List.set_cons_zero, List.set_cons_succ, Nat.reduceLeDiff, List.map_cons, List.map_nil, setPart_agg, setPart_one, symSet, symSetF, Nat.reduceLT, fillV, buildV, List.replicate_succ, List.replicate_zero, Nat.lt_add_one, and_self, if_true, PV.one, PV.isAgg, PV.cells, PV.okc, List.all_cons, List.all_nil, Bool.and_self, List.nil_append, List.append_nil, List.cons_append, Nat.zero_add, Nat.add_zero, true_and, and_true, Nat.reduceEqDiff, reduceIte, Nat.reduceAdd]
    refine (Collapse (hG.le hg) b (ws.map (·.1)) f1 n1 nf nn h (by omega) hnl hsn).go' ?_
    have e1 : decide ((100 : Int) = 0) = false := by decide
    rintro _ (⟨hy, rfl⟩ | ⟨hy, cf, cn, rfl⟩)
    all_goals
      simp only [symCode, symIts, symOp, symBind, symQ, symT, symVal, symLook, symSlice, symHeap, symStep, symRange, symRaw, symBsl, symClr, symClrH, symGb, junkG, Bool.false_eq_true, decide_true, decide_false, symRes, symFrz, symApp, symMap, symMapOp, bindO_some, Option.map_some, Option.bind_some, List.length_cons, List.length_nil, List.length_append, List.drop_zero, List.drop_succ_cons, List.take_succ_cons, List.take_zero, List.getElem?_cons_zero, List.getElem?_cons_succ, List.set_cons_zero, List.set_cons_succ, Nat.reduceLeDiff, List.map_cons, List.map_nil, setPart_agg, setPart_one, symSet, symSetF, Nat.reduceLT, fillV, buildV, List.replicate_succ, List.replicate_zero, Nat.lt_add_one, and_self, if_true, PV.one, PV.isAgg, PV.cells, PV.okc, List.all_cons, List.all_nil, Bool.and_self, List.nil_append, List.append_nil, List.cons_append, Nat.zero_add, Nat.add_zero, true_and, and_true, Nat.reduceEqDiff, reduceIte, Nat.reduceAdd, e1, Bool.not_false]
      refine (awake (hG.le hg) h).go' ?_
      rintro r rfl
      simp only [symCode, symIts, symOp, symBind, symQ, symT, symVal, symLook, symSlice, symHeap, symStep, symRange, symRaw, symBsl, symClr, symClrH, symGb, junkG, Bool.false_eq_true, decide_true, decide_false, symRes, symFrz, symApp, symMap, symMapOp, bindO_some, Option.map_some, Option.bind_some, List.length_cons, List.length_nil, List.length_append, List.drop_zero, List.drop_succ_cons, List.take_succ_cons, List.take_zero, List.getElem?_cons_zero, List.getElem?_cons_succ, List.set_cons_zero, List.set_cons_succ, Nat.reduceLeDiff, List.map_cons, List.map_nil, setPart_agg, setPart_one, symSet, symSetF, Nat.reduceLT, fillV, buildV, List.replicate_succ, List.replicate_zero, Nat.lt_add_one, and_self, if_true, PV.one, PV.isAgg, PV.cells, PV.okc, List.all_cons, List.all_nil, Bool.and_self, List.nil_append, List.append_nil, List.cons_append, Nat.zero_add, Nat.add_zero, true_and, and_true, Nat.reduceEqDiff, reduceIte, Nat.reduceAdd]
      exact ⟨Ext.refl _, rfl⟩
  have hok : namesOk (ws.map (·.1)) = true := by simp only [expOk, Bool.and_eq_true] at hx; exact hx.2
  have hnm := nm_of hok
  have hel : ∀ c : Bs, ∀ o ∈ occs c (ws.map (·.1)) 0, (eform ws o.1).length ≤ 2000 := fun c o ho => eform_len hx (occs_mem _ 0 (Nat.le_refl _) ho).1
  have hcl : ∀ c : Bs, ∀ o ∈ occs c (ws.map (·.1)) 0, (cform o.1).length ≤ 2000 := fun c o ho => cform_len hok (occs_mem _ 0 (Nat.le_refl _) ho).1
  have hxl := repl_len (hel b)
  have hyl := repl_len (hcl b)
  have hbm : b.length * 2000 ≤ 1500 * 2000 := Nat.mul_le_mul_right _ hb
  have p1 := repl_repl hnm (eform_in ws _) (cform_in _) (inner_e hx) b
  have p2 := repl_repl hnm (cform_in _) (eform_in ws _) (inner_c hok) b
  have p3 := repl_repl hnm (eform_in ws _) (eform_in ws _) (inner_e hx) b
  simp only [symCode, symIts, symOp, symBind, symQ, symT, symVal, symLook, symSlice, symHeap, symStep, symRange, symRaw, symBsl, symClr, symClrH, symGb, junkG, Bool.false_eq_true, decide_true, decide_false, symRes, symFrz, symApp, symMap, symMapOp, bindO_some, Option.map_some, Option.bind_some, List.length_cons, List.length_nil, List.length_append, List.drop_zero, List.drop_succ_cons, List.take_succ_cons, List.take_zero, List.getElem?_cons_zero, List.getElem?_cons_succ, List.set_cons_zero, List.set_cons_succ, Nat.reduceLeDiff, List.map_cons, List.map_nil, setPart_agg, setPart_one, symSet, symSetF, Nat.reduceLT, fillV, buildV, List.replicate_succ, List.replicate_zero, Nat.lt_add_one, and_self, if_true, PV.one, PV.isAgg, PV.cells, PV.okc, List.all_cons, List.all_nil, Bool.and_self, List.nil_append, List.append_nil, List.cons_append, Nat.zero_add, Nat.add_zero, true_and, and_true, Nat.reduceEqDiff, reduceIte, Nat.reduceAdd]
  refine (names ws f2 n2 h (by omega)).go' ?_
  rintro _ ⟨nf, nn, rfl⟩
  simp only [symCode, symIts, symOp, symBind, symQ, symT, symVal, symLook, symSlice, symHeap, symStep, symRange, symRaw, symBsl, symClr, symClrH, symGb, junkG, Bool.false_eq_true, decide_true, decide_false, symRes, symFrz, symApp, symMap, symMapOp, bindO_some, Option.map_some, Option.bind_some, List.length_cons, List.length_nil, List.length_append, List.drop_zero, List.drop_succ_cons, List.take_succ_cons, List.take_zero, List.getElem?_cons_zero, List.getElem?_cons_succ, List.set_cons_zero, List.set_cons_succ, Nat.reduceLeDiff, List.map_cons, List.map_nil, setPart_agg, setPart_one, symSet, symSetF, Nat.reduceLT, fillV, buildV, List.replicate_succ, List.replicate_zero, Nat.lt_add_one, and_self, if_true, PV.one, PV.isAgg, PV.cells, PV.okc, List.all_cons, List.all_nil, Bool.and_self, List.nil_append, List.append_nil, List.cons_append, Nat.zero_add, Nat.add_zero, true_and, and_true, Nat.reduceEqDiff, reduceIte, Nat.reduceAdd]
  refine (Collapse (hG.le hg) b (ws.map (·.1)) f1 n1 nf nn h (by omega) hnl hsn).go' ?_
  rintro _ (⟨hy, rfl⟩ | ⟨hy, cf, cn, rfl⟩)
  · rw [hok] at hy; cases hy
  simp only [symCode, symIts, symOp, symBind, symQ, symT, symVal, symLook, symSlice, symHeap, symStep, symRange, symRaw, symBsl, symClr, symClrH, symGb, junkG, Bool.false_eq_true, decide_true, decide_false, symRes, symFrz, symApp, symMap, symMapOp, bindO_some, Option.map_some, Option.bind_some, List.length_cons, List.length_nil, List.length_append, List.drop_zero, List.drop_succ_cons, List.take_succ_cons, List.take_zero, List.getElem?_cons_zero, List.getElem?_cons_succ, List.set_cons_zero, List.set_cons_succ, Nat.reduceLeDiff, List.map_cons, List.map_nil, setPart_agg, setPart_one, symSet, symSetF, Nat.reduceLT, fillV, buildV, List.replicate_succ, List.replicate_zero, Nat.lt_add_one, and_self, if_true, PV.one, PV.isAgg, PV.cells, PV.okc, List.all_cons, List.all_nil, Bool.and_self, List.nil_append, List.append_nil, List.cons_append, Nat.zero_add, Nat.add_zero, true_and, and_true, Nat.reduceEqDiff, reduceIte, Nat.reduceAdd, Bool.not_true]
  refine (names ws f2 n2 h (by omega)).go' ?_
  rintro _ ⟨nf, nn, rfl⟩
  simp only [symCode, symIts, symOp, symBind, symQ, symT, symVal, symLook, symSlice, symHeap, symStep, symRange, symRaw, symBsl, symClr, symClrH, symGb, junkG, Bool.false_eq_true, decide_true, decide_false, symRes, symFrz, symApp, symMap, symMapOp, bindO_some, Option.map_some, Option.bind_some, List.length_cons, List.length_nil, List.length_append, List.drop_zero, List.drop_succ_cons, List.take_succ_cons, List.take_zero, List.getElem?_cons_zero, List.getElem?_cons_succ, List.set_cons_zero, List.set_cons_succ, Nat.reduceLeDiff, List.map_cons, List.map_nil, setPart_agg, setPart_one, symSet, symSetF, Nat.reduceLT, fillV, buildV, List.replicate_succ, List.replicate_zero, Nat.lt_add_one, and_self, if_true, PV.one, PV.isAgg, PV.cells, PV.okc, List.all_cons, List.all_nil, Bool.and_self, List.nil_append, List.append_nil, List.cons_append, Nat.zero_add, Nat.add_zero, true_and, and_true, Nat.reduceEqDiff, reduceIte, Nat.reduceAdd]
  refine (Collapse (hG.le hg) (repl b (eform ws) (occs b (ws.map (·.1)) 0)) (ws.map (·.1)) xf xn nf nn h (by omega) hnl hsn).go' ?_
  rintro _ (⟨hy, rfl⟩ | ⟨hy, df, dn, rfl⟩)
  · rw [hok] at hy; cases hy
  simp only [symCode, symIts, symOp, symBind, symQ, symT, symVal, symLook, symSlice, symHeap, symStep, symRange, symRaw, symBsl, symClr, symClrH, symGb, junkG, Bool.false_eq_true, decide_true, decide_false, symRes, symFrz, symApp, symMap, symMapOp, bindO_some, Option.map_some, Option.bind_some, List.length_cons, List.length_nil, List.length_append, List.drop_zero, List.drop_succ_cons, List.take_succ_cons, List.take_zero, List.getElem?_cons_zero, List.getElem?_cons_succ, List.set_cons_zero, List.set_cons_succ, Nat.reduceLeDiff, List.map_cons, List.map_nil, setPart_agg, setPart_one, symSet, symSetF, Nat.reduceLT, fillV, buildV, List.replicate_succ, List.replicate_zero, Nat.lt_add_one, and_self, if_true, PV.one, PV.isAgg, PV.cells, PV.okc, List.all_cons, List.all_nil, Bool.and_self, List.nil_append, List.append_nil, List.cons_append, Nat.zero_add, Nat.add_zero, true_and, and_true, Nat.reduceEqDiff, reduceIte, Nat.reduceAdd]
  refine (Expand (hG.le hg) (repl b cform (occs b (ws.map (·.1)) 0)) ws cf cn f2 n2 h (by omega) (by omega) hsz).go' ?_
  rintro _ (⟨hy, rfl⟩ | ⟨hy, yf, yn, rfl⟩)
  · rw [hx] at hy; cases hy
  simp only [symCode, symIts, symOp, symBind, symQ, symT, symVal, symLook, symSlice, symHeap, symStep, symRange, symRaw, symBsl, symClr, symClrH, symGb, junkG, Bool.false_eq_true, decide_true, decide_false, symRes, symFrz, symApp, symMap, symMapOp, bindO_some, Option.map_some, Option.bind_some, List.length_cons, List.length_nil, List.length_append, List.drop_zero, List.drop_succ_cons, List.take_succ_cons, List.take_zero, List.getElem?_cons_zero, List.getElem?_cons_succ, List.set_cons_zero, List.set_cons_succ, Nat.reduceLeDiff, List.map_cons, List.map_nil, setPart_agg, setPart_one, symSet, symSetF, Nat.reduceLT, fillV, buildV, List.replicate_succ, List.replicate_zero, Nat.lt_add_one, and_self, if_true, PV.one, PV.isAgg, PV.cells, PV.okc, List.all_cons, List.all_nil, Bool.and_self, List.nil_append, List.append_nil, List.cons_append, Nat.zero_add, Nat.add_zero, true_and, and_true, Nat.reduceEqDiff, reduceIte, Nat.reduceAdd]
  refine (Expand (hG.le hg) (repl b (eform ws) (occs b (ws.map (·.1)) 0)) ws xf xn f2 n2 h (by omega) (by omega) hsz).go' ?_
  rintro _ (⟨hy, rfl⟩ | ⟨hy, zf, zn, rfl⟩)
  · rw [hx] at hy; cases hy
  simp only [symCode, symIts, symOp, symBind, symQ, symT, symVal, symLook, symSlice, symHeap, symStep, symRange, symRaw, symBsl, symClr, symClrH, symGb, junkG, Bool.false_eq_true, decide_true, decide_false, symRes, symFrz, symApp, symMap, symMapOp, bindO_some, Option.map_some, Option.bind_some, List.length_cons, List.length_nil, List.length_append, List.drop_zero, List.drop_succ_cons, List.take_succ_cons, List.take_zero, List.getElem?_cons_zero, List.getElem?_cons_succ, List.set_cons_zero, List.set_cons_succ, Nat.reduceLeDiff, List.map_cons, List.map_nil, setPart_agg, setPart_one, symSet, symSetF, Nat.reduceLT, fillV, buildV, List.replicate_succ, List.replicate_zero, Nat.lt_add_one, and_self, if_true, PV.one, PV.isAgg, PV.cells, PV.okc, List.all_cons, List.all_nil, Bool.and_self, List.nil_append, List.append_nil, List.cons_append, Nat.zero_add, Nat.add_zero, true_and, and_true, Nat.reduceEqDiff, reduceIte, Nat.reduceAdd, Bool.not_true, bytesOf_map, p1, p2, p3]
  refine (awake (hG.le hg) h).go' ?_
  rintro r rfl
  simp only [symCode, symIts, symOp, symBind, symQ, symT, symVal, symLook, symSlice, symHeap, symStep, symRange, symRaw, symBsl, symClr, symClrH, symGb, junkG, Bool.false_eq_true, decide_true, decide_false, symRes, symFrz, symApp, symMap, symMapOp, bindO_some, Option.map_some, Option.bind_some, List.length_cons, List.length_nil, List.length_append, List.drop_zero, List.drop_succ_cons, List.take_succ_cons, List.take_zero, List.getElem?_cons_zero, List.getElem?_cons_succ, List.set_cons_zero, List.set_cons_succ, Nat.reduceLeDiff, List.map_cons, List.map_nil, setPart_agg, setPart_one, symSet, symSetF, Nat.reduceLT, fillV, buildV, List.replicate_succ, List.replicate_zero, Nat.lt_add_one, and_self, if_true, PV.one, PV.isAgg, PV.cells, PV.okc, List.all_cons, List.all_nil, Bool.and_self, List.nil_append, List.append_nil, List.cons_append, Nat.zero_add, Nat.add_zero, true_and, and_true, Nat.reduceEqDiff, reduceIte, Nat.reduceAdd]
  exact ⟨Ext.refl _, rfl⟩

end Go.K10
