/- Contracts: the reference's list of occurrences. -/
import Derived.Test.YtppeejkegbjgdaaDoorKw
set_option linter.unusedSimpArgs false
set_option linter.unusedVariables false
namespace Go.K10
open Go Go.Avm Go.Proofs

theorem _root_.Go.Avm.Own.frz2 {n : Nat} {h : AH} {v : PV} {sz : Nat} {xs : List PV} (a : Own n h v sz xs) {K : PV → AH → Prop}
    (hk : ∀ h' sz' full nl, h'.length = h.length → (∀ i, ownId v ≠ some i → h'[i]? = h[i]?) → (sz' = sz ∨ xs = []) → K (.sl sz' xs full nl) (W h')) : bindF (frzD v h) K := by
  rcases a with ⟨rfl, sz', rfl⟩ | ⟨id, h1, h2, rfl⟩
  · exact hk _ _ _ _ rfl (fun _ _ => rfl) (.inr rfl)
  · have : frzD (.asl id sz 0 xs.length) h = some (.sl sz xs false false, h.set id (.arr sz xs false)) := by
      simp only [frzD, frzV, h2]
      simp
    rw [this]
    exact hk _ _ _ _ (by simp) (fun i hi => by rw [List.getElem?_set_ne (fun e => hi (by rw [e]; rfl))]) (.inl rfl)

/-- The reference's list: begin, end, number of the name. -/
def rfind (s : Bs) (ns : List Bs) (at_ : Nat) : List (Nat × Nat × Nat) :=
  if _h : at_ < s.length then
    match bgn (s.drop at_) 0 ns with
    | (0, _) => rfind s ns (at_ + 1)
    | (n + 1, k) => (at_, at_ + n, k) :: rfind s ns (at_ + n + 1)
  else []
termination_by s.length - at_

theorem rfind_end {s : Bs} {ns : List Bs} {i : Nat} (h : ¬ i < s.length) : rfind s ns i = [] := by rw [rfind, dif_neg h]
theorem rfind_zero {s : Bs} {ns : List Bs} {i k : Nat} (hi : i < s.length) (h : bgn (s.drop i) 0 ns = (0, k)) : rfind s ns i = rfind s ns (i + 1) := by
  rw [rfind, dif_pos hi, h]
theorem rfind_succ {s : Bs} {ns : List Bs} {i n k : Nat} (hi : i < s.length) (h : bgn (s.drop i) 0 ns = (n + 1, k)) : rfind s ns i = (i, i + n, k) :: rfind s ns (i + n + 1) := by
  rw [rfind, dif_pos hi, h]

theorem hit1_le {s nm : Bs} {n : Nat} (h : hit1 s nm = some n) : n ≤ s.length := by
  unfold hit1 at h
  split at h
  · rename_i hp
    simp [preB] at hp
    split at h
    · cases h
    · rename_i c r hr
      have hl := congrArg List.length hr
      simp at hl
      split at h
      · cases h; omega
      split at h
      · cases h
      split at h
      · rename_i hq
        have := (List.getElem?_eq_some_iff.1 hq).1
        simp only [List.length_cons] at this
        cases h; omega
      · cases h
  · cases h

theorem bgn_le {s : Bs} : ∀ {ns : List Bs} {k : Nat}, (bgn s k ns).1 ≤ s.length ∧ (bgn s k ns).2 ≤ k + ns.length
  | [], k => by simp [bgn]
  | nm :: r, k => by
    rw [bgn]
    cases h : hit1 s nm with
    | some n => exact ⟨hit1_le h, by simp⟩
    | none =>
      obtain ⟨h1, h2⟩ := bgn_le (s := s) (ns := r) (k := k + 1)
      exact ⟨h1, by simp only [List.length_cons]; omega⟩

theorem rfind_len {s : Bs} {ns : List Bs} : ∀ (m i : Nat), s.length - i ≤ m → (rfind s ns i).length ≤ m
  | m, i, hm => by
    by_cases hi : i < s.length
    · cases m with
      | zero => omega
      | succ m =>
        rcases hb : bgn (s.drop i) 0 ns with ⟨n, k⟩
        cases n with
        | zero => rw [rfind_zero hi hb]; have := rfind_len (s := s) (ns := ns) m (i + 1) (by omega); omega
        | succ n =>
          rw [rfind_succ hi hb]
          have := rfind_len (s := s) (ns := ns) m (i + n + 1) (by omega)
          simp only [List.length_cons]; omega
    · rw [rfind_end hi]; simp

def rngO (o : Nat × Nat × Nat) : PV := .agg [.int .i64 o.1, .int .i64 o.2.1]
def numO (o : Nat × Nat × Nat) : PV := .int .i64 o.2.2

theorem FindR {g0 : Gh} (s : Bs) (ns : List Bs) (f n : Bool) (h : AH) (hs : s.length < 100000000) (hn : ns.length < 1000) (hl : ∀ x ∈ ns, x.length < 100000) :
    ACalls Tryd.prog g0 25 [.str s, .sl 1 (ns.map .str) f n] h fun r h' => h' = h ∧ ∃ f1 n1 f2 n2, r = .tuple [.sl 2 ((rfind s ns 0).map rngO) f1 n1, .sl 1 ((rfind s ns 0).map numO) f2 n2] := by
  refine acalls_ES F25_ok rfl fun g1 hg => ?_
  have hrl := rfind_len (s := s) (ns := ns) s.length 0 (by omega)
  simp only [F25, symCode, symIts, symOp, symBind, symQ, symT, symVal, symLook, symSlice, symHeap, symStep, symRange, symRaw, symBsl, symClr, symClrH, symGb, junkG, Bool.false_eq_true, decide_true, decide_false, symRes, symFrz, symApp, symMap, symMapOp, bindO_some, Option.map_some, Option.bind_some, List.length_cons, List.length_nil, List.length_append, List.drop_zero, List.drop_succ_cons, List.take_succ_cons, List.take_zero, List.getElem?_cons_zero, List.getElem?_cons_succ, List.set_cons_zero, List.set_cons_succ, Nat.reduceLeDiff, List.map_cons, List.map_nil, setPart_agg, setPart_one, symSet, symSetF, Nat.reduceLT, fillV, buildV, List.replicate_succ, List.replicate_zero, Nat.lt_add_one, and_self, if_true, PV.one, PV.isAgg, PV.cells, PV.okc, List.all_cons, List.all_nil, Bool.and_self, List.nil_append, List.append_nil, List.cons_append, Nat.zero_add, Nat.add_zero, true_and, and_true, Nat.reduceEqDiff, reduceIte, Nat.reduceAdd]
  refine ALoop.inv (fun m t h' => ∃ i k v w, i + m = s.length ∧ Ext h h' ∧ rfind s ns i = (rfind s ns 0).drop k ∧ k ≤ (rfind s ns 0).length ∧ Own h.length h' v 2 (((rfind s ns 0).take k).map rngO) ∧ Own h.length h' w 1 (((rfind s ns 0).take k).map numO) ∧
    (∀ id, ownId v = some id → ownId w ≠ some id) ∧ t = [(0, .str s), (1, .sl 1 (ns.map .str) f n), (6, v), (7, w), (8, .int .i64 i)]) s.length ?_ ?_
  · simp only [symCode, symIts, symOp, symBind, symQ, symT, symVal, symLook, symSlice, symHeap, symStep, symRange, symRaw, symBsl, symClr, symClrH, symGb, junkG, Bool.false_eq_true, decide_true, decide_false, symRes, symFrz, symApp, symMap, symMapOp, bindO_some, Option.map_some, Option.bind_some, List.length_cons, List.length_nil, List.length_append, List.drop_zero, List.drop_succ_cons, List.take_succ_cons, List.take_zero, List.getElem?_cons_zero, List.getElem?_cons_succ, List.set_cons_zero, List.set_cons_succ, Nat.reduceLeDiff, List.map_cons, List.map_nil, setPart_agg, setPart_one, symSet, symSetF, Nat.reduceLT, fillV, buildV, List.replicate_succ, List.replicate_zero, Nat.lt_add_one, and_self, if_true, PV.one, PV.isAgg, PV.cells, PV.okc, List.all_cons, List.all_nil, Bool.and_self, List.nil_append, List.append_nil, List.cons_append, Nat.zero_add, Nat.add_zero, true_and, and_true, Nat.reduceEqDiff, reduceIte, Nat.reduceAdd]
    exact ⟨0, 0, _, _, by omega, Ext.refl h, rfl, by omega, .inl ⟨by simp, 0, rfl⟩, .inl ⟨by simp, 0, rfl⟩, (fun id e => by cases e), rfl⟩
  rintro m t h' ⟨i, k, v, w, him, he, hk, hkl, hv, hw, hne, rfl⟩
  have hll := he.1
  have hvl := fun id hid => (hv.lt (id := id) hid)
  have hwl := fun id hid => (hw.lt (id := id) hid)
  simp only [symCode, symIts, symOp, symBind, symQ, symT, symVal, symLook, symSlice, symHeap, symStep, symRange, symRaw, symBsl, symClr, symClrH, symGb, junkG, Bool.false_eq_true, decide_true, decide_false, symRes, symFrz, symApp, symMap, symMapOp, bindO_some, Option.map_some, Option.bind_some, List.length_cons, List.length_nil, List.length_append, List.drop_zero, List.drop_succ_cons, List.take_succ_cons, List.take_zero, List.getElem?_cons_zero, List.getElem?_cons_succ, List.set_cons_zero, List.set_cons_succ, Nat.reduceLeDiff, List.map_cons, List.map_nil, setPart_agg, setPart_one, symSet, symSetF, Nat.reduceLT, fillV, buildV, List.replicate_succ, List.replicate_zero, Nat.lt_add_one, and_self, if_true, PV.one, PV.isAgg, PV.cells, PV.okc, List.all_cons, List.all_nil, Bool.and_self, List.nil_append, List.append_nil, List.cons_append, Nat.zero_add, Nat.add_zero, true_and, and_true, Nat.reduceEqDiff, reduceIte, Nat.reduceAdd]
  refine brC_mk (fun hc => ?_) (fun hc => ?_)
  rotate_left
  · have hi : ¬ i < s.length := by simpa using hc
    rw [rfind_end hi] at hk
    have hkk : k = (rfind s ns 0).length := by
      have := congrArg List.length hk
      simp at this; omega
    rw [hkk, List.take_length] at hv hw
    simp only [symCode, symIts, symOp, symBind, symQ, symT, symVal, symLook, symSlice, symHeap, symStep, symRange, symRaw, symBsl, symClr, symClrH, symGb, junkG, Bool.false_eq_true, decide_true, decide_false, symRes, symFrz, symApp, symMap, symMapOp, bindO_some, Option.map_some, Option.bind_some, List.length_cons, List.length_nil, List.length_append, List.drop_zero, List.drop_succ_cons, List.take_succ_cons, List.take_zero, List.getElem?_cons_zero, List.getElem?_cons_succ, List.set_cons_zero, List.set_cons_succ, Nat.reduceLeDiff, List.map_cons, List.map_nil, setPart_agg, setPart_one, symSet, symSetF, Nat.reduceLT, fillV, buildV, List.replicate_succ, List.replicate_zero, Nat.lt_add_one, and_self, if_true, PV.one, PV.isAgg, PV.cells, PV.okc, List.all_cons, List.all_nil, Bool.and_self, List.nil_append, List.append_nil, List.cons_append, Nat.zero_add, Nat.add_zero, true_and, and_true, Nat.reduceEqDiff, reduceIte, Nat.reduceAdd]
    refine hv.frz2 fun h1 sz1 fu1 nl1 hl1 hk1 hs1 => ?_
    simp only [symCode, symIts, symOp, symBind, symQ, symT, symVal, symLook, symSlice, symHeap, symStep, symRange, symRaw, symBsl, symClr, symClrH, symGb, junkG, Bool.false_eq_true, decide_true, decide_false, symRes, symFrz, symApp, symMap, symMapOp, bindO_some, Option.map_some, Option.bind_some, List.length_cons, List.length_nil, List.length_append, List.drop_zero, List.drop_succ_cons, List.take_succ_cons, List.take_zero, List.getElem?_cons_zero, List.getElem?_cons_succ, List.set_cons_zero, List.set_cons_succ, Nat.reduceLeDiff, List.map_cons, List.map_nil, setPart_agg, setPart_one, symSet, symSetF, Nat.reduceLT, fillV, buildV, List.replicate_succ, List.replicate_zero, Nat.lt_add_one, and_self, if_true, PV.one, PV.isAgg, PV.cells, PV.okc, List.all_cons, List.all_nil, Bool.and_self, List.nil_append, List.append_nil, List.cons_append, Nat.zero_add, Nat.add_zero, true_and, and_true, Nat.reduceEqDiff, reduceIte, Nat.reduceAdd]
    have hw1 : Own h.length h1 w 1 ((rfind s ns 0).map numO) := hw.keep fun id hid => hk1 id (fun e => hne id e hid)
    refine hw1.frz2 fun h2 sz2 fu2 nl2 hl2 hk2 hs2 => ?_
    simp only [symCode, symIts, symOp, symBind, symQ, symT, symVal, symLook, symSlice, symHeap, symStep, symRange, symRaw, symBsl, symClr, symClrH, symGb, junkG, Bool.false_eq_true, decide_true, decide_false, symRes, symFrz, symApp, symMap, symMapOp, bindO_some, Option.map_some, Option.bind_some, List.length_cons, List.length_nil, List.length_append, List.drop_zero, List.drop_succ_cons, List.take_succ_cons, List.take_zero, List.getElem?_cons_zero, List.getElem?_cons_succ, List.set_cons_zero, List.set_cons_succ, Nat.reduceLeDiff, List.map_cons, List.map_nil, setPart_agg, setPart_one, symSet, symSetF, Nat.reduceLT, fillV, buildV, List.replicate_succ, List.replicate_zero, Nat.lt_add_one, and_self, if_true, PV.one, PV.isAgg, PV.cells, PV.okc, List.all_cons, List.all_nil, Bool.and_self, List.nil_append, List.append_nil, List.cons_append, Nat.zero_add, Nat.add_zero, true_and, and_true, Nat.reduceEqDiff, reduceIte, Nat.reduceAdd]
    refine ⟨⟨by omega, fun x hx => ?_⟩, ?_, _, Sim.tuple2 (Sim.sl hs1) (Sim.sl hs2), _, _, _, _, rfl⟩
    · rw [hk2 x (fun e => by have := hwl _ e; omega), hk1 x (fun e => by have := hvl _ e; omega)]
      exact he.2 x hx
    · simp only [idsB, idsL, Bool.and_true, Bool.and_eq_true]
      exact ⟨idsL_map (fun _ => rfl) _, idsL_map (fun _ => rfl) _⟩
  have hi : i < s.length := by simpa using hc
  have hd : (s.drop i).length = s.length - i := List.length_drop
  simp only [symCode, symIts, symOp, symBind, symQ, symT, symVal, symLook, symSlice, symHeap, symStep, symRange, symRaw, symBsl, symClr, symClrH, symGb, junkG, Bool.false_eq_true, decide_true, decide_false, symRes, symFrz, symApp, symMap, symMapOp, bindO_some, Option.map_some, Option.bind_some, List.length_cons, List.length_nil, List.length_append, List.drop_zero, List.drop_succ_cons, List.take_succ_cons, List.take_zero, List.getElem?_cons_zero, List.getElem?_cons_succ, List.set_cons_zero, List.set_cons_succ, Nat.reduceLeDiff, List.map_cons, List.map_nil, setPart_agg, setPart_one, symSet, symSetF, Nat.reduceLT, fillV, buildV, List.replicate_succ, List.replicate_zero, Nat.lt_add_one, and_self, if_true, PV.one, PV.isAgg, PV.cells, PV.okc, List.all_cons, List.all_nil, Bool.and_self, List.nil_append, List.append_nil, List.cons_append, Nat.zero_add, Nat.add_zero, true_and, and_true, Nat.reduceEqDiff, reduceIte, Nat.reduceAdd, Int.toNat_natCast, List.take_length]
  (repeat (first | refine And.intro (inR_i64.2 (by omega)) ?_ | refine And.intro (by omega) ?_))
  refine (begins (s.drop i) ns f n h' (by omega) hn hl).go' ?_
  rintro r rfl
  rcases hb : bgn (s.drop i) 0 ns with ⟨q, j⟩
  have hle := bgn_le (s := s.drop i) (ns := ns) (k := 0)
  rw [hb] at hle
  simp only [hd, Nat.zero_add] at hle
  unfold bgnV
  cases q with
  | zero =>
    have d0 : decide (((0 : Nat) : Int) = 0) = true := rfl
    simp only [symCode, symIts, symOp, symBind, symQ, symT, symVal, symLook, symSlice, symHeap, symStep, symRange, symRaw, symBsl, symClr, symClrH, symGb, junkG, Bool.false_eq_true, decide_true, decide_false, symRes, symFrz, symApp, symMap, symMapOp, bindO_some, Option.map_some, Option.bind_some, List.length_cons, List.length_nil, List.length_append, List.drop_zero, List.drop_succ_cons, List.take_succ_cons, List.take_zero, List.getElem?_cons_zero, List.getElem?_cons_succ, List.set_cons_zero, List.set_cons_succ, Nat.reduceLeDiff, List.map_cons, List.map_nil, setPart_agg, setPart_one, symSet, symSetF, Nat.reduceLT, fillV, buildV, List.replicate_succ, List.replicate_zero, Nat.lt_add_one, and_self, if_true, PV.one, PV.isAgg, PV.cells, PV.okc, List.all_cons, List.all_nil, Bool.and_self, List.nil_append, List.append_nil, List.cons_append, Nat.zero_add, Nat.add_zero, true_and, and_true, Nat.reduceEqDiff, reduceIte, Nat.reduceAdd, d0]
    (repeat (first | refine And.intro (inR_i64.2 (by omega)) ?_ | refine And.intro (by omega) ?_))
    exact ⟨m - 1, by omega, i + 1, k, v, w, by omega, he, by rw [← rfind_zero hi hb]; exact hk, hkl, hv, hw, hne, by simp⟩
  | succ q =>
    have d0 : decide (((q + 1 : Nat) : Int) = 0) = false := by simp; omega
    simp only [symCode, symIts, symOp, symBind, symQ, symT, symVal, symLook, symSlice, symHeap, symStep, symRange, symRaw, symBsl, symClr, symClrH, symGb, junkG, Bool.false_eq_true, decide_true, decide_false, symRes, symFrz, symApp, symMap, symMapOp, bindO_some, Option.map_some, Option.bind_some, List.length_cons, List.length_nil, List.length_append, List.drop_zero, List.drop_succ_cons, List.take_succ_cons, List.take_zero, List.getElem?_cons_zero, List.getElem?_cons_succ, List.set_cons_zero, List.set_cons_succ, Nat.reduceLeDiff, List.map_cons, List.map_nil, setPart_agg, setPart_one, symSet, symSetF, Nat.reduceLT, fillV, buildV, List.replicate_succ, List.replicate_zero, Nat.lt_add_one, and_self, if_true, PV.one, PV.isAgg, PV.cells, PV.okc, List.all_cons, List.all_nil, Bool.and_self, List.nil_append, List.append_nil, List.cons_append, Nat.zero_add, Nat.add_zero, true_and, and_true, Nat.reduceEqDiff, reduceIte, Nat.reduceAdd, d0]
    (repeat (first | refine And.intro (inR_i64.2 (by omega)) ?_ | refine And.intro (by omega) ?_))
    have hkk : k < (rfind s ns 0).length := by
      rw [rfind_succ hi hb] at hk
      rcases Nat.lt_or_ge k (rfind s ns 0).length with hx | hx
      · exact hx
      · rw [List.drop_eq_nil_of_le hx] at hk; cases hk
    rw [rfind_succ hi hb, List.drop_eq_getElem_cons hkk] at hk
    obtain ⟨hk1, hk2⟩ := List.cons.inj hk
    have en : ((i : Int) + (q + 1 : Nat) - 1) = (i + q : Nat) := by omega
    rw [en]
    refine hv.app hll ⟨by simp; omega, by simp; omega⟩ fun v2 h2 ha hl2 hkp hnew => ?_
    have hw2 : Own h.length h2 w 1 (((rfind s ns 0).take k).map numO) := hw.keep fun id hid => hkp id (hwl id hid).2 (fun e => hne id e hid)
    simp only [symCode, symIts, symOp, symBind, symQ, symT, symVal, symLook, symSlice, symHeap, symStep, symRange, symRaw, symBsl, symClr, symClrH, symGb, junkG, Bool.false_eq_true, decide_true, decide_false, symRes, symFrz, symApp, symMap, symMapOp, bindO_some, Option.map_some, Option.bind_some, List.length_cons, List.length_nil, List.length_append, List.drop_zero, List.drop_succ_cons, List.take_succ_cons, List.take_zero, List.getElem?_cons_zero, List.getElem?_cons_succ, List.set_cons_zero, List.set_cons_succ, Nat.reduceLeDiff, List.map_cons, List.map_nil, setPart_agg, setPart_one, symSet, symSetF, Nat.reduceLT, fillV, buildV, List.replicate_succ, List.replicate_zero, Nat.lt_add_one, and_self, if_true, PV.one, PV.isAgg, PV.cells, PV.okc, List.all_cons, List.all_nil, Bool.and_self, List.nil_append, List.append_nil, List.cons_append, Nat.zero_add, Nat.add_zero, true_and, and_true, Nat.reduceEqDiff, reduceIte, Nat.reduceAdd]
    refine hw2.app (by omega) ⟨by simp; omega, by simp; omega⟩ fun w2 h3 ha3 hl3 hkp3 hnew3 => ?_
    have hv3 := ha.keep (h' := h3) fun id hid => hkp3 id (ha.lt hid).2 (fun e => by have := hnew id hid; have := hwl id e; omega)
    simp only [symCode, symIts, symOp, symBind, symQ, symT, symVal, symLook, symSlice, symHeap, symStep, symRange, symRaw, symBsl, symClr, symClrH, symGb, junkG, Bool.false_eq_true, decide_true, decide_false, symRes, symFrz, symApp, symMap, symMapOp, bindO_some, Option.map_some, Option.bind_some, List.length_cons, List.length_nil, List.length_append, List.drop_zero, List.drop_succ_cons, List.take_succ_cons, List.take_zero, List.getElem?_cons_zero, List.getElem?_cons_succ, List.set_cons_zero, List.set_cons_succ, Nat.reduceLeDiff, List.map_cons, List.map_nil, setPart_agg, setPart_one, symSet, symSetF, Nat.reduceLT, fillV, buildV, List.replicate_succ, List.replicate_zero, Nat.lt_add_one, and_self, if_true, PV.one, PV.isAgg, PV.cells, PV.okc, List.all_cons, List.all_nil, Bool.and_self, List.nil_append, List.append_nil, List.cons_append, Nat.zero_add, Nat.add_zero, true_and, and_true, Nat.reduceEqDiff, reduceIte, Nat.reduceAdd]
    (repeat (first | refine And.intro (inR_i64.2 (by omega)) ?_ | refine And.intro (by omega) ?_))
    have e1 : ((rfind s ns 0).take (k + 1)).map rngO = ((rfind s ns 0).take k).map rngO ++ [.agg [.int .i64 i, .int .i64 (i + q : Nat)]] := by
      rw [take_snoc hkk, List.map_append, ← hk1]; rfl
    have e2 : ((rfind s ns 0).take (k + 1)).map numO = ((rfind s ns 0).take k).map numO ++ [.int .i64 j] := by
      rw [take_snoc hkk, List.map_append, ← hk1]; rfl
    refine ⟨s.length - (i + q + 1), by omega, i + q + 1, k + 1, v2, w2, by omega, ⟨by omega, fun x hx => ?_⟩, hk2, by omega, by rw [e1]; exact hv3, by rw [e2]; exact ha3, fun id e1 e2 => ?_, by simp; omega⟩
    · rw [hkp3 x (by omega) (fun e => by have := hwl _ e; omega), hkp x (by omega) (fun e => by have := hvl _ e; omega)]
      exact he.2 x hx
    · have := hnew3 id e2
      have := (ha.lt e1).2
      omega

end Go.K10
