/- Contracts: replace, Collapse, Expand. -/
import Derived.Test.YtppeejkegbjgdaaDoorKk
set_option linter.unusedSimpArgs false
set_option linter.unusedVariables false
namespace Go.K10
open Go Go.Avm Go.Proofs

def repStep (b : Bs) (form : Bs → Bs) (s : Bs × Nat) (o : Occ) : Bs × Nat := (s.1 ++ (b.take o.2.1).drop s.2 ++ form o.1, o.2.2 + 1)
def repSt (b : Bs) (form : Bs → Bs) (os : List Occ) : Bs × Nat := os.foldl (repStep b form) ([], 0)
def repl (b : Bs) (form : Bs → Bs) (os : List Occ) : Bs := (repSt b form os).1 ++ b.drop (repSt b form os).2

/-- The occurrences come one behind the other. -/
def Chained (n : Nat) : Nat → List Occ → Prop
  | i, [] => i ≤ n
  | i, o :: os => i ≤ o.2.1 ∧ o.2.1 < o.2.2 ∧ o.2.2 < n ∧ Chained n (o.2.2 + 1) os

theorem chained_of (b : Bs) (names : List Bs) : ∀ (m i j : Nat), b.length - i ≤ m → j ≤ i → i ≤ b.length → Chained b.length j (occs b names i)
  | m, i, j, hm, hj, hi => by
    by_cases hlt : i < b.length
    · cases ho : atP b i names with
      | none =>
        rw [occs_none hlt ho]
        cases m with
        | zero => omega
        | succ m => exact chained_of b names m (i + 1) j (by omega) (by omega) (by omega)
      | some o =>
        rw [occs_some ho]
        obtain ⟨q1, q2, q3⟩ := atP_last ho
        cases m with
        | zero => omega
        | succ m => exact ⟨by omega, by omega, q3, chained_of b names m (o.2.2 + 1) (o.2.2 + 1) (by omega) (Nat.le_refl _) (by omega)⟩
    · rw [occs_end hlt]
      show j ≤ b.length
      omega

theorem chained_occs (b : Bs) (names : List Bs) : Chained b.length 0 (occs b names 0) := chained_of b names _ 0 0 (Nat.le_refl _) (Nat.le_refl _) (Nat.zero_le _)

theorem chained_len {n : Nat} : ∀ {os : List Occ} {i : Nat}, Chained n i os → i + os.length ≤ n
  | [], i, h => h
  | o :: os, i, h => by
    obtain ⟨h1, h2, h3, h4⟩ := h
    have := chained_len h4
    simp only [List.length_cons]; omega

theorem occs_len (b : Bs) (names : List Bs) : (occs b names 0).length ≤ b.length := by
  have := chained_len (chained_occs b names); omega

/-- Up to a place: how far the text is done, and how long what was made is. -/
theorem repSt_bound {b : Bs} {form : Bs → Bs} {M : Nat} : ∀ {os : List Occ} {s : Bs × Nat}, Chained b.length s.2 os → (∀ o ∈ os, (form o.1).length ≤ M) → ∀ k, k ≤ os.length →
    Chained b.length ((os.take k).foldl (repStep b form) s).2 (os.drop k) ∧ ((os.take k).foldl (repStep b form) s).1.length + s.2 ≤ s.1.length + ((os.take k).foldl (repStep b form) s).2 + k * M ∧ s.2 ≤ ((os.take k).foldl (repStep b form) s).2
  | os, s, hc, hM, 0, _ => by simpa using hc
  | [], s, hc, hM, k + 1, hk => by simp at hk
  | o :: os, s, hc, hM, k + 1, hk => by
    obtain ⟨h1, h2, h3, h4⟩ := hc
    obtain ⟨q1, q2, q3⟩ := repSt_bound (os := os) (s := repStep b form s o) (M := M) h4 (fun o ho => hM o (List.mem_cons_of_mem _ ho)) k (by simpa using hk)
    simp only [List.take_succ_cons, List.foldl_cons, List.drop_succ_cons]
    refine ⟨q1, ?_, ?_⟩
    · have hf := hM o List.mem_cons_self
      have hl : (repStep b form s o).1.length + s.2 ≤ s.1.length + (repStep b form s o).2 + M := by
        simp only [repStep, List.length_append, List.length_drop, List.length_take]
        omega
      rw [Nat.add_mul]; omega
    · have : s.2 ≤ (repStep b form s o).2 := by simp only [repStep]; omega
      omega

def RepI (b : Bs) (form : Bs → Bs) (os : List Occ) (h0 : AH) (k : Nat) (h : AH) : Prop :=
  h0.length + 5 ≤ h.length ∧ (∀ i, i < h0.length → h[i]? = h0[i]?) ∧ h[h0.length + 4]? = some (.loop .ready none) ∧ h[h0.length + 3]? = some (.arr 1 [.int .i64 (repSt b form (os.take k)).2] true) ∧
    ∃ v, h[h0.length + 2]? = some (.arr 1 [v] true) ∧ Own (h0.length + 5) h v 1 ((repSt b form (os.take k)).1.map byteV)

theorem replace {g0 : Gh} (hG : Glob g0) (b : Bs) (names : List Bs) (form : Bs → Bs) (gf : FuncId) (u c : List PV) (f1 n1 f2 n2 : Bool) (h : AH) (hl : b.length < 100000000) (hn : names.length ≤ 12)
    (hM : ∀ o ∈ occs b names 0, (form o.1).length ≤ 10000)
    (hf : ∀ g1 h' (s : Bs), g0.le g1 → Ext h h' → s.length ≤ 100000000 → ACallV Tryd.prog g1 (.fn gf u c) [.str s] h' fun r h'' => h'' = h' ∧ r = .str (form s)) :
    ACalls Tryd.prog g0 30 [.sl 1 (b.map byteV) f1 n1, .sl 1 (names.map .str) f2 n2, .fn gf u c] h fun r h' => Ext h h' ∧ Own h.length h' r 1 ((repl b form (occs b names 0)).map byteV) := by
  refine acalls_W F30_ok rfl fun g1 hg => ?_
  generalize hos : occs b names 0 = os at hM
  have hnl : ∀ o ∈ os, o.1.length ≤ b.length := fun o ho => (occs_mem b.length 0 (by omega) (hos ▸ ho)).2
  have hch : Chained b.length 0 os := hos ▸ chained_occs b names
  have hol : os.length ≤ b.length := hos ▸ occs_len b names
  have hbd := fun k hk => repSt_bound (b := b) (form := form) (os := os) (s := ([], 0)) (M := 10000) hch hM k hk
  simp only [F30, symCode, symIts, symOp, symBind, symQ, symT, symVal, symLook, symSlice, symHeap, symStep, symRange, symRaw, symBsl, symClr, symClrH, symGb, junkG, Bool.false_eq_true, decide_true, decide_false, symRes, symFrz, symApp, symMap, symMapOp, bindO_some, Option.map_some, Option.bind_some, List.length_cons, List.length_nil, List.length_append, List.drop_zero, List.drop_succ_cons, List.take_succ_cons, List.take_zero, List.getElem?_cons_zero, List.getElem?_cons_succ, List.set_cons_zero, List.set_cons_succ, Nat.reduceLeDiff, List.map_cons, List.map_nil, setPart_agg, setPart_one, symSet, symSetF, Nat.reduceLT, fillV, buildV, List.replicate_succ, List.replicate_zero, Nat.lt_add_one, and_self, if_true, PV.one, PV.isAgg, PV.cells, PV.okc, List.all_cons, List.all_nil, Bool.and_self, List.nil_append, List.append_nil, List.cons_append, Nat.zero_add, Nat.add_zero, true_and, and_true, Nat.reduceEqDiff, reduceIte, Nat.reduceAdd]
  refine (all_ b names f1 n1 f2 n2 _).go' ?_
  rintro r rfl
  simp only [symCode, symIts, symOp, symBind, symQ, symT, symVal, symLook, symSlice, symHeap, symStep, symRange, symRaw, symBsl, symClr, symClrH, symGb, junkG, Bool.false_eq_true, decide_true, decide_false, symRes, symFrz, symApp, symMap, symMapOp, bindO_some, Option.map_some, Option.bind_some, List.length_cons, List.length_nil, List.length_append, List.drop_zero, List.drop_succ_cons, List.take_succ_cons, List.take_zero, List.getElem?_cons_zero, List.getElem?_cons_succ, List.set_cons_zero, List.set_cons_succ, Nat.reduceLeDiff, List.map_cons, List.map_nil, setPart_agg, setPart_one, symSet, symSetF, Nat.reduceLT, fillV, buildV, List.replicate_succ, List.replicate_zero, Nat.lt_add_one, and_self, if_true, PV.one, PV.isAgg, PV.cells, PV.okc, List.all_cons, List.all_nil, Bool.and_self, List.nil_append, List.append_nil, List.cons_append, Nat.zero_add, Nat.add_zero, true_and, and_true, Nat.reduceEqDiff, reduceIte, Nat.reduceAdd]
  refine vc_rfun rfl fun g2 hg2 hyield => ?_
  simp only [List.length_append, List.length_cons, List.length_nil, Nat.zero_add, List.append_assoc, List.cons_append, List.nil_append, Nat.reduceAdd] at hyield ⊢
  refine (all1 ((hG.le hg).le hg2) b names f1 n1 f2 n2 (by omega) (by omega) (RepI b form os h) _ _ ?_ ?_ ?_).mono ?_
  · -- more memory
    rintro k h' x ⟨i1, i2, i3, i6, v, i4, i5⟩
    refine ⟨by simp; omega, fun i hi => by rw [List.getElem?_append_left (by omega)]; exact i2 i hi, getElem?_app i3, getElem?_app i6, v, getElem?_app i4, i5.keep fun id hid => List.getElem?_append_left (i5.lt hid).2⟩
  · -- a round
    rintro g3 k h' o x hg3 ⟨i1, i2, i3, i6, v, i4, i5⟩ ho
    rw [hos] at ho
    have hkl : k < os.length := (List.getElem?_eq_some_iff.1 ho).1
    have hok : os[k] = o := (List.getElem?_eq_some_iff.1 ho).2
    have hlt5 := fun id hid => (i5.lt (id := id) hid)
    obtain ⟨b1, b2, b3⟩ := hbd k (by omega)
    rw [List.drop_eq_getElem_cons hkl, hok] at b1
    obtain ⟨c1, c2, c3, c4⟩ := b1
    have hst : repSt b form (os.take (k + 1)) = repStep b form (repSt b form (os.take k)) o := by
      rw [repSt, take_snoc hkl, List.foldl_append, hok]; rfl
    have hfo : (form o.1).length ≤ 10000 := hM o (hok ▸ List.getElem_mem hkl)
    have e0 : (os.take k).foldl (repStep b form) ([], 0) = repSt b form (os.take k) := rfl
    rw [e0] at b2 c1
    simp only [List.length_nil, Nat.add_zero, Nat.zero_add] at b2
    generalize hst0 : repSt b form (os.take k) = st at *
    refine (hyield [occV o] (h' ++ [x]) _ rfl (getElem?_app i3) fun g4 hg4 => ?_).later hg3
    simp only [symCode, symIts, symOp, symBind, symQ, symT, symVal, symLook, symSlice, symHeap, symStep, symRange, symRaw, symBsl, symClr, symClrH, symGb, junkG, Bool.false_eq_true, decide_true, decide_false, symRes, symFrz, symApp, symMap, symMapOp, bindO_some, Option.map_some, Option.bind_some, List.length_cons, List.length_nil, List.length_append, List.drop_zero, List.drop_succ_cons, List.take_succ_cons, List.take_zero, List.getElem?_cons_zero, List.getElem?_cons_succ, List.set_cons_zero, List.set_cons_succ, Nat.reduceLeDiff, List.map_cons, List.map_nil, setPart_agg, setPart_one, symSet, symSetF, Nat.reduceLT, fillV, buildV, List.replicate_succ, List.replicate_zero, Nat.lt_add_one, and_self, if_true, PV.one, PV.isAgg, PV.cells, PV.okc, List.all_cons, List.all_nil, Bool.and_self, List.nil_append, List.append_nil, List.cons_append, Nat.zero_add, Nat.add_zero, true_and, and_true, Nat.reduceEqDiff, reduceIte, Nat.reduceAdd, occV, symWo]
    have hL : ∀ l, (h' ++ l)[h.length + 4]? = some (.loop .ready none) := fun l => getElem?_app i3
    have hset : ∀ l o, (h' ++ l).set (h.length + 4) o = h'.set (h.length + 4) o ++ l := fun l o => by rw [List.set_append_left _ _ (by omega)]
    have hB : ∀ l o, (h'.set (h.length + 4) o ++ l)[h.length + 2]? = some (.arr 1 [v] true) := fun l o => getElem?_app (by rw [List.getElem?_set_ne (by omega)]; exact i4)
    have hB' : ∀ l o, (h'.set (h.length + 4) o ++ l)[h.length + 3]? = some (.arr 1 [.int .i64 st.2] true) := fun l o => getElem?_app (by rw [List.getElem?_set_ne (by omega)]; exact i6)
    have hO : ∀ x y o, (h'.set (h.length + 4) o ++ [x, y])[h'.length + 1]? = some y := fun x y o => by rw [List.getElem?_append_right (by simp)]; simp
    have hOs : ∀ x y z o, (h'.set (h.length + 4) o ++ [x, y]).set (h'.length + 1) z = h'.set (h.length + 4) o ++ [x, z] := fun x y z o => by rw [List.set_append_right _ _ (by simp)]; simp
    have hv1 : partV v 0 1 false = some v := by
      rcases i5 with ⟨_, sz', rfl⟩ | ⟨id', _, _, rfl⟩ <;> rfl
    simp only [symCode, symIts, symOp, symBind, symQ, symT, symVal, symLook, symSlice, symHeap, symStep, symRange, symRaw, symBsl, symClr, symClrH, symGb, junkG, Bool.false_eq_true, decide_true, decide_false, symRes, symFrz, symApp, symMap, symMapOp, bindO_some, Option.map_some, Option.bind_some, List.length_cons, List.length_nil, List.length_append, List.drop_zero, List.drop_succ_cons, List.take_succ_cons, List.take_zero, List.getElem?_cons_zero, List.getElem?_cons_succ, List.set_cons_zero, List.set_cons_succ, Nat.reduceLeDiff, List.map_cons, List.map_nil, setPart_agg, setPart_one, symSet, symSetF, Nat.reduceLT, fillV, buildV, List.replicate_succ, List.replicate_zero, Nat.lt_add_one, and_self, if_true, PV.one, PV.isAgg, PV.cells, PV.okc, List.all_cons, List.all_nil, Bool.and_self, List.nil_append, List.append_nil, List.cons_append, Nat.zero_add, Nat.add_zero, true_and, and_true, Nat.reduceEqDiff, reduceIte, Nat.reduceAdd, hL, hset, hB, hB', hO, hOs, hv1, Int.toNat_natCast, List.length_map, ← List.map_take, ← List.map_drop]
    (repeat (first | refine And.intro (inR_i64.2 (by omega)) ?_ | refine And.intro (by omega) ?_))
    have hpf : partV (.fn gf u c) 0 1 false = some (.fn gf u c) := rfl
    simp only [symCode, symIts, symOp, symBind, symQ, symT, symVal, symLook, symSlice, symHeap, symStep, symRange, symRaw, symBsl, symClr, symClrH, symGb, junkG, Bool.false_eq_true, decide_true, decide_false, symRes, symFrz, symApp, symMap, symMapOp, bindO_some, Option.map_some, Option.bind_some, List.length_cons, List.length_nil, List.length_append, List.drop_zero, List.drop_succ_cons, List.take_succ_cons, List.take_zero, List.getElem?_cons_zero, List.getElem?_cons_succ, List.set_cons_zero, List.set_cons_succ, Nat.reduceLeDiff, List.map_cons, List.map_nil, setPart_agg, setPart_one, symSet, symSetF, Nat.reduceLT, fillV, buildV, List.replicate_succ, List.replicate_zero, Nat.lt_add_one, and_self, if_true, PV.one, PV.isAgg, PV.cells, PV.okc, List.all_cons, List.all_nil, Bool.and_self, List.nil_append, List.append_nil, List.cons_append, Nat.zero_add, Nat.add_zero, true_and, and_true, Nat.reduceEqDiff, reduceIte, Nat.reduceAdd, hpf]
    have hds : ((b.take o.2.1).drop st.2).length ≤ b.length := by rw [List.length_drop, List.length_take]; omega
    have hsl : st.1.length ≤ 1100000000000 := by
      have : k * 10000 ≤ 100000000 * 10000 := Nat.mul_le_mul_right _ (by omega)
      omega
    generalize hx2 : (AObj.arr 3 [.agg [.str o.1, .int .i64 o.2.1, .int .i64 o.2.2]] false) = x2
    have hown : Own (h.length + 5) (h'.set (h.length + 4) (.loop .busy none) ++ [x, x2]) v 1 (st.1.map byteV) :=
      i5.keep fun id hid => by
        have := hlt5 id hid
        rw [List.getElem?_append_left (by simp; omega), List.getElem?_set_ne (by omega)]
    refine hown.app (by simp; omega) ⟨by rw [List.length_map, List.length_map]; omega, by rw [List.length_map, List.length_map]; omega⟩ fun v2 h2 ha hl2 hkp hnew => ?_
    simp only [List.length_append, List.length_set, List.length_cons, List.length_nil] at hl2 hkp hnew
    have hlt6 := fun id hid => (ha.lt (id := id) hid)
    have hold : ∀ i, i < h.length + 5 → i ≠ h.length + 4 → h2[i]? = h'[i]? := fun i hi hne => by
      rw [hkp _ (by omega) (fun e => by have := hlt5 _ e; omega), List.getElem?_append_left (by simp; omega), List.getElem?_set_ne (by omega)]
    have hX2 : h2[h'.length]? = some x := by
      rw [hkp _ (by omega) (fun e => by have := hlt5 _ e; omega), List.getElem?_append_right (by simp)]
      simp
    have hL2 : h2[h.length + 4]? = some (.loop .busy none) := by
      rw [hkp _ (by omega) (fun e => by have := hlt5 _ e; omega), List.getElem?_append_left (by simp; omega), List.getElem?_set_self (by omega)]
    simp only [symCode, symIts, symOp, symBind, symQ, symT, symVal, symLook, symSlice, symHeap, symStep, symRange, symRaw, symBsl, symClr, symClrH, symGb, junkG, Bool.false_eq_true, decide_true, decide_false, symRes, symFrz, symApp, symMap, symMapOp, bindO_some, Option.map_some, Option.bind_some, List.length_cons, List.length_nil, List.length_append, List.drop_zero, List.drop_succ_cons, List.take_succ_cons, List.take_zero, List.getElem?_cons_zero, List.getElem?_cons_succ, List.set_cons_zero, List.set_cons_succ, Nat.reduceLeDiff, List.map_cons, List.map_nil, setPart_agg, setPart_one, symSet, symSetF, Nat.reduceLT, fillV, buildV, List.replicate_succ, List.replicate_zero, Nat.lt_add_one, and_self, if_true, PV.one, PV.isAgg, PV.cells, PV.okc, List.all_cons, List.all_nil, Bool.and_self, List.nil_append, List.append_nil, List.cons_append, Nat.zero_add, Nat.add_zero, true_and, and_true, Nat.reduceEqDiff, reduceIte, Nat.reduceAdd]
    refine (hf g4 h2 o.1 ((hg.trans hg2).trans hg4) ⟨by omega, fun i hi => by rw [hold i (by omega) (by omega)]; exact i2 i hi⟩ (by have := hnl o (hok ▸ List.getElem_mem hkl); omega)).go' ?_
    rintro r rfl
    simp only [symCode, symIts, symOp, symBind, symQ, symT, symVal, symLook, symSlice, symHeap, symStep, symRange, symRaw, symBsl, symClr, symClrH, symGb, junkG, Bool.false_eq_true, decide_true, decide_false, symRes, symFrz, symApp, symMap, symMapOp, bindO_some, Option.map_some, Option.bind_some, List.length_cons, List.length_nil, List.length_append, List.drop_zero, List.drop_succ_cons, List.take_succ_cons, List.take_zero, List.getElem?_cons_zero, List.getElem?_cons_succ, List.set_cons_zero, List.set_cons_succ, Nat.reduceLeDiff, List.map_cons, List.map_nil, setPart_agg, setPart_one, symSet, symSetF, Nat.reduceLT, fillV, buildV, List.replicate_succ, List.replicate_zero, Nat.lt_add_one, and_self, if_true, PV.one, PV.isAgg, PV.cells, PV.okc, List.all_cons, List.all_nil, Bool.and_self, List.nil_append, List.append_nil, List.cons_append, Nat.zero_add, Nat.add_zero, true_and, and_true, Nat.reduceEqDiff, reduceIte, Nat.reduceAdd]
    rw [← List.map_append] at ha
    refine ha.app (by omega) ⟨by simp only [List.length_map, List.length_append]; omega, by simp only [List.length_map, List.length_append]; omega⟩ fun v3 h3 ha3 hl3 hkp3 _ => ?_
    have hlt7 := fun id hid => (ha3.lt (id := id) hid)
    have hold3 : ∀ i, i < h'.length + 1 → i < h.length + 5 ∨ i = h'.length → h3[i]? = h2[i]? := fun i hi _ => by
      rw [hkp3 _ (by omega) (fun e => by have := hnew _ e; omega)]
    have hB2 : h3[h.length + 2]? = some (.arr 1 [v] true) := by rw [hold3 _ (by omega) (.inl (by omega)), hold _ (by omega) (by omega)]; exact i4
    have hC2 : h3[h.length + 3]? = some (.arr 1 [.int .i64 st.2] true) := by rw [hold3 _ (by omega) (.inl (by omega)), hold _ (by omega) (by omega)]; exact i6
    have hL3 : h3[h.length + 4]? = some (.loop .busy none) := by rw [hold3 _ (by omega) (.inl (by omega))]; exact hL2
    have hX3 : h3[h'.length]? = some x := by rw [hold3 _ (by omega) (.inr rfl)]; exact hX2
    have hsp : setPart v 0 1 v3 = some v3 := setPart_cell _ _ i5.one.2 ha3.one.2 ha3.one.1
    have hC3 : ∀ o, (h3.set (h.length + 2) o)[h.length + 3]? = some (.arr 1 [.int .i64 st.2] true) := fun o => by rw [List.getElem?_set_ne (by omega)]; exact hC2
    simp only [symCode, symIts, symOp, symBind, symQ, symT, symVal, symLook, symSlice, symHeap, symStep, symRange, symRaw, symBsl, symClr, symClrH, symGb, junkG, Bool.false_eq_true, decide_true, decide_false, symRes, symFrz, symApp, symMap, symMapOp, bindO_some, Option.map_some, Option.bind_some, List.length_cons, List.length_nil, List.length_append, List.drop_zero, List.drop_succ_cons, List.take_succ_cons, List.take_zero, List.getElem?_cons_zero, List.getElem?_cons_succ, List.set_cons_zero, List.set_cons_succ, Nat.reduceLeDiff, List.map_cons, List.map_nil, setPart_agg, setPart_one, symSet, symSetF, Nat.reduceLT, fillV, buildV, List.replicate_succ, List.replicate_zero, Nat.lt_add_one, and_self, if_true, PV.one, PV.isAgg, PV.cells, PV.okc, List.all_cons, List.all_nil, Bool.and_self, List.nil_append, List.append_nil, List.cons_append, Nat.zero_add, Nat.add_zero, true_and, and_true, Nat.reduceEqDiff, reduceIte, Nat.reduceAdd, hB2, hsp, hC3, symRound]
    (repeat (first | refine And.intro (inR_i64.2 (by omega)) ?_ | refine And.intro (by omega) ?_))
    have hlen3 : h'.length + 2 ≤ h3.length := by omega
    refine ⟨by rw [List.getElem?_set_ne (by omega), List.getElem?_set_ne (by omega)]; exact hL3, ⟨by simp; omega, fun i hi => ?_, by rw [List.getElem?_set_self (by simp; omega)], ?_, v3, ?_, ?_⟩, ?_⟩
    · rw [List.getElem?_set_ne (by omega), List.getElem?_set_ne (by omega), List.getElem?_set_ne (by omega), hold3 _ (by omega) (.inl (by omega)), hold _ (by omega) (by omega)]
      exact i2 i hi
    · rw [List.getElem?_set_ne (by omega), List.getElem?_set_self (by simp; omega), hst]
      simp [repStep]
    · rw [List.getElem?_set_ne (by omega), List.getElem?_set_ne (by omega), List.getElem?_set_self (by omega)]
    · rw [hst]
      have e3 : (repStep b form st o).1.map byteV = ((st.1 ++ (b.take o.2.1).drop st.2).map byteV) ++ (form o.1).map byteV := by simp [repStep]
      rw [e3]
      refine Own.keep ha3 fun id hid => ?_
      have := hlt7 id hid
      rw [List.getElem?_set_ne (by omega), List.getElem?_set_ne (by omega), List.getElem?_set_ne (by omega)]
    · rw [List.getElem?_set_ne (by omega), List.getElem?_set_ne (by omega), List.getElem?_set_ne (by omega)]
      exact hX3
  · -- ahead of the first one
    refine ⟨by simp, fun i hi => by rw [List.getElem?_append_left hi], by simp, by simp [repSt], .sl 0 [] true true, by simp, .inl ⟨by simp [repSt], 0, rfl⟩⟩
  · -- behind the last one
    rintro r h' ⟨rfl, i1, i2, i3, i6, v, i4, i5⟩
    rw [hos, List.take_length] at i6 i5
    obtain ⟨b1, b2, b3⟩ := hbd os.length (Nat.le_refl _)
    rw [List.take_length, List.drop_length] at b1
    rw [List.take_length] at b2
    have e0 : os.foldl (repStep b form) ([], 0) = repSt b form os := rfl
    rw [e0] at b1 b2
    simp only [List.length_nil, Nat.add_zero, Nat.zero_add] at b2
    have b4 : (repSt b form os).2 ≤ b.length := b1
    refine rfunQ_ready i3 ?_
    have hv1 : partV v 0 1 false = some v := by
      rcases i5 with ⟨_, sz', rfl⟩ | ⟨id', _, _, rfl⟩ <;> rfl
    have hB : (h'.set (h.length + 4) .dead)[h.length + 2]? = some (.arr 1 [v] true) := by rw [List.getElem?_set_ne (by omega)]; exact i4
    have hC : (h'.set (h.length + 4) .dead)[h.length + 3]? = some (.arr 1 [.int .i64 (repSt b form os).2] true) := by rw [List.getElem?_set_ne (by omega)]; exact i6
    have hlt5 := fun id hid => (i5.lt (id := id) hid)
    have hown : Own (h.length + 5) (h'.set (h.length + 4) .dead) v 1 ((repSt b form os).1.map byteV) := i5.keep fun id hid => by
      have := hlt5 id hid
      rw [List.getElem?_set_ne (by omega)]
    have hsl : (repSt b form os).1.length ≤ 1100000000000 := by
      have : os.length * 10000 ≤ 100000000 * 10000 := Nat.mul_le_mul_right _ (by omega)
      omega
    simp only [symCode, symIts, symOp, symBind, symQ, symT, symVal, symLook, symSlice, symHeap, symStep, symRange, symRaw, symBsl, symClr, symClrH, symGb, junkG, Bool.false_eq_true, decide_true, decide_false, symRes, symFrz, symApp, symMap, symMapOp, bindO_some, Option.map_some, Option.bind_some, List.length_cons, List.length_nil, List.length_append, List.drop_zero, List.drop_succ_cons, List.take_succ_cons, List.take_zero, List.getElem?_cons_zero, List.getElem?_cons_succ, List.set_cons_zero, List.set_cons_succ, Nat.reduceLeDiff, List.map_cons, List.map_nil, setPart_agg, setPart_one, symSet, symSetF, Nat.reduceLT, fillV, buildV, List.replicate_succ, List.replicate_zero, Nat.lt_add_one, and_self, if_true, PV.one, PV.isAgg, PV.cells, PV.okc, List.all_cons, List.all_nil, Bool.and_self, List.nil_append, List.append_nil, List.cons_append, Nat.zero_add, Nat.add_zero, true_and, and_true, Nat.reduceEqDiff, reduceIte, Nat.reduceAdd, hB, hC, hv1, Int.toNat_natCast, List.length_map, ← List.map_take, ← List.map_drop, List.take_length]
    (repeat (first | refine And.intro (inR_i64.2 (by omega)) ?_ | refine And.intro (by omega) ?_))
    refine hown.app (by simp; omega) ⟨by rw [List.length_map, List.length_map, List.length_drop]; omega, by rw [List.length_map, List.length_map, List.length_drop]; omega⟩ fun v2 h2 ha hl2 hkp hnew => ?_
    simp only [List.length_set] at hl2 hkp hnew
    simp only [symCode, symIts, symOp, symBind, symQ, symT, symVal, symLook, symSlice, symHeap, symStep, symRange, symRaw, symBsl, symClr, symClrH, symGb, junkG, Bool.false_eq_true, decide_true, decide_false, symRes, symFrz, symApp, symMap, symMapOp, bindO_some, Option.map_some, Option.bind_some, List.length_cons, List.length_nil, List.length_append, List.drop_zero, List.drop_succ_cons, List.take_succ_cons, List.take_zero, List.getElem?_cons_zero, List.getElem?_cons_succ, List.set_cons_zero, List.set_cons_succ, Nat.reduceLeDiff, List.map_cons, List.map_nil, setPart_agg, setPart_one, symSet, symSetF, Nat.reduceLT, fillV, buildV, List.replicate_succ, List.replicate_zero, Nat.lt_add_one, and_self, if_true, PV.one, PV.isAgg, PV.cells, PV.okc, List.all_cons, List.all_nil, Bool.and_self, List.nil_append, List.append_nil, List.cons_append, Nat.zero_add, Nat.add_zero, true_and, and_true, Nat.reduceEqDiff, reduceIte, Nat.reduceAdd]
    refine ⟨⟨by omega, fun i hi => ?_⟩, ?_⟩
    · rw [hkp _ (by omega) (fun e => by have := hlt5 _ e; omega), List.getElem?_set_ne (by omega)]; exact i2 i hi
    · rw [← List.map_append] at ha
      rcases ha with ⟨q1, q2⟩ | ⟨id, q1, q2⟩
      · exact .inl ⟨q1, q2⟩
      · exact .inr ⟨id, by omega, q2⟩

end Go.K10
