/- Contracts: the sort of at most twelve texts. -/
import Derived.Test.YtppeejkegbjgdaaDoorKd
set_option linter.unusedSimpArgs false
set_option linter.unusedVariables false
namespace Go.K10
open Go Go.Avm Go.Proofs

theorem less_irrefl : ∀ x : Bs, bytesLess x x = false
  | [] => rfl
  | a :: x => by
    have := less_irrefl x
    simp [bytesLess, Op.bytesLess] at this ⊢
    exact this

theorem less_anti : ∀ {x y : Bs}, bytesLess x y = false → bytesLess y x = false → x = y
  | [], [], _, _ => rfl
  | [], _ :: _, h, _ => by simp [bytesLess, Op.bytesLess] at h
  | _ :: _, [], _, h => by simp [bytesLess, Op.bytesLess] at h
  | a :: x, b :: y, h1, h2 => by
    simp only [bytesLess, Op.bytesLess, Bool.or_eq_false_iff, decide_eq_false_iff_not, Bool.and_eq_false_iff, beq_eq_false_iff_ne] at h1 h2
    have hab : a = b := by
      have q1 := h1.1; have q2 := h2.1
      rw [UInt8.lt_iff_toNat_lt] at q1 q2
      exact UInt8.toNat_inj.1 (by omega)
    subst hab
    rw [less_anti (x := x) (y := y) (h1.2.resolve_left (by simp)) (h2.2.resolve_left (by simp))]

theorem le_trans : ∀ {x y z : Bs}, bytesLess y x = false → bytesLess z y = false → bytesLess z x = false
  | [], _, [], _, _ => rfl
  | [], [], _ :: _, _, _ => rfl
  | [], _ :: _, c :: z, _, _ => rfl
  | _ :: _, [], _, h, _ => by simp [bytesLess, Op.bytesLess] at h
  | _ :: _, _ :: _, [], _, h => by simp [bytesLess, Op.bytesLess] at h
  | a :: x, b :: y, c :: z, h1, h2 => by
    simp only [bytesLess, Op.bytesLess, Bool.or_eq_false_iff, decide_eq_false_iff_not, Bool.and_eq_false_iff, beq_eq_false_iff_ne, UInt8.lt_iff_toNat_lt, ne_eq, ← UInt8.toNat_inj] at h1 h2 ⊢
    refine ⟨by omega, ?_⟩
    by_cases e : c.toNat = a.toNat
    · right
      have q1 := h1.2.resolve_left (by omega)
      have q2 := h2.2.resolve_left (by omega)
      exact le_trans (x := x) (y := y) (z := z) q1 q2
    · exact .inl e

def SortedS (l : List Bs) : Prop := l.Pairwise fun a b => bytesLess b a = false

theorem lt_le {x y : Bs} (h : bytesLess x y = true) : bytesLess y x = false := by
  cases hb : bytesLess y x with
  | false => rfl
  | true =>
    exfalso
    have key : ∀ x y : Bs, bytesLess x y = true → bytesLess y x = true → False := by
      intro x
      induction x with
      | nil => intro y _ h2; simp [bytesLess, Op.bytesLess] at h2
      | cons a x ih =>
        intro y h1 h2
        cases y with
        | nil => simp [bytesLess, Op.bytesLess] at h1
        | cons b y =>
          simp only [bytesLess, Op.bytesLess, Bool.or_eq_true, decide_eq_true_eq, Bool.and_eq_true, beq_iff_eq, UInt8.lt_iff_toNat_lt] at h1 h2
          rcases h1 with h1 | ⟨rfl, h1⟩ <;> rcases h2 with h2 | ⟨e, h2⟩
          · omega
          · subst e; omega
          · omega
          · exact ih y h1 h2
    exact key _ _ h hb

theorem sorted_insert {A B : List Bs} {x : Bs} (hs : SortedS (A ++ B)) (hb : ∀ b ∈ B, bytesLess x b = true) (ha : A = [] ∨ ∃ A' y, A = A' ++ [y] ∧ bytesLess x y = false) : SortedS (A ++ x :: B) := by
  unfold SortedS at hs ⊢
  rw [List.pairwise_append] at hs ⊢
  obtain ⟨s1, s2, s3⟩ := hs
  refine ⟨s1, List.pairwise_cons.2 ⟨fun b hb' => lt_le (hb b hb'), s2⟩, fun a haA b hbB => ?_⟩
  rcases List.mem_cons.1 hbB with rfl | hbB
  · rcases ha with rfl | ⟨A', y, rfl, hy⟩
    · simp at haA
    · rcases List.mem_append.1 haA with h | h
      · exact le_trans ((List.pairwise_append.1 s1).2.2 a h y (by simp)) hy
      · simp at h; subst h; exact hy
  · exact s3 a haA b hbB

theorem insertionSort {g0 : Gh} (h : AH) (id : Nat) (hid : id < h.length) (xs : List Bs) (hl : xs.length < 1000000000) :
    ACalls Tryd.prog g0 58 [.asl id 1 0 xs.length, .int .i64 0, .int .i64 xs.length] (h.set id (.arr 1 (xs.map .str) true)) fun r h' => r = .tuple [] ∧ ∃ ys : List Bs, ys.Perm xs ∧ SortedS ys ∧ h' = h.set id (.arr 1 (ys.map .str) true) := by
  refine acalls_W F58_ok rfl fun g1 hg => ?_
  simp only [F58, symCode, symIts, symOp, symBind, symQ, symT, symVal, symLook, symSlice, symHeap, symStep, symRange, symBsl, symClr, symClrH, symGb, junkG, Bool.false_eq_true, symRes, symFrz, symApp, symMap, symMapOp, bindO_some, Option.map_some, Option.bind_some, List.length_cons, List.length_nil, List.length_append, List.drop_zero, List.drop_succ_cons, List.take_succ_cons, List.take_zero, List.getElem?_cons_zero, List.getElem?_cons_succ, List.set_cons_zero, List.set_cons_succ, Nat.reduceLeDiff, List.map_cons, List.map_nil, setPart_agg, setPart_one, symSet, symSetF, Nat.reduceLT, fillV, buildV, List.replicate_succ, List.replicate_zero, Nat.lt_add_one, and_self, if_true, PV.one, PV.isAgg, PV.cells, PV.okc, List.all_cons, List.all_nil, Bool.and_self, List.nil_append, List.append_nil, List.cons_append, Nat.zero_add, Nat.add_zero, true_and, and_true, Nat.reduceEqDiff, reduceIte, Nat.reduceAdd]
  refine ⟨inR_i64.2 (by omega), ALoop.range xs.length (fun k t h' => ∃ ys : List Bs, ys.Perm xs ∧ SortedS (ys.take (k + 1)) ∧ h' = h.set id (.arr 1 (ys.map .str) true) ∧ t = [(0, .asl id 1 0 xs.length), (1, .int .i64 0), (2, .int .i64 xs.length), (6, .int .i64 (k + 1))]) ?_ ?_⟩
  · simp only [symCode, symIts, symOp, symBind, symQ, symT, symVal, symLook, symSlice, symHeap, symStep, symRange, symBsl, symClr, symClrH, symGb, junkG, Bool.false_eq_true, symRes, symFrz, symApp, symMap, symMapOp, bindO_some, Option.map_some, Option.bind_some, List.length_cons, List.length_nil, List.length_append, List.drop_zero, List.drop_succ_cons, List.take_succ_cons, List.take_zero, List.getElem?_cons_zero, List.getElem?_cons_succ, List.set_cons_zero, List.set_cons_succ, Nat.reduceLeDiff, List.map_cons, List.map_nil, setPart_agg, setPart_one, symSet, symSetF, Nat.reduceLT, fillV, buildV, List.replicate_succ, List.replicate_zero, Nat.lt_add_one, and_self, if_true, PV.one, PV.isAgg, PV.cells, PV.okc, List.all_cons, List.all_nil, Bool.and_self, List.nil_append, List.append_nil, List.cons_append, Nat.zero_add, Nat.add_zero, true_and, and_true, Nat.reduceEqDiff, reduceIte, Nat.reduceAdd]
    refine ⟨xs, List.Perm.refl _, ?_, rfl, rfl⟩
    cases xs with
    | nil => exact List.Pairwise.nil
    | cons x xs => exact List.pairwise_singleton _ _
  · rintro k t h' hk ⟨ys, hp, hs, rfl, rfl⟩
    have hly := hp.length_eq
    simp only [symCode, symIts, symOp, symBind, symQ, symT, symVal, symLook, symSlice, symHeap, symStep, symRange, symBsl, symClr, symClrH, symGb, junkG, Bool.false_eq_true, symRes, symFrz, symApp, symMap, symMapOp, bindO_some, Option.map_some, Option.bind_some, List.length_cons, List.length_nil, List.length_append, List.drop_zero, List.drop_succ_cons, List.take_succ_cons, List.take_zero, List.getElem?_cons_zero, List.getElem?_cons_succ, List.set_cons_zero, List.set_cons_succ, Nat.reduceLeDiff, List.map_cons, List.map_nil, setPart_agg, setPart_one, symSet, symSetF, Nat.reduceLT, fillV, buildV, List.replicate_succ, List.replicate_zero, Nat.lt_add_one, and_self, if_true, PV.one, PV.isAgg, PV.cells, PV.okc, List.all_cons, List.all_nil, Bool.and_self, List.nil_append, List.append_nil, List.cons_append, Nat.zero_add, Nat.add_zero, true_and, and_true, Nat.reduceEqDiff, reduceIte, Nat.reduceAdd]
    refine brC_mk (fun hc => ?_) (fun hc => ?_)
    · have hi : k + 1 < ys.length := by simp at hc; omega
      simp only [symCode, symIts, symOp, symBind, symQ, symT, symVal, symLook, symSlice, symHeap, symStep, symRange, symBsl, symClr, symClrH, symGb, junkG, Bool.false_eq_true, symRes, symFrz, symApp, symMap, symMapOp, bindO_some, Option.map_some, Option.bind_some, List.length_cons, List.length_nil, List.length_append, List.drop_zero, List.drop_succ_cons, List.take_succ_cons, List.take_zero, List.getElem?_cons_zero, List.getElem?_cons_succ, List.set_cons_zero, List.set_cons_succ, Nat.reduceLeDiff, List.map_cons, List.map_nil, setPart_agg, setPart_one, symSet, symSetF, Nat.reduceLT, fillV, buildV, List.replicate_succ, List.replicate_zero, Nat.lt_add_one, and_self, if_true, PV.one, PV.isAgg, PV.cells, PV.okc, List.all_cons, List.all_nil, Bool.and_self, List.nil_append, List.append_nil, List.cons_append, Nat.zero_add, Nat.add_zero, true_and, and_true, Nat.reduceEqDiff, reduceIte, Nat.reduceAdd]
      refine ALoop.range (k + 1) (fun q t h' => ∃ (A B : List Bs) (x : Bs) (R : List Bs), (A ++ x :: B ++ R).Perm xs ∧ SortedS (A ++ B) ∧ (∀ b ∈ B, bytesLess x b = true) ∧ A.length + q = k + 1 ∧ B.length = q ∧ h' = h.set id (.arr 1 ((A ++ x :: B ++ R).map .str) true) ∧ t = [(0, .asl id 1 0 xs.length), (1, .int .i64 0), (2, .int .i64 xs.length), (6, .int .i64 (k + 1)), (7, .int .i64 A.length)]) ?_ ?_
      · simp only [symCode, symIts, symOp, symBind, symQ, symT, symVal, symLook, symSlice, symHeap, symStep, symRange, symBsl, symClr, symClrH, symGb, junkG, Bool.false_eq_true, symRes, symFrz, symApp, symMap, symMapOp, bindO_some, Option.map_some, Option.bind_some, List.length_cons, List.length_nil, List.length_append, List.drop_zero, List.drop_succ_cons, List.take_succ_cons, List.take_zero, List.getElem?_cons_zero, List.getElem?_cons_succ, List.set_cons_zero, List.set_cons_succ, Nat.reduceLeDiff, List.map_cons, List.map_nil, setPart_agg, setPart_one, symSet, symSetF, Nat.reduceLT, fillV, buildV, List.replicate_succ, List.replicate_zero, Nat.lt_add_one, and_self, if_true, PV.one, PV.isAgg, PV.cells, PV.okc, List.all_cons, List.all_nil, Bool.and_self, List.nil_append, List.append_nil, List.cons_append, Nat.zero_add, Nat.add_zero, true_and, and_true, Nat.reduceEqDiff, reduceIte, Nat.reduceAdd]
        refine ⟨ys.take (k + 1), [], ys[k + 1], ys.drop (k + 2), ?_, by simpa using hs, by simp, by simp; omega, rfl, ?_, ?_⟩
        · simpa [← List.drop_eq_getElem_cons hi] using hp
        · simp [← List.drop_eq_getElem_cons hi]
        · simp; omega
      · rintro q t h' hq ⟨A, B, x, R, hp, hs, hx, hA, hB, rfl, rfl⟩
        have hlen := hp.length_eq
        simp only [List.length_append, List.length_cons] at hlen
        have fin : (A = [] ∨ ∃ A' y, A = A' ++ [y] ∧ bytesLess x y = false) → ∃ ys : List Bs, ys.Perm xs ∧ SortedS (ys.take (k + 1 + 1)) ∧ h.set id (.arr 1 ((A ++ x :: B ++ R).map .str) true) = h.set id (.arr 1 (ys.map .str) true) := fun hA' =>
          ⟨A ++ x :: B ++ R, hp, by rw [List.take_left' (by simp; omega)]; exact sorted_insert hs hx hA', rfl⟩
        simp only [symCode, symIts, symOp, symBind, symQ, symT, symVal, symLook, symSlice, symHeap, symStep, symRange, symBsl, symClr, symClrH, symGb, junkG, Bool.false_eq_true, symRes, symFrz, symApp, symMap, symMapOp, bindO_some, Option.map_some, Option.bind_some, List.length_cons, List.length_nil, List.length_append, List.drop_zero, List.drop_succ_cons, List.take_succ_cons, List.take_zero, List.getElem?_cons_zero, List.getElem?_cons_succ, List.set_cons_zero, List.set_cons_succ, Nat.reduceLeDiff, List.map_cons, List.map_nil, setPart_agg, setPart_one, symSet, symSetF, Nat.reduceLT, fillV, buildV, List.replicate_succ, List.replicate_zero, Nat.lt_add_one, and_self, if_true, PV.one, PV.isAgg, PV.cells, PV.okc, List.all_cons, List.all_nil, Bool.and_self, List.nil_append, List.append_nil, List.cons_append, Nat.zero_add, Nat.add_zero, true_and, and_true, Nat.reduceEqDiff, reduceIte, Nat.reduceAdd]
        rcases (show A = [] ∨ ∃ A' y, A = A' ++ [y] from (List.eq_nil_or_concat A).imp (fun e => e) fun ⟨a, b, e⟩ => ⟨a, b, by rw [e, List.concat_eq_append]⟩) with rfl | ⟨A', y, rfl⟩
        · have e1 : decide ((0 : Int) < ((0 : Nat) : Int)) = false := rfl
          simp only [symCode, symIts, symOp, symBind, symQ, symT, symVal, symLook, symSlice, symHeap, symStep, symRange, symBsl, symClr, symClrH, symGb, junkG, Bool.false_eq_true, symRes, symFrz, symApp, symMap, symMapOp, bindO_some, Option.map_some, Option.bind_some, List.length_cons, List.length_nil, List.length_append, List.drop_zero, List.drop_succ_cons, List.take_succ_cons, List.take_zero, List.getElem?_cons_zero, List.getElem?_cons_succ, List.set_cons_zero, List.set_cons_succ, Nat.reduceLeDiff, List.map_cons, List.map_nil, setPart_agg, setPart_one, symSet, symSetF, Nat.reduceLT, fillV, buildV, List.replicate_succ, List.replicate_zero, Nat.lt_add_one, and_self, if_true, PV.one, PV.isAgg, PV.cells, PV.okc, List.all_cons, List.all_nil, Bool.and_self, List.nil_append, List.append_nil, List.cons_append, Nat.zero_add, Nat.add_zero, true_and, and_true, Nat.reduceEqDiff, reduceIte, Nat.reduceAdd, e1, Bool.not_false]
          obtain ⟨ys, q1, q2, q3⟩ := fin (.inl rfl)
          refine ⟨inR_i64.2 (by omega), by omega, ys, q1, q2, ?_, rfl⟩
          simpa using q3
        · have el : (A' ++ [y]).length = A'.length + 1 := by simp
          have es : A' ++ [y] ++ x :: B ++ R = A' ++ y :: x :: (B ++ R) := by simp
          have e1 : decide ((0 : Int) < ((A'.length + 1 : Nat) : Int)) = true := by simp
          have e2 : ((A'.length + 1 : Nat) : Int) - 1 = (A'.length : Int) := by omega
          have g1 : ∀ C : List Bs, (List.map PV.str (A' ++ y :: x :: C))[A'.length + 1]? = some (.str x) := fun C => by simp
          have g2 : ∀ C : List Bs, (List.map PV.str (A' ++ y :: x :: C))[A'.length]? = some (.str y) := fun C => by simp
          have s1 : ∀ C : List Bs, (List.map PV.str (A' ++ y :: x :: C)).set (A'.length + 1) (.str y) = List.map PV.str (A' ++ y :: y :: C) := fun C => by
            rw [← List.map_set]; simp
          have g3 : ∀ C : List Bs, (List.map PV.str (A' ++ y :: y :: C))[A'.length]? = some (.str y) := fun C => by simp
          have s2 : ∀ C : List Bs, (List.map PV.str (A' ++ y :: y :: C)).set A'.length (.str x) = List.map PV.str (A' ++ x :: y :: C) := fun C => by
            rw [← List.map_set]; simp
          have hset : ∀ o : AObj, (h.set id o)[id]? = some o := fun o => List.getElem?_set_self hid
          rw [el] at hA hlen
          simp only [el, es, symCode, symIts, symOp, symBind, symQ, symT, symVal, symLook, symSlice, symHeap, symStep, symRange, symBsl, symClr, symClrH, symGb, junkG, Bool.false_eq_true, symRes, symFrz, symApp, symMap, symMapOp, bindO_some, Option.map_some, Option.bind_some, List.length_cons, List.length_nil, List.length_append, List.drop_zero, List.drop_succ_cons, List.take_succ_cons, List.take_zero, List.getElem?_cons_zero, List.getElem?_cons_succ, List.set_cons_zero, List.set_cons_succ, Nat.reduceLeDiff, List.map_cons, List.map_nil, setPart_agg, setPart_one, symSet, symSetF, Nat.reduceLT, fillV, buildV, List.replicate_succ, List.replicate_zero, Nat.lt_add_one, and_self, if_true, PV.one, PV.isAgg, PV.cells, PV.okc, List.all_cons, List.all_nil, Bool.and_self, List.nil_append, List.append_nil, List.cons_append, Nat.zero_add, Nat.add_zero, true_and, and_true, Nat.reduceEqDiff, reduceIte, Nat.reduceAdd, e1, e2, hset, Int.toNat_natCast, Nat.zero_add, g1, g2]
          refine ⟨by omega, by omega, inR_i64.2 (by omega), by omega, by omega, (Less x y _).go' ?_⟩
          rintro r rfl
          simp only [symCode, symIts, symOp, symBind, symQ, symT, symVal, symLook, symSlice, symHeap, symStep, symRange, symBsl, symClr, symClrH, symGb, junkG, Bool.false_eq_true, symRes, symFrz, symApp, symMap, symMapOp, bindO_some, Option.map_some, Option.bind_some, List.length_cons, List.length_nil, List.length_append, List.drop_zero, List.drop_succ_cons, List.take_succ_cons, List.take_zero, List.getElem?_cons_zero, List.getElem?_cons_succ, List.set_cons_zero, List.set_cons_succ, Nat.reduceLeDiff, List.map_cons, List.map_nil, setPart_agg, setPart_one, symSet, symSetF, Nat.reduceLT, fillV, buildV, List.replicate_succ, List.replicate_zero, Nat.lt_add_one, and_self, if_true, PV.one, PV.isAgg, PV.cells, PV.okc, List.all_cons, List.all_nil, Bool.and_self, List.nil_append, List.append_nil, List.cons_append, Nat.zero_add, Nat.add_zero, true_and, and_true, Nat.reduceEqDiff, reduceIte, Nat.reduceAdd]
          refine brC_mk (fun hc => ?_) (fun hc => ?_)
          · simp only [symCode, symIts, symOp, symBind, symQ, symT, symVal, symLook, symSlice, symHeap, symStep, symRange, symBsl, symClr, symClrH, symGb, junkG, Bool.false_eq_true, symRes, symFrz, symApp, symMap, symMapOp, bindO_some, Option.map_some, Option.bind_some, List.length_cons, List.length_nil, List.length_append, List.drop_zero, List.drop_succ_cons, List.take_succ_cons, List.take_zero, List.getElem?_cons_zero, List.getElem?_cons_succ, List.set_cons_zero, List.set_cons_succ, Nat.reduceLeDiff, List.map_cons, List.map_nil, setPart_agg, setPart_one, symSet, symSetF, Nat.reduceLT, fillV, buildV, List.replicate_succ, List.replicate_zero, Nat.lt_add_one, and_self, if_true, PV.one, PV.isAgg, PV.cells, PV.okc, List.all_cons, List.all_nil, Bool.and_self, List.nil_append, List.append_nil, List.cons_append, Nat.zero_add, Nat.add_zero, true_and, and_true, Nat.reduceEqDiff, reduceIte, Nat.reduceAdd, e2, hset, Int.toNat_natCast, Nat.zero_add, g1, g2, g3, s1, s2, List.set_set, Int.natCast_nonneg]
            (repeat (first | refine And.intro (inR_i64.2 (by omega)) ?_ | refine And.intro (by omega) ?_))
            refine ⟨A', y :: B, x, R, ?_, ?_, ?_, by omega, by simp; omega, ?_, rfl⟩
            · refine List.Perm.trans ?_ hp
              rw [es]
              have : A' ++ x :: (y :: B) ++ R = A' ++ x :: y :: (B ++ R) := by simp
              rw [this]
              exact List.Perm.append_left _ (List.Perm.swap _ _ _)
            · have : A' ++ [y] ++ B = A' ++ y :: B := by simp
              rw [this] at hs; exact hs
            · intro b hb
              rcases List.mem_cons.1 hb with rfl | hb
              · exact hc
              · exact hx b hb
            · simp
          · simp only [symCode, symIts, symOp, symBind, symQ, symT, symVal, symLook, symSlice, symHeap, symStep, symRange, symBsl, symClr, symClrH, symGb, junkG, Bool.false_eq_true, symRes, symFrz, symApp, symMap, symMapOp, bindO_some, Option.map_some, Option.bind_some, List.length_cons, List.length_nil, List.length_append, List.drop_zero, List.drop_succ_cons, List.take_succ_cons, List.take_zero, List.getElem?_cons_zero, List.getElem?_cons_succ, List.set_cons_zero, List.set_cons_succ, Nat.reduceLeDiff, List.map_cons, List.map_nil, setPart_agg, setPart_one, symSet, symSetF, Nat.reduceLT, fillV, buildV, List.replicate_succ, List.replicate_zero, Nat.lt_add_one, and_self, if_true, PV.one, PV.isAgg, PV.cells, PV.okc, List.all_cons, List.all_nil, Bool.and_self, List.nil_append, List.append_nil, List.cons_append, Nat.zero_add, Nat.add_zero, true_and, and_true, Nat.reduceEqDiff, reduceIte, Nat.reduceAdd]
            obtain ⟨ys, q1, q2, q3⟩ := fin (.inr ⟨A', y, rfl, hc⟩)
            refine ⟨inR_i64.2 (by omega), by omega, ys, q1, q2, ?_, rfl⟩
            rw [← es]; exact q3
    · have hi : ¬ k + 1 < ys.length := by simp at hc; omega
      simp only [symCode, symIts, symOp, symBind, symQ, symT, symVal, symLook, symSlice, symHeap, symStep, symRange, symBsl, symClr, symClrH, symGb, junkG, Bool.false_eq_true, symRes, symFrz, symApp, symMap, symMapOp, bindO_some, Option.map_some, Option.bind_some, List.length_cons, List.length_nil, List.length_append, List.drop_zero, List.drop_succ_cons, List.take_succ_cons, List.take_zero, List.getElem?_cons_zero, List.getElem?_cons_succ, List.set_cons_zero, List.set_cons_succ, Nat.reduceLeDiff, List.map_cons, List.map_nil, setPart_agg, setPart_one, symSet, symSetF, Nat.reduceLT, fillV, buildV, List.replicate_succ, List.replicate_zero, Nat.lt_add_one, and_self, if_true, PV.one, PV.isAgg, PV.cells, PV.okc, List.all_cons, List.all_nil, Bool.and_self, List.nil_append, List.append_nil, List.cons_append, Nat.zero_add, Nat.add_zero, true_and, and_true, Nat.reduceEqDiff, reduceIte, Nat.reduceAdd]
      exact ⟨ys, hp, by rw [List.take_of_length_le (by omega)] at hs; exact hs, rfl⟩


theorem insertionSort0 {g0 : Gh} (h : AH) (f n : Bool) : ACalls Tryd.prog g0 58 [.sl 1 [] f n, .int .i64 0, .int .i64 0] h fun r h' => r = .tuple [] ∧ h' = h := by
  refine acalls_W F58_ok rfl fun g1 hg => ?_
  simp only [F58, symCode, symIts, symOp, symBind, symQ, symT, symVal, symLook, symSlice, symHeap, symStep, symRange, symBsl, symClr, symClrH, symGb, junkG, Bool.false_eq_true, symRes, symFrz, symApp, symMap, symMapOp, bindO_some, Option.map_some, Option.bind_some, List.length_cons, List.length_nil, List.length_append, List.drop_zero, List.drop_succ_cons, List.take_succ_cons, List.take_zero, List.getElem?_cons_zero, List.getElem?_cons_succ, List.set_cons_zero, List.set_cons_succ, Nat.reduceLeDiff, List.map_cons, List.map_nil, setPart_agg, setPart_one, symSet, symSetF, Nat.reduceLT, fillV, buildV, List.replicate_succ, List.replicate_zero, Nat.lt_add_one, and_self, if_true, PV.one, PV.isAgg, PV.cells, PV.okc, List.all_cons, List.all_nil, Bool.and_self, List.nil_append, List.append_nil, List.cons_append, Nat.zero_add, Nat.add_zero, true_and, and_true, Nat.reduceEqDiff, reduceIte, Nat.reduceAdd]
  refine ⟨inR_i64.2 (by omega), ALoop.range 0 (fun k t h' => h' = h ∧ t = [(0, .sl 1 [] f n), (1, .int .i64 0), (2, .int .i64 0), (6, .int .i64 1)]) ?_ ?_⟩
  · simp only [symCode, symIts, symOp, symBind, symQ, symT, symVal, symLook, symSlice, symHeap, symStep, symRange, symBsl, symClr, symClrH, symGb, junkG, Bool.false_eq_true, symRes, symFrz, symApp, symMap, symMapOp, bindO_some, Option.map_some, Option.bind_some, List.length_cons, List.length_nil, List.length_append, List.drop_zero, List.drop_succ_cons, List.take_succ_cons, List.take_zero, List.getElem?_cons_zero, List.getElem?_cons_succ, List.set_cons_zero, List.set_cons_succ, Nat.reduceLeDiff, List.map_cons, List.map_nil, setPart_agg, setPart_one, symSet, symSetF, Nat.reduceLT, fillV, buildV, List.replicate_succ, List.replicate_zero, Nat.lt_add_one, and_self, if_true, PV.one, PV.isAgg, PV.cells, PV.okc, List.all_cons, List.all_nil, Bool.and_self, List.nil_append, List.append_nil, List.cons_append, Nat.zero_add, Nat.add_zero, true_and, and_true, Nat.reduceEqDiff, reduceIte, Nat.reduceAdd]; rfl
  · rintro k t h' hk ⟨rfl, rfl⟩
    have e1 : decide ((1 : Int) < 0) = false := rfl
    simp only [symCode, symIts, symOp, symBind, symQ, symT, symVal, symLook, symSlice, symHeap, symStep, symRange, symBsl, symClr, symClrH, symGb, junkG, Bool.false_eq_true, symRes, symFrz, symApp, symMap, symMapOp, bindO_some, Option.map_some, Option.bind_some, List.length_cons, List.length_nil, List.length_append, List.drop_zero, List.drop_succ_cons, List.take_succ_cons, List.take_zero, List.getElem?_cons_zero, List.getElem?_cons_succ, List.set_cons_zero, List.set_cons_succ, Nat.reduceLeDiff, List.map_cons, List.map_nil, setPart_agg, setPart_one, symSet, symSetF, Nat.reduceLT, fillV, buildV, List.replicate_succ, List.replicate_zero, Nat.lt_add_one, and_self, if_true, PV.one, PV.isAgg, PV.cells, PV.okc, List.all_cons, List.all_nil, Bool.and_self, List.nil_append, List.append_nil, List.cons_append, Nat.zero_add, Nat.add_zero, true_and, and_true, Nat.reduceEqDiff, reduceIte, Nat.reduceAdd, e1]

theorem pdq {g0 : Gh} (v : PV) (h : AH) (n : Nat) (m : Int) (hn : n ≤ 12) {Post : PV → AH → Prop} (hi : ∀ g1, g0.le g1 → ACalls Tryd.prog g1 58 [v, .int .i64 0, .int .i64 n] h fun r h' => r = .tuple [] ∧ Post r h') :
    ACalls Tryd.prog g0 49 [v, .int .i64 0, .int .i64 n, .int .i64 m] h Post := by
  refine acalls_W F49_ok rfl fun g1 hg => ?_
  simp only [F49, symCode, symIts, symOp, symBind, symQ, symT, symVal, symLook, symSlice, symHeap, symStep, symRange, symBsl, symClr, symClrH, symGb, junkG, Bool.false_eq_true, symRes, symFrz, symApp, symMap, symMapOp, bindO_some, Option.map_some, Option.bind_some, List.length_cons, List.length_nil, List.length_append, List.drop_zero, List.drop_succ_cons, List.take_succ_cons, List.take_zero, List.getElem?_cons_zero, List.getElem?_cons_succ, List.set_cons_zero, List.set_cons_succ, Nat.reduceLeDiff, List.map_cons, List.map_nil, setPart_agg, setPart_one, symSet, symSetF, Nat.reduceLT, fillV, buildV, List.replicate_succ, List.replicate_zero, Nat.lt_add_one, and_self, if_true, PV.one, PV.isAgg, PV.cells, PV.okc, List.all_cons, List.all_nil, Bool.and_self, List.nil_append, List.append_nil, List.cons_append, Nat.zero_add, Nat.add_zero, true_and, and_true, Nat.reduceEqDiff, reduceIte, Nat.reduceAdd]
  refine ALoop.range 0 (fun k t h' => h' = h ∧ t = [(0, v), (1, .int .i64 0), (2, .int .i64 n), (3, .int .i64 m), (8, .bool true), (9, .bool true)]) ?_ ?_
  · simp only [symCode, symIts, symOp, symBind, symQ, symT, symVal, symLook, symSlice, symHeap, symStep, symRange, symBsl, symClr, symClrH, symGb, junkG, Bool.false_eq_true, symRes, symFrz, symApp, symMap, symMapOp, bindO_some, Option.map_some, Option.bind_some, List.length_cons, List.length_nil, List.length_append, List.drop_zero, List.drop_succ_cons, List.take_succ_cons, List.take_zero, List.getElem?_cons_zero, List.getElem?_cons_succ, List.set_cons_zero, List.set_cons_succ, Nat.reduceLeDiff, List.map_cons, List.map_nil, setPart_agg, setPart_one, symSet, symSetF, Nat.reduceLT, fillV, buildV, List.replicate_succ, List.replicate_zero, Nat.lt_add_one, and_self, if_true, PV.one, PV.isAgg, PV.cells, PV.okc, List.all_cons, List.all_nil, Bool.and_self, List.nil_append, List.append_nil, List.cons_append, Nat.zero_add, Nat.add_zero, true_and, and_true, Nat.reduceEqDiff, reduceIte, Nat.reduceAdd]
  · rintro k t h' hk ⟨rfl, rfl⟩
    have e1 : decide ((n : Int) - 0 ≤ 12) = true := by simp; omega
    simp only [symCode, symIts, symOp, symBind, symQ, symT, symVal, symLook, symSlice, symHeap, symStep, symRange, symBsl, symClr, symClrH, symGb, junkG, Bool.false_eq_true, symRes, symFrz, symApp, symMap, symMapOp, bindO_some, Option.map_some, Option.bind_some, List.length_cons, List.length_nil, List.length_append, List.drop_zero, List.drop_succ_cons, List.take_succ_cons, List.take_zero, List.getElem?_cons_zero, List.getElem?_cons_succ, List.set_cons_zero, List.set_cons_succ, Nat.reduceLeDiff, List.map_cons, List.map_nil, setPart_agg, setPart_one, symSet, symSetF, Nat.reduceLT, fillV, buildV, List.replicate_succ, List.replicate_zero, Nat.lt_add_one, and_self, if_true, PV.one, PV.isAgg, PV.cells, PV.okc, List.all_cons, List.all_nil, Bool.and_self, List.nil_append, List.append_nil, List.cons_append, Nat.zero_add, Nat.add_zero, true_and, and_true, Nat.reduceEqDiff, reduceIte, Nat.reduceAdd, e1]
    refine ⟨inR_i64.2 (by omega), (hi g1 hg).go ?_⟩
    rintro r h' ⟨rfl, hp⟩
    simp only [symCode, symIts, symOp, symBind, symQ, symT, symVal, symLook, symSlice, symHeap, symStep, symRange, symBsl, symClr, symClrH, symGb, junkG, Bool.false_eq_true, symRes, symFrz, symApp, symMap, symMapOp, bindO_some, Option.map_some, Option.bind_some, List.length_cons, List.length_nil, List.length_append, List.drop_zero, List.drop_succ_cons, List.take_succ_cons, List.take_zero, List.getElem?_cons_zero, List.getElem?_cons_succ, List.set_cons_zero, List.set_cons_succ, Nat.reduceLeDiff, List.map_cons, List.map_nil, setPart_agg, setPart_one, symSet, symSetF, Nat.reduceLT, fillV, buildV, List.replicate_succ, List.replicate_zero, Nat.lt_add_one, and_self, if_true, PV.one, PV.isAgg, PV.cells, PV.okc, List.all_cons, List.all_nil, Bool.and_self, List.nil_append, List.append_nil, List.cons_append, Nat.zero_add, Nat.add_zero, true_and, and_true, Nat.reduceEqDiff, reduceIte, Nat.reduceAdd]
    exact hp

theorem SortT {g0 : Gh} (h0 h : AH) (v : PV) (xs : List Bs) (hl : xs.length ≤ 12) (ho : OwnS h0 v h xs) :
    ACalls Tryd.prog g0 38 [v] h fun r h' => ∃ ys : List Bs, ys.Perm xs ∧ SortedS ys ∧ OwnS h0 v h' ys := by
  refine acalls_W F38_ok rfl fun g1 hg => ?_
  rcases ho with ⟨rfl, rfl, f, n, rfl⟩ | ⟨rfl, rfl⟩
  · simp only [F38, symCode, symIts, symOp, symBind, symQ, symT, symVal, symLook, symSlice, symHeap, symStep, symRange, symBsl, symClr, symClrH, symGb, junkG, Bool.false_eq_true, symRes, symFrz, symApp, symMap, symMapOp, bindO_some, Option.map_some, Option.bind_some, List.length_cons, List.length_nil, List.length_append, List.drop_zero, List.drop_succ_cons, List.take_succ_cons, List.take_zero, List.getElem?_cons_zero, List.getElem?_cons_succ, List.set_cons_zero, List.set_cons_succ, Nat.reduceLeDiff, List.map_cons, List.map_nil, setPart_agg, setPart_one, symSet, symSetF, Nat.reduceLT, fillV, buildV, List.replicate_succ, List.replicate_zero, Nat.lt_add_one, and_self, if_true, PV.one, PV.isAgg, PV.cells, PV.okc, List.all_cons, List.all_nil, Bool.and_self, List.nil_append, List.append_nil, List.cons_append, Nat.zero_add, Nat.add_zero, true_and, and_true, Nat.reduceEqDiff, reduceIte, Nat.reduceAdd]
    have e2 : IntKind.wrap .u64 (((0 : Nat) : Int)) = ((0 : Nat) : Int) := rfl
    rw [e2]
    refine (Len 0 _ (by omega)).go' ?_
    rintro r ⟨m, rfl⟩
    simp only [symCode, symIts, symOp, symBind, symQ, symT, symVal, symLook, symSlice, symHeap, symStep, symRange, symBsl, symClr, symClrH, symGb, junkG, Bool.false_eq_true, symRes, symFrz, symApp, symMap, symMapOp, bindO_some, Option.map_some, Option.bind_some, List.length_cons, List.length_nil, List.length_append, List.drop_zero, List.drop_succ_cons, List.take_succ_cons, List.take_zero, List.getElem?_cons_zero, List.getElem?_cons_succ, List.set_cons_zero, List.set_cons_succ, Nat.reduceLeDiff, List.map_cons, List.map_nil, setPart_agg, setPart_one, symSet, symSetF, Nat.reduceLT, fillV, buildV, List.replicate_succ, List.replicate_zero, Nat.lt_add_one, and_self, if_true, PV.one, PV.isAgg, PV.cells, PV.okc, List.all_cons, List.all_nil, Bool.and_self, List.nil_append, List.append_nil, List.cons_append, Nat.zero_add, Nat.add_zero, true_and, and_true, Nat.reduceEqDiff, reduceIte, Nat.reduceAdd]
    refine ACalls.go (pdq (n := 0) _ _ m (by omega) (Post := fun r h' => h' = h) fun g2 hg2 => (insertionSort0 h f n)) ?_
    rintro r h' rfl
    simp only [symCode, symIts, symOp, symBind, symQ, symT, symVal, symLook, symSlice, symHeap, symStep, symRange, symBsl, symClr, symClrH, symGb, junkG, Bool.false_eq_true, symRes, symFrz, symApp, symMap, symMapOp, bindO_some, Option.map_some, Option.bind_some, List.length_cons, List.length_nil, List.length_append, List.drop_zero, List.drop_succ_cons, List.take_succ_cons, List.take_zero, List.getElem?_cons_zero, List.getElem?_cons_succ, List.set_cons_zero, List.set_cons_succ, Nat.reduceLeDiff, List.map_cons, List.map_nil, setPart_agg, setPart_one, symSet, symSetF, Nat.reduceLT, fillV, buildV, List.replicate_succ, List.replicate_zero, Nat.lt_add_one, and_self, if_true, PV.one, PV.isAgg, PV.cells, PV.okc, List.all_cons, List.all_nil, Bool.and_self, List.nil_append, List.append_nil, List.cons_append, Nat.zero_add, Nat.add_zero, true_and, and_true, Nat.reduceEqDiff, reduceIte, Nat.reduceAdd]
    exact ⟨[], List.Perm.refl _, List.Pairwise.nil, .inl ⟨rfl, rfl, f, n, rfl⟩⟩
  · simp only [F38, symCode, symIts, symOp, symBind, symQ, symT, symVal, symLook, symSlice, symHeap, symStep, symRange, symBsl, symClr, symClrH, symGb, junkG, Bool.false_eq_true, symRes, symFrz, symApp, symMap, symMapOp, bindO_some, Option.map_some, Option.bind_some, List.length_cons, List.length_nil, List.length_append, List.drop_zero, List.drop_succ_cons, List.take_succ_cons, List.take_zero, List.getElem?_cons_zero, List.getElem?_cons_succ, List.set_cons_zero, List.set_cons_succ, Nat.reduceLeDiff, List.map_cons, List.map_nil, setPart_agg, setPart_one, symSet, symSetF, Nat.reduceLT, fillV, buildV, List.replicate_succ, List.replicate_zero, Nat.lt_add_one, and_self, if_true, PV.one, PV.isAgg, PV.cells, PV.okc, List.all_cons, List.all_nil, Bool.and_self, List.nil_append, List.append_nil, List.cons_append, Nat.zero_add, Nat.add_zero, true_and, and_true, Nat.reduceEqDiff, reduceIte, Nat.reduceAdd]
    have e2 : IntKind.wrap .u64 (xs.length : Int) = xs.length := IntWalk.u64_in _ (by omega)
    rw [e2]
    refine (Len xs.length _ hl).go' ?_
    rintro r ⟨m, rfl⟩
    simp only [symCode, symIts, symOp, symBind, symQ, symT, symVal, symLook, symSlice, symHeap, symStep, symRange, symBsl, symClr, symClrH, symGb, junkG, Bool.false_eq_true, symRes, symFrz, symApp, symMap, symMapOp, bindO_some, Option.map_some, Option.bind_some, List.length_cons, List.length_nil, List.length_append, List.drop_zero, List.drop_succ_cons, List.take_succ_cons, List.take_zero, List.getElem?_cons_zero, List.getElem?_cons_succ, List.set_cons_zero, List.set_cons_succ, Nat.reduceLeDiff, List.map_cons, List.map_nil, setPart_agg, setPart_one, symSet, symSetF, Nat.reduceLT, fillV, buildV, List.replicate_succ, List.replicate_zero, Nat.lt_add_one, and_self, if_true, PV.one, PV.isAgg, PV.cells, PV.okc, List.all_cons, List.all_nil, Bool.and_self, List.nil_append, List.append_nil, List.cons_append, Nat.zero_add, Nat.add_zero, true_and, and_true, Nat.reduceEqDiff, reduceIte, Nat.reduceAdd]
    have hs : ∀ (o p : AObj), (h0 ++ [p]).set h0.length o = h0 ++ [o] := fun o p => by simp
    have := insertionSort (h0 ++ [.arr 1 (xs.map .str) true]) h0.length (by simp) xs (by omega) (g0 := g1)
    simp only [hs] at this
    refine ACalls.go (pdq (n := xs.length) _ _ m hl fun g2 hg2 => this.later hg2) ?_
    rintro r h' ⟨ys, hp, hy, rfl⟩
    simp only [symCode, symIts, symOp, symBind, symQ, symT, symVal, symLook, symSlice, symHeap, symStep, symRange, symBsl, symClr, symClrH, symGb, junkG, Bool.false_eq_true, symRes, symFrz, symApp, symMap, symMapOp, bindO_some, Option.map_some, Option.bind_some, List.length_cons, List.length_nil, List.length_append, List.drop_zero, List.drop_succ_cons, List.take_succ_cons, List.take_zero, List.getElem?_cons_zero, List.getElem?_cons_succ, List.set_cons_zero, List.set_cons_succ, Nat.reduceLeDiff, List.map_cons, List.map_nil, setPart_agg, setPart_one, symSet, symSetF, Nat.reduceLT, fillV, buildV, List.replicate_succ, List.replicate_zero, Nat.lt_add_one, and_self, if_true, PV.one, PV.isAgg, PV.cells, PV.okc, List.all_cons, List.all_nil, Bool.and_self, List.nil_append, List.append_nil, List.cons_append, Nat.zero_add, Nat.add_zero, true_and, and_true, Nat.reduceEqDiff, reduceIte, Nat.reduceAdd]
    exact ⟨ys, hp, hy, .inr ⟨rfl, by rw [hp.length_eq]⟩⟩

end Go.K10
