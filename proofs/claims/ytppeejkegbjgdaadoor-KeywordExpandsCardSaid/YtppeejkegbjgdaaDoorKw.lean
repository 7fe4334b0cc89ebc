/- Contracts: the reference's search. -/
import Derived.Test.YtppeejkegbjgdaaDoorKv
set_option linter.unusedSimpArgs false
set_option linter.unusedVariables false
namespace Go.K10
open Go Go.Avm Go.Proofs

def preB (s p : Bs) : Bool := decide (p.length ≤ s.length) && decide (s.take p.length = p)

theorem HasPrefix {g0 : Gh} (s p : Bs) (h : AH) (hs : s.length < 1000000000000) (hp : p.length < 1000000000000) : ACalls Tryd.prog g0 77 [.str s, .str p] h fun r h' => h' = h ∧ r = .bool (preB s p) := by
  refine acalls_E F77_ok rfl fun g1 hg => ?_
  simp only [F77, symCode, symIts, symOp, symBind, symQ, symT, symVal, symLook, symSlice, symHeap, symStep, symRange, symRaw, symBsl, symClr, symClrH, symGb, junkG, Bool.false_eq_true, decide_true, decide_false, symRes, symFrz, symApp, symMap, symMapOp, bindO_some, Option.map_some, Option.bind_some, List.length_cons, List.length_nil, List.length_append, List.drop_zero, List.drop_succ_cons, List.take_succ_cons, List.take_zero, List.getElem?_cons_zero, List.getElem?_cons_succ, List.set_cons_zero, List.set_cons_succ, Nat.reduceLeDiff, List.map_cons, List.map_nil, setPart_agg, setPart_one, symSet, symSetF, Nat.reduceLT, fillV, buildV, List.replicate_succ, List.replicate_zero, Nat.lt_add_one, and_self, if_true, PV.one, PV.isAgg, PV.cells, PV.okc, List.all_cons, List.all_nil, Bool.and_self, List.nil_append, List.append_nil, List.cons_append, Nat.zero_add, Nat.add_zero, true_and, and_true, Nat.reduceEqDiff, reduceIte, Nat.reduceAdd]
  by_cases q1 : p.length ≤ s.length
  · have d1 : decide ((p.length : Int) ≤ s.length) = true := by simp; omega
    simp only [symCode, symIts, symOp, symBind, symQ, symT, symVal, symLook, symSlice, symHeap, symStep, symRange, symRaw, symBsl, symClr, symClrH, symGb, junkG, Bool.false_eq_true, decide_true, decide_false, symRes, symFrz, symApp, symMap, symMapOp, bindO_some, Option.map_some, Option.bind_some, List.length_cons, List.length_nil, List.length_append, List.drop_zero, List.drop_succ_cons, List.take_succ_cons, List.take_zero, List.getElem?_cons_zero, List.getElem?_cons_succ, List.set_cons_zero, List.set_cons_succ, Nat.reduceLeDiff, List.map_cons, List.map_nil, setPart_agg, setPart_one, symSet, symSetF, Nat.reduceLT, fillV, buildV, List.replicate_succ, List.replicate_zero, Nat.lt_add_one, and_self, if_true, PV.one, PV.isAgg, PV.cells, PV.okc, List.all_cons, List.all_nil, Bool.and_self, List.nil_append, List.append_nil, List.cons_append, Nat.zero_add, Nat.add_zero, true_and, and_true, Nat.reduceEqDiff, reduceIte, Nat.reduceAdd, d1, Int.toNat_natCast]
    refine ⟨by omega, by omega, by omega, ?_⟩
    simp only [symCode, symIts, symOp, symBind, symQ, symT, symVal, symLook, symSlice, symHeap, symStep, symRange, symRaw, symBsl, symClr, symClrH, symGb, junkG, Bool.false_eq_true, decide_true, decide_false, symRes, symFrz, symApp, symMap, symMapOp, bindO_some, Option.map_some, Option.bind_some, List.length_cons, List.length_nil, List.length_append, List.drop_zero, List.drop_succ_cons, List.take_succ_cons, List.take_zero, List.getElem?_cons_zero, List.getElem?_cons_succ, List.set_cons_zero, List.set_cons_succ, Nat.reduceLeDiff, List.map_cons, List.map_nil, setPart_agg, setPart_one, symSet, symSetF, Nat.reduceLT, fillV, buildV, List.replicate_succ, List.replicate_zero, Nat.lt_add_one, and_self, if_true, PV.one, PV.isAgg, PV.cells, PV.okc, List.all_cons, List.all_nil, Bool.and_self, List.nil_append, List.append_nil, List.cons_append, Nat.zero_add, Nat.add_zero, true_and, and_true, Nat.reduceEqDiff, reduceIte, Nat.reduceAdd, preB, q1, decide_true, Bool.true_and]
    exact ⟨Ext.refl _, rfl⟩
  · have d1 : decide ((p.length : Int) ≤ s.length) = false := by simp; omega
    simp only [symCode, symIts, symOp, symBind, symQ, symT, symVal, symLook, symSlice, symHeap, symStep, symRange, symRaw, symBsl, symClr, symClrH, symGb, junkG, Bool.false_eq_true, decide_true, decide_false, symRes, symFrz, symApp, symMap, symMapOp, bindO_some, Option.map_some, Option.bind_some, List.length_cons, List.length_nil, List.length_append, List.drop_zero, List.drop_succ_cons, List.take_succ_cons, List.take_zero, List.getElem?_cons_zero, List.getElem?_cons_succ, List.set_cons_zero, List.set_cons_succ, Nat.reduceLeDiff, List.map_cons, List.map_nil, setPart_agg, setPart_one, symSet, symSetF, Nat.reduceLT, fillV, buildV, List.replicate_succ, List.replicate_zero, Nat.lt_add_one, and_self, if_true, PV.one, PV.isAgg, PV.cells, PV.okc, List.all_cons, List.all_nil, Bool.and_self, List.nil_append, List.append_nil, List.cons_append, Nat.zero_add, Nat.add_zero, true_and, and_true, Nat.reduceEqDiff, reduceIte, Nat.reduceAdd, d1, preB, q1, decide_false, Bool.false_and]
    exact ⟨Ext.refl _, rfl⟩

def cutV (s p : Bs) : PV := if preB s p then .tuple [.str (s.drop p.length), .bool true] else .tuple [.str s, .bool false]

theorem Cut54 {g0 : Gh} (s p : Bs) (h : AH) (hs : s.length < 1000000000000) (hp : p.length < 1000000000000) : ACalls Tryd.prog g0 54 [.str s, .str p] h fun r h' => h' = h ∧ r = cutV s p := by
  refine acalls_E F54_ok rfl fun g1 hg => ?_
  simp only [F54, symCode, symIts, symOp, symBind, symQ, symT, symVal, symLook, symSlice, symHeap, symStep, symRange, symRaw, symBsl, symClr, symClrH, symGb, junkG, Bool.false_eq_true, decide_true, decide_false, symRes, symFrz, symApp, symMap, symMapOp, bindO_some, Option.map_some, Option.bind_some, List.length_cons, List.length_nil, List.length_append, List.drop_zero, List.drop_succ_cons, List.take_succ_cons, List.take_zero, List.getElem?_cons_zero, List.getElem?_cons_succ, List.set_cons_zero, List.set_cons_succ, Nat.reduceLeDiff, List.map_cons, List.map_nil, setPart_agg, setPart_one, symSet, symSetF, Nat.reduceLT, fillV, buildV, List.replicate_succ, List.replicate_zero, Nat.lt_add_one, and_self, if_true, PV.one, PV.isAgg, PV.cells, PV.okc, List.all_cons, List.all_nil, Bool.and_self, List.nil_append, List.append_nil, List.cons_append, Nat.zero_add, Nat.add_zero, true_and, and_true, Nat.reduceEqDiff, reduceIte, Nat.reduceAdd]
  refine (HasPrefix s p h hs hp).go' ?_
  rintro r rfl
  cases hq : preB s p with
  | false =>
    simp only [symCode, symIts, symOp, symBind, symQ, symT, symVal, symLook, symSlice, symHeap, symStep, symRange, symRaw, symBsl, symClr, symClrH, symGb, junkG, Bool.false_eq_true, decide_true, decide_false, symRes, symFrz, symApp, symMap, symMapOp, bindO_some, Option.map_some, Option.bind_some, List.length_cons, List.length_nil, List.length_append, List.drop_zero, List.drop_succ_cons, List.take_succ_cons, List.take_zero, List.getElem?_cons_zero, List.getElem?_cons_succ, List.set_cons_zero, List.set_cons_succ, Nat.reduceLeDiff, List.map_cons, List.map_nil, setPart_agg, setPart_one, symSet, symSetF, Nat.reduceLT, fillV, buildV, List.replicate_succ, List.replicate_zero, Nat.lt_add_one, and_self, if_true, PV.one, PV.isAgg, PV.cells, PV.okc, List.all_cons, List.all_nil, Bool.and_self, List.nil_append, List.append_nil, List.cons_append, Nat.zero_add, Nat.add_zero, true_and, and_true, Nat.reduceEqDiff, reduceIte, Nat.reduceAdd, Bool.not_false]
    exact ⟨Ext.refl _, rfl, by simp [cutV, hq]⟩
  | true =>
    have hl : p.length ≤ s.length := by simp [preB] at hq; exact hq.1
    simp only [symCode, symIts, symOp, symBind, symQ, symT, symVal, symLook, symSlice, symHeap, symStep, symRange, symRaw, symBsl, symClr, symClrH, symGb, junkG, Bool.false_eq_true, decide_true, decide_false, symRes, symFrz, symApp, symMap, symMapOp, bindO_some, Option.map_some, Option.bind_some, List.length_cons, List.length_nil, List.length_append, List.drop_zero, List.drop_succ_cons, List.take_succ_cons, List.take_zero, List.getElem?_cons_zero, List.getElem?_cons_succ, List.set_cons_zero, List.set_cons_succ, Nat.reduceLeDiff, List.map_cons, List.map_nil, setPart_agg, setPart_one, symSet, symSetF, Nat.reduceLT, fillV, buildV, List.replicate_succ, List.replicate_zero, Nat.lt_add_one, and_self, if_true, PV.one, PV.isAgg, PV.cells, PV.okc, List.all_cons, List.all_nil, Bool.and_self, List.nil_append, List.append_nil, List.cons_append, Nat.zero_add, Nat.add_zero, true_and, and_true, Nat.reduceEqDiff, reduceIte, Nat.reduceAdd, Bool.not_true, Int.toNat_natCast]
    (repeat (first | refine And.intro (inR_i64.2 (by omega)) ?_ | refine And.intro (by omega) ?_))
    exact ⟨Ext.refl _, rfl, by simp [cutV, hq]⟩

theorem CutPrefix {g0 : Gh} (s p : Bs) (h : AH) (hs : s.length < 1000000000000) (hp : p.length < 1000000000000) : ACalls Tryd.prog g0 45 [.str s, .str p] h fun r h' => h' = h ∧ r = cutV s p := by
  refine acalls_E F45_ok rfl fun g1 hg => ?_
  simp only [F45, symCode, symIts, symOp, symBind, symQ, symT, symVal, symLook, symSlice, symHeap, symStep, symRange, symRaw, symBsl, symClr, symClrH, symGb, junkG, Bool.false_eq_true, decide_true, decide_false, symRes, symFrz, symApp, symMap, symMapOp, bindO_some, Option.map_some, Option.bind_some, List.length_cons, List.length_nil, List.length_append, List.drop_zero, List.drop_succ_cons, List.take_succ_cons, List.take_zero, List.getElem?_cons_zero, List.getElem?_cons_succ, List.set_cons_zero, List.set_cons_succ, Nat.reduceLeDiff, List.map_cons, List.map_nil, setPart_agg, setPart_one, symSet, symSetF, Nat.reduceLT, fillV, buildV, List.replicate_succ, List.replicate_zero, Nat.lt_add_one, and_self, if_true, PV.one, PV.isAgg, PV.cells, PV.okc, List.all_cons, List.all_nil, Bool.and_self, List.nil_append, List.append_nil, List.cons_append, Nat.zero_add, Nat.add_zero, true_and, and_true, Nat.reduceEqDiff, reduceIte, Nat.reduceAdd]
  refine (Cut54 s p h hs hp).go' ?_
  rintro r rfl
  unfold cutV
  cases hq : preB s p <;> simp only [symCode, symIts, symOp, symBind, symQ, symT, symVal, symLook, symSlice, symHeap, symStep, symRange, symRaw, symBsl, symClr, symClrH, symGb, junkG, Bool.false_eq_true, decide_true, decide_false, symRes, symFrz, symApp, symMap, symMapOp, bindO_some, Option.map_some, Option.bind_some, List.length_cons, List.length_nil, List.length_append, List.drop_zero, List.drop_succ_cons, List.take_succ_cons, List.take_zero, List.getElem?_cons_zero, List.getElem?_cons_succ, List.set_cons_zero, List.set_cons_succ, Nat.reduceLeDiff, List.map_cons, List.map_nil, setPart_agg, setPart_one, symSet, symSetF, Nat.reduceLT, fillV, buildV, List.replicate_succ, List.replicate_zero, Nat.lt_add_one, and_self, if_true, PV.one, PV.isAgg, PV.cells, PV.okc, List.all_cons, List.all_nil, Bool.and_self, List.nil_append, List.append_nil, List.cons_append, Nat.zero_add, Nat.add_zero, true_and, and_true, Nat.reduceEqDiff, reduceIte, Nat.reduceAdd] <;> (repeat first | exact Ext.refl _ | rfl | refine And.intro ?_ ?_)

/-- Neither a dollar sign nor an end of a line. -/
def plc (c : UInt8) : Bool := !decide (c = 36) && !decide (c = 10)

/-- How long the occurrence of this name is with which a text begins. -/
def hit1 (s nm : Bs) : Option Nat :=
  if preB s (36 :: nm) then
    match s.drop (nm.length + 1) with
    | [] => none
    | c :: r =>
      if c = 36 then some (nm.length + 2) else
      if c ≠ 58 then none else
      if (c :: r)[((c :: r).takeWhile plc).length]? = some 36 then some (1 + nm.length + ((c :: r).takeWhile plc).length + 1) else none
  else none

def bgn (s : Bs) : Nat → List Bs → Nat × Nat
  | _, [] => (0, 0)
  | k, nm :: r =>
    match hit1 s nm with
    | some n => (n, k)
    | none => bgn s (k + 1) r

theorem bgn_skip {s : Bs} : ∀ {l r : List Bs} {k : Nat}, (∀ x ∈ l, hit1 s x = none) → bgn s k (l ++ r) = bgn s (k + l.length) r
  | [], r, k, _ => rfl
  | x :: l, r, k, h => by
    rw [List.cons_append, bgn, h x List.mem_cons_self]
    simp only []
    rw [bgn_skip fun y hy => h y (List.mem_cons_of_mem _ hy)]
    congr 1
    simp; omega

theorem plc_take {s : Bs} {i : Nat} (hi : i < s.length) (h : ∀ c ∈ s.take i, plc c = true) (hc : plc s[i] = true) : ∀ c ∈ s.take (i + 1), plc c = true := by
  rw [take_snoc hi]
  intro c hc'
  rcases List.mem_append.1 hc' with h1 | h1
  · exact h c h1
  · simp at h1; subst h1; exact hc

theorem tw_len {p : UInt8 → Bool} : ∀ {s : Bs} {i : Nat}, (∀ c ∈ s.take i, p c = true) → i ≤ s.length → (∀ c, s[i]? = some c → p c = false) → (s.takeWhile p).length = i
  | [], i, _, hi, _ => by simp at hi; simp [hi]
  | c :: s, 0, _, _, h => by rw [List.takeWhile_cons, if_neg (by simp [h c (by simp)])]; rfl
  | c :: s, i + 1, h1, h2, h3 => by
    rw [List.takeWhile_cons, if_pos (h1 c (by simp))]
    simp only [List.length_cons]
    rw [tw_len (i := i) (fun x hx => h1 x (by simp [hx])) (by simpa using h2) (fun x hx => h3 x (by simpa using hx))]

theorem u8ne {a b : UInt8} (h : ¬ a = b) : decide ((a.toNat : Int) = (b.toNat : Int)) = false := by
  rw [decide_eq_false_iff_not]
  intro e
  exact h (UInt8.toNat_inj.1 (by omega))

def bgnV (p : Nat × Nat) : PV := .tuple [.int .i64 p.1, .int .i64 p.2]

theorem begins {g0 : Gh} (s : Bs) (ns : List Bs) (f n : Bool) (h : AH) (hs : s.length < 100000000) (hn : ns.length < 1000) (hl : ∀ x ∈ ns, x.length < 100000) :
    ACalls Tryd.prog g0 35 [.str s, .sl 1 (ns.map .str) f n] h fun r h' => h' = h ∧ r = bgnV (bgn s 0 ns) := by
  refine acalls_E F35_ok rfl fun g1 hg => ?_
  simp only [F35, symCode, symIts, symOp, symBind, symQ, symT, symVal, symLook, symSlice, symHeap, symStep, symRange, symRaw, symBsl, symClr, symClrH, symGb, junkG, Bool.false_eq_true, decide_true, decide_false, symRes, symFrz, symApp, symMap, symMapOp, bindO_some, Option.map_some, Option.bind_some, List.length_cons, List.length_nil, List.length_append, List.drop_zero, List.drop_succ_cons, List.take_succ_cons, List.take_zero, List.getElem?_cons_zero, List.getElem?_cons_succ, List.set_cons_zero, List.set_cons_succ, Nat.reduceLeDiff, List.map_cons, List.map_nil, setPart_agg, setPart_one, symSet, symSetF, Nat.reduceLT, fillV, buildV, List.replicate_succ, List.replicate_zero, Nat.lt_add_one, and_self, if_true, PV.one, PV.isAgg, PV.cells, PV.okc, List.all_cons, List.all_nil, Bool.and_self, List.nil_append, List.append_nil, List.cons_append, Nat.zero_add, Nat.add_zero, true_and, and_true, Nat.reduceEqDiff, reduceIte, Nat.reduceAdd]
  refine ALoop.range ns.length (fun k t h' => h' = h ∧ (∀ x ∈ ns.take k, hit1 s x = none) ∧ t = [(0, .str s), (11, .sl 1 (ns.map .str) f n), (12, .int .i64 ns.length), (13, .int .i64 k)]) ?_ ?_
  · simp only [symCode, symIts, symOp, symBind, symQ, symT, symVal, symLook, symSlice, symHeap, symStep, symRange, symRaw, symBsl, symClr, symClrH, symGb, junkG, Bool.false_eq_true, decide_true, decide_false, symRes, symFrz, symApp, symMap, symMapOp, bindO_some, Option.map_some, Option.bind_some, List.length_cons, List.length_nil, List.length_append, List.drop_zero, List.drop_succ_cons, List.take_succ_cons, List.take_zero, List.getElem?_cons_zero, List.getElem?_cons_succ, List.set_cons_zero, List.set_cons_succ, Nat.reduceLeDiff, List.map_cons, List.map_nil, setPart_agg, setPart_one, symSet, symSetF, Nat.reduceLT, fillV, buildV, List.replicate_succ, List.replicate_zero, Nat.lt_add_one, and_self, if_true, PV.one, PV.isAgg, PV.cells, PV.okc, List.all_cons, List.all_nil, Bool.and_self, List.nil_append, List.append_nil, List.cons_append, Nat.zero_add, Nat.add_zero, true_and, and_true, Nat.reduceEqDiff, reduceIte, Nat.reduceAdd, List.length_map]
    exact ⟨by simp, rfl⟩
  rintro k t h' hk ⟨rfl, hno, rfl⟩
  simp only [symCode, symIts, symOp, symBind, symQ, symT, symVal, symLook, symSlice, symHeap, symStep, symRange, symRaw, symBsl, symClr, symClrH, symGb, junkG, Bool.false_eq_true, decide_true, decide_false, symRes, symFrz, symApp, symMap, symMapOp, bindO_some, Option.map_some, Option.bind_some, List.length_cons, List.length_nil, List.length_append, List.drop_zero, List.drop_succ_cons, List.take_succ_cons, List.take_zero, List.getElem?_cons_zero, List.getElem?_cons_succ, List.set_cons_zero, List.set_cons_succ, Nat.reduceLeDiff, List.map_cons, List.map_nil, setPart_agg, setPart_one, symSet, symSetF, Nat.reduceLT, fillV, buildV, List.replicate_succ, List.replicate_zero, Nat.lt_add_one, and_self, if_true, PV.one, PV.isAgg, PV.cells, PV.okc, List.all_cons, List.all_nil, Bool.and_self, List.nil_append, List.append_nil, List.cons_append, Nat.zero_add, Nat.add_zero, true_and, and_true, Nat.reduceEqDiff, reduceIte, Nat.reduceAdd]
  refine brC_mk (fun hc => ?_) (fun hc => ?_)
  rotate_left
  · have hi : ¬ k < ns.length := by simpa using hc
    rw [List.take_of_length_le (by omega)] at hno
    have hb := bgn_skip (k := 0) (r := []) hno
    rw [List.append_nil] at hb
    simp only [symCode, symIts, symOp, symBind, symQ, symT, symVal, symLook, symSlice, symHeap, symStep, symRange, symRaw, symBsl, symClr, symClrH, symGb, junkG, Bool.false_eq_true, decide_true, decide_false, symRes, symFrz, symApp, symMap, symMapOp, bindO_some, Option.map_some, Option.bind_some, List.length_cons, List.length_nil, List.length_append, List.drop_zero, List.drop_succ_cons, List.take_succ_cons, List.take_zero, List.getElem?_cons_zero, List.getElem?_cons_succ, List.set_cons_zero, List.set_cons_succ, Nat.reduceLeDiff, List.map_cons, List.map_nil, setPart_agg, setPart_one, symSet, symSetF, Nat.reduceLT, fillV, buildV, List.replicate_succ, List.replicate_zero, Nat.lt_add_one, and_self, if_true, PV.one, PV.isAgg, PV.cells, PV.okc, List.all_cons, List.all_nil, Bool.and_self, List.nil_append, List.append_nil, List.cons_append, Nat.zero_add, Nat.add_zero, true_and, and_true, Nat.reduceEqDiff, reduceIte, Nat.reduceAdd]
    exact ⟨Ext.refl _, rfl, by rw [hb]; rfl⟩
  have hi : k < ns.length := by simpa using hc
  have hb : bgn s 0 ns = match hit1 s ns[k] with | some n => (n, k) | none => bgn s (k + 1) (ns.drop (k + 1)) := by
    have := bgn_skip (k := 0) (r := ns.drop k) hno
    rw [List.take_append_drop, List.length_take, Nat.min_eq_left (by omega), Nat.zero_add, List.drop_eq_getElem_cons hi] at this
    rw [this, bgn]
  have hnm := hl ns[k] (List.getElem_mem hi)
  have hstep : hit1 s ns[k] = none → ∀ x ∈ ns.take (k + 1), hit1 s x = none := by
    intro he x hx
    rw [take_snoc hi] at hx
    rcases List.mem_append.1 hx with hx | hx
    · exact hno x hx
    · simp at hx; subst hx; exact he
  simp only [symCode, symIts, symOp, symBind, symQ, symT, symVal, symLook, symSlice, symHeap, symStep, symRange, symRaw, symBsl, symClr, symClrH, symGb, junkG, Bool.false_eq_true, decide_true, decide_false, symRes, symFrz, symApp, symMap, symMapOp, bindO_some, Option.map_some, Option.bind_some, List.length_cons, List.length_nil, List.length_append, List.drop_zero, List.drop_succ_cons, List.take_succ_cons, List.take_zero, List.getElem?_cons_zero, List.getElem?_cons_succ, List.set_cons_zero, List.set_cons_succ, Nat.reduceLeDiff, List.map_cons, List.map_nil, setPart_agg, setPart_one, symSet, symSetF, Nat.reduceLT, fillV, buildV, List.replicate_succ, List.replicate_zero, Nat.lt_add_one, and_self, if_true, PV.one, PV.isAgg, PV.cells, PV.okc, List.all_cons, List.all_nil, Bool.and_self, List.nil_append, List.append_nil, List.cons_append, Nat.zero_add, Nat.add_zero, true_and, and_true, Nat.reduceEqDiff, reduceIte, Nat.reduceAdd, Int.toNat_natCast, List.getElem?_map, List.getElem?_eq_getElem hi]
  (repeat (first | refine And.intro (inR_i64.2 (by omega)) ?_ | refine And.intro (by omega) ?_))
  generalize ns[k] = nm at *
  refine (CutPrefix s (36 :: nm) _ (by omega) (by simp; omega)).go' ?_
  rintro r rfl
  unfold cutV
  cases hq : preB s (36 :: nm) with
  | false =>
    have hit : hit1 s nm = none := by simp [hit1, hq]
    simp only [symCode, symIts, symOp, symBind, symQ, symT, symVal, symLook, symSlice, symHeap, symStep, symRange, symRaw, symBsl, symClr, symClrH, symGb, junkG, Bool.false_eq_true, decide_true, decide_false, symRes, symFrz, symApp, symMap, symMapOp, bindO_some, Option.map_some, Option.bind_some, List.length_cons, List.length_nil, List.length_append, List.drop_zero, List.drop_succ_cons, List.take_succ_cons, List.take_zero, List.getElem?_cons_zero, List.getElem?_cons_succ, List.set_cons_zero, List.set_cons_succ, Nat.reduceLeDiff, List.map_cons, List.map_nil, setPart_agg, setPart_one, symSet, symSetF, Nat.reduceLT, fillV, buildV, List.replicate_succ, List.replicate_zero, Nat.lt_add_one, and_self, if_true, PV.one, PV.isAgg, PV.cells, PV.okc, List.all_cons, List.all_nil, Bool.and_self, List.nil_append, List.append_nil, List.cons_append, Nat.zero_add, Nat.add_zero, true_and, and_true, Nat.reduceEqDiff, reduceIte, Nat.reduceAdd, Bool.not_false]
    (repeat (first | refine And.intro (inR_i64.2 (by omega)) ?_ | refine And.intro (by omega) ?_))
    exact ⟨hstep hit, rfl⟩
  | true =>
    simp only [symCode, symIts, symOp, symBind, symQ, symT, symVal, symLook, symSlice, symHeap, symStep, symRange, symRaw, symBsl, symClr, symClrH, symGb, junkG, Bool.false_eq_true, decide_true, decide_false, symRes, symFrz, symApp, symMap, symMapOp, bindO_some, Option.map_some, Option.bind_some, List.length_cons, List.length_nil, List.length_append, List.drop_zero, List.drop_succ_cons, List.take_succ_cons, List.take_zero, List.getElem?_cons_zero, List.getElem?_cons_succ, List.set_cons_zero, List.set_cons_succ, Nat.reduceLeDiff, List.map_cons, List.map_nil, setPart_agg, setPart_one, symSet, symSetF, Nat.reduceLT, fillV, buildV, List.replicate_succ, List.replicate_zero, Nat.lt_add_one, and_self, if_true, PV.one, PV.isAgg, PV.cells, PV.okc, List.all_cons, List.all_nil, Bool.and_self, List.nil_append, List.append_nil, List.cons_append, Nat.zero_add, Nat.add_zero, true_and, and_true, Nat.reduceEqDiff, reduceIte, Nat.reduceAdd, Bool.not_true]
    have hit0 : hit1 s nm = hit1 s nm := rfl
    conv at hit0 => rhs; unfold hit1
    rw [hq, if_pos rfl] at hit0
    have hlen : (s.drop (nm.length + 1)).length ≤ s.length := by rw [List.length_drop]; omega
    generalize hrest : s.drop (nm.length + 1) = rest at *
    cases rest with
    | nil =>
      simp only [] at hit0
      simp only [symCode, symIts, symOp, symBind, symQ, symT, symVal, symLook, symSlice, symHeap, symStep, symRange, symRaw, symBsl, symClr, symClrH, symGb, junkG, Bool.false_eq_true, decide_true, decide_false, symRes, symFrz, symApp, symMap, symMapOp, bindO_some, Option.map_some, Option.bind_some, List.length_cons, List.length_nil, List.length_append, List.drop_zero, List.drop_succ_cons, List.take_succ_cons, List.take_zero, List.getElem?_cons_zero, List.getElem?_cons_succ, List.set_cons_zero, List.set_cons_succ, Nat.reduceLeDiff, List.map_cons, List.map_nil, setPart_agg, setPart_one, symSet, symSetF, Nat.reduceLT, fillV, buildV, List.replicate_succ, List.replicate_zero, Nat.lt_add_one, and_self, if_true, PV.one, PV.isAgg, PV.cells, PV.okc, List.all_cons, List.all_nil, Bool.and_self, List.nil_append, List.append_nil, List.cons_append, Nat.zero_add, Nat.add_zero, true_and, and_true, Nat.reduceEqDiff, reduceIte, Nat.reduceAdd]
      (repeat (first | refine And.intro (inR_i64.2 (by omega)) ?_ | refine And.intro (by omega) ?_))
      exact ⟨hstep hit0, rfl⟩
    | cons c rest =>
      simp only [] at hit0
      have d0 : decide (c :: rest = ([] : Bs)) = false := by simp
      simp only [symCode, symIts, symOp, symBind, symQ, symT, symVal, symLook, symSlice, symHeap, symStep, symRange, symRaw, symBsl, symClr, symClrH, symGb, junkG, Bool.false_eq_true, decide_true, decide_false, symRes, symFrz, symApp, symMap, symMapOp, bindO_some, Option.map_some, Option.bind_some, List.length_cons, List.length_nil, List.length_append, List.drop_zero, List.drop_succ_cons, List.take_succ_cons, List.take_zero, List.getElem?_cons_zero, List.getElem?_cons_succ, List.set_cons_zero, List.set_cons_succ, Nat.reduceLeDiff, List.map_cons, List.map_nil, setPart_agg, setPart_one, symSet, symSetF, Nat.reduceLT, fillV, buildV, List.replicate_succ, List.replicate_zero, Nat.lt_add_one, and_self, if_true, PV.one, PV.isAgg, PV.cells, PV.okc, List.all_cons, List.all_nil, Bool.and_self, List.nil_append, List.append_nil, List.cons_append, Nat.zero_add, Nat.add_zero, true_and, and_true, Nat.reduceEqDiff, reduceIte, Nat.reduceAdd, d0]
      have z0 : Int.toNat 0 = 0 := rfl
      refine ⟨Int.le_refl 0, ?_⟩
      simp only [symCode, symIts, symOp, symBind, symQ, symT, symVal, symLook, symSlice, symHeap, symStep, symRange, symRaw, symBsl, symClr, symClrH, symGb, junkG, Bool.false_eq_true, decide_true, decide_false, symRes, symFrz, symApp, symMap, symMapOp, bindO_some, Option.map_some, Option.bind_some, List.length_cons, List.length_nil, List.length_append, List.drop_zero, List.drop_succ_cons, List.take_succ_cons, List.take_zero, List.getElem?_cons_zero, List.getElem?_cons_succ, List.set_cons_zero, List.set_cons_succ, Nat.reduceLeDiff, List.map_cons, List.map_nil, setPart_agg, setPart_one, symSet, symSetF, Nat.reduceLT, fillV, buildV, List.replicate_succ, List.replicate_zero, Nat.lt_add_one, and_self, if_true, PV.one, PV.isAgg, PV.cells, PV.okc, List.all_cons, List.all_nil, Bool.and_self, List.nil_append, List.append_nil, List.cons_append, Nat.zero_add, Nat.add_zero, true_and, and_true, Nat.reduceEqDiff, reduceIte, Nat.reduceAdd, z0, byteV]
      by_cases c36 : c = 36
      · have dq : decide ((c.toNat : Int) = 36) = true := by rw [c36]; rfl
        rw [if_pos c36] at hit0
        rw [hit0] at hb
        simp only [symCode, symIts, symOp, symBind, symQ, symT, symVal, symLook, symSlice, symHeap, symStep, symRange, symRaw, symBsl, symClr, symClrH, symGb, junkG, Bool.false_eq_true, decide_true, decide_false, symRes, symFrz, symApp, symMap, symMapOp, bindO_some, Option.map_some, Option.bind_some, List.length_cons, List.length_nil, List.length_append, List.drop_zero, List.drop_succ_cons, List.take_succ_cons, List.take_zero, List.getElem?_cons_zero, List.getElem?_cons_succ, List.set_cons_zero, List.set_cons_succ, Nat.reduceLeDiff, List.map_cons, List.map_nil, setPart_agg, setPart_one, symSet, symSetF, Nat.reduceLT, fillV, buildV, List.replicate_succ, List.replicate_zero, Nat.lt_add_one, and_self, if_true, PV.one, PV.isAgg, PV.cells, PV.okc, List.all_cons, List.all_nil, Bool.and_self, List.nil_append, List.append_nil, List.cons_append, Nat.zero_add, Nat.add_zero, true_and, and_true, Nat.reduceEqDiff, reduceIte, Nat.reduceAdd, dq]
        (repeat (first | refine And.intro (inR_i64.2 (by omega)) ?_ | refine And.intro (by omega) ?_))
        exact ⟨Ext.refl _, rfl, by rw [hb]; simp [bgnV]⟩
      have dq : decide ((c.toNat : Int) = 36) = false := u8ne c36
      rw [if_neg c36] at hit0
      simp only [symCode, symIts, symOp, symBind, symQ, symT, symVal, symLook, symSlice, symHeap, symStep, symRange, symRaw, symBsl, symClr, symClrH, symGb, junkG, Bool.false_eq_true, decide_true, decide_false, symRes, symFrz, symApp, symMap, symMapOp, bindO_some, Option.map_some, Option.bind_some, List.length_cons, List.length_nil, List.length_append, List.drop_zero, List.drop_succ_cons, List.take_succ_cons, List.take_zero, List.getElem?_cons_zero, List.getElem?_cons_succ, List.set_cons_zero, List.set_cons_succ, Nat.reduceLeDiff, List.map_cons, List.map_nil, setPart_agg, setPart_one, symSet, symSetF, Nat.reduceLT, fillV, buildV, List.replicate_succ, List.replicate_zero, Nat.lt_add_one, and_self, if_true, PV.one, PV.isAgg, PV.cells, PV.okc, List.all_cons, List.all_nil, Bool.and_self, List.nil_append, List.append_nil, List.cons_append, Nat.zero_add, Nat.add_zero, true_and, and_true, Nat.reduceEqDiff, reduceIte, Nat.reduceAdd, dq, z0, byteV]
      refine ⟨Int.le_refl 0, ?_⟩
      by_cases c58 : c = 58
      rotate_left
      · have dq : decide ((c.toNat : Int) = 58) = false := u8ne c58
        rw [if_pos c58] at hit0
        simp only [symCode, symIts, symOp, symBind, symQ, symT, symVal, symLook, symSlice, symHeap, symStep, symRange, symRaw, symBsl, symClr, symClrH, symGb, junkG, Bool.false_eq_true, decide_true, decide_false, symRes, symFrz, symApp, symMap, symMapOp, bindO_some, Option.map_some, Option.bind_some, List.length_cons, List.length_nil, List.length_append, List.drop_zero, List.drop_succ_cons, List.take_succ_cons, List.take_zero, List.getElem?_cons_zero, List.getElem?_cons_succ, List.set_cons_zero, List.set_cons_succ, Nat.reduceLeDiff, List.map_cons, List.map_nil, setPart_agg, setPart_one, symSet, symSetF, Nat.reduceLT, fillV, buildV, List.replicate_succ, List.replicate_zero, Nat.lt_add_one, and_self, if_true, PV.one, PV.isAgg, PV.cells, PV.okc, List.all_cons, List.all_nil, Bool.and_self, List.nil_append, List.append_nil, List.cons_append, Nat.zero_add, Nat.add_zero, true_and, and_true, Nat.reduceEqDiff, reduceIte, Nat.reduceAdd, dq, Bool.not_false]
        (repeat (first | refine And.intro (inR_i64.2 (by omega)) ?_ | refine And.intro (by omega) ?_))
        exact ⟨hstep hit0, rfl⟩
      have dq : decide ((c.toNat : Int) = 58) = true := by rw [c58]; rfl
      rw [if_neg (by simpa using c58)] at hit0
      simp only [symCode, symIts, symOp, symBind, symQ, symT, symVal, symLook, symSlice, symHeap, symStep, symRange, symRaw, symBsl, symClr, symClrH, symGb, junkG, Bool.false_eq_true, decide_true, decide_false, symRes, symFrz, symApp, symMap, symMapOp, bindO_some, Option.map_some, Option.bind_some, List.length_cons, List.length_nil, List.length_append, List.drop_zero, List.drop_succ_cons, List.take_succ_cons, List.take_zero, List.getElem?_cons_zero, List.getElem?_cons_succ, List.set_cons_zero, List.set_cons_succ, Nat.reduceLeDiff, List.map_cons, List.map_nil, setPart_agg, setPart_one, symSet, symSetF, Nat.reduceLT, fillV, buildV, List.replicate_succ, List.replicate_zero, Nat.lt_add_one, and_self, if_true, PV.one, PV.isAgg, PV.cells, PV.okc, List.all_cons, List.all_nil, Bool.and_self, List.nil_append, List.append_nil, List.cons_append, Nat.zero_add, Nat.add_zero, true_and, and_true, Nat.reduceEqDiff, reduceIte, Nat.reduceAdd, dq, Bool.not_true]
      have hcp : plc c = true := by rw [c58]; rfl
      have hrl : (c :: rest).length ≤ 100000000 := by omega
      generalize hR : c :: rest = R at *
      have hR0 : ∀ j, (∀ x ∈ R.take j, plc x = true) → (∀ x, R[j]? = some x → plc x = false) → 0 < j := fun j _ hj => by
        rcases Nat.eq_zero_or_pos j with h0 | h0
        · subst h0
          have := hj c (by rw [← hR]; rfl)
          rw [hcp] at this; cases this
        · exact h0
      refine ALoop.range R.length (fun i t h'' => h'' = h' ∧ (∀ x ∈ R.take i, plc x = true) ∧ t = [(0, .str s), (6, .int .i64 k), (7, .str nm), (8, .str R), (10, .int .i64 i), (11, .sl 1 (ns.map .str) f n), (12, .int .i64 ns.length), (13, .int .i64 k)]) ?_ ?_
      · simp only [symCode, symIts, symOp, symBind, symQ, symT, symVal, symLook, symSlice, symHeap, symStep, symRange, symRaw, symBsl, symClr, symClrH, symGb, junkG, Bool.false_eq_true, decide_true, decide_false, symRes, symFrz, symApp, symMap, symMapOp, bindO_some, Option.map_some, Option.bind_some, List.length_cons, List.length_nil, List.length_append, List.drop_zero, List.drop_succ_cons, List.take_succ_cons, List.take_zero, List.getElem?_cons_zero, List.getElem?_cons_succ, List.set_cons_zero, List.set_cons_succ, Nat.reduceLeDiff, List.map_cons, List.map_nil, setPart_agg, setPart_one, symSet, symSetF, Nat.reduceLT, fillV, buildV, List.replicate_succ, List.replicate_zero, Nat.lt_add_one, and_self, if_true, PV.one, PV.isAgg, PV.cells, PV.okc, List.all_cons, List.all_nil, Bool.and_self, List.nil_append, List.append_nil, List.cons_append, Nat.zero_add, Nat.add_zero, true_and, and_true, Nat.reduceEqDiff, reduceIte, Nat.reduceAdd]
        exact ⟨by simp, rfl⟩
      rintro i t h'' hik ⟨rfl, hpl, rfl⟩
      simp only [symCode, symIts, symOp, symBind, symQ, symT, symVal, symLook, symSlice, symHeap, symStep, symRange, symRaw, symBsl, symClr, symClrH, symGb, junkG, Bool.false_eq_true, decide_true, decide_false, symRes, symFrz, symApp, symMap, symMapOp, bindO_some, Option.map_some, Option.bind_some, List.length_cons, List.length_nil, List.length_append, List.drop_zero, List.drop_succ_cons, List.take_succ_cons, List.take_zero, List.getElem?_cons_zero, List.getElem?_cons_succ, List.set_cons_zero, List.set_cons_succ, Nat.reduceLeDiff, List.map_cons, List.map_nil, setPart_agg, setPart_one, symSet, symSetF, Nat.reduceLT, fillV, buildV, List.replicate_succ, List.replicate_zero, Nat.lt_add_one, and_self, if_true, PV.one, PV.isAgg, PV.cells, PV.okc, List.all_cons, List.all_nil, Bool.and_self, List.nil_append, List.append_nil, List.cons_append, Nat.zero_add, Nat.add_zero, true_and, and_true, Nat.reduceEqDiff, reduceIte, Nat.reduceAdd]
      by_cases hil : i < R.length
      · have dl : decide ((i : Int) < R.length) = true := by simp; omega
        simp only [symCode, symIts, symOp, symBind, symQ, symT, symVal, symLook, symSlice, symHeap, symStep, symRange, symRaw, symBsl, symClr, symClrH, symGb, junkG, Bool.false_eq_true, decide_true, decide_false, symRes, symFrz, symApp, symMap, symMapOp, bindO_some, Option.map_some, Option.bind_some, List.length_cons, List.length_nil, List.length_append, List.drop_zero, List.drop_succ_cons, List.take_succ_cons, List.take_zero, List.getElem?_cons_zero, List.getElem?_cons_succ, List.set_cons_zero, List.set_cons_succ, Nat.reduceLeDiff, List.map_cons, List.map_nil, setPart_agg, setPart_one, symSet, symSetF, Nat.reduceLT, fillV, buildV, List.replicate_succ, List.replicate_zero, Nat.lt_add_one, and_self, if_true, PV.one, PV.isAgg, PV.cells, PV.okc, List.all_cons, List.all_nil, Bool.and_self, List.nil_append, List.append_nil, List.cons_append, Nat.zero_add, Nat.add_zero, true_and, and_true, Nat.reduceEqDiff, reduceIte, Nat.reduceAdd, dl, Int.toNat_natCast, List.getElem?_eq_getElem hil, byteV]
        refine ⟨by omega, ?_⟩
        by_cases r36 : R[i] = 36
        · have e1 : decide ((R[i].toNat : Int) = 36) = true := by rw [r36]; rfl
          have hpf : ∀ x, R[i]? = some x → plc x = false := fun x hx => by
            rw [List.getElem?_eq_getElem hil, r36] at hx; cases hx; rfl
          have hi0 := hR0 i hpl hpf
          have di : decide ((0 : Int) < i) = true := by simp; omega
          rw [tw_len hpl hik hpf, List.getElem?_eq_getElem hil, r36, if_pos rfl] at hit0
          rw [hit0] at hb
          simp only [symCode, symIts, symOp, symBind, symQ, symT, symVal, symLook, symSlice, symHeap, symStep, symRange, symRaw, symBsl, symClr, symClrH, symGb, junkG, Bool.false_eq_true, decide_true, decide_false, symRes, symFrz, symApp, symMap, symMapOp, bindO_some, Option.map_some, Option.bind_some, List.length_cons, List.length_nil, List.length_append, List.drop_zero, List.drop_succ_cons, List.take_succ_cons, List.take_zero, List.getElem?_cons_zero, List.getElem?_cons_succ, List.set_cons_zero, List.set_cons_succ, Nat.reduceLeDiff, List.map_cons, List.map_nil, setPart_agg, setPart_one, symSet, symSetF, Nat.reduceLT, fillV, buildV, List.replicate_succ, List.replicate_zero, Nat.lt_add_one, and_self, if_true, PV.one, PV.isAgg, PV.cells, PV.okc, List.all_cons, List.all_nil, Bool.and_self, List.nil_append, List.append_nil, List.cons_append, Nat.zero_add, Nat.add_zero, true_and, and_true, Nat.reduceEqDiff, reduceIte, Nat.reduceAdd, e1, Bool.not_true, dl, di, Int.toNat_natCast, List.getElem?_eq_getElem hil, byteV]
          refine ⟨by omega, ?_⟩
          try simp only [symCode, symIts, symOp, symBind, symQ, symT, symVal, symLook, symSlice, symHeap, symStep, symRange, symRaw, symBsl, symClr, symClrH, symGb, junkG, Bool.false_eq_true, decide_true, decide_false, symRes, symFrz, symApp, symMap, symMapOp, bindO_some, Option.map_some, Option.bind_some, List.length_cons, List.length_nil, List.length_append, List.drop_zero, List.drop_succ_cons, List.take_succ_cons, List.take_zero, List.getElem?_cons_zero, List.getElem?_cons_succ, List.set_cons_zero, List.set_cons_succ, Nat.reduceLeDiff, List.map_cons, List.map_nil, setPart_agg, setPart_one, symSet, symSetF, Nat.reduceLT, fillV, buildV, List.replicate_succ, List.replicate_zero, Nat.lt_add_one, and_self, if_true, PV.one, PV.isAgg, PV.cells, PV.okc, List.all_cons, List.all_nil, Bool.and_self, List.nil_append, List.append_nil, List.cons_append, Nat.zero_add, Nat.add_zero, true_and, and_true, Nat.reduceEqDiff, reduceIte, Nat.reduceAdd, e1, byteV]
          (repeat (first | refine And.intro (inR_i64.2 (by omega)) ?_ | refine And.intro (by omega) ?_))
          exact ⟨Ext.refl _, rfl, by rw [hb]; simp [bgnV]⟩
        have e1 : decide ((R[i].toNat : Int) = 36) = false := u8ne r36
        simp only [symCode, symIts, symOp, symBind, symQ, symT, symVal, symLook, symSlice, symHeap, symStep, symRange, symRaw, symBsl, symClr, symClrH, symGb, junkG, Bool.false_eq_true, decide_true, decide_false, symRes, symFrz, symApp, symMap, symMapOp, bindO_some, Option.map_some, Option.bind_some, List.length_cons, List.length_nil, List.length_append, List.drop_zero, List.drop_succ_cons, List.take_succ_cons, List.take_zero, List.getElem?_cons_zero, List.getElem?_cons_succ, List.set_cons_zero, List.set_cons_succ, Nat.reduceLeDiff, List.map_cons, List.map_nil, setPart_agg, setPart_one, symSet, symSetF, Nat.reduceLT, fillV, buildV, List.replicate_succ, List.replicate_zero, Nat.lt_add_one, and_self, if_true, PV.one, PV.isAgg, PV.cells, PV.okc, List.all_cons, List.all_nil, Bool.and_self, List.nil_append, List.append_nil, List.cons_append, Nat.zero_add, Nat.add_zero, true_and, and_true, Nat.reduceEqDiff, reduceIte, Nat.reduceAdd, e1, Bool.not_false, Int.toNat_natCast, List.getElem?_eq_getElem hil, byteV]
        refine ⟨by omega, ?_⟩
        by_cases r10 : R[i] = 10
        · have e2 : decide ((R[i].toNat : Int) = 10) = true := by rw [r10]; rfl
          have hpf : ∀ x, R[i]? = some x → plc x = false := fun x hx => by
            rw [List.getElem?_eq_getElem hil, r10] at hx; cases hx; rfl
          have hi0 := hR0 i hpl hpf
          have di : decide ((0 : Int) < i) = true := by simp; omega
          rw [tw_len hpl hik hpf, List.getElem?_eq_getElem hil, r10, if_neg (by decide)] at hit0
          simp only [symCode, symIts, symOp, symBind, symQ, symT, symVal, symLook, symSlice, symHeap, symStep, symRange, symRaw, symBsl, symClr, symClrH, symGb, junkG, Bool.false_eq_true, decide_true, decide_false, symRes, symFrz, symApp, symMap, symMapOp, bindO_some, Option.map_some, Option.bind_some, List.length_cons, List.length_nil, List.length_append, List.drop_zero, List.drop_succ_cons, List.take_succ_cons, List.take_zero, List.getElem?_cons_zero, List.getElem?_cons_succ, List.set_cons_zero, List.set_cons_succ, Nat.reduceLeDiff, List.map_cons, List.map_nil, setPart_agg, setPart_one, symSet, symSetF, Nat.reduceLT, fillV, buildV, List.replicate_succ, List.replicate_zero, Nat.lt_add_one, and_self, if_true, PV.one, PV.isAgg, PV.cells, PV.okc, List.all_cons, List.all_nil, Bool.and_self, List.nil_append, List.append_nil, List.cons_append, Nat.zero_add, Nat.add_zero, true_and, and_true, Nat.reduceEqDiff, reduceIte, Nat.reduceAdd, e2, Bool.not_true, dl, di, Int.toNat_natCast, List.getElem?_eq_getElem hil, byteV]
          refine ⟨by omega, ?_⟩
          try simp only [symCode, symIts, symOp, symBind, symQ, symT, symVal, symLook, symSlice, symHeap, symStep, symRange, symRaw, symBsl, symClr, symClrH, symGb, junkG, Bool.false_eq_true, decide_true, decide_false, symRes, symFrz, symApp, symMap, symMapOp, bindO_some, Option.map_some, Option.bind_some, List.length_cons, List.length_nil, List.length_append, List.drop_zero, List.drop_succ_cons, List.take_succ_cons, List.take_zero, List.getElem?_cons_zero, List.getElem?_cons_succ, List.set_cons_zero, List.set_cons_succ, Nat.reduceLeDiff, List.map_cons, List.map_nil, setPart_agg, setPart_one, symSet, symSetF, Nat.reduceLT, fillV, buildV, List.replicate_succ, List.replicate_zero, Nat.lt_add_one, and_self, if_true, PV.one, PV.isAgg, PV.cells, PV.okc, List.all_cons, List.all_nil, Bool.and_self, List.nil_append, List.append_nil, List.cons_append, Nat.zero_add, Nat.add_zero, true_and, and_true, Nat.reduceEqDiff, reduceIte, Nat.reduceAdd, e1, byteV]
          (repeat (first | refine And.intro (inR_i64.2 (by omega)) ?_ | refine And.intro (by omega) ?_))
          exact ⟨hstep hit0, rfl⟩
        · have e2 : decide ((R[i].toNat : Int) = 10) = false := u8ne r10
          have hp : plc R[i] = true := by simp [plc, r36, r10]
          simp only [symCode, symIts, symOp, symBind, symQ, symT, symVal, symLook, symSlice, symHeap, symStep, symRange, symRaw, symBsl, symClr, symClrH, symGb, junkG, Bool.false_eq_true, decide_true, decide_false, symRes, symFrz, symApp, symMap, symMapOp, bindO_some, Option.map_some, Option.bind_some, List.length_cons, List.length_nil, List.length_append, List.drop_zero, List.drop_succ_cons, List.take_succ_cons, List.take_zero, List.getElem?_cons_zero, List.getElem?_cons_succ, List.set_cons_zero, List.set_cons_succ, Nat.reduceLeDiff, List.map_cons, List.map_nil, setPart_agg, setPart_one, symSet, symSetF, Nat.reduceLT, fillV, buildV, List.replicate_succ, List.replicate_zero, Nat.lt_add_one, and_self, if_true, PV.one, PV.isAgg, PV.cells, PV.okc, List.all_cons, List.all_nil, Bool.and_self, List.nil_append, List.append_nil, List.cons_append, Nat.zero_add, Nat.add_zero, true_and, and_true, Nat.reduceEqDiff, reduceIte, Nat.reduceAdd, e2, Bool.not_false]
          (repeat (first | refine And.intro (inR_i64.2 (by omega)) ?_ | refine And.intro (by omega) ?_))
          exact ⟨plc_take hil hpl hp, rfl⟩
      · have dl : decide ((i : Int) < R.length) = false := by simp; omega
        have hpf : ∀ x, R[i]? = some x → plc x = false := fun x hx => by
          rw [List.getElem?_eq_none (by omega)] at hx; cases hx
        have hi0 := hR0 i hpl hpf
        have di : decide ((0 : Int) < i) = true := by simp; omega
        rw [tw_len hpl hik hpf, List.getElem?_eq_none (by omega), if_neg (by simp)] at hit0
        simp only [symCode, symIts, symOp, symBind, symQ, symT, symVal, symLook, symSlice, symHeap, symStep, symRange, symRaw, symBsl, symClr, symClrH, symGb, junkG, Bool.false_eq_true, decide_true, decide_false, symRes, symFrz, symApp, symMap, symMapOp, bindO_some, Option.map_some, Option.bind_some, List.length_cons, List.length_nil, List.length_append, List.drop_zero, List.drop_succ_cons, List.take_succ_cons, List.take_zero, List.getElem?_cons_zero, List.getElem?_cons_succ, List.set_cons_zero, List.set_cons_succ, Nat.reduceLeDiff, List.map_cons, List.map_nil, setPart_agg, setPart_one, symSet, symSetF, Nat.reduceLT, fillV, buildV, List.replicate_succ, List.replicate_zero, Nat.lt_add_one, and_self, if_true, PV.one, PV.isAgg, PV.cells, PV.okc, List.all_cons, List.all_nil, Bool.and_self, List.nil_append, List.append_nil, List.cons_append, Nat.zero_add, Nat.add_zero, true_and, and_true, Nat.reduceEqDiff, reduceIte, Nat.reduceAdd, dl, di]
        (repeat (first | refine And.intro (inR_i64.2 (by omega)) ?_ | refine And.intro (by omega) ?_))
        exact ⟨hstep hit0, rfl⟩

end Go.K10
