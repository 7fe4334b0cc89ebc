/- Contracts: what lies outside of the occurrences. -/
import Derived.Test.YtppeejkegbjgdaaDoorKq
set_option linter.unusedSimpArgs false
set_option linter.unusedVariables false
namespace Go.K10
open Go Go.Avm Go.Proofs

def zform (_ : Bs) : Bs := [0]

theorem outside {g0 : Gh} (b : Bs) (os : List Occ) (f1 n1 f2 n2 : Bool) (h : AH) (hl : b.length < 100000000) (hch : Chained b.length 0 os) :
    ACalls Tryd.prog g0 22 [.sl 1 (b.map byteV) f1 n1, .sl 2 ((os.map (·.2)).map rngV) f2 n2] h fun r h' => h' = h ∧ r = .str (repl b zform os) := by
  refine acalls_ES F22_ok rfl fun g1 hg => ?_
  have hol : os.length ≤ b.length := by have := chained_len hch; omega
  have hbd := fun k hk => repSt_bound (b := b) (form := zform) (os := os) (s := ([], 0)) (M := 1) hch (fun o _ => by simp [zform]) k hk
  simp only [F22, symCode, symIts, symOp, symBind, symQ, symT, symVal, symLook, symSlice, symHeap, symStep, symRange, symRaw, symBsl, symClr, symClrH, symGb, junkG, Bool.false_eq_true, decide_true, decide_false, symRes, symFrz, symApp, symMap, symMapOp, bindO_some, Option.map_some, Option.bind_some, List.length_cons, List.length_nil, List.length_append, List.drop_zero, List.drop_succ_cons, List.take_succ_cons, List.take_zero, List.getElem?_cons_zero, List.getElem?_cons_succ, List.set_cons_zero, List.set_cons_succ, Nat.reduceLeDiff, List.map_cons, List.map_nil, setPart_agg, setPart_one, symSet, symSetF, Nat.reduceLT, fillV, buildV, List.replicate_succ, List.replicate_zero, Nat.lt_add_one, and_self, if_true, PV.one, PV.isAgg, PV.cells, PV.okc, List.all_cons, List.all_nil, Bool.and_self, List.nil_append, List.append_nil, List.cons_append, Nat.zero_add, Nat.add_zero, true_and, and_true, Nat.reduceEqDiff, reduceIte, Nat.reduceAdd]
  refine ALoop.range os.length (fun k t h' => Ext h h' ∧ ∃ v, Own h.length h' v 1 ((repSt b zform (os.take k)).1.map byteV) ∧ t = [(0, .sl 1 (b.map byteV) f1 n1), (5, v), (6, .int .i64 (repSt b zform (os.take k)).2), (9, .sl 2 ((os.map (·.2)).map rngV) f2 n2), (10, .int .i64 os.length), (11, .int .i64 k)]) ?_ ?_
  · simp only [symCode, symIts, symOp, symBind, symQ, symT, symVal, symLook, symSlice, symHeap, symStep, symRange, symRaw, symBsl, symClr, symClrH, symGb, junkG, Bool.false_eq_true, decide_true, decide_false, symRes, symFrz, symApp, symMap, symMapOp, bindO_some, Option.map_some, Option.bind_some, List.length_cons, List.length_nil, List.length_append, List.drop_zero, List.drop_succ_cons, List.take_succ_cons, List.take_zero, List.getElem?_cons_zero, List.getElem?_cons_succ, List.set_cons_zero, List.set_cons_succ, Nat.reduceLeDiff, List.map_cons, List.map_nil, setPart_agg, setPart_one, symSet, symSetF, Nat.reduceLT, fillV, buildV, List.replicate_succ, List.replicate_zero, Nat.lt_add_one, and_self, if_true, PV.one, PV.isAgg, PV.cells, PV.okc, List.all_cons, List.all_nil, Bool.and_self, List.nil_append, List.append_nil, List.cons_append, Nat.zero_add, Nat.add_zero, true_and, and_true, Nat.reduceEqDiff, reduceIte, Nat.reduceAdd, List.length_map]
    exact ⟨Ext.refl h, _, .inl ⟨by simp [repSt], 0, rfl⟩, rfl⟩
  rintro k t h' hk ⟨he, v, hown, rfl⟩
  have hlt5 := fun id hid => (hown.lt (id := id) hid)
  have e0 : (os.take k).foldl (repStep b zform) ([], 0) = repSt b zform (os.take k) := rfl
  obtain ⟨b1, b2, b3⟩ := hbd k hk
  rw [e0] at b1 b2
  simp only [List.length_nil, Nat.add_zero, Nat.zero_add] at b2
  simp only [symCode, symIts, symOp, symBind, symQ, symT, symVal, symLook, symSlice, symHeap, symStep, symRange, symRaw, symBsl, symClr, symClrH, symGb, junkG, Bool.false_eq_true, decide_true, decide_false, symRes, symFrz, symApp, symMap, symMapOp, bindO_some, Option.map_some, Option.bind_some, List.length_cons, List.length_nil, List.length_append, List.drop_zero, List.drop_succ_cons, List.take_succ_cons, List.take_zero, List.getElem?_cons_zero, List.getElem?_cons_succ, List.set_cons_zero, List.set_cons_succ, Nat.reduceLeDiff, List.map_cons, List.map_nil, setPart_agg, setPart_one, symSet, symSetF, Nat.reduceLT, fillV, buildV, List.replicate_succ, List.replicate_zero, Nat.lt_add_one, and_self, if_true, PV.one, PV.isAgg, PV.cells, PV.okc, List.all_cons, List.all_nil, Bool.and_self, List.nil_append, List.append_nil, List.cons_append, Nat.zero_add, Nat.add_zero, true_and, and_true, Nat.reduceEqDiff, reduceIte, Nat.reduceAdd]
  refine brC_mk (fun hc => ?_) (fun hc => ?_)
  · have hi : k < os.length := by simpa using hc
    have hst : repSt b zform (os.take (k + 1)) = repStep b zform (repSt b zform (os.take k)) os[k] := by
      rw [repSt, take_snoc hi, List.foldl_append]; rfl
    rw [List.drop_eq_getElem_cons hi] at b1
    obtain ⟨c1, c2, c3, c4⟩ := b1
    generalize hst0 : repSt b zform (os.take k) = st at *
    generalize ho : os[k] = o at *
    have d1 : decide ((o.2.1 : Int) < st.2) = false := by simp; omega
    have d2 : decide ((o.2.2 : Int) < o.2.1) = false := by simp; omega
    have d3 : decide ((b.length : Int) ≤ o.2.2) = false := by simp; omega
    have d4 : decide ((o.2.2 : Int) ≥ b.length) = false := by simp; omega
    simp only [symCode, symIts, symOp, symBind, symQ, symT, symVal, symLook, symSlice, symHeap, symStep, symRange, symRaw, symBsl, symClr, symClrH, symGb, junkG, Bool.false_eq_true, decide_true, decide_false, symRes, symFrz, symApp, symMap, symMapOp, bindO_some, Option.map_some, Option.bind_some, List.length_cons, List.length_nil, List.length_append, List.drop_zero, List.drop_succ_cons, List.take_succ_cons, List.take_zero, List.getElem?_cons_zero, List.getElem?_cons_succ, List.set_cons_zero, List.set_cons_succ, Nat.reduceLeDiff, List.map_cons, List.map_nil, setPart_agg, setPart_one, symSet, symSetF, Nat.reduceLT, fillV, buildV, List.replicate_succ, List.replicate_zero, Nat.lt_add_one, and_self, if_true, PV.one, PV.isAgg, PV.cells, PV.okc, List.all_cons, List.all_nil, Bool.and_self, List.nil_append, List.append_nil, List.cons_append, Nat.zero_add, Nat.add_zero, true_and, and_true, Nat.reduceEqDiff, reduceIte, Nat.reduceAdd, Int.toNat_natCast, List.getElem?_map, List.getElem?_eq_getElem hi, ho, rngV, List.length_map, d1, d2, d3, d4]
    (repeat (first | refine And.intro (inR_i64.2 (by omega)) ?_ | refine And.intro (by omega) ?_))
    have hown' := hown.keep (h' := h' ++ [.arr 2 [.agg [.int .i64 o.2.1, .int .i64 o.2.2]] true].map fun x => x) fun id hid => List.getElem?_append_left (hlt5 id hid).2
    simp only [List.map_cons, List.map_nil, ← List.map_take, ← List.map_drop, PV.agg] at hown' ⊢
    have hll := he.1
    refine hown'.app (by simp; omega) ⟨by simp; omega, by simp; omega⟩ fun v2 h2 ha hl2 hkp hnew => ?_
    simp only [List.length_append, List.length_cons, List.length_nil] at hl2 hkp hnew
    simp only [symCode, symIts, symOp, symBind, symQ, symT, symVal, symLook, symSlice, symHeap, symStep, symRange, symRaw, symBsl, symClr, symClrH, symGb, junkG, Bool.false_eq_true, decide_true, decide_false, symRes, symFrz, symApp, symMap, symMapOp, bindO_some, Option.map_some, Option.bind_some, List.length_cons, List.length_nil, List.length_append, List.drop_zero, List.drop_succ_cons, List.take_succ_cons, List.take_zero, List.getElem?_cons_zero, List.getElem?_cons_succ, List.set_cons_zero, List.set_cons_succ, Nat.reduceLeDiff, List.map_cons, List.map_nil, setPart_agg, setPart_one, symSet, symSetF, Nat.reduceLT, fillV, buildV, List.replicate_succ, List.replicate_zero, Nat.lt_add_one, and_self, if_true, PV.one, PV.isAgg, PV.cells, PV.okc, List.all_cons, List.all_nil, Bool.and_self, List.nil_append, List.append_nil, List.cons_append, Nat.zero_add, Nat.add_zero, true_and, and_true, Nat.reduceEqDiff, reduceIte, Nat.reduceAdd]
    refine ha.app (by omega) ⟨by simp; omega, by simp; omega⟩ fun v3 h3 ha3 hl3 hkp3 hnew3 => ?_
    have hx3 : h3[h'.length]? = some (.arr 2 [.agg [.int .i64 o.2.1, .int .i64 o.2.2]] true) := by
      rw [hkp3 _ (by omega) (fun e => by have := hnew _ e; omega), hkp _ (by omega) (fun e => by have := hlt5 _ e; omega)]
      simp
    simp only [symCode, symIts, symOp, symBind, symQ, symT, symVal, symLook, symSlice, symHeap, symStep, symRange, symRaw, symBsl, symClr, symClrH, symGb, junkG, Bool.false_eq_true, decide_true, decide_false, symRes, symFrz, symApp, symMap, symMapOp, bindO_some, Option.map_some, Option.bind_some, List.length_cons, List.length_nil, List.length_append, List.drop_zero, List.drop_succ_cons, List.take_succ_cons, List.take_zero, List.getElem?_cons_zero, List.getElem?_cons_succ, List.set_cons_zero, List.set_cons_succ, Nat.reduceLeDiff, List.map_cons, List.map_nil, setPart_agg, setPart_one, symSet, symSetF, Nat.reduceLT, fillV, buildV, List.replicate_succ, List.replicate_zero, Nat.lt_add_one, and_self, if_true, PV.one, PV.isAgg, PV.cells, PV.okc, List.all_cons, List.all_nil, Bool.and_self, List.nil_append, List.append_nil, List.cons_append, Nat.zero_add, Nat.add_zero, true_and, and_true, Nat.reduceEqDiff, reduceIte, Nat.reduceAdd, hx3]
    (repeat (first | refine And.intro (inR_i64.2 (by omega)) ?_ | refine And.intro (by omega) ?_))
    refine ⟨⟨by omega, fun i hi' => ?_⟩, v3, ?_, ?_⟩
    · rw [hkp3 _ (by omega) (fun e => by have := hnew _ e; omega), hkp _ (by omega) (fun e => by have := hlt5 _ e; omega), List.getElem?_append_left (by omega)]
      exact he.2 i hi'
    · rw [hst]
      have e3 : (repStep b zform st o).1.map byteV = st.1.map byteV ++ ((b.take o.2.1).drop st.2).map byteV ++ [.int .u8 0] := by simp [repStep, zform, byteV]
      rw [e3]
      exact ha3
    · rw [hst]; simp [repStep]
  · have hi : ¬ k < os.length := by simpa using hc
    have ek : os.take k = os := List.take_of_length_le (by omega)
    rw [List.drop_of_length_le (by omega)] at b1
    rw [ek] at b1 b2 hown e0 ⊢
    have eq : repl b zform os = (repSt b zform os).1 ++ b.drop (repSt b zform os).2 := rfl
    rw [eq]
    have b4 : (repSt b zform os).2 ≤ b.length := b1
    generalize hst0 : repSt b zform os = st at *
    simp only [symCode, symIts, symOp, symBind, symQ, symT, symVal, symLook, symSlice, symHeap, symStep, symRange, symRaw, symBsl, symClr, symClrH, symGb, junkG, Bool.false_eq_true, decide_true, decide_false, symRes, symFrz, symApp, symMap, symMapOp, bindO_some, Option.map_some, Option.bind_some, List.length_cons, List.length_nil, List.length_append, List.drop_zero, List.drop_succ_cons, List.take_succ_cons, List.take_zero, List.getElem?_cons_zero, List.getElem?_cons_succ, List.set_cons_zero, List.set_cons_succ, Nat.reduceLeDiff, List.map_cons, List.map_nil, setPart_agg, setPart_one, symSet, symSetF, Nat.reduceLT, fillV, buildV, List.replicate_succ, List.replicate_zero, Nat.lt_add_one, and_self, if_true, PV.one, PV.isAgg, PV.cells, PV.okc, List.all_cons, List.all_nil, Bool.and_self, List.nil_append, List.append_nil, List.cons_append, Nat.zero_add, Nat.add_zero, true_and, and_true, Nat.reduceEqDiff, reduceIte, Nat.reduceAdd, Int.toNat_natCast, List.length_map, ← List.map_take, ← List.map_drop, List.take_length]
    (repeat (first | refine And.intro (inR_i64.2 (by omega)) ?_ | refine And.intro (by omega) ?_))
    refine hown.app (by have := he.1; omega) ⟨by rw [List.length_map, List.length_map, List.length_drop]; omega, by rw [List.length_map, List.length_map, List.length_drop]; omega⟩ fun v2 h2 ha hl2 hkp hnew => ?_
    rw [← List.map_append] at ha
    have hel : elemsV h2 v2 1 = some ((st.1 ++ b.drop st.2).map byteV) := by
      rcases ha with ⟨q1, sz', rfl⟩ | ⟨id, q1, q2, rfl⟩
      · rw [q1]; simp [elemsV]
      · generalize (st.1 ++ b.drop st.2).map byteV = l at *
        simp [elemsV, q2]
    simp only [symCode, symIts, symOp, symBind, symQ, symT, symVal, symLook, symSlice, symHeap, symStep, symRange, symRaw, symBsl, symClr, symClrH, symGb, junkG, Bool.false_eq_true, decide_true, decide_false, symRes, symFrz, symApp, symMap, symMapOp, bindO_some, Option.map_some, Option.bind_some, List.length_cons, List.length_nil, List.length_append, List.drop_zero, List.drop_succ_cons, List.take_succ_cons, List.take_zero, List.getElem?_cons_zero, List.getElem?_cons_succ, List.set_cons_zero, List.set_cons_succ, Nat.reduceLeDiff, List.map_cons, List.map_nil, setPart_agg, setPart_one, symSet, symSetF, Nat.reduceLT, fillV, buildV, List.replicate_succ, List.replicate_zero, Nat.lt_add_one, and_self, if_true, PV.one, PV.isAgg, PV.cells, PV.okc, List.all_cons, List.all_nil, Bool.and_self, List.nil_append, List.append_nil, List.cons_append, Nat.zero_add, Nat.add_zero, true_and, and_true, Nat.reduceEqDiff, reduceIte, Nat.reduceAdd, hel, bytesOf_map]
    exact ⟨⟨by have := he.1; omega, fun i hi' => by rw [hkp i (by have := he.1; omega) (fun e => by have := hlt5 _ e; omega)]; exact he.2 i hi'⟩, rfl, _, Sim.refl _, rfl⟩

/-- The text with the occurrences replaced, by its pieces. -/
def zop (names : List Bs) (form : Bs → Bs) : List Bs → Bs
  | [] => []
  | [p] => 36 :: p
  | p :: q :: r =>
    match dnm names p with
    | some nm => form nm ++ q ++ zop names form r
    | none => 36 :: p ++ zop names form (q :: r)

theorem replF_zop {names : List Bs} {form : Bs → Bs} : ∀ (n : Nat) (ps : List Bs) (u v : Bs), ps.length ≤ n → (∀ p ∈ ps, NoD p) →
    replF (u ++ v ++ joinD ps) form u.length (occL names (u.length + v.length) ps) = v ++ zop names form ps
  | _, [], u, v, _, _ => by simp [occL, replF, joinD, zop]
  | _, [p], u, v, _, _ => by simp [occL, replF, joinD, zop]
  | n + 1, p :: q :: r, u, v, hl, h => by
    rw [occL, zop]
    cases hd : dnm names p with
    | some nm =>
      simp only []
      rw [replF_cons]
      have e2 : ((u ++ v ++ joinD (p :: q :: r)).take (u.length + v.length)).drop u.length = v := by
        rw [show u.length + v.length = (u ++ v).length by simp, List.take_left, List.drop_left]
      have e3 : u ++ v ++ joinD (p :: q :: r) = (u ++ v ++ 36 :: (p ++ [36])) ++ q ++ joinD r := by simp [joinD]
      have ih := replF_zop (names := names) (form := form) n r (u ++ v ++ 36 :: (p ++ [36])) q (by simp at hl; omega) (fun x hx => h x (by simp [hx]))
      have hlen : (u ++ v ++ 36 :: (p ++ [36])).length = u.length + v.length + 1 + p.length + 1 := by simp; omega
      rw [hlen, ← e3] at ih
      rw [e2, ih]
      simp
    | none =>
      simp only []
      have e3 : u ++ v ++ joinD (p :: q :: r) = u ++ (v ++ 36 :: p) ++ joinD (q :: r) := by simp [joinD]
      have ih := replF_zop (names := names) (form := form) n (q :: r) u (v ++ 36 :: p) (by simp at hl ⊢; omega) (fun x hx => h x (by simp at hx ⊢; exact .inr hx))
      have hlen : u.length + (v ++ 36 :: p).length = u.length + v.length + 1 + p.length := by simp; omega
      rw [hlen, ← e3] at ih
      rw [ih]
      simp

theorem repl_zop {names : List Bs} (hn : ∀ s ∈ names, isNm s = true) {form : Bs → Bs} {p : Bs} {ps : List Bs} (hp : NoD p) (h : ∀ q ∈ ps, NoD q) :
    repl (p ++ joinD ps) form (occs (p ++ joinD ps) names 0) = p ++ zop names form ps := by
  have := replF_zop (names := names) (form := form) ps.length ps [] p (Nat.le_refl _) h
  simp only [List.nil_append, List.length_nil, Nat.zero_add] at this
  rw [occs_cut hn hp h]
  exact this

theorem gop_shape {names : List Bs} {f : Bs → Bs} (q : Bs) (r : List Bs) : ∃ a l, gop names f (q :: r) = a :: l := by
  cases r with
  | nil => exact ⟨q, [], rfl⟩
  | cons s r =>
    rw [gop]
    cases dnm names q with
    | some nm => exact ⟨_, _, rfl⟩
    | none => exact ⟨_, _, rfl⟩

theorem dnm_mem {names : List Bs} {p nm : Bs} (hd : dnm names p = some nm) : nm ∈ names := by
  unfold dnm at hd
  split at hd
  · rename_i hc; cases hd; exact hc.1
  · cases hd

theorem zop_gop {names : List Bs} {f g : Bs → Bs} (hi : Inner names f) : ∀ (n : Nat) (ps : List Bs), ps.length ≤ n → zop names g (gop names f ps) = zop names g ps
  | _, [], _ => by simp [gop]
  | _, [p], _ => by simp [gop]
  | n + 1, p :: q :: r, hl => by
    cases hd : dnm names p with
    | some nm =>
      have ih := zop_gop (g := g) hi n r (by simp at hl; omega)
      simp only [gop, zop, hd, (hi nm (dnm_mem hd)).1, ih]
    | none =>
      have ih := zop_gop (g := g) hi n (q :: r) (by simp at hl ⊢; omega)
      obtain ⟨a, l, e⟩ := gop_shape (names := names) (f := f) q r
      have e1 : gop names f (p :: q :: r) = p :: gop names f (q :: r) := by simp only [gop, hd]
      have e2 : zop names g (p :: q :: r) = 36 :: p ++ zop names g (q :: r) := by simp only [zop, hd]
      rw [e1, e2, ← ih, e]
      simp only [zop, hd]

theorem occL_gop {names : List Bs} {f : Bs → Bs} (hi : Inner names f) : ∀ (n : Nat) (ps : List Bs) (i j : Nat), ps.length ≤ n → (occL names i (gop names f ps)).length = (occL names j ps).length
  | _, [], _, _, _ => by simp [gop, occL]
  | _, [p], _, _, _ => by simp [gop, occL]
  | n + 1, p :: q :: r, i, j, hl => by
    cases hd : dnm names p with
    | some nm =>
      have ih := fun i j => occL_gop hi n r i j (by simp at hl; omega)
      simp only [gop, occL, hd, (hi nm (dnm_mem hd)).1, List.length_cons]
      rw [ih]
    | none =>
      have ih := fun i j => occL_gop hi n (q :: r) i j (by simp at hl ⊢; omega)
      obtain ⟨a, l, e⟩ := gop_shape (names := names) (f := f) q r
      have e1 : gop names f (p :: q :: r) = p :: gop names f (q :: r) := by simp only [gop, hd]
      have e2 : occL names j (p :: q :: r) = occL names (j + 1 + p.length) (q :: r) := by simp only [occL, hd]
      rw [e1, e2, ← ih (i + 1 + p.length), e]
      simp only [occL, hd]

/-- REPLACING, AND WHAT LIES OUTSIDE. -/
theorem repl_any {names : List Bs} (hn : ∀ s ∈ names, isNm s = true) {F G f : Bs → Bs} (hF : ∀ s ∈ names, F s = 36 :: (f s ++ [36])) (hf : Inner names f) (b : Bs) :
    repl (repl b F (occs b names 0)) G (occs (repl b F (occs b names 0)) names 0) = repl b G (occs b names 0) ∧ (occs (repl b F (occs b names 0)) names 0).length = (occs b names 0).length := by
  obtain ⟨p, ps, rfl, hp, hs⟩ := split_all b.length b (Nat.le_refl _)
  have hg := gop_nod hf ps.length ps (Nat.le_refl _) hs
  rw [repl_cut hn hF hp hs]
  refine ⟨?_, ?_⟩
  · rw [repl_zop hn hp hg, repl_zop hn hp hs, zop_gop hf ps.length ps (Nat.le_refl _)]
  · rw [occs_cut hn hp hg, occs_cut hn hp hs, occL_gop hf ps.length ps _ _ (Nat.le_refl _)]

theorem keywordOutside_ok {g0 : Gh} (hG : Glob g0) (b : Bs) (ws : List (Bs × Bs)) (f1 n1 f2 n2 : Bool) (h : AH) (hw : ws.length ≤ 9223372036854775807) :
    ACalls Tryd.prog g0 7 [.sl 1 (b.map byteV) f1 n1, .sl 2 (ws.map wordV) f2 n2] h fun r h' => h' = h ∧ r = .bool true := by
  refine acalls_E F7_ok rfl fun g1 hg => ?_
  simp only [F7, symCode, symIts, symOp, symBind, symQ, symT, symVal, symLook, symSlice, symHeap, symStep, symRange, symRaw, symBsl, symClr, symClrH, symGb, junkG, Bool.false_eq_true, decide_true, decide_false, symRes, symFrz, symApp, symMap, symMapOp, bindO_some, Option.map_some, Option.bind_some, List.length_cons, List.length_nil, List.length_append, List.drop_zero, List.drop_succ_cons, List.take_succ_cons, List.take_zero, List.getElem?_cons_zero, List.getElem?_cons_succ, List.set_cons_zero, List.set_cons_succ, Nat.reduceLeDiff, List.map_cons, List.map_nil, setPart_agg, setPart_one, symSet, symSetF, Nat.reduceLT, fillV, buildV, List.replicate_succ, List.replicate_zero, Nat.lt_add_one, and_self, if_true, PV.one, PV.isAgg, PV.cells, PV.okc, List.all_cons, List.all_nil, Bool.and_self, List.nil_append, List.append_nil, List.cons_append, Nat.zero_add, Nat.add_zero, true_and, and_true, Nat.reduceEqDiff, reduceIte, Nat.reduceAdd]
  refine (large0 b f1 n1 h).go' ?_
  rintro r rfl
  simp only [symCode, symIts, symOp, symBind, symQ, symT, symVal, symLook, symSlice, symHeap, symStep, symRange, symRaw, symBsl, symClr, symClrH, symGb, junkG, Bool.false_eq_true, decide_true, decide_false, symRes, symFrz, symApp, symMap, symMapOp, bindO_some, Option.map_some, Option.bind_some, List.length_cons, List.length_nil, List.length_append, List.drop_zero, List.drop_succ_cons, List.take_succ_cons, List.take_zero, List.getElem?_cons_zero, List.getElem?_cons_succ, List.set_cons_zero, List.set_cons_succ, Nat.reduceLeDiff, List.map_cons, List.map_nil, setPart_agg, setPart_one, symSet, symSetF, Nat.reduceLT, fillV, buildV, List.replicate_succ, List.replicate_zero, Nat.lt_add_one, and_self, if_true, PV.one, PV.isAgg, PV.cells, PV.okc, List.all_cons, List.all_nil, Bool.and_self, List.nil_append, List.append_nil, List.cons_append, Nat.zero_add, Nat.add_zero, true_and, and_true, Nat.reduceEqDiff, reduceIte, Nat.reduceAdd]
  refine brG_pick (.bool (largeB b [] || wordsB ws)) (fun hc => ?_) (fun hc => ?_) ?_
  · simp only [symCode, symIts, symOp, symBind, symQ, symT, symVal, symLook, symSlice, symHeap, symStep, symRange, symRaw, symBsl, symClr, symClrH, symGb, junkG, Bool.false_eq_true, decide_true, decide_false, symRes, symFrz, symApp, symMap, symMapOp, bindO_some, Option.map_some, Option.bind_some, List.length_cons, List.length_nil, List.length_append, List.drop_zero, List.drop_succ_cons, List.take_succ_cons, List.take_zero, List.getElem?_cons_zero, List.getElem?_cons_succ, List.set_cons_zero, List.set_cons_succ, Nat.reduceLeDiff, List.map_cons, List.map_nil, setPart_agg, setPart_one, symSet, symSetF, Nat.reduceLT, fillV, buildV, List.replicate_succ, List.replicate_zero, Nat.lt_add_one, and_self, if_true, PV.one, PV.isAgg, PV.cells, PV.okc, List.all_cons, List.all_nil, Bool.and_self, List.nil_append, List.append_nil, List.cons_append, Nat.zero_add, Nat.add_zero, true_and, and_true, Nat.reduceEqDiff, reduceIte, Nat.reduceAdd]
    refine (words ws f2 n2 _ hw).go' ?_
    rintro r rfl
    simp only [symCode, symIts, symOp, symBind, symQ, symT, symVal, symLook, symSlice, symHeap, symStep, symRange, symRaw, symBsl, symClr, symClrH, symGb, junkG, Bool.false_eq_true, decide_true, decide_false, symRes, symFrz, symApp, symMap, symMapOp, bindO_some, Option.map_some, Option.bind_some, List.length_cons, List.length_nil, List.length_append, List.drop_zero, List.drop_succ_cons, List.take_succ_cons, List.take_zero, List.getElem?_cons_zero, List.getElem?_cons_succ, List.set_cons_zero, List.set_cons_succ, Nat.reduceLeDiff, List.map_cons, List.map_nil, setPart_agg, setPart_one, symSet, symSetF, Nat.reduceLT, fillV, buildV, List.replicate_succ, List.replicate_zero, Nat.lt_add_one, and_self, if_true, PV.one, PV.isAgg, PV.cells, PV.okc, List.all_cons, List.all_nil, Bool.and_self, List.nil_append, List.append_nil, List.cons_append, Nat.zero_add, Nat.add_zero, true_and, and_true, Nat.reduceEqDiff, reduceIte, Nat.reduceAdd, pickT, hc, Bool.false_or]
  · simp only [symCode, symIts, symOp, symBind, symQ, symT, symVal, symLook, symSlice, symHeap, symStep, symRange, symRaw, symBsl, symClr, symClrH, symGb, junkG, Bool.false_eq_true, decide_true, decide_false, symRes, symFrz, symApp, symMap, symMapOp, bindO_some, Option.map_some, Option.bind_some, List.length_cons, List.length_nil, List.length_append, List.drop_zero, List.drop_succ_cons, List.take_succ_cons, List.take_zero, List.getElem?_cons_zero, List.getElem?_cons_succ, List.set_cons_zero, List.set_cons_succ, Nat.reduceLeDiff, List.map_cons, List.map_nil, setPart_agg, setPart_one, symSet, symSetF, Nat.reduceLT, fillV, buildV, List.replicate_succ, List.replicate_zero, Nat.lt_add_one, and_self, if_true, PV.one, PV.isAgg, PV.cells, PV.okc, List.all_cons, List.all_nil, Bool.and_self, List.nil_append, List.append_nil, List.cons_append, Nat.zero_add, Nat.add_zero, true_and, and_true, Nat.reduceEqDiff, reduceIte, Nat.reduceAdd, pickT, hc, Bool.not_false, Bool.true_or]
  simp only [symCode, symIts, symOp, symBind, symQ, symT, symVal, symLook, symSlice, symHeap, symStep, symRange, symRaw, symBsl, symClr, symClrH, symGb, junkG, Bool.false_eq_true, decide_true, decide_false, symRes, symFrz, symApp, symMap, symMapOp, bindO_some, Option.map_some, Option.bind_some, List.length_cons, List.length_nil, List.length_append, List.drop_zero, List.drop_succ_cons, List.take_succ_cons, List.take_zero, List.getElem?_cons_zero, List.getElem?_cons_succ, List.set_cons_zero, List.set_cons_succ, Nat.reduceLeDiff, List.map_cons, List.map_nil, setPart_agg, setPart_one, symSet, symSetF, Nat.reduceLT, fillV, buildV, List.replicate_succ, List.replicate_zero, Nat.lt_add_one, and_self, if_true, PV.one, PV.isAgg, PV.cells, PV.okc, List.all_cons, List.all_nil, Bool.and_self, List.nil_append, List.append_nil, List.cons_append, Nat.zero_add, Nat.add_zero, true_and, and_true, Nat.reduceEqDiff, reduceIte, Nat.reduceAdd]
  intros
  refine brC_mk (fun hc => ?_) (fun hc => ?_)
  · simp only [symCode, symIts, symOp, symBind, symQ, symT, symVal, symLook, symSlice, symHeap, symStep, symRange, symRaw, symBsl, symClr, symClrH, symGb, junkG, Bool.false_eq_true, decide_true, decide_false, symRes, symFrz, symApp, symMap, symMapOp, bindO_some, Option.map_some, Option.bind_some, List.length_cons, List.length_nil, List.length_append, List.drop_zero, List.drop_succ_cons, List.take_succ_cons, List.take_zero, List.getElem?_cons_zero, List.getElem?_cons_succ, List.set_cons_zero, List.set_cons_succ, Nat.reduceLeDiff, List.map_cons, List.map_nil, setPart_agg, setPart_one, symSet, symSetF, Nat.reduceLT, fillV, buildV, List.replicate_succ, List.replicate_zero, Nat.lt_add_one, and_self, if_true, PV.one, PV.isAgg, PV.cells, PV.okc, List.all_cons, List.all_nil, Bool.and_self, List.nil_append, List.append_nil, List.cons_append, Nat.zero_add, Nat.add_zero, true_and, and_true, Nat.reduceEqDiff, reduceIte, Nat.reduceAdd]
    refine (awake (hG.le hg) h).go' ?_
    rintro r rfl
    simp only [symCode, symIts, symOp, symBind, symQ, symT, symVal, symLook, symSlice, symHeap, symStep, symRange, symRaw, symBsl, symClr, symClrH, symGb, junkG, Bool.false_eq_true, decide_true, decide_false, symRes, symFrz, symApp, symMap, symMapOp, bindO_some, Option.map_some, Option.bind_some, List.length_cons, List.length_nil, List.length_append, List.drop_zero, List.drop_succ_cons, List.take_succ_cons, List.take_zero, List.getElem?_cons_zero, List.getElem?_cons_succ, List.set_cons_zero, List.set_cons_succ, Nat.reduceLeDiff, List.map_cons, List.map_nil, setPart_agg, setPart_one, symSet, symSetF, Nat.reduceLT, fillV, buildV, List.replicate_succ, List.replicate_zero, Nat.lt_add_one, and_self, if_true, PV.one, PV.isAgg, PV.cells, PV.okc, List.all_cons, List.all_nil, Bool.and_self, List.nil_append, List.append_nil, List.cons_append, Nat.zero_add, Nat.add_zero, true_and, and_true, Nat.reduceEqDiff, reduceIte, Nat.reduceAdd]
    exact ⟨Ext.refl _, rfl⟩
  obtain ⟨hb, hwl, hws⟩ := guard_of hc
  have hsz : ∀ x ∈ ws, x.1.length < 1000000000000 ∧ x.2.length < 1000000000000 := fun x hx => by have := hws x hx; omega
  have hsn : ∀ x ∈ ws.map (·.1), x.length < 1000000000000 := fun x hx => by
    obtain ⟨w, hw, rfl⟩ := List.mem_map.1 hx
    exact (hsz w hw).1
  have hnl : (ws.map (·.1)).length ≤ 12 := by simp; omega
  have e1 : decide ((100 : Int) = 0) = false := by decide
  simp only [symCode, symIts, symOp, symBind, symQ, symT, symVal, symLook, symSlice, symHeap, symStep, symRange, symRaw, symBsl, symClr, symClrH, symGb, junkG, Bool.false_eq_true, decide_true, decide_false, symRes, symFrz, symApp, symMap, symMapOp, bindO_some, Option.map_some, Option.bind_some, List.length_cons, List.length_nil, List.length_append, List.drop_zero, List.drop_succ_cons, List.take_succ_cons, List.take_zero, List.getElem?_cons_zero, List.getElem?_cons_succ, List.set_cons_zero, List.set_cons_succ, Nat.reduceLeDiff, List.map_cons, List.map_nil, setPart_agg, setPart_one, symSet, symSetF, Nat.reduceLT, fillV, buildV, List.replicate_succ, List.replicate_zero, Nat.lt_add_one, and_self, if_true, PV.one, PV.isAgg, PV.cells, PV.okc, List.all_cons, List.all_nil, Bool.and_self, List.nil_append, List.append_nil, List.cons_append, Nat.zero_add, Nat.add_zero, true_and, and_true, Nat.reduceEqDiff, reduceIte, Nat.reduceAdd]
  refine (Expand (hG.le hg) b ws f1 n1 f2 n2 h (by omega) (by omega) hsz).go' ?_
  rintro _ (⟨hx, rfl⟩ | ⟨hx, xf, xn, rfl⟩)
  · simp only [symCode, symIts, symOp, symBind, symQ, symT, symVal, symLook, symSlice, symHeap, symStep, symRange, symRaw, symBsl, symClr, symClrH, symGb, junkG, Bool.false_eq_true, decide_true, decide_false, symRes, symFrz, symApp, symMap, symMapOp, bindO_some, Option.map_some, Option.bind_some, List.length_cons, List.length_nil, List.length_append, List.drop_zero, List.drop_succ_cons, List.take_succ_cons, List.take_zero, List.getElem?_cons_zero, List.getElem?_cons_succ, List.set_cons_zero, List.set_cons_succ, Nat.reduceLeDiff, List.map_cons, List.map_nil, setPart_agg, setPart_one, symSet, symSetF, Nat.reduceLT, fillV, buildV, List.replicate_succ, List.replicate_zero, Nat.lt_add_one, and_self, if_true, PV.one, PV.isAgg, PV.cells, PV.okc, List.all_cons, List.all_nil, Bool.and_self, List.nil_append, List.append_nil, List.cons_append, Nat.zero_add, Nat.add_zero, true_and, and_true, Nat.reduceEqDiff, reduceIte, Nat.reduceAdd, e1, Bool.not_false]
    refine (awake (hG.le hg) h).go' ?_
    rintro r rfl
    simp only [symCode, symIts, symOp, symBind, symQ, symT, symVal, symLook, symSlice, symHeap, symStep, symRange, symRaw, symBsl, symClr, symClrH, symGb, junkG, Bool.false_eq_true, decide_true, decide_false, symRes, symFrz, symApp, symMap, symMapOp, bindO_some, Option.map_some, Option.bind_some, List.length_cons, List.length_nil, List.length_append, List.drop_zero, List.drop_succ_cons, List.take_succ_cons, List.take_zero, List.getElem?_cons_zero, List.getElem?_cons_succ, List.set_cons_zero, List.set_cons_succ, Nat.reduceLeDiff, List.map_cons, List.map_nil, setPart_agg, setPart_one, symSet, symSetF, Nat.reduceLT, fillV, buildV, List.replicate_succ, List.replicate_zero, Nat.lt_add_one, and_self, if_true, PV.one, PV.isAgg, PV.cells, PV.okc, List.all_cons, List.all_nil, Bool.and_self, List.nil_append, List.append_nil, List.cons_append, Nat.zero_add, Nat.add_zero, true_and, and_true, Nat.reduceEqDiff, reduceIte, Nat.reduceAdd]
    exact ⟨Ext.refl _, rfl⟩
  have hok : namesOk (ws.map (·.1)) = true := by simp only [expOk, Bool.and_eq_true] at hx; exact hx.2
  have hnm := nm_of hok
  have hel : ∀ c : Bs, ∀ o ∈ occs c (ws.map (·.1)) 0, (eform ws o.1).length ≤ 2000 := fun c o ho => eform_len hx (occs_mem _ 0 (Nat.le_refl _) ho).1
  have hcl : ∀ c : Bs, ∀ o ∈ occs c (ws.map (·.1)) 0, (cform o.1).length ≤ 2000 := fun c o ho => cform_len hok (occs_mem _ 0 (Nat.le_refl _) ho).1
  have hxl := repl_len (hel b)
  have hyl := repl_len (hcl b)
  have hbm : b.length * 2000 ≤ 1500 * 2000 := Nat.mul_le_mul_right _ hb
  obtain ⟨p1, p2⟩ := repl_any (G := zform) hnm (eform_in ws _) (inner_e hx) b
  obtain ⟨p3, p4⟩ := repl_any (G := zform) hnm (cform_in _) (inner_c hok) b
  have hol := fun c => occs_len c (ws.map (·.1))
  simp only [symCode, symIts, symOp, symBind, symQ, symT, symVal, symLook, symSlice, symHeap, symStep, symRange, symRaw, symBsl, symClr, symClrH, symGb, junkG, Bool.false_eq_true, decide_true, decide_false, symRes, symFrz, symApp, symMap, symMapOp, bindO_some, Option.map_some, Option.bind_some, List.length_cons, List.length_nil, List.length_append, List.drop_zero, List.drop_succ_cons, List.take_succ_cons, List.take_zero, List.getElem?_cons_zero, List.getElem?_cons_succ, List.set_cons_zero, List.set_cons_succ, Nat.reduceLeDiff, List.map_cons, List.map_nil, setPart_agg, setPart_one, symSet, symSetF, Nat.reduceLT, fillV, buildV, List.replicate_succ, List.replicate_zero, Nat.lt_add_one, and_self, if_true, PV.one, PV.isAgg, PV.cells, PV.okc, List.all_cons, List.all_nil, Bool.and_self, List.nil_append, List.append_nil, List.cons_append, Nat.zero_add, Nat.add_zero, true_and, and_true, Nat.reduceEqDiff, reduceIte, Nat.reduceAdd, Bool.not_true]
  refine (names ws f2 n2 h (by omega)).go' ?_
  rintro _ ⟨nf, nn, rfl⟩
  simp only [symCode, symIts, symOp, symBind, symQ, symT, symVal, symLook, symSlice, symHeap, symStep, symRange, symRaw, symBsl, symClr, symClrH, symGb, junkG, Bool.false_eq_true, decide_true, decide_false, symRes, symFrz, symApp, symMap, symMapOp, bindO_some, Option.map_some, Option.bind_some, List.length_cons, List.length_nil, List.length_append, List.drop_zero, List.drop_succ_cons, List.take_succ_cons, List.take_zero, List.getElem?_cons_zero, List.getElem?_cons_succ, List.set_cons_zero, List.set_cons_succ, Nat.reduceLeDiff, List.map_cons, List.map_nil, setPart_agg, setPart_one, symSet, symSetF, Nat.reduceLT, fillV, buildV, List.replicate_succ, List.replicate_zero, Nat.lt_add_one, and_self, if_true, PV.one, PV.isAgg, PV.cells, PV.okc, List.all_cons, List.all_nil, Bool.and_self, List.nil_append, List.append_nil, List.cons_append, Nat.zero_add, Nat.add_zero, true_and, and_true, Nat.reduceEqDiff, reduceIte, Nat.reduceAdd]
  refine (Collapse (hG.le hg) b (ws.map (·.1)) f1 n1 nf nn h (by omega) hnl hsn).go' ?_
  rintro _ (⟨hy, rfl⟩ | ⟨hy, cf, cn, rfl⟩)
  · rw [hok] at hy; cases hy
  simp only [symCode, symIts, symOp, symBind, symQ, symT, symVal, symLook, symSlice, symHeap, symStep, symRange, symRaw, symBsl, symClr, symClrH, symGb, junkG, Bool.false_eq_true, decide_true, decide_false, symRes, symFrz, symApp, symMap, symMapOp, bindO_some, Option.map_some, Option.bind_some, List.length_cons, List.length_nil, List.length_append, List.drop_zero, List.drop_succ_cons, List.take_succ_cons, List.take_zero, List.getElem?_cons_zero, List.getElem?_cons_succ, List.set_cons_zero, List.set_cons_succ, Nat.reduceLeDiff, List.map_cons, List.map_nil, setPart_agg, setPart_one, symSet, symSetF, Nat.reduceLT, fillV, buildV, List.replicate_succ, List.replicate_zero, Nat.lt_add_one, and_self, if_true, PV.one, PV.isAgg, PV.cells, PV.okc, List.all_cons, List.all_nil, Bool.and_self, List.nil_append, List.append_nil, List.cons_append, Nat.zero_add, Nat.add_zero, true_and, and_true, Nat.reduceEqDiff, reduceIte, Nat.reduceAdd]
  refine (names ws f2 n2 h (by omega)).go' ?_
  rintro _ ⟨nf, nn, rfl⟩
  simp only [symCode, symIts, symOp, symBind, symQ, symT, symVal, symLook, symSlice, symHeap, symStep, symRange, symRaw, symBsl, symClr, symClrH, symGb, junkG, Bool.false_eq_true, decide_true, decide_false, symRes, symFrz, symApp, symMap, symMapOp, bindO_some, Option.map_some, Option.bind_some, List.length_cons, List.length_nil, List.length_append, List.drop_zero, List.drop_succ_cons, List.take_succ_cons, List.take_zero, List.getElem?_cons_zero, List.getElem?_cons_succ, List.set_cons_zero, List.set_cons_succ, Nat.reduceLeDiff, List.map_cons, List.map_nil, setPart_agg, setPart_one, symSet, symSetF, Nat.reduceLT, fillV, buildV, List.replicate_succ, List.replicate_zero, Nat.lt_add_one, and_self, if_true, PV.one, PV.isAgg, PV.cells, PV.okc, List.all_cons, List.all_nil, Bool.and_self, List.nil_append, List.append_nil, List.cons_append, Nat.zero_add, Nat.add_zero, true_and, and_true, Nat.reduceEqDiff, reduceIte, Nat.reduceAdd]
  refine (Find (hG.le hg) b (ws.map (·.1)) f1 n1 nf nn h (by omega) hnl hsn (by have := hol b; omega)).go' ?_
  rintro _ (⟨hy, rfl⟩ | ⟨hy, pf, pn, rfl⟩)
  · rw [hok] at hy; cases hy
  simp only [symCode, symIts, symOp, symBind, symQ, symT, symVal, symLook, symSlice, symHeap, symStep, symRange, symRaw, symBsl, symClr, symClrH, symGb, junkG, Bool.false_eq_true, decide_true, decide_false, symRes, symFrz, symApp, symMap, symMapOp, bindO_some, Option.map_some, Option.bind_some, List.length_cons, List.length_nil, List.length_append, List.drop_zero, List.drop_succ_cons, List.take_succ_cons, List.take_zero, List.getElem?_cons_zero, List.getElem?_cons_succ, List.set_cons_zero, List.set_cons_succ, Nat.reduceLeDiff, List.map_cons, List.map_nil, setPart_agg, setPart_one, symSet, symSetF, Nat.reduceLT, fillV, buildV, List.replicate_succ, List.replicate_zero, Nat.lt_add_one, and_self, if_true, PV.one, PV.isAgg, PV.cells, PV.okc, List.all_cons, List.all_nil, Bool.and_self, List.nil_append, List.append_nil, List.cons_append, Nat.zero_add, Nat.add_zero, true_and, and_true, Nat.reduceEqDiff, reduceIte, Nat.reduceAdd]
  refine (names ws f2 n2 h (by omega)).go' ?_
  rintro _ ⟨nf, nn, rfl⟩
  simp only [symCode, symIts, symOp, symBind, symQ, symT, symVal, symLook, symSlice, symHeap, symStep, symRange, symRaw, symBsl, symClr, symClrH, symGb, junkG, Bool.false_eq_true, decide_true, decide_false, symRes, symFrz, symApp, symMap, symMapOp, bindO_some, Option.map_some, Option.bind_some, List.length_cons, List.length_nil, List.length_append, List.drop_zero, List.drop_succ_cons, List.take_succ_cons, List.take_zero, List.getElem?_cons_zero, List.getElem?_cons_succ, List.set_cons_zero, List.set_cons_succ, Nat.reduceLeDiff, List.map_cons, List.map_nil, setPart_agg, setPart_one, symSet, symSetF, Nat.reduceLT, fillV, buildV, List.replicate_succ, List.replicate_zero, Nat.lt_add_one, and_self, if_true, PV.one, PV.isAgg, PV.cells, PV.okc, List.all_cons, List.all_nil, Bool.and_self, List.nil_append, List.append_nil, List.cons_append, Nat.zero_add, Nat.add_zero, true_and, and_true, Nat.reduceEqDiff, reduceIte, Nat.reduceAdd]
  refine (Find (hG.le hg) (repl b (eform ws) (occs b (ws.map (·.1)) 0)) (ws.map (·.1)) xf xn nf nn h (by omega) hnl hsn (by have := hol (repl b (eform ws) (occs b (ws.map (·.1)) 0)); omega)).go' ?_
  rintro _ (⟨hy, rfl⟩ | ⟨hy, qf, qn, rfl⟩)
  · rw [hok] at hy; cases hy
  simp only [symCode, symIts, symOp, symBind, symQ, symT, symVal, symLook, symSlice, symHeap, symStep, symRange, symRaw, symBsl, symClr, symClrH, symGb, junkG, Bool.false_eq_true, decide_true, decide_false, symRes, symFrz, symApp, symMap, symMapOp, bindO_some, Option.map_some, Option.bind_some, List.length_cons, List.length_nil, List.length_append, List.drop_zero, List.drop_succ_cons, List.take_succ_cons, List.take_zero, List.getElem?_cons_zero, List.getElem?_cons_succ, List.set_cons_zero, List.set_cons_succ, Nat.reduceLeDiff, List.map_cons, List.map_nil, setPart_agg, setPart_one, symSet, symSetF, Nat.reduceLT, fillV, buildV, List.replicate_succ, List.replicate_zero, Nat.lt_add_one, and_self, if_true, PV.one, PV.isAgg, PV.cells, PV.okc, List.all_cons, List.all_nil, Bool.and_self, List.nil_append, List.append_nil, List.cons_append, Nat.zero_add, Nat.add_zero, true_and, and_true, Nat.reduceEqDiff, reduceIte, Nat.reduceAdd]
  refine (names ws f2 n2 h (by omega)).go' ?_
  rintro _ ⟨nf, nn, rfl⟩
  simp only [symCode, symIts, symOp, symBind, symQ, symT, symVal, symLook, symSlice, symHeap, symStep, symRange, symRaw, symBsl, symClr, symClrH, symGb, junkG, Bool.false_eq_true, decide_true, decide_false, symRes, symFrz, symApp, symMap, symMapOp, bindO_some, Option.map_some, Option.bind_some, List.length_cons, List.length_nil, List.length_append, List.drop_zero, List.drop_succ_cons, List.take_succ_cons, List.take_zero, List.getElem?_cons_zero, List.getElem?_cons_succ, List.set_cons_zero, List.set_cons_succ, Nat.reduceLeDiff, List.map_cons, List.map_nil, setPart_agg, setPart_one, symSet, symSetF, Nat.reduceLT, fillV, buildV, List.replicate_succ, List.replicate_zero, Nat.lt_add_one, and_self, if_true, PV.one, PV.isAgg, PV.cells, PV.okc, List.all_cons, List.all_nil, Bool.and_self, List.nil_append, List.append_nil, List.cons_append, Nat.zero_add, Nat.add_zero, true_and, and_true, Nat.reduceEqDiff, reduceIte, Nat.reduceAdd]
  refine (Find (hG.le hg) (repl b cform (occs b (ws.map (·.1)) 0)) (ws.map (·.1)) cf cn nf nn h (by omega) hnl hsn (by have := hol (repl b cform (occs b (ws.map (·.1)) 0)); omega)).go' ?_
  rintro _ (⟨hy, rfl⟩ | ⟨hy, rf, rn, rfl⟩)
  · rw [hok] at hy; cases hy
  simp only [symCode, symIts, symOp, symBind, symQ, symT, symVal, symLook, symSlice, symHeap, symStep, symRange, symRaw, symBsl, symClr, symClrH, symGb, junkG, Bool.false_eq_true, decide_true, decide_false, symRes, symFrz, symApp, symMap, symMapOp, bindO_some, Option.map_some, Option.bind_some, List.length_cons, List.length_nil, List.length_append, List.drop_zero, List.drop_succ_cons, List.take_succ_cons, List.take_zero, List.getElem?_cons_zero, List.getElem?_cons_succ, List.set_cons_zero, List.set_cons_succ, Nat.reduceLeDiff, List.map_cons, List.map_nil, setPart_agg, setPart_one, symSet, symSetF, Nat.reduceLT, fillV, buildV, List.replicate_succ, List.replicate_zero, Nat.lt_add_one, and_self, if_true, PV.one, PV.isAgg, PV.cells, PV.okc, List.all_cons, List.all_nil, Bool.and_self, List.nil_append, List.append_nil, List.cons_append, Nat.zero_add, Nat.add_zero, true_and, and_true, Nat.reduceEqDiff, reduceIte, Nat.reduceAdd, List.length_map, p2, p4, Bool.not_true]
  refine (outside b _ f1 n1 pf pn h (by omega) (chained_occs b _)).go' ?_
  rintro r rfl
  simp only [symCode, symIts, symOp, symBind, symQ, symT, symVal, symLook, symSlice, symHeap, symStep, symRange, symRaw, symBsl, symClr, symClrH, symGb, junkG, Bool.false_eq_true, decide_true, decide_false, symRes, symFrz, symApp, symMap, symMapOp, bindO_some, Option.map_some, Option.bind_some, List.length_cons, List.length_nil, List.length_append, List.drop_zero, List.drop_succ_cons, List.take_succ_cons, List.take_zero, List.getElem?_cons_zero, List.getElem?_cons_succ, List.set_cons_zero, List.set_cons_succ, Nat.reduceLeDiff, List.map_cons, List.map_nil, setPart_agg, setPart_one, symSet, symSetF, Nat.reduceLT, fillV, buildV, List.replicate_succ, List.replicate_zero, Nat.lt_add_one, and_self, if_true, PV.one, PV.isAgg, PV.cells, PV.okc, List.all_cons, List.all_nil, Bool.and_self, List.nil_append, List.append_nil, List.cons_append, Nat.zero_add, Nat.add_zero, true_and, and_true, Nat.reduceEqDiff, reduceIte, Nat.reduceAdd]
  refine (outside _ _ xf xn qf qn h (by omega) (chained_occs _ _)).go' ?_
  rintro r rfl
  simp only [symCode, symIts, symOp, symBind, symQ, symT, symVal, symLook, symSlice, symHeap, symStep, symRange, symRaw, symBsl, symClr, symClrH, symGb, junkG, Bool.false_eq_true, decide_true, decide_false, symRes, symFrz, symApp, symMap, symMapOp, bindO_some, Option.map_some, Option.bind_some, List.length_cons, List.length_nil, List.length_append, List.drop_zero, List.drop_succ_cons, List.take_succ_cons, List.take_zero, List.getElem?_cons_zero, List.getElem?_cons_succ, List.set_cons_zero, List.set_cons_succ, Nat.reduceLeDiff, List.map_cons, List.map_nil, setPart_agg, setPart_one, symSet, symSetF, Nat.reduceLT, fillV, buildV, List.replicate_succ, List.replicate_zero, Nat.lt_add_one, and_self, if_true, PV.one, PV.isAgg, PV.cells, PV.okc, List.all_cons, List.all_nil, Bool.and_self, List.nil_append, List.append_nil, List.cons_append, Nat.zero_add, Nat.add_zero, true_and, and_true, Nat.reduceEqDiff, reduceIte, Nat.reduceAdd, p1]
  refine (outside _ _ cf cn rf rn h (by omega) (chained_occs _ _)).go' ?_
  rintro r rfl
  simp only [symCode, symIts, symOp, symBind, symQ, symT, symVal, symLook, symSlice, symHeap, symStep, symRange, symRaw, symBsl, symClr, symClrH, symGb, junkG, Bool.false_eq_true, decide_true, decide_false, symRes, symFrz, symApp, symMap, symMapOp, bindO_some, Option.map_some, Option.bind_some, List.length_cons, List.length_nil, List.length_append, List.drop_zero, List.drop_succ_cons, List.take_succ_cons, List.take_zero, List.getElem?_cons_zero, List.getElem?_cons_succ, List.set_cons_zero, List.set_cons_succ, Nat.reduceLeDiff, List.map_cons, List.map_nil, setPart_agg, setPart_one, symSet, symSetF, Nat.reduceLT, fillV, buildV, List.replicate_succ, List.replicate_zero, Nat.lt_add_one, and_self, if_true, PV.one, PV.isAgg, PV.cells, PV.okc, List.all_cons, List.all_nil, Bool.and_self, List.nil_append, List.append_nil, List.cons_append, Nat.zero_add, Nat.add_zero, true_and, and_true, Nat.reduceEqDiff, reduceIte, Nat.reduceAdd, p3]
  refine (awake (hG.le hg) h).go' ?_
  rintro r rfl
  simp only [symCode, symIts, symOp, symBind, symQ, symT, symVal, symLook, symSlice, symHeap, symStep, symRange, symRaw, symBsl, symClr, symClrH, symGb, junkG, Bool.false_eq_true, decide_true, decide_false, symRes, symFrz, symApp, symMap, symMapOp, bindO_some, Option.map_some, Option.bind_some, List.length_cons, List.length_nil, List.length_append, List.drop_zero, List.drop_succ_cons, List.take_succ_cons, List.take_zero, List.getElem?_cons_zero, List.getElem?_cons_succ, List.set_cons_zero, List.set_cons_succ, Nat.reduceLeDiff, List.map_cons, List.map_nil, setPart_agg, setPart_one, symSet, symSetF, Nat.reduceLT, fillV, buildV, List.replicate_succ, List.replicate_zero, Nat.lt_add_one, and_self, if_true, PV.one, PV.isAgg, PV.cells, PV.okc, List.all_cons, List.all_nil, Bool.and_self, List.nil_append, List.append_nil, List.cons_append, Nat.zero_add, Nat.add_zero, true_and, and_true, Nat.reduceEqDiff, reduceIte, Nat.reduceAdd]
  exact ⟨Ext.refl _, rfl⟩

end Go.K10
