/- Contract: one character of a text. -/
import Derived.Test.YtppeejkegbjgdaaDoorKf
import Derived.Test.YtppeejkegbjgdaaDoorVd
import Derived.Lib.DecodeNEq
set_option linter.unusedSimpArgs false
set_option linter.unusedVariables false
namespace Go.K10
open Go Go.Avm Go.Proofs Go.Lib

/-- The library's variables that are read. -/
structure Glob (g : Gh) : Prop where
  maxLen : ∃ n : Int, g.F 0 0 (.int .i64 n)
  first : ∀ c, c < 256 → g.F 1 c (.int .u8 (firstT c))
  acc : ∀ i, i < 16 → g.F 2 (2 * i) (.int .u8 (accLo i)) ∧ g.F 2 (2 * i + 1) (.int .u8 (accHi i))

theorem Glob.le {g g' : Gh} (h : Glob g) (hg : g.le g') : Glob g' :=
  ⟨let ⟨n, hn⟩ := h.maxLen; ⟨n, hg.F _ _ _ hn⟩, fun c hc => hg.F _ _ _ (h.first c hc), fun i hi => ⟨hg.F _ _ _ (h.acc i hi).1, hg.F _ _ _ (h.acc i hi).2⟩⟩

theorem or_i32 {a b : Nat} (ha : a < 2 ^ 31) (hb : b < 2 ^ 31) : bitop .or .i32 (a : Int) (b : Int) = ((a ||| b : Nat) : Int) := by
  have h := Nat.or_lt_two_pow ha hb
  have e1 : (BitVec.ofInt 32 (a : Int) ||| BitVec.ofInt 32 (b : Int)).toNat = a ||| b := by
    rw [BitVec.toNat_or, BitVec.ofInt_natCast, BitVec.ofInt_natCast, BitVec.toNat_ofNat, BitVec.toNat_ofNat, Nat.mod_eq_of_lt (by omega), Nat.mod_eq_of_lt (by omega)]
  show IntKind.wrap .i32 ((BitVec.ofInt 32 (a : Int) ||| BitVec.ofInt 32 (b : Int)).toNat : Int) = _
  rw [e1]
  exact IntWalk.i32_in _ (by omega)

theorem and_u8 {a b : Nat} (ha : a < 256) (hb : b < 256) : bitop .and .u8 (a : Int) (b : Int) = ((a &&& b : Nat) : Int) := by
  have h : a &&& b ≤ a := Nat.and_le_left
  have e1 : (BitVec.ofInt 8 (a : Int) &&& BitVec.ofInt 8 (b : Int)).toNat = a &&& b := by
    rw [BitVec.toNat_and, BitVec.ofInt_natCast, BitVec.ofInt_natCast, BitVec.toNat_ofNat, BitVec.toNat_ofNat, Nat.mod_eq_of_lt (by omega), Nat.mod_eq_of_lt (by omega)]
  show IntKind.wrap .u8 ((BitVec.ofInt 8 (a : Int) &&& BitVec.ofInt 8 (b : Int)).toNat : Int) = _
  rw [e1]
  exact IntWalk.u8_in _ (by omega)

set_option maxRecDepth 100000 in
theorem lead_bytes : ∀ x : Fin 256, 128 ≤ x.val → firstT x.val = 241 ∨ (firstT x.val < 240 ∧ firstT x.val / 16 < 16 ∧ 128 ≤ accLo (firstT x.val / 16) ∧ accLo (firstT x.val / 16) < 256 ∧ accHi (firstT x.val / 16) < 256 ∧
    ((firstT x.val % 8 = 2 ∧ 194 ≤ x.val ∧ x.val < 224) ∨ (firstT x.val % 8 = 3 ∧ 224 ≤ x.val ∧ x.val < 240 ∧ (x.val = 224 → 160 ≤ accLo (firstT x.val / 16) ∧ accHi (firstT x.val / 16) < 192)) ∨
     (firstT x.val % 8 = 4 ∧ 240 ≤ x.val ∧ x.val < 248 ∧ (x.val = 240 → 144 ≤ accLo (firstT x.val / 16) ∧ accHi (firstT x.val / 16) < 192)))) := by decide

set_option maxRecDepth 100000 in
theorem drop_all : ∀ x : Fin 256, bitop .or .i32 (bitop .andNot .i32 ((x.val : Nat) : Int) (-1)) (bitop .and .i32 65533 (-1)) = 65533 := by decide +kernel


/-- What is handed back for a text that begins with a byte of 128 or more. -/
def Rune (s : Bs) (r : PV) : Prop := ∃ (c k : Nat), r = .tuple [.int .i32 c, .int .i64 k] ∧ 1 ≤ k ∧ k ≤ s.length ∧ 128 ≤ c ∧ c < 2147483648 ∧ (c = 65533 ∨ (k = 2 ∧ c < 2048) ∨ (k = 3 ∧ c < 65536) ∨ k = 4) ∧ ∀ j (hj : j < s.length), j < k → 128 ≤ s[j].toNat

theorem shl_i32 {a s m : Nat} (h : a * 2 ^ s < 2147483648) (hs : s < 32) (hm : m = a * 2 ^ s) : IntKind.wrap .i32 ((a : Int) * 2 ^ shiftN .i32 (s : Int)) = (m : Int) := by
  have e : shiftN .i32 (s : Int) = s := by simp [shiftN, IntKind.bits]; omega
  rw [e, hm]
  have : ((a : Int) * 2 ^ s) = ((a * 2 ^ s : Nat) : Int) := by simp
  rw [this]
  exact IntWalk.i32_in _ (by omega)

set_option maxRecDepth 4000 in
theorem decodeSlow {g0 : Gh} (hG : Glob g0) (s : Bs) (f n : Bool) (h : AH) (hl : s.length < 1000000000000) (h0 : 0 < s.length) (h1 : 128 ≤ s[0].toNat) :
    ACalls Tryd.prog g0 96 [.sl 1 (s.map byteV) f n] h fun r h' => h' = h ∧ Rune s r := by
  refine acalls_E F96_ok rfl fun g1 hg => ?_
  have hG1 := hG.le hg
  have t141 : Tryd.prog.underlying 141 = some (.array 256 5) := by kernel_rfl
  have t144 : Tryd.prog.underlying 144 = some (.array 16 143) := by kernel_rfl
  obtain ⟨i5, hi5, hs5⟩ : ∃ i, Tryd.prog.info? 5 = some i ∧ i.size = 1 := Option.map_eq_some_iff.1 (show (Tryd.prog.info? 5).map (·.size) = some 1 by kernel_rfl)
  obtain ⟨i6, hi6, hs6⟩ : ∃ i, Tryd.prog.info? 143 = some i ∧ i.size = 2 := Option.map_eq_some_iff.1 (show (Tryd.prog.info? 143).map (·.size) = some 2 by kernel_rfl)
  generalize hx0 : s[0].toNat = x0 at h1
  have hx0l : x0 < 256 := by rw [← hx0]; exact s[0].toNat_lt
  have hb0 : (s.map byteV)[0]? = some (.int .u8 x0) := by rw [List.getElem?_map, List.getElem?_eq_getElem h0]; simp [byteV, hx0]
  have e1 : decide ((s.length : Int) < 1) = false := by simp; omega
  have z0 : (0 : Int).toNat = 0 := rfl
  have z1 : (1 : Int).toNat = 1 := rfl
  have z2 : (2 : Int).toNat = 2 := rfl
  have z3 : (3 : Int).toNat = 3 := rfl
  simp only [F96, symCode, symIts, symOp, symBind, symQ, symT, symVal, symLook, symSlice, symHeap, symStep, symRange, symRaw, symBsl, symClr, symClrH, symGb, junkG, Bool.false_eq_true, decide_true, decide_false, symRes, symFrz, symApp, symMap, symMapOp, bindO_some, Option.map_some, Option.bind_some, List.length_cons, List.length_nil, List.length_append, List.drop_zero, List.drop_succ_cons, List.take_succ_cons, List.take_zero, List.getElem?_cons_zero, List.getElem?_cons_succ, List.set_cons_zero, List.set_cons_succ, Nat.reduceLeDiff, List.map_cons, List.map_nil, setPart_agg, setPart_one, symSet, symSetF, Nat.reduceLT, fillV, buildV, List.replicate_succ, List.replicate_zero, Nat.lt_add_one, and_self, if_true, PV.one, PV.isAgg, PV.cells, PV.okc, List.all_cons, List.all_nil, Bool.and_self, List.nil_append, List.append_nil, List.cons_append, Nat.zero_add, Nat.add_zero, true_and, and_true, Nat.reduceEqDiff, reduceIte, Nat.reduceAdd, List.length_map, e1, z0, hb0, Int.le_refl]
  refine RawC.idx_gp t141 hi5 hx0l (.int .u8 (firstT x0)) (fun q p hp => ?_) ?_
  · rcases q with _ | q
    · simp [PV.cells] at hp; subst hp
      rw [hs5]; simpa using hG1.first x0 hx0l
    · simp [PV.cells] at hp
  have hlb := lead_bytes ⟨x0, hx0l⟩ h1
  simp only [] at hlb
  have hfl : firstT x0 < 256 := by omega
  have bad : ∀ h' : AH, Ext h h' → Ext h h' ∧ idsB h.length (.tuple [.int .i32 65533, .int .i64 1]) = true ∧ Rune s (.tuple [.int .i32 65533, .int .i64 1]) := fun h' he =>
    ⟨he, rfl, 65533, 1, rfl, by omega, by omega, by omega, by omega, .inl rfl, fun j hj hj1 => by
      have : j = 0 := by omega
      subst this; rw [hx0]; exact h1⟩
  rcases hlb with hF | ⟨hF, hq, hlo, hlo2, hhi, hcase⟩
  · -- no lead byte
    have e2 : decide ((240 : Int) ≤ ((firstT x0 : Nat) : Int)) = true := by simp; omega
    have hm1 : IntKind.wrap .i32 (((firstT x0 : Nat) : Int)) = 241 := by rw [hF]; rfl
    have hm2 : IntKind.wrap .i32 ((241 : Int) * 2 ^ shiftN .i32 31) = -2147483648 := by decide
    have hm3 : Int.fdiv (-2147483648) (2 ^ shiftN .i32 31) = -1 := by decide
    have hm4 : IntKind.wrap .i32 (x0 : Int) = x0 := IntWalk.i32_in _ (by omega)
    have hm5 := drop_all ⟨x0, hx0l⟩
    simp only [] at hm5
    simp only [symCode, symIts, symOp, symBind, symQ, symT, symVal, symLook, symSlice, symHeap, symStep, symRange, symRaw, symBsl, symClr, symClrH, symGb, junkG, Bool.false_eq_true, decide_true, decide_false, symRes, symFrz, symApp, symMap, symMapOp, bindO_some, Option.map_some, Option.bind_some, List.length_cons, List.length_nil, List.length_append, List.drop_zero, List.drop_succ_cons, List.take_succ_cons, List.take_zero, List.getElem?_cons_zero, List.getElem?_cons_succ, List.set_cons_zero, List.set_cons_succ, Nat.reduceLeDiff, List.map_cons, List.map_nil, setPart_agg, setPart_one, symSet, symSetF, Nat.reduceLT, fillV, buildV, List.replicate_succ, List.replicate_zero, Nat.lt_add_one, and_self, if_true, PV.one, PV.isAgg, PV.cells, PV.okc, List.all_cons, List.all_nil, Bool.and_self, List.nil_append, List.append_nil, List.cons_append, Nat.zero_add, Nat.add_zero, true_and, and_true, Nat.reduceEqDiff, reduceIte, Nat.reduceAdd, e2, hm1, hm2, hm3, hm4, hm5, z0, hb0, Int.le_refl]
    refine ⟨by omega, by omega, bad _ (Ext.refl _)⟩
  -- a lead byte
  generalize hlo' : accLo (firstT x0 / 16) = lo at hlo hlo2 hcase
  generalize hhi' : accHi (firstT x0 / 16) = hi at hhi hcase
  generalize hz : firstT x0 % 8 = z at hcase
  have e2 : decide ((240 : Int) ≤ ((firstT x0 : Nat) : Int)) = false := by simp; omega
  have e3 : bitop .and .u8 ((firstT x0 : Nat) : Int) 7 = (z : Int) := by
    rw [← hz, show (7 : Int) = ((7 : Nat) : Int) from rfl, and_u8 hfl (by omega), show (7 : Nat) = 2 ^ 3 - 1 from rfl, Nat.and_two_pow_sub_one_eq_mod]
  have e4 : IntKind.wrap .i64 (z : Int) = z := IntWalk.i64_in _ (by omega)
  have e5 : Int.fdiv ((firstT x0 : Nat) : Int) (2 ^ shiftN .u8 4) = ((firstT x0 / 16 : Nat) : Int) := by
    have : shiftN .u8 4 = 4 := by decide
    rw [this, Int.fdiv_eq_ediv_of_nonneg _ (by decide)]; rfl
  simp only [symCode, symIts, symOp, symBind, symQ, symT, symVal, symLook, symSlice, symHeap, symStep, symRange, symRaw, symBsl, symClr, symClrH, symGb, junkG, Bool.false_eq_true, decide_true, decide_false, symRes, symFrz, symApp, symMap, symMapOp, bindO_some, Option.map_some, Option.bind_some, List.length_cons, List.length_nil, List.length_append, List.drop_zero, List.drop_succ_cons, List.take_succ_cons, List.take_zero, List.getElem?_cons_zero, List.getElem?_cons_succ, List.set_cons_zero, List.set_cons_succ, Nat.reduceLeDiff, List.map_cons, List.map_nil, setPart_agg, setPart_one, symSet, symSetF, Nat.reduceLT, fillV, buildV, List.replicate_succ, List.replicate_zero, Nat.lt_add_one, and_self, if_true, PV.one, PV.isAgg, PV.cells, PV.okc, List.all_cons, List.all_nil, Bool.and_self, List.nil_append, List.append_nil, List.cons_append, Nat.zero_add, Nat.add_zero, true_and, and_true, Nat.reduceEqDiff, reduceIte, Nat.reduceAdd, e2, e3, e4, e5]
  refine ⟨by omega, ?_⟩
  refine RawC.idx_gp t144 hi6 hq (.agg [.int .u8 lo, .int .u8 hi]) (fun q p hp => ?_) ?_
  · have := hG1.acc _ hq
    rw [hlo', hhi'] at this
    rcases q with _ | _ | q
    · simp [PV.cells] at hp; subst hp
      rw [hs6, show 0 + firstT x0 / 16 * 2 + 0 = 2 * (firstT x0 / 16) by omega]; exact this.1
    · simp [PV.cells] at hp; subst hp
      rw [hs6, show 0 + firstT x0 / 16 * 2 + (0 + 1) = 2 * (firstT x0 / 16) + 1 by omega]; exact this.2
    · simp [PV.cells] at hp
  have hx : ∀ h : AH, ∀ l, Ext h (h ++ l) := fun h l => (Ext.refl h).app l
  simp only [symCode, symIts, symOp, symBind, symQ, symT, symVal, symLook, symSlice, symHeap, symStep, symRange, symRaw, symBsl, symClr, symClrH, symGb, junkG, Bool.false_eq_true, decide_true, decide_false, symRes, symFrz, symApp, symMap, symMapOp, bindO_some, Option.map_some, Option.bind_some, List.length_cons, List.length_nil, List.length_append, List.drop_zero, List.drop_succ_cons, List.take_succ_cons, List.take_zero, List.getElem?_cons_zero, List.getElem?_cons_succ, List.set_cons_zero, List.set_cons_succ, Nat.reduceLeDiff, List.map_cons, List.map_nil, setPart_agg, setPart_one, symSet, symSetF, Nat.reduceLT, fillV, buildV, List.replicate_succ, List.replicate_zero, Nat.lt_add_one, and_self, if_true, PV.one, PV.isAgg, PV.cells, PV.okc, List.all_cons, List.all_nil, Bool.and_self, List.nil_append, List.append_nil, List.cons_append, Nat.zero_add, Nat.add_zero, true_and, and_true, Nat.reduceEqDiff, reduceIte, Nat.reduceAdd]
  refine brC_mk (fun hc => ?_) (fun hc => ?_)
  · simp only [symCode, symIts, symOp, symBind, symQ, symT, symVal, symLook, symSlice, symHeap, symStep, symRange, symRaw, symBsl, symClr, symClrH, symGb, junkG, Bool.false_eq_true, decide_true, decide_false, symRes, symFrz, symApp, symMap, symMapOp, bindO_some, Option.map_some, Option.bind_some, List.length_cons, List.length_nil, List.length_append, List.drop_zero, List.drop_succ_cons, List.take_succ_cons, List.take_zero, List.getElem?_cons_zero, List.getElem?_cons_succ, List.set_cons_zero, List.set_cons_succ, Nat.reduceLeDiff, List.map_cons, List.map_nil, setPart_agg, setPart_one, symSet, symSetF, Nat.reduceLT, fillV, buildV, List.replicate_succ, List.replicate_zero, Nat.lt_add_one, and_self, if_true, PV.one, PV.isAgg, PV.cells, PV.okc, List.all_cons, List.all_nil, Bool.and_self, List.nil_append, List.append_nil, List.cons_append, Nat.zero_add, Nat.add_zero, true_and, and_true, Nat.reduceEqDiff, reduceIte, Nat.reduceAdd]
    exact bad _ (hx _ _)
  have hzn : z ≤ s.length := by simp at hc; omega
  have h1n : 1 < s.length := by omega
  generalize hx1 : s[1].toNat = x1
  have hx1l : x1 < 256 := by rw [← hx1]; exact s[1].toNat_lt
  have hb1 : (s.map byteV)[1]? = some (.int .u8 x1) := by rw [List.getElem?_map, List.getElem?_eq_getElem h1n]; simp [byteV, hx1]
  simp only [symCode, symIts, symOp, symBind, symQ, symT, symVal, symLook, symSlice, symHeap, symStep, symRange, symRaw, symBsl, symClr, symClrH, symGb, junkG, Bool.false_eq_true, decide_true, decide_false, symRes, symFrz, symApp, symMap, symMapOp, bindO_some, Option.map_some, Option.bind_some, List.length_cons, List.length_nil, List.length_append, List.drop_zero, List.drop_succ_cons, List.take_succ_cons, List.take_zero, List.getElem?_cons_zero, List.getElem?_cons_succ, List.set_cons_zero, List.set_cons_succ, Nat.reduceLeDiff, List.map_cons, List.map_nil, setPart_agg, setPart_one, symSet, symSetF, Nat.reduceLT, fillV, buildV, List.replicate_succ, List.replicate_zero, Nat.lt_add_one, and_self, if_true, PV.one, PV.isAgg, PV.cells, PV.okc, List.all_cons, List.all_nil, Bool.and_self, List.nil_append, List.append_nil, List.cons_append, Nat.zero_add, Nat.add_zero, true_and, and_true, Nat.reduceEqDiff, reduceIte, Nat.reduceAdd, z1, hb1]
  refine ⟨by omega, brG_pick (.bool (decide ((x1 : Int) < lo) || decide ((hi : Int) < x1))) (fun hc => ?_) (fun hc => ?_) ?_⟩
  · simp only [symCode, symIts, symOp, symBind, symQ, symT, symVal, symLook, symSlice, symHeap, symStep, symRange, symRaw, symBsl, symClr, symClrH, symGb, junkG, Bool.false_eq_true, decide_true, decide_false, symRes, symFrz, symApp, symMap, symMapOp, bindO_some, Option.map_some, Option.bind_some, List.length_cons, List.length_nil, List.length_append, List.drop_zero, List.drop_succ_cons, List.take_succ_cons, List.take_zero, List.getElem?_cons_zero, List.getElem?_cons_succ, List.set_cons_zero, List.set_cons_succ, Nat.reduceLeDiff, List.map_cons, List.map_nil, setPart_agg, setPart_one, symSet, symSetF, Nat.reduceLT, fillV, buildV, List.replicate_succ, List.replicate_zero, Nat.lt_add_one, and_self, if_true, PV.one, PV.isAgg, PV.cells, PV.okc, List.all_cons, List.all_nil, Bool.and_self, List.nil_append, List.append_nil, List.cons_append, Nat.zero_add, Nat.add_zero, true_and, and_true, Nat.reduceEqDiff, reduceIte, Nat.reduceAdd, pickT, hc, Bool.false_or]
  · simp only [symCode, symIts, symOp, symBind, symQ, symT, symVal, symLook, symSlice, symHeap, symStep, symRange, symRaw, symBsl, symClr, symClrH, symGb, junkG, Bool.false_eq_true, decide_true, decide_false, symRes, symFrz, symApp, symMap, symMapOp, bindO_some, Option.map_some, Option.bind_some, List.length_cons, List.length_nil, List.length_append, List.drop_zero, List.drop_succ_cons, List.take_succ_cons, List.take_zero, List.getElem?_cons_zero, List.getElem?_cons_succ, List.set_cons_zero, List.set_cons_succ, Nat.reduceLeDiff, List.map_cons, List.map_nil, setPart_agg, setPart_one, symSet, symSetF, Nat.reduceLT, fillV, buildV, List.replicate_succ, List.replicate_zero, Nat.lt_add_one, and_self, if_true, PV.one, PV.isAgg, PV.cells, PV.okc, List.all_cons, List.all_nil, Bool.and_self, List.nil_append, List.append_nil, List.cons_append, Nat.zero_add, Nat.add_zero, true_and, and_true, Nat.reduceEqDiff, reduceIte, Nat.reduceAdd, pickT, hc, Bool.not_false, Bool.true_or]
  simp only [symCode, symIts, symOp, symBind, symQ, symT, symVal, symLook, symSlice, symHeap, symStep, symRange, symRaw, symBsl, symClr, symClrH, symGb, junkG, Bool.false_eq_true, decide_true, decide_false, symRes, symFrz, symApp, symMap, symMapOp, bindO_some, Option.map_some, Option.bind_some, List.length_cons, List.length_nil, List.length_append, List.drop_zero, List.drop_succ_cons, List.take_succ_cons, List.take_zero, List.getElem?_cons_zero, List.getElem?_cons_succ, List.set_cons_zero, List.set_cons_succ, Nat.reduceLeDiff, List.map_cons, List.map_nil, setPart_agg, setPart_one, symSet, symSetF, Nat.reduceLT, fillV, buildV, List.replicate_succ, List.replicate_zero, Nat.lt_add_one, and_self, if_true, PV.one, PV.isAgg, PV.cells, PV.okc, List.all_cons, List.all_nil, Bool.and_self, List.nil_append, List.append_nil, List.cons_append, Nat.zero_add, Nat.add_zero, true_and, and_true, Nat.reduceEqDiff, reduceIte, Nat.reduceAdd]
  intros
  refine brC_mk (fun hc => ?_) (fun hc => ?_)
  · simp only [symCode, symIts, symOp, symBind, symQ, symT, symVal, symLook, symSlice, symHeap, symStep, symRange, symRaw, symBsl, symClr, symClrH, symGb, junkG, Bool.false_eq_true, decide_true, decide_false, symRes, symFrz, symApp, symMap, symMapOp, bindO_some, Option.map_some, Option.bind_some, List.length_cons, List.length_nil, List.length_append, List.drop_zero, List.drop_succ_cons, List.take_succ_cons, List.take_zero, List.getElem?_cons_zero, List.getElem?_cons_succ, List.set_cons_zero, List.set_cons_succ, Nat.reduceLeDiff, List.map_cons, List.map_nil, setPart_agg, setPart_one, symSet, symSetF, Nat.reduceLT, fillV, buildV, List.replicate_succ, List.replicate_zero, Nat.lt_add_one, and_self, if_true, PV.one, PV.isAgg, PV.cells, PV.okc, List.all_cons, List.all_nil, Bool.and_self, List.nil_append, List.append_nil, List.cons_append, Nat.zero_add, Nat.add_zero, true_and, and_true, Nat.reduceEqDiff, reduceIte, Nat.reduceAdd]
    exact bad _ (hx _ _)
  have hx1r : lo ≤ x1 ∧ x1 ≤ hi := by simp at hc; omega
  have a0 : ∀ m : Nat, m < 256 → bitop .and .u8 (x0 : Int) (m : Int) = ((x0 &&& m : Nat) : Int) := fun m hm => and_u8 hx0l hm
  have a1 : bitop .and .u8 (x1 : Int) 63 = ((x1 % 64 : Nat) : Int) := by
    rw [show (63 : Int) = ((63 : Nat) : Int) from rfl, and_u8 hx1l (by omega), show (63 : Nat) = 2 ^ 6 - 1 from rfl, Nat.and_two_pow_sub_one_eq_mod]
  have w32 : ∀ m : Nat, m < 1000 → IntKind.wrap .i32 (m : Int) = m := fun m hm => IntWalk.i32_in _ (by omega)
  simp only [symCode, symIts, symOp, symBind, symQ, symT, symVal, symLook, symSlice, symHeap, symStep, symRange, symRaw, symBsl, symClr, symClrH, symGb, junkG, Bool.false_eq_true, decide_true, decide_false, symRes, symFrz, symApp, symMap, symMapOp, bindO_some, Option.map_some, Option.bind_some, List.length_cons, List.length_nil, List.length_append, List.drop_zero, List.drop_succ_cons, List.take_succ_cons, List.take_zero, List.getElem?_cons_zero, List.getElem?_cons_succ, List.set_cons_zero, List.set_cons_succ, Nat.reduceLeDiff, List.map_cons, List.map_nil, setPart_agg, setPart_one, symSet, symSetF, Nat.reduceLT, fillV, buildV, List.replicate_succ, List.replicate_zero, Nat.lt_add_one, and_self, if_true, PV.one, PV.isAgg, PV.cells, PV.okc, List.all_cons, List.all_nil, Bool.and_self, List.nil_append, List.append_nil, List.cons_append, Nat.zero_add, Nat.add_zero, true_and, and_true, Nat.reduceEqDiff, reduceIte, Nat.reduceAdd]
  refine brC_mk (fun hc => ?_) (fun hc => ?_)
  · -- two bytes
    have hz2 : z = 2 := by simp at hc; omega
    have a2 : bitop .and .u8 (x0 : Int) 31 = ((x0 % 32 : Nat) : Int) := by
      rw [show (31 : Int) = ((31 : Nat) : Int) from rfl, a0 _ (by omega), show (31 : Nat) = 2 ^ 5 - 1 from rfl, Nat.and_two_pow_sub_one_eq_mod]
    have a3 : IntKind.wrap .i32 (((x0 % 32 : Nat) : Int) * 2 ^ shiftN .i32 6) = ((x0 % 32 * 64 : Nat) : Int) := shl_i32 (s := 6) (by omega) (by omega) rfl
    simp only [symCode, symIts, symOp, symBind, symQ, symT, symVal, symLook, symSlice, symHeap, symStep, symRange, symRaw, symBsl, symClr, symClrH, symGb, junkG, Bool.false_eq_true, decide_true, decide_false, symRes, symFrz, symApp, symMap, symMapOp, bindO_some, Option.map_some, Option.bind_some, List.length_cons, List.length_nil, List.length_append, List.drop_zero, List.drop_succ_cons, List.take_succ_cons, List.take_zero, List.getElem?_cons_zero, List.getElem?_cons_succ, List.set_cons_zero, List.set_cons_succ, Nat.reduceLeDiff, List.map_cons, List.map_nil, setPart_agg, setPart_one, symSet, symSetF, Nat.reduceLT, fillV, buildV, List.replicate_succ, List.replicate_zero, Nat.lt_add_one, and_self, if_true, PV.one, PV.isAgg, PV.cells, PV.okc, List.all_cons, List.all_nil, Bool.and_self, List.nil_append, List.append_nil, List.cons_append, Nat.zero_add, Nat.add_zero, true_and, and_true, Nat.reduceEqDiff, reduceIte, Nat.reduceAdd, a1, a2, w32 (x0 % 32) (by omega), w32 (x1 % 64) (by omega), a3, or_i32 (show x0 % 32 * 64 < 2 ^ 31 by omega) (show x1 % 64 < 2 ^ 31 by omega)]
    refine ⟨by omega, hx _ _, rfl, _, 2, rfl, by omega, by omega, ?_, ?_, .inr (.inl ⟨rfl, ?_⟩), fun j hj hj2 => ?_⟩
    · have := @Nat.left_le_or (x0 % 32 * 64) (x1 % 64); omega
    · have := Nat.or_lt_two_pow (show x0 % 32 * 64 < 2 ^ 11 by omega) (show x1 % 64 < 2 ^ 11 by omega); omega
    · have := Nat.or_lt_two_pow (show x0 % 32 * 64 < 2 ^ 11 by omega) (show x1 % 64 < 2 ^ 11 by omega); omega
    · rcases j with _ | _ | j
      · rw [hx0]; exact h1
      · rw [hx1]; omega
      · omega
  have hz3 : 3 ≤ z := by simp at hc; omega
  have h2n : 2 < s.length := by omega
  generalize hx2 : s[2].toNat = x2
  have hx2l : x2 < 256 := by rw [← hx2]; exact s[2].toNat_lt
  have hb2 : (s.map byteV)[2]? = some (.int .u8 x2) := by rw [List.getElem?_map, List.getElem?_eq_getElem h2n]; simp [byteV, hx2]
  have a4 : bitop .and .u8 (x2 : Int) 63 = ((x2 % 64 : Nat) : Int) := by
    rw [show (63 : Int) = ((63 : Nat) : Int) from rfl, and_u8 hx2l (by omega), show (63 : Nat) = 2 ^ 6 - 1 from rfl, Nat.and_two_pow_sub_one_eq_mod]
  simp only [symCode, symIts, symOp, symBind, symQ, symT, symVal, symLook, symSlice, symHeap, symStep, symRange, symRaw, symBsl, symClr, symClrH, symGb, junkG, Bool.false_eq_true, decide_true, decide_false, symRes, symFrz, symApp, symMap, symMapOp, bindO_some, Option.map_some, Option.bind_some, List.length_cons, List.length_nil, List.length_append, List.drop_zero, List.drop_succ_cons, List.take_succ_cons, List.take_zero, List.getElem?_cons_zero, List.getElem?_cons_succ, List.set_cons_zero, List.set_cons_succ, Nat.reduceLeDiff, List.map_cons, List.map_nil, setPart_agg, setPart_one, symSet, symSetF, Nat.reduceLT, fillV, buildV, List.replicate_succ, List.replicate_zero, Nat.lt_add_one, and_self, if_true, PV.one, PV.isAgg, PV.cells, PV.okc, List.all_cons, List.all_nil, Bool.and_self, List.nil_append, List.append_nil, List.cons_append, Nat.zero_add, Nat.add_zero, true_and, and_true, Nat.reduceEqDiff, reduceIte, Nat.reduceAdd, z2, hb2]
  refine ⟨by omega, brG_pick (.bool (decide ((x2 : Int) < 128) || decide ((191 : Int) < x2))) (fun hc => ?_) (fun hc => ?_) ?_⟩
  · simp only [symCode, symIts, symOp, symBind, symQ, symT, symVal, symLook, symSlice, symHeap, symStep, symRange, symRaw, symBsl, symClr, symClrH, symGb, junkG, Bool.false_eq_true, decide_true, decide_false, symRes, symFrz, symApp, symMap, symMapOp, bindO_some, Option.map_some, Option.bind_some, List.length_cons, List.length_nil, List.length_append, List.drop_zero, List.drop_succ_cons, List.take_succ_cons, List.take_zero, List.getElem?_cons_zero, List.getElem?_cons_succ, List.set_cons_zero, List.set_cons_succ, Nat.reduceLeDiff, List.map_cons, List.map_nil, setPart_agg, setPart_one, symSet, symSetF, Nat.reduceLT, fillV, buildV, List.replicate_succ, List.replicate_zero, Nat.lt_add_one, and_self, if_true, PV.one, PV.isAgg, PV.cells, PV.okc, List.all_cons, List.all_nil, Bool.and_self, List.nil_append, List.append_nil, List.cons_append, Nat.zero_add, Nat.add_zero, true_and, and_true, Nat.reduceEqDiff, reduceIte, Nat.reduceAdd, pickT, hc, Bool.false_or]
  · simp only [symCode, symIts, symOp, symBind, symQ, symT, symVal, symLook, symSlice, symHeap, symStep, symRange, symRaw, symBsl, symClr, symClrH, symGb, junkG, Bool.false_eq_true, decide_true, decide_false, symRes, symFrz, symApp, symMap, symMapOp, bindO_some, Option.map_some, Option.bind_some, List.length_cons, List.length_nil, List.length_append, List.drop_zero, List.drop_succ_cons, List.take_succ_cons, List.take_zero, List.getElem?_cons_zero, List.getElem?_cons_succ, List.set_cons_zero, List.set_cons_succ, Nat.reduceLeDiff, List.map_cons, List.map_nil, setPart_agg, setPart_one, symSet, symSetF, Nat.reduceLT, fillV, buildV, List.replicate_succ, List.replicate_zero, Nat.lt_add_one, and_self, if_true, PV.one, PV.isAgg, PV.cells, PV.okc, List.all_cons, List.all_nil, Bool.and_self, List.nil_append, List.append_nil, List.cons_append, Nat.zero_add, Nat.add_zero, true_and, and_true, Nat.reduceEqDiff, reduceIte, Nat.reduceAdd, pickT, hc, Bool.not_false, Bool.true_or]
  simp only [symCode, symIts, symOp, symBind, symQ, symT, symVal, symLook, symSlice, symHeap, symStep, symRange, symRaw, symBsl, symClr, symClrH, symGb, junkG, Bool.false_eq_true, decide_true, decide_false, symRes, symFrz, symApp, symMap, symMapOp, bindO_some, Option.map_some, Option.bind_some, List.length_cons, List.length_nil, List.length_append, List.drop_zero, List.drop_succ_cons, List.take_succ_cons, List.take_zero, List.getElem?_cons_zero, List.getElem?_cons_succ, List.set_cons_zero, List.set_cons_succ, Nat.reduceLeDiff, List.map_cons, List.map_nil, setPart_agg, setPart_one, symSet, symSetF, Nat.reduceLT, fillV, buildV, List.replicate_succ, List.replicate_zero, Nat.lt_add_one, and_self, if_true, PV.one, PV.isAgg, PV.cells, PV.okc, List.all_cons, List.all_nil, Bool.and_self, List.nil_append, List.append_nil, List.cons_append, Nat.zero_add, Nat.add_zero, true_and, and_true, Nat.reduceEqDiff, reduceIte, Nat.reduceAdd]
  intros
  refine brC_mk (fun hc => ?_) (fun hc => ?_)
  · simp only [symCode, symIts, symOp, symBind, symQ, symT, symVal, symLook, symSlice, symHeap, symStep, symRange, symRaw, symBsl, symClr, symClrH, symGb, junkG, Bool.false_eq_true, decide_true, decide_false, symRes, symFrz, symApp, symMap, symMapOp, bindO_some, Option.map_some, Option.bind_some, List.length_cons, List.length_nil, List.length_append, List.drop_zero, List.drop_succ_cons, List.take_succ_cons, List.take_zero, List.getElem?_cons_zero, List.getElem?_cons_succ, List.set_cons_zero, List.set_cons_succ, Nat.reduceLeDiff, List.map_cons, List.map_nil, setPart_agg, setPart_one, symSet, symSetF, Nat.reduceLT, fillV, buildV, List.replicate_succ, List.replicate_zero, Nat.lt_add_one, and_self, if_true, PV.one, PV.isAgg, PV.cells, PV.okc, List.all_cons, List.all_nil, Bool.and_self, List.nil_append, List.append_nil, List.cons_append, Nat.zero_add, Nat.add_zero, true_and, and_true, Nat.reduceEqDiff, reduceIte, Nat.reduceAdd]
    exact bad _ (hx _ _)
  have hx2r : 128 ≤ x2 ∧ x2 ≤ 191 := by simp at hc; omega
  simp only [symCode, symIts, symOp, symBind, symQ, symT, symVal, symLook, symSlice, symHeap, symStep, symRange, symRaw, symBsl, symClr, symClrH, symGb, junkG, Bool.false_eq_true, decide_true, decide_false, symRes, symFrz, symApp, symMap, symMapOp, bindO_some, Option.map_some, Option.bind_some, List.length_cons, List.length_nil, List.length_append, List.drop_zero, List.drop_succ_cons, List.take_succ_cons, List.take_zero, List.getElem?_cons_zero, List.getElem?_cons_succ, List.set_cons_zero, List.set_cons_succ, Nat.reduceLeDiff, List.map_cons, List.map_nil, setPart_agg, setPart_one, symSet, symSetF, Nat.reduceLT, fillV, buildV, List.replicate_succ, List.replicate_zero, Nat.lt_add_one, and_self, if_true, PV.one, PV.isAgg, PV.cells, PV.okc, List.all_cons, List.all_nil, Bool.and_self, List.nil_append, List.append_nil, List.cons_append, Nat.zero_add, Nat.add_zero, true_and, and_true, Nat.reduceEqDiff, reduceIte, Nat.reduceAdd]
  refine brC_mk (fun hc => ?_) (fun hc => ?_)
  · -- three bytes
    have hz3 : z = 3 := by simp at hc; omega
    have a2 : bitop .and .u8 (x0 : Int) 15 = ((x0 % 16 : Nat) : Int) := by
      rw [show (15 : Int) = ((15 : Nat) : Int) from rfl, a0 _ (by omega), show (15 : Nat) = 2 ^ 4 - 1 from rfl, Nat.and_two_pow_sub_one_eq_mod]
    have a3 : IntKind.wrap .i32 (((x0 % 16 : Nat) : Int) * 2 ^ shiftN .i32 12) = ((x0 % 16 * 4096 : Nat) : Int) := shl_i32 (s := 12) (by omega) (by omega) rfl
    have a5 : IntKind.wrap .i32 (((x1 % 64 : Nat) : Int) * 2 ^ shiftN .i32 6) = ((x1 % 64 * 64 : Nat) : Int) := shl_i32 (s := 6) (by omega) (by omega) rfl
    have l1 := Nat.or_lt_two_pow (show x0 % 16 * 4096 < 2 ^ 16 by omega) (show x1 % 64 * 64 < 2 ^ 16 by omega)
    have l2 := Nat.or_lt_two_pow l1 (show x2 % 64 < 2 ^ 16 by omega)
    simp only [symCode, symIts, symOp, symBind, symQ, symT, symVal, symLook, symSlice, symHeap, symStep, symRange, symRaw, symBsl, symClr, symClrH, symGb, junkG, Bool.false_eq_true, decide_true, decide_false, symRes, symFrz, symApp, symMap, symMapOp, bindO_some, Option.map_some, Option.bind_some, List.length_cons, List.length_nil, List.length_append, List.drop_zero, List.drop_succ_cons, List.take_succ_cons, List.take_zero, List.getElem?_cons_zero, List.getElem?_cons_succ, List.set_cons_zero, List.set_cons_succ, Nat.reduceLeDiff, List.map_cons, List.map_nil, setPart_agg, setPart_one, symSet, symSetF, Nat.reduceLT, fillV, buildV, List.replicate_succ, List.replicate_zero, Nat.lt_add_one, and_self, if_true, PV.one, PV.isAgg, PV.cells, PV.okc, List.all_cons, List.all_nil, Bool.and_self, List.nil_append, List.append_nil, List.cons_append, Nat.zero_add, Nat.add_zero, true_and, and_true, Nat.reduceEqDiff, reduceIte, Nat.reduceAdd, a1, a2, a4, w32 (x0 % 16) (by omega), w32 (x1 % 64) (by omega), w32 (x2 % 64) (by omega), a3, a5, or_i32 (show x0 % 16 * 4096 < 2 ^ 31 by omega) (show x1 % 64 * 64 < 2 ^ 31 by omega),
      or_i32 (show x0 % 16 * 4096 ||| x1 % 64 * 64 < 2 ^ 31 by omega) (show x2 % 64 < 2 ^ 31 by omega)]
    refine ⟨by omega, by omega, hx _ _, rfl, _, 3, rfl, by omega, by omega, ?_, by omega, .inr (.inr (.inl ⟨rfl, by omega⟩)), fun j hj hj2 => ?_⟩
    · have q1 := @Nat.left_le_or (x0 % 16 * 4096) (x1 % 64 * 64)
      have q2 := @Nat.right_le_or (x0 % 16 * 4096) (x1 % 64 * 64)
      have q3 := @Nat.left_le_or (x0 % 16 * 4096 ||| x1 % 64 * 64) (x2 % 64)
      omega
    · rcases j with _ | _ | _ | j
      · rw [hx0]; exact h1
      · rw [hx1]; omega
      · rw [hx2]; omega
      · omega
  have hz4 : z = 4 := by simp at hc; omega
  have h3n : 3 < s.length := by omega
  generalize hx3 : s[3].toNat = x3
  have hx3l : x3 < 256 := by rw [← hx3]; exact s[3].toNat_lt
  have hb3 : (s.map byteV)[3]? = some (.int .u8 x3) := by rw [List.getElem?_map, List.getElem?_eq_getElem h3n]; simp [byteV, hx3]
  have a6 : bitop .and .u8 (x3 : Int) 63 = ((x3 % 64 : Nat) : Int) := by
    rw [show (63 : Int) = ((63 : Nat) : Int) from rfl, and_u8 hx3l (by omega), show (63 : Nat) = 2 ^ 6 - 1 from rfl, Nat.and_two_pow_sub_one_eq_mod]
  simp only [symCode, symIts, symOp, symBind, symQ, symT, symVal, symLook, symSlice, symHeap, symStep, symRange, symRaw, symBsl, symClr, symClrH, symGb, junkG, Bool.false_eq_true, decide_true, decide_false, symRes, symFrz, symApp, symMap, symMapOp, bindO_some, Option.map_some, Option.bind_some, List.length_cons, List.length_nil, List.length_append, List.drop_zero, List.drop_succ_cons, List.take_succ_cons, List.take_zero, List.getElem?_cons_zero, List.getElem?_cons_succ, List.set_cons_zero, List.set_cons_succ, Nat.reduceLeDiff, List.map_cons, List.map_nil, setPart_agg, setPart_one, symSet, symSetF, Nat.reduceLT, fillV, buildV, List.replicate_succ, List.replicate_zero, Nat.lt_add_one, and_self, if_true, PV.one, PV.isAgg, PV.cells, PV.okc, List.all_cons, List.all_nil, Bool.and_self, List.nil_append, List.append_nil, List.cons_append, Nat.zero_add, Nat.add_zero, true_and, and_true, Nat.reduceEqDiff, reduceIte, Nat.reduceAdd, z3, hb3]
  refine ⟨by omega, brG_pick (.bool (decide ((x3 : Int) < 128) || decide ((191 : Int) < x3))) (fun hc => ?_) (fun hc => ?_) ?_⟩
  · simp only [symCode, symIts, symOp, symBind, symQ, symT, symVal, symLook, symSlice, symHeap, symStep, symRange, symRaw, symBsl, symClr, symClrH, symGb, junkG, Bool.false_eq_true, decide_true, decide_false, symRes, symFrz, symApp, symMap, symMapOp, bindO_some, Option.map_some, Option.bind_some, List.length_cons, List.length_nil, List.length_append, List.drop_zero, List.drop_succ_cons, List.take_succ_cons, List.take_zero, List.getElem?_cons_zero, List.getElem?_cons_succ, List.set_cons_zero, List.set_cons_succ, Nat.reduceLeDiff, List.map_cons, List.map_nil, setPart_agg, setPart_one, symSet, symSetF, Nat.reduceLT, fillV, buildV, List.replicate_succ, List.replicate_zero, Nat.lt_add_one, and_self, if_true, PV.one, PV.isAgg, PV.cells, PV.okc, List.all_cons, List.all_nil, Bool.and_self, List.nil_append, List.append_nil, List.cons_append, Nat.zero_add, Nat.add_zero, true_and, and_true, Nat.reduceEqDiff, reduceIte, Nat.reduceAdd, pickT, hc, Bool.false_or]
  · simp only [symCode, symIts, symOp, symBind, symQ, symT, symVal, symLook, symSlice, symHeap, symStep, symRange, symRaw, symBsl, symClr, symClrH, symGb, junkG, Bool.false_eq_true, decide_true, decide_false, symRes, symFrz, symApp, symMap, symMapOp, bindO_some, Option.map_some, Option.bind_some, List.length_cons, List.length_nil, List.length_append, List.drop_zero, List.drop_succ_cons, List.take_succ_cons, List.take_zero, List.getElem?_cons_zero, List.getElem?_cons_succ, List.set_cons_zero, List.set_cons_succ, Nat.reduceLeDiff, List.map_cons, List.map_nil, setPart_agg, setPart_one, symSet, symSetF, Nat.reduceLT, fillV, buildV, List.replicate_succ, List.replicate_zero, Nat.lt_add_one, and_self, if_true, PV.one, PV.isAgg, PV.cells, PV.okc, List.all_cons, List.all_nil, Bool.and_self, List.nil_append, List.append_nil, List.cons_append, Nat.zero_add, Nat.add_zero, true_and, and_true, Nat.reduceEqDiff, reduceIte, Nat.reduceAdd, pickT, hc, Bool.not_false, Bool.true_or]
  simp only [symCode, symIts, symOp, symBind, symQ, symT, symVal, symLook, symSlice, symHeap, symStep, symRange, symRaw, symBsl, symClr, symClrH, symGb, junkG, Bool.false_eq_true, decide_true, decide_false, symRes, symFrz, symApp, symMap, symMapOp, bindO_some, Option.map_some, Option.bind_some, List.length_cons, List.length_nil, List.length_append, List.drop_zero, List.drop_succ_cons, List.take_succ_cons, List.take_zero, List.getElem?_cons_zero, List.getElem?_cons_succ, List.set_cons_zero, List.set_cons_succ, Nat.reduceLeDiff, List.map_cons, List.map_nil, setPart_agg, setPart_one, symSet, symSetF, Nat.reduceLT, fillV, buildV, List.replicate_succ, List.replicate_zero, Nat.lt_add_one, and_self, if_true, PV.one, PV.isAgg, PV.cells, PV.okc, List.all_cons, List.all_nil, Bool.and_self, List.nil_append, List.append_nil, List.cons_append, Nat.zero_add, Nat.add_zero, true_and, and_true, Nat.reduceEqDiff, reduceIte, Nat.reduceAdd]
  intros
  refine brC_mk (fun hc => ?_) (fun hc => ?_)
  · simp only [symCode, symIts, symOp, symBind, symQ, symT, symVal, symLook, symSlice, symHeap, symStep, symRange, symRaw, symBsl, symClr, symClrH, symGb, junkG, Bool.false_eq_true, decide_true, decide_false, symRes, symFrz, symApp, symMap, symMapOp, bindO_some, Option.map_some, Option.bind_some, List.length_cons, List.length_nil, List.length_append, List.drop_zero, List.drop_succ_cons, List.take_succ_cons, List.take_zero, List.getElem?_cons_zero, List.getElem?_cons_succ, List.set_cons_zero, List.set_cons_succ, Nat.reduceLeDiff, List.map_cons, List.map_nil, setPart_agg, setPart_one, symSet, symSetF, Nat.reduceLT, fillV, buildV, List.replicate_succ, List.replicate_zero, Nat.lt_add_one, and_self, if_true, PV.one, PV.isAgg, PV.cells, PV.okc, List.all_cons, List.all_nil, Bool.and_self, List.nil_append, List.append_nil, List.cons_append, Nat.zero_add, Nat.add_zero, true_and, and_true, Nat.reduceEqDiff, reduceIte, Nat.reduceAdd]
    exact bad _ (hx _ _)
  have hx3r : 128 ≤ x3 ∧ x3 ≤ 191 := by simp at hc; omega
  have a2 : bitop .and .u8 (x0 : Int) 7 = ((x0 % 8 : Nat) : Int) := by
    rw [show (7 : Int) = ((7 : Nat) : Int) from rfl, a0 _ (by omega), show (7 : Nat) = 2 ^ 3 - 1 from rfl, Nat.and_two_pow_sub_one_eq_mod]
  have a3 : IntKind.wrap .i32 (((x0 % 8 : Nat) : Int) * 2 ^ shiftN .i32 18) = ((x0 % 8 * 262144 : Nat) : Int) := shl_i32 (s := 18) (by omega) (by omega) rfl
  have a5 : IntKind.wrap .i32 (((x1 % 64 : Nat) : Int) * 2 ^ shiftN .i32 12) = ((x1 % 64 * 4096 : Nat) : Int) := shl_i32 (s := 12) (by omega) (by omega) rfl
  have a7 : IntKind.wrap .i32 (((x2 % 64 : Nat) : Int) * 2 ^ shiftN .i32 6) = ((x2 % 64 * 64 : Nat) : Int) := shl_i32 (s := 6) (by omega) (by omega) rfl
  have l1 := Nat.or_lt_two_pow (show x0 % 8 * 262144 < 2 ^ 21 by omega) (show x1 % 64 * 4096 < 2 ^ 21 by omega)
  have l2 := Nat.or_lt_two_pow l1 (show x2 % 64 * 64 < 2 ^ 21 by omega)
  have l3 := Nat.or_lt_two_pow l2 (show x3 % 64 < 2 ^ 21 by omega)
  simp only [symCode, symIts, symOp, symBind, symQ, symT, symVal, symLook, symSlice, symHeap, symStep, symRange, symRaw, symBsl, symClr, symClrH, symGb, junkG, Bool.false_eq_true, decide_true, decide_false, symRes, symFrz, symApp, symMap, symMapOp, bindO_some, Option.map_some, Option.bind_some, List.length_cons, List.length_nil, List.length_append, List.drop_zero, List.drop_succ_cons, List.take_succ_cons, List.take_zero, List.getElem?_cons_zero, List.getElem?_cons_succ, List.set_cons_zero, List.set_cons_succ, Nat.reduceLeDiff, List.map_cons, List.map_nil, setPart_agg, setPart_one, symSet, symSetF, Nat.reduceLT, fillV, buildV, List.replicate_succ, List.replicate_zero, Nat.lt_add_one, and_self, if_true, PV.one, PV.isAgg, PV.cells, PV.okc, List.all_cons, List.all_nil, Bool.and_self, List.nil_append, List.append_nil, List.cons_append, Nat.zero_add, Nat.add_zero, true_and, and_true, Nat.reduceEqDiff, reduceIte, Nat.reduceAdd, a1, a2, a4, a6, w32 (x0 % 8) (by omega), w32 (x1 % 64) (by omega), w32 (x2 % 64) (by omega), w32 (x3 % 64) (by omega), a3, a5, a7, or_i32 (show x0 % 8 * 262144 < 2 ^ 31 by omega) (show x1 % 64 * 4096 < 2 ^ 31 by omega),
    or_i32 (show x0 % 8 * 262144 ||| x1 % 64 * 4096 < 2 ^ 31 by omega) (show x2 % 64 * 64 < 2 ^ 31 by omega), or_i32 (show x0 % 8 * 262144 ||| x1 % 64 * 4096 ||| x2 % 64 * 64 < 2 ^ 31 by omega) (show x3 % 64 < 2 ^ 31 by omega)]
  refine ⟨by omega, by omega, by omega, hx _ _, rfl, _, 4, rfl, by omega, by omega, ?_, by omega, .inr (.inr (.inr rfl)), fun j hj hj2 => ?_⟩
  · have q1 := @Nat.left_le_or (x0 % 8 * 262144) (x1 % 64 * 4096)
    have q2 := @Nat.right_le_or (x0 % 8 * 262144) (x1 % 64 * 4096)
    have q3 := @Nat.left_le_or (x0 % 8 * 262144 ||| x1 % 64 * 4096) (x2 % 64 * 64)
    have q4 := @Nat.left_le_or (x0 % 8 * 262144 ||| x1 % 64 * 4096 ||| x2 % 64 * 64) (x3 % 64)
    omega
  · rcases j with _ | _ | _ | _ | j
    · rw [hx0]; exact h1
    · rw [hx1]; omega
    · rw [hx2]; omega
    · rw [hx3]; omega
    · omega

end Go.K10
