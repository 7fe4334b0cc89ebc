/- Each operation of the model does what the abstract machine says: values, numbers, tests. -/
import Derived.Test.YtppeejkegbjgdaaDoorVa
import Derived.IntWalk
import Derived.Laws.Strings
import Derived.Laws.StructEq
import Derived.Laws.BytesString
namespace Go.Avm
open Go Go.RowKit

def TRel (P : Program) (g : Gh) (t : TM) (tmps : Array Value) : Prop := ∀ n, VRel P g (look n t) (tmps.getD n Go.undef)

theorem TRel.mono {P : Program} {g g' : Gh} (hg : g.le g') {t : TM} {tmps : Array Value} (h : TRel P g t tmps) : TRel P g' t tmps := fun n => (h n).mono hg

theorem ofCell_rel {P : Program} {g : Gh} {v : Value} {p : PV} (h : ofCell v = some p) : VRel P g p v := by
  unfold ofCell at h
  split at h <;> first | cases h | skip
  · exact .bool _
  · exact .int _ _
  · exact .str _
  · exact .nilptr
  · exact .slnil _ _
  · exact .nilmap
  · exact .nilfn
  · exact .nilif

theorem ofCells_rel {P : Program} {g : Gh} : ∀ (vs : List Value) (ps : List PV), ofCells vs = some ps → ps.length = vs.length ∧ ∀ (i : Nat) (p : PV) (v : Value), ps[i]? = some p → vs[i]? = some v → VRel P g p v
  | [], ps, h => by cases h; exact ⟨rfl, fun i p v h => by simp at h⟩
  | v :: vs, ps, h => by
    unfold ofCells at h
    split at h
    · rename_i p qs hp hq
      cases h
      obtain ⟨h1, h2⟩ := ofCells_rel vs qs hq
      refine ⟨by simp [h1], fun i q u hi hu => ?_⟩
      cases i with
      | zero => simp at hi hu; subst hi; subst hu; exact ofCell_rel hp
      | succ i => simp at hi hu; exact h2 i q u hi hu
    · cases h

theorem ofValue_rel {P : Program} {g : Gh} {v : Value} {p : PV} (h : ofValue v = some p) : VRel P g p v := by
  cases v with
  | agg cs =>
    simp only [ofValue, Option.map_eq_some_iff] at h
    obtain ⟨ps, h1, rfl⟩ := h
    obtain ⟨h2, h3⟩ := ofCells_rel (P := P) (g := g) _ _ h1
    exact .agg (by simpa using h2) (fun i p v hi hv => h3 i p v hi (by simpa using hv))
  | _ => exact ofCell_rel h

variable {P : Program} {E : Env} {g : Gh} {h : AH} {w : World} {t : TM} {a : Act}

theorem cOd_rel (hT : TRel P g t a.tmps) {x : Operand} {o : Od} (hc : cOd P x = some o) : VRel P g (ev t o) (a.eval x) := by
  cases x with
  | tmp n => cases hc; exact hT n
  | const v =>
    simp only [cOd, Option.map_eq_some_iff] at hc
    obtain ⟨p, h1, rfl⟩ := hc
    exact ofValue_rel h1
  | func f =>
    simp only [cOd] at hc
    split at hc
    · rename_i hk
      cases hc
      exact .fn hk rfl rfl (fun i p v h => by simp at h) (fun i p v h => by simp at h)
    · cases hc
  | global g => cases hc; exact .gp

theorem cOds_rel (hT : TRel P g t a.tmps) : ∀ (l : List Operand) (os : List Od), cOds P l = some os → VRels P g (evs t os) (l.map a.eval)
  | [], os, h => by cases h; exact ⟨rfl, fun i p v h => by simp [evs] at h⟩
  | x :: l, os, h => by
    unfold cOds at h
    split at h
    · rename_i o qs ho hq
      cases h
      obtain ⟨h1, h2⟩ := cOds_rel hT l qs hq
      refine ⟨by simpa [evs] using h1, fun i q u hi hu => ?_⟩
      cases i with
      | zero => simp [evs] at hi hu; subst hi; subst hu; exact cOd_rel hT ho
      | succ i => simp [evs] at hi hu; exact h2 i q u (by simpa [evs] using hi) (by simpa using hu)
    · cases h

/-- The operation goes well and comes to something for which K holds. -/
def Goes (P : Program) (E : Env) (g : Gh) (o : Oper) (a : Act) (w : World) (K : PV → AH → Prop) : Prop :=
  ∃ x r w' pv h' g', (execOp a.eval o).run P w = .ok x w' ∧ (x = .value r ∨ (x = .skip ∧ r = Go.undef)) ∧ K pv h' ∧ g.le g' ∧ Inv P E g' h' w' ∧ VRel P g' pv r

theorem Goes.pure {o : Oper} {K : PV → AH → Prop} (hI : Inv P E g h w) {pv : PV} {r : Value} (hr : (execOp a.eval o).run P w = .ok (.value r) w) (hv : VRel P g pv r) (hk : K pv h) : Goes P E g o a w K :=
  ⟨_, r, w, pv, h, g, hr, .inl rfl, hk, Gh.le.refl g, hI, hv⟩

theorem VRel.bool_inv {b : Bool} {v : Value} (h : VRel P g (.bool b) v) : v = .bool b := by cases h; rfl
theorem VRel.int_inv {k : IntKind} {n : Int} {v : Value} (h : VRel P g (.int k n) v) : v = .int k n := by cases h; rfl
theorem VRel.str_inv {s : List UInt8} {v : Value} (h : VRel P g (.str s) v) : v = .string ⟨⟨s⟩⟩ := by cases h; rfl

theorem VRel.one {p : PV} {v : Value} (h : VRel P g p v) (hp : p.one = true) : v.oneCell' = true := by
  cases h <;> first | rfl | simp [PV.one] at hp

theorem VRel.single {p : PV} {v : Value} (h : VRel P g p v) (hp : p.one = true) : p.cells = [p] ∧ v.cells = #[v] := by
  cases h <;> first | exact ⟨rfl, rfl⟩ | simp [PV.one] at hp

theorem VRel.agg_inv {cs : List PV} {v : Value} (h : VRel P g (.agg cs) v) : ∃ vs : Array Value, v = .agg vs ∧ cs.length = vs.size ∧ ∀ (i : Nat) (p : PV) (v : Value), cs[i]? = some p → vs[i]? = some v → VRel P g p v := by
  cases h with | agg hl h => exact ⟨_, rfl, hl, h⟩
theorem VRel.tuple_inv {cs : List PV} {v : Value} (h : VRel P g (.tuple cs) v) : ∃ vs : Array Value, v = .tuple vs ∧ cs.length = vs.size ∧ ∀ (i : Nat) (p : PV) (v : Value), cs[i]? = some p → vs[i]? = some v → VRel P g p v := by
  cases h with | tuple hl h => exact ⟨_, rfl, hl, h⟩
theorem VRel.ptr_inv {id sz i f : Nat} {v : Value} (h : VRel P g (.ptr id sz i f) v) : ∃ b, v = .pointer (some ⟨b, i * sz + f, none⟩) ∧ g.m id = some b := by
  cases h with | ptr hm => exact ⟨_, rfl, hm⟩
theorem VRel.rp_inv {x : PV} {f : Nat} {v : Value} (h : VRel P g (.rp x f) v) : ∃ b o, v = .pointer (some ⟨b, o + f, none⟩) ∧ ∀ (j : Nat) (p : PV), x.cells[j]? = some p → g.F b (o + j) p := by
  cases h with | rp h => exact ⟨_, _, rfl, h⟩
theorem VRel.asl_inv {id sz off len : Nat} {v : Value} (h : VRel P g (.asl id sz off len) v) : ∃ b cap o, v = .slice (some ⟨b, o, none⟩) len cap ∧ g.m id = some b ∧ len ≤ cap ∧ (off + cap) * sz ≤ g.bs b ∧ (cap = 0 ∨ o = off * sz) := by
  cases h with | asl hm hc hb ho => exact ⟨_, _, _, rfl, hm, hc, hb, ho⟩
theorem VRel.sl_inv {sz : Nat} {xs : List PV} {full nl : Bool} {v : Value} (h : VRel P g (.sl sz xs full nl) v) :
    (nl = true ∧ xs = [] ∧ v = .slice none 0 0) ∨ (nl = false ∧ ∃ a cap, v = .slice (some a) xs.length cap ∧ xs.length ≤ cap ∧ (full = true → cap = xs.length) ∧ (∀ x ∈ xs, x.cells.length = sz) ∧
      (xs ≠ [] → a.spot = none) ∧ ∀ (i : Nat) (x : PV) (j : Nat) (p : PV), xs[i]? = some x → x.cells[j]? = some p → g.F a.block (a.off + i * sz + j) p) := by
  cases h with
  | slnil => exact .inl ⟨rfl, rfl, rfl⟩
  | sl hc hf hs ha h => exact .inr ⟨rfl, _, _, rfl, hc, hf, hs, ha, h⟩
theorem VRel.map_inv {id : Nat} {v : Value} (h : VRel P g (.map id) v) : ∃ b, v = .map (some b) ∧ g.m id = some b := by
  cases h with | map hm => exact ⟨_, rfl, hm⟩
theorem VRel.fn_inv {f : FuncId} {u c : List PV} {v : Value} (h : VRel P g (.fn f u c) v) : ∃ vf vc : Array Value, v = .func (.func f) vf vc ∧ callOk P f = true ∧ u.length = vf.size ∧ c.length = vc.size ∧
    (∀ (i : Nat) (p : PV) (v : Value), u[i]? = some p → vf[i]? = some v → VRel P g p v) ∧ (∀ (i : Nat) (p : PV) (v : Value), c[i]? = some p → vc[i]? = some v → VRel P g p v) := by
  cases h with | fn h1 h2 h3 h4 h5 => exact ⟨_, _, rfl, h1, h2, h3, h4, h5⟩
theorem VRel.yld_inv {id : Nat} {v : Value} (h : VRel P g (.yld id) v) : ∃ b, v = .func (.yield b) #[] #[] ∧ g.m id = some b := by
  cases h with | yld hm => exact ⟨_, rfl, hm⟩
theorem VRel.iter_inv {id : Nat} {v : Value} (h : VRel P g (.iter id) v) : ∃ b, v = .pointer (some ⟨b, 0, none⟩) ∧ g.m id = some b := by
  cases h with | iter hm => exact ⟨_, rfl, hm⟩
theorem VRel.nilmap_inv {v : Value} (h : VRel P g .nilmap v) : v = .map none := by cases h; rfl

/-- What a value's cells read as. -/
theorem VRel.cells {p : PV} {v : Value} (h : VRel P g p v) (hp : p.okc = true) : p.cells.length = v.cells.size ∧
    (∀ (i : Nat) (q : PV) (u : Value), p.cells[i]? = some q → v.cells[i]? = some u → VRel P g q u) ∧ (∀ u ∈ v.cells, u.oneCell' = true) := by
  by_cases hone : p.one = true
  · obtain ⟨e1, e2⟩ := h.single hone
    rw [e1, e2]
    refine ⟨rfl, fun i q u hq hu => ?_, fun u hu => ?_⟩
    · cases i with
      | zero => simp at hq hu; subst hq; subst hu; exact h
      | succ i => simp at hq
    · simp at hu; subst hu; exact h.one hone
  · cases h with
    | agg hl h =>
      rename_i cs vs
      refine ⟨hl, h, fun u hu => ?_⟩
      obtain ⟨i, hi, rfl⟩ := Array.getElem_of_mem hu
      have hi' : i < vs.size := hi
      have hlt : i < cs.length := by rw [hl]; exact hi
      have hr := h i cs[i] vs[i] (List.getElem?_eq_getElem hlt) (Array.getElem?_eq_getElem hi')
      simp only [PV.okc, PV.cells, List.all_eq_true] at hp
      exact hr.one (hp _ (List.getElem_mem hlt))
    | undef v => simp [PV.okc, PV.cells, PV.one] at hp
    | tuple _ _ => simp [PV.okc, PV.cells, PV.one] at hp
    | _ => simp [PV.one] at hone

/-- Shorthands for the run. -/
theorem run_ok_bind {α β : Type} {s : Sem α} {f : α → Sem β} {x : α} {w w' : World} (h : s.run P w = .ok x w') : (s >>= f).run P w = (f x).run P w' := by
  simp [h]

theorem value_of {o : Oper} {s : Sem Value} {v : Value} {w w' : World} (ho : execOp a.eval o = (do pure (.value (← s)))) (h : s.run P w = .ok v w') : (execOp a.eval o).run P w = .ok (.value v) w' := by
  rw [ho]; simp [h]

variable {g0 : Gh} {arr : Bool} {o : Oper} {K : PV → AH → Prop}

theorem go_mv (hI : Inv P E g h w) (hT : TRel P g t a.tmps) {x : Operand} {x' : Od} (ho : o.op = .move x ∨ o.op = .assign x) (hx : cOd P x = some x') (hk : vcOp P g0 (.mv x') t h K) : Goes P E g o a w K := by
  refine .pure hI (r := a.eval x) ?_ (cOd_rel hT hx) hk
  rcases ho with ho | ho <;> simp [execOp, ho]

theorem go_pick (hI : Inv P E g h w) (hT : TRel P g t a.tmps) {c x y : Operand} {c' x' y' : Od} (ho : o.op = .pick c x y) (hc : cOd P c = some c') (hx : cOd P x = some x') (hy : cOd P y = some y')
    (hk : vcOp P g0 (.pick c' x' y') t h K) : Goes P E g o a w K := by
  have rc := cOd_rel hT hc
  simp only [vcOp] at hk
  cases hb : ev t c' <;> rw [hb] at hk rc <;> simp only at hk
  rename_i b
  have rb := rc.bool_inv
  cases b with
  | true => exact .pure hI (by simp [execOp, ho, rb, asBool]) (cOd_rel hT hx) (hk.1 rfl)
  | false => exact .pure hI (by simp [execOp, ho, rb, asBool]) (cOd_rel hT hy) (hk.2 rfl)

end Go.Avm

/- Each operation of the model does what the abstract machine says: arithmetic, comparisons, conversions. -/
namespace Go.Avm
open Go Go.RowKit

variable {P : Program} {E : Env} {g : Gh} {h : AH} {w : World} {t : TM} {a : Act} {g0 : Gh} {o : Oper} {K : PV → AH → Prop}

theorem inR_i64 {n : Int} : inR .i64 n ↔ -9223372036854775808 ≤ n ∧ n ≤ 9223372036854775807 := by
  unfold inR
  rw [show IntKind.min .i64 = -9223372036854775808 from by decide, show IntKind.max .i64 = 9223372036854775807 from by decide]

theorem inR_i32 {n : Int} : inR .i32 n ↔ -2147483648 ≤ n ∧ n ≤ 2147483647 := by
  unfold inR
  rw [show IntKind.min .i32 = -2147483648 from by decide, show IntKind.max .i32 = 2147483647 from by decide]

theorem wrap_inR_i64 {n : Int} (h : inR .i64 n) : IntKind.i64.wrap n = n := IntWalk.i64_in n (inR_i64.1 h)
theorem wrap_inR_i32 {n : Int} (h : inR .i32 n) : IntKind.i32.wrap n = n := by
  obtain ⟨h1, h2⟩ := inR_i32.1 h
  simp [IntKind.wrap, IntKind.bits, IntKind.signed]; omega

theorem arith_ok {k : IntKind} {n : Int} {K : PV → Prop} (h : arith k n K) : K (.int k (k.wrap n)) := by
  cases k <;> first
    | (simp only [arith] at h; rw [wrap_inR_i64 h.1]; exact h.2)
    | (simp only [arith] at h; rw [wrap_inR_i32 h.1]; exact h.2)
    | exact h

theorem eqGuard_int (op : BinOp) (T : TypeId) (x y : Operand) (k k' : IntKind) (m n : Int) : (eqGuard op T x y (.int k m) (.int k' n)).run P w = .ok () w := by
  cases op <;> rfl
theorem eqGuard_str (op : BinOp) (T : TypeId) (x y : Operand) (m n : ByteArray) : (eqGuard op T x y (.string m) (.string n)).run P w = .ok () w := by
  cases op <;> rfl
theorem eqGuard_bool (op : BinOp) (T : TypeId) (x y : Operand) (m n : Bool) : (eqGuard op T x y (.bool m) (.bool n)).run P w = .ok () w := by
  cases op <;> rfl

theorem bin_run {op : BinOp} {T yt : TypeId} {x y : Operand} {v r : Value} {w' : World} {u : Value} (ho : o.op = .binOp op T x y yt) (hx : a.eval x = u) (hy : a.eval y = v)
    (hg : (eqGuard op T x y u v).run P w = .ok () w) (hr : (binOp op T u v).run P w = .ok r w') : (execOp a.eval o).run P w = .ok (.value r) w' := by
  simp only [execOp, ho, hx, hy]
  simp [hg, hr]

theorem binOp_int {op : BinOp} {T : TypeId} {k k' : IntKind} {m n : Int} {K : PV → Prop} (h : binV op (.int k m) (.int k' n) K) :
    ∃ pv r, (binOp op T (.int k m) (.int k' n)).run P w = .ok r w ∧ VRel P g pv r ∧ K pv := by
  cases op
  case shl => exact ⟨_, _, by simp [binOp, Op.shift, Int.not_lt.2 h.1, shiftN], .int _ _, h.2⟩
  case shr => exact ⟨_, _, by simp [binOp, Op.shift, Int.not_lt.2 h.1, shiftN], .int _ _, h.2⟩
  case add => obtain ⟨rfl, h⟩ := h; exact ⟨_, _, by simp [binOp, Op.intArith], .int _ _, arith_ok h⟩
  case sub => obtain ⟨rfl, h⟩ := h; exact ⟨_, _, by simp [binOp, Op.intArith], .int _ _, arith_ok h⟩
  case mul => obtain ⟨rfl, h⟩ := h; exact ⟨_, _, by simp [binOp, Op.intArith], .int _ _, arith_ok h⟩
  case quo => obtain ⟨rfl, h1, h⟩ := h; exact ⟨_, _, by simp [binOp, Op.intDiv, h1], .int _ _, h⟩
  case rem => obtain ⟨rfl, h1, h⟩ := h; exact ⟨_, _, by simp [binOp, Op.intDiv, h1], .int _ _, h⟩
  case and => obtain ⟨rfl, h⟩ := h; exact ⟨_, .int k (bitop .and k m n), by simp only [binOp, ne_eq, not_true, if_false, Op.intBits]; rfl, .int _ _, h⟩
  case or => obtain ⟨rfl, h⟩ := h; exact ⟨_, .int k (bitop .or k m n), by simp only [binOp, ne_eq, not_true, if_false, Op.intBits]; rfl, .int _ _, h⟩
  case xor => obtain ⟨rfl, h⟩ := h; exact ⟨_, .int k (bitop .xor k m n), by simp only [binOp, ne_eq, not_true, if_false, Op.intBits]; rfl, .int _ _, h⟩
  case andNot => obtain ⟨rfl, h⟩ := h; exact ⟨_, .int k (bitop .andNot k m n), by simp only [binOp, ne_eq, not_true, if_false, Op.intBits]; rfl, .int _ _, h⟩
  case eql => obtain ⟨rfl, h⟩ := h; exact ⟨_, _, by simp [binOp, Op.intCmp], .bool _, h⟩
  case neq => obtain ⟨rfl, h⟩ := h; exact ⟨_, _, by simp [binOp, Op.intCmp], .bool _, h⟩
  case lss => obtain ⟨rfl, h⟩ := h; exact ⟨_, _, by simp [binOp, Op.intCmp], .bool _, h⟩
  case leq => obtain ⟨rfl, h⟩ := h; exact ⟨_, _, by simp [binOp, Op.intCmp], .bool _, h⟩
  case gtr => obtain ⟨rfl, h⟩ := h; exact ⟨_, _, by simp [binOp, Op.intCmp], .bool _, h⟩
  case geq => obtain ⟨rfl, h⟩ := h; exact ⟨_, _, by simp [binOp, Op.intCmp], .bool _, h⟩

theorem toList_mk (l : List UInt8) : (⟨⟨l⟩⟩ : ByteArray).toList = l := by
  simp [ByteArray.toList_eq]

theorem append_mk (m n : List UInt8) : (⟨⟨m⟩⟩ : ByteArray) ++ ⟨⟨n⟩⟩ = ⟨⟨m ++ n⟩⟩ := by
  apply ByteArray.ext
  simp

theorem binOp_str {op : BinOp} {T : TypeId} {m n : List UInt8} {K : PV → Prop} (h : binV op (.str m) (.str n) K) :
    ∃ pv r, (binOp op T (.string ⟨⟨m⟩⟩) (.string ⟨⟨n⟩⟩)).run P w = .ok r w ∧ VRel P g pv r ∧ K pv := by
  cases op <;> simp only [binV] at h
  case add =>
    refine ⟨_, _, ?_, .str _, h.2⟩
    have h1 : ¬ (((⟨⟨m⟩⟩ : ByteArray).size + (⟨⟨n⟩⟩ : ByteArray).size : Nat) : Int) > IntKind.i64.max := by
      have := h.1
      rw [show IntKind.max .i64 = 9223372036854775807 from by decide]
      simp only [ByteArray.size, List.size_toArray]
      omega
    simp only [binOp, Op.stringOp, if_neg h1, Sem.run_pure, append_mk]
  case eql => exact ⟨_, _, by simp [binOp, Op.stringOp], .bool _, h⟩
  case neq => exact ⟨_, _, by simp [binOp, Op.stringOp], .bool _, h⟩
  case lss => exact ⟨_, _, by simp [binOp, Op.stringOp, bytesLess], .bool _, h⟩
  case leq => exact ⟨_, _, by simp [binOp, Op.stringOp, bytesLess], .bool _, h⟩
  case gtr => exact ⟨_, _, by simp [binOp, Op.stringOp, bytesLess], .bool _, h⟩
  case geq => exact ⟨_, _, by simp [binOp, Op.stringOp, bytesLess], .bool _, h⟩


theorem go_bin (hI : Inv P E g h w) (hT : TRel P g t a.tmps) {op : BinOp} {T yt : TypeId} {x y : Operand} {x' y' : Od} (ho : o.op = .binOp op T x y yt)
    (hx : cOd P x = some x') (hy : cOd P y = some y') (hk : vcOp P g0 (.bin op x' y') t h K) : Goes P E g o a w K := by
  have rx := cOd_rel hT hx
  have ry := cOd_rel hT hy
  simp only [vcOp] at hk
  cases ex : ev t x' <;> rw [ex] at hk rx
  case int k m =>
    cases ey : ev t y' <;> rw [ey] at hk ry <;> try (exact hk.elim)
    rename_i k' n
    obtain ⟨pv, r, h1, h2, h3⟩ := binOp_int (P := P) (g := g) (w := w) (T := T) hk
    exact .pure hI (bin_run ho rx.int_inv ry.int_inv (eqGuard_int _ _ _ _ _ _ _ _) h1) h2 h3
  case str m =>
    cases ey : ev t y' <;> rw [ey] at hk ry <;> try (exact hk.elim)
    rename_i n
    obtain ⟨pv, r, h1, h2, h3⟩ := binOp_str (P := P) (g := g) (w := w) (T := T) hk
    exact .pure hI (bin_run ho rx.str_inv ry.str_inv (eqGuard_str _ _ _ _ _ _) h1) h2 h3
  all_goals exact hk.elim

theorem go_binB (hI : Inv P E g h w) (hT : TRel P g t a.tmps) {op : BinOp} {neg : Bool} {T yt : TypeId} {x y : Operand} {x' y' : Od} (ho : o.op = .binOp op T x y yt) (hop : (op = .eql ∧ neg = false) ∨ (op = .neq ∧ neg = true))
    (hd : P.underlying T = some .bool) (hx : cOd P x = some x') (hy : cOd P y = some y') (hk : vcOp P g0 (.binB neg x' y') t h K) : Goes P E g o a w K := by
  have rx := cOd_rel hT hx
  have ry := cOd_rel hT hy
  simp only [vcOp] at hk
  cases ex : ev t x' <;> rw [ex] at hk rx <;> cases ey : ev t y' <;> rw [ey] at hk ry <;> simp only at hk
  rename_i p q
  have heq : (Op.equal T (.bool p) (.bool q)).run P w = .ok (p == q) w := by
    show (Op.equalIn (9999 + 1) T (.bool p) (.bool q)).run P w = _
    rw [Op.equalIn]
    simp only [Sem.run_bind, underlying_run hd, Result.andThen_ok, Sem.run_pure]
  rcases hop with ⟨rfl, rfl⟩ | ⟨rfl, rfl⟩
  · exact .pure hI (bin_run ho rx.bool_inv ry.bool_inv (eqGuard_bool _ _ _ _ _ _) (r := .bool (p == q)) (by simp [binOp, heq])) (.bool _) (by simpa using hk)
  · exact .pure hI (bin_run ho rx.bool_inv ry.bool_inv (eqGuard_bool _ _ _ _ _ _) (r := .bool (!(p == q))) (by simp [binOp, heq])) (.bool _) (by simpa using hk)

theorem go_un (hI : Inv P E g h w) (hT : TRel P g t a.tmps) {op : UnOp} {T : TypeId} {x : Operand} {x' : Od} (ho : o.op = .unOp op T x) (hx : cOd P x = some x')
    (hk : vcOp P g0 (.un op x') t h K) : Goes P E g o a w K := by
  have rx := cOd_rel hT hx
  simp only [vcOp] at hk
  cases op <;> cases ex : ev t x' <;> rw [ex] at hk rx <;> simp only at hk
  case not.bool b => exact .pure hI (by simp [execOp, ho, rx.bool_inv, Op.unary]) (.bool _) hk
  case neg.int k n => exact .pure hI (by simp [execOp, ho, rx.int_inv, Op.unary, Op.intArith]) (.int _ _) (arith_ok hk)
  case xor.int k n => exact .pure hI (r := .int k (bitop .xor k (if k.signed then -1 else k.max) n)) (by simp only [execOp, ho, rx.int_inv, Op.unary]; rfl) (.int _ _) hk

theorem go_i2i (hI : Inv P E g h w) (hT : TRel P g t a.tmps) {s d : TypeId} {k k0 : IntKind} {x : Operand} {x' : Od} (ho : o.op = .convert s d x) (hs : P.underlying s = some (.int k0)) (hd : P.underlying d = some (.int k))
    (hx : cOd P x = some x') (hk : vcOp P g0 (.i2i k x') t h K) : Goes P E g o a w K := by
  have rx := cOd_rel hT hx
  simp only [vcOp] at hk
  cases ex : ev t x' <;> rw [ex] at hk rx <;> simp only at hk
  exact .pure hI (by simp [execOp, ho, rx.int_inv, convert, underlying_run hs, underlying_run hd, Conv.intToInt]) (.int _ _) hk

theorem go_s2s (hI : Inv P E g h w) (hT : TRel P g t a.tmps) {s d : TypeId} {x : Operand} {x' : Od} (ho : o.op = .convert s d x) (hs : P.underlying s = some .string) (hd : P.underlying d = some .string)
    (hx : cOd P x = some x') (hk : vcOp P g0 (.s2s x') t h K) : Goes P E g o a w K := by
  have rx := cOd_rel hT hx
  simp only [vcOp] at hk
  cases ex : ev t x' <;> rw [ex] at hk rx <;> simp only at hk
  exact .pure hI (by simp [execOp, ho, rx.str_inv, convert, underlying_run hs, underlying_run hd]) (.str _) hk

theorem go_ext (hI : Inv P E g h w) (hT : TRel P g t a.tmps) {i : Nat} {x : Operand} {x' : Od} (ho : o.op = .extract x i) (hx : cOd P x = some x') (hk : vcOp P g0 (.ext x' i) t h K) : Goes P E g o a w K := by
  have rx := cOd_rel hT hx
  simp only [vcOp] at hk
  cases ex : ev t x' <;> rw [ex] at hk rx <;> simp only at hk
  rename_i cs
  obtain ⟨vs, he, hl, hr⟩ := rx.tuple_inv
  cases hc : cs[i]? with
  | none => rw [hc] at hk; exact hk.elim
  | some p =>
    rw [hc] at hk
    have hi : i < vs.size := by rw [← hl]; exact (List.getElem?_eq_some_iff.1 hc).1
    exact .pure hI (r := vs[i]) (by simp [execOp, ho, he, Instr.extract, hi]) (hr i p _ hc (Array.getElem?_eq_getElem hi)) hk

theorem go_mkf (hI : Inv P E g h w) (hT : TRel P g t a.tmps) {f : FuncId} {u v : Array Operand} {u' v' : List Od} (ho : o.op = .makeFunc (.func f) u v) (hf : callOk P f = true)
    (hu : cOds P u.toList = some u') (hv : cOds P v.toList = some v') (hk : vcOp P g0 (.mkf f u' v') t h K) : Goes P E g o a w K := by
  obtain ⟨l1, r1⟩ := cOds_rel hT _ _ hu
  obtain ⟨l2, r2⟩ := cOds_rel hT _ _ hv
  refine .pure hI (r := .func (.func f) (u.map a.eval) (v.map a.eval)) (by simp [execOp, ho, Instr.makeFunc]) (.fn hf (by simpa using l1) (by simpa using l2) ?_ ?_) hk
  · exact fun i p x hp hx => r1 i p x hp (by simpa using hx)
  · exact fun i p x hp hx => r2 i p x hp (by simpa using hx)

theorem go_nchk (hI : Inv P E g h w) (hT : TRel P g t a.tmps) {x : Operand} {x' : Od} (ho : o.op = .nilCheck x) (hx : cOd P x = some x') (hk : vcOp P g0 (.nchk x') t h K) : Goes P E g o a w K := by
  have rx := cOd_rel hT hx
  simp only [vcOp] at hk
  cases ex : ev t x' <;> rw [ex] at hk rx <;> simp only at hk
  case ptr => obtain ⟨b, he, hm⟩ := rx.ptr_inv; exact .pure hI (r := a.eval x) (by simp [execOp, ho, he]) rx hk
  case fn => obtain ⟨vf, vc, he, _⟩ := rx.fn_inv; exact .pure hI (r := a.eval x) (by simp [execOp, ho, he]) rx hk
  case yld => obtain ⟨b, he, hm⟩ := rx.yld_inv; exact .pure hI (r := a.eval x) (by simp [execOp, ho, he]) rx hk

end Go.Avm

/- Comparing plain values: by their cells. -/
namespace Go.Avm
open Go Go.RowKit

variable {P : Program} {g : Gh} {w : World}

theorem part_run_agg {t : TypeId} {d : TypeDesc} {i : TypeInfo} {cs : Array Value} {off : Nat} (hd : P.underlying t = some d) (ha : isAggD d = true) (hi : P.info? t = some i) :
    (part t cs off).run P w = .ok (.agg (cs.extract off (off + i.size))) w := by
  have := isAgg_run (w := w) hd
  cases d <;> simp [isAggD] at ha <;> simp [part, this, sizeOf_run hi]

theorem part_run_one {t : TypeId} {d : TypeDesc} {cs : Array Value} {off : Nat} {v : Value} (hd : P.underlying t = some d) (ha : isAggD d = false) (hv : cs[off]? = some v) :
    (part t cs off).run P w = .ok v w := by
  have := isAgg_run (w := w) hd
  cases d <;> simp [isAggD] at ha <;> simp [part, this, hv]

theorem sigOk_length : ∀ {s : List Kd} {cs : List PV}, sigOk s cs = true → cs.length = s.length
  | [], [], _ => rfl
  | [], _ :: _, h => by simp [sigOk] at h
  | _ :: _, [], h => by simp [sigOk] at h
  | k :: s, c :: cs, h => by
    simp only [sigOk, Bool.and_eq_true] at h
    simp [sigOk_length h.2]

theorem sigOk_append : ∀ {s s' : List Kd} {cs : List PV}, sigOk (s ++ s') cs = true → sigOk s (cs.take s.length) = true ∧ sigOk s' (cs.drop s.length) = true
  | [], s', cs, h => by simpa [sigOk] using h
  | k :: s, s', [], h => by simp [sigOk] at h
  | k :: s, s', c :: cs, h => by
    simp only [List.cons_append, sigOk, Bool.and_eq_true] at h
    obtain ⟨h1, h2⟩ := sigOk_append h.2
    simp [sigOk, h.1, h1, h2]

theorem cellsEq_append : ∀ {a b c d : List PV}, a.length = c.length → cellsEq (a ++ b) (c ++ d) = (cellsEq a c && cellsEq b d)
  | [], b, [], d, _ => by simp [cellsEq]
  | [], _, _ :: _, _, h => by simp at h
  | _ :: _, _, [], _, h => by simp at h
  | x :: a, b, y :: c, d, h => by
    simp only [List.length_cons, Nat.add_right_cancel_iff] at h
    simp [cellsEq, cellsEq_append h, Bool.and_assoc]

theorem VRel.sub {cs : List PV} {vs : Array Value} (hl : cs.length = vs.size) (hr : ∀ (i : Nat) (p : PV) (v : Value), cs[i]? = some p → vs[i]? = some v → VRel P g p v) (off n : Nat) (h : off + n ≤ cs.length) :
    VRel P g (.agg ((cs.drop off).take n)) (.agg (vs.extract off (off + n))) := by
  refine .agg (by simp; omega) fun i p v hp hv => ?_
  have hi : i < n := by
    have := (List.getElem?_eq_some_iff.1 hp).1
    simp at this; omega
  rw [List.getElem?_take_of_lt hi, List.getElem?_drop] at hp
  rw [Array.getElem?_extract, if_pos (by omega)] at hv
  exact hr _ p v hp hv

theorem equalIn_sig : ∀ (n d : Nat) (t : TypeId) (s : List Kd), sigT P n t = some s → n ≤ d → ∀ (x y : Value) (p q : PV) (td : TypeDesc), P.underlying t = some td → VRel P g p x → VRel P g q y →
    sigOk s p.cells = true → sigOk s q.cells = true → p.isAgg = isAggD td → q.isAgg = isAggD td → (Op.equalIn d t x y).run P w = .ok (cellsEq p.cells q.cells) w
  | 0, _, _, _, h, _ => by simp [sigT] at h
  | n + 1, 0, _, _, _, h => by omega
  | n + 1, d + 1, t, s, hs, hd => by
    intro x y p q td htd hx hy hp hq ap aq
    rw [sigT, htd] at hs
    cases td with
    | int k =>
      simp only [Option.some.injEq] at hs; subst hs
      simp only [isAggD] at ap aq
      cases p <;> simp [PV.isAgg] at ap <;> simp [PV.cells, sigOk, kdOk] at hp
      cases q <;> simp [PV.isAgg] at aq <;> simp [PV.cells, sigOk, kdOk] at hq
      subst hp; subst hq
      rw [hx.int_inv, hy.int_inv, run_equalIn_int w d t _ _ _ _ htd]
      simp [PV.cells, cellsEq, cellEq]
    | string =>
      simp only [Option.some.injEq] at hs; subst hs
      simp only [isAggD] at ap aq
      cases p <;> simp [PV.isAgg] at ap <;> simp [PV.cells, sigOk, kdOk] at hp
      cases q <;> simp [PV.isAgg] at aq <;> simp [PV.cells, sigOk, kdOk] at hq
      rw [hx.str_inv, hy.str_inv, run_equalIn_string w d t _ _ htd]
      simp [PV.cells, cellsEq, cellEq]
    | bool =>
      simp only [Option.some.injEq] at hs; subst hs
      simp only [isAggD] at ap aq
      cases p <;> simp [PV.isAgg] at ap <;> simp [PV.cells, sigOk, kdOk] at hp
      cases q <;> simp [PV.isAgg] at aq <;> simp [PV.cells, sigOk, kdOk] at hq
      rw [hx.bool_inv, hy.bool_inv, run_equalIn_bool' w d t _ _ htd]
      simp [PV.cells, cellsEq, cellEq]
    | struct fs =>
      simp only at hs
      cases hst : P.stoodInHeld t with
      | true => simp [hst] at hs
      | false =>
        simp only [hst, Bool.false_eq_true, if_false] at hs
        simp only [isAggD] at ap aq
        cases p <;> simp [PV.isAgg] at ap
        cases q <;> simp [PV.isAgg] at aq
        rename_i cs ds
        obtain ⟨vs, rfl, hl, hr⟩ := hx.agg_inv
        obtain ⟨us, rfl, hl', hr'⟩ := hy.agg_inv
        have hf : P.fieldsOf t = fs := by simp [Program.fieldsOf, htd]
        rw [run_equalIn_struct w d t vs us (by rw [hf]; exact htd) hst, hf]
        simp only [PV.cells] at hp hq ⊢
        have key : ∀ (l : List Field) (at_ : Nat) (s' : List Kd), at_ ≤ cs.length → at_ ≤ ds.length → sigF P (sigT P n) l at_ = some s' → sigOk s' (cs.drop at_) = true → sigOk s' (ds.drop at_) = true →
            (Op.eqFields d vs us l).run P w = .ok (cellsEq (cs.drop at_) (ds.drop at_)) w := by
          intro l
          induction l with
          | nil =>
            intro at_ s' hle1 hle2 h1 h2 h3
            simp only [sigF, Option.some.injEq] at h1; subst h1
            have e1 := List.length_eq_zero_iff.1 (sigOk_length h2)
            have e2 := List.length_eq_zero_iff.1 (sigOk_length h3)
            rw [e1, e2]; simp [Op.eqFields, cellsEq]
          | cons f l ih =>
            intro at_ s' hle1 hle2 h1 h2 h3
            simp only [sigF] at h1
            cases hsub : sigT P n f.type with
            | none => simp [hsub] at h1
            | some sf =>
              cases hi : P.info? f.type with
              | none => simp [hsub, hi] at h1
              | some fi =>
                simp only [hsub, hi] at h1
                split at h1
                · rename_i hc
                  obtain ⟨c1, c2, c3⟩ := hc
                  simp only [Option.map_eq_some_iff] at h1
                  obtain ⟨s2, h4, rfl⟩ := h1
                  obtain ⟨a1, a2⟩ := sigOk_append h2
                  obtain ⟨b1, b2⟩ := sigOk_append h3
                  have la := sigOk_length h2
                  have lb := sigOk_length h3
                  simp only [List.length_append, List.length_drop] at la lb
                  rw [List.drop_drop] at a2 b2
                  have ih' := ih (at_ + sf.length) s2 (by omega) (by omega) h4 a2 b2
                  obtain ⟨fd, hfd⟩ : ∃ fd, P.underlying f.type = some fd := by
                    cases hu : P.underlying f.type with
                    | some fd => exact ⟨fd, rfl⟩
                    | none => cases n <;> simp [sigT, hu] at hsub
                  have hsplit : ∀ (zs : List PV), zs.drop at_ = (zs.drop at_).take sf.length ++ zs.drop (at_ + sf.length) := fun zs => by
                    rw [← List.drop_drop, List.take_append_drop]
                  have hcase : ∃ (x1 y1 : Value) (p1 q1 : PV), (part f.type vs f.offset).run P w = .ok x1 w ∧ (part f.type us f.offset).run P w = .ok y1 w ∧ VRel P g p1 x1 ∧ VRel P g q1 y1 ∧
                      p1.cells = (cs.drop at_).take sf.length ∧ q1.cells = (ds.drop at_).take sf.length ∧ p1.isAgg = isAggD fd ∧ q1.isAgg = isAggD fd := by
                    rw [c2]
                    cases hag : isAggD fd with
                    | true =>
                      refine ⟨_, _, _, _, part_run_agg hfd hag hi, part_run_agg hfd hag hi, VRel.sub hl hr at_ fi.size (by rw [c3]; omega), VRel.sub hl' hr' at_ fi.size (by rw [c3]; omega), ?_, ?_, rfl, rfl⟩ <;> rw [c3] <;> rfl
                    | false =>
                      have hone : sf.length = 1 := by
                        cases n with
                        | zero => simp [sigT] at hsub
                        | succ m =>
                          rw [sigT, hfd] at hsub
                          cases fd <;> simp [isAggD] at hag <;> simp at hsub <;> subst hsub <;> rfl
                      rw [hone]
                      have k1 : at_ < cs.length := by omega
                      have k2 : at_ < ds.length := by omega
                      have v1 : at_ < vs.size := by omega
                      have v2 : at_ < us.size := by omega
                      have t1 : (cs.drop at_).take 1 = [cs[at_]] := by rw [List.drop_eq_getElem_cons k1]; rfl
                      have t2 : (ds.drop at_).take 1 = [ds[at_]] := by rw [List.drop_eq_getElem_cons k2]; rfl
                      rw [hone, t1] at a1
                      rw [hone, t2] at b1
                      have g1 : (cs[at_]).cells = [cs[at_]] ∧ (cs[at_]).isAgg = false := by
                        revert a1; cases sf with
                        | nil => simp at hone
                        | cons k r => cases r with
                          | nil => intro a1; cases hz : cs[at_] <;> rw [hz] at a1 <;> first | exact ⟨rfl, rfl⟩ | (cases k <;> simp [sigOk, kdOk] at a1)
                          | cons _ _ => simp at hone
                      have g2 : (ds[at_]).cells = [ds[at_]] ∧ (ds[at_]).isAgg = false := by
                        revert b1; cases sf with
                        | nil => simp at hone
                        | cons k r => cases r with
                          | nil => intro b1; cases hz : ds[at_] <;> rw [hz] at b1 <;> first | exact ⟨rfl, rfl⟩ | (cases k <;> simp [sigOk, kdOk] at b1)
                          | cons _ _ => simp at hone
                      refine ⟨vs[at_], us[at_], cs[at_], ds[at_], part_run_one hfd hag (Array.getElem?_eq_getElem v1), part_run_one hfd hag (Array.getElem?_eq_getElem v2), hr at_ _ _ (List.getElem?_eq_getElem k1) (Array.getElem?_eq_getElem v1),
                        hr' at_ _ _ (List.getElem?_eq_getElem k2) (Array.getElem?_eq_getElem v2), ?_, ?_, g1.2, g2.2⟩
                      · rw [t1]; exact g1.1
                      · rw [t2]; exact g2.1
                  obtain ⟨x1, y1, p1, q1, r1, r2, r3, r4, r5, r6, r7, r8⟩ := hcase
                  have heq := equalIn_sig n d f.type sf hsub (by omega) x1 y1 p1 q1 fd hfd r3 r4 (by rw [r5]; exact a1) (by rw [r6]; exact b1) r7 r8
                  rw [hsplit cs, hsplit ds, cellsEq_append (by simp; omega), ← r5, ← r6]
                  simp only [Op.eqFields]
                  rw [if_pos c1]
                  simp only [Sem.run_bind, r1, r2, heq, Result.andThen_ok, Sem.run_ite, Sem.run_pure, ih']
                  cases cellsEq p1.cells q1.cells <;> simp
                · cases h1
        have := key fs.toList 0 s (Nat.zero_le _) (Nat.zero_le _) hs hp hq
        simpa using this
    | _ => simp at hs

end Go.Avm

/- Each operation of the model does what the abstract machine says: comparisons of structs and with nil, variables, fields, elements. -/
namespace Go.Avm
open Go Go.RowKit

variable {P : Program} {E : Env} {g : Gh} {h : AH} {w : World} {t : TM} {a : Act} {g0 : Gh} {o : Oper} {K : PV → AH → Prop}

theorem keyOk_agg {s : List Kd} {p : PV} (h : keyOk s true p = true) : ∃ cs, p = .agg cs ∧ sigOk s cs = true := by
  simp only [keyOk, Bool.and_eq_true, beq_iff_eq] at h
  cases p <;> simp [PV.isAgg] at h
  exact ⟨_, rfl, h⟩

theorem go_eqS (hI : Inv P E g h w) (hT : TRel P g t a.tmps) {op : BinOp} {neg : Bool} {T yt : TypeId} {x y : Operand} {x' y' : Od} {s : List Kd} {fs : Array Field} (ho : o.op = .binOp op T x y yt)
    (hop : (op = .eql ∧ neg = false) ∨ (op = .neq ∧ neg = true)) (hd : P.underlying T = some (.struct fs)) (hs : sigT P 50 T = some s) (hg : P.eqGuardType P.depth T = false)
    (hx : cOd P x = some x') (hy : cOd P y = some y') (hk : vcOp P g0 (.eqS s neg x' y') t h K) : Goes P E g o a w K := by
  have rx := cOd_rel hT hx
  have ry := cOd_rel hT hy
  simp only [vcOp] at hk
  obtain ⟨k1, k2, hk⟩ := hk
  obtain ⟨cs, ex, s1⟩ := keyOk_agg k1
  obtain ⟨ds, ey, s2⟩ := keyOk_agg k2
  rw [ex, ey] at hk; rw [ex] at rx; rw [ey] at ry
  have heq := equalIn_sig (P := P) (g := g) (w := w) 50 10000 T s hs (by omega) _ _ _ _ _ hd rx ry s1 s2 rfl rfl
  obtain ⟨vs, ex', _⟩ := rx.agg_inv
  obtain ⟨us, ey', _⟩ := ry.agg_inv
  rw [ex', ey'] at heq
  simp only [PV.cells] at hk heq
  rcases hop with ⟨rfl, rfl⟩ | ⟨rfl, rfl⟩
  · refine .pure hI (bin_run ho ex' ey' (run_eqGuard_agg w _ _ _ _ _ _ hg) (r := .bool (cellsEq cs ds)) (by rw [run_eql_struct, heq]; rfl)) (.bool _) (by simpa using hk)
  · refine .pure hI (bin_run ho ex' ey' (run_eqGuard_agg w _ _ _ _ _ _ hg) (r := .bool (!(cellsEq cs ds))) (by rw [run_neq_struct, heq]; rfl)) (.bool _) (by simpa using hk)

def nilLike : Value → Bool
  | .slice none _ _ => true
  | .pointer none => true
  | .map none => true
  | .nilFunc => true
  | _ => false

theorem eqGuard_nil (op : BinOp) (T : TypeId) (x y : Operand) {u v : Value} (hu : nilLike u = true) : (eqGuard op T x y u v).run P w = .ok () w := by
  cases u with
  | pointer z => cases op <;> rfl
  | slice z m n => cases op <;> rfl
  | map z => cases op <;> rfl
  | nilFunc => cases op <;> rfl
  | _ => simp [nilLike] at hu

theorem eqGuard_nil' (op : BinOp) (T : TypeId) (x y : Operand) {u v : Value} (hu : nilLike u = true) : (eqGuard op T x y v u).run P w = .ok () w := by
  cases u with
  | pointer z => cases op <;> cases v <;> rfl
  | slice z m n => cases op <;> cases v <;> rfl
  | map z => cases op <;> cases v <;> rfl
  | nilFunc => cases op <;> cases v <;> rfl
  | _ => simp [nilLike] at hu

def nilOf : RK → Value
  | .sl => .slice none 0 0
  | .ptr => .pointer none
  | .map => .map none
  | .fn => .nilFunc

theorem nilConst_val {k : RK} {x : Operand} (hn : nilConst k x = true) : a.eval x = (nilOf k) := by
  unfold nilConst at hn
  split at hn <;> first | rfl | simp at hn

theorem refK_desc {d : TypeDesc} {k : RK} (hk : refK d = some k) : (k = .sl ∧ ∃ e, d = .slice e) ∨ (k = .ptr ∧ ∃ e, d = .pointer e) ∨ (k = .map ∧ ∃ x e, d = .map x e) ∨ (k = .fn ∧ ∃ x y z, d = .func x y z) := by
  cases d <;> simp [refK] at hk <;> subst hk <;> simp

theorem equal_nil {T : TypeId} {d : TypeDesc} {k : RK} {pv : PV} {v : Value} {b : Bool} (hd : P.underlying T = some d) (hk : refK d = some k) (hv : VRel P g pv v) (hb : isNilV k pv = some b) :
    (Op.equal T v (nilOf k)).run P w = .ok b w ∧
    (Op.equal T (nilOf k) v).run P w = .ok b w := by
  have hu : ∀ x y : Value, (Op.equal T x y).run P w = (Op.equalIn (9999 + 1) T x y).run P w := fun _ _ => rfl
  rw [hu, hu]
  rcases refK_desc hk with ⟨rfl, e, rfl⟩ | ⟨rfl, e, rfl⟩ | ⟨rfl, x, e, rfl⟩ | ⟨rfl, x, y, z, rfl⟩
  · cases pv <;> simp only [isNilV, Option.some.injEq, reduceCtorEq] at hb
    · subst hb
      rcases hv.sl_inv with ⟨h1, h2, h3⟩ | ⟨h1, b, cap, h3, _⟩ <;> subst h1 <;> subst h3 <;> constructor <;> (rw [Op.equalIn]; simp only [Sem.run_bind, underlying_run hd, Result.andThen_ok, Sem.run_pure]; try rfl)
    · subst hb
      obtain ⟨b, cap, o', h3, _⟩ := hv.asl_inv
      subst h3; constructor <;> (rw [Op.equalIn]; simp only [Sem.run_bind, underlying_run hd, Result.andThen_ok, Sem.run_pure]; try rfl)
  · cases pv <;> simp only [isNilV, Option.some.injEq, reduceCtorEq] at hb
    · subst hb
      obtain ⟨b, h3, _⟩ := hv.ptr_inv
      subst h3; constructor <;> (rw [Op.equalIn]; simp only [Sem.run_bind, underlying_run hd, Result.andThen_ok, Sem.run_pure]; try rfl)
    · subst hb
      cases hv; constructor <;> (rw [Op.equalIn]; simp only [Sem.run_bind, underlying_run hd, Result.andThen_ok, Sem.run_pure]; try rfl)
  · cases pv <;> simp only [isNilV, Option.some.injEq, reduceCtorEq] at hb
    · subst hb
      obtain ⟨b, h3, _⟩ := hv.map_inv
      subst h3; constructor <;> (rw [Op.equalIn]; simp only [Sem.run_bind, underlying_run hd, Result.andThen_ok, Sem.run_pure]; try rfl)
    · subst hb
      cases hv; constructor <;> (rw [Op.equalIn]; simp only [Sem.run_bind, underlying_run hd, Result.andThen_ok, Sem.run_pure]; try rfl)
  · cases pv <;> simp only [isNilV, Option.some.injEq, reduceCtorEq] at hb
    · subst hb
      obtain ⟨b, c, h3, _⟩ := hv.fn_inv
      subst h3; constructor <;> (rw [Op.equalIn]; simp only [Sem.run_bind, underlying_run hd, Result.andThen_ok, Sem.run_pure]; try rfl)
    · subst hb
      obtain ⟨b, h3, _⟩ := hv.yld_inv
      subst h3; constructor <;> (rw [Op.equalIn]; simp only [Sem.run_bind, underlying_run hd, Result.andThen_ok, Sem.run_pure]; try rfl)
    · subst hb
      cases hv; constructor <;> (rw [Op.equalIn]; simp only [Sem.run_bind, underlying_run hd, Result.andThen_ok, Sem.run_pure]; try rfl)

theorem binOp_ref {op : BinOp} {T : TypeId} {u v : Value} (hu : nilLike u = true ∨ nilLike v = true) (hop : op = .eql ∨ op = .neq) {b : Bool} (h : (Op.equal T u v).run P w = .ok b w) :
    (binOp op T u v).run P w = .ok (.bool (b != decide (op = .neq))) w := by
  rcases hop with rfl | rfl
  · rcases hu with hu | hu
    · cases u <;> simp [nilLike] at hu <;> cases v <;> simp [binOp, h]
    · cases v <;> simp [nilLike] at hu <;> cases u <;> simp [binOp, h]
  · rcases hu with hu | hu
    · cases u <;> simp [nilLike] at hu <;> cases v <;> simp [binOp, h]
    · cases v <;> simp [nilLike] at hu <;> cases u <;> simp [binOp, h]

theorem nilLike_k (k : RK) : nilLike (nilOf k) = true := by cases k <;> rfl

theorem go_isNil (hI : Inv P E g h w) (hT : TRel P g t a.tmps) {op : BinOp} {neg : Bool} {T yt : TypeId} {x y : Operand} {x' y' v : Od} {d : TypeDesc} {k : RK} (ho : o.op = .binOp op T x y yt)
    (hop : (op = .eql ∧ neg = false) ∨ (op = .neq ∧ neg = true)) (hd : P.underlying T = some d) (hr : refK d = some k) (hx : cOd P x = some x') (hy : cOd P y = some y')
    (hv : (nilConst k y = true ∧ v = x') ∨ (nilConst k x = true ∧ v = y')) (hk : vcOp P g0 (.isNil k neg v) t h K) : Goes P E g o a w K := by
  simp only [vcOp] at hk
  cases hb : isNilV k (ev t v) with
  | none => rw [hb] at hk; exact hk.elim
  | some b =>
    rw [hb, bindO_some] at hk
    have hop' : op = .eql ∨ op = .neq := hop.imp And.left And.left
    have hneg : decide (op = .neq) = neg := by rcases hop with ⟨rfl, rfl⟩ | ⟨rfl, rfl⟩ <;> rfl
    rcases hv with ⟨hn, rfl⟩ | ⟨hn, rfl⟩
    · have rx := cOd_rel hT hx
      obtain ⟨h1, _⟩ := equal_nil (w := w) hd hr rx hb
      refine .pure hI (bin_run ho rfl (nilConst_val hn) (eqGuard_nil' _ _ _ _ (nilLike_k k)) (binOp_ref (.inr (nilLike_k k)) hop' h1)) (.bool _) ?_
      rw [hneg]; exact hk
    · have ry := cOd_rel hT hy
      obtain ⟨_, h1⟩ := equal_nil (w := w) hd hr ry hb
      refine .pure hI (bin_run ho (nilConst_val hn) rfl (eqGuard_nil _ _ _ _ (nilLike_k k)) (binOp_ref (.inl (nilLike_k k)) hop' h1)) (.bool _) ?_
      rw [hneg]; exact hk

end Go.Avm

/- Each operation of the model does what the abstract machine says: new variables, loads, stores, addresses. -/
namespace Go.Avm
open Go Go.RowKit

variable {P : Program} {E : Env} {g : Gh} {h : AH} {w : World} {t : TM} {a : Act} {g0 : Gh} {o : Oper} {K : PV → AH → Prop}

/-- A new row of cells that reads as the elements es. -/
theorem Inv.newRow (hI : Inv P E g h w) (T : TypeId) (c : Array Value) (sz : Nat) (es : List PV) (wr : Bool) (hs : ∀ x ∈ es, x.cells.length = sz) (hl : es.length * sz ≤ c.size)
    (hc : ∀ (i : Nat) (x : PV) (j : Nat) (p : PV), es[i]? = some x → x.cells[j]? = some p → ∃ v, c[i * sz + j]? = some v ∧ v.oneCell' = true ∧ VRel P g p v) :
    g.le (g.ext h.length w.heap.size c.size default) ∧ Inv P E (g.ext h.length w.heap.size c.size default) (h ++ [.arr sz es wr]) (w.alloc (.cells c T)) ∧
      (g.ext h.length w.heap.size c.size default).m h.length = some w.heap.size ∧ (g.ext h.length w.heap.size c.size default).bs w.heap.size = c.size := by
  have hle := hI.ext_le c.size default
  refine ⟨hle, hI.alloc _ _ _ _ ⟨c, T, (0, 0), rfl, by simp [Gh.ext], hs, hl, fun i x j p hx hp => ?_, fun _ => .inl rfl⟩, by simp [Gh.ext], by simp [Gh.ext]⟩
  · obtain ⟨v, h1, h2, h3⟩ := hc i x j p hx hp
    exact ⟨v, h1, h2, h3.mono hle⟩

/-- The cells of one value, as a row of one element. -/
theorem cells_row {p : PV} {v : Value} {sz : Nat} (hv : VRel P g p v) (hp : p.okc = true) (hs : p.cells.length = sz) :
    (∀ x ∈ [p], x.cells.length = sz) ∧ [p].length * sz ≤ v.cells.size ∧
    ∀ (i : Nat) (x : PV) (j : Nat) (q : PV), [p][i]? = some x → x.cells[j]? = some q → ∃ u, v.cells[i * sz + j]? = some u ∧ u.oneCell' = true ∧ VRel P g q u := by
  obtain ⟨h1, h2, h3⟩ := hv.cells hp
  refine ⟨by simpa using hs, by simp; omega, fun i x j q hx hq => ?_⟩
  cases i with
  | succ i => simp at hx
  | zero =>
    simp at hx; subst hx
    have hj : j < v.cells.size := by rw [← h1]; exact (List.getElem?_eq_some_iff.1 hq).1
    refine ⟨v.cells[j], by simp [hj], h3 _ (Array.getElem_mem hj), h2 j q _ hq (Array.getElem?_eq_getElem hj)⟩

theorem newVar_run (T : TypeId) (v : Value) : (newVar T v).run P w = .ok ⟨w.heap.size, 0, none⟩ (w.alloc (.cells v.cells T)) := rfl

theorem Goes.new {o : Oper} {K : PV → AH → Prop} (hI : Inv P E g h w) (T : TypeId) {p : PV} {v : Value} {sz : Nat} (hv : VRel P g p v) (hp : p.okc = true) (hs : p.cells.length = sz)
    (hr : (execOp a.eval o).run P w = .ok (.value (.pointer (some ⟨w.heap.size, 0, none⟩))) (w.alloc (.cells v.cells T))) (hk : K (.ptr h.length sz 0 0) (h ++ [.arr sz [p] true])) : Goes P E g o a w K := by
  obtain ⟨r1, r2, r3⟩ := cells_row hv hp hs
  obtain ⟨q1, q2, q3, q4⟩ := hI.newRow T v.cells sz [p] true r1 r2 r3
  refine ⟨_, _, _, _, _, _, hr, .inl rfl, hk, q1, q2, ?_⟩
  have := VRel.ptr (P := P) (sz := sz) (i := 0) (f := 0) q3
  simpa using this

theorem go_alloc (hI : Inv P E g h w) {T : TypeId} {i : TypeInfo} {z : Value} {p : PV} (ho : o.op = .alloc T) (hi : P.info? T = some i) (hz : i.zero = some z) (hp : ofValue z = some p)
    (hk : vcOp P g0 (.alloc i.size p) t h K) : Goes P E g o a w K := by
  simp only [vcOp] at hk
  refine Goes.new hI T (ofValue_rel hp) hk.2.1 hk.1 ?_ hk.2.2
  simp [execOp, ho, Instr.alloc, zeroValue_run hi hz, newVar_run]

theorem go_box (hI : Inv P E g h w) (hT : TRel P g t a.tmps) {T : TypeId} {i : TypeInfo} {x : Operand} {x' : Od} (ho : o.op = .box T x) (hx : cOd P x = some x')
    (hk : vcOp P g0 (.box i.size x') t h K) : Goes P E g o a w K := by
  simp only [vcOp] at hk
  refine Goes.new hI T (cOd_rel hT hx) hk.2.1 hk.1 ?_ hk.2.2
  simp [execOp, ho, Instr.box, newVar_run]

theorem isAggD_run {t : TypeId} {d : TypeDesc} (h : P.underlying t = some d) : (isAgg t).run P w = .ok (isAggD d) w := by
  rw [isAgg_run h]; cases d <;> rfl

/-- A part of an element that lies in memory: it is loaded. -/
theorem part_load {b o : Nat} {x v : PV} {f sz : Nat} {ag : Bool} {T : TypeId} {i : TypeInfo} {d : TypeDesc} (hi : P.info? T = some i) (hsz : i.size = sz) (hd : P.underlying T = some d) (hag : isAggD d = ag) (h1 : ag = true ∨ sz = 1)
    (hp : partV x f sz ag = some v) (hc : ∀ (j : Nat) (p : PV), x.cells[j]? = some p → ∃ u, w.cell? ⟨b, o + j, none⟩ = some u ∧ u.oneCell' = true ∧ VRel P g p u) :
    ∃ r, (loadVar T ⟨b, o + f, none⟩).run P w = .ok r w ∧ VRel P g v r := by
  have hagg := isAggD_run (w := w) hd
  rw [hag] at hagg
  cases ag with
  | true =>
    -- the cells of the part
    have key : ∀ n m : Nat, n + m ≤ x.cells.length → ∃ vs : List Value, vs.length = m ∧ (∀ k u, vs[k]? = some u → w.cell? ⟨b, o + n + k, none⟩ = some u) ∧
        ∀ (k : Nat) (p : PV) (u : Value), ((x.cells.drop n).take m)[k]? = some p → vs[k]? = some u → VRel P g p u := by
      intro n m
      induction m generalizing n with
      | zero => intro _; exact ⟨[], rfl, by simp, by simp⟩
      | succ m ih =>
        intro hle
        obtain ⟨vs, l1, l2, l3⟩ := ih (n + 1) (by omega)
        have hn : n < x.cells.length := by omega
        obtain ⟨u, u1, u2, u3⟩ := hc n x.cells[n] (List.getElem?_eq_getElem hn)
        refine ⟨u :: vs, by simp [l1], fun k v hk => ?_, fun k p v hp hk => ?_⟩
        · cases k with
          | zero => simp at hk; subst hk; exact u1
          | succ k => simp at hk; rw [show o + n + (k + 1) = o + (n + 1) + k by omega]; exact l2 k v hk
        · rw [List.drop_eq_getElem_cons hn, List.take_succ_cons] at hp
          cases k with
          | zero => simp at hp hk; subst hp; subst hk; exact u3
          | succ k => simp only [List.getElem?_cons_succ] at hp hk; exact l3 k p v hp hk
    have fin : ∀ cs : List PV, (∃ n m, n = f ∧ m = sz ∧ n + m ≤ x.cells.length ∧ cs = (x.cells.drop n).take m) → ∃ r, (loadVar T ⟨b, o + f, none⟩).run P w = .ok r w ∧ VRel P g (.agg cs) r := by
      rintro cs ⟨n, m, rfl, rfl, hle, rfl⟩
      obtain ⟨vs, l1, l2, l3⟩ := key n m hle
      refine ⟨.agg vs.toArray, ?_, .agg (by simp [l1]; omega) fun k p u hp hu => l3 k p u hp (by simpa using hu)⟩
      have hl := loadCells_run (P := P) (w := w) (a := ⟨b, o + n, none⟩) (vs := vs) fun k u hk => by rw [add_none]; exact l2 k u hk
      rw [l1, ← hsz] at hl
      simp [loadVar, hagg, sizeOf_run hi, hl]
    unfold partV at hp
    split at hp
    · rename_i hcond
      obtain ⟨rfl, e2, e3⟩ := hcond
      cases hp
      cases x <;> simp [PV.isAgg] at e3
      rename_i cs
      simp only [PV.cells] at e2
      exact fin cs ⟨0, sz, rfl, rfl, by simp [PV.cells, e2], by simp [PV.cells, e2]⟩
    · simp only [if_true] at hp
      split at hp
      · cases hp; exact fin _ ⟨f, sz, rfl, rfl, by assumption, rfl⟩
      · cases hp
  | false =>
    have hone : sz = 1 := by simpa using h1
    subst hone
    have fin : x.cells[f]? = some v → ∃ r, (loadVar T ⟨b, o + f, none⟩).run P w = .ok r w ∧ VRel P g v r := by
      intro hx
      obtain ⟨u, u1, u2, u3⟩ := hc f v hx
      exact ⟨u, by simp [loadVar, hagg, u1], u3⟩
    unfold partV at hp
    split at hp
    · rename_i hcond
      obtain ⟨rfl, e2, e3⟩ := hcond
      cases hp
      refine fin ?_
      cases x <;> first | rfl | simp [PV.isAgg] at e3
    · simp only [Bool.false_eq_true, if_false] at hp
      exact fin hp

theorem go_load (hI : Inv P E g h w) (hT : TRel P g t a.tmps) {T : TypeId} {i : TypeInfo} {d : TypeDesc} {x : Operand} {x' : Od} (ho : o.op = .load T x) (hi : P.info? T = some i) (hd : P.underlying T = some d)
    (hs : isAggD d = true ∨ i.size = 1) (hx : cOd P x = some x') (hk : vcOp P g0 (.load i.size (isAggD d) x') t h K) : Goes P E g o a w K := by
  have rx := cOd_rel hT hx
  simp only [vcOp] at hk
  cases hl : ldV h (ev t x') i.size (isAggD d) with
  | none => rw [hl] at hk; exact hk.elim
  | some v =>
    rw [hl, bindO_some] at hk
    have fin : ∀ (b p f : Nat) (e : PV), a.eval x = .pointer (some ⟨b, p + f, none⟩) → partV e f i.size (isAggD d) = some v →
        (∀ (j : Nat) (q : PV), e.cells[j]? = some q → ∃ u, w.cell? ⟨b, p + j, none⟩ = some u ∧ u.oneCell' = true ∧ VRel P g q u) → Goes P E g o a w K := by
      intro b p f e hev hpv hc
      obtain ⟨r, r1, r2⟩ := part_load hi rfl hd rfl hs hpv hc
      exact .pure hI (by simp [execOp, ho, Instr.loadAt, hev, Instr.sureAddr, r1]) r2 hk
    cases ex : ev t x' <;> rw [ex] at hl rx <;> simp only [ldV, reduceCtorEq] at hl
    · rename_i id psz k f
      cases hid : h[id]? with
      | none => simp [hid] at hl
      | some ob =>
        cases ob <;> simp [hid, Option.bind_eq_some_iff] at hl
        rename_i asz es wr
        obtain ⟨rfl, e, he, hpv⟩ := hl
        obtain ⟨b, hev, hm⟩ := rx.ptr_inv
        obtain ⟨c, T', fr, c1, c2, c3, c4, c5, c6⟩ := hI.obj id _ b hid hm
        refine fin b (k * psz) f e hev hpv fun j q hq => ?_
        obtain ⟨u, u1, u2, u3⟩ := c5 k e j q he hq
        exact ⟨u, by rw [cell_at c1]; exact u1, u2, u3⟩
    · rename_i e f
      obtain ⟨b, p, hev, hF⟩ := rx.rp_inv
      refine fin b p f e hev hl fun j q hq => hI.fz _ _ _ (hF j q hq)

theorem go_fad (hI : Inv P E g h w) (hT : TRel P g t a.tmps) {T : TypeId} {n : Nat} {fs : Array Field} {f : Field} {i : TypeInfo} {x : Operand} {x' : Od} (ho : o.op = .fieldAddr T x n)
    (hd : P.underlying T = some (.struct fs)) (hf : fs[n]? = some f) (hi : P.info? f.type = some i) (h1 : 1 ≤ i.size) (hx : cOd P x = some x') (hk : vcOp P g0 (.fad f.offset x') t h K) : Goes P E g o a w K := by
  have rx := cOd_rel hT hx
  simp only [vcOp] at hk
  have hrun : ∀ b p, a.eval x = .pointer (some ⟨b, p, none⟩) → (execOp a.eval o).run P w = .ok (.value (.pointer (some ⟨b, p + f.offset, none⟩))) w := by
    intro b p he
    have hz : ¬ i.size = 0 := by omega
    simp [execOp, ho, Instr.fieldAt, underlying_run hd, hf, he, Instr.sureAddr, fieldPlace, sizeOf_run hi, hz, add_none]
  cases ex : ev t x' <;> rw [ex] at hk rx <;> simp only at hk
  · obtain ⟨b, he, hm⟩ := rx.ptr_inv
    exact .pure hI (hrun _ _ he) (by rw [Nat.add_assoc]; exact .ptr hm) hk
  · obtain ⟨b, p, he, hF⟩ := rx.rp_inv
    exact .pure hI (hrun _ _ he) (by rw [Nat.add_assoc]; exact .rp hF) hk


theorem agg_cells (l : List PV) : (PV.agg l).cells = l := rfl

/-- A part of an element is written: the element's new cells. -/
theorem setPart_cells {x v x' : PV} {f sz : Nat} (hs : setPart x f sz v = some x') : v.cells.length = sz ∧ v.okc = true ∧ f + sz ≤ x.cells.length ∧ x'.cells.length = x.cells.length ∧
    ∀ (j : Nat) (p : PV), x'.cells[j]? = some p → (f ≤ j ∧ j < f + sz ∧ v.cells[j - f]? = some p) ∨ (¬ (f ≤ j ∧ j < f + sz) ∧ x.cells[j]? = some p) := by
  unfold setPart at hs
  split at hs
  · cases hs
  · rename_i h1
    have e1 : v.cells.length = sz := by
      by_cases e : v.cells.length = sz
      · exact e
      · exact absurd (.inl e) h1
    have e2 : v.okc = true := by
      cases hv : v.okc with
      | true => rfl
      | false => exact absurd (.inr hv) h1
    split at hs
    · rename_i h2
      cases hs
      obtain ⟨rfl, h3, _⟩ := h2
      refine ⟨e1, e2, by omega, by omega, fun j p hj => ?_⟩
      have := (List.getElem?_eq_some_iff.1 hj).1
      exact .inl ⟨Nat.zero_le _, by omega, by simpa using hj⟩
    · split at hs
      · rename_i h3
        cases hs
        have hle := h3.2
        refine ⟨e1, e2, hle, ?_⟩
        rw [agg_cells]
        clear h3
        generalize x.cells = xc at *
        generalize v.cells = vcs at *
        refine ⟨by simp; omega, fun j p hj => ?_⟩
        by_cases c1 : j < f
        · rw [List.getElem?_append_left (by simp; omega), List.getElem?_append_left (by simp; omega), List.getElem?_take_of_lt c1] at hj
          exact .inr ⟨by omega, hj⟩
        · by_cases c2 : j < f + sz
          · rw [List.getElem?_append_left (by simp; omega), List.getElem?_append_right (by simp; omega)] at hj
            rw [List.length_take, Nat.min_eq_left (by omega)] at hj
            exact .inl ⟨by omega, c2, hj⟩
          · rw [List.getElem?_append_right (by simp; omega), List.getElem?_drop] at hj
            simp only [List.length_append, List.length_take] at hj
            rw [show f + sz + (j - (min f xc.length + vcs.length)) = j by omega] at hj
            exact .inr ⟨by omega, hj⟩
      · cases hs

theorem storeVar_run {T : TypeId} {i : TypeInfo} {v : Value} (hi : P.info? T = some i) (hv : v.cells.size = i.size) {ad : Addr} {w' : World} (hs : (storeCells ad v.cells.toList).run P w = .ok () w') :
    (storeVar T ad v).run P w = .ok () w' := by
  simp [storeVar, sizeOf_run hi, hv, hs]

/-- Cells of one element of a row are written. -/
theorem Inv.store (hI : Inv P E g h w) {id b asz k f : Nat} {es : List PV} {x v x' : PV} {r : Value} {sz : Nat} (ho : h[id]? = some (.arr asz es true)) (hm : g.m id = some b) (hx : es[k]? = some x)
    (hs : setPart x f sz v = some x') (hr : VRel P g v r) : ∃ w', (storeCells ⟨b, k * asz + f, none⟩ r.cells.toList).run P w = .ok () w' ∧ r.cells.size = sz ∧ Inv P E g (h.set id (.arr asz (es.set k x') true)) w' := by
  obtain ⟨c, T, fr, c1, c2, c3, c4, c5, c6⟩ := hI.obj id _ b ho hm
  obtain ⟨s1, s2, s3, s4, s5⟩ := setPart_cells hs
  obtain ⟨r1, r2, r3⟩ := hr.cells s2
  have hk : k < es.length := (List.getElem?_eq_some_iff.1 hx).1
  have hxl : x.cells.length = asz := c3 x (List.mem_of_getElem? hx)
  have hb : k * asz + asz ≤ es.length * asz := by rw [← Nat.succ_mul]; exact Nat.mul_le_mul_right _ hk
  have hfit : k * asz + f + 0 + r.cells.toList.length ≤ c.size := by rw [Array.length_toList, ← r1, s1]; omega
  obtain ⟨w', w1, w2, w3⟩ := storeCells_run (P := P) b (k * asz + f) T fr r.cells.toList w c 0 c1 (fun u hu => r3 u (Array.mem_toList_iff.1 hu)) hfit (c6 rfl).not
  refine ⟨w', w1, by omega, hI.set ho rfl hm w2 ⟨_, T, fr, w3, by rw [putAt_size]; exact c2, ?_, by rw [List.length_set, putAt_size]; exact c4, ?_, fun _ => by rw [putAt_size]; exact c6 rfl⟩⟩
  · intro y hy
    rcases List.mem_or_eq_of_mem_set hy with hy | rfl
    · exact c3 y hy
    · rw [s4]; exact hxl
  · intro i y j p hy hp
    have hget : ∀ n : Nat, ¬ (k * asz + f ≤ n ∧ n < k * asz + f + sz) → (putAt c (k * asz + f + 0) r.cells.toList)[n]? = c[n]? := by
      intro n hn
      rw [putAt_get _ _ _ _ (by omega), if_neg]
      rw [Array.length_toList, ← r1, s1]; simpa using hn
    by_cases e : i = k
    · subst e
      rw [List.getElem?_set_self hk] at hy; cases hy
      rcases s5 j p hp with ⟨a1, a2, a3⟩ | ⟨a1, a2⟩
      · have hj : j - f < r.cells.size := by omega
        refine ⟨r.cells[j - f], ?_, r3 _ (Array.getElem_mem hj), r2 _ _ _ a3 (Array.getElem?_eq_getElem hj)⟩
        rw [putAt_get _ _ _ _ (by omega), if_pos (by rw [Array.length_toList]; omega), show i * asz + j - (i * asz + f + 0) = j - f by omega]
        simp [hj]
      · rw [hget _ (by omega)]
        exact c5 i x j p hx a2
    · rw [List.getElem?_set_ne (Ne.symm e)] at hy
      have hyl : y.cells.length = asz := c3 y (List.mem_of_getElem? hy)
      have hj : j < asz := by rw [← hyl]; exact (List.getElem?_eq_some_iff.1 hp).1
      rw [hget _ ?_]
      · exact c5 i y j p hy hp
      · rcases Nat.lt_or_gt_of_ne e with hlt | hlt
        · have : i * asz + asz ≤ k * asz := by rw [← Nat.succ_mul]; exact Nat.mul_le_mul_right _ hlt
          omega
        · have : k * asz + asz ≤ i * asz := by rw [← Nat.succ_mul]; exact Nat.mul_le_mul_right _ hlt
          omega

theorem go_store (hI : Inv P E g h w) (hT : TRel P g t a.tmps) {T : TypeId} {i : TypeInfo} {ag : Bool} {x y : Operand} {x' y' : Od} (ho : o.op = .store T x y) (hi : P.info? T = some i)
    (hx : cOd P x = some x') (hy : cOd P y = some y') (hk : vcOp P g0 (.store i.size ag x' y') t h K) : Goes P E g o a w K := by
  have rx := cOd_rel hT hx
  have ry := cOd_rel hT hy
  simp only [vcOp] at hk
  cases hl : stV h (ev t x') i.size (ev t y') with
  | none => rw [hl] at hk; exact hk.elim
  | some h' =>
    rw [hl, bindO_some] at hk
    cases ex : ev t x' <;> rw [ex] at hl rx <;> simp only [stV, reduceCtorEq] at hl
    rename_i id psz k f
    cases hid : h[id]? with
    | none => simp [hid] at hl
    | some ob =>
      cases ob with
      | arr asz es wr =>
        cases wr <;> simp [hid, Option.bind_eq_some_iff] at hl
        obtain ⟨rfl, e, he, x1, hx1, rfl⟩ := hl
        obtain ⟨b, hev, hm⟩ := rx.ptr_inv
        obtain ⟨w', s1, s2, s3⟩ := hI.store hid hm he hx1 ry
        refine ⟨_, _, w', _, _, g, ?_, .inr ⟨rfl, rfl⟩, hk, Gh.le.refl g, s3, .undef _⟩
        simp [execOp, ho, Instr.storeAt, hev, Instr.sureAddr, storeVar_run hi s2 s1]
      | _ => simp [hid] at hl

end Go.Avm

/- Each operation of the model does what the abstract machine says: structs and slices that are written out, fields of values, elements, parts of strings and slices. -/
namespace Go.Avm
open Go Go.RowKit

variable {P : Program} {E : Env} {g : Gh} {h : AH} {w : World} {t : TM} {a : Act} {g0 : Gh} {o : Oper} {K : PV → AH → Prop}

theorem mapM_run {α β : Type} (f : α → Sem β) (p : α → β) : ∀ (l : List α), (∀ x ∈ l, (f x).run P w = .ok (p x) w) → (l.mapM f).run P w = .ok (l.map p) w
  | [], _ => by simp
  | x :: l, h => by
    have h1 := h x (by simp)
    have h2 := mapM_run f p l fun y hy => h y (by simp [hy])
    simp [h1, h2]

theorem arrMapM_run {α β : Type} (f : α → Sem β) (p : α → β) (l : Array α) (h : ∀ x ∈ l.toList, (f x).run P w = .ok (p x) w) : (l.mapM f).run P w = .ok (l.map p) w := by
  rw [Array.mapM_eq_mapM_toList, Sem.run_map, mapM_run f p l.toList h]
  simp only [Result.andThen_ok]
  congr 1
  apply Array.ext'; simp

theorem foldl_put (vs : List Value) : ∀ (n off : Nat) (cs : Array Value), (vs.zipIdx n).foldl (fun cs (x : Value × Nat) => cs.setIfInBounds (off + x.2) x.1) cs = putAt cs (off + n) vs := by
  induction vs with
  | nil => intros; rfl
  | cons v vs ih => intro n off cs; simp only [List.zipIdx_cons, List.foldl_cons, ih]; rfl

theorem fill_one (vs : Array Value) (off : Nat) (cs : Array Value) : vs.zipIdx.foldl (fun cs (c, j) => cs.setIfInBounds (off + j) c) cs = putAt cs off vs.toList := by
  rw [← Array.foldl_toList]
  have := foldl_put vs.toList 0 off cs
  simpa using this

theorem VRel.splice {z : List PV} {cs : Array Value} {v : PV} {r : Value} {off : Nat} (hl : z.length = cs.size) (hz : ∀ (i : Nat) (p : PV) (u : Value), z[i]? = some p → cs[i]? = some u → VRel P g p u)
    (hv : VRel P g v r) (hok : v.okc = true) (hfit : off + v.cells.length ≤ z.length) :
    (z.take off ++ v.cells ++ z.drop (off + v.cells.length)).length = (putAt cs off r.cells.toList).size ∧
    ∀ (i : Nat) (p : PV) (u : Value), (z.take off ++ v.cells ++ z.drop (off + v.cells.length))[i]? = some p → (putAt cs off r.cells.toList)[i]? = some u → VRel P g p u := by
  obtain ⟨r1, r2, r3⟩ := hv.cells hok
  refine ⟨by rw [putAt_size]; simp; omega, fun i p u hp hu => ?_⟩
  rw [putAt_get _ _ _ _ (by rw [Array.length_toList]; omega), Array.length_toList] at hu
  generalize v.cells = vcs at *
  by_cases c1 : i < off
  · rw [List.getElem?_append_left (by simp; omega), List.getElem?_append_left (by simp; omega), List.getElem?_take_of_lt c1] at hp
    rw [if_neg (by omega)] at hu
    exact hz i p u hp hu
  · by_cases c2 : i < off + vcs.length
    · rw [List.getElem?_append_left (by simp; omega), List.getElem?_append_right (by simp; omega), List.length_take, Nat.min_eq_left (by omega)] at hp
      rw [if_pos (by omega)] at hu
      exact r2 _ p u hp (by simpa using hu)
    · rw [List.getElem?_append_right (by simp; omega), List.getElem?_drop] at hp
      simp only [List.length_append, List.length_take] at hp
      rw [show off + vcs.length + (i - (min off z.length + vcs.length)) = i by omega] at hp
      rw [if_neg (by omega)] at hu
      exact hz i p u hp hu

theorem build_rel (hT : TRel P g t a.tmps) (fs : Array Field) (sz : Field → Nat) : ∀ (l : List (Nat × Operand)) (ps : List (Nat × Nat × Od)) (z : List PV) (cs : Array Value) (zs : List PV), cParts P fs l = some ps →
    (∀ f i, P.info? f.type = some i → sz f = i.size) → buildV z (ps.map fun (off, size, x) => (off, size, ev t x)) = some zs → z.length = cs.size →
    (∀ (i : Nat) (p : PV) (u : Value), z[i]? = some p → cs[i]? = some u → VRel P g p u) →
    ∃ cs', Instr.fill ((fs.map fun f => (f.offset, sz f))[·]?) cs (l.map fun (i, x) => (i, a.eval x)) = some cs' ∧ VRel P g (.agg zs) (.agg cs')
  | [], ps, z, cs, zs, h1, h2, h3, h4, h5 => by
    cases h1; simp only [List.map_nil, buildV, Option.some.injEq] at h3; subst h3
    exact ⟨cs, rfl, .agg h4 h5⟩
  | (k, x) :: l, ps, z, cs, zs, h1, h2, h3, h4, h5 => by
    unfold cParts at h1
    cases hf : fs[k]? with
    | none => simp [hf] at h1
    | some f =>
      cases hx : cOd P x with
      | none => simp [hf, hx] at h1
      | some x' =>
        cases hq : cParts P fs l with
        | none => simp [hf, hx, hq] at h1
        | some qs =>
          cases hi : P.info? f.type with
          | none => simp [hf, hx, hq, hi] at h1
          | some i =>
            simp only [hf, hx, hq, hi, Option.some.injEq] at h1; subst h1
            simp only [List.map_cons, buildV] at h3
            split at h3
            · rename_i hc
              obtain ⟨c1, c2, c3⟩ := hc
              have rx := cOd_rel hT hx
              obtain ⟨r1, r2, r3⟩ := rx.cells c2
              rw [← c1] at h3
              obtain ⟨s1, s2⟩ := VRel.splice h4 h5 rx c2 (off := f.offset) (by omega)
              obtain ⟨cs', f1, f2⟩ := build_rel hT fs sz l qs _ _ zs hq h2 h3 s1 s2
              refine ⟨cs', ?_, f2⟩
              simp only [List.map_cons, Instr.fill]
              rw [Array.getElem?_map, hf]
              simp only [Option.map_some, h2 f i hi]
              rw [if_neg (by simp; omega), fill_one]
              exact f1
            · cases h3

theorem go_build (hI : Inv P E g h w) (hT : TRel P g t a.tmps) {T : TypeId} {parts : Array (Nat × Operand)} {i : TypeInfo} {z : Value} {p : PV} {fs : Array Field} {ps : List (Nat × Nat × Od)}
    (ho : o.op = .build T parts) (hi : P.info? T = some i) (hz : i.zero = some z) (hd : P.underlying T = some (.struct fs)) (hps : cParts P fs parts.toList = some ps)
    (hall : ∀ f ∈ fs.toList, (P.info? f.type).isSome = true) (hzs : z.cells.size = p.cells.length ∧ ∀ (i : Nat) (q : PV) (u : Value), p.cells[i]? = some q → z.cells[i]? = some u → VRel P g q u)
    (hk : vcOp P g0 (.build p.cells ps) t h K) : Goes P E g o a w K := by
  simp only [vcOp] at hk
  cases hb : buildV p.cells (ps.map fun (off, size, x) => (off, size, ev t x)) with
  | none => rw [hb] at hk; exact hk.elim
  | some zs =>
    rw [hb, bindO_some] at hk
    let sz : Field → Nat := fun f => ((P.info? f.type).map (·.size)).getD 0
    have hplaces : (fs.mapM fun f => (do pure (f.offset, ← sizeOf f.type) : Sem (Nat × Nat))).run P w = .ok (fs.map fun f => (f.offset, sz f)) w := by
      refine arrMapM_run _ (fun f => (f.offset, sz f)) fs fun f hf => ?_
      have := hall f hf
      cases hfi : P.info? f.type with
      | none => simp [hfi] at this
      | some fi => simp [sizeOf_run hfi, sz, hfi]
    obtain ⟨cs', f1, f2⟩ := build_rel hT fs sz parts.toList ps p.cells z.cells zs hps (fun f i hi => by simp [sz, hi]) hb hzs.1.symm hzs.2
    refine .pure hI (r := .agg cs') ?_ f2 hk
    have hmap : (parts.map fun (i, x) => (i, a.eval x)).toList = parts.toList.map fun (i, x) => (i, a.eval x) := by simp
    simp only [execOp, ho, Instr.build, Sem.run_bind, zeroValue_run hi hz, Result.andThen_ok, underlying_run hd, hplaces, hmap, f1, Sem.run_pure]

theorem fillV_len : ∀ {sz : Nat} {ag : Bool} {l : List (Nat × PV)} {es es' : List PV}, fillV sz ag es l = some es' → es'.length = es.length
  | _, _, [], _, _, h => by cases h; rfl
  | sz, ag, (i, v) :: l, es, es', h => by
    unfold fillV at h; split at h
    · rw [fillV_len h, List.length_set]
    · cases h

/-- A row of cells reads as elements. -/
def RowRel (P : Program) (g : Gh) (sz : Nat) (es : List PV) (c : Array Value) : Prop :=
  (∀ x ∈ es, x.cells.length = sz) ∧ es.length * sz ≤ c.size ∧
    ∀ (i : Nat) (x : PV) (j : Nat) (p : PV), es[i]? = some x → x.cells[j]? = some p → ∃ v, c[i * sz + j]? = some v ∧ v.oneCell' = true ∧ VRel P g p v

theorem RowRel.set {sz : Nat} {es : List PV} {c : Array Value} (h : RowRel P g sz es c) {k : Nat} {x : PV} {r : Value} (hk : k < es.length) (hx : x.cells.length = sz) (hok : x.okc = true) (hr : VRel P g x r) :
    RowRel P g sz (es.set k x) (putAt c (k * sz) r.cells.toList) := by
  obtain ⟨h1, h2, h3⟩ := h
  obtain ⟨r1, r2, r3⟩ := hr.cells hok
  have hb : k * sz + sz ≤ es.length * sz := by rw [← Nat.succ_mul]; exact Nat.mul_le_mul_right _ hk
  refine ⟨fun y hy => ?_, by rw [List.length_set, putAt_size]; exact h2, fun i y j p hy hp => ?_⟩
  · rcases List.mem_or_eq_of_mem_set hy with hy | rfl
    · exact h1 y hy
    · exact hx
  · rw [putAt_get _ _ _ _ (by rw [Array.length_toList]; omega), Array.length_toList]
    by_cases e : i = k
    · subst e
      rw [List.getElem?_set_self hk] at hy; cases hy
      have hj : j < r.cells.size := by rw [← r1]; exact (List.getElem?_eq_some_iff.1 hp).1
      rw [if_pos (by omega), show i * sz + j - i * sz = j by omega]
      exact ⟨r.cells[j], by simp [hj], r3 _ (Array.getElem_mem hj), r2 _ _ _ hp (Array.getElem?_eq_getElem hj)⟩
    · rw [List.getElem?_set_ne (Ne.symm e)] at hy
      have hyl : y.cells.length = sz := h1 y (List.mem_of_getElem? hy)
      have hj : j < sz := by rw [← hyl]; exact (List.getElem?_eq_some_iff.1 hp).1
      rw [if_neg ?_]
      · exact h3 i y j p hy hp
      · rcases Nat.lt_or_gt_of_ne e with hlt | hlt
        · have : i * sz + sz ≤ k * sz := by rw [← Nat.succ_mul]; exact Nat.mul_le_mul_right _ hlt
          omega
        · have : k * sz + sz ≤ i * sz := by rw [← Nat.succ_mul]; exact Nat.mul_le_mul_right _ hlt
          omega

theorem bslice_rel (hT : TRel P g t a.tmps) (sz : Nat) (ag : Bool) : ∀ (l : List (Nat × Operand)) (ps : List (Nat × Od)) (es es' : List PV) (c : Array Value), cElems P l = some ps →
    fillV sz ag es (ps.map fun (i, x) => (i, ev t x)) = some es' → RowRel P g sz es c →
    ∃ c', Instr.fill (fun i => some (i * sz, sz)) c (l.map fun (i, x) => (i, a.eval x)) = some c' ∧ RowRel P g sz es' c' ∧ c'.size = c.size
  | [], ps, es, es', c, h1, h2, h3 => by
    cases h1; simp only [List.map_nil, fillV, Option.some.injEq] at h2; subst h2
    exact ⟨c, rfl, h3, rfl⟩
  | (k, x) :: l, ps, es, es', c, h1, h2, h3 => by
    unfold cElems at h1
    cases hx : cOd P x with
    | none => simp [hx] at h1
    | some x' =>
      cases hq : cElems P l with
      | none => simp [hx, hq] at h1
      | some qs =>
        simp only [hx, hq, Option.some.injEq] at h1; subst h1
        simp only [List.map_cons, fillV] at h2
        split at h2
        · rename_i hc
          obtain ⟨c1, c2, c3, c4⟩ := hc
          have rx := cOd_rel hT hx
          obtain ⟨r1, r2, r3⟩ := rx.cells c2
          have hb : k * sz + sz ≤ es.length * sz := by rw [← Nat.succ_mul]; exact Nat.mul_le_mul_right _ c4
          obtain ⟨c', f1, f2, f3⟩ := bslice_rel hT sz ag l qs _ _ _ hq h2 (h3.set c4 c1 c2 rx)
          refine ⟨c', ?_, f2, by rw [f3, putAt_size]⟩
          have := h3.2.1
          simp only [List.map_cons, Instr.fill]
          rw [if_neg (by simp; omega), fill_one]
          exact f1
        · cases h2

theorem mod_lt_add {i sz j : Nat} (hj : j < sz) : (i * sz + j) % sz = j := by
  rw [Nat.add_comm, Nat.add_mul_mod_self_right, Nat.mod_eq_of_lt hj]

theorem zeros_row {z : PV} {v : Value} {sz : Nat} (hv : VRel P g z v) (hok : z.okc = true) (hs : z.cells.length = sz) (n : Nat) :
    RowRel P g sz (List.replicate n z) ((Array.range (n * sz)).map (v.cells[· % v.cells.size]!)) := by
  obtain ⟨r1, r2, r3⟩ := hv.cells hok
  refine ⟨fun x hx => by rw [(List.mem_replicate.1 hx).2]; exact hs, by simp, fun i x j p hx hp => ?_⟩
  have hi : i < n := by have := (List.getElem?_eq_some_iff.1 hx).1; simpa using this
  have hxz : x = z := by have := List.mem_of_getElem? hx; exact (List.mem_replicate.1 this).2
  subst hxz
  have hj : j < sz := by rw [← hs]; exact (List.getElem?_eq_some_iff.1 hp).1
  have hb : i * sz + sz ≤ n * sz := by rw [← Nat.succ_mul]; exact Nat.mul_le_mul_right _ hi
  have hjv : j < v.cells.size := by omega
  refine ⟨v.cells[j], ?_, r3 _ (Array.getElem_mem hjv), r2 _ _ _ hp (Array.getElem?_eq_getElem hjv)⟩
  rw [Array.getElem?_map, Array.getElem?_range, if_pos (by omega)]
  simp only [Option.map_some, show v.cells.size = sz by omega, mod_lt_add hj]
  simp [hjv]

theorem Inv.newRow' (hI : Inv P E g h w) (T : TypeId) {c : Array Value} {sz : Nat} {es : List PV} (wr : Bool) (hr : RowRel P g sz es c) :
    g.le (g.ext h.length w.heap.size c.size default) ∧ Inv P E (g.ext h.length w.heap.size c.size default) (h ++ [.arr sz es wr]) (w.alloc (.cells c T)) ∧
      (g.ext h.length w.heap.size c.size default).m h.length = some w.heap.size ∧ (g.ext h.length w.heap.size c.size default).bs w.heap.size = c.size :=
  hI.newRow T c sz es wr hr.1 hr.2.1 hr.2.2

/-- A new row that is never written: a list. -/
theorem Inv.newList (hI : Inv P E g h w) (T : TypeId) (fr : Nat × Nat) {c : Array Value} {sz : Nat} {es : List PV} (hr : RowRel P g sz es c) :
    ∃ g', g.le g' ∧ Inv P E g' h (w.alloc (.cells c T fr)) ∧ ∀ (i : Nat) (x : PV) (j : Nat) (p : PV), es[i]? = some x → x.cells[j]? = some p → g'.F w.heap.size (i * sz + j) p := by
  let Fn : Nat → Nat → PV → Prop := fun b o p => b = w.heap.size ∧ ∃ (i : Nat) (x : PV) (j : Nat), es[i]? = some x ∧ x.cells[j]? = some p ∧ o = i * sz + j
  have hle := g.addF_le Fn
  have hold : ∀ k, k < w.heap.size → (w.alloc (.cells c T fr)).heap[k]? = w.heap[k]? := fun k hk => Below.heap_alloc w _ k hk
  have hnew : (w.alloc (.cells c T fr)).heap[w.heap.size]? = some (.cells c T fr) := by show (w.heap.push _)[w.heap.size]? = _; simp
  refine ⟨g.addF Fn, hle, ?_, fun i x j p hx hp => .inr ⟨rfl, i, x, j, hx, hp, rfl⟩⟩
  refine { n0 := hI.n0, below := hI.below.alloc hI.size _, dom := ?_, tot := hI.tot, obj := ?_, excl := hI.excl, fz := ?_, fx := ?_, defd := ?_, nodup := hI.nodup }
  · intro i b hb
    have := hI.dom i b hb
    rw [show (w.alloc (.cells c T fr)).heap.size = w.heap.size + 1 by simp]
    omega
  · intro i x b hx hb
    have hb' : g.m i = some b := hb
    rw [hold b (hI.dom i b hb').2.1]
    exact (hI.obj i x b hx hb').mono hle hb'
  · intro b o p hF
    rcases hF with hF | ⟨e, i, x, j, hx, hp, e2⟩
    · obtain ⟨v, hv, h1, hr⟩ := hI.fz b o p hF
      refine ⟨v, ?_, h1, hr.mono hle⟩
      rw [cell_of_block (hold b (hI.cell_lt hv))]; exact hv
    · subst e; subst e2
      obtain ⟨v, hv, h1, h2⟩ := hr.2.2 i x j p hx hp
      exact ⟨v, by rw [cell_at hnew]; exact hv, h1, h2.mono hle⟩
  · intro i x b o p hx hlx hb hF
    rcases hF with hF | ⟨e, _⟩
    · exact hI.fx i x b o p hx hlx hb hF
    · have := hI.dom i b hb; omega
  · intro b hb
    obtain ⟨h1, h2⟩ := hI.defd b hb
    exact ⟨by rw [hold b (Array.getElem?_eq_some_iff.1 h1).1]; exact h1, h2⟩

theorem go_bslice (hI : Inv P E g h w) (hT : TRel P g t a.tmps) {T e : TypeId} {n : Nat} {parts : Array (Nat × Operand)} {i : TypeInfo} {z : Value} {p : PV} {ps : List (Nat × Od)} {arr : Bool}
    (ho : o.op = .buildSlice T n parts) (hd : P.underlying T = some (.slice e)) (hi : P.info? e = some i) (hz : i.zero = some z) (hp : ofValue z = some p) (hps : cElems P parts.toList = some ps)
    (h1 : 1 ≤ i.size) (h2 : n * i.size ≤ 2 ^ 24) (hk : vcOp P g0 (.bslice i.size p n ps arr) t h K) : Goes P E g o a w K := by
  simp only [vcOp] at hk
  obtain ⟨k1, k2, hk⟩ := hk
  cases hb : fillV i.size p.isAgg (List.replicate n p) (ps.map fun (i, x) => (i, ev t x)) with
  | none => rw [hb] at hk; exact hk.elim
  | some es =>
    rw [hb, bindO_some] at hk
    have hzr := ofValue_rel (P := P) (g := g) hp
    obtain ⟨c', f1, f2, f3⟩ := bslice_rel hT i.size p.isAgg parts.toList ps _ es _ hps hb (zeros_row hzr k2 k1 n)
    have hlen : es.length = n := by rw [fillV_len hb]; simp
    have hcs : c'.size = n * i.size := by rw [f3]; simp
    have hmap : (parts.map fun (i, x) => (i, a.eval x)).toList = parts.toList.map fun (i, x) => (i, a.eval x) := by simp
    have hrun : (execOp a.eval o).run P w = .ok (.value (.slice (some ⟨w.heap.size, 0, none⟩) n n)) (w.alloc (.cells c' e)) := by
      have hbig : ¬ (n * i.size > 2 ^ 24) := by omega
      by_cases hn : n * i.size = 0
      · have hn0 : n = 0 := by
          rcases Nat.mul_eq_zero.1 hn with h | h
          · exact h
          · omega
        subst hn0
        have e0 : ∀ f : Nat → Value, (Array.range (0 * i.size)).map f = #[] := by intro f; apply Array.eq_empty_of_size_eq_zero; simp
        rw [e0] at f1
        simp only [execOp, ho, Instr.buildSlice, Sem.run_bind, underlying_run hd, Result.andThen_ok, sizeOf_run hi, if_neg hbig, if_pos hn, Sem.run_pure, e0, hmap, f1]
        rfl
      · simp only [execOp, ho, Instr.buildSlice, Sem.run_bind, underlying_run hd, Result.andThen_ok, sizeOf_run hi, if_neg hbig, if_neg hn, Sem.run_pure, zeroValue_run hi hz, hmap, f1]
        rfl
    cases arr with
    | true =>
      simp only at hk
      obtain ⟨q1, q2, q3, q4⟩ := hI.newRow' e true f2
      refine ⟨_, _, _, _, _, _, hrun, .inl rfl, hk, q1, q2, ?_⟩
      have := VRel.asl (P := P) (sz := i.size) (off := 0) (len := n) (cap := n) q3 (Nat.le_refl _) (by rw [q4, hcs]; simp) (.inr rfl)
      simpa using this
    | false =>
      simp only at hk
      obtain ⟨g', q1, q2, q3⟩ := hI.newList e (0, 0) f2
      refine ⟨_, _, _, _, _, _, hrun, .inl rfl, hk, q1, q2, ?_⟩
      have := VRel.sl (P := P) (g := g') (sz := i.size) (xs := es) (full := true) (a := ⟨w.heap.size, 0, none⟩) (cap := n) (by omega) (fun _ => hlen.symm) f2.1 (fun _ => rfl) (fun k x j p hx hp => by simpa using q3 k x j p hx hp)
      rw [hlen] at this; exact this

end Go.Avm

/- Each operation of the model does what the abstract machine says: fields of values, elements, parts of strings and slices, lengths, bytes and strings. -/
namespace Go.Avm
open Go Go.RowKit

variable {P : Program} {E : Env} {g : Gh} {h : AH} {w : World} {t : TM} {a : Act} {g0 : Gh} {o : Oper} {K : PV → AH → Prop}

theorem partV_rel {cs : List PV} {vs : Array Value} {f sz : Nat} {ag : Bool} {v : PV} {T : TypeId} {i : TypeInfo} {d : TypeDesc} (hi : P.info? T = some i) (hsz : i.size = sz) (hd : P.underlying T = some d)
    (hag : isAggD d = ag) (h1 : ag = true ∨ sz = 1) (hp : partV (.agg cs) f sz ag = some v) (hv : VRel P g (.agg cs) (.agg vs)) : ∃ r, (part T vs f).run P w = .ok r w ∧ VRel P g v r := by
  obtain ⟨vs', he, hl, hr⟩ := hv.agg_inv
  cases he
  cases ag with
  | true =>
    have fin : ∀ cs', (∃ n, n = f ∧ n + sz ≤ cs.length ∧ cs' = (cs.drop n).take sz) → ∃ r, (part T vs f).run P w = .ok r w ∧ VRel P g (.agg cs') r := by
      rintro cs' ⟨n, rfl, hle, rfl⟩
      refine ⟨_, part_run_agg hd hag hi, ?_⟩
      rw [hsz]
      exact VRel.sub hl hr n sz hle
    unfold partV at hp
    split at hp
    · rename_i hc
      obtain ⟨rfl, e2, _⟩ := hc
      simp only [PV.cells] at e2
      cases hp
      exact fin cs ⟨0, rfl, by omega, by simp [e2]⟩
    · simp only [if_true] at hp
      split at hp
      · rename_i hle
        cases hp; exact fin _ ⟨f, rfl, hle, rfl⟩
      · cases hp
  | false =>
    have hone : sz = 1 := by simpa using h1
    unfold partV at hp
    rw [if_neg (by simp [PV.isAgg])] at hp
    simp only [Bool.false_eq_true, if_false, PV.cells] at hp
    have hf : f < vs.size := by rw [← hl]; exact (List.getElem?_eq_some_iff.1 hp).1
    exact ⟨vs[f], part_run_one hd hag (Array.getElem?_eq_getElem hf), hr f v _ hp (Array.getElem?_eq_getElem hf)⟩

theorem go_fld (hI : Inv P E g h w) (hT : TRel P g t a.tmps) {T : TypeId} {n : Nat} {fs : Array Field} {f : Field} {i : TypeInfo} {d : TypeDesc} {x : Operand} {x' : Od} (ho : o.op = .field T x n)
    (hd : P.underlying T = some (.struct fs)) (hf : fs[n]? = some f) (hi : P.info? f.type = some i) (hfd : P.underlying f.type = some d) (h1 : isAggD d = true ∨ i.size = 1) (hx : cOd P x = some x')
    (hk : vcOp P g0 (.fld f.offset i.size (isAggD d) x') t h K) : Goes P E g o a w K := by
  have rx := cOd_rel hT hx
  simp only [vcOp] at hk
  cases ex : ev t x' <;> rw [ex] at hk rx <;> simp only at hk
  rename_i cs
  obtain ⟨vs, he, _⟩ := rx.agg_inv
  rw [he] at rx
  cases hp : partV (.agg cs) f.offset i.size (isAggD d) with
  | none => rw [hp] at hk; exact hk.elim
  | some v =>
    rw [hp, bindO_some] at hk
    obtain ⟨r, r1, r2⟩ := partV_rel (w := w) hi rfl hfd rfl h1 hp rx
    exact .pure hI (by simp [execOp, ho, Instr.field, underlying_run hd, hf, he, asAgg, r1]) r2 hk

theorem add_spot {a : Addr} (ha : a.spot = none) (n : Nat) : a.add n = ⟨a.block, a.off + n, none⟩ := by
  obtain ⟨b, o, s⟩ := a
  simp only at ha; subst ha
  exact add_none b o n

theorem go_iad (hI : Inv P E g h w) (hT : TRel P g t a.tmps) {T e : TypeId} {i : TypeInfo} {x y : Operand} {x' y' : Od} (ho : o.op = .indexAddr T x y) (hd : P.underlying T = some (.slice e)) (hi : P.info? e = some i)
    (hx : cOd P x = some x') (hy : cOd P y = some y') (hk : vcOp P g0 (.iad i.size x' y') t h K) : Goes P E g o a w K := by
  have rx := cOd_rel hT hx
  have ry := cOd_rel hT hy
  simp only [vcOp] at hk
  cases ex : ev t x' <;> rw [ex] at hk rx <;> cases ey : ev t y' <;> rw [ey] at hk ry <;> simp only at hk
  · rename_i sz xs full nl k n
    obtain ⟨hsz, h0, hk⟩ := hk
    cases hg : xs[n.toNat]? with
    | none => rw [hg] at hk; exact hk.elim
    | some el =>
      rw [hg, bindO_some] at hk
      have hlt : n.toNat < xs.length := (List.getElem?_eq_some_iff.1 hg).1
      rcases rx.sl_inv with ⟨_, rfl, _⟩ | ⟨_, ad, cap, he, _, _, hs, hsp, hF⟩
      · simp at hg
      have hsz' : sz = i.size := by rcases hsz with h | h <;> omega
      have hne : xs ≠ [] := by intro e; simp [e] at hlt
      have hb : 0 ≤ n ∧ n < (xs.length : Int) := by omega
      refine .pure hI (r := .pointer (some ⟨ad.block, ad.off + n.toNat * sz + 0, none⟩)) ?_ (.rp fun j p hj => hF _ _ _ _ hg hj) hk
      simp [execOp, ho, Instr.indexAt, ry.int_inv, asIntOf, underlying_run hd, he, sizeOf_run hi, hb, add_spot (hsp hne), hsz']
  · rename_i id sz off len k n
    obtain ⟨hsz, h0, hn, hk⟩ := hk
    obtain ⟨b, cap, o', he, hm, hc, hb, ho'⟩ := rx.asl_inv
    have hoo : o' = off * sz := by rcases ho' with h | h <;> omega
    subst hoo
    have hb' : 0 ≤ n ∧ n < (len : Int) := ⟨h0, hn⟩
    refine .pure hI (r := .pointer (some ⟨b, (off + n.toNat) * sz + 0, none⟩)) ?_ (.ptr hm) hk
    simp [execOp, ho, Instr.indexAt, ry.int_inv, asIntOf, underlying_run hd, he, sizeOf_run hi, hb', add_none, hsz, Nat.add_mul]

theorem go_idxS (hI : Inv P E g h w) (hT : TRel P g t a.tmps) {T : TypeId} {x y : Operand} {x' y' : Od} (ho : o.op = .index T x y) (hd : P.underlying T = some .string)
    (hx : cOd P x = some x') (hy : cOd P y = some y') (hk : vcOp P g0 (.idxS x' y') t h K) : Goes P E g o a w K := by
  have rx := cOd_rel hT hx
  have ry := cOd_rel hT hy
  simp only [vcOp] at hk
  cases ex : ev t x' <;> rw [ex] at hk rx <;> cases ey : ev t y' <;> rw [ey] at hk ry <;> simp only at hk
  rename_i s k n
  obtain ⟨h0, hk⟩ := hk
  cases hg : s[n.toNat]? with
  | none => rw [hg] at hk; exact hk.elim
  | some b =>
    rw [hg, bindO_some] at hk
    have hlt : n.toNat < s.length := (List.getElem?_eq_some_iff.1 hg).1
    have hge : (⟨⟨s⟩⟩ : ByteArray)[n.toNat]? = some b := by
      show (if h : n.toNat < (⟨⟨s⟩⟩ : ByteArray).size then some ((⟨⟨s⟩⟩ : ByteArray)[n.toNat]) else none) = some b
      rw [dif_pos (show n.toNat < (⟨⟨s⟩⟩ : ByteArray).size from hlt)]
      have := (List.getElem?_eq_some_iff.1 hg).2
      rw [← this]; rfl
    exact .pure hI (r := .int .u8 b.toNat) (by simp [execOp, ho, Instr.index, ry.int_inv, asIntOf, underlying_run hd, rx.str_inv, h0, hge]) (.int _ _) hk

theorem builtin_run {b : Builtin} {c : Call} (ho : o.op = .call c) (hc : c.callee = .builtin b) : execOp a.eval o = builtin b c.argTypes o.type (c.args.map fun | .const _ => true | _ => false) (c.args.map a.eval) := by
  simp only [execOp, ho, resolve, hc]
  rfl

theorem args_map {c : Call} {l : List Operand} (h : c.args.toList = l) : c.args.map a.eval = (l.map a.eval).toArray := by
  rw [← h]; apply Array.ext'; simp

theorem types_arr {c : Call} {l : List TypeId} (h : c.argTypes.toList = l) : c.argTypes = l.toArray := by
  rw [← h]

def lkOf : TypeDesc → Option LK
  | .string => some .str
  | .slice _ => some .sl
  | .map _ _ => some .map
  | _ => none

theorem go_len (hI : Inv P E g h w) (hT : TRel P g t a.tmps) {T : TypeId} {c : Call} {x : Operand} {x' : Od} {d : TypeDesc} {k : LK} (ho : o.op = .call c) (hc : c.callee = .builtin .len) (ha : c.args.toList = [x]) (hat : c.argTypes.toList = [T])
    (hd : P.underlying T = some d) (hl : lkOf d = some k) (hx : cOd P x = some x') (hk : vcOp P g0 (.len k x') t h K) : Goes P E g o a w K := by
  have rx := cOd_rel hT hx
  have hrun : ∀ n : Int, (Builtin.len_ #[T] o.type #[a.eval x]).run P w = .ok (goInt n) w → (execOp a.eval o).run P w = .ok (.value (.int .i64 n)) w := by
    intro n hn
    rw [builtin_run ho hc, args_map ha, types_arr hat]
    simp only [builtin, List.map_cons, List.map_nil, Sem.run_bind]
    rw [show ([a.eval x].toArray : Array Value) = #[a.eval x] from rfl, show ([T].toArray : Array TypeId) = #[T] from rfl, hn]
    rfl
  simp only [vcOp] at hk
  cases d <;> simp [lkOf] at hl <;> subst hl
  · cases ex : ev t x' <;> rw [ex] at hk rx <;> simp only at hk
    exact .pure hI (hrun _ (by simp [Builtin.len_, underlying_run hd, rx.str_inv]; rfl)) (.int _ _) hk
  · cases ex : ev t x' <;> rw [ex] at hk rx <;> simp only at hk
    · rcases rx.sl_inv with ⟨_, rfl, he⟩ | ⟨_, ad, cap, he, _⟩
      · exact .pure hI (hrun _ (by simp [Builtin.len_, underlying_run hd, he])) (.int _ _) hk
      · exact .pure hI (hrun _ (by simp [Builtin.len_, underlying_run hd, he])) (.int _ _) hk
    · obtain ⟨b, cap, o', he, _⟩ := rx.asl_inv
      exact .pure hI (hrun _ (by simp [Builtin.len_, underlying_run hd, he])) (.int _ _) hk
  · cases ex : ev t x' <;> rw [ex] at hk rx <;> simp only at hk
    · rename_i id
      obtain ⟨b, he, hm⟩ := rx.map_inv
      cases hid : h[id]? with
      | none => simp [hid] at hk
      | some ob =>
        cases ob <;> simp only [hid] at hk
        rename_i es
        obtain ⟨ents, clock, c1, c2, _⟩ := hI.obj id _ b hid hm
        refine .pure hI (hrun _ ?_) (.int _ _) hk
        simp [Builtin.len_, underlying_run hd, he, getObj, Sem.run, c1, c2]
    · exact .pure hI (hrun _ (by simp [Builtin.len_, underlying_run hd, rx.nilmap_inv])) (.int _ _) hk

theorem intOr_rel (hT : TRel P g t a.tmps) {x : Option Operand} {x' : Option Od} {d : Nat} {n : Int} (hx : cOdO P x = some x') (hn : intOr t x' d = some n) :
    (x.map a.eval = none ∧ x' = none ∧ n = d) ∨ ∃ k, x.map a.eval = some (.int k n) := by
  cases x with
  | none => cases hx; left; simp [intOr] at hn; exact ⟨rfl, rfl, hn.symm⟩
  | some x =>
    simp only [cOdO, Option.map_eq_some_iff] at hx
    obtain ⟨y, hy, rfl⟩ := hx
    have rx := cOd_rel hT hy
    right
    simp only [intOr] at hn
    cases ey : ev t y <;> rw [ey] at hn rx <;> simp at hn
    subst hn
    exact ⟨_, by rw [Option.map_some, rx.int_inv]⟩

theorem bound_run {k : IntKind} {n : Int} {y : Nat} {code : BoundsCode} (hn : 0 ≤ n ∧ n ≤ (y : Int)) : (Instr.sliceBound (.int k n) y code).run P w = .ok n.toNat w := by
  simp [Instr.sliceBound, asIntOf, hn]

theorem bounds_run (s : Bool) (len cap : Nat) (low high mx : Option Value) (l hh m : Int) (h1 : (low = none ∧ l = 0) ∨ ∃ k, low = some (.int k l)) (h2 : (high = none ∧ mx = none ∧ hh = len) ∨ ∃ k, high = some (.int k hh))
    (h3 : (mx = none ∧ m = cap) ∨ ∃ k, mx = some (.int k m)) (b1 : 0 ≤ l) (b2 : l ≤ hh) (b3 : hh ≤ m) (b4 : m ≤ cap) :
    (Instr.sliceBounds s len cap low high mx).run P w = .ok (l.toNat, hh.toNat, m.toNat) w := by
  have hm : m.toNat ≤ cap := by omega
  rcases h3 with ⟨rfl, rfl⟩ | ⟨k3, rfl⟩
  · rcases h2 with ⟨rfl, _, rfl⟩ | ⟨k2, rfl⟩
    · rcases h1 with ⟨rfl, rfl⟩ | ⟨k1, rfl⟩
      · simp [Instr.sliceBounds]
      · simp [Instr.sliceBounds, bound_run (⟨b1, b2⟩ : 0 ≤ l ∧ l ≤ (len : Int))]
    · have e2 : ∀ c, (Instr.sliceBound (.int k2 hh) cap c).run P w = .ok hh.toNat w := fun c => bound_run ⟨by omega, b3⟩
      rcases h1 with ⟨rfl, rfl⟩ | ⟨k1, rfl⟩
      · simp [Instr.sliceBounds, e2]
      · have e1 : ∀ c, (Instr.sliceBound (.int k1 l) hh.toNat c).run P w = .ok l.toNat w := fun c => bound_run ⟨b1, by omega⟩
        simp [Instr.sliceBounds, e2, e1]
  · have e3 : ∀ c, (Instr.sliceBound (.int k3 m) cap c).run P w = .ok m.toNat w := fun c => bound_run ⟨by omega, b4⟩
    rcases h2 with ⟨_, h2, _⟩ | ⟨k2, rfl⟩
    · cases h2
    · have e2 : ∀ c, (Instr.sliceBound (.int k2 hh) m.toNat c).run P w = .ok hh.toNat w := fun c => bound_run ⟨by omega, by omega⟩
      rcases h1 with ⟨rfl, rfl⟩ | ⟨k1, rfl⟩
      · simp [Instr.sliceBounds, e2, e3]
      · have e1 : ∀ c, (Instr.sliceBound (.int k1 l) hh.toNat c).run P w = .ok l.toNat w := fun c => bound_run ⟨b1, by omega⟩
        simp [Instr.sliceBounds, e2, e3, e1]

theorem extract_mk (s : List UInt8) (l m : Nat) : (⟨⟨s⟩⟩ : ByteArray).extract l m = ⟨⟨(s.take m).drop l⟩⟩ := by
  apply ByteArray.ext
  rw [ByteArray.data_extract]
  apply Array.ext'
  simp [List.extract_eq_take_drop, List.drop_take]

theorem go_slS (hI : Inv P E g h w) (hT : TRel P g t a.tmps) {T : TypeId} {x : Operand} {lo hi : Option Operand} {x' : Od} {lo' hi' : Option Od} (ho : o.op = .slice T x lo hi none) (hd : P.underlying T = some .string)
    (hx : cOd P x = some x') (hlo : cOdO P lo = some lo') (hhi : cOdO P hi = some hi') (hk : vcOp P g0 (.slS x' lo' hi') t h K) : Goes P E g o a w K := by
  have rx := cOd_rel hT hx
  simp only [vcOp] at hk
  cases ex : ev t x' <;> rw [ex] at hk rx <;> simp only at hk
  rename_i s
  cases el : intOr t lo' 0 with
  | none => rw [el] at hk; exact hk.elim
  | some l =>
    cases eh : intOr t hi' s.length with
    | none => rw [el, eh] at hk; exact hk.elim
    | some m =>
      rw [el, eh, bindO_some, bindO_some] at hk
      obtain ⟨b1, b2, b3, hk⟩ := hk
      have hb := bounds_run (P := P) (w := w) false s.length s.length (lo.map a.eval) (hi.map a.eval) none l m s.length ((intOr_rel hT hlo el).imp (fun h => ⟨h.1, by simpa using h.2.2⟩) id)
        ((intOr_rel hT hhi eh).imp (fun h => ⟨h.1, rfl, h.2.2⟩) id) (.inl ⟨rfl, rfl⟩) b1 b2 b3 (Int.le_refl _)
      refine .pure hI (r := .string ⟨⟨(s.take m.toNat).drop l.toNat⟩⟩) ?_ (.str _) hk
      simp only [execOp, ho, Option.map_none, Instr.sliceAt, Sem.run_bind, underlying_run hd, Result.andThen_ok, Instr.slice, rx.str_inv]
      simp only [Option.isSome_none, Bool.false_eq_true, if_false, Sem.run_bind, show (⟨⟨s⟩⟩ : ByteArray).size = s.length from rfl, hb, Result.andThen_ok, Sem.run_pure, extract_mk]

end Go.Avm

/- Each operation of the model does what the abstract machine says: slices of slices, bytes and strings, append, copy, make. -/
namespace Go.Avm
open Go Go.RowKit

variable {P : Program} {E : Env} {g : Gh} {h : AH} {w : World} {t : TM} {a : Act} {g0 : Gh} {o : Oper} {K : PV → AH → Prop}

theorem getElem?_sub (xs : List PV) (l m i : Nat) : ((xs.take m).drop l)[i]? = if l + i < m then xs[l + i]? else none := by
  rw [List.getElem?_drop, List.getElem?_take]

/-- A part of a list is a list. -/
theorem VRel.sl_part {sz : Nat} {xs : List PV} {full nl : Bool} {ad : Option Addr} {len cap l hh m : Nat} {full' : Bool} (hv : VRel P g (.sl sz xs full nl) (.slice ad len cap)) (b2 : l ≤ hh) (b3 : hh ≤ xs.length) (b4 : hh ≤ m) (b5 : m ≤ cap)
    (hf : full' = true → m = hh) : VRel P g (.sl sz ((xs.take hh).drop l) full' nl) (.slice (if m = l then ad else ad.map (·.add (l * sz))) (hh - l) (m - l)) := by
  rcases hv.sl_inv with ⟨rfl, rfl, he⟩ | ⟨rfl, a0, cap', he, hc, hf', hs, hsp, hF⟩
  · cases he
    simp only [List.length_nil, Nat.le_zero] at b3
    subst b3
    have hl : l = 0 := by omega
    have hm : m = 0 := by omega
    subst hl; subst hm
    simpa using VRel.slnil (P := P) (g := g) sz full'
  · cases he
    have hlen : ((xs.take hh).drop l).length = hh - l := by simp; omega
    have key : ∀ ad' : Addr, (ad'.block = a0.block) → (hh - l ≠ 0 → ad'.off = a0.off + l * sz ∧ ad'.spot = none) → VRel P g (.sl sz ((xs.take hh).drop l) full' false) (.slice (some ad') (hh - l) (m - l)) := by
      intro ad' hb ho
      have := VRel.sl (P := P) (g := g) (sz := sz) (xs := (xs.take hh).drop l) (full := full') (a := ad') (cap := m - l) (by omega) (fun hft => by rw [hlen, hf hft])
        (fun x hx => hs x (List.mem_of_mem_take (List.mem_of_mem_drop hx))) (fun hne => (ho (by rw [← hlen]; intro e; exact hne (List.length_eq_zero_iff.1 e))).2)
        (fun i x j p hx hp => by
          have hi : i < hh - l := by rw [← hlen]; exact (List.getElem?_eq_some_iff.1 hx).1
          rw [getElem?_sub, if_pos (by omega)] at hx
          obtain ⟨e1, _⟩ := ho (by omega)
          rw [hb, e1, show a0.off + l * sz + i * sz + j = a0.off + (l + i) * sz + j by rw [Nat.add_mul]; omega]
          exact hF _ _ _ _ hx hp)
      rw [hlen] at this; exact this
    by_cases hml : m = l
    · rw [if_pos hml]; exact key a0 rfl (fun hne => by omega)
    · rw [if_neg hml]
      simp only [Option.map_some]
      refine key _ ?_ fun hne => ?_
      · unfold Addr.add; split <;> rfl
      · have hxs : xs ≠ [] := by intro e; simp [e] at b3; omega
        rw [add_spot (hsp hxs)]; exact ⟨rfl, rfl⟩

theorem VRel.asl_part {id sz off len : Nat} {ad : Option Addr} {n cap l hh m : Nat} (hv : VRel P g (.asl id sz off len) (.slice ad n cap)) (b2 : l ≤ hh) (b4 : hh ≤ m) (b5 : m ≤ cap) :
    VRel P g (.asl id sz (off + l) (hh - l)) (.slice (if m = l then ad else ad.map (·.add (l * sz))) (hh - l) (m - l)) := by
  obtain ⟨b, cap', o', he, hm, hc, hb, ho⟩ := hv.asl_inv
  cases he
  have hb' : (off + l + (m - l)) * sz ≤ g.bs b := Nat.le_trans (Nat.mul_le_mul_right _ (by omega)) hb
  by_cases hml : m = l
  · rw [if_pos hml]; exact .asl hm (by omega) hb' (.inl (by omega))
  · rw [if_neg hml]
    simp only [Option.map_some, add_none]
    exact .asl hm (by omega) hb' (.inr (by rw [Nat.add_mul]; rcases ho with h | h <;> omega))

theorem slice_run {T e : TypeId} {i : TypeInfo} {x : Operand} {lo hi mx : Option Operand} {ad : Option Addr} {len cap l hh m : Nat} (ho : o.op = .slice T x lo hi mx) (hd : P.underlying T = some (.slice e)) (hi' : P.info? e = some i)
    (hx : a.eval x = .slice ad len cap) (hb : (Instr.sliceBounds true len cap (lo.map a.eval) (hi.map a.eval) (mx.map a.eval)).run P w = .ok (l, hh, m) w) :
    (execOp a.eval o).run P w = .ok (.value (.slice (if m = l then ad else ad.map (·.add (l * i.size))) (hh - l) (m - l))) w := by
  simp only [execOp, ho, Instr.sliceAt, Sem.run_bind, underlying_run hd, Result.andThen_ok, Instr.slice, hx, hb, sizeOf_run hi', Sem.run_pure]

theorem go_slL (hI : Inv P E g h w) (hT : TRel P g t a.tmps) {T e : TypeId} {i : TypeInfo} {x : Operand} {lo hi mx : Option Operand} {x' : Od} {lo' hi' mx' : Option Od} (ho : o.op = .slice T x lo hi mx) (hd : P.underlying T = some (.slice e))
    (hinf : P.info? e = some i) (hx : cOd P x = some x') (hlo : cOdO P lo = some lo') (hhi : cOdO P hi = some hi') (hmx : cOdO P mx = some mx') (hcond : mx = none ∨ hi.isSome = true)
    (hk : vcOp P g0 (.slL i.size x' lo' hi' mx') t h K) : Goes P E g o a w K := by
  have rx := cOd_rel hT hx
  simp only [vcOp] at hk
  have hmx0 : mx = none → mx' = none := by rintro rfl; cases hmx; rfl
  have hmx1 : mx' = none → mx = none := by
    intro e; cases mx with
    | none => rfl
    | some y => simp [cOdO, e] at hmx
  have hhi1 : ∀ n d, intOr t hi' d = some n → mx ≠ none → ∃ k, hi.map a.eval = some (.int k n) := by
    intro n d hn hne
    rcases intOr_rel hT hhi hn with ⟨e1, _⟩ | h
    · rcases hcond with h | h
      · exact absurd h hne
      · cases hi <;> simp at h e1
    · exact h
  cases ex : ev t x' <;> rw [ex] at hk rx <;> simp only at hk
  · rename_i sz xs full nl
    have hval : ∃ ad cap, a.eval x = .slice ad xs.length cap ∧ xs.length ≤ cap ∧ (full = true → cap = xs.length) := by
      rcases rx.sl_inv with ⟨_, rfl, he⟩ | ⟨_, a0, cap, he, hc, hf, _⟩
      · exact ⟨none, 0, he, by simp, by simp⟩
      · exact ⟨some a0, cap, he, hc, hf⟩
    obtain ⟨ad, cap, he, hcap, hfull⟩ := hval
    rw [he] at rx
    cases el : intOr t lo' 0 with
    | none => rw [el] at hk; exact hk.elim
    | some l =>
      cases eh : intOr t hi' xs.length with
      | none => rw [el, eh] at hk; exact hk.elim
      | some hh =>
        rw [el, eh, bindO_some, bindO_some] at hk
        have hlo1 := (intOr_rel hT hlo el).imp (fun h => (⟨h.1, by simpa using h.2.2⟩ : lo.map a.eval = none ∧ l = 0)) (fun h => h)
        have hszeq : ∀ q : Nat, (sz = i.size ∨ xs.length = 0) → hh.toNat ≤ xs.length → l.toNat ≤ hh.toNat → l.toNat * i.size = l.toNat * sz := by
          intro _ hsz h1 h2; rcases hsz with h | h
          · rw [h]
          · rw [show l.toNat = 0 by omega]; simp
        cases mx' with
        | none =>
          simp only [sliceV] at hk
          obtain ⟨b1, b2, b3, hsz, hk⟩ := hk
          have hm0 := hmx1 rfl
          subst hm0
          have hb := bounds_run (P := P) (w := w) true xs.length cap (lo.map a.eval) (hi.map a.eval) none l hh cap hlo1 ((intOr_rel hT hhi eh).imp (fun h => ⟨h.1, rfl, h.2.2⟩) (fun h => h)) (.inl ⟨rfl, rfl⟩) b1 b2 (by omega) (Int.le_refl _)
          have hrun := slice_run (a := a) ho hd hinf he hb
          rw [hszeq 0 hsz (by omega) (by omega)] at hrun
          refine .pure hI hrun (VRel.sl_part rx (by omega) (by omega) (by omega) (by omega) fun hft => ?_) hk
          simp only [Bool.and_eq_true, decide_eq_true_eq] at hft
          have := hfull hft.1
          omega
        | some m' =>
          simp only at hk
          cases em : intOr t (some m') 0 with
          | none => rw [em] at hk; exact hk.elim
          | some m =>
            rw [em, bindO_some] at hk
            simp only [sliceV] at hk
            obtain ⟨b1, b2, b3, hsz, b4, b5, hk⟩ := hk
            have hmne : mx ≠ none := fun e => by have := hmx0 e; cases this
            have hm3 : (mx.map a.eval = none ∧ m = cap) ∨ ∃ k, mx.map a.eval = some (.int k m) := by
              rcases intOr_rel hT hmx em with ⟨e1, e2, _⟩ | h
              · cases e2
              · exact .inr h
            obtain ⟨k2, hk2⟩ := hhi1 hh _ eh hmne
            have hb := bounds_run (P := P) (w := w) true xs.length cap (lo.map a.eval) (hi.map a.eval) (mx.map a.eval) l hh m hlo1 (.inr ⟨k2, hk2⟩) hm3 b1 b2 b4 (by omega)
            have hrun := slice_run (a := a) ho hd hinf he hb
            rw [hszeq 0 hsz (by omega) (by omega)] at hrun
            refine .pure hI hrun (VRel.sl_part rx (by omega) (by omega) (by omega) (by omega) fun hft => ?_) hk
            simp only [decide_eq_true_eq] at hft
            omega
  · rename_i id sz off len
    obtain ⟨b, cap, o', he, hm, hc, hbs, hoo⟩ := rx.asl_inv
    rw [he] at rx
    cases el : intOr t lo' 0 with
    | none => rw [el] at hk; exact hk.elim
    | some l =>
      cases eh : intOr t hi' len with
      | none => rw [el, eh] at hk; exact hk.elim
      | some hh =>
        rw [el, eh, bindO_some, bindO_some] at hk
        have hlo1 := (intOr_rel hT hlo el).imp (fun h => (⟨h.1, by simpa using h.2.2⟩ : lo.map a.eval = none ∧ l = 0)) (fun h => h)
        cases mx' with
        | none =>
          simp only [sliceV] at hk
          obtain ⟨b1, b2, b3, hsz, hk⟩ := hk
          have hm0 := hmx1 rfl
          subst hm0
          have hb := bounds_run (P := P) (w := w) true len cap (lo.map a.eval) (hi.map a.eval) none l hh cap hlo1 ((intOr_rel hT hhi eh).imp (fun h => ⟨h.1, rfl, h.2.2⟩) (fun h => h)) (.inl ⟨rfl, rfl⟩) b1 b2 (by omega) (Int.le_refl _)
          have hrun := slice_run (a := a) ho hd hinf he hb
          rw [← hsz] at hrun
          exact .pure hI hrun (VRel.asl_part rx (by omega) (by omega) (by omega)) hk
        | some m' =>
          simp only at hk
          cases em : intOr t (some m') 0 with
          | none => rw [em] at hk; exact hk.elim
          | some m =>
            rw [em, bindO_some] at hk
            simp only [sliceV] at hk
            obtain ⟨b1, b2, b3, hsz, b4, b5, hk⟩ := hk
            have hmne : mx ≠ none := fun e => by have := hmx0 e; cases this
            have hm3 : (mx.map a.eval = none ∧ m = cap) ∨ ∃ k, mx.map a.eval = some (.int k m) := by
              rcases intOr_rel hT hmx em with ⟨e1, e2, _⟩ | h
              · cases e2
              · exact .inr h
            obtain ⟨k2, hk2⟩ := hhi1 hh _ eh hmne
            have hb := bounds_run (P := P) (w := w) true len cap (lo.map a.eval) (hi.map a.eval) (mx.map a.eval) l hh m hlo1 (.inr ⟨k2, hk2⟩) hm3 b1 b2 b4 (by omega)
            have hrun := slice_run (a := a) ho hd hinf he hb
            rw [← hsz] at hrun
            exact .pure hI hrun (VRel.asl_part rx (by omega) (by omega) (by omega)) hk

end Go.Avm

/- Each operation of the model does what the abstract machine says: the cells of a slice, bytes and strings, append. -/
namespace Go.Avm
open Go Go.RowKit

variable {P : Program} {E : Env} {g : Gh} {h : AH} {w : World} {t : TM} {a : Act} {g0 : Gh} {o : Oper} {K : PV → AH → Prop}

theorem choose_list {Q : Nat → Value → Prop} : ∀ (n : Nat), (∀ k, k < n → ∃ u, Q k u) → ∃ vs : List Value, vs.length = n ∧ ∀ k u, vs[k]? = some u → Q k u
  | 0, _ => ⟨[], rfl, by simp⟩
  | n + 1, h => by
    obtain ⟨vs, h1, h2⟩ := choose_list n fun k hk => h k (by omega)
    obtain ⟨u, hu⟩ := h n (by omega)
    refine ⟨vs ++ [u], by simp [h1], fun k v hk => ?_⟩
    by_cases e : k < vs.length
    · rw [List.getElem?_append_left e] at hk; exact h2 k v hk
    · have hlt : k < (vs ++ [u]).length := (List.getElem?_eq_some_iff.1 hk).1
      simp only [List.length_append, List.length_singleton] at hlt
      have hkn : k = n := by omega
      subst hkn
      rw [List.getElem?_append_right (by omega), h1] at hk
      simp at hk; subst hk; exact hu

/-- What a slice's cells are, when they are loaded. -/
theorem elems_load (hI : Inv P E g h w) {v : PV} {r : Value} {sz : Nat} {ys : List PV} (hv : VRel P g v r) (he : elemsV h v sz = some ys) :
    ∃ ad len cap vs, r = .slice ad len cap ∧ len = ys.length ∧ (∀ k, (Builtin.firstCells sz len r).run P { w with drawn := k } = .ok vs { w with drawn := k }) ∧ vs.size = len * sz ∧ RowRel P g sz ys vs ∧ ∀ u ∈ vs, u.oneCell' = true := by
  -- from cells that are known to a row
  have fin : ∀ (ad : Addr) (cap : Nat), (∀ x ∈ ys, x.cells.length = sz) → (ys ≠ [] → sz ≠ 0 → ad.spot = none) →
      (∀ (i : Nat) (x : PV) (j : Nat) (p : PV), ys[i]? = some x → x.cells[j]? = some p → ∃ u, w.cell? ⟨ad.block, ad.off + i * sz + j, none⟩ = some u ∧ u.oneCell' = true ∧ VRel P g p u) →
      ∃ vs, (∀ k, (Builtin.firstCells sz ys.length (.slice (some ad) ys.length cap)).run P { w with drawn := k } = .ok vs { w with drawn := k }) ∧ vs.size = ys.length * sz ∧ RowRel P g sz ys vs ∧ ∀ u ∈ vs, u.oneCell' = true := by
    intro ad cap hs hsp hc
    have hdiv : ∀ k, k < ys.length * sz → ∃ (i : Nat) (x : PV) (j : Nat) (p : PV), ys[i]? = some x ∧ x.cells[j]? = some p ∧ k = i * sz + j := by
      intro k hk
      have hpos : 0 < sz := by
        rcases Nat.eq_zero_or_pos sz with e | e
        · rw [e] at hk; simp at hk
        · exact e
      have hi : k / sz < ys.length := by rw [Nat.div_lt_iff_lt_mul hpos]; exact hk
      have hj : k % sz < sz := Nat.mod_lt _ hpos
      have hxl := hs ys[k / sz] (List.getElem_mem hi)
      exact ⟨k / sz, ys[k / sz], k % sz, (ys[k / sz]).cells[k % sz]'(by omega), List.getElem?_eq_getElem hi, List.getElem?_eq_getElem (by omega), by rw [Nat.mul_comm]; exact (Nat.div_add_mod k sz).symm⟩
    obtain ⟨vs, l1, l2⟩ := choose_list (Q := fun k u => w.cell? (ad.add k) = some u ∧ u.oneCell' = true ∧ ∀ (i : Nat) (x : PV) (j : Nat) (p : PV), ys[i]? = some x → x.cells[j]? = some p → k = i * sz + j → VRel P g p u) (ys.length * sz) (fun k hk => by
      obtain ⟨i, x, j, p, hx, hp, rfl⟩ := hdiv k hk
      obtain ⟨u, u1, u2, u3⟩ := hc i x j p hx hp
      have hne : ys ≠ [] := by intro e; simp [e] at hk
      have hz : sz ≠ 0 := by intro e; simp [e] at hk
      refine ⟨u, by rw [add_spot (hsp hne hz), ← Nat.add_assoc]; exact u1, u2, fun i' x' j' p' hx' hp' e => ?_⟩
      have h1 : x.cells.length = sz := hs x (List.mem_of_getElem? hx)
      have h2 : x'.cells.length = sz := hs x' (List.mem_of_getElem? hx')
      have h3 : j < sz := by rw [← h1]; exact (List.getElem?_eq_some_iff.1 hp).1
      have h4 : j' < sz := by rw [← h2]; exact (List.getElem?_eq_some_iff.1 hp').1
      have hii : i = i' := by
        have : (i * sz + j) / sz = (i' * sz + j') / sz := by rw [e]
        rw [Nat.mul_comm i, Nat.mul_comm i', Nat.mul_add_div (by omega), Nat.mul_add_div (by omega), Nat.div_eq_of_lt h3, Nat.div_eq_of_lt h4] at this
        omega
      subst hii
      have hjj : j = j' := by omega
      subst hjj
      rw [hx] at hx'; cases hx'
      rw [hp] at hp'; cases hp'
      exact u3)
    have hload := fun q : Nat => loadCells_run (P := P) (w := { w with drawn := q }) (a := ad) (vs := vs) fun k u hk => (l2 k u hk).1
    refine ⟨vs.toArray, fun q => ?_, by simp [l1], ⟨hs, by simp [l1], fun i x j p hx hp => ?_⟩, fun u hu => ?_⟩
    · simp only [Builtin.firstCells]; rw [← l1]; exact hload q
    · have hi : i < ys.length := (List.getElem?_eq_some_iff.1 hx).1
      have h1 : x.cells.length = sz := hs x (List.mem_of_getElem? hx)
      have hj : j < sz := by rw [← h1]; exact (List.getElem?_eq_some_iff.1 hp).1
      have hb : i * sz + sz ≤ ys.length * sz := by rw [← Nat.succ_mul]; exact Nat.mul_le_mul_right _ hi
      have hk : i * sz + j < vs.length := by omega
      obtain ⟨q1, q2, q3⟩ := l2 _ _ (List.getElem?_eq_getElem hk)
      exact ⟨vs[i * sz + j], by simp [hk], q2, q3 i x j p hx hp rfl⟩
    · obtain ⟨k, hk, rfl⟩ := List.getElem_of_mem (Array.mem_toList_iff.2 hu)
      exact (l2 k _ (List.getElem?_eq_getElem (by simpa using hk))).2.1
  cases v <;> simp only [elemsV, reduceCtorEq] at he
  · rename_i sz' xs full nl
    split at he
    · rename_i hsz
      obtain rfl : xs = ys := by simpa using he
      rcases hv.sl_inv with ⟨_, rfl, rfl⟩ | ⟨_, ad, cap, rfl, _, _, hs, hsp, hF⟩
      · exact ⟨none, 0, 0, #[], rfl, rfl, fun _ => rfl, by simp, ⟨by simp, by simp, by simp⟩, by simp⟩
      · have hs' : ∀ x ∈ xs, x.cells.length = sz := by
          intro x hx
          rcases hsz with h | h
          · rw [← h]; exact hs x hx
          · simp [List.length_eq_zero_iff.1 h] at hx
        obtain ⟨vs, q1, q2, q3, q4⟩ := fin ad cap hs' (fun hne _ => hsp hne) fun i x j p hx hp => by
          have hne : xs.length ≠ 0 := by have := (List.getElem?_eq_some_iff.1 hx).1; omega
          have hszz : sz' = sz := hsz.resolve_right hne
          have := hI.fz _ _ _ (hF i x j p hx hp)
          rwa [hszz] at this
        exact ⟨some ad, xs.length, cap, vs, rfl, rfl, q1, q2, q3, q4⟩
    · cases he
  · rename_i id sz' off len
    cases hid : h[id]? with
    | none => simp [hid] at he
    | some ob =>
      cases ob <;> simp only [hid, reduceCtorEq] at he
      rename_i asz es wr
      split at he
      · rename_i hc
        obtain ⟨rfl, rfl, hle⟩ := hc
        cases he
        obtain ⟨b, cap, o', rfl, hm, hcap, hbs, ho⟩ := hv.asl_inv
        obtain ⟨c, T, fr, c1, c2, c3, c4, c5, c6⟩ := hI.obj id _ b hid hm
        have hlen : ((es.drop off).take len).length = len := by simp; omega
        have key : ∃ vs, (∀ k, (Builtin.firstCells asz ((es.drop off).take len).length (.slice (some ⟨b, o', none⟩) ((es.drop off).take len).length cap)).run P { w with drawn := k } = .ok vs { w with drawn := k }) ∧ vs.size = ((es.drop off).take len).length * asz ∧
            RowRel P g asz ((es.drop off).take len) vs ∧ ∀ u ∈ vs, u.oneCell' = true := by
          refine fin ⟨b, o', none⟩ cap (fun x hx => c3 x (List.mem_of_mem_drop (List.mem_of_mem_take hx))) (fun _ _ => rfl) fun i x j p hx hp => ?_
          have hi : i < len := by rw [← hlen]; exact (List.getElem?_eq_some_iff.1 hx).1
          rw [List.getElem?_take_of_lt hi, List.getElem?_drop] at hx
          obtain ⟨u, u1, u2, u3⟩ := c5 (off + i) x j p hx hp
          have ho' : o' = off * asz := by rcases ho with h | h <;> omega
          refine ⟨u, ?_, u2, u3⟩
          rw [cell_at c1, ho', ← Nat.add_mul]; exact u1
        obtain ⟨vs, q1, q2, q3, q4⟩ := key
        rw [hlen] at q1 q2
        exact ⟨_, len, cap, vs, rfl, hlen.symm, q1, q2, q3, q4⟩
      · cases he

theorem bytesOf_cells : ∀ (xs : List PV) (s : List UInt8), bytesOf xs = some s → xs.length = s.length ∧ ∀ (vs : List Value), vs.length = xs.length → (∀ (i : Nat) (p : PV) (u : Value), xs[i]? = some p → vs[i]? = some u → VRel P g p u) →
    ∃ ns : List Int, vs = ns.map (Value.int .u8) ∧ ns.map (fun n => UInt8.ofNat n.toNat) = s
  | [], s, h => by
    simp only [bytesOf, Option.some.injEq] at h; subst h
    exact ⟨rfl, fun vs hl _ => ⟨[], by simpa using hl, rfl⟩⟩
  | x :: xs, s, h => by
    cases x <;> try (simp only [bytesOf, reduceCtorEq] at h)
    rename_i k n
    cases k <;> simp only [bytesOf, reduceCtorEq, Option.map_eq_some_iff] at h
    obtain ⟨s', h1, rfl⟩ := h
    obtain ⟨l1, ih⟩ := bytesOf_cells xs s' h1
    refine ⟨by simp [l1], fun vs hl hr => ?_⟩
    cases vs with
    | nil => simp at hl
    | cons v vs =>
      have hv := hr 0 _ v rfl rfl
      rw [hv.int_inv]
      obtain ⟨ns, e1, e2⟩ := ih vs (by simpa using hl) fun i p u hp hu => hr (i + 1) p u hp hu
      exact ⟨n :: ns, by simp [e1], by simp [e2]⟩

theorem foldl_bytes (ns : List Int) : ∀ (s : List UInt8), ns.foldl (fun (r : ByteArray) (n : Int) => r.push (UInt8.ofNat n.toNat)) ⟨⟨s⟩⟩ = ⟨⟨s ++ ns.map (fun n => UInt8.ofNat n.toNat)⟩⟩ := by
  induction ns with
  | nil => intro s; simp
  | cons n ns ih =>
    intro s
    simp only [List.foldl_cons, List.map_cons]
    rw [show (ByteArray.push ⟨⟨s⟩⟩ (UInt8.ofNat n.toNat)) = ⟨⟨s ++ [UInt8.ofNat n.toNat]⟩⟩ from by simp [ByteArray.push], ih]
    simp

theorem go_b2s (hI : Inv P E g h w) (hT : TRel P g t a.tmps) {S D e : TypeId} {x : Operand} {x' : Od} (ho : o.op = .convert S D x) (hs : P.underlying S = some (.slice e)) (he : P.underlying e = some (.int .u8)) (hd : P.underlying D = some .string)
    (hx : cOd P x = some x') (hk : vcOp P g0 (.b2s x') t h K) : Goes P E g o a w K := by
  have rx := cOd_rel hT hx
  simp only [vcOp] at hk
  cases hel : elemsV h (ev t x') 1 with
  | none => rw [hel] at hk; exact hk.elim
  | some xs =>
    rw [hel, bindO_some] at hk
    cases hb : bytesOf xs with
    | none => rw [hb] at hk; exact hk.elim
    | some s =>
      rw [hb, bindO_some] at hk
      obtain ⟨ad, len, cap, vs, hr, rfl, hload0, hsz, hrow, _⟩ := elems_load hI rx hel
      have hload := hload0 w.drawn
      refine .pure hI (r := .string ⟨⟨s⟩⟩) ?_ (.str s) hk
      have hconv : (convert S D (.slice ad xs.length cap)).run P w = .ok (.string ⟨⟨s⟩⟩) w := by
        rw [run_convert_bytes_string w S D e ad _ _ hs he hd]
        have hcells : ∃ ns : List Int, vs.toList = ns.map (Value.int .u8) ∧ ns.map (fun n => UInt8.ofNat n.toNat) = s := by
          obtain ⟨h1, h2⟩ := bytesOf_cells (P := P) (g := g) xs s hb
          refine h2 vs.toList (by simp [hsz]) fun i p u hp hu => ?_
          have hone : p.cells = [p] := by
            have hmem := List.mem_of_getElem? hp
            have : ∀ (l : List PV) (r : List UInt8), bytesOf l = some r → ∀ q ∈ l, q.cells = [q] := by
              intro l
              induction l with
              | nil => intro _ _ q hq; simp at hq
              | cons y l ih =>
                intro r hl q hq
                cases y <;> try (simp only [bytesOf, reduceCtorEq] at hl)
                rename_i k n
                cases k <;> simp only [bytesOf, reduceCtorEq, Option.map_eq_some_iff] at hl
                obtain ⟨r', h1, _⟩ := hl
                rcases List.mem_cons.1 hq with rfl | hq
                · rfl
                · exact ih r' h1 q hq
            exact this xs s hb p hmem
          obtain ⟨u', u1, _, u3⟩ := hrow.2.2 i p 0 p hp (by rw [hone]; rfl)
          simp only [Nat.mul_one, Nat.add_zero] at u1
          rw [Array.getElem?_toList, u1] at hu
          cases hu; exact u3
        obtain ⟨ns, e1, e2⟩ := hcells
        have hvs : vs = (ns.map (Value.int .u8)).toArray := by rw [← e1]
        cases ad with
        | none =>
          rcases (show VRel P g (ev t x') (.slice none xs.length cap) from hr ▸ rx) with _
          have hx0 : xs = [] := by
            have rx' : VRel P g (ev t x') (.slice none xs.length cap) := hr ▸ rx
            cases hev : ev t x' <;> rw [hev] at rx' hel <;> simp only [elemsV, reduceCtorEq] at hel
            · rcases rx'.sl_inv with ⟨_, rfl, _⟩ | ⟨_, _, _, h, _⟩
              · split at hel <;> cases hel; rfl
              · cases h
            · obtain ⟨_, _, _, h, _⟩ := rx'.asl_inv; cases h
          subst hx0
          simp only [bytesOf, Option.some.injEq] at hb
          subst hb
          simp [Conv.bytesToString]
          rfl
        | some ad =>
          rw [hr] at hload
          simp only [Builtin.firstCells, Nat.mul_one, hvs] at hload
          rw [run_bytesToString w ad _ _ ns hload]
          have := foldl_bytes ns []
          rw [show (ByteArray.empty : ByteArray) = ⟨⟨[]⟩⟩ from rfl, this, e2]
          simp
      rw [← hr] at hconv
      simp only [execOp, ho, Sem.run_bind, hconv, Result.andThen_ok, Sem.run_pure]

end Go.Avm

/- Each operation of the model does what the abstract machine says: append, copy, make, strings to bytes. -/
namespace Go.Avm
open Go Go.RowKit

variable {P : Program} {E : Env} {g : Gh} {h : AH} {w : World} {t : TM} {a : Act} {g0 : Gh} {o : Oper} {K : PV → AH → Prop}

theorem RowRel.mono {g g' : Gh} (hg : g.le g') {sz : Nat} {es : List PV} {c : Array Value} (hr : RowRel P g sz es c) : RowRel P g' sz es c :=
  ⟨hr.1, hr.2.1, fun i x j p hx hp => let ⟨v, h1, h2, h3⟩ := hr.2.2 i x j p hx hp; ⟨v, h1, h2, h3.mono hg⟩⟩

theorem RowRel.append {sz : Nat} {es ys : List PV} {c d r : Array Value} (h1 : RowRel P g sz es c) (h2 : RowRel P g sz ys d) (hc : c.size = es.length * sz) : RowRel P g sz (es ++ ys) (c ++ d ++ r) := by
  obtain ⟨a1, a2, a3⟩ := h1
  obtain ⟨b1, b2, b3⟩ := h2
  refine ⟨fun x hx => (List.mem_append.1 hx).elim (a1 x) (b1 x), by simp [Nat.add_mul]; omega, fun i x j p hx hp => ?_⟩
  by_cases hi : i < es.length
  · rw [List.getElem?_append_left hi] at hx
    obtain ⟨v, v1, v2⟩ := a3 i x j p hx hp
    have hlt : i * sz + j < c.size := (Array.getElem?_eq_some_iff.1 v1).1
    refine ⟨v, ?_, v2⟩
    rw [Array.append_assoc, Array.getElem?_append_left hlt]; exact v1
  · rw [List.getElem?_append_right (by omega)] at hx
    obtain ⟨v, v1, v2⟩ := b3 _ x j p hx hp
    refine ⟨v, ?_, v2⟩
    have hk : i * sz + j = c.size + ((i - es.length) * sz + j) := by
      rw [hc, ← Nat.add_assoc, ← Nat.add_mul, show es.length + (i - es.length) = i by omega]
    have hlt : (i - es.length) * sz + j < d.size := (Array.getElem?_eq_some_iff.1 v1).1
    rw [Array.getElem?_append_left (by simp; omega), Array.getElem?_append_right (by omega), hk, Nat.add_sub_cancel_left]; exact v1

theorem growBy_le (n : Nat) : ∀ (r c : Nat), c ≤ 2 * n + 768 → c < n ∨ r = 0 ∨ n ≤ c → Builtin.growBy n r c ≤ 2 * n + 768 := by
  intro r
  induction r with
  | zero => intro c h _; exact h
  | succ r ih =>
    intro c h _
    simp only [Builtin.growBy]
    split
    · exact h
    · exact ih _ (by omega) (by omega)

theorem nextslicecap_le (need cap : Nat) (h : cap < need) : Builtin.nextslicecap need cap ≤ 2 * need + 768 := by
  unfold Builtin.nextslicecap
  split
  · omega
  · split
    · omega
    · exact growBy_le need 4 cap (by omega) (.inl h)

theorem room_next {need cap bytes : Nat} (hr : room need bytes) (hb : bytes ≤ 1048576) (h : cap < need) : ¬ (Builtin.nextslicecap need cap * bytes > 2 ^ 48) := by
  have h1 := nextslicecap_le need cap h
  have h2 : Builtin.nextslicecap need cap * bytes ≤ (2 * need + 768) * bytes := Nat.mul_le_mul_right _ h1
  have h3 : (2 * need + 768) * bytes = 2 * (need * bytes) + 768 * bytes := by rw [Nat.add_mul, Nat.mul_assoc]
  have := hr.2
  omega

/-- append, where there is no room: the row is made anew. -/
theorem append_grow {S T e : TypeId} {d : TypeDesc} {i : TypeInfo} {z : Value} {ty : TypeId} (hS : P.underlying S = some (.slice e)) (hT : P.underlying T = some d) (hd : (∃ e', d = .slice e') ∨ d = .string) (hi : P.info? e = some i) (hz : i.zero = some z)
    (hb : 1 ≤ i.bytes ∧ i.bytes ≤ 1048576) {ad : Option Addr} {sLen sCap n : Nat} {x : Value} {old new : Array Value} (hn : (Builtin.lenOf x).run P w = .ok n w) (hneed : sCap < sLen + n) (hroom : room (sLen + n) i.bytes)
    (hold : (Builtin.firstCells i.size sLen (.slice ad sLen sCap)).run P { w with drawn := w.drawn + 1 } = .ok old { w with drawn := w.drawn + 1 }) (hnew : (Builtin.firstCells i.size n x).run P { w with drawn := w.drawn + 1 } = .ok new { w with drawn := w.drawn + 1 }) :
    ∃ newCap rest, (Builtin.append_ #[S, T] ty #[.slice ad sLen sCap, x]).run P w = .ok (.slice (some ⟨w.heap.size, 0, none⟩) (sLen + n) newCap) (({ w with drawn := w.drawn + 1 } : World).alloc (.cells (old ++ new ++ rest) e)) ∧ sLen + n ≤ newCap ∧ rest.size = (newCap - (sLen + n)) * z.cells.size := by
  have hq : Question.forced (.appendCap (sLen + n) sCap e) = false := rfl
  refine ⟨Question.cut (.appendCap (sLen + n) sCap e) (w.tape w.drawn (.appendCap (sLen + n) sCap e)), Builtin.zeroCells z.cells (Question.cut (.appendCap (sLen + n) sCap e) (w.tape w.drawn (.appendCap (sLen + n) sCap e)) - (sLen + n)), ?_, ?_, ?_⟩
  · have hroomn := room_next hroom hb.2 hneed
    have hle : ¬ (sLen + n ≤ sCap) := by omega
    have hbz : ¬ (i.bytes = 0) := by omega
    have hbig : ¬ (((sLen + n : Nat) : Int) > IntKind.i64.max ∧ (false = true ∨ i.bytes = 0)) := by simp [hbz]
    simp only [Builtin.append_]
    simp only [show (#[S, T] : Array TypeId)[0]? = some S from rfl, show (#[S, T] : Array TypeId)[1]? = some T from rfl, show (#[Value.slice ad sLen sCap, x] : Array Value)[0]? = some (.slice ad sLen sCap) from rfl, show (#[Value.slice ad sLen sCap, x] : Array Value)[1]? = some x from rfl]
    rcases hd with ⟨e', rfl⟩ | rfl
    · simp only [Sem.run_bind, underlying_run hS, underlying_run hT, Result.andThen_ok, sizeOf_run hi, Sem.run_pure, Bool.false_eq_true, if_false, hn, if_neg hle, Bool.not_false, if_true, typeInfo_run hi, Sem.run_ite, if_neg hroomn]
      rw [if_neg (by simp [hbz])]
      simp only [Sem.run_bind, run_choose, hq, Bool.false_eq_true, if_false, Result.andThen_ok, typeInfo_run hi, run_askRoom, hold, hnew, zeroValue_run hi hz, Sem.run_pure]
      rfl
    · simp only [Sem.run_bind, underlying_run hS, underlying_run hT, Result.andThen_ok, sizeOf_run hi, Sem.run_pure, Bool.false_eq_true, if_false, hn, if_neg hle, Bool.not_false, if_true, typeInfo_run hi, Sem.run_ite, if_neg hroomn]
      rw [if_neg (by simp [hbz])]
      simp only [Sem.run_bind, run_choose, hq, Bool.false_eq_true, if_false, Result.andThen_ok, typeInfo_run hi, run_askRoom, hold, hnew, zeroValue_run hi hz, Sem.run_pure]
      rfl
  · show sLen + n ≤ sLen + n + _ % _; omega
  · simp [Builtin.zeroCells]


/-- append, where there is room: the cells behind the slice are written. -/
theorem append_room {S T e : TypeId} {d : TypeDesc} {i : TypeInfo} {ty : TypeId} (hS : P.underlying S = some (.slice e)) (hT : P.underlying T = some d) (hd : (∃ e', d = .slice e') ∨ d = .string) (hi : P.info? e = some i)
    {ad : Option Addr} {sLen sCap n : Nat} {x : Value} {new : Array Value} {w' : World} (hn : (Builtin.lenOf x).run P w = .ok n w) (hneed : sLen + n ≤ sCap) (hnew : (Builtin.firstCells i.size n x).run P w = .ok new w)
    (hst : match ad with | some b => (storeCells (b.add (sLen * i.size)) new.toList).run P w = .ok () w' | none => w' = w) :
    (Builtin.append_ #[S, T] ty #[.slice ad sLen sCap, x]).run P w = .ok (.slice ad (sLen + n) sCap) w' := by
  simp only [Builtin.append_]
  simp only [show (#[S, T] : Array TypeId)[0]? = some S from rfl, show (#[S, T] : Array TypeId)[1]? = some T from rfl, show (#[Value.slice ad sLen sCap, x] : Array Value)[0]? = some (.slice ad sLen sCap) from rfl, show (#[Value.slice ad sLen sCap, x] : Array Value)[1]? = some x from rfl]
  have hbool : (match d with | .int _ => true | _ => false) = false := by rcases hd with ⟨e', rfl⟩ | rfl <;> rfl
  cases ad with
  | none =>
    simp only at hst; subst hst
    rcases hd with ⟨e', rfl⟩ | rfl <;>
      simp only [Sem.run_bind, underlying_run hS, underlying_run hT, Result.andThen_ok, sizeOf_run hi, Sem.run_pure, Bool.false_eq_true, if_false, hn, if_pos hneed, Bool.not_false, if_true, hnew]
  | some b =>
    simp only at hst
    rcases hd with ⟨e', rfl⟩ | rfl <;>
      simp only [Sem.run_bind, underlying_run hS, underlying_run hT, Result.andThen_ok, sizeOf_run hi, Sem.run_pure, Bool.false_eq_true, if_false, hn, if_pos hneed, Bool.not_false, if_true, hnew, hst]

theorem putAt_row {sz o : Nat} {es ys : List PV} {c d : Array Value} (h1 : RowRel P g sz es c) (h2 : RowRel P g sz ys d) (hd : d.size = ys.length * sz) (ho : o = es.length * sz) (hfit : (es.length + ys.length) * sz ≤ c.size) :
    RowRel P g sz (es ++ ys) (putAt c o d.toList) := by
  obtain ⟨a1, a2, a3⟩ := h1
  obtain ⟨b1, b2, b3⟩ := h2
  have hmul : (es.length + ys.length) * sz = es.length * sz + ys.length * sz := Nat.add_mul _ _ _
  refine ⟨fun x hx => (List.mem_append.1 hx).elim (a1 x) (b1 x), by simp [putAt_size]; exact hfit, fun i x j p hx hp => ?_⟩
  rw [putAt_get _ _ _ _ (by rw [Array.length_toList]; omega), Array.length_toList]
  by_cases hi : i < es.length
  · rw [List.getElem?_append_left hi] at hx
    have hxl := a1 x (List.mem_of_getElem? hx)
    have hj : j < sz := by rw [← hxl]; exact (List.getElem?_eq_some_iff.1 hp).1
    have : i * sz + sz ≤ es.length * sz := by rw [← Nat.succ_mul]; exact Nat.mul_le_mul_right _ hi
    rw [if_neg (by omega)]
    exact a3 i x j p hx hp
  · rw [List.getElem?_append_right (by omega)] at hx
    obtain ⟨v, v1, v2⟩ := b3 _ x j p hx hp
    have hk : i * sz + j = o + ((i - es.length) * sz + j) := by
      rw [ho, ← Nat.add_assoc, ← Nat.add_mul, show es.length + (i - es.length) = i by omega]
    have hlt : (i - es.length) * sz + j < d.size := (Array.getElem?_eq_some_iff.1 v1).1
    rw [if_pos (by omega), hk, Nat.add_sub_cancel_left]
    exact ⟨v, by simpa using v1, v2⟩

theorem ORel.row {b : Nat} {co : Option Obj} {sz : Nat} {es : List PV} {wr : Bool} (h : ORel P g b co (.arr sz es wr)) :
    ∃ c T fr, co = some (.cells c T fr) ∧ c.size = g.bs b ∧ RowRel P g sz es c ∧ (wr = true → frOk fr c.size) := by
  obtain ⟨c, T, fr, h1, h2, h3, h4, h5, h6⟩ := h
  exact ⟨c, T, fr, h1, h2, ⟨h3, h4, h5⟩, h6⟩

theorem Inv.newRowE (hI : Inv P E g h w) (T : TypeId) {c : Array Value} {sz : Nat} {es : List PV} (wr : Bool) (hr : RowRel P g sz es c) :
    ∃ g', g.le g' ∧ Inv P E g' (h ++ [.arr sz es wr]) (w.alloc (.cells c T)) ∧ g'.m h.length = some w.heap.size ∧ g'.bs w.heap.size = c.size := ⟨_, hI.newRow' T wr hr⟩

/-- append as a whole. -/
theorem append_sound (hI : Inv P E g h w) {S T e : TypeId} {d : TypeDesc} {i : TypeInfo} {z : Value} {zp : PV} {ty : TypeId} (hS : P.underlying S = some (.slice e)) (hT : P.underlying T = some d) (hd : (∃ e', d = .slice e') ∨ d = .string)
    (hi : P.info? e = some i) (hz : i.zero = some z) (hzp : ofValue z = some zp) (hzl : zp.cells.length = i.size) (hzo : zp.okc = true) (hb : 1 ≤ i.bytes ∧ i.bytes ≤ 1048576) (h1 : 1 ≤ i.size)
    {x : PV} {xv yv : Value} {ys : List PV} {dc : Array Value} (hx : VRel P g x xv) (hyl : (Builtin.lenOf yv).run P w = .ok ys.length w)
    (hyc : ∀ k, (Builtin.firstCells i.size ys.length yv).run P { w with drawn := k } = .ok dc { w with drawn := k }) (hdr : RowRel P g i.size ys dc) (hds : dc.size = ys.length * i.size) (hdo : ∀ u ∈ dc, u.oneCell' = true)
    (hk : appV h x i.size i.bytes ys K) :
    ∃ r w' pv h' g', (Builtin.append_ #[S, T] ty #[xv, yv]).run P w = .ok r w' ∧ K pv h' ∧ g.le g' ∧ Inv P E g' h' w' ∧ VRel P g' pv r := by
  have hyc0 : (Builtin.firstCells i.size ys.length yv).run P w = .ok dc w := hyc w.drawn
  have hI1 : Inv P E g h { w with drawn := w.drawn + 1 } := hI.drawn _
  have hzs : z.cells.size = i.size := by rw [← hzl]; exact ((ofValue_rel (P := P) (g := g) hzp).cells hzo).1.symm
  -- the new row
  have grow : ∀ (h2 : AH) (ad : Option Addr) (cap : Nat) (es : List PV) (old : Array Value), Inv P E g h2 { w with drawn := w.drawn + 1 } → h2.length = h.length → xv = .slice ad es.length cap → cap < es.length + ys.length →
      (Builtin.firstCells i.size es.length xv).run P { w with drawn := w.drawn + 1 } = .ok old { w with drawn := w.drawn + 1 } → RowRel P g i.size es old → old.size = es.length * i.size → room (es.length + ys.length) i.bytes →
      K (.asl h.length i.size 0 (es.length + ys.length)) (h2 ++ [.arr i.size (es ++ ys) true]) →
      ∃ r w' pv h' g', (Builtin.append_ #[S, T] ty #[xv, yv]).run P w = .ok r w' ∧ K pv h' ∧ g.le g' ∧ Inv P E g' h' w' ∧ VRel P g' pv r := by
    intro h2 ad cap es old hI2 hlen hxv hcap hold hrow hos hroom hkk
    subst hxv
    obtain ⟨nc, rest, r1, r2, r3⟩ := append_grow (ty := ty) hS hT hd hi hz hb hyl hcap hroom hold (hyc _)
    have hcs : (old ++ dc ++ rest).size = nc * i.size := by
      simp only [Array.size_append, hos, hds, r3, hzs]
      rw [← Nat.add_mul, ← Nat.add_mul, show es.length + ys.length + (nc - (es.length + ys.length)) = nc by omega]
    obtain ⟨g', q1, q2, q3, q4⟩ := hI2.newRowE e true (hrow.append hdr (r := rest) hos)
    refine ⟨_, _, _, _, g', r1, hkk, q1, q2, ?_⟩
    rw [hlen] at q3
    have q4' : g'.bs w.heap.size = nc * i.size := q4.trans hcs
    have hv := VRel.asl (P := P) (sz := i.size) (off := 0) (len := es.length + ys.length) (cap := nc) q3 r2 (by rw [show ({ w with drawn := w.drawn + 1 } : World).heap.size = w.heap.size from rfl, q4']; simp) (.inr rfl)
    simpa using hv
  cases x <;> simp only [appV] at hk
  · rename_i sz' xs full nl
    obtain ⟨hk0, hk1⟩ := hk
    have hval : ∃ ad cap, xv = .slice ad xs.length cap ∧ xs.length ≤ cap ∧ (full = true → cap = xs.length) := by
      rcases hx.sl_inv with ⟨_, rfl, he⟩ | ⟨_, a0, cap, he, hc, hf, _⟩
      · exact ⟨none, 0, he, by simp, by simp⟩
      · exact ⟨some a0, cap, he, hc, hf⟩
    obtain ⟨ad, cap, hxv, hcap, hfull⟩ := hval
    by_cases hy0 : ys.length = 0
    · have hdc0 : dc = #[] := Array.eq_empty_of_size_eq_zero (by rw [hds, hy0, Nat.zero_mul])
      subst hdc0
      refine ⟨_, w, _, _, g, ?_, hk0 hy0, Gh.le.refl g, hI, hx⟩
      rw [hxv]
      have := append_room (w' := w) (ad := ad) (sLen := xs.length) (sCap := cap) (ty := ty) hS hT hd hi hyl (by omega) hyc0 (by cases ad <;> simp [storeCells])
      rw [this, hy0, Nat.add_zero]
    · obtain ⟨hf, hsz, hroom, hkk⟩ := hk1 hy0
      have hcl := hfull hf
      have hel : elemsV h (.sl sz' xs full nl) i.size = some xs := by simp only [elemsV]; rw [if_pos hsz]
      obtain ⟨ad', len', cap', old, e1, e2, e30, e4, e5, _⟩ := elems_load hI1 hx hel
      have e3 := e30 (w.drawn + 1)
      subst e2
      rw [hxv] at e1; cases e1
      exact grow h ad cap xs old hI1 rfl hxv (by omega) (by rw [hxv]; rw [hxv] at e3; exact e3) e5 e4 hroom hkk
  · rename_i id sz' off len
    cases hid : h[id]? with
    | none => simp [hid] at hk
    | some ob =>
      cases ob with
      | arr asz es wr =>
        cases wr with
        | false => simp [hid] at hk
        | true =>
          simp only [hid] at hk
          obtain ⟨rfl, rfl, rfl, rfl, hroom, hkk⟩ := hk
          obtain ⟨b, cap, o', hxv, hm, hcl, hbs, hoo⟩ := hx.asl_inv
          obtain ⟨c, T0, fr, c1, c2, c3, c4⟩ := (hI.obj id _ b hid hm).row
          have hel : elemsV h (.asl id i.size 0 es.length) i.size = some es := by simp [elemsV, hid]
          by_cases hroomy : es.length + ys.length ≤ cap
          · -- in place
            have hbs' : (es.length + ys.length) * i.size ≤ c.size := by
              rw [c2]; exact Nat.le_trans (Nat.mul_le_mul_right _ (by omega)) hbs
            have hmul : (es.length + ys.length) * i.size = es.length * i.size + ys.length * i.size := Nat.add_mul _ _ _
            have hstore : ∃ w', (storeCells (Addr.add ⟨b, o', none⟩ (es.length * i.size)) dc.toList).run P w = .ok () w' ∧ Only b w w' ∧ ∃ c', w'.heap[b]? = some (.cells c' T0 fr) ∧ c'.size = c.size ∧ RowRel P g i.size (es ++ ys) c' := by
              by_cases hy0 : ys.length = 0
              · have hdc0 : dc = #[] := Array.eq_empty_of_size_eq_zero (by rw [hds, hy0, Nat.zero_mul])
                have hys : ys = [] := List.length_eq_zero_iff.1 hy0
                refine ⟨w, by simp [hdc0, storeCells], Only.refl b w, c, c1, rfl, ?_⟩
                rw [hys, List.append_nil]; exact c3
              · have ho' : o' = 0 := by
                  rcases hoo with h | h
                  · omega
                  · simpa using h
                subst ho'
                obtain ⟨w', s1, s2, s3⟩ := storeCells_run (P := P) b (es.length * i.size) T0 fr dc.toList w c 0 c1 (fun u hu => hdo u (Array.mem_toList_iff.1 hu)) (by have e9 := Array.length_toList (xs := dc); omega) (c4 rfl).not
                refine ⟨w', by rw [add_none, Nat.zero_add]; exact s1, s2, _, s3, putAt_size _ _ _, putAt_row c3 hdr hds (by omega) hbs'⟩
            obtain ⟨w', s1, s2, c', s3, s4, s5⟩ := hstore
            have hle := hI.at_le b
            refine ⟨.slice (some ⟨b, o', none⟩) (es.length + ys.length) cap, w', _, _, g.at h.length b, ?_, hkk, hle, hI.move hid rfl hm s2 ?_, ?_⟩
            · rw [hxv]
              exact append_room hS hT hd hi hyl hroomy hyc0 s1
            · have s6 := s5.mono hle
              exact ⟨c', T0, fr, s3, by rw [s4, c2]; rfl, s6.1, s6.2.1, s6.2.2, fun _ => by rw [s4]; exact c4 rfl⟩
            · exact .asl (by simp [Gh.at]) hroomy hbs hoo
          · obtain ⟨ad', len', cap', old, e1, e2, e30, e4, e5, _⟩ := elems_load hI1 hx hel
            have e3 := e30 (w.drawn + 1)
            subst e2
            rw [hxv] at e1; cases e1
            exact grow (h.set id .dead) _ cap es old (hI1.kill hid rfl hm) List.length_set hxv (by omega) (by rw [hxv]; rw [hxv] at e3; exact e3) e5 e4 hroom hkk
      | _ => simp [hid] at hk

end Go.Avm

/- Each operation of the model does what the abstract machine says: calls of append, copy, make; strings to bytes; maps. -/
namespace Go.Avm
open Go Go.RowKit

variable {P : Program} {E : Env} {g : Gh} {h : AH} {w : World} {t : TM} {a : Act} {g0 : Gh} {o : Oper} {K : PV → AH → Prop}

theorem Goes.append {c : Call} {x y : Operand} {S T : TypeId} (ho : o.op = .call c) (hc : c.callee = .builtin .append) (ha : c.args.toList = [x, y]) (hat : c.argTypes.toList = [S, T])
    (h : ∃ r w' pv h' g', (Builtin.append_ #[S, T] o.type #[a.eval x, a.eval y]).run P w = .ok r w' ∧ K pv h' ∧ g.le g' ∧ Inv P E g' h' w' ∧ VRel P g' pv r) : Goes P E g o a w K := by
  obtain ⟨r, w', pv, h', g', h1, h2, h3, h4, h5⟩ := h
  refine ⟨_, r, w', pv, h', g', ?_, .inl rfl, h2, h3, h4, h5⟩
  rw [builtin_run ho hc, args_map ha, types_arr hat]
  simp only [builtin, List.map_cons, List.map_nil, Sem.run_bind]
  rw [show ([a.eval x, a.eval y].toArray : Array Value) = #[a.eval x, a.eval y] from rfl, show ([S, T].toArray : Array TypeId) = #[S, T] from rfl, h1]
  rfl

theorem go_app (hI : Inv P E g h w) (hT : TRel P g t a.tmps) {c : Call} {x y : Operand} {x' y' : Od} {S T e e' : TypeId} {i : TypeInfo} {z : Value} {zp : PV} (ho : o.op = .call c) (hc : c.callee = .builtin .append)
    (ha : c.args.toList = [x, y]) (hat : c.argTypes.toList = [S, T]) (hS : P.underlying S = some (.slice e)) (hTt : P.underlying T = some (.slice e')) (hi : P.info? e = some i) (hz : i.zero = some z) (hzp : ofValue z = some zp)
    (hb : 1 ≤ i.size ∧ 1 ≤ i.bytes ∧ i.bytes ≤ 1048576) (hx : cOd P x = some x') (hy : cOd P y = some y') (hk : vcOp P g0 (.app i.size i.bytes zp x' y') t h K) : Goes P E g o a w K := by
  have rx := cOd_rel hT hx
  have ry := cOd_rel hT hy
  simp only [vcOp] at hk
  obtain ⟨k1, k2, hk⟩ := hk
  cases hel : elemsV h (ev t y') i.size with
  | none => rw [hel] at hk; exact hk.elim
  | some ys =>
    rw [hel, bindO_some] at hk
    obtain ⟨ad, len, cap, vs, hr, rfl, hload, hsz, hrow, hone⟩ := elems_load hI ry hel
    refine Goes.append ho hc ha hat (append_sound hI hS hTt (.inl ⟨e', rfl⟩) hi hz hzp k1 k2 hb.2 hb.1 rx ?_ (fun k => hload k) hrow hsz hone hk)
    rw [hr]; rfl

theorem bytes_row (s : List UInt8) : RowRel P g 1 (s.map byteV) ((s.toArray).map fun b => Value.int .u8 b.toNat) ∧ ((s.toArray).map fun b => Value.int .u8 b.toNat).size = (s.map byteV).length * 1 ∧ ∀ u ∈ ((s.toArray).map fun b => Value.int .u8 b.toNat), u.oneCell' = true := by
  refine ⟨⟨fun x hx => ?_, by simp, fun i x j p hx hp => ?_⟩, by simp, fun u hu => ?_⟩
  · obtain ⟨b, _, rfl⟩ := List.mem_map.1 hx; rfl
  · rw [List.getElem?_map] at hx
    cases hs : s[i]? with
    | none => simp [hs] at hx
    | some b =>
      simp [hs] at hx; subst hx
      cases j with
      | succ j => simp [byteV, PV.cells] at hp
      | zero =>
        simp [byteV, PV.cells] at hp; subst hp
        exact ⟨.int .u8 b.toNat, by simp [hs], rfl, .int _ _⟩
  · obtain ⟨b, _, rfl⟩ := Array.mem_map.1 hu; rfl

theorem go_appS (hI : Inv P E g h w) (hT : TRel P g t a.tmps) {c : Call} {x y : Operand} {x' y' : Od} {S T e : TypeId} {i : TypeInfo} {z : Value} {zp : PV} (ho : o.op = .call c) (hc : c.callee = .builtin .append)
    (ha : c.args.toList = [x, y]) (hat : c.argTypes.toList = [S, T]) (hS : P.underlying S = some (.slice e)) (hTt : P.underlying T = some .string) (hi : P.info? e = some i) (hz : i.zero = some z) (hzp : ofValue z = some zp)
    (hb : i.size = 1 ∧ i.bytes = 1) (hzl : zp.cells.length = 1 ∧ zp.okc = true) (hx : cOd P x = some x') (hy : cOd P y = some y') (hk : vcOp P g0 (.appS x' y') t h K) : Goes P E g o a w K := by
  have rx := cOd_rel hT hx
  have ry := cOd_rel hT hy
  simp only [vcOp] at hk
  cases ey : ev t y' <;> rw [ey] at hk ry <;> simp only at hk
  rename_i s
  obtain ⟨r1, r2, r3⟩ := bytes_row (P := P) (g := g) s
  rw [← hb.1] at r1 r2
  refine Goes.append ho hc ha hat (append_sound (ys := s.map byteV) hI hS hTt (.inr rfl) hi hz hzp (by rw [hb.1]; exact hzl.1) hzl.2 (by omega) (by omega) rx ?_ (fun k => ?_) r1 r2 r3 (by rw [hb.1, hb.2]; exact hk))
  · rw [ry.str_inv]; simp [Builtin.lenOf]; rfl
  · rw [ry.str_inv]
    simp only [Builtin.firstCells, Sem.run_pure]
    congr 1
    rw [ByteArray.data_extract]
    apply Array.ext'
    simp

theorem freeze_alloc (W : World) (c : Array Value) (T : TypeId) (n : Nat) : (W.alloc (.cells c T)).freeze ⟨W.heap.size, n, none⟩ 1 = W.alloc (.cells c T (n, n + 1)) := by
  have hh : ((W.heap.push (.cells c T)).modify W.heap.size fun
      | .cells c elem (lo, hi) => .cells c elem (if lo == hi then (n, n + 1) else (min lo n, max hi (n + 1)))
      | o => o) = W.heap.push (.cells c T (n, n + 1)) := by
    apply Array.ext
    · simp
    · intro i h1 h2
      rw [Array.getElem_modify]
      simp only [Array.size_push] at h2
      by_cases e : i = W.heap.size
      · subst e; simp
      · rw [if_neg (by omega), Array.getElem_push_lt (by omega), Array.getElem_push_lt (by omega)]
  unfold World.freeze
  rw [if_neg (by omega)]
  exact congrArg (fun hp => ({ W with heap := hp } : World)) hh

theorem go_s2b (hI : Inv P E g h w) (hT : TRel P g t a.tmps) {S D e : TypeId} {x : Operand} {x' : Od} (ho : o.op = .convert S D x) (hs : P.underlying S = some .string) (hd : P.underlying D = some (.slice e)) (he : P.underlying e = some (.int .u8))
    (hx : cOd P x = some x') (hk : vcOp P g0 (.s2b x') t h K) : Goes P E g o a w K := by
  have rx := cOd_rel hT hx
  simp only [vcOp] at hk
  cases ex : ev t x' <;> rw [ex] at hk rx <;> simp only at hk
  rename_i s
  obtain ⟨r1, r2, r3⟩ := bytes_row (P := P) (g := g) s
  let q : Question := .appendCap s.length 0 e
  let cap := q.cut (w.tape w.drawn q)
  let cells : Array Value := ((s.toArray).map fun b => Value.int .u8 b.toNat) ++ Array.replicate (cap - s.length) (.int .u8 0)
  have hcap : s.length ≤ cap := by show s.length ≤ s.length + _ % _; omega
  have hrow : RowRel P g 1 (s.map byteV) cells := ⟨r1.1, by simp [cells], fun i x j p hx hp => by
    obtain ⟨v, v1, v2⟩ := r1.2.2 i x j p hx hp
    exact ⟨v, by rw [Array.getElem?_append_left (Array.getElem?_eq_some_iff.1 v1).1]; exact v1, v2⟩⟩
  obtain ⟨g', q1, q2, q3⟩ := (hI.drawn (w.drawn + 1)).newList e (cells.size, cells.size + 1) hrow
  refine ⟨_, .slice (some ⟨w.heap.size, 0, none⟩) s.length cap, _, _, _, g', ?_, .inl rfl, hk, q1, q2, ?_⟩
  · have hq : Question.forced q = false := rfl
    have hconv : (convert S D (.string ⟨⟨s⟩⟩)).run P w = .ok (.slice (some ⟨w.heap.size, 0, none⟩) s.length cap) (({ w with drawn := w.drawn + 1 } : World).alloc (.cells cells e (cells.size, cells.size + 1))) := by
      simp only [convert, Sem.run_bind, underlying_run hs, underlying_run hd, underlying_run he, Result.andThen_ok, Conv.stringToBytes, show (⟨⟨s⟩⟩ : ByteArray).size = s.length from rfl, run_choose]
      rw [if_neg (by rw [show Question.forced (Question.appendCap s.length 0 e) = false from rfl]; simp)]
      simp only [Result.andThen_ok, newRow, Sem.run_bind, run_newObj_alloc, Sem.run_pure, markStringish, run_shape]
      have hshape : ∀ (W : World) (o : Obj), (W.alloc o).shape? W.heap.size = match o with | .cells c T _ => some (T, c.size) | _ => none := by
        intro W o
        have : (W.alloc o).heap[W.heap.size]? = some o := by show (W.heap.push o)[W.heap.size]? = _; simp
        simp only [World.shape?, this]
        cases o <;> rfl
      have hs2 := hshape { w with drawn := w.drawn + 1 } (.cells cells e)
      simp only at hs2
      rw [show (((⟨⟨s⟩⟩ : ByteArray).data.map fun b => Value.int .u8 b.toNat) ++ Array.replicate (Question.cut (Question.appendCap s.length 0 e) (w.tape w.drawn (Question.appendCap s.length 0 e)) - s.length) (Value.int .u8 0)) = cells from rfl]
      rw [hs2]
      simp only [Sem.run_pure, run_freeze, Result.andThen_ok]
      rw [freeze_alloc]
    simp only [execOp, ho, rx.str_inv, Sem.run_bind, hconv, Result.andThen_ok, Sem.run_pure]
  · have := VRel.sl (P := P) (g := g') (sz := 1) (xs := s.map byteV) (full := false) (a := ⟨w.heap.size, 0, none⟩) (cap := cap) (by simpa using hcap) (fun e => by cases e) r1.1 (fun _ => rfl) (fun k x j p hx hp => by simpa using q3 k x j p hx hp)
    simpa using this

/-- A row that is marked as a string's: its mark lies behind its cells. -/
theorem Inv.stringish {E : Env} (hI : Inv P E g h w) {id b : Nat} {sz : Nat} {es : List PV} (ho : h[id]? = some (.arr sz es true)) (hm : g.m id = some b) (a : Addr) (ha : a.block = b) :
    ∃ w', (markStringish a).run P w = .ok () w' ∧ Inv P E g h w' := by
  obtain ⟨c, T, fr, c1, c2, c3, c4, c5, c6⟩ := hI.obj id _ b ho hm
  have hlt := (Array.getElem?_eq_some_iff.1 c1).1
  have hcell := (Array.getElem?_eq_some_iff.1 c1).2
  have hshape : w.shape? b = some (T, c.size) := by simp [World.shape?, c1]
  refine ⟨w.freeze ⟨b, c.size, none⟩ 1, ?_, ?_⟩
  · simp only [markStringish, Sem.run_bind, run_shape, Result.andThen_ok, ha, hshape, run_freeze]
  · have hw : w.freeze ⟨b, c.size, none⟩ 1 = { w with heap := w.heap.setIfInBounds b (.cells c T (if fr.1 == fr.2 then (c.size, c.size + 1) else (min fr.1 c.size, max fr.2 (c.size + 1)))) } := by
      unfold World.freeze
      rw [if_neg (by omega)]
      congr 1
      apply Array.ext
      · simp
      · intro i h1 h2
        rw [Array.getElem_modify, Array.getElem_setIfInBounds]
        · by_cases e : b = i
          · subst e; simp only [if_true, hcell]
          · simp [e]
        · simpa using h1
    have hself : h.set id (.arr sz es true) = h := by
      apply List.ext_getElem?
      intro i
      rw [List.getElem?_set]
      split
      · rename_i e; subst e; split
        · exact ho.symm
        · rename_i hn; exact absurd (List.getElem?_eq_some_iff.1 ho).1 hn
      · rfl
    rw [hw, ← hself]
    refine hI.set ho rfl hm (Only.setBlock w b _) ⟨c, T, (if fr.1 == fr.2 then (c.size, c.size + 1) else (min fr.1 c.size, max fr.2 (c.size + 1))), Array.getElem?_setIfInBounds_self_of_lt hlt, c2, c3, c4, c5, fun _ => ?_⟩
    split
    · exact .inr (Nat.le_refl _)
    · rename_i hne
      rcases c6 rfl with hq | hq
      · simp [hq] at hne
      · right; show c.size ≤ min fr.1 c.size; omega

theorem go_b2b (hI : Inv P E g h w) (hT : TRel P g t a.tmps) {S e : TypeId} {x : Operand} {x' : Od} (ho : o.op = .convert S S x) (hs : P.underlying S = some (.slice e)) (he : P.underlying e = some (.int .u8))
    (hx : cOd P x = some x') (hk : vcOp P g0 (.b2b x') t h K) : Goes P E g o a w K := by
  have rx := cOd_rel hT hx
  simp only [vcOp] at hk
  cases ex : ev t x' <;> rw [ex] at hk rx <;> simp only at hk
  rename_i id sz off len
  cases hid : h[id]? with
  | none => simp [hid] at hk
  | some ob =>
    cases ob <;> simp only [hid] at hk
    rename_i asz es wr
    cases wr <;> simp only at hk
    have rx2 := rx
    obtain ⟨b, cap, o', hev, hm, hcap, hbs, hoo⟩ := rx2.asl_inv
    obtain ⟨w', w1, w2⟩ := hI.stringish hid hm ⟨b, o', none⟩ rfl
    refine ⟨_, .slice (some ⟨b, o', none⟩) len cap, w', _, _, g, ?_, .inl rfl, hk, Gh.le.refl g, w2, by rw [hev] at rx; exact rx⟩
    have hconv : (convert S S (.slice (some ⟨b, o', none⟩) len cap)).run P w = .ok (.slice (some ⟨b, o', none⟩) len cap) w' := by
      simp only [convert, Sem.run_bind, underlying_run hs, underlying_run he, Result.andThen_ok, beq_self_eq_true, w1, Sem.run_pure]
    simp only [execOp, ho, hev, Sem.run_bind, hconv, Result.andThen_ok, Sem.run_pure]

end Go.Avm

/- Each operation of the model does what the abstract machine says: make, maps. -/
namespace Go.Avm
open Go Go.RowKit

variable {P : Program} {E : Env} {g : Gh} {h : AH} {w : World} {t : TM} {a : Act} {g0 : Gh} {o : Oper} {K : PV → AH → Prop}

theorem RowRel.take {sz : Nat} {es : List PV} {c : Array Value} (h : RowRel P g sz es c) (k : Nat) : RowRel P g sz (es.take k) c := by
  obtain ⟨h1, h2, h3⟩ := h
  refine ⟨fun x hx => h1 x (List.mem_of_mem_take hx), Nat.le_trans (Nat.mul_le_mul_right _ (by simp; omega)) h2, fun i x j p hx hp => ?_⟩
  rw [List.getElem?_take] at hx
  split at hx
  · exact h3 i x j p hx hp
  · cases hx

theorem go_mks (hI : Inv P E g h w) (hT : TRel P g t a.tmps) {T e : TypeId} {i : TypeInfo} {z : Value} {zp : PV} {l c : Operand} {l' c' : Od} (ho : o.op = .makeSlice T l c) (hd : P.underlying T = some (.slice e)) (hi : P.info? e = some i)
    (hz : i.zero = some z) (hzp : ofValue z = some zp) (hl : cOd P l = some l') (hc : cOd P c = some c') (hk : vcOp P g0 (.mks i.size i.bytes zp l' c') t h K) : Goes P E g o a w K := by
  have rl := cOd_rel hT hl
  have rc := cOd_rel hT hc
  simp only [vcOp] at hk
  cases el : ev t l' <;> rw [el] at hk rl <;> cases ec : ev t c' <;> rw [ec] at hk rc <;> simp only at hk
  rename_i k n k' m
  obtain ⟨b1, b2, k1, k2, hroom, hk⟩ := hk
  have hm : m ≤ 70368744177664 := by have := hroom.1; omega
  have wn : IntKind.i64.wrap n = n := wrap_inR_i64 (inR_i64.2 (by omega))
  have wm : IntKind.i64.wrap m = m := wrap_inR_i64 (inR_i64.2 (by omega))
  have hbytes : (i.bytes : Int) * m ≤ 70368744177664 := by
    have := hroom.2
    have e1 : ((m.toNat * i.bytes : Nat) : Int) = (i.bytes : Int) * m := by rw [Int.natCast_mul, Int.toNat_of_nonneg (by omega), Int.mul_comm]
    omega
  let cells : Array Value := (Array.range (m.toNat * i.size)).map ((if m.toNat * i.size = 0 then #[] else z.cells)[· % (if m.toNat * i.size = 0 then #[] else z.cells).size]!)
  have hrow : RowRel P g i.size (List.replicate n.toNat zp) cells := by
    by_cases h0 : m.toNat * i.size = 0
    · have hsz : cells.size = 0 := by simp [cells, h0]
      have hn : n.toNat * i.size = 0 := by
        have : n.toNat * i.size ≤ m.toNat * i.size := Nat.mul_le_mul_right _ (by omega)
        omega
      refine ⟨fun x hx => by rw [(List.mem_replicate.1 hx).2]; exact k1, by simp [hn], fun j x q p hx hp => ?_⟩
      have hj : j < n.toNat := by have := (List.getElem?_eq_some_iff.1 hx).1; simpa using this
      have hxz : x = zp := (List.mem_replicate.1 (List.mem_of_getElem? hx)).2
      subst hxz
      have hq : q < i.size := by rw [← k1]; exact (List.getElem?_eq_some_iff.1 hp).1
      exfalso
      have : 0 < n.toNat * i.size := Nat.mul_pos (by omega) (by omega)
      omega
    · have := (zeros_row (P := P) (g := g) (ofValue_rel hzp) k2 k1 m.toNat).take n.toNat
      rw [List.take_replicate, Nat.min_eq_left (by omega)] at this
      simpa [cells, h0] using this
  obtain ⟨g', q1, q2, q3, q4⟩ := hI.newRowE e true hrow
  refine ⟨_, .slice (some ⟨w.heap.size, 0, none⟩) n.toNat m.toNat, _, _, _, g', ?_, .inl rfl, hk, q1, q2, ?_⟩
  · have hc1 : ¬ ((((decide (m < 0) || decide ((i.bytes : Int) * m > 2 ^ 48)) = true ∨ n < 0) ∨ n > m)) := by
      simp only [Bool.or_eq_true, decide_eq_true_eq]; omega
    have hc2 : ((((decide (m < 0) || decide ((i.bytes : Int) * m > 2 ^ 48)) || decide (n < 0)) || decide (n > m)) = true) = False := by
      simp only [Bool.or_eq_true, decide_eq_true_eq, eq_iff_iff, iff_false]; omega
    simp only [execOp, ho, Instr.makeSlice, Sem.run_bind, underlying_run hd, Result.andThen_ok, rl.int_inv, rc.int_inv, asInt, asIntOf, Sem.run_pure, typeInfo_run hi, wn, wm, hc2, if_false, sizeOf_run hi, run_askRoom]
    by_cases h0 : m.toNat * i.size = 0
    · simp only [if_pos h0, Sem.run_bind, Sem.run_pure, Result.andThen_ok]
      simp only [cells, if_pos h0]
      rfl
    · simp only [if_neg h0, Sem.run_bind, Sem.run_pure, Result.andThen_ok, zeroValue_run hi hz]
      simp only [cells, if_neg h0]
      rfl
  · have hcs : cells.size = m.toNat * i.size := by simp [cells]
    have := VRel.asl (P := P) (sz := i.size) (off := 0) (len := n.toNat) (cap := m.toNat) q3 (by omega) (by rw [q4, hcs]; simp) (.inr rfl)
    simpa using this

theorem go_mkm (hI : Inv P E g h w) {T : TypeId} (ho : o.op = .makeMap T none) (hk : vcOp P g0 .mkm t h K) : Goes P E g o a w K := by
  simp only [vcOp] at hk
  have hle := hI.ext_le 0 default
  refine ⟨_, .map (some w.heap.size), w.alloc (.map #[] 0), _, _, g.ext h.length w.heap.size 0 default, ?_, .inl rfl, hk, hle, hI.alloc _ _ _ _ ?_, ?_⟩
  · simp [execOp, ho, Instr.makeMap]
  · exact ⟨#[], 0, rfl, rfl, by simp, by simp⟩
  · exact .map (by simp [Gh.ext])

/-- A plain value may be a key. -/
theorem checkKey_run (b : Bool) : ∀ (n m : Nat) (t : TypeId) (s : List Kd), sigT P n t = some s → n ≤ m → ∀ (x : Value) (p : PV) (td : TypeDesc), P.underlying t = some td → VRel P g p x →
    sigOk s p.cells = true → p.isAgg = isAggD td → (Instr.checkKey b m t x).run P w = .ok () w
  | 0, _, _, _, h, _ => by simp [sigT] at h
  | n + 1, 0, _, _, _, h => by omega
  | n + 1, m + 1, t, s, hs, hd => by
    intro x p td htd hx hp ap
    rw [sigT, htd] at hs
    rw [Instr.checkKey]
    cases td with
    | int k => simp only [Sem.run_bind, underlying_run htd, Result.andThen_ok]; rfl
    | string => simp only [Sem.run_bind, underlying_run htd, Result.andThen_ok]; rfl
    | bool => simp only [Sem.run_bind, underlying_run htd, Result.andThen_ok]; rfl
    | struct fs =>
      simp only at hs
      cases hst : P.stoodInHeld t with
      | true => simp [hst] at hs
      | false =>
        simp only [hst, Bool.false_eq_true, if_false] at hs
        simp only [isAggD] at ap
        cases p <;> simp [PV.isAgg] at ap
        rename_i cs
        obtain ⟨vs, rfl, hl, hr⟩ := hx.agg_inv
        simp only [PV.cells] at hp
        simp only [Sem.run_bind, underlying_run htd, Result.andThen_ok]
        rw [← Array.forIn_toList]
        have key : ∀ (l : List Field) (at_ : Nat) (s' : List Kd), at_ ≤ cs.length → sigF P (sigT P n) l at_ = some s' → sigOk s' (cs.drop at_) = true →
            (forIn l PUnit.unit (fun f (_ : PUnit) => do
              if f.name ≠ "_" then Instr.checkKey b m f.type (← part f.type vs f.offset)
              pure (ForInStep.yield PUnit.unit) : Field → PUnit → Sem (ForInStep PUnit))).run P w = .ok PUnit.unit w := by
          intro l
          induction l with
          | nil => intro at_ s' _ _ _; rfl
          | cons f l ih =>
            intro at_ s' hle h1 h2
            simp only [sigF] at h1
            cases hsub : sigT P n f.type with
            | none => simp [hsub] at h1
            | some sf =>
              cases hi : P.info? f.type with
              | none => simp [hsub, hi] at h1
              | some fi =>
                simp only [hsub, hi] at h1
                split at h1
                · rename_i hc
                  obtain ⟨c1, c2, c3⟩ := hc
                  simp only [Option.map_eq_some_iff] at h1
                  obtain ⟨s2, h4, rfl⟩ := h1
                  obtain ⟨a1, a2⟩ := sigOk_append h2
                  have la := sigOk_length h2
                  simp only [List.length_append, List.length_drop] at la
                  rw [List.drop_drop] at a2
                  have ih' := ih (at_ + sf.length) s2 (by omega) h4 a2
                  obtain ⟨fd, hfd⟩ : ∃ fd, P.underlying f.type = some fd := by
                    cases hu : P.underlying f.type with
                    | some fd => exact ⟨fd, rfl⟩
                    | none => cases n <;> simp [sigT, hu] at hsub
                  have hcase : ∃ (x1 : Value) (p1 : PV), (part f.type vs f.offset).run P w = .ok x1 w ∧ VRel P g p1 x1 ∧ p1.cells = (cs.drop at_).take sf.length ∧ p1.isAgg = isAggD fd := by
                    rw [c2]
                    cases hag : isAggD fd with
                    | true =>
                      refine ⟨_, _, part_run_agg hfd hag hi, VRel.sub hl hr at_ fi.size (by rw [c3]; omega), ?_, rfl⟩
                      rw [c3]; rfl
                    | false =>
                      have hone : sf.length = 1 := by
                        cases n with
                        | zero => simp [sigT] at hsub
                        | succ q =>
                          rw [sigT, hfd] at hsub
                          cases fd <;> simp [isAggD] at hag <;> simp at hsub <;> subst hsub <;> rfl
                      rw [hone]
                      have k1 : at_ < cs.length := by omega
                      have v1 : at_ < vs.size := by omega
                      have t1 : (cs.drop at_).take 1 = [cs[at_]] := by rw [List.drop_eq_getElem_cons k1]; rfl
                      rw [hone, t1] at a1
                      have g1 : (cs[at_]).cells = [cs[at_]] ∧ (cs[at_]).isAgg = false := by
                        revert a1; cases sf with
                        | nil => simp at hone
                        | cons k r => cases r with
                          | nil => intro a1; cases hz : cs[at_] <;> rw [hz] at a1 <;> first | exact ⟨rfl, rfl⟩ | (cases k <;> simp [sigOk, kdOk] at a1)
                          | cons _ _ => simp at hone
                      refine ⟨vs[at_], cs[at_], part_run_one hfd hag (Array.getElem?_eq_getElem v1), hr at_ _ _ (List.getElem?_eq_getElem k1) (Array.getElem?_eq_getElem v1), ?_, g1.2⟩
                      rw [t1]; exact g1.1
                  obtain ⟨x1, p1, r1, r3, r5, r7⟩ := hcase
                  have hck := checkKey_run b n m f.type sf hsub (by omega) x1 p1 fd hfd r3 (by rw [r5]; exact a1) r7
                  rw [List.forIn_cons]
                  simp only [if_pos c1, Sem.run_bind, r1, Result.andThen_ok, hck, Sem.run_pure]
                  exact ih'
                · cases h1
        have hfin := key fs.toList 0 s (Nat.zero_le _) hs hp
        simp at hfin ⊢
        rw [hfin]; rfl
    | _ => simp at hs

theorem plain_eq : ∀ {s : List Kd} {cs ds : List PV}, sigOk s cs = true → sigOk s ds = true → cellsEq cs ds = true → cs = ds
  | [], [], [], _, _, _ => rfl
  | [], _ :: _, _, h, _, _ => by simp [sigOk] at h
  | [], [], _ :: _, _, h, _ => by simp [sigOk] at h
  | _ :: _, [], _, h, _, _ => by simp [sigOk] at h
  | _ :: _, _ :: _, [], _, h, _ => by simp [sigOk] at h
  | k :: s, c :: cs, d :: ds, h1, h2, h3 => by
    simp only [sigOk, Bool.and_eq_true, cellsEq] at h1 h2 h3
    rw [plain_eq h1.2 h2.2 h3.2]
    congr 1
    cases k <;> cases c <;> simp [kdOk] at h1 <;> cases d <;> simp [kdOk] at h2 <;> simp [cellEq] at h3
    · rw [h3.1, ← h1.1, ← h2.1]
    · rw [h3.1]
    · rw [h3.1]

theorem plain_val {s : List Kd} {p : PV} {x y : Value} {ag : Bool} (hp : keyOk s ag p = true) (hx : VRel P g p x) (hy : VRel P g p y) : x = y := by
  have one : ∀ {k : Kd} {q : PV} {u v : Value}, kdOk k q = true → VRel P g q u → VRel P g q v → u = v := by
    intro k q u v hk hu hv
    cases k <;> cases q <;> simp [kdOk] at hk
    · rw [hu.int_inv, hv.int_inv]
    · rw [hu.str_inv, hv.str_inv]
    · rw [hu.bool_inv, hv.bool_inv]
  simp only [keyOk, Bool.and_eq_true, beq_iff_eq] at hp
  obtain ⟨h1, h2⟩ := hp
  have cell : ∀ {s : List Kd} {cs : List PV}, sigOk s cs = true → ∀ (i : Nat) (q : PV), cs[i]? = some q → ∃ k, kdOk k q = true := by
    intro s
    induction s with
    | nil => intro cs h i q hq; cases cs <;> simp [sigOk] at h hq
    | cons k s ih =>
      intro cs h i q hq
      cases cs with
      | nil => simp at hq
      | cons c cs =>
        simp only [sigOk, Bool.and_eq_true] at h
        cases i with
        | zero => simp at hq; subst hq; exact ⟨k, h.1⟩
        | succ i => simp at hq; exact ih h.2 i q hq
  cases hx with
  | agg hl hr =>
    rename_i cs vs
    obtain ⟨us, rfl, hl', hr'⟩ := hy.agg_inv
    congr 1
    apply Array.ext (by omega)
    intro i h3 h4
    have hlt : i < cs.length := by omega
    obtain ⟨k, hk⟩ := cell (cs := cs) h1 i cs[i] (List.getElem?_eq_getElem hlt)
    exact one hk (hr i _ _ (List.getElem?_eq_getElem hlt) (Array.getElem?_eq_getElem h3)) (hr' i _ _ (List.getElem?_eq_getElem hlt) (Array.getElem?_eq_getElem h4))
  | int k n => exact hy.int_inv.symm
  | str l => exact hy.str_inv.symm
  | bool b => exact hy.bool_inv.symm
  | _ =>
    exfalso
    simp only [PV.cells] at h1
    cases s with
    | nil => simp [sigOk] at h1
    | cons k s => cases k <;> simp [sigOk, kdOk] at h1

theorem sameBits_plain {s : List Kd} {p : PV} {x : Value} {ag : Bool} (hp : keyOk s ag p = true) (hx : VRel P g p x) : Instr.sameBits 10000 x x = true := by
  have one : ∀ {k : Kd} {q : PV} {u : Value} (n : Nat), kdOk k q = true → VRel P g q u → Instr.sameBits n u u = true := by
    intro k q u n hk hu
    cases k <;> cases q <;> simp [kdOk] at hk
    · rw [hu.int_inv]; cases n <;> simp [Instr.sameBits]
    · rw [hu.str_inv]; cases n <;> simp [Instr.sameBits, beq_toListBytes]
    · rw [hu.bool_inv]; cases n <;> simp [Instr.sameBits]
  have cell : ∀ {s : List Kd} {cs : List PV}, sigOk s cs = true → ∀ (i : Nat) (q : PV), cs[i]? = some q → ∃ k, kdOk k q = true := by
    intro s
    induction s with
    | nil => intro cs h i q hq; cases cs <;> simp [sigOk] at h hq
    | cons k s ih =>
      intro cs h i q hq
      cases cs with
      | nil => simp at hq
      | cons c cs =>
        simp only [sigOk, Bool.and_eq_true] at h
        cases i with
        | zero => simp at hq; subst hq; exact ⟨k, h.1⟩
        | succ i => simp at hq; exact ih h.2 i q hq
  simp only [keyOk, Bool.and_eq_true, beq_iff_eq] at hp
  obtain ⟨h1, h2⟩ := hp
  cases hx with
  | agg hl hr =>
    rename_i cs vs
    rw [show (10000 : Nat) = 9999 + 1 from rfl, Instr.sameBits]
    simp only [beq_self_eq_true, Bool.true_and, List.all_eq_true]
    intro y hy
    obtain ⟨i, hi, rfl⟩ := List.getElem_of_mem hy
    simp only [List.length_zip, Array.length_toList, Nat.min_self] at hi
    simp only [List.getElem_zip, Array.getElem_toList]
    have hlt : i < cs.length := by omega
    obtain ⟨k, hk⟩ := cell (cs := cs) h1 i cs[i] (List.getElem?_eq_getElem hlt)
    exact one _ hk (hr i _ _ (List.getElem?_eq_getElem hlt) (Array.getElem?_eq_getElem hi))
  | int k n => simp [Instr.sameBits]
  | str l => simp [Instr.sameBits, beq_toListBytes]
  | bool b => simp [Instr.sameBits]
  | _ =>
    exfalso
    simp only [PV.cells] at h1
    cases s with
    | nil => simp [sigOk] at h1
    | cons k s => cases k <;> simp [sigOk, kdOk] at h1


theorem splice_row {sz off : Nat} {es ys : List PV} {c d : Array Value} (h1 : RowRel P g sz es c) (h2 : RowRel P g sz ys d) (hd : d.size = ys.length * sz) (hle : off + ys.length ≤ es.length) :
    RowRel P g sz (es.take off ++ ys ++ es.drop (off + ys.length)) (putAt c (off * sz) d.toList) := by
  obtain ⟨a1, a2, a3⟩ := h1
  obtain ⟨b1, b2, b3⟩ := h2
  have hmul : (off + ys.length) * sz = off * sz + ys.length * sz := Nat.add_mul _ _ _
  have hle' : (off + ys.length) * sz ≤ es.length * sz := Nat.mul_le_mul_right _ hle
  refine ⟨fun x hx => ?_, ?_, fun i x j p hx hp => ?_⟩
  · rcases List.mem_append.1 hx with hx | hx
    · rcases List.mem_append.1 hx with hx | hx
      · exact a1 x (List.mem_of_mem_take hx)
      · exact b1 x hx
    · exact a1 x (List.mem_of_mem_drop hx)
  · rw [putAt_size]
    have : (es.take off ++ ys ++ es.drop (off + ys.length)).length = es.length := by simp; omega
    rw [this]; exact a2
  rw [putAt_get _ _ _ _ (by rw [Array.length_toList]; omega), Array.length_toList]
  by_cases hi : i < off
  · rw [List.append_assoc, List.getElem?_append_left (by simp; omega), List.getElem?_take_of_lt hi] at hx
    have hxl := a1 x (List.mem_of_getElem? hx)
    have hj : j < sz := by rw [← hxl]; exact (List.getElem?_eq_some_iff.1 hp).1
    have : i * sz + sz ≤ off * sz := by rw [← Nat.succ_mul]; exact Nat.mul_le_mul_right _ hi
    rw [if_neg (by omega)]
    exact a3 i x j p hx hp
  · by_cases hi2 : i < off + ys.length
    · rw [List.append_assoc, List.getElem?_append_right (by simp; omega), List.length_take, Nat.min_eq_left (by omega), List.getElem?_append_left (by omega)] at hx
      obtain ⟨v, v1, v2⟩ := b3 _ x j p hx hp
      have hk : i * sz + j = off * sz + ((i - off) * sz + j) := by
        rw [← Nat.add_assoc, ← Nat.add_mul, show off + (i - off) = i by omega]
      have hlt : (i - off) * sz + j < d.size := (Array.getElem?_eq_some_iff.1 v1).1
      rw [if_pos (by omega), hk, Nat.add_sub_cancel_left]
      exact ⟨v, by simpa using v1, v2⟩
    · rw [List.getElem?_append_right (by simp; omega)] at hx
      simp only [List.length_append, List.length_take, Nat.min_eq_left (show off ≤ es.length by omega), List.getElem?_drop, show off + ys.length + (i - (off + ys.length)) = i by omega] at hx
      have : (off + ys.length) * sz ≤ i * sz := Nat.mul_le_mul_right _ (by omega)
      rw [if_neg (by omega)]
      exact a3 i x j p hx hp

/-- A part of an own row is written. -/
theorem Inv.splice (hI : Inv P E g h w) {id b sz off : Nat} {es ys : List PV} {d : Array Value} (ho : h[id]? = some (.arr sz es true)) (hm : g.m id = some b) (hr : RowRel P g sz ys d) (hd : d.size = ys.length * sz)
    (h1 : ∀ v ∈ d.toList, v.oneCell' = true) (hle : off + ys.length ≤ es.length) :
    ∃ w', (storeCells ⟨b, off * sz, none⟩ d.toList).run P w = .ok () w' ∧ Inv P E g (h.set id (.arr sz (es.take off ++ ys ++ es.drop (off + ys.length)) true)) w' := by
  obtain ⟨c, T, fr, c1, c2, c3, c4, c5, c6⟩ := hI.obj id _ b ho hm
  have hmul : (off + ys.length) * sz = off * sz + ys.length * sz := Nat.add_mul _ _ _
  have hle' : (off + ys.length) * sz ≤ es.length * sz := Nat.mul_le_mul_right _ hle
  obtain ⟨w', w1, w2, w3⟩ := storeCells_run (P := P) b (off * sz) T fr d.toList w c 0 c1 h1 (by rw [Array.length_toList]; omega) (c6 rfl).not
  obtain ⟨r1, r2, r3⟩ := splice_row ⟨c3, c4, c5⟩ hr hd hle
  refine ⟨w', w1, hI.set ho rfl hm w2 ⟨_, T, fr, w3, by rw [putAt_size]; exact c2, r1, r2, r3, fun _ => by rw [putAt_size]; exact c6 rfl⟩⟩

theorem go_clr (hI : Inv P E g h w) (hT : TRel P g t a.tmps) {c : Call} {x : Operand} {x' : Od} {T e : TypeId} {i : TypeInfo} {z : Value} {zp : PV} (ho : o.op = .call c) (hc : c.callee = .builtin .clear)
    (ha : c.args.toList = [x]) (hat : c.argTypes.toList = [T]) (hS : P.underlying T = some (.slice e)) (hi : P.info? e = some i) (hz : i.zero = some z) (hzp : ofValue z = some zp)
    (hx : cOd P x = some x') (hk : vcOp P g0 (.clr i.size zp x') t h K) : Goes P E g o a w K := by
  have rx := cOd_rel hT hx
  simp only [vcOp] at hk
  have fin : ∀ (r : Value) (w' : World) (h' : AH), (Builtin.clear_ #[T] o.type #[a.eval x]).run P w = .ok r w' → K (.tuple []) h' → Inv P E g h' w' → r = .tuple #[] → Goes P E g o a w K := fun r w' h' h1 h2 h3 h4 => by
    refine ⟨_, r, w', _, h', g, ?_, .inl rfl, h2, Gh.le.refl g, h3, by rw [h4]; exact .tuple rfl (by simp)⟩
    rw [builtin_run ho hc, args_map ha, types_arr hat]
    simp only [builtin, List.map_cons, List.map_nil, Sem.run_bind]
    rw [show ([a.eval x].toArray : Array Value) = #[a.eval x] from rfl, show ([T].toArray : Array TypeId) = #[T] from rfl, h1]
    rfl
  cases ex : ev t x' <;> rw [ex] at hk rx <;> simp only at hk
  · rename_i sz xs full nl
    obtain ⟨h0, hk⟩ := hk
    have h0' : xs = [] := List.length_eq_zero_iff.1 h0
    subst h0'
    generalize a.eval x = v at rx fin
    cases rx with
    | slnil => exact fin (.tuple #[]) w h (by simp [Builtin.clear_, underlying_run hS]) hk hI rfl
    | sl hcap hf hs hsp hF => exact fin (.tuple #[]) w h (by simp [Builtin.clear_, underlying_run hS]) hk hI rfl
  · rename_i id sz' off len
    obtain ⟨b, cap, o', hev, hm, hcap, hbs, hoo⟩ := rx.asl_inv
    split at hk
    · rename_i asz es hid
      obtain ⟨rfl, rfl, k3, k4, k5, hk⟩ := hk
      obtain ⟨c0, T0, fr, c1, c2, c3, c4, c5, c6⟩ := hI.obj id _ b hid hm
      by_cases hl : len = 0
      · subst hl
        refine fin (.tuple #[]) w _ (by rw [hev]; simp [Builtin.clear_, underlying_run hS]) hk ?_ rfl
        have he : es.take off ++ List.replicate 0 zp ++ es.drop (off + 0) = es := by simp
        rw [he]
        exact hI.turn hid rfl hm ⟨c0, T0, fr, c1, c2, c3, c4, c5, c6⟩
      · have hrow := zeros_row (P := P) (g := g) (ofValue_rel hzp) k4 k3 len
        obtain ⟨z1, z2, z3⟩ := (ofValue_rel (P := P) (g := g) hzp).cells k4
        have hzs : z.cells.size = i.size := by omega
        obtain ⟨w', w1, w2⟩ := hI.splice (off := off) (ys := List.replicate len zp) (d := Builtin.zeroCells z.cells len) hid hm (by show RowRel P g i.size _ ((Array.range (len * z.cells.size)).map fun i => z.cells[i % z.cells.size]!); rw [show len * z.cells.size = len * i.size by rw [hzs]]; exact hrow) (by simp [Builtin.zeroCells, hzs]) (fun v hv => by
          simp only [Builtin.zeroCells, Array.toList_map, List.mem_map] at hv
          obtain ⟨q, hq, rfl⟩ := hv
          have hq' : q < len * z.cells.size := by simpa using hq
          have hpos : 0 < z.cells.size := by
            rcases Nat.eq_zero_or_pos z.cells.size with e | e
            · rw [e] at hq'; omega
            · exact e
          have hm' := Nat.mod_lt q hpos
          rw [getElem!_pos z.cells _ hm']
          exact z3 _ (Array.getElem_mem hm')) (by simpa using k5)
        rw [List.length_replicate] at w2
        have hcz : cap ≠ 0 := by omega
        refine fin (.tuple #[]) w' _ ?_ hk w2 rfl
        rw [hev, hoo.resolve_left hcz]
        obtain ⟨m, rfl⟩ : ∃ m, len = m + 1 := ⟨len - 1, by omega⟩
        simp [Builtin.clear_, underlying_run hS, zeroValue_run hi hz, w1]
    · exact hk.elim

end Go.Avm

/- Each operation of the model does what the abstract machine says: looking up and storing in maps. -/
namespace Go.Avm
open Go Go.RowKit

variable {P : Program} {E : Env} {g : Gh} {h : AH} {w : World} {t : TM} {a : Act} {g0 : Gh} {o : Oper} {K : PV → AH → Prop}

def mix (k : PV) : List (PV × PV) → Nat → Option (Nat × PV)
  | [], _ => none
  | e :: es, i => if cellsEq k.cells e.1.cells then some (i, e.2) else mix k es (i + 1)

theorem mfind_mix (k : PV) : ∀ (es : List (PV × PV)) (i : Nat), mfind k es = (mix k es i).map (·.2)
  | [], _ => rfl
  | e :: es, i => by
    simp only [mfind, mix]
    split
    · rfl
    · exact mfind_mix k es (i + 1)

theorem mix_some {k : PV} : ∀ {es : List (PV × PV)} {i j : Nat} {p : PV}, mix k es i = some (j, p) → i ≤ j ∧ ∃ q, es[j - i]? = some (q, p) ∧ cellsEq k.cells q.cells = true
  | [], _, _, _, h => by simp [mix] at h
  | e :: es, i, j, p, h => by
    simp only [mix] at h
    split at h
    · rename_i hc
      simp only [Option.some.injEq, Prod.mk.injEq] at h
      obtain ⟨rfl, rfl⟩ := h
      exact ⟨Nat.le_refl _, e.1, by simp, hc⟩
    · obtain ⟨h1, q, h2, h3⟩ := mix_some h
      refine ⟨by omega, q, ?_, h3⟩
      rw [show j - i = (j - (i + 1)) + 1 by omega]; simpa using h2

theorem mset_some {k v : PV} : ∀ {es : List (PV × PV)} {i j : Nat} {p : PV}, mix k es i = some (j, p) → mset k v es = es.set (j - i) (k, v)
  | [], _, _, _, h => by simp [mix] at h
  | e :: es, i, j, p, h => by
    simp only [mix] at h
    simp only [mset]
    split at h
    · rename_i hc
      simp only [Option.some.injEq, Prod.mk.injEq] at h
      obtain ⟨rfl, rfl⟩ := h
      rw [if_pos hc]; simp
    · rename_i hc
      obtain ⟨h1, _⟩ := mix_some h
      rw [if_neg hc, mset_some h, show j - i = (j - (i + 1)) + 1 by omega]; rfl

theorem mset_none {k v : PV} : ∀ {es : List (PV × PV)} {i : Nat}, mix k es i = none → mset k v es = es ++ [(k, v)]
  | [], _, _ => rfl
  | e :: es, i, h => by
    simp only [mix] at h
    simp only [mset]
    split at h
    · cases h
    · rename_i hc; rw [if_neg hc, mset_none h]; rfl

/-- The entries of a map and the pairs that they read as. -/
def EntsRel (P : Program) (g : Gh) (es : List (PV × PV)) (ents : List MapEntry) : Prop :=
  es.length = ents.length ∧ ∀ (i : Nat) (p : PV × PV) (e : MapEntry), es[i]? = some p → ents[i]? = some e → VRel P g p.1 e.key ∧ VRel P g p.2 e.val

theorem EntsRel.tail {p : PV × PV} {es : List (PV × PV)} {e : MapEntry} {ents : List MapEntry} (h : EntsRel P g (p :: es) (e :: ents)) : EntsRel P g es ents :=
  ⟨by simpa using h.1, fun i q u hq hu => h.2 (i + 1) q u (by simpa using hq) (by simpa using hu)⟩

def Found (k : PV) (es : List (PV × PV)) (ents : List MapEntry) (i : Nat) (r : Option (Nat × Value)) : Prop :=
  match mix k es i with
  | none => r = none
  | some (j, _) => ∃ e, ents[j - i]? = some e ∧ r = some (j, e.val)

theorem Found.cons_ne {k : PV} {p : PV × PV} {es : List (PV × PV)} {e : MapEntry} {ents : List MapEntry} {i : Nat} {r : Option (Nat × Value)} (hc : cellsEq k.cells p.1.cells = false) (h : Found k es ents (i + 1) r) : Found k (p :: es) (e :: ents) i r := by
  unfold Found at h ⊢
  simp only [mix, hc, Bool.false_eq_true, if_false]
  cases hm : mix k es (i + 1) with
  | none => rw [hm] at h; exact h
  | some x =>
    obtain ⟨j, q⟩ := x
    rw [hm] at h
    obtain ⟨e', h1, h2⟩ := h
    have := (mix_some hm).1
    exact ⟨e', by rw [show j - i = (j - (i + 1)) + 1 by omega]; simpa using h1, h2⟩

theorem Found.cons_eq {k : PV} {p : PV × PV} {es : List (PV × PV)} {e : MapEntry} {ents : List MapEntry} {i : Nat} (hc : cellsEq k.cells p.1.cells = true) : Found k (p :: es) (e :: ents) i (some (i, e.val)) := by
  unfold Found
  simp only [mix, hc, if_true]
  exact ⟨e, by simp, rfl⟩

theorem findAsking_run {kt : TypeId} {td : TypeDesc} {s : List Kd} (hs : sigT P 50 kt = some s) (htd : P.underlying kt = some td) {k : PV} {kv : Value} (hk : VRel P g k kv) (hok : keyOk s (isAggD td) k = true) :
    ∀ (es : List (PV × PV)) (ents : List MapEntry) (i : Nat), EntsRel P g es ents → keysOk s (isAggD td) es = true → ∃ r, (Instr.findAsking kt kv ents i).run P w = .ok r w ∧ Found k es ents i r
  | [], [], i, _, _ => ⟨none, rfl, rfl⟩
  | [], _ :: _, _, h, _ => by simp [EntsRel] at h
  | _ :: _, [], _, h, _ => by simp [EntsRel] at h
  | p :: es, e :: ents, i, h, hko => by
    simp only [keysOk, List.all_cons, Bool.and_eq_true] at hko
    simp only [keyOk, Bool.and_eq_true, beq_iff_eq] at hok
    have hp := hko.1
    simp only [keyOk, Bool.and_eq_true, beq_iff_eq] at hp
    have heq := equalIn_sig (P := P) (g := g) (w := w) 50 10000 kt s hs (by omega) kv e.key k p.1 td htd hk (h.2 0 p e rfl rfl).1 hok.1 hp.1 hok.2 hp.2
    have heq' : (Op.equal kt kv e.key).run P w = .ok (cellsEq k.cells p.1.cells) w := heq
    cases hc : cellsEq k.cells p.1.cells with
    | true => exact ⟨_, by simp [Instr.findAsking, heq', hc], Found.cons_eq hc⟩
    | false =>
      obtain ⟨r, r1, r2⟩ := findAsking_run hs htd hk (by simp [keyOk, hok]) es ents (i + 1) h.tail (by simpa [keysOk] using hko.2)
      exact ⟨r, by simp [Instr.findAsking, heq', hc, r1], Found.cons_ne hc r2⟩

theorem findNow_plain {td : TypeDesc} {s : List Kd} (hs : (∃ k, td = .int k ∧ s = [.int k]) ∨ (td = .string ∧ s = [.str]) ∨ (td = .bool ∧ s = [.bool])) {k : PV} {kv : Value} (hk : VRel P g k kv) (hok : keyOk s (isAggD td) k = true) :
    ∀ (es : List (PV × PV)) (ents : List MapEntry) (i : Nat), EntsRel P g es ents → keysOk s (isAggD td) es = true → ∃ r, Instr.findNow td kv ents i = some r ∧ Found k es ents i r
  | [], [], i, _, _ => ⟨none, rfl, rfl⟩
  | [], _ :: _, _, h, _ => by simp [EntsRel] at h
  | _ :: _, [], _, h, _ => by simp [EntsRel] at h
  | p :: es, e :: ents, i, h, hko => by
    have ih := findNow_plain hs hk hok es ents (i + 1) h.tail (by simp only [keysOk, List.all_cons, Bool.and_eq_true] at hko; simpa [keysOk] using hko.2)
    simp only [keysOk, List.all_cons, Bool.and_eq_true] at hko
    have hp := hko.1
    have hr := (h.2 0 p e rfl rfl).1
    have hsame : Instr.sameNow td kv e.key = some (cellsEq k.cells p.1.cells) := by
      simp only [keyOk, Bool.and_eq_true, beq_iff_eq] at hok hp
      rcases hs with ⟨kk, rfl, rfl⟩ | ⟨rfl, rfl⟩ | ⟨rfl, rfl⟩ <;> simp only [isAggD] at hok hp <;>
        (cases k <;> simp [PV.isAgg, PV.cells, sigOk, kdOk] at hok) <;> (rcases p with ⟨p1, p2⟩; cases p1 <;> simp [PV.isAgg, PV.cells, sigOk, kdOk] at hp)
      · subst hok; subst hp
        rw [hk.int_inv, hr.int_inv]; simp [Instr.sameNow, PV.cells, cellsEq, cellEq]
      · rw [hk.str_inv, hr.str_inv]; simp [Instr.sameNow, PV.cells, cellsEq, cellEq, beq_toListBytes]
      · rw [hk.bool_inv, hr.bool_inv]; simp [Instr.sameNow, PV.cells, cellsEq, cellEq]
    cases hc : cellsEq k.cells p.1.cells with
    | true => exact ⟨_, by simp [Instr.findNow, hsame, hc], Found.cons_eq hc⟩
    | false =>
      obtain ⟨r, r1, r2⟩ := ih
      exact ⟨r, by simp [Instr.findNow, hsame, hc, r1], Found.cons_ne hc r2⟩

theorem findKey_run {kt : TypeId} {td : TypeDesc} {s : List Kd} (hs : sigT P 50 kt = some s) (htd : P.underlying kt = some td) {k : PV} {kv : Value} (hk : VRel P g k kv) (hok : keyOk s (isAggD td) k = true)
    {es : List (PV × PV)} {ents : List MapEntry} (h : EntsRel P g es ents) (hko : keysOk s (isAggD td) es = true) : ∃ r, (Instr.findKey kt kv ents).run P w = .ok r w ∧ Found k es ents 0 r := by
  obtain ⟨r, r1, r2⟩ := findAsking_run (w := w) hs htd hk hok es ents 0 h hko
  have hs' := hs
  rw [show (50 : Nat) = 49 + 1 from rfl, sigT, htd] at hs'
  cases td with
  | int kk =>
    simp only [Option.some.injEq] at hs'
    obtain ⟨r', q1, q2⟩ := findNow_plain (.inl ⟨kk, rfl, hs'.symm⟩) hk hok es ents 0 h hko
    exact ⟨r', by simp [Instr.findKey, underlying_run htd, q1], q2⟩
  | string =>
    simp only [Option.some.injEq] at hs'
    obtain ⟨r', q1, q2⟩ := findNow_plain (.inr (.inl ⟨rfl, hs'.symm⟩)) hk hok es ents 0 h hko
    exact ⟨r', by simp [Instr.findKey, underlying_run htd, q1], q2⟩
  | bool =>
    simp only [Option.some.injEq] at hs'
    obtain ⟨r', q1, q2⟩ := findNow_plain (.inr (.inr ⟨rfl, hs'.symm⟩)) hk hok es ents 0 h hko
    exact ⟨r', by simp [Instr.findKey, underlying_run htd, q1], q2⟩
  | struct fs =>
    cases ents with
    | nil =>
      cases es with
      | nil => exact ⟨none, by simp [Instr.findKey, underlying_run htd, Instr.findNow], rfl⟩
      | cons _ _ => simp [EntsRel] at h
    | cons e ents => exact ⟨r, by simp [Instr.findKey, underlying_run htd, Instr.findNow, Instr.sameNow, r1], r2⟩
  | _ => simp at hs'

theorem ORel.ents {b : Nat} {co : Option Obj} {es : List (PV × PV)} (h : ORel P g b co (.map es)) : ∃ ents clock, co = some (.map ents clock) ∧ EntsRel P g es ents.toList := by
  obtain ⟨ents, clock, h1, h2, h3, _⟩ := h
  exact ⟨ents, clock, h1, by simpa using h2, fun i p e hp he => let ⟨a, b, _⟩ := h3 i p e hp (by simpa using he); ⟨a, b⟩⟩

theorem go_lkp (hI : Inv P E g h w) (hT : TRel P g t a.tmps) {T kt e : TypeId} {td : TypeDesc} {s : List Kd} {i : TypeInfo} {z : Value} {zp : PV} {ok : Bool} {m k : Operand} {m' k' : Od} (ho : o.op = .lookup T m k ok)
    (hd : P.underlying T = some (.map kt e)) (hs : sigT P 50 kt = some s) (htd : P.underlying kt = some td) (hi : P.info? e = some i) (hz : i.zero = some z) (hzp : ofValue z = some zp) (hm : cOd P m = some m') (hkk : cOd P k = some k')
    (hk : vcOp P g0 (.lkp s (isAggD td) zp ok m' k') t h K) : Goes P E g o a w K := by
  have rm := cOd_rel hT hm
  have rk := cOd_rel hT hkk
  have hzr := ofValue_rel (P := P) (g := g) hzp
  have fin : ∀ (ents : Array MapEntry) (es : List (PV × PV)) (v : PV) (r : Value) (b : Bool) (res : Option (Nat × Value)), keyOk s (isAggD td) (ev t k') = true →
      ((a.eval m = .map none ∧ ents = #[]) ∨ ∃ b clock, a.eval m = .map (some b) ∧ w.heap[b]? = some (.map ents clock)) →
      (Instr.findKey kt (a.eval k) ents.toList).run P w = .ok res w → (match res with | some (_, u) => u = r ∧ b = true | none => z = r ∧ b = false) →
      VRel P g v r → ((ok = true → K (.tuple [v, .bool b]) h) ∧ (ok = false → K v h)) → Goes P E g o a w K := by
    intro ents es v r b res hok hents hfind hres hvr hkk'
    have hck := checkKey_run (P := P) (g := g) (w := w) ents.isEmpty 50 10000 kt s hs (by omega) (a.eval k) (ev t k') td htd rk
      (by simp only [keyOk, Bool.and_eq_true] at hok; exact hok.1) (by simp only [keyOk, Bool.and_eq_true, beq_iff_eq] at hok; exact hok.2)
    have hrun : (Instr.lookup T (a.eval m) (a.eval k) ok).run P w = .ok (if ok then .tuple #[r, .bool b] else r) w := by
      unfold Instr.lookup
      rcases hents with ⟨hev, rfl⟩ | ⟨b', clock, hev, hheap⟩
      · simp only [Sem.run_bind, underlying_run hd, Result.andThen_ok, hev, Sem.run_pure, hck, hfind]
        cases res with
        | some x => obtain ⟨j, u⟩ := x; obtain ⟨rfl, rfl⟩ := hres; simp only [Sem.run_bind, Sem.run_pure, Result.andThen_ok]
        | none => obtain ⟨rfl, rfl⟩ := hres; simp only [Sem.run_bind, Sem.run_pure, Result.andThen_ok, zeroValue_run hi hz]
      · have hget : (getObj b').run P w = .ok (.map ents clock) w := by simp [getObj, Sem.run, hheap]
        simp only [Sem.run_bind, underlying_run hd, Result.andThen_ok, hev, hget, Sem.run_pure, hck, hfind]
        cases res with
        | some x => obtain ⟨j, u⟩ := x; obtain ⟨rfl, rfl⟩ := hres; simp only [Sem.run_bind, Sem.run_pure, Result.andThen_ok]
        | none => obtain ⟨rfl, rfl⟩ := hres; simp only [Sem.run_bind, Sem.run_pure, Result.andThen_ok, zeroValue_run hi hz]
    have hrun' : (execOp a.eval o).run P w = .ok (.value (if ok then .tuple #[r, .bool b] else r)) w := by simp [execOp, ho, hrun]
    cases ok with
    | true =>
      refine .pure hI hrun' (pv := .tuple [v, .bool b]) ?_ (hkk'.1 rfl)
      refine .tuple rfl fun i p u hp hu => ?_
      cases i with
      | zero => simp at hp hu; subst hp; subst hu; exact hvr
      | succ i => cases i with
        | zero => simp at hp hu; subst hp; subst hu; exact .bool _
        | succ i => simp at hp
    | false => exact .pure hI hrun' hvr (hkk'.2 rfl)
  simp only [vcOp] at hk
  cases em : ev t m' <;> rw [em] at hk rm <;> simp only at hk
  · rename_i id
    cases hid : h[id]? with
    | none => simp [hid] at hk
    | some ob =>
      cases ob <;> simp only [hid] at hk
      rename_i es
      obtain ⟨k1, k2, hk⟩ := hk
      obtain ⟨b, hev, hm'⟩ := rm.map_inv
      obtain ⟨ents, clock, c1, c2⟩ := (hI.obj id _ b hid hm').ents
      obtain ⟨r, r1, r2⟩ := findKey_run (w := w) hs htd rk k1 c2 k2
      have hents : (a.eval m = .map none ∧ ents = #[]) ∨ ∃ b clock, a.eval m = .map (some b) ∧ w.heap[b]? = some (.map ents clock) := .inr ⟨b, clock, hev, c1⟩
      unfold Found at r2
      cases hmx : mix (ev t k') es 0 with
      | none =>
        rw [hmx] at r2; subst r2
        rw [mfind_mix _ _ 0, hmx] at hk
        exact fin ents es zp z false none k1 hents r1 ⟨rfl, rfl⟩ hzr ⟨fun e => by subst e; exact hk, fun e => by subst e; exact hk⟩
      | some x =>
        obtain ⟨j, p⟩ := x
        rw [hmx] at r2
        obtain ⟨e', e1, e2⟩ := r2
        subst e2
        rw [mfind_mix _ _ 0, hmx] at hk
        obtain ⟨_, q, q1, _⟩ := mix_some hmx
        exact fin ents es p e'.val true _ k1 hents r1 ⟨rfl, rfl⟩ (c2.2 _ _ _ q1 e1).2 ⟨fun e => by subst e; exact hk, fun e => by subst e; exact hk⟩
  · obtain ⟨k1, hk⟩ := hk
    refine fin #[] [] zp z false none k1 (.inl ⟨rm.nilmap_inv, rfl⟩) ?_ ⟨rfl, rfl⟩ hzr ⟨fun e => by subst e; exact hk, fun e => by subst e; exact hk⟩
    obtain ⟨r, r1, r2⟩ := findKey_run (w := w) hs htd rk k1 (es := []) (ents := []) ⟨rfl, by simp⟩ rfl
    simp only [Found, mix] at r2; subst r2
    exact r1

theorem go_mup (hI : Inv P E g h w) (hT : TRel P g t a.tmps) {T kt e : TypeId} {td : TypeDesc} {s : List Kd} {m k v : Operand} {m' k' v' : Od} (ho : o.op = .mapUpdate T m k v ∨ o.op = .insert T m k v)
    (hd : P.underlying T = some (.map kt e)) (hs : sigT P 50 kt = some s) (htd : P.underlying kt = some td) (hm : cOd P m = some m') (hkk : cOd P k = some k') (hvv : cOd P v = some v')
    (hk : vcOp P g0 (.mup s (isAggD td) m' k' v') t h K) : Goes P E g o a w K := by
  have rm := cOd_rel hT hm
  have rk := cOd_rel hT hkk
  have rv := cOd_rel hT hvv
  simp only [vcOp] at hk
  cases em : ev t m' <;> rw [em] at hk rm <;> simp only at hk
  rename_i id
  cases hid : h[id]? with
  | none => simp [hid] at hk
  | some ob =>
    cases ob <;> simp only [hid] at hk
    rename_i es
    obtain ⟨k1, k2, hk⟩ := hk
    obtain ⟨b, hev, hm'⟩ := rm.map_inv
    obtain ⟨ents, clock, c1, c2, c3, c4⟩ := hI.obj id _ b hid hm'
    have hrel : EntsRel P g es ents.toList := ⟨by simpa using c2, fun i p e hp he => let ⟨a, b, _⟩ := c3 i p e hp (by simpa using he); ⟨a, b⟩⟩
    obtain ⟨r, r1, r2⟩ := findKey_run (w := w) hs htd rk k1 hrel k2
    have hck := checkKey_run (P := P) (g := g) (w := w) false 50 10000 kt s hs (by omega) (a.eval k) (ev t k') td htd rk
      (by simp only [keyOk, Bool.and_eq_true] at k1; exact k1.1) (by simp only [keyOk, Bool.and_eq_true, beq_iff_eq] at k1; exact k1.2)
    have hget : (getObj b).run P w = .ok (.map ents clock) w := by simp [getObj, Sem.run, c1]
    have hset : ∀ o' : Obj, (setObj b o').run P w = .ok () { w with heap := w.heap.setIfInBounds b o' } := by intro o'; simp [setObj, Sem.run, c1]
    have hblt : b < w.heap.size := (Array.getElem?_eq_some_iff.1 c1).1
    have hheap : ∀ o' : Obj, ({ w with heap := w.heap.setIfInBounds b o' } : World).heap[b]? = some o' := by
      intro o'; show (w.heap.setIfInBounds b o')[b]? = some o'; simp [hblt]
    -- from the model's map behind the store
    have fin : ∀ (ents' : Array MapEntry) (clock' : Nat), (Instr.mapUpdate T (a.eval m) (a.eval k) (a.eval v)).run P w = .ok () { w with heap := w.heap.setIfInBounds b (.map ents' clock') } →
        ORel P g b (some (.map ents' clock')) (.map (mset (ev t k') (ev t v') es)) → Goes P E g o a w K := by
      intro ents' clock' hrun hor
      refine ⟨.skip, Go.undef, _, _, _, g, ?_, .inr ⟨rfl, rfl⟩, hk, Gh.le.refl g, hI.set hid rfl hm' (Only.setBlock w b _) (by rw [hheap]; exact hor), .undef _⟩
      rcases ho with ho | ho <;> simp [execOp, ho, hrun]
    unfold Found at r2
    cases hmx : mix (ev t k') es 0 with
    | none =>
      rw [hmx] at r2; subst r2
      refine fin (ents.push { key := a.eval k, val := a.eval v, born := clock }) (clock + 1) ?_ ?_
      · unfold Instr.mapUpdate
        simp only [Sem.run_bind, underlying_run hd, Result.andThen_ok, hev, hget, hck, r1, hset]
      · rw [mset_none hmx]
        refine ⟨_, _, rfl, by simp [c2], fun i p e hp he => ?_, fun i j e e' hi hj heq => ?_⟩
        · by_cases hlt : i < es.length
          · rw [List.getElem?_append_left hlt] at hp
            rw [Array.getElem?_push, if_neg (by omega)] at he
            obtain ⟨q1, q2, q3⟩ := c3 i p e hp he
            exact ⟨q1, q2, by omega⟩
          · rw [List.getElem?_append_right (by omega)] at hp
            have hi0 : i = es.length := by
              have := (List.getElem?_eq_some_iff.1 hp).1
              simp at this; omega
            subst hi0
            simp at hp; subst hp
            rw [Array.getElem?_push, if_pos c2] at he
            cases he
            exact ⟨rk, rv, Nat.lt_succ_self _⟩
        · have hborn : ∀ n x, (ents.push { key := a.eval k, val := a.eval v, born := clock })[n]? = some x → (n = ents.size ∧ x.born = clock) ∨ (ents[n]? = some x ∧ x.born < clock) := by
            intro n x hx
            rw [Array.getElem?_push] at hx
            split at hx
            · rename_i e; cases hx; exact .inl ⟨e, rfl⟩
            · refine .inr ⟨hx, ?_⟩
              have hn : n < es.length := by rw [c2]; exact (Array.getElem?_eq_some_iff.1 hx).1
              exact (c3 n _ x (List.getElem?_eq_getElem hn) hx).2.2
          rcases hborn i e hi with ⟨a1, a2⟩ | ⟨a1, a2⟩ <;> rcases hborn j e' hj with ⟨b1, b2⟩ | ⟨b1, b2⟩
          · omega
          · omega
          · omega
          · exact c4 i j e e' a1 b1 heq
    | some x =>
      obtain ⟨j, p⟩ := x
      rw [hmx] at r2
      obtain ⟨e', e1, e2⟩ := r2
      subst e2
      obtain ⟨_, q, q1, q2⟩ := mix_some hmx
      simp only [Nat.sub_zero] at e1 q1
      have he1 : ents[j]? = some e' := by simpa using e1
      obtain ⟨v1, v2, v3⟩ := c3 j _ e' q1 he1
      simp only at v1
      have hkeyq : keyOk s (isAggD td) q = true := by
        have := List.all_eq_true.1 (show es.all (fun e => keyOk s (isAggD td) e.1) = true from k2) _ (List.mem_of_getElem? q1)
        exact this
      have hcells : (ev t k').cells = q.cells := plain_eq (by simp only [keyOk, Bool.and_eq_true] at k1; exact k1.1) (by simp only [keyOk, Bool.and_eq_true] at hkeyq; exact hkeyq.1) q2
      have hsameq : ev t k' = q := by
        simp only [keyOk, Bool.and_eq_true, beq_iff_eq] at k1 hkeyq
        have hag : (ev t k').isAgg = q.isAgg := k1.2.trans hkeyq.2.symm
        revert hcells hag
        generalize ev t k' = kk
        intro hcells hag
        cases kk <;> cases q <;> simp [PV.isAgg] at hag <;> simp [PV.cells] at hcells <;> first | rw [hcells] | (obtain ⟨rfl, rfl⟩ := hcells; rfl) | (simp [hcells]) | rfl
      have hval : e'.key = a.eval k := plain_val k1 (by rw [hsameq]; exact v1) rk
      have hstay : (Instr.keyThatStays (((ents[j]?).map (·.key)).getD (a.eval k)) (a.eval k)).run P w = .ok (a.eval k) w := by
        rw [he1]
        simp only [Option.map_some, Option.getD_some, hval, Instr.keyThatStays, sameBits_plain k1 rk, if_true]
        rfl
      refine fin (ents.modify j fun e => { e with key := a.eval k, val := a.eval v }) clock ?_ ?_
      · unfold Instr.mapUpdate
        simp only [Sem.run_bind, underlying_run hd, Result.andThen_ok, hev, hget, hck, r1, hstay, hset]
      · rw [mset_some hmx, Nat.sub_zero]
        have hget' : ∀ n x, (ents.modify j fun e => { e with key := a.eval k, val := a.eval v })[n]? = some x → ∃ y, ents[n]? = some y ∧ x.born = y.born ∧ (n = j → x.key = a.eval k ∧ x.val = a.eval v) ∧ (n ≠ j → x = y) := by
          intro n x hx
          rw [Array.getElem?_modify] at hx
          split at hx
          · rename_i e
            simp only [Option.map_eq_some_iff] at hx
            obtain ⟨y, hy, rfl⟩ := hx
            exact ⟨y, hy, rfl, fun _ => ⟨rfl, rfl⟩, fun hne => absurd e.symm hne⟩
          · rename_i e
            exact ⟨x, hx, rfl, fun e' => absurd e'.symm e, fun _ => rfl⟩
        refine ⟨_, _, rfl, by simp [c2], fun i p' e hp he => ?_, fun i i' e e2 hi hi' heq => ?_⟩
        · obtain ⟨y, y1, y2, y3, y4⟩ := hget' i e he
          by_cases hij : i = j
          · subst hij
            have hjl : i < es.length := (List.getElem?_eq_some_iff.1 q1).1
            rw [List.getElem?_set_self hjl] at hp; cases hp
            obtain ⟨y5, y6⟩ := y3 rfl
            rw [he1] at y1; cases y1
            exact ⟨by rw [y5]; exact rk, by rw [y6]; exact rv, by rw [y2]; exact v3⟩
          · rw [List.getElem?_set_ne (Ne.symm hij)] at hp
            have := y4 hij
            subst this
            exact c3 i p' e hp y1
        · obtain ⟨y, y1, y2, _, _⟩ := hget' i e hi
          obtain ⟨y', z1, z2, _, _⟩ := hget' i' e2 hi'
          exact c4 i i' y y' y1 z1 (by rw [← y2, ← z2]; exact heq)

end Go.Avm

/- Every operation that is taken does what the abstract machine says. -/
namespace Go.Avm
open Go Go.RowKit

variable {P : Program} {E : Env} {g : Gh} {h : AH} {w : World} {t : TM} {a : Act} {g0 : Gh} {o : Oper} {K : PV → AH → Prop}

theorem ofCell_one {v : Value} {p : PV} (h : ofCell v = some p) : p.one = true := by
  unfold ofCell at h
  split at h <;> first | (cases h; rfl) | cases h

theorem ofCells_one : ∀ {vs : List Value} {ps : List PV}, ofCells vs = some ps → ps.all PV.one = true
  | [], ps, h => by cases h; rfl
  | v :: vs, ps, h => by
    unfold ofCells at h
    split at h
    · rename_i p qs hp hq
      cases h
      simp [ofCell_one hp, ofCells_one hq]
    · cases h

theorem ofValue_okc {v : Value} {p : PV} (h : ofValue v = some p) : p.okc = true := by
  have one : ∀ {q : PV}, q.one = true → q.okc = true := by
    intro q hq; cases q <;> first | (simp [PV.one] at hq; done) | simp [PV.okc, PV.cells, PV.one]
  cases v with
  | agg cs =>
    simp only [ofValue, Option.map_eq_some_iff] at h
    obtain ⟨ps, h1, rfl⟩ := h
    exact ofCells_one h1
  | _ => simp only [ofValue] at h; exact one (ofCell_one h)

theorem isU8_spec {e : TypeId} (h : isU8 P e = true) : P.underlying e = some (.int .u8) := by
  unfold isU8 at h
  split at h
  · assumption
  · cases h

theorem sliceElem_spec {T e : TypeId} (h : sliceElem P T = some e) : P.underlying T = some (.slice e) := by
  unfold sliceElem at h
  split at h
  · cases h; assumption
  · cases h

theorem structFields_spec {T : TypeId} {fs : Array Field} (h : structFields P T = some fs) : P.underlying T = some (.struct fs) := by
  unfold structFields at h
  split at h
  · cases h; assumption
  · cases h

theorem op_sound (hI : Inv P E g h w) (hT : TRel P g t a.tmps) {arr : Bool} {ao : AOp} (hc : compileOp P arr o = some ao) (hk : vcOp P g0 ao t h K) : Goes P E g o a w K := by
  unfold compileOp at hc
  split at hc
  · rename_i x ho
    simp only [Option.bind_eq_bind, Option.bind_eq_some_iff, Option.some.injEq] at hc
    obtain ⟨x', hx, rfl⟩ := hc
    exact go_mv hI hT (.inl ho) hx hk
  · rename_i x ho
    simp only [Option.bind_eq_bind, Option.bind_eq_some_iff, Option.some.injEq] at hc
    obtain ⟨x', hx, rfl⟩ := hc
    exact go_mv hI hT (.inr ho) hx hk
  · rename_i c x y ho
    simp only [Option.bind_eq_bind, Option.bind_eq_some_iff, Option.some.injEq] at hc
    obtain ⟨c', hc', x', hx, y', hy, rfl⟩ := hc
    exact go_pick hI hT ho hc' hx hy hk
  · rename_i T ho
    simp only [Option.bind_eq_bind, Option.bind_eq_some_iff, Option.some.injEq] at hc
    obtain ⟨i, hi, z, hz, p, hp, rfl⟩ := hc
    exact go_alloc hI ho hi hz hp hk
  · rename_i T x ho
    simp only [Option.bind_eq_bind, Option.bind_eq_some_iff, Option.some.injEq] at hc
    obtain ⟨i, hi, x', hx, rfl⟩ := hc
    exact go_box hI hT ho hx hk
  · rename_i T parts ho
    simp only [Option.bind_eq_bind, Option.bind_eq_some_iff] at hc
    obtain ⟨i, hi, z, hz, p, hp, fs, hfs, ps, hps, hc⟩ := hc
    split at hc
    · rename_i hall
      cases hc
      obtain ⟨c1, c2, _⟩ := (ofValue_rel (P := P) (g := g) hp).cells (ofValue_okc hp)
      exact go_build hI hT ho hi hz (structFields_spec hfs) hps (List.all_eq_true.1 hall) ⟨c1.symm, c2⟩ hk
    · cases hc
  · rename_i T n parts ho
    simp only [Option.bind_eq_bind, Option.bind_eq_some_iff] at hc
    obtain ⟨e, he, i, hi, z, hz, p, hp, ps, hps, hc⟩ := hc
    split at hc
    · rename_i hcond
      cases hc
      exact go_bslice hI hT ho (sliceElem_spec he) hi hz hp hps hcond.1 hcond.2 hk
    · cases hc
  · rename_i T x ho
    simp only [Option.bind_eq_bind, Option.bind_eq_some_iff] at hc
    obtain ⟨i, hi, d, hd, x', hx, hc⟩ := hc
    split at hc
    · rename_i hcond
      cases hc
      exact go_load hI hT ho hi hd (by simpa using hcond) hx hk
    · cases hc
  · rename_i T x y ho
    simp only [Option.bind_eq_bind, Option.bind_eq_some_iff, Option.some.injEq] at hc
    obtain ⟨i, hi, d, hd, x', hx, y', hy, rfl⟩ := hc
    exact go_store hI hT ho hi hx hy hk
  · rename_i op T x y yt ho
    simp only [Option.bind_eq_bind, Option.bind_eq_some_iff] at hc
    obtain ⟨d, hd, x', hx, y', hy, hc⟩ := hc
    split at hc
    · cases hc; exact go_bin hI hT ho hx hy hk
    · cases hc; exact go_bin hI hT ho hx hy hk
    · split at hc
      · cases hc; exact go_binB hI hT ho (.inl ⟨rfl, rfl⟩) hd hx hy hk
      · cases hc; exact go_binB hI hT ho (.inr ⟨rfl, rfl⟩) hd hx hy hk
      · cases hc
    · simp only [Option.bind_eq_bind, Option.bind_eq_some_iff] at hc
      obtain ⟨s, hs, hc⟩ := hc
      split at hc
      · cases hc
      · rename_i hg
        split at hc
        · cases hc; exact go_eqS hI hT ho (.inl ⟨rfl, rfl⟩) hd hs (by simpa using hg) hx hy hk
        · cases hc; exact go_eqS hI hT ho (.inr ⟨rfl, rfl⟩) hd hs (by simpa using hg) hx hy hk
        · cases hc
    · simp only [Option.bind_eq_bind, Option.bind_eq_some_iff] at hc
      obtain ⟨k, hkr, v, hv, hc⟩ := hc
      have hv' : (nilConst k y = true ∧ v = x') ∨ (nilConst k x = true ∧ v = y') := by
        split at hv
        · rename_i h1; cases hv; exact .inl ⟨h1, rfl⟩
        · split at hv
          · rename_i h1; cases hv; exact .inr ⟨h1, rfl⟩
          · cases hv
      split at hc
      · cases hc; exact go_isNil hI hT ho (.inl ⟨rfl, rfl⟩) hd hkr hx hy hv' hk
      · cases hc; exact go_isNil hI hT ho (.inr ⟨rfl, rfl⟩) hd hkr hx hy hv' hk
      · cases hc
  · rename_i op T x ho
    simp only [Option.bind_eq_bind, Option.bind_eq_some_iff, Option.some.injEq] at hc
    obtain ⟨x', hx, rfl⟩ := hc
    exact go_un hI hT ho hx hk
  · rename_i S D x ho
    simp only [Option.bind_eq_bind, Option.bind_eq_some_iff] at hc
    obtain ⟨x', hx, hc⟩ := hc
    split at hc
    · rename_i hs hd; cases hc; exact go_i2i hI hT ho hs hd hx hk
    · rename_i hs hd; cases hc; exact go_s2s hI hT ho hs hd hx hk
    · rename_i hs hd
      split at hc
      · rename_i hu; cases hc; exact go_s2b hI hT ho hs hd (isU8_spec hu) hx hk
      · cases hc
    · rename_i hs hd
      split at hc
      · rename_i hu; cases hc; exact go_b2s hI hT ho hs (isU8_spec hu) hd hx hk
      · cases hc
    · rename_i hs hd
      split at hc
      · rename_i hu
        obtain ⟨rfl, hu⟩ := hu
        cases hc; exact go_b2b hI hT ho hd (isU8_spec hu) hx hk
      · cases hc
    · cases hc
  · rename_i T x lo hi mx ho
    simp only [Option.bind_eq_bind, Option.bind_eq_some_iff] at hc
    obtain ⟨x', hx, lo', hlo, hi', hhi, mx', hmx, hc⟩ := hc
    split at hc
    · rename_i hd
      split at hc
      · rename_i hmn
        cases hc
        obtain rfl : mx = none := by simpa using hmn
        exact go_slS hI hT ho hd hx hlo hhi hk
      · cases hc
    · rename_i hd
      simp only [Option.bind_eq_bind, Option.bind_eq_some_iff] at hc
      obtain ⟨i, hi2, hc⟩ := hc
      split at hc
      · rename_i hmn
        cases hc
        have hmn' : mx = none ∨ hi'.isSome = true := by simpa using hmn
        refine go_slL hI hT ho hd hi2 hx hlo hhi hmx (hmn'.imp (fun h => h) fun h1 => ?_) hk
        cases hi with
        | none => cases hhi; cases h1
        | some _ => rfl
      · cases hc
    · cases hc
  · rename_i T x f ho
    simp only [Option.bind_eq_bind, Option.bind_eq_some_iff] at hc
    obtain ⟨fs, hfs, fd, hf, i, hi, x', hx, hc⟩ := hc
    split at hc
    · rename_i h1; cases hc; exact go_fad hI hT ho (structFields_spec hfs) hf hi h1 hx hk
    · cases hc
  · rename_i T x f ho
    simp only [Option.bind_eq_bind, Option.bind_eq_some_iff] at hc
    obtain ⟨fs, hfs, fd, hf, i, hi, d, hd, x', hx, hc⟩ := hc
    split at hc
    · rename_i h1; cases hc; exact go_fld hI hT ho (structFields_spec hfs) hf hi hd (by simpa using h1) hx hk
    · cases hc
  · rename_i T x y ho
    simp only [Option.bind_eq_bind, Option.bind_eq_some_iff, Option.some.injEq] at hc
    obtain ⟨e, he, j, hj, x', hx, y', hy, rfl⟩ := hc
    exact go_iad hI hT ho (sliceElem_spec he) hj hx hy hk
  · rename_i T x y ho
    simp only [Option.bind_eq_bind, Option.bind_eq_some_iff] at hc
    obtain ⟨x', hx, y', hy, hc⟩ := hc
    split at hc
    · rename_i hd; cases hc; exact go_idxS hI hT ho hd hx hy hk
    · cases hc
  · rename_i T m k ok ho
    simp only [Option.bind_eq_bind, Option.bind_eq_some_iff] at hc
    obtain ⟨m', hm, k', hkk, hc⟩ := hc
    split at hc
    · rename_i kt e hd
      simp only [Option.bind_eq_bind, Option.bind_eq_some_iff, Option.some.injEq] at hc
      obtain ⟨i, hi, z, hz, p, hp, s, hs, td, htd, rfl⟩ := hc
      exact go_lkp hI hT ho hd hs htd hi hz hp hm hkk hk
    · cases hc
  · rename_i T m k v ho
    simp only [Option.bind_eq_bind, Option.bind_eq_some_iff] at hc
    obtain ⟨m', hm, k', hkk, v', hv, hc⟩ := hc
    split at hc
    · rename_i kt e hd
      simp only [Option.bind_eq_bind, Option.bind_eq_some_iff, Option.some.injEq] at hc
      obtain ⟨s, hs, td, htd, rfl⟩ := hc
      exact go_mup hI hT (.inl ho) hd hs htd hm hkk hv hk
    · cases hc
  · rename_i T ho
    cases hc
    exact go_mkm hI ho hk
  · rename_i T l c ho
    simp only [Option.bind_eq_bind, Option.bind_eq_some_iff] at hc
    obtain ⟨e, he, i, hi, z, hz, p, hp, l', hl, c', hc', hc⟩ := hc
    split at hc
    · cases hc; exact go_mks hI hT ho (sliceElem_spec he) hi hz hp hl hc' hk
    · cases hc
  · rename_i f u v ho
    simp only [Option.bind_eq_bind, Option.bind_eq_some_iff] at hc
    obtain ⟨u', hu, v', hv, hc⟩ := hc
    split at hc
    · rename_i hf; cases hc; exact go_mkf hI hT ho hf hu hv hk
    · cases hc
  · rename_i x i ho
    simp only [Option.bind_eq_bind, Option.bind_eq_some_iff, Option.some.injEq] at hc
    obtain ⟨x', hx, rfl⟩ := hc
    exact go_ext hI hT ho hx hk
  · rename_i x ho
    simp only [Option.bind_eq_bind, Option.bind_eq_some_iff, Option.some.injEq] at hc
    obtain ⟨x', hx, rfl⟩ := hc
    exact go_nchk hI hT ho hx hk
  · rename_i c ho
    split at hc
    · rename_i hcal
      split at hc
      · rename_i x T hargs htys
        simp only [Option.bind_eq_bind, Option.bind_eq_some_iff] at hc
        obtain ⟨x', hx, hc⟩ := hc
        split at hc
        · rename_i hd; cases hc; exact go_len hI hT ho hcal hargs htys hd rfl hx hk
        · rename_i hd; cases hc; exact go_len hI hT ho hcal hargs htys hd rfl hx hk
        · rename_i hd; cases hc; exact go_len hI hT ho hcal hargs htys hd rfl hx hk
        · cases hc
      · cases hc
    · rename_i hcal
      split at hc
      · rename_i x y S T hargs htys
        simp only [Option.bind_eq_bind, Option.bind_eq_some_iff] at hc
        obtain ⟨x', hx, y', hy, e, he, i, hi, z, hz, p, hp, hc⟩ := hc
        split at hc
        · cases hc
        · rename_i hcond
          have hcond' : 1 ≤ i.size ∧ 1 ≤ i.bytes ∧ i.bytes ≤ 1048576 := Decidable.not_not.1 hcond
          split at hc
          · rename_i hd
            split at hc
            · rename_i h1
              cases hc
              exact go_appS hI hT ho hcal hargs htys (sliceElem_spec he) hd hi hz hp ⟨h1.1, h1.2.1⟩ ⟨h1.2.2, ofValue_okc hp⟩ hx hy hk
            · cases hc
          · rename_i hd
            cases hc
            exact go_app hI hT ho hcal hargs htys (sliceElem_spec he) hd hi hz hp hcond' hx hy hk
          · cases hc
      · cases hc
    · rename_i hcal
      split at hc
      · rename_i x T hargs htys
        simp only [Option.bind_eq_bind, Option.bind_eq_some_iff, Option.some.injEq] at hc
        obtain ⟨x', hx, e, he, i, hi, z, hz, p, hp, rfl⟩ := hc
        exact go_clr hI hT ho hcal hargs htys (sliceElem_spec he) hi hz hp hx hk
      · cases hc
    · cases hc
  · cases hc

end Go.Avm
