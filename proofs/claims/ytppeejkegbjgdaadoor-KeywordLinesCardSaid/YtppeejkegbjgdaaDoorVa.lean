/- The abstract machine: values, heap, operations, code, and the condition 'vc' that a piece of code meets. Definitions alone. -/
import Derived.CallsIn
import Derived.Below
import Derived.RangeFuncIn
import Derived.RangeFuncRecord
import Derived.Laws.World
namespace Go.Avm
open Go

/-- Values of the abstract machine. A struct is the list of its cells; a slice that nobody writes is the list of its elements. -/
inductive PV where
  | undef
  | bool (b : Bool)
  | int (k : IntKind) (n : Int)
  | str (s : List UInt8)
  | agg (cs : List PV)
  | sl (sz : Nat) (xs : List PV) (full nl : Bool)
  | asl (id sz off len : Nat)
  | ptr (id sz i f : Nat)
  | rp (x : PV) (f : Nat)
  | nilptr
  | map (id : Nat)
  | nilmap
  | fn (f : FuncId) (first captured : List PV)
  | yld (id : Nat)
  | nilfn
  | nilif
  | iface (t : TypeId) (v : PV)
  | tuple (vs : List PV)
  | iter (id : Nat)
  | gp (b off : Nat)
  deriving Inhabited

def PV.cells : PV → List PV
  | .agg cs => cs
  | v => [v]

def PV.isAgg : PV → Bool
  | .agg _ => true
  | _ => false

/-- A value that takes one cell. -/
def PV.one : PV → Bool
  | .undef | .agg _ | .tuple _ => false
  | _ => true

/-- A value whose cells may lie in memory. -/
def PV.okc (v : PV) : Bool := v.cells.all PV.one

inductive Flow where
  | normal
  | exit (id : Nat)
  | ret
  deriving Inhabited, DecidableEq

/-- Objects of the abstract heap. -/
inductive AObj where
  | arr (sz : Nat) (es : List PV) (wr : Bool)
  | map (es : List (PV × PV))
  | siter (s : List UInt8) (pos : Nat)
  | miter (mid : Option Nat) (todo done : List (PV × PV))
  | loop (st : LoopState) (pend : Option Flow)
  | dead
  deriving Inhabited

abbrev AH := List AObj
abbrev TM := List (Nat × PV)

def look (n : Nat) : TM → PV
  | [] => .undef
  | (m, v) :: l => if n = m then v else look n l

inductive Od where
  | tmp (n : Nat)
  | k (v : PV)
  deriving Inhabited

def ev (t : TM) : Od → PV
  | .tmp n => look n t
  | .k v => v

def evs (t : TM) (l : List Od) : List PV := l.map (ev t)

/-- The kinds of a plain value's cells. -/
inductive Kd where
  | int (k : IntKind)
  | str
  | bool
  deriving Inhabited, DecidableEq

/-- What has a length. -/
inductive LK where
  | str
  | sl
  | map
  deriving Inhabited, DecidableEq

/-- What may be nil. -/
inductive RK where
  | sl
  | ptr
  | map
  | fn
  deriving Inhabited, DecidableEq

/-- Operations of the model that are taken as they are. -/
inductive RawK where
  | conv (s d : TypeId)
  | range (t : TypeId)
  | next (b : Bool) (t : TypeId)
  | idx (t : TypeId)
  | index (t : TypeId)
  | load (t : TypeId)
  | bi (b : Builtin) (argTypes : List TypeId) (t : TypeId) (consts : List Bool)
  | ext (f : FuncId)
  deriving Inhabited

inductive AOp where
  | mv (x : Od)
  | pick (c a b : Od)
  | alloc (sz : Nat) (z : PV)
  | box (sz : Nat) (x : Od)
  | build (z : List PV) (ps : List (Nat × Nat × Od))
  | bslice (sz : Nat) (z : PV) (n : Nat) (ps : List (Nat × Od)) (arr : Bool)
  | load (sz : Nat) (ag : Bool) (a : Od)
  | store (sz : Nat) (ag : Bool) (a x : Od)
  | bin (op : BinOp) (x y : Od)
  | binB (neg : Bool) (x y : Od)
  | eqS (sig : List Kd) (neg : Bool) (x y : Od)
  | isNil (k : RK) (neg : Bool) (x : Od)
  | un (op : UnOp) (x : Od)
  | i2i (k : IntKind) (x : Od)
  | s2s (x : Od)
  | s2b (x : Od)
  | b2s (x : Od)
  | b2b (x : Od)
  | slS (x : Od) (lo hi : Option Od)
  | slL (sz : Nat) (x : Od) (lo hi mx : Option Od)
  | fad (off : Nat) (x : Od)
  | iad (sz : Nat) (x i : Od)
  | fld (off sz : Nat) (ag : Bool) (x : Od)
  | idxS (x i : Od)
  | app (sz bytes : Nat) (z : PV) (x y : Od)
  | appS (x y : Od)
  | len (k : LK) (x : Od)
  | copy (sz : Nat) (x y : Od)
  | clr (sz : Nat) (z : PV) (x : Od)
  | mks (sz bytes : Nat) (z : PV) (l c : Od)
  | mkm
  | lkp (sig : List Kd) (ag : Bool) (z : PV) (ok : Bool) (m k : Od)
  | mup (sig : List Kd) (ag : Bool) (m k v : Od)
  | rng (x : Od)
  | nxt (it : Od)
  | ext (x : Od) (i : Nat)
  | mkf (f : FuncId) (first captured : List Od)
  | nchk (x : Od)
  | call (f : FuncId) (args : List Od)
  | callV (x : Od) (args : List Od)
  | raw (k : RawK) (xs : List Od)
  | pur (o : AOp)
  deriving Inhabited

inductive AIt where
  | op (dst : Option Nat) (o : AOp)
  | frz (t : Nat)
  | gd (t : Nat) (want : Bool) (l : List (Option Nat × AOp))
  deriving Inhabited

inductive ACode where
  | skip
  | ops (l : List AIt)
  | seq (a b : ACode)
  | cond (c : Od) (a b : ACode)
  | block (id : Nat) (a : ACode)
  | loop (keep : List Nat) (a : ACode)
  | rfun (f : Od) (params : List Nat) (assign body : ACode)
  | exit (id : Nat)
  | ret
  deriving Inhabited

end Go.Avm

/- The relation between the abstract machine and the model: values, objects, heaps; what a call of a function comes to. -/
namespace Go.Avm
open Go Go.RowKit

/-- A function that is entered when it is called. -/
def callOk (P : Program) (f : FuncId) : Bool :=
  match P.funcs[f]? with
  | some fn => fn.name != "runtime.NumGoroutine" && fn.body.isSome
  | none => false

/-- Which blocks the abstract objects lie in, and which cells are never written again. -/
structure Gh where
  m : Nat → Option Nat
  bs : Nat → Nat
  lp : Nat → Loop
  F : Nat → Nat → PV → Prop

structure Gh.le (g g' : Gh) : Prop where
  m : ∀ id b, g.m id = some b → g'.m id = some b ∧ g'.bs b = g.bs b ∧ g'.lp b = g.lp b
  F : ∀ b o p, g.F b o p → g'.F b o p

theorem Gh.le.refl (g : Gh) : g.le g := ⟨fun _ _ h => ⟨h, rfl, rfl⟩, fun _ _ _ h => h⟩
theorem Gh.le.trans {a b c : Gh} (h : a.le b) (k : b.le c) : a.le c :=
  ⟨fun id x hx => let ⟨h1, h2, h3⟩ := h.m id x hx; let ⟨k1, k2, k3⟩ := k.m id x h1; ⟨k1, k2.trans h2, k3.trans h3⟩, fun b o p hp => k.F b o p (h.F b o p hp)⟩

inductive VRel (P : Program) (g : Gh) : PV → Value → Prop
  | undef (v : Value) : VRel P g .undef v
  | bool (b : Bool) : VRel P g (.bool b) (.bool b)
  | int (k : IntKind) (n : Int) : VRel P g (.int k n) (.int k n)
  | str (s : List UInt8) : VRel P g (.str s) (.string ⟨⟨s⟩⟩)
  | agg {cs : List PV} {vs : Array Value} (hl : cs.length = vs.size) (h : ∀ (i : Nat) (p : PV) (v : Value), cs[i]? = some p → vs[i]? = some v → VRel P g p v) : VRel P g (.agg cs) (.agg vs)
  | slnil (sz : Nat) (full : Bool) : VRel P g (.sl sz [] full true) (.slice none 0 0)
  | sl {sz : Nat} {xs : List PV} {full : Bool} {a : Addr} {cap : Nat} (hc : xs.length ≤ cap) (hf : full = true → cap = xs.length) (hs : ∀ x ∈ xs, x.cells.length = sz)
      (ha : xs ≠ [] → a.spot = none) (h : ∀ (i : Nat) (x : PV) (j : Nat) (p : PV), xs[i]? = some x → x.cells[j]? = some p → g.F a.block (a.off + i * sz + j) p) : VRel P g (.sl sz xs full false) (.slice (some a) xs.length cap)
  | asl {id sz off len b cap o : Nat} (hm : g.m id = some b) (hc : len ≤ cap) (hb : (off + cap) * sz ≤ g.bs b) (ho : cap = 0 ∨ o = off * sz) : VRel P g (.asl id sz off len) (.slice (some ⟨b, o, none⟩) len cap)
  | ptr {id sz i f b : Nat} (hm : g.m id = some b) : VRel P g (.ptr id sz i f) (.pointer (some ⟨b, i * sz + f, none⟩))
  | rp {x : PV} {f b o : Nat} (h : ∀ (j : Nat) (p : PV), x.cells[j]? = some p → g.F b (o + j) p) : VRel P g (.rp x f) (.pointer (some ⟨b, o + f, none⟩))
  | nilptr : VRel P g .nilptr (.pointer none)
  | map {id b : Nat} (hm : g.m id = some b) : VRel P g (.map id) (.map (some b))
  | nilmap : VRel P g .nilmap (.map none)
  | fn {f : FuncId} {first cap : List PV} {vf vc : Array Value} (hk : callOk P f = true) (hl : first.length = vf.size) (hl' : cap.length = vc.size)
      (h : ∀ (i : Nat) (p : PV) (v : Value), first[i]? = some p → vf[i]? = some v → VRel P g p v) (h' : ∀ (i : Nat) (p : PV) (v : Value), cap[i]? = some p → vc[i]? = some v → VRel P g p v) : VRel P g (.fn f first cap) (.func (.func f) vf vc)
  | yld {id b : Nat} (hm : g.m id = some b) : VRel P g (.yld id) (.func (.yield b) #[] #[])
  | nilfn : VRel P g .nilfn .nilFunc
  | nilif : VRel P g .nilif .nilIface
  | iface {t : TypeId} {p : PV} {v : Value} (h : VRel P g p v) : VRel P g (.iface t p) (.iface t v)
  | tuple {cs : List PV} {vs : Array Value} (hl : cs.length = vs.size) (h : ∀ (i : Nat) (p : PV) (v : Value), cs[i]? = some p → vs[i]? = some v → VRel P g p v) : VRel P g (.tuple cs) (.tuple vs)
  | iter {id b : Nat} (hm : g.m id = some b) : VRel P g (.iter id) (.pointer (some ⟨b, 0, none⟩))
  | gp {b off : Nat} : VRel P g (.gp b off) (.pointer (some ⟨b, off, none⟩))

theorem VRel.mono {P : Program} {g g' : Gh} (hg : g.le g') {p : PV} {v : Value} (h : VRel P g p v) : VRel P g' p v := by
  induction h with
  | undef v => exact .undef v
  | bool b => exact .bool b
  | int k n => exact .int k n
  | str s => exact .str s
  | agg hl _ ih => exact .agg hl ih
  | slnil sz full => exact .slnil sz full
  | sl hc hf hs ha h => exact .sl hc hf hs ha fun i x j p h1 h2 => hg.F _ _ _ (h i x j p h1 h2)
  | asl hm hc hb ho => obtain ⟨h1, h2, _⟩ := hg.m _ _ hm; exact .asl h1 hc (by rw [h2]; exact hb) ho
  | ptr hm => exact .ptr (hg.m _ _ hm).1
  | rp h => exact .rp fun j p hj => hg.F _ _ _ (h j p hj)
  | nilptr => exact .nilptr
  | map hm => exact .map (hg.m _ _ hm).1
  | nilmap => exact .nilmap
  | fn hk hl hl' _ _ ih ih' => exact .fn hk hl hl' ih ih'
  | yld hm => exact .yld (hg.m _ _ hm).1
  | nilfn => exact .nilfn
  | nilif => exact .nilif
  | iface _ ih => exact .iface ih
  | tuple hl _ ih => exact .tuple hl ih
  | iter hm => exact .iter (hg.m _ _ hm).1
  | gp => exact .gp

/-- Two lists, element by element. -/
def VRels (P : Program) (g : Gh) (ps : List PV) (vs : List Value) : Prop := ps.length = vs.length ∧ ∀ (i : Nat) (p : PV) (v : Value), ps[i]? = some p → vs[i]? = some v → VRel P g p v

theorem VRels.mono {P : Program} {g g' : Gh} (hg : g.le g') {ps : List PV} {vs : List Value} (h : VRels P g ps vs) : VRels P g' ps vs :=
  ⟨h.1, fun i p v h1 h2 => (h.2 i p v h1 h2).mono hg⟩

def Flow.code : Flow → Code
  | .normal => .skip
  | .exit id => .exit id
  | .ret => .ret

def frozenAt (fr : Nat × Nat) (o : Nat) : Prop := fr.1 ≤ o ∧ o < fr.2

/-- No cell of a row of n cells is frozen. -/
def frOk (fr : Nat × Nat) (n : Nat) : Prop := fr.1 = fr.2 ∨ n ≤ fr.1

theorem frOk.not {fr : Nat × Nat} {n : Nat} (h : frOk fr n) : ∀ o, o < n → ¬ frozenAt fr o := by
  rintro o ho ⟨h1, h2⟩
  rcases h with h | h <;> omega

/-- How an object of the abstract heap lies in its block. -/
def ORel (P : Program) (g : Gh) (b : Nat) (co : Option Obj) : AObj → Prop
  | .arr sz es wr => ∃ c T fr, co = some (.cells c T fr) ∧ c.size = g.bs b ∧ (∀ x ∈ es, x.cells.length = sz) ∧ es.length * sz ≤ c.size ∧
      (∀ (i : Nat) (x : PV) (j : Nat) (p : PV), es[i]? = some x → x.cells[j]? = some p → ∃ v, c[i * sz + j]? = some v ∧ v.oneCell' = true ∧ VRel P g p v) ∧ (wr = true → frOk fr c.size)
  | .map es => ∃ ents clock, co = some (.map ents clock) ∧ es.length = ents.size ∧
      (∀ (i : Nat) (p : PV × PV) (e : MapEntry), es[i]? = some p → ents[i]? = some e → VRel P g p.1 e.key ∧ VRel P g p.2 e.val ∧ e.born < clock) ∧
      (∀ (i j : Nat) (e e' : MapEntry), ents[i]? = some e → ents[j]? = some e' → e.born = e'.born → i = j)
  | .siter s pos => co = some (.stringIter ⟨⟨s⟩⟩ pos)
  | .miter _ _ _ => False
  | .loop st pend => ∃ r : Loop, co = some (.loop r) ∧ r.state = st ∧ r.pending = pend.map Flow.code ∧ { r with state := .ready, pending := none } = g.lp b
  | .dead => True

theorem ORel.mono {P : Program} {g g' : Gh} (hg : g.le g') {id b : Nat} (hm : g.m id = some b) {co : Option Obj} {o : AObj} (h : ORel P g b co o) : ORel P g' b co o := by
  cases o with
  | arr sz es wr =>
    obtain ⟨c, T, fr, h1, h2, h3, h4, h5, h6⟩ := h
    refine ⟨c, T, fr, h1, ?_, h3, h4, fun i x j p hx hp => ?_, h6⟩
    · rw [h2, (hg.m _ _ hm).2.1]
    · obtain ⟨v, hv, ho, hr⟩ := h5 i x j p hx hp
      exact ⟨v, hv, ho, hr.mono hg⟩
  | map es =>
    obtain ⟨ents, clock, h1, h2, h3, h4⟩ := h
    exact ⟨ents, clock, h1, h2, fun i p e hp he => let ⟨a, b, c⟩ := h3 i p e hp he; ⟨a.mono hg, b.mono hg, c⟩, h4⟩
  | siter s pos => exact h
  | miter _ _ _ => exact h
  | loop st pend =>
    obtain ⟨r, h1, h2, h3, h4⟩ := h
    exact ⟨r, h1, h2, h3, h4.trans (hg.m _ _ hm).2.2.symm⟩
  | dead => trivial

def AObj.live : AObj → Bool
  | .arr _ _ wr => wr
  | .dead => false
  | _ => true

def AObj.alive : AObj → Bool
  | .dead => false
  | _ => true

theorem AObj.alive_of_live {o : AObj} (h : o.live = true) : o.alive = true := by cases o <;> first | rfl | simp [AObj.live] at h

/-- The call's first block and first world; the deferred calls' blocks that are still to be come to. -/
structure Env where
  n0 : Nat
  w0 : World
  L : List Nat

structure Inv (P : Program) (E : Env) (g : Gh) (h : AH) (w : World) : Prop where
  n0 : E.n0 ≤ E.w0.heap.size
  below : Below E.n0 E.w0 w
  dom : ∀ id b, g.m id = some b → id < h.length ∧ b < w.heap.size ∧ E.n0 ≤ b
  tot : ∀ id, id < h.length → ∃ b, g.m id = some b
  obj : ∀ (id : Nat) (o : AObj) (b : Nat), h[id]? = some o → g.m id = some b → ORel P g b w.heap[b]? o
  excl : ∀ (id id' : Nat) (o o' : AObj) (b : Nat), h[id]? = some o → h[id']? = some o' → o.live = true → o'.alive = true → g.m id = some b → g.m id' = some b → id = id'
  fz : ∀ b o p, g.F b o p → ∃ v, w.cell? ⟨b, o, none⟩ = some v ∧ v.oneCell' = true ∧ VRel P g p v
  fx : ∀ (id : Nat) (o : AObj) (b k : Nat) (p : PV), h[id]? = some o → o.live = true → g.m id = some b → ¬ g.F b k p
  defd : ∀ b ∈ E.L, w.heap[b]? = some (.deferred (some [])) ∧ E.n0 ≤ b
  nodup : E.L.Nodup

/-- What a call of function f comes to, from ghost state g0 on. -/
def ACalls (P : Program) (g0 : Gh) (f : FuncId) (args : List PV) (h : AH) (Post : PV → AH → Prop) : Prop :=
  ∀ E g w (cargs : List Value), g0.le g → Inv P E g h w → VRels P g args cargs →
    Calls P f cargs.toArray w fun e w' => ∃ r g' h' rv, e = .returned rv ∧ Post r h' ∧ g.le g' ∧ Inv P E g' h' w' ∧ VRel P g' r rv

/-- What a call of a loop's body comes to (the yield function of a range over a function). -/
def AYield (P : Program) (g0 : Gh) (id : Nat) (args : List PV) (h : AH) (Post : PV → AH → Prop) : Prop :=
  ∀ E g w (cargs : List Value) b, g0.le g → Inv P E g h w → VRels P g args cargs → g.m id = some b →
    ∃ fn tmps assign body, (Instr.yield b cargs.toArray).run P w = .ok (.round b fn tmps assign body) w ∧
      RoundIn Fence.wide 0 P b fn tmps assign body w fun e w' => ∃ r g' h' rv, e = .returned rv ∧ Post r h' ∧ g.le g' ∧ Inv P E g' h' w' ∧ VRel P g' r rv

def ACallV (P : Program) (g0 : Gh) (f : PV) (args : List PV) (h : AH) (Post : PV → AH → Prop) : Prop :=
  match f with
  | .fn g first cap => ACalls P g0 g (first ++ args ++ cap) h Post
  | .yld id => AYield P g0 id args h Post
  | _ => False

/-- What the model's own operation comes to. -/
def RawK.run (k : RawK) (vs : List Value) : Sem Next :=
  match k, vs with
  | .conv s d, [v] => do pure (.value (← convert s d v))
  | .range t, [v] => do pure (.value (← Instr.range t v))
  | .next b t, [v] => do pure (.value (← Instr.next v b t))
  | .idx t, [v, i] => do pure (.value (← Instr.indexAt t v i))
  | .index t, [v, i] => do pure (.value (← Instr.index t v i))
  | .load t, [v] => do pure (.value (← Instr.loadAt t v))
  | .bi b ts t cs, vs => builtin b ts.toArray t cs.toArray vs.toArray
  | .ext f, vs => callFunc f vs.toArray
  | _, _ => stuck "raw"

def RawC (P : Program) (g0 : Gh) (k : RawK) (args : List PV) (h : AH) (K : PV → AH → Prop) : Prop :=
  ∀ E g w (cargs : List Value), g0.le g → Inv P E g h w → VRels P g args cargs →
    ∃ r w' pv h' g', (k.run cargs).run P w = .ok (.value r) w' ∧ K pv h' ∧ g.le g' ∧ Inv P E g' h' w' ∧ VRel P g' pv r

theorem RawC.mono {P : Program} {g0 : Gh} {k : RawK} {args : List PV} {h : AH} {K K' : PV → AH → Prop} (hc : RawC P g0 k args h K) (hp : ∀ r h', K r h' → K' r h') : RawC P g0 k args h K' :=
  fun E g w cargs h1 h2 h3 => let ⟨r, w', pv, h', g', q1, q2, q3⟩ := hc E g w cargs h1 h2 h3; ⟨r, w', pv, h', g', q1, hp _ _ q2, q3⟩

theorem ACalls.mono {P : Program} {g0 : Gh} {f : FuncId} {args : List PV} {h : AH} {Post Post' : PV → AH → Prop} (hc : ACalls P g0 f args h Post) (hp : ∀ r h', Post r h' → Post' r h') :
    ACalls P g0 f args h Post' := fun E g w cargs h1 h2 h3 => (hc E g w cargs h1 h2 h3).mono fun _ _ ⟨r, g', h', rv, q1, q2, q3⟩ => ⟨r, g', h', rv, q1, hp _ _ q2, q3⟩

theorem ACalls.later {P : Program} {g0 g1 : Gh} {f : FuncId} {args : List PV} {h : AH} {Post : PV → AH → Prop} (hc : ACalls P g0 f args h Post) (hg : g0.le g1) : ACalls P g1 f args h Post :=
  fun E g w cargs h1 h2 h3 => hc E g w cargs (hg.trans h1) h2 h3

theorem AYield.mono {P : Program} {g0 : Gh} {id : Nat} {args : List PV} {h : AH} {Post Post' : PV → AH → Prop} (hc : AYield P g0 id args h Post) (hp : ∀ r h', Post r h' → Post' r h') :
    AYield P g0 id args h Post' := fun E g w cargs b h1 h2 h3 h4 =>
  let ⟨fn, tmps, a, c, hy, hr⟩ := hc E g w cargs b h1 h2 h3 h4
  ⟨fn, tmps, a, c, hy, hr.mono fun _ _ ⟨r, g', h', rv, q1, q2, q3⟩ => ⟨r, g', h', rv, q1, hp _ _ q2, q3⟩⟩

theorem ACallV.mono {P : Program} {g0 : Gh} {f : PV} {args : List PV} {h : AH} {Post Post' : PV → AH → Prop} (hc : ACallV P g0 f args h Post) (hp : ∀ r h', Post r h' → Post' r h') :
    ACallV P g0 f args h Post' := by
  cases f <;> first | exact ACalls.mono hc hp | exact AYield.mono hc hp | exact hc

theorem AYield.later {P : Program} {g0 g1 : Gh} {id : Nat} {args : List PV} {h : AH} {Post : PV → AH → Prop} (hc : AYield P g0 id args h Post) (hg : g0.le g1) : AYield P g1 id args h Post :=
  fun E g w cargs b h1 h2 h3 h4 => hc E g w cargs b (hg.trans h1) h2 h3 h4

theorem ACallV.later {P : Program} {g0 g1 : Gh} {f : PV} {args : List PV} {h : AH} {Post : PV → AH → Prop} (hc : ACallV P g0 f args h Post) (hg : g0.le g1) : ACallV P g1 f args h Post := by
  cases f <;> first | exact ACalls.later hc hg | exact AYield.later hc hg | exact hc

end Go.Avm

/- What each operation does to the abstract machine, as the condition under which the rest goes well. -/
namespace Go.Avm
open Go

def bindO {α : Type} (o : Option α) (K : α → Prop) : Prop :=
  match o with
  | some v => K v
  | none => False

theorem bindO_some {α : Type} (v : α) (K : α → Prop) : bindO (some v) K = K v := rfl
theorem bindO_none {α : Type} (K : α → Prop) : bindO none K = False := rfl
@[congr] theorem bindO_congr {α : Type} {o o' : Option α} {K : α → Prop} (h : o = o') : bindO o K = bindO o' K := by rw [h]

def matchO {α : Type} (o : Option α) (K : α → Prop) (N : Prop) : Prop :=
  match o with
  | some v => K v
  | none => N

theorem matchO_some {α : Type} (v : α) (K : α → Prop) (N : Prop) : matchO (some v) K N = K v := rfl
theorem matchO_none {α : Type} (K : α → Prop) (N : Prop) : matchO none K N = N := rfl
@[congr] theorem matchO_congr {α : Type} {o o' : Option α} {K : α → Prop} {N : Prop} (h : o = o') : matchO o K N = matchO o' K N := by rw [h]

/-- A number that is of its kind. -/
def inR (k : IntKind) (n : Int) : Prop := k.min ≤ n ∧ n ≤ k.max

def arith (k : IntKind) (n : Int) (K : PV → Prop) : Prop :=
  match k with
  | .i64 => inR .i64 n ∧ K (.int .i64 n)
  | .i32 => inR .i32 n ∧ K (.int .i32 n)
  | k => K (.int k (k.wrap n))

def bitop (op : BinOp) (k : IntKind) (x y : Int) : Int :=
  match op with
  | .and => k.wrap ((BitVec.ofInt k.bits x &&& BitVec.ofInt k.bits y).toNat : Int)
  | .or => k.wrap ((BitVec.ofInt k.bits x ||| BitVec.ofInt k.bits y).toNat : Int)
  | .xor => k.wrap ((BitVec.ofInt k.bits x ^^^ BitVec.ofInt k.bits y).toNat : Int)
  | .andNot => k.wrap ((BitVec.ofInt k.bits x &&& ~~~ BitVec.ofInt k.bits y).toNat : Int)
  | _ => 0

def partV (x : PV) (f sz : Nat) (ag : Bool) : Option PV :=
  if f = 0 ∧ sz = x.cells.length ∧ x.isAgg = ag then some x
  else if ag then (if f + sz ≤ x.cells.length then some (.agg ((x.cells.drop f).take sz)) else none)
  else x.cells[f]?

def ldV (h : AH) (v : PV) (sz : Nat) (ag : Bool) : Option PV :=
  match v with
  | .ptr id psz i f =>
    match h[id]? with
    | some (.arr asz es _) => if psz = asz then (es[i]?).bind fun x => partV x f sz ag else none
    | _ => none
  | .rp x f => partV x f sz ag
  | _ => none

def setPart (x : PV) (f sz : Nat) (v : PV) : Option PV :=
  if v.cells.length ≠ sz ∨ v.okc = false then none
  else if f = 0 ∧ sz = x.cells.length ∧ x.isAgg = v.isAgg then some v
  else if x.isAgg ∧ f + sz ≤ x.cells.length then some (.agg (x.cells.take f ++ v.cells ++ x.cells.drop (f + sz)))
  else none

def stV (h : AH) (a : PV) (sz : Nat) (v : PV) : Option AH :=
  match a with
  | .ptr id psz i f =>
    match h[id]? with
    | some (.arr asz es true) => if psz = asz then (es[i]?).bind fun x => (setPart x f sz v).map fun x' => h.set id (.arr asz (es.set i x') true) else none
    | _ => none
  | _ => none

/-- The elements of a slice. -/
def elemsV (h : AH) (v : PV) (sz : Nat) : Option (List PV) :=
  match v with
  | .sl sz' xs _ _ => if sz' = sz ∨ xs.length = 0 then some xs else none
  | .asl id sz' off len =>
    match h[id]? with
    | some (.arr asz es _) => if sz' = sz ∧ asz = sz ∧ off + len ≤ es.length then some ((es.drop off).take len) else none
    | _ => none
  | _ => none

def byteV (b : UInt8) : PV := .int .u8 b.toNat

def bytesOf : List PV → Option (List UInt8)
  | [] => some []
  | .int .u8 n :: l => (bytesOf l).map (UInt8.ofNat n.toNat :: ·)
  | _ => none

/-- How much memory a row of n elements may take. -/
def room (n bytes : Nat) : Prop := n ≤ 70368744177664 ∧ n * bytes ≤ 70368744177664

def appV (h : AH) (x : PV) (sz bytes : Nat) (ys : List PV) (K : PV → AH → Prop) : Prop :=
  match x with
  | .sl sz' xs full _ => (ys.length = 0 → K x h) ∧ (ys.length ≠ 0 → full = true ∧ (sz' = sz ∨ xs.length = 0) ∧ room (xs.length + ys.length) bytes ∧
      K (.asl h.length sz 0 (xs.length + ys.length)) (h ++ [.arr sz (xs ++ ys) true]))
  | .asl id sz' off len =>
    match h[id]? with
    | some (.arr asz es true) => off = 0 ∧ sz' = sz ∧ asz = sz ∧ es.length = len ∧ room (len + ys.length) bytes ∧
        K (.asl h.length sz 0 (len + ys.length)) (h.set id .dead ++ [.arr sz (es ++ ys) true])
    | _ => False
  | _ => False

/-- Are the cells of these kinds? -/
def kdOk : Kd → PV → Bool
  | .int k, .int k' _ => k == k'
  | .str, .str _ => true
  | .bool, .bool _ => true
  | _, _ => false

def sigOk : List Kd → List PV → Bool
  | [], [] => true
  | k :: ks, x :: xs => kdOk k x && sigOk ks xs
  | _, _ => false

def keyOk (sig : List Kd) (ag : Bool) (k : PV) : Bool := sigOk sig k.cells && (k.isAgg == ag)

def cellEq : PV → PV → Bool
  | .int _ a, .int _ b => a == b
  | .str a, .str b => a == b
  | .bool a, .bool b => a == b
  | _, _ => false

def cellsEq : List PV → List PV → Bool
  | [], [] => true
  | x :: xs, y :: ys => cellEq x y && cellsEq xs ys
  | _, _ => false

def keysOk (sig : List Kd) (ag : Bool) (es : List (PV × PV)) : Bool := es.all fun e => keyOk sig ag e.1

def mfind (k : PV) : List (PV × PV) → Option PV
  | [] => none
  | e :: es => if cellsEq k.cells e.1.cells then some e.2 else mfind k es

def mset (k v : PV) : List (PV × PV) → List (PV × PV)
  | [] => [(k, v)]
  | e :: es => if cellsEq k.cells e.1.cells then (k, v) :: es else e :: mset k v es

def shiftN (k : IntKind) (y : Int) : Nat := min y.toNat k.bits

def bytesLess : List UInt8 → List UInt8 → Bool := Op.bytesLess

def binV (op : BinOp) (x y : PV) (K : PV → Prop) : Prop :=
  match x, y with
  | .int k a, .int k' b =>
    match op with
    | .shl => 0 ≤ b ∧ K (.int k (k.wrap (a * 2 ^ shiftN k b)))
    | .shr => 0 ≤ b ∧ K (.int k (a.fdiv (2 ^ shiftN k b)))
    | .add => k = k' ∧ arith k (a + b) K
    | .sub => k = k' ∧ arith k (a - b) K
    | .mul => k = k' ∧ arith k (a * b) K
    | .quo => k = k' ∧ b ≠ 0 ∧ K (.int k (k.wrap (a.tdiv b)))
    | .rem => k = k' ∧ b ≠ 0 ∧ K (.int k (a.tmod b))
    | .and | .or | .xor | .andNot => k = k' ∧ K (.int k (bitop op k a b))
    | .eql => k = k' ∧ K (.bool (a == b))
    | .neq => k = k' ∧ K (.bool (a != b))
    | .lss => k = k' ∧ K (.bool (decide (a < b)))
    | .leq => k = k' ∧ K (.bool (decide (a ≤ b)))
    | .gtr => k = k' ∧ K (.bool (decide (a > b)))
    | .geq => k = k' ∧ K (.bool (decide (a ≥ b)))
  | .str a, .str b =>
    match op with
    | .add => a.length + b.length ≤ 4611686018427387904 ∧ K (.str (a ++ b))
    | .eql => K (.bool (a == b))
    | .neq => K (.bool (!(a == b)))
    | .lss => K (.bool (bytesLess a b))
    | .leq => K (.bool (bytesLess a b || a == b))
    | .gtr => K (.bool (!(bytesLess a b || a == b)))
    | .geq => K (.bool (!(bytesLess a b)))
    | _ => False
  | _, _ => False

def isNilV : RK → PV → Option Bool
  | .sl, .sl _ _ _ nl => some nl
  | .sl, .asl _ _ _ _ => some false
  | .ptr, .ptr _ _ _ _ => some false
  | .ptr, .nilptr => some true
  | .map, .map _ => some false
  | .map, .nilmap => some true
  | .fn, .fn _ _ _ => some false
  | .fn, .yld _ => some false
  | .fn, .nilfn => some true
  | _, _ => none

def intOr (t : TM) (o : Option Od) (d : Nat) : Option Int :=
  match o with
  | none => some d
  | some x => match ev t x with
    | .int _ n => some n
    | _ => none

def sliceV (sz : Nat) (x : PV) (lo hi : Int) (mx : Option Int) (K : PV → Prop) : Prop :=
  match x with
  | .sl sz' xs full nl => 0 ≤ lo ∧ lo ≤ hi ∧ hi ≤ xs.length ∧ (sz' = sz ∨ xs.length = 0) ∧
      match mx with
      | none => K (.sl sz' ((xs.take hi.toNat).drop lo.toNat) (full && decide (hi = xs.length)) nl)
      | some m => hi ≤ m ∧ m ≤ xs.length ∧ K (.sl sz' ((xs.take hi.toNat).drop lo.toNat) (decide (m = hi)) nl)
  | .asl id sz' off len => 0 ≤ lo ∧ lo ≤ hi ∧ hi ≤ len ∧ sz' = sz ∧
      match mx with
      | none => K (.asl id sz' (off + lo.toNat) (hi.toNat - lo.toNat))
      | some m => hi ≤ m ∧ m ≤ len ∧ K (.asl id sz' (off + lo.toNat) (hi.toNat - lo.toNat))
  | _ => False

def buildV (z : List PV) : List (Nat × Nat × PV) → Option (List PV)
  | [] => some z
  | (off, size, v) :: ps =>
    if v.cells.length = size ∧ v.okc = true ∧ off + size ≤ z.length then buildV (z.take off ++ v.cells ++ z.drop (off + size)) ps else none

def fillV (sz : Nat) (ag : Bool) (es : List PV) : List (Nat × PV) → Option (List PV)
  | [] => some es
  | (i, v) :: ps => if v.cells.length = sz ∧ v.okc = true ∧ v.isAgg = ag ∧ i < es.length then fillV sz ag (es.set i v) ps else none

/-- An own slice that is not written any more, as a list; so in the cells of a struct. -/
def frzV (v : PV) (h : AH) : Option (PV × AH) :=
  match v with
  | .asl id sz off len =>
    match h[id]? with
    | some (.arr asz es _) => if sz = asz ∧ off + len ≤ es.length then some (.sl sz ((es.drop off).take len) false false, h.set id (.arr asz es false)) else none
    | _ => none
  | v => some (v, h)

def frzL : List PV → AH → Option (List PV × AH)
  | [], h => some ([], h)
  | v :: l, h => (frzV v h).bind fun (v', h') => (frzL l h').map fun (l', h'') => (v' :: l', h'')

/-- The variable that is pointed at is not written any more. -/
def frzP (id sz i f : Nat) (h : AH) : Option (PV × AH) :=
  match h[id]? with
  | some (.arr asz es _) => if sz = asz then (es[i]?).map fun x => (.rp x f, h.set id (.arr asz es false)) else none
  | _ => none

def frzD (v : PV) (h : AH) : Option (PV × AH) :=
  match v with
  | .agg cs => (frzL cs h).map fun (cs', h') => (.agg cs', h')
  | .ptr id sz i f => frzP id sz i f h
  | v => frzV v h

variable (P : Program)

def vcOp (g0 : Gh) (o : AOp) (t : TM) (h : AH) (K : PV → AH → Prop) : Prop :=
  match o with
  | .mv x => K (ev t x) h
  | .pick c a b => match ev t c with
    | .bool c => (c = true → K (ev t a) h) ∧ (c = false → K (ev t b) h)
    | _ => False
  | .alloc sz z => z.cells.length = sz ∧ z.okc = true ∧ K (.ptr h.length sz 0 0) (h ++ [.arr sz [z] true])
  | .box sz x => (ev t x).cells.length = sz ∧ (ev t x).okc = true ∧ K (.ptr h.length sz 0 0) (h ++ [.arr sz [ev t x] true])
  | .build z ps => bindO (buildV z (ps.map fun (off, size, x) => (off, size, ev t x))) fun cs => K (.agg cs) h
  | .bslice sz z n ps arr => z.cells.length = sz ∧ z.okc = true ∧ bindO (fillV sz z.isAgg (List.replicate n z) (ps.map fun (i, x) => (i, ev t x))) fun es =>
      match arr with
      | true => K (.asl h.length sz 0 n) (h ++ [.arr sz es true])
      | false => K (.sl sz es true false) h
  | .load sz ag a => bindO (ldV h (ev t a) sz ag) fun v => K v h
  | .store sz _ a x => bindO (stV h (ev t a) sz (ev t x)) fun h' => K .undef h'
  | .bin op x y => binV op (ev t x) (ev t y) fun v => K v h
  | .binB neg x y => match ev t x, ev t y with
    | .bool a, .bool b => K (.bool ((a == b) != neg)) h
    | _, _ => False
  | .eqS sig neg x y => keyOk sig true (ev t x) = true ∧ keyOk sig true (ev t y) = true ∧ K (.bool (cellsEq (ev t x).cells (ev t y).cells != neg)) h
  | .isNil k neg x => bindO (isNilV k (ev t x)) fun b => K (.bool (b != neg)) h
  | .un op x => match op, ev t x with
    | .not, .bool b => K (.bool (!b)) h
    | .neg, .int k n => arith k (0 - n) fun v => K v h
    | .xor, .int k n => K (.int k (bitop .xor k (if k.signed then -1 else k.max) n)) h
    | _, _ => False
  | .i2i k x => match ev t x with
    | .int _ n => K (.int k (k.wrap n)) h
    | _ => False
  | .s2s x => match ev t x with
    | .str s => K (.str s) h
    | _ => False
  | .s2b x => match ev t x with
    | .str s => K (.sl 1 (s.map byteV) false false) h
    | _ => False
  | .b2s x => bindO (elemsV h (ev t x) 1) fun xs => bindO (bytesOf xs) fun s => K (.str s) h
  | .b2b x => match ev t x with
    | .asl id sz off len => match h[id]? with
      | some (.arr _ _ true) => K (.asl id sz off len) h
      | _ => False
    | _ => False
  | .slS x lo hi => match ev t x with
    | .str s => bindO (intOr t lo 0) fun lo => bindO (intOr t hi s.length) fun hi => 0 ≤ lo ∧ lo ≤ hi ∧ hi ≤ s.length ∧ K (.str ((s.take hi.toNat).drop lo.toNat)) h
    | _ => False
  | .slL sz x lo hi mx => match ev t x with
    | .sl sz' xs full nl => bindO (intOr t lo 0) fun lo => bindO (intOr t hi xs.length) fun hi =>
        match mx with
        | none => sliceV sz (.sl sz' xs full nl) lo hi none fun v => K v h
        | some m => bindO (intOr t (some m) 0) fun m => sliceV sz (.sl sz' xs full nl) lo hi (some m) fun v => K v h
    | .asl id sz' off len => bindO (intOr t lo 0) fun lo => bindO (intOr t hi len) fun hi =>
        match mx with
        | none => sliceV sz (.asl id sz' off len) lo hi none fun v => K v h
        | some m => bindO (intOr t (some m) 0) fun m => sliceV sz (.asl id sz' off len) lo hi (some m) fun v => K v h
    | _ => False
  | .fad off x => match ev t x with
    | .ptr id sz i f => K (.ptr id sz i (f + off)) h
    | .rp x f => K (.rp x (f + off)) h
    | _ => False
  | .iad sz x i => match ev t x, ev t i with
    | .sl sz' xs _ _, .int _ i => (sz' = sz ∨ xs.length = 0) ∧ 0 ≤ i ∧ bindO xs[i.toNat]? fun x => K (.rp x 0) h
    | .asl id sz' off len, .int _ i => sz' = sz ∧ 0 ≤ i ∧ i < len ∧ K (.ptr id sz' (off + i.toNat) 0) h
    | _, _ => False
  | .fld off sz ag x => match ev t x with
    | .agg cs => bindO (partV (.agg cs) off sz ag) fun v => K v h
    | _ => False
  | .idxS x i => match ev t x, ev t i with
    | .str s, .int _ i => 0 ≤ i ∧ bindO s[i.toNat]? fun b => K (byteV b) h
    | _, _ => False
  | .app sz bytes z x y => z.cells.length = sz ∧ z.okc = true ∧ bindO (elemsV h (ev t y) sz) fun ys => appV h (ev t x) sz bytes ys K
  | .appS x y => match ev t y with
    | .str s => appV h (ev t x) 1 1 (s.map byteV) K
    | _ => False
  | .len k x => match k, ev t x with
    | .str, .str s => K (.int .i64 s.length) h
    | .sl, .sl _ xs _ _ => K (.int .i64 xs.length) h
    | .sl, .asl _ _ _ n => K (.int .i64 n) h
    | .map, .nilmap => K (.int .i64 0) h
    | .map, .map id => match h[id]? with
      | some (.map es) => K (.int .i64 es.length) h
      | _ => False
    | _, _ => False
  | .copy sz x y => bindO (elemsV h (ev t y) sz) fun ys =>
      match ev t x with
      | .asl id sz' off len =>
        match h[id]? with
        | some (.arr asz es true) => sz' = sz ∧ asz = sz ∧ off + len ≤ es.length ∧
            K (.int .i64 (min ys.length len : Nat)) (h.set id (.arr asz (es.take off ++ ys.take (min ys.length len) ++ es.drop (off + min ys.length len)) true))
        | _ => False
      | _ => False
  | .clr sz z x => match ev t x with
    | .sl _ xs _ _ => xs.length = 0 ∧ K (.tuple []) h
    | .asl id sz' off len => match h[id]? with
      | some (.arr asz es true) => sz' = sz ∧ asz = sz ∧ z.cells.length = sz ∧ z.okc = true ∧ off + len ≤ es.length ∧
          K (.tuple []) (h.set id (.arr asz (es.take off ++ List.replicate len z ++ es.drop (off + len)) true))
      | _ => False
    | _ => False
  | .mks sz bytes z l c => match ev t l, ev t c with
    | .int _ l, .int _ c => 0 ≤ l ∧ l ≤ c ∧ z.cells.length = sz ∧ z.okc = true ∧ room c.toNat bytes ∧ K (.asl h.length sz 0 l.toNat) (h ++ [.arr sz (List.replicate l.toNat z) true])
    | _, _ => False
  | .mkm => K (.map h.length) (h ++ [.map []])
  | .lkp sig ag z ok m k =>
    let done (v : PV) (b : Bool) : Prop := match ok with
      | true => K (.tuple [v, .bool b]) h
      | false => K v h
    match ev t m with
    | .nilmap => keyOk sig ag (ev t k) = true ∧ done z false
    | .map id => match h[id]? with
      | some (.map es) => keyOk sig ag (ev t k) = true ∧ keysOk sig ag es = true ∧ matchO (mfind (ev t k) es) (fun v => done v true) (done z false)
      | _ => False
    | _ => False
  | .mup sig ag m k v => match ev t m with
    | .map id => match h[id]? with
      | some (.map es) => keyOk sig ag (ev t k) = true ∧ keysOk sig ag es = true ∧ K .undef (h.set id (.map (mset (ev t k) (ev t v) es)))
      | _ => False
    | _ => False
  | .rng x => match ev t x with
    | .str s => K (.iter h.length) (h ++ [.siter s 0])
    | _ => False
  | .nxt _ => False
  | .ext x i => match ev t x with
    | .tuple vs => bindO vs[i]? fun v => K v h
    | _ => False
  | .mkf f first captured => K (.fn f (evs t first) (evs t captured)) h
  | .nchk x => match ev t x with
    | .ptr id sz i f => K (.ptr id sz i f) h
    | .fn f a b => K (.fn f a b) h
    | .yld id => K (.yld id) h
    | _ => False
  | .call f args => ACalls P g0 f (evs t args) h K
  | .callV x args => ACallV P g0 (ev t x) (evs t args) h K
  | .raw k xs => RawC P g0 k (evs t xs) h K
  | .pur o => vcOp g0 o t [] fun v _ => K v h

structure St where
  t : TM
  h : AH

def upd (t : TM) (d : Option Nat) (v : PV) : TM :=
  match d with
  | some d => (d, v) :: t
  | none => t

def vcG (g0 : Gh) : List (Option Nat × AOp) → TM → AH → (TM → AH → Prop) → Prop
  | [], t, h, K => K t h
  | (d, o) :: l, t, h, K => vcOp P g0 o t h fun v h' => vcG g0 l (upd t d v) h' K

/-- A guard that was passed over itself is not met. -/
def gb (want : Bool) : PV → PV
  | .tuple [] => .bool (!want)
  | v => v

def skipG : List (Option Nat × AOp) → TM → TM
  | [], t => t
  | (d, _) :: l, t => skipG l (upd t d (.tuple []))

def vcOps (g0 : Gh) : List AIt → TM → AH → (TM → AH → Prop) → Prop
  | [], t, h, K => K t h
  | .op d o :: l, t, h, K => vcOp P g0 o t h fun v h' => vcOps g0 l (upd t d v) h' K
  | .frz n :: l, t, h, K => bindO (frzD (look n t) h) fun x => vcOps g0 l ((n, x.1) :: t) x.2 K
  | .gd n want ops :: l, t, h, K =>
    match gb want (look n t) with
    | .bool b => (b = want → vcG P g0 ops t h fun t' h' => vcOps g0 l t' h' K) ∧ (b = !want → vcOps g0 l (skipG ops t) h K)
    | _ => False

def keepT (ks : List Nat) (t : TM) : TM := ks.map fun n => (n, look n t)

/-- So many rounds are enough for a loop. -/
def rounds (keep : List Nat) (body : TM → AH → (Flow → TM → AH → Prop) → Prop) : Nat → TM → AH → (Flow → TM → AH → Prop) → Prop
  | 0, _, _, _ => False
  | n + 1, t, h, Q => body (keepT keep t) h fun fl t' h' => match fl with
    | .normal => rounds keep body n t' h' Q
    | fl => Q fl t' h'

def ALoop (keep : List Nat) (body : TM → AH → (Flow → TM → AH → Prop) → Prop) (t : TM) (h : AH) (Q : Flow → TM → AH → Prop) : Prop :=
  ∃ n, rounds keep body n t h Q

def blockQ (id : Nat) (Q : Flow → TM → AH → Prop) : Flow → TM → AH → Prop
  | .exit i, t, h => (i = id → Q .normal t h) ∧ (i ≠ id → Q (.exit i) t h)
  | fl, t, h => Q fl t h

def seqQ (K : TM → AH → Prop) (Q : Flow → TM → AH → Prop) : Flow → TM → AH → Prop
  | .normal, t, h => K t h
  | fl, t, h => Q fl t h

/-- What is behind a round of a range over a function. -/
def roundQ (id : Nat) (Post : PV → AH → Prop) : Flow → TM → AH → Prop
  | .normal, _, h => h[id]? = some (.loop .busy none) ∧ Post (.bool true) (h.set id (.loop .ready none))
  | fl, _, h => h[id]? = some (.loop .busy none) ∧ Post (.bool false) (h.set id (.loop .done (some fl)))

def setParams : List Nat → List PV → TM → TM
  | p :: ps, v :: vs, t => setParams ps vs ((p, v) :: t)
  | _, _, t => t

/-- What is behind a range over a function. -/
def rfunQ (id : Nat) (t : TM) (Q : Flow → TM → AH → Prop) (h : AH) : Prop :=
  match h[id]? with
  | some (.loop .ready none) => Q .normal t (h.set id .dead)
  | some (.loop .done (some fl)) => Q fl t (h.set id .dead)
  | _ => False

def vc (top : Bool) (g0 : Gh) : ACode → TM → AH → (Flow → TM → AH → Prop) → Prop
  | .skip, t, h, Q => Q .normal t h
  | .ops l, t, h, Q => vcOps P g0 l t h (Q .normal)
  | .seq a b, t, h, Q => vc top g0 a t h (seqQ (fun t' h' => vc top g0 b t' h' Q) Q)
  | .cond c a b, t, h, Q => match ev t c with
    | .bool c => (c = true → vc top g0 a t h Q) ∧ (c = false → vc top g0 b t h Q)
    | _ => False
  | .block id a, t, h, Q => vc top g0 a t h (blockQ id Q)
  | .loop keep a, t, h, Q => ALoop keep (fun t h Q => vc top g0 a t h Q) t h Q
  | .rfun f params assign body, t, h, Q => match ev t f with
    | .fn gf u c => top = true ∧
      ∀ g1 : Gh, g0.le g1 →
        (∀ (args : List PV) (h' : AH) (Post : PV → AH → Prop), args.length = params.length → h'[h.length]? = some (.loop .ready none) →
          (∀ g2 : Gh, g1.le g2 → vc false g2 assign (setParams params args t) h' (seqQ (fun t' h'' => h''[h.length]? = some (.loop .ready none) ∧ vc false g2 body t' (h''.set h.length (.loop .busy none)) (roundQ h.length Post)) (fun _ _ _ => False))) →
          ACallV P g1 (.yld h.length) args h' Post) →
        ACalls P g1 gf (u ++ [.yld h.length] ++ c) (h ++ [.loop .ready none]) fun _ h' => rfunQ h.length t Q h'
    | _ => False
  | .exit id, t, h, Q => Q (.exit id) t h
  | .ret, t, h, Q => Q .ret t h

/-- A function's result. -/
inductive ARes where
  | tmp (t : Nat)
  | cell (a sz : Nat) (ag : Bool)
  deriving Inhabited

def resOne (r : ARes) (t : TM) (h : AH) : Option PV :=
  match r with
  | .tmp n => some (look n t)
  | .cell a sz ag => ldV h (look a t) sz ag

def resAll : List ARes → TM → AH → Option (List PV)
  | [], _, _ => some []
  | r :: rs, t, h => match resOne r t h, resAll rs t h with
    | some v, some vs => some (v :: vs)
    | _, _ => none

def resV (rs : List ARes) (t : TM) (h : AH) : Option PV :=
  match resAll rs t h with
  | some [v] => some v
  | some vs => some (.tuple vs)
  | none => none

def retQ (rs : List ARes) (Post : PV → AH → Prop) : Flow → TM → AH → Prop
  | .exit _, _, _ => False
  | _, t, h => bindO (resV rs t h) fun v => Post v h

def argsT : Nat → List PV → TM
  | _, [] => []
  | n, v :: vs => (n, v) :: argsT (n + 1) vs

structure AFun where
  n : Nat
  np : Nat
  body : ACode
  res : List ARes

def vcF (F : AFun) (args : List PV) (h : AH) (g0 : Gh) (Post : PV → AH → Prop) : Prop :=
  args.length = F.np ∧ vc P true g0 F.body (argsT 0 args) h (retQ F.res Post)

end Go.Avm

/- How the relation between the two heaps is kept: a new object, an object that is written, one that moves, one that is not written any more. -/
namespace Go.Avm
open Go Go.RowKit

/-- At most block b has turned. -/
structure Only (b : Nat) (w w' : World) : Prop where
  os : w'.os = w.os
  tape : w'.tape = w.tape
  output : w'.output = w.output
  size : w'.heap.size = w.heap.size
  block : ∀ k, k ≠ b → w'.heap[k]? = w.heap[k]?

theorem Only.refl (b : Nat) (w : World) : Only b w w := ⟨rfl, rfl, rfl, rfl, fun _ _ => rfl⟩
theorem Only.trans {b : Nat} {x y z : World} (h : Only b x y) (k : Only b y z) : Only b x z :=
  ⟨k.os.trans h.os, k.tape.trans h.tape, k.output.trans h.output, k.size.trans h.size, fun i hi => (k.block i hi).trans (h.block i hi)⟩

theorem Only.setCell (w : World) (a : Addr) (v : Value) : Only a.block w (w.setCell a v) :=
  ⟨rfl, rfl, rfl, by simp [World.setCell], fun k hk => Below.heap_setCell _ _ _ _ hk⟩

theorem Only.setBlock (w : World) (b : Nat) (o : Obj) : Only b w { w with heap := w.heap.setIfInBounds b o } :=
  ⟨rfl, rfl, rfl, by simp, fun k hk => by simp [Array.getElem?_setIfInBounds_ne (Ne.symm hk)]⟩

theorem Only.below {b n : Nat} {w0 w w' : World} (h : Only b w w') (hb : Below n w0 w) (hn : n ≤ b) : Below n w0 w' :=
  hb.trans ⟨h.os, h.tape, h.output, by rw [h.size]; exact Nat.le_refl _, fun k hk => h.block k (by omega)⟩

def Gh.ext (g : Gh) (id b n : Nat) (l : Loop) : Gh :=
  { m := fun i => if i = id then some b else g.m i, bs := fun k => if k = b then n else g.bs k, lp := fun k => if k = b then l else g.lp k, F := g.F }

def Gh.at (g : Gh) (id b : Nat) : Gh := { g with m := fun i => if i = id then some b else g.m i }

def Gh.addF (g : Gh) (F : Nat → Nat → PV → Prop) : Gh := { g with F := fun b o p => g.F b o p ∨ F b o p }

theorem Gh.addF_le (g : Gh) (F : Nat → Nat → PV → Prop) : g.le (g.addF F) := ⟨fun _ _ h => ⟨h, rfl, rfl⟩, fun _ _ _ h => .inl h⟩

variable {P : Program} {E : Env} {g g' : Gh} {h : AH} {w w' : World}

theorem Inv.m_none (hI : Inv P E g h w) : g.m h.length = none := by
  cases hm : g.m h.length with
  | none => rfl
  | some b => have := (hI.dom _ _ hm).1; omega

theorem Inv.ext_le (hI : Inv P E g h w) (n : Nat) (l : Loop) : g.le (g.ext h.length w.heap.size n l) :=
  ⟨fun id b hm => by
    have hd := hI.dom id b hm
    have h1 : id ≠ h.length := by omega
    have h2 : b ≠ w.heap.size := by omega
    simp [Gh.ext, h1, h2, hm], fun _ _ _ h => h⟩

theorem Inv.at_le (hI : Inv P E g h w) (b : Nat) : g.le (g.at h.length b) :=
  ⟨fun id b' hm => by
    have hd := hI.dom id b' hm
    have h1 : id ≠ h.length := by omega
    simp [Gh.at, h1, hm], fun _ _ _ h => h⟩

theorem Inv.drawn (hI : Inv P E g h w) (n : Nat) : Inv P E g h { w with drawn := n } :=
  { n0 := hI.n0, below := ⟨hI.below.os, hI.below.tape, hI.below.output, hI.below.size, hI.below.block⟩, dom := hI.dom, tot := hI.tot, obj := hI.obj, excl := hI.excl, fz := hI.fz, fx := hI.fx, defd := hI.defd, nodup := hI.nodup }

theorem Inv.size (hI : Inv P E g h w) : E.n0 ≤ w.heap.size := Nat.le_trans hI.n0 hI.below.size

theorem Inv.cell_lt (_ : Inv P E g h w) {b o : Nat} {v : Value} (hc : w.cell? ⟨b, o, none⟩ = some v) : b < w.heap.size := by
  unfold World.cell? at hc
  cases hb : w.heap[b]? with
  | none => simp [hb] at hc
  | some x => exact (Array.getElem?_eq_some_iff.1 hb).1

theorem cell_of_block {w w' : World} {b o : Nat} (h : w'.heap[b]? = w.heap[b]?) : w'.cell? ⟨b, o, none⟩ = w.cell? ⟨b, o, none⟩ := by
  simp only [World.cell?, h]

/-- A new object in a new block. -/
theorem Inv.alloc (hI : Inv P E g h w) (co : Obj) (o : AObj) (n : Nat) (l : Loop)
    (ho : ORel P (g.ext h.length w.heap.size n l) w.heap.size (some co) o) : Inv P E (g.ext h.length w.heap.size n l) (h ++ [o]) (w.alloc co) := by
  have hle := hI.ext_le n l
  have hsz : (w.alloc co).heap.size = w.heap.size + 1 := by simp
  have hold : ∀ k, k < w.heap.size → (w.alloc co).heap[k]? = w.heap[k]? := fun k hk => Below.heap_alloc w co k hk
  have hnew : (w.alloc co).heap[w.heap.size]? = some co := by show (w.heap.push co)[w.heap.size]? = _; simp
  have hcase : ∀ id b, (g.ext h.length w.heap.size n l).m id = some b → (id = h.length ∧ b = w.heap.size) ∨ (id ≠ h.length ∧ g.m id = some b) := by
    intro id b hm
    by_cases e : id = h.length
    · left; simp [Gh.ext, e] at hm; exact ⟨e, hm.symm⟩
    · right; simp [Gh.ext, e] at hm; exact ⟨e, hm⟩
  refine { n0 := hI.n0, below := hI.below.alloc hI.size co, dom := ?_, tot := ?_, obj := ?_, excl := ?_, fz := ?_, fx := ?_, defd := ?_, nodup := hI.nodup }
  · intro id b hm
    rw [hsz]; simp only [List.length_append, List.length_singleton]
    rcases hcase id b hm with ⟨h1, h2⟩ | ⟨_, h2⟩
    · have := hI.size; omega
    · have := hI.dom id b h2; omega
  · intro id hid
    simp only [List.length_append, List.length_singleton] at hid
    by_cases e : id = h.length
    · exact ⟨w.heap.size, by simp [Gh.ext, e]⟩
    · obtain ⟨b, hb⟩ := hI.tot id (by omega)
      exact ⟨b, (hle.m _ _ hb).1⟩
  · intro id o' b ho' hm
    rcases hcase id b hm with ⟨h1, h2⟩ | ⟨h1, h2⟩
    · subst h1; subst h2
      simp at ho'; subst ho'
      rw [hnew]; exact ho
    · have hd := hI.dom id b h2
      rw [List.getElem?_append_left hd.1] at ho'
      rw [hold b hd.2.1]
      exact (hI.obj id o' b ho' h2).mono hle h2
  · intro id id' o1 o2 b h1 h2 l1 l2 m1 m2
    rcases hcase id b m1 with ⟨a1, a2⟩ | ⟨a1, a2⟩ <;> rcases hcase id' b m2 with ⟨c1, c2⟩ | ⟨c1, c2⟩
    · omega
    · have := hI.dom _ _ c2; omega
    · have := hI.dom _ _ a2; omega
    · rw [List.getElem?_append_left (hI.dom _ _ a2).1] at h1
      rw [List.getElem?_append_left (hI.dom _ _ c2).1] at h2
      exact hI.excl id id' o1 o2 b h1 h2 l1 l2 a2 c2
  · intro b k p hF
    obtain ⟨v, hv, h1, hr⟩ := hI.fz b k p hF
    refine ⟨v, ?_, h1, hr.mono hle⟩
    rw [cell_of_block (hold b (hI.cell_lt hv))]; exact hv
  · intro id o' b k p h1 hl hm hF
    rcases hcase id b hm with ⟨a1, a2⟩ | ⟨a1, a2⟩
    · obtain ⟨v, hv, _⟩ := hI.fz b k p hF
      have := hI.cell_lt hv; omega
    · rw [List.getElem?_append_left (hI.dom _ _ a2).1] at h1
      exact hI.fx id o' b k p h1 hl a2 hF
  · intro b hb
    obtain ⟨h1, h2⟩ := hI.defd b hb
    exact ⟨by rw [hold b (Array.getElem?_eq_some_iff.1 h1).1]; exact h1, h2⟩

theorem ORel.not_deferred {b : Nat} {co : Option Obj} {o : AObj} (hr : ORel P g b co o) (hl : o.live = true) (ds : Option (List Deferred)) : co ≠ some (.deferred ds) := by
  cases o with
  | arr sz es wr => obtain ⟨c, T, fr, h1, _⟩ := hr; rw [h1]; simp
  | map es => obtain ⟨c, T, h1, _⟩ := hr; rw [h1]; simp
  | siter s pos => rw [show co = _ from hr]; simp
  | miter _ _ _ => exact hr.elim
  | loop st pend => obtain ⟨r, h1, _⟩ := hr; rw [h1]; simp
  | dead => simp [AObj.live] at hl

/-- A live object is written: its block alone turns. -/
theorem Inv.set (hI : Inv P E g h w) {id b : Nat} {o o' : AObj} (ho : h[id]? = some o) (hl : o.live = true) (hm : g.m id = some b) (hw : Only b w w')
    (ho' : ORel P g b w'.heap[b]? o') : Inv P E g (h.set id o') w' := by
  have hd := hI.dom id b hm
  have hF : ∀ k p, ¬ g.F b k p := fun k p => hI.fx id o b k p ho hl hm
  have hget : ∀ i x, (h.set id o')[i]? = some x → (i = id ∧ x = o') ∨ (i ≠ id ∧ h[i]? = some x) := by
    intro i x hx
    by_cases e : i = id
    · subst e; rw [List.getElem?_set_self hd.1] at hx; left; exact ⟨rfl, by cases hx; rfl⟩
    · rw [List.getElem?_set_ne (Ne.symm e)] at hx; exact .inr ⟨e, hx⟩
  refine { n0 := hI.n0, below := hw.below hI.below hd.2.2, dom := ?_, tot := ?_, obj := ?_, excl := ?_, fz := ?_, fx := ?_, defd := ?_, nodup := hI.nodup }
  · intro i c hc
    have := hI.dom i c hc
    rw [List.length_set, hw.size]; exact this
  · intro i hi; rw [List.length_set] at hi; exact hI.tot i hi
  · intro i x c hx hc
    rcases hget i x hx with ⟨e1, e2⟩ | ⟨e1, e2⟩
    · subst e1; subst e2
      rw [hm] at hc; cases hc; exact ho'
    · by_cases ec : c = b
      · subst ec
        by_cases hlx : x.alive = true
        · exact absurd (hI.excl id i o x c ho e2 hl hlx hm hc).symm e1
        · cases x with
          | dead => trivial
          | _ => simp [AObj.alive] at hlx
      · rw [hw.block c ec]; exact hI.obj i x c e2 hc
  · intro i j x y c hx hy lx ly mi mj
    rcases hget i x hx with ⟨e1, e2⟩ | ⟨e1, e2⟩ <;> rcases hget j y hy with ⟨f1, f2⟩ | ⟨f1, f2⟩
    · rw [e1, f1]
    · subst e1
      exact hI.excl i j o y c ho f2 hl ly mi mj
    · subst f1
      exact (hI.excl j i o x c ho e2 hl (AObj.alive_of_live lx) mj mi).symm
    · exact hI.excl i j x y c e2 f2 lx ly mi mj
  · intro c k p hFc
    obtain ⟨v, hv, h1, hr⟩ := hI.fz c k p hFc
    refine ⟨v, ?_, h1, hr⟩
    rw [cell_of_block (hw.block c (fun e => hF k p (e ▸ hFc)))]; exact hv
  · intro i x c k p hx hlx hc hFc
    rcases hget i x hx with ⟨e1, e2⟩ | ⟨e1, e2⟩
    · subst e1; rw [hm] at hc; cases hc; exact hF k p hFc
    · exact hI.fx i x c k p e2 hlx hc hFc
  · intro c hc
    obtain ⟨h1, h2⟩ := hI.defd c hc
    refine ⟨?_, h2⟩
    rw [hw.block c]
    · exact h1
    · intro e; subst e
      exact (hI.obj id o c ho hm).not_deferred hl _ h1

/-- Nothing is written: the object is turned into one that fits the same block and may do no more. -/
theorem Inv.turn (hI : Inv P E g h w) {id b : Nat} {o o' : AObj} (ho : h[id]? = some o) (hl : o.live = true) (hm : g.m id = some b)
    (ho' : ORel P g b w.heap[b]? o') : Inv P E g (h.set id o') w := hI.set ho hl hm (Only.refl b w) ho'

theorem Inv.kill (hI : Inv P E g h w) {id b : Nat} {o : AObj} (ho : h[id]? = some o) (hl : o.live = true) (hm : g.m id = some b) : Inv P E g (h.set id .dead) w :=
  hI.turn ho hl hm trivial

/-- An object moves to a new number; its block may turn. -/
theorem Inv.move (hI : Inv P E g h w) {id b : Nat} {o o' : AObj} (ho : h[id]? = some o) (hl : o.live = true) (hm : g.m id = some b) (hw : Only b w w')
    (ho' : ORel P (g.at h.length b) b w'.heap[b]? o') : Inv P E (g.at h.length b) (h.set id .dead ++ [o']) w' := by
  have hK : Inv P E g (h.set id .dead) w' := hI.set ho hl hm hw trivial
  have hlen : (h.set id .dead).length = h.length := List.length_set
  have hle : g.le (g.at h.length b) := hI.at_le b
  have hd := hI.dom id b hm
  have hF : ∀ k p, ¬ g.F b k p := fun k p => hI.fx id o b k p ho hl hm
  have hcase : ∀ i c, (g.at h.length b).m i = some c → (i = h.length ∧ c = b) ∨ (i ≠ h.length ∧ g.m i = some c) := by
    intro i c hc
    by_cases e : i = h.length
    · left; simp [Gh.at, e] at hc; exact ⟨e, hc.symm⟩
    · right; simp [Gh.at, e] at hc; exact ⟨e, hc⟩
  have hnone : ∀ i x c, (h.set id .dead)[i]? = some x → x.alive = true → g.m i = some c → c ≠ b := by
    intro i x c hx hax hc e
    subst e
    by_cases ei : i = id
    · subst ei; rw [List.getElem?_set_self hd.1] at hx; cases hx; simp [AObj.alive] at hax
    · rw [List.getElem?_set_ne (Ne.symm ei)] at hx
      exact ei (hI.excl id i o x c ho hx hl hax hm hc).symm
  refine { n0 := hK.n0, below := hK.below, dom := ?_, tot := ?_, obj := ?_, excl := ?_, fz := ?_, fx := ?_, defd := hK.defd, nodup := hK.nodup }
  · intro i c hc
    simp only [List.length_append, List.length_singleton, hlen]
    rcases hcase i c hc with ⟨h1, h2⟩ | ⟨_, h2⟩
    · subst h2; have := hK.dom _ _ hm; omega
    · have := hK.dom i c h2; omega
  · intro i hi
    simp only [List.length_append, List.length_singleton, hlen] at hi
    by_cases e : i = h.length
    · exact ⟨b, by simp [Gh.at, e]⟩
    · obtain ⟨c, hc⟩ := hK.tot i (by rw [hlen]; omega)
      exact ⟨c, (hle.m _ _ hc).1⟩
  · intro i x c hx hc
    rcases hcase i c hc with ⟨h1, h2⟩ | ⟨h1, h2⟩
    · subst h1; subst h2
      rw [List.getElem?_append_right (by omega), hlen] at hx
      simp at hx; subst hx; exact ho'
    · have := hI.dom _ _ h2
      rw [List.getElem?_append_left (by omega)] at hx
      exact (hK.obj i x c hx h2).mono hle h2
  · intro i j x y c hx hy lx ly mi mj
    rcases hcase i c mi with ⟨a1, a2⟩ | ⟨a1, a2⟩ <;> rcases hcase j c mj with ⟨c1, c2⟩ | ⟨c1, c2⟩
    · omega
    · have := hI.dom _ _ c2
      rw [List.getElem?_append_left (by omega)] at hy
      exact absurd a2 (hnone j y c hy ly c2)
    · have := hI.dom _ _ a2
      rw [List.getElem?_append_left (by omega)] at hx
      exact absurd c2 (hnone i x c hx (AObj.alive_of_live lx) a2)
    · have := hI.dom _ _ a2
      have := hI.dom _ _ c2
      rw [List.getElem?_append_left (by omega)] at hx hy
      exact hK.excl i j x y c hx hy lx ly a2 c2
  · intro c k p hFc
    obtain ⟨v, hv, h1, hr⟩ := hK.fz c k p hFc
    exact ⟨v, hv, h1, hr.mono hle⟩
  · intro i x c k p hx hlx hc hFc
    rcases hcase i c hc with ⟨a1, a2⟩ | ⟨a1, a2⟩
    · subst a2; exact hF k p hFc
    · have := hI.dom _ _ a2
      rw [List.getElem?_append_left (by omega)] at hx
      exact hK.fx i x c k p hx hlx a2 hFc

/-- A row that is not written any more: its cells may be looked at as a list's. -/
theorem Inv.freeze (hI : Inv P E g h w) {id b sz : Nat} {es : List PV} {wr : Bool} (ho : h[id]? = some (.arr sz es wr)) (hm : g.m id = some b) :
    ∃ g', g.le g' ∧ Inv P E g' (h.set id (.arr sz es false)) w ∧ ∀ (i : Nat) (x : PV) (j : Nat) (p : PV), es[i]? = some x → x.cells[j]? = some p → g'.F b (i * sz + j) p := by
  let Fn : Nat → Nat → PV → Prop := fun c o p => c = b ∧ ∃ (i : Nat) (x : PV) (j : Nat), es[i]? = some x ∧ x.cells[j]? = some p ∧ o = i * sz + j
  have hle := g.addF_le Fn
  have hd := hI.dom id b hm
  obtain ⟨c, T, fr, h1, h2, h3, h4, h5, h6⟩ := hI.obj id _ b ho hm
  have hget : ∀ i x, (h.set id (.arr sz es false))[i]? = some x → (i = id ∧ x = .arr sz es false) ∨ (i ≠ id ∧ h[i]? = some x) := by
    intro i x hx
    by_cases e : i = id
    · subst e; rw [List.getElem?_set_self hd.1] at hx; left; exact ⟨rfl, by cases hx; rfl⟩
    · rw [List.getElem?_set_ne (Ne.symm e)] at hx; exact .inr ⟨e, hx⟩
  refine ⟨g.addF Fn, hle, ?_, fun i x j p hx hp => .inr ⟨rfl, i, x, j, hx, hp, rfl⟩⟩
  refine { n0 := hI.n0, below := hI.below, dom := ?_, tot := ?_, obj := ?_, excl := ?_, fz := ?_, fx := ?_, defd := hI.defd, nodup := hI.nodup }
  · intro i k hk; rw [List.length_set]; exact hI.dom i k hk
  · intro i hi; rw [List.length_set] at hi; exact hI.tot i hi
  · intro i x k hx hk
    have hk' : g.m i = some k := hk
    rcases hget i x hx with ⟨e1, e2⟩ | ⟨e1, e2⟩
    · subst e1; subst e2
      have hkb : k = b := by have : g.m i = some k := hk; rw [hm] at this; cases this; rfl
      subst hkb
      refine ORel.mono hle hm ?_
      exact ⟨c, T, fr, h1, h2, h3, h4, h5, fun e => by cases e⟩
    · exact (hI.obj i x k e2 hk').mono hle hk'
  · intro i j x y k hx hy lx ly mi mj
    rcases hget i x hx with ⟨e1, e2⟩ | ⟨e1, e2⟩
    · subst e2; simp [AObj.live] at lx
    · rcases hget j y hy with ⟨f1, f2⟩ | ⟨f1, f2⟩
      · subst f1; exact hI.excl i j x _ k e2 ho lx rfl mi mj
      · exact hI.excl i j x y k e2 f2 lx ly mi mj
  · intro k o p hF
    rcases hF with hF | ⟨e, i, x, j, hx, hp, e2⟩
    · obtain ⟨v, hv, h1, hr⟩ := hI.fz k o p hF
      exact ⟨v, hv, h1, hr.mono hle⟩
    · subst e; subst e2
      obtain ⟨v, hv, hone, hr⟩ := h5 i x j p hx hp
      exact ⟨v, by simp [World.cell?, h1, hv], hone, hr.mono hle⟩
  · intro i x k o p hx hlx hk hF
    rcases hget i x hx with ⟨e1, e2⟩ | ⟨e1, e2⟩
    · subst e2; simp [AObj.live] at hlx
    · rcases hF with hF | ⟨e, _⟩
      · exact hI.fx i x k o p e2 hlx hk hF
      · subst e
        exact e1 (hI.excl i id x _ k e2 ho hlx rfl hk hm)

end Go.Avm

/- Loads and stores of whole rows of cells in the model, as lists. -/
namespace Go.Avm
open Go Go.RowKit

variable {P : Program} {w : World}

theorem add_none (b o n : Nat) : (Addr.add ⟨b, o, none⟩ n) = ⟨b, o + n, none⟩ := by
  unfold Addr.add; split
  · subst_vars; rfl
  · rfl

theorem cell_at {b : Nat} {c : Array Value} {T : TypeId} {fr : Nat × Nat} (hb : w.heap[b]? = some (.cells c T fr)) (o : Nat) : w.cell? ⟨b, o, none⟩ = c[o]? := by
  simp [World.cell?, hb]

theorem frozen_at {b : Nat} {c : Array Value} {T : TypeId} {fr : Nat × Nat} (hb : w.heap[b]? = some (.cells c T fr)) {o : Nat} (h : ¬ frozenAt fr o) : w.frozen? ⟨b, o, none⟩ = false := by
  obtain ⟨lo, hi⟩ := fr
  simp only [World.frozen?, hb]
  simp only [frozenAt] at h
  simpa using fun h1 => Nat.le_of_not_lt fun h2 => h ⟨h1, h2⟩

theorem run_load_of {a : Addr} {v : Value} (h : w.cell? a = some v) (m : Mode) : (load a m).run P w = .ok v w := by
  simp [run_load, h]

theorem loadCellsFrom_run (a : Addr) (vs : List Value) : ∀ (i : Nat) (acc : Array Value), (∀ k v, vs[k]? = some v → w.cell? (a.add (i + k)) = some v) →
    (loadCellsFrom a i vs.length acc).run P w = .ok (acc ++ vs.toArray) w := by
  induction vs with
  | nil => intro i acc _; simp [loadCellsFrom]
  | cons v vs ih =>
    intro i acc h
    have h0 : w.cell? (a.add i) = some v := h 0 v rfl
    have ih' := ih (i + 1) (acc.push v) (fun k u hk => by rw [show i + 1 + k = i + (k + 1) by omega]; exact h (k + 1) u (by simpa using hk))
    simp only [List.length_cons, loadCellsFrom, Sem.run_bind, run_load_of h0, Result.andThen_ok, ih']
    congr 1
    simp

theorem loadCells_run {a : Addr} {vs : List Value} (h : ∀ k v, vs[k]? = some v → w.cell? (a.add k) = some v) : (loadCells a vs.length).run P w = .ok vs.toArray w := by
  have := loadCellsFrom_run (P := P) a vs 0 #[] (fun k v hk => by rw [Nat.zero_add]; exact h k v hk)
  simpa [loadCells] using this

theorem isAgg_run {t : TypeId} {d : TypeDesc} (h : P.underlying t = some d) : (isAgg t).run P w = .ok (match d with | .struct _ => true | .array _ _ => true | _ => false) w := by
  simp only [isAgg, underlying, Sem.run_bind, run_program, Result.andThen_ok, h, Sem.run_pure]
  cases d <;> rfl

theorem underlying_run {t : TypeId} {d : TypeDesc} (h : P.underlying t = some d) : (underlying t).run P w = .ok d w := by
  simp [underlying, h]

theorem typeInfo_run {t : TypeId} {i : TypeInfo} (h : P.info? t = some i) : (typeInfo t).run P w = .ok i w := by
  simp [typeInfo, h]

theorem sizeOf_run {t : TypeId} {i : TypeInfo} (h : P.info? t = some i) : (sizeOf t).run P w = .ok i.size w := by
  simp [sizeOf, typeInfo_run h]

theorem zeroValue_run {t : TypeId} {i : TypeInfo} {z : Value} (h : P.info? t = some i) (hz : i.zero = some z) : (zeroValue t).run P w = .ok z w := by
  simp [zeroValue, typeInfo_run h, hz]

/-- The cells of an array after some were written. -/
def putAt (c : Array Value) (o : Nat) : List Value → Array Value
  | [] => c
  | v :: vs => putAt (c.setIfInBounds o v) (o + 1) vs

theorem putAt_size (vs : List Value) : ∀ (c : Array Value) (o : Nat), (putAt c o vs).size = c.size := by
  induction vs with
  | nil => intros; rfl
  | cons v vs ih => intro c o; simp [putAt, ih]

theorem putAt_get (vs : List Value) : ∀ (c : Array Value) (o k : Nat), o + vs.length ≤ c.size → (putAt c o vs)[k]? = if o ≤ k ∧ k < o + vs.length then vs[k - o]? else c[k]? := by
  induction vs with
  | nil => intro c o k _; rw [if_neg (by simp only [List.length_nil]; omega)]; rfl
  | cons v vs ih =>
    intro c o k h
    simp only [List.length_cons] at h
    rw [putAt, ih _ _ _ (by simp; omega)]
    by_cases h1 : o + 1 ≤ k ∧ k < o + 1 + vs.length
    · rw [if_pos h1, if_pos (by simp only [List.length_cons]; omega)]
      obtain ⟨j, rfl⟩ : ∃ j, k = o + 1 + j := ⟨k - (o + 1), by omega⟩
      rw [show o + 1 + j - (o + 1) = j by omega, show o + 1 + j - o = j + 1 by omega, List.getElem?_cons_succ]
    · rw [if_neg h1]
      by_cases h2 : k = o
      · subst h2
        rw [if_pos (by simp only [List.length_cons]; omega)]
        simp only [Nat.sub_self]
        rw [Array.getElem?_setIfInBounds_self_of_lt (by omega)]; rfl
      · rw [if_neg (by simp only [List.length_cons]; omega), Array.getElem?_setIfInBounds_ne (by omega)]

theorem setCell_heap {b : Nat} {c : Array Value} {T : TypeId} {fr : Nat × Nat} (hb : w.heap[b]? = some (.cells c T fr)) (o : Nat) (v : Value) :
    (w.setCell ⟨b, o, none⟩ v).heap[b]? = some (.cells (c.setIfInBounds o v) T fr) := by
  obtain ⟨hlt, hk⟩ := Array.getElem?_eq_some_iff.1 hb
  simp only [World.setCell]
  rw [Array.getElem?_eq_getElem (by rw [Array.size_modify]; exact hlt), Array.getElem_modify_self, hk]
  simp

theorem storeCells_run (b off : Nat) (T : TypeId) (fr : Nat × Nat) (vs : List Value) : ∀ (w : World) (c : Array Value) (i : Nat), w.heap[b]? = some (.cells c T fr) → (∀ v ∈ vs, v.oneCell' = true) →
    off + i + vs.length ≤ c.size → (∀ o, o < c.size → ¬ frozenAt fr o) →
    ∃ w', (storeCells ⟨b, off, none⟩ vs i).run P w = .ok () w' ∧ Only b w w' ∧ w'.heap[b]? = some (.cells (putAt c (off + i) vs) T fr) := by
  induction vs with
  | nil => intro w c i hb _ _ _; exact ⟨w, by simp [storeCells], Only.refl b w, hb⟩
  | cons v vs ih =>
    intro w c i hb h1 hlen hfr
    simp only [List.length_cons] at hlen
    have hc : w.cell? ⟨b, off + i, none⟩ = some c[off + i] := by rw [cell_at hb]; exact Array.getElem?_eq_getElem (by omega)
    have hz : w.frozen? ⟨b, off + i, none⟩ = false := frozen_at hb (hfr _ (by omega))
    have hs : (store (Addr.add ⟨b, off, none⟩ i) v).run P w = .ok () (w.setCell ⟨b, off + i, none⟩ v) := by
      rw [add_none, run_store _ _ _ _ _ (h1 v (by simp)), hc]; simp [hz]
    obtain ⟨w', r1, r2, r3⟩ := ih (w.setCell ⟨b, off + i, none⟩ v) (c.setIfInBounds (off + i) v) (i + 1) (setCell_heap hb _ _) (fun u hu => h1 u (by simp [hu])) (by simp; omega)
      (fun o ho => hfr o (by simpa using ho))
    refine ⟨w', ?_, (Only.setCell w ⟨b, off + i, none⟩ v).trans r2, ?_⟩
    · simp only [storeCells, Sem.run_bind, hs, Result.andThen_ok, r1]
    · rw [r3, putAt]; rfl

end Go.Avm

/- From the model's operations to the abstract machine's: by a plain function. -/
namespace Go.Avm
open Go

def ofCell : Value → Option PV
  | .bool b => some (.bool b)
  | .int k n => some (.int k n)
  | .string s => some (.str s.data.toList)
  | .pointer none => some .nilptr
  | .slice none 0 0 => some (.sl 0 [] true true)
  | .map none => some .nilmap
  | .nilFunc => some .nilfn
  | .nilIface => some .nilif
  | _ => none

def ofCells : List Value → Option (List PV)
  | [] => some []
  | v :: l => match ofCell v, ofCells l with
    | some p, some ps => some (p :: ps)
    | _, _ => none

def ofValue : Value → Option PV
  | .agg cs => (ofCells cs.toList).map .agg
  | v => ofCell v

def isAggD : TypeDesc → Bool
  | .struct _ => true
  | .array _ _ => true
  | _ => false

variable (P : Program)

def cOd : Operand → Option Od
  | .tmp t => some (.tmp t)
  | .const v => (ofValue v).map .k
  | .func f => if callOk P f then some (.k (.fn f [] [])) else none
  | .global g => some (.k (.gp g 0))

def cOds : List Operand → Option (List Od)
  | [] => some []
  | x :: l => match cOd P x, cOds l with
    | some o, some os => some (o :: os)
    | _, _ => none

def cOdO : Option Operand → Option (Option Od)
  | none => some none
  | some x => (cOd P x).map some

def structFields (t : TypeId) : Option (Array Field) :=
  match P.underlying t with
  | some (.struct fs) => some fs
  | _ => none

def sliceElem (t : TypeId) : Option TypeId :=
  match P.underlying t with
  | some (.slice e) => some e
  | _ => none

/-- The kinds of a plain type's cells: numbers, truth values, texts, structs of these, all of whose fields count. -/
def sigF (sub : TypeId → Option (List Kd)) : List Field → Nat → Option (List Kd)
  | [], _ => some []
  | f :: fs, at_ => match sub f.type, P.info? f.type with
    | some s, some i => if f.name ≠ "_" ∧ f.offset = at_ ∧ i.size = s.length then (sigF sub fs (at_ + s.length)).map (s ++ ·) else none
    | _, _ => none

def sigT : Nat → TypeId → Option (List Kd)
  | 0, _ => none
  | n + 1, t => match P.underlying t with
    | some (.int k) => some [.int k]
    | some .string => some [.str]
    | some .bool => some [.bool]
    | some (.struct fs) => if P.stoodInHeld t then none else sigF P (sigT n) fs.toList 0
    | _ => none

def refK : TypeDesc → Option RK
  | .slice _ => some .sl
  | .pointer _ => some .ptr
  | .map _ _ => some .map
  | .func _ _ _ => some .fn
  | _ => none

def nilConst : RK → Operand → Bool
  | .sl, .const (.slice none 0 0) => true
  | .ptr, .const (.pointer none) => true
  | .map, .const (.map none) => true
  | .fn, .const .nilFunc => true
  | _, _ => false

def cParts (fs : Array Field) : List (Nat × Operand) → Option (List (Nat × Nat × Od))
  | [] => some []
  | (k, x) :: l => match fs[k]?, cOd P x, cParts fs l with
    | some f, some o, some ps => match P.info? f.type with
      | some i => some ((f.offset, i.size, o) :: ps)
      | none => none
    | _, _, _ => none

def cElems : List (Nat × Operand) → Option (List (Nat × Od))
  | [] => some []
  | (k, x) :: l => match cOd P x, cElems l with
    | some o, some ps => some ((k, o) :: ps)
    | _, _ => none

def isU8 (t : TypeId) : Bool :=
  match P.underlying t with
  | some (.int .u8) => true
  | _ => false

def compileOp (arr : Bool) (o : Oper) : Option AOp :=
  match o.op with
  | .move x => do some (.mv (← cOd P x))
  | .assign x => do some (.mv (← cOd P x))
  | .pick c a b => do some (.pick (← cOd P c) (← cOd P a) (← cOd P b))
  | .alloc T => do
    let i ← P.info? T
    let z ← i.zero
    let p ← ofValue z
    some (.alloc i.size p)
  | .box T x => do
    let i ← P.info? T
    let x ← cOd P x
    some (.box i.size x)
  | .build T parts => do
    let i ← P.info? T
    let z ← i.zero
    let p ← ofValue z
    let fs ← structFields P T
    let ps ← cParts P fs parts.toList
    if fs.toList.all fun f => (P.info? f.type).isSome then some (.build p.cells ps) else none
  | .buildSlice T len parts => do
    let e ← sliceElem P T
    let i ← P.info? e
    let z ← i.zero
    let p ← ofValue z
    let ps ← cElems P parts.toList
    if 1 ≤ i.size ∧ len * i.size ≤ 2 ^ 24 then some (.bslice i.size p len ps arr) else none
  | .load T a => do
    let i ← P.info? T
    let d ← P.underlying T
    let a ← cOd P a
    if isAggD d || i.size == 1 then some (.load i.size (isAggD d) a) else none
  | .store T a x => do
    let i ← P.info? T
    let d ← P.underlying T
    let a ← cOd P a
    let x ← cOd P x
    some (.store i.size (isAggD d) a x)
  | .binOp op T x y _ => do
    let d ← P.underlying T
    let x' ← cOd P x
    let y' ← cOd P y
    match d with
    | .int _ => some (.bin op x' y')
    | .string => some (.bin op x' y')
    | .bool => match op with
      | .eql => some (.binB false x' y')
      | .neq => some (.binB true x' y')
      | _ => none
    | .struct _ => do
      let s ← sigT P 50 T
      if P.eqGuardType P.depth T then none else
      match op with
      | .eql => some (.eqS s false x' y')
      | .neq => some (.eqS s true x' y')
      | _ => none
    | d => do
      let k ← refK d
      let v := if nilConst k y then some x' else if nilConst k x then some y' else none
      let v ← v
      match op with
      | .eql => some (.isNil k false v)
      | .neq => some (.isNil k true v)
      | _ => none
  | .unOp op _ x => do some (.un op (← cOd P x))
  | .convert s d x => do
    let x ← cOd P x
    match P.underlying s, P.underlying d with
    | some (.int _), some (.int k) => some (.i2i k x)
    | some .string, some .string => some (.s2s x)
    | some .string, some (.slice e) => if isU8 P e then some (.s2b x) else none
    | some (.slice e), some .string => if isU8 P e then some (.b2s x) else none
    | some (.slice _), some (.slice e) => if s = d ∧ isU8 P e = true then some (.b2b x) else none
    | _, _ => none
  | .slice T x lo hi mx => do
    let x ← cOd P x
    let lo ← cOdO P lo
    let hi ← cOdO P hi
    let mx' ← cOdO P mx
    match P.underlying T with
    | some .string => if mx.isNone then some (.slS x lo hi) else none
    | some (.slice e) => do
      let i ← P.info? e
      if mx.isNone || hi.isSome then some (.slL i.size x lo hi mx') else none
    | _ => none
  | .fieldAddr T x f => do
    let fs ← structFields P T
    let f ← fs[f]?
    let i ← P.info? f.type
    let x ← cOd P x
    if 1 ≤ i.size then some (.fad f.offset x) else none
  | .field T x f => do
    let fs ← structFields P T
    let f ← fs[f]?
    let i ← P.info? f.type
    let d ← P.underlying f.type
    let x ← cOd P x
    if isAggD d || i.size == 1 then some (.fld f.offset i.size (isAggD d) x) else none
  | .indexAddr T x i => do
    let e ← sliceElem P T
    let j ← P.info? e
    let x ← cOd P x
    let i ← cOd P i
    some (.iad j.size x i)
  | .index T x i => do
    let x ← cOd P x
    let i ← cOd P i
    match P.underlying T with
    | some .string => some (.idxS x i)
    | _ => none
  | .lookup T m k ok => do
    let m ← cOd P m
    let k ← cOd P k
    match P.underlying T with
    | some (.map kt e) => do
      let i ← P.info? e
      let z ← i.zero
      let p ← ofValue z
      let s ← sigT P 50 kt
      let d ← P.underlying kt
      some (.lkp s (isAggD d) p ok m k)
    | _ => none
  | .mapUpdate T m k v => do
    let m ← cOd P m
    let k ← cOd P k
    let v ← cOd P v
    match P.underlying T with
    | some (.map kt _) => do
      let s ← sigT P 50 kt
      let d ← P.underlying kt
      some (.mup s (isAggD d) m k v)
    | _ => none
  | .makeMap _ none => some .mkm
  | .makeSlice T l c => do
    let e ← sliceElem P T
    let i ← P.info? e
    let z ← i.zero
    let p ← ofValue z
    let l ← cOd P l
    let c ← cOd P c
    if 1 ≤ i.size ∧ i.bytes ≤ 1048576 then some (.mks i.size i.bytes p l c) else none
  | .makeFunc (.func f) first captured => do
    let a ← cOds P first.toList
    let b ← cOds P captured.toList
    if callOk P f then some (.mkf f a b) else none
  | .extract x i => do some (.ext (← cOd P x) i)
  | .nilCheck x => do some (.nchk (← cOd P x))
  | .call c =>
    match c.callee with
    | .builtin .len =>
      match c.args.toList, c.argTypes.toList with
      | [x], [T] => do
        let x ← cOd P x
        match P.underlying T with
        | some .string => some (.len .str x)
        | some (.slice _) => some (.len .sl x)
        | some (.map _ _) => some (.len .map x)
        | _ => none
      | _, _ => none
    | .builtin .append =>
      match c.args.toList, c.argTypes.toList with
      | [x, y], [S, T] => do
        let x ← cOd P x
        let y ← cOd P y
        let e ← sliceElem P S
        let i ← P.info? e
        let z ← i.zero
        let p ← ofValue z
        if ¬ (1 ≤ i.size ∧ 1 ≤ i.bytes ∧ i.bytes ≤ 1048576) then none else
        match P.underlying T with
        | some .string => if i.size = 1 ∧ i.bytes = 1 ∧ p.cells.length = 1 then some (.appS x y) else none
        | some (.slice _) => some (.app i.size i.bytes p x y)
        | _ => none
      | _, _ => none
    | .builtin .clear =>
      match c.args.toList, c.argTypes.toList with
      | [x], [T] => do
        let x ← cOd P x
        let e ← sliceElem P T
        let i ← P.info? e
        let z ← i.zero
        let p ← ofValue z
        some (.clr i.size p x)
      | _, _ => none
    | _ => none
  | _ => none

/-- Calls of functions and of function values; all else by the above. -/
def compileI0 (arr : Bool) (o : Oper) : Option AOp :=
  match o.op with
  | .call c =>
    match c.callee with
    | .value (.func f) => match cOds P c.args.toList with
      | some l => if callOk P f then some (.call f l) else none
      | none => none
    | .value (.tmp x) => match cOds P c.args.toList with
      | some l => some (.callV (.tmp x) l)
      | none => none
    | _ => compileOp P arr o
  | _ => compileOp P arr o


def isGlobal : Operand → Bool
  | .global _ => true
  | _ => false

/-- A function of the model's own. -/
def extOk (P : Program) (f : FuncId) : Bool :=
  match P.funcs[f]? with
  | some fn => fn.name != "runtime.NumGoroutine" && fn.body.isNone
  | none => false

/-- What is taken as it is. -/
def compileRaw (o : Oper) : Option AOp :=
  match o.op with
  | .convert s d x => (cOd P x).map fun x => .raw (.conv s d) [x]
  | .range t x => (cOd P x).map fun x => .raw (.range t) [x]
  | .next x b => (cOd P x).map fun x => .raw (.next b o.type) [x]
  | .indexAddr t x i => match cOd P x, cOd P i with
    | some x, some i => some (.raw (.idx t) [x, i])
    | _, _ => none
  | .index t x i => match cOd P x, cOd P i with
    | some x, some i => some (.raw (.index t) [x, i])
    | _, _ => none
  | .load t x => (cOd P x).map fun x => .raw (.load t) [x]
  | .call c => match c.callee with
    | .builtin b => (cOds P c.args.toList).map fun l => .raw (.bi b c.argTypes.toList o.type (c.args.toList.map fun | .const _ => true | _ => false)) l
    | .value (.func f) => if extOk P f then (cOds P c.args.toList).map fun l => .raw (.ext f) l else none
    | _ => none
  | _ => none

def rawFirst (o : Oper) : Bool :=
  match o.op with
  | .load _ x => isGlobal x
  | _ => false

def compileI (arr : Bool) (o : Oper) : Option AOp :=
  if rawFirst o then compileRaw P o else
  match compileI0 P arr o with
  | some x => some x
  | none => compileRaw P o

end Go.Avm
