/- What a law's row of this seat gives to its call. -/
import Derived.Test.YtppeejkegbjgdaaDoorKg
import Derived.Test.YtppeejkegbjgdaaDoorVd
import Derived.Test.YtppeejkegbjgdaaDoorRows
import Derived.Lib.LaidIn
import Derived.Lib.LaidU8T
import Derived.Deep.DeepHandedRow
import Derived.Deep.DeepWitnessRowRef
import Derived.JoinedCond
import Derived.SizedLaws
import Derived.Shelf.Vars
set_option linter.unusedVariables false
namespace Go.Law10
open Go.K10 (Glob)
open Go Go.Avm Go.RowKit Go.ChangeShapes Go.WideShapes Go.Proofs Go.Shelf Go.Proofs.YtppeejkegbjgdaaDoor

theorem own0 : ownKnob Tryd.prog.godebug = none := by kernel_rfl
theorem laid0 : laidOutB Tryd.prog = true := by kernel_rfl

def ren : Ren := { t := fun n => if n = 5 then 5 else if n = 119 then 141 else if n = 138 then 143 else if n = 139 then 144 else 0, g := fun n => if n = 3 then 1 else if n = 4 then 2 else 0, f := fun _ => 0 }

theorem glob_of {W : World} (hL : laidMetH Tryd.prog Rows.keywordBackRow.laid W) (hsh : W.ShapedOpen Tryd.prog) : Glob (ghostOf W) := by
  have hL' : laidMet Tryd.prog [("unicode/utf8.acceptRanges", Lib.acceptData), ("unicode/utf8.first", Lib.firstData)] W := by
    have e : [("unicode/utf8.acceptRanges", Lib.acceptData), ("unicode/utf8.first", Lib.firstData)] = Rows.keywordBackRow.laid := by kernel_rfl
    rw [e]
    exact hL
  have htab : Lib.Utf8Tabs (ren.g 3) (ren.g 4) W :=
    utf8Tabs_of_readsT (P := Tryd.prog) (ρ := ren) ⟨by kernel_rfl, by kernel_rfl, by kernel_rfl, by kernel_rfl⟩ ⟨by kernel_rfl, by kernel_rfl, by kernel_rfl, by kernel_rfl, by kernel_rfl, by kernel_rfl, by kernel_rfl⟩ (Lib.laidMet.reads hL' (.tail _ (.head _))) (Lib.laidMet.reads hL' (.head _))
  obtain ⟨m, hm⟩ := cell_of_shapedOpen_int (P := Tryd.prog) (g := 0) (t := 3) (zero := #[.int .i64 0]) hsh (of_decide_eq_true (by kernel_rfl)) (by kernel_rfl) rfl (by kernel_rfl) (by kernel_rfl) (by kernel_rfl : Tryd.prog.underlying 3 = some (.int .i64))
  obtain ⟨t1, t2⟩ := htab
  exact ⟨⟨m, _, hm, rfl, .int _ _⟩, fun c hc => ⟨_, t1 c hc, rfl, .int _ _⟩, fun i hi => ⟨⟨_, (t2 i hi).1, rfl, .int _ _⟩, ⟨_, (t2 i hi).2, rfl, .int _ _⟩⟩⟩

/-- THE WITNESS's WORLD: the two tables as their initialisers lay them. -/
noncomputable def laidWorld (os : Os) : World :=
  let w0 := World.holding Tryd.prog os ⟨#[], #[], []⟩
  let put (h : Array Obj) (g : Nat) (cs : Array Value) : Array Obj := h.modify g fun
    | .cells _ t frozen => .cells cs t frozen
    | o => o
  let h1 := put w0.heap 1 (Lib.firstTab.map fun z => Value.int .u8 z).toArray
  let h2 := put h1 2 ((List.range 16).flatMap fun i => [Value.int .u8 (Lib.accLo i), Value.int .u8 (Lib.accHi i)]).toArray
  { w0 with heap := h2 }

theorem laid_met (os : Os) (args : Array Value) : laidMet Tryd.prog Rows.keywordBackRow.laid ((laidWorld os).forCall (fun _ _ => 0) ⟨#[], args, []⟩).memory :=
  (LaidIn.of_run (l := Rows.keywordBackRow.laid) [1, 2] 8 (by kernel_rfl) (by kernel_rfl) (by kernel_rfl) (by kernel_rfl)).met

open Go.K10 (Bs wordV)

theorem sh_words {P : Program} {n : Nat} {t e u : TypeId} {fs : Array Field} {q : PV} (ht : P.underlying t = some (.slice e)) (he : P.underlying e = some (.struct fs)) (hf : fs.toList.map (·.type) = [u, u]) (hu : P.underlying u = some .string) (hc : P.cellsOf e = 2)
    (h : ArgSh P (n + 3) t q) : ∃ (ws : List (Bs × Bs)) (f nl : Bool), q = .sl 2 (ws.map wordV) f nl ∧ ws.length ≤ maxLen := by
  unfold ArgSh at h
  have hag : isAggT P t = false := by simp [isAggT, ht, isAggD]
  have hage : isAggT P e = true := by simp [isAggT, he, isAggD]
  rw [hag] at h
  simp only [ShT, ht, hc, hage] at h
  obtain ⟨xs, full, nl, h1, h2, _, h4⟩ := h
  simp only [List.cons.injEq, and_true] at h1
  have key : ∀ xs : List PV, (∀ x ∈ xs, x.isAgg = true ∧ ShT P (n + 2) e x.cells) → ∃ ws : List (Bs × Bs), xs = ws.map wordV := by
    intro xs
    induction xs with
    | nil => intro _; exact ⟨[], rfl⟩
    | cons x xs ih =>
      intro h
      obtain ⟨ws, rfl⟩ := ih fun y hy => h y (List.mem_cons_of_mem _ hy)
      obtain ⟨ha, hs⟩ := h x List.mem_cons_self
      simp only [ShT, he, hf, partsT, hu] at hs
      obtain ⟨a, b, h5, ⟨s, rfl, _⟩, c, d, rfl, ⟨s', rfl, _⟩, rfl⟩ := hs
      cases x <;> simp [PV.isAgg] at ha
      rename_i cs
      simp only [PV.cells] at h5
      subst h5
      exact ⟨(s, s') :: ws, rfl⟩
  obtain ⟨ws, rfl⟩ := key xs h4
  exact ⟨ws, full, nl, h1, by simpa using h2⟩

def structOf (P : Program) (e : TypeId) : List TypeId :=
  match P.underlying e with
  | some (.struct fs) => fs.toList.map (·.type)
  | _ => []

/-- Bytes and words. -/
theorem bw_args {P : Program} {n : Nat} {t1 e1 t2 e2 u : TypeId} {qs : List PV} (ht1 : P.underlying t1 = some (.slice e1)) (he1 : P.underlying e1 = some (.int .u8)) (hc1 : P.cellsOf e1 = 1)
    (ht : P.underlying t2 = some (.slice e2)) (he : structOf P e2 = [u, u]) (hu : P.underlying u = some .string) (hc : P.cellsOf e2 = 2) (h : ArgsSh P (n + 3) [t1, t2] qs) :
    ∃ (bs : List UInt8) (ws : List (Bs × Bs)) (f1 n1 f2 n2 : Bool), qs = [.sl 1 (bs.map byteV) f1 n1, .sl 2 (ws.map wordV) f2 n2] ∧ bs.length ≤ maxLen ∧ ws.length ≤ maxLen := by
  obtain ⟨q1, q2, rfl, hq1, hq2⟩ := args2 h
  obtain ⟨bs, f1, n1, rfl, hb⟩ := sh_bytes ht1 he1 hc1 hq1
  unfold structOf at he
  split at he
  · rename_i fs hfs
    obtain ⟨ws, f2, n2, rfl, hw⟩ := sh_words ht hfs he hu hc hq2
    exact ⟨bs, ws, f1, n1, f2, n2, rfl, hb, hw⟩
  · cases he

/-- Bytes and texts. -/
theorem bs_args {P : Program} {n : Nat} {t1 e1 t2 e2 : TypeId} {qs : List PV} (ht1 : P.underlying t1 = some (.slice e1)) (he1 : P.underlying e1 = some (.int .u8)) (hc1 : P.cellsOf e1 = 1)
    (ht : P.underlying t2 = some (.slice e2)) (he : P.underlying e2 = some .string) (hc : P.cellsOf e2 = 1) (h : ArgsSh P (n + 3) [t1, t2] qs) :
    ∃ (bs : List UInt8) (ws : List Bs) (f1 n1 f2 n2 : Bool), qs = [.sl 1 (bs.map byteV) f1 n1, .sl 1 (ws.map .str) f2 n2] ∧ bs.length ≤ maxLen ∧ ws.length ≤ maxLen := by
  obtain ⟨q1, q2, rfl, hq1, hq2⟩ := args2 h
  obtain ⟨bs, f1, n1, rfl, hb⟩ := sh_bytes ht1 he1 hc1 hq1
  obtain ⟨ws, f2, n2, rfl, hw⟩ := sh_strs ht he hc hq2
  exact ⟨bs, ws, f1, n1, f2, n2, rfl, hb, hw⟩

/-- Bytes, bytes, a text. -/
theorem bbs_args {P : Program} {n : Nat} {t1 e1 t2 : TypeId} {qs : List PV} (ht1 : P.underlying t1 = some (.slice e1)) (he1 : P.underlying e1 = some (.int .u8)) (hc1 : P.cellsOf e1 = 1)
    (ht : P.underlying t2 = some .string) (h : ArgsSh P (n + 3) [t1, t1, t2] qs) :
    ∃ (bs cs s : List UInt8) (f1 n1 f2 n2 : Bool), qs = [.sl 1 (bs.map byteV) f1 n1, .sl 1 (cs.map byteV) f2 n2, .str s] ∧ bs.length ≤ maxLen ∧ cs.length ≤ maxLen ∧ s.length ≤ maxLen := by
  obtain ⟨q1, q2, q3, rfl, hq1, hq2, hq3⟩ := args3 h
  obtain ⟨bs, f1, n1, rfl, hb⟩ := sh_bytes ht1 he1 hc1 hq1
  obtain ⟨cs, f2, n2, rfl, hc⟩ := sh_bytes ht1 he1 hc1 hq2
  obtain ⟨s, rfl, hs⟩ := sh_str ht hq3
  exact ⟨bs, cs, s, f1, n1, f2, n2, rfl, hb, hc, hs⟩

end Go.Law10
