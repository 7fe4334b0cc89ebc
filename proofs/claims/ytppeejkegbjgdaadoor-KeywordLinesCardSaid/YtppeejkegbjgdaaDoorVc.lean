/- Regions of operations: the model does what the abstract machine says. -/
import Derived.Test.YtppeejkegbjgdaaDoorVb
import Derived.RangeFuncLeaves
import Derived.OrdersIn
namespace Go.Avm
open Go Go.RowKit

/-- The fences that do not fence: a plain frame's and a round's. -/
def Wide (F : Fence) : Prop := F = Fence.wide ∨ ∃ l, F = Fence.wide.inRound l

theorem Wide.fn {F : Fence} (h : Wide F) (f : FuncId) : F.fn f := by
  rcases h with rfl | ⟨l, rfl⟩ <;> trivial

theorem Wide.depth {F : Fence} (h : Wide F) : F.depth = none := by
  rcases h with rfl | ⟨l, rfl⟩ <;> rfl

theorem Wide.calls {F : Fence} (h : Wide F) {n : Nat} {P : Program} {f : FuncId} {args : Array Value} {w : World} {R : Ending → World → Prop} (hc : Calls P f args w R) : CallsIn F n P f args w R := by
  rcases h with rfl | ⟨l, rfl⟩
  · exact callsIn_wide.2 hc
  · exact (callsIn_wide.2 hc : CallsIn Fence.wide n P f args w R)

theorem Wide.round {F : Fence} (h : Wide F) {n : Nat} {P : Program} {l : Nat} {f : FuncId} {tmps : Array Value} {c d : Code} {w : World} {R : Ending → World → Prop} (hc : RoundIn Fence.wide 0 P l f tmps c d w R) : RoundIn F n P l f tmps c d w R := by
  have h0 : RoundIn Fence.wide n P l f tmps c d w R := ⟨trivial, fun c cs _ => hc.2 c cs (room_wide _)⟩
  rcases h with rfl | ⟨l, rfl⟩
  · exact h0
  · exact h0

def mark1 (b : Nat) : Deferred := { target := .collected b, args := #[] }

def Env.with (E : Env) (D : List Nat) : Env := { E with L := D ++ E.L }

structure SRel (P : Program) (E : Env) (D : List Nat) (g : Gh) (t : TM) (h : AH) (a : Act) (w : World) (N : Nat) : Prop where
  t : TRel P g t a.tmps
  i : Inv P (E.with D) g h w
  n : a.tmps.size = N
  d : a.defers = D.map mark1

variable {P : Program} {E : Env} {D : List Nat} {g g0 : Gh} {h : AH} {w : World} {t : TM} {a : Act} {N : Nat} {F : Fence}

theorem TRel.put (hT : TRel P g t a.tmps) {pv : PV} {r : Value} (hv : VRel P g pv r) {d : Option Nat} (hd : ∀ n, d = some n → n < a.tmps.size) : TRel P g (upd t d pv) (a.put d r).tmps := by
  cases d with
  | none => exact hT
  | some n =>
    intro m
    have hn := hd n rfl
    simp only [upd, look, Act.put]
    by_cases e : m = n
    · subst e
      rw [if_pos rfl]
      simp only [Array.getD_eq_getD_getElem?]
      rw [Array.getElem?_setIfInBounds_self_of_lt hn]; exact hv
    · rw [if_neg e]
      simp only [Array.getD_eq_getD_getElem?]
      rw [Array.getElem?_setIfInBounds_ne (Ne.symm e)]
      have := hT m
      simpa only [Array.getD_eq_getD_getElem?] using this

theorem SRel.put {g' : Gh} {h' : AH} {w' : World} (hS : SRel P E D g t h a w N) (hg : g.le g') (hI : Inv P (E.with D) g' h' w') {pv : PV} {r : Value} (hv : VRel P g' pv r) {d : Option Nat} (hd : ∀ n, d = some n → n < N) :
    SRel P E D g' (upd t d pv) h' (a.put d r) w' N :=
  ⟨(hS.t.mono hg).put hv (by rw [hS.n]; exact hd), hI, by cases d <;> simp [Act.put, hS.n], by cases d <;> simp [Act.put, hS.d]⟩

theorem frzV_sound {E : Env} (hI : Inv P E g h w) {v v' : PV} {h' : AH} {r : Value} (hv : VRel P g v r) (hf : frzV v h = some (v', h')) : ∃ g', g.le g' ∧ Inv P E g' h' w ∧ VRel P g' v' r := by
  cases v <;> simp only [frzV] at hf
  case asl id sz off len =>
    cases hid : h[id]? with
    | none => simp [hid] at hf
    | some ob =>
      cases ob <;> simp only [hid, reduceCtorEq] at hf
      rename_i asz es wr
      split at hf
      · rename_i hc
        obtain ⟨rfl, hle⟩ := hc
        simp only [Option.some.injEq, Prod.mk.injEq] at hf
        obtain ⟨rfl, rfl⟩ := hf
        obtain ⟨b, cap, o', rfl, hm, hcap, hbs, ho⟩ := hv.asl_inv
        obtain ⟨g', q1, q2, q3⟩ := hI.freeze hid hm
        obtain ⟨c, T, fr, c1, c2, c3, c4⟩ := (hI.obj id _ b hid hm).row
        refine ⟨g', q1, q2, ?_⟩
        have hlen : ((es.drop off).take len).length = len := by simp; omega
        have := VRel.sl (P := P) (g := g') (sz := sz) (xs := (es.drop off).take len) (full := false) (a := ⟨b, o', none⟩) (cap := cap) (by omega) (fun e => by cases e)
          (fun x hx => c3.1 x (List.mem_of_mem_drop (List.mem_of_mem_take hx))) (fun _ => rfl) (fun i x j p hx hp => by
            have hi : i < len := by rw [← hlen]; exact (List.getElem?_eq_some_iff.1 hx).1
            rw [List.getElem?_take_of_lt hi, List.getElem?_drop] at hx
            have ho' : o' = off * sz := by rcases ho with h | h <;> omega
            have := q3 (off + i) x j p hx hp
            rw [Nat.add_mul] at this
            rw [ho']; exact this)
        rw [hlen] at this; exact this
      · cases hf
  all_goals (simp only [Option.some.injEq, Prod.mk.injEq] at hf; obtain ⟨rfl, rfl⟩ := hf; exact ⟨g, Gh.le.refl g, hI, hv⟩)

theorem frzL_sound {E : Env} : ∀ {cs : List PV} {g : Gh} {h h' : AH} {cs' : List PV} {vs : List Value}, Inv P E g h w → cs.length = vs.length → (∀ (i : Nat) (p : PV) (v : Value), cs[i]? = some p → vs[i]? = some v → VRel P g p v) → frzL cs h = some (cs', h') →
    ∃ g', g.le g' ∧ Inv P E g' h' w ∧ cs'.length = vs.length ∧ ∀ (i : Nat) (p : PV) (v : Value), cs'[i]? = some p → vs[i]? = some v → VRel P g' p v
  | [], g, h, h', cs', vs, hI, hl, hr, hf => by
    simp only [frzL, Option.some.injEq, Prod.mk.injEq] at hf
    obtain ⟨rfl, rfl⟩ := hf
    exact ⟨g, Gh.le.refl g, hI, hl, hr⟩
  | c :: cs, g, h, h', cs', [], hI, hl, hr, hf => by simp at hl
  | c :: cs, g, h, h', cs', v :: vs, hI, hl, hr, hf => by
    simp only [frzL, Option.bind_eq_some_iff, Option.map_eq_some_iff, Prod.exists, Prod.mk.injEq] at hf
    obtain ⟨v1, h1, hf1, l1, h2, hf2, rfl, rfl⟩ := hf
    obtain ⟨g1, a1, a2, a3⟩ := frzV_sound hI (hr 0 c v rfl rfl) hf1
    obtain ⟨g2, b1, b2, b3, b4⟩ := frzL_sound (vs := vs) a2 (by simpa using hl) (fun i p u hp hu => (hr (i + 1) p u (by simpa using hp) (by simpa using hu)).mono a1) hf2
    refine ⟨g2, a1.trans b1, b2, by simp [b3], fun i p u hp hu => ?_⟩
    cases i with
    | zero => simp at hp hu; subst hp; subst hu; exact a3.mono b1
    | succ i => simp at hp hu; exact b4 i p u hp hu

theorem frzD_sound {E : Env} (hI : Inv P E g h w) {v v' : PV} {h' : AH} {r : Value} (hv : VRel P g v r) (hf : frzD v h = some (v', h')) : ∃ g', g.le g' ∧ Inv P E g' h' w ∧ VRel P g' v' r := by
  cases v with
  | agg cs =>
    simp only [frzD, Option.map_eq_some_iff, Prod.exists, Prod.mk.injEq] at hf
    obtain ⟨cs', h1, hf1, rfl, rfl⟩ := hf
    obtain ⟨vs, rfl, hl, hr⟩ := hv.agg_inv
    obtain ⟨g', a1, a2, a3, a4⟩ := frzL_sound (vs := vs.toList) hI (by simpa using hl) (fun i p u hp hu => hr i p u hp (by simpa using hu)) hf1
    exact ⟨g', a1, a2, .agg (by simpa using a3) fun i p u hp hu => a4 i p u hp (by simpa using hu)⟩
  | ptr id sz i f =>
    simp only [frzD, frzP] at hf
    cases hid : h[id]? with
    | none => simp [hid] at hf
    | some ob =>
      cases ob <;> simp only [hid, reduceCtorEq] at hf
      rename_i asz es wr
      split at hf
      · rename_i e
        subst e
        simp only [Option.map_eq_some_iff, Prod.mk.injEq] at hf
        obtain ⟨x, hx, rfl, rfl⟩ := hf
        obtain ⟨b, rfl, hm⟩ := hv.ptr_inv
        obtain ⟨g', q1, q2, q3⟩ := hI.freeze hid hm
        exact ⟨g', q1, q2, .rp fun j p hp => q3 i x j p hx hp⟩
      · cases hf
  | _ => exact frzV_sound hI hv hf

theorem args_toArray {c : Call} : c.args.map a.eval = (c.args.toList.map a.eval).toArray := by apply Array.ext'; simp

theorem callFunc_run {f : FuncId} (hf : callOk P f = true) (args : Array Value) : (callFunc f args).run P w = .ok (.enter f args) w := by
  unfold callOk at hf
  cases hfn : P.funcs[f]? with
  | none => simp [hfn] at hf
  | some fn =>
    simp only [hfn, Bool.and_eq_true, bne_iff_ne, ne_eq] at hf
    have hb : ¬ (fn.body.isNone = true) := by cases hx : fn.body <;> simp [hx] at hf ⊢
    have hname : (fn.name == "runtime.NumGoroutine") = false := by simpa using hf.1
    simp only [callFunc, Sem.run_bind, run_program, Result.andThen_ok, hfn, hname, Bool.false_eq_true, if_false, hb, Sem.run_pure]

theorem VRels.append {ps qs : List PV} {us vs : List Value} (h1 : VRels P g ps us) (h2 : VRels P g qs vs) : VRels P g (ps ++ qs) (us ++ vs) := by
  refine ⟨by simp [h1.1, h2.1], fun i p v hp hv => ?_⟩
  by_cases hi : i < ps.length
  · rw [List.getElem?_append_left hi] at hp
    rw [List.getElem?_append_left (by rw [← h1.1]; exact hi)] at hv
    exact h1.2 i p v hp hv
  · rw [List.getElem?_append_right (by omega)] at hp
    rw [List.getElem?_append_right (by rw [← h1.1]; omega), ← h1.1] at hv
    exact h2.2 _ p v hp hv

/-- One operation, whatever it is. -/
theorem op_step (hF : Wide F) (hg0 : g0.le g) (hS : SRel P E D g t h a w N) {o : Oper} {arr : Bool} {ao : AOp} {K : PV → AH → Prop} (hc : compileI P arr o = some ao) (hd : ∀ n, o.dst = some n → n < N) (hk : vcOp P g0 ao t h K)
    {next : Act → World → Prop} {Q : Exit → Act → World → Prop} (hn : ∀ g' pv h' a' w', g0.le g' → K pv h' → SRel P E D g' (upd t o.dst pv) h' a' w' N → next a' w') : o.wpIn F 0 P a w next Q := by
  refine ⟨fun f _ => hF.fn f, ?_⟩
  have hsem : ∀ c, o.op ≠ .defer c := by
    intro c he
    simp [compileI, rawFirst, compileI0, compileRaw, he] at hc
    unfold compileOp at hc; rw [he] at hc; simp at hc
  rw [Oper.semAt_eq _ _ _ hsem]
  have hdep : F.depth.isSome = true → 1 ≤ 0 := by rw [hF.depth]; simp
  -- a call of a function
  have hcall : ∀ (f : FuncId) (args : List PV) (cargs : List Value), (execOp a.eval o).run P w = .ok (.enter f cargs.toArray) w → VRels P g args cargs → ACalls P g0 f args h K → o.uponIn F 0 P a next Q ((execOp a.eval o).run P w) := by
    intro f args cargs hrun hargs hac
    rw [hrun, Oper.uponIn_enter]
    refine ⟨hdep, (hF.calls (hac _ g w cargs hg0 hS.i hargs)).mono ?_⟩
    rintro e w' ⟨r, g', h', rv, rfl, hp, hg, hI', hv⟩
    exact hn g' r h' _ w' (hg0.trans hg) hp (hS.put hg hI' hv hd)
  have hplain : compileOp P arr o = some ao → o.uponIn F 0 P a next Q ((execOp a.eval o).run P w) := by
    intro hc'
    obtain ⟨x, r, w', pv, h', g', hr, hx, hp, hg, hI', hv⟩ := op_sound hS.i hS.t hc' hk
    rw [hr]
    rcases hx with rfl | ⟨rfl, rfl⟩
    · exact hn g' pv h' _ w' (hg0.trans hg) hp (hS.put hg hI' hv hd)
    · exact hn g' pv h' _ w' (hg0.trans hg) hp (hS.put hg hI' hv hd)
  -- what is taken as it is
  have hraw : compileRaw P o = some ao → o.uponIn F 0 P a next Q ((execOp a.eval o).run P w) := by
    intro hc'
    have key : ∃ (k : RawK) (xs : List Od) (vs : List Value), ao = .raw k xs ∧ VRels P g (evs t xs) vs ∧ (execOp a.eval o).run P w = (k.run vs).run P w := by
      have one : ∀ {x : Operand} {x' : Od}, cOd P x = some x' → VRels P g (evs t [x']) [a.eval x] := fun hx => ⟨rfl, fun i p v hp hv => by
        cases i with
        | zero => simp [evs] at hp hv; subst hp; subst hv; exact cOd_rel hS.t hx
        | succ i => simp [evs] at hp⟩
      have two : ∀ {x y : Operand} {x' y' : Od}, cOd P x = some x' → cOd P y = some y' → VRels P g (evs t [x', y']) [a.eval x, a.eval y] := fun hx hy => ⟨rfl, fun i p v hp hv => by
        rcases i with _ | _ | i
        · simp [evs] at hp hv; subst hp; subst hv; exact cOd_rel hS.t hx
        · simp [evs] at hp hv; subst hp; subst hv; exact cOd_rel hS.t hy
        · simp [evs] at hp⟩
      unfold compileRaw at hc'
      split at hc'
      · rename_i s d x ho
        simp only [Option.map_eq_some_iff] at hc'
        obtain ⟨x', hx, rfl⟩ := hc'
        exact ⟨_, _, _, rfl, one hx, by simp only [execOp, ho, RawK.run]⟩
      · rename_i T x ho
        simp only [Option.map_eq_some_iff] at hc'
        obtain ⟨x', hx, rfl⟩ := hc'
        exact ⟨_, _, _, rfl, one hx, by simp only [execOp, ho, RawK.run]⟩
      · rename_i x b ho
        simp only [Option.map_eq_some_iff] at hc'
        obtain ⟨x', hx, rfl⟩ := hc'
        exact ⟨_, _, _, rfl, one hx, by simp only [execOp, ho, RawK.run]⟩
      · rename_i T x i ho
        split at hc'
        · rename_i x' i' hx hi
          cases hc'
          exact ⟨_, _, _, rfl, two hx hi, by simp only [execOp, ho, RawK.run]⟩
        · cases hc'
      · rename_i T x i ho
        split at hc'
        · rename_i x' i' hx hi
          cases hc'
          exact ⟨_, _, _, rfl, two hx hi, by simp only [execOp, ho, RawK.run]⟩
        · cases hc'
      · rename_i T x ho
        simp only [Option.map_eq_some_iff] at hc'
        obtain ⟨x', hx, rfl⟩ := hc'
        exact ⟨_, _, _, rfl, one hx, by simp only [execOp, ho, RawK.run]⟩
      · rename_i c ho
        split at hc'
        · rename_i b hcal
          simp only [Option.map_eq_some_iff] at hc'
          obtain ⟨l, hl, rfl⟩ := hc'
          refine ⟨_, _, c.args.toList.map a.eval, rfl, cOds_rel hS.t _ _ hl, ?_⟩
          simp only [RawK.run]
          rw [builtin_run ho hcal, args_map rfl]
          congr 2
          apply Array.ext'; simp
          intro a _; cases a <;> rfl
        · rename_i f hcal
          split at hc'
          · rename_i hok
            simp only [Option.map_eq_some_iff] at hc'
            obtain ⟨l, hl, rfl⟩ := hc'
            refine ⟨_, _, c.args.toList.map a.eval, rfl, cOds_rel hS.t _ _ hl, ?_⟩
            simp only [execOp, ho, Sem.run_bind, resolve, hcal, Act.eval, Deferred.ofValue, Sem.run_pure, Result.andThen_ok, invoke, RawK.run]
            congr 2
            apply Array.ext'; simp
          · cases hc'
        · cases hc'
      · cases hc'
    obtain ⟨k, xs, vs, rfl, hvs, hrun⟩ := key
    obtain ⟨r, w', pv, h', g', q1, q2, q3, q4, q5⟩ := hk _ g w vs hg0 hS.i hvs
    rw [hrun, q1]
    exact hn g' pv h' _ w' (hg0.trans q3) q2 (hS.put q3 q4 q5 hd)
  unfold compileI at hc
  split at hc
  · exact hraw hc
  split at hc
  rotate_left
  · exact hraw hc
  rename_i ao' hc0
  cases hc
  replace hc := hc0
  unfold compileI0 at hc
  split at hc
  · rename_i c ho
    split at hc
    · rename_i f hcal
      split at hc
      · rename_i l hl
        split at hc
        · rename_i hok
          cases hc
          have hargs := cOds_rel hS.t _ _ hl
          refine hcall f (evs t l) _ ?_ hargs hk
          simp only [execOp, ho, Sem.run_bind, resolve, hcal, Act.eval, Deferred.ofValue, Sem.run_pure, Result.andThen_ok, invoke]
          rw [callFunc_run hok]
          congr 2
          apply Array.ext'; simp
        · cases hc
      · cases hc
    · rename_i x hcal
      split at hc
      · rename_i l hl
        cases hc
        have hargs := cOds_rel hS.t _ _ hl
        have rx := cOd_rel hS.t (x := .tmp x) rfl
        simp only [vcOp] at hk
        cases ex : ev t (.tmp x) <;> rw [ex] at hk rx <;> simp only [ACallV] at hk
        · rename_i f first cap
          obtain ⟨vf, vc, hev, hok, l1, l2, r1, r2⟩ := rx.fn_inv
          have hall : VRels P g (first ++ evs t l ++ cap) (vf.toList ++ c.args.toList.map a.eval ++ vc.toList) :=
            VRels.append (VRels.append ⟨by simpa using l1, fun i p v hp hv => r1 i p v hp (by simpa using hv)⟩ hargs) ⟨by simpa using l2, fun i p v hp hv => r2 i p v hp (by simpa using hv)⟩
          refine hcall f _ _ ?_ hall hk
          simp only [execOp, ho, Sem.run_bind, resolve, hcal, hev, Deferred.ofValue, Sem.run_pure, Result.andThen_ok, invoke]
          rw [callFunc_run hok]
          congr 2
          apply Array.ext'; simp
        · rename_i id
          obtain ⟨b, hev, hm⟩ := rx.yld_inv
          obtain ⟨fn, tmps, as', body, hy, hr⟩ := hk _ g w _ b hg0 hS.i hargs hm
          have hrun : (execOp a.eval o).run P w = .ok (.round b fn tmps as' body) w := by
            simp only [execOp, ho, Sem.run_bind, resolve, hcal, hev, Deferred.ofValue, Sem.run_pure, Result.andThen_ok, invoke]
            rw [← hy]
            congr 2
            apply Array.ext'; simp
          rw [hrun, Oper.uponIn_round]
          refine ⟨hdep, (hF.round hr).mono ?_⟩
          rintro e w' ⟨r, g', h', rv, rfl, hp, hg, hI', hv⟩
          exact hn g' r h' _ w' (hg0.trans hg) hp (hS.put hg hI' hv hd)
      · cases hc
    · exact hplain hc
  · exact hplain hc

end Go.Avm

/- What an operation looks at; operations that yield the same at any time. -/
namespace Go.Avm
open Go Go.RowKit

theorem bool_ne {b c : Bool} (h : ¬ b = c) : b = !c := by cases b <;> cases c <;> first | rfl | exact absurd rfl h

def dstOk (N : Nat) : Option Nat → Bool
  | none => true
  | some n => decide (n < N)

def AOp.ods : AOp → List Od
  | .mv x | .box _ x | .isNil _ _ x | .un _ x | .i2i _ x | .s2s x | .s2b x | .b2s x | .b2b x | .fad _ x | .fld _ _ _ x | .len _ x | .rng x | .nxt x | .ext x _ | .nchk x => [x]
  | .load _ _ a => [a]
  | .clr _ _ a => [a]
  | .pick c a b => [c, a, b]
  | .alloc _ _ | .mkm => []
  | .build _ ps => ps.map fun p => p.2.2
  | .bslice _ _ _ ps _ => ps.map fun p => p.2
  | .store _ _ a x => [a, x]
  | .bin _ x y | .binB _ x y | .eqS _ _ x y | .iad _ x y | .idxS x y | .app _ _ _ x y | .appS x y | .copy _ x y => [x, y]
  | .slS x lo hi => x :: lo.toList ++ hi.toList
  | .slL _ x lo hi mx => x :: lo.toList ++ hi.toList ++ mx.toList
  | .mks _ _ _ l c => [l, c]
  | .lkp _ _ _ _ m k => [m, k]
  | .mup _ _ m k v => [m, k, v]
  | .mkf _ first captured => first ++ captured
  | .call _ args => args
  | .raw _ args => args
  | .callV x args => x :: args
  | .pur o => o.ods

def Od.temps : Od → List Nat
  | .tmp n => [n]
  | .k _ => []

def AOp.temps (o : AOp) : List Nat := o.ods.flatMap Od.temps

variable {P : Program} {g0 : Gh} {t t' : TM} {h : AH}

theorem ev_agree {x : Od} (h : ∀ n ∈ x.temps, look n t = look n t') : ev t x = ev t' x := by
  cases x with
  | tmp n => exact h n (by simp [Od.temps])
  | k v => rfl

theorem evs_agree {l : List Od} (h : ∀ x ∈ l, ev t x = ev t' x) : evs t l = evs t' l := List.map_congr_left h

theorem intOr_agree {o : Option Od} (d : Nat) (h : ∀ x ∈ o.toList, ev t x = ev t' x) : intOr t o d = intOr t' o d := by
  cases o with
  | none => rfl
  | some x => simp only [intOr, h x (by simp)]

/-- An operation looks at its operands alone. -/
theorem vcOp_agree : ∀ {o : AOp} {h : AH} {K : PV → AH → Prop}, (∀ x ∈ o.ods, ev t x = ev t' x) → vcOp P g0 o t h K = vcOp P g0 o t' h K := by
  intro o
  induction o with
  | build z ps =>
    intro h K ha
    have : (ps.map fun (off, size, x) => (off, size, ev t x)) = ps.map fun (off, size, x) => (off, size, ev t' x) :=
      List.map_congr_left fun p hp => by
        have := ha p.2.2 (by simp only [AOp.ods, List.mem_map]; exact ⟨p, hp, rfl⟩)
        obtain ⟨p1, p2, p3⟩ := p
        simp only at this
        simp only [this]
    simp only [vcOp, this]
  | bslice sz z n ps arr =>
    intro h K ha
    have : (ps.map fun (i, x) => (i, ev t x)) = ps.map fun (i, x) => (i, ev t' x) :=
      List.map_congr_left fun p hp => by
        have := ha p.2 (by simp only [AOp.ods, List.mem_map]; exact ⟨p, hp, rfl⟩)
        obtain ⟨p1, p2⟩ := p
        simp only at this
        simp only [this]
    simp only [vcOp, this]
  | slS x lo hi =>
    intro h K ha
    have h1 := ha x (by simp [AOp.ods])
    have h2 := fun d => intOr_agree (o := lo) d fun x hx => ha x (by simp [AOp.ods] at hx ⊢; simp [hx])
    have h3 := fun d => intOr_agree (o := hi) d fun x hx => ha x (by simp [AOp.ods] at hx ⊢; simp [hx])
    simp only [vcOp, h1, h2, h3]
  | slL sz x lo hi mx =>
    intro h K ha
    have h1 := ha x (by simp [AOp.ods])
    have h2 := fun d => intOr_agree (o := lo) d fun x hx => ha x (by simp [AOp.ods] at hx ⊢; simp [hx])
    have h3 := fun d => intOr_agree (o := hi) d fun x hx => ha x (by simp [AOp.ods] at hx ⊢; simp [hx])
    have h4 : ∀ m, mx = some m → ∀ d, intOr t (some m) d = intOr t' (some m) d := fun m hm d => intOr_agree d fun x hx => ha x (by simp [AOp.ods, hm] at hx ⊢; simp [hx])
    cases mx with
    | none => simp only [vcOp, h1, h2, h3]
    | some m => simp only [vcOp, h1, h2, h3, h4 m rfl]
  | mkf f first captured =>
    intro h K ha
    have h1 : evs t first = evs t' first := evs_agree fun x hx => ha x (by simp [AOp.ods, hx])
    have h2 : evs t captured = evs t' captured := evs_agree fun x hx => ha x (by simp [AOp.ods, hx])
    simp only [vcOp, h1, h2]
  | raw f args =>
    intro h K ha
    have h1 : evs t args = evs t' args := evs_agree fun x hx => ha x (by simp [AOp.ods, hx])
    simp only [vcOp, h1]
  | call f args =>
    intro h K ha
    have h1 : evs t args = evs t' args := evs_agree fun x hx => ha x (by simp [AOp.ods, hx])
    simp only [vcOp, h1]
  | callV x args =>
    intro h K ha
    have h1 : evs t args = evs t' args := evs_agree fun x hx => ha x (by simp [AOp.ods, hx])
    have h2 := ha x (by simp [AOp.ods])
    simp only [vcOp, h1, h2]
  | pur o ih =>
    intro h K ha
    simp only [vcOp]
    exact ih ha
  | alloc sz z => intro h K ha; simp only [vcOp]
  | mkm => intro h K ha; simp only [vcOp]
  | nxt x => intro h K ha; simp only [vcOp]
  | mv x => intro h K ha; simp only [vcOp, ha x (by simp [AOp.ods])]
  | box sz x => intro h K ha; simp only [vcOp, ha x (by simp [AOp.ods])]
  | isNil k neg x => intro h K ha; simp only [vcOp, ha x (by simp [AOp.ods])]
  | un op x => intro h K ha; simp only [vcOp, ha x (by simp [AOp.ods])]
  | i2i k x => intro h K ha; simp only [vcOp, ha x (by simp [AOp.ods])]
  | s2s x => intro h K ha; simp only [vcOp, ha x (by simp [AOp.ods])]
  | s2b x => intro h K ha; simp only [vcOp, ha x (by simp [AOp.ods])]
  | b2s x => intro h K ha; simp only [vcOp, ha x (by simp [AOp.ods])]
  | b2b x => intro h K ha; simp only [vcOp, ha x (by simp [AOp.ods])]
  | fad off x => intro h K ha; simp only [vcOp, ha x (by simp [AOp.ods])]
  | fld off sz ag x => intro h K ha; simp only [vcOp, ha x (by simp [AOp.ods])]
  | len k x => intro h K ha; simp only [vcOp, ha x (by simp [AOp.ods])]
  | rng x => intro h K ha; simp only [vcOp, ha x (by simp [AOp.ods])]
  | ext x i => intro h K ha; simp only [vcOp, ha x (by simp [AOp.ods])]
  | nchk x => intro h K ha; simp only [vcOp, ha x (by simp [AOp.ods])]
  | load sz ag x => intro h K ha; simp only [vcOp, ha x (by simp [AOp.ods])]
  | clr sz z x => intro h K ha; simp only [vcOp, ha x (by simp [AOp.ods])]
  | pick c a b => intro h K ha; simp only [vcOp, ha c (by simp [AOp.ods]), ha a (by simp [AOp.ods]), ha b (by simp [AOp.ods])]
  | mup sig ag c a b => intro h K ha; simp only [vcOp, ha c (by simp [AOp.ods]), ha a (by simp [AOp.ods]), ha b (by simp [AOp.ods])]
  | store sz ag x y => intro h K ha; simp only [vcOp, ha x (by simp [AOp.ods]), ha y (by simp [AOp.ods])]
  | bin op x y => intro h K ha; simp only [vcOp, ha x (by simp [AOp.ods]), ha y (by simp [AOp.ods])]
  | binB op x y => intro h K ha; simp only [vcOp, ha x (by simp [AOp.ods]), ha y (by simp [AOp.ods])]
  | eqS sig neg x y => intro h K ha; simp only [vcOp, ha x (by simp [AOp.ods]), ha y (by simp [AOp.ods])]
  | iad sz x y => intro h K ha; simp only [vcOp, ha x (by simp [AOp.ods]), ha y (by simp [AOp.ods])]
  | idxS x y => intro h K ha; simp only [vcOp, ha x (by simp [AOp.ods]), ha y (by simp [AOp.ods])]
  | app sz bytes z x y => intro h K ha; simp only [vcOp, ha x (by simp [AOp.ods]), ha y (by simp [AOp.ods])]
  | appS x y => intro h K ha; simp only [vcOp, ha x (by simp [AOp.ods]), ha y (by simp [AOp.ods])]
  | copy sz x y => intro h K ha; simp only [vcOp, ha x (by simp [AOp.ods]), ha y (by simp [AOp.ods])]
  | mks sz bytes z x y => intro h K ha; simp only [vcOp, ha x (by simp [AOp.ods]), ha y (by simp [AOp.ods])]
  | lkp sig ag z ok x y => intro h K ha; simp only [vcOp, ha x (by simp [AOp.ods]), ha y (by simp [AOp.ods])]

/-- One value, whatever comes behind. -/
def Det (V : (PV → Prop) → Prop) : Prop := ∀ K, V K → ∃ v, K v ∧ ∀ K' : PV → Prop, K' v → V K'

theorem Det.id (v : PV) : Det fun K => K v := fun _ h => ⟨v, h, fun _ h' => h'⟩
theorem Det.and {p : Prop} {V : (PV → Prop) → Prop} (h : Det V) : Det fun K => p ∧ V K := fun K hK => let ⟨v, h1, h2⟩ := h K hK.2; ⟨v, h1, fun K' h' => ⟨hK.1, h2 K' h'⟩⟩
theorem Det.no : Det fun _ => False := fun _ h => h.elim
theorem Det.bind {α : Type} {o : Option α} {V : α → (PV → Prop) → Prop} (h : ∀ x, Det (V x)) : Det fun K => bindO o fun x => V x K := by
  cases o with
  | none => exact Det.no
  | some x => exact h x

theorem Det.arith (k : IntKind) (n : Int) : Det fun K => arith k n K := by
  cases k <;> simp only [Avm.arith] <;> first | exact (Det.id _).and | exact Det.id _

theorem Det.binV (op : BinOp) (x y : PV) : Det fun K => binV op x y K := by
  unfold Avm.binV
  split
  · cases op <;> first | exact (Det.id _).and | exact (Det.id _).and.and | exact (Det.arith _ _).and
  · cases op <;> first | exact Det.id _ | exact (Det.id _).and | exact Det.no
  · exact Det.no

theorem Det.sliceV (sz : Nat) (x : PV) (lo hi : Int) (mx : Option Int) : Det fun K => sliceV sz x lo hi mx K := by
  unfold Avm.sliceV
  split
  · refine Det.and (Det.and (Det.and (Det.and ?_)))
    split
    · exact Det.id _
    · exact (Det.id _).and.and
  · refine Det.and (Det.and (Det.and (Det.and ?_)))
    split
    · exact Det.id _
    · exact (Det.id _).and.and
  · exact Det.no

/-- An operation that writes nothing and makes nothing. -/
def AOp.still : AOp → Bool
  | .mv _ | .pick _ _ _ | .build _ _ | .load _ _ _ | .bin _ _ _ | .binB _ _ _ | .eqS _ _ _ _ | .isNil _ _ _ | .un _ _ | .i2i _ _ | .s2s _ | .s2b _ | .b2s _ | .slS _ _ _ | .slL _ _ _ _ _ | .fad _ _ | .iad _ _ _ | .fld _ _ _ _ | .idxS _ _
  | .len _ _ | .ext _ _ | .mkf _ _ _ | .nchk _ => true
  | .bslice _ _ _ _ arr => !arr
  | _ => false

/-- One value; and with nothing in memory the one that it is with anything in memory. -/
def Still (V : AH → (PV → AH → Prop) → Prop) : Prop := ∀ (h0 : AH) (K : PV → AH → Prop), V h0 K → ∃ v, K v h0 ∧ ∀ (h : AH) (K' : PV → AH → Prop), h = h0 ∨ h0 = [] → K' v h → V h K'

theorem Still.det {V : (PV → Prop) → Prop} (h : Det V) : Still fun h K => V fun v => K v h := fun h0 K hK => let ⟨v, h1, h2⟩ := h (fun v => K v h0) hK; ⟨v, h1, fun h' K' _ hk => h2 (fun v => K' v h') hk⟩

theorem Still.no : Still fun _ _ => False := fun _ _ h => h.elim

theorem Still.opt {f : AH → Option PV} (hf : ∀ v, f [] = some v → ∀ h, f h = some v) : Still fun h K => bindO (f h) fun v => K v h := by
  intro h0 K hK
  cases hn : f h0 with
  | none => simp only [hn] at hK; exact hK.elim
  | some v =>
    simp only [hn, bindO_some] at hK
    refine ⟨v, hK, fun h K' he hk => ?_⟩
    have : f h = some v := by
      rcases he with rfl | rfl
      · exact hn
      · exact hf v hn h
    simp only [this, bindO_some]; exact hk

theorem ldV_nil {x v : PV} {sz : Nat} {ag : Bool} (h : ldV [] x sz ag = some v) (h' : AH) : ldV h' x sz ag = some v := by
  cases x <;> simp [ldV] at h ⊢
  exact h

theorem elemsV_nil {x : PV} {v : List PV} {sz : Nat} (h : elemsV [] x sz = some v) (h' : AH) : elemsV h' x sz = some v := by
  cases x <;> simp [elemsV] at h ⊢
  exact h

theorem vcOp_still {o : AOp} (ho : o.still = true) : Still fun h K => vcOp P g0 o t h K := by
  cases o with
  | mv x => simp only [vcOp]; exact .det (Det.id _)
  | pick c a b =>
    simp only [vcOp]
    split
    · rename_i b _
      cases b
      · exact fun h0 K hK => ⟨_, hK.2 rfl, fun h K' _ hk => ⟨fun e => (by cases e), fun _ => hk⟩⟩
      · exact fun h0 K hK => ⟨_, hK.1 rfl, fun h K' _ hk => ⟨fun _ => hk, fun e => (by cases e)⟩⟩
    · exact Still.no
  | build z ps => simp only [vcOp]; exact .det (V := fun K => bindO _ fun cs => K (.agg cs)) (.bind fun _ => .id _)
  | load sz ag a => simp only [vcOp]; exact .opt fun v hv h => ldV_nil hv h
  | bin op x y => simp only [vcOp]; exact .det (Det.binV op _ _)
  | binB neg x y =>
    simp only [vcOp]
    split
    · exact .det (Det.id _)
    · exact .no
  | eqS sig neg x y => simp only [vcOp]; exact .det (V := fun K => _ ∧ _ ∧ K _) (Det.id _).and.and
  | isNil k neg x => simp only [vcOp]; exact .det (V := fun K => bindO _ fun b => K (.bool (b != neg))) (.bind fun _ => .id _)
  | un op x =>
    simp only [vcOp]
    split
    · exact .det (Det.id _)
    · exact .det (Det.arith _ _)
    · exact .det (Det.id _)
    · exact .no
  | i2i k x =>
    simp only [vcOp]
    split
    · exact .det (Det.id _)
    · exact .no
  | s2s x =>
    simp only [vcOp]
    split
    · exact .det (Det.id _)
    · exact .no
  | s2b x =>
    simp only [vcOp]
    split
    · exact .det (Det.id _)
    · exact .no
  | b2s x =>
    simp only [vcOp]
    intro h0 K hK
    cases hn : elemsV h0 (ev t x) 1 with
    | none => simp only [hn] at hK; exact hK.elim
    | some xs =>
      simp only [hn, bindO_some] at hK
      cases hb : bytesOf xs with
      | none => simp only [hb] at hK; exact hK.elim
      | some s =>
        simp only [hb, bindO_some] at hK
        refine ⟨_, hK, fun h K' he hk => ?_⟩
        have : elemsV h (ev t x) 1 = some xs := by
          rcases he with rfl | rfl
          · exact hn
          · exact elemsV_nil hn h
        simp only [this, bindO_some, hb]; exact hk
  | slS x lo hi =>
    simp only [vcOp]
    split
    · rename_i s _
      exact .det (V := fun K => bindO (intOr t lo 0) fun lo => bindO (intOr t hi s.length) fun hi => 0 ≤ lo ∧ lo ≤ hi ∧ hi ≤ s.length ∧ K (.str ((s.take hi.toNat).drop lo.toNat))) (.bind fun _ => .bind fun _ => (Det.id _).and.and.and)
    · exact .no
  | slL sz x lo hi mx =>
    simp only [vcOp]
    split
    · rename_i sz' xs full nl _
      cases mx with
      | none => exact .det (V := fun K => bindO (intOr t lo 0) fun lo => bindO (intOr t hi xs.length) fun hi => sliceV sz (.sl sz' xs full nl) lo hi none K) (.bind fun _ => .bind fun _ => Det.sliceV _ _ _ _ _)
      | some m => exact .det (V := fun K => bindO (intOr t lo 0) fun lo => bindO (intOr t hi xs.length) fun hi => bindO (intOr t (some m) 0) fun m => sliceV sz (.sl sz' xs full nl) lo hi (some m) K) (.bind fun _ => .bind fun _ => .bind fun _ => Det.sliceV _ _ _ _ _)
    · rename_i id sz' off len _
      cases mx with
      | none => exact .det (V := fun K => bindO (intOr t lo 0) fun lo => bindO (intOr t hi len) fun hi => sliceV sz (.asl id sz' off len) lo hi none K) (.bind fun _ => .bind fun _ => Det.sliceV _ _ _ _ _)
      | some m => exact .det (V := fun K => bindO (intOr t lo 0) fun lo => bindO (intOr t hi len) fun hi => bindO (intOr t (some m) 0) fun m => sliceV sz (.asl id sz' off len) lo hi (some m) K) (.bind fun _ => .bind fun _ => .bind fun _ => Det.sliceV _ _ _ _ _)
    · exact .no
  | fad off x =>
    simp only [vcOp]
    split
    · exact .det (Det.id _)
    · exact .det (Det.id _)
    · exact .no
  | iad sz x i =>
    simp only [vcOp]
    split
    · rename_i xs _ _ _ i _ _
      exact .det (V := fun K => _ ∧ _ ∧ bindO xs[i.toNat]? fun x => K (.rp x 0)) (Det.bind fun _ => .id _).and.and
    · exact .det (V := fun K => _ ∧ _ ∧ _ ∧ K _) (Det.id _).and.and.and
    · exact .no
  | fld off sz ag x =>
    simp only [vcOp]
    split
    · exact .det (V := fun K => bindO _ fun v => K v) (.bind fun _ => .id _)
    · exact .no
  | idxS x i =>
    simp only [vcOp]
    split
    · exact .det (V := fun K => _ ∧ bindO _ fun b => K (byteV b)) (Det.bind fun _ => .id _).and
    · exact .no
  | len k x =>
    simp only [vcOp]
    split
    · exact .det (Det.id _)
    · exact .det (Det.id _)
    · exact .det (Det.id _)
    · exact .det (Det.id _)
    · rename_i id _
      intro h0 K hK
      cases hn : h0[id]? with
      | none => simp [hn] at hK
      | some ob =>
        cases ob <;> simp only [hn] at hK
        refine ⟨_, hK, fun h K' he hk => ?_⟩
        rcases he with rfl | rfl
        · simp only [hn]; exact hk
        · simp at hn
    · exact .no
  | ext x i =>
    simp only [vcOp]
    split
    · exact .det (V := fun K => bindO _ fun v => K v) (.bind fun _ => .id _)
    · exact .no
  | mkf f first captured => simp only [vcOp]; exact .det (Det.id _)
  | nchk x =>
    simp only [vcOp]
    split
    · exact .det (Det.id _)
    · exact .det (Det.id _)
    · exact .det (Det.id _)
    · exact .no
  | bslice sz z n ps arr =>
    simp only [AOp.still, Bool.not_eq_true'] at ho
    subst ho
    simp only [vcOp]
    exact .det (V := fun K => _ ∧ _ ∧ bindO _ fun es => K (.sl sz es true false)) (Det.bind fun _ => .id _).and.and
  | _ => cases ho

end Go.Avm

/- What comes behind an operation may be weakened. -/
namespace Go.Avm
open Go Go.RowKit

variable {P : Program} {g0 : Gh} {t t' : TM} {h : AH}

theorem bindO_mono {α : Type} {o : Option α} {K K' : α → Prop} (h : ∀ x, K x → K' x) (hk : bindO o K) : bindO o K' := by
  cases o with
  | none => exact hk.elim
  | some x => exact h x hk

theorem arith_mono {k : IntKind} {n : Int} {K K' : PV → Prop} (h : ∀ x, K x → K' x) (hk : arith k n K) : arith k n K' := by
  cases k <;> simp only [arith] at hk ⊢ <;> first | exact ⟨hk.1, h _ hk.2⟩ | exact h _ hk

theorem det_mono {V : (PV → Prop) → Prop} (hd : Det V) {K K' : PV → Prop} (h : ∀ x, K x → K' x) (hk : V K) : V K' :=
  let ⟨v, h1, h2⟩ := hd K hk
  h2 K' (h v h1)

theorem appV_mono {h : AH} {x : PV} {sz bytes : Nat} {ys : List PV} {K K' : PV → AH → Prop} (hk : ∀ v h', K v h' → K' v h') (hv : appV h x sz bytes ys K) : appV h x sz bytes ys K' := by
  unfold appV at hv ⊢
  split at hv
  · exact ⟨fun e => hk _ _ (hv.1 e), fun e => let ⟨a, b, c, d⟩ := hv.2 e; ⟨a, b, c, hk _ _ d⟩⟩
  · split at hv
    · obtain ⟨a, b, c, d, e, f⟩ := hv
      exact ⟨a, b, c, d, e, hk _ _ f⟩
    · exact hv.elim
  · exact hv.elim

theorem vcOp_mono : ∀ {o : AOp} {h : AH} {K K' : PV → AH → Prop}, (∀ v h', K v h' → K' v h') → vcOp P g0 o t h K → vcOp P g0 o t h K' := by
  intro o
  induction o with
  | pur o ih => intro h K K' hk hv; exact ih (fun v _ hh => hk _ _ hh) hv
  | call f args => intro h K K' hk hv; exact ACalls.mono hv hk
  | callV x args => intro h K K' hk hv; exact ACallV.mono hv hk
  | mv x => intro h K K' hk hv; exact hk _ _ hv
  | alloc sz z => intro h K K' hk hv; exact ⟨hv.1, hv.2.1, hk _ _ hv.2.2⟩
  | box sz x => intro h K K' hk hv; exact ⟨hv.1, hv.2.1, hk _ _ hv.2.2⟩
  | mkm => intro h K K' hk hv; exact hk _ _ hv
  | mkf f a b => intro h K K' hk hv; exact hk _ _ hv
  | nxt x => intro h K K' hk hv; exact hv.elim
  | build z ps => intro h K K' hk hv; exact bindO_mono (fun x => hk _ _) hv
  | bslice sz z n ps arr =>
    intro h K K' hk hv
    refine ⟨hv.1, hv.2.1, bindO_mono (fun es hes => ?_) hv.2.2⟩
    cases arr <;> exact hk _ _ hes
  | load sz ag a => intro h K K' hk hv; exact bindO_mono (fun x => hk _ _) hv
  | store sz ag a x => intro h K K' hk hv; exact bindO_mono (fun x => hk _ _) hv
  | isNil k neg x => intro h K K' hk hv; exact bindO_mono (fun x => hk _ _) hv
  | bin op x y => intro h K K' hk hv; exact det_mono (Det.binV op _ _) (fun v => hk v h) hv
  | eqS sig neg x y => intro h K K' hk hv; exact ⟨hv.1, hv.2.1, hk _ _ hv.2.2⟩
  | app sz bytes z x y => intro h K K' hk hv; exact ⟨hv.1, hv.2.1, bindO_mono (fun _ => appV_mono hk) hv.2.2⟩
  | b2s x => intro h K K' hk hv; exact bindO_mono (fun _ => bindO_mono fun _ => hk _ _) hv
  | pick c a b =>
    intro h K K' hk hv
    simp only [vcOp] at hv ⊢
    split
    · rename_i e; simp only [e] at hv; exact ⟨fun e => hk _ _ (hv.1 e), fun e => hk _ _ (hv.2 e)⟩
    · rename_i hn; split at hv
      · rename_i e; exact (hn _ e).elim
      · exact hv
  | binB neg x y =>
    intro h K K' hk hv
    simp only [vcOp] at hv ⊢
    split
    · rename_i e1 e2; simp only [e1, e2] at hv; exact hk _ _ hv
    · rename_i hn; split at hv
      · rename_i e1 e2; exact (hn _ _ e1 e2).elim
      · exact hv
  | un op x =>
    intro h K K' hk hv
    simp only [vcOp] at hv ⊢
    split at hv
    · exact hk _ _ hv
    · exact arith_mono (fun v => hk v h) hv
    · exact hk _ _ hv
    · exact hv.elim
  | i2i k x =>
    intro h K K' hk hv
    simp only [vcOp] at hv ⊢
    split at hv
    · exact hk _ _ hv
    · exact hv.elim
  | s2s x =>
    intro h K K' hk hv
    simp only [vcOp] at hv ⊢
    split at hv
    · exact hk _ _ hv
    · exact hv.elim
  | s2b x =>
    intro h K K' hk hv
    simp only [vcOp] at hv ⊢
    split at hv
    · exact hk _ _ hv
    · exact hv.elim
  | b2b x =>
    intro h K K' hk hv
    simp only [vcOp] at hv ⊢
    split at hv
    · split at hv
      · exact hk _ _ hv
      · exact hv.elim
    · exact hv.elim
  | slS x lo hi =>
    intro h K K' hk hv
    simp only [vcOp] at hv ⊢
    split at hv
    · exact bindO_mono (fun _ => bindO_mono fun _ h => ⟨h.1, h.2.1, h.2.2.1, hk _ _ h.2.2.2⟩) hv
    · exact hv.elim
  | slL sz x lo hi mx =>
    intro h K K' hk hv
    have hs : ∀ x lo hi mx, sliceV sz x lo hi mx (fun v => K v h) → sliceV sz x lo hi mx (fun v => K' v h) := fun x lo hi mx => det_mono (Det.sliceV sz x lo hi mx) (fun v => hk v h)
    simp only [vcOp] at hv ⊢
    split at hv
    · skip
      cases mx with
      | none => exact bindO_mono (fun _ => bindO_mono fun _ => hs _ _ _ _) hv
      | some m => exact bindO_mono (fun _ => bindO_mono fun _ => bindO_mono fun _ => hs _ _ _ _) hv
    · skip
      cases mx with
      | none => exact bindO_mono (fun _ => bindO_mono fun _ => hs _ _ _ _) hv
      | some m => exact bindO_mono (fun _ => bindO_mono fun _ => bindO_mono fun _ => hs _ _ _ _) hv
    · exact hv.elim
  | fad off x =>
    intro h K K' hk hv
    simp only [vcOp] at hv ⊢
    split at hv
    · exact hk _ _ hv
    · exact hk _ _ hv
    · exact hv.elim
  | iad sz x i =>
    intro h K K' hk hv
    simp only [vcOp] at hv ⊢
    split at hv
    · exact ⟨hv.1, hv.2.1, bindO_mono (fun _ => hk _ _) hv.2.2⟩
    · exact ⟨hv.1, hv.2.1, hv.2.2.1, hk _ _ hv.2.2.2⟩
    · exact hv.elim
  | fld off sz ag x =>
    intro h K K' hk hv
    simp only [vcOp] at hv ⊢
    split at hv
    · exact bindO_mono (fun _ => hk _ _) hv
    · exact hv.elim
  | idxS x i =>
    intro h K K' hk hv
    simp only [vcOp] at hv ⊢
    split at hv
    · exact ⟨hv.1, bindO_mono (fun _ => hk _ _) hv.2⟩
    · exact hv.elim
  | appS x y =>
    intro h K K' hk hv
    simp only [vcOp] at hv ⊢
    split at hv
    · exact appV_mono hk hv
    · exact hv.elim
  | len k x =>
    intro h K K' hk hv
    simp only [vcOp] at hv ⊢
    split at hv
    · exact hk _ _ hv
    · exact hk _ _ hv
    · exact hk _ _ hv
    · exact hk _ _ hv
    · skip
      split at hv
      · exact hk _ _ hv
      · exact hv.elim
    · exact hv.elim
  | copy sz x y =>
    intro h K K' hk hv
    simp only [vcOp] at hv ⊢
    refine bindO_mono (fun ys hv => ?_) hv
    split at hv
    · skip
      split at hv
      · exact ⟨hv.1, hv.2.1, hv.2.2.1, hk _ _ hv.2.2.2⟩
      · exact hv.elim
    · exact hv.elim
  | mks sz bytes z l c =>
    intro h K K' hk hv
    simp only [vcOp] at hv ⊢
    split at hv
    · obtain ⟨a, b, c, d, e, f⟩ := hv; exact ⟨a, b, c, d, e, hk _ _ f⟩
    · exact hv.elim
  | lkp sig ag z ok m k =>
    intro h K K' hk hv
    simp only [vcOp] at hv ⊢
    split at hv
    · skip
      refine ⟨hv.1, ?_⟩
      cases ok <;> exact hk _ _ hv.2
    · skip
      split at hv
      · skip
        refine ⟨hv.1, hv.2.1, ?_⟩
        have h3 := hv.2.2
        unfold matchO at h3 ⊢
        split at h3
        · cases ok <;> exact hk _ _ h3
        · cases ok <;> exact hk _ _ h3
      · exact hv.elim
    · exact hv.elim
  | raw k xs => intro h K K' hk hv; exact RawC.mono hv hk
  | clr sz z x =>
    intro h K K' hk hv
    simp only [vcOp] at hv ⊢
    split at hv
    · exact ⟨hv.1, hk _ _ hv.2⟩
    · split at hv
      · exact ⟨hv.1, hv.2.1, hv.2.2.1, hv.2.2.2.1, hv.2.2.2.2.1, hk _ _ hv.2.2.2.2.2⟩
      · exact hv.elim
    · exact hv.elim
  | mup sig ag m k v =>
    intro h K K' hk hv
    simp only [vcOp] at hv ⊢
    split at hv
    · skip
      split at hv
      · exact ⟨hv.1, hv.2.1, hk _ _ hv.2.2⟩
      · exact hv.elim
    · exact hv.elim
  | rng x =>
    intro h K K' hk hv
    simp only [vcOp] at hv ⊢
    split at hv
    · exact hk _ _ hv
    · exact hv.elim
  | ext x i =>
    intro h K K' hk hv
    simp only [vcOp] at hv ⊢
    split at hv
    · exact bindO_mono (fun _ => hk _ _) hv
    · exact hv.elim
  | nchk x =>
    intro h K K' hk hv
    simp only [vcOp] at hv ⊢
    split at hv
    · exact hk _ _ hv
    · exact hk _ _ hv
    · exact hk _ _ hv
    · exact hv.elim

end Go.Avm

/- Regions whose order is drawn: whatever the order, the abstract machine says the same. -/
namespace Go.Avm
open Go Go.RowKit

structure DIt where
  idx : Nat
  dst : Option Nat
  gd : Option (Nat × Bool)
  o : AOp

/-- An operation that yields the same value at any time, whatever lies in memory. -/
def AOp.free : AOp → Bool
  | .pur o => o.still
  | _ => false

def DIt.looks (x : DIt) : List Nat := x.o.temps ++ (match x.gd with | some (n, _) => [n] | none => [])

def DIt.apart (x y : DIt) : Bool :=
  (match x.dst with | some d => !(y.looks.contains d) && y.dst != some d | none => true) &&
  (match y.dst with | some d => !(x.looks.contains d) | none => true)

def tbit (M : List Nat) (i j : Nat) : Bool := (M.getD i 0).testBit j

/-- x stands ahead of y: either y hangs on x, or it does not matter. -/
def okPair (M : List Nat) (x y : DIt) : Bool := (!tbit M x.idx y.idx) && (tbit M y.idx x.idx || ((x.o.free || (x.o.still && (y.o.still || y.o.free))) && x.apart y))

def pairs (r : DIt → DIt → Bool) : List DIt → Bool
  | [] => true
  | x :: l => l.all (r x) && pairs r l

variable (P : Program)

def vcI (g0 : Gh) (x : DIt) (t : TM) (h : AH) (K : TM → AH → Prop) : Prop :=
  match x.gd with
  | none => vcOp P g0 x.o t h fun v h' => K (upd t x.dst v) h'
  | some (n, want) => match gb want (look n t) with
    | .bool b => (b = want → vcOp P g0 x.o t h fun v h' => K (upd t x.dst v) h') ∧ (b = !want → K (upd t x.dst (.tuple [])) h)
    | _ => False

def vcD (g0 : Gh) : List DIt → TM → AH → (TM → AH → Prop) → Prop
  | [], t, h, K => K t h
  | x :: l, t, h, K => vcI P g0 x t h fun t h => vcD g0 l t h K

variable {P : Program} {E : Env} {D : List Nat} {g g0 : Gh} {h : AH} {w : World} {t : TM} {a : Act} {N : Nat} {F : Fence}

def Leq (t t' : TM) : Prop := ∀ n, look n t = look n t'
theorem Leq.refl (t : TM) : Leq t t := fun _ => rfl
theorem Leq.symm {t t' : TM} (h : Leq t t') : Leq t' t := fun n => (h n).symm
theorem Leq.trans {a b c : TM} (h : Leq a b) (k : Leq b c) : Leq a c := fun n => (h n).trans (k n)
theorem Leq.upd {t t' : TM} (h : Leq t t') (d : Option Nat) (v : PV) : Leq (upd t d v) (upd t' d v) := by
  cases d with
  | none => exact h
  | some d => intro n; simp only [Avm.upd, look]; split
              · rfl
              · exact h n

theorem upd_comm (t : TM) {c d : Option Nat} (u v : PV) (h : ∀ n, c = some n → d ≠ some n) : Leq (upd (upd t c u) d v) (upd (upd t d v) c u) := by
  intro n
  cases c with
  | none => rfl
  | some c =>
    cases d with
    | none => rfl
    | some d =>
      have hne : c ≠ d := fun e => h c rfl (by rw [e])
      simp only [Avm.upd, look]
      by_cases h1 : n = d
      · have h2 : n ≠ c := fun e => hne (e.symm.trans h1)
        rw [if_pos h1, if_neg h2, if_pos h1]
      · rw [if_neg h1, if_neg h1]

def Closed (K : TM → AH → Prop) : Prop := ∀ t t' h, Leq t t' → K t h → K t' h

theorem ods_agree {o : AOp} {t t' : TM} (h : ∀ n ∈ o.temps, look n t = look n t') : ∀ x ∈ o.ods, ev t x = ev t' x :=
  fun x hx => ev_agree fun n hn => h n (by simp only [AOp.temps, List.mem_flatMap]; exact ⟨x, hx, hn⟩)

theorem vcI_agree {x : DIt} {t t' : TM} {K K' : TM → AH → Prop} (ha : ∀ n ∈ x.looks, look n t = look n t') (hk : ∀ v h', K (upd t x.dst v) h' → K' (upd t' x.dst v) h') (hv : vcI P g0 x t h K) : vcI P g0 x t' h K' := by
  have ho : ∀ n ∈ x.o.temps, look n t = look n t' := fun n hn => ha n (by simp [DIt.looks, hn])
  have hop : (vcOp P g0 x.o t h fun v h' => K (upd t x.dst v) h') → vcOp P g0 x.o t' h fun v h' => K' (upd t' x.dst v) h' := fun hv => by
    rw [← vcOp_agree (ods_agree ho)]; exact vcOp_mono hk hv
  unfold vcI at hv ⊢
  split at hv
  · exact hop hv
  · rename_i n want hgd
    rw [← ha n (by simp [DIt.looks, hgd])]
    split at hv
    · exact ⟨fun e => hop (hv.1 e), fun e => hk _ _ (hv.2 e)⟩
    · exact hv.elim

theorem vcI_mono {x : DIt} {K K' : TM → AH → Prop} (hk : ∀ t h', K t h' → K' t h') (hv : vcI P g0 x t h K) : vcI P g0 x t h K' := vcI_agree (fun _ _ => rfl) (fun _ _ => hk _ _) hv

theorem vcI_closed {x : DIt} {K : TM → AH → Prop} (hK : Closed K) : Closed fun t h => vcI P g0 x t h K := fun _ _ _ he hv => vcI_agree (fun n _ => he n) (fun _ _ hk => hK _ _ _ (he.upd _ _) hk) hv

theorem vcD_closed {K : TM → AH → Prop} (hK : Closed K) : ∀ l : List DIt, Closed fun t h => vcD P g0 l t h K
  | [] => hK
  | _ :: l => vcI_closed (vcD_closed hK l)

/-- Of an item that yields one value: the value. -/
theorem vcI_value {x : DIt} (hs : x.o.free = true ∨ x.o.still = true) {K : TM → AH → Prop} (hv : vcI P g0 x t h K) :
    ∃ v, K (upd t x.dst v) h ∧ ∀ (t2 : TM) (h2 : AH) (K2 : TM → AH → Prop), (∀ n ∈ x.looks, look n t = look n t2) → h2 = h ∨ x.o.free = true → K2 (upd t2 x.dst v) h2 → vcI P g0 x t2 h2 K2 := by
  -- the operation
  have hop : ∀ K : PV → AH → Prop, vcOp P g0 x.o t h K → ∃ v, K v h ∧ ∀ (t2 : TM) (h2 : AH) (K2 : PV → AH → Prop), (∀ n ∈ x.o.temps, look n t = look n t2) → h2 = h ∨ x.o.free = true → K2 v h2 → vcOp P g0 x.o t2 h2 K2 := by
    intro K hv
    by_cases hf : x.o.free = true
    · cases ho : x.o <;> simp [AOp.free, ho] at hf
      rename_i o
      rw [ho] at hv
      simp only [vcOp] at hv
      obtain ⟨v, h1, h2⟩ := vcOp_still (g0 := g0) (t := t) hf [] _ hv
      refine ⟨v, h1, fun t2 h3 K2 ha _ hk => ?_⟩
      simp only [vcOp]
      rw [← vcOp_agree (o := o) (ods_agree ha)]
      exact h2 [] (fun v _ => K2 v h3) (.inl rfl) hk
    · have hst := hs.resolve_left hf
      obtain ⟨v, h1, h2⟩ := vcOp_still (g0 := g0) (t := t) hst h _ hv
      refine ⟨v, h1, fun t2 h3 K2 ha he hk => ?_⟩
      have he := he.resolve_right hf
      subst he
      rw [← vcOp_agree (ods_agree ha)]
      exact h2 h3 K2 (.inl rfl) hk
  unfold vcI at hv
  split at hv
  · rename_i hgd
    obtain ⟨v, h1, h2⟩ := hop _ hv
    refine ⟨v, h1, fun t2 h3 K2 ha he hk => ?_⟩
    unfold vcI; rw [hgd]
    exact h2 t2 h3 _ (fun n hn => ha n (by simp [DIt.looks, hn])) he hk
  · rename_i n want hgd
    split at hv
    · rename_i b hb
      have hb2 : ∀ t2 : TM, (∀ n ∈ x.looks, look n t = look n t2) → gb want (look n t2) = .bool b := fun t2 ha => by rw [← ha n (by simp [DIt.looks, hgd]), hb]
      by_cases e : b = want
      · obtain ⟨v, h1, h2⟩ := hop _ (hv.1 e)
        refine ⟨v, h1, fun t2 h3 K2 ha he hk => ?_⟩
        unfold vcI; rw [hgd]; simp only [hb2 t2 ha]
        exact ⟨fun _ => h2 t2 h3 _ (fun n hn => ha n (by simp [DIt.looks, hn])) he hk, fun e' => by rw [e] at e'; cases want <;> cases e'⟩
      · refine ⟨.tuple [], hv.2 (bool_ne e), fun t2 h3 K2 ha he hk => ?_⟩
        unfold vcI; rw [hgd]; simp only [hb2 t2 ha]
        exact ⟨fun e' => (e e').elim, fun _ => hk⟩
    · exact hv.elim

theorem upd_away {d : Option Nat} {v : PV} {l : List Nat} (h : ∀ n, d = some n → n ∉ l) : ∀ n ∈ l, look n t = look n (upd t d v) := by
  intro n hn
  cases d with
  | none => rfl
  | some d =>
    have : n ≠ d := fun e => h d rfl (e ▸ hn)
    simp [Avm.upd, look, this]

theorem apart_spec {x y : DIt} (h : x.apart y = true) : (∀ n, x.dst = some n → n ∉ y.looks) ∧ (∀ n, x.dst = some n → y.dst ≠ some n) ∧ (∀ n, y.dst = some n → n ∉ x.looks) := by
  unfold DIt.apart at h
  refine ⟨fun n hn => ?_, fun n hn => ?_, fun n hn => ?_⟩ <;> simp [hn] at h
  · exact h.1.1
  · exact h.1.2
  · exact h.2

/-- Two items that may change places. -/
theorem vcI_swap {x y : DIt} (hs : x.o.free = true ∨ (x.o.still = true ∧ (y.o.still = true ∨ y.o.free = true))) (hap : x.apart y = true) {K : TM → AH → Prop} (hK : Closed K)
    (hv : vcI P g0 x t h fun t h => vcI P g0 y t h K) : vcI P g0 y t h fun t h => vcI P g0 x t h K := by
  obtain ⟨h1, h2, h3⟩ := apart_spec hap
  obtain ⟨v, hy, hx⟩ := vcI_value (hs.imp id And.left) hv
  have hcl : ∀ u h', K (upd (upd t x.dst v) y.dst u) h' → K (upd (upd t y.dst u) x.dst v) h' := fun u h' hk => hK _ _ _ (upd_comm t v u h2) hk
  rcases hs with hf | ⟨_, hst⟩
  · refine vcI_agree (fun n hn => (upd_away h1 n hn).symm) (fun u h' hk => ?_) hy
    exact hx _ h' K (upd_away h3) (.inr hf) (hcl u h' hk)
  · obtain ⟨u, hk, hyy⟩ := vcI_value hst.symm hy
    refine hyy t h _ (fun n hn => (upd_away h1 n hn).symm) (.inl rfl) ?_
    exact hx _ h K (upd_away h3) (.inl rfl) (hcl u h hk)

/-- An item comes to the front. -/
theorem vcD_front {x : DIt} {K : TM → AH → Prop} (hK : Closed K) : ∀ (l1 l2 : List DIt) (t : TM) (h : AH), (∀ y ∈ l1, (y.o.free = true ∨ (y.o.still = true ∧ (x.o.still = true ∨ x.o.free = true))) ∧ y.apart x = true) →
    vcD P g0 (l1 ++ x :: l2) t h K → vcI P g0 x t h fun t h => vcD P g0 (l1 ++ l2) t h K
  | [], l2, t, h, _, hv => hv
  | y :: l1, l2, t, h, hy, hv => by
    have hv' : vcI P g0 y t h fun t h => vcI P g0 x t h fun t h => vcD P g0 (l1 ++ l2) t h K := vcI_mono (fun t h hv => vcD_front hK l1 l2 t h (fun z hz => hy z (by simp [hz])) hv) hv
    obtain ⟨h1, h2⟩ := hy y (by simp)
    exact vcI_swap h1 h2 (vcD_closed hK _) hv'

end Go.Avm

/- Regions whose order is drawn: from the model's operations to the abstract machine's; the model does what the abstract machine says. -/
namespace Go.Avm
open Go Go.RowKit

variable (P : Program)

def compileOne (arr : Nat → Bool) (N : Nat) (all : Array Oper) (i : Nat) : Option DIt :=
  match all[i]? with
  | some o => match compileI P (arr i) o with
    | some ao => if dstOk N o.dst then
        match o.guard with
        | none => some ⟨i, o.dst, none, ao⟩
        | some (j, want) => match (all[j]?).bind (·.dst) with
          | some t => some ⟨i, o.dst, some (t, want), ao⟩
          | none => none
      else none
    | none => none
  | none => none

def compileSome (arr : Nat → Bool) (N : Nat) (all : Array Oper) : List Nat → Option (List DIt)
  | [] => some []
  | i :: is => match compileOne P arr N all i, compileSome arr N all is with
    | some x, some l => some (x :: l)
    | _, _ => none

def wrapD (M : List Nat) : List DIt → List DIt
  | [] => []
  | x :: l => (if x.o.still && l.any (fun y => !tbit M y.idx x.idx && !y.o.still) then { x with o := .pur x.o } else x) :: wrapD M l

def maskOf (M : List Nat) : List Edge → Nat → Nat
  | [], s => s
  | e :: es, s => maskOf M es (if Region.binds .any e then s ||| 2 ^ e.on ||| M.getD e.on 0 else s)

def masks : List Oper → List Nat → List Nat
  | [], M => M
  | o :: os, M => masks os (M ++ [maskOf M o.after.toList 0])

def masksOk (n : Nat) (M : List Nat) : List Oper → Nat → Bool
  | [], _ => true
  | o :: os, i => (M.getD i 0 == maskOf M o.after.toList 0) && (o.after.toList.all fun e => !Region.binds .any e || decide (e.on < n)) && !tbit M i i && masksOk n M os (i + 1)

def groupD : List DIt → List AIt
  | [] => []
  | x :: l => match x.gd with
    | none => .op x.dst x.o :: groupD l
    | some (n, want) => match groupD l with
      | .gd n' want' l' :: rest => if n' = n ∧ want' = want ∧ x.dst ≠ some n then .gd n want ((x.dst, x.o) :: l') :: rest else .gd n want [(x.dst, x.o)] :: .gd n' want' l' :: rest
      | rest => .gd n want [(x.dst, x.o)] :: rest

def take1 (p : DIt → Bool) : List DIt → Option (DIt × List DIt)
  | [] => none
  | x :: l => if p x then some (x, l) else (take1 p l).map fun (y, l') => (y, x :: l')

/-- Reads as early as can be. -/
def greedy (M : List Nat) : Nat → Nat → List DIt → List DIt
  | 0, _, _ => []
  | n + 1, done, l =>
    let ready (x : DIt) : Bool := Nat.land (M.getD x.idx 0) done == M.getD x.idx 0
    match take1 (fun x => x.o.still && ready x) l with
    | some (x, l') => x :: greedy M n (done ||| 2 ^ x.idx) l'
    | none => match take1 ready l with
      | some (x, l') => x :: greedy M n (done ||| 2 ^ x.idx) l'
      | none => []

def ordered (M : List Nat) (n : Nat) (ord : List Nat) (l : List DIt) : List DIt :=
  match ord with
  | [] => greedy M n 0 l
  | _ => l

def compileD (arr : Nat → Bool) (ord : List Nat) (N : Nat) (all : Array Oper) : Option (List AIt) :=
  let order := match ord with
    | [] => List.range all.size
    | l => l
  let M := masks all.toList []
  match compileSome P arr N all order with
  | some l =>
    let l' := wrapD M (ordered M all.size ord l)
    if P.follows .mixedOrders && masksOk all.size M all.toList 0 && (l'.length == all.size) && ((List.range all.size).all fun j => (l'.map (·.idx)).contains j) && pairs (fun x y => x.idx != y.idx && okPair M x y) l' then some (groupD l') else none
  | none => none

variable {P : Program} {E : Env} {D : List Nat} {g g0 : Gh} {h : AH} {w : World} {t : TM} {a : Act} {N : Nat} {F : Fence}

/-- An item is the model's operation. -/
structure DOk (P : Program) (arr : Nat → Bool) (N : Nat) (all : Array Oper) (x : DIt) : Prop where
  ok : ∃ o ao, all[x.idx]? = some o ∧ compileI P (arr x.idx) o = some ao ∧ (∀ n, o.dst = some n → n < N) ∧ x.dst = o.dst ∧ (x.o = ao ∨ (x.o = .pur ao ∧ ao.still = true)) ∧
    ((o.guard = none ∧ x.gd = none) ∨ ∃ j want n, o.guard = some (j, want) ∧ (all[j]?).bind (·.dst) = some n ∧ x.gd = some (n, want))

theorem compileOne_ok {arr : Nat → Bool} {all : Array Oper} {i : Nat} {x : DIt} (h : compileOne P arr N all i = some x) : DOk P arr N all x ∧ x.idx = i := by
  unfold compileOne at h
  cases ho : all[i]? with
  | none => simp [ho] at h
  | some o =>
    cases hc : compileI P (arr i) o with
    | none => simp [ho, hc] at h
    | some ao =>
      simp only [ho, hc] at h
      split at h
      · rename_i hd
        have hd' : ∀ n, o.dst = some n → n < N := fun n hn => by rw [hn] at hd; simpa [dstOk] using hd
        cases hg : o.guard with
        | none =>
          simp only [hg, Option.some.injEq] at h
          subst h
          exact ⟨⟨o, ao, ho, hc, hd', rfl, .inl rfl, .inl ⟨hg, rfl⟩⟩, rfl⟩
        | some jw =>
          obtain ⟨j, want⟩ := jw
          simp only [hg] at h
          cases ht : (all[j]?).bind (·.dst) with
          | none => simp [ht] at h
          | some n =>
            simp only [ht, Option.some.injEq] at h
            subst h
            exact ⟨⟨o, ao, ho, hc, hd', rfl, .inl rfl, .inr ⟨j, want, n, hg, ht, rfl⟩⟩, rfl⟩
      · cases h

theorem compileSome_ok {arr : Nat → Bool} {all : Array Oper} : ∀ {is : List Nat} {l : List DIt}, compileSome P arr N all is = some l → ∀ x ∈ l, DOk P arr N all x ∧ (x.o.free = true → ∃ ao, x.o = .pur ao)
  | [], l, h => by cases h; simp
  | i :: is, l, h => by
    unfold compileSome at h
    cases h1 : compileOne P arr N all i with
    | none => simp [h1] at h
    | some x =>
      cases h2 : compileSome P arr N all is with
      | none => simp [h1, h2] at h
      | some l' =>
        simp only [h1, h2, Option.some.injEq] at h
        subst h
        intro y hy
        rcases List.mem_cons.1 hy with rfl | hy
        · exact ⟨(compileOne_ok h1).1, fun hf => by cases ho : y.o <;> simp [AOp.free, ho] at hf; exact ⟨_, rfl⟩⟩
        · exact compileSome_ok h2 y hy

theorem wrapD_ok {arr : Nat → Bool} {all : Array Oper} {M : List Nat} : ∀ {l : List DIt}, (∀ x ∈ l, DOk P arr N all x) → ∀ x ∈ wrapD M l, DOk P arr N all x
  | [], _ => by simp [wrapD]
  | y :: l, h => by
    intro x hx
    simp only [wrapD, List.mem_cons] at hx
    rcases hx with rfl | hx
    · split
      · rename_i hc
        simp only [Bool.and_eq_true] at hc
        obtain ⟨o, ao, h1, h2, h3, h4, h5, h6⟩ := (h y (by simp)).ok
        refine ⟨o, ao, h1, h2, h3, h4, .inr ?_, h6⟩
        rcases h5 with h5 | ⟨h5, _⟩
        · exact ⟨by rw [h5], by rw [← h5]; exact hc.1⟩
        · rw [h5] at hc; simp [AOp.still] at hc
      · exact h y (by simp)
    · exact wrapD_ok (fun z hz => h z (by simp [hz])) x hx

theorem take1_mem {p : DIt → Bool} : ∀ {l : List DIt} {x : DIt} {l' : List DIt}, take1 p l = some (x, l') → x ∈ l ∧ ∀ y ∈ l', y ∈ l
  | [], x, l', h => by cases h
  | y :: l, x, l', h => by
    unfold take1 at h
    split at h
    · cases h; exact ⟨by simp, fun y hy => by simp [hy]⟩
    · simp only [Option.map_eq_some_iff, Prod.exists, Prod.mk.injEq] at h
      obtain ⟨z, l2, h1, rfl, rfl⟩ := h
      obtain ⟨a, b⟩ := take1_mem h1
      refine ⟨by simp [a], fun w hw => ?_⟩
      rcases List.mem_cons.1 hw with rfl | hw
      · simp
      · simp [b w hw]

theorem greedy_mem {M : List Nat} : ∀ {n done : Nat} {l : List DIt}, ∀ x ∈ greedy M n done l, x ∈ l
  | 0, _, _, x, hx => by simp [greedy] at hx
  | n + 1, done, l, x, hx => by
    simp only [greedy] at hx
    split at hx
    · rename_i y l' h1
      obtain ⟨a, b⟩ := take1_mem h1
      rcases List.mem_cons.1 hx with rfl | hx
      · exact a
      · exact b x (greedy_mem x hx)
    · split at hx
      · rename_i y l' h1
        obtain ⟨a, b⟩ := take1_mem h1
        rcases List.mem_cons.1 hx with rfl | hx
        · exact a
        · exact b x (greedy_mem x hx)
      · simp at hx

theorem ordered_mem {M : List Nat} {n : Nat} {ord : List Nat} {l : List DIt} {x : DIt} (h : x ∈ ordered M n ord l) : x ∈ l := by
  cases ord with
  | nil => exact greedy_mem x h
  | cons _ _ => exact h

theorem maskOf_bit {M : List Nat} {y : Nat} : ∀ {es : List Edge} {s : Nat}, (maskOf M es s).testBit y = true ↔ s.testBit y = true ∨ ∃ e ∈ es, Region.binds .any e = true ∧ (y = e.on ∨ (M.getD e.on 0).testBit y = true)
  | [], s => by simp [maskOf]
  | e :: es, s => by
    simp only [maskOf, maskOf_bit (es := es), List.mem_cons]
    by_cases hb : Region.binds .any e = true
    · simp only [hb, if_true, Nat.testBit_or, Bool.or_eq_true, Nat.testBit_two_pow, decide_eq_true_eq]
      constructor
      · rintro (((h | h) | h) | ⟨e', he, h⟩)
        · exact .inl h
        · exact .inr ⟨e, .inl rfl, hb, .inl h.symm⟩
        · exact .inr ⟨e, .inl rfl, hb, .inr h⟩
        · exact .inr ⟨e', .inr he, h⟩
      · rintro (h | ⟨e', rfl | he, h1, h2⟩)
        · exact .inl (.inl (.inl h))
        · rcases h2 with h2 | h2
          · exact .inl (.inl (.inr h2.symm))
          · exact .inl (.inr h2)
        · exact .inr ⟨e', he, h1, h2⟩
    · simp only [hb, if_false]
      constructor
      · rintro (h | ⟨e', he, h⟩)
        · exact .inl h
        · exact .inr ⟨e', .inr he, h⟩
      · rintro (h | ⟨e', rfl | he, h1, h2⟩)
        · exact .inl h
        · exact absurd h1 hb
        · exact .inr ⟨e', he, h1, h2⟩

theorem masksOk_spec {n : Nat} {M : List Nat} : ∀ {os : List Oper} {k : Nat}, masksOk n M os k = true → ∀ (i : Nat) (o : Oper), os[i]? = some o →
    (∀ y, tbit M (k + i) y = true ↔ ∃ e ∈ o.after, Region.binds .any e = true ∧ (y = e.on ∨ tbit M e.on y = true)) ∧ (∀ e ∈ o.after, Region.binds .any e = true → e.on < n) ∧ tbit M (k + i) (k + i) = false
  | [], k, h, i, o, ho => by simp at ho
  | o' :: os, k, h, i, o, ho => by
    simp only [masksOk, Bool.and_eq_true, beq_iff_eq, Bool.not_eq_true', List.all_eq_true, Bool.or_eq_true, decide_eq_true_eq] at h
    obtain ⟨⟨⟨h1, h2⟩, h3⟩, h4⟩ := h
    cases i with
    | zero =>
      simp only [List.getElem?_cons_zero, Option.some.injEq] at ho
      subst ho
      refine ⟨fun y => ?_, fun e he hb => ?_, h3⟩
      · simp only [tbit, Nat.add_zero, h1, maskOf_bit, Nat.zero_testBit, Bool.false_eq_true, false_or, Array.mem_toList_iff]
      · rcases h2 e (by simpa using he) with h | h
        · rw [hb] at h; cases h
        · exact h
    | succ i =>
      have := masksOk_spec h4 i o (by simpa using ho)
      rw [show k + (i + 1) = k + 1 + i by omega]
      exact this

theorem pairs_spec {r : DIt → DIt → Bool} : ∀ {l : List DIt}, pairs r l = true → l.Pairwise fun x y => r x y = true
  | [], _ => .nil
  | x :: l, h => by
    simp only [pairs, Bool.and_eq_true, List.all_eq_true] at h
    exact .cons h.1 (pairs_spec h.2)

theorem groupD_sound {K : TM → AH → Prop} : ∀ (l : List DIt) (t : TM) (h : AH), vcOps P g0 (groupD l) t h K → vcD P g0 l t h K
  | [], t, h, hv => hv
  | x :: l, t, h, hv => by
    have ih := groupD_sound (K := K) l
    simp only [vcD]
    unfold vcI
    unfold groupD at hv
    cases hg : x.gd with
    | none =>
      simp only [hg, vcOps] at hv ⊢
      exact vcOp_mono (fun v h' => ih _ _) hv
    | some nw =>
      obtain ⟨n, want⟩ := nw
      simp only [hg] at hv ⊢
      have single : ∀ rest, rest = groupD l → vcOps P g0 (.gd n want [(x.dst, x.o)] :: rest) t h K →
          match gb want (look n t) with
          | .bool b => (b = want → vcOp P g0 x.o t h fun v h' => vcD P g0 l (upd t x.dst v) h' K) ∧ (b = !want → vcD P g0 l (upd t x.dst (.tuple [])) h K)
          | _ => False := by
        rintro _ rfl hv
        simp only [vcOps] at hv
        cases hb : gb want (look n t) <;> simp only [hb] at hv ⊢
        exact ⟨fun e => vcOp_mono (fun v h' => ih _ _) (hv.1 e), fun e => ih _ _ (hv.2 e)⟩
      cases hr : groupD l with
      | nil => rw [hr] at hv; exact single _ hr.symm hv
      | cons it rest =>
        rw [hr] at hv
        cases it with
        | gd n' want' l' =>
          simp only at hv
          split at hv
          · rename_i hc
            obtain ⟨rfl, rfl, hne⟩ := hc
            simp only [vcOps] at hv
            have hkeep : ∀ v, look n' (upd t x.dst v) = look n' t := by
              intro v
              cases hdd : x.dst with
              | none => rfl
              | some m =>
                simp only [upd, look]
                rw [if_neg (fun e => hne (by rw [hdd, e]))]
            cases hb : gb want' (look n' t) <;> simp only [hb] at hv ⊢
            rename_i b
            refine ⟨fun e => vcOp_mono (fun v h' hk => ih _ _ ?_) (hv.1 e), fun e => ih _ _ ?_⟩
            · rw [hr]
              simp only [vcOps, hkeep, hb]
              exact ⟨fun _ => hk, fun e' => (by rw [e] at e'; cases want' <;> cases e')⟩
            · rw [hr]
              simp only [vcOps, hkeep, hb]
              exact ⟨fun e' => (by rw [e] at e'; cases want' <;> cases e'), fun _ => hv.2 e⟩
          · exact single _ hr.symm hv
        | op d o' => exact single _ hr.symm hv
        | frz m => exact single _ hr.symm hv

theorem gb_bool {want b : Bool} {v : PV} (h : gb want v = .bool b) : v = .bool b ∨ (v = .tuple [] ∧ b = !want) := by
  unfold gb at h
  split at h
  · cases h; exact .inr ⟨rfl, rfl⟩
  · exact .inl h

theorem VRel.skipped {g : Gh} : VRel P g (.tuple []) Go.undef := .tuple rfl (by simp)

theorem yielded_skipped {g : Gh} {all : Array Oper} {tmps : Array Value} {j n : Nat} (h1 : (all[j]?).bind (·.dst) = some n) (h : VRel P g (.tuple []) (tmps.getD n Go.undef)) : yielded all tmps j = none := by
  have hv : tmps.getD n Go.undef = .tuple #[] := by
    generalize tmps.getD n Go.undef = v at h
    cases h with
    | tuple hl _ => simp at hl; rename_i vs; rw [Array.eq_empty_of_size_eq_zero hl.symm]
  unfold yielded
  rw [h1]
  simp only [Array.getD_eq_getD_getElem?] at hv
  cases hx : tmps[n]? with
  | none => simp [hx]
  | some x => rw [hx] at hv; simp at hv; simp [hx, hv]

/-- One item. -/
theorem item_sound (hF : Wide F) {arr : Nat → Bool} {all : Array Oper} {Q : Exit → Act → World → Prop} {K : TM → AH → Prop} {next : Act → World → Prop} {x : DIt} (hx : DOk P arr N all x)
    (hn : ∀ g t h a w, g0.le g → SRel P E D g t h a w N → K t h → next a w) (hg : g0.le g) (hS : SRel P E D g t h a w N) (hk : vcI P g0 x t h K) : wpOpIn F 0 P all Q x.idx next a w := by
  obtain ⟨o, ao, h1, h2, h3, h4, h5, h6⟩ := hx.ok
  have hop : (vcOp P g0 x.o t h fun v h' => K (upd t x.dst v) h') → o.wpIn F 0 P a w next Q := by
    intro hv
    have hv' : vcOp P g0 ao t h fun v h' => K (upd t x.dst v) h' := by
      rcases h5 with h5 | ⟨h5, hst⟩
      · rw [← h5]; exact hv
      · rw [h5] at hv
        simp only [vcOp] at hv
        obtain ⟨v, q1, q2⟩ := vcOp_still (g0 := g0) (t := t) hst [] _ hv
        exact q2 h (fun v h' => K (upd t x.dst v) h') (.inr rfl) q1
    rw [h4] at hv'
    exact op_step hF hg hS h2 h3 hv' fun g' pv h' a' w' hg' hkk hS' => hn g' _ h' a' w' hg' hS' hkk
  have hskip : K (upd t x.dst (.tuple [])) h → (∀ f, o.about P w a.eval = some f → F.fn f) ∧ next (a.put o.dst Go.undef) w := by
    intro hv
    rw [h4] at hv
    exact ⟨fun f _ => hF.fn f, hn g _ h _ w hg (hS.put (Gh.le.refl g) hS.i VRel.skipped h3) hv⟩
  unfold wpOpIn
  rw [h1]
  simp only
  rcases h6 with ⟨g1, g2⟩ | ⟨j, want, n, g1, g2, g3⟩
  · unfold vcI at hk
    rw [g2] at hk
    rw [if_pos (by simp [Region.wanted, g1])]
    exact hop hk
  · unfold vcI at hk
    rw [g3] at hk
    simp only at hk
    cases hb : gb want (look n t) <;> simp only [hb] at hk
    rename_i b
    rcases gb_bool hb with hb | ⟨hb, hbn⟩
    rotate_left
    · have hy : yielded all a.tmps j = none := yielded_skipped g2 (by have := hS.t n; rw [hb] at this; exact this)
      rw [if_neg (by simp [Region.wanted, g1, hy])]
      exact hskip (hk.2 hbn)
    have hy : yielded all a.tmps j = some b := by
      have hr := hS.t n
      rw [hb] at hr
      have hv := hr.bool_inv
      unfold yielded
      rw [g2]
      simp only [Array.getD_eq_getD_getElem?] at hv
      cases hx : a.tmps[n]? with
      | none => rw [hx] at hv; simp [Go.undef] at hv
      | some x => rw [hx] at hv; simp at hv; simp [hx, hv]
    by_cases hbw : b = want
    · subst hbw
      rw [if_pos (by simp [Region.wanted, g1, hy])]
      exact hop (hk.1 rfl)
    · rw [if_neg (by simp [Region.wanted, g1, hy, hbw])]
      exact hskip (hk.2 (bool_ne hbw))

/-- The items in any order. -/
theorem items_sound (hF : Wide F) {arr : Nat → Bool} {all : Array Oper} {M : List Nat} (hM : masksOk all.size M all.toList 0 = true) {Q : Exit → Act → World → Prop} {K : TM → AH → Prop} (hK : Closed K)
    (hQ : ∀ g t h a w, g0.le g → SRel P E D g t h a w N → K t h → Q .normal a w) : ∀ (m : Nat) (l : List DIt) (listed : Array Bool) (g : Gh) (t : TM) (h : AH) (a : Act) (w : World), l.length = m → listed.size = all.size →
      (∀ j, j < all.size → (listed.getD j true = false ↔ j ∈ l.map (·.idx))) → (∀ i, i < all.size → listed.getD i false = true → ∀ y, tbit M i y = true → listed.getD y false = true) → (∀ x ∈ l, DOk P arr N all x) →
      (l.Pairwise fun x y => (x.idx != y.idx && okPair M x y) = true) → g0.le g → SRel P E D g t h a w N → vcD P g0 l t h K → wpAnyIn F 0 P .any all Q m listed a w := by
  have hM' := fun (i : Nat) (o : Oper) (ho : all[i]? = some o) => by
    have := masksOk_spec hM i o (by simpa using ho)
    simpa only [Nat.zero_add] using this
  intro m
  induction m with
  | zero =>
    intro l listed g t h a w hlen hsz hun hcl hok hp hg hS hv
    have hl : l = [] := List.length_eq_zero_iff.1 hlen
    subst hl
    refine ⟨?_, hQ g t h a w hg hS hv⟩
    apply List.eq_nil_iff_forall_not_mem.2
    intro j hj
    obtain ⟨h0, o, ho, _⟩ := mem_ready.1 hj
    have := (hun j (Array.getElem?_eq_some_iff.1 ho).1).1 h0
    simp at this
  | succ m ih =>
    intro l listed g t h a w hlen hsz hun hcl hok hp hg hS hv
    refine ⟨fun hr => ?_, fun i hi => ?_⟩
    · -- the first item is ready
      exfalso
      cases l with
      | nil => simp at hlen
      | cons x l =>
        obtain ⟨o, ao, h1, -⟩ := (hok x (by simp)).ok
        have hlt := (Array.getElem?_eq_some_iff.1 h1).1
        have : x.idx ∈ Region.ready .any all listed := by
          refine mem_ready.2 ⟨(hun _ hlt).2 (by simp), o, h1, fun e he hb => ?_⟩
          obtain ⟨q1, q2, q3⟩ := hM' _ _ h1
          have hon := q2 e he hb
          have hbit : tbit M x.idx e.on = true := (q1 _).2 ⟨e, he, hb, .inl rfl⟩
          cases hL : listed.getD e.on true with
          | true =>
            simp only [Array.getD_eq_getD_getElem?] at hL ⊢
            have : listed[e.on]? = some listed[e.on] := Array.getElem?_eq_getElem (by rw [hsz]; exact hon)
            rw [this] at hL ⊢
            exact hL
          | false =>
            exfalso
            have := (hun _ hon).1 hL
            simp only [List.map_cons, List.mem_cons, List.mem_map] at this
            rcases this with e1 | ⟨y, hy, e1⟩
            · rw [e1, q3] at hbit; cases hbit
            · have := (List.pairwise_cons.1 hp).1 y hy
              simp only [okPair, Bool.and_eq_true, Bool.not_eq_true'] at this
              rw [e1, hbit] at this
              exact absurd this.2.1 (by simp)
        rw [hr] at this
        cases this
    · obtain ⟨h0, o, ho, hready⟩ := mem_ready.1 hi
      have hlt := (Array.getElem?_eq_some_iff.1 ho).1
      have hmem := (hun i hlt).1 h0
      obtain ⟨x, hx, rfl⟩ := List.mem_map.1 hmem
      obtain ⟨l1, l2, rfl⟩ := List.append_of_mem hx
      have hp' := List.pairwise_append.1 hp
      have hfront : ∀ y ∈ l1, (y.o.free = true ∨ (y.o.still = true ∧ (x.o.still = true ∨ x.o.free = true))) ∧ y.apart x = true := by
        intro y hy
        have := hp'.2.2 y hy x (by simp)
        simp only [okPair, Bool.and_eq_true, Bool.or_eq_true, bne_iff_ne, ne_eq] at this
        rcases this.2.2 with hb | ⟨hb, hap⟩
        · exfalso
          obtain ⟨e, he, hbi, hor⟩ := ((hM' _ _ ho).1 _).1 hb
          have hel := hready e he hbi
          have hylt : y.idx < all.size := by
            obtain ⟨o', ao', h1, -⟩ := (hok y (by simp [hy])).ok
            exact (Array.getElem?_eq_some_iff.1 h1).1
          have hyL : listed.getD y.idx false = true := by
            rcases hor with e1 | e1
            · rw [e1]; exact hel
            · exact hcl _ ((hM' _ _ ho).2.1 e he hbi) hel _ e1
          have hyU := (hun _ hylt).2 (by simp only [List.map_append, List.mem_append, List.mem_map]; exact .inl ⟨y, hy, rfl⟩)
          simp only [Array.getD_eq_getD_getElem?] at hyL hyU
          have : listed[y.idx]? = some listed[y.idx] := Array.getElem?_eq_getElem (by rw [hsz]; exact hylt)
          rw [this] at hyL hyU
          simp only [Option.getD_some] at hyL hyU
          rw [hyL] at hyU; cases hyU
        · exact ⟨hb, hap⟩
      have hv' := vcD_front hK l1 l2 t h hfront hv
      have hne1 : ∀ y ∈ l1 ++ l2, y.idx ≠ x.idx := by
        intro y hy
        rcases List.mem_append.1 hy with hy | hy
        · have := hp'.2.2 y hy x (by simp)
          simp only [Bool.and_eq_true, bne_iff_ne, ne_eq] at this
          exact this.1
        · have := (List.pairwise_cons.1 hp'.2.1).1 y hy
          simp only [Bool.and_eq_true, bne_iff_ne, ne_eq] at this
          exact fun e => this.1 e.symm
      refine item_sound hF (hok x hx) (fun g' t' h' a' w' hg' hS' hk => ?_) hg hS hv'
      refine ih (l1 ++ l2) _ g' t' h' a' w' (by simp at hlen ⊢; omega) (by simpa using hsz) (fun j hj => ?_) (fun i hi hL y hy => ?_) (fun y hy => hok y (by simp at hy ⊢; rcases hy with h | h <;> simp [h])) ?_ hg' hS' hk
      · by_cases e : j = x.idx
        · subst e
          constructor
          · intro hc
            simp [hsz, hj] at hc
          · intro hc
            obtain ⟨y, hy, e⟩ := List.mem_map.1 hc
            exact absurd e (hne1 y hy)
        · rw [getD_set_ne true (Ne.symm e), hun j hj]
          simp only [List.map_append, List.map_cons, List.mem_append, List.mem_cons]
          constructor
          · rintro (h | h | h)
            · exact .inl h
            · exact absurd h e
            · exact .inr h
          · rintro (h | h)
            · exact .inl h
            · exact .inr (.inr h)
      · by_cases e : i = x.idx
        · subst e
          obtain ⟨e, he, hbi, hor⟩ := ((hM' _ _ ho).1 _).1 hy
          have hel := hready e he hbi
          rcases hor with e1 | e1
          · rw [e1]; exact getD_set_true hel
          · exact getD_set_true (hcl _ ((hM' _ _ ho).2.1 e he hbi) hel _ e1)
        · rw [getD_set_ne false (Ne.symm e)] at hL
          exact getD_set_true (hcl i hi hL y hy)
      · refine hp.sublist ?_
        exact List.Sublist.append (List.Sublist.refl l1) (List.sublist_cons_self x l2)

theorem vcD_mono {K K' : TM → AH → Prop} (hk : ∀ t h, K t h → K' t h) : ∀ (l : List DIt) (t : TM) (h : AH), vcD P g0 l t h K → vcD P g0 l t h K'
  | [], _, _, hv => hk _ _ hv
  | _ :: l, _, _, hv => vcI_mono (fun t h => vcD_mono hk l t h) hv

theorem SRel.leq {t' : TM} (hS : SRel P E D g t h a w N) (he : Leq t t') : SRel P E D g t' h a w N := ⟨fun n => by rw [← he n]; exact hS.t n, hS.i, hS.n, hS.d⟩

/-- A region whose order is drawn. -/
theorem draw_sound (hF : Wide F) {arr : Nat → Bool} {ord : List Nat} {id : Nat} {all : Array Oper} {its : List AIt} (hc : compileD P arr ord N all = some its) {Q : Exit → Act → World → Prop} {K : TM → AH → Prop}
    (hQ : ∀ g t h a w, g0.le g → SRel P E D g t h a w N → K t h → Q .normal a w) (hg : g0.le g) (hS : SRel P E D g t h a w N) (hv : vcOps P g0 its t h K) : (Code.region id all true).wpIn F 0 P Q a w := by
  unfold compileD at hc
  simp only at hc
  generalize (match ord with | [] => List.range all.size | l => l) = order at hc
  cases hs : compileSome P arr N all order with
  | none => simp [hs] at hc
  | some l =>
    simp only [hs] at hc
    split at hc
    · rename_i hok
      cases hc
      simp only [Bool.and_eq_true, beq_iff_eq, List.all_eq_true, List.mem_range, List.contains_iff_mem] at hok
      obtain ⟨⟨⟨⟨h1, h2⟩, h3⟩, h4⟩, h5⟩ := hok
      refine wpIn_region_any h1 ?_
      have hcl : Closed fun t h => ∃ t', Leq t t' ∧ K t' h := fun t t' h he ⟨t2, e2, hk⟩ => ⟨t2, he.symm.trans e2, hk⟩
      have hS' : SRel P E D g t h a { w with drawn := w.drawn + 1 } N := ⟨hS.t, hS.i.drawn _, hS.n, hS.d⟩
      refine items_sound hF h2 hcl (fun g t h a w hg hS ⟨t', he, hk⟩ => hQ g t' h a w hg (hS.leq he) hk) all.size _ _ g t h a _ h3 (by simp) (fun j hj => ?_) (fun i hi hL => ?_)
        (wrapD_ok fun x hx => (compileSome_ok hs x (ordered_mem hx)).1) (pairs_spec h5) hg hS' (vcD_mono (fun t h hk => ⟨t, .refl t, hk⟩) _ _ _ (groupD_sound _ _ _ hv))
      · have := h4 j hj
        simp only [Array.getD_eq_getD_getElem?, Array.getElem?_replicate, hj, if_true, Option.getD_some, true_iff]
        exact this
      · simp [hi] at hL
    · cases hc

end Go.Avm
