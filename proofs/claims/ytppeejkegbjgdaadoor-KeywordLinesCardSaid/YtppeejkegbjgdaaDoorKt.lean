/- The model's own walk of filetype.bases and filetype.name. -/
import Derived.Test.YtppeejkegbjgdaaDoorProg
import Derived.Test.YtppeejkegbjgdaaDoorVd
import Derived.WalkKit
import Derived.Laws.IdiomRangeMap
set_option linter.unusedVariables false
namespace Go.Proofs.Law10
open Go Go.RowKit Go.Proofs Go.Avm

theorem upd_run {P : Program} {g : Gh} {w : World} {T kt e : TypeId} (hd : P.underlying T = some (.map kt e)) (hs : sigT P 50 kt = some [.str]) (htd : P.underlying kt = some .string) {es : List (PV × PV)} {ents : Array MapEntry} {clock b : Nat} {k : List UInt8} {v : Value}
    (hrel : EntsRel P g es ents.toList) (hko : keysOk [.str] false es = true) (hmx : mix (.str k) es 0 = none) (c1 : w.heap[b]? = some (.map ents clock)) :
    (Instr.mapUpdate T (.map (some b)) (.string ⟨⟨k⟩⟩) v).run P w = .ok () { w with heap := w.heap.setIfInBounds b (.map (ents.push { key := .string ⟨⟨k⟩⟩, val := v, born := clock }) (clock + 1)) } := by
  have rk : VRel P g (.str k) (.string ⟨⟨k⟩⟩) := .str k
  obtain ⟨r, r1, r2⟩ := findKey_run (w := w) hs htd rk rfl hrel hko
  have hck := checkKey_run (P := P) (g := g) (w := w) false 50 10000 kt _ hs (by omega) (.string ⟨⟨k⟩⟩) (.str k) _ htd rk rfl rfl
  have hget : (getObj b).run P w = .ok (.map ents clock) w := by simp [getObj, Sem.run, c1]
  have hset : ∀ o' : Obj, (setObj b o').run P w = .ok () { w with heap := w.heap.setIfInBounds b o' } := by intro o'; simp [setObj, Sem.run, c1]
  unfold Avm.Found at r2
  rw [hmx] at r2
  subst r2
  unfold Instr.mapUpdate
  simp only [Sem.run_bind, underlying_run hd, Result.andThen_ok, hget, hck, r1, hset]

theorem upd_alloc {P : Program} {g : Gh} {w : World} {T kt e : TypeId} (hd : P.underlying T = some (.map kt e)) (hs : sigT P 50 kt = some [.str]) (htd : P.underlying kt = some .string) {es : List (PV × PV)} {ents : Array MapEntry} {clock : Nat} {k : List UInt8} {v : Value}
    (hrel : EntsRel P g es ents.toList) (hko : keysOk [.str] false es = true) (hmx : mix (.str k) es 0 = none) :
    (Instr.mapUpdate T (.map (some w.heap.size)) (.string ⟨⟨k⟩⟩) v).run P (w.alloc (.map ents clock)) = .ok () (w.alloc (.map (ents.push { key := .string ⟨⟨k⟩⟩, val := v, born := clock }) (clock + 1))) := by
  rw [upd_run hd hs htd hrel hko hmx (heap_alloc_new w _)]
  congr 1
  have hp : ∀ (h : Array Obj) (x y : Obj), (h.push x).setIfInBounds h.size y = h.push y := by
    intro h x y
    apply Array.toList_inj.1
    simp
  unfold World.alloc
  simp only [hp]

abbrev ent (k : List UInt8) (n : Nat) (i : Int) : MapEntry := { key := .string ⟨⟨k⟩⟩, val := .int .i64 i, born := n }
def baseEs : Array MapEntry := #[ent [116, 101, 120, 116] 0 1, ent [98, 105, 110, 97, 114, 121] 1 2, ent [108, 105, 110, 107] 2 3]

set_option maxRecDepth 1000000 in
theorem bases_walk (w : World) : Calls Tryd.prog 97 #[] w fun e w' => e = .returned (.map (some w.heap.size)) ∧ w' = w.alloc (.map baseEs 3) := by
  have hmm : (Instr.makeMap 135 none).run Tryd.prog w = .ok (.map (some w.heap.size)) (w.alloc (.map #[] 0)) := rfl
  have g0 : Gh := ghostOf w
  have hd : Tryd.prog.underlying 135 = some (.map 9 3) := by kernel_rfl
  have hs : sigT Tryd.prog 50 9 = some [.str] := by kernel_rfl
  have ht : Tryd.prog.underlying 9 = some .string := by kernel_rfl
  have u1 := upd_alloc (P := Tryd.prog) (g := g0) (w := w) (es := []) (ents := #[]) (clock := 0) (k := [116, 101, 120, 116]) (v := .int .i64 1) hd hs ht ⟨rfl, by simp⟩ rfl rfl
  have u2 := upd_alloc (P := Tryd.prog) (g := g0) (w := w) (es := [(.str [116, 101, 120, 116], .int .i64 1)]) (ents := #[ent [116, 101, 120, 116] 0 1]) (clock := 1) (k := [98, 105, 110, 97, 114, 121]) (v := .int .i64 2) hd hs ht
    ⟨rfl, fun i p e hp he => by
      match i, hp, he with
      | 0, hp, he => simp at hp he; subst hp; subst he; exact ⟨.str _, .int _ _⟩
      | i + 1, hp, he => simp at hp⟩ rfl rfl
  have u3 := upd_alloc (P := Tryd.prog) (g := g0) (w := w) (es := [(.str [116, 101, 120, 116], .int .i64 1), (.str [98, 105, 110, 97, 114, 121], .int .i64 2)]) (ents := #[ent [116, 101, 120, 116] 0 1, ent [98, 105, 110, 97, 114, 121] 1 2]) (clock := 2) (k := [108, 105, 110, 107]) (v := .int .i64 3) hd hs ht
    ⟨rfl, fun i p e hp he => by
      match i, hp, he with
      | 0, hp, he => simp at hp he; subst hp; subst he; exact ⟨.str _, .int _ _⟩
      | 1, hp, he => simp at hp he; subst hp; subst he; exact ⟨.str _, .int _ _⟩
      | i + 2, hp, he => simp at hp⟩ rfl rfl
  go_enter Tryd.func97, Tryd.ntmps97
  go_wp2
  go_ret
  exact ⟨rfl, rfl⟩

/-- What asks the memory and the tape, and turns maps' blocks alone. -/
def calm {α : Type} : Sem α → Prop
  | .pure _ => True
  | .halt _ => True
  | .getObj _ k => ∀ o, calm (k o)
  | .setObj _ _ k => calm k
  | .choose _ k => ∀ n, calm (k n)
  | _ => False

theorem calm_bind {α β : Type} : ∀ (m : Sem α) (f : α → Sem β), calm m → (∀ a, calm (f a)) → calm (m.bind f)
  | .pure a, f, _, h => h a
  | .halt _, f, _, _ => trivial
  | .getObj r k, f, hm, h => fun o => calm_bind (k o) f (hm o) h
  | .setObj r o k, f, hm, h => calm_bind k f hm h
  | .choose q k, f, hm, h => fun n => calm_bind (k n) f (hm n) h

theorem calm_tape {P : Program} {α : Type} (m : Sem α) : ∀ (w : World) (a : α) (w' : World), calm m → m.run P w = .ok a w' → w'.tape = w.tape := by
  induction m with
  | pure a => intro w b w' _ h; simp only [Sem.run] at h; cases h; rfl
  | halt h => intro w b w' _ h; simp only [Sem.run] at h; cases h
  | getObj r k ih =>
    intro w a w' hm h
    simp only [Sem.run] at h
    split at h
    · cases h
    · exact ih _ w a w' (hm _) h
    · cases h
  | setObj r o k ih =>
    intro w a w' hm h
    simp only [Sem.run] at h
    split at h
    · cases h
    · exact (ih _ a w' hm h).trans rfl
    · cases h
  | choose q k ih =>
    intro w a w' hm h
    simp only [Sem.run] at h
    split at h
    · exact ih _ w a w' (hm _) h
    · exact (ih _ _ a w' (hm _) h).trans rfl
  | _ => intro w a w' hm; exact hm.elim

theorem calm_next (r : Nat) (ty : TypeId) : calm (Instr.next (.pointer (some ⟨r, 0, none⟩)) false ty) := by
  unfold Instr.next
  refine calm_bind _ _ (fun _ => trivial) fun o => ?_
  split
  · rename_i h; cases h
  · trivial
  · refine calm_bind _ _ (fun _ => trivial) fun o => ?_
    split
    · dsimp only
      split
      · refine calm_bind _ _ trivial fun _ => ?_
        refine calm_bind _ _ (fun _ => trivial) fun n => ?_
        split
        · exact calm_bind _ _ trivial fun _ => trivial
        · trivial
        · trivial
      · refine calm_bind _ _ (fun _ => trivial) fun n => ?_
        split
        · exact calm_bind _ _ trivial fun _ => trivial
        · trivial
        · trivial
    · trivial
  · trivial

theorem base_stamped : MapKept.Stamped baseEs 3 := by
  refine ⟨?_, ?_, ?_⟩ <;> simp [baseEs, ent]

set_option maxRecDepth 1000000 in
theorem name_walk (w : World) : Calls Tryd.prog 78 #[.int .i64 1] w fun e w' => e = .returned (.tuple #[.string ⟨#[116, 101, 120, 116]⟩, .bool true]) ∧ Below w.heap.size w w' := by
  have hW0 : ∃ W0 : World, w.alloc (.map baseEs 3) = W0 := ⟨_, rfl⟩
  obtain ⟨W0, hW0⟩ := hW0
  have hsz0 : W0.heap.size = w.heap.size + 1 := by rw [← hW0]; exact Array.size_push _
  have hb : W0.heap[w.heap.size]? = some (.map baseEs 3) := by rw [← hW0]; exact heap_alloc_new w _
  have hbel : Below w.heap.size w W0 := by rw [← hW0]; exact (Below.refl _ _).alloc (Nat.le_refl _) _
  have hd : Tryd.prog.underlying 135 = some (.map 9 3) := by kernel_rfl
  have hrg := run_range_map (P := Tryd.prog) W0 135 9 3 w.heap.size baseEs 3 hd hb
  have hst := base_stamped
  have cB := bases_walk w
  rw [hW0] at cB
  go_enter Tryd.func78, Tryd.ntmps78
  go_wp2_with (go_at_call 97; refine cB.mono ?_; rintro e w' ⟨rfl, hw⟩; rw [hw])
  go_loopw [] (fun w' => ∃ (w1 : World) (seen : Array Nat), w1.Alike W0 ∧ w1.tape = W0.tape ∧ w' = w1.alloc (.mapIter (some w.heap.size) 3 seen 3) ∧ ∀ x ∈ baseEs.toList, seen.contains x.born = true → ¬ x.val = .int .i64 1) (fun w' => (leftOf baseEs (w'.iterSeen W0.heap.size)).size)
  case atStart => exact ⟨W0, #[], ⟨rfl, rfl, rfl⟩, rfl, rfl, fun x _ h => by simp at h⟩
  case round =>
    obtain ⟨w1, seen, hal, htp1, rfl, hno⟩ := hrel
    have hsz : w1.heap.size = W0.heap.size := by rw [hal.1]
    have hb1 : w1.heap[w.heap.size]? = some (.map baseEs 3) := by rw [hal.1]; exact hb
    have law := run_next_map (P := Tryd.prog) w1 0 w.heap.size 3 3 seen baseEs 3 hb1 hst.1 (Nat.le_refl _)
    rw [hsz, hsz0] at law
    rcases law with ⟨h0, hrun⟩ | ⟨e, he, w2, hal2, hrun⟩
    · exfalso
      have hm : ent [116, 101, 120, 116] 0 1 ∈ baseEs.toList := by simp [baseEs]
      exact hno _ hm (all_seen baseEs seen h0 _ hm) rfl
    · have htp : w2.tape = W0.tape := by
        have := calm_tape _ _ _ _ (calm_next _ _) hrun
        simp only [World.tape_alloc] at this
        exact this.trans htp1
      have hem := (mem_left he).1
      have hek : (e.val = .int .i64 1 ∧ e.key = .string ⟨#[116, 101, 120, 116]⟩) ∨ (∃ v : Int, e.val = .int .i64 v ∧ v ≠ 1 ∧ ∃ k, e.key = .string k) := by
        simp only [baseEs, List.mem_cons, List.not_mem_nil, or_false] at hem
        rcases hem with rfl | rfl | rfl
        · exact .inl ⟨rfl, rfl⟩
        · exact .inr ⟨2, rfl, by decide, _, rfl⟩
        · exact .inr ⟨3, rfl, by decide, _, rfl⟩
      have hnx : ∀ ty, (Instr.next (.pointer (some ⟨w.heap.size + 1, 0, none⟩)) false ty).run Tryd.prog (w1.alloc (.mapIter (some w.heap.size) 3 seen 3)) = _ := fun _ => hrun
      have hsz2 : w2.heap.size = W0.heap.size := by rw [hal2.1, hal.1]
      have hb2 : w2.heap[w.heap.size]? = some (.map baseEs 3) := by rw [hal2.1]; exact hb1
      have hen := run_entry_map (P := Tryd.prog) w2 w.heap.size 3 seen baseEs 3 e hb2 hem hst.2.1
      rw [hsz2, hsz0] at hen
      have hal3 : w2.Alike W0 := ⟨hal2.1.trans hal.1, hal2.2.1.trans hal.2.1, hal2.2.2.trans hal.2.2⟩
      rcases hek with ⟨hv, hk⟩ | ⟨v, hv, hv1, k, hk⟩
      · rw [hv, hk] at hen hnx
        go_wp2
        go_ret2
        refine ⟨rfl, ?_⟩
        have hb3 : Below w.heap.size w w2 := ⟨hal3.2.1.trans hbel.os, htp.trans hbel.tape, hal3.2.2.trans hbel.output, by rw [hal3.1]; exact hbel.size, fun k hk => by rw [hal3.1]; exact hbel.block k hk⟩
        exact hb3.alloc (by rw [hsz2, hsz0]; omega) _
      · rw [hv, hk] at hen hnx
        go_wp2
        refine ⟨⟨w2, _, hal3, htp, rfl, fun x hx hc => ?_⟩, ?_⟩
        · rw [contains_push] at hc
          rcases Bool.or_eq_true _ _ ▸ hc with h1 | h1
          · exact hno x hx h1
          · have : x = e := born_inj hst.2.1 hx hem (beq_iff_eq.1 h1)
            subst this
            rw [hv]
            intro e1
            injection e1 with _ e1
            exact hv1 e1
        · rw [← hsz2, World.iterSeen_alloc, hsz2, ← hsz, World.iterSeen_alloc]
          exact left_shrinks baseEs seen e he
end Go.Proofs.Law10
