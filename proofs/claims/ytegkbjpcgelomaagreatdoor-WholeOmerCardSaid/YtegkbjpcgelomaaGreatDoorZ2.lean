/- A step of the lone run is a step of the other program's goroutine, over a world that parts in hidden blocks. No program of ours in sight. -/
import Derived.Test.YtegkbjpcgelomaaGreatDoorZ1
import Derived.Conc.FxBegin
set_option linter.unusedVariables false
set_option linter.unusedSimpArgs false
section
namespace Go.Sim
open Go Go.Conc

section
variable {Q P : Program} {up : FuncId → Prop} {T : Frame → List Frame → World → Prop} {H : HSet}

/-- A tree leads to the place on the very tape. -/
theorem wf_comes {fr : Frame} {xs : List Frame} {v : World} (h : Wf Q T fr xs v) : ¬ Never Q T fr (xs ++ [foot Q]) v := by
  induction h with
  | tgt h => exact fun hn => hn 0 _ _ _ rfl h
  | @step fr xs v h1 h2 ih =>
    obtain ⟨fr', xs', v', es, e⟩ := h1 v.tape v.drawn
    have e' : stepG Q true (G fr (xs ++ [foot Q])) v = .go (G fr' (xs' ++ [foot Q])) v' es := e
    intro hn
    refine ih _ _ _ _ _ _ e fun n fr2 cs2 v2 hr => ?_
    have es1 : Go.step Q (lone fr (xs ++ [foot Q]) v) = .next (lone fr' (xs' ++ [foot Q]) v') := step_lone_go (by show (stepG Q true (G fr (xs ++ [foot Q])) v).bare = _; rw [e']; rfl)
    exact hn (n + 1) fr2 cs2 v2 (by simp only [runN, es1]; exact hr)

/-- The tree's own step, on the very tape. -/
theorem wf_next {fr : Frame} {xs : List Frame} {v : World} (h : Wf Q T fr xs v) (nT : ¬ T fr (xs ++ [foot Q]) v) : ∃ fr' xs' v' es, stepG Q true (G fr (xs ++ [foot Q])) v = .go (G fr' (xs' ++ [foot Q])) v' es ∧ Wf Q T fr' xs' v' := by
  cases h with
  | tgt h => exact absurd h nT
  | step h1 h2 =>
    obtain ⟨fr', xs', v', es, e⟩ := h1 v.tape v.drawn
    exact ⟨fr', xs', v', es, e, h2 _ _ _ _ _ _ e⟩

/-- Its function is the same in both. -/
def Alike (Q P : Program) (fr : Frame) : Prop := P.funcs[fr.fn]? = Q.funcs[fr.fn]?
/-- What a step is, in the lone run and in the other program. -/
structure Both (Q P : Program) (up : FuncId → Prop) (T : Frame → List Frame → World → Prop) (H : HSet) (bP : List Frame) (fr : Frame) (xs : List Frame) (v w : World) (fr' : Frame) (xs' : List Frame) (v' : World) (frP : Frame) (w' : World) (es : Array Event) : Prop where
  tree : Wf Q T fr' xs' v'
  own : ∃ esQ, stepG Q true (G fr (xs ++ [foot Q])) v = .go (G fr' (xs' ++ [foot Q])) v' esQ
  pf : Plain Q (OpGood Q P) fr'
  px : ∀ x ∈ xs', Plain Q (OpGood Q P) x
  step : stepG P true (G fr (xs ++ bP)) w = .go (G frP (xs' ++ bP)) w' es
  hid : Hid H v' w'
  size : w.heap.size ≤ w'.heap.size
  evs : ∀ e ∈ es, EvOk H w'.heap.size e

theorem lockstep (hp : Pair Q P up) (hG : Goal Q T) {fr : Frame} {xs : List Frame} (hf : Plain Q (OpGood Q P) fr) (hxs : ∀ x ∈ xs, Plain Q (OpGood Q P) x) (hx : fr.mode = .run ∨ xs ≠ []) (hs : ∀ x ∈ fr :: xs, Alike Q P x) {v w : World} (hd : Hid H v w) (hW : Wf Q T fr xs v) (nT : ¬ T fr (xs ++ [foot Q]) v) (bP : List Frame) :
    (∃ fr' xs' v' w' es, Both Q P up T H bP fr xs v w fr' xs' v' fr' w' es ∧ ∀ x ∈ fr' :: xs', Alike Q P x) ∨
    (∃ f a v' w' es, up f ∧ Both Q P up T H bP fr xs v w (Frame.enter Q f a .normal) (fr :: xs) v' (Frame.enter P f a .normal) w' es) := by
  have hTm : ∀ fr cs v, T fr cs v → fr.mode = .returning := fun fr cs v h => (hG.at_ fr cs v h).1
  obtain ⟨fr1, xs1, v1, esQ, eQ, W1⟩ := wf_next hW nT
  have al : ∀ {fr'}, fr'.fn = fr.fn → ∀ x ∈ fr' :: xs, Alike Q P x := fun {fr'} e x hx' => by
    rcases List.mem_cons.1 hx' with rfl | hx'
    · have := hs fr List.mem_cons_self
      unfold Alike at *
      rw [e]; exact this
    · exact hs x (List.mem_cons_of_mem _ hx')
  have noEnd : ∀ {o w' es}, stepG Q true (G fr (xs ++ [foot Q])) v ≠ .ended o w' es := fun {o w' es} e => by rw [eQ] at e; cases e
  rcases hf.mode with hm | hm
  · rcases plain_cases hf hm with ⟨fr', p1, h1, p2⟩ | ⟨id, ops, k, htd, p1, h1⟩ | ⟨ops, i, rest, k, o, htd, ho, hw, hg⟩ | h1
    · obtain ⟨rfl, rfl, rfl⟩ := go_inj eQ (h1 Q _ _)
      exact .inl ⟨_, _, _, w, #[], ⟨W1, ⟨_, eQ⟩, p1, hxs, h1 P _ _, hd, Nat.le_refl _, fun e he => absurd he (by simp)⟩, al p2⟩
    · obtain ⟨rfl, rfl, rfl⟩ := go_inj eQ (h1 Q _ _)
      refine .inl ⟨_, _, _, { w with drawn := w.drawn + 1 }, #[], ⟨W1, ⟨_, eQ⟩, p1 _, hxs, ?_, hd.tick, Nat.le_refl _, fun e he => absurd he (by simp)⟩, al rfl⟩
      rw [h1 P _ _, ← hp.follows, ← hd.tape, ← hd.drawn]
    · have mild : ∀ {p : Program} {u : World} {nx : Next} {u' : World}, (execOp fr.eval o).run p u = .ok nx u' → ((∃ x, nx = .value x) ∨ nx = .skip ∨ ∃ f a, nx = .enter f a) → ∀ cs, StepIs p fr cs u ((mop p fr cs o).runT p u #[]) := fun {p u nx u'} e hn cs => by
        refine step_op hm hf.round hf.kind htd ho hw ?_
        rcases hn with ⟨x, rfl⟩ | rfl | ⟨f, a, rfl⟩
        · exact .inl ⟨_, _, e⟩
        · exact .inr (.inl ⟨_, e⟩)
        · exact .inr (.inr (.inl ⟨_, _, _, e⟩))
      have rT : ∀ {p : Program} {u : World} {r : Result Next}, (execOp fr.eval o).run p u = r → ∃ es, (execOp fr.eval o).runT p u #[] = (r, es) := fun {p u r} h => ⟨_, by rw [Sem.runT_eq, h]⟩
      rcases form_lock hp (hg fr.eval fun _ => rfl) v w hd with ⟨nx, v', w', es, r1, r2, h', sz, ev, st, hnx⟩ | ⟨f, a, v', fn, r, r1, hq, hb⟩ | ⟨h, v', r1, dd⟩
      · have r3 : (execOp fr.eval o).run P w = .ok nx w' := by rw [← Sem.runT_fst P _ w #[], r2]
        have hn3 : (∃ x, nx = .value x) ∨ nx = .skip ∨ ∃ f a, nx = .enter f a := by
          rcases hnx with ⟨x, rfl⟩ | rfl | ⟨f, a, fn, c, rfl, -⟩
          · exact .inl ⟨_, rfl⟩
          · exact .inr (.inl rfl)
          · exact .inr (.inr ⟨_, _, rfl⟩)
        obtain ⟨esq, q1⟩ := rT r1
        have sQ := mild r1 hn3 (xs ++ [foot Q])
        have sP := mild r3 hn3 (xs ++ bP)
        unfold mop at sQ sP
        rw [runT_bind, q1] at sQ
        rw [runT_bind, r2] at sP
        -- a value, or nothing
        have val : ∀ fr', (∀ p cs, after p fr cs nx = .pure (fr', cs)) → Plain Q (OpGood Q P) fr' → fr'.fn = fr.fn → (∃ fr' xs' v' w' es, Both Q P up T H bP fr xs v w fr' xs' v' fr' w' es ∧ ∀ x ∈ fr' :: xs', Alike Q P x) := by
          intro fr' ha pl hfn
          simp only [ha] at sQ sP
          obtain ⟨es1, e1, -⟩ := sQ
          obtain ⟨es2, e2, s2⟩ := sP
          obtain ⟨rfl, rfl, rfl⟩ := go_inj eQ e1
          exact ⟨_, _, _, w', es2, ⟨W1, ⟨_, eQ⟩, pl, hxs, e2, h', sz, fun e he => ev e (s2 e he)⟩, al hfn⟩
        rcases hnx with ⟨x, rfl⟩ | rfl | ⟨f, a, fn, c, rfl, hq, hb, hk⟩
        · exact .inl (val (fr.finish x) (fun p cs => rfl) (hf.finish x) (finish_fn fr x))
        · exact .inl (val (fr.finish undef) (fun p cs => rfl) (hf.finish undef) (finish_fn fr undef))
        · obtain ⟨es1, e1, -⟩ := sQ
          obtain ⟨es2, e2, s2⟩ := sP
          have e1' : stepG Q true (G fr (xs ++ [foot Q])) v = .go (G (Frame.enter Q f a .normal) ((fr :: xs) ++ [foot Q])) v' es1 := e1
          obtain ⟨rfl, rfl, rfl⟩ := go_inj eQ e1'
          have px : ∀ x ∈ fr :: xs, Plain Q (OpGood Q P) x := fun x hx' => by
            rcases List.mem_cons.1 hx' with rfl | hx'
            · exact hf
            · exact hxs x hx'
          rcases hk with hk | hk
          · have e3 : Frame.enter P f a .normal = Frame.enter Q f a .normal := by unfold Frame.enter; rw [hk, hq]
            refine .inl ⟨_, _, _, w', es2, ⟨W1, ⟨_, eQ⟩, plain_enter hp hq hb, px, ?_, h', sz, fun e he => ev e (s2 e he)⟩, fun x hx' => ?_⟩
            · rw [← e3]; exact e2
            · rcases List.mem_cons.1 hx' with rfl | hx'
              · show P.funcs[f]? = Q.funcs[f]?
                rw [hk, hq]
              · exact hs x hx'
          · exact .inr ⟨f, a, _, w', es2, hk, W1, ⟨_, eQ⟩, plain_enter hp hq hb, px, e2, h', sz, fun e he => ev e (s2 e he)⟩
      · -- a stop is entered
        exfalso
        obtain ⟨esq, q1⟩ := rT r1
        have sQ := mild r1 (.inr (.inr ⟨_, _, rfl⟩)) (xs ++ [foot Q])
        unfold mop at sQ
        rw [runT_bind, q1] at sQ
        obtain ⟨es1, e1, -⟩ := sQ
        have e1' : stepG Q true (G fr (xs ++ [foot Q])) v = .go (G (Frame.enter Q f a .normal) ((fr :: xs) ++ [foot Q])) v' es1 := e1
        obtain ⟨rfl, rfl, rfl⟩ := go_inj eQ e1'
        have ht : (Frame.enter Q f a .normal).todo = [.code (.refuse r)] := by unfold Frame.enter; simp only [hq, Option.bind_some, hb, Option.getD_some]
        obtain ⟨o1, ho1⟩ : ∃ o1, stepG Q true (G (Frame.enter Q f a .normal) ((fr :: xs) ++ [foot Q])) v1 = .ended o1 v1 #[] := ⟨_, by rw [stepG_run rfl]; unfold stepG.exec; simp only [ht]; rfl⟩
        refine wf_comes W1 (never_ended (fun h => ?_) ho1)
        have := hTm _ _ _ h; cases this
      · -- it ends
        exfalso
        obtain ⟨esq, q1⟩ := rT r1
        have sQ : StepIs Q fr (xs ++ [foot Q]) v ((mop Q fr (xs ++ [foot Q]) o).runT Q v #[]) := step_op hm hf.round hf.kind htd ho hw (.inr (.inr (.inr ⟨_, _, r1, dd⟩)))
        unfold mop at sQ
        rw [runT_bind, q1] at sQ
        cases h with
        | panic x =>
          rcases sQ with ⟨es', e2⟩ | ⟨o, w'', es', e2⟩
          · obtain ⟨rfl, rfl, rfl⟩ := go_inj eQ e2
            refine wf_comes W1 (never_panic hTm _ _ [{ v := x, recovered := false }] _ ?_ ?_ fun y hy => (hxs y hy).defers)
            · unfold Frame.raise; rw [hm]
            · unfold Frame.raise; rw [hm]; exact hf.defers
          · exact noEnd e2
        | stuck s => obtain ⟨o, w'', es', e2⟩ := sQ dd; exact noEnd e2
        | unsupported u => obtain ⟨o, w'', es', e2⟩ := sQ dd; exact noEnd e2
        | _ => exact dd.elim
    · obtain ⟨o, w', es, e⟩ := h1 Q (xs ++ [foot Q]) v
      exact absurd e noEnd
  · -- a return
    obtain ⟨c, rest, rfl⟩ : ∃ c rest, xs = c :: rest := by
      cases xs with
      | nil => rcases hx with h | h
               · rw [hm] at h; cases h
               · exact absurd rfl h
      | cons c rest => exact ⟨c, rest, rfl⟩
    obtain ⟨fn, hfn⟩ := hf.fn
    have rT : ∀ {p : Program} {u : World} {r : Result Value}, (results fn fr.tmps).run p u = r → ∃ es, (results fn fr.tmps).runT p u #[] = (r, es) := fun {p u r} h => ⟨_, by rw [Sem.runT_eq, h]⟩
    have hfnP : P.funcs[fr.fn]? = some fn := (hs fr List.mem_cons_self).trans hfn
    have alr : ∀ x, ∀ y ∈ c.finish x :: rest, Alike Q P y := fun x y hy => by
      rcases List.mem_cons.1 hy with rfl | hy
      · have := hs c (List.mem_cons_of_mem _ List.mem_cons_self)
        unfold Alike at *
        rw [finish_fn]; exact this
      · exact hs y (List.mem_cons_of_mem _ (List.mem_cons_of_mem _ hy))
    rcases Fine0.lock hp.lay (hp.res fn fr.tmps) v w #[] hd with ⟨x, v', w', es, r1, r2, h', sz, ev, -⟩ | ⟨h, v', r1, dd⟩
    · obtain ⟨esq, q1⟩ := rT r1
      have e1 := (step_ret (c := c) (rest := rest ++ [foot Q]) hm hf.defers hf.kind hfn).1 _ _ _ q1
      have e2 := (step_ret (c := c) (rest := rest ++ bP) hm hf.defers hf.kind hfnP).1 _ _ _ r2
      obtain ⟨rfl, rfl, rfl⟩ := go_inj eQ e1
      refine .inl ⟨_, _, _, w', _, ⟨W1, ⟨_, eQ⟩, (hxs c List.mem_cons_self).finish x, fun y hy => hxs y (List.mem_cons_of_mem _ hy), e2, h', sz, fun e he => ?_⟩, alr x⟩
      rcases Array.mem_append.1 he with he | he
      · exact (ev e (seen_sub _ _ _ e he)).elim (fun g => absurd g (by simp)) id
      · exact absurd he (by simp)
    · exfalso
      obtain ⟨esq, q1⟩ := rT r1
      obtain ⟨o, w'', es', e2⟩ := (step_ret (c := c) (rest := rest ++ [foot Q]) hm hf.defers hf.kind hfn).2 _ _ _ q1
      exact noEnd e2
end
end Go.Sim
end
/- The true machine, in which all others only leave, carries out the lone run, on whatever tape: what that needs of the one function that stands for another is asked. No program of ours in sight. -/
section
namespace Go.Sim
open Go Go.Conc
open Go.ConcN (sumTo upd sumTo_upd upd_ne upd_same)

/-- A step of the lone run, for some answers. -/
def L1 (Q : Program) (T : Frame → List Frame → World → Prop) (fr : Frame) (xs : List Frame) (v : World) (fr' : Frame) (xs' : List Frame) (v' : World) : Prop :=
  ¬ T fr (xs ++ [foot Q]) v ∧ ∃ τ n es, stepG Q true (G fr (xs ++ [foot Q])) (re v τ n) = .go (G fr' (xs' ++ [foot Q])) v' es
/-- Some steps. -/
inductive Lds (Q : Program) (T : Frame → List Frame → World → Prop) : Frame → List Frame → World → Frame → List Frame → World → Prop
  | refl (fr : Frame) (xs : List Frame) (v : World) : Lds Q T fr xs v fr xs v
  | head {fr : Frame} {xs : List Frame} {v : World} {fr1 : Frame} {xs1 : List Frame} {v1 : World} {fr' : Frame} {xs' : List Frame} {v' : World} : L1 Q T fr xs v fr1 xs1 v1 → Lds Q T fr1 xs1 v1 fr' xs' v' → Lds Q T fr xs v fr' xs' v'
section
variable {Q P : Program} {up : FuncId → Prop} {T : Frame → List Frame → World → Prop}
theorem Lds.trans {fr : Frame} {xs : List Frame} {v : World} {fr1 : Frame} {xs1 : List Frame} {v1 : World} {fr' : Frame} {xs' : List Frame} {v' : World} (h : Lds Q T fr xs v fr1 xs1 v1) (k : Lds Q T fr1 xs1 v1 fr' xs' v') : Lds Q T fr xs v fr' xs' v' := by
  induction h with
  | refl => exact k
  | head a _ ih => exact .head a (ih k)
theorem wf_l1 {fr : Frame} {xs : List Frame} {v : World} {fr' : Frame} {xs' : List Frame} {v' : World} (h : Wf Q T fr xs v) (l : L1 Q T fr xs v fr' xs' v') : Wf Q T fr' xs' v' := by
  obtain ⟨nT, τ, n, es, e⟩ := l
  cases h with
  | tgt h => exact absurd h nT
  | step _ h2 => exact h2 _ _ _ _ _ _ e
theorem wf_lds {fr : Frame} {xs : List Frame} {v : World} {fr' : Frame} {xs' : List Frame} {v' : World} (h : Wf Q T fr xs v) (l : Lds Q T fr xs v fr' xs' v') : Wf Q T fr' xs' v' := by
  induction l with
  | refl => exact h
  | head a _ ih => exact ih (wf_l1 h a)
/-- What is shown of a state out of all that comes behind it. -/
theorem wf_ind {M : Frame → List Frame → World → Prop}
    (hM : ∀ fr xs v, Wf Q T fr xs v → (∀ fr1 xs1 v1 fr' xs' v', L1 Q T fr xs v fr1 xs1 v1 → Lds Q T fr1 xs1 v1 fr' xs' v' → M fr' xs' v') → M fr xs v) :
    ∀ {fr xs v}, Wf Q T fr xs v → M fr xs v := by
  have key : ∀ {fr xs v}, Wf Q T fr xs v → ∀ fr' xs' v', Lds Q T fr xs v fr' xs' v' → M fr' xs' v' := by
    intro fr xs v h
    induction h with
    | @tgt fr xs v h =>
      intro fr' xs' v' l
      cases l with
      | refl => exact hM _ _ _ (.tgt h) fun _ _ _ _ _ _ a _ => absurd h a.1
      | head a _ => exact absurd h a.1
    | @step fr xs v h1 h2 ih =>
      intro fr' xs' v' l
      cases l with
      | refl => exact hM _ _ _ (.step h1 h2) fun fr1 xs1 v1 fr' xs' v' a b => by
                  obtain ⟨_, τ, n, es, e⟩ := a
                  exact ih τ n _ _ _ _ e _ _ _ b
      | head a b =>
        obtain ⟨_, τ, n, es, e⟩ := a
        exact ih τ n _ _ _ _ e _ _ _ b
  exact fun {fr xs v} h => key h _ _ _ (.refl fr xs v)

/-- What is known between two steps: the others leave; the trace is past; the hidden blocks hold what is shunned. -/
structure Sit (P : Program) (H : HSet) (gs : Array Goroutine) (v w : World) (t : Trace) (q : Nat → Nat) : Prop where
  leavers : Leavers P t gs q
  past : ∃ Shun B, Past Shun B t ∧ ∀ l, Shun l → ∃ a, l = .cell a ∧ H a.block
  hid : Hid H v w

/-- WHAT IS ASKED OF THE FUNCTION THAT STANDS FOR ANOTHER: where goroutine 0 has entered the true one and the lone run the other, both come back, alike. -/
def Phase (Q P : Program) (up : FuncId) (T : Frame → List Frame → World → Prop) (bP : List Frame) : Prop :=
  ∀ (a : Array Value) (c : Frame) (xs : List Frame) (H : HSet) (gs : Array Goroutine) (v w : World) (sl : Option (Nat × Nat)) (t : Trace) (q : Nat → Nat),
    (∀ x ∈ c :: xs, x.defers = []) → gs[0]? = some (G (Frame.enter P up a .normal) (c :: xs ++ bP)) → Sit P H gs v w t q → Wf Q T (Frame.enter Q up a .normal) (c :: xs) v →
    ∃ (N : Nat) (gs' : Array Goroutine) (H' : HSet) (v' w' : World) (sl' : Option (Nat × Nat)) (t' : Trace) (q' : Nat → Nat) (x : Value),
      runNT P N (crowd gs w sl) t = (.next (crowd gs' w' sl'), t') ∧ gs'[0]? = some (G (c.finish x) (xs ++ bP)) ∧ Sit P H' gs' v' w' t' q' ∧ Lds Q T (Frame.enter Q up a .normal) (c :: xs) v (c.finish x) xs v' ∧ HExt H H'

theorem Hid.at {H : HSet} {v w : World} (h : Hid H v w) (d : Nat) : Hid H (re v w.tape d) (w.at d) := ⟨rfl, rfl, h.os, h.output, h.size, h.same, h.hid, h.low, h.ok⟩
theorem evL_of {H : HSet} {Shun : Loc → Prop} {n : Nat} {e : Event} (hS : ∀ l, Shun l → ∃ a, l = .cell a ∧ H a.block) (h : EvOk H n e) : EvL Shun n e := by
  obtain ⟨loc, wr, sy⟩ := e
  unfold EvOk at h
  cases loc with
  | cell a =>
    refine ⟨fun x hx hs => ?_, by simp, by simp, ?_⟩
    · rw [show (MemAct.ofEvent ⟨.cell a, wr, sy⟩) = .access ⟨.cell a, wr, sy⟩ by cases wr <;> cases sy <;> rfl] at hx
      simp only [MemAct.touch?, Option.some.injEq] at hx
      subst hx
      obtain ⟨b, hb, hH⟩ := hS _ hs
      cases hb
      exact absurd hH h.1
    · rw [show (MemAct.ofEvent ⟨.cell a, wr, sy⟩) = .access ⟨.cell a, wr, sy⟩ by cases wr <;> cases sy <;> rfl]
      exact h.2
  | obj r =>
    refine ⟨fun x hx hs => ?_, by simp, by simp, ?_⟩
    · obtain ⟨b, hb, -⟩ := hS _ hs
      cases wr <;> cases sy <;> simp [MemAct.ofEvent, MemAct.touch?] at hx <;> (subst hx; cases hb)
    · cases wr <;> cases sy <;> exact h
  | mark m =>
    have hm : MemAct.ofEvent ⟨.mark m, wr, sy⟩ = .mark m := by cases wr <;> cases sy <;> rfl
    have hm' : (m = .noRoom ∨ ∃ f, m = .extern f) := h
    refine ⟨fun x hx hs => ?_, ?_, ?_, ?_⟩
    · rw [hm] at hx
      rcases hm' with rfl | ⟨f, rfl⟩ <;> simp [MemAct.touch?] at hx
    · rcases hm' with rfl | ⟨f, rfl⟩ <;> simp
    · rcases hm' with rfl | ⟨f, rfl⟩ <;> simp
    · rw [hm]; rcases hm' with rfl | ⟨f, rfl⟩ <;> trivial
  | _ => exact h.elim

/-- One that only leaves has taken a step of its own: the others are as they were. -/
theorem leavers_slip {gs : Array Goroutine} {t : Trace} {q : Nat → Nat} (hL : Leavers P t gs q) {i k : Nat} {g g' : Goroutine} {u : World} {fn : FuncId} {pos : String} (hi0 : 0 < i) (hi : gs[i]? = some g) (es : Array Event)
    (hq : QuitsD P k (deafBehind (Deaf t i) es) g') : Leavers P (t ++ MemOp.ofEvents i fn pos es) ((gs.map (woken P g g' u)).setIfInBounds i g') (upd q i k) := by
  have other : ∀ j, i ≠ j → Deaf (t ++ MemOp.ofEvents i fn pos es) j = Deaf t j := fun j hj => Deaf_other t hj _ ConcX.g_of_ofEvents
  have lt : i < gs.size := (Array.getElem?_eq_some_iff.1 hi).1
  constructor
  · intro j x hj hx
    rcases Nat.decEq i j with hne | rfl
    · rw [Array.getElem?_setIfInBounds_ne hne] at hx
      obtain ⟨y, hy, rfl⟩ := Option.map_eq_some_iff.1 ((Array.getElem?_map).symm.trans hx)
      have a := hL.old j y hj hy
      rw [other j hne, upd_ne q k (Ne.symm hne), woken_quitsD a]
      exact a
    · have e : x = g' := by
        rw [Array.getElem?_setIfInBounds_self_of_lt (by simpa using lt)] at hx
        exact (Option.some.inj hx).symm
      rw [e, upd_same, Deaf_own]
      exact hq
  · intro j hj
    have hj' : gs.size ≤ j := by simpa using hj
    rw [other j (by omega)]
    exact hL.above j hj'
theorem re_of_hid {H : HSet} {v w : World} (h : Hid H v w) : re v w.tape w.drawn = v := by
  unfold re
  rw [← h.tape, ← h.drawn]
/-- At the foot's side a return that is not the place leads to no tree. -/
theorem foot_ret (hp : Pair Q P up) {fr : Frame} {v : World} (hf : Plain Q (OpGood Q P) fr) (hm : fr.mode = .returning) (hW : Wf Q T fr [] v) (nT : ¬ T fr [foot Q] v) : False := by
  obtain ⟨fr', xs', v', es, e, -⟩ := wf_next hW nT
  obtain ⟨fn, hfn⟩ := hf.fn
  cases hr : (results fn fr.tmps).runT Q v #[] with
  | mk r es1 =>
    cases r with
    | ok x w' =>
      have e2 := (step_ret (c := foot Q) (rest := []) hm hf.defers hf.kind hfn).1 _ _ _ hr
      have e' : stepG Q true (G fr [foot Q]) v = .go (G fr' (xs' ++ [foot Q])) v' es := e
      rw [e'] at e2
      simp only [GStep.go.injEq, G, Goroutine.mk.injEq] at e2
      have := e2.1.2.1
      simp at this
    | halt h w' =>
      obtain ⟨o, w'', es', e2⟩ := (step_ret (c := foot Q) (rest := []) hm hf.defers hf.kind hfn).2 _ _ _ hr
      have e' : stepG Q true (G fr [foot Q]) v = .go (G fr' (xs' ++ [foot Q])) v' es := e
      rw [e'] at e2
      cases e2

/-- ████ THE TRUE MACHINE CARRIES OUT THE LONE RUN. ████ -/
theorem crowd_sim (hp : Pair Q P up) (hG : Goal Q T) {bP : List Frame} (hPh : ∀ f, up f → Phase Q P f T bP) {fr : Frame} {xs : List Frame} {v : World} (hW : Wf Q T fr xs v) :
    Plain Q (OpGood Q P) fr → (∀ x ∈ xs, Plain Q (OpGood Q P) x) → (∀ x ∈ fr :: xs, Alike Q P x) →
    ∀ (H : HSet) (gs : Array Goroutine) (w : World) (sl : Option (Nat × Nat)) (t : Trace) (q : Nat → Nat), gs[0]? = some (G fr (xs ++ bP)) → Sit P H gs (re v w.tape w.drawn) w t q →
      ∃ (N : Nat) (gs' : Array Goroutine) (fr' : Frame) (H' : HSet) (v' w' : World) (sl' : Option (Nat × Nat)) (t' : Trace) (q' : Nat → Nat),
        runNT P N (crowd gs w sl) t = (.next (crowd gs' w' sl'), t') ∧ gs'[0]? = some (G fr' bP) ∧ T fr' [foot Q] v' ∧ Plain Q (OpGood Q P) fr' ∧ Alike Q P fr' ∧ Sit P H' gs' (re v' w'.tape w'.drawn) w' t' q' ∧ HExt H H' := by
  refine wf_ind (M := fun fr xs v => Plain Q (OpGood Q P) fr → (∀ x ∈ xs, Plain Q (OpGood Q P) x) → (∀ x ∈ fr :: xs, Alike Q P x) →
    ∀ (H : HSet) (gs : Array Goroutine) (w : World) (sl : Option (Nat × Nat)) (t : Trace) (q : Nat → Nat), gs[0]? = some (G fr (xs ++ bP)) → Sit P H gs (re v w.tape w.drawn) w t q →
      ∃ (N : Nat) (gs' : Array Goroutine) (fr' : Frame) (H' : HSet) (v' w' : World) (sl' : Option (Nat × Nat)) (t' : Trace) (q' : Nat → Nat),
        runNT P N (crowd gs w sl) t = (.next (crowd gs' w' sl'), t') ∧ gs'[0]? = some (G fr' bP) ∧ T fr' [foot Q] v' ∧ Plain Q (OpGood Q P) fr' ∧ Alike Q P fr' ∧ Sit P H' gs' (re v' w'.tape w'.drawn) w' t' q' ∧ HExt H H') ?_ hW
  intro fr xs v hW ih hf hxs hal H gs w sl t q h0 hS
  by_cases hT : T fr (xs ++ [foot Q]) v
  · -- it is there
    have hx : xs = [] := by
      have := (hG.at_ _ _ _ hT).2
      cases xs with
      | nil => rfl
      | cons a l => simp at this
    subst hx
    exact ⟨0, gs, fr, H, v, w, sl, t, q, rfl, h0, hT, hf, hal fr List.mem_cons_self, hS, .refl H⟩
  have hx : fr.mode = .run ∨ xs ≠ [] := by
    rcases hf.mode with hm | hm
    · exact .inl hm
    · refine .inr fun e => ?_
      subst e
      exact foot_ret hp hf hm hW hT
  -- the others' steps that are left
  obtain ⟨k, hk⟩ : ∃ k, sumTo gs.size q = k := ⟨_, rfl⟩
  induction k using Nat.strongRecOn generalizing gs w sl t q with
  | _ k ihk =>
  have hrun : (G fr (xs ++ bP)).status = .running := rfl
  have hL := hS.leavers
  have hpos : 0 < gs.size := (Array.getElem?_eq_some_iff.1 h0).1
  have haw : ∀ g ∈ gs, awake g := by
    intro g hg
    obtain ⟨i, hi, rfl⟩ := Array.mem_iff_getElem.1 hg
    rcases Nat.eq_zero_or_pos i with rfl | hp0
    · have : gs[0] = G fr (xs ++ bP) := by simpa [Array.getElem?_eq_getElem hi] using h0
      rw [this]; exact awake_of (.inl hrun)
    · exact awake_of ((hL.old i _ hp0 (Array.getElem?_eq_getElem hi)).status.elim .inl fun x => .inr (.inr x))
  obtain ⟨i, g, d, sl', hi, hg, hst⟩ := crowd_pick (P := P) (w := w) (sl := sl) haw ⟨0, _, h0, hrun⟩
  rcases Nat.eq_zero_or_pos i with rfl | hp0
  · -- goroutine 0 takes the lone run's step
    obtain rfl : g = G fr (xs ++ bP) := by rw [h0] at hi; exact (Option.some.inj hi).symm
    have hd1 : Hid H (re v w.tape d) (w.at d) := hS.hid.at d
    have hW1 : Wf Q T fr xs (re v w.tape d) := hW.at_re hG w.tape d
    have nT1 : ¬ T fr (xs ++ [foot Q]) (re v w.tape d) := fun h => hT (by have := hG.any _ _ _ v.tape v.drawn h; exact this)
    obtain ⟨Shun, B, hP, hSh⟩ := hS.past
    -- the machine's step, and what holds behind it
    have go : ∀ {fr' : Frame} {xs' : List Frame} {v' : World} {frP : Frame} {w' : World} {es : Array Event}, Both Q P up T H bP fr xs (re v w.tape d) (w.at d) fr' xs' v' frP w' es →
        ∃ gs1 t1, stepT P (crowd gs w sl) = (.next (crowd gs1 w' sl'), t1) ∧ gs1[0]? = some (G frP (xs' ++ bP)) ∧ Sit P H gs1 v' w' (t ++ t1) q := by
      intro fr' xs' v' frP w' es Bo
      have hrunT := runT_crowd_go (P := P) (sl := sl') (i := 0) hi (show stepG P (0 == 0) (G fr (xs ++ bP)) (w.at d) = _ from Bo.step)
      exact ⟨_, _, hst.trans hrunT, by simp [hpos], hL.own hpos _ _ es, ⟨Shun, max B w'.heap.size, (hP.mono (Nat.le_max_left _ _)).own fun e he => evL_of hSh ((Bo.evs e he).mono (Nat.le_max_right _ _)), hSh⟩, Bo.hid⟩
    rcases lockstep hp hG hf hxs hx hal hd1 hW1 nT1 bP with ⟨fr', xs', v', w', es, Bo, hal'⟩ | ⟨f, a, v', w', es, hup, Bo⟩
    · obtain ⟨gs1, t1, e1, g1, S1⟩ := go Bo
      obtain ⟨esQ, eQ⟩ := Bo.own
      obtain ⟨N, gs', fr2, H', v2, w2, sl2, t2, q2, r, rest⟩ := ih _ _ _ _ _ _ ⟨hT, w.tape, d, esQ, eQ⟩ (.refl _ _ _) Bo.pf Bo.px hal' H gs1 w' sl' (t ++ t1) q g1 (by rw [re_of_hid Bo.hid]; exact S1)
      exact ⟨N + 1, gs', fr2, H', v2, w2, sl2, t2, q2, by simp only [runNT, e1]; exact r, rest⟩
    · obtain ⟨gs1, t1, e1, g1, S1⟩ := go Bo
      obtain ⟨esQ, eQ⟩ := Bo.own
      obtain ⟨N1, gs2, H2, v2, w2, sl2, t2, q2, x, r1, g2, S2, l2, x2⟩ := hPh f hup a fr xs H gs1 v' w' sl' (t ++ t1) q (fun y hy => (Bo.px y hy).defers) g1 S1 Bo.tree
      obtain ⟨N, gs', fr3, H', v3, w3, sl3, t3, q3, r, p1, p2, p3, p4, p5, p6⟩ := ih _ _ _ _ _ _ ⟨hT, w.tape, d, esQ, eQ⟩ l2 (hf.finish x) hxs (fun y hy => by
        rcases List.mem_cons.1 hy with rfl | hy
        · have := hal fr List.mem_cons_self
          unfold Alike at *
          rw [finish_fn]; exact this
        · exact hal y (List.mem_cons_of_mem _ hy)) H2 gs2 w2 sl2 t2 q2 g2 (by rw [re_of_hid S2.hid]; exact S2)
      refine ⟨N1 + N + 1, gs', fr3, H', v3, w3, sl3, t3, q3, ?_, p1, p2, p3, p4, p5, x2.trans p6⟩
      simp only [runNT, e1]
      rw [runNT_add, r1]
      exact r
  · -- a leaver slips
    have hq := hL.old i g hp0 hi
    have hi0 : (i == 0) = false := by simp; omega
    have hlt : i < gs.size := (Array.getElem?_eq_some_iff.1 hi).1
    cases hqi : q i with
    | zero => rw [hqi] at hq; rw [hq.1] at hg; cases hg
    | succ k' =>
      rw [hqi] at hq
      rcases hq with ⟨hfin, _⟩ | ⟨_, g', es, hm, hstp, hq'⟩
      · rw [hfin] at hg; cases hg
      have hrunT := runT_crowd_go (P := P) (sl := sl') (i := i) hi (by rw [hi0]; exact hstp (w.at d))
      have hsum : sumTo gs.size (upd q i k') + (k' + 1) = sumTo gs.size q + k' := by
        have := sumTo_upd q k' id hlt
        simpa [hqi] using this
      obtain ⟨Shun, B, hP, hSh⟩ := hS.past
      have hsz : ((gs.map (woken P g g' (w.at d))).setIfInBounds i g').size = gs.size := by simp
      obtain ⟨N, gs', fr2, H', v2, w2, sl2, t2, q2, r, rest⟩ := ihk (sumTo gs.size (upd q i k')) (by omega) ((gs.map (woken P g g' (w.at d))).setIfInBounds i g') (w.at d) sl' (t ++ MemOp.ofEvents i g.frame.fn g.frame.place es) (upd q i k')
        (by
          have hne : i ≠ 0 := by omega
          rw [Array.getElem?_setIfInBounds_ne hne, Array.getElem?_map, h0]
          simp [woken_run hrun])
        ⟨leavers_slip hL hp0 hi es hq',
          ⟨Shun, B, hP.mute (by omega) hm, hSh⟩, hS.hid.at d⟩ (by rw [hsz])
      exact ⟨N + 1, gs', fr2, H', v2, w2, sl2, t2, q2, by simp only [runNT, hst, hrunT]; exact r, rest⟩
end
end Go.Sim
end
/- Which pieces of the model's semantics never look at a hidden block, and are the same in two programs that part in their functions alone. No program of ours in sight. -/
section
set_option maxHeartbeats 1000000
namespace Go.Sim
open Go Go.Conc

/-- The program with other functions. -/
abbrev wf (P : Program) (fs : Array Func) : Program := { P with funcs := fs }
section
variable {P : Program} {fs : Array Func} {M N : Nat → Prop} {α β : Type}

theorem fine_bind {s : Sem α} {f : α → Sem β} (h : Fine (wf P fs) P M N s) (k : ∀ a, Fine (wf P fs) P M N (f a)) : Fine (wf P fs) P M N (s >>= f) := Fine.bind h k
theorem fine_map {s : Sem α} {f : α → β} (h : Fine (wf P fs) P M N s) : Fine (wf P fs) P M N (f <$> s) := Fine.bind h fun _ => trivial
theorem fine_pure (a : α) : Fine (wf P fs) P M N (pure a : Sem α) := trivial
theorem fine_stuck (w : String) : Fine (wf P fs) P M N (stuck w : Sem α) := trivial
theorem fine_panic (v : Value) : Fine (wf P fs) P M N (goPanic v : Sem α) := trivial
theorem fine_choose (q : Question) : Fine (wf P fs) P M N (choose q) := fun _ => trivial
theorem fine_load (a : Addr) (m : Mode) : Fine (wf P fs) P M N (load a m) := fun _ => trivial
theorem fine_store (a : Addr) (x : Value) (m : Mode) : Fine (wf P fs) P M N (store a x m) := trivial
theorem fine_new (o : Obj) (h : okObj o = true) : Fine (wf P fs) P M N (newObj o) := ⟨h, fun _ => trivial⟩
theorem fine_frozen (a : Addr) : Fine (wf P fs) P M N (frozen a) := fun _ => trivial
theorem fine_noRoom : Fine (wf P fs) P M N (mark .noRoom) := ⟨.inl rfl, trivial⟩
def okU : Unsupported → Bool
  | .initOrder _ => false
  | _ => true
theorem fine_unsup (u : Unsupported) (h : okU u = true) : Fine (wf P fs) P M N (unsupported u : Sem α) := by
  cases u <;> first | exact trivial | cases h
theorem fine_prog {f : Program → Sem β} (h : f (wf P fs) = f P) (k : Fine (wf P fs) P M N (f P)) : Fine (wf P fs) P M N (program >>= f) := ⟨h, k⟩
theorem fine_ite {c : Prop} [Decidable c] {a b : Sem α} (h : Fine (wf P fs) P M N a) (k : Fine (wf P fs) P M N b) : Fine (wf P fs) P M N (if c then a else b) := by split <;> assumption

theorem fine_info (t : TypeId) : Fine (wf P fs) P M N (typeInfo t) := by
  unfold typeInfo
  (repeat' (first | with_reducible exact fine_pure _ | with_reducible exact fine_stuck _ | ((with_reducible refine fine_prog ?_ ?_); rfl) | split))
theorem fine_under (t : TypeId) : Fine (wf P fs) P M N (underlying t) := by
  unfold underlying
  (repeat' (first | with_reducible exact fine_pure _ | with_reducible exact fine_stuck _ | ((with_reducible refine fine_prog ?_ ?_); rfl) | split))
theorem fine_zero (t : TypeId) : Fine (wf P fs) P M N (zeroValue t) := by
  unfold zeroValue
  (repeat' (first | with_reducible exact fine_info _ | with_reducible exact fine_pure _ | ((with_reducible refine fine_unsup _ ?_); rfl) | (with_reducible refine fine_bind ?_ (fun _ => ?_)) | split))
theorem fine_size (t : TypeId) : Fine (wf P fs) P M N (sizeOf t) := by
  unfold sizeOf
  (repeat' (first | with_reducible exact fine_info _ | with_reducible exact fine_pure _ | (with_reducible refine fine_bind ?_ (fun _ => ?_))))
theorem fine_agg (t : TypeId) : Fine (wf P fs) P M N (isAgg t) := by
  unfold isAgg
  (repeat' (first | with_reducible exact fine_under _ | with_reducible exact fine_pure _ | (with_reducible refine fine_bind ?_ (fun _ => ?_)) | split))
theorem fine_elem (t : TypeId) : Fine (wf P fs) P M N (elemOf t) := by
  unfold elemOf
  (repeat' (first | with_reducible exact fine_under _ | with_reducible exact fine_pure _ | with_reducible exact fine_stuck _ | (with_reducible refine fine_bind ?_ (fun _ => ?_)) | split))
theorem fine_str (t : TypeId) : Fine (wf P fs) P M N (typeStr t) := by
  unfold typeStr
  (repeat' (first | with_reducible exact fine_info _ | with_reducible exact fine_pure _ | ((with_reducible refine fine_unsup _ ?_); rfl) | (with_reducible refine fine_bind ?_ (fun _ => ?_)) | split | dsimp only))
theorem fine_loadFrom (a : Addr) : ∀ (n i : Nat) (acc : Array Value), Fine (wf P fs) P M N (loadCellsFrom a i n acc)
  | 0, i, acc => trivial
  | n + 1, i, acc => by
    unfold loadCellsFrom
    exact fine_bind (fine_load _ _) fun v => fine_loadFrom a n (i + 1) _
theorem fine_loads (a : Addr) (n : Nat) : Fine (wf P fs) P M N (loadCells a n) := fine_loadFrom a n 0 _
theorem fine_stores (a : Addr) : ∀ (vs : List Value) (i : Nat), Fine (wf P fs) P M N (storeCells a vs i)
  | [], i => trivial
  | v :: rest, i => by
    unfold storeCells
    exact fine_bind (fine_store _ _ _) fun _ => fine_stores a rest (i + 1)
theorem fine_loadVar (t : TypeId) (a : Addr) : Fine (wf P fs) P M N (loadVar t a) := by
  unfold loadVar
  (repeat' (first | with_reducible exact fine_loads _ _ | with_reducible exact fine_size _ | with_reducible exact fine_agg _ | with_reducible exact fine_pure _ | with_reducible exact fine_load _ _ | (with_reducible refine fine_bind ?_ (fun _ => ?_)) | split))
theorem fine_storeVar (t : TypeId) (a : Addr) (v : Value) : Fine (wf P fs) P M N (storeVar t a v) := by
  unfold storeVar
  (repeat' (first | with_reducible exact fine_stores _ _ _ | with_reducible exact fine_size _ | with_reducible exact fine_stuck _ | (with_reducible refine fine_bind ?_ (fun _ => ?_)) | split))
theorem fine_row (t : TypeId) (c : Array Value) : Fine (wf P fs) P M N (newRow t c) := by
  unfold newRow
  (repeat' (first | with_reducible exact fine_pure _ | ((with_reducible refine fine_new _ ?_); rfl) | (with_reducible refine fine_bind ?_ (fun _ => ?_))))
theorem fine_var (t : TypeId) (v : Value) : Fine (wf P fs) P M N (newVar t v) := by
  unfold newVar
  (repeat' (first | with_reducible exact fine_row _ _))
theorem fine_part (t : TypeId) (c : Array Value) (o : Nat) : Fine (wf P fs) P M N (part t c o) := by
  unfold part
  (repeat' (first | with_reducible exact fine_size _ | with_reducible exact fine_agg _ | with_reducible exact fine_pure _ | with_reducible exact fine_stuck _ | (with_reducible refine fine_bind ?_ (fun _ => ?_)) | split))
theorem fine_askRoom (b : Nat) : Fine (wf P fs) P M N (askRoom b) := by
  unfold askRoom
  (repeat' (first | with_reducible exact fine_pure _ | with_reducible exact fine_noRoom | split))
theorem fine_rtPanic (e : RuntimeError) : Fine (wf P fs) P M N (runtimePanic e : Sem α) := by
  unfold runtimePanic
  (repeat' (first | with_reducible exact fine_var _ _ | with_reducible exact fine_elem _ | with_reducible exact fine_panic _ | ((with_reducible refine fine_prog ?_ ?_); rfl) | (with_reducible refine fine_bind ?_ (fun _ => ?_)) | split))
theorem fine_bounds (k : IntKind) (x y : Int) (c : BoundsCode) : Fine (wf P fs) P M N (boundsPanic k x y c : Sem α) := by
  unfold boundsPanic
  (repeat' (first | with_reducible exact fine_rtPanic _ | with_reducible exact fine_pure _ | with_reducible exact fine_choose _ | (with_reducible refine fine_map ?_) | (with_reducible refine fine_bind ?_ (fun _ => ?_)) | split))
theorem fine_intOf (v : Value) : Fine (wf P fs) P M N (asIntOf v) := by
  unfold asIntOf
  (repeat' (first | with_reducible exact fine_pure _ | with_reducible exact fine_stuck _ | ((with_reducible refine fine_unsup _ ?_); rfl) | split))
theorem fine_int (v : Value) : Fine (wf P fs) P M N (asInt v) := by
  unfold asInt
  (repeat' (first | with_reducible exact fine_intOf _ | with_reducible exact fine_pure _ | (with_reducible refine fine_bind ?_ (fun _ => ?_))))
theorem fine_bool (v : Value) : Fine (wf P fs) P M N (asBool v) := by
  unfold asBool
  (repeat' (first | with_reducible exact fine_pure _ | with_reducible exact fine_stuck _ | split))
end
end Go.Sim
end
/- .. the instructions. No program of ours in sight. -/
section
set_option maxHeartbeats 1000000
namespace Go.Sim
open Go Go.Conc
section
variable {P : Program} {fs : Array Func} {M N : Nat → Prop} {α β : Type}
/-! ### the instructions -/
theorem fine_sure (v : Value) : Fine (wf P fs) P M N (Instr.sureAddr v) := by
  unfold Instr.sureAddr
  (repeat' (first | with_reducible exact fine_pure _ | with_reducible exact fine_stuck _ | split))
theorem fine_alloc (t : TypeId) (h : Bool) (o : Value) : Fine (wf P fs) P M N (Instr.alloc t h o) := by
  unfold Instr.alloc
  (repeat' (first | with_reducible exact fine_var _ _ | with_reducible exact fine_storeVar _ _ _ | with_reducible exact fine_zero _ | with_reducible exact fine_pure _ | (with_reducible refine fine_bind ?_ (fun _ => ?_)) | split))
theorem fine_box (t : TypeId) (v : Value) : Fine (wf P fs) P M N (Instr.box t v) := by
  unfold Instr.box
  (repeat' (first | with_reducible exact fine_var _ _ | with_reducible exact fine_pure _ | (with_reducible refine fine_bind ?_ (fun _ => ?_))))
theorem fine_loadAt (t : TypeId) (v : Value) : Fine (wf P fs) P M N (Instr.loadAt t v) := by
  unfold Instr.loadAt
  (repeat' (first | with_reducible exact fine_sure _ | with_reducible exact fine_loadVar _ _ | (with_reducible refine fine_bind ?_ (fun _ => ?_))))
theorem fine_storeAt (t : TypeId) (v x : Value) : Fine (wf P fs) P M N (Instr.storeAt t v x) := by
  unfold Instr.storeAt
  (repeat' (first | with_reducible exact fine_sure _ | with_reducible exact fine_storeVar _ _ _ | (with_reducible refine fine_bind ?_ (fun _ => ?_))))
theorem fine_buildSlice (t : TypeId) (n : Nat) (ps : Array (Nat × Value)) : Fine (wf P fs) P M N (Instr.buildSlice t n ps) := by
  unfold Instr.buildSlice
  (repeat' (first | with_reducible exact fine_row _ _ | with_reducible exact fine_zero _ | with_reducible exact fine_size _ | with_reducible exact fine_under _ | with_reducible exact fine_pure _ | with_reducible exact fine_stuck _ | ((with_reducible refine fine_unsup _ ?_); rfl) | (with_reducible refine fine_bind ?_ (fun _ => ?_)) | split | dsimp only))
theorem fine_makeIface (t : TypeId) (x : Value) : Fine (wf P fs) P M N (Instr.makeInterface t x) := by
  unfold Instr.makeInterface
  (repeat' (first | with_reducible exact fine_under _ | with_reducible exact fine_pure _ | with_reducible exact fine_stuck _ | (with_reducible refine fine_bind ?_ (fun _ => ?_)) | split))
theorem fine_makeFunc (f : Fn) (a b : Array Value) : Fine (wf P fs) P M N (Instr.makeFunc f a b) := by
  unfold Instr.makeFunc
  (repeat' (first | with_reducible exact fine_pure _))
theorem fine_makeMap (t : TypeId) (r : Option Value) : Fine (wf P fs) P M N (Instr.makeMap t r) := by
  unfold Instr.makeMap
  (repeat' (first | with_reducible exact fine_int _ | with_reducible exact fine_under _ | with_reducible exact fine_pure _ | with_reducible exact fine_stuck _ | ((with_reducible refine fine_new _ ?_); rfl) | (with_reducible refine fine_bind ?_ (fun _ => ?_)) | split))
theorem fine_makeSlice (t : TypeId) (l c : Value) : Fine (wf P fs) P M N (Instr.makeSlice t l c) := by
  unfold Instr.makeSlice
  (repeat' (first | with_reducible exact fine_int _ | with_reducible exact fine_rtPanic _ | with_reducible exact fine_askRoom _ | with_reducible exact fine_row _ _ | with_reducible exact fine_zero _ | with_reducible exact fine_size _ | with_reducible exact fine_info _ | with_reducible exact fine_under _ | with_reducible exact fine_pure _ | with_reducible exact fine_stuck _ | with_reducible exact fine_choose _ | (with_reducible refine fine_bind ?_ (fun _ => ?_)) | split | dsimp only))
theorem fine_extract (t : Value) (i : Nat) : Fine (wf P fs) P M N (Instr.extract t i) := by
  unfold Instr.extract
  (repeat' (first | with_reducible exact fine_pure _ | with_reducible exact fine_stuck _ | split))
theorem fine_bound (x : Value) (y : Nat) (c : BoundsCode) : Fine (wf P fs) P M N (Instr.sliceBound x y c) := by
  unfold Instr.sliceBound
  (repeat' (first | with_reducible exact fine_bounds _ _ _ _ | with_reducible exact fine_intOf _ | with_reducible exact fine_pure _ | (with_reducible refine fine_bind ?_ (fun _ => ?_)) | split))
theorem fine_boundsOf (b : Bool) (l c : Nat) (x y z : Option Value) : Fine (wf P fs) P M N (Instr.sliceBounds b l c x y z) := by
  unfold Instr.sliceBounds
  (repeat' (first | with_reducible exact fine_bound _ _ _ | with_reducible exact fine_pure _ | with_reducible exact fine_stuck _ | (with_reducible refine fine_bind ?_ (fun _ => ?_)) | split))
theorem fine_index (t : TypeId) (x i : Value) : Fine (wf P fs) P M N (Instr.index t x i) := by
  unfold Instr.index
  (repeat' (first | with_reducible exact fine_bounds _ _ _ _ | with_reducible exact fine_intOf _ | with_reducible exact fine_part _ _ _ | with_reducible exact fine_size _ | with_reducible exact fine_under _ | with_reducible exact fine_pure _ | with_reducible exact fine_stuck _ | (with_reducible refine fine_bind ?_ (fun _ => ?_)) | split))
theorem fine_indexAt (t : TypeId) (x i : Value) : Fine (wf P fs) P M N (Instr.indexAt t x i) := by
  unfold Instr.indexAt
  (repeat' (first | with_reducible exact fine_sure _ | with_reducible exact fine_bounds _ _ _ _ | with_reducible exact fine_intOf _ | with_reducible exact fine_size _ | with_reducible exact fine_under _ | with_reducible exact fine_pure _ | with_reducible exact fine_stuck _ | ((with_reducible refine fine_unsup _ ?_); rfl) | (with_reducible refine fine_bind ?_ (fun _ => ?_)) | split | dsimp only))
end
end Go.Sim
end
/- .. loops; what lies where; equality; maps. No program of ours in sight. -/
section
set_option maxHeartbeats 1000000
namespace Go.Sim
open Go Go.Conc
section
variable {P : Program} {fs : Array Func} {M N : Nat → Prop} {α β γ : Type}

theorem fine_forList {f : α → β → Sem (ForInStep β)} (h : ∀ a b, Fine (wf P fs) P M N (f a b)) : ∀ (l : List α) (b : β), Fine (wf P fs) P M N (forIn l b f)
  | [], b => fine_pure b
  | a :: l, b => by
    rw [List.forIn_cons]
    refine fine_bind (h a b) fun x => ?_
    cases x with
    | done b => exact fine_pure b
    | yield b => exact fine_forList h l b
theorem fine_forRange {f : Nat → β → Sem (ForInStep β)} (h : ∀ a b, Fine (wf P fs) P M N (f a b)) (r : Std.Legacy.Range) (b : β) : Fine (wf P fs) P M N (forIn r b f) := by
  rw [Std.Legacy.Range.forIn_eq_forIn_range']
  exact fine_forList h _ b
theorem fine_forArray {f : α → β → Sem (ForInStep β)} (h : ∀ a b, Fine (wf P fs) P M N (f a b)) (r : Array α) (b : β) : Fine (wf P fs) P M N (forIn r b f) := by
  rw [← Array.forIn_toList]
  exact fine_forList h _ b

theorem fine_view (r : Nat) : Fine (wf P fs) P M N (viewAt r) := by
  refine ⟨fun t n => trivial, ⟨fun o ho hn => ?_, trivial, .inr (.inr ⟨.inr rfl, fun _ _ _ _ _ _ => rfl, fun _ _ => rfl, fun _ => rfl⟩)⟩, .inr (.inr fun t n => .inr (.inr (.inl ⟨trivial, _, rfl, rfl⟩)))⟩
  cases o <;> trivial
theorem fine_number (r : Nat) : Fine (wf P fs) P M N (numberAt r) := by
  refine ⟨fun t n => trivial, ⟨fun o ho hn => ?_, trivial, .inr (.inr ⟨.inr rfl, fun _ _ _ _ _ _ => rfl, fun _ _ => rfl, fun _ => rfl⟩)⟩, .inr (.inr fun t n => .inr (.inr (.inl ⟨trivial, _, rfl, rfl⟩)))⟩
  cases o <;> trivial
theorem fine_behind (n : Addr) : Fine (wf P fs) P M N (behindNumber n) := by
  unfold behindNumber
  (repeat' (first | with_reducible exact fine_number _ | with_reducible exact fine_pure _ | (with_reducible refine fine_bind ?_ (fun _ => ?_))))
theorem fine_noView (a : Addr) : Fine (wf P fs) P M N (noView a) := by
  unfold noView
  (repeat' (first | with_reducible exact fine_view _ | with_reducible exact fine_pure _ | ((with_reducible refine fine_unsup _ ?_); rfl) | (with_reducible refine fine_bind ?_ (fun _ => ?_)) | split))
theorem fine_none (x : Addr) : Fine (wf P fs) P M N (do pure ((← shape x.block) matches some (_, 0)) : Sem Bool) :=
  ⟨fun t n => by cases n <;> trivial, trivial, .inr (.inr fun t n => .inl ⟨trivial, rfl⟩)⟩
theorem fine_stringish (a : Addr) : Fine (wf P fs) P M N (stringish a) := by
  unfold stringish
  refine fine_bind (fine_frozen a) fun b => ?_
  split
  · trivial
  · exact ⟨fun t n => fun _ => trivial, trivial, .inr (.inr fun t n => .inr (.inr (.inr ⟨trivial, n + 1, none, _, rfl, rfl⟩)))⟩
theorem fine_mayBeOne (a b : Addr) : Fine (wf P fs) P M N (mayBeOne a b) := by
  unfold mayBeOne
  refine fine_bind (fine_stringish a) fun x => fine_bind (fine_stringish b) fun y => ?_
  refine fine_bind (fine_none a) fun z => fine_bind (fine_none b) fun u => trivial
theorem fine_sameAddr (a b : Addr) : Fine (wf P fs) P M N (sameAddr a b) := by
  unfold sameAddr
  have := fine_mayBeOne (P := P) (fs := fs) (M := M) (N := N) a b
  (repeat' (first | with_reducible exact fine_noView _ | with_reducible exact fine_pure _ | with_reducible exact fine_choose _ | with_reducible exact fine_frozen _ | ((with_reducible refine fine_unsup _ ?_); rfl) | assumption | (with_reducible refine fine_bind ?_ (fun _ => ?_)) | split))
theorem fine_samePointer (a b : Option Addr) : Fine (wf P fs) P M N (samePointer a b) := by
  unfold samePointer
  (repeat' (first | with_reducible exact fine_sameAddr _ _ | with_reducible exact fine_pure _ | split))
end
end Go.Sim
end
/- .. equality, keys, maps. No program of ours in sight. -/
section
set_option maxHeartbeats 2000000
namespace Go.Sim
open Go Go.Conc
section
variable {P : Program} {fs : Array Func} {M N : Nat → Prop} {α β γ : Type}

theorem byteOfCell_wf : ∀ d t off, byteOfCell (wf P fs) d t off = byteOfCell P d t off
  | 0, t, off => rfl
  | d + 1, t, off => by
    unfold byteOfCell
    have e1 : (wf P fs).underlying t = P.underlying t := rfl
    have e2 : ∀ t, (wf P fs).cellsOf t = P.cellsOf t := fun _ => rfl
    have e3 : ∀ t, (wf P fs).bytesOf t = P.bytesOf t := fun _ => rfl
    simp only [e1, e2, e3, byteOfCell_wf d]
theorem eqGuardType_wf : ∀ d t, (wf P fs).eqGuardType d t = P.eqGuardType d t
  | 0, t => rfl
  | d + 1, t => by
    unfold Program.eqGuardType
    have e1 : (wf P fs).underlying t = P.underlying t := rfl
    simp only [e1, eqGuardType_wf d]
theorem info_wf (t : TypeId) : (wf P fs).info? t = P.info? t := rfl
theorem under_wf (t : TypeId) : (wf P fs).underlying t = P.underlying t := rfl
theorem underId_wf (t : TypeId) : (wf P fs).underlyingId t = P.underlyingId t := rfl
theorem depth_wf : (wf P fs).depth = P.depth := rfl
theorem cut_wf : (wf P fs).cutTypes = P.cutTypes := rfl
theorem alike_wf : ∀ d t u, (wf P fs).alikeButTags d t u = P.alikeButTags d t u
  | 0, t, u => rfl
  | d + 1, t, u => by
    unfold Program.alikeButTags
    simp only [info_wf, alike_wf d]
theorem ownRow_wf (c : String × TypeId) : (wf P fs).ownRow c = P.ownRow c := by
  unfold Program.ownRow
  simp only [info_wf, under_wf, cut_wf]
theorem packed_wf (t : TypeId) : (wf P fs).packed t = P.packed t := by
  unfold Program.packed Program.packedAs
  simp only [info_wf, under_wf, underId_wf, depth_wf, cut_wf, alike_wf, ownRow_wf]
theorem stoodInHeld_wf (t : TypeId) : (wf P fs).stoodInHeld t = P.stoodInHeld t := by
  unfold Program.stoodInHeld Program.stoodInAs
  simp only [info_wf, under_wf, underId_wf, depth_wf, cut_wf, alike_wf]
theorem holdsPacked_wf : ∀ d t, (wf P fs).holdsPacked d t = P.holdsPacked d t
  | 0, t => rfl
  | d + 1, t => by
    unfold Program.holdsPacked
    simp only [under_wf, packed_wf, holdsPacked_wf d]
theorem fine_shape {r : Nat} {k : Option (TypeId × Nat) → Sem α} (h1 : ∀ t n, Fine (wf P fs) P M N (k (some (t, n)))) (h2 : Fine (wf P fs) P M N (k none)) (h3 : Doomed (wf P fs) (k none)) : Fine (wf P fs) P M N (shape r >>= k) :=
  ⟨fun t n => (h1 t n).mono (add_sub _ _) fun _ y => y, h2.mono (fun _ y => y) (add_sub _ _), .inr (.inr fun t n => .inr (.inl (h3.n r)))⟩
theorem doomed_stuck (w : String) : Doomed (wf P fs) (stuck w : Sem α) := fun v _ => ⟨_, v, rfl, trivial⟩
theorem fine_byteOf (a : Addr) : Fine (wf P fs) P M N (byteOf a) := by
  unfold byteOf
  split
  · trivial
  · refine fine_prog ?_ ?_
    · simp only [byteOfCell_wf]; rfl
    · refine fine_bind (fine_noView a) fun _ => ?_
      refine fine_shape (fun t n => ?_) (fine_stuck _) (doomed_stuck _)
      (repeat' (first | with_reducible exact fine_pure _ | with_reducible exact fine_stuck _ | split | dsimp only))
theorem fine_partAt (a : Addr) (c b : Nat) : Fine (wf P fs) P M N (partAt a c b) := by
  unfold partAt
  (repeat' (first | with_reducible exact fine_byteOf _ | with_reducible exact fine_pure _ | (with_reducible refine fine_bind ?_ (fun _ => ?_))))
theorem fine_fieldPlace (a : Addr) (f : Field) : Fine (wf P fs) P M N (fieldPlace a f) := by
  unfold fieldPlace
  (repeat' (first | with_reducible exact fine_partAt _ _ _ | with_reducible exact fine_size _ | with_reducible exact fine_pure _ | (with_reducible refine fine_bind ?_ (fun _ => ?_)) | split))
theorem fine_fieldAt (s : TypeId) (a : Value) (i : Nat) : Fine (wf P fs) P M N (Instr.fieldAt s a i) := by
  unfold Instr.fieldAt
  (repeat' (first | with_reducible exact fine_fieldPlace _ _ | with_reducible exact fine_sure _ | with_reducible exact fine_under _ | with_reducible exact fine_pure _ | with_reducible exact fine_stuck _ | (with_reducible refine fine_bind ?_ (fun _ => ?_)) | split))
theorem fine_asAgg (v : Value) : Fine (wf P fs) P M N (asAgg v) := by
  unfold asAgg
  (repeat' (first | with_reducible exact fine_pure _ | with_reducible exact fine_stuck _ | split))
theorem fine_asAddr (v : Value) : Fine (wf P fs) P M N (asAddr v) := by
  unfold asAddr
  (repeat' (first | with_reducible exact fine_rtPanic _ | with_reducible exact fine_pure _ | with_reducible exact fine_stuck _ | split))
theorem fine_field (t : TypeId) (x : Value) (i : Nat) : Fine (wf P fs) P M N (Instr.field t x i) := by
  unfold Instr.field
  (repeat' (first | with_reducible exact fine_asAgg _ | with_reducible exact fine_part _ _ _ | with_reducible exact fine_under _ | with_reducible exact fine_stuck _ | (with_reducible refine fine_bind ?_ (fun _ => ?_)) | split))
theorem fine_slice (t : TypeId) (x : Value) (a b c : Option Value) : Fine (wf P fs) P M N (Instr.slice t x a b c) := by
  unfold Instr.slice
  (repeat' (first | with_reducible exact fine_asAddr _ | with_reducible exact fine_boundsOf _ _ _ _ _ _ | with_reducible exact fine_size _ | with_reducible exact fine_under _ | with_reducible exact fine_pure _ | with_reducible exact fine_stuck _ | (with_reducible refine fine_bind ?_ (fun _ => ?_)) | split))
theorem fine_sliceAt (t : TypeId) (x : Value) (a b c : Option Value) : Fine (wf P fs) P M N (Instr.sliceAt t x a b c) := by
  unfold Instr.sliceAt
  (repeat' (first | with_reducible exact fine_slice _ _ _ _ _ | with_reducible exact fine_boundsOf _ _ _ _ _ _ | with_reducible exact fine_sure _ | with_reducible exact fine_size _ | with_reducible exact fine_under _ | with_reducible exact fine_pure _ | (with_reducible refine fine_bind ?_ (fun _ => ?_)) | split))

end
end Go.Sim
end
/- .. equality. No program of ours in sight. -/
section
set_option maxHeartbeats 4000000
namespace Go.Sim
open Go Go.Conc
section
variable {P : Program} {fs : Array Func} {M N : Nat → Prop} {α β γ : Type}

set_option maxRecDepth 100000 in
theorem fine_equalIn : ∀ (d : Nat) (t : TypeId) (x y : Value), Fine (wf P fs) P M N (Op.equalIn d t x y)
  | 0, t, x, y => trivial
  | d + 1, t, x, y => by
    have ih := fine_equalIn d
    unfold Op.equalIn
    refine fine_bind (fine_under t) fun u => ?_
    cases u
    case int k =>
      cases x
      case int j n =>
        cases y <;> first | exact fine_stuck _ | skip
        · exact fine_ite (fine_pure _) (fine_stuck _)
        · rename_i a; rcases a with _ | a <;> rcases n with (_ | n) | n <;> first | exact fine_unsup _ rfl | exact fine_pure _
      case pointer a =>
        rcases a with _ | a <;> cases y <;> first | exact fine_unsup _ rfl | skip
        · rename_i n; rcases n with (_ | n) | n <;> first | exact fine_unsup _ rfl | exact fine_pure _
        · rename_i b
          rcases b with _ | b <;> first | exact fine_unsup _ rfl | (dsimp only; (repeat' (first | with_reducible exact fine_byteOf _ | with_reducible exact fine_behind _ | with_reducible exact fine_info _ | with_reducible exact fine_pure _ | ((with_reducible refine fine_unsup _ ?_); rfl) | ((with_reducible refine fine_prog ?_ ?_); rfl) | (with_reducible refine fine_bind ?_ (fun _ => ?_)) | split)))
      all_goals (cases y <;> first | exact fine_stuck _ | exact fine_unsup _ rfl)
    case float k => cases x <;> first | exact fine_stuck _ | (cases y <;> first | exact fine_stuck _ | exact fine_ite (fine_pure _) (fine_stuck _))
    case complex k => cases x <;> first | exact fine_stuck _ | (cases y <;> first | exact fine_stuck _ | exact fine_ite (fine_pure _) (fine_stuck _))
    case pointer e =>
      cases x
      case pointer a =>
        rcases a with _ | a <;> cases y <;> first | exact fine_stuck _ | exact fine_pure _ | skip
        rename_i b
        rcases b with _ | b <;> first | exact fine_pure _ | (dsimp only; (repeat' (first | with_reducible exact fine_sameAddr _ _ | with_reducible exact fine_size _ | with_reducible exact fine_pure _ | with_reducible exact fine_choose _ | (with_reducible refine fine_bind ?_ (fun _ => ?_)) | split)))
      all_goals (cases y <;> first | exact fine_stuck _)
    case unsafePointer => cases x <;> first | exact fine_stuck _ | (cases y <;> first | exact fine_stuck _ | exact fine_samePointer _ _)
    case interface ms =>
      cases x <;> first | exact fine_stuck _ | (cases y <;> first | exact fine_stuck _ | exact fine_pure _ | skip)
      refine fine_ite (fine_pure _) (fine_bind (fine_info _) fun info => fine_ite ?_ (ih _ _ _))
      refine fine_prog (by simp only [holdsPacked_wf]) (fine_prog (ite_congr (by rw [depth_wf]) (fun _ => rfl) (fun _ => rfl)) (fine_ite ?_ ?_))
      · exact fine_bind (fine_unsup _ rfl) fun _ => fine_bind (fine_str _) fun _ => fine_rtPanic _
      · exact fine_bind (fine_str _) fun _ => fine_rtPanic _
    case struct fds =>
      cases x <;> first | exact fine_stuck _ | (cases y <;> first | exact fine_stuck _ | skip)
      have go : ∀ xs ys : Array Value, Fine (wf P fs) P M N (do
          for f in fds do
            if f.name ≠ "_" then
              if !(← Op.equalIn d f.type (← part f.type xs f.offset) (← part f.type ys f.offset)) then return false
          pure true) := fun xs ys => by
        (repeat' (first | (with_reducible refine fine_forArray (fun _ _ => ?_) _ _) | with_reducible exact fine_part _ _ _ | with_reducible exact fine_pure _ | (with_reducible refine fine_bind ?_ (fun _ => ?_)) | split | dsimp only))
        all_goals (exact ih _ _ _)
      exact fine_prog (by simp only [stoodInHeld_wf]) (fine_ite (fine_bind (fine_unsup _ rfl) fun _ => go _ _) (go _ _))
    case array len e =>
      cases x <;> first | exact fine_stuck _ | (cases y <;> first | exact fine_stuck _ | skip)
      dsimp only
      (repeat' (first | (with_reducible refine fine_forRange (fun _ _ => ?_) _ _) | with_reducible exact fine_part _ _ _ | with_reducible exact fine_size _ | with_reducible exact fine_pure _ | (with_reducible refine fine_bind ?_ (fun _ => ?_)) | split))
      all_goals (exact ih _ _ _)
    case slice e =>
      cases x
      case slice a l c =>
        rcases a with _ | a
        · cases y <;> first | exact fine_stuck _ | exact fine_pure _
        · cases y
          case slice b l' c' => rcases b with _ | b <;> first | exact fine_pure _ | exact fine_stuck _
          all_goals (exact fine_stuck _)
      all_goals (cases y <;> exact fine_stuck _)
    case map k e =>
      cases x
      case map a =>
        rcases a with _ | a
        · cases y <;> first | exact fine_stuck _ | exact fine_pure _
        · cases y
          case map b => rcases b with _ | b <;> first | exact fine_pure _ | exact fine_stuck _
          all_goals (exact fine_stuck _)
      all_goals (cases y <;> exact fine_stuck _)
    all_goals (cases x <;> first | exact fine_stuck _ | (cases y <;> first | exact fine_stuck _ | exact fine_pure _))
end
end Go.Sim
end
/- .. keys, maps, operators. No program of ours in sight. -/
section
set_option maxHeartbeats 2000000
namespace Go.Sim
open Go Go.Conc
section
variable {P : Program} {fs : Array Func} {M N : Nat → Prop} {α β γ : Type}

theorem fine_equal (t : TypeId) (x y : Value) : Fine (wf P fs) P M N (Op.equal t x y) := fine_equalIn _ t x y
theorem fine_checkKey (e : Bool) : ∀ (d : Nat) (t : TypeId) (v : Value), Fine (wf P fs) P M N (Instr.checkKey e d t v)
  | 0, t, v => trivial
  | d + 1, t, v => by
    have ih := fine_checkKey e d
    unfold Instr.checkKey
    refine fine_bind (fine_under t) fun u => ?_
    cases u
    case interface ms =>
      cases v <;> first | exact fine_pure _ | exact fine_stuck _ | skip
      dsimp only
      (repeat' (first | with_reducible exact fine_rtPanic _ | with_reducible exact fine_str _ | with_reducible exact fine_info _ | (with_reducible refine fine_bind ?_ (fun _ => ?_)) | split))
      all_goals (exact ih _ _)
    case struct fds =>
      cases v <;> first | exact fine_stuck _ | skip
      dsimp only
      (repeat' (first | (with_reducible refine fine_forArray (fun _ _ => ?_) _ _) | with_reducible exact fine_part _ _ _ | with_reducible exact fine_pure _ | (with_reducible refine fine_bind ?_ (fun _ => ?_)) | split))
      all_goals (exact ih _ _)
    case array l e =>
      cases v <;> first | exact fine_stuck _ | skip
      dsimp only
      (repeat' (first | (with_reducible refine fine_forRange (fun _ _ => ?_) _ _) | with_reducible exact fine_part _ _ _ | with_reducible exact fine_size _ | with_reducible exact fine_pure _ | (with_reducible refine fine_bind ?_ (fun _ => ?_))))
      all_goals (exact ih _ _)
    all_goals (cases v <;> exact fine_pure _)
theorem fine_findAsking (t : TypeId) (k : Value) : ∀ (es : List MapEntry) (i : Nat), Fine (wf P fs) P M N (Instr.findAsking t k es i)
  | [], i => trivial
  | e :: es, i => by
    have ih := fine_findAsking t k es (i + 1)
    unfold Instr.findAsking
    (repeat' (first | with_reducible exact fine_equal _ _ _ | with_reducible exact fine_pure _ | assumption | (with_reducible refine fine_bind ?_ (fun _ => ?_)) | split))
theorem fine_findKey (t : TypeId) (k : Value) (es : List MapEntry) : Fine (wf P fs) P M N (Instr.findKey t k es) := by
  unfold Instr.findKey
  have := fine_findAsking (P := P) (fs := fs) (M := M) (N := N) t k es 0
  (repeat' (first | with_reducible exact fine_under _ | with_reducible exact fine_pure _ | assumption | (with_reducible refine fine_bind ?_ (fun _ => ?_)) | split))
theorem fine_getMap {r : Nat} {k : Obj → Sem α} (h : ∀ o, okObj o = true → o ≠ hidO → Fine (wf P fs) P (add M r) N (k o)) (h2 : Fine (wf P fs) P M N (k hidO)) (h3 : Doomed (wf P fs) (k hidO)) : Fine (wf P fs) P M N (getObj r >>= k) :=
  ⟨h, h2.mono (fun _ y => y) (add_sub _ _), .inr (.inl h3)⟩
end
end Go.Sim
end
/- .. maps, operators. No program of ours in sight. -/
section
set_option maxHeartbeats 2000000
namespace Go.Sim
open Go Go.Conc
section
variable {P : Program} {fs : Array Func} {M N : Nat → Prop} {α β γ : Type}

theorem fine_setObj (r : Nat) (o : Obj) (h : M r) (h1 : okObj o = true) (h2 : ∀ c t f, o ≠ .cells c t f) : Fine (wf P fs) P M N (setObj r o) := ⟨h, h1, h2, trivial⟩
theorem fine_lookup (t : TypeId) (x i : Value) (b : Bool) : Fine (wf P fs) P M N (Instr.lookup t x i b) := by
  unfold Instr.lookup
  (repeat' (first | ((with_reducible refine fine_getMap (fun _ _ _ => ?_) ?_ ?_); rotate_left; exact fine_stuck _; exact doomed_stuck _) | with_reducible exact fine_findKey _ _ _ | with_reducible exact fine_checkKey _ _ _ _ | with_reducible exact fine_zero _ | with_reducible exact fine_under _ | with_reducible exact fine_pure _ | with_reducible exact fine_stuck _ | (with_reducible refine fine_bind ?_ (fun _ => ?_)) | split))
theorem fine_stays (a b : Value) : Fine (wf P fs) P M N (Instr.keyThatStays a b) := by
  unfold Instr.keyThatStays
  (repeat' (first | with_reducible exact fine_pure _ | with_reducible exact fine_choose _ | (with_reducible refine fine_bind ?_ (fun _ => ?_)) | split))
theorem fine_mapUpdate (t : TypeId) (m k x : Value) : Fine (wf P fs) P M N (Instr.mapUpdate t m k x) := by
  unfold Instr.mapUpdate
  (repeat' (first | with_reducible exact fine_stays _ _ | ((with_reducible refine fine_getMap (fun _ _ _ => ?_) ?_ ?_); rotate_left; exact fine_stuck _; exact doomed_stuck _) | ((with_reducible refine fine_setObj _ _ ?_ ?_ ?_); exact .inr rfl; rfl; (intro _ _ _; simp)) | with_reducible exact fine_findKey _ _ _ | with_reducible exact fine_checkKey _ _ _ _ | with_reducible exact fine_rtPanic _ | with_reducible exact fine_under _ | with_reducible exact fine_stuck _ | (with_reducible refine fine_bind ?_ (fun _ => ?_)) | split))
theorem fine_intArith (op : BinOp) (k : IntKind) (x y : Int) : Fine (wf P fs) P M N (Op.intArith op k x y) := by
  unfold Op.intArith
  cases op <;> trivial
theorem fine_intBits (op : BinOp) (k : IntKind) (x y : Int) : Fine (wf P fs) P M N (Op.intBits op k x y) := by
  unfold Op.intBits
  cases op <;> trivial
theorem fine_intCmp (op : BinOp) (x y : Int) : Fine (wf P fs) P M N (Op.intCmp op x y) := by
  unfold Op.intCmp
  cases op <;> trivial
theorem fine_intDiv (op : BinOp) (k : IntKind) (x y : Int) : Fine (wf P fs) P M N (Op.intDiv op k x y) := by
  unfold Op.intDiv
  (repeat' (first | with_reducible exact fine_rtPanic _ | with_reducible exact fine_pure _ | with_reducible exact fine_stuck _ | split))
theorem fine_shift (op : BinOp) (k : IntKind) (x : Int) (j : IntKind) (y : Int) : Fine (wf P fs) P M N (Op.shift op k x j y) := by
  unfold Op.shift
  (repeat' (first | with_reducible exact fine_rtPanic _ | with_reducible exact fine_pure _ | with_reducible exact fine_stuck _ | split))
theorem fine_stringOp (op : BinOp) (x y : ByteArray) : Fine (wf P fs) P M N (Op.stringOp op x y) := by
  unfold Op.stringOp
  (repeat' (first | with_reducible exact fine_pure _ | with_reducible exact fine_stuck _ | ((with_reducible refine fine_unsup _ ?_); rfl) | split))
theorem fine_floatCmp (op : BinOp) (k : FloatKind) (x y : Nat) : Fine (wf P fs) P M N (Op.floatCmp op k x y) := by
  unfold Op.floatCmp
  (repeat' (first | with_reducible exact fine_pure _ | with_reducible exact fine_stuck _ | split))
theorem fine_floatArith (op : BinOp) (k : FloatKind) (x y : Nat) : Fine (wf P fs) P M N (Op.floatArith op k x y) := by
  unfold Op.floatArith
  (repeat' (first | with_reducible exact fine_pure _ | with_reducible exact fine_stuck _ | with_reducible exact fine_choose _ | (with_reducible refine fine_bind ?_ (fun _ => ?_)) | split | dsimp only))
end
end Go.Sim
end
/- .. built-in functions. No program of ours in sight. -/
section
set_option maxHeartbeats 2000000
namespace Go.Sim
open Go Go.Conc
section
variable {P : Program} {fs : Array Func} {M N : Nat → Prop} {α β γ : Type}

theorem fine_unary (op : UnOp) (x : Value) : Fine (wf P fs) P M N (Op.unary op x) := by
  unfold Op.unary
  split <;> first | exact fine_intArith _ _ _ _ | exact fine_intBits _ _ _ _ | exact fine_pure _ | exact fine_unsup _ rfl | exact fine_stuck _
theorem fine_cap (a : Array TypeId) (t : TypeId) (x : Array Value) : Fine (wf P fs) P M N (Builtin.cap_ a t x) := by
  unfold Builtin.cap_
  (repeat' (first | ((with_reducible refine fine_getMap (fun _ _ _ => ?_) ?_ ?_); rotate_left; exact fine_stuck _; exact doomed_stuck _) | with_reducible exact fine_under _ | with_reducible exact fine_pure _ | with_reducible exact fine_stuck _ | (with_reducible refine fine_bind ?_ (fun _ => ?_)) | split))
theorem fine_len (a : Array TypeId) (t : TypeId) (x : Array Value) : Fine (wf P fs) P M N (Builtin.len_ a t x) := by
  unfold Builtin.len_
  (repeat' (first | ((with_reducible refine fine_getMap (fun _ _ _ => ?_) ?_ ?_); rotate_left; exact fine_stuck _; exact doomed_stuck _) | with_reducible exact fine_under _ | with_reducible exact fine_pure _ | with_reducible exact fine_stuck _ | (with_reducible refine fine_bind ?_ (fun _ => ?_)) | split))
theorem fine_lenOf (x : Value) : Fine (wf P fs) P M N (Builtin.lenOf x) := by
  unfold Builtin.lenOf
  (repeat' (first | with_reducible exact fine_pure _ | with_reducible exact fine_stuck _ | split))
theorem fine_first (s n : Nat) (x : Value) : Fine (wf P fs) P M N (Builtin.firstCells s n x) := by
  unfold Builtin.firstCells
  (repeat' (first | with_reducible exact fine_loads _ _ | with_reducible exact fine_pure _ | with_reducible exact fine_stuck _ | split))
theorem fine_copy (a : Array TypeId) (t : TypeId) (x : Array Value) : Fine (wf P fs) P M N (Builtin.copy_ a t x) := by
  unfold Builtin.copy_
  (repeat' (first | with_reducible exact fine_lenOf _ | with_reducible exact fine_first _ _ _ | with_reducible exact fine_stores _ _ _ | with_reducible exact fine_size _ | with_reducible exact fine_under _ | with_reducible exact fine_pure _ | with_reducible exact fine_stuck _ | (with_reducible refine fine_bind ?_ (fun _ => ?_)) | split))
theorem fine_max2 (x y : Value) : Fine (wf P fs) P M N (Builtin.max2 x y) := by
  unfold Builtin.max2
  have := fine_stringOp (P := P) (fs := fs) (M := M) (N := N)
  (repeat' (first | with_reducible exact fine_bool _ | with_reducible exact fine_pure _ | with_reducible exact fine_stuck _ | with_reducible exact fine_choose _ | ((with_reducible refine fine_unsup _ ?_); rfl) | (with_reducible refine fine_bind ?_ (fun _ => ?_)) | split))
  all_goals (exact this _ _ _)
theorem fine_min2 (x y : Value) : Fine (wf P fs) P M N (Builtin.min2 x y) := by
  unfold Builtin.min2
  have := fine_stringOp (P := P) (fs := fs) (M := M) (N := N)
  (repeat' (first | with_reducible exact fine_bool _ | with_reducible exact fine_pure _ | with_reducible exact fine_stuck _ | with_reducible exact fine_choose _ | ((with_reducible refine fine_unsup _ ?_); rfl) | (with_reducible refine fine_bind ?_ (fun _ => ?_)) | split))
  all_goals (exact this _ _ _)
theorem fine_foldM {f : β → α → Sem β} (h : ∀ b a, Fine (wf P fs) P M N (f b a)) : ∀ (l : List α) (b : β), Fine (wf P fs) P M N (l.foldlM f b)
  | [], b => fine_pure b
  | a :: l, b => by
    rw [List.foldlM_cons]
    exact fine_bind (h b a) fun x => fine_foldM h l x
theorem fine_max (a : Array TypeId) (t : TypeId) (x : Array Value) : Fine (wf P fs) P M N (Builtin.max_ a t x) := by
  unfold Builtin.max_
  split
  · exact fine_stuck _
  · exact fine_foldM (fun _ _ => fine_max2 _ _) _ _
theorem fine_min (a : Array TypeId) (t : TypeId) (x : Array Value) : Fine (wf P fs) P M N (Builtin.min_ a t x) := by
  unfold Builtin.min_
  split
  · exact fine_stuck _
  · exact fine_foldM (fun _ _ => fine_min2 _ _) _ _
theorem fine_mapML {f : α → Sem β} (h : ∀ a, Fine (wf P fs) P M N (f a)) : ∀ (l : List α), Fine (wf P fs) P M N (l.mapM f)
  | [] => fine_pure _
  | a :: l => by
    rw [List.mapM_cons]
    exact fine_bind (h a) fun x => fine_bind (fine_mapML h l) fun _ => fine_pure _
theorem fine_mapM {f : α → Sem β} (h : ∀ a, Fine (wf P fs) P M N (f a)) (l : Array α) : Fine (wf P fs) P M N (l.mapM f) := by
  rw [Array.mapM_eq_mapM_toList]
  exact fine_map (fine_mapML h _)
theorem fine_build (t : TypeId) (ps : Array (Nat × Value)) : Fine (wf P fs) P M N (Instr.build t ps) := by
  unfold Instr.build
  (repeat' (first | (with_reducible refine fine_mapM (fun _ => ?_) _) | with_reducible exact fine_zero _ | with_reducible exact fine_size _ | with_reducible exact fine_under _ | with_reducible exact fine_pure _ | with_reducible exact fine_stuck _ | (with_reducible refine fine_bind ?_ (fun _ => ?_)) | split))
end
end Go.Sim
end
