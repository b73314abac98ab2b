/- One step of a goroutine that stands in ordinary code, as one piece of the semantics. No program of ours in sight. -/
import Derived.Test.YtegkbjpcgelomaaGreatDoorZ0
import Derived.Conc.Own
import Derived.KernelRfl
set_option linter.unusedVariables false
section
namespace Go.Sim
open Go Go.Conc

def leave (fr : Frame) : Frame := { fr with mode := .returning }
def toF (fr : Frame) (k : List Item) : Frame := { fr with todo := k }
abbrev FS := Frame × List Frame
def lost : Sem FS := .halt (.stuck "")
def after (p : Program) (fr : Frame) (cs : List Frame) : Next → Sem FS
  | .value x => .pure (fr.finish x, cs)
  | .skip => .pure (fr.finish undef, cs)
  | .enter f args => .pure (Frame.enter p f args .normal, fr :: cs)
  | _ => lost
def mop (p : Program) (fr : Frame) (cs : List Frame) (o : Oper) : Sem FS := (execOp fr.eval o).bind (after p fr cs)
def mcode (p : Program) (fr : Frame) (cs : List Frame) (k : List Item) : Code → Sem FS
  | .ret => .pure (leave fr, cs)
  | .skip | .label _ => .pure (toF fr k, cs)
  | .seq a b => .pure (toF fr (.code a :: .code b :: k), cs)
  | .cond c x y => match fr.eval c with
    | .bool b => .pure (toF fr (.code (if b then x else y) :: k), cs)
    | _ => lost
  | .block id body => .pure (toF fr (.code body :: .inBlock id :: k), cs)
  | .loop body => .pure (toF fr (.code body :: .inLoop body :: k), cs)
  | .scope body => .pure (toF fr (.code body :: .inScope body :: k), cs)
  | .exit id => match exitTo id k with
    | some k' => .pure (toF fr k', cs)
    | none => lost
  | .region id ops draw => if !draw then .pure (toF fr (.inRegion ops (List.range ops.size) :: k), cs)
    else .choose (.order fr.fn id) fun t => .pure (toF fr (.inRegion ops (Region.schedule (p.follows .mixedOrders) ops t) :: k), cs)
  | _ => lost

/-! ### which code is ordinary -/
def codeOk (G : Oper → Prop) : Code → Prop
  | .skip | .ret | .label _ | .exit _ | .refuse _ => True
  | .seq a b | .cond _ a b => codeOk G a ∧ codeOk G b
  | .block _ c | .loop c | .scope c => codeOk G c
  | .region _ ops _ => ∀ o ∈ ops, G o
  | _ => False
def itemOk (G : Oper → Prop) : Item → Prop
  | .code c | .inLoop c | .inScope c => codeOk G c
  | .inBlock _ => True
  | .inRegion ops _ => ∀ o ∈ ops, G o
  | _ => False
structure Plain (Q : Program) (G : Oper → Prop) (fr : Frame) : Prop where
  kind : fr.kind = .normal
  defers : fr.defers = []
  round : fr.roundOf = none
  fn : ∃ fn, Q.funcs[fr.fn]? = some fn
  mode : fr.mode = .run ∨ fr.mode = .returning
  todo : ∀ it ∈ fr.todo, itemOk G it

theorem foldl_sub {β : Type} (F : Bool × Array β → β → Bool × Array β) (hF : ∀ s e, ∀ z ∈ (F s e).2, z ∈ s.2 ∨ z = e) : ∀ (l : List β) (s : Bool × Array β), ∀ z ∈ (l.foldl F s).2, z ∈ s.2 ∨ z ∈ l := by
  intro l
  induction l with
  | nil => exact fun s z hz => .inl hz
  | cons a l ih =>
    intro s z hz
    rw [List.foldl_cons] at hz
    rcases ih _ z hz with g | g
    · rcases hF s a z g with g | rfl
      · exact .inl g
      · exact .inr (by simp)
    · exact .inr (by simp [g])
theorem seen_sub (p : Program) (fn : FuncId) (es : Array Event) : ∀ e ∈ seen p fn es, e ∈ es := by
  intro e he
  unfold seen at he
  simp only [← Array.foldl_toList] at he
  have := foldl_sub _ (fun s x z hz => ?_) es.toList _ e he
  · rcases this with g | g
    · exact absurd g (by simp)
    · simpa using g
  · obtain ⟨q, kept⟩ := s
    dsimp only at hz
    split at hz
    · exact .inl hz
    · split at hz
      · exact .inl hz
      · rcases Array.mem_push.1 hz with g | rfl
        · exact .inl g
        · exact .inr rfl

section
variable {p : Program} {fr : Frame} {cs : List Frame} {w : World}
/-- What the machine's own step is, out of what the piece yields. -/
def StepIs (p : Program) (fr : Frame) (cs : List Frame) (w : World) (r : Result FS × Array Event) : Prop :=
  match r with
  | (.ok x w', es) => ∃ es', stepG p true (G fr cs) w = .go (G x.1 x.2) w' es' ∧ ∀ e ∈ es', e ∈ es
  | (.halt (.panic x) w', _) => (∃ es', stepG p true (G fr cs) w = .go (G (fr.raise [{ v := x, recovered := false }]) cs) w' es') ∨ ∃ o w'' es', stepG p true (G fr cs) w = .ended o w'' es'
  | (.halt h w', _) => Dead h → ∃ o w'' es', stepG p true (G fr cs) w = .ended o w'' es'

theorem stepIs_pure {x : FS} (h : stepG p true (G fr cs) w = .go (G x.1 x.2) w) : StepIs p fr cs w ((Sem.pure x : Sem FS).runT p w #[]) :=
  ⟨#[], h, fun e he => absurd he (by simp)⟩
theorem stepIs_lost (h : ∃ o w'' es', stepG p true (G fr cs) w = .ended o w'' es') : StepIs p fr cs w (lost.runT p w #[]) := fun _ => h

theorem stepG_run (hm : fr.mode = .run) : stepG p true (G fr cs) w = stepG.exec p true true fr cs none w := by
  unfold stepG G
  simp only
  rw [hm]

theorem step_code {c : Code} {k : List Item} (hm : fr.mode = .run) (hr : fr.roundOf = none) (ht : fr.todo = .code c :: k) (hc : ∀ f a b d, c ≠ .rangeFunc f a b d) (hg : ∀ l, c ≠ .goto l) : StepIs p fr cs w ((mcode p fr cs k c).runT p w #[]) := by
  obtain ⟨fn, tmps, todo, defers, mode, kind, round⟩ := fr
  simp only at hm hr ht
  subst hm hr ht
  generalize hfr : ({ fn := fn, tmps := tmps, todo := .code c :: k, defers := defers, mode := .run, kind := kind, roundOf := none } : Frame) = fr
  have hm : fr.mode = .run := by rw [← hfr]
  have ht : fr.todo = .code c :: k := by rw [← hfr]
  have hr : fr.roundOf = none := by rw [← hfr]
  cases c with
  | skip => exact stepIs_pure (by rw [stepG_run hm]; unfold stepG.exec; simp only [ht]; rfl)
  | label l => exact stepIs_pure (by rw [stepG_run hm]; unfold stepG.exec; simp only [ht]; rfl)
  | ret => exact stepIs_pure (by rw [stepG_run hm]; unfold stepG.exec; simp only [ht, hr, if_true]; subst hfr; rfl)
  | seq a b => exact stepIs_pure (by rw [stepG_run hm]; unfold stepG.exec; simp only [ht]; rfl)
  | block i a => exact stepIs_pure (by rw [stepG_run hm]; unfold stepG.exec; simp only [ht]; rfl)
  | loop a => exact stepIs_pure (by rw [stepG_run hm]; unfold stepG.exec; simp only [ht]; rfl)
  | scope a => exact stepIs_pure (by rw [stepG_run hm]; unfold stepG.exec; simp only [ht]; rfl)
  | refuse s => exact stepIs_lost ⟨_, w, #[], by rw [stepG_run hm]; unfold stepG.exec; simp only [ht]; rfl⟩
  | goto l => exact absurd rfl (hg l)
  | rangeFunc f a b d => exact absurd rfl (hc _ _ _ _)
  | cond c x y =>
    show StepIs p fr cs w (Sem.runT p (match fr.eval c with
      | .bool b => .pure (toF fr (.code (if b then x else y) :: k), cs)
      | _ => lost) w #[])
    have e : stepG p true (G fr cs) w = match fr.eval c with
        | .bool b => .go (G (toF fr (.code (if b then x else y) :: k)) cs) w
        | _ => .ended (.stuck "cond: bool expected" (fr.pos p)) w := by
      rw [stepG_run hm]; unfold stepG.exec; simp only [ht]; rfl
    split
    · rename_i b g
      rw [g] at e
      exact stepIs_pure e
    · rename_i g
      refine stepIs_lost ⟨.stuck "cond: bool expected" (fr.pos p), w, #[], ?_⟩
      rw [e]
      split
      · rename_i b g'; exact absurd g' (g b)
      · rfl
  | exit id =>
    show StepIs p fr cs w (Sem.runT p (match exitTo id k with
      | some k' => .pure (toF fr k', cs)
      | none => lost) w #[])
    have e : ∀ o, exitTo id k = o → stepG p true (G fr cs) w = match o with
        | some k' => .go (G (toF fr k') cs) w
        | none => .ended (.stuck "exit, goto: no such block or label" (fr.pos p)) w := by
      intro o ho
      rw [stepG_run hm]; unfold stepG.exec; simp only [ht, ho]
      cases o with
      | none => simp only [Option.elim, hr]; rfl
      | some k' => rfl
    cases g : exitTo id k with
    | some k' => exact stepIs_pure (e _ g)
    | none => exact stepIs_lost ⟨_, _, _, e _ g⟩
  | region id ops draw =>
    show StepIs p fr cs w (Sem.runT p (if !draw then .pure (toF fr (.inRegion ops (List.range ops.size) :: k), cs)
      else .choose (.order fr.fn id) fun t => .pure (toF fr (.inRegion ops (Region.schedule (p.follows .mixedOrders) ops t) :: k), cs)) w #[])
    cases draw with
    | false => exact stepIs_pure (by rw [stepG_run hm]; unfold stepG.exec; simp only [ht]; rfl)
    | true => exact ⟨#[], by rw [stepG_run hm]; unfold stepG.exec; simp only [ht]; rfl, fun e he => absurd he (by simp)⟩

theorem step_op {ops : Array Oper} {i : Nat} {rest : List Nat} {k : List Item} {o : Oper} (hm : fr.mode = .run) (hr : fr.roundOf = none) (hk : fr.kind = .normal) (ht : fr.todo = .inRegion ops (i :: rest) :: k) (ho : ops[i]? = some o)
    (hw : Region.wanted o (yielded ops fr.tmps) = true)
    (mild : (∃ x v', (execOp fr.eval o).run p w = .ok (.value x) v') ∨ (∃ v', (execOp fr.eval o).run p w = .ok .skip v') ∨ (∃ f a v', (execOp fr.eval o).run p w = .ok (.enter f a) v') ∨ (∃ h v', (execOp fr.eval o).run p w = .halt h v' ∧ Dead h)) :
    StepIs p fr cs w ((mop p fr cs o).runT p w #[]) := by
  have hop : fr.oper? = some o := by unfold Frame.oper?; rw [ht]; exact ho
  have e1 : stepG p true (G fr cs) w = stepG.apply p true fr cs none (execOp fr.eval o) w := by
    rw [stepG_run hm]
    unfold stepG.exec
    simp only [ht, ho, Option.map_some, hw, Option.getD_some, if_true]
    unfold stepG.oper
    rw [hop]
    simp only [hr]
  have kd : (match fr.todo with | .call _ true _ _ :: _ => CallKind.wrapped | _ => CallKind.normal) = .normal := by rw [ht]
  have ke : (fr.kind == CallKind.early) = false := by rw [hk]; rfl
  unfold mop
  generalize hs : execOp fr.eval o = s at *
  have bindT : ∀ (r : Result Next) (es : Array Event), s.runT p w #[] = (r, es) → (s.bind (after p fr cs)).runT p w #[] = match r with
      | .ok a w' => (after p fr cs a).runT p w' es
      | .halt h w' => (.halt h w', es) := by
    intro r es h
    have : ∀ (s : Sem Next) (w : World) (es0 : Array Event), (s.bind (after p fr cs)).runT p w es0 = match s.runT p w es0 with
        | (.ok a w', es) => (after p fr cs a).runT p w' es
        | (.halt h w', es) => (.halt h w', es) := by
      intro s
      induction s with
      | pure a => intro w es0; rfl
      | load m a k ih => intro w es0; simp only [Sem.bind, Sem.runT]; repeat' split
                         all_goals (first | exact ih _ _ _ | rfl | simp_all)
      | store m a v k ih =>
        intro w es0
        cases v <;> simp only [Sem.bind, Sem.runT] <;> (repeat' split) <;> (first | exact ih _ _ | rfl | simp_all)
      | new o k ih => intro w es0; exact ih _ _ _
      | shape r k ih => intro w es0; exact ih _ _ _
      | freeze a n k ih => intro w es0; exact ih _ _
      | frozen a k ih => intro w es0; exact ih _ _ _
      | getObj r k ih => intro w es0; simp only [Sem.bind, Sem.runT]; split <;> (first | exact ih _ _ _ | rfl | simp_all)
      | setObj r o k ih => intro w es0; simp only [Sem.bind, Sem.runT]; split <;> (first | exact ih _ _ | rfl | simp_all)
      | choose q k ih => intro w es0; simp only [Sem.bind, Sem.runT]; split <;> exact ih _ _ _
      | sys c k ih => intro w es0; exact ih _ _ _
      | program k ih => intro w es0; exact ih _ _ _
      | mark m k ih => intro w es0; exact ih _ _
      | halt h => intro w es0; rfl
    rw [this, h]
    cases r <;> rfl
  cases hrt : s.runT p w #[] with
  | mk r es =>
  rw [bindT r es hrt]
  have hr1 : s.run p w = r := by rw [← Sem.runT_fst p s w #[], hrt]
  rw [hr1] at mild
  rcases mild with ⟨x, v', rfl⟩ | ⟨v', rfl⟩ | ⟨f, a, v', rfl⟩ | ⟨h, v', rfl, hd⟩
  · refine ⟨seen p fr.fn es, ?_, seen_sub p fr.fn es⟩
    rw [e1]
    unfold stepG.apply
    simp only [hrt, if_true, ke, GStep.after]
    first | rfl | simp [G, after]
  · refine ⟨seen p fr.fn es, ?_, seen_sub p fr.fn es⟩
    rw [e1]
    unfold stepG.apply
    simp only [hrt, if_true, ke, GStep.after]
    first | rfl | simp [G, after]
  · refine ⟨seen p fr.fn es, ?_, seen_sub p fr.fn es⟩
    rw [e1]
    unfold stepG.apply
    simp only [hrt, if_true, ke, GStep.after, ht]
    rfl
  · cases h with
    | panic x =>
      refine .inl ⟨seen p fr.fn es, ?_⟩
      rw [e1]
      unfold stepG.apply
      simp only [hrt, if_true, ke, GStep.after]
      first | rfl | simp [G]
    | stuck s =>
      have e2 : stepG p true (G fr cs) w = .ended (.stuck s (fr.pos p)) v' (seen p fr.fn es ++ #[]) := by
        rw [e1]
        unfold stepG.apply
        simp only [hrt, if_true, ke, GStep.after]
        rfl
      exact fun _ => ⟨_, _, _, e2⟩
    | unsupported u =>
      have e2 : (∀ g, u ≠ .initOrder g) → stepG p true (G fr cs) w = .ended (.unsupported u (fr.pos p)) v' (seen p fr.fn es ++ #[]) := by
        intro hu
        rw [e1]
        unfold stepG.apply
        cases u <;> first | exact absurd rfl (hu _) | (simp only [hrt, if_true, ke, GStep.after]; rfl)
      exact fun _ => ⟨_, _, _, e2 (fun g e => by subst e; exact hd)⟩
    | _ => exact hd.elim
end
end Go.Sim
end
/- The step of a goroutine in ordinary code: in the lone run of one program and in another program, over worlds that part in hidden blocks. No program of ours in sight. -/
section
namespace Go.Sim
open Go Go.Conc

abbrev FA := FuncId × Array Value
/-- With nothing known of any block. -/
abbrev Fine0 (Q P : Program) {α : Type} (s : Sem α) : Prop := Fine Q P (fun _ => False) (fun _ => False) s
theorem Fine0.lock {Q P : Program} (L : SameLay Q P) {H : HSet} {α : Type} {s : Sem α} (hs : Fine0 Q P s) (v w : World) (es : Array Event) (h : Hid H v w) : Lock Q P H s v w es := Fine.lock L v w es hs h (Known.none H w)
theorem Fine0.turns {Q P : Program} {α : Type} {s : Sem α} (hs : Fine0 Q P s) (v : World) (h : OkWorld v) : Turns Q s v := Fine.turns hs v h
/-- An operation: it yields a value, or nothing, or calls. -/
inductive Form (Q P : Program) : Sem Next → Prop
  | value (t : Sem Value) : Fine0 Q P t → Form Q P (t.bind fun x => .pure (.value x))
  | skip (t : Sem Unit) : Fine0 Q P t → Form Q P (t.bind fun _ => .pure .skip)
  | call (t : Sem FA) : Fine0 Q P t → Form Q P (t.bind fun x => callFunc x.1 x.2)
  | dead (t : Sem Next) : Doomed Q t → Form Q P t
def OpGood (Q P : Program) (o : Oper) : Prop := ∀ ρ : Operand → Value, (∀ v, ρ (.const v) = v) → Form Q P (execOp ρ o)
/-- A function of the lone run's program: ordinary code, the same in the other program, or the one that stands for another, or a stop; or an entry of the model's. -/
structure FnOk (Q P : Program) (up : FuncId → Prop) (f : FuncId) (fn : Func) : Prop where
  name : (fn.name == "runtime.NumGoroutine") = false
  kind : (∃ c, fn.body = some c ∧ codeOk (OpGood Q P) c ∧ (P.funcs[f]? = some fn ∨ up f ∨ ∃ s, c = .refuse s)) ∨
    (fn.body = none ∧ Extern.findNext fn = none ∧ (∃ e, Extern.find fn = some e ∧ ∀ a, Fine0 Q P (e a)) ∧ P.funcs[f]? = some fn)
structure Pair (Q P : Program) (up : FuncId → Prop) : Prop where
  lay : SameLay Q P
  fns : ∀ f fn, Q.funcs[f]? = some fn → FnOk Q P up f fn
  up : ∀ f, up f → ∃ fn c, P.funcs[f]? = some fn ∧ fn.body = some c ∧ (fn.name == "runtime.NumGoroutine") = false
  follows : Q.follows .mixedOrders = P.follows .mixedOrders
  res : ∀ fn tmps, Fine0 Q P (results fn tmps)

/-! ### how a call goes -/
theorem run_callFunc_none {p : Program} {f : FuncId} {a : Array Value} {w : World} (h : p.funcs[f]? = none) : (callFunc f a).run p w = .halt (.stuck "call: no such function") w := by
  show (Sem.bind (Sem.program Sem.pure) _).run p w = _
  rw [Sem.run_bind']
  simp [Sem.run, h, stuck]
theorem runT_bind {α β : Type} (p : Program) (f : α → Sem β) : ∀ (s : Sem α) (w : World) (es0 : Array Event), (s.bind f).runT p w es0 = match s.runT p w es0 with
    | (.ok a w', es) => (f a).runT p w' es
    | (.halt h w', es) => (.halt h w', es) := by
  intro s
  induction s with
  | pure a => intro w es0; rfl
  | load m a k ih => intro w es0; simp only [Sem.bind, Sem.runT]; repeat' split
                     all_goals (first | exact ih _ _ _ | rfl | simp_all)
  | store m a v k ih =>
    intro w es0
    cases v <;> simp only [Sem.bind, Sem.runT] <;> (repeat' split) <;> (first | exact ih _ _ | rfl | simp_all)
  | new o k ih => intro w es0; exact ih _ _ _
  | shape r k ih => intro w es0; exact ih _ _ _
  | freeze a n k ih => intro w es0; exact ih _ _
  | frozen a k ih => intro w es0; exact ih _ _ _
  | getObj r k ih => intro w es0; simp only [Sem.bind, Sem.runT]; split <;> (first | exact ih _ _ _ | rfl | simp_all)
  | setObj r o k ih => intro w es0; simp only [Sem.bind, Sem.runT]; split <;> (first | exact ih _ _ | rfl | simp_all)
  | choose q k ih => intro w es0; simp only [Sem.bind, Sem.runT]; split <;> exact ih _ _ _
  | sys c k ih => intro w es0; exact ih _ _ _
  | program k ih => intro w es0; exact ih _ _ _
  | mark m k ih => intro w es0; exact ih _ _
  | halt h => intro w es0; rfl
theorem runT_callFunc_body {p : Program} {f : FuncId} {a : Array Value} {w : World} {es : Array Event} {fn : Func} {c : Code} (h : p.funcs[f]? = some fn) (hn : (fn.name == "runtime.NumGoroutine") = false) (hb : fn.body = some c) : (callFunc f a).runT p w es = (.ok (.enter f a) w, es) := by
  show (Sem.bind (Sem.program Sem.pure) _).runT p w es = _
  rw [runT_bind]
  simp only [Sem.runT, h, hn, hb, Option.isNone_some]
  rfl
theorem runT_callFunc_ext {p : Program} {f : FuncId} {a : Array Value} {w : World} {es : Array Event} {fn : Func} {e : Array Value → Sem Value} (h : p.funcs[f]? = some fn) (hn : (fn.name == "runtime.NumGoroutine") = false) (hb : fn.body = none) (h1 : Extern.findNext fn = none) (h2 : Extern.find fn = some e) :
    (callFunc f a).runT p w es = ((e a).bind fun x => .pure (.value x)).runT p w (es.push ⟨.mark (.extern f), false, true⟩) := by
  show (Sem.bind (Sem.program Sem.pure) _).runT p w es = _
  rw [runT_bind]
  simp only [Sem.runT, h, hn, hb, h1, h2, Option.isNone_none]
  rfl

theorem Fine.self {Q P : Program} {α : Type} {s : Sem α} : ∀ {M N : Nat → Prop}, Fine Q P M N s → Fine Q Q M N s := by
  induction s with
  | pure a => exact fun _ => trivial
  | load m a k ih => exact fun h v => ih v (h v)
  | store m a v k ih => exact fun h => ih h
  | new o k ih => exact fun h => ⟨h.1, fun r => ih r (h.2 r)⟩
  | shape r k ih => exact fun h => ⟨fun t n => ih _ (h.1 t n), ih _ h.2.1, h.2.2.imp id fun x => x.imp id fun x t n => (x t n).imp (fun y => ⟨ih _ y.1, y.2⟩) fun y => y.imp id fun y => y.imp (fun y => ⟨ih _ y.1, y.2⟩) fun y => ⟨ih _ y.1, y.2⟩⟩
  | freeze a n k ih => exact fun h => ⟨h.1, ih h.2⟩
  | frozen a k ih => exact fun h b => ih b (h b)
  | getObj r k ih => exact fun h => ⟨fun o ho hn => ih o (h.1 o ho hn), ih _ h.2.1, h.2.2⟩
  | setObj r o k ih => exact fun h => ⟨h.1, h.2.1, h.2.2.1, ih h.2.2.2⟩
  | choose q k ih => exact fun h n => ih n (h n)
  | sys c k ih => exact fun h => h
  | program k ih => exact fun h => ⟨rfl, ih Q (by rw [h.1]; exact h.2)⟩
  | mark m k ih => exact fun h => ⟨h.1, ih h.2⟩
  | halt x => exact fun h => h
theorem hid_refl {v : World} (h : OkWorld v) : Hid ⟨fun _ => False, 0, fun _ => none⟩ v v := ⟨rfl, rfl, rfl, rfl, rfl, fun _ _ => rfl, fun _ e => e.elim, Nat.zero_le _, h⟩
/-- .. and the world stays one at which nobody looks sideways. -/
theorem Fine0.okw {Q P : Program} {α : Type} {s : Sem α} (hs : Fine0 Q P s) {v v' : World} {a : α} (h : OkWorld v) (e : s.run Q v = .ok a v') : OkWorld v' := by
  rcases Fine0.lock (SameLay.refl Q) (Fine.self hs) v v #[] (hid_refl h) with ⟨b, v1, w', es', r1, r2, h', -⟩ | ⟨x, v1, r1, -⟩
  · rw [e] at r1; cases r1; exact h'.ok
  · rw [e] at r1; cases r1

/-! ### one operation, in the lone run's program -/
section
variable {Q P : Program} {up : FuncId → Prop}
/-- What comes of an operation of the lone run's program, and of which answers it hangs. -/
def TurnsN (Q : Program) (s : Sem Next) (v : World) : Prop :=
  (∃ nx v' d, s.run Q v = .ok nx v' ∧ OkWorld v' ∧ v'.tape = v.tape ∧ v'.drawn = v.drawn + d ∧ (∀ τ n, Agree d v τ n → s.run Q (re v τ n) = .ok nx (re v' τ (n + d))) ∧
    ((∃ x, nx = .value x) ∨ nx = .skip ∨ ∃ f a fn c, nx = .enter f a ∧ Q.funcs[f]? = some fn ∧ fn.body = some c)) ∨
  (∃ d, (∃ h v', s.run Q v = .halt h v' ∧ Dead h) ∧ ∀ τ n, Agree d v τ n → ∃ h v', s.run Q (re v τ n) = .halt h v' ∧ Dead h)

theorem form_turns (hp : Pair Q P up) {s : Sem Next} (hf : Form Q P s) (v : World) (hv : OkWorld v) : TurnsN Q s v := by
  cases hf with
  | dead t hd => exact .inr ⟨0, hd v hv, fun τ n _ => hd (re v τ n) hv⟩
  | value t ht =>
    rcases Fine0.turns ht v hv with ⟨x, v', d, r, t1, t2, r2⟩ | ⟨h, v', d, r, dd, t1, t2, r2⟩
    · refine .inl ⟨_, v', d, ?_, Fine0.okw ht hv r, t1, t2, fun τ n g => ?_, .inl ⟨x, rfl⟩⟩
      · rw [Sem.run_bind', r]; rfl
      · rw [Sem.run_bind', r2 τ n g]; rfl
    · refine .inr ⟨d, ⟨h, v', ?_, dd⟩, fun τ n g => ⟨h, re v' τ (n + d), ?_, dd⟩⟩
      · rw [Sem.run_bind', r]; rfl
      · rw [Sem.run_bind', r2 τ n g]; rfl
  | skip t ht =>
    rcases Fine0.turns ht v hv with ⟨x, v', d, r, t1, t2, r2⟩ | ⟨h, v', d, r, dd, t1, t2, r2⟩
    · refine .inl ⟨_, v', d, ?_, Fine0.okw ht hv r, t1, t2, fun τ n g => ?_, .inr (.inl rfl)⟩
      · rw [Sem.run_bind', r]; rfl
      · rw [Sem.run_bind', r2 τ n g]; rfl
    · refine .inr ⟨d, ⟨h, v', ?_, dd⟩, fun τ n g => ⟨h, re v' τ (n + d), ?_, dd⟩⟩
      · rw [Sem.run_bind', r]; rfl
      · rw [Sem.run_bind', r2 τ n g]; rfl
  | call t ht =>
    rcases Fine0.turns ht v hv with ⟨x, v', d, r, t1, t2, r2⟩ | ⟨h, v', d, r, dd, t1, t2, r2⟩
    · have ok' := Fine0.okw ht hv r
      have runs : ∀ w, (callFunc x.1 x.2).run Q w = ((callFunc x.1 x.2).runT Q w #[]).1 := fun w => (Sem.runT_fst _ _ _ _).symm
      cases hq : Q.funcs[x.1]? with
      | none =>
        refine .inr ⟨d, ⟨.stuck "call: no such function", v', ?_, trivial⟩, fun τ n g => ⟨.stuck "call: no such function", re v' τ (n + d), ?_, trivial⟩⟩
        · rw [Sem.run_bind', r]; exact run_callFunc_none hq
        · rw [Sem.run_bind', r2 τ n g]; exact run_callFunc_none hq
      | some fn =>
        obtain ⟨hn, ⟨c, hb, -, -⟩ | ⟨hb, h1, ⟨e, h2, h3⟩, -⟩⟩ := hp.fns _ _ hq
        · refine .inl ⟨.enter x.1 x.2, v', d, ?_, ok', t1, t2, fun τ n g => ?_, .inr (.inr ⟨_, _, _, _, rfl, hq, hb⟩)⟩
          · rw [Sem.run_bind', r]; simp only [Result.andThen_ok]; rw [runs, runT_callFunc_body hq hn hb]
          · rw [Sem.run_bind', r2 τ n g]; simp only [Result.andThen_ok]; rw [runs, runT_callFunc_body hq hn hb]
        · have run2 : ∀ w, (callFunc x.1 x.2).run Q w = ((e x.2).bind fun y => .pure (.value y)).run Q w := fun w => by
            rw [runs, runT_callFunc_ext hq hn hb h1 h2, Sem.runT_fst]
          rcases Fine0.turns (h3 x.2) v' ok' with ⟨y, v2, d2, q, u1, u2, q2⟩ | ⟨h, v2, d2, q, dd, u1, u2, q2⟩
          · refine .inl ⟨.value y, v2, d + d2, ?_, Fine0.okw (h3 x.2) ok' q, u1.trans t1, by omega, fun τ n g => ?_, .inl ⟨y, rfl⟩⟩
            · rw [Sem.run_bind', r]; simp only [Result.andThen_ok]; rw [run2, Sem.run_bind', q]; rfl
            · rw [Sem.run_bind', r2 τ n (g.le (by omega))]; simp only [Result.andThen_ok]
              rw [run2, Sem.run_bind', q2 τ (n + d) (fun i hi q => by have := g (d + i) (by omega) q; rw [t1, t2, Nat.add_assoc n d i, Nat.add_assoc v.drawn d i]; exact this)]
              rw [Nat.add_assoc]; rfl
          · refine .inr ⟨d + d2, ⟨h, v2, ?_, dd⟩, fun τ n g => ⟨h, re v2 τ (n + (d + d2)), ?_, dd⟩⟩
            · rw [Sem.run_bind', r]; simp only [Result.andThen_ok]; rw [run2, Sem.run_bind', q]; rfl
            · rw [Sem.run_bind', r2 τ n (g.le (by omega))]; simp only [Result.andThen_ok]
              rw [run2, Sem.run_bind', q2 τ (n + d) (fun i hi q => by have := g (d + i) (by omega) q; rw [t1, t2, Nat.add_assoc n d i, Nat.add_assoc v.drawn d i]; exact this)]
              rw [Nat.add_assoc]; rfl
    · refine .inr ⟨d, ⟨h, v', ?_, dd⟩, fun τ n g => ⟨h, re v' τ (n + d), ?_, dd⟩⟩
      · rw [Sem.run_bind', r]; rfl
      · rw [Sem.run_bind', r2 τ n g]; rfl

/-- What an operation comes to in both: the same; or a call of the one that stands for another, or of a stop; or it ends in the lone run. -/
def LockN (Q P : Program) (up : FuncId → Prop) (H : HSet) (s : Sem Next) (v w : World) : Prop :=
  (∃ nx v' w' es, s.run Q v = .ok nx v' ∧ s.runT P w #[] = (.ok nx w', es) ∧ Hid H v' w' ∧ w.heap.size ≤ w'.heap.size ∧ (∀ e ∈ es, EvOk H w'.heap.size e) ∧ (∀ b, H b → w'.heap[b]? = w.heap[b]?) ∧
    ((∃ x, nx = .value x) ∨ nx = .skip ∨ ∃ f a fn c, nx = .enter f a ∧ Q.funcs[f]? = some fn ∧ fn.body = some c ∧ (P.funcs[f]? = some fn ∨ up f))) ∨
  (∃ f a v' fn r, s.run Q v = .ok (.enter f a) v' ∧ Q.funcs[f]? = some fn ∧ fn.body = some (.refuse r)) ∨
  (∃ h v', s.run Q v = .halt h v' ∧ Dead h)

theorem form_lock (hp : Pair Q P up) {H : HSet} {s : Sem Next} (hf : Form Q P s) (v w : World) (hd : Hid H v w) : LockN Q P up H s v w := by
  have evs : ∀ {es : Array Event} {n : Nat}, (∀ e ∈ es, e ∈ (#[] : Array Event) ∨ EvOk H n e) → ∀ e ∈ es, EvOk H n e := fun h e he => (h e he).elim (fun x => absurd x (by simp)) id
  cases hf with
  | dead t hd2 => exact .inr (.inr (hd2 v hd.okw))
  | value t ht =>
    rcases Fine0.lock hp.lay ht v w #[] hd with ⟨x, v', w', es, r1, r2, h', sz, ev, st⟩ | ⟨h, v', r1, dd⟩
    · exact .inl ⟨_, v', w', es, by rw [Sem.run_bind', r1]; rfl, by rw [runT_bind, r2]; rfl, h', sz, evs ev, st, .inl ⟨x, rfl⟩⟩
    · exact .inr (.inr ⟨h, v', by rw [Sem.run_bind', r1]; rfl, dd⟩)
  | skip t ht =>
    rcases Fine0.lock hp.lay ht v w #[] hd with ⟨x, v', w', es, r1, r2, h', sz, ev, st⟩ | ⟨h, v', r1, dd⟩
    · exact .inl ⟨_, v', w', es, by rw [Sem.run_bind', r1]; rfl, by rw [runT_bind, r2]; rfl, h', sz, evs ev, st, .inr (.inl rfl)⟩
    · exact .inr (.inr ⟨h, v', by rw [Sem.run_bind', r1]; rfl, dd⟩)
  | call t ht =>
    rcases Fine0.lock hp.lay ht v w #[] hd with ⟨x, v', w', es, r1, r2, h', sz, ev, st⟩ | ⟨h, v', r1, dd⟩
    · have runs : ∀ u, (callFunc x.1 x.2).run Q u = ((callFunc x.1 x.2).runT Q u #[]).1 := fun u => (Sem.runT_fst _ _ _ _).symm
      cases hq : Q.funcs[x.1]? with
      | none => exact .inr (.inr ⟨.stuck "call: no such function", v', by rw [Sem.run_bind', r1]; exact run_callFunc_none hq, trivial⟩)
      | some fn =>
        obtain ⟨hn, ⟨c, hb, -, hk⟩ | ⟨hb, h1, ⟨e, h2, h3⟩, hP⟩⟩ := hp.fns _ _ hq
        · have rQ : (t.bind fun x => callFunc x.1 x.2).run Q v = .ok (.enter x.1 x.2) v' := by
            rw [Sem.run_bind', r1]; simp only [Result.andThen_ok]; rw [runs, runT_callFunc_body hq hn hb]
          rcases hk with hk | hk | ⟨s, rfl⟩
          · exact .inl ⟨.enter x.1 x.2, v', w', es, rQ, by rw [runT_bind, r2]; exact runT_callFunc_body hk hn hb, h', sz, evs ev, st, .inr (.inr ⟨_, _, _, _, rfl, hq, hb, .inl hk⟩)⟩
          · obtain ⟨fn', c', k1, k2, k3⟩ := hp.up _ hk
            exact .inl ⟨.enter x.1 x.2, v', w', es, rQ, by rw [runT_bind, r2]; exact runT_callFunc_body k1 k3 k2, h', sz, evs ev, st, .inr (.inr ⟨_, _, _, _, rfl, hq, hb, .inr hk⟩)⟩
          · exact .inr (.inl ⟨_, _, _, _, _, rQ, hq, hb⟩)
        · have run2 : ∀ u, (callFunc x.1 x.2).run Q u = ((e x.2).bind fun y => .pure (.value y)).run Q u := fun u => by
            rw [runs, runT_callFunc_ext hq hn hb h1 h2, Sem.runT_fst]
          rcases Fine0.lock hp.lay (h3 x.2) v' w' (es.push ⟨.mark (.extern x.1), false, true⟩) h' with ⟨y, v2, w2, es2, q1, q2, h2', sz2, ev2, st2⟩ | ⟨h, v2, q1, dd⟩
          · refine .inl ⟨.value y, v2, w2, es2, ?_, ?_, h2', by omega, fun z hz => ?_, fun b hb => (st2 b hb).trans (st b hb), .inl ⟨y, rfl⟩⟩
            · rw [Sem.run_bind', r1]; simp only [Result.andThen_ok]; rw [run2, Sem.run_bind', q1]; rfl
            · rw [runT_bind, r2]; simp only; rw [runT_callFunc_ext hP hn hb h1 h2, runT_bind, q2]; rfl
            · rcases ev2 z hz with g | g
              · rcases Array.mem_push.1 g with g | rfl
                · exact (evs ev z g).mono sz2
                · exact .inr ⟨_, rfl⟩
              · exact g
          · exact .inr (.inr ⟨h, v2, by rw [Sem.run_bind', r1]; simp only [Result.andThen_ok]; rw [run2, Sem.run_bind', q1]; rfl, dd⟩)
    · exact .inr (.inr ⟨h, v', by rw [Sem.run_bind', r1]; rfl, dd⟩)
end
end Go.Sim
end
/- A lone run in ordinary code: which step follows; what comes back never. No program of ours in sight. -/
section
namespace Go.Sim
open Go Go.Conc

/-! ### ordinary frames stay so -/
section
variable {Q : Program} {Gd : Oper → Prop}
theorem Plain.withTodo {fr : Frame} (h : Plain Q Gd fr) {k : List Item} (hk : ∀ it ∈ k, itemOk Gd it) : Plain Q Gd (toF fr k) := ⟨h.kind, h.defers, h.round, h.fn, h.mode, hk⟩
theorem Plain.leave {fr : Frame} (h : Plain Q Gd fr) : Plain Q Gd (leave fr) := ⟨h.kind, h.defers, h.round, h.fn, .inr rfl, h.todo⟩
theorem Plain.finish {fr : Frame} (h : Plain Q Gd fr) (x : Value) : Plain Q Gd (fr.finish x) := by
  obtain ⟨fn, tmps, todo, defers, mode, kind, round⟩ := fr
  have ht := h.todo
  simp only at ht
  unfold Frame.finish
  simp only
  split
  · rename_i ops i rest k
    refine ⟨h.kind, h.defers, h.round, h.fn, h.mode, fun it hi => ?_⟩
    rcases List.mem_cons.1 hi with rfl | hi
    · exact ht (.inRegion ops (i :: rest)) List.mem_cons_self
    · exact ht _ (List.mem_cons_of_mem _ hi)
  · exact (ht _ List.mem_cons_self).elim
  · exact (ht _ List.mem_cons_self).elim
  · exact (ht _ List.mem_cons_self).elim
  · exact (ht _ List.mem_cons_self).elim
  · exact h
theorem finish_fn (fr : Frame) (x : Value) : (fr.finish x).fn = fr.fn := by
  unfold Frame.finish
  split <;> rfl
theorem exitTo_sub {id : Nat} : ∀ {k k' : List Item}, exitTo id k = some k' → ∀ it ∈ k', it ∈ k := by
  intro k
  induction k with
  | nil => intro k' h; cases h
  | cons a k ih =>
    intro k' h it hi
    unfold exitTo at h
    split at h
    · rename_i id' k1 e
      cases e
      split at h
      · cases h; exact List.mem_cons_of_mem _ hi
      · exact List.mem_cons_of_mem _ (ih h it hi)
    · rename_i a' k1 _ e
      cases e
      exact List.mem_cons_of_mem _ (ih h it hi)
    · cases ‹_ :: _ = []›
theorem plain_enter {Q P : Program} {up : FuncId → Prop} (hp : Pair Q P up) {f : FuncId} {a : Array Value} {fn : Func} {c : Code} (h : Q.funcs[f]? = some fn) (hb : fn.body = some c) : Plain Q (OpGood Q P) (Frame.enter Q f a .normal) := by
  obtain ⟨-, ⟨c', hb', hc, -⟩ | ⟨hb', -⟩⟩ := hp.fns f fn h
  · rw [hb] at hb'
    cases hb'
    refine ⟨rfl, rfl, rfl, ⟨fn, h⟩, .inl rfl, fun it hi => ?_⟩
    unfold Frame.enter at hi
    simp only [h, Option.bind_some, hb, Option.getD_some, List.mem_singleton] at hi
    subst hi
    exact hc
  · rw [hb] at hb'; cases hb'

/-- Which step follows in ordinary code: a move of control; an order that is drawn; an operation; or the end. -/
theorem plain_cases {fr : Frame} (h : Plain Q Gd fr) (hm : fr.mode = .run) :
    (∃ fr', Plain Q Gd fr' ∧ (∀ p cs w, stepG p true (G fr cs) w = .go (G fr' cs) w #[]) ∧ fr'.fn = fr.fn) ∨
    (∃ id ops k, fr.todo = .code (.region id ops true) :: k ∧ (∀ l, Plain Q Gd (toF fr (.inRegion ops l :: k))) ∧ ∀ p cs w, stepG p true (G fr cs) w = .go (G (toF fr (.inRegion ops (Region.schedule (p.follows .mixedOrders) ops (w.tape w.drawn (.order fr.fn id))) :: k)) cs) { w with drawn := w.drawn + 1 } #[]) ∨
    (∃ ops i rest k o, fr.todo = .inRegion ops (i :: rest) :: k ∧ ops[i]? = some o ∧ Region.wanted o (yielded ops fr.tmps) = true ∧ Gd o) ∨
    (∀ p cs w, ∃ o w' es, stepG p true (G fr cs) w = .ended o w' es) := by
  have ht := h.todo
  have pure_ : ∀ {fr' : Frame}, (∀ p cs w, StepIs p fr cs w ((Sem.pure (fr', cs) : Sem FS).runT p w #[])) → ∀ p cs w, stepG p true (G fr cs) w = .go (G fr' cs) w #[] := by
    intro fr' hs p cs w
    obtain ⟨es', e, hes⟩ := hs p cs w
    have : es' = #[] := by
      rcases Nat.eq_zero_or_pos es'.size with g | g
      · exact Array.eq_empty_of_size_eq_zero g
      · exact absurd (hes _ (Array.getElem_mem g)) (by simp)
    rw [this] at e
    exact e
  have lost_ : (∀ p cs w, StepIs p fr cs w (lost.runT p w #[])) → ∀ p cs w, ∃ o w' es, stepG p true (G fr cs) w = .ended o w' es := fun hs p cs w => hs p cs w trivial
  cases htd : fr.todo with
  | nil =>
    refine .inl ⟨leave fr, h.leave, fun p cs w => ?_, rfl⟩
    obtain ⟨fn, tmps, todo, defers, mode, kind, round⟩ := fr
    have hr := h.round
    simp only at hm hr htd
    subst hm hr htd
    rw [stepG_run rfl]
    rfl
  | cons it k =>
    rw [htd] at ht
    have hk : ∀ it ∈ k, itemOk Gd it := fun x hx => ht x (List.mem_cons_of_mem _ hx)
    have hi := ht it List.mem_cons_self
    cases it with
    | code c =>
      have sc : (∀ f a b d, c ≠ .rangeFunc f a b d) → (∀ l, c ≠ .goto l) → ∀ p cs w, StepIs p fr cs w ((mcode p fr cs k c).runT p w #[]) := fun h1 h2 p cs w => step_code hm h.round htd h1 h2
      cases c with
      | skip => exact .inl ⟨_, h.withTodo hk, pure_ (sc (by simp) (by simp)), rfl⟩
      | label l => exact .inl ⟨_, h.withTodo hk, pure_ (sc (by simp) (by simp)), rfl⟩
      | ret => exact .inl ⟨leave fr, h.leave, pure_ (sc (by simp) (by simp)), rfl⟩
      | seq a b =>
        refine .inl ⟨_, h.withTodo (fun x hx => ?_), pure_ (sc (by simp) (by simp)), rfl⟩
        rcases List.mem_cons.1 hx with rfl | hx
        · exact hi.1
        · rcases List.mem_cons.1 hx with rfl | hx
          · exact hi.2
          · exact hk x hx
      | block i a =>
        refine .inl ⟨_, h.withTodo (fun x hx => ?_), pure_ (sc (by simp) (by simp)), rfl⟩
        rcases List.mem_cons.1 hx with rfl | hx
        · exact hi
        · rcases List.mem_cons.1 hx with rfl | hx
          · trivial
          · exact hk x hx
      | loop a =>
        refine .inl ⟨_, h.withTodo (fun x hx => ?_), pure_ (sc (by simp) (by simp)), rfl⟩
        rcases List.mem_cons.1 hx with rfl | hx
        · exact hi
        · rcases List.mem_cons.1 hx with rfl | hx
          · exact hi
          · exact hk x hx
      | scope a =>
        refine .inl ⟨_, h.withTodo (fun x hx => ?_), pure_ (sc (by simp) (by simp)), rfl⟩
        rcases List.mem_cons.1 hx with rfl | hx
        · exact hi
        · rcases List.mem_cons.1 hx with rfl | hx
          · exact hi
          · exact hk x hx
      | cond c x y =>
        have s := sc (by simp) (by simp)
        have e : ∀ o, fr.eval c = o → ∀ p cs, mcode p fr cs k (.cond c x y) = match o with | .bool b => .pure (toF fr (.code (if b then x else y) :: k), cs) | _ => lost := by
          intro o ho p cs
          subst ho
          rfl
        cases hv : fr.eval c with
        | bool b =>
          refine .inl ⟨toF fr (.code (if b then x else y) :: k), h.withTodo (fun z hz => ?_), pure_ (fun p cs w => by have := s p cs w; rw [e _ hv] at this; exact this), rfl⟩
          rcases List.mem_cons.1 hz with rfl | hz
          · cases b
            · exact hi.2
            · exact hi.1
          · exact hk z hz
        | _ => exact .inr (.inr (.inr (lost_ fun p cs w => by have := s p cs w; rw [e _ hv] at this; exact this)))
      | exit id =>
        have s := sc (by simp) (by simp)
        have e : ∀ o, exitTo id k = o → ∀ p cs, mcode p fr cs k (.exit id) = match o with | some k' => .pure (toF fr k', cs) | none => lost := by
          intro o ho p cs
          subst ho
          rfl
        cases hx : exitTo id k with
        | some k' => exact .inl ⟨toF fr k', h.withTodo (fun z hz => hk z (exitTo_sub hx z hz)), pure_ (fun p cs w => by have := s p cs w; rw [e _ hx] at this; exact this), rfl⟩
        | none => exact .inr (.inr (.inr (lost_ fun p cs w => by have := s p cs w; rw [e _ hx] at this; exact this)))
      | refuse r => exact .inr (.inr (.inr (lost_ (sc (by simp) (by simp)))))
      | goto l => exact hi.elim
      | rangeFunc f a b d => exact hi.elim
      | region id ops draw =>
        have s := sc (by simp) (by simp)
        cases draw with
        | false =>
          refine .inl ⟨_, h.withTodo (fun z hz => ?_), pure_ s, rfl⟩
          rcases List.mem_cons.1 hz with rfl | hz
          · exact hi
          · exact hk z hz
        | true =>
          refine .inr (.inl ⟨id, ops, k, rfl, fun l => h.withTodo (fun z hz => ?_), fun p cs w => ?_⟩)
          · rcases List.mem_cons.1 hz with rfl | hz
            · exact hi
            · exact hk z hz
          · rw [stepG_run hm]; unfold stepG.exec; simp only [htd]; rfl
    | inBlock i =>
      refine .inl ⟨_, h.withTodo hk, fun p cs w => ?_, rfl⟩
      rw [stepG_run hm]; unfold stepG.exec; simp only [htd]; rfl
    | inScope b =>
      refine .inl ⟨_, h.withTodo hk, fun p cs w => ?_, rfl⟩
      rw [stepG_run hm]; unfold stepG.exec; simp only [htd]; rfl
    | inLoop b =>
      refine .inl ⟨toF fr (.code b :: .inLoop b :: k), h.withTodo (fun z hz => ?_), fun p cs w => ?_, rfl⟩
      · rcases List.mem_cons.1 hz with rfl | hz
        · exact hi
        · rcases List.mem_cons.1 hz with rfl | hz
          · exact hi
          · exact hk z hz
      · rw [stepG_run hm]; unfold stepG.exec; simp only [htd]; rfl
    | inRegion ops l =>
      cases l with
      | nil =>
        refine .inl ⟨_, h.withTodo hk, fun p cs w => ?_, rfl⟩
        rw [stepG_run hm]; unfold stepG.exec; simp only [htd]; rfl
      | cons i rest =>
        by_cases hw : ((ops[i]?).map (Region.wanted · (yielded ops fr.tmps))).getD false = true
        · cases ho : ops[i]? with
          | none => rw [ho] at hw; cases hw
          | some o =>
            rw [ho] at hw
            exact .inr (.inr (.inl ⟨ops, i, rest, k, o, rfl, ho, hw, hi o (Array.mem_of_getElem? ho)⟩))
        · refine .inl ⟨_, h.finish undef, fun p cs w => ?_, finish_fn fr undef⟩
          rw [stepG_run hm]; unfold stepG.exec; simp only [htd, if_neg hw]; rfl
    | _ => exact hi.elim
end

/-! ### what comes back never -/
/-- Who stands at the foot: a panic ends at it. -/
def foot (Q : Program) : Frame := { fn := Q.funcs.size, tmps := #[], todo := [.call default false "fmt's door" #[]], defers := [], mode := .run, kind := .normal }
/-- From here a lone run comes to no such place. -/
def Never (Q : Program) (T : Frame → List Frame → World → Prop) (fr : Frame) (cs : List Frame) (v : World) : Prop := ∀ n fr' cs' v', runN Q n (lone fr cs v) = .next (lone fr' cs' v') → ¬ T fr' cs' v'
theorem lone_inj {fr fr' : Frame} {cs cs' : List Frame} {v v' : World} (h : lone fr cs v = lone fr' cs' v') : fr = fr' ∧ cs = cs' ∧ v = v' := by
  unfold lone at h
  simp only [Machine.mk.injEq, and_true] at h
  obtain ⟨rfl, h⟩ := h
  have := (Array.mk.injEq _ _).mp h
  simp only [List.cons.injEq, Goroutine.mk.injEq, and_true] at this
  exact ⟨this.1, this.2, rfl⟩
section
variable {Q : Program} {T : Frame → List Frame → World → Prop} {fr : Frame} {cs : List Frame} {v : World}
theorem never_ended (hT : ¬ T fr cs v) {o : Outcome} {w' : World} {es : Array Event} (h : stepG Q true (G fr cs) v = .ended o w' es) : Never Q T fr cs v := by
  intro n fr' cs' v' hn
  cases n with
  | zero =>
    simp only [runN, Stepped.next.injEq] at hn
    obtain ⟨rfl, rfl, rfl⟩ := lone_inj hn
    exact hT
  | succ n =>
    have e : step Q (lone fr cs v) = .ended o w' := step_lone_ended (by show (stepG Q true (G fr cs) v).bare = _; rw [h]; rfl)
    simp [runN, e] at hn
theorem never_go (hT : ¬ T fr cs v) {fr1 : Frame} {cs1 : List Frame} {v1 : World} {es : Array Event} (h : stepG Q true (G fr cs) v = .go (G fr1 cs1) v1 es) (hn : Never Q T fr1 cs1 v1) : Never Q T fr cs v := by
  intro n fr' cs' v' hr
  cases n with
  | zero =>
    simp only [runN, Stepped.next.injEq] at hr
    obtain ⟨rfl, rfl, rfl⟩ := lone_inj hr
    exact hT
  | succ n =>
    have e : step Q (lone fr cs v) = .next (lone fr1 cs1 v1) := step_lone_go (by show (stepG Q true (G fr cs) v).bare = _; rw [h]; rfl)
    simp only [runN, e] at hr
    exact hn n fr' cs' v' hr
/-- A panic over frames that defer nothing runs out at the foot. -/
theorem never_panic (hT : ∀ fr cs v, T fr cs v → fr.mode = .returning) : ∀ (xs : List Frame) (fr : Frame) (chain : List PanicEntry) (v : World), fr.mode = .panicking chain → fr.defers = [] → (∀ x ∈ xs, x.defers = []) → Never Q T fr (xs ++ [foot Q]) v := by
  have nT : ∀ {fr cs v chain}, fr.mode = .panicking chain → ¬ T fr cs v := fun hm h => by have := hT _ _ _ h; rw [hm] at this; cases this
  have raised : ∀ (x : Frame) (chain : List PanicEntry), ∃ chain', (x.raise chain).mode = .panicking chain' ∧ (x.raise chain).defers = x.defers := fun x chain => by
    unfold Frame.raise
    split <;> exact ⟨_, rfl, rfl⟩
  have unw : ∀ {fr : Frame} {cs : List Frame} {chain : List PanicEntry} {v : World}, fr.mode = .panicking chain → fr.defers = [] → (∃ o w' es, stepG Q true (G fr cs) v = .ended o w' es) ∨ ∀ c rest, cs = c :: rest → stepG Q true (G fr cs) v = .go (G (c.raise chain) rest) v #[] := by
    intro fr cs chain v hm hd
    by_cases hc : fr.catches Q = true
    · refine .inl ⟨.unsupported (.noEntry "a panic or Goexit out of a method that fmt calls behind a cut's door") (fr.pos Q), v, #[], ?_⟩
      unfold stepG G
      simp only [hm]
      unfold unwind
      simp only [hd, hm, hc, if_true]
    · refine .inr fun c rest e => ?_
      subst e
      unfold stepG G
      simp only [hm]
      unfold unwind
      simp only [hd, hm, hc]
      rfl
  intro xs
  induction xs with
  | nil =>
    intro fr chain v hm hd hx
    rcases unw (cs := [foot Q]) (v := v) hm hd with ⟨o, w', es, e⟩ | e
    · exact never_ended (nT hm) e
    · refine never_go (nT hm) (e _ _ rfl) ?_
      obtain ⟨chain', m1, d1⟩ := raised (foot Q) chain
      have hc : ((foot Q).raise chain).catches Q = true := by
        unfold Frame.catches Frame.raise foot
        simp only [Array.getElem?_size]
        kernel_rfl
      refine never_ended (o := .unsupported (.noEntry "a panic or Goexit out of a method that fmt calls behind a cut's door") (((foot Q).raise chain).pos Q)) (w' := v) (es := #[]) (nT m1) ?_
      unfold stepG G
      simp only [m1]
      unfold unwind
      rw [d1]
      simp only [m1, hc, if_true]
      rfl
  | cons x xs ih =>
    intro fr chain v hm hd hx
    rcases unw (cs := (x :: xs) ++ [foot Q]) (v := v) hm hd with ⟨o, w', es, e⟩ | e
    · exact never_ended (nT hm) e
    · obtain ⟨chain', m1, d1⟩ := raised x chain
      exact never_go (nT hm) (e _ _ rfl) (ih _ chain' v m1 (d1.trans (hx x List.mem_cons_self)) fun y hy => hx y (List.mem_cons_of_mem _ hy))
end
end Go.Sim
end
/- A lone run that comes to an end on every tape comes to it by a tree of steps. No program of ours in sight. -/
section
namespace Go.Sim
open Go Go.Conc

/-- A place to come to: at the foot's side; whatever the tape. -/
structure Goal (Q : Program) (T : Frame → List Frame → World → Prop) : Prop where
  at_ : ∀ fr cs v, T fr cs v → fr.mode = .returning ∧ cs = [foot Q]
  any : ∀ fr cs v τ n, T fr cs v → T fr cs (re v τ n)

section
variable {Q P : Program} {up : FuncId → Prop} {T : Frame → List Frame → World → Prop}

/-- A return to a caller. -/
theorem step_ret {p : Program} {fr c : Frame} {rest : List Frame} {fn : Func} {w : World} (hm : fr.mode = .returning) (hd : fr.defers = []) (hk : fr.kind = .normal) (hf : p.funcs[fr.fn]? = some fn) :
    (∀ x w' es, (results fn fr.tmps).runT p w #[] = (.ok x w', es) → stepG p true (G fr (c :: rest)) w = .go (G (c.finish x) rest) w' (seen p fr.fn es ++ #[])) ∧
    (∀ h w' es, (results fn fr.tmps).runT p w #[] = (.halt h w', es) → ∃ o w'' es', stepG p true (G fr (c :: rest)) w = .ended o w'' es') := by
  have e : stepG p true (G fr (c :: rest)) w = GStep.after (seen p fr.fn ((results fn fr.tmps).runT p w #[]).2) (match ((results fn fr.tmps).runT p w #[]).1 with
      | .ok v w => doReturn p true fr (c :: rest) none v w
      | .halt (.stuck s) w => .ended (.stuck s (fr.pos p)) w
      | .halt _ w => .ended (.stuck "return: the result variables cannot be read" (fr.pos p)) w) := by
    unfold stepG G
    simp only [hm]
    unfold unwind
    simp only [hd, hm, hf]
    rfl
  constructor
  · intro x w' es h
    rw [e, h]
    unfold doReturn
    simp only [hk, GStep.after]
    rfl
  · intro h w' es h1
    rw [e, h1]
    cases h <;> exact ⟨_, _, _, rfl⟩

/-- Which step follows, and of which answers it hangs. -/
def Turn (Q P : Program) (T : Frame → List Frame → World → Prop) (fr : Frame) (xs : List Frame) (v : World) : Prop :=
  (∃ fr' xs' v' d, Plain Q (OpGood Q P) fr' ∧ (∀ x ∈ xs', Plain Q (OpGood Q P) x) ∧ OkWorld v' ∧
    ∀ τ n, Agree d v τ n → ∃ es, stepG Q true (G fr (xs ++ [foot Q])) (re v τ n) = .go (G fr' (xs' ++ [foot Q])) (re v' τ (n + d)) es) ∨
  (∃ d, ∀ τ n, Agree d v τ n → Never Q T fr (xs ++ [foot Q]) (re v τ n))

theorem turn (hp : Pair Q P up) (hG : Goal Q T) {fr : Frame} {xs : List Frame} (hf : Plain Q (OpGood Q P) fr) (hxs : ∀ x ∈ xs, Plain Q (OpGood Q P) x) (v : World) (hv : OkWorld v) (nT : ¬ T fr (xs ++ [foot Q]) v) : Turn Q P T fr xs v := by
  have nT' : ∀ τ n, ¬ T fr (xs ++ [foot Q]) (re v τ n) := fun τ n h => nT (by have := hG.any _ _ _ v.tape v.drawn h; exact this)
  have hTm : ∀ fr cs v, T fr cs v → fr.mode = .returning := fun fr cs v h => (hG.at_ fr cs v h).1
  rcases hf.mode with hm | hm
  · rcases plain_cases hf hm with ⟨fr', p1, h1, -⟩ | ⟨id, ops, k, htd, p1, h1⟩ | ⟨ops, i, rest, k, o, htd, ho, hw, hg⟩ | h1
    · exact .inl ⟨fr', xs, v, 0, p1, hxs, hv, fun τ n _ => ⟨_, h1 Q _ _⟩⟩
    · refine .inl ⟨_, xs, { v with drawn := v.drawn + 1 }, 1, p1 (Region.schedule (Q.follows .mixedOrders) ops (v.tape v.drawn (.order fr.fn id))), hxs, hv, fun τ n a => ⟨#[], ?_⟩⟩
      rw [h1 Q _ _]
      have : τ n (.order fr.fn id) = v.tape v.drawn (.order fr.fn id) := a 0 (by omega) _
      simp only [re, this]
    · have st : ∀ w, OkWorld w → StepIs Q fr (xs ++ [foot Q]) w ((mop Q fr (xs ++ [foot Q]) o).runT Q w #[]) := fun w hw' => by
        refine step_op hm hf.round hf.kind htd ho hw ?_
        rcases form_turns hp (hg fr.eval fun _ => rfl) w hw' with ⟨nx, v', d, r, -, -, -, -, ⟨x, rfl⟩ | rfl | ⟨f, a, fn, c, rfl, -, -⟩⟩ | ⟨d, ⟨h, v', r, dd⟩, -⟩
        · exact .inl ⟨_, _, r⟩
        · exact .inr (.inl ⟨_, r⟩)
        · exact .inr (.inr (.inl ⟨_, _, _, r⟩))
        · exact .inr (.inr (.inr ⟨_, _, r, dd⟩))
      have rT : ∀ {w : World} {r : Result Next}, (execOp fr.eval o).run Q w = r → ∃ es, (execOp fr.eval o).runT Q w #[] = (r, es) := fun {w r} h => ⟨_, by rw [Sem.runT_eq, h]⟩
      rcases form_turns hp (hg fr.eval fun _ => rfl) v hv with ⟨nx, v', d, r, ok', t1, t2, r2, hnx⟩ | ⟨d, -, r2⟩
      · -- it goes on
        have go : ∀ (fr' : Frame) (xs' : List Frame), Plain Q (OpGood Q P) fr' → (∀ x ∈ xs', Plain Q (OpGood Q P) x) → after Q fr (xs ++ [foot Q]) nx = .pure (fr', xs' ++ [foot Q]) → Turn Q P T fr xs v := by
          intro fr' xs' q1 q2 q3
          refine .inl ⟨fr', xs', v', d, q1, q2, ok', fun τ n a => ?_⟩
          obtain ⟨es, e1⟩ := rT (r2 τ n a)
          have := st (re v τ n) hv
          unfold mop at this
          rw [runT_bind, e1] at this
          simp only [q3] at this
          obtain ⟨es', e2, -⟩ := this
          exact ⟨es', e2⟩
        rcases hnx with ⟨x, rfl⟩ | rfl | ⟨f, a, fn, c, rfl, hq, hb⟩
        · exact go _ xs (hf.finish x) hxs rfl
        · exact go _ xs (hf.finish undef) hxs rfl
        · refine go _ (fr :: xs) (plain_enter hp hq hb) (fun x hx => ?_) rfl
          rcases List.mem_cons.1 hx with rfl | hx
          · exact hf
          · exact hxs x hx
      · -- it ends
        refine .inr ⟨d, fun τ n a => ?_⟩
        obtain ⟨h, v', r3, dd⟩ := r2 τ n a
        obtain ⟨es, e1⟩ := rT r3
        have := st (re v τ n) hv
        unfold mop at this
        rw [runT_bind, e1] at this
        cases h with
        | panic x =>
          rcases this with ⟨es', e2⟩ | ⟨o, w'', es', e2⟩
          · refine never_go (nT' τ n) e2 (never_panic hTm xs _ [{ v := x, recovered := false }] _ ?_ ?_ fun y hy => (hxs y hy).defers)
            · unfold Frame.raise; rw [hm]
            · unfold Frame.raise; rw [hm]; exact hf.defers
          · exact never_ended (nT' τ n) e2
        | stuck s => obtain ⟨o, w'', es', e2⟩ := this dd; exact never_ended (nT' τ n) e2
        | unsupported u => obtain ⟨o, w'', es', e2⟩ := this dd; exact never_ended (nT' τ n) e2
        | _ => exact dd.elim
    · exact .inr ⟨0, fun τ n _ => by obtain ⟨o, w', es, e⟩ := h1 Q (xs ++ [foot Q]) (re v τ n); exact never_ended (nT' τ n) e⟩
  · -- a return
    obtain ⟨fn, hfn⟩ := hf.fn
    have hres : Fine0 Q Q (results fn fr.tmps) := Fine.self (hp.res fn fr.tmps)
    have rT : ∀ {w : World} {r : Result Value}, (results fn fr.tmps).run Q w = r → ∃ es, (results fn fr.tmps).runT Q w #[] = (r, es) := fun {w r} h => ⟨_, by rw [Sem.runT_eq, h]⟩
    cases xs with
    | nil =>
      -- at the foot
      have hfoot : ∀ x w, ∃ o w' es', stepG Q true (G ((foot Q).finish x) []) w = .ended o w' es' := fun x w => by
        refine ⟨.stuck ("no extern row " ++ "fmt's door") (((foot Q).finish x).pos Q), w, #[], ?_⟩
        unfold stepG G
        simp only [Frame.finish, foot]
        unfold stepG.exec
        simp only [show Extern.next "fmt's door" = none by rfl, Option.elim]
      rcases Fine0.turns hres v hv with ⟨x, v', d, r, t1, t2, r2⟩ | ⟨h, v', d, r, dd, t1, t2, r2⟩
      · refine .inr ⟨d, fun τ n a => ?_⟩
        obtain ⟨es, e1⟩ := rT (r2 τ n a)
        have e2 := (step_ret (c := foot Q) (rest := []) hm hf.defers hf.kind hfn).1 _ _ _ e1
        obtain ⟨o, w', es', e3⟩ := hfoot x (re v' τ (n + d))
        refine never_go (nT' τ n) e2 (never_ended (fun h => ?_) e3)
        have := (hG.at_ _ _ _ h).2
        cases this
      · refine .inr ⟨d, fun τ n a => ?_⟩
        obtain ⟨es, e1⟩ := rT (r2 τ n a)
        obtain ⟨o, w', es', e3⟩ := (step_ret (c := foot Q) (rest := []) hm hf.defers hf.kind hfn).2 _ _ _ e1
        exact never_ended (nT' τ n) e3
    | cons c rest =>
      rcases Fine0.turns hres v hv with ⟨x, v', d, r, t1, t2, r2⟩ | ⟨h, v', d, r, dd, t1, t2, r2⟩
      · refine .inl ⟨c.finish x, rest, v', d, (hxs c List.mem_cons_self).finish x, fun y hy => hxs y (List.mem_cons_of_mem _ hy), Fine0.okw hres hv r, fun τ n a => ?_⟩
        obtain ⟨es, e1⟩ := rT (r2 τ n a)
        exact ⟨_, (step_ret (c := c) (rest := rest ++ [foot Q]) hm hf.defers hf.kind hfn).1 _ _ _ e1⟩
      · refine .inr ⟨d, fun τ n a => ?_⟩
        obtain ⟨es, e1⟩ := rT (r2 τ n a)
        obtain ⟨o, w', es', e3⟩ := (step_ret (c := c) (rest := rest ++ [foot Q]) hm hf.defers hf.kind hfn).2 _ _ _ e1
        exact never_ended (nT' τ n) e3

/-- The tree of a lone run's steps: whatever the tape answers, it comes to the place. -/
inductive Wf (Q : Program) (T : Frame → List Frame → World → Prop) : Frame → List Frame → World → Prop
  | tgt {fr : Frame} {xs : List Frame} {v : World} : T fr (xs ++ [foot Q]) v → Wf Q T fr xs v
  | step {fr : Frame} {xs : List Frame} {v : World} : (∀ τ n, ∃ fr' xs' v' es, stepG Q true (G fr (xs ++ [foot Q])) (re v τ n) = .go (G fr' (xs' ++ [foot Q])) v' es) →
      (∀ τ n fr' xs' v' es, stepG Q true (G fr (xs ++ [foot Q])) (re v τ n) = .go (G fr' (xs' ++ [foot Q])) v' es → Wf Q T fr' xs' v') → Wf Q T fr xs v

theorem go_inj {fr fr' : Frame} {xs xs' : List Frame} {v v' : World} {es es' : Array Event} {s : GStep} (h : s = .go (G fr (xs ++ [foot Q])) v es) (h' : s = .go (G fr' (xs' ++ [foot Q])) v' es') : fr = fr' ∧ xs = xs' ∧ v = v' := by
  rw [h] at h'
  simp only [GStep.go.injEq, G, Goroutine.mk.injEq, and_true] at h'
  obtain ⟨⟨rfl, h2⟩, rfl, -⟩ := h'
  exact ⟨rfl, List.append_cancel_right h2, rfl⟩

theorem Wf.at_re {fr : Frame} {xs : List Frame} {v : World} (hG : Goal Q T) (h : Wf Q T fr xs v) (τ : Nat → Question → Nat) (n : Nat) : Wf Q T fr xs (re v τ n) := by
  cases h with
  | tgt h => exact .tgt (hG.any _ _ _ _ _ h)
  | step h1 h2 => exact .step (fun τ' n' => h1 τ' n') (fun τ' n' => h2 τ' n')

/-- A state from which no tree leads. -/
structure Bad (Q P : Program) (T : Frame → List Frame → World → Prop) where
  fr : Frame
  xs : List Frame
  v : World
  pf : Plain Q (OpGood Q P) fr
  px : ∀ x ∈ xs, Plain Q (OpGood Q P) x
  ok : OkWorld v
  no : ¬ Wf Q T fr xs v

/-- What follows a bad state, for some answers of the tape: another one; or nothing that comes back. -/
structure Foll (b : Bad Q P T) where
  τ : Nat → Question → Nat
  n : Nat
  d : Nat
  o : Option (Bad Q P T)
  some_ : ∀ b', o = some b' → ∀ σ m, (∀ i, i < d → ∀ q, σ (m + i) q = τ (n + i) q) → ∃ es, stepG Q true (G b.fr (b.xs ++ [foot Q])) (re b.v σ m) = .go (G b'.fr (b'.xs ++ [foot Q])) (re b'.v σ (m + d)) es
  none_ : o = none → ∀ σ m, (∀ i, i < d → ∀ q, σ (m + i) q = τ (n + i) q) → Never Q T b.fr (b.xs ++ [foot Q]) (re b.v σ m)

theorem foll (hp : Pair Q P up) (hG : Goal Q T) (b : Bad Q P T) : Nonempty (Foll b) := by
  have nT : ¬ T b.fr (b.xs ++ [foot Q]) b.v := fun h => b.no (.tgt h)
  have nS := fun h1 h2 => b.no (Wf.step (v := b.v) h1 h2)
  -- some tape's answers lead to no tree
  by_cases h1 : ∀ τ n, ∃ fr' xs' v' es, stepG Q true (G b.fr (b.xs ++ [foot Q])) (re b.v τ n) = .go (G fr' (xs' ++ [foot Q])) v' es
  · have h2 : ¬ ∀ τ n fr' xs' v' es, stepG Q true (G b.fr (b.xs ++ [foot Q])) (re b.v τ n) = .go (G fr' (xs' ++ [foot Q])) v' es → Wf Q T fr' xs' v' := nS h1
    simp only [Classical.not_forall] at h2
    obtain ⟨τ, n, fr', xs', v', es, e, hn⟩ := h2
    rcases turn hp hG b.pf b.px (re b.v τ n) b.ok (fun h => nT (by have := hG.any _ _ _ b.v.tape b.v.drawn h; exact this)) with ⟨fr1, xs1, v1, d, p1, p2, p3, h⟩ | ⟨d, h⟩
    · obtain ⟨es1, e1⟩ := h τ n (fun i _ q => rfl)
      obtain ⟨rfl, rfl, rfl⟩ := go_inj e1 e
      exact ⟨⟨τ, n, d, some ⟨fr1, xs1, re v1 τ (n + d), p1, p2, p3, hn⟩, fun b' hb σ m a => by cases hb; exact h σ m a, fun hb => by cases hb⟩⟩
    · exact ⟨⟨τ, n, d, none, (fun b' hb => by cases hb), fun _ σ m a => h σ m a⟩⟩
  · simp only [Classical.not_forall] at h1
    obtain ⟨τ, n, h1⟩ := h1
    rcases turn hp hG b.pf b.px (re b.v τ n) b.ok (fun h => nT (by have := hG.any _ _ _ b.v.tape b.v.drawn h; exact this)) with ⟨fr1, xs1, v1, d, p1, p2, p3, h⟩ | ⟨d, h⟩
    · obtain ⟨es1, e1⟩ := h τ n (fun i _ q => rfl)
      exact absurd ⟨_, _, _, _, e1⟩ h1
    · exact ⟨⟨τ, n, d, none, (fun b' hb => by cases hb), fun _ σ m a => h σ m a⟩⟩

/-- ████ A LONE RUN THAT COMES TO THE PLACE ON EVERY TAPE HAS A TREE. ████ -/
theorem wf_of (hp : Pair Q P up) (hG : Goal Q T) {fr : Frame} {xs : List Frame} {v : World} (hf : Plain Q (OpGood Q P) fr) (hxs : ∀ x ∈ xs, Plain Q (OpGood Q P) x) (hv : OkWorld v)
    (hr : ∀ τ n, ¬ Never Q T fr (xs ++ [foot Q]) (re v τ n)) : Wf Q T fr xs v := by
  refine Classical.byContradiction fun hno => ?_
  let F : (b : Bad Q P T) → Foll b := fun b => Classical.choice (foll hp hG b)
  let nx : Option (Bad Q P T) → Option (Bad Q P T) := fun o => o.bind fun b => (F b).o
  let D : Option (Bad Q P T) → Nat := fun o => match o with | some b => (F b).d | none => 0
  let Tp : Option (Bad Q P T) → Nat → Question → Nat := fun o => match o with | some b => fun i q => (F b).τ ((F b).n + i) q | none => fun _ _ => 0
  let B : Nat → Option (Bad Q P T) := fun i => Nat.rec (some ⟨fr, xs, v, hf, hxs, hv, hno⟩) (fun _ o => nx o) i
  let S : Nat → Nat := fun i => Nat.rec 0 (fun i s => s + D (B i)) i
  have Smono : ∀ i j, i ≤ j → S i ≤ S j := by
    intro i j h
    induction h with
    | refl => exact Nat.le_refl _
    | step _ ih => exact Nat.le_trans ih (Nat.le_add_right _ _)
  let σ : Nat → Question → Nat := fun k q => open Classical in if h : ∃ i, S i ≤ k ∧ k < S (i + 1) then Tp (B (Classical.choose h)) (k - S (Classical.choose h)) q else 0
  have hσ : ∀ i r q, r < D (B i) → σ (S i + r) q = Tp (B i) r q := by
    intro i r q hr
    have ex : ∃ j, S j ≤ S i + r ∧ S i + r < S (j + 1) := ⟨i, Nat.le_add_right _ _, Nat.add_lt_add_left hr _⟩
    have hj := Classical.choose_spec ex
    have e : Classical.choose ex = i := by
      rcases Nat.lt_trichotomy (Classical.choose ex) i with g | g | g
      · have := Smono (Classical.choose ex + 1) i g; omega
      · exact g
      · have h1 := Smono (i + 1) _ g
        have h2 : S (i + 1) = S i + D (B i) := rfl
        omega
    show (open Classical in if h : ∃ i', S i' ≤ S i + r ∧ S i + r < S (i' + 1) then Tp (B (Classical.choose h)) (S i + r - S (Classical.choose h)) q else 0) = _
    rw [dif_pos ex, e, Nat.add_sub_cancel_left]
  have run : ∀ i b, B i = some b → runN Q i (lone fr (xs ++ [foot Q]) (re v σ 0)) = .next (lone b.fr (b.xs ++ [foot Q]) (re b.v σ (S i))) := by
    intro i
    induction i with
    | zero =>
      intro b hb
      have : b = ⟨fr, xs, v, hf, hxs, hv, hno⟩ := (Option.some.inj hb).symm
      subst this
      rfl
    | succ i ih =>
      intro b hb
      have hb' : nx (B i) = some b := hb
      cases hBi : B i with
      | none => rw [hBi] at hb'; cases hb'
      | some b1 =>
        rw [hBi] at hb'
        have ho : (F b1).o = some b := hb'
        have e1 := ih b1 hBi
        have hD : D (B i) = (F b1).d := by rw [hBi]
        obtain ⟨es, e2⟩ := (F b1).some_ b ho σ (S i) (fun r hr q => by
          have := hσ i r q (by rw [hD]; exact hr)
          rw [this, hBi])
        have e3 : step Q (lone b1.fr (b1.xs ++ [foot Q]) (re b1.v σ (S i))) = .next (lone b.fr (b.xs ++ [foot Q]) (re b.v σ (S i + (F b1).d))) := step_lone_go (by show (stepG Q true (G b1.fr (b1.xs ++ [foot Q])) _).bare = _; rw [e2]; rfl)
        rw [runN_add Q i 1, e1]
        simp only [runN, e3]
        have : S (i + 1) = S i + (F b1).d := by show S i + D (B i) = _; rw [hD]
        rw [this]
  refine hr σ 0 fun m fr' cs' v' hm hT' => ?_
  -- the last state that is there
  have last : ∀ m, (∃ b, B m = some b) ∨ ∃ i b, i < m ∧ B i = some b ∧ (F b).o = none := by
    intro m
    induction m with
    | zero => exact .inl ⟨_, rfl⟩
    | succ m ih =>
      rcases ih with ⟨b, hb⟩ | ⟨i, b, hi, h⟩
      · cases ho : (F b).o with
        | none => exact .inr ⟨m, b, Nat.lt_succ_self m, hb, ho⟩
        | some b' => exact .inl ⟨b', by show nx (B m) = _; rw [hb]; exact ho⟩
      · exact .inr ⟨i, b, Nat.lt_succ_of_lt hi, h⟩
  rcases last m with ⟨b, hb⟩ | ⟨i, b, hi, hb, ho⟩
  · have e := run m b hb
    rw [hm] at e
    obtain ⟨rfl, rfl, rfl⟩ := lone_inj (Stepped.next.inj e)
    exact b.no (.tgt (by have := hG.any _ _ _ b.v.tape b.v.drawn hT'; exact this))
  · have e := run i b hb
    have hD : D (B i) = (F b).d := by rw [hb]
    have nv := (F b).none_ ho σ (S i) (fun r hr q => by
      have := hσ i r q (by rw [hD]; exact hr)
      rw [this, hb])
    obtain ⟨k, rfl⟩ : ∃ k, m = i + k := ⟨m - i, by omega⟩
    rw [runN_add Q i k, e] at hm
    exact nv k _ _ _ hm hT'
end
end Go.Sim
end
