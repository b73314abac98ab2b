/- Which pieces of the semantics list plain accesses of cells alone, and lay at most so many blocks. No program of ours in sight. -/
import Derived.Test.YtegkbjpcgelomaaGreatDoorZ3
set_option linter.unusedVariables false
set_option linter.unusedSimpArgs false
section
set_option maxHeartbeats 1000000
namespace Go.Sim
open Go Go.Conc

/-- Plain accesses of cells alone; at most n blocks are laid. -/
def Pl (p : Program) {α : Type} : Nat → Sem α → Prop
  | _, .pure _ => True
  | n, .load m _ k => m = .plain ∧ ∀ v, Pl p n (k v)
  | n, .store m _ _ k => m = .plain ∧ Pl p n k
  | 0, .new _ _ => False
  | n + 1, .new _ k => ∀ r, Pl p n (k r)
  | n, .shape _ k => ∀ x, Pl p n (k x)
  | n, .freeze _ _ k => Pl p n k
  | n, .frozen _ k => ∀ b, Pl p n (k b)
  | _, .getObj _ _ => False
  | _, .setObj _ _ _ => False
  | n, .choose _ k => ∀ x, Pl p n (k x)
  | _, .sys _ _ => False
  | n, .program k => Pl p n (k p)
  | n, .mark _ k => Pl p n k
  | _, .halt _ => True
theorem Pl.bind {p : Program} {α β : Type} {m : Nat} {f : α → Sem β} (hf : ∀ a, Pl p m (f a)) : ∀ {n : Nat} {s : Sem α}, Pl p n s → Pl p (n + m) (s.bind f) := by
  have up : ∀ {n m : Nat} {γ : Type} {s : Sem γ}, Pl p n s → n ≤ m → Pl p m s := by
    intro n m γ s
    induction s generalizing n m with
    | pure a => exact fun _ _ => by cases m <;> trivial
    | load md a k ih => exact fun h hl => by cases n <;> cases m <;> exact ⟨h.1, fun v => ih v (h.2 v) (by omega)⟩
    | store md a v k ih => exact fun h hl => by cases n <;> cases m <;> exact ⟨h.1, ih h.2 (by omega)⟩
    | new o k ih =>
      intro h hl
      cases n with
      | zero => cases h
      | succ n =>
        cases m with
        | zero => omega
        | succ m => exact fun r => ih r (h r) (by omega)
    | shape r k ih => exact fun h hl => by cases n <;> cases m <;> exact fun x => ih x (h x) (by omega)
    | freeze a z k ih => exact fun h hl => by cases n <;> cases m <;> exact ih h (by omega)
    | frozen a k ih => exact fun h hl => by cases n <;> cases m <;> exact fun x => ih x (h x) (by omega)
    | getObj r k ih => exact fun h hl => by cases n <;> cases h
    | setObj r o k ih => exact fun h hl => by cases n <;> cases h
    | choose q k ih => exact fun h hl => by cases n <;> cases m <;> exact fun x => ih x (h x) (by omega)
    | sys c k ih => exact fun h hl => by cases n <;> cases h
    | program k ih => exact fun h hl => by cases n <;> cases m <;> exact ih p h (by omega)
    | mark z k ih => exact fun h hl => by cases n <;> cases m <;> exact ih h (by omega)
    | halt h => exact fun _ _ => by cases m <;> trivial
  intro n s
  induction s generalizing n with
  | pure a => exact fun _ => up (hf a) (by omega)
  | load md a k ih => exact fun h => by cases n <;> cases m <;> exact ⟨h.1, fun v => ih v (h.2 v)⟩
  | store md a v k ih => exact fun h => by cases n <;> cases m <;> exact ⟨h.1, ih h.2⟩
  | new o k ih =>
    intro h
    cases n with
    | zero => cases h
    | succ n =>
      rw [show n + 1 + m = (n + m) + 1 by omega]
      exact fun r => ih r (h r)
  | shape r k ih => exact fun h => by cases n <;> cases m <;> exact fun x => ih x (h x)
  | freeze a z k ih => exact fun h => by cases n <;> cases m <;> exact ih h
  | frozen a k ih => exact fun h => by cases n <;> cases m <;> exact fun x => ih x (h x)
  | getObj r k ih => exact fun h => by cases n <;> cases h
  | setObj r o k ih => exact fun h => by cases n <;> cases h
  | choose q k ih => exact fun h => by cases n <;> cases m <;> exact fun x => ih x (h x)
  | sys c k ih => exact fun h => by cases n <;> cases h
  | program k ih => exact fun h => by cases n <;> cases m <;> exact ih p h
  | mark z k ih => exact fun h => by cases n <;> cases m <;> exact ih h
  | halt h => exact fun _ => by cases n <;> cases m <;> trivial
def EvP (es : Array Event) (e : Event) : Prop := e ∈ es ∨ (∃ a wr, e = ⟨.cell a, wr, false⟩) ∨ ∃ m, e = ⟨.mark m, false, true⟩
theorem evp_push {es : Array Event} {x : Event} (hx : (∃ a wr, x = ⟨.cell a, wr, false⟩) ∨ ∃ m, x = ⟨.mark m, false, true⟩) {e : Event} (h : EvP (es.push x) e) : EvP es e := by
  rcases h with h | h
  · rcases Array.mem_push.1 h with h | rfl
    · exact .inl h
    · exact .inr hx
  · exact .inr h
theorem evp_app {es : Array Event} {ts : List Addr} {wr : Bool} {e : Event} (h : EvP (es ++ ts.toArray.map (⟨.cell ·, wr, false⟩)) e) : EvP es e := by
  rcases h with h | h
  · rcases Array.mem_append.1 h with h | h
    · exact .inl h
    · obtain ⟨t, -, rfl⟩ := Array.mem_map.1 h
      exact .inr (.inl ⟨_, _, rfl⟩)
  · exact .inr h
theorem farStore_size {p : Program} {w w' : World} {a : Addr} {v : Value} {b : Bool} {ts : List Addr} (h : w.farStore p a v b = .ok (w', ts)) : w'.heap.size = w.heap.size := by
  unfold World.farStore at h
  split at h
  · split at h
    · rename_i r hr
      cases h
      obtain ⟨-, -, c, e, f, rfl, -⟩ := viewStore_ok (SameLay.refl p) hr
      simp
    · cases h
  · cases h
theorem pl_run {p : Program} {α : Type} {s : Sem α} : ∀ {n : Nat} {w : World} {es : Array Event} {a : α} {w' : World} {es' : Array Event}, Pl p n s → s.runT p w es = (.ok a w', es') → w'.heap.size ≤ w.heap.size + n ∧ ∀ e ∈ es', EvP es e := by
  induction s with
  | pure a =>
    intro n w es b w' es' _ h
    simp only [Sem.runT, Prod.mk.injEq, Result.ok.injEq] at h
    obtain ⟨⟨rfl, rfl⟩, rfl⟩ := h
    exact ⟨by omega, fun e he => .inl he⟩
  | load md a k ih =>
    intro n w es b w' es' hp h
    have hp' : md = .plain ∧ ∀ v, Pl p n (k v) := by cases n <;> exact hp
    obtain ⟨rfl, hk⟩ := hp'
    simp only [Sem.runT] at h
    split at h
    · obtain ⟨q1, q2⟩ := ih _ (hk _) h
      exact ⟨q1, fun e he => evp_push (.inl ⟨_, _, rfl⟩) (q2 e he)⟩
    · split at h
      · obtain ⟨q1, q2⟩ := ih _ (hk _) h
        exact ⟨q1, fun e he => evp_app (q2 e he)⟩
      · cases h
  | store md a v k ih =>
    intro n w es b w' es' hp h
    have hp' : md = .plain ∧ Pl p n k := by cases n <;> exact hp
    obtain ⟨rfl, hk⟩ := hp'
    have main : ((∃ y, w.cell? a = some y ∧ ¬ w.frozen? a = true) ∧ k.runT p (w.setCell a v) (es.push ⟨.cell a, true, false⟩) = (.ok b w', es')) ∨ (∃ w2 ts, w.farStore p a v false = .ok (w2, ts) ∧ k.runT p w2 (es ++ ts.toArray.map (⟨.cell ·, true, false⟩)) = (.ok b w', es')) := by
      cases v <;> simp only [Sem.runT] at h <;> first | (cases h; done) | skip
      all_goals
        split at h
        · split at h
          · cases h
          · rename_i hf; exact .inl ⟨⟨_, by assumption, hf⟩, h⟩
        · split at h
          · rename_i hf; exact .inr ⟨_, _, hf, h⟩
          · cases h
    rcases main with ⟨-, h⟩ | ⟨w2, ts, hf, h⟩
    · obtain ⟨q1, q2⟩ := ih hk h
      have : (w.setCell a v).heap.size = w.heap.size := by simp [World.setCell]
      exact ⟨by omega, fun e he => evp_push (.inl ⟨_, _, rfl⟩) (q2 e he)⟩
    · obtain ⟨q1, q2⟩ := ih hk h
      have := farStore_size hf
      exact ⟨by omega, fun e he => evp_app (q2 e he)⟩
  | new o k ih =>
    intro n w es b w' es' hp h
    cases n with
    | zero => cases hp
    | succ n =>
      simp only [Sem.runT] at h
      obtain ⟨q1, q2⟩ := ih _ (hp _) h
      simp only [Array.size_push] at q1
      exact ⟨by omega, q2⟩
  | shape r k ih =>
    intro n w es b w' es' hp h
    have hk : ∀ x, Pl p n (k x) := by cases n <;> exact hp
    exact ih _ (hk _) h
  | freeze a z k ih =>
    intro n w es b w' es' hp h
    have hk : Pl p n k := by cases n <;> exact hp
    obtain ⟨q1, q2⟩ := ih hk h
    have : (w.freeze a z).heap.size = w.heap.size := by unfold World.freeze; split <;> simp
    exact ⟨by omega, q2⟩
  | frozen a k ih =>
    intro n w es b w' es' hp h
    have hk : ∀ x, Pl p n (k x) := by cases n <;> exact hp
    exact ih _ (hk _) h
  | getObj r k ih => intro n w es b w' es' hp; cases n <;> cases hp
  | setObj r o k ih => intro n w es b w' es' hp; cases n <;> cases hp
  | choose q k ih =>
    intro n w es b w' es' hp h
    have hk : ∀ x, Pl p n (k x) := by cases n <;> exact hp
    simp only [Sem.runT] at h
    split at h
    · exact ih _ (hk _) h
    · exact ih (w := { w with drawn := w.drawn + 1 }) _ (hk _) h
  | sys c k ih => intro n w es b w' es' hp; cases n <;> cases hp
  | program k ih =>
    intro n w es b w' es' hp h
    have hk : Pl p n (k p) := by cases n <;> exact hp
    exact ih p hk h
  | mark z k ih =>
    intro n w es b w' es' hp h
    have hk : Pl p n k := by cases n <;> exact hp
    obtain ⟨q1, q2⟩ := ih hk h
    exact ⟨q1, fun e he => evp_push (.inr ⟨_, rfl⟩) (q2 e he)⟩
  | halt x => intro n w es b w' es' _ h; cases h

/-! ### buildSlice, append -/
section
variable {p : Program} {α β : Type} {n : Nat}
theorem pl_pure (a : α) : Pl p n (pure a : Sem α) := by cases n <;> trivial
theorem pl_stuck (w : String) : Pl p n (stuck w : Sem α) := by cases n <;> trivial
theorem pl_unsup (u : Unsupported) : Pl p n (unsupported u : Sem α) := by cases n <;> trivial
theorem pl_b0 {s : Sem α} {f : α → Sem β} (h : Pl p 0 s) (k : ∀ a, Pl p n (f a)) : Pl p n (s >>= f) := by have := Pl.bind k h; rwa [Nat.zero_add] at this
theorem pl_ite {c : Prop} [Decidable c] {a b : Sem α} (h : Pl p n a) (k : Pl p n b) : Pl p n (if c then a else b) := by split <;> assumption
theorem pl_error (m : String) : Pl p n (runtimePanic (.error m) : Sem α) := by cases n <;> trivial
theorem pl_info (t : TypeId) : Pl p 0 (typeInfo t) := by
  show Pl p 0 (match p.info? t with | some i => pure i | none => stuck "no such type" : Sem TypeInfo)
  cases p.info? t <;> trivial
theorem pl_under (t : TypeId) : Pl p 0 (underlying t) := by
  show Pl p 0 (match p.underlying t with | some i => pure i | none => stuck "no such type" : Sem TypeDesc)
  cases p.underlying t <;> trivial
theorem pl_size (t : TypeId) : Pl p 0 (sizeOf t) := pl_b0 (pl_info t) fun i => pl_pure _
theorem pl_zero (t : TypeId) : Pl p 0 (zeroValue t) := by
  unfold zeroValue
  refine pl_b0 (pl_info t) fun i => ?_
  split <;> trivial
theorem pl_row (t : TypeId) (c : Array Value) : Pl p 1 (newRow t c) := fun r => trivial
theorem pl_loadFrom (a : Addr) : ∀ (m i : Nat) (acc : Array Value), Pl p 0 (loadCellsFrom a i m acc)
  | 0, i, acc => trivial
  | m + 1, i, acc => by
    unfold loadCellsFrom
    exact ⟨rfl, fun v => pl_loadFrom a m (i + 1) _⟩
theorem pl_loads (a : Addr) (m : Nat) : Pl p 0 (loadCells a m) := pl_loadFrom a m 0 _
theorem pl_stores (a : Addr) : ∀ (vs : List Value) (i : Nat), Pl p 0 (storeCells a vs i)
  | [], i => trivial
  | v :: rest, i => by
    unfold storeCells
    exact ⟨rfl, pl_stores a rest (i + 1)⟩
theorem pl_at {t : TypeId} {u : TypeDesc} (h : p.underlying t = some u) {f : TypeDesc → Sem α} (hf : Pl p n (f u)) : Pl p n (underlying t >>= f) := by
  have e : (underlying t >>= f) = Sem.program fun p => ((match p.underlying t with | some d => pure d | none => stuck "no such type" : Sem TypeDesc) >>= f) := rfl
  rw [e]
  have k : Pl p n ((match p.underlying t with | some d => pure d | none => stuck "no such type" : Sem TypeDesc) >>= f) := by rw [h]; exact hf
  cases n <;> exact k
theorem pl_pureb {a : α} {f : α → Sem β} (h : Pl p n (f a)) : Pl p n (pure a >>= f) := h
theorem pl_rowb (t : TypeId) (c : Array Value) (f : Addr → α) : Pl p 1 (newRow t c >>= fun r => pure (f r)) := Pl.bind (n := 1) (m := 0) (fun _ => pl_pure _) (pl_row _ _)
theorem pl_lenOf (x : Value) : Pl p 0 (Builtin.lenOf x) := by
  unfold Builtin.lenOf
  split <;> trivial
theorem pl_first (s m : Nat) (x : Value) : Pl p 0 (Builtin.firstCells s m x) := by
  unfold Builtin.firstCells
  split
  · exact pl_loads _ _
  · trivial
  · trivial
  · trivial
theorem pl_mark (m : Mark) : Pl p 0 (mark m) := trivial
theorem pl_choose (q : Question) : Pl p 0 (choose q) := fun _ => trivial
theorem pl_room (b : Nat) : Pl p 0 (askRoom b) := by
  unfold askRoom
  exact pl_ite (pl_mark _) (pl_pure _)
theorem pl_holds (a : Addr) (m : Nat) : Pl p 0 (Builtin.holdsCells a m) := fun x => by cases x <;> trivial
theorem pl_share (s l m : Nat) (b : Option Addr) (x : Value) : Pl p 0 (Builtin.mayShare s l m b x) := by
  unfold Builtin.mayShare
  have go : ∀ there : Bool, Pl p 0 (if (!there) = true then pure true
      else
        match x with
        | Value.slice (some b_1) len cap => do
          let __do_lift ← Builtin.holdsCells b_1 (m * s)
          pure (!__do_lift || Option.any (fun x => x.block == b_1.block) b)
        | x => pure false : Sem Bool) := fun there => by
    split
    · trivial
    · split
      · exact pl_b0 (pl_holds _ _) fun _ => trivial
      · trivial
  cases b with
  | none => exact go true
  | some a => exact pl_b0 (pl_holds _ _) fun _ => pl_b0 (s := frozen (a.add (l / 2 * s))) (fun _ => trivial) fun _ => go _
theorem pl_fill {t : TypeId} {m : Nat} {o : Option (Array Value)} : Pl p 1 (match o with
    | some cells => do
      let a ← newRow t cells
      pure (Value.slice (some a) m m)
    | x => stuck "buildSlice: a part of the wrong size" : Sem Value) := by
  cases o
  · exact pl_stuck _
  · exact pl_rowb _ _ _
theorem pl_buildSlice (t : TypeId) (m : Nat) (ps : Array (Nat × Value)) : Pl p 1 (Instr.buildSlice t m ps) := by
  unfold Instr.buildSlice
  refine pl_b0 (pl_under t) fun u => ?_
  cases u
  case slice e =>
    refine pl_b0 (pl_size _) fun z => pl_ite (pl_b0 (pl_unsup _) fun _ => ?_) ?_
    all_goals exact pl_ite (pl_b0 (pl_pure _) fun _ => pl_fill) (pl_b0 (pl_zero _) fun _ => pl_b0 (pl_pure _) fun _ => pl_fill)
  all_goals exact pl_stuck _
theorem pl_limit (s l m : Nat) (b : Option Addr) (x : Value) (why : String) : Pl p 0 (do
      if !(← Builtin.mayShare s l m b x) then mark .noRoom
      unsupported (.resourceLimit why) : Sem α) := by
  refine pl_b0 (pl_share s l m b x) fun z => ?_
  exact pl_ite (pl_b0 (pl_mark _) fun _ => pl_unsup _) (pl_unsup _)
theorem pl_append {t e : TypeId} (h : p.underlying t = some (.slice e)) (u : TypeId) (s x : Value) : Pl p 1 (Builtin.append_ #[t, t] u #[s, x]) := by
  unfold Builtin.append_
  simp only [List.getElem?_toArray, List.getElem?_cons_zero, List.getElem?_cons_succ]
  refine pl_at h ?_
  cases s
  case slice base sLen sCap =>
    refine pl_b0 (pl_size _) fun size => pl_at h ?_
    refine pl_pureb ?_
    simp only [Bool.false_eq_true, if_false, Bool.not_false, if_true, ↓reduceIte, false_or]
    repeat' first
      | with_reducible exact pl_pure _ | with_reducible exact pl_stuck _ | with_reducible exact pl_unsup _ | with_reducible exact pl_error _ | with_reducible exact pl_rowb _ _ _
      | with_reducible refine pl_ite ?_ ?_
      | with_reducible refine pl_b0 (pl_info _) (fun _ => ?_) | with_reducible refine pl_b0 (pl_zero _) (fun _ => ?_) | with_reducible refine pl_b0 (pl_lenOf _) (fun _ => ?_) | with_reducible refine pl_b0 (pl_first _ _ _) (fun _ => ?_)
      | with_reducible refine pl_b0 (pl_mark _) (fun _ => ?_) | with_reducible refine pl_b0 (pl_choose _) (fun _ => ?_) | with_reducible refine pl_b0 (pl_room _) (fun _ => ?_) | with_reducible refine pl_b0 (pl_share _ _ _ _ _) (fun _ => ?_) | with_reducible refine pl_b0 (pl_stores _ _ _) (fun _ => ?_)
      | with_reducible refine pl_b0 (pl_limit _ _ _ _ _ _) (fun _ => ?_) | with_reducible refine pl_b0 (pl_error _) (fun _ => ?_) | with_reducible refine pl_b0 (pl_unsup _) (fun _ => ?_) | with_reducible refine pl_b0 (pl_pure _) (fun _ => ?_)
      | split
  all_goals exact pl_stuck _
end
end Go.Sim
end
