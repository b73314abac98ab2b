/- Two worlds that part in hidden blocks alone, and a program that never looks at one: the two runs of one piece of the model's semantics are alike. No program of ours in sight. -/
import Derived.Calls
import Derived.Laws.Sem
set_option linter.unusedVariables false
set_option linter.unusedSimpArgs false
section
namespace Go.Sim
open Go

/-! ### worlds that part in hidden blocks -/
/-- What may lie in a world that nobody looks at sideways. -/
def okObj : Obj → Bool
  | .pending .. | .loop _ => false
  | _ => true
/-- What the lone run's world holds in a hidden block. -/
def hidO : Obj := .stringIter .empty 0
/-- What the true one may hold there. -/
inductive HidObj : Obj → Prop
  | cells (c : Array Value) (t : TypeId) : 0 < c.size → HidObj (.cells c t (0, 0))
  | chan (n : Nat) (b : Array Value) (c : Bool) (s r : Nat) (tm : Bool) : HidObj (.chan n b c s r tm)
  | pending (c : Array Value) (t : TypeId) : HidObj (.pending c t)
  | loop (l : Loop) : HidObj (.loop l)
/-- The hidden blocks; of how many blocks it is known what the true world holds in those of them that are hidden, and what. -/
structure HSet where
  s : Nat → Prop
  n : Nat
  o : Nat → Option Obj
instance : CoeFun HSet (fun _ => Nat → Prop) := ⟨HSet.s⟩
/-- More is hidden, of the same. -/
def HExt (H H' : HSet) : Prop := H'.n = H.n ∧ H'.o = H.o ∧ ∀ b, H b → H' b
theorem HExt.refl (H : HSet) : HExt H H := ⟨rfl, rfl, fun _ h => h⟩
theorem HExt.trans {H H' H2 : HSet} (h : HExt H H') (k : HExt H' H2) : HExt H H2 := ⟨k.1.trans h.1, k.2.1.trans h.2.1, fun b hb => k.2.2 b (h.2.2 b hb)⟩
structure Hid (H : HSet) (v w : World) : Prop where
  tape : v.tape = w.tape
  drawn : v.drawn = w.drawn
  os : v.os = w.os
  output : v.output = w.output
  size : v.heap.size = w.heap.size
  same : ∀ b, ¬ H b → v.heap[b]? = w.heap[b]?
  hid : ∀ b, H b → v.heap[b]? = some hidO ∧ ∃ o, w.heap[b]? = some o ∧ HidObj o ∧ (b < H.n → H.o b = some o)
  low : H.n ≤ w.heap.size
  ok : ∀ (b : Nat) (o : Obj), v.heap[b]? = some o → okObj o = true
theorem Hid.lt {H : HSet} {v w : World} (h : Hid H v w) {b : Nat} (hb : H b) : b < v.heap.size := (Array.getElem?_eq_some_iff.1 (h.hid b hb).1).1

/-! ### what a step lists -/
/-- An entry: a cell of a block that is not hidden; an object; or a mark of no weight. -/
def EvOk (H : HSet) (n : Nat) (e : Event) : Prop :=
  match e.loc with
  | .cell a => ¬ H a.block ∧ a.block < n
  | .obj r => r < n
  | .mark m => m = .noRoom ∨ ∃ f, m = .extern f
  | _ => False
theorem EvOk.mono {H : HSet} {n n' : Nat} (h : n ≤ n') {e : Event} (he : EvOk H n e) : EvOk H n' e := by
  unfold EvOk at *
  split at he
  · exact ⟨he.1, Nat.lt_of_lt_of_le he.2 h⟩
  · exact Nat.lt_of_lt_of_le he h
  · exact he
  · exact he
/-- A run that ends so comes back never. -/
def Dead : Halt → Prop
  | .panic _ | .stuck _ => True
  | .unsupported (.initOrder _) => False
  | .unsupported _ => True
  | _ => False
def OkWorld (v : World) : Prop := ∀ (b : Nat) (o : Obj), v.heap[b]? = some o → okObj o = true
/-- It ends, and comes back never. -/
def Doomed (Q : Program) {α : Type} (s : Sem α) : Prop := ∀ v, OkWorld v → ∃ h v', s.run Q v = .halt h v' ∧ Dead h

/-- .. from a world in which block r has no shape. -/
def DoomedN (Q : Program) (r : Nat) {α : Type} (s : Sem α) : Prop := ∀ v, OkWorld v → v.shape? r = none → ∃ h v', s.run Q v = .halt h v' ∧ Dead h
theorem Doomed.n {Q : Program} {α : Type} {s : Sem α} (h : Doomed Q s) (r : Nat) : DoomedN Q r s := fun v hv _ => h v hv
def add (M : Nat → Prop) (r : Nat) : Nat → Prop := fun b => M b ∨ b = r
/-- A piece of the semantics that never looks at a hidden block but ends of it, or is the same without it. M: blocks that are not hidden; N: blocks that are not hidden ones of cells. -/
def Fine (Q P : Program) {α : Type} (M N : Nat → Prop) : Sem α → Prop
  | .pure _ => True
  | .load _ a k => ∀ v, Fine Q P (add M a.block) N (k v)
  | .store _ a _ k => Fine Q P (add M a.block) N k
  | .new o k => okObj o = true ∧ ∀ r, Fine Q P (add M r) N (k r)
  | .shape r k => (∀ t n, Fine Q P (add M r) N (k (some (t, n)))) ∧ Fine Q P M (add N r) (k none) ∧
      (M r ∨ N r ∨ ∀ t n, (Fine Q P M N (k none) ∧ k none = k (some (t, n + 1))) ∨ DoomedN Q r (k none) ∨ (Fine Q P M N (k (some (t, n + 1))) ∧ ∃ g, k none = .getObj r g ∧ g hidO = k (some (t, n + 1))) ∨
        (Fine Q P M N (k none) ∧ ∃ off sp g, k (some (t, n + 1)) = .frozen ⟨r, off, sp⟩ g ∧ g false = k none))
  | .freeze a _ k => M a.block ∧ Fine Q P M N k
  | .frozen _ k => ∀ b, Fine Q P M N (k b)
  | .getObj r k => (∀ o, okObj o = true → o ≠ hidO → Fine Q P (add M r) N (k o)) ∧ Fine Q P M (add N r) (k hidO) ∧ (M r ∨ Doomed Q (k hidO) ∨ (N r ∧ (∀ n b c s r' tm, k hidO = k (.chan n b c s r' tm)) ∧ (∀ c t, k hidO = k (.pending c t)) ∧ ∀ l, k hidO = k (.loop l)))
  | .setObj r o k => M r ∧ okObj o = true ∧ (∀ c t f, o ≠ .cells c t f) ∧ Fine Q P M N k
  | .choose _ k => ∀ n, Fine Q P M N (k n)
  | .sys _ _ => False
  | .program k => k Q = k P ∧ Fine Q P M N (k P)
  | .mark m k => (m = .noRoom ∨ ∃ f, m = .extern f) ∧ Fine Q P M N k
  | .halt h => Dead h

theorem Doomed.bind {Q : Program} {α β : Type} {s : Sem α} (h : Doomed Q s) (f : α → Sem β) : Doomed Q (s.bind f) := by
  intro v hv
  obtain ⟨e, v', hr, hd⟩ := h v hv
  exact ⟨e, v', by rw [Sem.run_bind', hr]; rfl, hd⟩
theorem DoomedN.bind {Q : Program} {r : Nat} {α β : Type} {s : Sem α} (h : DoomedN Q r s) (f : α → Sem β) : DoomedN Q r (s.bind f) := by
  intro v hv hr
  obtain ⟨e, v', hr, hd⟩ := h v hv hr
  exact ⟨e, v', by rw [Sem.run_bind', hr]; rfl, hd⟩
theorem add_mono {M M' : Nat → Prop} (h : ∀ b, M b → M' b) (r : Nat) : ∀ b, add M r b → add M' r b := fun b x => x.imp (h b) id
theorem add_sub (M : Nat → Prop) (r : Nat) : ∀ b, M b → add M r b := fun b x => .inl x
theorem Fine.mono {Q P : Program} {α : Type} {s : Sem α} : ∀ {M N M' N' : Nat → Prop}, Fine Q P M N s → (∀ b, M b → M' b) → (∀ b, N b → N' b) → Fine Q P M' N' s := by
  induction s with
  | pure a => exact fun _ _ _ => trivial
  | load m a k ih => exact fun hs hM hN v => ih v (hs v) (add_mono hM _) hN
  | store m a v k ih => exact fun hs hM hN => ih hs (add_mono hM _) hN
  | new o k ih => exact fun hs hM hN => ⟨hs.1, fun r => ih r (hs.2 r) (add_mono hM _) hN⟩
  | shape r k ih =>
    exact fun hs hM hN => ⟨fun t n => ih _ (hs.1 t n) (add_mono hM _) hN, ih _ hs.2.1 hM (add_mono hN _), hs.2.2.imp (hM r) fun h => h.imp (hN r) fun h t n =>
      (h t n).imp (fun x => ⟨ih _ x.1 hM hN, x.2⟩) fun h => h.imp id fun h => h.imp (fun x => ⟨ih _ x.1 hM hN, x.2⟩) fun x => ⟨ih _ x.1 hM hN, x.2⟩⟩
  | freeze a n k ih => exact fun hs hM hN => ⟨hM _ hs.1, ih hs.2 hM hN⟩
  | frozen a k ih => exact fun hs hM hN b => ih b (hs b) hM hN
  | getObj r k ih => exact fun hs hM hN => ⟨fun o ho hn => ih o (hs.1 o ho hn) (add_mono hM _) hN, ih _ hs.2.1 hM (add_mono hN _), hs.2.2.imp (hM r) fun h => h.imp id fun x => ⟨hN r x.1, x.2⟩⟩
  | setObj r o k ih => exact fun hs hM hN => ⟨hM r hs.1, hs.2.1, hs.2.2.1, ih hs.2.2.2 hM hN⟩
  | choose q k ih => exact fun hs hM hN n => ih n (hs n) hM hN
  | sys c k ih => exact fun hs _ _ => hs
  | program k ih => exact fun hs hM hN => ⟨hs.1, ih P hs.2 hM hN⟩
  | mark m k ih => exact fun hs hM hN => ⟨hs.1, ih hs.2 hM hN⟩
  | halt h => exact fun hs _ _ => hs
theorem Fine.bind {Q P : Program} {α β : Type} {s : Sem α} : ∀ {M N : Nat → Prop}, Fine Q P M N s → ∀ {f : α → Sem β}, (∀ a, Fine Q P M N (f a)) → Fine Q P M N (s.bind f) := by
  induction s with
  | pure a => exact fun _ f hf => hf a
  | load m a k ih => exact fun hs f hf v => ih v (hs v) fun x => (hf x).mono (add_sub _ _) fun _ y => y
  | store m a v k ih => exact fun hs f hf => ih hs fun x => (hf x).mono (add_sub _ _) fun _ y => y
  | new o k ih => exact fun hs f hf => ⟨hs.1, fun r => ih r (hs.2 r) fun x => (hf x).mono (add_sub _ _) fun _ y => y⟩
  | shape r k ih =>
    exact fun hs f hf => ⟨fun t n => ih _ (hs.1 t n) fun x => (hf x).mono (add_sub _ _) fun _ y => y, ih _ hs.2.1 fun x => (hf x).mono (fun _ y => y) (add_sub _ _), hs.2.2.imp id fun h => h.imp id fun h t n =>
      (h t n).imp (fun x => ⟨ih _ x.1 hf, congrArg (fun z => Sem.bind z f) x.2⟩) fun h => h.imp (fun x => x.bind f) fun h => h.imp
        (fun ⟨x, g, h1, h2⟩ => ⟨ih _ x hf, fun o => (g o).bind f, congrArg (fun z => Sem.bind z f) h1, congrArg (fun z => Sem.bind z f) h2⟩) (fun ⟨x, off, sp, g, h1, h2⟩ => ⟨ih _ x hf, off, sp, fun o => (g o).bind f, congrArg (fun z => Sem.bind z f) h1, congrArg (fun z => Sem.bind z f) h2⟩)⟩
  | freeze a n k ih => exact fun hs f hf => ⟨hs.1, ih hs.2 hf⟩
  | frozen a k ih => exact fun hs f hf b => ih b (hs b) hf
  | getObj r k ih =>
    exact fun hs f hf => ⟨fun o ho hn => ih o (hs.1 o ho hn) fun x => (hf x).mono (add_sub _ _) fun _ y => y, ih _ hs.2.1 fun x => (hf x).mono (fun _ y => y) (add_sub _ _),
      hs.2.2.imp id fun h => h.imp (fun x => x.bind f) fun x => ⟨x.1, fun n b c s r' tm => congrArg (fun z => Sem.bind z f) (x.2.1 n b c s r' tm), fun c t => congrArg (fun z => Sem.bind z f) (x.2.2.1 c t), fun l => congrArg (fun z => Sem.bind z f) (x.2.2.2 l)⟩⟩
  | setObj r o k ih => exact fun hs f hf => ⟨hs.1, hs.2.1, hs.2.2.1, ih hs.2.2.2 hf⟩
  | choose q k ih => exact fun hs f hf n => ih n (hs n) hf
  | sys c k ih => exact fun hs f hf => hs
  | program k ih => exact fun hs f hf => ⟨congrArg (fun z => Sem.bind z f) hs.1, ih P hs.2 hf⟩
  | mark m k ih => exact fun hs f hf => ⟨hs.1, ih hs.2 hf⟩
  | halt h => exact fun hs f hf => hs

/-! ### memory that is seen as another type -/
theorem seen_cells {p : Program} {w : World} {a : Addr} {u : TypeId} {k : Addr} {b : Bool} {r} (h : World.seen p w a u k b = .ok r) : ∃ c e f, w.heap[a.block]? = some (.cells c e f) := by
  cases hh : w.heap[a.block]? with
  | none =>
    exfalso
    unfold World.seen at h
    simp only [hh, bind, Except.bind, throw, throwThe, MonadExceptOf.throw, pure, Except.pure] at h
    repeat' split at h
    all_goals cases h
  | some o =>
    cases o with
    | cells c e f => exact ⟨c, e, f, rfl⟩
    | _ =>
      exfalso
      unfold World.seen at h
      simp only [hh, bind, Except.bind, throw, throwThe, MonadExceptOf.throw, pure, Except.pure] at h
      repeat' split at h
      all_goals cases h
theorem seen_heap {p : Program} {w w' : World} {a : Addr} (u : TypeId) (k : Addr) (b : Bool) (h : w'.heap[a.block]? = w.heap[a.block]?) : World.seen p w' a u k b = World.seen p w a u k b := by
  unfold World.seen
  rw [h]
/-- What is seen is laid out alike in both programs. -/
structure SameLay (Q P : Program) : Prop where
  seen : ∀ w a u k b, World.seen Q w a u k b = World.seen P w a u k b
  tight : ∀ u, tight Q Q.depth u = tight P P.depth u
theorem SameLay.refl (P : Program) : SameLay P P := ⟨fun _ _ _ _ _ => rfl, fun _ => rfl⟩
theorem viewLoad_ok {Q P : Program} (L : SameLay Q P) {v : World} {a : Addr} {u : TypeId} {k : Addr} {b : Bool} {x : Value} {ts : List Addr} (h : v.viewLoad Q a u k b = .ok (x, ts)) :
    (∃ c e f, v.heap[a.block]? = some (.cells c e f)) ∧ (∀ t ∈ ts, t.block = a.block) ∧ ∀ w : World, w.heap[a.block]? = v.heap[a.block]? → w.viewLoad P a u k b = .ok (x, ts) := by
  unfold World.viewLoad at h
  cases hs : World.seen Q v a u k b with
  | error e => rw [hs] at h; cases h
  | ok r =>
    refine ⟨seen_cells hs, ?_, fun w hw => ?_⟩
    · obtain ⟨c, e, f, first, like, cells⟩ := r
      rw [hs] at h
      simp only [bind, Except.bind, throw, throwThe, MonadExceptOf.throw, pure, Except.pure] at h
      split at h
      · cases h
        intro t ht
        obtain ⟨y, -, rfl⟩ := List.mem_map.1 ht
        rfl
      · cases h
    · unfold World.viewLoad
      rw [seen_heap u k b hw, ← L.seen]
      exact h
theorem viewStore_ok {Q P : Program} (L : SameLay Q P) {v v' : World} {a : Addr} {u : TypeId} {k : Addr} {b : Bool} {x : Value} {ts : List Addr} (h : v.viewStore Q a u k x b = .ok (v', ts)) :
    (∃ c e f, v.heap[a.block]? = some (.cells c e f)) ∧ (∀ t ∈ ts, t.block = a.block) ∧ ∃ c e f, v' = { v with heap := v.heap.setIfInBounds a.block (.cells c e f) } ∧
      ∀ w : World, w.heap[a.block]? = v.heap[a.block]? → w.viewStore P a u k x b = .ok ({ w with heap := w.heap.setIfInBounds a.block (.cells c e f) }, ts) := by
  unfold World.viewStore at h
  simp only [bind, Except.bind, throw, throwThe, MonadExceptOf.throw, pure, Except.pure] at h
  cases ht : tight Q Q.depth u with
  | false => simp [ht] at h
  | true =>
    rw [ht] at h
    simp only [Bool.not_true, Bool.false_eq_true, if_false] at h
    cases hs : World.seen Q v a u k b with
    | error e => rw [hs] at h; cases h
    | ok r =>
      obtain ⟨c, e, f, first, like, cells⟩ := r
      rw [hs] at h
      simp only at h
      cases hb : x.bytes? with
      | none => rw [hb] at h; cases h
      | some bytes =>
        rw [hb] at h
        simp only at h
        by_cases hn : some bytes.length ≠ like.bytes?.map (·.length)
        · rw [if_pos hn] at h; cases h
        · rw [if_neg hn] at h
          split at h
          · cases h
          · rename_i c2 hc
            cases h
            refine ⟨seen_cells hs, fun t ht => ?_, c2, e, f, rfl, fun w hw => ?_⟩
            · obtain ⟨y, -, rfl⟩ := List.mem_map.1 ht
              rfl
            · unfold World.viewStore
              rw [seen_heap u k b hw, ← L.seen, hs, ← L.tight, ht]
              simp only [bind, Except.bind, throw, throwThe, MonadExceptOf.throw, pure, Except.pure, Bool.not_true, Bool.false_eq_true, if_false, hb, if_neg hn]
              rw [hc]

/-! ### the two worlds, step by step -/
section
variable {H : HSet} {v w : World}
theorem Hid.cell_some (h : Hid H v w) {a : Addr} {x : Value} (e : v.cell? a = some x) : ¬ H a.block ∧ w.cell? a = some x ∧ a.block < w.heap.size := by
  have nh : ¬ H a.block := by
    intro hb
    unfold World.cell? at e
    rw [(h.hid _ hb).1] at e
    cases e
  refine ⟨nh, by unfold World.cell? at *; rw [← h.same _ nh]; exact e, ?_⟩
  rw [← h.size]
  unfold World.cell? at e
  split at e
  · rename_i e1
    exact (Array.getElem?_eq_some_iff.1 e1).1
  · cases e
theorem OkWorld.noCell (h : OkWorld v) (a : Addr) (what : String) : Dead (v.noCell a what) := by
  unfold World.noCell
  split
  · rename_i e; exact absurd (h _ _ e) (by simp [okObj])
  · trivial
  · trivial
theorem OkWorld.farLoad (h : OkWorld v) {Q P : Program} (L : SameLay Q P) (a : Addr) (at_ : Bool) : (∃ e, v.farLoad Q a at_ = .error e ∧ Dead e ∧ ∀ w : World, w.heap = v.heap → w.farLoad Q a at_ = .error e) ∨
    ∃ x ts s u, v.farLoad Q a at_ = .ok (x, ts) ∧ v.heap[a.block]? = some (.view s u) ∧ (∃ c e f, v.heap[s.block]? = some (.cells c e f)) ∧ (∀ t ∈ ts, t.block = s.block) ∧
      ∀ w : World, w.heap[a.block]? = v.heap[a.block]? → w.heap[s.block]? = v.heap[s.block]? → w.farLoad P a at_ = .ok (x, ts) := by
  have key : ∀ s u, v.heap[a.block]? = some (.view s u) → ∀ r, v.viewLoad Q s u a at_ = r → (∃ e, v.farLoad Q a at_ = .error e ∧ Dead e ∧ ∀ w : World, w.heap = v.heap → w.farLoad Q a at_ = .error e) ∨
      ∃ x ts s u, v.farLoad Q a at_ = .ok (x, ts) ∧ v.heap[a.block]? = some (.view s u) ∧ (∃ c e f, v.heap[s.block]? = some (.cells c e f)) ∧ (∀ t ∈ ts, t.block = s.block) ∧
        ∀ w : World, w.heap[a.block]? = v.heap[a.block]? → w.heap[s.block]? = v.heap[s.block]? → w.farLoad P a at_ = .ok (x, ts) := by
    intro s u e r hr
    cases r with
    | error why =>
      refine .inl ⟨.unsupported (.unsafePointer why), by unfold World.farLoad; simp only [e, hr], trivial, fun w hw => ?_⟩
      have e2 : w.heap[a.block]? = some (.view s u) := by rw [hw]; exact e
      have e3 : w.viewLoad Q s u a at_ = v.viewLoad Q s u a at_ := by unfold World.viewLoad World.seen; rw [hw]
      unfold World.farLoad
      simp only [e2, e3, hr]
    | ok p =>
      obtain ⟨x, ts⟩ := p
      obtain ⟨hc, ht, hw⟩ := viewLoad_ok L hr
      refine .inr ⟨x, ts, s, u, by unfold World.farLoad; simp only [e, hr], e, hc, ht, fun w g1 g2 => ?_⟩
      unfold World.farLoad
      rw [g1, e]
      simp only [hw w g2]
  cases e : v.heap[a.block]? with
  | none =>
    refine .inl ⟨v.noCell a "load: no such cell", by unfold World.farLoad; simp only [e], h.noCell a _, fun w hw => ?_⟩
    unfold World.farLoad World.noCell
    simp only [hw, e]
  | some o =>
    cases o with
    | view s u =>
      have := key s u e _ rfl
      rw [e] at this
      exact this
    | _ =>
      refine .inl ⟨v.noCell a "load: no such cell", by unfold World.farLoad; simp only [e], h.noCell a _, fun w hw => ?_⟩
      unfold World.farLoad World.noCell
      simp only [hw, e]
theorem OkWorld.farStore (h : OkWorld v) {Q P : Program} (L : SameLay Q P) (a : Addr) (y : Value) (at_ : Bool) : (∃ e, v.farStore Q a y at_ = .error e ∧ Dead e ∧ ∀ w : World, w.heap = v.heap → w.farStore Q a y at_ = .error e) ∨
    ∃ c e f ts s u, v.farStore Q a y at_ = .ok ({ v with heap := v.heap.setIfInBounds s.block (.cells c e f) }, ts) ∧ v.heap[a.block]? = some (.view s u) ∧ (∃ c e f, v.heap[s.block]? = some (.cells c e f)) ∧ (∀ t ∈ ts, t.block = s.block) ∧
      ∀ w : World, w.heap[a.block]? = v.heap[a.block]? → w.heap[s.block]? = v.heap[s.block]? → w.farStore P a y at_ = .ok ({ w with heap := w.heap.setIfInBounds s.block (.cells c e f) }, ts) := by
  have key : ∀ s u, v.heap[a.block]? = some (.view s u) → ∀ r, v.viewStore Q s u a y at_ = r → (∃ e, v.farStore Q a y at_ = .error e ∧ Dead e ∧ ∀ w : World, w.heap = v.heap → w.farStore Q a y at_ = .error e) ∨
      ∃ c e f ts s u, v.farStore Q a y at_ = .ok ({ v with heap := v.heap.setIfInBounds s.block (.cells c e f) }, ts) ∧ v.heap[a.block]? = some (.view s u) ∧ (∃ c e f, v.heap[s.block]? = some (.cells c e f)) ∧ (∀ t ∈ ts, t.block = s.block) ∧
        ∀ w : World, w.heap[a.block]? = v.heap[a.block]? → w.heap[s.block]? = v.heap[s.block]? → w.farStore P a y at_ = .ok ({ w with heap := w.heap.setIfInBounds s.block (.cells c e f) }, ts) := by
    intro s u e r hr
    cases r with
    | error why =>
      refine .inl ⟨.unsupported (.unsafePointer why), by unfold World.farStore; simp only [e, hr], trivial, fun w hw => ?_⟩
      have e2 : w.heap[a.block]? = some (.view s u) := by rw [hw]; exact e
      cases r2 : w.viewStore Q s u a y at_ with
      | error why2 =>
        have : why2 = why := by
          have e3 : World.seen Q w s u a at_ = World.seen Q v s u a at_ := by unfold World.seen; rw [hw]
          unfold World.viewStore at r2 hr
          rw [e3] at r2
          simp only [bind, Except.bind, throw, throwThe, MonadExceptOf.throw, pure, Except.pure] at r2 hr
          cases ht : tight Q Q.depth u with
          | false => simp [ht] at r2 hr; exact Except.error.inj (r2.symm.trans hr)
          | true =>
            rw [ht] at r2 hr
            simp only [Bool.not_true, Bool.false_eq_true, if_false] at r2 hr
            cases hs : World.seen Q v s u a at_ with
            | error e4 => rw [hs] at r2 hr; simp only at r2 hr; cases r2; cases hr; rfl
            | ok q =>
              obtain ⟨c, e5, f, first, like, cells⟩ := q
              rw [hs] at r2 hr
              simp only at r2 hr
              cases hb : y.bytes? with
              | none => rw [hb] at r2 hr; cases r2; cases hr; rfl
              | some bytes =>
                rw [hb] at r2 hr
                simp only at r2 hr
                by_cases hn : some bytes.length ≠ like.bytes?.map (·.length)
                · rw [if_pos hn] at r2 hr; cases r2; cases hr; rfl
                · rw [if_neg hn] at r2 hr
                  split at r2
                  · rename_i e6 hc
                    cases r2
                    rw [hc] at hr
                    cases hr
                    rfl
                  · cases r2
        unfold World.farStore
        simp only [e2, r2, this]
      | ok p =>
        exfalso
        obtain ⟨w2, ts⟩ := p
        obtain ⟨-, -, c, e5, f, -, g⟩ := viewStore_ok (SameLay.refl Q) r2
        have := g v (by rw [hw])
        rw [hr] at this
        cases this
    | ok p =>
      obtain ⟨v', ts⟩ := p
      obtain ⟨hc, ht, c, e5, f, rfl, hw⟩ := viewStore_ok L hr
      refine .inr ⟨c, e5, f, ts, s, u, by unfold World.farStore; simp only [e, hr], e, hc, ht, fun w g1 g2 => ?_⟩
      unfold World.farStore
      rw [g1, e]
      simp only [hw w g2]
  cases e : v.heap[a.block]? with
  | none =>
    refine .inl ⟨v.noCell a "store: no such cell", by unfold World.farStore; simp only [e], h.noCell a _, fun w hw => ?_⟩
    unfold World.farStore World.noCell
    simp only [hw, e]
  | some o =>
    cases o with
    | view s u =>
      have := key s u e _ rfl
      rw [e] at this
      exact this
    | _ =>
      refine .inl ⟨v.noCell a "store: no such cell", by unfold World.farStore; simp only [e], h.noCell a _, fun w hw => ?_⟩
      unfold World.farStore World.noCell
      simp only [hw, e]
theorem Hid.not_of (h : Hid H v w) {b : Nat} {o : Obj} (e : v.heap[b]? = some o) (n : o ≠ hidO) : ¬ H b := fun hb => n (by rw [(h.hid b hb).1] at e; exact (Option.some.inj e).symm)
theorem Hid.lt_of (h : Hid H v w) {b : Nat} {o : Obj} (e : v.heap[b]? = some o) : b < w.heap.size := by rw [← h.size]; exact (Array.getElem?_eq_some_iff.1 e).1
theorem Hid.okw (h : Hid H v w) : OkWorld v := h.ok
theorem HidObj.notFrozen {o : Obj} (ho : HidObj o) {w : World} {a : Addr} (e : w.heap[a.block]? = some o) : w.frozen? a = false := by
  unfold World.frozen?
  rw [e]
  cases ho <;> simp
theorem Hid.frozen (h : Hid H v w) (a : Addr) : v.frozen? a = w.frozen? a := by
  by_cases hb : H a.block
  · obtain ⟨e1, o, e2, ho, hob⟩ := h.hid _ hb
    rw [ho.notFrozen e2]
    unfold World.frozen?
    rw [e1]
    rfl
  · unfold World.frozen?
    rw [h.same _ hb]
/-- One block, not hidden, is turned alike in both. -/
theorem Hid.modify (h : Hid H v w) (b : Nat) (nb : ¬ H b) (f : Obj → Obj) (hf : ∀ o, okObj o = true → okObj (f o) = true) : Hid H { v with heap := v.heap.modify b f } { w with heap := w.heap.modify b f } := by
  refine ⟨h.tape, h.drawn, h.os, h.output, by simpa using h.size, fun c hc => ?_, fun c hc => ?_, by simpa using h.low, fun c o e => ?_⟩
  · simp only [Array.getElem?_modify]
    rw [h.same c hc]
  · have e : b ≠ c := fun e => nb (e ▸ hc)
    simp only [Array.getElem?_modify, if_neg e]
    exact h.hid c hc
  · simp only [Array.getElem?_modify] at e
    by_cases g : b = c
    · rw [if_pos g] at e
      obtain ⟨o1, e1, rfl⟩ := Option.map_eq_some_iff.1 e
      exact hf _ (h.ok _ _ e1)
    · rw [if_neg g] at e
      exact h.ok _ _ e
theorem Hid.setCell (h : Hid H v w) (a : Addr) (x : Value) (nh : ¬ H a.block) : Hid H (v.setCell a x) (w.setCell a x) :=
  h.modify a.block nh _ fun o ho => by cases o <;> simp_all [okObj]
theorem Hid.freeze (h : Hid H v w) (a : Addr) (n : Nat) (nh : ¬ H a.block) : Hid H (v.freeze a n) (w.freeze a n) := by
  unfold World.freeze
  split
  · exact h
  · exact h.modify a.block nh _ fun o ho => by cases o <;> simp_all [okObj]
theorem Hid.push (h : Hid H v w) (o : Obj) (ho : okObj o = true) : Hid H { v with heap := v.heap.push o } { w with heap := w.heap.push o } := by
  refine ⟨h.tape, h.drawn, h.os, h.output, by simp [h.size], fun c hc => ?_, fun c hc => ?_, by have := h.low; simp; omega, fun c o' e => ?_⟩
  · simp only [Array.getElem?_push, h.size, h.same c hc]
  · obtain ⟨e1, o, e2, ho, hob⟩ := h.hid c hc
    have l := h.lt hc
    refine ⟨?_, o, ?_, ho, hob⟩
    · simp only [Array.getElem?_push]; rw [if_neg (by omega)]; exact e1
    · simp only [Array.getElem?_push]; rw [if_neg (by have := h.size; omega)]; exact e2
  · simp only [Array.getElem?_push] at e
    split at e
    · cases e; exact ho
    · exact h.ok _ _ e
theorem Hid.setObj (h : Hid H v w) (r : Nat) (o : Obj) (ho : okObj o = true) (nh : ¬ H r) : Hid H { v with heap := v.heap.setIfInBounds r o } { w with heap := w.heap.setIfInBounds r o } := by
  refine ⟨h.tape, h.drawn, h.os, h.output, by simpa using h.size, fun c hc => ?_, fun c hc => ?_, by simpa using h.low, fun c o' e => ?_⟩
  · simp only [Array.getElem?_setIfInBounds, h.size, h.same c hc]
  · have g : r ≠ c := fun e => nh (e ▸ hc)
    simp only [Array.getElem?_setIfInBounds_ne g]
    exact h.hid c hc
  · by_cases g : r = c
    · subst g
      rw [Array.getElem?_setIfInBounds] at e
      simp only [if_true] at e
      split at e
      · cases e; exact ho
      · cases e
    · rw [Array.getElem?_setIfInBounds_ne g] at e
      exact h.ok _ _ e
theorem Hid.tick (h : Hid H v w) : Hid H { v with drawn := v.drawn + 1 } { w with drawn := w.drawn + 1 } := ⟨h.tape, by simp [h.drawn], h.os, h.output, h.size, h.same, h.hid, h.low, h.ok⟩
end

/-- What is known of some blocks. -/
structure Known (M N : Nat → Prop) (H : HSet) (w : World) : Prop where
  m : ∀ b, M b → ¬ H b
  n : ∀ b, N b → H b → ∀ c t f, w.heap[b]? ≠ some (.cells c t f)
section
variable {M N : Nat → Prop} {H : HSet} {w w' : World}
theorem Known.addM (h : Known M N H w) {r : Nat} (hr : ¬ H r) : Known (add M r) N H w := ⟨fun b x => x.elim (h.m b) fun e => e ▸ hr, h.n⟩
theorem Known.addN (h : Known M N H w) {r : Nat} (hr : H r → ∀ c t f, w.heap[r]? ≠ some (.cells c t f)) : Known M (add N r) H w := ⟨h.m, fun b x => x.elim (h.n b) fun e => e ▸ hr⟩
theorem Known.world (h : Known M N H w) (hs : ∀ b, H b → w'.heap[b]? = w.heap[b]?) : Known M N H w' := ⟨h.m, fun b x y => by rw [hs b y]; exact h.n b x y⟩
theorem Known.none (H : HSet) (w : World) : Known (fun _ => False) (fun _ => False) H w := ⟨fun _ x => x.elim, fun _ x => x.elim⟩
end

/-- What a piece of the semantics does in both worlds: it yields the same, lists what is well, and the hidden blocks stand; or it ends in the lone run. -/
def Lock (Q P : Program) (H : HSet) {α : Type} (s : Sem α) (v w : World) (es : Array Event) : Prop :=
  (∃ a v' w' es', s.run Q v = .ok a v' ∧ s.runT P w es = (.ok a w', es') ∧ Hid H v' w' ∧ w.heap.size ≤ w'.heap.size ∧ (∀ e ∈ es', e ∈ es ∨ EvOk H w'.heap.size e) ∧ ∀ b, H b → w'.heap[b]? = w.heap[b]?) ∨
  (∃ h v', s.run Q v = .halt h v' ∧ Dead h)
/-- A step of both, then what follows. -/
theorem Lock.step {Q P : Program} {H : HSet} {α : Type} {s s1 : Sem α} {v w v1 w1 : World} {es es1 : Array Event} (e1 : s.run Q v = s1.run Q v1) (e2 : s.runT P w es = s1.runT P w1 es1) (sz : w.heap.size ≤ w1.heap.size)
    (ev : ∀ n, w1.heap.size ≤ n → ∀ e ∈ es1, e ∈ es ∨ EvOk H n e) (st : ∀ b, H b → w1.heap[b]? = w.heap[b]?) (h : Lock Q P H s1 v1 w1 es1) : Lock Q P H s v w es := by
  rcases h with ⟨a, v', w', es', r1, r2, h', sz', ev', st'⟩ | ⟨x, v', r, d⟩
  · exact .inl ⟨a, v', w', es', e1.trans r1, e2.trans r2, h', Nat.le_trans sz sz', fun e he => (ev' e he).elim (ev _ sz' e) .inr, fun b hb => (st' b hb).trans (st b hb)⟩
  · exact .inr ⟨x, v', e1.trans r, d⟩
theorem Lock.dead {Q P : Program} {H : HSet} {α : Type} {s : Sem α} {v w : World} {es : Array Event} (h : ∃ x v', s.run Q v = .halt x v' ∧ Dead x) : Lock Q P H s v w es := .inr h
theorem evs_same {H : HSet} {es : Array Event} (n : Nat) : ∀ e ∈ es, e ∈ es ∨ EvOk H n e := fun e he => .inl he
theorem evs_push {H : HSet} {es : Array Event} {n k : Nat} {x : Event} (hx : EvOk H k x) (h : k ≤ n) : ∀ e ∈ es.push x, e ∈ es ∨ EvOk H n e := fun e he => by
  rcases Array.mem_push.1 he with g | rfl
  · exact .inl g
  · exact .inr (hx.mono h)

theorem evs_cell {H : HSet} {es : Array Event} {n k : Nat} {a : Addr} {wr sy : Bool} (nh : ¬ H a.block) (lt : a.block < k) (h : k ≤ n) : ∀ e ∈ es.push ⟨.cell a, wr, sy⟩, e ∈ es ∨ EvOk H n e := evs_push (k := k) (show ¬ H a.block ∧ a.block < k from ⟨nh, lt⟩) h
theorem evs_obj {H : HSet} {es : Array Event} {n k r : Nat} {wr sy : Bool} (lt : r < k) (h : k ≤ n) : ∀ e ∈ es.push ⟨.obj r, wr, sy⟩, e ∈ es ∨ EvOk H n e := evs_push (k := k) (show r < k from lt) h
theorem evs_far {H : HSet} {es : Array Event} {n b : Nat} {ts : List Addr} {wr sy : Bool} (nh : ¬ H b) (lt : b < n) (ht : ∀ t ∈ ts, t.block = b) : ∀ e ∈ es ++ ts.toArray.map (⟨.cell ·, wr, sy⟩), e ∈ es ∨ EvOk H n e := by
  intro e he
  rcases Array.mem_append.1 he with g | g
  · exact .inl g
  · obtain ⟨t, m, rfl⟩ := Array.mem_map.1 g
    have hb := ht t (by simpa using m)
    exact .inr (show ¬ H t.block ∧ t.block < n by rw [hb]; exact ⟨nh, lt⟩)
theorem run_getObj {p : Program} {α : Type} {r : Nat} {k : Obj → Sem α} {v : World} {o : Obj} (hn : ∀ c t f, o ≠ .cells c t f) (e : v.heap[r]? = some o) : (Sem.getObj r k).run p v = (k o).run p v := by
  cases o with
  | cells c t f => exact absurd rfl (hn c t f)
  | _ => simp only [Sem.run, e]
theorem runT_getObj {p : Program} {α : Type} {r : Nat} {k : Obj → Sem α} {v : World} {o : Obj} {es : Array Event} (hn : ∀ c t f, o ≠ .cells c t f) (e : v.heap[r]? = some o) : (Sem.getObj r k).runT p v es = (k o).runT p v (es.push ⟨.obj r, false, o.isChan⟩) := by
  cases o with
  | cells c t f => exact absurd rfl (hn c t f)
  | _ => simp only [Sem.runT, e]
theorem run_setObj {p : Program} {α : Type} {r : Nat} {k : Sem α} {v : World} {o o1 : Obj} (hn : ∀ c t f, o1 ≠ .cells c t f) (e : v.heap[r]? = some o1) : (Sem.setObj r o k).run p v = k.run p { v with heap := v.heap.setIfInBounds r o } := by
  cases o1 with
  | cells c t f => exact absurd rfl (hn c t f)
  | _ => simp only [Sem.run, e]
theorem runT_setObj {p : Program} {α : Type} {r : Nat} {k : Sem α} {v : World} {o o1 : Obj} {es : Array Event} (hn : ∀ c t f, o1 ≠ .cells c t f) (e : v.heap[r]? = some o1) : (Sem.setObj r o k).runT p v es = k.runT p { v with heap := v.heap.setIfInBounds r o } (es.push ⟨.obj r, true, o.isChan⟩) := by
  cases o1 with
  | cells c t f => exact absurd rfl (hn c t f)
  | _ => simp only [Sem.runT, e]

theorem Fine.lock {Q P : Program} (L : SameLay Q P) {H : HSet} {α : Type} {s : Sem α} : ∀ {M N : Nat → Prop} (v w : World) (es : Array Event), Fine Q P M N s → Hid H v w → Known M N H w → Lock Q P H s v w es := by
  induction s with
  | pure a => exact fun v w es _ h _ => .inl ⟨a, v, w, es, rfl, rfl, h, Nat.le_refl _, fun e he => .inl he, fun _ _ => rfl⟩
  | load m a k ih =>
    intro M N v w es hs h hk
    cases e : v.cell? a with
    | some x =>
      obtain ⟨nh, e2, lt⟩ := h.cell_some e
      exact Lock.step (s1 := k x) (v1 := v) (w1 := w) (es1 := es.push ⟨.cell a, false, m == .atomic⟩) (by simp only [Sem.run, e]) (by simp only [Sem.runT, e2]) (Nat.le_refl _) (fun n hn => evs_cell nh lt hn) (fun _ _ => rfl) (ih x v w (es.push ⟨.cell a, false, m == .atomic⟩) (hs x) h (hk.addM nh))
    | none =>
      rcases h.okw.farLoad L a (m == .atomic) with ⟨x, e2, d, -⟩ | ⟨x, ts, s, u, e2, e3, ⟨c, t, f, e4⟩, ht, far⟩
      · exact .inr ⟨x, v, by simp only [Sem.run, e, e2], d⟩
      · have n1 := h.not_of e3 (by simp [hidO])
        have n2 := h.not_of e4 (by simp [hidO])
        have e5 : w.cell? a = none := by unfold World.cell? at *; rw [← h.same _ n1]; exact e
        have e6 := far w (h.same _ n1).symm (h.same _ n2).symm
        exact Lock.step (s1 := k x) (v1 := v) (w1 := w) (es1 := es ++ ts.toArray.map (⟨.cell ·, false, m == .atomic⟩)) (by simp only [Sem.run, e, e2]) (by simp only [Sem.runT, e5, e6]) (Nat.le_refl _) (fun n hn => evs_far n2 (Nat.lt_of_lt_of_le (h.lt_of e4) hn) ht) (fun _ _ => rfl) (ih x v w _ (hs x) h (hk.addM n1))
  | store m a x k ih =>
    intro M N v w es hs h hk
    have main : (∀ c, x ≠ .agg c) → (∀ c, x ≠ .tuple c) → Lock Q P H (.store m a x k) v w es := by
      intro n1 n2
      cases e : v.cell? a with
      | some y =>
        obtain ⟨nh, e2, lt⟩ := h.cell_some e
        by_cases fz : v.frozen? a = true
        · refine .inr ⟨.unsupported (.unsafePointer "a write to bytes that a string shares"), v, ?_, trivial⟩
          cases x <;> first | exact absurd rfl (n1 _) | exact absurd rfl (n2 _) | simp only [Sem.run, e, fz, if_true]
        · have fz2 : ¬ w.frozen? a = true := by rw [← h.frozen]; exact fz
          have hsz : (w.setCell a x).heap.size = w.heap.size := by simp [World.setCell]
          have hst : ∀ b, H b → (w.setCell a x).heap[b]? = w.heap[b]? := fun b hb => by
            have g : a.block ≠ b := fun g => nh (g ▸ hb)
            simp only [World.setCell, Array.getElem?_modify, if_neg g]
          refine Lock.step (v1 := v.setCell a x) (w1 := w.setCell a x) (es1 := es.push ⟨.cell a, true, m == .atomic⟩) (s1 := k) ?_ ?_ (by omega) (fun n hn => evs_cell nh lt (by omega)) hst (ih _ _ _ hs (h.setCell a x nh) ((hk.addM nh).world hst))
          · cases x <;> first | exact absurd rfl (n1 _) | exact absurd rfl (n2 _) | (simp only [Sem.run, e, fz]; first | done | rfl)
          · cases x <;> first | exact absurd rfl (n1 _) | exact absurd rfl (n2 _) | (simp only [Sem.runT, e2, fz2]; first | done | rfl)
      | none =>
        rcases h.okw.farStore L a x (m == .atomic) with ⟨y, e2, d, -⟩ | ⟨c2, t2, f2, ts, s, u, e2, e3, ⟨c, t, f, e4⟩, ht, far⟩
        · refine .inr ⟨y, v, ?_, d⟩
          cases x <;> first | exact absurd rfl (n1 _) | exact absurd rfl (n2 _) | simp only [Sem.run, e, e2]
        · have m1 := h.not_of e3 (by simp [hidO])
          have m2 := h.not_of e4 (by simp [hidO])
          have e5 : w.cell? a = none := by unfold World.cell? at *; rw [← h.same _ m1]; exact e
          have e6 := far w (h.same _ m1).symm (h.same _ m2).symm
          have hst : ∀ b, H b → (w.heap.setIfInBounds s.block (.cells c2 t2 f2))[b]? = w.heap[b]? := fun b hb => Array.getElem?_setIfInBounds_ne (show s.block ≠ b from fun g => m2 (g ▸ hb))
          refine Lock.step (v1 := { v with heap := v.heap.setIfInBounds s.block (.cells c2 t2 f2) }) (w1 := { w with heap := w.heap.setIfInBounds s.block (.cells c2 t2 f2) }) (es1 := es ++ ts.toArray.map (⟨.cell ·, true, m == .atomic⟩)) (s1 := k) ?_ ?_ (by simp) (fun n hn => evs_far m2 (Nat.lt_of_lt_of_le (h.lt_of e4) (by simpa using hn)) ht) hst (ih _ _ _ hs (h.setObj s.block _ rfl m2) ((hk.addM m1).world hst))
          · cases x <;> first | exact absurd rfl (n1 _) | exact absurd rfl (n2 _) | simp only [Sem.run, e, e2]
          · cases x <;> first | exact absurd rfl (n1 _) | exact absurd rfl (n2 _) | simp only [Sem.runT, e5, e6]
    cases x with
    | agg c => exact .inr ⟨_, v, rfl, trivial⟩
    | tuple c => exact .inr ⟨_, v, rfl, trivial⟩
    | _ => exact main (fun _ => by simp) (fun _ => by simp)
  | new o k ih =>
    intro M N v w es hs h hk
    have hst : ∀ b, H b → (w.heap.push o)[b]? = w.heap[b]? := fun b hb => by
      have := h.lt hb
      rw [Array.getElem?_push, if_neg (by have := h.size; omega)]
    exact Lock.step (s1 := k w.heap.size) (v1 := { v with heap := v.heap.push o }) (w1 := { w with heap := w.heap.push o }) (es1 := es) (by simp only [Sem.run, h.size]) (by simp only [Sem.runT]) (by simp) (fun n _ => evs_same n) hst (ih _ _ _ es (hs.2 _) (h.push o hs.1) ((hk.addM fun x => absurd (h.lt x) (by have := h.size; omega)).world hst))
  | shape r k ih =>
    intro M N v w es hs h hk
    have one : ∀ {s : Option (TypeId × Nat)} {M' N' : Nat → Prop}, v.shape? r = s → w.shape? r = s → Fine Q P M' N' (k s) → Known M' N' H w → Lock Q P H (.shape r k) v w es := fun {s M' N'} a b hf hk' =>
      Lock.step (s1 := k s) (by simp only [Sem.run, a]) (by simp only [Sem.runT, b]) (Nat.le_refl _) (fun n _ => evs_same n) (fun _ _ => rfl) (ih s v w es hf h hk')
    by_cases hb : H r
    · obtain ⟨e1, o, e2, ho, hob⟩ := h.hid _ hb
      have a : v.shape? r = none := by simp [World.shape?, e1, hidO]
      cases ho with
      | chan n b c s r' tm => exact one a (by simp [World.shape?, e2]) hs.2.1 (hk.addN fun _ c t f e3 => by rw [e2] at e3; cases e3)
      | pending c t => exact one a (by simp [World.shape?, e2]) hs.2.1 (hk.addN fun _ c t f e3 => by rw [e2] at e3; cases e3)
      | loop l => exact one a (by simp [World.shape?, e2]) hs.2.1 (hk.addN fun _ c t f e3 => by rw [e2] at e3; cases e3)
      | cells c t hc =>
        obtain ⟨n, hn⟩ : ∃ n, c.size = n + 1 := ⟨c.size - 1, by omega⟩
        have b : w.shape? r = some (t, n + 1) := by simp [World.shape?, e2, hn]
        rcases hs.2.2 with g | g | g
        · exact absurd hb (hk.m r g)
        · exact absurd e2 (hk.n r g hb _ _ _)
        · rcases g t n with ⟨f1, f2⟩ | f1 | ⟨f1, g, f2, f3⟩ | ⟨f1, off, sp, g, f2, f3⟩
          · exact Lock.step (s1 := k none) (by simp only [Sem.run, a]) (by simp only [Sem.runT, b, f2]) (Nat.le_refl _) (fun n _ => evs_same n) (fun _ _ => rfl) (ih _ v w es f1 h hk)
          · obtain ⟨x, v', r1, d⟩ := f1 v h.okw a
            exact .inr ⟨x, v', by simp only [Sem.run, a]; exact r1, d⟩
          · exact Lock.step (s1 := k (some (t, n + 1))) (by simp only [Sem.run, a, f2, e1, hidO]; exact congrArg (fun z => Sem.run Q z v) f3) (by simp only [Sem.runT, b]) (Nat.le_refl _) (fun n _ => evs_same n) (fun _ _ => rfl) (ih _ v w es f1 h hk)
          · have fr : w.frozen? ⟨r, off, sp⟩ = false := (HidObj.cells c t hc).notFrozen e2
            exact Lock.step (s1 := k none) (by simp only [Sem.run, a]) (by simp only [Sem.runT, b, f2, fr, f3]) (Nat.le_refl _) (fun n _ => evs_same n) (fun _ _ => rfl) (ih _ v w es f1 h hk)
    · have b : w.shape? r = v.shape? r := by simp only [World.shape?, h.same _ hb]
      cases e : v.shape? r with
      | none => exact one e (b.trans e) hs.2.1 (hk.addN fun x => absurd x hb)
      | some p => exact one e (b.trans e) (hs.1 p.1 p.2) (hk.addM hb)
  | freeze a n k ih =>
    intro M N v w es hs h hk
    have nh := hk.m _ hs.1
    have e : (w.freeze a n).heap.size = w.heap.size := by unfold World.freeze; split <;> simp
    have hst : ∀ b, H b → (w.freeze a n).heap[b]? = w.heap[b]? := fun b hb => by
      have g : a.block ≠ b := fun g => nh (g ▸ hb)
      unfold World.freeze
      split
      · rfl
      · simp only [Array.getElem?_modify, if_neg g]
    exact Lock.step (s1 := k) (by simp only [Sem.run]) (by simp only [Sem.runT]) (by omega) (fun n _ => evs_same n) hst (ih _ _ es hs.2 (h.freeze a n nh) (hk.world hst))
  | frozen a k ih =>
    intro M N v w es hs h hk
    exact Lock.step (s1 := k (v.frozen? a)) (by simp only [Sem.run]) (by simp only [Sem.runT, ← h.frozen]) (Nat.le_refl _) (fun n _ => evs_same n) (fun _ _ => rfl) (ih _ v w es (hs _) h hk)
  | getObj r k ih =>
    intro M N v w es hs h hk
    have main : ∀ {o : Obj} {M' N' : Nat → Prop}, v.heap[r]? = some o → w.heap[r]? = some o → Fine Q P M' N' (k o) → Known M' N' H w → Lock Q P H (.getObj r k) v w es := by
      intro o M' N' e e2 hf hk'
      have lt : r < w.heap.size := (Array.getElem?_eq_some_iff.1 e2).1
      by_cases hc : ∃ c t f, o = .cells c t f
      · obtain ⟨c, t, f, rfl⟩ := hc
        exact .inr ⟨.stuck "getObj: a row of cells", v, by simp only [Sem.run, e], trivial⟩
      · have hn : ∀ c t f, o ≠ .cells c t f := fun c t f x => hc ⟨c, t, f, x⟩
        exact Lock.step (run_getObj hn e) (runT_getObj hn e2) (Nat.le_refl _) (fun n hn => evs_obj lt hn) (fun _ _ => rfl) (ih _ v w _ hf h hk')
    cases e : v.heap[r]? with
    | none => exact .inr ⟨.stuck "getObj: no such block", v, by simp only [Sem.run, e], trivial⟩
    | some o =>
      by_cases hb : H r
      · obtain ⟨e1, o2, e2, ho, hob⟩ := h.hid _ hb
        obtain rfl : o = hidO := Option.some.inj (e.symm.trans e1)
        rcases hs.2.2 with g | g | ⟨g1, g2⟩
        · exact absurd hb (hk.m r g)
        · obtain ⟨x, v', r1, d⟩ := g v h.okw
          exact .inr ⟨x, v', by simp only [Sem.run, e, hidO]; exact r1, d⟩
        · cases ho with
          | cells c t hc => exact absurd e2 (hk.n r g1 hb _ _ _)
          | chan n b c s r' tm =>
            have lt : r < w.heap.size := (Array.getElem?_eq_some_iff.1 e2).1
            exact Lock.step (s1 := k hidO) (run_getObj (by simp [hidO]) e) (es1 := es.push ⟨.obj r, false, true⟩) (by rw [runT_getObj (by simp) e2, ← g2.1 n b c s r' tm]; rfl) (Nat.le_refl _) (fun n hn => evs_obj lt hn) (fun _ _ => rfl) (ih _ v w _ hs.2.1 h (hk.addN fun _ c t f e3 => by rw [e2] at e3; cases e3))
          | pending c t =>
            have lt : r < w.heap.size := (Array.getElem?_eq_some_iff.1 e2).1
            exact Lock.step (s1 := k hidO) (run_getObj (by simp [hidO]) e) (es1 := es.push ⟨.obj r, false, false⟩) (by rw [runT_getObj (by simp) e2, ← g2.2.1 c t]; rfl) (Nat.le_refl _) (fun n hn => evs_obj lt hn) (fun _ _ => rfl) (ih _ v w _ hs.2.1 h (hk.addN fun _ c t f e3 => by rw [e2] at e3; cases e3))
          | loop l =>
            have lt : r < w.heap.size := (Array.getElem?_eq_some_iff.1 e2).1
            exact Lock.step (s1 := k hidO) (run_getObj (by simp [hidO]) e) (es1 := es.push ⟨.obj r, false, false⟩) (by rw [runT_getObj (by simp) e2, ← g2.2.2 l]; rfl) (Nat.le_refl _) (fun n hn => evs_obj lt hn) (fun _ _ => rfl) (ih _ v w _ hs.2.1 h (hk.addN fun _ c t f e3 => by rw [e2] at e3; cases e3))
      · have e2 : w.heap[r]? = some o := by rw [← h.same _ hb]; exact e
        by_cases ho : o = hidO
        · subst ho; exact main e e2 hs.2.1 (hk.addN fun x => absurd x hb)
        · exact main e e2 (hs.1 o (h.ok _ _ e) ho) (hk.addM hb)
  | setObj r o k ih =>
    intro M N v w es hs h hk
    have nh := hk.m r hs.1
    cases e : v.heap[r]? with
    | none => exact .inr ⟨.stuck "setObj: no such block", v, by simp only [Sem.run, e], trivial⟩
    | some o1 =>
      have e2 : w.heap[r]? = some o1 := by rw [← h.same _ nh]; exact e
      have lt : r < w.heap.size := (Array.getElem?_eq_some_iff.1 e2).1
      have hst : ∀ b, H b → (w.heap.setIfInBounds r o)[b]? = w.heap[b]? := fun b hb => Array.getElem?_setIfInBounds_ne (show r ≠ b from fun g => nh (g ▸ hb))
      have L := ih { v with heap := v.heap.setIfInBounds r o } { w with heap := w.heap.setIfInBounds r o } (es.push ⟨.obj r, true, o.isChan⟩) hs.2.2.2 (h.setObj r o hs.2.1 nh) (hk.world hst)
      by_cases hc : ∃ c t f, o1 = .cells c t f
      · obtain ⟨c, t, f, rfl⟩ := hc
        exact .inr ⟨.stuck "setObj: a row of cells", v, by simp only [Sem.run, e], trivial⟩
      · have hn : ∀ c t f, o1 ≠ .cells c t f := fun c t f x => hc ⟨c, t, f, x⟩
        exact Lock.step (run_setObj hn e) (runT_setObj hn e2) (by simp) (fun n hn => evs_obj lt (by simpa using hn)) hst L
  | choose q k ih =>
    intro M N v w es hs h hk
    by_cases f : q.forced = true
    · exact Lock.step (s1 := k 0) (by simp only [Sem.run, f, if_true]) (by simp only [Sem.runT, f, if_true]) (Nat.le_refl _) (fun n _ => evs_same n) (fun _ _ => rfl) (ih 0 v w es (hs 0) h hk)
    · exact Lock.step (s1 := k (q.cut (w.tape w.drawn q))) (v1 := { v with drawn := v.drawn + 1 }) (w1 := { w with drawn := w.drawn + 1 }) (es1 := es) (by simp only [Sem.run, if_neg f, h.tape, h.drawn]; first | done | rfl) (by simp only [Sem.runT, if_neg f]; first | done | rfl) (Nat.le_refl _) (fun n _ => evs_same n) (fun _ _ => rfl) (ih _ _ _ es (hs _) h.tick (hk.world fun _ _ => rfl))
  | sys c k ih => exact fun v w es hs _ _ => hs.elim
  | program k ih =>
    intro M N v w es hs h hk
    exact Lock.step (s1 := k P) (by simp only [Sem.run, hs.1]) (by simp only [Sem.runT]) (Nat.le_refl _) (fun n _ => evs_same n) (fun _ _ => rfl) (ih P v w es hs.2 h hk)
  | mark m k ih =>
    intro M N v w es hs h hk
    exact Lock.step (s1 := k) (by simp only [Sem.run]) (es1 := es.push ⟨.mark m, false, true⟩) (by simp only [Sem.runT]) (Nat.le_refl _) (fun n hn => evs_push (k := n) (show EvOk H n ⟨.mark m, false, true⟩ from hs.1) (Nat.le_refl _)) (fun _ _ => rfl) (ih v w _ hs.2 h hk)
  | halt x => exact fun v w es hs _ _ => .inr ⟨x, v, rfl, hs⟩

end Go.Sim
end
/- The same piece of the semantics, asked of another tape whose next answers are the same. No program of ours in sight. -/
section
namespace Go.Sim
open Go

/-- The world, with another tape. -/
def re (w : World) (τ : Nat → Question → Nat) (n : Nat) : World := { w with tape := τ, drawn := n }
/-- The next d answers are the same. -/
def Agree (d : Nat) (v : World) (τ : Nat → Question → Nat) (n : Nat) : Prop := ∀ i, i < d → ∀ q, τ (n + i) q = v.tape (v.drawn + i) q
theorem Agree.le {d d' : Nat} (h : d' ≤ d) {v : World} {τ : Nat → Question → Nat} {n : Nat} (a : Agree d v τ n) : Agree d' v τ n := fun i hi => a i (Nat.lt_of_lt_of_le hi h)

/-- What comes of a piece of the semantics hangs on the tape's next d answers alone. -/
def Turns (Q : Program) {α : Type} (s : Sem α) (v : World) : Prop :=
  (∃ a v' d, s.run Q v = .ok a v' ∧ v'.tape = v.tape ∧ v'.drawn = v.drawn + d ∧ ∀ τ n, Agree d v τ n → s.run Q (re v τ n) = .ok a (re v' τ (n + d))) ∨
  (∃ h v' d, s.run Q v = .halt h v' ∧ Dead h ∧ v'.tape = v.tape ∧ v'.drawn = v.drawn + d ∧ ∀ τ n, Agree d v τ n → s.run Q (re v τ n) = .halt h (re v' τ (n + d)))

theorem Fine.turns {Q P : Program} {α : Type} {s : Sem α} : ∀ {M N : Nat → Prop}, Fine Q P M N s → ∀ (v : World), OkWorld v → Turns Q s v := by
  induction s with
  | pure a => exact fun _ v h => .inl ⟨a, v, 0, rfl, rfl, rfl, fun τ n _ => rfl⟩
  | load m a k ih =>
    intro M N hs v h
    cases e : v.cell? a with
    | some x =>
      have e2 : ∀ τ n, (re v τ n).cell? a = some x := fun τ n => e
      rcases ih x (hs x) v h with ⟨y, v', d, r, t1, t2, r2⟩ | ⟨y, v', d, r, dd, t1, t2, r2⟩
      · exact .inl ⟨y, v', d, by simp only [Sem.run, e]; exact r, t1, t2, fun τ n g => by simp only [Sem.run, e2]; exact r2 τ n g⟩
      · exact .inr ⟨y, v', d, by simp only [Sem.run, e]; exact r, dd, t1, t2, fun τ n g => by simp only [Sem.run, e2]; exact r2 τ n g⟩
    | none =>
      have e3 : ∀ τ n, (re v τ n).cell? a = none := fun τ n => e
      rcases h.farLoad (SameLay.refl Q) a (m == .atomic) with ⟨x, e2, dd, e4⟩ | ⟨x, ts, s, u, e2, e5, -, ht, far⟩
      · exact .inr ⟨x, v, 0, by simp only [Sem.run, e, e2], dd, rfl, rfl, fun τ n _ => by simp only [Sem.run, e3, e4 (re v τ n) rfl]; rfl⟩
      · have e6 : ∀ τ n, (re v τ n).farLoad Q a (m == .atomic) = .ok (x, ts) := fun τ n => far _ rfl rfl
        rcases ih x (hs x) v h with ⟨y, v', d, r, t1, t2, r2⟩ | ⟨y, v', d, r, dd, t1, t2, r2⟩
        · exact .inl ⟨y, v', d, by simp only [Sem.run, e, e2]; exact r, t1, t2, fun τ n g => by simp only [Sem.run, e3, e6]; exact r2 τ n g⟩
        · exact .inr ⟨y, v', d, by simp only [Sem.run, e, e2]; exact r, dd, t1, t2, fun τ n g => by simp only [Sem.run, e3, e6]; exact r2 τ n g⟩
  | store m a x k ih =>
    intro M N hs v h
    have main : (∀ c, x ≠ .agg c) → (∀ c, x ≠ .tuple c) → Turns Q (.store m a x k) v := by
      intro n1 n2
      cases e : v.cell? a with
      | some y =>
        have e2 : ∀ τ n, (re v τ n).cell? a = some y := fun τ n => e
        by_cases fz : v.frozen? a = true
        · have fz2 : ∀ τ n, (re v τ n).frozen? a = true := fun τ n => fz
          refine .inr ⟨.unsupported (.unsafePointer "a write to bytes that a string shares"), v, 0, ?_, trivial, rfl, rfl, fun τ n _ => ?_⟩
          · cases x <;> first | exact absurd rfl (n1 _) | exact absurd rfl (n2 _) | simp only [Sem.run, e, fz, if_true]
          · cases x <;> first | exact absurd rfl (n1 _) | exact absurd rfl (n2 _) | (simp only [Sem.run, e2, fz2, if_true]; rfl)
        · have fz2 : ∀ τ n, ¬ (re v τ n).frozen? a = true := fun τ n => fz
          have ok : OkWorld (v.setCell a x) := by
            intro b o hb
            unfold World.setCell at hb
            simp only [Array.getElem?_modify] at hb
            by_cases g : a.block = b
            · rw [if_pos g] at hb
              obtain ⟨o1, e1, rfl⟩ := Option.map_eq_some_iff.1 hb
              have := h _ _ e1
              cases o1 <;> simp_all [okObj]
            · rw [if_neg g] at hb; exact h _ _ hb
          rcases ih hs (v.setCell a x) ok with ⟨y', v', d, r, t1, t2, r2⟩ | ⟨y', v', d, r, dd, t1, t2, r2⟩
          · refine .inl ⟨y', v', d, ?_, t1, t2, fun τ n g => ?_⟩
            · cases x <;> first | exact absurd rfl (n1 _) | exact absurd rfl (n2 _) | (simp only [Sem.run, e, fz]; exact r)
            · cases x <;> first | exact absurd rfl (n1 _) | exact absurd rfl (n2 _) | (simp only [Sem.run, e2, fz2]; exact r2 τ n g)
          · refine .inr ⟨y', v', d, ?_, dd, t1, t2, fun τ n g => ?_⟩
            · cases x <;> first | exact absurd rfl (n1 _) | exact absurd rfl (n2 _) | (simp only [Sem.run, e, fz]; exact r)
            · cases x <;> first | exact absurd rfl (n1 _) | exact absurd rfl (n2 _) | (simp only [Sem.run, e2, fz2]; exact r2 τ n g)
      | none =>
        have e3 : ∀ τ n, (re v τ n).cell? a = none := fun τ n => e
        rcases h.farStore (SameLay.refl Q) a x (m == .atomic) with ⟨y, e2, dd, e4⟩ | ⟨c2, t2, f2, ts, s, u, e2, e5, -, ht, far⟩
        · have e4' : ∀ τ n, (re v τ n).farStore Q a x (m == .atomic) = .error y := fun τ n => e4 _ rfl
          refine .inr ⟨y, v, 0, ?_, dd, rfl, rfl, fun τ n _ => ?_⟩
          · cases x <;> first | exact absurd rfl (n1 _) | exact absurd rfl (n2 _) | simp only [Sem.run, e, e2]
          · cases x <;> first | exact absurd rfl (n1 _) | exact absurd rfl (n2 _) | (simp only [Sem.run, e3, e4']; rfl)
        · have e6 : ∀ τ n, (re v τ n).farStore Q a x (m == .atomic) = .ok ({ (re v τ n) with heap := (re v τ n).heap.setIfInBounds s.block (.cells c2 t2 f2) }, ts) := fun τ n => far _ rfl rfl
          have ok : OkWorld { v with heap := v.heap.setIfInBounds s.block (.cells c2 t2 f2) } := by
            intro b o' e
            by_cases g : s.block = b
            · subst g
              rw [Array.getElem?_setIfInBounds] at e
              simp only [if_true] at e
              split at e
              · cases e; rfl
              · cases e
            · rw [Array.getElem?_setIfInBounds_ne g] at e
              exact h _ _ e
          rcases ih hs _ ok with ⟨y', v', d, r, t1, t2', r2⟩ | ⟨y', v', d, r, dd, t1, t2', r2⟩
          · refine .inl ⟨y', v', d, ?_, t1, t2', fun τ n g => ?_⟩
            · cases x <;> first | exact absurd rfl (n1 _) | exact absurd rfl (n2 _) | (simp only [Sem.run, e, e2]; exact r)
            · cases x <;> first | exact absurd rfl (n1 _) | exact absurd rfl (n2 _) | (simp only [Sem.run, e3, e6]; exact r2 τ n g)
          · refine .inr ⟨y', v', d, ?_, dd, t1, t2', fun τ n g => ?_⟩
            · cases x <;> first | exact absurd rfl (n1 _) | exact absurd rfl (n2 _) | (simp only [Sem.run, e, e2]; exact r)
            · cases x <;> first | exact absurd rfl (n1 _) | exact absurd rfl (n2 _) | (simp only [Sem.run, e3, e6]; exact r2 τ n g)
    cases x with
    | agg c => exact .inr ⟨_, v, 0, rfl, trivial, rfl, rfl, fun τ n _ => rfl⟩
    | tuple c => exact .inr ⟨_, v, 0, rfl, trivial, rfl, rfl, fun τ n _ => rfl⟩
    | _ => exact main (fun _ => by simp) (fun _ => by simp)
  | new o k ih =>
    intro M N hs v h
    have ok : OkWorld { v with heap := v.heap.push o } := by
      intro b o' e
      simp only [Array.getElem?_push] at e
      split at e
      · cases e; exact hs.1
      · exact h _ _ e
    rcases ih v.heap.size (hs.2 _) _ ok with ⟨y, v', d, r, t1, t2, r2⟩ | ⟨y, v', d, r, dd, t1, t2, r2⟩
    · exact .inl ⟨y, v', d, by simp only [Sem.run]; exact r, t1, t2, fun τ n g => by simp only [Sem.run]; exact r2 τ n g⟩
    · exact .inr ⟨y, v', d, by simp only [Sem.run]; exact r, dd, t1, t2, fun τ n g => by simp only [Sem.run]; exact r2 τ n g⟩
  | shape r k ih =>
    intro M N hs v h
    rcases ih (v.shape? r) (show Fine Q P (fun _ => True) (fun _ => True) (k (v.shape? r)) by
      cases v.shape? r with
      | none => exact hs.2.1.mono (fun _ _ => trivial) fun _ _ => trivial
      | some p => exact (hs.1 p.1 p.2).mono (fun _ _ => trivial) fun _ _ => trivial) v h with ⟨y, v', d, r1, t1, t2, r2⟩ | ⟨y, v', d, r1, dd, t1, t2, r2⟩
    · exact .inl ⟨y, v', d, by simp only [Sem.run]; exact r1, t1, t2, fun τ n g => by simp only [Sem.run]; exact r2 τ n g⟩
    · exact .inr ⟨y, v', d, by simp only [Sem.run]; exact r1, dd, t1, t2, fun τ n g => by simp only [Sem.run]; exact r2 τ n g⟩
  | freeze a k1 k ih =>
    intro M N hs v h
    have ok : OkWorld (v.freeze a k1) := by
      intro b o hb
      unfold World.freeze at hb
      split at hb
      · exact h _ _ hb
      · simp only [Array.getElem?_modify] at hb
        by_cases g : a.block = b
        · rw [if_pos g] at hb
          obtain ⟨o1, e1, rfl⟩ := Option.map_eq_some_iff.1 hb
          have := h _ _ e1
          cases o1 <;> simp_all [okObj]
        · rw [if_neg g] at hb; exact h _ _ hb
    have e1 : (v.freeze a k1).tape = v.tape := by unfold World.freeze; split <;> rfl
    have e2 : (v.freeze a k1).drawn = v.drawn := by unfold World.freeze; split <;> rfl
    have e3 : ∀ τ n, (re v τ n).freeze a k1 = re (v.freeze a k1) τ n := fun τ n => by unfold World.freeze; split <;> rfl
    have ag : ∀ d τ n, Agree d v τ n → Agree d (v.freeze a k1) τ n := fun d τ n g => by unfold Agree at *; rw [e1, e2]; exact g
    rcases ih hs.2 _ ok with ⟨y, v', d, r1, t1, t2, r2⟩ | ⟨y, v', d, r1, dd, t1, t2, r2⟩
    · exact .inl ⟨y, v', d, by simp only [Sem.run]; exact r1, t1.trans e1, by rw [t2, e2], fun τ n g => by simp only [Sem.run, e3]; exact r2 τ n (ag d τ n g)⟩
    · exact .inr ⟨y, v', d, by simp only [Sem.run]; exact r1, dd, t1.trans e1, by rw [t2, e2], fun τ n g => by simp only [Sem.run, e3]; exact r2 τ n (ag d τ n g)⟩
  | frozen a k ih =>
    intro M N hs v h
    rcases ih (v.frozen? a) (hs _) v h with ⟨y, v', d, r1, t1, t2, r2⟩ | ⟨y, v', d, r1, dd, t1, t2, r2⟩
    · exact .inl ⟨y, v', d, by simp only [Sem.run]; exact r1, t1, t2, fun τ n g => by simp only [Sem.run]; exact r2 τ n g⟩
    · exact .inr ⟨y, v', d, by simp only [Sem.run]; exact r1, dd, t1, t2, fun τ n g => by simp only [Sem.run]; exact r2 τ n g⟩
  | getObj r k ih =>
    intro M N hs v h
    cases e : v.heap[r]? with
    | none =>
      have e2 : ∀ τ n, (re v τ n).heap[r]? = none := fun τ n => e
      exact .inr ⟨.stuck "getObj: no such block", v, 0, by simp only [Sem.run, e], trivial, rfl, rfl, fun τ n _ => by simp only [Sem.run, e2]; rfl⟩
    | some o =>
      have e2 : ∀ τ n, (re v τ n).heap[r]? = some o := fun τ n => e
      rcases ih o (show Fine Q P (fun _ => True) (fun _ => True) (k o) by
        by_cases ho : o = hidO
        · rw [ho]; exact hs.2.1.mono (fun _ _ => trivial) fun _ _ => trivial
        · exact (hs.1 o (h _ _ e) ho).mono (fun _ _ => trivial) fun _ _ => trivial) v h with ⟨y, v', d, r1, t1, t2, r2⟩ | ⟨y, v', d, r1, dd, t1, t2, r2⟩
      · cases o with
        | cells c t f => exact .inr ⟨.stuck "getObj: a row of cells", v, 0, by simp only [Sem.run, e], trivial, rfl, rfl, fun τ n _ => by simp only [Sem.run, e2]; rfl⟩
        | _ => exact .inl ⟨y, v', d, by simp only [Sem.run, e]; exact r1, t1, t2, fun τ n g => by simp only [Sem.run, e2]; exact r2 τ n g⟩
      · cases o with
        | cells c t f => exact .inr ⟨.stuck "getObj: a row of cells", v, 0, by simp only [Sem.run, e], trivial, rfl, rfl, fun τ n _ => by simp only [Sem.run, e2]; rfl⟩
        | _ => exact .inr ⟨y, v', d, by simp only [Sem.run, e]; exact r1, dd, t1, t2, fun τ n g => by simp only [Sem.run, e2]; exact r2 τ n g⟩
  | setObj r o k ih =>
    intro M N hs v h
    have ok : OkWorld { v with heap := v.heap.setIfInBounds r o } := by
      intro b o' e
      by_cases g : r = b
      · subst g
        rw [Array.getElem?_setIfInBounds] at e
        simp only [if_true] at e
        split at e
        · cases e; exact hs.2.1
        · cases e
      · rw [Array.getElem?_setIfInBounds_ne g] at e
        exact h _ _ e
    cases e : v.heap[r]? with
    | none =>
      have e2 : ∀ τ n, (re v τ n).heap[r]? = none := fun τ n => e
      exact .inr ⟨.stuck "setObj: no such block", v, 0, by simp only [Sem.run, e], trivial, rfl, rfl, fun τ n _ => by simp only [Sem.run, e2]; rfl⟩
    | some o1 =>
      have e2 : ∀ τ n, (re v τ n).heap[r]? = some o1 := fun τ n => e
      rcases ih hs.2.2.2 _ ok with ⟨y, v', d, r1, t1, t2, r2⟩ | ⟨y, v', d, r1, dd, t1, t2, r2⟩
      · cases o1 with
        | cells c t f => exact .inr ⟨.stuck "setObj: a row of cells", v, 0, by simp only [Sem.run, e], trivial, rfl, rfl, fun τ n _ => by simp only [Sem.run, e2]; rfl⟩
        | _ => exact .inl ⟨y, v', d, by simp only [Sem.run, e]; exact r1, t1, t2, fun τ n g => by simp only [Sem.run, e2]; exact r2 τ n g⟩
      · cases o1 with
        | cells c t f => exact .inr ⟨.stuck "setObj: a row of cells", v, 0, by simp only [Sem.run, e], trivial, rfl, rfl, fun τ n _ => by simp only [Sem.run, e2]; rfl⟩
        | _ => exact .inr ⟨y, v', d, by simp only [Sem.run, e]; exact r1, dd, t1, t2, fun τ n g => by simp only [Sem.run, e2]; exact r2 τ n g⟩
  | choose q k ih =>
    intro M N hs v h
    by_cases f : q.forced = true
    · rcases ih 0 (hs 0) v h with ⟨y, v', d, r1, t1, t2, r2⟩ | ⟨y, v', d, r1, dd, t1, t2, r2⟩
      · exact .inl ⟨y, v', d, by simp only [Sem.run, f, if_true]; exact r1, t1, t2, fun τ n g => by simp only [Sem.run, f, if_true]; exact r2 τ n g⟩
      · exact .inr ⟨y, v', d, by simp only [Sem.run, f, if_true]; exact r1, dd, t1, t2, fun τ n g => by simp only [Sem.run, f, if_true]; exact r2 τ n g⟩
    · have ag : ∀ d τ n, Agree (d + 1) v τ n → τ n q = v.tape v.drawn q ∧ Agree d { v with drawn := v.drawn + 1 } τ (n + 1) := fun d τ n g => by
        refine ⟨g 0 (Nat.succ_pos d) q, fun i hi q' => ?_⟩
        have := g (i + 1) (by omega) q'
        rw [show n + 1 + i = n + (i + 1) by omega]
        simpa [Nat.add_assoc, Nat.add_comm 1 i] using this
      rcases ih (q.cut (v.tape v.drawn q)) (hs _) { v with drawn := v.drawn + 1 } h with ⟨y, v', d, r1, t1, t2, r2⟩ | ⟨y, v', d, r1, dd, t1, t2, r2⟩
      · refine .inl ⟨y, v', d + 1, by simp only [Sem.run, if_neg f]; exact r1, t1, by simp at t2; omega, fun τ n g => ?_⟩
        obtain ⟨a1, a2⟩ := ag d τ n g
        simp only [Sem.run, if_neg f]
        have := r2 τ (n + 1) a2
        rw [show n + (d + 1) = n + 1 + d by omega]
        show Sem.run Q (k (q.cut (τ n q))) _ = _
        rw [a1]; exact this
      · refine .inr ⟨y, v', d + 1, by simp only [Sem.run, if_neg f]; exact r1, dd, t1, by simp at t2; omega, fun τ n g => ?_⟩
        obtain ⟨a1, a2⟩ := ag d τ n g
        simp only [Sem.run, if_neg f]
        have := r2 τ (n + 1) a2
        rw [show n + (d + 1) = n + 1 + d by omega]
        show Sem.run Q (k (q.cut (τ n q))) _ = _
        rw [a1]; exact this
  | sys c k ih => exact fun hs => hs.elim
  | program k ih =>
    intro M N hs v h
    rcases ih P hs.2 v h with ⟨y, v', d, r1, t1, t2, r2⟩ | ⟨y, v', d, r1, dd, t1, t2, r2⟩
    · exact .inl ⟨y, v', d, by simp only [Sem.run, hs.1]; exact r1, t1, t2, fun τ n g => by simp only [Sem.run, hs.1]; exact r2 τ n g⟩
    · exact .inr ⟨y, v', d, by simp only [Sem.run, hs.1]; exact r1, dd, t1, t2, fun τ n g => by simp only [Sem.run, hs.1]; exact r2 τ n g⟩
  | mark m k ih =>
    intro M N hs v h
    rcases ih hs.2 v h with ⟨y, v', d, r1, t1, t2, r2⟩ | ⟨y, v', d, r1, dd, t1, t2, r2⟩
    · exact .inl ⟨y, v', d, by simp only [Sem.run]; exact r1, t1, t2, fun τ n g => by simp only [Sem.run]; exact r2 τ n g⟩
    · exact .inr ⟨y, v', d, by simp only [Sem.run]; exact r1, dd, t1, t2, fun τ n g => by simp only [Sem.run]; exact r2 τ n g⟩
  | halt h => exact fun hs v _ => .inr ⟨h, v, 0, rfl, hs, rfl, rfl, fun τ n _ => rfl⟩

end Go.Sim
end
