/- A communication between one that receives and one that stands at a select of a send and a receive. No program of ours in sight. -/
import Derived.Conc.CrowdSel
import Derived.Conc.FxBegin
set_option linter.unusedVariables false
set_option linter.unusedSimpArgs false
set_option linter.unusedSectionVars false
section
namespace Go.Ph
open Go Go.Conc

section
variable {P : Program} {gs : Array Goroutine} {w w₁ : World} {sl : Option (Nat × Nat)} {i j : Nat} {g g₂ gj : Goroutine} {es : Array Event} {c c2 cap s r : Nat} {buf : Array Value} {tm closed : Bool} {v z zj z2 : Value}
  {blocking : Bool} {shape shj : CommShape}

/-- A receive meets one that is parked at a select whose first case is a send there. -/
theorem recv_meets_sel (hi : gs[i]? = some g) (h : stepG P (i == 0) g w = .comm g₂ #[rcase c z] blocking shape w₁ es) (hc : w₁.heap[c]? = some (.chan cap #[] closed s r tm))
    (hij : j ≠ i) (hj : gs[j]? = some (parked gj #[scase c v zj, rcase c2 z2] shj)) (hp : partners (gs.setIfInBounds i ph) c true = [(j, 0)]) :
    runT P (crowd gs w sl) i = (.next (crowd ((gs.setIfInBounds j (gj.finishComm P #[scase c v zj, rcase c2 z2] shj 0 undef false)).setIfInBounds i (g₂.finishComm P #[rcase c z] shape 0 v true)) (w₁.setChan c cap #[] closed (s + 1) (r + 1) tm) sl),
      MemOp.ofEvents i g.frame.fn g.frame.place es ++ #[{ g := j, fn := gj.frame.fn, pos := gj.frame.place, act := .send c s }, { g := i, fn := g₂.frame.fn, pos := g₂.frame.place, act := .recv c r cap },
        { g := j, fn := gj.frame.fn, pos := gj.frame.place, act := .sendDone c s }, { g := i, fn := g₂.frame.fn, pos := g₂.frame.place, act := .recvDone c r }]) := by
  rw [runT_crowd_comm hi h]
  have hj' := stand_get (i := i) hij hj
  have hfp := finishPartner_at P (gs.setIfInBounds i ph) hj' (cs := #[scase c v zj, rcase c2 z2]) (sh := shj) rfl 0 undef
  have hgd : (gs.setIfInBounds i ph).getD j default = parked gj #[scase c v zj, rcase c2 z2] shj := by rw [Array.getD_eq_getD_getElem?, hj']; rfl
  have hov : offeredValue (gs.setIfInBounds i ph) j 0 = v := by simp [offeredValue, hj', parked, scase]
  simp [communicate, ways, rcase, hc, hp, choose, Sem.run, Question.forced, bind, Sem.bind, pure, World.setChan, crowd, hfp, hgd, hov, set_stand2, finishComm_parked, scase, parked]
  rfl

/-- A select of a send and a receive: the send meets one that is parked at a receive there; the receive has no way. -/
theorem sel_send_meets (hi : gs[i]? = some g) (h : stepG P (i == 0) g w = .comm g₂ #[scase c v z, rcase c2 z2] blocking shape w₁ es) (hn : NoWays w₁ (gs.setIfInBounds i ph) (rcase c2 z2))
    (hc : w₁.heap[c]? = some (.chan cap buf false s r tm)) (hij : j ≠ i) (hj : gs[j]? = some (parked gj #[rcase c zj] shj)) (hp : partners (gs.setIfInBounds i ph) c false = [(j, 0)]) :
    runT P (crowd gs w sl) i = (.next (crowd ((gs.setIfInBounds j (gj.finishComm P #[rcase c zj] shj 0 v true)).setIfInBounds i (g₂.finishComm P #[scase c v z, rcase c2 z2] shape 0 undef false)) (w₁.setChan c cap buf false (s + 1) (r + 1) tm) sl),
      MemOp.ofEvents i g.frame.fn g.frame.place es ++ #[{ g := i, fn := g₂.frame.fn, pos := g₂.frame.place, act := .send c s }, { g := j, fn := gj.frame.fn, pos := gj.frame.place, act := .recv c r cap },
        { g := i, fn := g₂.frame.fn, pos := g₂.frame.place, act := .sendDone c s }, { g := j, fn := gj.frame.fn, pos := gj.frame.place, act := .recvDone c r }]) := by
  have hk : (#[scase c v z, rcase c2 z2] : Array CommCase)[0]? = some (scase c v z) := rfl
  have ho : ∀ (m : Nat) (c' : CommCase), m ≠ 0 → (#[scase c v z, rcase c2 z2] : Array CommCase)[m]? = some c' → NoWays w₁ (gs.setIfInBounds i ph) c' := by
    intro m c' hm hc'
    match m with
    | 0 => exact absurd rfl hm
    | 1 => cases hc'; exact hn
    | m + 2 => simp at hc'
  have hw : ways w₁ (gs.setIfInBounds i ph) (scase c v z) = [.partner j 0] := by simp [ways, scase, hc, hp]
  have hj' := stand_get (i := i) hij hj
  have hfp := finishPartner_at P (gs.setIfInBounds i ph) hj' (cs := #[rcase c zj]) (sh := shj) rfl 0 v
  have hgd : (gs.setIfInBounds i ph).getD j default = parked gj #[rcase c zj] shj := by rw [Array.getD_eq_getD_getElem?, hj']; rfl
  rw [runT_crowd_comm hi h]
  unfold communicate
  simp only [ready_one hk (by rw [hw]; simp) ho, hw]
  rw [if_neg]
  · simp [choose, Sem.run, Question.forced, bind, Sem.bind, pure, rcase, crowd, hc, hfp, hgd, set_stand2, finishComm_parked, scase, parked, World.setChan]
    rfl
  · rw [Bool.not_eq_true]; exact any_ill (made_of_one hk (made_send v z hc) ho)

theorem offers_c (hne : c2 ≠ c) : offersAt (parked gj #[scase c v z, rcase c2 z2] shj) c true = [0] ∧ offersAt (parked gj #[scase c v z, rcase c2 z2] shj) c false = [] ∧ offersAt (parked gj #[scase c v z, rcase c2 z2] shj) c2 true = [] := by
  refine ⟨?_, ?_, ?_⟩ <;> simp [offersAt, parked, scase, rcase, List.zipIdx_cons, hne, Ne.symm hne]
end

section
variable {P : Program} {g : Goroutine} {w : World} {c c2 cap cap2 s r s2 r2 : Nat} {buf buf2 : Array Value} {tm tm2 : Bool} {z z2 v : Value} {sh : CommShape}
theorem woken_sel_open (a a' : Goroutine) (hc : w.heap[c]? = some (.chan cap buf false s r tm)) (hc2 : w.heap[c2]? = some (.chan cap2 buf2 false s2 r2 tm2)) : woken P a a' w (parked g #[scase c v z, rcase c2 z2] sh) = parked g #[scase c v z, rcase c2 z2] sh := by
  unfold woken
  split
  · simp [Goroutine.again, parked, scase, rcase, hc, hc2]
  · rfl
theorem again_sel_closed (hc2 : w.heap[c2]? = some (.chan cap2 buf2 true s2 r2 tm2)) : (parked g #[scase c v z, rcase c2 z2] sh).again w = { parked g #[scase c v z, rcase c2 z2] sh with status := .running } := by
  simp [Goroutine.again, parked, scase, rcase, hc2]
end
end Go.Ph
end
/- The stage of communication: goroutine 0 takes values from a child that stands at a select of a send and of a receive, beside goroutines that only leave; the true machine's frame of it. No program of ours in sight. -/
section
namespace Go.ConcX
open Go Go.Conc
open Go.ConcN (sumTo upd sumTo_upd upd_ne upd_same)

section
variable {P : Program} {c : Nat} {gs : Array Goroutine} {a b a' b' : Goroutine} {T : Trace} {q : Nat → Nat}

theorem Big.c0 (h : Big P c gs a b T q) : c ≠ 0 := Nat.ne_of_gt h.pos
theorem Big.lt0 (h : Big P c gs a b T q) : 0 < gs.size := by have := h.size; omega
theorem Big.ltc (h : Big P c gs a b T q) : c < gs.size := by have := h.size; omega
theorem Big.keep (h : Big P c gs a b T q) (u : Trace) (hu : ∀ op ∈ u, op.act ≠ .mark .disable ∧ op.act ≠ .mark .enable) : Big P c gs a b (T ++ u) q :=
  ⟨h.size, h.pos, h.h0, h.hc, fun i g h1 h2 h3 => by rw [Deaf_keep T i u hu]; exact h.old i g h1 h2 h3, fun j hj => by rw [Deaf_keep T j u hu]; exact h.above j hj⟩
theorem Big.setA (h : Big P c gs a b T q) (a' : Goroutine) : Big P c (gs.setIfInBounds 0 a') a' b T q :=
  ⟨by simpa using h.size, h.pos, by simp [h.lt0], by rw [Array.getElem?_setIfInBounds_ne (Ne.symm h.c0)]; exact h.hc, fun i g h1 h2 h3 => h.old i g h1 h2 (by rwa [Array.getElem?_setIfInBounds_ne (by omega)] at h3), h.above⟩
theorem Big.setC (h : Big P c gs a b T q) (b' : Goroutine) : Big P c (gs.setIfInBounds c b') a b' T q :=
  ⟨by simpa using h.size, h.pos, by rw [Array.getElem?_setIfInBounds_ne h.c0]; exact h.h0, by simp [h.ltc], fun i g h1 h2 h3 => h.old i g h1 h2 (by rwa [Array.getElem?_setIfInBounds_ne (by omega)] at h3), h.above⟩
/-- An ordinary step of goroutine 0's. -/
theorem Big.own0 (h : Big P c gs a b T q) {w' : World} (fn : FuncId) (pos : String) (es : Array Event) : Big P c ((gs.map (woken P a a' w')).setIfInBounds 0 a') a' (woken P a a' w' b) (T ++ MemOp.ofEvents 0 fn pos es) q :=
  ⟨by simpa using h.size, h.pos, by simp [h.lt0], by rw [Array.getElem?_setIfInBounds_ne (Ne.symm h.c0), Array.getElem?_map, h.hc]; rfl, fun i g h1 h2 h3 => by
    rw [Array.getElem?_setIfInBounds_ne (by omega), Array.getElem?_map] at h3
    obtain ⟨y, hy, rfl⟩ := Option.map_eq_some_iff.1 h3
    have hq := h.old i y h1 h2 hy
    rw [woken_quitsD hq, Deaf_other T (g' := 0) (by omega) _ g_of_ofEvents]
    exact hq, fun j hj => by rw [Deaf_other T (g' := 0) (by omega) _ g_of_ofEvents]; exact h.above j hj⟩
/-- .. of the child's. -/
theorem Big.own1 (h : Big P c gs a b T q) {w' : World} (fn : FuncId) (pos : String) (es : Array Event) : Big P c ((gs.map (woken P b b' w')).setIfInBounds c b') (woken P b b' w' a) b' (T ++ MemOp.ofEvents c fn pos es) q :=
  ⟨by simpa using h.size, h.pos, by rw [Array.getElem?_setIfInBounds_ne h.c0, Array.getElem?_map, h.h0]; rfl, by simp [h.ltc], fun i g h1 h2 h3 => by
    rw [Array.getElem?_setIfInBounds_ne (by omega), Array.getElem?_map] at h3
    obtain ⟨y, hy, rfl⟩ := Option.map_eq_some_iff.1 h3
    have hq := h.old i y h1 h2 hy
    rw [woken_quitsD hq, Deaf_other T (g' := c) (by omega) _ g_of_ofEvents]
    exact hq, fun j hj => by rw [Deaf_other T (g' := c) (by omega) _ g_of_ofEvents]; exact h.above j hj⟩
theorem Big.offers (h : Big P c gs a b T q) {i : Nat} {g : Goroutine} (h1 : i ≠ 0) (h2 : i ≠ c) (h3 : gs[i]? = some g) (r : Nat) (s : Bool) : offersAt g r s = [] := by
  have hl := (Array.getElem?_eq_some_iff.1 h3).1
  have := (h.old i g (by omega) (by have := h.size; omega) h3).status
  exact offersAt_of_not_blocked (by rcases this with e | e <;> rw [e] <;> simp) r s
theorem Big.partners0 (h : Big P c gs a b T q) (r : Nat) (s : Bool) : partners (gs.setIfInBounds 0 ph) r s = (offersAt b r s).map fun k => (c, k) := by
  refine partners_one (by rw [Array.getElem?_setIfInBounds_ne (Ne.symm h.c0)]; exact h.hc) fun k x hk hx => ?_
  rcases getElem?_stand gs 0 k x hx with ⟨rfl, rfl⟩ | ⟨h0, hx'⟩
  · exact offersAt_ph r s
  · exact h.offers h0 hk hx' r s
theorem Big.partners1 (h : Big P c gs a b T q) (r : Nat) (s : Bool) : partners (gs.setIfInBounds c ph) r s = (offersAt a r s).map fun k => (0, k) := by
  refine partners_one (by rw [Array.getElem?_setIfInBounds_ne h.c0]; exact h.h0) fun k x hk hx => ?_
  rcases getElem?_stand gs c k x hx with ⟨rfl, rfl⟩ | ⟨h0, hx'⟩
  · exact offersAt_ph r s
  · exact h.offers hk h0 hx' r s
/-- Who is picked: goroutine 0; the child; or one that slips. -/
theorem Big.pick (h : Big P c gs a b T q) {w : World} {sl : Option (Nat × Nat)} (awa : awake a) (awb : awake b) (hr : a.status = .running ∨ b.status = .running) :
    (∃ d sl', a.status = .running ∧ stepT P (crowd gs w sl) = runT P (crowd gs (w.at d) sl') 0) ∨
    (∃ d sl', b.status = .running ∧ stepT P (crowd gs w sl) = runT P (crowd gs (w.at d) sl') c) ∨
    (∃ (d : Nat) (sl' : Option (Nat × Nat)) (i k : Nat) (g g' : Goroutine) (es : Array Event) (gs' : Array Goroutine), stepT P (crowd gs w sl) = (.next (crowd gs' (w.at d) sl'), MemOp.ofEvents i g.frame.fn g.frame.place es) ∧
      Big P c gs' (woken P g g' (w.at d) a) (woken P g g' (w.at d) b) (T ++ MemOp.ofEvents i g.frame.fn g.frame.place es) (upd q i k) ∧ (∀ e ∈ es, e.mute = true) ∧ i ≠ 0 ∧ i ≠ c ∧ sumTo c (upd q i k) < sumTo c q) := by
  have haw : ∀ g ∈ gs, awake g := by
    intro g hg
    obtain ⟨i, hi, rfl⟩ := Array.mem_iff_getElem.1 hg
    have hgi : gs[i]? = some gs[i] := Array.getElem?_eq_getElem hi
    by_cases h0 : i = 0
    · subst h0
      have : gs[0] = a := by simpa [hgi] using h.h0
      rw [this]; exact awa
    · by_cases h1 : i = c
      · subst h1
        have : gs[i] = b := by simpa [hgi] using h.hc
        rw [this]; exact awb
      · exact awake_of ((h.old i _ (by omega) (by have := h.size; omega) hgi).status.elim .inl fun x => .inr (.inr x))
  obtain ⟨i, g, d, sl', hi, hg, hst⟩ := crowd_pick (P := P) (w := w) (sl := sl) haw (hr.elim (fun x => ⟨0, a, h.h0, x⟩) (fun x => ⟨c, b, h.hc, x⟩))
  have hilt : i < gs.size := (Array.getElem?_eq_some_iff.1 hi).1
  by_cases h0 : i = 0
  · subst h0
    obtain rfl : g = a := by rw [h.h0] at hi; exact (Option.some.inj hi).symm
    exact .inl ⟨d, sl', hg, hst⟩
  by_cases h1 : i = c
  · subst h1
    obtain rfl : g = b := by rw [h.hc] at hi; exact (Option.some.inj hi).symm
    exact .inr (.inl ⟨d, sl', hg, hst⟩)
  have hic : i < c := by have := h.size; omega
  have hq := h.old i g (by omega) hic hi
  have hi0 : (i == 0) = false := by simp [h0]
  cases hqi : q i with
  | zero => rw [hqi] at hq; rw [hq.1] at hg; cases hg
  | succ k =>
    rw [hqi] at hq
    rcases hq with ⟨hf, _⟩ | ⟨_, g', es, hm, hstp, hq'⟩
    · rw [hf] at hg; cases hg
    have hrunT := runT_crowd_go (P := P) (sl := sl') (i := i) hi (by rw [hi0]; exact hstp (w.at d))
    have hsum : sumTo c (upd q i k) + (k + 1) = sumTo c q + k := by
      have := sumTo_upd q k id hic
      simpa [hqi] using this
    refine .inr (.inr ⟨d, sl', i, k, g, g', es, _, hst.trans hrunT, ⟨by simp [h.size], h.pos, ?_, ?_, fun j x hj hjc hx => ?_, fun j hj => by rw [Deaf_other T (g' := i) (by omega) _ g_of_ofEvents]; exact h.above j hj⟩, hm, h0, h1, by omega⟩)
    · rw [Array.getElem?_setIfInBounds_ne h0, Array.getElem?_map, h.h0]; rfl
    · rw [Array.getElem?_setIfInBounds_ne h1, Array.getElem?_map, h.hc]; rfl
    · by_cases hji : i = j
      · subst hji
        rw [Array.getElem?_setIfInBounds_self_of_lt (by simpa using hilt)] at hx
        obtain rfl := Option.some.inj hx
        rw [upd_same, Deaf_own]
        exact hq'
      · rw [Array.getElem?_setIfInBounds_ne hji, Array.getElem?_map] at hx
        obtain ⟨y, hy, rfl⟩ := Option.map_eq_some_iff.1 hx
        have hqj := h.old j y hj hjc hy
        rw [woken_quitsD hqj, upd_ne q k (Ne.symm hji), Deaf_other T hji _ g_of_ofEvents]
        exact hqj
end

/-! ### an operation that touches nothing and is no mark -/
section
variable [Payload] {Mine : Loc → Prop} {ty : TypeId} {Wg C n : Nat} [Shy Wg C] {st sm : Int} {buf : Array Value} {cl : Bool} {s r d0 d1 : Nat} {w w' : World} {t : Trace} {p : Nat}

theorem Base.word (h : Base Mine ty Wg C n st sm buf cl s r d0 d1 false w t p) {op : MemOp} (hg : op.g = 0 ∨ op.g = 1) (ht : op.act.touch? = none) (hm : ∀ m, op.act ≠ .mark m) (hk : Shy.ok Wg C op.act) :
    Base Mine ty Wg C n st sm buf cl s r d0 d1 false w (t ++ #[op]) p := by
  have keep : ∀ o ∈ (#[op] : Trace), o.act ≠ .mark .disable ∧ o.act ≠ .mark .enable := fun o ho => by simp at ho; subst ho; exact ⟨hm _, hm _⟩
  have hop : ∀ o ∈ (#[op] : Trace), OkOp Mine Wg C op.g o := fun o ho => by
    simp at ho; subst ho
    exact ⟨rfl, fun x hx => (by rw [ht] at hx; cases hx), hm _, hk⟩
  exact ⟨h.wg, h.ch, h.jt.app hg hop (fun _ => .inl fun o ho x hx => by simp at ho; subst ho; rw [ht] at hx; cases hx), by rw [Deaf_keep t 0 _ keep, h.deaf0], by rw [Deaf_keep t 1 _ keep, h.deaf1],
    (fun e => (h.noacq e).app fun o ho => by simp at ho; subst ho; exact hm _), fun e => by cases e⟩
theorem Base.words (hl : List MemOp) (h : Base Mine ty Wg C n st sm buf cl s r d0 d1 false w t p) (ho : ∀ op ∈ hl, (op.g = 0 ∨ op.g = 1) ∧ op.act.touch? = none ∧ (∀ m, op.act ≠ .mark m) ∧ Shy.ok Wg C op.act) :
    Base Mine ty Wg C n st sm buf cl s r d0 d1 false w (t ++ hl.toArray) p := by
  induction hl generalizing t with
  | nil => simpa using h
  | cons x l ih =>
    obtain ⟨h1, h2, h3, h4⟩ := ho x (by simp)
    have e1 : t ++ (x :: l).toArray = (t ++ #[x]) ++ l.toArray := by simp
    rw [e1]
    exact ih (h.word h1 h2 h3 h4) fun op hop => ho op (by simp [hop])
theorem Base.world (h : Base Mine ty Wg C n st sm buf cl s r d0 d1 false w t p) {st' sm' : Int} (hw : WgAt ty Wg w' st' sm') (hc : ChanAt C w' n buf cl s r) : Base Mine ty Wg C n st' sm' buf cl s r d0 d1 false w' t p :=
  ⟨hw, hc, h.jt, h.deaf0, h.deaf1, h.noacq, h.rel⟩
end
end Go.ConcX
end
/- The stage of communication, run: goroutine 0 takes K+1 values one by one, then closes the other channel. No program of ours in sight. -/
section
namespace Go.Ph
open Go Go.Conc Go.ConcX
open Go.ConcN (sumTo upd sumTo_upd upd_ne upd_same)

section
variable [Payload] (P : Program) (ty : TypeId) (Wg C : Nat) [Shy Wg C] (Lo Low : Nat) (vals : List Value) (Mine : Loc → Prop) (c1 c2 : Nat) (v : Nat → Value)

/-- Goroutine 0's step: what is theirs together stands. -/
def DM (w w' : World) (es : Array Event) : Prop := (∀ b, Lo ≤ b → b < Low → w'.heap[b]? = w.heap[b]?) ∧ ∀ e ∈ es, EvQ Mine Wg C 0 e
/-- The child's: the world stands, but for the count of draws. -/
def DK (w w' : World) (es : Array Event) : Prop := AtRel w w' ∧ ∀ e ∈ es, EvQ Mine Wg C 1 e
/-- What the child suffers: of what is theirs together the channels alone turn. -/
def RK (w w' : World) : Prop := ∀ b, Lo ≤ b → b < Low → b ≠ Wg → b ≠ c1 → b ≠ c2 → w'.heap[b]? = w.heap[b]?
def send_ (i : Nat) (z z2 : Value) : Array CommCase := #[scase c1 (v i) z, rcase c2 z2]

/-- What comes behind the child's select number i: the send done, it comes to the next one; the other channel closed, it comes to its release; woken, it tries again. -/
structure KidCont (CAt : Nat → Goroutine → World → Prop) (i : Nat) (g : Goroutine) (z z2 : Value) (sh : CommShape) (w : World) : Prop where
  sent : ∀ w', RK Wg Lo Low c1 c2 w w' → ∃ n, Goes P false (RK Wg Lo Low c1 c2) (DK Wg C Mine) (CAt (i + 1)) n (g.finishComm P (send_ c1 c2 v i z z2) sh 0 undef false) w'
  shut : ∀ w', RK Wg Lo Low c1 c2 w w' → KCa ty Wg w' → ∃ n, Goes P false (RCa ty Wg Low) (DCs Mine Wg C) (AtR0 P ty Wg C Low vals) n (g.finishComm P (send_ c1 c2 v i z z2) sh 1 z2 false) w'
  again : ∀ w', RK Wg Lo Low c1 c2 w w' → stepG P false { parked g (send_ c1 c2 v i z z2) sh with status := .running } w' = .comm g (send_ c1 c2 v i z z2) true sh w' #[]
def KidSpec (CAt : Nat → Goroutine → World → Prop) : Prop := ∀ i g w, CAt i g w → g.status = .running ∧ ∃ z z2 sh, stepG P false g w = .comm g (send_ c1 c2 v i z z2) true sh w #[] ∧ KidCont P ty Wg C Lo Low vals Mine c1 c2 v CAt i g z z2 sh w

/-- Goroutine 0 at its receive number i of K + 1; behind the last it comes to the close. -/
structure MainSpec (K : Nat) (AnchW : Goroutine → World → Prop) (MAt : Nat → Goroutine → World → Prop) : Prop where
  recv : ∀ i g w, i ≤ K → MAt i g w → g.status = .running ∧ ∃ z sh, stepG P true g w = .comm g #[rcase c1 z] true sh w #[] ∧
    ∀ w', Go.Conc.Aside c1 w w' → (∃ s r, w'.heap[c1]? = some (.chan 0 #[] false s r false)) → ∃ m, Goes P true AtRel (DM Wg C Lo Low Mine) (MAt (i + 1)) m (g.finishComm P #[rcase c1 z] sh 0 (v i) true) w'
  shut : ∀ g w, MAt (K + 1) g w → g.status = .running ∧ mayWake P g = true ∧ ∀ r s, w.heap[c2]? = some (.chan 0 #[] false s r false) → ∃ g', g'.status = .running ∧ stepG P true g w = .go g' (w.setChan c2 0 #[] true s r false) #[⟨.obj c2, false, true⟩, ⟨.obj c2, true, true⟩] ∧
    ∃ m, Goes P true (RPa ty Wg C vals) (DPi Mine Wg C Low) (AtKd P ty Wg C Low vals Mine AnchW) m g' (w.setChan c2 0 #[] true s r false)
end

section
variable [Payload] {P : Program} {ty : TypeId} {Wg C : Nat} [Shy Wg C] {Lo Low : Nat} {vals : List Value} {Mine : Loc → Prop} {c1 c2 : Nat} {v : Nat → Value} {K : Nat} {AnchW : Goroutine → World → Prop}
  {MAt CAt : Nat → Goroutine → World → Prop} {c p : Nat} {t₀ : Trace}

variable (P ty Wg C vals Mine c1 c2 c t₀ p) in
/-- The frame of the stage. -/
structure Cm (gs : Array Goroutine) (a b : Goroutine) (w : World) (T : Trace) (q : Nat → Nat) (s : Trace) : Prop where
  big : Big P c gs a b T q
  base : Base Mine ty Wg C vals.length KK 0 vals.toArray false vals.length 0 0 0 false w s p
  link : Linked c t₀ s T
  ch1 : ∃ s1 r1, w.heap[c1]? = some (.chan 0 #[] false s1 r1 false)
  ch2 : ∃ s1 r1, w.heap[c2]? = some (.chan 0 #[] false s1 r1 false)

variable (P Wg C Lo Low Mine c1 v K MAt) in
inductive MS (i : Nat) : Nat → Goroutine → World → Prop
  | run {m : Nat} {g : Goroutine} {w : World} : Goes P true AtRel (DM Wg C Lo Low Mine) (MAt i) m g w → MS i (m + 1) g w
  | wait {g : Goroutine} {w : World} {z : Value} {sh : CommShape} : i ≤ K → (∀ w', Go.Conc.Aside c1 w w' → (∃ s r, w'.heap[c1]? = some (.chan 0 #[] false s r false)) → ∃ m, Goes P true AtRel (DM Wg C Lo Low Mine) (MAt (i + 1)) m (g.finishComm P #[rcase c1 z] sh 0 (v i) true) w') → MS i 0 (parked g #[rcase c1 z] sh) w
variable (P ty Wg C Lo Low vals Mine c1 c2 v CAt) in
inductive CS (i : Nat) : Nat → Goroutine → World → Prop
  | run {n : Nat} {g : Goroutine} {w : World} : Goes P false (RK Wg Lo Low c1 c2) (DK Wg C Mine) (CAt i) n g w → CS i (n + 1) g w
  | wait {g : Goroutine} {w : World} {z z2 : Value} {sh : CommShape} : KidCont P ty Wg C Lo Low vals Mine c1 c2 v CAt i g z z2 sh w → CS i 0 (parked g (send_ c1 c2 v i z z2) sh) w

theorem RK.refl (w : World) : RK Wg Lo Low c1 c2 w w := fun _ _ _ _ _ _ => rfl
theorem RK.trans : ∀ a b d : World, RK Wg Lo Low c1 c2 a b → RK Wg Lo Low c1 c2 b d → RK Wg Lo Low c1 c2 a d := fun _ _ _ h k b h1 h2 h3 h4 h5 => (k b h1 h2 h3 h4 h5).trans (h b h1 h2 h3 h4 h5)
theorem RK.of_at {w w' : World} (h : AtRel w w') : RK Wg Lo Low c1 c2 w w' := by obtain ⟨d, rfl⟩ := h; exact fun _ _ _ _ _ _ => rfl
theorem RK.of_dm {w w' : World} {es : Array Event} (h : DM Wg C Lo Low Mine w w' es) : RK Wg Lo Low c1 c2 w w' := fun b h1 h2 _ _ _ => h.1 b h1 h2
theorem aside_at {k : Nat} {w w' : World} (h : AtRel w w') : Go.Conc.Aside k w w' := by obtain ⟨d, rfl⟩ := h; exact ⟨rfl, rfl, rfl, rfl, fun _ _ => rfl⟩

theorem KidCont.rely {i : Nat} {g : Goroutine} {z z2 : Value} {sh : CommShape} {w w' : World} (h : KidCont P ty Wg C Lo Low vals Mine c1 c2 v CAt i g z z2 sh w) (hr : RK Wg Lo Low c1 c2 w w') : KidCont P ty Wg C Lo Low vals Mine c1 c2 v CAt i g z z2 sh w' :=
  ⟨fun w2 h2 => h.sent w2 (RK.trans _ _ _ hr h2), fun w2 h2 => h.shut w2 (RK.trans _ _ _ hr h2), fun w2 h2 => h.again w2 (RK.trans _ _ _ hr h2)⟩
theorem MainSpec.running (hM : MainSpec P ty Wg C Lo Low vals Mine c1 c2 v K AnchW MAt) {i : Nat} (hi : i ≤ K + 1) {g : Goroutine} {w : World} (h : MAt i g w) : g.status = .running := by
  rcases Nat.lt_or_ge K i with e | e
  · have : i = K + 1 := by omega
    subst this
    exact (hM.shut g w h).1
  · exact (hM.recv i g w e h).1
theorem MS.awake_ {i m : Nat} {g : Goroutine} {w : World} (hM : MainSpec P ty Wg C Lo Low vals Mine c1 c2 v K AnchW MAt) (hi : i ≤ K + 1) (h : MS P Wg C Lo Low Mine c1 v K MAt i m g w) : (g.status = .running ∧ 0 < m) ∨ (g.status = .blocked ∧ m = 0) := by
  cases h with
  | run h => exact .inl ⟨Goes.running (fun g w x => hM.running hi x) w ⟨_, rfl⟩ h, by omega⟩
  | wait => exact .inr ⟨rfl, rfl⟩
theorem CS.awake_ {i n : Nat} {g : Goroutine} {w : World} (hC : KidSpec P ty Wg C Lo Low vals Mine c1 c2 v CAt) (h : CS P ty Wg C Lo Low vals Mine c1 c2 v CAt i n g w) : (g.status = .running ∧ 0 < n) ∨ (g.status = .blocked ∧ n = 0) := by
  cases h with
  | run h => exact .inl ⟨Goes.running (fun g w x => (hC i g w x).1) w (RK.refl w) h, by omega⟩
  | wait => exact .inr ⟨rfl, rfl⟩
/-- Others' doing. -/
theorem MS.rely {i m : Nat} {g : Goroutine} {w w' : World} (h : MS P Wg C Lo Low Mine c1 v K MAt i m g w) (hr : AtRel w w') : MS P Wg C Lo Low Mine c1 v K MAt i m g w' := by
  cases h with
  | run h => exact .run (Goes.rely atRel_trans h hr)
  | wait hi h => exact .wait hi fun w2 h2 => h w2 ((aside_at hr).trans h2)
theorem CS.rely {i n : Nat} {g : Goroutine} {w w' : World} (h : CS P ty Wg C Lo Low vals Mine c1 c2 v CAt i n g w) (hr : RK Wg Lo Low c1 c2 w w') : CS P ty Wg C Lo Low vals Mine c1 c2 v CAt i n g w' := by
  cases h with
  | run h => exact .run (Goes.rely RK.trans h hr)
  | wait h => exact .wait (h.rely hr)
/-- A step of somebody else's does not wake it while both channels are open. -/
theorem MS.woken_ {i m : Nat} {g x x' : Goroutine} {w : World} (hM : MainSpec P ty Wg C Lo Low vals Mine c1 c2 v K AnchW MAt) (hi : i ≤ K + 1) (h : MS P Wg C Lo Low Mine c1 v K MAt i m g w) {s r : Nat} (h1 : w.heap[c1]? = some (.chan 0 #[] false s r false)) : woken P x x' w g = g := by
  cases h with
  | run h => exact woken_run (Goes.running (fun g w x => hM.running hi x) w ⟨_, rfl⟩ h)
  | wait => exact woken_recv_open _ _ h1
theorem CS.woken_ {i n : Nat} {g x x' : Goroutine} {w : World} (hC : KidSpec P ty Wg C Lo Low vals Mine c1 c2 v CAt) (h : CS P ty Wg C Lo Low vals Mine c1 c2 v CAt i n g w) {s r s2 r2 : Nat} (h1 : w.heap[c1]? = some (.chan 0 #[] false s r false)) (h2 : w.heap[c2]? = some (.chan 0 #[] false s2 r2 false)) : woken P x x' w g = g := by
  cases h with
  | run h => exact woken_run (Goes.running (fun g w x => (hC i g w x).1) w (RK.refl w) h)
  | wait => exact woken_sel_open _ _ h1 h2

/-- Behind the close: goroutine 0 goes its way to Wait; the child has still to come to its select, or stands at it. -/
def Lag0 (P : Program) (ty : TypeId) (Wg C : Nat) [Shy Wg C] (Lo Low : Nat) (vals : List Value) (Mine : Loc → Prop) (c1 c2 : Nat) (v : Nat → Value) (K : Nat) (AnchW : Goroutine → World → Prop) (CAt : Nat → Goroutine → World → Prop) (c p : Nat) (t₀ : Trace) (M : Machine) (T : Trace) : Prop :=
  ∃ gs a b w sl q s m n, M = crowd gs w sl ∧ Big P c gs a b T q ∧ Base Mine ty Wg C vals.length KK 0 vals.toArray false vals.length 0 0 0 false w s p ∧ Linked c t₀ s T ∧ (∃ s1 r1, w.heap[c1]? = some (.chan 0 #[] false s1 r1 false)) ∧ (∃ s1 r1, w.heap[c2]? = some (.chan 0 #[] true s1 r1 false)) ∧
    Goes P true (RPa ty Wg C vals) (DPi Mine Wg C Low) (AtKd P ty Wg C Low vals Mine AnchW) m a w ∧ (CS P ty Wg C Lo Low vals Mine c1 c2 v CAt (K + 1) (n + 1) b w ∨ ∃ g z z2 sh, b = { parked g (send_ c1 c2 v (K + 1) z z2) sh with status := .running } ∧ KidCont P ty Wg C Lo Low vals Mine c1 c2 v CAt (K + 1) g z z2 sh w)

theorem at_setChan (w : World) (c cap : Nat) (buf : Array Value) (cl : Bool) (s r : Nat) (tm : Bool) {b : Nat} (h : b ≠ c) : (w.setChan c cap buf cl s r tm).heap[b]? = w.heap[b]? := by
  simp only [World.setChan]
  rw [Array.getElem?_setIfInBounds_ne (Ne.symm h)]
theorem at_setChan_self {w : World} {c : Nat} {o : Obj} (h : w.heap[c]? = some o) (cap : Nat) (buf : Array Value) (cl : Bool) (s r : Nat) (tm : Bool) : (w.setChan c cap buf cl s r tm).heap[c]? = some (.chan cap buf cl s r tm) := by
  have := (Array.getElem?_eq_some_iff.1 h).1
  simp [World.setChan, this]
theorem aside_setChan (w : World) (c cap : Nat) (buf : Array Value) (cl : Bool) (s r : Nat) (tm : Bool) : Go.Conc.Aside c w (w.setChan c cap buf cl s r tm) := ⟨rfl, rfl, rfl, by simp [World.setChan], fun k hk => at_setChan w c cap buf cl s r tm hk⟩
theorem evq_close {c2 : Nat} (h1 : Shy.ok Wg C (.access ⟨.obj c2, false, true⟩)) (h2 : Shy.ok Wg C (.close c2)) (hne : c2 ≠ C) : ∀ e ∈ (#[⟨.obj c2, false, true⟩, ⟨.obj c2, true, true⟩] : Array Event), EvQ Mine Wg C 0 e := by
  intro e he
  simp at he
  rcases he with rfl | rfl
  · refine ⟨fun fn pos => ⟨rfl, fun x hx => ?_, by simp [MemAct.ofEvent], h1⟩, by simp, by simp, by simp⟩
    simp [MemAct.ofEvent, MemAct.touch?] at hx
    subst hx
    exact ⟨.inr (.inl ⟨rfl, fun e => by cases e⟩), fun _ => ⟨by simp, fun _ => rfl⟩, fun ⟨y, hy, _⟩ => by cases hy⟩
  · refine ⟨fun fn pos => ⟨rfl, fun x hx => ?_, by simp [MemAct.ofEvent], h2⟩, by simp, by simp, by simp⟩
    simp [MemAct.ofEvent, MemAct.touch?] at hx

/-- Where what is theirs together lies. -/
structure Lay (Lo Low Wg C c1 c2 : Nat) : Prop where
  wg : Lo ≤ Wg ∧ Wg < Low
  cc : Lo ≤ C ∧ C < Low
  k1 : Lo ≤ c1 ∧ c1 < Low
  k2 : Lo ≤ c2 ∧ c2 < Low
  n1 : c1 ≠ Wg ∧ c1 ≠ C
  n2 : c2 ≠ Wg ∧ c2 ≠ C
  n12 : c2 ≠ c1
  cw : C ≠ Wg
/-- What the open limb of the family's must let by. -/
structure Lets (Wg C c1 c2 : Nat) [Shy Wg C] : Prop where
  send : ∀ k, Shy.ok Wg C (.send c1 k)
  sendDone : ∀ k, Shy.ok Wg C (.sendDone c1 k)
  recv : ∀ k cap, Shy.ok Wg C (.recv c1 k cap)
  recvDone : ∀ k, Shy.ok Wg C (.recvDone c1 k)
  peek : Shy.ok Wg C (.access ⟨.obj c2, false, true⟩)
  close : Shy.ok Wg C (.close c2)
  found : Shy.ok Wg C (.recvClosed c2)

section
variable {gs gs' : Array Goroutine} {a b a' b' : Goroutine} {w w' : World} {T : Trace} {q : Nat → Nat} {s : Trace} {es : Array Event}
theorem Cm.at (h : Cm P ty Wg C vals Mine c1 c2 c p t₀ gs a b w T q s) (d : Nat) : Cm P ty Wg C vals Mine c1 c2 c p t₀ gs a b (w.at d) T q s := ⟨h.big, h.base.at d, h.link, h.ch1, h.ch2⟩
theorem Cm.go0 (hl : Lay Lo Low Wg C c1 c2) (h : Cm P ty Wg C vals Mine c1 c2 c p t₀ gs a b w T q s) (hD : DM Wg C Lo Low Mine w w' es) (hb : woken P a a' w' b = b) (fn : FuncId) (pos : String) :
    Cm P ty Wg C vals Mine c1 c2 c p t₀ ((gs.map (woken P a a' w')).setIfInBounds 0 a') a' b w' (T ++ MemOp.ofEvents 0 fn pos es) q (s ++ MemOp.ofEvents 0 fn pos es) := by
  have B := h.big.own0 (a' := a') (w' := w') fn pos es
  rw [hb] at B
  obtain ⟨s1, r1, e1⟩ := h.ch1
  obtain ⟨s2, r2, e2⟩ := h.ch2
  exact ⟨B, h.base.step0 fn pos hD.2 (h.base.wg.of_block (hD.1 _ hl.wg.1 hl.wg.2)) (fun e => by cases e), h.link.events h.big.c0 (.inl rfl) fn pos es, ⟨s1, r1, (hD.1 _ hl.k1.1 hl.k1.2).trans e1⟩, ⟨s2, r2, (hD.1 _ hl.k2.1 hl.k2.2).trans e2⟩⟩
theorem Cm.go1 (h : Cm P ty Wg C vals Mine c1 c2 c p t₀ gs a b w T q s) (hD : DK Wg C Mine w w' es) (ha : woken P b b' w' a = a) (fn : FuncId) (pos : String) :
    Cm P ty Wg C vals Mine c1 c2 c p t₀ ((gs.map (woken P b b' w')).setIfInBounds c b') a b' w' (T ++ MemOp.ofEvents c fn pos es) q (s ++ MemOp.ofEvents 1 fn pos es) := by
  have B := h.big.own1 (b' := b') (w' := w') fn pos es
  rw [ha] at B
  obtain ⟨⟨d, rfl⟩, hE⟩ := hD
  exact ⟨B, h.base.step1 fn pos hE h.base.wg (fun e => by cases e), by have := h.link.events h.big.c0 (.inr rfl) fn pos es; exact this, h.ch1, h.ch2⟩
/-- A communication between the two. -/
theorem Cm.met (hl : Lay Lo Low Wg C c1 c2) (hk : Lets Wg C c1 c2) (h : Cm P ty Wg C vals Mine c1 c2 c p t₀ gs a b w T q s) (B : Big P c gs' a' b' T q) (s' r' : Nat) (l : List MemOp) (hop : ∀ op ∈ l, (op.g = 0 ∨ op.g = 1) ∧ ((∃ k, op.act = .send c1 k) ∨ (∃ k, op.act = .sendDone c1 k) ∨ (∃ k cap, op.act = .recv c1 k cap) ∨ ∃ k, op.act = .recvDone c1 k)) :
    Cm P ty Wg C vals Mine c1 c2 c p t₀ gs' a' b' (w.setChan c1 0 #[] false s' r' false) (T ++ (l.map (renOp c)).toArray) q (s ++ l.toArray) := by
  obtain ⟨s1, r1, e1⟩ := h.ch1
  obtain ⟨s2, r2, e2⟩ := h.ch2
  refine ⟨B.keep _ fun op ho => ?_, (h.base.words l fun op ho => ?_).world (st' := KK) (sm' := 0) ?_ (fun e => by cases e), h.link.boths h.big.c0 l fun op ho => (hop op ho).1, ⟨_, _, at_setChan_self e1 ..⟩, ⟨s2, r2, (at_setChan w c1 _ _ _ _ _ _ hl.n12).trans e2⟩⟩
  · simp only [List.mem_toArray, List.mem_map] at ho
    obtain ⟨x, hx, rfl⟩ := ho
    rcases (hop x hx).2 with ⟨k, e⟩ | ⟨k, e⟩ | ⟨k, cap, e⟩ | ⟨k, e⟩ <;> simp [renOp, renAct, e]
  · obtain ⟨h1, h2⟩ := hop op ho
    rcases h2 with ⟨k, e⟩ | ⟨k, e⟩ | ⟨k, cap, e⟩ | ⟨k, e⟩
    · exact ⟨h1, by rw [e]; rfl, by simp [e], by rw [e]; exact hk.send k⟩
    · exact ⟨h1, by rw [e]; rfl, by simp [e], by rw [e]; exact hk.sendDone k⟩
    · exact ⟨h1, by rw [e]; rfl, by simp [e], by rw [e]; exact hk.recv k cap⟩
    · exact ⟨h1, by rw [e]; rfl, by simp [e], by rw [e]; exact hk.recvDone k⟩
  · exact h.base.wg.of_block (at_setChan w c1 _ _ _ _ _ _ (Ne.symm hl.n1.1))
/-- It waits. -/
theorem Cm.rest (h : Cm P ty Wg C vals Mine c1 c2 c p t₀ gs a b w T q s) (B : Big P c gs' a' b' T q) : Cm P ty Wg C vals Mine c1 c2 c p t₀ gs' a' b' w T q s := ⟨B, h.base, h.link, h.ch1, h.ch2⟩
theorem ofEvents_none (g : Nat) (fn : FuncId) (pos : String) : MemOp.ofEvents g fn pos #[] = #[] := by simp [MemOp.ofEvents]
end

/-- ████ THE STAGE OF COMMUNICATION COMES TO ITS END ON WHATEVER TAPE. ████ -/
theorem comm_run (hM : MainSpec P ty Wg C Lo Low vals Mine c1 c2 v K AnchW MAt) (hC : KidSpec P ty Wg C Lo Low vals Mine c1 c2 v CAt) (hl : Lay Lo Low Wg C c1 c2) (hk : Lets Wg C c1 c2) :
    ∀ (k i : Nat), i + k = K + 1 → ∀ (μ : Nat) (gs : Array Goroutine) (a b : Goroutine) (w : World) (sl : Option (Nat × Nat)) (T : Trace) (q : Nat → Nat) (s : Trace) (m n : Nat),
      Cm P ty Wg C vals Mine c1 c2 c p t₀ gs a b w T q s → MS P Wg C Lo Low Mine c1 v K MAt i m a w → CS P ty Wg C Lo Low vals Mine c1 c2 v CAt i n b w → m ≠ 0 ∨ n ≠ 0 → m + n + sumTo c q = μ →
      ∃ N M' T', runNT P N (crowd gs w sl) T = (.next M', T') ∧ Lag0 P ty Wg C Lo Low vals Mine c1 c2 v K AnchW CAt c p t₀ M' T' := by
  intro k
  induction k using Nat.strongRecOn with
  | _ k ihk =>
  intro i hik μ
  induction μ using Nat.strongRecOn with
  | _ μ ih =>
  intro gs a b w sl T q s m n hCm hMS hCS hmn hμ
  have hi : i ≤ K + 1 := by omega
  have hc0 : c ≠ 0 := hCm.big.c0
  have hci : (c == 0) = false := by simp [hc0]
  have next : ∀ {M1 : Machine} {ops : Array MemOp}, stepT P (crowd gs w sl) = (.next M1, ops) → (∃ N M' T', runNT P N M1 (T ++ ops) = (.next M', T') ∧ Lag0 P ty Wg C Lo Low vals Mine c1 c2 v K AnchW CAt c p t₀ M' T') →
      ∃ N M' T', runNT P N (crowd gs w sl) T = (.next M', T') ∧ Lag0 P ty Wg C Lo Low vals Mine c1 c2 v K AnchW CAt c p t₀ M' T' := fun {M1 ops} e ⟨N, M', T', r, h⟩ => ⟨N + 1, M', T', by simp only [runNT, e]; exact r, h⟩
  have sa := hMS.awake_ hM hi
  have sb := hCS.awake_ hC
  rcases hCm.big.pick (w := w) (sl := sl) (awake_of (sa.elim (fun x => .inl x.1) fun x => .inr (.inl x.1))) (awake_of (sb.elim (fun x => .inl x.1) fun x => .inr (.inl x.1)))
    (by rcases sa with x | x
        · exact .inl x.1
        · rcases sb with y | y
          · exact .inr y.1
          · omega) with ⟨d, sl', hra, hst⟩ | ⟨d, sl', hrb, hst⟩ | ⟨d, sl', j, kk, g, g', es, gs', hst, B, hm, hj0, hjc, hlt⟩
  · -- goroutine 0 is picked
    have hCd := hCm.at d
    have hMd := hMS.rely (w' := w.at d) ⟨d, rfl⟩
    have hKd := hCS.rely (w' := w.at d) (RK.of_at ⟨d, rfl⟩)
    obtain ⟨s1, r1, e1⟩ := hCd.ch1
    obtain ⟨s2, r2, e2⟩ := hCd.ch2
    cases hMd with
    | wait => cases hra
    | @run m _ _ hG =>
      rcases Goes.cases hG with hstop | ⟨m', rfl, hstep⟩
      · have hat := hstop (w.at d) ⟨_, rfl⟩
        rcases Nat.lt_or_ge K i with hKi | hKi
        · -- the close
          obtain rfl : i = K + 1 := by omega
          obtain ⟨-, hmay, hcl⟩ := hM.shut a _ hat
          obtain ⟨a', hra', hgo, m', hG'⟩ := hcl r2 s2 e2
          have hw2 := at_setChan_self e2 0 #[] true s2 r2 false
          have hoth : ∀ x, x ≠ c2 → ((w.at d).setChan c2 0 #[] true s2 r2 false).heap[x]? = (w.at d).heap[x]? := fun x hx => at_setChan _ _ _ _ _ _ _ _ hx
          have B := hCd.big.own0 (a' := a') (w' := (w.at d).setChan c2 0 #[] true s2 r2 false) a.frame.fn a.frame.place #[⟨.obj c2, false, true⟩, ⟨.obj c2, true, true⟩]
          have hrk : RK Wg Lo Low c1 c2 (w.at d) ((w.at d).setChan c2 0 #[] true s2 r2 false) := fun x _ _ _ _ h2 => hoth x h2
          have Bs := hCd.base.step0 (w' := (w.at d).setChan c2 0 #[] true s2 r2 false) (buf' := vals.toArray) (cl' := false) (s' := vals.length) (r' := 0) a.frame.fn a.frame.place (evq_close hk.peek hk.close hl.n2.2) (hCd.base.wg.of_block (hoth _ (Ne.symm hl.n2.1))) (fun e => by cases e)
          refine next (hst.trans (runT_crowd_go (P := P) (sl := sl') (i := 0) hCm.big.h0 hgo)) ⟨0, _, _, rfl, ?_⟩
          cases hKd with
          | @run n _ _ hGk =>
            have hrb : b.status = .running := Goes.running (fun g w x => (hC (K + 1) g w x).1) (w.at d) (RK.refl _) hGk
            rw [woken_run hrb] at B
            exact ⟨_, _, _, _, _, _, _, _, n, rfl, B, Bs, hCd.link.events hc0 (.inl rfl) _ _ _, ⟨s1, r1, (hoth _ (Ne.symm hl.n12)).trans e1⟩, ⟨_, _, hw2⟩, hG', .inl (.run (Goes.rely RK.trans hGk hrk))⟩
          | @wait gk _ zk z2 shk hK =>
            have hwk : woken P a a' ((w.at d).setChan c2 0 #[] true s2 r2 false) (parked gk (send_ c1 c2 v (K + 1) zk z2) shk) = { parked gk (send_ c1 c2 v (K + 1) zk z2) shk with status := .running } := by
              unfold woken
              rw [hmay, hra']
              exact again_sel_closed hw2
            rw [hwk] at B
            exact ⟨_, _, _, _, _, _, _, _, 0, rfl, B, Bs, hCd.link.events hc0 (.inl rfl) _ _ _, ⟨s1, r1, (hoth _ (Ne.symm hl.n12)).trans e1⟩, ⟨_, _, hw2⟩, hG', .inr ⟨gk, zk, z2, shk, rfl, hK.rely hrk⟩⟩
        · obtain ⟨-, z, sh, hcomm, hcont⟩ := hM.recv i a _ hKi hat
          cases hKd with
          | @run n _ _ hGk =>
            -- nobody offers: it waits
            have hrb : b.status = .running := Goes.running (fun g w x => (hC i g w x).1) (w.at d) (RK.refl _) hGk
            have hp : partners (gs.setIfInBounds 0 ph) c1 true = [] := by rw [hCm.big.partners0, offersAt_of_not_blocked (by rw [hrb]; simp)]; rfl
            refine next (hst.trans (crowd_waits (P := P) (sl := sl') (i := 0) hCm.big.h0 hcomm fun cc hcc => ?_)) ?_
            · simp at hcc; subst hcc
              exact ways_recv_none e1 hp
            · rw [ofEvents_none, Array.append_empty]
              exact ih _ (by omega) _ _ _ _ _ _ _ _ _ _ (hCd.rest (hCd.big.setA _)) (.wait hKi hcont) (.run hGk) (.inr (by omega)) rfl
          | @wait gk _ zk z2 shk hK =>
            -- they meet
            have hp : partners (gs.setIfInBounds 0 ph) c1 true = [(c, 0)] := by
              rw [hCm.big.partners0]
              rw [show offersAt (parked gk (send_ c1 c2 v i zk z2) shk) c1 true = [0] from (offers_c hl.n12).1]
              rfl
            have hj : gs[c]? = some (parked gk #[scase c1 (v i) zk, rcase c2 z2] shk) := hCm.big.hc
            refine next (hst.trans (recv_meets_sel (P := P) (sl := sl') (i := 0) hCm.big.h0 hcomm e1 hc0 hj hp)) ?_
            obtain ⟨m2, hG2⟩ := hcont ((w.at d).setChan c1 0 #[] false (s1 + 1) (r1 + 1) false) (aside_setChan ..) ⟨_, _, at_setChan_self e1 0 #[] false (s1 + 1) (r1 + 1) false⟩
            obtain ⟨n2, hK2⟩ := hK.sent ((w.at d).setChan c1 0 #[] false (s1 + 1) (r1 + 1) false) fun x _ _ _ h1 _ => at_setChan _ _ _ _ _ _ _ _ h1
            have := hCd.met hl hk ((hCd.big.setC (gk.finishComm P #[scase c1 (v i) zk, rcase c2 z2] shk 0 undef false)).setA (a.finishComm P #[rcase c1 z] sh 0 (v i) true)) (s1 + 1) (r1 + 1) [{ g := 1, fn := gk.frame.fn, pos := gk.frame.place, act := .send c1 s1 }, { g := 0, fn := a.frame.fn, pos := a.frame.place, act := .recv c1 r1 0 },
              { g := 1, fn := gk.frame.fn, pos := gk.frame.place, act := .sendDone c1 s1 }, { g := 0, fn := a.frame.fn, pos := a.frame.place, act := .recvDone c1 r1 }] (by simp)
            simp only [List.map_cons, List.map_nil, renOp, renG_one, renG_zero, renAct] at this
            rw [ofEvents_none, Array.empty_append]
            exact ihk (k - 1) (by omega) (i + 1) (by omega) _ _ _ _ _ _ _ _ _ _ _ this (.run hG2) (.run hK2) (.inl (by omega)) rfl
      · obtain ⟨a', w', es, hgo, hD, hG'⟩ := hstep (w.at d) ⟨_, rfl⟩
        have hb := (hKd.rely (RK.of_dm hD)).woken_ hC (x := a) (x' := a') ((hD.1 _ hl.k1.1 hl.k1.2).trans e1) ((hD.1 _ hl.k2.1 hl.k2.2).trans e2)
        refine next (hst.trans (runT_crowd_go (P := P) (sl := sl') (i := 0) hCm.big.h0 hgo)) ?_
        exact ih _ (by omega) _ _ _ _ _ _ _ _ _ _ (hCd.go0 hl hD hb _ _) (.run hG') (hKd.rely (RK.of_dm hD)) (.inl (by omega)) rfl
  · -- the child is picked
    have hCd := hCm.at d
    have hMd := hMS.rely (w' := w.at d) ⟨d, rfl⟩
    have hKd := hCS.rely (w' := w.at d) (RK.of_at ⟨d, rfl⟩)
    obtain ⟨s1, r1, e1⟩ := hCd.ch1
    obtain ⟨s2, r2, e2⟩ := hCd.ch2
    cases hKd with
    | wait => cases hrb
    | @run n _ _ hG =>
      rcases Goes.cases hG with hstop | ⟨n', rfl, hstep⟩
      · obtain ⟨-, z, z2, sh, hcomm, hK⟩ := hC i b _ (hstop (w.at d) (RK.refl _))
        cases hMd with
        | @run m _ _ hGm =>
          have hra : a.status = .running := Goes.running (fun g w x => hM.running hi x) (w.at d) ⟨_, rfl⟩ hGm
          have hp : ∀ r s, partners (gs.setIfInBounds c ph) r s = [] := fun r s => by rw [hCm.big.partners1, offersAt_of_not_blocked (by rw [hra]; simp)]; rfl
          refine next (hst.trans (crowd_waits (P := P) (sl := sl') (i := c) hCm.big.hc (by rw [hci]; exact hcomm) fun cc hcc => ?_)) ?_
          · simp [send_] at hcc
            rcases hcc with rfl | rfl
            · exact ways_send_none e1 (Nat.zero_le _) (hp _ _)
            · exact ways_recv_none e2 (hp _ _)
          · rw [ofEvents_none, Array.append_empty]
            exact ih _ (by omega) _ _ _ _ _ _ _ _ _ _ (hCd.rest (hCd.big.setC _)) (.run hGm) (.wait hK) (.inl (by omega)) rfl
        | @wait ga _ za sha hKi hcont =>
          have hp : partners (gs.setIfInBounds c ph) c1 false = [(0, 0)] := by
            rw [hCm.big.partners1, offersAt_parked_recv, if_pos rfl]; rfl
          have hp2 : partners (gs.setIfInBounds c ph) c2 true = [] := by rw [hCm.big.partners1, offersAt_parked_recv']; rfl
          refine next (hst.trans (sel_send_meets (P := P) (sl := sl') (i := c) hCm.big.hc (by rw [hci]; exact hcomm) (ways_recv_none e2 hp2) e1 (Ne.symm hc0) hCm.big.h0 hp)) ?_
          obtain ⟨m2, hG2⟩ := hcont ((w.at d).setChan c1 0 #[] false (s1 + 1) (r1 + 1) false) (aside_setChan ..) ⟨_, _, at_setChan_self e1 0 #[] false (s1 + 1) (r1 + 1) false⟩
          obtain ⟨n2, hK2⟩ := hK.sent ((w.at d).setChan c1 0 #[] false (s1 + 1) (r1 + 1) false) fun x _ _ _ h1 _ => at_setChan _ _ _ _ _ _ _ _ h1
          have := hCd.met hl hk ((hCd.big.setA (ga.finishComm P #[rcase c1 za] sha 0 (v i) true)).setC (b.finishComm P #[scase c1 (v i) z, rcase c2 z2] sh 0 undef false)) (s1 + 1) (r1 + 1) [{ g := 1, fn := b.frame.fn, pos := b.frame.place, act := .send c1 s1 }, { g := 0, fn := ga.frame.fn, pos := ga.frame.place, act := .recv c1 r1 0 },
            { g := 1, fn := b.frame.fn, pos := b.frame.place, act := .sendDone c1 s1 }, { g := 0, fn := ga.frame.fn, pos := ga.frame.place, act := .recvDone c1 r1 }] (by simp)
          simp only [List.map_cons, List.map_nil, renOp, renG_one, renG_zero, renAct] at this
          rw [ofEvents_none, Array.empty_append]
          exact ihk (k - 1) (by omega) (i + 1) (by omega) _ _ _ _ _ _ _ _ _ _ _ this (.run hG2) (.run hK2) (.inl (by omega)) rfl
      · obtain ⟨b', w', es, hgo, hD, hG'⟩ := hstep (w.at d) (RK.refl _)
        have hMw := hMd.rely hD.1
        obtain ⟨d', hd'⟩ := id hD.1
        have ha := hMw.woken_ hM hi (x := b) (x' := b') (s := s1) (r := r1) (by rw [hd']; exact e1)
        refine next (hst.trans (runT_crowd_go (P := P) (sl := sl') (i := c) hCm.big.hc (by rw [hci]; exact hgo))) ?_
        exact ih _ (by omega) _ _ _ _ _ _ _ _ _ _ (hCd.go1 hD ha _ _) hMw (.run hG') (.inr (by omega)) rfl
  · -- one slips
    have e1 := hMS.rely (w' := w.at d) ⟨d, rfl⟩
    have e2 := hCS.rely (w' := w.at d) (RK.of_at ⟨d, rfl⟩)
    have hCd := hCm.at d
    obtain ⟨s1, r1, f1⟩ := hCd.ch1
    obtain ⟨s2, r2, f2⟩ := hCd.ch2
    rw [e1.woken_ hM hi f1, e2.woken_ hC f1 f2] at B
    refine next hst (ih _ (by omega) _ _ _ _ _ _ _ _ _ _ ⟨B, hCd.base, hCd.link.mutes hj0 hjc _ _ hm, hCd.ch1, hCd.ch2⟩ e1 e2 hmn rfl)
end
end Go.Ph
end
/- Behind the close: the child comes to its select and finds the channel closed, while goroutine 0 goes its way into Wait: from there on it is the family's ghost. No program of ours in sight. -/
section
namespace Go.Ph
open Go Go.Conc Go.ConcX
open Go.ConcN (sumTo upd sumTo_upd upd_ne upd_same)

section
variable [Payload] {P : Program} {ty : TypeId} {Wg C : Nat} [Shy Wg C] {Lo Low : Nat} {vals : List Value} {Mine : Loc → Prop} {c1 c2 : Nat} {v : Nat → Value} {K : Nat} {AnchW : Goroutine → World → Prop} {Post : Value → World → Prop}
  {MAt CAt : Nat → Goroutine → World → Prop} {c p : Nat} {t₀ : Trace}

variable (P ty Wg C Low vals Mine AnchW Post p) in
/-- Goroutine 0 on its way into Wait, the child not yet released. -/
inductive LM : Nat × Nat → Goroutine → World → Trace → Prop
  | a {rp d0 mp : Nat} {a : Goroutine} {w : World} {s : Trace} : Base Mine ty Wg C vals.length KK 0 vals.toArray false vals.length 0 d0 0 false w s p → PA P ty Wg C Low vals Mine AnchW Post rp d0 mp a w → LM (rp + 2, mp) a w s
  | b {rp mp : Nat} {a : Goroutine} {w : World} {s : Trace} : Base Mine ty Wg C vals.length (KK + 1) 0 vals.toArray false vals.length 0 1 0 false w s p → PB P ty Wg C Low vals Mine Post rp mp a w → LM (rp, mp) a w s

section
variable {μ : Nat × Nat} {a : Goroutine} {w w' : World} {s : Trace}
theorem LM.at (h : LM P ty Wg C Low vals Mine AnchW Post p μ a w s) (d : Nat) : LM P ty Wg C Low vals Mine AnchW Post p μ a (w.at d) s := by
  cases h with
  | a h1 h2 => exact .a (h1.at d) (h2.rely (RPa.at w d))
  | b h1 h2 => exact .b (h1.at d) (h2.rely (RPb.at w d))
theorem LM.status (hAr : ∀ g w, AnchW g w → g.status = .running) (h : LM P ty Wg C Low vals Mine AnchW Post p μ a w s) : a.status = .running ∨ (a.status = .blocked ∧ a.offers = none) := by
  cases h with
  | a h1 h2 => exact .inl (h2.running hAr)
  | b h1 h2 => exact h2.status.imp (fun x => x.2) (fun x => x.2)
theorem LM.kca (h : LM P ty Wg C Low vals Mine AnchW Post p μ a w s) : KCa ty Wg w := by
  cases h with
  | a h1 h2 => exact .inl h1.wg
  | b h1 h2 => exact .inr h1.wg
theorem LM.woken_ (hAr : ∀ g w, AnchW g w → g.status = .running) (h : LM P ty Wg C Low vals Mine AnchW Post p μ a w s) (x x' : Goroutine) : ∃ μ', LM P ty Wg C Low vals Mine AnchW Post p μ' (woken P x x' w a) w s := by
  cases h with
  | a h1 h2 => exact ⟨_, by rw [woken_run (h2.running hAr)]; exact .a h1 h2⟩
  | b h1 h2 =>
    obtain ⟨r', m', h3⟩ := h2.woken (b := x) (b' := x')
    exact ⟨_, .b h1 h3⟩
/-- The child reads. -/
theorem LM.kid {es : Array Event} (h : LM P ty Wg C Low vals Mine AnchW Post p μ a w s) (hD : DK Wg C Mine w w' es) (fn : FuncId) (pos : String) : LM P ty Wg C Low vals Mine AnchW Post p μ a w' (s ++ MemOp.ofEvents 1 fn pos es) := by
  obtain ⟨⟨d, rfl⟩, hE⟩ := hD
  cases h with
  | a h1 h2 => exact .a ((h1.at d).step1 fn pos hE (h1.at d).wg (h1.at d).ch) (h2.rely (RPa.at w d))
  | b h1 h2 => exact .b ((h1.at d).step1 fn pos hE (h1.at d).wg (h1.at d).ch) (h2.rely (RPb.at w d))
theorem LM.word {op : MemOp} (h : LM P ty Wg C Low vals Mine AnchW Post p μ a w s) (hg : op.g = 0 ∨ op.g = 1) (ht : op.act.touch? = none) (hm : ∀ m, op.act ≠ .mark m) (hk : Shy.ok Wg C op.act) : LM P ty Wg C Low vals Mine AnchW Post p μ a w (s ++ #[op]) := by
  cases h with
  | a h1 h2 => exact .a (h1.word hg ht hm hk) h2
  | b h1 h2 => exact .b (h1.word hg ht hm hk) h2
theorem stepped_of {b a' b' : Goroutine} {w' : World} {ops : Array MemOp} (h : runTX P (duo a b w none) 0 = (.next (duo a' b' w' none), ops)) : ∃ es, stepG P true a w = .go a' w' es ∧ ops = MemOp.ofEvents 0 a.frame.fn a.frame.place es := by
  rw [duo_eq_crowd] at h
  obtain ⟨g0, g', w2, es, hg0, hgo, e, rfl⟩ := runTX_next h
  obtain rfl : g0 = a := by simpa using hg0.symm
  have em : crowd ((#[g0, b].map (woken P g0 g' w2)).setIfInBounds 0 g') w2 none = duo g' (woken P g0 g' w2 b) w2 none := by simp [crowd, duo]
  rw [em] at e
  obtain ⟨rfl, rfl, rfl, -⟩ := duo_inj e
  exact ⟨es, hgo, rfl⟩
theorem LM.move (hW : Wg < Low) (hC : C < Low) (hCW : C ≠ Wg) (hAr : ∀ g w, AnchW g w → g.status = .running) (hAn : ∀ g w, AnchW g w → ∃ m, Goes P true (RPa ty Wg C vals) (DPi Mine Wg C Low) (AtW1 P ty Wg C Low vals Mine AnchW Post) m g w)
    (h : LM P ty Wg C Low vals Mine AnchW Post p μ a w s) (hr : a.status = .running) (b : Goroutine) :
    ∃ a' w' es μ', stepG P true a w = .go a' w' es ∧ RCa ty Wg Low w w' ∧ Lt2 μ' μ ∧ LM P ty Wg C Low vals Mine AnchW Post p μ' a' w' (s ++ MemOp.ofEvents 0 a.frame.fn a.frame.place es) := by
  cases h with
  | a h1 h2 =>
    obtain ⟨a', w', ops, hrun, hrc, hout⟩ := PA.moveA hW hC hCW hAn (b := b) (sl := none) h1 h2
    obtain ⟨es, hgo, rfl⟩ := stepped_of hrun
    cases hout with
    | stay rp' d0' mp' hl hB' hp' => exact ⟨a', w', es, _, hgo, hrc, lt2_shift 2 hl, .a hB' hp'⟩
    | reg mp' hB' hp' => exact ⟨a', w', es, _, hgo, hrc, .left _ _ (by omega), .b hB' hp'⟩
  | @b rp mp _ _ _ h1 h2 =>
    rcases h2.status with ⟨rfl, -⟩ | ⟨-, e, -⟩
    · obtain ⟨a', w', ops, hrun, hrd, rp', mp', hl, hB', hp'⟩ := PB.move0 hW hC (b := b) (sl := none) h1 h2
      obtain ⟨es, hgo, rfl⟩ := stepped_of hrun
      exact ⟨a', w', es, _, hgo, hrd.toA hW, hl, .b hB' hp'⟩
    · rw [hr] at e; cases e
end

theorem rk_of_rca {w w' : World} (h : RCa ty Wg Low w w') : RK Wg Lo Low c1 c2 w w' := fun b _ h2 h3 _ _ => h.low b h2 h3

variable (P ty Wg C Lo Low vals Mine c1 c2 v K CAt) in
/-- The child on its way to its select; or let try again there. -/
inductive LK : Nat → Goroutine → World → Prop
  | run {n : Nat} {g : Goroutine} {w : World} : Goes P false (RK Wg Lo Low c1 c2) (DK Wg C Mine) (CAt (K + 1)) n g w → LK (n + 1) g w
  | again {g : Goroutine} {w : World} {z z2 : Value} {sh : CommShape} : KidCont P ty Wg C Lo Low vals Mine c1 c2 v CAt (K + 1) g z z2 sh w → LK 0 { parked g (send_ c1 c2 v (K + 1) z z2) sh with status := .running } w
theorem LK.rely {n : Nat} {g : Goroutine} {w w' : World} (h : LK P ty Wg C Lo Low vals Mine c1 c2 v K CAt n g w) (hr : RK Wg Lo Low c1 c2 w w') : LK P ty Wg C Lo Low vals Mine c1 c2 v K CAt n g w' := by
  cases h with
  | run h => exact .run (Goes.rely RK.trans h hr)
  | again h => exact .again (h.rely hr)
theorem LK.running (hC : KidSpec P ty Wg C Lo Low vals Mine c1 c2 v CAt) {n : Nat} {g : Goroutine} {w : World} (h : LK P ty Wg C Lo Low vals Mine c1 c2 v K CAt n g w) : g.status = .running := by
  cases h with
  | run h => exact Goes.running (fun g w x => (hC _ g w x).1) w (RK.refl w) h
  | again => rfl
/-- The child picked: an ordinary step; or it stands at its select. -/
theorem LK.cases_ (hC : KidSpec P ty Wg C Lo Low vals Mine c1 c2 v CAt) {n : Nat} {g : Goroutine} {w : World} (h : LK P ty Wg C Lo Low vals Mine c1 c2 v K CAt n g w) :
    (∃ n' g' w' es, n' < n ∧ stepG P false g w = .go g' w' es ∧ DK Wg C Mine w w' es ∧ LK P ty Wg C Lo Low vals Mine c1 c2 v K CAt n' g' w') ∨
    (∃ b2 z z2 sh, b2.frame = g.frame ∧ stepG P false g w = .comm b2 (send_ c1 c2 v (K + 1) z z2) true sh w #[] ∧ ∀ w', RK Wg Lo Low c1 c2 w w' → KCa ty Wg w' → ∃ n, Goes P false (RCa ty Wg Low) (DCs Mine Wg C) (AtR0 P ty Wg C Low vals) n (b2.finishComm P (send_ c1 c2 v (K + 1) z z2) sh 1 z2 false) w') := by
  cases h with
  | run h =>
    rcases Goes.cases h with hstop | ⟨n', rfl, hstep⟩
    · obtain ⟨-, z, z2, sh, hcomm, hK⟩ := hC _ g _ (hstop w (RK.refl w))
      exact .inr ⟨_, z, z2, sh, rfl, hcomm, hK.shut⟩
    · obtain ⟨g', w', es, hgo, hD, hG⟩ := hstep w (RK.refl w)
      exact .inl ⟨n' + 1, g', w', es, by omega, hgo, hD, .run hG⟩
  | @again g _ z z2 sh h => exact .inr ⟨g, z, z2, sh, rfl, h.again w (RK.refl w), h.shut⟩

/-- ████ BEHIND THE CLOSE IT COMES TO THE GHOST. ████ -/
theorem lag_run (hAr : ∀ g w, AnchW g w → g.status = .running) (hAn : ∀ g w, AnchW g w → ∃ m, Goes P true (RPa ty Wg C vals) (DPi Mine Wg C Low) (AtW1 P ty Wg C Low vals Mine AnchW Post) m g w)
    (hC : KidSpec P ty Wg C Lo Low vals Mine c1 c2 v CAt) (hl : Lay Lo Low Wg C c1 c2) (hk : Lets Wg C c1 c2) :
    ∀ (μ : Nat × (Nat × (Nat × Nat))) (gs : Array Goroutine) (a b : Goroutine) (w : World) (sl : Option (Nat × Nat)) (T : Trace) (q : Nat → Nat) (s : Trace) (n : Nat) (ρ : Nat × Nat), μ = (n, sumTo c q, ρ) →
      Big P c gs a b T q → LM P ty Wg C Low vals Mine AnchW Post p ρ a w s → Linked c t₀ s T → (∃ s1 r1, w.heap[c1]? = some (.chan 0 #[] false s1 r1 false)) → (∃ s1 r1, w.heap[c2]? = some (.chan 0 #[] true s1 r1 false)) →
      LK P ty Wg C Lo Low vals Mine c1 c2 v K CAt n b w →
      ∃ N M' T' μ', runNT P N (crowd gs w sl) T = (.next M', T') ∧ GInv P ty Wg C Low vals Mine AnchW Post c t₀ μ' M' T' := by
  have wf : WellFounded (Prod.Lex (· < ·) (Prod.Lex (· < ·) Lt2) : Nat × (Nat × (Nat × Nat)) → Nat × (Nat × (Nat × Nat)) → Prop) := (Prod.lex Nat.lt_wfRel (Prod.lex Nat.lt_wfRel ⟨Lt2, (Prod.lex Nat.lt_wfRel Nat.lt_wfRel).wf⟩)).wf
  intro μ
  induction μ using wf.induction with
  | _ μ ih =>
  rintro gs a b w sl T q s n ρ rfl hB hM hL h1 h2 hK
  have hc0 : c ≠ 0 := hB.c0
  have hci : (c == 0) = false := by simp [hc0]
  have next : ∀ {M1 : Machine} {ops : Array MemOp}, stepT P (crowd gs w sl) = (.next M1, ops) → (∃ N M' T' μ', runNT P N M1 (T ++ ops) = (.next M', T') ∧ GInv P ty Wg C Low vals Mine AnchW Post c t₀ μ' M' T') →
      ∃ N M' T' μ', runNT P N (crowd gs w sl) T = (.next M', T') ∧ GInv P ty Wg C Low vals Mine AnchW Post c t₀ μ' M' T' := fun {M1 ops} e ⟨N, M', T', μ', r, h⟩ => ⟨N + 1, M', T', μ', by simp only [runNT, e]; exact r, h⟩
  have rb := hK.running hC
  rcases hB.pick (w := w) (sl := sl) (awake_of ((hM.status hAr).elim .inl fun x => .inr (.inl x.1))) (awake_of (.inl rb)) (.inr rb) with ⟨d, sl', hra, hst⟩ | ⟨d, sl', -, hst⟩ | ⟨d, sl', j, kk, g, g', es, gs', hst, B, hm, hj0, hjc, hlt⟩
  · -- goroutine 0
    obtain ⟨a', w', es, ρ', hgo, hrc, hlt, hM'⟩ := (hM.at d).move hl.wg.2 hl.cc.2 hl.cw hAr hAn hra b
    have B := hB.own0 (a' := a') (w' := w') a.frame.fn a.frame.place es
    rw [woken_run rb] at B
    obtain ⟨s1, r1, e1⟩ := h1
    obtain ⟨s2, r2, e2⟩ := h2
    refine next (hst.trans (runT_crowd_go (P := P) (sl := sl') (i := 0) hB.h0 hgo)) ?_
    exact ih _ (.right _ (.right _ hlt)) _ _ _ _ _ _ _ _ _ _ rfl B hM' (hL.events hc0 (.inl rfl) _ _ _) ⟨s1, r1, (hrc.low _ hl.k1.2 hl.n1.1).trans e1⟩ ⟨s2, r2, (hrc.low _ hl.k2.2 hl.n2.1).trans e2⟩ ((hK.rely (RK.of_at ⟨d, rfl⟩)).rely (rk_of_rca hrc))
  · -- the child
    rcases (hK.rely (w' := w.at d) (RK.of_at ⟨d, rfl⟩)).cases_ hC with ⟨n', b', w', es, hn, hgo, hD, hK'⟩ | ⟨b2, z, z2, sh, hfr, hcomm, hsh⟩
    · have B := hB.own1 (b' := b') (w' := w') b.frame.fn b.frame.place es
      obtain ⟨ρ', hM'⟩ := ((hM.at d).kid hD b.frame.fn b.frame.place).woken_ hAr b b'
      obtain ⟨⟨d', rfl⟩, -⟩ := id hD
      refine next (hst.trans (runT_crowd_go (P := P) (sl := sl') (i := c) hB.hc (by rw [hci]; exact hgo))) ?_
      exact ih _ (.left _ _ hn) _ _ _ _ _ _ _ _ _ _ rfl B hM' (hL.events hc0 (.inr rfl) _ _ _) h1 h2 hK'
    · obtain ⟨s1, r1, e1⟩ := h1
      obtain ⟨s2, r2, e2⟩ := h2
      have hp : ∀ r s, partners (gs.setIfInBounds c ph) r s = [] := fun r s => by
        rw [hB.partners1]
        have : offersAt a r s = [] := by
          rcases hM.status hAr with e | ⟨e, f⟩
          · exact offersAt_of_not_blocked (by rw [e]; simp) r s
          · simp [offersAt, e, f]
        rw [this]; rfl
      have hcomm' : stepG P (c == 0) b (w.at d) = .comm b2 (send_ c1 c2 v (K + 1) z z2) true sh (w.at d) #[] := by rw [hci]; exact hcomm
      refine next (hst.trans (crowd_sel_recv_closed (P := P) (sl := sl') (i := c) (k := 1) hB.hc hcomm' (show (send_ c1 c2 v (K + 1) z z2)[1]? = some (rcase c2 z2) from rfl) (fun m c' hm hc' => ?_) e2 (hp _ _))) ?_
      · match m with
        | 0 => cases hc'; exact ways_send_none e1 (Nat.zero_le _) (hp _ _)
        | 1 => exact absurd rfl hm
        | m + 2 => simp [send_] at hc'
      · obtain ⟨n2, hG⟩ := hsh (w.at d) (RK.refl _) (hM.at d).kca
        have hM' := (hM.at d).word (op := { g := 1, fn := b.frame.fn, pos := b.frame.place, act := .recvClosed c2 }) (.inr rfl) rfl (by simp) hk.found
        have hL' := hL.boths hc0 [{ g := 1, fn := b.frame.fn, pos := b.frame.place, act := .recvClosed c2 }] (by simp)
        simp only [List.map_cons, List.map_nil, renOp, renG_one, renAct] at hL'
        have B := (hB.setC (b2.finishComm P (send_ c1 c2 v (K + 1) z z2) sh 1 z2 false)).keep #[{ g := c, fn := b.frame.fn, pos := b.frame.place, act := .recvClosed c2 }] (by simp)
        rw [ofEvents_none, Array.empty_append, hfr]
        cases hM' with
        | a h1 h2 => exact ⟨0, _, _, _, rfl, _, a, b2.finishComm P (send_ c1 c2 v (K + 1) z z2) sh 1 z2 false, _, _, _, q, _, rfl, B, .a _ _ _ none _ p _ 0 _ n2 _ _ false false vals [] (by simp) h1 h2 (.r0 hG), hL', rfl⟩
        | b h1 h2 => exact ⟨0, _, _, _, rfl, _, a, b2.finishComm P (send_ c1 c2 v (K + 1) z z2) sh 1 z2 false, _, _, _, q, _, rfl, B, .b _ _ _ none _ p 0 _ n2 _ _ false false vals [] (by simp) h1 h2 (.r0 hG), hL', rfl⟩
  · -- one slips
    obtain ⟨ρ', hM'⟩ := (hM.at d).woken_ hAr g g'
    rw [woken_run rb] at B
    exact next hst (ih _ (.right _ (.left _ _ hlt)) _ _ _ _ _ _ _ _ _ _ rfl B hM' (hL.mutes hj0 hjc _ _ hm) h1 h2 (hK.rely (RK.of_at ⟨d, rfl⟩)))
end
end Go.Ph
end
/- The whole stage: a walk through Add to the go statement, the communication, the close, the Wait; the group's open limb filled so that a channel may be closed. No program of ours in sight. -/
section
namespace Go.Ph
open Go Go.Conc Go.ConcX
open Go.ConcN (sumTo upd sumTo_upd upd_ne upd_same)

/-! ### the open limb: an atomic touch is of the group's cells, or of the channel that is closed -/
def okG (Shun : Loc → Prop) (B' Wg c2 : Nat) (act : MemAct) : Prop :=
  (∀ x, act.touch? = some x → (Shun x.loc → x.kind ≠ .plain) ∧ (x.kind = .atomic → OfWg Wg x.loc ∨ x.loc = .obj c2)) ∧ act.low B' ∧ ∀ k, act = .go k → k = 1
theorem okG_none {Shun : Loc → Prop} {B' Wg c2 : Nat} {act : MemAct} (h : act.touch? = none) (hl : act.low B') (hg : ∀ k, act = .go k → k = 1) : okG Shun B' Wg c2 act := ⟨fun x hx => (by rw [h] at hx; cases hx), hl, hg⟩
theorem okG_plain {Shun : Loc → Prop} {B' Wg c2 : Nat} (a : Addr) (wr : Bool) (hS : ¬ Shun (.cell a)) (hB : a.block < B') : okG Shun B' Wg c2 (.access ⟨.cell a, wr, false⟩) :=
  ⟨fun x hx => by simp only [MemAct.touch?, Option.some.injEq] at hx; subst hx; exact ⟨fun hs => absurd hs hS, fun e => by simp at e⟩, hB, fun k e => by cases e⟩
@[reducible] def shyG (Shun : Loc → Prop) (B' Wg C c2 : Nat) (stop : Goroutine → World → Prop) (hW : Wg < B') (hC : C < B') (hCS : ∀ a : Addr, a.block = C → ¬ Shun (.cell a)) : Shy Wg C where
  ok := okG Shun B' Wg c2
  atomicWg a wr h := ⟨fun x hx => by simp only [MemAct.touch?, Option.some.injEq] at hx; subst hx; exact ⟨fun _ => by simp, fun _ => .inl ⟨a, rfl, h⟩⟩, (by show a.block < B'; omega), fun k e => by cases e⟩
  readWg a h := ⟨fun x hx => by simp only [MemAct.touch?, Option.some.injEq] at hx; subst hx; exact ⟨fun _ => by simp, fun e => by cases e⟩, (by show a.block < B'; omega), fun k e => by cases e⟩
  writeWg a h := ⟨fun x hx => by simp only [MemAct.touch?, Option.some.injEq] at hx; subst hx; exact ⟨fun _ => by simp, fun e => by cases e⟩, (by show a.block < B'; omega), fun k e => by cases e⟩
  theirs a wr h := okG_plain a wr (hCS a h) (by omega)
  disable := okG_none rfl trivial fun k e => by cases e
  enable := okG_none rfl trivial fun k e => by cases e
  relMerge := okG_none rfl hW fun k e => by cases e
  acquire := okG_none rfl hW fun k e => by cases e
  go1 := okG_none rfl trivial fun k e => by cases e; rfl
  start := okG_none rfl trivial fun k e => by cases e
  stop := stop
theorem lets_shyG {Shun : Loc → Prop} {B' Wg C c1 c2 : Nat} {stop : Goroutine → World → Prop} {hW : Wg < B'} {hC : C < B'} {hCS : ∀ a : Addr, a.block = C → ¬ Shun (.cell a)} (hS : ∀ r, ¬ Shun (.obj r)) (h1 : c1 < B') (h2 : c2 < B') :
    @Lets Wg C c1 c2 (shyG Shun B' Wg C c2 stop hW hC hCS) :=
  @Lets.mk Wg C c1 c2 (shyG Shun B' Wg C c2 stop hW hC hCS) (fun k => okG_none rfl h1 fun k e => by cases e) (fun k => okG_none rfl h1 fun k e => by cases e) (fun k cap => okG_none rfl h1 fun k e => by cases e) (fun k => okG_none rfl h1 fun k e => by cases e)
    ⟨fun x hx => by simp only [MemAct.touch?, Option.some.injEq] at hx; subst hx; exact ⟨fun _ => by simp, fun _ => .inr rfl⟩, h2, fun k e => by cases e⟩ (okG_none rfl h2 fun k e => by cases e) (okG_none rfl h2 fun k e => by cases e)

section
variable [Payload] {P : Program} {ty : TypeId} {Wg C Low : Nat} [Shy Wg C] {vals : List Value} {Mine : Loc → Prop} {Post : Value → World → Prop} {c c2 : Nat} {t₀ : Trace} {Shun : Loc → Prop} {B B' : Nat}

/-- What the small trace gives for the true one; the closed channel is goroutine 0's own. -/
theorem facts_of (hok : ∀ act, Shy.ok Wg C act → okG Shun B' Wg c2 act) (hMine : Mine (.obj c2)) (hne : c2 ≠ C) {s : Trace} {p : Nat} (hj : JT Mine Wg C s p) (hA : Acq Wg s) :
    (∀ i k, s.act? i = some (.go k) → k ≠ 0) ∧ (∀ i a, touchAt s i = some a → a.loc.isMemory = true → Knows s 0 i ∨ (OfWg Wg a.loc ∧ a.kind = .atomic)) ∧ (∀ i, s.g? i = some 1 → ∃ j, s.g? j = some 0 ∧ HappensBefore s j i) ∧
    (∀ i a, touchAt s i = some a → Shun a.loc → a.kind ≠ .plain) ∧ (∀ op ∈ s, op.act.low B') := by
  have okAt : ∀ {i : Nat} {op : MemOp}, s[i]? = some op → okG Shun B' Wg c2 op.act := fun h => hok _ (hj.oks _ (mem_of_getElem? h))
  obtain ⟨x0, hx0, hx1, hx2⟩ := hj.fm.go
  obtain ⟨y0, hy0, hy1, hy2⟩ := hj.fm.start
  have first : HappensBefore s p (p + 1) := .single (.inr ⟨.spawn (child := 1) (by rw [act?_of hx0, hx2]) (by rw [act?_of hy0, hy2]) (by simp [Trace.g?, hy0, hy1]), hj.fm.hgo, hj.fm.hstart⟩)
  refine ⟨fun i k h => ?_, fun i a ha hm => ?_, fun i hi => ⟨p, by simp [Trace.g?, hx0, hx1], ?_⟩, fun i a ha hs => ?_, fun op hop => (hok _ (hj.oks op hop)).2.1⟩
  · obtain ⟨op, ho, hoa⟩ := Option.map_eq_some_iff.1 h
    have := (okAt ho).2.2 k hoa
    omega
  · obtain ⟨x, hx, hxa⟩ := touch_of ha
    rcases hj.fm.two hx with e | e
    · exact .inl (by have := knows_own hx; rwa [e] at this)
    · -- the child's: ahead of its release it is known by the acquire; behind it, it is deaf, so atomic
      obtain ⟨q, r, hr, hq, hg, hh, hrq⟩ := hA
      have hgi : s.g? i = some 1 := by simp [Trace.g?, hx, e]
      obtain ⟨z, hz, hzg⟩ := Option.map_eq_some_iff.1 hg
      have edge : HappensBefore s r q := .single (.inr ⟨.marked hrq (.inr hr.act) hq (fun k _ _ => hj.norel k), hr.heard, hh⟩)
      by_cases hir : i ≤ r
      · refine .inl ⟨q, z, hz, hzg, .inr ?_⟩
        rcases Nat.lt_or_ge i r with hlt | hge
        · exact .trans (.single (.inl ⟨hlt, 1, hgi, hr.g⟩)) edge
        · have : i = r := by omega
          rw [this]; exact edge
      · have hri : r < i := by omega
        have hk : a.kind = .atomic := Classical.byContradiction fun hk => hr.after i hri hgi ⟨a, ha, hm, .inl hk⟩
        rcases ((okAt hx).1 a hxa).2 hk with h | h
        · exact .inr ⟨h, hk⟩
        · exfalso
          have hpr : p + 1 ≤ r := by
            obtain ⟨zr, hzr, hzrg⟩ := Option.map_eq_some_iff.1 hr.g
            rcases Nat.lt_trichotomy r p with g | g | g
            · have := hj.fm.early r zr hzr g; omega
            · subst g; rw [hx0] at hzr; cases hzr; omega
            · exact g
          rcases (hj.fm.late i x hx (by omega)).2 a hxa with f | ⟨f, -⟩ | ⟨-, -, f⟩
          · rw [h] at f
            rcases f with (⟨y, hy, -⟩ | hy) | ⟨y, hy, -⟩
            · cases hy
            · cases hy; exact hne rfl
            · cases hy
          · omega
          · rw [h] at f; exact f hMine
  · obtain ⟨op, ho, hog⟩ := Option.map_eq_some_iff.1 hi
    rcases Nat.lt_trichotomy i p with g | g | g
    · have := hj.fm.early i op ho g; omega
    · subst g; rw [hx0] at ho; cases ho; omega
    · rcases Nat.lt_or_ge (p + 1) i with g2 | g2
      · exact first.trans (hb_po g2 hy0 ho (hy1.trans hog.symm))
      · have : i = p + 1 := by omega
        rw [this]; exact first
  · obtain ⟨x, hx, hxa⟩ := touch_of ha
    exact ((okAt hx).1 a hxa).1 hs

theorem evL_of_okG (hok : ∀ act, Shy.ok Wg C act → okG Shun B' Wg c2 act) {e : Event} (h : EvJ Mine Wg C e) : EvL (fun l => Shun l ∨ OfWg Wg l) B' e := by
  obtain ⟨h1, h2, h3⟩ := h
  obtain ⟨-, ht, -, hk⟩ := h1 0 ""
  have ho := hok _ hk
  exact ⟨fun x hx hs => hs.elim (fun hs => (ho.1 x hx).1 hs) (fun ⟨a, ha, hb⟩ => (ht x hx).2.1 (.inl ⟨a, ha, hb⟩)), h2, h3, ho.2.1⟩

/-- The ghost left: a frame again, one leaver more, goroutine 0 at the anchor. -/
theorem end_of (hok : ∀ act, Shy.ok Wg C act → okG Shun B' Wg c2 act) (hMine : Mine (.obj c2)) (hne : c2 ≠ C) (hP : Past Shun B t₀) (hB : B ≤ B') {M : Machine} {T : Trace} (h : GDone P ty Wg C Low vals Mine Post c t₀ M T) :
    ∃ (N : Nat) (gs : Array Goroutine) (a : Goroutine) (w : World) (sl : Option (Nat × Nat)) (T' : Trace) (q : Nat → Nat), runNT P N M T = (.next (crowd gs w sl), T') ∧ gs.size = c + 1 ∧ gs[0]? = some a ∧
      a.status = .running ∧ Shy.stop Wg C a w ∧ Leavers P T' gs q ∧ Past (fun l => Shun l ∨ OfWg Wg l) B' T' := by
  obtain ⟨gs, a, b, w, sl, s, q, rfl, hBig, ⟨a1, b1, w1, sl1, p, d1, k, mp, r, vs, e, hBase, hG, hA, hq⟩, φ, L⟩ := h
  obtain ⟨rfl, rfl, rfl, rfl⟩ := duo_inj e
  obtain ⟨f1, f2, f3, f4, f5⟩ := facts_of hok hMine hne hBase.jt hA
  have hL : Leavers P T gs (upd q c k) := by
    refine ⟨fun i g hi hg => ?_, fun j hj => hBig.above j (by have := hBig.size; omega)⟩
    by_cases hic : i = c
    · subst hic
      obtain rfl : g = b := by rw [hBig.hc] at hg; exact (Option.some.inj hg).symm
      have hd := L.dfe 1 (.inr rfl)
      rw [renG_one, hBase.deaf1] at hd
      rw [upd_same, hd]
      exact hq
    · rw [upd_ne q k hic]
      exact hBig.old i g hi (by have := hBig.size; have := (Array.getElem?_eq_some_iff.1 hg).1; omega) hg
  obtain ⟨N, gs', a', w', sl', T', q', hr, hs, h0, hS, hL', hP'⟩ := walk_beside (P := P) (fun _ _ es hD e he => evL_of_okG hok (hD.2 e he)) _ mp gs a w sl T _ (Nat.le_refl _) hBig.h0 hL
    (past_of_link hBase.jt.two f1 hP hB L hBase.jt.nr f2 f3 f4 f5 (hA.handedOver hBase.jt) hBase.deaf0) hG
  exact ⟨N, gs', a', w', sl', T', q', hr, hs.trans hBig.size, h0, hS.1, hS.2, hL', hP'⟩
end
end Go.Ph
end
