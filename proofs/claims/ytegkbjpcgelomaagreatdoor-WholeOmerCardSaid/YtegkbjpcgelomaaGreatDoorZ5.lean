/- The whole stage: from where goroutine 0 walks into Add, through the go statement, the communication, the close and the Wait, to its anchor, one leaver more. No program of ours in sight. -/
import Derived.Test.YtegkbjpcgelomaaGreatDoorZ4
import Derived.Test.YtegkbjpcgelomaaGreatDoorZ3
set_option linter.unusedVariables false
set_option linter.unusedSectionVars false
set_option linter.unusedSimpArgs false
section
namespace Go.Ph
open Go Go.Conc Go.ConcX
open Go.ConcN (sumTo upd sumTo_upd upd_ne upd_same)

section
variable [Payload] {P : Program} {Wg C : Nat} [Shy Wg C] {c : Nat} {t₀ : Trace}

variable (P Wg C c t₀) in
/-- Goroutine 0 alone but for leavers, its small trace begun. -/
structure Al (gs : Array Goroutine) (a : Goroutine) (T : Trace) (q : Nat → Nat) (s : Trace) (dd : Nat) : Prop where
  size : gs.size = c
  h0 : gs[0]? = some a
  leavers : Leavers P T gs q
  st : ST Wg C s dd
  link : Linked c t₀ s T
theorem Al.pos {gs : Array Goroutine} {a : Goroutine} {T : Trace} {q : Nat → Nat} {s : Trace} {dd : Nat} (h : Al P Wg C c t₀ gs a T q s dd) : 0 < gs.size := (Array.getElem?_eq_some_iff.1 h.h0).1
theorem Al.c0 {gs : Array Goroutine} {a : Goroutine} {T : Trace} {q : Nat → Nat} {s : Trace} {dd : Nat} (h : Al P Wg C c t₀ gs a T q s dd) : c ≠ 0 := by have := h.pos; have := h.size; omega
/-- It walks to its stop, and is picked there. -/
theorem Al.walk {Stop : Goroutine → World → Prop} (hSr : ∀ g w, Stop g w → g.status = .running) {gs : Array Goroutine} {a : Goroutine} {w : World} {sl : Option (Nat × Nat)} {T : Trace} {q : Nat → Nat} {s : Trace} {dd n : Nat} (h : Al P Wg C c t₀ gs a T q s dd)
    (hG : Goes P true AtRel (DE (EvS Wg C)) Stop n a w) :
    ∃ (N : Nat) (gs' : Array Goroutine) (a' : Goroutine) (w' : World) (sl' : Option (Nat × Nat)) (T' : Trace) (q' : Nat → Nat) (s' : Trace) (d : Nat) (sl'' : Option (Nat × Nat)),
      runNT P N (crowd gs w sl) T = (.next (crowd gs' w' sl'), T') ∧ Al P Wg C c t₀ gs' a' T' q' s' dd ∧ Stop a' (w'.at d) ∧ stepT P (crowd gs' w' sl') = runT P (crowd gs' (w'.at d) sl'') 0 := by
  obtain ⟨N, gs', a', w', sl', T', q', s', d, sl'', r, z, g0, L, S, K, hS, hst⟩ := lone_beside (c := c) (t₀ := t₀) hSr h.c0 _ n gs a w sl T q s dd rfl (Nat.le_of_eq h.size) h.h0 h.leavers h.st h.link hG
  exact ⟨N, gs', a', w', sl', T', q', s', d, sl'', r, ⟨z.trans h.size, g0, L, S, K⟩, hS, hst⟩
/-- .. to a mark, and says it. -/
theorem Al.mark {Next : Goroutine → World → Prop} {m : Mark} (hm : m = .disable ∨ m = .enable) {gs : Array Goroutine} {a : Goroutine} {w : World} {sl : Option (Nat × Nat)} {T : Trace} {q : Nat → Nat} {s : Trace} {dd n : Nat} (h : Al P Wg C c t₀ gs a T q s dd)
    (hG : Goes P true AtRel (DE (EvS Wg C)) (AtMkS P m Next) n a w) :
    ∃ (N : Nat) (gs' : Array Goroutine) (a' : Goroutine) (w' : World) (sl' : Option (Nat × Nat)) (T' : Trace) (q' : Nat → Nat) (s' : Trace),
      runNT P N (crowd gs w sl) T = (.next (crowd gs' w' sl'), T') ∧ Al P Wg C c t₀ gs' a' T' q' s' (deafBehind dd #[Go.ConcX.mk m]) ∧ Next a' w' := by
  obtain ⟨N, gs1, a1, w1, sl1, T1, q1, s1, d, sl2, r, A, ⟨-, a', hgo, hN⟩, hst⟩ := h.walk (fun _ _ x => x.1) hG
  have e := runNT_then r (hst.trans (runT_crowd_go (P := P) (i := 0) A.h0 (show stepG P (0 == 0) a1 (w1.at d) = _ from hgo)))
  refine ⟨_, _, a', _, _, _, q1, _, e, ⟨by simpa using A.size, by simp [A.pos], A.leavers.own A.pos _ _ _, A.st.mark a1.frame.fn a1.frame.place m ?_ ?_ ?_ ?_, A.link.events A.c0 (.inl rfl) _ _ _⟩, hN⟩
  · rcases hm with rfl | rfl <;> rfl
  · rcases hm with rfl | rfl <;> simp
  · rcases hm with rfl | rfl <;> simp
  · rcases hm with rfl | rfl
    · exact Shy.disable
    · exact Shy.enable
end

section
variable [Payload] {P : Program} {ty : TypeId} {Wg C : Nat} [Shy Wg C] {Lo Low : Nat} {vals : List Value} {Mine : Loc → Prop} {c1 c2 : Nat} {v : Nat → Value} {K : Nat} {AnchW : Goroutine → World → Prop} {Post : Value → World → Prop}
  {MAt CAt : Nat → Goroutine → World → Prop}

variable (P ty Wg C Lo Low Mine c1 c2 MAt CAt) in
/-- The go statement, and what follows it: goroutine 0 comes to its first receive, the child to its first select. -/
def AtGo (a : Goroutine) (w : World) : Prop :=
  a.status = .running ∧ ∃ (a' child : Goroutine) (w' : World) (es : Array Event), stepG P true a w = .spawn a' child w' es ∧ (∀ e ∈ es, EvS Wg C e) ∧ WgAt ty Wg w' KK 0 ∧
    (∃ s r, w'.heap[c1]? = some (.chan 0 #[] false s r false)) ∧ (∃ s r, w'.heap[c2]? = some (.chan 0 #[] false s r false)) ∧
    (∃ m, Goes P true AtRel (DM Wg C Lo Low Mine) (MAt 0) m a' w') ∧ ∃ n, Goes P false (RK Wg Lo Low c1 c2) (DK Wg C Mine) (CAt 0) n child w'
variable (P ty Wg C Lo Low Mine c1 c2 MAt CAt) in
def Lone (a : Goroutine) (w : World) : Prop :=
  ∃ n, Goes P true AtRel (DE (EvS Wg C)) (AtMkS P .disable fun a w => ∃ n, Goes P true AtRel (DE (EvS Wg C)) (AtMkS P .enable fun a w => ∃ n, Goes P true AtRel (DE (EvS Wg C)) (AtGo P ty Wg C Lo Low Mine c1 c2 MAt CAt) n a w) n a w) n a w

theorem keep_fork {fn fn' : FuncId} {pos pos' : String} {es : Array Event} (hes : ∀ e ∈ es, EvS Wg C e) (c k : Nat) : ∀ op ∈ ((MemOp.ofEvents 0 fn pos es).push { g := 0, fn := fn, pos := pos, act := .go k }).push { g := c, fn := fn', pos := pos', act := .start }, op.act ≠ .mark .disable ∧ op.act ≠ .mark .enable := by
  intro op hop
  simp only [Array.mem_push] at hop
  rcases hop with (hop | rfl) | rfl
  · rw [ofEvents_eq] at hop
    obtain ⟨e, he, rfl⟩ := Array.mem_map.1 hop
    exact ⟨(hes e he).2.2.2.1, (hes e he).2.2.2.2.1⟩
  · simp
  · simp

/-- From the walk to the stage's frame. -/
theorem begin_ {t₀ : Trace} {gs : Array Goroutine} {a : Goroutine} {w : World} {sl : Option (Nat × Nat)} {q : Nat → Nat} (h0 : gs[0]? = some a) (hL : Leavers P t₀ gs q) (hear : Deaf t₀ 0 = 0) (h : Lone P ty Wg C Lo Low Mine c1 c2 MAt CAt a w) :
    ∃ N gs' a' b' w' sl' T q' s p m n, runNT P N (crowd gs w sl) t₀ = (.next (crowd gs' w' sl'), T) ∧ Cm P ty Wg C vals Mine c1 c2 gs.size p t₀ gs' a' b' w' T q' s ∧ Goes P true AtRel (DM Wg C Lo Low Mine) (MAt 0) m a' w' ∧ Goes P false (RK Wg Lo Low c1 c2) (DK Wg C Mine) (CAt 0) n b' w' := by
  obtain ⟨n0, g0⟩ := h
  have A : Al P Wg C gs.size t₀ gs a t₀ q #[] 0 := ⟨rfl, h0, hL, ST.nil, id, Link.init hear (hL.above _ (Nat.le_refl _)) id⟩
  have hc0 := A.c0
  obtain ⟨N1, gs1, a1, w1, sl1, T1, q1, s1, r1, A1, n1, g1⟩ := A.mark (sl := sl) (.inl rfl) g0
  obtain ⟨N2, gs2, a2, w2, sl2, T2, q2, s2, r2, A2, n2, g2⟩ := A1.mark (sl := sl1) (.inr rfl) g1
  obtain ⟨N3, gs3, a3, w3, sl3, T3, q3, s3, d, sl4, r3, A3, ⟨-, a', child, w', es, hsp, hes, hwg, hc1, hc2, ⟨m, hm⟩, n, hn⟩, hst⟩ := A2.walk (sl := sl2) (fun _ _ x => x.1) g2
  have A3' : ST Wg C s3 0 := A3.st
  have run := runNT_then (runNT_trans r1 (runNT_trans r2 r3)) (hst.trans (runT_crowd_spawn (P := P) (i := 0) A3.h0 (show stepG P (0 == 0) a3 (w3.at d) = _ from hsp)))
  obtain ⟨hJ, hd0, hd1, hna⟩ := JT.init (Mine := Mine) (x := { g := 0, fn := a3.frame.fn, pos := a3.frame.place, act := .go 1 }) (y := { g := 1, fn := child.frame.fn, pos := a3.frame.place, act := .start }) (A3'.events a3.frame.fn a3.frame.place hes) ⟨rfl, rfl⟩ ⟨rfl, rfl⟩
  have hk := A3.link.events hc0 (.inl rfl) a3.frame.fn a3.frame.place es
  have hk2 := hk.boths hc0 [{ g := 0, fn := a3.frame.fn, pos := a3.frame.place, act := .go 1 }, { g := 1, fn := child.frame.fn, pos := a3.frame.place, act := .start }] (by simp)
  have keep := keep_fork (fn := a3.frame.fn) (fn' := child.frame.fn) (pos := a3.frame.place) (pos' := a3.frame.place) hes gs3.size gs3.size
  have hB := (show Base Mine ty Wg C vals.length KK 0 vals.toArray false vals.length 0 0 0 false w' _ _ from ⟨hwg, (fun e => by cases e), hJ, hd0, hd1, (fun _ => hna), fun e => by cases e⟩)
  refine ⟨_, (gs3.setIfInBounds 0 a').push child, a', child, w', _, _, q3, _, _, m, n, run, ⟨⟨by simp [A3.size], by have := A3.pos; have := A3.size; omega, ?_, ?_, fun j x hj hjc hx => ?_, fun j hj => ?_⟩, hB, ?_, hc1, hc2⟩, hm, hn⟩
  · rw [Array.getElem?_push_lt (by simpa using A3.pos)]; simp
  · have e : gs.size = (gs3.setIfInBounds 0 a').size := by simp [A3.size]
    rw [e, Array.getElem?_push_size]
  · have hx' : gs3[j]? = some x := by
      rw [Array.getElem?_push, if_neg (by have := A3.size; simp; omega), Array.getElem?_setIfInBounds_ne (by omega)] at hx
      exact hx
    rw [Deaf_keep _ j _ keep]
    exact A3.leavers.old j x hj hx'
  · rw [Deaf_keep _ j _ keep]
    exact A3.leavers.above j (by have := A3.size; omega)
  · have e1 : ∀ (u : Trace) (x y : MemOp), (u.push x).push y = u ++ [x, y].toArray := fun u x y => by apply Array.toList_inj.1; simp
    have e2 : ∀ (t u : Trace) (x y : MemOp), t ++ (u.push x).push y = (t ++ u) ++ [x, y].toArray := fun t u x y => by apply Array.toList_inj.1; simp
    rw [e1, e2, A3.size]
    exact hk2

/-- ████ THE WHOLE STAGE, ON WHATEVER TAPE. ████ -/
theorem stage {Shun : Loc → Prop} {B B' : Nat} {t₀ : Trace} (hM : MainSpec P ty Wg C Lo Low vals Mine c1 c2 v K AnchW MAt) (hC : KidSpec P ty Wg C Lo Low vals Mine c1 c2 v CAt) (hl : Lay Lo Low Wg C c1 c2) (hk : Lets Wg C c1 c2)
    (hAr : ∀ g w, AnchW g w → g.status = .running) (hAn : ∀ g w, AnchW g w → ∃ m, Goes P true (RPa ty Wg C vals) (DPi Mine Wg C Low) (AtW1 P ty Wg C Low vals Mine AnchW Post) m g w)
    (hok : ∀ act, Shy.ok Wg C act → okG Shun B' Wg c2 act) (hMine : Mine (.obj c2)) (hP : Past Shun B t₀) (hB : B ≤ B')
    {gs : Array Goroutine} {a : Goroutine} {w : World} {sl : Option (Nat × Nat)} {q : Nat → Nat} (h0 : gs[0]? = some a) (hL : Leavers P t₀ gs q) (h : Lone P ty Wg C Lo Low Mine c1 c2 MAt CAt a w) :
    ∃ (N : Nat) (gs' : Array Goroutine) (a' : Goroutine) (w' : World) (sl' : Option (Nat × Nat)) (T' : Trace) (q' : Nat → Nat), runNT P N (crowd gs w sl) t₀ = (.next (crowd gs' w' sl'), T') ∧ gs'.size = gs.size + 1 ∧ gs'[0]? = some a' ∧
      a'.status = .running ∧ Shy.stop Wg C a' w' ∧ Leavers P T' gs' q' ∧ Past (fun l => Shun l ∨ OfWg Wg l) B' T' := by
  obtain ⟨N1, gs1, a1, b1, w1, sl1, T1, q1, s1, p, m, n, r1, hCm, gm, gn⟩ := begin_ (vals := vals) (sl := sl) h0 hL hP.hears h
  obtain ⟨N2, M2, T2, r2, gs2, a2, b2, w2, sl2, q2, s2, m2, n2, rfl, hB2, hBs, hL2, e1, e2, hG, hK⟩ := comm_run hM hC hl hk (K + 1) 0 (by omega) _ gs1 a1 b1 w1 sl1 T1 q1 s1 _ _ hCm (.run gm) (.run gn) (.inl (by omega)) rfl
  have hLK : ∃ n, LK P ty Wg C Lo Low vals Mine c1 c2 v K CAt n b2 w2 := by
    rcases hK with hK | ⟨g, z, z2, sh, rfl, hK⟩
    · cases hK with
      | run h => exact ⟨_, .run h⟩
    · exact ⟨_, .again hK⟩
  obtain ⟨n3, hLK⟩ := hLK
  obtain ⟨N3, M3, T3, μ, r3, hI⟩ := lag_run (Post := Post) hAr hAn hC hl hk _ gs2 a2 b2 w2 sl2 T2 q2 s2 n3 _ rfl hB2 (.a hBs (.kd hG)) hL2 e1 e2 hLK
  obtain ⟨N4, M4, T4, r4, hD⟩ := ghost_runs hl.wg.2 hl.cc.2 hl.cw hAr hAn μ M3 T3 hI
  obtain ⟨N5, gs', a', w', sl', T', q', r5, hs, h0', hr, hst, hL', hP'⟩ := end_of hok hMine hl.n2.2 hP hB hD
  exact ⟨_, gs', a', w', sl', T', q', runNT_trans r1 (runNT_trans r2 (runNT_trans r3 (runNT_trans r4 r5))), hs, h0', hr, hst, hL', hP'⟩
end
end Go.Ph
end
/- sabbath.upto's child: from its birth to its first select; from select to select; by the closed channel to its release. -/
section
namespace Go.Proofs.YtegkbjpcgelomaaGreatDoor.Wk
open Go Go.Proofs Go.Conc Go.ConcX Go.ConcX.Gen Go.Conc.Lib Go.RowKit Go.Ph

instance : Payload := ⟨3⟩
/-- The number that is sent as number i. -/
def nv (x : Int) : Nat → Int
  | 0 => sat x
  | i + 1 => IntKind.i64.wrap (nv x i + 7)
def nV (x : Int) (i : Nat) : Value := .int .i64 (nv x i)
/-- Where the blocks lie: N the box of start (the payload), N + 5 the group, between them the two channels and the boxes of out and end. -/
structure Pos (N c1 c2 po pe : Nat) : Prop where
  k1 : N < c1 ∧ c1 < N + 5
  k2 : N < c2 ∧ c2 < N + 5
  o : N < po ∧ po < N + 5
  e : N < pe ∧ pe < N + 5
  d : c1 ≠ c2 ∧ c1 ≠ po ∧ c1 ≠ pe ∧ c2 ≠ po ∧ c2 ≠ pe ∧ po ≠ pe
/-- What the child knows of the world. -/
structure CK (N c1 c2 po pe : Nat) (x : Int) (w : World) : Prop where
  pos : Pos N c1 c2 po pe
  full : w.heap[N]? = some (.cells #[.int .i64 x] 3)
  o : w.cell? ⟨po, 0, none⟩ = some (.chan (some c1))
  e : w.cell? ⟨pe, 0, none⟩ = some (.chan (some c2))
theorem CK.st {N c1 c2 po pe : Nat} {x : Int} {w : World} (h : CK N c1 c2 po pe x w) : w.cell? ⟨N, 0, none⟩ = some (.int .i64 x) := by
  unfold World.cell?
  rw [h.full]
  rfl
abbrev RKu (N c1 c2 : Nat) : World → World → Prop := RK (N + 5) N (N + 6) c1 c2
abbrev DKu (Mine : Loc → Prop) (N : Nat) [Shy (N + 5) N] : World → World → Array Event → Prop := DK (N + 5) N Mine
theorem CK.rely {N c1 c2 po pe : Nat} {x : Int} {w w' : World} (h : CK N c1 c2 po pe x w) (r : RKu N c1 c2 w w') : CK N c1 c2 po pe x w' := by
  have hp := h.pos
  have e := hp.d
  have k1 := hp.k1; have k2 := hp.k2; have ko := hp.o; have ke := hp.e
  have b : ∀ b, N ≤ b → b < N + 5 → b ≠ c1 → b ≠ c2 → w'.heap[b]? = w.heap[b]? := fun b h1 h2 h3 h4 => r b h1 (by omega) (by omega) h3 h4
  exact ⟨hp, (b N (by omega) (by omega) (by omega) (by omega)).trans h.full, (World.cell?_of_block (b po (by omega) (by omega) (by omega) (by omega))).trans h.o, (World.cell?_of_block (b pe (by omega) (by omega) (by omega) (by omega))).trans h.e⟩

noncomputable def bodyL : Code := Tryz.f154.body.getD .skip
noncomputable def opsL : Array Oper := match bodyL with | .seq _ (.region _ ops _) => ops | _ => #[]
noncomputable def bodyF : Code := Tryz.f156.body.getD .skip
noncomputable def loopF : Code := match bodyF with | .seq _ (.block _ (.loop c)) => c | _ => .skip
noncomputable def opsS : Array Oper := match loopF with | .seq (.block _ (.seq _ (.seq (.region _ ops _) _))) _ => ops | _ => #[]
noncomputable def restS : Code := match loopF with | .seq (.block _ (.seq _ (.seq _ r))) _ => r | _ => .skip
noncomputable def incS : Code := match loopF with | .seq _ r => r | _ => .skip
noncomputable def bot : Frame := { (default : Frame) with fn := Tryz.prog.funcs.size, defers := [], mode := .panicking [goexitEntry] }
section
variable (N c1 c2 po pe : Nat) (x : Int)
def callC : Deferred := { target := .fn (.func 154) #[.pointer (some ⟨N + 5, 0, none⟩), .pointer (some ⟨N, 0, none⟩), .pointer (some ⟨po, 0, none⟩), .pointer (some ⟨pe, 0, none⟩)], args := #[] }
/-- The literal's frame while from is under way. -/
noncomputable def litF : Frame := (baseD 154).at ⟨#[.pointer (some ⟨N + 5, 0, none⟩), .pointer (some ⟨N, 0, none⟩), .pointer (some ⟨po, 0, none⟩), .pointer (some ⟨pe, 0, none⟩), .int .i64 x, .chan (some c1), .chan (some c2), undef], [dcall 155 #[.pointer (some ⟨N + 5, 0, none⟩)]]⟩ (.inRegion opsL (3 :: []) :: [])
/-- At its select number i. -/
noncomputable def selG (i : Nat) (v9 v10 v14 v15 v16 v17 : Value) : Goroutine :=
  G ((base 156).at ⟨#[.int .i64 x, .chan (some c1), .chan (some c2), undef, undef, undef, nV x i, .int .i64 x, .int .i64 (sat x), v9, v10, .chan (some c1), nV x i, .chan (some c2), v14, v15, v16, v17], []⟩
    (.inRegion opsS (0 :: [1, 2, 3]) :: .code restS :: .inBlock 1 :: .code incS :: .inLoop loopF :: .inBlock 0 :: [])) [litF N c1 c2 po pe x, bot]
def CAtU (i : Nat) (g : Goroutine) (w : World) : Prop := ∃ v9 v10 v14 v15 v16 v17 : Value, g = selG N c1 c2 po pe x i v9 v10 v14 v15 v16 v17 ∧ CK N c1 c2 po pe x w
end
section
variable {N c1 c2 po pe : Nat} {x : Int} {Mine : Loc → Prop} [Shy (N + 5) N]
/-- What is asked of the family's letters for the child's own reads. -/
structure Own (Mine : Loc → Prop) (N : Nat) [Shy (N + 5) N] : Prop where
  not : ∀ a : Addr, N ≤ a.block → a.block < N + 6 → ¬ Mine (.cell a)
  ok : ∀ (a : Addr) (wr : Bool), N ≤ a.block → a.block < N + 5 → Shy.ok (N + 5) N (.access ⟨.cell a, wr, false⟩)
theorem evQ_read1 (h : Own Mine N) (a : Addr) (h1 : N ≤ a.block) (h2 : a.block < N + 5) : EvQ Mine (N + 5) N 1 ⟨.cell a, false, false⟩ := by
  refine ⟨fun fn pos => ⟨rfl, fun y hy => ?_, by rw [ofEvent_cell]; simp, by rw [ofEvent_cell]; exact h.ok a false h1 h2⟩, by simp, by simp, by simp⟩
  simp only [ofEvent_cell, MemAct.touch?, Option.some.injEq] at hy
  subst hy
  refine ⟨.inr (.inr ⟨rfl, rfl, h.not a h1 (by omega)⟩), fun hs => ?_, fun ⟨y, hy, hyb, _⟩ => ⟨rfl, by simp⟩⟩
  rcases hs with ⟨y, hy, hyb⟩ | hs
  · cases hy; omega
  · cases hs
theorem termsK : Terms (RKu N c1 c2) (DKu Mine N) := ⟨fun _ _ _ h k => RK.trans _ _ _ h k, fun _ => ⟨⟨_, rfl⟩, by simp⟩⟩
theorem drawK : LetsDraw (DKu Mine N) := fun w => ⟨⟨w.drawn + 1, rfl⟩, by simp⟩
theorem drawRK (w : World) : RKu N c1 c2 w { w with drawn := w.drawn + 1 } := fun _ _ _ _ _ _ => rfl
theorem CK.since {w w' : World} (h : CK N c1 c2 po pe x w) (s : Since (RKu N c1 c2) w w') : CK N c1 c2 po pe x w' := s.elim (fun e => e ▸ h) h.rely
/-- The child's first step. -/
theorem born_step (w : World) : stepG Tryz.prog false (born Tryz.prog (callC N po pe)) w =
    .go (G ((baseD 154).at ⟨#[.pointer (some ⟨N + 5, 0, none⟩), .pointer (some ⟨N, 0, none⟩), .pointer (some ⟨po, 0, none⟩), .pointer (some ⟨pe, 0, none⟩), undef, undef, undef, undef], []⟩ [.code bodyL]) [bot]) w #[] := by
  simp [born, callC, stepG, unwind, callDeferred, invoke, callFunc, Tryz.func154, Tryz.f154, seen, GStep.after, G, Frame.enter, Frame.at, baseD, bot, bodyL]

set_option maxRecDepth 100000 in
set_option maxHeartbeats 4000000 in
/-- FROM ITS BIRTH TO ITS FIRST SELECT. -/
theorem kid_start (hO : Own Mine N) (h0 : -900000000 ≤ x) (h1 : x ≤ 900000000) (w : World) (hF : CK N c1 c2 po pe x w) :
    ∃ n, Goes Tryz.prog false (RKu N c1 c2) (DKu Mine N) (CAtU N c1 c2 po pe x 0) n (born Tryz.prog (callC N po pe)) w := by
  obtain ⟨nf, hc⟩ := from_co (main := false) (termsK (c1 := c1) (c2 := c2) (Mine := Mine) (N := N)) drawK drawRK
  have rl : ∀ {w w' : World}, CK N c1 c2 po pe x w → RKu N c1 c2 w w' → CK N c1 c2 po pe x w' := fun h r => h.rely r
  have hp := hF.pos
  have ko := hp.o; have ke := hp.e
  refine ⟨(30 + nf + 3) + 13, ?_⟩
  refine Goes.step rfl (fun _ h₁ => ?_); replace hF := rl hF h₁; clear h₁
  rw [born_step]
  simp only [goes_go]
  refine ⟨(by first | exact (fun e he => absurd he (by simp)) | exact ⟨⟨_, rfl⟩, by simp⟩ | exact ⟨fun _ _ _ => rfl, by simp⟩ | exact ⟨fun _ _ => rfl, by simp⟩ | exact ⟨Aside.refl _ _, by simp⟩), ?_⟩
  simp only [bodyL, Tryz.f154, Option.getD_some]
  refine Goes.step rfl (fun _ h₁ => ?_); replace hF := rl hF h₁; clear h₁; rw [stepG_seq]; simp only [goes_go]; refine ⟨(by first | exact (fun e he => absurd he (by simp)) | exact ⟨⟨_, rfl⟩, by simp⟩ | exact ⟨fun _ _ _ => rfl, by simp⟩ | exact ⟨fun _ _ => rfl, by simp⟩ | exact ⟨Aside.refl _ _, by simp⟩), ?_⟩
  refine Goes.step rfl (fun _ h₁ => ?_); replace hF := rl hF h₁; clear h₁; rw [stepG_region]; simp only [goes_go, List.size_toArray, List.length_cons, List.length_nil, Nat.reduceAdd, Nat.zero_add, List.range, List.range.loop]; refine ⟨(by first | exact (fun e he => absurd he (by simp)) | exact ⟨⟨_, rfl⟩, by simp⟩ | exact ⟨fun _ _ _ => rfl, by simp⟩ | exact ⟨fun _ _ => rfl, by simp⟩ | exact ⟨Aside.refl _ _, by simp⟩), ?_⟩
  refine Goes.step rfl (fun _ h₁ => ?_); replace hF := rl hF h₁; clear h₁; rw [stepG_defer rfl rfl (by k_ne) rfl]; simp only [goes_go]; refine ⟨(by first | exact (fun e he => absurd he (by simp)) | exact ⟨⟨_, rfl⟩, by simp⟩ | exact ⟨fun _ _ _ => rfl, by simp⟩ | exact ⟨fun _ _ => rfl, by simp⟩ | exact ⟨Aside.refl _ _, by simp⟩), ?_⟩; walk_nrm
  refine Goes.step rfl (fun _ h₁ => ?_); replace hF := rl hF h₁; clear h₁; rw [stepG_region_end]; simp only [goes_go]; refine ⟨(by first | exact (fun e he => absurd he (by simp)) | exact ⟨⟨_, rfl⟩, by simp⟩ | exact ⟨fun _ _ _ => rfl, by simp⟩ | exact ⟨fun _ _ => rfl, by simp⟩ | exact ⟨Aside.refl _ _, by simp⟩), ?_⟩
  refine Goes.step rfl (fun _ h₁ => ?_); replace hF := rl hF h₁; clear h₁; rw [stepG_region]; simp only [goes_go, List.size_toArray, List.length_cons, List.length_nil, Nat.reduceAdd, Nat.zero_add, List.range, List.range.loop]; refine ⟨(by first | exact (fun e he => absurd he (by simp)) | exact ⟨⟨_, rfl⟩, by simp⟩ | exact ⟨fun _ _ _ => rfl, by simp⟩ | exact ⟨fun _ _ => rfl, by simp⟩ | exact ⟨Aside.refl _ _, by simp⟩), ?_⟩
  refine Goes.step rfl (fun _ h₁ => ?_); replace hF := rl hF h₁; clear h₁; refine goes_oper_k rfl rfl (by k_ne) (fun K hK => ?_); have hx := CK.st hF; go_simp; refine hK _ _ ⟨⟨⟨_, rfl⟩, fun e he => ?_⟩, ?_⟩; (· have hm := mem_listed he; simp [go_sem, *] at hm; subst hm; exact evQ_read1 hO _ (by simp) (by simp)); clear hK K hx; try walk_nrm
  refine Goes.step rfl (fun _ h₁ => ?_); replace hF := rl hF h₁; clear h₁; refine goes_oper_k rfl rfl (by k_ne) (fun K hK => ?_); have hx := CK.o hF; go_simp; refine hK _ _ ⟨⟨⟨_, rfl⟩, fun e he => ?_⟩, ?_⟩; (· have hm := mem_listed he; simp [go_sem, *] at hm; subst hm; exact evQ_read1 hO _ (by simp; omega) (by simp; omega)); clear hK K hx; try walk_nrm
  refine Goes.step rfl (fun _ h₁ => ?_); replace hF := rl hF h₁; clear h₁; refine goes_oper_k rfl rfl (by k_ne) (fun K hK => ?_); have hx := CK.e hF; go_simp; refine hK _ _ ⟨⟨⟨_, rfl⟩, fun e he => ?_⟩, ?_⟩; (· have hm := mem_listed he; simp [go_sem, *] at hm; subst hm; exact evQ_read1 hO _ (by simp; omega) (by simp; omega)); clear hK K hx; try walk_nrm
  refine Goes.step rfl (fun _ h₁ => ?_); replace hF := rl hF h₁; clear h₁
  refine goes_call rfl rfl (by decide) rfl Tryz.func156 (by kernel_rfl) rfl ⟨(by first | exact (fun e he => absurd he (by simp)) | exact ⟨⟨_, rfl⟩, by simp⟩ | exact ⟨fun _ _ _ => rfl, by simp⟩ | exact ⟨fun _ _ => rfl, by simp⟩ | exact ⟨Aside.refl _ _, by simp⟩), ?_⟩
  walk_nrmf Tryz.f156
  refine Goes.step rfl (fun _ h₁ => ?_); replace hF := rl hF h₁; clear h₁; rw [stepG_seq]; simp only [goes_go]; refine ⟨(by first | exact (fun e he => absurd he (by simp)) | exact ⟨⟨_, rfl⟩, by simp⟩ | exact ⟨fun _ _ _ => rfl, by simp⟩ | exact ⟨fun _ _ => rfl, by simp⟩ | exact ⟨Aside.refl _ _, by simp⟩), ?_⟩
  refine Goes.step rfl (fun _ h₁ => ?_); replace hF := rl hF h₁; clear h₁; rw [stepG_region]; simp only [goes_go, List.size_toArray, List.length_cons, List.length_nil, Nat.reduceAdd, Nat.zero_add, List.range, List.range.loop]; refine ⟨(by first | exact (fun e he => absurd he (by simp)) | exact ⟨⟨_, rfl⟩, by simp⟩ | exact ⟨fun _ _ _ => rfl, by simp⟩ | exact ⟨fun _ _ => rfl, by simp⟩ | exact ⟨Aside.refl _ _, by simp⟩), ?_⟩
  refine Goes.step rfl (fun _ h₁ => ?_); replace hF := rl hF h₁; clear h₁; refine goes_oper_k rfl rfl (by k_ne) (fun K hK => ?_); go_simp; refine hK _ _ ⟨by rw [show listed _ _ _ _ _ = #[] from listed_nil (by simp [go_sem, *])]; exact (by first | exact (fun e he => absurd he (by simp)) | exact ⟨⟨_, rfl⟩, by simp⟩ | exact ⟨fun _ _ _ => rfl, by simp⟩ | exact ⟨fun _ _ => rfl, by simp⟩ | exact ⟨Aside.refl _ _, by simp⟩), ?_⟩; clear hK K; try walk_nrm
  co_apply Goes.call termsK rfl rfl (by decide) rfl
  · walk_nrm
    exact hc x _ h0 h1
  rintro v w' ⟨rfl, hs⟩
  replace hF := hF.since hs
  clear hs
  walk_nrm
  refine Goes.step rfl (fun _ h₁ => ?_); replace hF := rl hF h₁; clear h₁; refine goes_oper_k rfl rfl (by k_ne) (fun K hK => ?_); go_simp; refine hK _ _ ⟨by rw [show listed _ _ _ _ _ = #[] from listed_nil (by simp [go_sem, *])]; exact (by first | exact (fun e he => absurd he (by simp)) | exact ⟨⟨_, rfl⟩, by simp⟩ | exact ⟨fun _ _ _ => rfl, by simp⟩ | exact ⟨fun _ _ => rfl, by simp⟩ | exact ⟨Aside.refl _ _, by simp⟩), ?_⟩; clear hK K; try walk_nrm
  refine Goes.step rfl (fun _ h₁ => ?_); replace hF := rl hF h₁; clear h₁; rw [stepG_region_end]; simp only [goes_go]; refine ⟨(by first | exact (fun e he => absurd he (by simp)) | exact ⟨⟨_, rfl⟩, by simp⟩ | exact ⟨fun _ _ _ => rfl, by simp⟩ | exact ⟨fun _ _ => rfl, by simp⟩ | exact ⟨Aside.refl _ _, by simp⟩), ?_⟩
  refine Goes.step rfl (fun _ h₁ => ?_); replace hF := rl hF h₁; clear h₁; rw [stepG_block]; simp only [goes_go]; refine ⟨(by first | exact (fun e he => absurd he (by simp)) | exact ⟨⟨_, rfl⟩, by simp⟩ | exact ⟨fun _ _ _ => rfl, by simp⟩ | exact ⟨fun _ _ => rfl, by simp⟩ | exact ⟨Aside.refl _ _, by simp⟩), ?_⟩
  refine Goes.step rfl (fun _ h₁ => ?_); replace hF := rl hF h₁; clear h₁; rw [stepG_loop]; simp only [goes_go]; refine ⟨(by first | exact (fun e he => absurd he (by simp)) | exact ⟨⟨_, rfl⟩, by simp⟩ | exact ⟨fun _ _ _ => rfl, by simp⟩ | exact ⟨fun _ _ => rfl, by simp⟩ | exact ⟨Aside.refl _ _, by simp⟩), ?_⟩
  refine Goes.step rfl (fun _ h₁ => ?_); replace hF := rl hF h₁; clear h₁; rw [stepG_seq]; simp only [goes_go]; refine ⟨(by first | exact (fun e he => absurd he (by simp)) | exact ⟨⟨_, rfl⟩, by simp⟩ | exact ⟨fun _ _ _ => rfl, by simp⟩ | exact ⟨fun _ _ => rfl, by simp⟩ | exact ⟨Aside.refl _ _, by simp⟩), ?_⟩
  refine Goes.step rfl (fun _ h₁ => ?_); replace hF := rl hF h₁; clear h₁; rw [stepG_block]; simp only [goes_go]; refine ⟨(by first | exact (fun e he => absurd he (by simp)) | exact ⟨⟨_, rfl⟩, by simp⟩ | exact ⟨fun _ _ _ => rfl, by simp⟩ | exact ⟨fun _ _ => rfl, by simp⟩ | exact ⟨Aside.refl _ _, by simp⟩), ?_⟩
  refine Goes.step rfl (fun _ h₁ => ?_); replace hF := rl hF h₁; clear h₁; rw [stepG_seq]; simp only [goes_go]; refine ⟨(by first | exact (fun e he => absurd he (by simp)) | exact ⟨⟨_, rfl⟩, by simp⟩ | exact ⟨fun _ _ _ => rfl, by simp⟩ | exact ⟨fun _ _ => rfl, by simp⟩ | exact ⟨Aside.refl _ _, by simp⟩), ?_⟩
  refine Goes.step rfl (fun _ h₁ => ?_); replace hF := rl hF h₁; clear h₁; rw [stepG_seq]; simp only [goes_go]; refine ⟨(by first | exact (fun e he => absurd he (by simp)) | exact ⟨⟨_, rfl⟩, by simp⟩ | exact ⟨fun _ _ _ => rfl, by simp⟩ | exact ⟨fun _ _ => rfl, by simp⟩ | exact ⟨Aside.refl _ _, by simp⟩), ?_⟩
  refine Goes.step rfl (fun _ h₁ => ?_); replace hF := rl hF h₁; clear h₁; rw [stepG_seq]; simp only [goes_go]; refine ⟨(by first | exact (fun e he => absurd he (by simp)) | exact ⟨⟨_, rfl⟩, by simp⟩ | exact ⟨fun _ _ _ => rfl, by simp⟩ | exact ⟨fun _ _ => rfl, by simp⟩ | exact ⟨Aside.refl _ _, by simp⟩), ?_⟩
  refine Goes.step rfl (fun _ h₁ => ?_); replace hF := rl hF h₁; clear h₁; rw [stepG_region]; simp only [goes_go, List.size_toArray, List.length_cons, List.length_nil, Nat.reduceAdd, Nat.zero_add, List.range, List.range.loop]; refine ⟨(by first | exact (fun e he => absurd he (by simp)) | exact ⟨⟨_, rfl⟩, by simp⟩ | exact ⟨fun _ _ _ => rfl, by simp⟩ | exact ⟨fun _ _ => rfl, by simp⟩ | exact ⟨Aside.refl _ _, by simp⟩), ?_⟩
  refine Goes.step rfl (fun _ h₁ => ?_); replace hF := rl hF h₁; clear h₁; refine goes_oper_k rfl rfl (by k_ne) (fun K hK => ?_); go_simp; refine hK _ _ ⟨by rw [show listed _ _ _ _ _ = #[] from listed_nil (by simp [go_sem, *])]; exact (by first | exact (fun e he => absurd he (by simp)) | exact ⟨⟨_, rfl⟩, by simp⟩ | exact ⟨fun _ _ _ => rfl, by simp⟩ | exact ⟨fun _ _ => rfl, by simp⟩ | exact ⟨Aside.refl _ _, by simp⟩), ?_⟩; clear hK K; try walk_nrm
  refine Goes.step rfl (fun _ h₁ => ?_); replace hF := rl hF h₁; clear h₁; rw [stepG_region_end]; simp only [goes_go]; refine ⟨(by first | exact (fun e he => absurd he (by simp)) | exact ⟨⟨_, rfl⟩, by simp⟩ | exact ⟨fun _ _ _ => rfl, by simp⟩ | exact ⟨fun _ _ => rfl, by simp⟩ | exact ⟨Aside.refl _ _, by simp⟩), ?_⟩
  refine Goes.step rfl (fun _ h₁ => ?_); replace hF := rl hF h₁; clear h₁; rw [stepG_region]; simp only [goes_go, List.size_toArray, List.length_cons, List.length_nil, Nat.reduceAdd, Nat.zero_add, List.range, List.range.loop]; refine ⟨(by first | exact (fun e he => absurd he (by simp)) | exact ⟨⟨_, rfl⟩, by simp⟩ | exact ⟨fun _ _ _ => rfl, by simp⟩ | exact ⟨fun _ _ => rfl, by simp⟩ | exact ⟨Aside.refl _ _, by simp⟩), ?_⟩
  refine Goes.step rfl (fun _ h₁ => ?_); replace hF := rl hF h₁; clear h₁; refine goes_oper_k rfl rfl (by k_ne) (fun K hK => ?_); go_simp; refine hK _ _ ⟨by rw [show listed _ _ _ _ _ = #[] from listed_nil (by simp [go_sem, *])]; exact (by first | exact (fun e he => absurd he (by simp)) | exact ⟨⟨_, rfl⟩, by simp⟩ | exact ⟨fun _ _ _ => rfl, by simp⟩ | exact ⟨fun _ _ => rfl, by simp⟩ | exact ⟨Aside.refl _ _, by simp⟩), ?_⟩; clear hK K; try walk_nrm
  refine Goes.step rfl (fun _ h₁ => ?_); replace hF := rl hF h₁; clear h₁; rw [stepG_region_end]; simp only [goes_go]; refine ⟨(by first | exact (fun e he => absurd he (by simp)) | exact ⟨⟨_, rfl⟩, by simp⟩ | exact ⟨fun _ _ _ => rfl, by simp⟩ | exact ⟨fun _ _ => rfl, by simp⟩ | exact ⟨Aside.refl _ _, by simp⟩), ?_⟩
  refine Goes.step rfl (fun _ h₁ => ?_); replace hF := rl hF h₁; clear h₁; rw [stepG_region]; simp only [goes_go, List.size_toArray, List.length_cons, List.length_nil, Nat.reduceAdd, Nat.zero_add, List.range, List.range.loop]; refine ⟨(by first | exact (fun e he => absurd he (by simp)) | exact ⟨⟨_, rfl⟩, by simp⟩ | exact ⟨fun _ _ _ => rfl, by simp⟩ | exact ⟨fun _ _ => rfl, by simp⟩ | exact ⟨Aside.refl _ _, by simp⟩), ?_⟩
  refine Goes.step rfl (fun _ h₁ => ?_); replace hF := rl hF h₁; clear h₁; refine goes_oper_k rfl rfl (by k_ne) (fun K hK => ?_); go_simp; refine hK _ _ ⟨by rw [show listed _ _ _ _ _ = #[] from listed_nil (by simp [go_sem, *])]; exact (by first | exact (fun e he => absurd he (by simp)) | exact ⟨⟨_, rfl⟩, by simp⟩ | exact ⟨fun _ _ _ => rfl, by simp⟩ | exact ⟨fun _ _ => rfl, by simp⟩ | exact ⟨Aside.refl _ _, by simp⟩), ?_⟩; clear hK K; try walk_nrm
  refine Goes.step rfl (fun _ h₁ => ?_); replace hF := rl hF h₁; clear h₁; rw [stepG_region_end]; simp only [goes_go]; refine ⟨(by first | exact (fun e he => absurd he (by simp)) | exact ⟨⟨_, rfl⟩, by simp⟩ | exact ⟨fun _ _ _ => rfl, by simp⟩ | exact ⟨fun _ _ => rfl, by simp⟩ | exact ⟨Aside.refl _ _, by simp⟩), ?_⟩
  refine Goes.step rfl (fun _ h₁ => ?_); replace hF := rl hF h₁; clear h₁; rw [stepG_seq]; simp only [goes_go]; refine ⟨(by first | exact (fun e he => absurd he (by simp)) | exact ⟨⟨_, rfl⟩, by simp⟩ | exact ⟨fun _ _ _ => rfl, by simp⟩ | exact ⟨fun _ _ => rfl, by simp⟩ | exact ⟨Aside.refl _ _, by simp⟩), ?_⟩
  refine Goes.step rfl (fun _ h₁ => ?_); replace hF := rl hF h₁; clear h₁; rw [stepG_region]; simp only [goes_go, List.size_toArray, List.length_cons, List.length_nil, Nat.reduceAdd, Nat.zero_add, List.range, List.range.loop]; refine ⟨(by first | exact (fun e he => absurd he (by simp)) | exact ⟨⟨_, rfl⟩, by simp⟩ | exact ⟨fun _ _ _ => rfl, by simp⟩ | exact ⟨fun _ _ => rfl, by simp⟩ | exact ⟨Aside.refl _ _, by simp⟩), ?_⟩
  refine Goes.stop fun w₂ r₂ => ?_
  replace hF := rl hF r₂
  exact ⟨_, _, _, _, _, _, rfl, hF⟩
end
end Go.Proofs.YtegkbjpcgelomaaGreatDoor.Wk
end
/- sabbath.upto's child: from select to select; by the closed channel to its release. -/
section
namespace Go.Proofs.YtegkbjpcgelomaaGreatDoor.Wk
open Go Go.Proofs Go.Conc Go.ConcX Go.ConcX.Gen Go.Conc.Lib Go.RowKit Go.Ph

section
variable {N c1 c2 po pe : Nat} {x : Int} {Mine : Loc → Prop} [Shy (N + 5) N]
variable {i : Nat} {v9 v10 v14 v15 v16 v17 : Value} {w : World}
abbrev zS : Value := .int .i64 0
abbrev zE : Value := .agg #[]
/-- As the library's stepG_comm, of one that has offers laid. -/
theorem stepG_comm' {P : Program} {main : Bool} {b : Frame} {a : Act} {k : List Item} {cs : List Frame} {w : World} {ops : Array Oper} {i : Nat} {rest : List Nat} {o : Oper} {cases : Array CommCase} {blocking : Bool} {shape : CommShape} {w' : World} {oo : Option (Array CommCase × CommShape)} (ho : ops[i]? = some o) (hw : Region.wanted o (yielded ops a.tmps) = true)
    (hk : b.kind ≠ .early) (hr : (execOp a.eval o).run P w = .ok (.comm cases blocking shape) w') :
    stepG P main { G (b.at a (.inRegion ops (i :: rest) :: k)) cs with offers := oo } w = .comm (G (b.at a (.inRegion ops (i :: rest) :: k)) cs) cases blocking shape w' (listed P b.fn a o w) := by
  have hk' : (b.kind == CallKind.early) = false := by simpa using hk
  have he := Frame.eval_at' b a (.inRegion ops (i :: rest) :: k)
  simp only [Frame.at] at he
  simp [G, stepG, stepG.exec, stepG.oper, Frame.oper?, Frame.at, ho, hw, he, stepG.apply, hr, hk', GStep.after, listed]
noncomputable def opSel : Oper := opsS.getD 0 default
section
variable {a : Act}
theorem sel_run (h1 : a.eval (.tmp 11) = .chan (some c1)) (h2 : a.eval (.tmp 12) = nV x i) (h3 : a.eval (.tmp 13) = .chan (some c2)) :
    (execOp a.eval opSel).run Tryz.prog w = .ok (.comm (send_ c1 c2 (nV x) i zS zE) true .select) w ∧ (execOp a.eval opSel).events Tryz.prog w #[] = #[] := by
  simp only [Act.eval, Array.getD_eq_getD_getElem?] at h1 h2 h3
  constructor
  · simp [opSel, opsS, loopF, bodyF, Tryz.f156, execOp, go_sem, h1, h2, h3, send_, scase, rcase]
  · simp [opSel, opsS, loopF, bodyF, Tryz.f156, execOp, go_sem, h1, h2, h3, send_, scase, rcase]
end
theorem sel_step : stepG Tryz.prog false (selG N c1 c2 po pe x i v9 v10 v14 v15 v16 v17) w = .comm (selG N c1 c2 po pe x i v9 v10 v14 v15 v16 v17) (send_ c1 c2 (nV x) i zS zE) true .select w #[] := by
  unfold selG
  obtain ⟨r, e⟩ := sel_run (x := x) (i := i) (c1 := c1) (c2 := c2) (w := w) (a := ⟨#[.int .i64 x, .chan (some c1), .chan (some c2), undef, undef, undef, nV x i, .int .i64 x, .int .i64 (sat x), v9, v10, .chan (some c1), nV x i, .chan (some c2), v14, v15, v16, v17], []⟩) rfl rfl rfl
  rw [stepG_comm (o := opSel) (by rfl) (by rfl) (by k_ne) r, listed_nil e]
theorem sel_again : stepG Tryz.prog false { parked (selG N c1 c2 po pe x i v9 v10 v14 v15 v16 v17) (send_ c1 c2 (nV x) i zS zE) .select with status := .running } w =
    .comm (selG N c1 c2 po pe x i v9 v10 v14 v15 v16 v17) (send_ c1 c2 (nV x) i zS zE) true .select w #[] := by
  obtain ⟨r, e⟩ := sel_run (x := x) (i := i) (c1 := c1) (c2 := c2) (w := w) (a := ⟨#[.int .i64 x, .chan (some c1), .chan (some c2), undef, undef, undef, nV x i, .int .i64 x, .int .i64 (sat x), v9, v10, .chan (some c1), nV x i, .chan (some c2), v14, v15, v16, v17], []⟩) rfl rfl rfl
  have := stepG_comm' (P := Tryz.prog) (main := false) (oo := some (send_ c1 c2 (nV x) i zS zE, .select)) (b := base 156) (k := [.code restS, .inBlock 1, .code incS, .inLoop loopF, .inBlock 0]) (cs := [litF N c1 c2 po pe x, bot]) (o := opSel) (ops := opsS) (i := 0) (rest := [1, 2, 3]) (by rfl) (by rfl) (by k_ne) r
  rw [listed_nil e] at this
  exact this
/-- Behind the select. -/
noncomputable def selB (N c1 c2 po pe : Nat) (x : Int) (i : Nat) (k : Int) (v9 v10 v15 v16 v17 : Value) : Goroutine :=
  G ((base 156).at ⟨#[.int .i64 x, .chan (some c1), .chan (some c2), undef, undef, undef, nV x i, .int .i64 x, .int .i64 (sat x), v9, v10, .chan (some c1), nV x i, .chan (some c2), .tuple #[.int .i64 k, .bool false, .agg #[]], v15, v16, v17], []⟩
    (.inRegion opsS [1, 2, 3] :: .code restS :: .inBlock 1 :: .code incS :: .inLoop loopF :: .inBlock 0 :: [])) [litF N c1 c2 po pe x, bot]
theorem sel_sent : (selG N c1 c2 po pe x i v9 v10 v14 v15 v16 v17).finishComm Tryz.prog (send_ c1 c2 (nV x) i zS zE) .select 0 undef false = selB N c1 c2 po pe x i 0 v9 v10 v15 v16 v17 := by
  have r : commResult (send_ c1 c2 (nV x) i zS zE) .select 0 undef false = .tuple #[.int .i64 0, .bool false, .agg #[]] := by
    simp [commResult, send_, scase, rcase, goInt, List.zipIdx]
  unfold Goroutine.finishComm
  rw [r]
  unfold selG selB G
  simp only [Frame.finish_at]
  rfl
theorem sel_shut : (selG N c1 c2 po pe x i v9 v10 v14 v15 v16 v17).finishComm Tryz.prog (send_ c1 c2 (nV x) i zS zE) .select 1 zE false = selB N c1 c2 po pe x i 1 v9 v10 v15 v16 v17 := by
  have r : commResult (send_ c1 c2 (nV x) i zS zE) .select 1 zE false = .tuple #[.int .i64 1, .bool false, .agg #[]] := by
    simp [commResult, send_, scase, rcase, goInt, List.zipIdx]
  unfold Goroutine.finishComm
  rw [r]
  unfold selG selB G
  simp only [Frame.finish_at]
  rfl

set_option maxRecDepth 100000 in
set_option maxHeartbeats 4000000 in
theorem kid_sent (hF : CK N c1 c2 po pe x w) : ∃ n, Goes Tryz.prog false (RKu N c1 c2) (DKu Mine N) (CAtU N c1 c2 po pe x (i + 1)) n (selB N c1 c2 po pe x i 0 v9 v10 v15 v16 v17) w := by
  have rl : ∀ {w w' : World}, CK N c1 c2 po pe x w → RKu N c1 c2 w w' → CK N c1 c2 po pe x w' := fun h r => h.rely r
  refine ⟨60, ?_⟩
  simp only [selB, nV, opsS, restS, incS, loopF, bodyF, Tryz.f156, Option.getD_some]
  refine Goes.step rfl (fun _ h₁ => ?_); replace hF := rl hF h₁; clear h₁; refine goes_oper_k rfl rfl (by k_ne) (fun K hK => ?_); go_simp; refine hK _ _ ⟨by rw [show listed _ _ _ _ _ = #[] from listed_nil (by simp [go_sem, *])]; exact (by first | exact (fun e he => absurd he (by simp)) | exact ⟨⟨_, rfl⟩, by simp⟩ | exact ⟨fun _ _ _ => rfl, by simp⟩ | exact ⟨fun _ _ => rfl, by simp⟩ | exact ⟨Aside.refl _ _, by simp⟩), ?_⟩; clear hK K; try walk_nrm
  refine Goes.step rfl (fun _ h₁ => ?_); replace hF := rl hF h₁; clear h₁; refine goes_oper_k rfl rfl (by k_ne) (fun K hK => ?_); go_simp; refine hK _ _ ⟨by rw [show listed _ _ _ _ _ = #[] from listed_nil (by simp [go_sem, *])]; exact (by first | exact (fun e he => absurd he (by simp)) | exact ⟨⟨_, rfl⟩, by simp⟩ | exact ⟨fun _ _ _ => rfl, by simp⟩ | exact ⟨fun _ _ => rfl, by simp⟩ | exact ⟨Aside.refl _ _, by simp⟩), ?_⟩; clear hK K; try walk_nrm
  refine Goes.step rfl (fun _ h₁ => ?_); replace hF := rl hF h₁; clear h₁; refine goes_oper_k rfl rfl (by k_ne) (fun K hK => ?_); go_simp; refine hK _ _ ⟨by rw [show listed _ _ _ _ _ = #[] from listed_nil (by simp [go_sem, *])]; exact (by first | exact (fun e he => absurd he (by simp)) | exact ⟨⟨_, rfl⟩, by simp⟩ | exact ⟨fun _ _ _ => rfl, by simp⟩ | exact ⟨fun _ _ => rfl, by simp⟩ | exact ⟨Aside.refl _ _, by simp⟩), ?_⟩; clear hK K; try walk_nrm
  refine Goes.step rfl (fun _ h₁ => ?_); replace hF := rl hF h₁; clear h₁; rw [stepG_region_end]; simp only [goes_go]; refine ⟨(by first | exact (fun e he => absurd he (by simp)) | exact ⟨⟨_, rfl⟩, by simp⟩ | exact ⟨fun _ _ _ => rfl, by simp⟩ | exact ⟨fun _ _ => rfl, by simp⟩ | exact ⟨Aside.refl _ _, by simp⟩), ?_⟩
  refine Goes.step rfl (fun _ h₁ => ?_); replace hF := rl hF h₁; clear h₁; rw [stepG_block]; simp only [goes_go]; refine ⟨(by first | exact (fun e he => absurd he (by simp)) | exact ⟨⟨_, rfl⟩, by simp⟩ | exact ⟨fun _ _ _ => rfl, by simp⟩ | exact ⟨fun _ _ => rfl, by simp⟩ | exact ⟨Aside.refl _ _, by simp⟩), ?_⟩
  refine Goes.step rfl (fun _ h₁ => ?_); replace hF := rl hF h₁; clear h₁; rw [stepG_cond (t := true) rfl]; simp only [goes_go, if_true, if_false, Bool.false_eq_true, ↓reduceIte]; refine ⟨(by first | exact (fun e he => absurd he (by simp)) | exact ⟨⟨_, rfl⟩, by simp⟩ | exact ⟨fun _ _ _ => rfl, by simp⟩ | exact ⟨fun _ _ => rfl, by simp⟩ | exact ⟨Aside.refl _ _, by simp⟩), ?_⟩
  refine Goes.step rfl (fun _ h₁ => ?_); replace hF := rl hF h₁; clear h₁; rw [stepG_skip]; simp only [goes_go]; refine ⟨(by first | exact (fun e he => absurd he (by simp)) | exact ⟨⟨_, rfl⟩, by simp⟩ | exact ⟨fun _ _ _ => rfl, by simp⟩ | exact ⟨fun _ _ => rfl, by simp⟩ | exact ⟨Aside.refl _ _, by simp⟩), ?_⟩
  refine Goes.step rfl (fun _ h₁ => ?_); replace hF := rl hF h₁; clear h₁; rw [stepG_inBlock]; simp only [goes_go]; refine ⟨(by first | exact (fun e he => absurd he (by simp)) | exact ⟨⟨_, rfl⟩, by simp⟩ | exact ⟨fun _ _ _ => rfl, by simp⟩ | exact ⟨fun _ _ => rfl, by simp⟩ | exact ⟨Aside.refl _ _, by simp⟩), ?_⟩
  refine Goes.step rfl (fun _ h₁ => ?_); replace hF := rl hF h₁; clear h₁; rw [stepG_inBlock]; simp only [goes_go]; refine ⟨(by first | exact (fun e he => absurd he (by simp)) | exact ⟨⟨_, rfl⟩, by simp⟩ | exact ⟨fun _ _ _ => rfl, by simp⟩ | exact ⟨fun _ _ => rfl, by simp⟩ | exact ⟨Aside.refl _ _, by simp⟩), ?_⟩
  refine Goes.step rfl (fun _ h₁ => ?_); replace hF := rl hF h₁; clear h₁; rw [stepG_region]; simp only [goes_go, List.size_toArray, List.length_cons, List.length_nil, Nat.reduceAdd, Nat.zero_add, List.range, List.range.loop]; refine ⟨(by first | exact (fun e he => absurd he (by simp)) | exact ⟨⟨_, rfl⟩, by simp⟩ | exact ⟨fun _ _ _ => rfl, by simp⟩ | exact ⟨fun _ _ => rfl, by simp⟩ | exact ⟨Aside.refl _ _, by simp⟩), ?_⟩
  refine Goes.step rfl (fun _ h₁ => ?_); replace hF := rl hF h₁; clear h₁; refine goes_oper_k rfl rfl (by k_ne) (fun K hK => ?_); go_simp; refine hK _ _ ⟨by rw [show listed _ _ _ _ _ = #[] from listed_nil (by simp [go_sem, *])]; exact (by first | exact (fun e he => absurd he (by simp)) | exact ⟨⟨_, rfl⟩, by simp⟩ | exact ⟨fun _ _ _ => rfl, by simp⟩ | exact ⟨fun _ _ => rfl, by simp⟩ | exact ⟨Aside.refl _ _, by simp⟩), ?_⟩; clear hK K; try walk_nrm
  refine Goes.step rfl (fun _ h₁ => ?_); replace hF := rl hF h₁; clear h₁; refine goes_oper_k rfl rfl (by k_ne) (fun K hK => ?_); go_simp; refine hK _ _ ⟨by rw [show listed _ _ _ _ _ = #[] from listed_nil (by simp [go_sem, *])]; exact (by first | exact (fun e he => absurd he (by simp)) | exact ⟨⟨_, rfl⟩, by simp⟩ | exact ⟨fun _ _ _ => rfl, by simp⟩ | exact ⟨fun _ _ => rfl, by simp⟩ | exact ⟨Aside.refl _ _, by simp⟩), ?_⟩; clear hK K; try walk_nrm
  refine Goes.step rfl (fun _ h₁ => ?_); replace hF := rl hF h₁; clear h₁; refine goes_oper_k rfl rfl (by k_ne) (fun K hK => ?_); go_simp; refine hK _ _ ⟨by rw [show listed _ _ _ _ _ = #[] from listed_nil (by simp [go_sem, *])]; exact (by first | exact (fun e he => absurd he (by simp)) | exact ⟨⟨_, rfl⟩, by simp⟩ | exact ⟨fun _ _ _ => rfl, by simp⟩ | exact ⟨fun _ _ => rfl, by simp⟩ | exact ⟨Aside.refl _ _, by simp⟩), ?_⟩; clear hK K; try walk_nrm
  refine Goes.step rfl (fun _ h₁ => ?_); replace hF := rl hF h₁; clear h₁; rw [stepG_region_end]; simp only [goes_go]; refine ⟨(by first | exact (fun e he => absurd he (by simp)) | exact ⟨⟨_, rfl⟩, by simp⟩ | exact ⟨fun _ _ _ => rfl, by simp⟩ | exact ⟨fun _ _ => rfl, by simp⟩ | exact ⟨Aside.refl _ _, by simp⟩), ?_⟩
  refine Goes.step rfl (fun _ h₁ => ?_); replace hF := rl hF h₁; clear h₁; rw [stepG_inLoop]; simp only [goes_go]; refine ⟨(by first | exact (fun e he => absurd he (by simp)) | exact ⟨⟨_, rfl⟩, by simp⟩ | exact ⟨fun _ _ _ => rfl, by simp⟩ | exact ⟨fun _ _ => rfl, by simp⟩ | exact ⟨Aside.refl _ _, by simp⟩), ?_⟩
  refine Goes.step rfl (fun _ h₁ => ?_); replace hF := rl hF h₁; clear h₁; rw [stepG_seq]; simp only [goes_go]; refine ⟨(by first | exact (fun e he => absurd he (by simp)) | exact ⟨⟨_, rfl⟩, by simp⟩ | exact ⟨fun _ _ _ => rfl, by simp⟩ | exact ⟨fun _ _ => rfl, by simp⟩ | exact ⟨Aside.refl _ _, by simp⟩), ?_⟩
  refine Goes.step rfl (fun _ h₁ => ?_); replace hF := rl hF h₁; clear h₁; rw [stepG_block]; simp only [goes_go]; refine ⟨(by first | exact (fun e he => absurd he (by simp)) | exact ⟨⟨_, rfl⟩, by simp⟩ | exact ⟨fun _ _ _ => rfl, by simp⟩ | exact ⟨fun _ _ => rfl, by simp⟩ | exact ⟨Aside.refl _ _, by simp⟩), ?_⟩
  refine Goes.step rfl (fun _ h₁ => ?_); replace hF := rl hF h₁; clear h₁; rw [stepG_seq]; simp only [goes_go]; refine ⟨(by first | exact (fun e he => absurd he (by simp)) | exact ⟨⟨_, rfl⟩, by simp⟩ | exact ⟨fun _ _ _ => rfl, by simp⟩ | exact ⟨fun _ _ => rfl, by simp⟩ | exact ⟨Aside.refl _ _, by simp⟩), ?_⟩
  refine Goes.step rfl (fun _ h₁ => ?_); replace hF := rl hF h₁; clear h₁; rw [stepG_seq]; simp only [goes_go]; refine ⟨(by first | exact (fun e he => absurd he (by simp)) | exact ⟨⟨_, rfl⟩, by simp⟩ | exact ⟨fun _ _ _ => rfl, by simp⟩ | exact ⟨fun _ _ => rfl, by simp⟩ | exact ⟨Aside.refl _ _, by simp⟩), ?_⟩
  refine Goes.step rfl (fun _ h₁ => ?_); replace hF := rl hF h₁; clear h₁; rw [stepG_seq]; simp only [goes_go]; refine ⟨(by first | exact (fun e he => absurd he (by simp)) | exact ⟨⟨_, rfl⟩, by simp⟩ | exact ⟨fun _ _ _ => rfl, by simp⟩ | exact ⟨fun _ _ => rfl, by simp⟩ | exact ⟨Aside.refl _ _, by simp⟩), ?_⟩
  refine Goes.step rfl (fun _ h₁ => ?_); replace hF := rl hF h₁; clear h₁; rw [stepG_region]; simp only [goes_go, List.size_toArray, List.length_cons, List.length_nil, Nat.reduceAdd, Nat.zero_add, List.range, List.range.loop]; refine ⟨(by first | exact (fun e he => absurd he (by simp)) | exact ⟨⟨_, rfl⟩, by simp⟩ | exact ⟨fun _ _ _ => rfl, by simp⟩ | exact ⟨fun _ _ => rfl, by simp⟩ | exact ⟨Aside.refl _ _, by simp⟩), ?_⟩
  refine Goes.step rfl (fun _ h₁ => ?_); replace hF := rl hF h₁; clear h₁; refine goes_oper_k rfl rfl (by k_ne) (fun K hK => ?_); go_simp; refine hK _ _ ⟨by rw [show listed _ _ _ _ _ = #[] from listed_nil (by simp [go_sem, *])]; exact (by first | exact (fun e he => absurd he (by simp)) | exact ⟨⟨_, rfl⟩, by simp⟩ | exact ⟨fun _ _ _ => rfl, by simp⟩ | exact ⟨fun _ _ => rfl, by simp⟩ | exact ⟨Aside.refl _ _, by simp⟩), ?_⟩; clear hK K; try walk_nrm
  refine Goes.step rfl (fun _ h₁ => ?_); replace hF := rl hF h₁; clear h₁; rw [stepG_region_end]; simp only [goes_go]; refine ⟨(by first | exact (fun e he => absurd he (by simp)) | exact ⟨⟨_, rfl⟩, by simp⟩ | exact ⟨fun _ _ _ => rfl, by simp⟩ | exact ⟨fun _ _ => rfl, by simp⟩ | exact ⟨Aside.refl _ _, by simp⟩), ?_⟩
  refine Goes.step rfl (fun _ h₁ => ?_); replace hF := rl hF h₁; clear h₁; rw [stepG_region]; simp only [goes_go, List.size_toArray, List.length_cons, List.length_nil, Nat.reduceAdd, Nat.zero_add, List.range, List.range.loop]; refine ⟨(by first | exact (fun e he => absurd he (by simp)) | exact ⟨⟨_, rfl⟩, by simp⟩ | exact ⟨fun _ _ _ => rfl, by simp⟩ | exact ⟨fun _ _ => rfl, by simp⟩ | exact ⟨Aside.refl _ _, by simp⟩), ?_⟩
  refine Goes.step rfl (fun _ h₁ => ?_); replace hF := rl hF h₁; clear h₁; refine goes_oper_k rfl rfl (by k_ne) (fun K hK => ?_); go_simp; refine hK _ _ ⟨by rw [show listed _ _ _ _ _ = #[] from listed_nil (by simp [go_sem, *])]; exact (by first | exact (fun e he => absurd he (by simp)) | exact ⟨⟨_, rfl⟩, by simp⟩ | exact ⟨fun _ _ _ => rfl, by simp⟩ | exact ⟨fun _ _ => rfl, by simp⟩ | exact ⟨Aside.refl _ _, by simp⟩), ?_⟩; clear hK K; try walk_nrm
  refine Goes.step rfl (fun _ h₁ => ?_); replace hF := rl hF h₁; clear h₁; rw [stepG_region_end]; simp only [goes_go]; refine ⟨(by first | exact (fun e he => absurd he (by simp)) | exact ⟨⟨_, rfl⟩, by simp⟩ | exact ⟨fun _ _ _ => rfl, by simp⟩ | exact ⟨fun _ _ => rfl, by simp⟩ | exact ⟨Aside.refl _ _, by simp⟩), ?_⟩
  refine Goes.step rfl (fun _ h₁ => ?_); replace hF := rl hF h₁; clear h₁; rw [stepG_region]; simp only [goes_go, List.size_toArray, List.length_cons, List.length_nil, Nat.reduceAdd, Nat.zero_add, List.range, List.range.loop]; refine ⟨(by first | exact (fun e he => absurd he (by simp)) | exact ⟨⟨_, rfl⟩, by simp⟩ | exact ⟨fun _ _ _ => rfl, by simp⟩ | exact ⟨fun _ _ => rfl, by simp⟩ | exact ⟨Aside.refl _ _, by simp⟩), ?_⟩
  refine Goes.step rfl (fun _ h₁ => ?_); replace hF := rl hF h₁; clear h₁; refine goes_oper_k rfl rfl (by k_ne) (fun K hK => ?_); go_simp; refine hK _ _ ⟨by rw [show listed _ _ _ _ _ = #[] from listed_nil (by simp [go_sem, *])]; exact (by first | exact (fun e he => absurd he (by simp)) | exact ⟨⟨_, rfl⟩, by simp⟩ | exact ⟨fun _ _ _ => rfl, by simp⟩ | exact ⟨fun _ _ => rfl, by simp⟩ | exact ⟨Aside.refl _ _, by simp⟩), ?_⟩; clear hK K; try walk_nrm
  refine Goes.step rfl (fun _ h₁ => ?_); replace hF := rl hF h₁; clear h₁; rw [stepG_region_end]; simp only [goes_go]; refine ⟨(by first | exact (fun e he => absurd he (by simp)) | exact ⟨⟨_, rfl⟩, by simp⟩ | exact ⟨fun _ _ _ => rfl, by simp⟩ | exact ⟨fun _ _ => rfl, by simp⟩ | exact ⟨Aside.refl _ _, by simp⟩), ?_⟩
  refine Goes.step rfl (fun _ h₁ => ?_); replace hF := rl hF h₁; clear h₁; rw [stepG_seq]; simp only [goes_go]; refine ⟨(by first | exact (fun e he => absurd he (by simp)) | exact ⟨⟨_, rfl⟩, by simp⟩ | exact ⟨fun _ _ _ => rfl, by simp⟩ | exact ⟨fun _ _ => rfl, by simp⟩ | exact ⟨Aside.refl _ _, by simp⟩), ?_⟩
  refine Goes.step rfl (fun _ h₁ => ?_); replace hF := rl hF h₁; clear h₁; rw [stepG_region]; simp only [goes_go, List.size_toArray, List.length_cons, List.length_nil, Nat.reduceAdd, Nat.zero_add, List.range, List.range.loop]; refine ⟨(by first | exact (fun e he => absurd he (by simp)) | exact ⟨⟨_, rfl⟩, by simp⟩ | exact ⟨fun _ _ _ => rfl, by simp⟩ | exact ⟨fun _ _ => rfl, by simp⟩ | exact ⟨Aside.refl _ _, by simp⟩), ?_⟩
  refine Goes.stop fun w₂ r₂ => ?_
  replace hF := rl hF r₂
  exact ⟨_, _, _, _, _, _, rfl, hF⟩

/-- The literal's own way out, once Done has left. -/
theorem quitsTail (T : Array Value) : QuitsD Tryz.prog 2 0 (G { (baseD 154).at ⟨T, []⟩ [] with mode := .returning } [bot]) := by
  refine QuitsD.ctl (g' := G bot []) rfl (fun w => ?_) ?_
  · simp [G, stepG, unwind, doReturn, results, Frame.at, baseD, bot, Tryz.func154, Tryz.f154, seen, GStep.after, goexitEntry]
  refine QuitsD.ctl (g' := { G bot [] with status := .finished }) rfl (fun w => ?_) ⟨rfl, rfl⟩
  simp [G, stepG, unwind, bot, goexitEntry, Frame.catches]
  rfl
abbrev RCu (N : Nat) [Shy (N + 5) N] : World → World → Prop := RCa link.tWg (N + 5) (N + 6)
theorem CK.rc {w w' : World} (h : CK N c1 c2 po pe x w ∧ KCa link.tWg (N + 5) w) (r : RCu N w w') : CK N c1 c2 po pe x w' ∧ KCa link.tWg (N + 5) w' := by
  refine ⟨h.1.rely fun b h1 h2 h3 h4 h5 => r.low b h2 h3, r.k h.2⟩
set_option maxRecDepth 100000 in
set_option maxHeartbeats 4000000 in
theorem kid_shut (hF : CK N c1 c2 po pe x w ∧ KCa link.tWg (N + 5) w) : ∃ n, Goes Tryz.prog false (RCu N) (DCs Mine (N + 5) N) (AtR0 Tryz.prog link.tWg (N + 5) N (N + 6) [.int .i64 x]) n (selB N c1 c2 po pe x i 1 v9 v10 v15 v16 v17) w := by
  have rl : ∀ {w w' : World}, (CK N c1 c2 po pe x w ∧ KCa link.tWg (N + 5) w) → RCu N w w' → (CK N c1 c2 po pe x w' ∧ KCa link.tWg (N + 5) w') := fun h r => CK.rc h r
  refine ⟨23 + 12, ?_⟩
  simp only [selB, nV, opsS, restS, incS, loopF, bodyF, Tryz.f156, Option.getD_some, litF, opsL, bodyL, Tryz.f154]
  refine Goes.step rfl (fun _ h₁ => ?_); replace hF := rl hF h₁; clear h₁; refine goes_oper_k rfl rfl (by k_ne) (fun K hK => ?_); go_simp; refine hK _ _ ⟨by rw [show listed _ _ _ _ _ = #[] from listed_nil (by simp [go_sem, *])]; exact (by first | exact (fun e he => absurd he (by simp)) | exact ⟨⟨_, rfl⟩, by simp⟩ | exact ⟨fun _ _ _ => rfl, by simp⟩ | exact ⟨fun _ _ => rfl, by simp⟩ | exact ⟨Aside.refl _ _, by simp⟩), ?_⟩; clear hK K; try walk_nrm
  refine Goes.step rfl (fun _ h₁ => ?_); replace hF := rl hF h₁; clear h₁; refine goes_oper_k rfl rfl (by k_ne) (fun K hK => ?_); go_simp; refine hK _ _ ⟨by rw [show listed _ _ _ _ _ = #[] from listed_nil (by simp [go_sem, *])]; exact (by first | exact (fun e he => absurd he (by simp)) | exact ⟨⟨_, rfl⟩, by simp⟩ | exact ⟨fun _ _ _ => rfl, by simp⟩ | exact ⟨fun _ _ => rfl, by simp⟩ | exact ⟨Aside.refl _ _, by simp⟩), ?_⟩; clear hK K; try walk_nrm
  refine Goes.step rfl (fun _ h₁ => ?_); replace hF := rl hF h₁; clear h₁; refine goes_oper_k rfl rfl (by k_ne) (fun K hK => ?_); go_simp; refine hK _ _ ⟨by rw [show listed _ _ _ _ _ = #[] from listed_nil (by simp [go_sem, *])]; exact (by first | exact (fun e he => absurd he (by simp)) | exact ⟨⟨_, rfl⟩, by simp⟩ | exact ⟨fun _ _ _ => rfl, by simp⟩ | exact ⟨fun _ _ => rfl, by simp⟩ | exact ⟨Aside.refl _ _, by simp⟩), ?_⟩; clear hK K; try walk_nrm
  refine Goes.step rfl (fun _ h₁ => ?_); replace hF := rl hF h₁; clear h₁; rw [stepG_region_end]; simp only [goes_go]; refine ⟨(by first | exact (fun e he => absurd he (by simp)) | exact ⟨⟨_, rfl⟩, by simp⟩ | exact ⟨fun _ _ _ => rfl, by simp⟩ | exact ⟨fun _ _ => rfl, by simp⟩ | exact ⟨Aside.refl _ _, by simp⟩), ?_⟩
  refine Goes.step rfl (fun _ h₁ => ?_); replace hF := rl hF h₁; clear h₁; rw [stepG_block]; simp only [goes_go]; refine ⟨(by first | exact (fun e he => absurd he (by simp)) | exact ⟨⟨_, rfl⟩, by simp⟩ | exact ⟨fun _ _ _ => rfl, by simp⟩ | exact ⟨fun _ _ => rfl, by simp⟩ | exact ⟨Aside.refl _ _, by simp⟩), ?_⟩
  refine Goes.step rfl (fun _ h₁ => ?_); replace hF := rl hF h₁; clear h₁; rw [stepG_cond (t := false) rfl]; simp only [goes_go, if_true, if_false, Bool.false_eq_true, ↓reduceIte]; refine ⟨(by first | exact (fun e he => absurd he (by simp)) | exact ⟨⟨_, rfl⟩, by simp⟩ | exact ⟨fun _ _ _ => rfl, by simp⟩ | exact ⟨fun _ _ => rfl, by simp⟩ | exact ⟨Aside.refl _ _, by simp⟩), ?_⟩
  refine Goes.step rfl (fun _ h₁ => ?_); replace hF := rl hF h₁; clear h₁; rw [stepG_cond (t := true) rfl]; simp only [goes_go, if_true, if_false, Bool.false_eq_true, ↓reduceIte]; refine ⟨(by first | exact (fun e he => absurd he (by simp)) | exact ⟨⟨_, rfl⟩, by simp⟩ | exact ⟨fun _ _ _ => rfl, by simp⟩ | exact ⟨fun _ _ => rfl, by simp⟩ | exact ⟨Aside.refl _ _, by simp⟩), ?_⟩
  refine Goes.step rfl (fun _ h₁ => ?_); replace hF := rl hF h₁; clear h₁; rw [stepG_ret']; simp only [goes_go]; refine ⟨(by first | exact (fun e he => absurd he (by simp)) | exact ⟨⟨_, rfl⟩, by simp⟩ | exact ⟨fun _ _ _ => rfl, by simp⟩ | exact ⟨fun _ _ => rfl, by simp⟩ | exact ⟨Aside.refl _ _, by simp⟩), ?_⟩
  refine Goes.step rfl (fun _ h₁ => ?_); replace hF := rl hF h₁; clear h₁
  refine goes_leave0 rfl rfl Tryz.func156 rfl ⟨(by first | exact (fun e he => absurd he (by simp)) | exact ⟨⟨_, rfl⟩, by simp⟩ | exact ⟨fun _ _ _ => rfl, by simp⟩ | exact ⟨fun _ _ => rfl, by simp⟩ | exact ⟨Aside.refl _ _, by simp⟩), ?_⟩
  walk_nrm
  refine Goes.step rfl (fun _ h₁ => ?_); replace hF := rl hF h₁; clear h₁; rw [stepG_region_end]; simp only [goes_go]; refine ⟨(by first | exact (fun e he => absurd he (by simp)) | exact ⟨⟨_, rfl⟩, by simp⟩ | exact ⟨fun _ _ _ => rfl, by simp⟩ | exact ⟨fun _ _ => rfl, by simp⟩ | exact ⟨Aside.refl _ _, by simp⟩), ?_⟩
  refine Goes.step rfl (fun _ h₁ => ?_); replace hF := rl hF h₁; clear h₁; rw [stepG_end]; simp only [goes_go]; refine ⟨(by first | exact (fun e he => absurd he (by simp)) | exact ⟨⟨_, rfl⟩, by simp⟩ | exact ⟨fun _ _ _ => rfl, by simp⟩ | exact ⟨fun _ _ => rfl, by simp⟩ | exact ⟨Aside.refl _ _, by simp⟩), ?_⟩
  refine Goes.step rfl (fun _ h₁ => ?_); replace hF := rl hF h₁; clear h₁
  rw [stepG_unwind_enter rfl Tryz.func155 (nm_done link) rfl]
  simp only [goes_go]
  refine ⟨(by first | exact (fun e he => absurd he (by simp)) | exact ⟨⟨_, rfl⟩, by simp⟩ | exact ⟨fun _ _ _ => rfl, by simp⟩ | exact ⟨fun _ _ => rfl, by simp⟩ | exact ⟨Aside.refl _ _, by simp⟩), ?_⟩
  walk_nrmf Tryz.f155
  have hA := @doneD _ link Tryz.prog wgLib Mine (N + 5) N (N + 6) _ [.int .i64 x] (by omega) (by omega) (by omega)
  simp only [body_done, doneFn, Option.getD_some] at hA
  exact hA rfl (quitsTail _) _ ⟨hF.2, fun _ => hF.1.full⟩
/-- ████ WHAT IS ASKED OF THE CHILD. ████ -/
theorem kid_spec : KidSpec Tryz.prog link.tWg (N + 5) N N (N + 6) [.int .i64 x] Mine c1 c2 (nV x) (CAtU N c1 c2 po pe x) := by
  rintro i g w ⟨v9, v10, v14, v15, v16, v17, rfl, hF⟩
  refine ⟨rfl, zS, zE, .select, sel_step, fun w' r => ?_, fun w' r k => ?_, fun w' r => sel_again⟩
  · rw [sel_sent]
    exact kid_sent (hF.rely r)
  · rw [sel_shut]
    exact kid_shut ⟨hF.rely r, k⟩
end
end Go.Proofs.YtegkbjpcgelomaaGreatDoor.Wk
end
