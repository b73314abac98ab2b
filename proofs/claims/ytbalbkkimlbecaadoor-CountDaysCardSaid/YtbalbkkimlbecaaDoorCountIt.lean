/- The iterator of count.dates: a loop over its dates, for whatever body; and the statement that ranges over it. -/
import Derived.Test.YtbalbkkimlbecaaDoorCount3
import Derived.RangeFuncNested
import Derived.RangeFuncBound
import Derived.RangeFuncCalls
import Derived.RangeFuncLeaves
import Derived.Shelf.Abstract
import Derived.Shelf.RegionOpen
import Derived.WalkKit
import Derived.OwnWalkIn
import Derived.TacticsInMore
import Derived.LoopNIn
import Derived.LoopIn
set_option linter.unusedVariables false
set_option linter.unusedSimpArgs false
namespace Go.Proofs.YtbalbkkimlbecaaDoor.Walks
open Go Go.RowKit Go.Sort Go.Proofs.YtbalbkkimlbecaaDoor.Base Go.Proofs.YtbalbkkimlbecaaDoor.Plain Go.Proofs.YtbalbkkimlbecaaDoor.Math
attribute [local go_sem] Oper.semAt_some

theorem D4.put {w : World} {b : Nat} {y n d : Int} {c : Bool} (h : D4 w b y n c d) (y' n' d' : Int) (c' : Bool) : D4 ((((w.setCell ⟨b, 0, none⟩ (.int .i64 y')).setCell ⟨b, 1, none⟩ (.int .i64 n')).setCell ⟨b, 2, none⟩ (.bool c')).setCell ⟨b, 3, none⟩ (.int .i64 d')) b y' n' c' d' := by
  refine ⟨by rw [set_size, set_size, set_size, set_size]; exact h.lt, ?_, ?_, ?_, ?_, set_frozen (set_frozen (set_frozen (set_frozen h.f0))), set_frozen (set_frozen (set_frozen (set_frozen h.f1))), set_frozen (set_frozen (set_frozen (set_frozen h.f2))), set_frozen (set_frozen (set_frozen (set_frozen h.f3)))⟩
  · rw [set_cell (set_cell (set_cell (set_cell h.c0)))]; simp
  · rw [set_cell (set_cell (set_cell (set_cell h.c1)))]; simp
  · rw [set_cell (set_cell (set_cell (set_cell h.c2)))]; simp
  · rw [set_cell (set_cell (set_cell (set_cell h.c3)))]; simp
/-- A box that holds a function. -/
structure FB (w : World) (b g : Nat) : Prop where
  lt : b < w.heap.size
  c0 : w.cell? ⟨b, 0, none⟩ = some (.func (.func g) #[] #[])
theorem FB.gr {w w' : World} {b f : Nat} (h : FB w b f) (g : Gr w w') : FB w' b f := ⟨g.lt h.lt, g.keep h.lt h.c0⟩
theorem FB.set {w : World} {b b' o g : Nat} {v : Value} (h : FB w b g) (hb : b ≠ b') : FB (w.setCell ⟨b', o, none⟩ v) b g := ⟨by rw [set_size]; exact h.lt, (set_other _ _ _ _ _ _ hb).trans h.c0⟩

theorem put_cell (W : World) (x : Obj) {l b : Nat} (o : Nat) (h : b ≠ l) : (W.putObj l x).cell? ⟨b, o, none⟩ = W.cell? ⟨b, o, none⟩ := by
  unfold World.cell?
  rw [World.putObj_heap_other h]
theorem put_froz (W : World) (x : Obj) {l b : Nat} (o : Nat) (h : b ≠ l) : (W.putObj l x).frozen? ⟨b, o, none⟩ = W.frozen? ⟨b, o, none⟩ := by
  unfold World.frozen?
  rw [World.putObj_heap_other h]
theorem put_size (W : World) (x : Obj) (l : Nat) : (W.putObj l x).heap.size = W.heap.size := by simp [World.putObj]
theorem Gr.putObj {a b : World} (h : Gr a b) (l : Nat) (x : Obj) (hl : a.heap.size ≤ l) : Gr a (b.putObj l x) := by
  obtain ⟨⟨q, os, rfl⟩⟩ := h
  refine ⟨⟨q, os.setIfInBounds (l - a.heap.size) x, ?_⟩⟩
  unfold World.putObj Go.Sort.grow
  simp only
  congr 1
  exact Array.setIfInBounds_append_right hl
theorem D4.putObj {w : World} {b l : Nat} {y n d : Int} {c : Bool} (h : D4 w b y n c d) (x : Obj) (hb : b ≠ l) : D4 (w.putObj l x) b y n c d :=
  ⟨by rw [put_size]; exact h.lt, (put_cell _ _ _ hb).trans h.c0, (put_cell _ _ _ hb).trans h.c1, (put_cell _ _ _ hb).trans h.c2, (put_cell _ _ _ hb).trans h.c3, (put_froz _ _ _ hb).trans h.f0, (put_froz _ _ _ hb).trans h.f1, (put_froz _ _ _ hb).trans h.f2, (put_froz _ _ _ hb).trans h.f3⟩
theorem FB.putObj {w : World} {b l g : Nat} (h : FB w b g) (x : Obj) (hb : b ≠ l) : FB (w.putObj l x) b g := ⟨by rw [put_size]; exact h.lt, (put_cell _ _ _ hb).trans h.c0⟩
/-- A round's end: how its body may be left. -/
def RP (SB : World → Prop) (SX : Code → World → Prop) (n0 : Nat) (KD : World → Prop) (W2 : World) : Exit → Act → World → Prop
  | .normal, _, W3 => (W3.heap[n0 + 1]? = W2.heap[n0 + 1]? ∧ W3.heap[n0]? = W2.heap[n0]?) ∧ SB W3 ∧ KD W3
  | .ret, _, W3 => (W3.heap[n0 + 1]? = W2.heap[n0 + 1]? ∧ W3.heap[n0]? = W2.heap[n0]?) ∧ SX .ret W3
  | .exit id, _, W3 => (W3.heap[n0 + 1]? = W2.heap[n0 + 1]? ∧ W3.heap[n0]? = W2.heap[n0]?) ∧ SX (.exit id) W3
  | .goto t, _, W3 => (W3.heap[n0 + 1]? = W2.heap[n0 + 1]? ∧ W3.heap[n0]? = W2.heap[n0]?) ∧ SX (.goto t) W3
  | .panic _, _, _ => False
  | .outgrown, _, _ => False

/-- A row of dates, one behind the other (or ahead), as a step leads from each to the next; the last one has none. -/
structure Dates (g M : Nat) (Y N D : Nat → Int) (C : Nat → Bool) : Prop where
  step : ∀ k, k < M → ∀ w, GT w → Calls Tryd.prog g #[.agg #[.int .i64 (Y k), .int .i64 (N k), .bool (C k), .int .i64 (D k)]] w fun e w' => e = .returned (.tuple #[.agg #[.int .i64 (Y (k + 1)), .int .i64 (N (k + 1)), .bool (C (k + 1)), .int .i64 (D (k + 1))], .int .i64 0]) ∧ Gr w w'
  last : ∀ w, GT w → Calls Tryd.prog g #[.agg #[.int .i64 (Y M), .int .i64 (N M), .bool (C M), .int .i64 (D M)]] w fun e w' => e = .returned (.tuple #[.agg #[.int .i64 0, .int .i64 0, .bool false, .int .i64 0], .int .i64 2]) ∧ Gr w w'

set_option maxRecDepth 20000 in
set_option maxHeartbeats 4000000 in
theorem dates_next (l bd bs M m : Nat) (Y N D : Nat → Int) (C : Nat → Bool) (hd : Dates 12 M Y N D C) (hne : bs ≠ bd) (J : Nat → World → Prop) (Jx : World → Prop)
    (hJg : ∀ k W W', J k W → Gr W W' → J k W') (hJs : ∀ k W o v, J k W → J k (W.setCell ⟨bd, o, none⟩ v)) (hG : ∀ k W, J k W → GT W)
    (hY : ∀ k W, k ≤ M → J k W → D4 W bd (Y k) (N k) (C k) (D k) → FB W bs 12 → YieldAt Fence.wide (m - 1) Tryd.prog l #[.int .i64 (k : Int), .agg #[.int .i64 (Y k), .int .i64 (N k), .bool (C k), .int .i64 (D k)]] W fun e W' =>
      (e = .returned (.bool true) ∧ J (k + 1) W' ∧ D4 W' bd (Y k) (N k) (C k) (D k) ∧ FB W' bs 12) ∨ (e = .returned (.bool false) ∧ Jx W'))
    (hM : (M : Int) ≤ 4000000)
    (W : World) (h0 : J 0 W) (d0 : D4 W bd (Y 0) (N 0) (C 0) (D 0)) (f0 : FB W bs 12) :
    CallsIn Fence.wide m Tryd.prog 84 #[.func (.yield l) #[] #[], .pointer (some ⟨bd, 0, none⟩), .pointer (some ⟨bs, 0, none⟩)] W fun e W' => (∃ v, e = .returned v) ∧ (J (M + 1) W' ∨ Jx W') := by
  refine callsIn_of_wp Tryd.func84 rfl trivial ?_ rfl
  simp only [Tryd.ntmps84, List.size_toArray, List.length_cons, List.length_nil, Nat.reduceAdd, Nat.reduceSub, Array.replicate_succ, Array.replicate_zero, List.push_toArray, List.append_toArray, List.nil_append, List.cons_append]
  gi_wp2
  gi_loopw [4, 5] (fun s4 s5 wr => ∃ k : Nat, k ≤ M + 1 ∧ s5 = .int .i64 (k : Int) ∧ FB wr bs 12 ∧ J k wr ∧ ((k ≤ M ∧ s4 = .int .i64 0 ∧ D4 wr bd (Y k) (N k) (C k) (D k)) ∨ (k = M + 1 ∧ s4 = .int .i64 2)))
    (fun s4 s5 wr => match s5 with | .int _ i => M + 1 - i.toNat | _ => 0)
  case atStart => exact ⟨0, by omega, rfl, f0, h0, .inl ⟨by omega, rfl, d0⟩⟩
  case round =>
    obtain ⟨k, hk, rfl, F, hJ, (⟨hk, rfl, B⟩ | ⟨rfl, rfl⟩)⟩ := hrel
    · obtain ⟨fn, tmps, assign, body, hy, hR⟩ := hY k wr hk hJ B F
      obtain ⟨lt, c0, c1, c2, c3, z0, z1, z2, z3⟩ := B
      obtain ⟨ltf, q0⟩ := F
      gi_wp2
      refine ⟨fun h => (by cases h), hR.mono ?_⟩
      rintro e W' (⟨rfl, hJ', B', F'⟩ | ⟨rfl, hx⟩)
      · have G' := hG _ _ hJ'
        have F2 := F'
        have B2 := B'
        obtain ⟨lt', c0', c1', c2', c3', z0', z1', z2', z3'⟩ := B'
        obtain ⟨ltf', q0'⟩ := F'
        clear lt c0 c1 c2 c3 z0 z1 z2 z3 ltf q0
        by_cases e : k < M
        · have S := hd.step k e
          gi_wp2
          refine ⟨trivial, fun h => (by cases h), (callsIn_wide.2 (S _ G')).mono ?_⟩
          rintro e WS ⟨rfl, hgS⟩
          have B3 := B2.gr hgS
          have F3 := F2.gr hgS
          have J3 := hJg _ _ _ hJ' hgS
          have B4 := B3.put (Y (k + 1)) (N (k + 1)) (D (k + 1)) (C (k + 1))
          have F4 := (((F3.set (o := 0) (v := .int .i64 (Y (k + 1))) hne).set (o := 1) (v := .int .i64 (N (k + 1))) hne).set (o := 2) (v := .bool (C (k + 1))) hne).set (o := 3) (v := .int .i64 (D (k + 1))) hne
          have J4 := hJs _ _ 3 (.int .i64 (D (k + 1))) (hJs _ _ 2 (.bool (C (k + 1))) (hJs _ _ 1 (.int .i64 (N (k + 1))) (hJs _ _ 0 (.int .i64 (Y (k + 1))) J3)))
          obtain ⟨lt, c0, c1, c2, c3, z0, z1, z2, z3⟩ := B3
          clear B2 F2 F3 J3 hgS lt' c0' c1' c2' c3' z0' z1' z2' z3' ltf' q0'
          gi_wp2
          go_roundw
          case measure => first | omega | (simp; done) | (simp; omega)
          case rel => exact ⟨k + 1, by omega, by go_num, F4, J4, .inl ⟨by omega, rfl, B4⟩⟩
        · obtain rfl : k = M := by omega
          have S := hd.last
          gi_wp2
          refine ⟨trivial, fun h => (by cases h), (callsIn_wide.2 (S _ G')).mono ?_⟩
          rintro e WS ⟨rfl, hgS⟩
          have B3 := B2.gr hgS
          have F3 := F2.gr hgS
          have J3 := hJg _ _ _ hJ' hgS
          have F4 := (((F3.set (o := 0) (v := .int .i64 0) hne).set (o := 1) (v := .int .i64 0) hne).set (o := 2) (v := .bool false) hne).set (o := 3) (v := .int .i64 0) hne
          have J4 := hJs _ _ 3 (.int .i64 0) (hJs _ _ 2 (.bool false) (hJs _ _ 1 (.int .i64 0) (hJs _ _ 0 (.int .i64 0) J3)))
          obtain ⟨lt, c0, c1, c2, c3, z0, z1, z2, z3⟩ := B3
          clear B2 F2 F3 J3 hgS lt' c0' c1' c2' c3' z0' z1' z2' z3' ltf' q0'
          gi_wp2
          go_roundw
          case measure => first | omega | (simp; done) | (simp; omega)
          case rel => exact ⟨k + 1, by omega, by go_num, F4, J4, .inr ⟨rfl, rfl⟩⟩
      · gi_wp2
        exact ⟨rfl, _, results_none rfl _ _ _, ⟨_, rfl⟩, .inr hx⟩
    · gi_wp2
      refine ⟨fun _ h => (by cases h), ?_⟩
      gi_wp2
      exact ⟨rfl, _, results_none rfl _ _ _, ⟨_, rfl⟩, .inl hJ⟩
set_option maxHeartbeats 4000000 in
theorem range_next {gop : Operand} {ps : Array Tmp} {assign body : Code} {Q : Exit → Act → World → Prop} {a : Act} {w : World} {bd bs M : Nat} {Y N D : Nat → Int} {C : Nat → Bool} (hd : Dates 12 M Y N D C) (hne : bs ≠ bd) (hM : (M : Int) ≤ 4000000)
    (hg : a.eval gop = .func (.func 84) #[] #[.pointer (some ⟨bd, 0, none⟩), .pointer (some ⟨bs, 0, none⟩)]) (hps : ps.size = 2)
    (SB : Nat → World → Prop) (SX : Code → World → Prop)
    (s1 : ∀ k W W', SB k W → Gr W W' → SB k W') (s2 : ∀ k W o v, SB k W → SB k (W.setCell ⟨bd, o, none⟩ v)) (s3 : ∀ k W l o, w.heap.size ≤ l → SB k W → SB k (W.putObj l o)) (hG : ∀ k W, SB k W → GT W)
    (x3 : ∀ c W l o, w.heap.size ≤ l → SX c W → SX c (W.putObj l o))
    (h0 : SB 0 w) (d0 : D4 w bd (Y 0) (N 0) (C 0) (D 0)) (f0 : FB w bs 12)
    (hround : ∀ k W, k ≤ M → SB k W → w.heap.size + 1 < W.heap.size → D4 W bd (Y k) (N k) (C k) (D k) → FB W bs 12 →
      assign.wpIn (Fence.wide.inRound (w.heap.size + 1)) 8 Tryd.prog (Exit.then (fun a₁ W1 => Gr W W1 ∧ ∀ o, body.wpIn (Fence.wide.inRound (w.heap.size + 1)) 8 Tryd.prog
        (RP (SB (k + 1)) SX w.heap.size (fun W3 => D4 W3 bd (Y k) (N k) (C k) (D k) ∧ FB W3 bs 12) (W1.putObj (w.heap.size + 1) o)) a₁ (W1.putObj (w.heap.size + 1) o)) (fun _ _ _ => False))
        { tmps := (ps.zip #[.int .i64 (k : Int), .agg #[.int .i64 (Y k), .int .i64 (N k), .bool (C k), .int .i64 (D k)]]).foldl (fun t (p, v) => t.setIfInBounds p v) a.tmps, defers := [] } W)
    (hdone : ∀ W, SB (M + 1) W → W.heap[w.heap.size]? = some (.deferred (some [])) → Q .normal { a with defers := { target := .collected w.heap.size, args := #[] } :: a.defers } W)
    (hstop : ∀ c W, SX c W → W.heap[w.heap.size]? = some (.deferred (some [])) → c.wpIn Fence.wide 10 Tryd.prog Q { a with defers := { target := .collected w.heap.size, args := #[] } :: a.defers } W) :
    (Code.rangeFunc gop ps assign body).wp Tryd.prog Q a w := by
  refine (wpIn_wide (n := 10)).1 (wpIn_rangeFunc ?_)
  intro fn hfn
  obtain ⟨rec, hrec⟩ : ∃ rec : LoopState → Option Code → Loop, rec = fun st pe => { state := st, pending := pe, fn, tmps := a.tmps, params := ps, assign, body, defers := w.heap.size } := ⟨_, rfl⟩
  obtain ⟨W1, hW1⟩ : ∃ W1, (w.alloc (.deferred (some []))).alloc (.loop (rec .ready none)) = W1 := ⟨_, rfl⟩
  have hL1 : W1.heap[w.heap.size + 1]? = some (.loop (rec .ready none)) := by
    rw [← hW1]; have := World.alloc_heap_new (w.alloc (.deferred (some []))) (.loop (rec .ready none)); rwa [World.size_alloc] at this
  have hK1 : W1.heap[w.heap.size]? = some (.deferred (some [])) := by
    rw [← hW1]; exact (Below.heap_alloc _ _ _ (by simp)).trans (World.alloc_heap_new w _)
  have hg1 : Gr w W1 := by rw [← hW1]; exact ((Gr.refl w).alloc _).alloc _
  have eg := enters_of Tryd.func84 (by kernel_rfl) rfl
  have ld := d0.lt
  have lf := f0.lt
  refine ⟨w.heap.size + 1, [{ target := .collected w.heap.size, args := #[] }], W1, { target := .fn (.func 84) #[.pointer (some ⟨bd, 0, none⟩), .pointer (some ⟨bs, 0, none⟩)], args := #[.func (.yield (w.heap.size + 1)) #[] #[]] }, W1, 84,
    #[.func (.yield (w.heap.size + 1)) #[] #[], .pointer (some ⟨bd, 0, none⟩), .pointer (some ⟨bs, 0, none⟩)], W1, ?_, ?_, fun _ _ => trivial, ?_, fun h => (by cases h), ?_⟩
  · rw [← hW1, hrec]; exact run_enterLoop_outer _ _ _ _ _
  · simp only [resolve, hg]
    simp [go_sem]
  · simp [invoke, go_sem, eg]
  · refine (dates_next (w.heap.size + 1) bd bs M 9 Y N D C hd hne
      (fun k W => SB k W ∧ W.heap[w.heap.size + 1]? = some (.loop (rec .ready none)) ∧ W.heap[w.heap.size]? = some (.deferred (some [])))
      (fun W => ∃ c, SX c W ∧ W.heap[w.heap.size + 1]? = some (.loop (rec .done (some c))) ∧ W.heap[w.heap.size]? = some (.deferred (some [])))
      (fun k W W' ⟨x, y, z⟩ g => ⟨s1 k W W' x g, (g.heap (Array.getElem?_eq_some_iff.1 y).1).trans y, (g.heap (Array.getElem?_eq_some_iff.1 z).1).trans z⟩)
      (fun k W o v ⟨x, y, z⟩ => ⟨s2 k W o v x, (Below.heap_setCell W _ v _ (by show w.heap.size + 1 ≠ bd; omega)).trans y, (Below.heap_setCell W _ v _ (by show w.heap.size ≠ bd; omega)).trans z⟩)
      (fun k W h => hG k W h.1) ?_ hM W1 ⟨s1 _ _ _ h0 hg1, hL1, hK1⟩ (d0.gr hg1) (f0.gr hg1)).mono ?_
    · rintro k W hk ⟨hs, hl, hkd⟩ B F
      have hlt := (Array.getElem?_eq_some_iff.1 hl).1
      have hy := run_yield (P := Tryd.prog) (args := #[.int .i64 (k : Int), .agg #[.int .i64 (Y k), .int .i64 (N k), .bool (C k), .int .i64 (D k)]]) hl (by rw [hrec]; exact hps.symm)
      rw [hrec] at hy
      refine ⟨fn, _, assign, body, hy, roundIn_of_wpIn trivial (wpIn_mono (hround k W hk hs hlt B F) ?_)⟩
      rintro e a1 Wn hp
      cases e with
      | normal =>
        obtain ⟨hgr, hb⟩ := hp
        have hl1 : Wn.heap[w.heap.size + 1]? = some (.loop (rec .ready none)) := (hgr.heap hlt).trans hl
        have hkd1 : Wn.heap[w.heap.size]? = some (.deferred (some [])) := (hgr.heap (by omega)).trans hkd
        have hlt1 := (Array.getElem?_eq_some_iff.1 hl1).1
        refine ⟨_, run_beginRound hl1 (by rw [hrec]), wpIn_mono (hb _) ?_⟩
        have hl2 : (Wn.putObj (w.heap.size + 1) (.loop { rec .ready none with state := .busy })).heap[w.heap.size + 1]? = some (.loop { rec .ready none with state := .busy }) := World.putObj_heap_same hlt1
        have hk2 : (Wn.putObj (w.heap.size + 1) (.loop { rec .ready none with state := .busy })).heap[w.heap.size]? = some (.deferred (some [])) := (World.putObj_heap_other (by omega)).trans hkd1
        have fin : ∀ (jump : Option Code) (W3 : World), W3.heap[w.heap.size + 1]? = some (.loop { rec .ready none with state := .busy }) → W3.heap[w.heap.size]? = some (.deferred (some [])) →
            (Instr.endRound (w.heap.size + 1) jump).run Tryd.prog W3 = .ok (.bool jump.isNone) (W3.putObj (w.heap.size + 1) (.loop (rec (if jump.isNone then .ready else .done) jump))) ∧
            (W3.putObj (w.heap.size + 1) (.loop (rec (if jump.isNone then .ready else .done) jump))).heap[w.heap.size + 1]? = some (.loop (rec (if jump.isNone then .ready else .done) jump)) ∧
            (W3.putObj (w.heap.size + 1) (.loop (rec (if jump.isNone then .ready else .done) jump))).heap[w.heap.size]? = some (.deferred (some [])) := fun jump W3 hl3 hk3 => by
          have := run_endRound (P := Tryd.prog) jump hl3
          rw [hrec] at this ⊢
          exact ⟨this, World.putObj_heap_same (Array.getElem?_eq_some_iff.1 hl3).1, (World.putObj_heap_other (by omega)).trans hk3⟩
        rintro e a3 W3 hp
        cases e with
        | normal =>
          obtain ⟨⟨q1, q2⟩, hs3, hB3, hF3⟩ := hp
          obtain ⟨hr, hl4, hk4⟩ := fin none W3 (q1.trans hl2) (q2.trans hk2)
          exact ⟨_, _, hr, .inl ⟨rfl, ⟨s3 _ _ _ _ (by omega) hs3, hl4, hk4⟩, hB3.putObj _ (by omega), hF3.putObj _ (by omega)⟩⟩
        | ret =>
          obtain ⟨⟨q1, q2⟩, hx⟩ := hp
          obtain ⟨hr, hl4, hk4⟩ := fin (some .ret) W3 (q1.trans hl2) (q2.trans hk2)
          exact ⟨_, _, hr, .inr ⟨rfl, .ret, x3 _ _ _ _ (by omega) hx, hl4, hk4⟩⟩
        | exit id =>
          obtain ⟨⟨q1, q2⟩, hx⟩ := hp
          obtain ⟨hr, hl4, hk4⟩ := fin (some (.exit id)) W3 (q1.trans hl2) (q2.trans hk2)
          exact ⟨_, _, hr, .inr ⟨rfl, .exit id, x3 _ _ _ _ (by omega) hx, hl4, hk4⟩⟩
        | goto t =>
          obtain ⟨⟨q1, q2⟩, hx⟩ := hp
          obtain ⟨hr, hl4, hk4⟩ := fin (some (.goto t)) W3 (q1.trans hl2) (q2.trans hk2)
          exact ⟨_, _, hr, .inr ⟨rfl, .goto t, x3 _ _ _ _ (by omega) hx, hl4, hk4⟩⟩
        | panic ch => exact hp.elim
        | outgrown => exact hp.elim
      | exit id => exact hp.elim
      | goto t => exact hp.elim
      | ret => exact hp.elim
      | panic ch => exact hp.elim
      | outgrown => exact hp.elim
    · rintro e W2 ⟨⟨v, rfl⟩, (⟨hs, hl, hkd⟩ | ⟨c, hs, hl, hkd⟩)⟩
      · exact ⟨none, _, by have := run_endLoop (P := Tryd.prog) hl (by rw [hrec]; simp); rw [hrec] at this; exact this, hdone _ (s3 _ _ _ _ (by omega) hs) ((World.putObj_heap_other (by omega)).trans hkd)⟩
      · exact ⟨some c, _, by have := run_endLoop (P := Tryd.prog) hl (by rw [hrec]; simp); rw [hrec] at this; exact this, hstop c _ (x3 _ _ _ _ (by omega) hs) ((World.putObj_heap_other (by omega)).trans hkd)⟩

set_option maxRecDepth 20000 in
set_option maxHeartbeats 4000000 in
theorem dates_ahead (l bd bs M m : Nat) (Y N D : Nat → Int) (C : Nat → Bool) (hd : Dates 13 M Y N D C) (hne : bs ≠ bd) (J : Nat → World → Prop) (Jx : World → Prop)
    (hJg : ∀ k W W', J k W → Gr W W' → J k W') (hJs : ∀ k W o v, J k W → J k (W.setCell ⟨bd, o, none⟩ v)) (hG : ∀ k W, J k W → GT W)
    (hY : ∀ k W, k ≤ M → J k W → D4 W bd (Y k) (N k) (C k) (D k) → FB W bs 13 → YieldAt Fence.wide (m - 1) Tryd.prog l #[.int .i64 (k : Int), .agg #[.int .i64 (Y k), .int .i64 (N k), .bool (C k), .int .i64 (D k)]] W fun e W' =>
      (e = .returned (.bool true) ∧ J (k + 1) W' ∧ D4 W' bd (Y k) (N k) (C k) (D k) ∧ FB W' bs 13) ∨ (e = .returned (.bool false) ∧ Jx W'))
    (hM : (M : Int) ≤ 4000000)
    (W : World) (h0 : J 0 W) (d0 : D4 W bd (Y 0) (N 0) (C 0) (D 0)) (f0 : FB W bs 13) :
    CallsIn Fence.wide m Tryd.prog 84 #[.func (.yield l) #[] #[], .pointer (some ⟨bd, 0, none⟩), .pointer (some ⟨bs, 0, none⟩)] W fun e W' => (∃ v, e = .returned v) ∧ (J (M + 1) W' ∨ Jx W') := by
  refine callsIn_of_wp Tryd.func84 rfl trivial ?_ rfl
  simp only [Tryd.ntmps84, List.size_toArray, List.length_cons, List.length_nil, Nat.reduceAdd, Nat.reduceSub, Array.replicate_succ, Array.replicate_zero, List.push_toArray, List.append_toArray, List.nil_append, List.cons_append]
  gi_wp2
  gi_loopw [4, 5] (fun s4 s5 wr => ∃ k : Nat, k ≤ M + 1 ∧ s5 = .int .i64 (k : Int) ∧ FB wr bs 13 ∧ J k wr ∧ ((k ≤ M ∧ s4 = .int .i64 0 ∧ D4 wr bd (Y k) (N k) (C k) (D k)) ∨ (k = M + 1 ∧ s4 = .int .i64 2)))
    (fun s4 s5 wr => match s5 with | .int _ i => M + 1 - i.toNat | _ => 0)
  case atStart => exact ⟨0, by omega, rfl, f0, h0, .inl ⟨by omega, rfl, d0⟩⟩
  case round =>
    obtain ⟨k, hk, rfl, F, hJ, (⟨hk, rfl, B⟩ | ⟨rfl, rfl⟩)⟩ := hrel
    · obtain ⟨fn, tmps, assign, body, hy, hR⟩ := hY k wr hk hJ B F
      obtain ⟨lt, c0, c1, c2, c3, z0, z1, z2, z3⟩ := B
      obtain ⟨ltf, q0⟩ := F
      gi_wp2
      refine ⟨fun h => (by cases h), hR.mono ?_⟩
      rintro e W' (⟨rfl, hJ', B', F'⟩ | ⟨rfl, hx⟩)
      · have G' := hG _ _ hJ'
        have F2 := F'
        have B2 := B'
        obtain ⟨lt', c0', c1', c2', c3', z0', z1', z2', z3'⟩ := B'
        obtain ⟨ltf', q0'⟩ := F'
        clear lt c0 c1 c2 c3 z0 z1 z2 z3 ltf q0
        by_cases e : k < M
        · have S := hd.step k e
          gi_wp2
          refine ⟨trivial, fun h => (by cases h), (callsIn_wide.2 (S _ G')).mono ?_⟩
          rintro e WS ⟨rfl, hgS⟩
          have B3 := B2.gr hgS
          have F3 := F2.gr hgS
          have J3 := hJg _ _ _ hJ' hgS
          have B4 := B3.put (Y (k + 1)) (N (k + 1)) (D (k + 1)) (C (k + 1))
          have F4 := (((F3.set (o := 0) (v := .int .i64 (Y (k + 1))) hne).set (o := 1) (v := .int .i64 (N (k + 1))) hne).set (o := 2) (v := .bool (C (k + 1))) hne).set (o := 3) (v := .int .i64 (D (k + 1))) hne
          have J4 := hJs _ _ 3 (.int .i64 (D (k + 1))) (hJs _ _ 2 (.bool (C (k + 1))) (hJs _ _ 1 (.int .i64 (N (k + 1))) (hJs _ _ 0 (.int .i64 (Y (k + 1))) J3)))
          obtain ⟨lt, c0, c1, c2, c3, z0, z1, z2, z3⟩ := B3
          clear B2 F2 F3 J3 hgS lt' c0' c1' c2' c3' z0' z1' z2' z3' ltf' q0'
          gi_wp2
          go_roundw
          case measure => first | omega | (simp; done) | (simp; omega)
          case rel => exact ⟨k + 1, by omega, by go_num, F4, J4, .inl ⟨by omega, rfl, B4⟩⟩
        · obtain rfl : k = M := by omega
          have S := hd.last
          gi_wp2
          refine ⟨trivial, fun h => (by cases h), (callsIn_wide.2 (S _ G')).mono ?_⟩
          rintro e WS ⟨rfl, hgS⟩
          have B3 := B2.gr hgS
          have F3 := F2.gr hgS
          have J3 := hJg _ _ _ hJ' hgS
          have F4 := (((F3.set (o := 0) (v := .int .i64 0) hne).set (o := 1) (v := .int .i64 0) hne).set (o := 2) (v := .bool false) hne).set (o := 3) (v := .int .i64 0) hne
          have J4 := hJs _ _ 3 (.int .i64 0) (hJs _ _ 2 (.bool false) (hJs _ _ 1 (.int .i64 0) (hJs _ _ 0 (.int .i64 0) J3)))
          obtain ⟨lt, c0, c1, c2, c3, z0, z1, z2, z3⟩ := B3
          clear B2 F2 F3 J3 hgS lt' c0' c1' c2' c3' z0' z1' z2' z3' ltf' q0'
          gi_wp2
          go_roundw
          case measure => first | omega | (simp; done) | (simp; omega)
          case rel => exact ⟨k + 1, by omega, by go_num, F4, J4, .inr ⟨rfl, rfl⟩⟩
      · gi_wp2
        exact ⟨rfl, _, results_none rfl _ _ _, ⟨_, rfl⟩, .inr hx⟩
    · gi_wp2
      refine ⟨fun _ h => (by cases h), ?_⟩
      gi_wp2
      exact ⟨rfl, _, results_none rfl _ _ _, ⟨_, rfl⟩, .inl hJ⟩
set_option maxHeartbeats 4000000 in
theorem range_ahead {gop : Operand} {ps : Array Tmp} {assign body : Code} {Q : Exit → Act → World → Prop} {a : Act} {w : World} {bd bs M : Nat} {Y N D : Nat → Int} {C : Nat → Bool} (hd : Dates 13 M Y N D C) (hne : bs ≠ bd) (hM : (M : Int) ≤ 4000000)
    (hg : a.eval gop = .func (.func 84) #[] #[.pointer (some ⟨bd, 0, none⟩), .pointer (some ⟨bs, 0, none⟩)]) (hps : ps.size = 2)
    (SB : Nat → World → Prop) (SX : Code → World → Prop)
    (s1 : ∀ k W W', SB k W → Gr W W' → SB k W') (s2 : ∀ k W o v, SB k W → SB k (W.setCell ⟨bd, o, none⟩ v)) (s3 : ∀ k W l o, w.heap.size ≤ l → SB k W → SB k (W.putObj l o)) (hG : ∀ k W, SB k W → GT W)
    (x3 : ∀ c W l o, w.heap.size ≤ l → SX c W → SX c (W.putObj l o))
    (h0 : SB 0 w) (d0 : D4 w bd (Y 0) (N 0) (C 0) (D 0)) (f0 : FB w bs 13)
    (hround : ∀ k W, k ≤ M → SB k W → w.heap.size + 1 < W.heap.size → D4 W bd (Y k) (N k) (C k) (D k) → FB W bs 13 →
      assign.wpIn (Fence.wide.inRound (w.heap.size + 1)) 8 Tryd.prog (Exit.then (fun a₁ W1 => Gr W W1 ∧ ∀ o, body.wpIn (Fence.wide.inRound (w.heap.size + 1)) 8 Tryd.prog
        (RP (SB (k + 1)) SX w.heap.size (fun W3 => D4 W3 bd (Y k) (N k) (C k) (D k) ∧ FB W3 bs 13) (W1.putObj (w.heap.size + 1) o)) a₁ (W1.putObj (w.heap.size + 1) o)) (fun _ _ _ => False))
        { tmps := (ps.zip #[.int .i64 (k : Int), .agg #[.int .i64 (Y k), .int .i64 (N k), .bool (C k), .int .i64 (D k)]]).foldl (fun t (p, v) => t.setIfInBounds p v) a.tmps, defers := [] } W)
    (hdone : ∀ W, SB (M + 1) W → W.heap[w.heap.size]? = some (.deferred (some [])) → Q .normal { a with defers := { target := .collected w.heap.size, args := #[] } :: a.defers } W)
    (hstop : ∀ c W, SX c W → W.heap[w.heap.size]? = some (.deferred (some [])) → c.wpIn Fence.wide 10 Tryd.prog Q { a with defers := { target := .collected w.heap.size, args := #[] } :: a.defers } W) :
    (Code.rangeFunc gop ps assign body).wp Tryd.prog Q a w := by
  refine (wpIn_wide (n := 10)).1 (wpIn_rangeFunc ?_)
  intro fn hfn
  obtain ⟨rec, hrec⟩ : ∃ rec : LoopState → Option Code → Loop, rec = fun st pe => { state := st, pending := pe, fn, tmps := a.tmps, params := ps, assign, body, defers := w.heap.size } := ⟨_, rfl⟩
  obtain ⟨W1, hW1⟩ : ∃ W1, (w.alloc (.deferred (some []))).alloc (.loop (rec .ready none)) = W1 := ⟨_, rfl⟩
  have hL1 : W1.heap[w.heap.size + 1]? = some (.loop (rec .ready none)) := by
    rw [← hW1]; have := World.alloc_heap_new (w.alloc (.deferred (some []))) (.loop (rec .ready none)); rwa [World.size_alloc] at this
  have hK1 : W1.heap[w.heap.size]? = some (.deferred (some [])) := by
    rw [← hW1]; exact (Below.heap_alloc _ _ _ (by simp)).trans (World.alloc_heap_new w _)
  have hg1 : Gr w W1 := by rw [← hW1]; exact ((Gr.refl w).alloc _).alloc _
  have eg := enters_of Tryd.func84 (by kernel_rfl) rfl
  have ld := d0.lt
  have lf := f0.lt
  refine ⟨w.heap.size + 1, [{ target := .collected w.heap.size, args := #[] }], W1, { target := .fn (.func 84) #[.pointer (some ⟨bd, 0, none⟩), .pointer (some ⟨bs, 0, none⟩)], args := #[.func (.yield (w.heap.size + 1)) #[] #[]] }, W1, 84,
    #[.func (.yield (w.heap.size + 1)) #[] #[], .pointer (some ⟨bd, 0, none⟩), .pointer (some ⟨bs, 0, none⟩)], W1, ?_, ?_, fun _ _ => trivial, ?_, fun h => (by cases h), ?_⟩
  · rw [← hW1, hrec]; exact run_enterLoop_outer _ _ _ _ _
  · simp only [resolve, hg]
    simp [go_sem]
  · simp [invoke, go_sem, eg]
  · refine (dates_ahead (w.heap.size + 1) bd bs M 9 Y N D C hd hne
      (fun k W => SB k W ∧ W.heap[w.heap.size + 1]? = some (.loop (rec .ready none)) ∧ W.heap[w.heap.size]? = some (.deferred (some [])))
      (fun W => ∃ c, SX c W ∧ W.heap[w.heap.size + 1]? = some (.loop (rec .done (some c))) ∧ W.heap[w.heap.size]? = some (.deferred (some [])))
      (fun k W W' ⟨x, y, z⟩ g => ⟨s1 k W W' x g, (g.heap (Array.getElem?_eq_some_iff.1 y).1).trans y, (g.heap (Array.getElem?_eq_some_iff.1 z).1).trans z⟩)
      (fun k W o v ⟨x, y, z⟩ => ⟨s2 k W o v x, (Below.heap_setCell W _ v _ (by show w.heap.size + 1 ≠ bd; omega)).trans y, (Below.heap_setCell W _ v _ (by show w.heap.size ≠ bd; omega)).trans z⟩)
      (fun k W h => hG k W h.1) ?_ hM W1 ⟨s1 _ _ _ h0 hg1, hL1, hK1⟩ (d0.gr hg1) (f0.gr hg1)).mono ?_
    · rintro k W hk ⟨hs, hl, hkd⟩ B F
      have hlt := (Array.getElem?_eq_some_iff.1 hl).1
      have hy := run_yield (P := Tryd.prog) (args := #[.int .i64 (k : Int), .agg #[.int .i64 (Y k), .int .i64 (N k), .bool (C k), .int .i64 (D k)]]) hl (by rw [hrec]; exact hps.symm)
      rw [hrec] at hy
      refine ⟨fn, _, assign, body, hy, roundIn_of_wpIn trivial (wpIn_mono (hround k W hk hs hlt B F) ?_)⟩
      rintro e a1 Wn hp
      cases e with
      | normal =>
        obtain ⟨hgr, hb⟩ := hp
        have hl1 : Wn.heap[w.heap.size + 1]? = some (.loop (rec .ready none)) := (hgr.heap hlt).trans hl
        have hkd1 : Wn.heap[w.heap.size]? = some (.deferred (some [])) := (hgr.heap (by omega)).trans hkd
        have hlt1 := (Array.getElem?_eq_some_iff.1 hl1).1
        refine ⟨_, run_beginRound hl1 (by rw [hrec]), wpIn_mono (hb _) ?_⟩
        have hl2 : (Wn.putObj (w.heap.size + 1) (.loop { rec .ready none with state := .busy })).heap[w.heap.size + 1]? = some (.loop { rec .ready none with state := .busy }) := World.putObj_heap_same hlt1
        have hk2 : (Wn.putObj (w.heap.size + 1) (.loop { rec .ready none with state := .busy })).heap[w.heap.size]? = some (.deferred (some [])) := (World.putObj_heap_other (by omega)).trans hkd1
        have fin : ∀ (jump : Option Code) (W3 : World), W3.heap[w.heap.size + 1]? = some (.loop { rec .ready none with state := .busy }) → W3.heap[w.heap.size]? = some (.deferred (some [])) →
            (Instr.endRound (w.heap.size + 1) jump).run Tryd.prog W3 = .ok (.bool jump.isNone) (W3.putObj (w.heap.size + 1) (.loop (rec (if jump.isNone then .ready else .done) jump))) ∧
            (W3.putObj (w.heap.size + 1) (.loop (rec (if jump.isNone then .ready else .done) jump))).heap[w.heap.size + 1]? = some (.loop (rec (if jump.isNone then .ready else .done) jump)) ∧
            (W3.putObj (w.heap.size + 1) (.loop (rec (if jump.isNone then .ready else .done) jump))).heap[w.heap.size]? = some (.deferred (some [])) := fun jump W3 hl3 hk3 => by
          have := run_endRound (P := Tryd.prog) jump hl3
          rw [hrec] at this ⊢
          exact ⟨this, World.putObj_heap_same (Array.getElem?_eq_some_iff.1 hl3).1, (World.putObj_heap_other (by omega)).trans hk3⟩
        rintro e a3 W3 hp
        cases e with
        | normal =>
          obtain ⟨⟨q1, q2⟩, hs3, hB3, hF3⟩ := hp
          obtain ⟨hr, hl4, hk4⟩ := fin none W3 (q1.trans hl2) (q2.trans hk2)
          exact ⟨_, _, hr, .inl ⟨rfl, ⟨s3 _ _ _ _ (by omega) hs3, hl4, hk4⟩, hB3.putObj _ (by omega), hF3.putObj _ (by omega)⟩⟩
        | ret =>
          obtain ⟨⟨q1, q2⟩, hx⟩ := hp
          obtain ⟨hr, hl4, hk4⟩ := fin (some .ret) W3 (q1.trans hl2) (q2.trans hk2)
          exact ⟨_, _, hr, .inr ⟨rfl, .ret, x3 _ _ _ _ (by omega) hx, hl4, hk4⟩⟩
        | exit id =>
          obtain ⟨⟨q1, q2⟩, hx⟩ := hp
          obtain ⟨hr, hl4, hk4⟩ := fin (some (.exit id)) W3 (q1.trans hl2) (q2.trans hk2)
          exact ⟨_, _, hr, .inr ⟨rfl, .exit id, x3 _ _ _ _ (by omega) hx, hl4, hk4⟩⟩
        | goto t =>
          obtain ⟨⟨q1, q2⟩, hx⟩ := hp
          obtain ⟨hr, hl4, hk4⟩ := fin (some (.goto t)) W3 (q1.trans hl2) (q2.trans hk2)
          exact ⟨_, _, hr, .inr ⟨rfl, .goto t, x3 _ _ _ _ (by omega) hx, hl4, hk4⟩⟩
        | panic ch => exact hp.elim
        | outgrown => exact hp.elim
      | exit id => exact hp.elim
      | goto t => exact hp.elim
      | ret => exact hp.elim
      | panic ch => exact hp.elim
      | outgrown => exact hp.elim
    · rintro e W2 ⟨⟨v, rfl⟩, (⟨hs, hl, hkd⟩ | ⟨c, hs, hl, hkd⟩)⟩
      · exact ⟨none, _, by have := run_endLoop (P := Tryd.prog) hl (by rw [hrec]; simp); rw [hrec] at this; exact this, hdone _ (s3 _ _ _ _ (by omega) hs) ((World.putObj_heap_other (by omega)).trans hkd)⟩
      · exact ⟨some c, _, by have := run_endLoop (P := Tryd.prog) hl (by rw [hrec]; simp); rw [hrec] at this; exact this, hstop c _ (x3 _ _ _ _ (by omega) hs) ((World.putObj_heap_other (by omega)).trans hkd)⟩

end Go.Proofs.YtbalbkkimlbecaaDoor.Walks
