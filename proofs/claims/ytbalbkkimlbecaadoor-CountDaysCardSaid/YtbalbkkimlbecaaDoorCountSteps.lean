/- Rows of dates; the walk of count.Steps. -/
import Derived.Test.YtbalbkkimlbecaaDoorCountIt
set_option linter.unusedVariables false
set_option linter.unusedSimpArgs false
namespace Go.Proofs.YtbalbkkimlbecaaDoor.Walks
open Go Go.RowKit Go.Sort Go.Proofs.YtbalbkkimlbecaaDoor.Base Go.Proofs.YtbalbkkimlbecaaDoor.Plain Go.Proofs.YtbalbkkimlbecaaDoor.Math
attribute [local go_sem] Oper.semAt_some

/-- A row of dates, in plain numbers: the k-th is f k days behind 0. -/
structure Days (M : Nat) (f : Nat → Int) (Y N D : Nat → Int) (C : Nat → Bool) : Prop where
  at' : ∀ k, k ≤ M → ∃ J, HV (Y k) J (D k) ∧ hd (Y k) J (D k) = f k ∧ N k = cN (lp (Y k)) J ∧ C k = cL (lp (Y k)) J
theorem days_of (M : Nat) (f : Nat → Int) (h : ∀ k, k ≤ M → -1373427 ≤ f k ∧ f k ≤ 2278650) : ∃ (Y N D : Nat → Int) (C : Nat → Bool), Days M f Y N D C := by
  have k : ∀ k : Nat, ∃ p : Int × Nat × Int, k ≤ M → HV p.1 p.2.1 p.2.2 ∧ hd p.1 p.2.1 p.2.2 = f k := fun k => by
    by_cases e : k ≤ M
    · obtain ⟨y, j, d, hv, g⟩ := hd_of (h k e).1 (h k e).2
      exact ⟨(y, j, d), fun _ => ⟨hv, g⟩⟩
    · exact ⟨(0, 0, 0), fun z => absurd z e⟩
  obtain ⟨g, hg⟩ := Classical.axiomOfChoice k
  exact ⟨fun k => (g k).1, fun k => cN (lp (g k).1) (g k).2.1, fun k => (g k).2.2, fun k => cL (lp (g k).1) (g k).2.1, ⟨fun k e => ⟨(g k).2.1, (hg k e).1, (hg k e).2, rfl, rfl⟩⟩⟩
theorem dates_up {a : Int} {M : Nat} (hM : a + M = 2278650) {Y N D : Nat → Int} {C : Nat → Bool} (h : Days M (fun k => a + (k : Int)) Y N D C) : Dates 12 M Y N D C where
  step := fun k e w G => by
    obtain ⟨J, hv, e1, e2, e3⟩ := h.at' k (by omega)
    obtain ⟨J', hv', f1, f2, f3⟩ := h.at' (k + 1) (by omega)
    rw [e2, e3, f2, f3]
    rcases cnext_c _ J _ hv with ⟨y', j', d', x1, x2, x3⟩ | ⟨x1, -⟩
    · obtain ⟨rfl, rfl, rfl⟩ := hd_inj x1 hv' (by rw [x2, e1, f1]; push_cast; omega)
      exact x3 w G
    · exact absurd (by rw [f1, e1]; push_cast; omega) (x1 _ _ _ hv')
  last := fun w G => by
    obtain ⟨J, hv, e1, e2, e3⟩ := h.at' M (Nat.le_refl _)
    rw [e2, e3]
    rcases cnext_c _ J _ hv with ⟨y', j', d', x1, x2, x3⟩ | ⟨-, x2⟩
    · have := hd_range x1
      omega
    · exact x2 w G
theorem dates_down {a : Int} {M : Nat} (hM : a - M = -1373427) {Y N D : Nat → Int} {C : Nat → Bool} (h : Days M (fun k => a - (k : Int)) Y N D C) : Dates 13 M Y N D C where
  step := fun k e w G => by
    obtain ⟨J, hv, e1, e2, e3⟩ := h.at' k (by omega)
    obtain ⟨J', hv', f1, f2, f3⟩ := h.at' (k + 1) (by omega)
    rw [e2, e3, f2, f3]
    rcases cahead_c _ J _ hv with ⟨y', j', d', x1, x2, x3⟩ | ⟨x1, -⟩
    · obtain ⟨rfl, rfl, rfl⟩ := hd_inj x1 hv' (by omega)
      exact x3 w G
    · exact absurd (by omega) (x1 _ _ _ hv')
  last := fun w G => by
    obtain ⟨J, hv, e1, e2, e3⟩ := h.at' M (Nat.le_refl _)
    rw [e2, e3]
    rcases cahead_c _ J _ hv with ⟨y', j', d', x1, x2, x3⟩ | ⟨-, x2⟩
    · have := hd_range x1
      omega
    · exact x2 w G

theorem leave0 {n : Nat} {P : Program} {fn : Func} {tmps : Array Value} {R : Ending → World → Prop} {w : World} {v : Value} (hr : (results fn tmps).run P w = .ok v w) (hR : R (.returned v) w) : bodyPostM Fence.wide n P fn R .ret { tmps := tmps, defers := [] } w := ⟨_, hr, hR⟩
theorem leave1 {n : Nat} {P : Program} {fn : Func} {tmps : Array Value} {R : Ending → World → Prop} {w : World} {v : Value} {D : Nat} (hK : w.heap[D]? = some (.deferred (some []))) (hr : (results fn tmps).run P (w.putObj D (.deferred none)) = .ok v (w.putObj D (.deferred none))) (hR : R (.returned v) (w.putObj D (.deferred none))) :
    bodyPostM Fence.wide n P fn R .ret { tmps := tmps, defers := [{ target := .collected D, args := #[] }] } w := ⟨by simp, .inl ⟨_, _, rfl, run_takeDeferred hK, _, hr, hR⟩⟩

theorem cdates_c (y n d : Int) (c : Bool) (g : Nat) (w : World) : Calls Tryd.prog 49 #[.agg #[.int .i64 y, .int .i64 n, .bool c, .int .i64 d], .func (.func g) #[] #[]] w fun e w' =>
    e = .returned (.func (.func 84) #[] #[.pointer (some ⟨w.heap.size, 0, none⟩), .pointer (some ⟨w.heap.size + 1, 0, none⟩)]) ∧ Gr w w' ∧ D4 w' w.heap.size y n c d ∧ FB w' (w.heap.size + 1) g := by
  go_enter Tryd.func49, Tryd.ntmps49
  go_wp2
  go_ret
  refine ⟨rfl, (by repeat (first | exact Gr.refl _ | refine Gr.setCell ?_ _ _ (by first | exact Nat.le_refl _ | (simp; omega) | (simp; done)) | refine Gr.grown ?_ _ _ | refine Gr.drewN ?_ _ | refine Gr.drew ?_ | refine Gr.alloc ?_ _ | refine Gr.grow ?_ _ | (refine Gr.trans ?_ (by assumption)))), (D4.at rfl y n d c).gr ((Gr.refl _).alloc _), ⟨by simp, by simp [go_sem]⟩⟩

/-- The boxes of Steps: how many steps, the result, the error. -/
structure SBx (w W : World) (s : Nat) (m y n d : Int) (c : Bool) (e : Int) : Prop where
  g : Gr w W
  n0 : W.cell? ⟨s + 1, 0, none⟩ = some (.int .i64 m)
  nf : W.frozen? ⟨s + 1, 0, none⟩ = false
  r : D4 W (s + 1 + 1) y n c d
  e0 : W.cell? ⟨s + 1 + 1 + 1, 0, none⟩ = some (.int .i64 e)
  ef : W.frozen? ⟨s + 1 + 1 + 1, 0, none⟩ = false
  lt : s + 1 + 1 + 1 < W.heap.size
theorem SBx.gr {w W W' : World} {s : Nat} {m y n d e : Int} {c : Bool} (h : SBx w W s m y n d c e) (g : Gr W W') : SBx w W' s m y n d c e :=
  ⟨h.g.trans g, g.keep (by have := h.lt; omega) h.n0, g.thaw (by have := h.lt; omega) h.nf, h.r.gr g, g.keep h.lt h.e0, g.thaw h.lt h.ef, g.lt h.lt⟩
theorem SBx.set {w W : World} {s b : Nat} {m y n d e : Int} {c : Bool} (h : SBx w W s m y n d c e) (hs : w.heap.size = s) (o : Nat) (v : Value) (hb : s + 1 + 1 + 1 < b) : SBx w (W.setCell ⟨b, o, none⟩ v) s m y n d c e :=
  ⟨h.g.setCell _ _ (by show w.heap.size ≤ b; omega), (set_other _ _ _ _ _ _ (by omega)).trans h.n0, set_frozen h.nf, h.r.set (by omega), (set_other _ _ _ _ _ _ (by omega)).trans h.e0, set_frozen h.ef, by rw [set_size]; exact h.lt⟩
theorem SBx.putObj {w W : World} {s l : Nat} {m y n d e : Int} {c : Bool} (h : SBx w W s m y n d c e) (hs : w.heap.size = s) (o : Obj) (hl : s + 1 + 1 + 1 < l) : SBx w (W.putObj l o) s m y n d c e :=
  ⟨Gr.putObj h.g _ _ (by omega), (put_cell _ _ _ (by omega)).trans h.n0, (put_froz _ _ _ (by omega)).trans h.nf, h.r.putObj _ (by omega), (put_cell _ _ _ (by omega)).trans h.e0, (put_froz _ _ _ (by omega)).trans h.ef, by rw [put_size]; exact h.lt⟩

theorem set_heap (W : World) (b o : Nat) (v : Value) {k : Nat} (h : k ≠ b) : (W.setCell ⟨b, o, none⟩ v).heap[k]? = W.heap[k]? := Below.heap_setCell W _ v k h
/-- The result and the error, stored. -/
theorem SBx.put {w W : World} {s : Nat} {m y n d e : Int} {c : Bool} (h : SBx w W s m y n d c e) (hs : w.heap.size = s) (y' n' d' e' : Int) (c' : Bool) :
    SBx w (((((W.setCell ⟨s + 1 + 1, 0, none⟩ (.int .i64 y')).setCell ⟨s + 1 + 1, 1, none⟩ (.int .i64 n')).setCell ⟨s + 1 + 1, 2, none⟩ (.bool c')).setCell ⟨s + 1 + 1, 3, none⟩ (.int .i64 d')).setCell ⟨s + 1 + 1 + 1, 0, none⟩ (.int .i64 e')) s m y' n' d' c' e' where
  g := ((((h.g.setCell _ _ (by show w.heap.size ≤ s + 1 + 1; omega)).setCell _ _ (by show w.heap.size ≤ s + 1 + 1; omega)).setCell _ _ (by show w.heap.size ≤ s + 1 + 1; omega)).setCell _ _ (by show w.heap.size ≤ s + 1 + 1; omega)).setCell _ _ (by show w.heap.size ≤ s + 1 + 1 + 1; omega)
  n0 := by rw [set_other _ _ _ _ _ _ (by omega), set_other _ _ _ _ _ _ (by omega), set_other _ _ _ _ _ _ (by omega), set_other _ _ _ _ _ _ (by omega), set_other _ _ _ _ _ _ (by omega)]; exact h.n0
  nf := set_frozen (set_frozen (set_frozen (set_frozen (set_frozen h.nf))))
  r := (h.r.put y' n' d' c').set (by omega)
  e0 := by
    have : ((((W.setCell ⟨s + 1 + 1, 0, none⟩ (.int .i64 y')).setCell ⟨s + 1 + 1, 1, none⟩ (.int .i64 n')).setCell ⟨s + 1 + 1, 2, none⟩ (.bool c')).setCell ⟨s + 1 + 1, 3, none⟩ (.int .i64 d')).cell? ⟨s + 1 + 1 + 1, 0, none⟩ = some (.int .i64 e) := by
      rw [set_other _ _ _ _ _ _ (by omega), set_other _ _ _ _ _ _ (by omega), set_other _ _ _ _ _ _ (by omega), set_other _ _ _ _ _ _ (by omega)]; exact h.e0
    rw [set_cell this]; simp
  ef := set_frozen (set_frozen (set_frozen (set_frozen (set_frozen h.ef))))
  lt := by rw [set_size, set_size, set_size, set_size, set_size]; exact h.lt
theorem SBx.new (w : World) (y n d m : Int) (c : Bool) : SBx w ((((w.alloc (.cells #[.int .i64 y, .int .i64 n, .bool c, .int .i64 d] 25)).alloc (.cells #[.int .i64 m] 3)).alloc (.cells #[.int .i64 0, .int .i64 0, .bool false, .int .i64 0] 25)).alloc (.cells #[.int .i64 0] 26)) w.heap.size m 0 0 0 false 0 ∧
    D4 ((((w.alloc (.cells #[.int .i64 y, .int .i64 n, .bool c, .int .i64 d] 25)).alloc (.cells #[.int .i64 m] 3)).alloc (.cells #[.int .i64 0, .int .i64 0, .bool false, .int .i64 0] 25)).alloc (.cells #[.int .i64 0] 26)) w.heap.size y n c d :=
  ⟨⟨(by repeat (first | exact Gr.refl _ | refine Gr.setCell ?_ _ _ (by first | exact Nat.le_refl _ | (simp; omega) | (simp; done)) | refine Gr.grown ?_ _ _ | refine Gr.drewN ?_ _ | refine Gr.drew ?_ | refine Gr.alloc ?_ _ | refine Gr.grow ?_ _ | (refine Gr.trans ?_ (by assumption)))), by simp [go_sem], by simp [go_sem], (D4.at (by simp) 0 0 0 false).gr ((Gr.refl _).alloc _), by simp [go_sem], by simp [go_sem], by simp⟩, (D4.at rfl y n d c).gr ((by repeat (first | exact Gr.refl _ | refine Gr.setCell ?_ _ _ (by first | exact Nat.le_refl _ | (simp; omega) | (simp; done)) | refine Gr.grown ?_ _ _ | refine Gr.drewN ?_ _ | refine Gr.drew ?_ | refine Gr.alloc ?_ _ | refine Gr.grow ?_ _ | (refine Gr.trans ?_ (by assumption)))))⟩

theorem SBx.num {w W : World} {s : Nat} {m y n d e : Int} {c : Bool} (h : SBx w W s m y n d c e) (hs : w.heap.size = s) (m' : Int) : SBx w (W.setCell ⟨s + 1, 0, none⟩ (.int .i64 m')) s m' y n d c e :=
  ⟨h.g.setCell _ _ (by show w.heap.size ≤ s + 1; omega), by rw [set_cell h.n0]; simp, set_frozen h.nf, h.r.set (by omega), (set_other _ _ _ _ _ _ (by omega)).trans h.e0, set_frozen h.ef, by rw [set_size]; exact h.lt⟩
set_option maxRecDepth 20000 in
set_option maxHeartbeats 8000000 in
theorem steps_up (y n d m : Int) (c : Bool) (M : Nat) (Y N D : Nat → Int) (C : Nat → Bool) (w : World) (G : GT w) (hM : (M : Int) ≤ 4000000) (m0 : 0 ≤ m) (m1 : m ≤ 3000) (e1 : Y 0 = y) (e2 : N 0 = n) (e3 : C 0 = c) (e4 : D 0 = d)
    (hd : Dates 12 M Y N D C) (R1 R2 R4 RE : Int) (R3 : Bool)
    (c1 : ∀ W, Gr w W → Calls Tryd.prog 37 #[.agg #[.int .i64 y, .int .i64 n, .bool c, .int .i64 d]] W fun e w' => e = .returned (.int .i64 0) ∧ Gr W w')
    (hr : (m ≤ M ∧ R1 = Y m.toNat ∧ R2 = N m.toNat ∧ R3 = C m.toNat ∧ R4 = D m.toNat ∧ RE = 0) ∨ ((M : Int) < m ∧ R1 = 0 ∧ R2 = 0 ∧ R3 = false ∧ R4 = 0 ∧ RE = 2)) :
    Calls Tryd.prog 18 #[.agg #[.int .i64 y, .int .i64 n, .bool c, .int .i64 d], .int .i64 m] w fun e w' => e = .returned (.tuple #[.agg #[.int .i64 R1, .int .i64 R2, .bool R3, .int .i64 R4], .int .i64 RE]) ∧ Gr w w' := by
  have C1 := Lib.hid c1
  have HG := Lib.hid fun W (hW : Gr w W) => G.gr hW
  have C2 := Lib.hid fun W => cdates_c y n d c 12 W
  clear c1 G
  refine (callsIn_wide (n := 10)).1 (callsIn_of_wp_marks Tryd.func18 rfl trivial (wpIn_wide.2 ?_) rfl)
  simp only [Tryd.ntmps18, List.size_toArray, List.length_cons, List.length_nil, Nat.reduceAdd, Nat.reduceSub, Array.replicate_succ, Array.replicate_zero, List.push_toArray, List.append_toArray, List.nil_append, List.cons_append]
  have q1 : ¬ m < -3000 := by omega
  have q2 : ¬ 3000 < m := by omega
  have q3 : ¬ m < 0 := by omega
  go_wp2_with (first | ((go_at_call 37; (with_reducible refine (C1.out _ ((by repeat (first | exact Gr.refl _ | refine Gr.setCell ?_ _ _ (by first | exact Nat.le_refl _ | (simp; omega) | (simp; done)) | refine Gr.grown ?_ _ _ | refine Gr.drewN ?_ _ | refine Gr.drew ?_ | refine Gr.alloc ?_ _ | refine Gr.grow ?_ _ | (refine Gr.trans ?_ (by assumption)))))).mono ?_); rintro e wA ⟨rfl, hgwA⟩); have SA := (SBx.new w y n d m c).1.gr hgwA; obtain ⟨lt, c0, c1, c2, c3, z0, z1, z2, z3⟩ := (SBx.new w y n d m c).2.gr hgwA; have k0 := SA.n0; clear hgwA) | (go_at_call 49; (with_reducible refine (C2.out _).mono ?_); rintro e wB ⟨rfl, hgB, DB, FB0⟩; have SS := SA.gr hgB; have hAB := DB.lt; clear hgB lt c0 c1 c2 c3 z0 z1 z2 z3 k0))
  refine range_next (bd := wA.heap.size) (bs := wA.heap.size + 1) hd (by omega) hM rfl rfl
    (fun k W => (k : Int) ≤ m ∧ SBx w W w.heap.size m 0 0 0 false 0)
    (fun c W => c = .ret ∧ m ≤ M ∧ SBx w W w.heap.size m (Y m.toNat) (N m.toNat) (D m.toNat) (C m.toNat) 0)
    (fun k W W' h g => ⟨h.1, h.2.gr g⟩) (fun k W o v h => ⟨h.1, h.2.set rfl _ _ (by have := SA.lt; omega)⟩) (fun k W l o hl h => ⟨h.1, h.2.putObj rfl _ (by have := SS.lt; omega)⟩) (fun k W h => HG.out W h.2.g)
    (fun c W l o hl h => ⟨h.1, h.2.1, h.2.2.putObj rfl _ (by have := SS.lt; omega)⟩)
    ⟨m0, SS⟩ (by rw [e1, e2, e3, e4]; exact DB) FB0 ?round ?done ?stop
  case round =>
    rintro k W hk ⟨hkm, S⟩ hlt B F
    have l1 := S.lt
    have l2 := SS.lt
    have l3 := FB0.lt
    gi_wp2
    refine ⟨(by repeat (first | exact Gr.refl _ | refine Gr.setCell ?_ _ _ (by first | exact Nat.le_refl _ | (simp; omega) | (simp; done)) | refine Gr.grown ?_ _ _ | refine Gr.drewN ?_ _ | refine Gr.drew ?_ | refine Gr.alloc ?_ _ | refine Gr.grow ?_ _ | (refine Gr.trans ?_ (by assumption)))), fun o => ?_⟩
    have D9 := (D4.at (w := W) rfl (Y k) (N k) (D k) (C k)).putObj (l := wB.heap.size + 1) o (by omega)
    have S9 := (S.gr ((Gr.refl _).alloc (.cells #[.int .i64 (Y k), .int .i64 (N k), .bool (C k), .int .i64 (D k)] 25))).putObj (l := wB.heap.size + 1) rfl o (by omega)
    have B9 := (B.gr ((Gr.refl _).alloc (.cells #[.int .i64 (Y k), .int .i64 (N k), .bool (C k), .int .i64 (D k)] 25))).putObj (l := wB.heap.size + 1) o (by omega)
    have F9 := (F.gr ((Gr.refl _).alloc (.cells #[.int .i64 (Y k), .int .i64 (N k), .bool (C k), .int .i64 (D k)] 25))).putObj (l := wB.heap.size + 1) o (by omega)
    obtain ⟨W2, hW2⟩ : ∃ W2, (W.alloc (.cells #[.int .i64 (Y k), .int .i64 (N k), .bool (C k), .int .i64 (D k)] 25)).putObj (wB.heap.size + 1) o = W2 := ⟨_, rfl⟩
    rw [hW2] at D9 S9 B9 F9 ⊢
    clear hW2 B F S
    have n9 := S9.n0
    obtain ⟨lt, c0, c1, c2, c3, z0, z1, z2, z3⟩ := D9
    by_cases e : (k : Int) = m
    · subst e
      obtain ⟨lr, r0, r1, r2, r3, x0, x1, x2, x3⟩ := S9.r
      have y0 := S9.e0
      have y1 := S9.ef
      have y2 := S9.lt
      have P := S9.put rfl (Y k) (N k) (D k) 0 (C k)
      gi_wp2
      refine ⟨⟨?_, ?_⟩, rfl, by omega, ?_⟩
      · rw [set_heap _ _ _ _ (by omega), set_heap _ _ _ _ (by omega), set_heap _ _ _ _ (by omega), set_heap _ _ _ _ (by omega), set_heap _ _ _ _ (by omega)]
      · rw [set_heap _ _ _ _ (by omega), set_heap _ _ _ _ (by omega), set_heap _ _ _ _ (by omega), set_heap _ _ _ _ (by omega), set_heap _ _ _ _ (by omega)]
      · rw [Int.toNat_natCast]; exact P
    · have q : ((k : Int) == m) = false := beq_eq_false_iff_ne.2 e
      gi_wp2
      exact ⟨⟨rfl, rfl⟩, ⟨by omega, S9⟩, B9, F9⟩
  case done =>
    rintro W ⟨hk, S⟩ hK
    have l2 := SS.lt
    obtain ⟨lr, r0, r1, r2, r3, x0, x1, x2, x3⟩ := S.r
    have y0 := S.e0
    have y1 := S.ef
    have y2 := S.lt
    have P := (S.put rfl 0 0 0 2 false).putObj (l := wB.heap.size) rfl (.deferred none) (by omega)
    dsimp only
    go_wp2
    clear lr r0 r1 r2 r3 x0 x1 x2 x3 y0 y1 y2
    obtain ⟨lr, r0, r1, r2, r3, x0, x1, x2, x3⟩ := P.r
    have y0 := P.e0
    rcases hr with ⟨h, -⟩ | ⟨-, rfl, rfl, rfl, rfl, rfl⟩
    · omega
    · exact leave1 (by rw [set_heap _ _ _ _ (by omega), set_heap _ _ _ _ (by omega), set_heap _ _ _ _ (by omega), set_heap _ _ _ _ (by omega), set_heap _ _ _ _ (by omega)]; exact hK) (v := .tuple #[.agg #[.int .i64 0, .int .i64 0, .bool false, .int .i64 0], .int .i64 2]) (by simp [results, Tryd.results18, go_sem, r0, r1, r2, r3, y0]) ⟨rfl, P.g⟩
  case stop =>
    rintro c W ⟨rfl, hm, S⟩ hK
    refine wpIn_wide.2 ?_
    have l2 := SS.lt
    have P := S.putObj (l := wB.heap.size) rfl (.deferred none) (by omega)
    obtain ⟨lr, r0, r1, r2, r3, x0, x1, x2, x3⟩ := P.r
    have y0 := P.e0
    dsimp only
    go_wp2
    rcases hr with ⟨-, rfl, rfl, rfl, rfl, rfl⟩ | ⟨h, -⟩
    · exact leave1 hK (v := .tuple #[.agg #[.int .i64 (Y m.toNat), .int .i64 (N m.toNat), .bool (C m.toNat), .int .i64 (D m.toNat)], .int .i64 0]) (by simp [results, Tryd.results18, go_sem, r0, r1, r2, r3, y0]) ⟨rfl, P.g⟩
    · omega

set_option maxRecDepth 20000 in
set_option maxHeartbeats 8000000 in
theorem steps_down (y n d q m : Int) (c : Bool) (M : Nat) (Y N D : Nat → Int) (C : Nat → Bool) (w : World) (G : GT w) (hM : (M : Int) ≤ 4000000) (m0 : 0 < m) (m1 : m ≤ 3000) (hq : -q = m) (e1 : Y 0 = y) (e2 : N 0 = n) (e3 : C 0 = c) (e4 : D 0 = d)
    (hd : Dates 13 M Y N D C) (R1 R2 R4 RE : Int) (R3 : Bool)
    (c1 : ∀ W, Gr w W → Calls Tryd.prog 37 #[.agg #[.int .i64 y, .int .i64 n, .bool c, .int .i64 d]] W fun e w' => e = .returned (.int .i64 0) ∧ Gr W w')
    (hr : (m ≤ M ∧ R1 = Y m.toNat ∧ R2 = N m.toNat ∧ R3 = C m.toNat ∧ R4 = D m.toNat ∧ RE = 0) ∨ ((M : Int) < m ∧ R1 = 0 ∧ R2 = 0 ∧ R3 = false ∧ R4 = 0 ∧ RE = 2)) :
    Calls Tryd.prog 18 #[.agg #[.int .i64 y, .int .i64 n, .bool c, .int .i64 d], .int .i64 q] w fun e w' => e = .returned (.tuple #[.agg #[.int .i64 R1, .int .i64 R2, .bool R3, .int .i64 R4], .int .i64 RE]) ∧ Gr w w' := by
  have C1 := Lib.hid c1
  have HG := Lib.hid fun W (hW : Gr w W) => G.gr hW
  have C2 := Lib.hid fun W => cdates_c y n d c 13 W
  clear c1 G
  refine (callsIn_wide (n := 10)).1 (callsIn_of_wp_marks Tryd.func18 rfl trivial (wpIn_wide.2 ?_) rfl)
  simp only [Tryd.ntmps18, List.size_toArray, List.length_cons, List.length_nil, Nat.reduceAdd, Nat.reduceSub, Array.replicate_succ, Array.replicate_zero, List.push_toArray, List.append_toArray, List.nil_append, List.cons_append]
  have q1 : ¬ q < -3000 := by omega
  have q2 : ¬ 3000 < q := by omega
  have q3 : q < 0 := by omega
  go_wp2_with (first | ((go_at_call 37; (with_reducible refine (C1.out _ ((by repeat (first | exact Gr.refl _ | refine Gr.setCell ?_ _ _ (by first | exact Nat.le_refl _ | (simp; omega) | (simp; done)) | refine Gr.grown ?_ _ _ | refine Gr.drewN ?_ _ | refine Gr.drew ?_ | refine Gr.alloc ?_ _ | refine Gr.grow ?_ _ | (refine Gr.trans ?_ (by assumption)))))).mono ?_); rintro e wA ⟨rfl, hgwA⟩); have SA := (SBx.new w y n d q c).1.gr hgwA; have DA := (SBx.new w y n d q c).2.gr hgwA; have k0 := SA.n0; have DA2 := DA; obtain ⟨lt, c0, c1, c2, c3, z0, z1, z2, z3⟩ := DA2; clear hgwA))
  have hw : IntKind.i64.wrap m = m := by rw [IntKind.wrap_i64]; omega
  refine wp_region_still_tail 3 mixed (by kernel_rfl) ?_
  simp only [List.take_succ_cons, List.take_zero, List.drop_succ_cons, List.drop_zero]
  repeat still_step
  refine wpStill_nil ?_
  change wpList _ _ _ _ _ wA.drew
  have SB1 := SA.gr ((Gr.refl wA).drew)
  have DB1 := DA.gr ((Gr.refl wA).drew)
  obtain ⟨W0, hW0⟩ : ∃ W0, wA.drew = W0 := ⟨_, rfl⟩
  rw [hW0] at SB1 DB1 ⊢
  clear hW0 SA DA lt c0 c1 c2 c3 z0 z1 z2 z3 k0
  obtain ⟨lt, c0, c1, c2, c3, z0, z1, z2, z3⟩ := DB1
  have k0 := SB1.n0
  have k1 := SB1.nf
  have kl := SB1.lt
  go_wp2_with (first | (go_at_call 49; (with_reducible refine (C2.out _).mono ?_); rintro e wB ⟨rfl, hgB, DB, FB0⟩; have SS := (SB1.num rfl m).gr hgB; rw [set_size] at DB; rw [set_size] at FB0; have hAB := DB.lt; clear hgB lt c0 c1 c2 c3 z0 z1 z2 z3 k0))
  refine range_ahead (bd := W0.heap.size) (bs := W0.heap.size + 1) hd (by omega) hM rfl rfl
    (fun k W => (k : Int) ≤ m ∧ SBx w W w.heap.size m 0 0 0 false 0)
    (fun c W => c = .ret ∧ m ≤ M ∧ SBx w W w.heap.size m (Y m.toNat) (N m.toNat) (D m.toNat) (C m.toNat) 0)
    (fun k W W' h g => ⟨h.1, h.2.gr g⟩) (fun k W o v h => ⟨h.1, h.2.set rfl _ _ (by have := SB1.lt; omega)⟩) (fun k W l o hl h => ⟨h.1, h.2.putObj rfl _ (by have := SS.lt; omega)⟩) (fun k W h => HG.out W h.2.g)
    (fun c W l o hl h => ⟨h.1, h.2.1, h.2.2.putObj rfl _ (by have := SS.lt; omega)⟩)
    ⟨Int.le_of_lt m0, SS⟩ (by rw [e1, e2, e3, e4]; exact DB) FB0 ?round ?done ?stop
  case round =>
    rintro k W hk ⟨hkm, S⟩ hlt B F
    have l1 := S.lt
    have l2 := SS.lt
    have l3 := FB0.lt
    gi_wp2
    refine ⟨(by repeat (first | exact Gr.refl _ | refine Gr.setCell ?_ _ _ (by first | exact Nat.le_refl _ | (simp; omega) | (simp; done)) | refine Gr.grown ?_ _ _ | refine Gr.drewN ?_ _ | refine Gr.drew ?_ | refine Gr.alloc ?_ _ | refine Gr.grow ?_ _ | (refine Gr.trans ?_ (by assumption)))), fun o => ?_⟩
    have D9 := (D4.at (w := W) rfl (Y k) (N k) (D k) (C k)).putObj (l := wB.heap.size + 1) o (by omega)
    have S9 := (S.gr ((Gr.refl _).alloc (.cells #[.int .i64 (Y k), .int .i64 (N k), .bool (C k), .int .i64 (D k)] 25))).putObj (l := wB.heap.size + 1) rfl o (by omega)
    have B9 := (B.gr ((Gr.refl _).alloc (.cells #[.int .i64 (Y k), .int .i64 (N k), .bool (C k), .int .i64 (D k)] 25))).putObj (l := wB.heap.size + 1) o (by omega)
    have F9 := (F.gr ((Gr.refl _).alloc (.cells #[.int .i64 (Y k), .int .i64 (N k), .bool (C k), .int .i64 (D k)] 25))).putObj (l := wB.heap.size + 1) o (by omega)
    obtain ⟨W2, hW2⟩ : ∃ W2, (W.alloc (.cells #[.int .i64 (Y k), .int .i64 (N k), .bool (C k), .int .i64 (D k)] 25)).putObj (wB.heap.size + 1) o = W2 := ⟨_, rfl⟩
    rw [hW2] at D9 S9 B9 F9 ⊢
    clear hW2 B F S
    have n9 := S9.n0
    obtain ⟨lt, c0, c1, c2, c3, z0, z1, z2, z3⟩ := D9
    by_cases e : (k : Int) = m
    · subst e
      obtain ⟨lr, r0, r1, r2, r3, x0, x1, x2, x3⟩ := S9.r
      have y0 := S9.e0
      have y1 := S9.ef
      have y2 := S9.lt
      have P := S9.put rfl (Y k) (N k) (D k) 0 (C k)
      gi_wp2
      refine ⟨⟨?_, ?_⟩, rfl, by omega, ?_⟩
      · rw [set_heap _ _ _ _ (by omega), set_heap _ _ _ _ (by omega), set_heap _ _ _ _ (by omega), set_heap _ _ _ _ (by omega), set_heap _ _ _ _ (by omega)]
      · rw [set_heap _ _ _ _ (by omega), set_heap _ _ _ _ (by omega), set_heap _ _ _ _ (by omega), set_heap _ _ _ _ (by omega), set_heap _ _ _ _ (by omega)]
      · rw [Int.toNat_natCast]; exact P
    · have q : ((k : Int) == m) = false := beq_eq_false_iff_ne.2 e
      gi_wp2
      exact ⟨⟨rfl, rfl⟩, ⟨by omega, S9⟩, B9, F9⟩
  case done =>
    rintro W ⟨hk, S⟩ hK
    have l2 := SS.lt
    obtain ⟨lr, r0, r1, r2, r3, x0, x1, x2, x3⟩ := S.r
    have y0 := S.e0
    have y1 := S.ef
    have y2 := S.lt
    have P := (S.put rfl 0 0 0 2 false).putObj (l := wB.heap.size) rfl (.deferred none) (by omega)
    dsimp only
    go_wp2
    clear lr r0 r1 r2 r3 x0 x1 x2 x3 y0 y1 y2
    obtain ⟨lr, r0, r1, r2, r3, x0, x1, x2, x3⟩ := P.r
    have y0 := P.e0
    rcases hr with ⟨h, -⟩ | ⟨-, rfl, rfl, rfl, rfl, rfl⟩
    · omega
    · exact leave1 (by rw [set_heap _ _ _ _ (by omega), set_heap _ _ _ _ (by omega), set_heap _ _ _ _ (by omega), set_heap _ _ _ _ (by omega), set_heap _ _ _ _ (by omega)]; exact hK) (v := .tuple #[.agg #[.int .i64 0, .int .i64 0, .bool false, .int .i64 0], .int .i64 2]) (by simp [results, Tryd.results18, go_sem, r0, r1, r2, r3, y0]) ⟨rfl, P.g⟩
  case stop =>
    rintro c W ⟨rfl, hm, S⟩ hK
    refine wpIn_wide.2 ?_
    have l2 := SS.lt
    have P := S.putObj (l := wB.heap.size) rfl (.deferred none) (by omega)
    obtain ⟨lr, r0, r1, r2, r3, x0, x1, x2, x3⟩ := P.r
    have y0 := P.e0
    dsimp only
    go_wp2
    rcases hr with ⟨-, rfl, rfl, rfl, rfl, rfl⟩ | ⟨h, -⟩
    · exact leave1 hK (v := .tuple #[.agg #[.int .i64 (Y m.toNat), .int .i64 (N m.toNat), .bool (C m.toNat), .int .i64 (D m.toNat)], .int .i64 0]) (by simp [results, Tryd.results18, go_sem, r0, r1, r2, r3, y0]) ⟨rfl, P.g⟩
    · omega

end Go.Proofs.YtbalbkkimlbecaaDoor.Walks
