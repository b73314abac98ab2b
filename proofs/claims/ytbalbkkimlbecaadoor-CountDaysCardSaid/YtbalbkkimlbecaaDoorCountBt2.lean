/- The walk of count.Between. -/
import Derived.Test.YtbalbkkimlbecaaDoorCountBt
set_option linter.unusedVariables false
set_option linter.unusedSimpArgs false
namespace Go.Proofs.YtbalbkkimlbecaaDoor.Walks
open Go Go.RowKit Go.Sort Go.Proofs.YtbalbkkimlbecaaDoor.Base Go.Proofs.YtbalbkkimlbecaaDoor.Plain Go.Proofs.YtbalbkkimlbecaaDoor.Math
attribute [local go_sem] Oper.semAt_some

/-- The boxes of Between: the other date, the most, the result, the error. -/
structure BBx (w W : World) (s : Nat) (q r e y n d : Int) (c : Bool) : Prop where
  g : Gr w W
  b : D4 W (s + 1) y n c d
  m0 : W.cell? ⟨s + 1 + 1, 0, none⟩ = some (.int .i64 q)
  r0 : W.cell? ⟨s + 1 + 1 + 1, 0, none⟩ = some (.int .i64 r)
  rf : W.frozen? ⟨s + 1 + 1 + 1, 0, none⟩ = false
  e0 : W.cell? ⟨s + 1 + 1 + 1 + 1, 0, none⟩ = some (.int .i64 e)
  ef : W.frozen? ⟨s + 1 + 1 + 1 + 1, 0, none⟩ = false
  lt : s + 1 + 1 + 1 + 1 < W.heap.size
theorem BBx.gr {w W W' : World} {s : Nat} {q r e y n d : Int} {c : Bool} (h : BBx w W s q r e y n d c) (g : Gr W W') : BBx w W' s q r e y n d c :=
  have l := h.lt
  ⟨h.g.trans g, h.b.gr g, g.keep (by omega) h.m0, g.keep (by omega) h.r0, g.thaw (by omega) h.rf, g.keep h.lt h.e0, g.thaw h.lt h.ef, g.lt h.lt⟩
theorem BBx.set {w W : World} {s b : Nat} {q r e y n d : Int} {c : Bool} (h : BBx w W s q r e y n d c) (hs : w.heap.size = s) (o : Nat) (v : Value) (hb : s + 1 + 1 + 1 + 1 < b) : BBx w (W.setCell ⟨b, o, none⟩ v) s q r e y n d c :=
  ⟨h.g.setCell _ _ (by show w.heap.size ≤ b; omega), h.b.set (by omega), (set_other _ _ _ _ _ _ (by omega)).trans h.m0, (set_other _ _ _ _ _ _ (by omega)).trans h.r0, set_frozen h.rf, (set_other _ _ _ _ _ _ (by omega)).trans h.e0, set_frozen h.ef, by rw [set_size]; exact h.lt⟩
theorem BBx.putObj {w W : World} {s l : Nat} {q r e y n d : Int} {c : Bool} (h : BBx w W s q r e y n d c) (hs : w.heap.size = s) (o : Obj) (hl : s + 1 + 1 + 1 + 1 < l) : BBx w (W.putObj l o) s q r e y n d c :=
  ⟨Gr.putObj h.g _ _ (by omega), h.b.putObj _ (by omega), (put_cell _ _ _ (by omega)).trans h.m0, (put_cell _ _ _ (by omega)).trans h.r0, (put_froz _ _ _ (by omega)).trans h.rf, (put_cell _ _ _ (by omega)).trans h.e0, (put_froz _ _ _ (by omega)).trans h.ef, by rw [put_size]; exact h.lt⟩
theorem BBx.put {w W : World} {s : Nat} {q r e y n d : Int} {c : Bool} (h : BBx w W s q r e y n d c) (hs : w.heap.size = s) (r' e' : Int) :
    BBx w ((W.setCell ⟨s + 1 + 1 + 1, 0, none⟩ (.int .i64 r')).setCell ⟨s + 1 + 1 + 1 + 1, 0, none⟩ (.int .i64 e')) s q r' e' y n d c where
  g := (h.g.setCell _ _ (by show w.heap.size ≤ s + 1 + 1 + 1; omega)).setCell _ _ (by show w.heap.size ≤ s + 1 + 1 + 1 + 1; omega)
  b := (h.b.set (by omega)).set (by omega)
  m0 := by rw [set_other _ _ _ _ _ _ (by omega), set_other _ _ _ _ _ _ (by omega)]; exact h.m0
  r0 := by rw [set_other _ _ _ _ _ _ (by omega), set_cell h.r0]; simp
  rf := set_frozen (set_frozen h.rf)
  e0 := by
    have : (W.setCell ⟨s + 1 + 1 + 1, 0, none⟩ (.int .i64 r')).cell? ⟨s + 1 + 1 + 1 + 1, 0, none⟩ = some (.int .i64 e) := by
      rw [set_other _ _ _ _ _ _ (by omega)]; exact h.e0
    rw [set_cell this]; simp
  ef := set_frozen (set_frozen h.ef)
  lt := by rw [set_size, set_size]; exact h.lt
/-- The two dates in a row of the call's own. -/
structure S8 (W : World) (b : Nat) (y n d y' n' d' : Int) (c c' : Bool) : Prop where
  lt : b < W.heap.size
  c0 : W.cell? ⟨b, 0, none⟩ = some (.int .i64 y)
  c1 : W.cell? ⟨b, 1, none⟩ = some (.int .i64 n)
  c2 : W.cell? ⟨b, 2, none⟩ = some (.bool c)
  c3 : W.cell? ⟨b, 3, none⟩ = some (.int .i64 d)
  c4 : W.cell? ⟨b, 4, none⟩ = some (.int .i64 y')
  c5 : W.cell? ⟨b, 5, none⟩ = some (.int .i64 n')
  c6 : W.cell? ⟨b, 6, none⟩ = some (.bool c')
  c7 : W.cell? ⟨b, 7, none⟩ = some (.int .i64 d')
theorem S8.gr {W W' : World} {b : Nat} {y n d y' n' d' : Int} {c c' : Bool} (h : S8 W b y n d y' n' d' c c') (g : Gr W W') : S8 W' b y n d y' n' d' c c' :=
  ⟨g.lt h.lt, g.keep h.lt h.c0, g.keep h.lt h.c1, g.keep h.lt h.c2, g.keep h.lt h.c3, g.keep h.lt h.c4, g.keep h.lt h.c5, g.keep h.lt h.c6, g.keep h.lt h.c7⟩

/-- Between two rounds; where a round has left. -/
structure Bt (w : World) (q x y n d : Int) (c : Bool) (k : Nat) (W : World) : Prop where
  le : (k : Int) ≤ q + 1
  no : ¬ (0 ≤ x ∧ x < k)
  s : BBx w W w.heap.size q 0 0 y n d c
inductive BtX (w : World) (q x y n d : Int) (c : Bool) (W : World) : Code → Prop where
  | ret : 0 ≤ x → x ≤ q → BBx w W w.heap.size q x 0 y n d c → BtX w q x y n d c W .ret
  | out : ¬ (0 ≤ x ∧ x ≤ q) → BBx w W w.heap.size q 0 0 y n d c → BtX w q x y n d c W (.exit 2)
theorem BtX.putObj {w W : World} {q x y n d : Int} {c : Bool} {k : Code} (h : BtX w q x y n d c W k) {l : Nat} (o : Obj) (hl : w.heap.size + 1 + 1 + 1 + 1 < l) : BtX w q x y n d c (W.putObj l o) k := by
  cases h with
  | ret a b s => exact .ret a b (s.putObj rfl _ hl)
  | out a s => exact .out a (s.putObj rfl _ hl)
set_option maxRecDepth 20000 in
set_option maxHeartbeats 8000000 in
theorem between_c (y n d y' n' d' q x : Int) (c c' : Bool) (M : Nat) (Y N D : Nat → Int) (C : Nat → Bool) (w : World) (G : GT w) (hM : (M : Int) ≤ 4000000) (q0 : 0 ≤ q) (q1 : q ≤ 3000) (e1 : Y 0 = y) (e2 : N 0 = n) (e3 : C 0 = c) (e4 : D 0 = d)
    (hd : Dates 12 M Y N D C) (hx : Meets M Y N D C x y' n' d' c') (xM : x ≤ M)
    (c1 : ∀ W, Gr w W → Calls Tryd.prog 37 #[.agg #[.int .i64 y, .int .i64 n, .bool c, .int .i64 d]] W fun e w' => e = .returned (.int .i64 0) ∧ Gr W w')
    (c2 : ∀ W, Gr w W → Calls Tryd.prog 37 #[.agg #[.int .i64 y', .int .i64 n', .bool c', .int .i64 d']] W fun e w' => e = .returned (.int .i64 0) ∧ Gr W w') :
    Calls Tryd.prog 20 #[.agg #[.int .i64 y, .int .i64 n, .bool c, .int .i64 d], .agg #[.int .i64 y', .int .i64 n', .bool c', .int .i64 d'], .int .i64 q] w fun e w' => e = .returned (.tuple #[.int .i64 (btN x q), .int .i64 (btE x q)]) ∧ Gr w w' := by
  have C1 := Lib.hid c1
  have C2 := Lib.hid c2
  have HX := Lib.hid hx
  have HG := Lib.hid fun W (hW : Gr w W) => G.gr hW
  have C3 := Lib.hid fun W => cdates_c y n d c 12 W
  have q2 : ¬ q < 0 := by omega
  have q3 : ¬ 3000 < q := by omega
  clear c1 c2 hx G
  refine (callsIn_wide (n := 10)).1 (callsIn_of_wp_marks Tryd.func20 rfl trivial (wpIn_wide.2 ?_) rfl)
  simp only [Tryd.ntmps20, List.size_toArray, List.length_cons, List.length_nil, Nat.reduceAdd, Nat.reduceSub, Array.replicate_succ, Array.replicate_zero, List.push_toArray, List.append_toArray, List.nil_append, List.cons_append]
  go_wp2
  obtain ⟨W1, hW1⟩ : ∃ W1, W1 = (((((w.alloc (.cells #[.int .i64 y, .int .i64 n, .bool c, .int .i64 d] 25)).alloc (.cells #[.int .i64 y', .int .i64 n', .bool c', .int .i64 d'] 25)).alloc (.cells #[.int .i64 q] 3)).alloc (.cells #[.int .i64 0] 3)).alloc (.cells #[.int .i64 0] 26)).alloc (.cells #[.int .i64 y, .int .i64 n, .bool c, .int .i64 d, .int .i64 y', .int .i64 n', .bool c', .int .i64 d'] 25) := ⟨_, rfl⟩
  have BB : BBx w W1 w.heap.size q 0 0 y' n' d' c' := by
    rw [hW1]
    exact ⟨(by repeat (first | exact Gr.refl _ | refine Gr.setCell ?_ _ _ (by first | exact Nat.le_refl _ | (simp; omega) | (simp; done)) | refine Gr.grown ?_ _ _ | refine Gr.drewN ?_ _ | refine Gr.drew ?_ | refine Gr.alloc ?_ _ | refine Gr.grow ?_ _ | (refine Gr.trans ?_ (by assumption)))), (D4.at (w := w.alloc (.cells #[.int .i64 y, .int .i64 n, .bool c, .int .i64 d] 25)) (b := w.heap.size + 1) (by simp) y' n' d' c').gr ((by repeat (first | exact Gr.refl _ | refine Gr.setCell ?_ _ _ (by first | exact Nat.le_refl _ | (simp; omega) | (simp; done)) | refine Gr.grown ?_ _ _ | refine Gr.drewN ?_ _ | refine Gr.drew ?_ | refine Gr.alloc ?_ _ | refine Gr.grow ?_ _ | (refine Gr.trans ?_ (by assumption))))), by simp [go_sem], by simp [go_sem], by simp [go_sem], by simp [go_sem], by simp [go_sem], by simp⟩
  have DA : D4 W1 w.heap.size y n c d := by
    rw [hW1]
    exact (D4.at rfl y n d c).gr ((by repeat (first | exact Gr.refl _ | refine Gr.setCell ?_ _ _ (by first | exact Nat.le_refl _ | (simp; omega) | (simp; done)) | refine Gr.grown ?_ _ _ | refine Gr.drewN ?_ _ | refine Gr.drew ?_ | refine Gr.alloc ?_ _ | refine Gr.grow ?_ _ | (refine Gr.trans ?_ (by assumption)))))
  have SL : S8 W1 (w.heap.size + 1 + 1 + 1 + 1 + 1) y n d y' n' d' c c' := by
    rw [hW1]
    exact ⟨by simp, by simp [go_sem], by simp [go_sem], by simp [go_sem], by simp [go_sem], by simp [go_sem], by simp [go_sem], by simp [go_sem], by simp [go_sem]⟩
  rw [← hW1]
  clear hW1
  have GW := BB.g
  have S2 := SL
  obtain ⟨ls, c0, c1, c2, c3, c4, c5, c6, c7⟩ := S2
  refine wp_loop_rounds 3 ?_
  rw [rounds_succ]
  go_wp2_with (first | ((go_at_call 37; (with_reducible refine (C1.out _ ((by repeat (first | exact Gr.refl _ | refine Gr.setCell ?_ _ _ (by first | exact Nat.le_refl _ | (simp; omega) | (simp; done)) | refine Gr.grown ?_ _ _ | refine Gr.drewN ?_ _ | refine Gr.drew ?_ | refine Gr.alloc ?_ _ | refine Gr.grow ?_ _ | (refine Gr.trans ?_ (by assumption)))))).mono ?_); rintro e wA ⟨rfl, hgwA⟩); have g1 := ((Gr.refl W1).alloc _).trans hgwA; have BA := BB.gr g1; have DA1 := DA.gr g1; have SA := SL.gr g1; have GA := BA.g; clear ls c0 c1 c2 c3 c4 c5 c6 c7 BB DA SL GW g1 hgwA; have S2 := SA; obtain ⟨ls, c0, c1, c2, c3, c4, c5, c6, c7⟩ := S2))
  rw [rounds_succ]
  go_wp2_with (first | ((go_at_call 37; (with_reducible refine (C2.out _ ((by repeat (first | exact Gr.refl _ | refine Gr.setCell ?_ _ _ (by first | exact Nat.le_refl _ | (simp; omega) | (simp; done)) | refine Gr.grown ?_ _ _ | refine Gr.drewN ?_ _ | refine Gr.drew ?_ | refine Gr.alloc ?_ _ | refine Gr.grow ?_ _ | (refine Gr.trans ?_ (by assumption)))))).mono ?_); rintro e wB ⟨rfl, hgwB⟩); have g1 := ((Gr.refl wA).alloc _).trans hgwB; have BB := BA.gr g1; have DA := DA1.gr g1; have GB := BB.g; clear ls c0 c1 c2 c3 c4 c5 c6 c7 BA DA1 SA GA g1 hgwB))
  rw [rounds_succ]
  have m0 := BB.m0
  have D2 := DA
  obtain ⟨lt, c0, c1, c2, c3, z0, z1, z2, z3⟩ := D2
  go_wp2_with (first | (go_at_call 49; (with_reducible refine (C3.out _).mono ?_); rintro e wC ⟨rfl, hgC, DC, FC⟩; have SS := BB.gr hgC; have hAB := DC.lt; clear hgC lt c0 c1 c2 c3 z0 z1 z2 z3 m0))
  refine range_next (bd := wB.heap.size) (bs := wB.heap.size + 1) hd (by omega) hM rfl rfl
    (Bt w q x y' n' d' c') (fun c W => BtX w q x y' n' d' c' W c)
    (fun k W W' h g => ⟨h.le, h.no, h.s.gr g⟩) (fun k W o v h => ⟨h.le, h.no, h.s.set rfl _ _ (by have := BB.lt; omega)⟩) (fun k W l o hl h => ⟨h.le, h.no, h.s.putObj rfl _ (by have := SS.lt; omega)⟩) (fun k W h => HG.out W h.s.g)
    (fun c W l o hl h => h.putObj _ (by have := SS.lt; omega))
    ⟨by omega, by omega, SS⟩ (by rw [e1, e2, e3, e4]; exact DC) FC ?round ?done ?stop
  case round =>
    rintro k W hk ⟨hkq, hxk, S⟩ hlt B F
    have l1 := S.lt
    have l2 := SS.lt
    have l3 := FC.lt
    gi_wp2
    refine ⟨(by repeat (first | exact Gr.refl _ | refine Gr.setCell ?_ _ _ (by first | exact Nat.le_refl _ | (simp; omega) | (simp; done)) | refine Gr.grown ?_ _ _ | refine Gr.drewN ?_ _ | refine Gr.drew ?_ | refine Gr.alloc ?_ _ | refine Gr.grow ?_ _ | (refine Gr.trans ?_ (by assumption)))), fun o => ?_⟩
    have D9 := (D4.at (w := W) rfl (Y k) (N k) (D k) (C k)).putObj (l := wC.heap.size + 1) o (by omega)
    have S9 := (S.gr ((Gr.refl _).alloc (.cells #[.int .i64 (Y k), .int .i64 (N k), .bool (C k), .int .i64 (D k)] 25))).putObj (l := wC.heap.size + 1) rfl o (by omega)
    have B9 := (B.gr ((Gr.refl _).alloc (.cells #[.int .i64 (Y k), .int .i64 (N k), .bool (C k), .int .i64 (D k)] 25))).putObj (l := wC.heap.size + 1) o (by omega)
    have F9 := (F.gr ((Gr.refl _).alloc (.cells #[.int .i64 (Y k), .int .i64 (N k), .bool (C k), .int .i64 (D k)] 25))).putObj (l := wC.heap.size + 1) o (by omega)
    obtain ⟨W2, hW2⟩ : ∃ W2, (W.alloc (.cells #[.int .i64 (Y k), .int .i64 (N k), .bool (C k), .int .i64 (D k)] 25)).putObj (wC.heap.size + 1) o = W2 := ⟨_, rfl⟩
    rw [hW2] at D9 S9 B9 F9 ⊢
    clear hW2 B F S
    have n9 := S9.m0
    obtain ⟨lr, r0, r1, r2, r3, x0, x1, x2, x3⟩ := S9.b
    by_cases e : q < (k : Int)
    · obtain ⟨lt, c0, c1, c2, c3, z0, z1, z2, z3⟩ := D9
      gi_wp2
      exact ⟨⟨rfl, rfl⟩, .out (by omega) S9⟩
    · by_cases ex : (k : Int) = x
      · obtain ⟨w1, w2, w3, w4⟩ := HX.out.is k hk ex
        rw [w1, w2, w3, w4] at D9
        obtain ⟨lt, c0, c1, c2, c3, z0, z1, z2, z3⟩ := D9
        have y0 := S9.r0
        have y1 := S9.rf
        have y2 := S9.e0
        have y3 := S9.ef
        have y4 := S9.lt
        have P := S9.put rfl (k : Int) 0
        gi_wp2
        refine ⟨⟨?_, ?_⟩, .ret (by omega) (by omega) ?_⟩
        · rw [set_heap _ _ _ _ (by omega), set_heap _ _ _ _ (by omega)]
        · rw [set_heap _ _ _ _ (by omega), set_heap _ _ _ _ (by omega)]
        · rw [ex] at P; exact P
      · have hne := HX.out.no k hk ex
        obtain ⟨lt, c0, c1, c2, c3, z0, z1, z2, z3⟩ := D9
        rcases hne with h1 | ⟨h1, h2⟩ | ⟨h1, h2, h3⟩ | ⟨h1, h2, h3, h4⟩
        all_goals (
          gi_wp2
          exact ⟨⟨rfl, rfl⟩, ⟨by omega, by omega, S9⟩, B9, F9⟩)
  case done =>
    rintro W ⟨hk, hx, S⟩ hK
    have l2 := SS.lt
    have E1 : RowKit.Hid (0 = btN x q) := Lib.hid (by unfold btN; rw [if_neg (by omega)])
    have E2 : RowKit.Hid (2 = btE x q) := Lib.hid (by unfold btE; rw [if_pos (by omega), if_neg (by omega)])
    have P := (S.put rfl 0 2).putObj (l := wC.heap.size) rfl (.deferred none) (by omega)
    have y0 := S.r0
    have y1 := S.rf
    have y2 := S.e0
    have y3 := S.ef
    have y4 := S.lt
    dsimp only
    go_wp2
    clear y0 y1 y2 y3 y4
    have y0 := P.r0
    have y2 := P.e0
    exact leave1 (by rw [set_heap _ _ _ _ (by omega), set_heap _ _ _ _ (by omega)]; exact hK) (v := .tuple #[.int .i64 0, .int .i64 2]) (by simp [results, Tryd.results20, go_sem, y0, y2]) ⟨ret2 E1.out E2.out, P.g⟩
  case stop =>
    rintro c W h hK
    have l2 := SS.lt
    cases h with
    | ret hx0 hx1 S =>
      refine wpIn_wide.2 ?_
      have E1 : RowKit.Hid (x = btN x q) := Lib.hid (by unfold btN; rw [if_pos (by omega)])
      have E2 : RowKit.Hid (0 = btE x q) := Lib.hid (by unfold btE; rw [if_pos (by omega), if_pos (by omega)])
      have P := S.putObj (l := wC.heap.size) rfl (.deferred none) (by omega)
      have y0 := P.r0
      have y2 := P.e0
      dsimp only
      go_wp2
      exact leave1 hK (v := .tuple #[.int .i64 x, .int .i64 0]) (by simp [results, Tryd.results20, go_sem, y0, y2]) ⟨ret2 E1.out E2.out, P.g⟩
    | out hx S =>
      refine wpIn_wide.2 ?_
      have E1 : RowKit.Hid (0 = btN x q) := Lib.hid (by unfold btN; rw [if_neg (by omega)])
      have E2 : RowKit.Hid (2 = btE x q) := Lib.hid (by unfold btE; rw [if_pos (by omega), if_neg (by omega)])
      have P := (S.put rfl 0 2).putObj (l := wC.heap.size) rfl (.deferred none) (by omega)
      have y0 := S.r0
      have y1 := S.rf
      have y2 := S.e0
      have y3 := S.ef
      have y4 := S.lt
      dsimp only
      go_wp2
      clear y0 y1 y2 y3 y4
      have y0 := P.r0
      have y2 := P.e0
      exact leave1 (by rw [set_heap _ _ _ _ (by omega), set_heap _ _ _ _ (by omega)]; exact hK) (v := .tuple #[.int .i64 0, .int .i64 2]) (by simp [results, Tryd.results20, go_sem, y0, y2]) ⟨ret2 E1.out E2.out, P.g⟩

end Go.Proofs.YtbalbkkimlbecaaDoor.Walks
