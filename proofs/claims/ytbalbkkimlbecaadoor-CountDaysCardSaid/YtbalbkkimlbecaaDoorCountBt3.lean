/- Between where it tells an error; what both sides tell of every input. -/
import Derived.Test.YtbalbkkimlbecaaDoorCountBt2
set_option linter.unusedVariables false
set_option linter.unusedSimpArgs false
namespace Go.Proofs.YtbalbkkimlbecaaDoor.Walks
open Go Go.RowKit Go.Sort Go.Proofs.YtbalbkkimlbecaaDoor.Base Go.Proofs.YtbalbkkimlbecaaDoor.Plain Go.Proofs.YtbalbkkimlbecaaDoor.Math
attribute [local go_sem] Oper.semAt_some

set_option maxHeartbeats 4000000 in
theorem r27between_ea (y n d y' n' d' q E : Int) (c c' : Bool) (w : World) (hE : E ≠ 0)
    (c1 : ∀ W, Calls Tryd.prog 14 #[.agg #[.int .i64 y, .int .i64 n, .bool c, .int .i64 d]] W fun e w' => e = .returned (.int .i64 E) ∧ Gr W w') :
    Calls Tryd.prog 21 #[.agg #[.int .i64 y, .int .i64 n, .bool c, .int .i64 d], .agg #[.int .i64 y', .int .i64 n', .bool c', .int .i64 d'], .int .i64 q] w fun e w' => e = .returned (.tuple #[.int .i64 0, .int .i64 E]) ∧ Gr w w' := by
  have C1 := Lib.hid c1
  have q1 : (E == 0) = false := beq_eq_false_iff_ne.2 hE
  clear c1
  go_enter Tryd.func21, Tryd.ntmps21
  go_wp2_with (first | (go_at_call 14; (with_reducible refine (C1.out _).mono ?_); rintro e wA ⟨rfl, hgwA⟩))
  go_ret2
  exact ⟨rfl, (by repeat (first | exact Gr.refl _ | refine Gr.setCell ?_ _ _ (by first | exact Nat.le_refl _ | (simp; omega) | (simp; done)) | refine Gr.grown ?_ _ _ | refine Gr.drewN ?_ _ | refine Gr.drew ?_ | refine Gr.alloc ?_ _ | refine Gr.grow ?_ _ | (refine Gr.trans ?_ (by assumption))))⟩
set_option maxHeartbeats 4000000 in
theorem r27between_eb (y n d y' n' d' q E : Int) (c c' : Bool) (w : World) (hE : E ≠ 0)
    (c1 : ∀ W, Calls Tryd.prog 14 #[.agg #[.int .i64 y, .int .i64 n, .bool c, .int .i64 d]] W fun e w' => e = .returned (.int .i64 0) ∧ Gr W w')
    (c2 : ∀ W, Calls Tryd.prog 14 #[.agg #[.int .i64 y', .int .i64 n', .bool c', .int .i64 d']] W fun e w' => e = .returned (.int .i64 E) ∧ Gr W w') :
    Calls Tryd.prog 21 #[.agg #[.int .i64 y, .int .i64 n, .bool c, .int .i64 d], .agg #[.int .i64 y', .int .i64 n', .bool c', .int .i64 d'], .int .i64 q] w fun e w' => e = .returned (.tuple #[.int .i64 0, .int .i64 E]) ∧ Gr w w' := by
  have C1 := Lib.hid c1
  have C2 := Lib.hid c2
  have q1 : (E == 0) = false := beq_eq_false_iff_ne.2 hE
  clear c1 c2
  go_enter Tryd.func21, Tryd.ntmps21
  go_wp2_with (first | ((go_at_call 14; (with_reducible refine (C1.out _).mono ?_); rintro e wA ⟨rfl, hgwA⟩); obtain ⟨lr, r0, r1, r2, r3, g0, g1, g2, g3⟩ := (D4.at (w := w.alloc (.cells #[.int .i64 y, .int .i64 n, .bool c, .int .i64 d] 25)) (b := w.heap.size + 1) (by simp) y' n' d' c').gr hgwA) | (go_at_call 14; (with_reducible refine (C2.out _).mono ?_); rintro e wB ⟨rfl, hgwB⟩))
  go_ret2
  exact ⟨rfl, (by repeat (first | exact Gr.refl _ | refine Gr.setCell ?_ _ _ (by first | exact Nat.le_refl _ | (simp; omega) | (simp; done)) | refine Gr.grown ?_ _ _ | refine Gr.drewN ?_ _ | refine Gr.drew ?_ | refine Gr.alloc ?_ _ | refine Gr.grow ?_ _ | (refine Gr.trans ?_ (by assumption))))⟩
set_option maxHeartbeats 4000000 in
theorem r27between_q (y n d y' n' d' q : Int) (c c' : Bool) (w : World) (hq : q < 0 ∨ 3000 < q)
    (c1 : ∀ W, Calls Tryd.prog 14 #[.agg #[.int .i64 y, .int .i64 n, .bool c, .int .i64 d]] W fun e w' => e = .returned (.int .i64 0) ∧ Gr W w')
    (c2 : ∀ W, Calls Tryd.prog 14 #[.agg #[.int .i64 y', .int .i64 n', .bool c', .int .i64 d']] W fun e w' => e = .returned (.int .i64 0) ∧ Gr W w') :
    Calls Tryd.prog 21 #[.agg #[.int .i64 y, .int .i64 n, .bool c, .int .i64 d], .agg #[.int .i64 y', .int .i64 n', .bool c', .int .i64 d'], .int .i64 q] w fun e w' => e = .returned (.tuple #[.int .i64 0, .int .i64 1]) ∧ Gr w w' := by
  have C1 := Lib.hid c1
  have C2 := Lib.hid c2
  clear c1 c2
  by_cases a : q < 0
  · go_enter Tryd.func21, Tryd.ntmps21
    go_wp2_with (first | ((go_at_call 14; (with_reducible refine (C1.out _).mono ?_); rintro e wA ⟨rfl, hgwA⟩); obtain ⟨lr, r0, r1, r2, r3, g0, g1, g2, g3⟩ := (D4.at (w := w.alloc (.cells #[.int .i64 y, .int .i64 n, .bool c, .int .i64 d] 25)) (b := w.heap.size + 1) (by simp) y' n' d' c').gr hgwA) | (go_at_call 14; (with_reducible refine (C2.out _).mono ?_); rintro e wB ⟨rfl, hgwB⟩))
    go_ret2
    exact ⟨rfl, (by repeat (first | exact Gr.refl _ | refine Gr.setCell ?_ _ _ (by first | exact Nat.le_refl _ | (simp; omega) | (simp; done)) | refine Gr.grown ?_ _ _ | refine Gr.drewN ?_ _ | refine Gr.drew ?_ | refine Gr.alloc ?_ _ | refine Gr.grow ?_ _ | (refine Gr.trans ?_ (by assumption))))⟩
  · have b : 3000 < q := by omega
    go_enter Tryd.func21, Tryd.ntmps21
    go_wp2_with (first | ((go_at_call 14; (with_reducible refine (C1.out _).mono ?_); rintro e wA ⟨rfl, hgwA⟩); obtain ⟨lr, r0, r1, r2, r3, g0, g1, g2, g3⟩ := (D4.at (w := w.alloc (.cells #[.int .i64 y, .int .i64 n, .bool c, .int .i64 d] 25)) (b := w.heap.size + 1) (by simp) y' n' d' c').gr hgwA) | (go_at_call 14; (with_reducible refine (C2.out _).mono ?_); rintro e wB ⟨rfl, hgwB⟩))
    go_ret2
    exact ⟨rfl, (by repeat (first | exact Gr.refl _ | refine Gr.setCell ?_ _ _ (by first | exact Nat.le_refl _ | (simp; omega) | (simp; done)) | refine Gr.grown ?_ _ _ | refine Gr.drewN ?_ _ | refine Gr.drew ?_ | refine Gr.alloc ?_ _ | refine Gr.grow ?_ _ | (refine Gr.trans ?_ (by assumption))))⟩

/-- The world that Between's boxes are laid in. -/
theorem bt_new (w : World) (y n d y' n' d' q : Int) (c c' : Bool) : ∃ W1, W1 = (((((w.alloc (.cells #[.int .i64 y, .int .i64 n, .bool c, .int .i64 d] 25)).alloc (.cells #[.int .i64 y', .int .i64 n', .bool c', .int .i64 d'] 25)).alloc (.cells #[.int .i64 q] 3)).alloc (.cells #[.int .i64 0] 3)).alloc (.cells #[.int .i64 0] 26)).alloc (.cells #[.int .i64 y, .int .i64 n, .bool c, .int .i64 d, .int .i64 y', .int .i64 n', .bool c', .int .i64 d'] 25) ∧
    BBx w W1 w.heap.size q 0 0 y' n' d' c' ∧ S8 W1 (w.heap.size + 1 + 1 + 1 + 1 + 1) y n d y' n' d' c c' := by
  refine ⟨_, rfl, ?_, ?_⟩
  · exact ⟨(by repeat (first | exact Gr.refl _ | refine Gr.setCell ?_ _ _ (by first | exact Nat.le_refl _ | (simp; omega) | (simp; done)) | refine Gr.grown ?_ _ _ | refine Gr.drewN ?_ _ | refine Gr.drew ?_ | refine Gr.alloc ?_ _ | refine Gr.grow ?_ _ | (refine Gr.trans ?_ (by assumption)))), (D4.at (w := w.alloc (.cells #[.int .i64 y, .int .i64 n, .bool c, .int .i64 d] 25)) (b := w.heap.size + 1) (by simp) y' n' d' c').gr ((by repeat (first | exact Gr.refl _ | refine Gr.setCell ?_ _ _ (by first | exact Nat.le_refl _ | (simp; omega) | (simp; done)) | refine Gr.grown ?_ _ _ | refine Gr.drewN ?_ _ | refine Gr.drew ?_ | refine Gr.alloc ?_ _ | refine Gr.grow ?_ _ | (refine Gr.trans ?_ (by assumption))))), by simp [go_sem], by simp [go_sem], by simp [go_sem], by simp [go_sem], by simp [go_sem], by simp⟩
  · exact ⟨by simp, by simp [go_sem], by simp [go_sem], by simp [go_sem], by simp [go_sem], by simp [go_sem], by simp [go_sem], by simp [go_sem], by simp [go_sem]⟩

set_option maxRecDepth 20000 in
set_option maxHeartbeats 4000000 in
theorem between_e (y n d y' n' d' q E F : Int) (c c' : Bool) (w : World) (hE : E ≠ 0 ∨ (E = 0 ∧ F ≠ 0))
    (c1 : ∀ W, Gr w W → Calls Tryd.prog 37 #[.agg #[.int .i64 y, .int .i64 n, .bool c, .int .i64 d]] W fun e w' => e = .returned (.int .i64 E) ∧ Gr W w')
    (c2 : ∀ W, Gr w W → Calls Tryd.prog 37 #[.agg #[.int .i64 y', .int .i64 n', .bool c', .int .i64 d']] W fun e w' => e = .returned (.int .i64 F) ∧ Gr W w') :
    Calls Tryd.prog 20 #[.agg #[.int .i64 y, .int .i64 n, .bool c, .int .i64 d], .agg #[.int .i64 y', .int .i64 n', .bool c', .int .i64 d'], .int .i64 q] w fun e w' => e = .returned (.tuple #[.int .i64 0, .int .i64 (if E = 0 then F else E)]) ∧ Gr w w' := by
  have C1 := Lib.hid c1
  have C2 := Lib.hid c2
  clear c1 c2
  refine (callsIn_wide (n := 10)).1 (callsIn_of_wp_marks Tryd.func20 rfl trivial (wpIn_wide.2 ?_) rfl)
  simp only [Tryd.ntmps20, List.size_toArray, List.length_cons, List.length_nil, Nat.reduceAdd, Nat.reduceSub, Array.replicate_succ, Array.replicate_zero, List.push_toArray, List.append_toArray, List.nil_append, List.cons_append]
  go_wp2
  obtain ⟨W1, hW1, BB, SL⟩ := bt_new w y n d y' n' d' q c c'
  rw [← hW1]
  clear hW1
  have GW := BB.g
  have S2 := SL
  obtain ⟨ls, c0, c1, c2, c3, c4, c5, c6, c7⟩ := S2
  refine wp_loop_rounds 3 ?_
  rw [rounds_succ]
  rcases hE with hE | ⟨rfl, hE⟩
  · have q1 : (E == 0) = false := beq_eq_false_iff_ne.2 hE
    have q2 : (E != 0) = true := by simp [bne_iff_ne, hE]
    go_wp2_with (first | ((go_at_call 37; (with_reducible refine (C1.out _ ((by repeat (first | exact Gr.refl _ | refine Gr.setCell ?_ _ _ (by first | exact Nat.le_refl _ | (simp; omega) | (simp; done)) | refine Gr.grown ?_ _ _ | refine Gr.drewN ?_ _ | refine Gr.drew ?_ | refine Gr.alloc ?_ _ | refine Gr.grow ?_ _ | (refine Gr.trans ?_ (by assumption)))))).mono ?_); rintro e wA ⟨rfl, hgwA⟩); have g1 := ((Gr.refl W1).alloc _).trans hgwA; have BA := BB.gr g1; have P := BA.put rfl 0 E; have y0 := BA.r0; have y1 := BA.rf; have y2 := BA.e0; have y3 := BA.ef; have y4 := BA.lt; clear ls c0 c1 c2 c3 c4 c5 c6 c7 SL GW g1 hgwA))
    clear y0 y1 y2 y3 y4
    have y0 := P.r0
    have y2 := P.e0
    exact leave0 (v := .tuple #[.int .i64 0, .int .i64 E]) (by simp [results, Tryd.results20, go_sem, y0, y2]) ⟨rfl, P.g⟩
  · have q1 : (F == 0) = false := beq_eq_false_iff_ne.2 hE
    have q2 : (F != 0) = true := by simp [bne_iff_ne, hE]
    go_wp2_with (first | ((go_at_call 37; (with_reducible refine (C1.out _ ((by repeat (first | exact Gr.refl _ | refine Gr.setCell ?_ _ _ (by first | exact Nat.le_refl _ | (simp; omega) | (simp; done)) | refine Gr.grown ?_ _ _ | refine Gr.drewN ?_ _ | refine Gr.drew ?_ | refine Gr.alloc ?_ _ | refine Gr.grow ?_ _ | (refine Gr.trans ?_ (by assumption)))))).mono ?_); rintro e wA ⟨rfl, hgwA⟩); have g1 := ((Gr.refl W1).alloc _).trans hgwA; have BA := BB.gr g1; have SA := SL.gr g1; have GA := BA.g; clear ls c0 c1 c2 c3 c4 c5 c6 c7 BB SL GW g1 hgwA; have S2 := SA; obtain ⟨ls, c0, c1, c2, c3, c4, c5, c6, c7⟩ := S2))
    rw [rounds_succ]
    go_wp2_with (first | ((go_at_call 37; (with_reducible refine (C2.out _ ((by repeat (first | exact Gr.refl _ | refine Gr.setCell ?_ _ _ (by first | exact Nat.le_refl _ | (simp; omega) | (simp; done)) | refine Gr.grown ?_ _ _ | refine Gr.drewN ?_ _ | refine Gr.drew ?_ | refine Gr.alloc ?_ _ | refine Gr.grow ?_ _ | (refine Gr.trans ?_ (by assumption)))))).mono ?_); rintro e wB ⟨rfl, hgwB⟩); have g1 := ((Gr.refl wA).alloc _).trans hgwB; have BB := BA.gr g1; have P := BB.put rfl 0 F; have y0 := BB.r0; have y1 := BB.rf; have y2 := BB.e0; have y3 := BB.ef; have y4 := BB.lt; clear ls c0 c1 c2 c3 c4 c5 c6 c7 BA SA GA g1 hgwB))
    clear y0 y1 y2 y3 y4
    have y0 := P.r0
    have y2 := P.e0
    exact leave0 (v := .tuple #[.int .i64 0, .int .i64 F]) (by simp [results, Tryd.results20, go_sem, y0, y2]) ⟨rfl, P.g⟩
set_option maxRecDepth 20000 in
set_option maxHeartbeats 4000000 in
theorem between_q (y n d y' n' d' q : Int) (c c' : Bool) (w : World) (hq : q < 0 ∨ 3000 < q)
    (c1 : ∀ W, Gr w W → Calls Tryd.prog 37 #[.agg #[.int .i64 y, .int .i64 n, .bool c, .int .i64 d]] W fun e w' => e = .returned (.int .i64 0) ∧ Gr W w')
    (c2 : ∀ W, Gr w W → Calls Tryd.prog 37 #[.agg #[.int .i64 y', .int .i64 n', .bool c', .int .i64 d']] W fun e w' => e = .returned (.int .i64 0) ∧ Gr W w') :
    Calls Tryd.prog 20 #[.agg #[.int .i64 y, .int .i64 n, .bool c, .int .i64 d], .agg #[.int .i64 y', .int .i64 n', .bool c', .int .i64 d'], .int .i64 q] w fun e w' => e = .returned (.tuple #[.int .i64 0, .int .i64 1]) ∧ Gr w w' := by
  have C1 := Lib.hid c1
  have C2 := Lib.hid c2
  clear c1 c2
  refine (callsIn_wide (n := 10)).1 (callsIn_of_wp_marks Tryd.func20 rfl trivial (wpIn_wide.2 ?_) rfl)
  simp only [Tryd.ntmps20, List.size_toArray, List.length_cons, List.length_nil, Nat.reduceAdd, Nat.reduceSub, Array.replicate_succ, Array.replicate_zero, List.push_toArray, List.append_toArray, List.nil_append, List.cons_append]
  go_wp2
  obtain ⟨W1, hW1, BB, SL⟩ := bt_new w y n d y' n' d' q c c'
  rw [← hW1]
  clear hW1
  have GW := BB.g
  have S2 := SL
  obtain ⟨ls, c0, c1, c2, c3, c4, c5, c6, c7⟩ := S2
  refine wp_loop_rounds 3 ?_
  rw [rounds_succ]
  go_wp2_with (first | ((go_at_call 37; (with_reducible refine (C1.out _ ((by repeat (first | exact Gr.refl _ | refine Gr.setCell ?_ _ _ (by first | exact Nat.le_refl _ | (simp; omega) | (simp; done)) | refine Gr.grown ?_ _ _ | refine Gr.drewN ?_ _ | refine Gr.drew ?_ | refine Gr.alloc ?_ _ | refine Gr.grow ?_ _ | (refine Gr.trans ?_ (by assumption)))))).mono ?_); rintro e wA ⟨rfl, hgwA⟩); have g1 := ((Gr.refl W1).alloc _).trans hgwA; have BA := BB.gr g1; have SA := SL.gr g1; have GA := BA.g; clear ls c0 c1 c2 c3 c4 c5 c6 c7 BB SL GW g1 hgwA; have S2 := SA; obtain ⟨ls, c0, c1, c2, c3, c4, c5, c6, c7⟩ := S2))
  rw [rounds_succ]
  go_wp2_with (first | ((go_at_call 37; (with_reducible refine (C2.out _ ((by repeat (first | exact Gr.refl _ | refine Gr.setCell ?_ _ _ (by first | exact Nat.le_refl _ | (simp; omega) | (simp; done)) | refine Gr.grown ?_ _ _ | refine Gr.drewN ?_ _ | refine Gr.drew ?_ | refine Gr.alloc ?_ _ | refine Gr.grow ?_ _ | (refine Gr.trans ?_ (by assumption)))))).mono ?_); rintro e wB ⟨rfl, hgwB⟩); have g1 := ((Gr.refl wA).alloc _).trans hgwB; have BB := BA.gr g1; have P := BB.put rfl 0 1; have m0 := BB.m0; have y0 := BB.r0; have y1 := BB.rf; have y2 := BB.e0; have y3 := BB.ef; have y4 := BB.lt; clear ls c0 c1 c2 c3 c4 c5 c6 c7 BA SA GA g1 hgwB))
  rw [rounds_succ]
  by_cases a : q < 0
  · go_wp2
    clear y0 y1 y2 y3 y4
    have y0 := P.r0
    have y2 := P.e0
    exact leave0 (v := .tuple #[.int .i64 0, .int .i64 1]) (by simp [results, Tryd.results20, go_sem, y0, y2]) ⟨rfl, P.g⟩
  · have b : 3000 < q := by omega
    go_wp2
    clear y0 y1 y2 y3 y4
    have y0 := P.r0
    have y2 := P.e0
    exact leave0 (v := .tuple #[.int .i64 0, .int .i64 1]) (by simp [results, Tryd.results20, go_sem, y0, y2]) ⟨rfl, P.g⟩

end Go.Proofs.YtbalbkkimlbecaaDoor.Walks
