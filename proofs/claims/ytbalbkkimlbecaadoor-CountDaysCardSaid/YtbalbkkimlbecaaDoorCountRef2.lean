/- Walks of almanackerref27.Steps and Between. -/
import Derived.Test.YtbalbkkimlbecaaDoorCountRef
import Derived.Test.YtbalbkkimlbecaaDoorCountSteps2
set_option linter.unusedVariables false
set_option linter.unusedSimpArgs false
namespace Go.Proofs.YtbalbkkimlbecaaDoor.Walks
open Go Go.RowKit Go.Sort Go.Proofs.YtbalbkkimlbecaaDoor.Base Go.Proofs.YtbalbkkimlbecaaDoor.Plain Go.Proofs.YtbalbkkimlbecaaDoor.Math

/-- A row of dates, as the document's step leads from each to the next; the last one has none. -/
structure RDates (g M : Nat) (Y N D : Nat → Int) (C : Nat → Bool) : Prop where
  step : ∀ k, k < M → ∀ w, Calls Tryd.prog g #[.agg #[.int .i64 (Y k), .int .i64 (N k), .bool (C k), .int .i64 (D k)]] w fun e w' => e = .returned (.tuple #[.agg #[.int .i64 (Y (k + 1)), .int .i64 (N (k + 1)), .bool (C (k + 1)), .int .i64 (D (k + 1))], .int .i64 0]) ∧ Gr w w'
  last : ∀ w, Calls Tryd.prog g #[.agg #[.int .i64 (Y M), .int .i64 (N M), .bool (C M), .int .i64 (D M)]] w fun e w' => e = .returned (.tuple #[.agg #[.int .i64 0, .int .i64 0, .bool false, .int .i64 0], .int .i64 2]) ∧ Gr w w'
theorem rdates_up {a : Int} {M : Nat} (hM : a + M = 2278650) {Y N D : Nat → Int} {C : Nat → Bool} (h : Days M (fun k => a + (k : Int)) Y N D C) : RDates 16 M Y N D C where
  step := fun k e w => by
    obtain ⟨J, hv, e1, e2, e3⟩ := h.at' k (by omega)
    obtain ⟨J', hv', f1, f2, f3⟩ := h.at' (k + 1) (by omega)
    rw [e2, e3, f2, f3]
    rcases r27next_c _ J _ hv with ⟨y', j', d', x1, x2, x3⟩ | ⟨x1, -⟩
    · obtain ⟨rfl, rfl, rfl⟩ := hd_inj x1 hv' (by rw [x2, e1, f1]; push_cast; omega)
      exact x3 w
    · omega
  last := fun w => by
    obtain ⟨J, hv, e1, e2, e3⟩ := h.at' M (Nat.le_refl _)
    rw [e2, e3]
    rcases r27next_c _ J _ hv with ⟨y', j', d', x1, x2, x3⟩ | ⟨-, x2⟩
    · have := hd_range x1
      omega
    · exact x2 w
theorem rdates_down {a : Int} {M : Nat} (hM : a - M = -1373427) {Y N D : Nat → Int} {C : Nat → Bool} (h : Days M (fun k => a - (k : Int)) Y N D C) : RDates 17 M Y N D C where
  step := fun k e w => by
    obtain ⟨J, hv, e1, e2, e3⟩ := h.at' k (by omega)
    obtain ⟨J', hv', f1, f2, f3⟩ := h.at' (k + 1) (by omega)
    rw [e2, e3, f2, f3]
    rcases r27ahead_c _ J _ hv with ⟨y', j', d', x1, x2, x3⟩ | ⟨x1, -⟩
    · obtain ⟨rfl, rfl, rfl⟩ := hd_inj x1 hv' (by omega)
      exact x3 w
    · omega
  last := fun w => by
    obtain ⟨J, hv, e1, e2, e3⟩ := h.at' M (Nat.le_refl _)
    rw [e2, e3]
    rcases r27ahead_c _ J _ hv with ⟨y', j', d', x1, x2, x3⟩ | ⟨-, x2⟩
    · have := hd_range x1
      omega
    · exact x2 w

set_option maxHeartbeats 4000000 in
theorem r27steps_e (y n d q E : Int) (c : Bool) (w : World) (hE : E ≠ 0)
    (c1 : ∀ W, Calls Tryd.prog 14 #[.agg #[.int .i64 y, .int .i64 n, .bool c, .int .i64 d]] W fun e w' => e = .returned (.int .i64 E) ∧ Gr W w') :
    Calls Tryd.prog 19 #[.agg #[.int .i64 y, .int .i64 n, .bool c, .int .i64 d], .int .i64 q] w fun e w' => e = .returned (.tuple #[.agg #[.int .i64 0, .int .i64 0, .bool false, .int .i64 0], .int .i64 E]) ∧ Gr w w' := by
  have C1 := Lib.hid c1
  have q1 : (E == 0) = false := beq_eq_false_iff_ne.2 hE
  clear c1
  go_enter Tryd.func19, Tryd.ntmps19
  go_wp2_with (first | ((go_at_call 14; (with_reducible refine (C1.out _).mono ?_); rintro e wA ⟨rfl, hgwA⟩); obtain ⟨lt, c0, c1, c2, c3, f0, f1, f2, f3⟩ := (D4.two w y n d c).2.gr hgwA))
  exact bodyPost_ret (v := .tuple #[.agg #[.int .i64 0, .int .i64 0, .bool false, .int .i64 0], .int .i64 E]) (by simp [results, Tryd.results19, go_sem, *]) rfl ⟨rfl, (by repeat (first | exact Gr.refl _ | refine Gr.setCell ?_ _ _ (by first | exact Nat.le_refl _ | (simp; omega) | (simp; done)) | refine Gr.grown ?_ _ _ | refine Gr.drewN ?_ _ | refine Gr.drew ?_ | refine Gr.alloc ?_ _ | refine Gr.grow ?_ _ | (refine Gr.trans ?_ (by assumption))))⟩
set_option maxHeartbeats 4000000 in
theorem r27steps_q (y n d q : Int) (c : Bool) (w : World) (hq : q < -3000 ∨ 3000 < q)
    (c1 : ∀ W, Calls Tryd.prog 14 #[.agg #[.int .i64 y, .int .i64 n, .bool c, .int .i64 d]] W fun e w' => e = .returned (.int .i64 0) ∧ Gr W w') :
    Calls Tryd.prog 19 #[.agg #[.int .i64 y, .int .i64 n, .bool c, .int .i64 d], .int .i64 q] w fun e w' => e = .returned (.tuple #[.agg #[.int .i64 0, .int .i64 0, .bool false, .int .i64 0], .int .i64 1]) ∧ Gr w w' := by
  have C1 := Lib.hid c1
  clear c1
  by_cases a : q < -3000
  · go_enter Tryd.func19, Tryd.ntmps19
    go_wp2_with (first | ((go_at_call 14; (with_reducible refine (C1.out _).mono ?_); rintro e wA ⟨rfl, hgwA⟩); obtain ⟨lt, c0, c1, c2, c3, f0, f1, f2, f3⟩ := (D4.two w y n d c).2.gr hgwA))
    exact bodyPost_ret (v := .tuple #[.agg #[.int .i64 0, .int .i64 0, .bool false, .int .i64 0], .int .i64 1]) (by simp [results, Tryd.results19, go_sem, *]) rfl ⟨rfl, (by repeat (first | exact Gr.refl _ | refine Gr.setCell ?_ _ _ (by first | exact Nat.le_refl _ | (simp; omega) | (simp; done)) | refine Gr.grown ?_ _ _ | refine Gr.drewN ?_ _ | refine Gr.drew ?_ | refine Gr.alloc ?_ _ | refine Gr.grow ?_ _ | (refine Gr.trans ?_ (by assumption))))⟩
  · have b : 3000 < q := by omega
    go_enter Tryd.func19, Tryd.ntmps19
    go_wp2_with (first | ((go_at_call 14; (with_reducible refine (C1.out _).mono ?_); rintro e wA ⟨rfl, hgwA⟩); obtain ⟨lt, c0, c1, c2, c3, f0, f1, f2, f3⟩ := (D4.two w y n d c).2.gr hgwA))
    exact bodyPost_ret (v := .tuple #[.agg #[.int .i64 0, .int .i64 0, .bool false, .int .i64 0], .int .i64 1]) (by simp [results, Tryd.results19, go_sem, *]) rfl ⟨rfl, (by repeat (first | exact Gr.refl _ | refine Gr.setCell ?_ _ _ (by first | exact Nat.le_refl _ | (simp; omega) | (simp; done)) | refine Gr.grown ?_ _ _ | refine Gr.drewN ?_ _ | refine Gr.drew ?_ | refine Gr.alloc ?_ _ | refine Gr.grow ?_ _ | (refine Gr.trans ?_ (by assumption))))⟩

set_option maxRecDepth 20000 in
set_option maxHeartbeats 8000000 in
theorem r27steps_up (y n d q m : Int) (c : Bool) (M : Nat) (Y N D : Nat → Int) (C : Nat → Bool) (w : World) (hM : (M : Int) ≤ 4000000) (m0 : 0 ≤ m) (m1 : m ≤ 3000) (hq : q = m) (e1 : Y 0 = y) (e2 : N 0 = n) (e3 : C 0 = c) (e4 : D 0 = d)
    (hd : RDates 16 M Y N D C) (R1 R2 R4 RE : Int) (R3 : Bool)
    (c1 : ∀ W, Calls Tryd.prog 14 #[.agg #[.int .i64 y, .int .i64 n, .bool c, .int .i64 d]] W fun e w' => e = .returned (.int .i64 0) ∧ Gr W w')
    (hr : (m ≤ M ∧ R1 = Y m.toNat ∧ R2 = N m.toNat ∧ R3 = C m.toNat ∧ R4 = D m.toNat ∧ RE = 0) ∨ ((M : Int) < m ∧ R1 = 0 ∧ R2 = 0 ∧ R3 = false ∧ R4 = 0 ∧ RE = 2)) :
    Calls Tryd.prog 19 #[.agg #[.int .i64 y, .int .i64 n, .bool c, .int .i64 d], .int .i64 q] w fun e w' => e = .returned (.tuple #[.agg #[.int .i64 R1, .int .i64 R2, .bool R3, .int .i64 R4], .int .i64 RE]) ∧ Gr w w' := by
  have C1 := Lib.hid c1
  have q1 : ¬ q < -3000 := by omega
  have q2 : ¬ 3000 < q := by omega
  clear c1
  go_enter Tryd.func19, Tryd.ntmps19
  go_wp2_with (first | ((go_at_call 14; (with_reducible refine (C1.out _).mono ?_); rintro e wA ⟨rfl, hgwA⟩); have DA := (D4.two w y n d c).1.gr hgwA; have RA := (D4.two w y n d c).2.gr hgwA; have GA : Gr w wA := (by repeat (first | exact Gr.refl _ | refine Gr.setCell ?_ _ _ (by first | exact Nat.le_refl _ | (simp; omega) | (simp; done)) | refine Gr.grown ?_ _ _ | refine Gr.drewN ?_ _ | refine Gr.drew ?_ | refine Gr.alloc ?_ _ | refine Gr.grow ?_ _ | (refine Gr.trans ?_ (by assumption)))); clear hgwA))
  skip
  go_loopg [1, 6] m.toNat (fun kx s1 s6 wr => ∃ k : Nat, (k : Int) ≤ m ∧ m.toNat - k ≤ kx ∧ s1 = .int .i64 (q - (k : Int)) ∧ Gr w wr ∧ D4 wr (w.heap.size + 1) 0 0 false 0 ∧ ((k ≤ M ∧ s6 = .int .i64 0 ∧ D4 wr w.heap.size (Y k) (N k) (C k) (D k)) ∨ (k = M + 1 ∧ s6 = .int .i64 2 ∧ D4 wr w.heap.size 0 0 false 0)))
  case atStart => exact ⟨0, by omega, by omega, by go_num, GA, RA, .inl ⟨by omega, rfl, by rw [e1, e2, e3, e4]; exact DA⟩⟩
  case round =>
    obtain ⟨k, hk, hm, rfl, hg, R, (⟨hkM, rfl, B⟩ | ⟨rfl, rfl, B⟩)⟩ := hrel
    · have B2 := B
      obtain ⟨lt, c0, c1, c2, c3, f0, f1, f2, f3⟩ := B2
      by_cases e : (k : Int) < m
      · have t : 0 < q - (k : Int) := by omega
        by_cases g : k < M
        · have S := Lib.hid (hd.step k g)
          go_wp2_with (first | (go_at_call 16; (with_reducible refine (S.out _).mono ?_); rintro e wB ⟨rfl, hgB⟩; have B3 := B.gr hgB; have R3' := R.gr hgB; have G3 := hg.trans hgB; have B4 := B3.put (Y (k + 1)) (N (k + 1)) (D (k + 1)) (C (k + 1)); have R4' := (((R3'.set (b' := w.heap.size) (o := 0) (v := .int .i64 (Y (k + 1))) (by omega)).set (b' := w.heap.size) (o := 1) (v := .int .i64 (N (k + 1))) (by omega)).set (b' := w.heap.size) (o := 2) (v := .bool (C (k + 1))) (by omega)).set (b' := w.heap.size) (o := 3) (v := .int .i64 (D (k + 1))) (by omega); clear lt c0 c1 c2 c3 f0 f1 f2 f3; obtain ⟨lt, c0, c1, c2, c3, f0, f1, f2, f3⟩ := B3; clear B R R3' hgB))
          go_roundg (m.toNat - (k + 1))
          case measure => omega
          case rel => exact ⟨k + 1, by omega, Nat.le_refl _, by go_num, by clear hg; exact (by repeat (first | exact Gr.refl _ | refine Gr.setCell ?_ _ _ (by first | exact Nat.le_refl _ | (simp; omega) | (simp; done)) | refine Gr.grown ?_ _ _ | refine Gr.drewN ?_ _ | refine Gr.drew ?_ | refine Gr.alloc ?_ _ | refine Gr.grow ?_ _ | (refine Gr.trans ?_ (by assumption)))), R4', .inl ⟨by omega, rfl, B4⟩⟩
        · obtain rfl : k = M := by omega
          have S := Lib.hid hd.last
          go_wp2_with (first | (go_at_call 16; (with_reducible refine (S.out _).mono ?_); rintro e wB ⟨rfl, hgB⟩; have B3 := B.gr hgB; have R3' := R.gr hgB; have G3 := hg.trans hgB; have B4 := B3.put 0 0 0 false; have R4' := (((R3'.set (b' := w.heap.size) (o := 0) (v := .int .i64 0) (by omega)).set (b' := w.heap.size) (o := 1) (v := .int .i64 0) (by omega)).set (b' := w.heap.size) (o := 2) (v := .bool false) (by omega)).set (b' := w.heap.size) (o := 3) (v := .int .i64 0) (by omega); clear lt c0 c1 c2 c3 f0 f1 f2 f3; obtain ⟨lt, c0, c1, c2, c3, f0, f1, f2, f3⟩ := B3; clear B R R3' hgB))
          go_roundg (m.toNat - (k + 1))
          case measure => omega
          case rel => exact ⟨k + 1, by omega, Nat.le_refl _, by go_num, by clear hg; exact (by repeat (first | exact Gr.refl _ | refine Gr.setCell ?_ _ _ (by first | exact Nat.le_refl _ | (simp; omega) | (simp; done)) | refine Gr.grown ?_ _ _ | refine Gr.drewN ?_ _ | refine Gr.drew ?_ | refine Gr.alloc ?_ _ | refine Gr.grow ?_ _ | (refine Gr.trans ?_ (by assumption)))), R4', .inr ⟨rfl, rfl, B4⟩⟩
      · have e' : (k : Int) = m := by omega
        have t : ¬ 0 < q - (k : Int) := by omega
        have t2 : ¬ q - (k : Int) < 0 := by omega
        obtain ⟨lr, r0, r1, r2, r3, g0, g1, g2, g3⟩ := R
        go_wp2
        refine wp_loop_rounds 1 ?_
        rw [rounds_succ]
        go_wp2
        rcases hr with ⟨h, rfl, rfl, rfl, rfl, rfl⟩ | ⟨h, -⟩
        · rw [show m.toNat = k by omega]
          exact bodyPost_ret (v := .tuple #[.agg #[.int .i64 (Y k), .int .i64 (N k), .bool (C k), .int .i64 (D k)], .int .i64 0]) (by simp [results, Tryd.results19, go_sem, *]) rfl ⟨rfl, (by repeat (first | exact Gr.refl _ | refine Gr.setCell ?_ _ _ (by first | exact Nat.le_refl _ | (simp; omega) | (simp; done)) | refine Gr.grown ?_ _ _ | refine Gr.drewN ?_ _ | refine Gr.drew ?_ | refine Gr.alloc ?_ _ | refine Gr.grow ?_ _ | (refine Gr.trans ?_ (by assumption))))⟩
        · omega
    · obtain ⟨lt, c0, c1, c2, c3, f0, f1, f2, f3⟩ := B
      obtain ⟨lr, r0, r1, r2, r3, g0, g1, g2, g3⟩ := R
      rcases hr with ⟨h, -⟩ | ⟨h, rfl, rfl, rfl, rfl, rfl⟩
      · omega
      · have t2 : ¬ q - ((M + 1 : Nat) : Int) < 0 := by omega
        by_cases e : ((M + 1 : Nat) : Int) < m
        · have t : 0 < q - ((M + 1 : Nat) : Int) := by omega
          go_wp2
          refine wp_loop_rounds 1 ?_
          rw [rounds_succ]
          go_wp2
          exact bodyPost_ret (v := .tuple #[.agg #[.int .i64 0, .int .i64 0, .bool false, .int .i64 0], .int .i64 2]) (by simp [results, Tryd.results19, go_sem, *]) rfl ⟨rfl, (by repeat (first | exact Gr.refl _ | refine Gr.setCell ?_ _ _ (by first | exact Nat.le_refl _ | (simp; omega) | (simp; done)) | refine Gr.grown ?_ _ _ | refine Gr.drewN ?_ _ | refine Gr.drew ?_ | refine Gr.alloc ?_ _ | refine Gr.grow ?_ _ | (refine Gr.trans ?_ (by assumption))))⟩
        · have t : ¬ 0 < q - ((M + 1 : Nat) : Int) := by omega
          go_wp2
          refine wp_loop_rounds 1 ?_
          rw [rounds_succ]
          go_wp2
          exact bodyPost_ret (v := .tuple #[.agg #[.int .i64 0, .int .i64 0, .bool false, .int .i64 0], .int .i64 2]) (by simp [results, Tryd.results19, go_sem, *]) rfl ⟨rfl, (by repeat (first | exact Gr.refl _ | refine Gr.setCell ?_ _ _ (by first | exact Nat.le_refl _ | (simp; omega) | (simp; done)) | refine Gr.grown ?_ _ _ | refine Gr.drewN ?_ _ | refine Gr.drew ?_ | refine Gr.alloc ?_ _ | refine Gr.grow ?_ _ | (refine Gr.trans ?_ (by assumption))))⟩

set_option maxRecDepth 20000 in
set_option maxHeartbeats 8000000 in
theorem r27steps_down (y n d q m : Int) (c : Bool) (M : Nat) (Y N D : Nat → Int) (C : Nat → Bool) (w : World) (hM : (M : Int) ≤ 4000000) (m0 : 0 < m) (m1 : m ≤ 3000) (hq : -q = m) (e1 : Y 0 = y) (e2 : N 0 = n) (e3 : C 0 = c) (e4 : D 0 = d)
    (hd : RDates 17 M Y N D C) (R1 R2 R4 RE : Int) (R3 : Bool)
    (c1 : ∀ W, Calls Tryd.prog 14 #[.agg #[.int .i64 y, .int .i64 n, .bool c, .int .i64 d]] W fun e w' => e = .returned (.int .i64 0) ∧ Gr W w')
    (hr : (m ≤ M ∧ R1 = Y m.toNat ∧ R2 = N m.toNat ∧ R3 = C m.toNat ∧ R4 = D m.toNat ∧ RE = 0) ∨ ((M : Int) < m ∧ R1 = 0 ∧ R2 = 0 ∧ R3 = false ∧ R4 = 0 ∧ RE = 2)) :
    Calls Tryd.prog 19 #[.agg #[.int .i64 y, .int .i64 n, .bool c, .int .i64 d], .int .i64 q] w fun e w' => e = .returned (.tuple #[.agg #[.int .i64 R1, .int .i64 R2, .bool R3, .int .i64 R4], .int .i64 RE]) ∧ Gr w w' := by
  have C1 := Lib.hid c1
  have q1 : ¬ q < -3000 := by omega
  have q2 : ¬ 3000 < q := by omega
  clear c1
  go_enter Tryd.func19, Tryd.ntmps19
  go_wp2_with (first | ((go_at_call 14; (with_reducible refine (C1.out _).mono ?_); rintro e wA ⟨rfl, hgwA⟩); have DA := (D4.two w y n d c).1.gr hgwA; have RA := (D4.two w y n d c).2.gr hgwA; have GA : Gr w wA := (by repeat (first | exact Gr.refl _ | refine Gr.setCell ?_ _ _ (by first | exact Nat.le_refl _ | (simp; omega) | (simp; done)) | refine Gr.grown ?_ _ _ | refine Gr.drewN ?_ _ | refine Gr.drew ?_ | refine Gr.alloc ?_ _ | refine Gr.grow ?_ _ | (refine Gr.trans ?_ (by assumption)))); clear hgwA))
  have q3 : ¬ 0 < q := by omega
  refine wp_loop_rounds 1 ?_
  rw [rounds_succ]
  go_wp2
  go_loopg [1, 6] m.toNat (fun kx s1 s6 wr => ∃ k : Nat, (k : Int) ≤ m ∧ m.toNat - k ≤ kx ∧ s1 = .int .i64 (q + (k : Int)) ∧ Gr w wr ∧ D4 wr (w.heap.size + 1) 0 0 false 0 ∧ ((k ≤ M ∧ s6 = .int .i64 0 ∧ D4 wr w.heap.size (Y k) (N k) (C k) (D k)) ∨ (k = M + 1 ∧ s6 = .int .i64 2 ∧ D4 wr w.heap.size 0 0 false 0)))
  case atStart => exact ⟨0, by omega, by omega, by go_num, GA, RA, .inl ⟨by omega, rfl, by rw [e1, e2, e3, e4]; exact DA⟩⟩
  case round =>
    obtain ⟨k, hk, hm, rfl, hg, R, (⟨hkM, rfl, B⟩ | ⟨rfl, rfl, B⟩)⟩ := hrel
    · have B2 := B
      obtain ⟨lt, c0, c1, c2, c3, f0, f1, f2, f3⟩ := B2
      by_cases e : (k : Int) < m
      · have t : q + (k : Int) < 0 := by omega
        by_cases g : k < M
        · have S := Lib.hid (hd.step k g)
          go_wp2_with (first | (go_at_call 17; (with_reducible refine (S.out _).mono ?_); rintro e wB ⟨rfl, hgB⟩; have B3 := B.gr hgB; have R3' := R.gr hgB; have G3 := hg.trans hgB; have B4 := B3.put (Y (k + 1)) (N (k + 1)) (D (k + 1)) (C (k + 1)); have R4' := (((R3'.set (b' := w.heap.size) (o := 0) (v := .int .i64 (Y (k + 1))) (by omega)).set (b' := w.heap.size) (o := 1) (v := .int .i64 (N (k + 1))) (by omega)).set (b' := w.heap.size) (o := 2) (v := .bool (C (k + 1))) (by omega)).set (b' := w.heap.size) (o := 3) (v := .int .i64 (D (k + 1))) (by omega); clear lt c0 c1 c2 c3 f0 f1 f2 f3; obtain ⟨lt, c0, c1, c2, c3, f0, f1, f2, f3⟩ := B3; clear B R R3' hgB))
          go_roundg (m.toNat - (k + 1))
          case measure => omega
          case rel => exact ⟨k + 1, by omega, Nat.le_refl _, by go_num, by clear hg; exact (by repeat (first | exact Gr.refl _ | refine Gr.setCell ?_ _ _ (by first | exact Nat.le_refl _ | (simp; omega) | (simp; done)) | refine Gr.grown ?_ _ _ | refine Gr.drewN ?_ _ | refine Gr.drew ?_ | refine Gr.alloc ?_ _ | refine Gr.grow ?_ _ | (refine Gr.trans ?_ (by assumption)))), R4', .inl ⟨by omega, rfl, B4⟩⟩
        · obtain rfl : k = M := by omega
          have S := Lib.hid hd.last
          go_wp2_with (first | (go_at_call 17; (with_reducible refine (S.out _).mono ?_); rintro e wB ⟨rfl, hgB⟩; have B3 := B.gr hgB; have R3' := R.gr hgB; have G3 := hg.trans hgB; have B4 := B3.put 0 0 0 false; have R4' := (((R3'.set (b' := w.heap.size) (o := 0) (v := .int .i64 0) (by omega)).set (b' := w.heap.size) (o := 1) (v := .int .i64 0) (by omega)).set (b' := w.heap.size) (o := 2) (v := .bool false) (by omega)).set (b' := w.heap.size) (o := 3) (v := .int .i64 0) (by omega); clear lt c0 c1 c2 c3 f0 f1 f2 f3; obtain ⟨lt, c0, c1, c2, c3, f0, f1, f2, f3⟩ := B3; clear B R R3' hgB))
          go_roundg (m.toNat - (k + 1))
          case measure => omega
          case rel => exact ⟨k + 1, by omega, Nat.le_refl _, by go_num, by clear hg; exact (by repeat (first | exact Gr.refl _ | refine Gr.setCell ?_ _ _ (by first | exact Nat.le_refl _ | (simp; omega) | (simp; done)) | refine Gr.grown ?_ _ _ | refine Gr.drewN ?_ _ | refine Gr.drew ?_ | refine Gr.alloc ?_ _ | refine Gr.grow ?_ _ | (refine Gr.trans ?_ (by assumption)))), R4', .inr ⟨rfl, rfl, B4⟩⟩
      · have e' : (k : Int) = m := by omega
        have t : ¬ q + (k : Int) < 0 := by omega
        skip
        obtain ⟨lr, r0, r1, r2, r3, g0, g1, g2, g3⟩ := R
        go_wp2
        skip
        rcases hr with ⟨h, rfl, rfl, rfl, rfl, rfl⟩ | ⟨h, -⟩
        · rw [show m.toNat = k by omega]
          exact bodyPost_ret (v := .tuple #[.agg #[.int .i64 (Y k), .int .i64 (N k), .bool (C k), .int .i64 (D k)], .int .i64 0]) (by simp [results, Tryd.results19, go_sem, *]) rfl ⟨rfl, (by repeat (first | exact Gr.refl _ | refine Gr.setCell ?_ _ _ (by first | exact Nat.le_refl _ | (simp; omega) | (simp; done)) | refine Gr.grown ?_ _ _ | refine Gr.drewN ?_ _ | refine Gr.drew ?_ | refine Gr.alloc ?_ _ | refine Gr.grow ?_ _ | (refine Gr.trans ?_ (by assumption))))⟩
        · omega
    · obtain ⟨lt, c0, c1, c2, c3, f0, f1, f2, f3⟩ := B
      obtain ⟨lr, r0, r1, r2, r3, g0, g1, g2, g3⟩ := R
      rcases hr with ⟨h, -⟩ | ⟨h, rfl, rfl, rfl, rfl, rfl⟩
      · omega
      · skip
        by_cases e : ((M + 1 : Nat) : Int) < m
        · have t : q + ((M + 1 : Nat) : Int) < 0 := by omega
          go_wp2
          skip
          exact bodyPost_ret (v := .tuple #[.agg #[.int .i64 0, .int .i64 0, .bool false, .int .i64 0], .int .i64 2]) (by simp [results, Tryd.results19, go_sem, *]) rfl ⟨rfl, (by repeat (first | exact Gr.refl _ | refine Gr.setCell ?_ _ _ (by first | exact Nat.le_refl _ | (simp; omega) | (simp; done)) | refine Gr.grown ?_ _ _ | refine Gr.drewN ?_ _ | refine Gr.drew ?_ | refine Gr.alloc ?_ _ | refine Gr.grow ?_ _ | (refine Gr.trans ?_ (by assumption))))⟩
        · have t : ¬ q + ((M + 1 : Nat) : Int) < 0 := by omega
          go_wp2
          skip
          exact bodyPost_ret (v := .tuple #[.agg #[.int .i64 0, .int .i64 0, .bool false, .int .i64 0], .int .i64 2]) (by simp [results, Tryd.results19, go_sem, *]) rfl ⟨rfl, (by repeat (first | exact Gr.refl _ | refine Gr.setCell ?_ _ _ (by first | exact Nat.le_refl _ | (simp; omega) | (simp; done)) | refine Gr.grown ?_ _ _ | refine Gr.drewN ?_ _ | refine Gr.drew ?_ | refine Gr.alloc ?_ _ | refine Gr.grow ?_ _ | (refine Gr.trans ?_ (by assumption))))⟩

end Go.Proofs.YtbalbkkimlbecaaDoor.Walks
