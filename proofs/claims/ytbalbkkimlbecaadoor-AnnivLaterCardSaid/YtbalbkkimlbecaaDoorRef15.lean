/- Walks of almanackerref15: a code brought into a year, the month so many months away, a day fitted into a month. -/
import Derived.Test.YtbalbkkimlbecaaDoorShift3
import Derived.Test.YtbalbkkimlbecaaDoorRef10
set_option linter.unusedVariables false
set_option linter.unusedSimpArgs false
namespace Go.Proofs.YtbalbkkimlbecaaDoor.Walks
open Go Go.RowKit Go.Sort Go.Proofs.YtbalbkkimlbecaaDoor.Base Go.Proofs.YtbalbkkimlbecaaDoor.Plain Go.Proofs.YtbalbkkimlbecaaDoor.Math

theorem rmode_c (m : Int) (w : World) : Calls Tryd.prog 95 #[.int .i64 m] w fun e w' => e = .returned (.bool (decide (m = 0 ∨ m = 1))) ∧ Gr w w' := by
  by_cases h : m = 0
  · subst h
    go_enter Tryd.func95, Tryd.ntmps95
    go_wp2
    go_ret
    exact ⟨rfl, (by repeat (first | exact Gr.refl _ | refine Gr.setCell ?_ _ _ (by first | exact Nat.le_refl _ | (simp; omega) | (simp; done)) | refine Gr.grown ?_ _ _ | refine Gr.drewN ?_ _ | refine Gr.drew ?_ | refine Gr.alloc ?_ _ | refine Gr.grow ?_ _ | (refine Gr.trans ?_ (by assumption))))⟩
  · have q : (m == 0) = false := beq_eq_false_iff_ne.2 h
    have E : RowKit.Hid ((m == 1) = decide (m = 0 ∨ m = 1)) := Lib.hid (by
      by_cases g : m = 1
      · subst g; decide
      · rw [decide_eq_false (by omega)]; exact beq_eq_false_iff_ne.2 g)
    obtain ⟨B, hB⟩ : ∃ B, decide (m = 0 ∨ m = 1) = B := ⟨_, rfl⟩
    rw [hB] at E ⊢
    clear hB h
    go_enter Tryd.func95, Tryd.ntmps95
    go_wp2
    go_ret
    exact ⟨retb E.out, (by repeat (first | exact Gr.refl _ | refine Gr.setCell ?_ _ _ (by first | exact Nat.le_refl _ | (simp; omega) | (simp; done)) | refine Gr.grown ?_ _ _ | refine Gr.drewN ?_ _ | refine Gr.drew ?_ | refine Gr.alloc ?_ _ | refine Gr.grow ?_ _ | (refine Gr.trans ?_ (by assumption))))⟩

set_option maxHeartbeats 2000000 in
theorem rinto_mode (y n m : Int) (c : Bool) (w : World) (h : ¬ (m = 0 ∨ m = 1)) :
    Calls Tryd.prog 63 #[.int .i64 y, .agg #[.int .i64 n, .bool c], .int .i64 m] w fun e w' => e = .returned (.tuple #[.agg #[.int .i64 0, .bool false], .int .i64 1]) ∧ Gr w w' := by
  have c1 := fun w => rmode_c m w
  rw [decide_eq_false h] at c1
  have C1 := Lib.hid c1
  clear c1 h
  go_enter Tryd.func63, Tryd.ntmps63
  go_wp2_with (first | ((go_at_call 95; (with_reducible refine (C1.out _).mono ?_); rintro e wA ⟨rfl, hgwA⟩); obtain ⟨lt, c0, c1, f0, f1⟩ := (ZC.at (w := w.alloc (.cells #[.int .i64 n, .bool c] 23)) (b := w.heap.size + 1) (by simp)).gr hgwA))
  exact bodyPost_ret (v := .tuple #[.agg #[.int .i64 0, .bool false], .int .i64 1]) (by simp [results, Tryd.results63, go_sem, *]) rfl ⟨rfl, (by repeat (first | exact Gr.refl _ | refine Gr.setCell ?_ _ _ (by first | exact Nat.le_refl _ | (simp; omega) | (simp; done)) | refine Gr.grown ?_ _ _ | refine Gr.drewN ?_ _ | refine Gr.drew ?_ | refine Gr.alloc ?_ _ | refine Gr.grow ?_ _ | (refine Gr.trans ?_ (by assumption))))⟩
set_option maxHeartbeats 2000000 in
theorem rinto_y (y n m : Int) (c : Bool) (w : World) (h : m = 0 ∨ m = 1) (hy : ¬ (1 ≤ y ∧ y ≤ 9999)) :
    Calls Tryd.prog 63 #[.int .i64 y, .agg #[.int .i64 n, .bool c], .int .i64 m] w fun e w' => e = .returned (.tuple #[.agg #[.int .i64 0, .bool false], .int .i64 2]) ∧ Gr w w' := by
  have c1 := fun w => rmode_c m w
  rw [decide_eq_true h] at c1
  have c2 := fun w => rright7_c y w
  rw [show kyR y = false from decide_eq_false hy] at c2
  have C1 := Lib.hid c1
  have C2 := Lib.hid c2
  clear c1 c2 h hy
  go_enter Tryd.func63, Tryd.ntmps63
  go_wp2_with (first | ((go_at_call 95; (with_reducible refine (C1.out _).mono ?_); rintro e wA ⟨rfl, hgwA⟩); have Z := (ZC.at (w := w.alloc (.cells #[.int .i64 n, .bool c] 23)) (b := w.heap.size + 1) (by simp)).gr hgwA; have GA : Gr w wA := ((by repeat (first | exact Gr.refl _ | refine Gr.setCell ?_ _ _ (by first | exact Nat.le_refl _ | (simp; omega) | (simp; done)) | refine Gr.grown ?_ _ _ | refine Gr.drewN ?_ _ | refine Gr.drew ?_ | refine Gr.alloc ?_ _ | refine Gr.grow ?_ _ | (refine Gr.trans ?_ (by assumption))))); clear hgwA) | ((go_at_call 58; (with_reducible refine (C2.out _).mono ?_); rintro e wB ⟨rfl, hgwB⟩); obtain ⟨lt, c0, c1, f0, f1⟩ := Z.gr hgwB))
  exact bodyPost_ret (v := .tuple #[.agg #[.int .i64 0, .bool false], .int .i64 2]) (by simp [results, Tryd.results63, go_sem, *]) rfl ⟨rfl, (by repeat (first | exact Gr.refl _ | refine Gr.setCell ?_ _ _ (by first | exact Nat.le_refl _ | (simp; omega) | (simp; done)) | refine Gr.grown ?_ _ _ | refine Gr.drewN ?_ _ | refine Gr.drew ?_ | refine Gr.alloc ?_ _ | refine Gr.grow ?_ _ | (refine Gr.trans ?_ (by assumption))))⟩
set_option maxHeartbeats 2000000 in
theorem rinto_c3 (y n m : Int) (c : Bool) (w : World) (h : m = 0 ∨ m = 1) (hy : 1 ≤ y ∧ y ≤ 9999) (hc : cR n c = false) :
    Calls Tryd.prog 63 #[.int .i64 y, .agg #[.int .i64 n, .bool c], .int .i64 m] w fun e w' => e = .returned (.tuple #[.agg #[.int .i64 0, .bool false], .int .i64 3]) ∧ Gr w w' := by
  have c1 := fun w => rmode_c m w
  rw [decide_eq_true h] at c1
  have c2 := fun w => rright7_c y w
  rw [show kyR y = true from decide_eq_true hy] at c2
  have c3 := fun w => rright9_c n c w
  rw [hc] at c3
  have C1 := Lib.hid c1
  have C2 := Lib.hid c2
  have C3 := Lib.hid c3
  clear c1 c2 c3 h hy hc
  go_enter Tryd.func63, Tryd.ntmps63
  go_wp2_with (first | ((go_at_call 95; (with_reducible refine (C1.out _).mono ?_); rintro e wA ⟨rfl, hgwA⟩); have Z := (ZC.at (w := w.alloc (.cells #[.int .i64 n, .bool c] 23)) (b := w.heap.size + 1) (by simp)).gr hgwA; have c0 := hgwA.keep (b := w.heap.size) (o := 0) (v := .int .i64 n) (by first | (simp; done) | (simp; omega)) (by simp [go_sem]); have c1 := hgwA.keep (b := w.heap.size) (o := 1) (v := .bool c) (by first | (simp; done) | (simp; omega)) (by simp [go_sem]); have hl := hgwA.lt (b := w.heap.size) (by simp; omega); have GA : Gr w wA := ((by repeat (first | exact Gr.refl _ | refine Gr.setCell ?_ _ _ (by first | exact Nat.le_refl _ | (simp; omega) | (simp; done)) | refine Gr.grown ?_ _ _ | refine Gr.drewN ?_ _ | refine Gr.drew ?_ | refine Gr.alloc ?_ _ | refine Gr.grow ?_ _ | (refine Gr.trans ?_ (by assumption))))); clear hgwA) | ((go_at_call 58; (with_reducible refine (C2.out _).mono ?_); rintro e wB ⟨rfl, hgwB⟩); have ZB := Z.gr hgwB; have x0 := hgwB.keep hl c0; have x1 := hgwB.keep hl c1) | ((go_at_call 96; (with_reducible refine (C3.out _).mono ?_); rintro e wC ⟨rfl, hgwC⟩); obtain ⟨lt, c0, c1, f0, f1⟩ := ZB.gr hgwC))
  exact bodyPost_ret (v := .tuple #[.agg #[.int .i64 0, .bool false], .int .i64 3]) (by simp [results, Tryd.results63, go_sem, *]) rfl ⟨rfl, (by repeat (first | exact Gr.refl _ | refine Gr.setCell ?_ _ _ (by first | exact Nat.le_refl _ | (simp; omega) | (simp; done)) | refine Gr.grown ?_ _ _ | refine Gr.drewN ?_ _ | refine Gr.drew ?_ | refine Gr.alloc ?_ _ | refine Gr.grow ?_ _ | (refine Gr.trans ?_ (by assumption))))⟩
set_option maxHeartbeats 4000000 in
theorem rinto_at (y n m : Int) (c : Bool) (w : World) (h : m = 0 ∨ m = 1) (hy : 1 ≤ y ∧ y ≤ 9999) (hc : cR n c = true) :
    Calls Tryd.prog 63 #[.int .i64 y, .agg #[.int .i64 n, .bool c], .int .i64 m] w fun e w' => e = .returned (.tuple #[.agg #[.int .i64 (inNum y n c m), .bool (inLp y n c m)], .int .i64 (inE y n c m)]) ∧ Gr w w' := by
  have c1 := fun w => rmode_c m w
  rw [decide_eq_true h] at c1
  have c2 := fun w => rright7_c y w
  rw [show kyR y = true from decide_eq_true hy] at c2
  have c3 := fun w => rright9_c n c w
  rw [hc] at c3
  have C1 := Lib.hid c1
  have C2 := Lib.hid c2
  have C3 := Lib.hid c3
  have C4 := Lib.hid fun w => ris_c y w (by omega) (by omega)
  have nr : c = true → n = 5 := fun e => by unfold cR at hc; have := of_decide_eq_true hc; rw [e] at this; simpa using this.2.2
  have hE : inE y n c m = if cHas (lp y) n c = true then 0 else if m = 1 then 7 else 0 := by unfold inE; rw [if_pos h, if_pos hy, if_pos hc]
  unfold inNum inLp
  rw [hE]
  have hH : cHas (lp y) n c = (lp y || !c) := by unfold cHas; rw [hc]; rfl
  rw [hH]
  obtain ⟨l, hl⟩ : ∃ l, lp y = l := ⟨_, rfl⟩
  rw [hl] at C4 ⊢
  clear c1 c2 c3 hy hc hl hE hH
  cases c
  · simp only [Bool.not_false, Bool.or_true, if_true]
    clear nr
    go_enter Tryd.func63, Tryd.ntmps63
    go_wp2_with (first | ((go_at_call 95; (with_reducible refine (C1.out _).mono ?_); rintro e wA ⟨rfl, hgwA⟩); have Z := (ZC.at (w := w.alloc (.cells #[.int .i64 n, .bool false] 23)) (b := w.heap.size + 1) (by simp)).gr hgwA; have c0 := hgwA.keep (b := w.heap.size) (o := 0) (v := .int .i64 n) (by first | (simp; done) | (simp; omega)) (by simp [go_sem]); have c1 := hgwA.keep (b := w.heap.size) (o := 1) (v := .bool false) (by first | (simp; done) | (simp; omega)) (by simp [go_sem]); have hl := hgwA.lt (b := w.heap.size) (by simp; omega); have GA : Gr w wA := ((by repeat (first | exact Gr.refl _ | refine Gr.setCell ?_ _ _ (by first | exact Nat.le_refl _ | (simp; omega) | (simp; done)) | refine Gr.grown ?_ _ _ | refine Gr.drewN ?_ _ | refine Gr.drew ?_ | refine Gr.alloc ?_ _ | refine Gr.grow ?_ _ | (refine Gr.trans ?_ (by assumption))))); clear hgwA) | ((go_at_call 58; (with_reducible refine (C2.out _).mono ?_); rintro e wB ⟨rfl, hgwB⟩); have ZB := Z.gr hgwB; have x0 := hgwB.keep hl c0; have x1 := hgwB.keep hl c1; have hl2 := hgwB.lt hl) | ((go_at_call 96; (with_reducible refine (C3.out _).mono ?_); rintro e wC ⟨rfl, hgwC⟩); obtain ⟨lt, c0, c1, f0, f1⟩ := ZB.gr hgwC; have u0 := hgwC.keep hl2 x0; have u1 := hgwC.keep hl2 x1))
    exact bodyPost_ret (v := .tuple #[.agg #[.int .i64 n, .bool false], .int .i64 0]) (by simp [results, Tryd.results63, go_sem, *]) rfl ⟨rfl, (by repeat (first | exact Gr.refl _ | refine Gr.setCell ?_ _ _ (by first | exact Nat.le_refl _ | (simp; omega) | (simp; done)) | refine Gr.grown ?_ _ _ | refine Gr.drewN ?_ _ | refine Gr.drew ?_ | refine Gr.alloc ?_ _ | refine Gr.grow ?_ _ | (refine Gr.trans ?_ (by assumption))))⟩
  · obtain rfl := nr rfl
    clear nr
    cases l
    · rcases h with rfl | rfl
      · simp only [Bool.not_true, Bool.or_false, Bool.false_eq_true, if_false, if_true, show ¬ ((0 : Int) = 1) from by decide]
        go_enter Tryd.func63, Tryd.ntmps63
        go_wp2_with (first | ((go_at_call 95; (with_reducible refine (C1.out _).mono ?_); rintro e wA ⟨rfl, hgwA⟩); have Z := (ZC.at (w := w.alloc (.cells #[.int .i64 5, .bool true] 23)) (b := w.heap.size + 1) (by simp)).gr hgwA; have c0 := hgwA.keep (b := w.heap.size) (o := 0) (v := .int .i64 5) (by first | (simp; done) | (simp; omega)) (by simp [go_sem]); have c1 := hgwA.keep (b := w.heap.size) (o := 1) (v := .bool true) (by first | (simp; done) | (simp; omega)) (by simp [go_sem]); have hl := hgwA.lt (b := w.heap.size) (by simp; omega); have GA : Gr w wA := ((by repeat (first | exact Gr.refl _ | refine Gr.setCell ?_ _ _ (by first | exact Nat.le_refl _ | (simp; omega) | (simp; done)) | refine Gr.grown ?_ _ _ | refine Gr.drewN ?_ _ | refine Gr.drew ?_ | refine Gr.alloc ?_ _ | refine Gr.grow ?_ _ | (refine Gr.trans ?_ (by assumption))))); clear hgwA) | ((go_at_call 58; (with_reducible refine (C2.out _).mono ?_); rintro e wB ⟨rfl, hgwB⟩); have ZB := Z.gr hgwB; have x0 := hgwB.keep hl c0; have x1 := hgwB.keep hl c1; have hl2 := hgwB.lt hl) | ((go_at_call 96; (with_reducible refine (C3.out _).mono ?_); rintro e wC ⟨rfl, hgwC⟩); have ZC2 := ZB.gr hgwC; have u0 := hgwC.keep hl2 x0; have u1 := hgwC.keep hl2 x1; have hl3 := hgwC.lt hl2) | ((go_at_call 69; (with_reducible refine (C4.out _).mono ?_); rintro e wD ⟨rfl, hgwD⟩); obtain ⟨lt, c0, c1, f0, f1⟩ := ZC2.gr hgwD; have v0 := hgwD.keep hl3 u0; have v1 := hgwD.keep hl3 u1))
        exact bodyPost_ret (v := .tuple #[.agg #[.int .i64 6, .bool false], .int .i64 0]) (by simp [results, Tryd.results63, go_sem, *]) rfl ⟨rfl, (by repeat (first | exact Gr.refl _ | refine Gr.setCell ?_ _ _ (by first | exact Nat.le_refl _ | (simp; omega) | (simp; done)) | refine Gr.grown ?_ _ _ | refine Gr.drewN ?_ _ | refine Gr.drew ?_ | refine Gr.alloc ?_ _ | refine Gr.grow ?_ _ | (refine Gr.trans ?_ (by assumption))))⟩
      · simp only [Bool.not_true, Bool.or_false, Bool.false_eq_true, if_false, if_true, show ¬ ((7 : Int) = 0) from by decide]
        go_enter Tryd.func63, Tryd.ntmps63
        go_wp2_with (first | ((go_at_call 95; (with_reducible refine (C1.out _).mono ?_); rintro e wA ⟨rfl, hgwA⟩); have Z := (ZC.at (w := w.alloc (.cells #[.int .i64 5, .bool true] 23)) (b := w.heap.size + 1) (by simp)).gr hgwA; have c0 := hgwA.keep (b := w.heap.size) (o := 0) (v := .int .i64 5) (by first | (simp; done) | (simp; omega)) (by simp [go_sem]); have c1 := hgwA.keep (b := w.heap.size) (o := 1) (v := .bool true) (by first | (simp; done) | (simp; omega)) (by simp [go_sem]); have hl := hgwA.lt (b := w.heap.size) (by simp; omega); have GA : Gr w wA := ((by repeat (first | exact Gr.refl _ | refine Gr.setCell ?_ _ _ (by first | exact Nat.le_refl _ | (simp; omega) | (simp; done)) | refine Gr.grown ?_ _ _ | refine Gr.drewN ?_ _ | refine Gr.drew ?_ | refine Gr.alloc ?_ _ | refine Gr.grow ?_ _ | (refine Gr.trans ?_ (by assumption))))); clear hgwA) | ((go_at_call 58; (with_reducible refine (C2.out _).mono ?_); rintro e wB ⟨rfl, hgwB⟩); have ZB := Z.gr hgwB; have x0 := hgwB.keep hl c0; have x1 := hgwB.keep hl c1; have hl2 := hgwB.lt hl) | ((go_at_call 96; (with_reducible refine (C3.out _).mono ?_); rintro e wC ⟨rfl, hgwC⟩); have ZC2 := ZB.gr hgwC; have u0 := hgwC.keep hl2 x0; have u1 := hgwC.keep hl2 x1; have hl3 := hgwC.lt hl2) | ((go_at_call 69; (with_reducible refine (C4.out _).mono ?_); rintro e wD ⟨rfl, hgwD⟩); obtain ⟨lt, c0, c1, f0, f1⟩ := ZC2.gr hgwD; have v0 := hgwD.keep hl3 u0; have v1 := hgwD.keep hl3 u1))
        exact bodyPost_ret (v := .tuple #[.agg #[.int .i64 0, .bool false], .int .i64 7]) (by simp [results, Tryd.results63, go_sem, *]) rfl ⟨rfl, (by repeat (first | exact Gr.refl _ | refine Gr.setCell ?_ _ _ (by first | exact Nat.le_refl _ | (simp; omega) | (simp; done)) | refine Gr.grown ?_ _ _ | refine Gr.drewN ?_ _ | refine Gr.drew ?_ | refine Gr.alloc ?_ _ | refine Gr.grow ?_ _ | (refine Gr.trans ?_ (by assumption))))⟩
    · simp only [Bool.not_true, Bool.or_false, if_true]
      go_enter Tryd.func63, Tryd.ntmps63
      go_wp2_with (first | ((go_at_call 95; (with_reducible refine (C1.out _).mono ?_); rintro e wA ⟨rfl, hgwA⟩); have Z := (ZC.at (w := w.alloc (.cells #[.int .i64 5, .bool true] 23)) (b := w.heap.size + 1) (by simp)).gr hgwA; have c0 := hgwA.keep (b := w.heap.size) (o := 0) (v := .int .i64 5) (by first | (simp; done) | (simp; omega)) (by simp [go_sem]); have c1 := hgwA.keep (b := w.heap.size) (o := 1) (v := .bool true) (by first | (simp; done) | (simp; omega)) (by simp [go_sem]); have hl := hgwA.lt (b := w.heap.size) (by simp; omega); have GA : Gr w wA := ((by repeat (first | exact Gr.refl _ | refine Gr.setCell ?_ _ _ (by first | exact Nat.le_refl _ | (simp; omega) | (simp; done)) | refine Gr.grown ?_ _ _ | refine Gr.drewN ?_ _ | refine Gr.drew ?_ | refine Gr.alloc ?_ _ | refine Gr.grow ?_ _ | (refine Gr.trans ?_ (by assumption))))); clear hgwA) | ((go_at_call 58; (with_reducible refine (C2.out _).mono ?_); rintro e wB ⟨rfl, hgwB⟩); have ZB := Z.gr hgwB; have x0 := hgwB.keep hl c0; have x1 := hgwB.keep hl c1; have hl2 := hgwB.lt hl) | ((go_at_call 96; (with_reducible refine (C3.out _).mono ?_); rintro e wC ⟨rfl, hgwC⟩); have ZC2 := ZB.gr hgwC; have u0 := hgwC.keep hl2 x0; have u1 := hgwC.keep hl2 x1; have hl3 := hgwC.lt hl2) | ((go_at_call 69; (with_reducible refine (C4.out _).mono ?_); rintro e wD ⟨rfl, hgwD⟩); obtain ⟨lt, c0, c1, f0, f1⟩ := ZC2.gr hgwD; have v0 := hgwD.keep hl3 u0; have v1 := hgwD.keep hl3 u1))
      exact bodyPost_ret (v := .tuple #[.agg #[.int .i64 5, .bool true], .int .i64 0]) (by simp [results, Tryd.results63, go_sem, *]) rfl ⟨rfl, (by repeat (first | exact Gr.refl _ | refine Gr.setCell ?_ _ _ (by first | exact Nat.le_refl _ | (simp; omega) | (simp; done)) | refine Gr.grown ?_ _ _ | refine Gr.drewN ?_ _ | refine Gr.drew ?_ | refine Gr.alloc ?_ _ | refine Gr.grow ?_ _ | (refine Gr.trans ?_ (by assumption))))⟩
theorem rinto_c (y n m : Int) (c : Bool) (w : World) :
    Calls Tryd.prog 63 #[.int .i64 y, .agg #[.int .i64 n, .bool c], .int .i64 m] w fun e w' => e = .returned (.tuple #[.agg #[.int .i64 (inNum y n c m), .bool (inLp y n c m)], .int .i64 (inE y n c m)]) ∧ Gr w w' := by
  by_cases hm : m = 0 ∨ m = 1
  · by_cases hy : 1 ≤ y ∧ y ≤ 9999
    · cases hc : cR n c
      · have e : inE y n c m = 3 := by unfold inE; rw [if_pos hm, if_pos hy, if_neg (by rw [hc]; decide)]
        unfold inNum inLp
        rw [e]
        exact rinto_c3 y n m c w hm hy hc
      · exact rinto_at y n m c w hm hy hc
    · have e : inE y n c m = 2 := by unfold inE; rw [if_pos hm, if_neg hy]
      unfold inNum inLp
      rw [e]
      exact rinto_y y n m c w hm hy
  · have e : inE y n c m = 1 := by unfold inE; rw [if_neg hm]
    unfold inNum inLp
    rw [e]
    exact rinto_mode y n m c w hm


end Go.Proofs.YtbalbkkimlbecaaDoor.Walks
