/- Walks of almanackerref15: a code brought into a year, the month so many months away, a day fitted into a month. -/
import Derived.Test.YtkiopgegdkeojaaGreatDoorShift3
import Derived.Test.YtkiopgegdkeojaaGreatDoorRef10
set_option linter.unusedVariables false
set_option linter.unusedSimpArgs false
namespace Go.Proofs.YtkiopgegdkeojaaGreatDoor.Walks
open Go Go.RowKit Go.Sort Go.Proofs.YtkiopgegdkeojaaGreatDoor.Base Go.Proofs.YtkiopgegdkeojaaGreatDoor.Plain Go.Proofs.YtkiopgegdkeojaaGreatDoor.Math

theorem rmode_c (m : Int) (w : World) : Calls Tryz.prog 46 #[.int .i64 m] w fun e w' => e = .returned (.bool (decide (m = 0 ∨ m = 1))) ∧ Gr w w' := by
  by_cases h : m = 0
  · subst h
    go_enter Tryz.func46, Tryz.ntmps46
    go_wp2
    go_ret
    exact ⟨rfl, (by repeat (first | exact Gr.refl _ | refine Gr.setCell ?_ _ _ (by first | exact Nat.le_refl _ | (simp; omega) | (simp; done)) | refine Gr.grown ?_ _ _ | refine Gr.drewN ?_ _ | refine Gr.drew ?_ | refine Gr.alloc ?_ _ | refine Gr.grow ?_ _ | (refine Gr.trans ?_ (by assumption))))⟩
  · have q : (m == 0) = false := beq_eq_false_iff_ne.2 h
    have E : RowKit.Hid ((m == 1) = decide (m = 0 ∨ m = 1)) := Lib.hid (by
      by_cases g : m = 1
      · subst g; decide
      · rw [decide_eq_false (by omega)]; exact beq_eq_false_iff_ne.2 g)
    obtain ⟨B, hB⟩ : ∃ B, decide (m = 0 ∨ m = 1) = B := ⟨_, rfl⟩
    rw [hB] at E ⊢
    clear hB h
    go_enter Tryz.func46, Tryz.ntmps46
    go_wp2
    go_ret
    exact ⟨retb E.out, (by repeat (first | exact Gr.refl _ | refine Gr.setCell ?_ _ _ (by first | exact Nat.le_refl _ | (simp; omega) | (simp; done)) | refine Gr.grown ?_ _ _ | refine Gr.drewN ?_ _ | refine Gr.drew ?_ | refine Gr.alloc ?_ _ | refine Gr.grow ?_ _ | (refine Gr.trans ?_ (by assumption))))⟩

set_option maxHeartbeats 2000000 in
theorem rinto_mode (y n m : Int) (c : Bool) (w : World) (h : ¬ (m = 0 ∨ m = 1)) :
    Calls Tryz.prog 24 #[.int .i64 y, .agg #[.int .i64 n, .bool c], .int .i64 m] w fun e w' => e = .returned (.tuple #[.agg #[.int .i64 0, .bool false], .int .i64 1]) ∧ Gr w w' := by
  have c1 := fun w => rmode_c m w
  rw [decide_eq_false h] at c1
  have C1 := Lib.hid c1
  clear c1 h
  go_enter Tryz.func24, Tryz.ntmps24
  go_wp2_with (first | ((go_at_call 46; (with_reducible refine (C1.out _).mono ?_); rintro e wA ⟨rfl, hgwA⟩); obtain ⟨lt, c0, c1, f0, f1⟩ := (ZC.at (w := w.alloc (.cells #[.int .i64 n, .bool c] 23)) (b := w.heap.size + 1) (by simp)).gr hgwA))
  exact bodyPost_ret (v := .tuple #[.agg #[.int .i64 0, .bool false], .int .i64 1]) (by simp [results, Tryz.results24, go_sem, *]) rfl ⟨rfl, (by repeat (first | exact Gr.refl _ | refine Gr.setCell ?_ _ _ (by first | exact Nat.le_refl _ | (simp; omega) | (simp; done)) | refine Gr.grown ?_ _ _ | refine Gr.drewN ?_ _ | refine Gr.drew ?_ | refine Gr.alloc ?_ _ | refine Gr.grow ?_ _ | (refine Gr.trans ?_ (by assumption))))⟩
set_option maxHeartbeats 2000000 in
theorem rinto_y (y n m : Int) (c : Bool) (w : World) (h : m = 0 ∨ m = 1) (hy : ¬ (1 ≤ y ∧ y ≤ 9999)) :
    Calls Tryz.prog 24 #[.int .i64 y, .agg #[.int .i64 n, .bool c], .int .i64 m] w fun e w' => e = .returned (.tuple #[.agg #[.int .i64 0, .bool false], .int .i64 2]) ∧ Gr w w' := by
  have c1 := fun w => rmode_c m w
  rw [decide_eq_true h] at c1
  have c2 := fun w => rright7_c y w
  rw [show kyR y = false from decide_eq_false hy] at c2
  have C1 := Lib.hid c1
  have C2 := Lib.hid c2
  clear c1 c2 h hy
  go_enter Tryz.func24, Tryz.ntmps24
  go_wp2_with (first | ((go_at_call 46; (with_reducible refine (C1.out _).mono ?_); rintro e wA ⟨rfl, hgwA⟩); have Z := (ZC.at (w := w.alloc (.cells #[.int .i64 n, .bool c] 23)) (b := w.heap.size + 1) (by simp)).gr hgwA; have GA : Gr w wA := ((by repeat (first | exact Gr.refl _ | refine Gr.setCell ?_ _ _ (by first | exact Nat.le_refl _ | (simp; omega) | (simp; done)) | refine Gr.grown ?_ _ _ | refine Gr.drewN ?_ _ | refine Gr.drew ?_ | refine Gr.alloc ?_ _ | refine Gr.grow ?_ _ | (refine Gr.trans ?_ (by assumption))))); clear hgwA) | ((go_at_call 47; (with_reducible refine (C2.out _).mono ?_); rintro e wB ⟨rfl, hgwB⟩); obtain ⟨lt, c0, c1, f0, f1⟩ := Z.gr hgwB))
  exact bodyPost_ret (v := .tuple #[.agg #[.int .i64 0, .bool false], .int .i64 2]) (by simp [results, Tryz.results24, go_sem, *]) rfl ⟨rfl, (by repeat (first | exact Gr.refl _ | refine Gr.setCell ?_ _ _ (by first | exact Nat.le_refl _ | (simp; omega) | (simp; done)) | refine Gr.grown ?_ _ _ | refine Gr.drewN ?_ _ | refine Gr.drew ?_ | refine Gr.alloc ?_ _ | refine Gr.grow ?_ _ | (refine Gr.trans ?_ (by assumption))))⟩
set_option maxHeartbeats 2000000 in
theorem rinto_c3 (y n m : Int) (c : Bool) (w : World) (h : m = 0 ∨ m = 1) (hy : 1 ≤ y ∧ y ≤ 9999) (hc : cR n c = false) :
    Calls Tryz.prog 24 #[.int .i64 y, .agg #[.int .i64 n, .bool c], .int .i64 m] w fun e w' => e = .returned (.tuple #[.agg #[.int .i64 0, .bool false], .int .i64 3]) ∧ Gr w w' := by
  have c1 := fun w => rmode_c m w
  rw [decide_eq_true h] at c1
  have c2 := fun w => rright7_c y w
  rw [show kyR y = true from decide_eq_true hy] at c2
  have c3 := fun w => rright9_c n c w
  rw [hc] at c3
  have C1 := Lib.hid c1
  have C2 := Lib.hid c2
  have C3 := Lib.hid c3
  clear c1 c2 c3 h hy hc
  go_enter Tryz.func24, Tryz.ntmps24
  go_wp2_with (first | ((go_at_call 46; (with_reducible refine (C1.out _).mono ?_); rintro e wA ⟨rfl, hgwA⟩); have Z := (ZC.at (w := w.alloc (.cells #[.int .i64 n, .bool c] 23)) (b := w.heap.size + 1) (by simp)).gr hgwA; have c0 := hgwA.keep (b := w.heap.size) (o := 0) (v := .int .i64 n) (by first | (simp; done) | (simp; omega)) (by simp [go_sem]); have c1 := hgwA.keep (b := w.heap.size) (o := 1) (v := .bool c) (by first | (simp; done) | (simp; omega)) (by simp [go_sem]); have hl := hgwA.lt (b := w.heap.size) (by simp; omega); have GA : Gr w wA := ((by repeat (first | exact Gr.refl _ | refine Gr.setCell ?_ _ _ (by first | exact Nat.le_refl _ | (simp; omega) | (simp; done)) | refine Gr.grown ?_ _ _ | refine Gr.drewN ?_ _ | refine Gr.drew ?_ | refine Gr.alloc ?_ _ | refine Gr.grow ?_ _ | (refine Gr.trans ?_ (by assumption))))); clear hgwA) | ((go_at_call 47; (with_reducible refine (C2.out _).mono ?_); rintro e wB ⟨rfl, hgwB⟩); have ZB := Z.gr hgwB; have x0 := hgwB.keep hl c0; have x1 := hgwB.keep hl c1) | ((go_at_call 48; (with_reducible refine (C3.out _).mono ?_); rintro e wC ⟨rfl, hgwC⟩); obtain ⟨lt, c0, c1, f0, f1⟩ := ZB.gr hgwC))
  exact bodyPost_ret (v := .tuple #[.agg #[.int .i64 0, .bool false], .int .i64 3]) (by simp [results, Tryz.results24, go_sem, *]) rfl ⟨rfl, (by repeat (first | exact Gr.refl _ | refine Gr.setCell ?_ _ _ (by first | exact Nat.le_refl _ | (simp; omega) | (simp; done)) | refine Gr.grown ?_ _ _ | refine Gr.drewN ?_ _ | refine Gr.drew ?_ | refine Gr.alloc ?_ _ | refine Gr.grow ?_ _ | (refine Gr.trans ?_ (by assumption))))⟩
set_option maxHeartbeats 4000000 in
theorem rinto_at (y n m : Int) (c : Bool) (w : World) (h : m = 0 ∨ m = 1) (hy : 1 ≤ y ∧ y ≤ 9999) (hc : cR n c = true) :
    Calls Tryz.prog 24 #[.int .i64 y, .agg #[.int .i64 n, .bool c], .int .i64 m] w fun e w' => e = .returned (.tuple #[.agg #[.int .i64 (inNum y n c m), .bool (inLp y n c m)], .int .i64 (inE y n c m)]) ∧ Gr w w' := by
  have c1 := fun w => rmode_c m w
  rw [decide_eq_true h] at c1
  have c2 := fun w => rright7_c y w
  rw [show kyR y = true from decide_eq_true hy] at c2
  have c3 := fun w => rright9_c n c w
  rw [hc] at c3
  have C1 := Lib.hid c1
  have C2 := Lib.hid c2
  have C3 := Lib.hid c3
  have C4 := Lib.hid fun w => ris_c y w (by omega) (by omega)
  have nr : c = true → n = 5 := fun e => by unfold cR at hc; have := of_decide_eq_true hc; rw [e] at this; simpa using this.2.2
  have hE : inE y n c m = if cHas (lp y) n c = true then 0 else if m = 1 then 7 else 0 := by unfold inE; rw [if_pos h, if_pos hy, if_pos hc]
  unfold inNum inLp
  rw [hE]
  have hH : cHas (lp y) n c = (lp y || !c) := by unfold cHas; rw [hc]; rfl
  rw [hH]
  obtain ⟨l, hl⟩ : ∃ l, lp y = l := ⟨_, rfl⟩
  rw [hl] at C4 ⊢
  clear c1 c2 c3 hy hc hl hE hH
  cases c
  · simp only [Bool.not_false, Bool.or_true, if_true]
    clear nr
    go_enter Tryz.func24, Tryz.ntmps24
    go_wp2_with (first | ((go_at_call 46; (with_reducible refine (C1.out _).mono ?_); rintro e wA ⟨rfl, hgwA⟩); have Z := (ZC.at (w := w.alloc (.cells #[.int .i64 n, .bool false] 23)) (b := w.heap.size + 1) (by simp)).gr hgwA; have c0 := hgwA.keep (b := w.heap.size) (o := 0) (v := .int .i64 n) (by first | (simp; done) | (simp; omega)) (by simp [go_sem]); have c1 := hgwA.keep (b := w.heap.size) (o := 1) (v := .bool false) (by first | (simp; done) | (simp; omega)) (by simp [go_sem]); have hl := hgwA.lt (b := w.heap.size) (by simp; omega); have GA : Gr w wA := ((by repeat (first | exact Gr.refl _ | refine Gr.setCell ?_ _ _ (by first | exact Nat.le_refl _ | (simp; omega) | (simp; done)) | refine Gr.grown ?_ _ _ | refine Gr.drewN ?_ _ | refine Gr.drew ?_ | refine Gr.alloc ?_ _ | refine Gr.grow ?_ _ | (refine Gr.trans ?_ (by assumption))))); clear hgwA) | ((go_at_call 47; (with_reducible refine (C2.out _).mono ?_); rintro e wB ⟨rfl, hgwB⟩); have ZB := Z.gr hgwB; have x0 := hgwB.keep hl c0; have x1 := hgwB.keep hl c1; have hl2 := hgwB.lt hl) | ((go_at_call 48; (with_reducible refine (C3.out _).mono ?_); rintro e wC ⟨rfl, hgwC⟩); obtain ⟨lt, c0, c1, f0, f1⟩ := ZB.gr hgwC; have u0 := hgwC.keep hl2 x0; have u1 := hgwC.keep hl2 x1))
    exact bodyPost_ret (v := .tuple #[.agg #[.int .i64 n, .bool false], .int .i64 0]) (by simp [results, Tryz.results24, go_sem, *]) rfl ⟨rfl, (by repeat (first | exact Gr.refl _ | refine Gr.setCell ?_ _ _ (by first | exact Nat.le_refl _ | (simp; omega) | (simp; done)) | refine Gr.grown ?_ _ _ | refine Gr.drewN ?_ _ | refine Gr.drew ?_ | refine Gr.alloc ?_ _ | refine Gr.grow ?_ _ | (refine Gr.trans ?_ (by assumption))))⟩
  · obtain rfl := nr rfl
    clear nr
    cases l
    · rcases h with rfl | rfl
      · simp only [Bool.not_true, Bool.or_false, Bool.false_eq_true, if_false, if_true, show ¬ ((0 : Int) = 1) from by decide]
        go_enter Tryz.func24, Tryz.ntmps24
        go_wp2_with (first | ((go_at_call 46; (with_reducible refine (C1.out _).mono ?_); rintro e wA ⟨rfl, hgwA⟩); have Z := (ZC.at (w := w.alloc (.cells #[.int .i64 5, .bool true] 23)) (b := w.heap.size + 1) (by simp)).gr hgwA; have c0 := hgwA.keep (b := w.heap.size) (o := 0) (v := .int .i64 5) (by first | (simp; done) | (simp; omega)) (by simp [go_sem]); have c1 := hgwA.keep (b := w.heap.size) (o := 1) (v := .bool true) (by first | (simp; done) | (simp; omega)) (by simp [go_sem]); have hl := hgwA.lt (b := w.heap.size) (by simp; omega); have GA : Gr w wA := ((by repeat (first | exact Gr.refl _ | refine Gr.setCell ?_ _ _ (by first | exact Nat.le_refl _ | (simp; omega) | (simp; done)) | refine Gr.grown ?_ _ _ | refine Gr.drewN ?_ _ | refine Gr.drew ?_ | refine Gr.alloc ?_ _ | refine Gr.grow ?_ _ | (refine Gr.trans ?_ (by assumption))))); clear hgwA) | ((go_at_call 47; (with_reducible refine (C2.out _).mono ?_); rintro e wB ⟨rfl, hgwB⟩); have ZB := Z.gr hgwB; have x0 := hgwB.keep hl c0; have x1 := hgwB.keep hl c1; have hl2 := hgwB.lt hl) | ((go_at_call 48; (with_reducible refine (C3.out _).mono ?_); rintro e wC ⟨rfl, hgwC⟩); have ZC2 := ZB.gr hgwC; have u0 := hgwC.keep hl2 x0; have u1 := hgwC.keep hl2 x1; have hl3 := hgwC.lt hl2) | ((go_at_call 49; (with_reducible refine (C4.out _).mono ?_); rintro e wD ⟨rfl, hgwD⟩); obtain ⟨lt, c0, c1, f0, f1⟩ := ZC2.gr hgwD; have v0 := hgwD.keep hl3 u0; have v1 := hgwD.keep hl3 u1))
        exact bodyPost_ret (v := .tuple #[.agg #[.int .i64 6, .bool false], .int .i64 0]) (by simp [results, Tryz.results24, go_sem, *]) rfl ⟨rfl, (by repeat (first | exact Gr.refl _ | refine Gr.setCell ?_ _ _ (by first | exact Nat.le_refl _ | (simp; omega) | (simp; done)) | refine Gr.grown ?_ _ _ | refine Gr.drewN ?_ _ | refine Gr.drew ?_ | refine Gr.alloc ?_ _ | refine Gr.grow ?_ _ | (refine Gr.trans ?_ (by assumption))))⟩
      · simp only [Bool.not_true, Bool.or_false, Bool.false_eq_true, if_false, if_true, show ¬ ((7 : Int) = 0) from by decide]
        go_enter Tryz.func24, Tryz.ntmps24
        go_wp2_with (first | ((go_at_call 46; (with_reducible refine (C1.out _).mono ?_); rintro e wA ⟨rfl, hgwA⟩); have Z := (ZC.at (w := w.alloc (.cells #[.int .i64 5, .bool true] 23)) (b := w.heap.size + 1) (by simp)).gr hgwA; have c0 := hgwA.keep (b := w.heap.size) (o := 0) (v := .int .i64 5) (by first | (simp; done) | (simp; omega)) (by simp [go_sem]); have c1 := hgwA.keep (b := w.heap.size) (o := 1) (v := .bool true) (by first | (simp; done) | (simp; omega)) (by simp [go_sem]); have hl := hgwA.lt (b := w.heap.size) (by simp; omega); have GA : Gr w wA := ((by repeat (first | exact Gr.refl _ | refine Gr.setCell ?_ _ _ (by first | exact Nat.le_refl _ | (simp; omega) | (simp; done)) | refine Gr.grown ?_ _ _ | refine Gr.drewN ?_ _ | refine Gr.drew ?_ | refine Gr.alloc ?_ _ | refine Gr.grow ?_ _ | (refine Gr.trans ?_ (by assumption))))); clear hgwA) | ((go_at_call 47; (with_reducible refine (C2.out _).mono ?_); rintro e wB ⟨rfl, hgwB⟩); have ZB := Z.gr hgwB; have x0 := hgwB.keep hl c0; have x1 := hgwB.keep hl c1; have hl2 := hgwB.lt hl) | ((go_at_call 48; (with_reducible refine (C3.out _).mono ?_); rintro e wC ⟨rfl, hgwC⟩); have ZC2 := ZB.gr hgwC; have u0 := hgwC.keep hl2 x0; have u1 := hgwC.keep hl2 x1; have hl3 := hgwC.lt hl2) | ((go_at_call 49; (with_reducible refine (C4.out _).mono ?_); rintro e wD ⟨rfl, hgwD⟩); obtain ⟨lt, c0, c1, f0, f1⟩ := ZC2.gr hgwD; have v0 := hgwD.keep hl3 u0; have v1 := hgwD.keep hl3 u1))
        exact bodyPost_ret (v := .tuple #[.agg #[.int .i64 0, .bool false], .int .i64 7]) (by simp [results, Tryz.results24, go_sem, *]) rfl ⟨rfl, (by repeat (first | exact Gr.refl _ | refine Gr.setCell ?_ _ _ (by first | exact Nat.le_refl _ | (simp; omega) | (simp; done)) | refine Gr.grown ?_ _ _ | refine Gr.drewN ?_ _ | refine Gr.drew ?_ | refine Gr.alloc ?_ _ | refine Gr.grow ?_ _ | (refine Gr.trans ?_ (by assumption))))⟩
    · simp only [Bool.not_true, Bool.or_false, if_true]
      go_enter Tryz.func24, Tryz.ntmps24
      go_wp2_with (first | ((go_at_call 46; (with_reducible refine (C1.out _).mono ?_); rintro e wA ⟨rfl, hgwA⟩); have Z := (ZC.at (w := w.alloc (.cells #[.int .i64 5, .bool true] 23)) (b := w.heap.size + 1) (by simp)).gr hgwA; have c0 := hgwA.keep (b := w.heap.size) (o := 0) (v := .int .i64 5) (by first | (simp; done) | (simp; omega)) (by simp [go_sem]); have c1 := hgwA.keep (b := w.heap.size) (o := 1) (v := .bool true) (by first | (simp; done) | (simp; omega)) (by simp [go_sem]); have hl := hgwA.lt (b := w.heap.size) (by simp; omega); have GA : Gr w wA := ((by repeat (first | exact Gr.refl _ | refine Gr.setCell ?_ _ _ (by first | exact Nat.le_refl _ | (simp; omega) | (simp; done)) | refine Gr.grown ?_ _ _ | refine Gr.drewN ?_ _ | refine Gr.drew ?_ | refine Gr.alloc ?_ _ | refine Gr.grow ?_ _ | (refine Gr.trans ?_ (by assumption))))); clear hgwA) | ((go_at_call 47; (with_reducible refine (C2.out _).mono ?_); rintro e wB ⟨rfl, hgwB⟩); have ZB := Z.gr hgwB; have x0 := hgwB.keep hl c0; have x1 := hgwB.keep hl c1; have hl2 := hgwB.lt hl) | ((go_at_call 48; (with_reducible refine (C3.out _).mono ?_); rintro e wC ⟨rfl, hgwC⟩); have ZC2 := ZB.gr hgwC; have u0 := hgwC.keep hl2 x0; have u1 := hgwC.keep hl2 x1; have hl3 := hgwC.lt hl2) | ((go_at_call 49; (with_reducible refine (C4.out _).mono ?_); rintro e wD ⟨rfl, hgwD⟩); obtain ⟨lt, c0, c1, f0, f1⟩ := ZC2.gr hgwD; have v0 := hgwD.keep hl3 u0; have v1 := hgwD.keep hl3 u1))
      exact bodyPost_ret (v := .tuple #[.agg #[.int .i64 5, .bool true], .int .i64 0]) (by simp [results, Tryz.results24, go_sem, *]) rfl ⟨rfl, (by repeat (first | exact Gr.refl _ | refine Gr.setCell ?_ _ _ (by first | exact Nat.le_refl _ | (simp; omega) | (simp; done)) | refine Gr.grown ?_ _ _ | refine Gr.drewN ?_ _ | refine Gr.drew ?_ | refine Gr.alloc ?_ _ | refine Gr.grow ?_ _ | (refine Gr.trans ?_ (by assumption))))⟩
theorem rinto_c (y n m : Int) (c : Bool) (w : World) :
    Calls Tryz.prog 24 #[.int .i64 y, .agg #[.int .i64 n, .bool c], .int .i64 m] w fun e w' => e = .returned (.tuple #[.agg #[.int .i64 (inNum y n c m), .bool (inLp y n c m)], .int .i64 (inE y n c m)]) ∧ Gr w w' := by
  by_cases hm : m = 0 ∨ m = 1
  · by_cases hy : 1 ≤ y ∧ y ≤ 9999
    · cases hc : cR n c
      · have e : inE y n c m = 3 := by unfold inE; rw [if_pos hm, if_pos hy, if_neg (by rw [hc]; decide)]
        unfold inNum inLp
        rw [e]
        exact rinto_c3 y n m c w hm hy hc
      · exact rinto_at y n m c w hm hy hc
    · have e : inE y n c m = 2 := by unfold inE; rw [if_pos hm, if_neg hy]
      unfold inNum inLp
      rw [e]
      exact rinto_y y n m c w hm hy
  · have e : inE y n c m = 1 := by unfold inE; rw [if_neg hm]
    unfold inNum inLp
    rw [e]
    exact rinto_mode y n m c w hm

set_option maxHeartbeats 4000000 in
theorem rfit_c (y n d m L E : Int) (c : Bool) (w : World) (h : ∀ w, Calls Tryz.prog 45 #[.int .i64 y, .agg #[.int .i64 n, .bool c]] w fun e w' => e = .returned (.tuple #[.int .i64 L, .int .i64 E]) ∧ Gr w w') :
    Calls Tryz.prog 26 #[.int .i64 y, .agg #[.int .i64 n, .bool c], .int .i64 d, .int .i64 m] w fun e w' => e = .returned (.tuple #[.int .i64 (fitN L E d m), .int .i64 (fitE L E d m)]) ∧ Gr w w' := by
  have C1 := Lib.hid h
  have c2 := fun w => rmode_c m w
  clear h
  unfold fitN
  by_cases hm : m = 0 ∨ m = 1
  · rw [decide_eq_true hm] at c2
    have C2 := Lib.hid c2
    clear c2
    by_cases hE : E = 0
    · subst hE
      by_cases hd : 1 ≤ d ∧ d ≤ 30
      · obtain ⟨d0, d1⟩ := hd
        by_cases hl : d ≤ L
        · have e : fitE L 0 d m = 0 := by unfold fitE; rw [if_pos hm, if_pos rfl, if_pos ⟨d0, d1⟩, if_pos hl]
          rw [e, if_pos rfl, if_pos hl]
          clear e hm
          go_enter Tryz.func26, Tryz.ntmps26
          go_wp2_with (first | (go_at_call 46; (with_reducible refine (C2.out _).mono ?_); rintro e wM ⟨rfl, hgwM⟩; obtain ⟨hclwM, hfzwM, hszwM⟩ := gcell hgwM; (try simp [Nat.add_one_le_iff] at hszwM); have hlwM_w : w.heap.size < wM.heap.size := (by omega)) | (go_at_call 45; (with_reducible refine (C1.out _).mono ?_); rintro e wA ⟨rfl, hgwA⟩; obtain ⟨hclwA, hfzwA, hszwA⟩ := gcell hgwA; (try simp [Nat.add_one_le_iff] at hszwA); have hlwA_w : w.heap.size < wA.heap.size := (by omega)))
          go_ret2
          exact ⟨rfl, (by repeat (first | exact Gr.refl _ | refine Gr.setCell ?_ _ _ (by first | exact Nat.le_refl _ | (simp; omega) | (simp; done)) | refine Gr.grown ?_ _ _ | refine Gr.drewN ?_ _ | refine Gr.drew ?_ | refine Gr.alloc ?_ _ | refine Gr.grow ?_ _ | (refine Gr.trans ?_ (by assumption))))⟩
        · have hl2 : L < d := by omega
          rcases hm with rfl | rfl
          · have e : fitE L 0 d 0 = 0 := by unfold fitE; rw [if_pos (.inl rfl), if_pos rfl, if_pos ⟨d0, d1⟩, if_neg hl, if_neg (by decide)]
            rw [e, if_pos rfl, if_neg hl]
            clear e hl
            go_enter Tryz.func26, Tryz.ntmps26
            go_wp2_with (first | (go_at_call 46; (with_reducible refine (C2.out _).mono ?_); rintro e wM ⟨rfl, hgwM⟩; obtain ⟨hclwM, hfzwM, hszwM⟩ := gcell hgwM; (try simp [Nat.add_one_le_iff] at hszwM); have hlwM_w : w.heap.size < wM.heap.size := (by omega)) | (go_at_call 45; (with_reducible refine (C1.out _).mono ?_); rintro e wA ⟨rfl, hgwA⟩; obtain ⟨hclwA, hfzwA, hszwA⟩ := gcell hgwA; (try simp [Nat.add_one_le_iff] at hszwA); have hlwA_w : w.heap.size < wA.heap.size := (by omega)))
            go_ret2
            exact ⟨rfl, (by repeat (first | exact Gr.refl _ | refine Gr.setCell ?_ _ _ (by first | exact Nat.le_refl _ | (simp; omega) | (simp; done)) | refine Gr.grown ?_ _ _ | refine Gr.drewN ?_ _ | refine Gr.drew ?_ | refine Gr.alloc ?_ _ | refine Gr.grow ?_ _ | (refine Gr.trans ?_ (by assumption))))⟩
          · have e : fitE L 0 d 1 = 7 := by unfold fitE; rw [if_pos (.inr rfl), if_pos rfl, if_pos ⟨d0, d1⟩, if_neg hl, if_pos rfl]
            rw [e, if_neg (by decide)]
            clear e hl
            go_enter Tryz.func26, Tryz.ntmps26
            go_wp2_with (first | (go_at_call 46; (with_reducible refine (C2.out _).mono ?_); rintro e wM ⟨rfl, hgwM⟩; obtain ⟨hclwM, hfzwM, hszwM⟩ := gcell hgwM; (try simp [Nat.add_one_le_iff] at hszwM); have hlwM_w : w.heap.size < wM.heap.size := (by omega)) | (go_at_call 45; (with_reducible refine (C1.out _).mono ?_); rintro e wA ⟨rfl, hgwA⟩; obtain ⟨hclwA, hfzwA, hszwA⟩ := gcell hgwA; (try simp [Nat.add_one_le_iff] at hszwA); have hlwA_w : w.heap.size < wA.heap.size := (by omega)))
            go_ret2
            exact ⟨rfl, (by repeat (first | exact Gr.refl _ | refine Gr.setCell ?_ _ _ (by first | exact Nat.le_refl _ | (simp; omega) | (simp; done)) | refine Gr.grown ?_ _ _ | refine Gr.drewN ?_ _ | refine Gr.drew ?_ | refine Gr.alloc ?_ _ | refine Gr.grow ?_ _ | (refine Gr.trans ?_ (by assumption))))⟩
      · have e : fitE L 0 d m = 4 := by unfold fitE; rw [if_pos hm, if_pos rfl, if_neg hd]
        rw [e, if_neg (by decide)]
        by_cases g : d < 1
        all_goals (
          try (have g2 : 30 < d := by omega)
          clear e hd hm
          go_enter Tryz.func26, Tryz.ntmps26
          go_wp2_with (first | (go_at_call 46; (with_reducible refine (C2.out _).mono ?_); rintro e wM ⟨rfl, hgwM⟩; obtain ⟨hclwM, hfzwM, hszwM⟩ := gcell hgwM; (try simp [Nat.add_one_le_iff] at hszwM); have hlwM_w : w.heap.size < wM.heap.size := (by omega)) | (go_at_call 45; (with_reducible refine (C1.out _).mono ?_); rintro e wA ⟨rfl, hgwA⟩; obtain ⟨hclwA, hfzwA, hszwA⟩ := gcell hgwA; (try simp [Nat.add_one_le_iff] at hszwA); have hlwA_w : w.heap.size < wA.heap.size := (by omega)))
          go_ret2
          exact ⟨rfl, (by repeat (first | exact Gr.refl _ | refine Gr.setCell ?_ _ _ (by first | exact Nat.le_refl _ | (simp; omega) | (simp; done)) | refine Gr.grown ?_ _ _ | refine Gr.drewN ?_ _ | refine Gr.drew ?_ | refine Gr.alloc ?_ _ | refine Gr.grow ?_ _ | (refine Gr.trans ?_ (by assumption))))⟩)
    · have e : fitE L E d m = E := by unfold fitE; rw [if_pos hm, if_neg hE]
      rw [e, if_neg hE]
      have q : (E == 0) = false := beq_eq_false_iff_ne.2 hE
      clear e hE hm
      go_enter Tryz.func26, Tryz.ntmps26
      go_wp2_with (first | (go_at_call 46; (with_reducible refine (C2.out _).mono ?_); rintro e wM ⟨rfl, hgwM⟩; obtain ⟨hclwM, hfzwM, hszwM⟩ := gcell hgwM; (try simp [Nat.add_one_le_iff] at hszwM); have hlwM_w : w.heap.size < wM.heap.size := (by omega)) | (go_at_call 45; (with_reducible refine (C1.out _).mono ?_); rintro e wA ⟨rfl, hgwA⟩; obtain ⟨hclwA, hfzwA, hszwA⟩ := gcell hgwA; (try simp [Nat.add_one_le_iff] at hszwA); have hlwA_w : w.heap.size < wA.heap.size := (by omega)))
      go_ret2
      exact ⟨rfl, (by repeat (first | exact Gr.refl _ | refine Gr.setCell ?_ _ _ (by first | exact Nat.le_refl _ | (simp; omega) | (simp; done)) | refine Gr.grown ?_ _ _ | refine Gr.drewN ?_ _ | refine Gr.drew ?_ | refine Gr.alloc ?_ _ | refine Gr.grow ?_ _ | (refine Gr.trans ?_ (by assumption))))⟩
  · rw [decide_eq_false hm] at c2
    have C2 := Lib.hid c2
    have e : fitE L E d m = 1 := by unfold fitE; rw [if_neg hm]
    rw [e, if_neg (by decide)]
    clear e hm c2
    go_enter Tryz.func26, Tryz.ntmps26
    go_wp2_with (first | (go_at_call 46; (with_reducible refine (C2.out _).mono ?_); rintro e wM ⟨rfl, hgwM⟩; obtain ⟨hclwM, hfzwM, hszwM⟩ := gcell hgwM; (try simp [Nat.add_one_le_iff] at hszwM); have hlwM_w : w.heap.size < wM.heap.size := (by omega)))
    go_ret2
    exact ⟨rfl, (by repeat (first | exact Gr.refl _ | refine Gr.setCell ?_ _ _ (by first | exact Nat.le_refl _ | (simp; omega) | (simp; done)) | refine Gr.grown ?_ _ _ | refine Gr.drewN ?_ _ | refine Gr.drew ?_ | refine Gr.alloc ?_ _ | refine Gr.grow ?_ _ | (refine Gr.trans ?_ (by assumption))))⟩

end Go.Proofs.YtkiopgegdkeojaaGreatDoor.Walks
