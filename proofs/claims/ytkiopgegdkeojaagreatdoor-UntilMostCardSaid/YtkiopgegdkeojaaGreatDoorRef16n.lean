/- Walks of almanackerref15: a code brought into a year, the month so many months away, a day fitted into a month. -/
import Derived.Test.YtkiopgegdkeojaaGreatDoorShift3
import Derived.Test.YtkiopgegdkeojaaGreatDoorRef10
import Derived.Test.YtkiopgegdkeojaaGreatDoorAddTo
set_option linter.unusedVariables false
set_option linter.unusedSimpArgs false
namespace Go.Proofs.YtkiopgegdkeojaaGreatDoor.Walks
open Go Go.RowKit Go.Sort Go.Proofs.YtkiopgegdkeojaaGreatDoor.Base Go.Proofs.YtkiopgegdkeojaaGreatDoor.Plain Go.Proofs.YtkiopgegdkeojaaGreatDoor.Math

theorem rmode_c (m : Int) (w : World) : Calls Tryz.prog 46 #[.int .i64 m] w fun e w' => e = .returned (.bool (decide (m = 0 ∨ m = 1))) ∧ Gr w w' := by
  by_cases h : m = 0
  · subst h
    go_enter Tryz.func46, Tryz.ntmps46
    go_wp2
    go_ret
    exact ⟨rfl, (by repeat (first | exact Gr.refl _ | refine Gr.setCell ?_ _ _ (by first | exact Nat.le_refl _ | (simp; omega) | (simp; done)) | refine Gr.grown ?_ _ _ | refine Gr.drewN ?_ _ | refine Gr.drew ?_ | refine Gr.alloc ?_ _ | refine Gr.grow ?_ _ | (refine Gr.trans ?_ (by assumption))))⟩
  · have q : (m == 0) = false := beq_eq_false_iff_ne.2 h
    have E : RowKit.Hid ((m == 1) = decide (m = 0 ∨ m = 1)) := Lib.hid (by
      by_cases g : m = 1
      · subst g; decide
      · rw [decide_eq_false (by omega)]; exact beq_eq_false_iff_ne.2 g)
    obtain ⟨B, hB⟩ : ∃ B, decide (m = 0 ∨ m = 1) = B := ⟨_, rfl⟩
    rw [hB] at E ⊢
    clear hB h
    go_enter Tryz.func46, Tryz.ntmps46
    go_wp2
    go_ret
    exact ⟨retb E.out, (by repeat (first | exact Gr.refl _ | refine Gr.setCell ?_ _ _ (by first | exact Nat.le_refl _ | (simp; omega) | (simp; done)) | refine Gr.grown ?_ _ _ | refine Gr.drewN ?_ _ | refine Gr.drew ?_ | refine Gr.alloc ?_ _ | refine Gr.grow ?_ _ | (refine Gr.trans ?_ (by assumption))))⟩

set_option maxHeartbeats 2000000 in
theorem rinto_mode (y n m : Int) (c : Bool) (w : World) (h : ¬ (m = 0 ∨ m = 1)) :
    Calls Tryz.prog 24 #[.int .i64 y, .agg #[.int .i64 n, .bool c], .int .i64 m] w fun e w' => e = .returned (.tuple #[.agg #[.int .i64 0, .bool false], .int .i64 1]) ∧ Gr w w' := by
  have c1 := fun w => rmode_c m w
  rw [decide_eq_false h] at c1
  have C1 := Lib.hid c1
  clear c1 h
  go_enter Tryz.func24, Tryz.ntmps24
  go_wp2_with (first | ((go_at_call 46; (with_reducible refine (C1.out _).mono ?_); rintro e wA ⟨rfl, hgwA⟩); obtain ⟨lt, c0, c1, f0, f1⟩ := (ZC.at (w := w.alloc (.cells #[.int .i64 n, .bool c] 23)) (b := w.heap.size + 1) (by simp)).gr hgwA))
  exact bodyPost_ret (v := .tuple #[.agg #[.int .i64 0, .bool false], .int .i64 1]) (by simp [results, Tryz.results24, go_sem, *]) rfl ⟨rfl, (by repeat (first | exact Gr.refl _ | refine Gr.setCell ?_ _ _ (by first | exact Nat.le_refl _ | (simp; omega) | (simp; done)) | refine Gr.grown ?_ _ _ | refine Gr.drewN ?_ _ | refine Gr.drew ?_ | refine Gr.alloc ?_ _ | refine Gr.grow ?_ _ | (refine Gr.trans ?_ (by assumption))))⟩
set_option maxHeartbeats 2000000 in
theorem rinto_y (y n m : Int) (c : Bool) (w : World) (h : m = 0 ∨ m = 1) (hy : ¬ (1 ≤ y ∧ y ≤ 9999)) :
    Calls Tryz.prog 24 #[.int .i64 y, .agg #[.int .i64 n, .bool c], .int .i64 m] w fun e w' => e = .returned (.tuple #[.agg #[.int .i64 0, .bool false], .int .i64 2]) ∧ Gr w w' := by
  have c1 := fun w => rmode_c m w
  rw [decide_eq_true h] at c1
  have c2 := fun w => rright7_c y w
  rw [show kyR y = false from decide_eq_false hy] at c2
  have C1 := Lib.hid c1
  have C2 := Lib.hid c2
  clear c1 c2 h hy
  go_enter Tryz.func24, Tryz.ntmps24
  go_wp2_with (first | ((go_at_call 46; (with_reducible refine (C1.out _).mono ?_); rintro e wA ⟨rfl, hgwA⟩); have Z := (ZC.at (w := w.alloc (.cells #[.int .i64 n, .bool c] 23)) (b := w.heap.size + 1) (by simp)).gr hgwA; have GA : Gr w wA := ((by repeat (first | exact Gr.refl _ | refine Gr.setCell ?_ _ _ (by first | exact Nat.le_refl _ | (simp; omega) | (simp; done)) | refine Gr.grown ?_ _ _ | refine Gr.drewN ?_ _ | refine Gr.drew ?_ | refine Gr.alloc ?_ _ | refine Gr.grow ?_ _ | (refine Gr.trans ?_ (by assumption))))); clear hgwA) | ((go_at_call 47; (with_reducible refine (C2.out _).mono ?_); rintro e wB ⟨rfl, hgwB⟩); obtain ⟨lt, c0, c1, f0, f1⟩ := Z.gr hgwB))
  exact bodyPost_ret (v := .tuple #[.agg #[.int .i64 0, .bool false], .int .i64 2]) (by simp [results, Tryz.results24, go_sem, *]) rfl ⟨rfl, (by repeat (first | exact Gr.refl _ | refine Gr.setCell ?_ _ _ (by first | exact Nat.le_refl _ | (simp; omega) | (simp; done)) | refine Gr.grown ?_ _ _ | refine Gr.drewN ?_ _ | refine Gr.drew ?_ | refine Gr.alloc ?_ _ | refine Gr.grow ?_ _ | (refine Gr.trans ?_ (by assumption))))⟩
set_option maxHeartbeats 2000000 in
theorem rinto_c3 (y n m : Int) (c : Bool) (w : World) (h : m = 0 ∨ m = 1) (hy : 1 ≤ y ∧ y ≤ 9999) (hc : cR n c = false) :
    Calls Tryz.prog 24 #[.int .i64 y, .agg #[.int .i64 n, .bool c], .int .i64 m] w fun e w' => e = .returned (.tuple #[.agg #[.int .i64 0, .bool false], .int .i64 3]) ∧ Gr w w' := by
  have c1 := fun w => rmode_c m w
  rw [decide_eq_true h] at c1
  have c2 := fun w => rright7_c y w
  rw [show kyR y = true from decide_eq_true hy] at c2
  have c3 := fun w => rright9_c n c w
  rw [hc] at c3
  have C1 := Lib.hid c1
  have C2 := Lib.hid c2
  have C3 := Lib.hid c3
  clear c1 c2 c3 h hy hc
  go_enter Tryz.func24, Tryz.ntmps24
  go_wp2_with (first | ((go_at_call 46; (with_reducible refine (C1.out _).mono ?_); rintro e wA ⟨rfl, hgwA⟩); have Z := (ZC.at (w := w.alloc (.cells #[.int .i64 n, .bool c] 23)) (b := w.heap.size + 1) (by simp)).gr hgwA; have c0 := hgwA.keep (b := w.heap.size) (o := 0) (v := .int .i64 n) (by first | (simp; done) | (simp; omega)) (by simp [go_sem]); have c1 := hgwA.keep (b := w.heap.size) (o := 1) (v := .bool c) (by first | (simp; done) | (simp; omega)) (by simp [go_sem]); have hl := hgwA.lt (b := w.heap.size) (by simp; omega); have GA : Gr w wA := ((by repeat (first | exact Gr.refl _ | refine Gr.setCell ?_ _ _ (by first | exact Nat.le_refl _ | (simp; omega) | (simp; done)) | refine Gr.grown ?_ _ _ | refine Gr.drewN ?_ _ | refine Gr.drew ?_ | refine Gr.alloc ?_ _ | refine Gr.grow ?_ _ | (refine Gr.trans ?_ (by assumption))))); clear hgwA) | ((go_at_call 47; (with_reducible refine (C2.out _).mono ?_); rintro e wB ⟨rfl, hgwB⟩); have ZB := Z.gr hgwB; have x0 := hgwB.keep hl c0; have x1 := hgwB.keep hl c1) | ((go_at_call 48; (with_reducible refine (C3.out _).mono ?_); rintro e wC ⟨rfl, hgwC⟩); obtain ⟨lt, c0, c1, f0, f1⟩ := ZB.gr hgwC))
  exact bodyPost_ret (v := .tuple #[.agg #[.int .i64 0, .bool false], .int .i64 3]) (by simp [results, Tryz.results24, go_sem, *]) rfl ⟨rfl, (by repeat (first | exact Gr.refl _ | refine Gr.setCell ?_ _ _ (by first | exact Nat.le_refl _ | (simp; omega) | (simp; done)) | refine Gr.grown ?_ _ _ | refine Gr.drewN ?_ _ | refine Gr.drew ?_ | refine Gr.alloc ?_ _ | refine Gr.grow ?_ _ | (refine Gr.trans ?_ (by assumption))))⟩
set_option maxHeartbeats 4000000 in
theorem rinto_at (y n m : Int) (c : Bool) (w : World) (h : m = 0 ∨ m = 1) (hy : 1 ≤ y ∧ y ≤ 9999) (hc : cR n c = true) :
    Calls Tryz.prog 24 #[.int .i64 y, .agg #[.int .i64 n, .bool c], .int .i64 m] w fun e w' => e = .returned (.tuple #[.agg #[.int .i64 (inNum y n c m), .bool (inLp y n c m)], .int .i64 (inE y n c m)]) ∧ Gr w w' := by
  have c1 := fun w => rmode_c m w
  rw [decide_eq_true h] at c1
  have c2 := fun w => rright7_c y w
  rw [show kyR y = true from decide_eq_true hy] at c2
  have c3 := fun w => rright9_c n c w
  rw [hc] at c3
  have C1 := Lib.hid c1
  have C2 := Lib.hid c2
  have C3 := Lib.hid c3
  have C4 := Lib.hid fun w => ris_c y w (by omega) (by omega)
  have nr : c = true → n = 5 := fun e => by unfold cR at hc; have := of_decide_eq_true hc; rw [e] at this; simpa using this.2.2
  have hE : inE y n c m = if cHas (lp y) n c = true then 0 else if m = 1 then 7 else 0 := by unfold inE; rw [if_pos h, if_pos hy, if_pos hc]
  unfold inNum inLp
  rw [hE]
  have hH : cHas (lp y) n c = (lp y || !c) := by unfold cHas; rw [hc]; rfl
  rw [hH]
  obtain ⟨l, hl⟩ : ∃ l, lp y = l := ⟨_, rfl⟩
  rw [hl] at C4 ⊢
  clear c1 c2 c3 hy hc hl hE hH
  cases c
  · simp only [Bool.not_false, Bool.or_true, if_true]
    clear nr
    go_enter Tryz.func24, Tryz.ntmps24
    go_wp2_with (first | ((go_at_call 46; (with_reducible refine (C1.out _).mono ?_); rintro e wA ⟨rfl, hgwA⟩); have Z := (ZC.at (w := w.alloc (.cells #[.int .i64 n, .bool false] 23)) (b := w.heap.size + 1) (by simp)).gr hgwA; have c0 := hgwA.keep (b := w.heap.size) (o := 0) (v := .int .i64 n) (by first | (simp; done) | (simp; omega)) (by simp [go_sem]); have c1 := hgwA.keep (b := w.heap.size) (o := 1) (v := .bool false) (by first | (simp; done) | (simp; omega)) (by simp [go_sem]); have hl := hgwA.lt (b := w.heap.size) (by simp; omega); have GA : Gr w wA := ((by repeat (first | exact Gr.refl _ | refine Gr.setCell ?_ _ _ (by first | exact Nat.le_refl _ | (simp; omega) | (simp; done)) | refine Gr.grown ?_ _ _ | refine Gr.drewN ?_ _ | refine Gr.drew ?_ | refine Gr.alloc ?_ _ | refine Gr.grow ?_ _ | (refine Gr.trans ?_ (by assumption))))); clear hgwA) | ((go_at_call 47; (with_reducible refine (C2.out _).mono ?_); rintro e wB ⟨rfl, hgwB⟩); have ZB := Z.gr hgwB; have x0 := hgwB.keep hl c0; have x1 := hgwB.keep hl c1; have hl2 := hgwB.lt hl) | ((go_at_call 48; (with_reducible refine (C3.out _).mono ?_); rintro e wC ⟨rfl, hgwC⟩); obtain ⟨lt, c0, c1, f0, f1⟩ := ZB.gr hgwC; have u0 := hgwC.keep hl2 x0; have u1 := hgwC.keep hl2 x1))
    exact bodyPost_ret (v := .tuple #[.agg #[.int .i64 n, .bool false], .int .i64 0]) (by simp [results, Tryz.results24, go_sem, *]) rfl ⟨rfl, (by repeat (first | exact Gr.refl _ | refine Gr.setCell ?_ _ _ (by first | exact Nat.le_refl _ | (simp; omega) | (simp; done)) | refine Gr.grown ?_ _ _ | refine Gr.drewN ?_ _ | refine Gr.drew ?_ | refine Gr.alloc ?_ _ | refine Gr.grow ?_ _ | (refine Gr.trans ?_ (by assumption))))⟩
  · obtain rfl := nr rfl
    clear nr
    cases l
    · rcases h with rfl | rfl
      · simp only [Bool.not_true, Bool.or_false, Bool.false_eq_true, if_false, if_true, show ¬ ((0 : Int) = 1) from by decide]
        go_enter Tryz.func24, Tryz.ntmps24
        go_wp2_with (first | ((go_at_call 46; (with_reducible refine (C1.out _).mono ?_); rintro e wA ⟨rfl, hgwA⟩); have Z := (ZC.at (w := w.alloc (.cells #[.int .i64 5, .bool true] 23)) (b := w.heap.size + 1) (by simp)).gr hgwA; have c0 := hgwA.keep (b := w.heap.size) (o := 0) (v := .int .i64 5) (by first | (simp; done) | (simp; omega)) (by simp [go_sem]); have c1 := hgwA.keep (b := w.heap.size) (o := 1) (v := .bool true) (by first | (simp; done) | (simp; omega)) (by simp [go_sem]); have hl := hgwA.lt (b := w.heap.size) (by simp; omega); have GA : Gr w wA := ((by repeat (first | exact Gr.refl _ | refine Gr.setCell ?_ _ _ (by first | exact Nat.le_refl _ | (simp; omega) | (simp; done)) | refine Gr.grown ?_ _ _ | refine Gr.drewN ?_ _ | refine Gr.drew ?_ | refine Gr.alloc ?_ _ | refine Gr.grow ?_ _ | (refine Gr.trans ?_ (by assumption))))); clear hgwA) | ((go_at_call 47; (with_reducible refine (C2.out _).mono ?_); rintro e wB ⟨rfl, hgwB⟩); have ZB := Z.gr hgwB; have x0 := hgwB.keep hl c0; have x1 := hgwB.keep hl c1; have hl2 := hgwB.lt hl) | ((go_at_call 48; (with_reducible refine (C3.out _).mono ?_); rintro e wC ⟨rfl, hgwC⟩); have ZC2 := ZB.gr hgwC; have u0 := hgwC.keep hl2 x0; have u1 := hgwC.keep hl2 x1; have hl3 := hgwC.lt hl2) | ((go_at_call 49; (with_reducible refine (C4.out _).mono ?_); rintro e wD ⟨rfl, hgwD⟩); obtain ⟨lt, c0, c1, f0, f1⟩ := ZC2.gr hgwD; have v0 := hgwD.keep hl3 u0; have v1 := hgwD.keep hl3 u1))
        exact bodyPost_ret (v := .tuple #[.agg #[.int .i64 6, .bool false], .int .i64 0]) (by simp [results, Tryz.results24, go_sem, *]) rfl ⟨rfl, (by repeat (first | exact Gr.refl _ | refine Gr.setCell ?_ _ _ (by first | exact Nat.le_refl _ | (simp; omega) | (simp; done)) | refine Gr.grown ?_ _ _ | refine Gr.drewN ?_ _ | refine Gr.drew ?_ | refine Gr.alloc ?_ _ | refine Gr.grow ?_ _ | (refine Gr.trans ?_ (by assumption))))⟩
      · simp only [Bool.not_true, Bool.or_false, Bool.false_eq_true, if_false, if_true, show ¬ ((7 : Int) = 0) from by decide]
        go_enter Tryz.func24, Tryz.ntmps24
        go_wp2_with (first | ((go_at_call 46; (with_reducible refine (C1.out _).mono ?_); rintro e wA ⟨rfl, hgwA⟩); have Z := (ZC.at (w := w.alloc (.cells #[.int .i64 5, .bool true] 23)) (b := w.heap.size + 1) (by simp)).gr hgwA; have c0 := hgwA.keep (b := w.heap.size) (o := 0) (v := .int .i64 5) (by first | (simp; done) | (simp; omega)) (by simp [go_sem]); have c1 := hgwA.keep (b := w.heap.size) (o := 1) (v := .bool true) (by first | (simp; done) | (simp; omega)) (by simp [go_sem]); have hl := hgwA.lt (b := w.heap.size) (by simp; omega); have GA : Gr w wA := ((by repeat (first | exact Gr.refl _ | refine Gr.setCell ?_ _ _ (by first | exact Nat.le_refl _ | (simp; omega) | (simp; done)) | refine Gr.grown ?_ _ _ | refine Gr.drewN ?_ _ | refine Gr.drew ?_ | refine Gr.alloc ?_ _ | refine Gr.grow ?_ _ | (refine Gr.trans ?_ (by assumption))))); clear hgwA) | ((go_at_call 47; (with_reducible refine (C2.out _).mono ?_); rintro e wB ⟨rfl, hgwB⟩); have ZB := Z.gr hgwB; have x0 := hgwB.keep hl c0; have x1 := hgwB.keep hl c1; have hl2 := hgwB.lt hl) | ((go_at_call 48; (with_reducible refine (C3.out _).mono ?_); rintro e wC ⟨rfl, hgwC⟩); have ZC2 := ZB.gr hgwC; have u0 := hgwC.keep hl2 x0; have u1 := hgwC.keep hl2 x1; have hl3 := hgwC.lt hl2) | ((go_at_call 49; (with_reducible refine (C4.out _).mono ?_); rintro e wD ⟨rfl, hgwD⟩); obtain ⟨lt, c0, c1, f0, f1⟩ := ZC2.gr hgwD; have v0 := hgwD.keep hl3 u0; have v1 := hgwD.keep hl3 u1))
        exact bodyPost_ret (v := .tuple #[.agg #[.int .i64 0, .bool false], .int .i64 7]) (by simp [results, Tryz.results24, go_sem, *]) rfl ⟨rfl, (by repeat (first | exact Gr.refl _ | refine Gr.setCell ?_ _ _ (by first | exact Nat.le_refl _ | (simp; omega) | (simp; done)) | refine Gr.grown ?_ _ _ | refine Gr.drewN ?_ _ | refine Gr.drew ?_ | refine Gr.alloc ?_ _ | refine Gr.grow ?_ _ | (refine Gr.trans ?_ (by assumption))))⟩
    · simp only [Bool.not_true, Bool.or_false, if_true]
      go_enter Tryz.func24, Tryz.ntmps24
      go_wp2_with (first | ((go_at_call 46; (with_reducible refine (C1.out _).mono ?_); rintro e wA ⟨rfl, hgwA⟩); have Z := (ZC.at (w := w.alloc (.cells #[.int .i64 5, .bool true] 23)) (b := w.heap.size + 1) (by simp)).gr hgwA; have c0 := hgwA.keep (b := w.heap.size) (o := 0) (v := .int .i64 5) (by first | (simp; done) | (simp; omega)) (by simp [go_sem]); have c1 := hgwA.keep (b := w.heap.size) (o := 1) (v := .bool true) (by first | (simp; done) | (simp; omega)) (by simp [go_sem]); have hl := hgwA.lt (b := w.heap.size) (by simp; omega); have GA : Gr w wA := ((by repeat (first | exact Gr.refl _ | refine Gr.setCell ?_ _ _ (by first | exact Nat.le_refl _ | (simp; omega) | (simp; done)) | refine Gr.grown ?_ _ _ | refine Gr.drewN ?_ _ | refine Gr.drew ?_ | refine Gr.alloc ?_ _ | refine Gr.grow ?_ _ | (refine Gr.trans ?_ (by assumption))))); clear hgwA) | ((go_at_call 47; (with_reducible refine (C2.out _).mono ?_); rintro e wB ⟨rfl, hgwB⟩); have ZB := Z.gr hgwB; have x0 := hgwB.keep hl c0; have x1 := hgwB.keep hl c1; have hl2 := hgwB.lt hl) | ((go_at_call 48; (with_reducible refine (C3.out _).mono ?_); rintro e wC ⟨rfl, hgwC⟩); have ZC2 := ZB.gr hgwC; have u0 := hgwC.keep hl2 x0; have u1 := hgwC.keep hl2 x1; have hl3 := hgwC.lt hl2) | ((go_at_call 49; (with_reducible refine (C4.out _).mono ?_); rintro e wD ⟨rfl, hgwD⟩); obtain ⟨lt, c0, c1, f0, f1⟩ := ZC2.gr hgwD; have v0 := hgwD.keep hl3 u0; have v1 := hgwD.keep hl3 u1))
      exact bodyPost_ret (v := .tuple #[.agg #[.int .i64 5, .bool true], .int .i64 0]) (by simp [results, Tryz.results24, go_sem, *]) rfl ⟨rfl, (by repeat (first | exact Gr.refl _ | refine Gr.setCell ?_ _ _ (by first | exact Nat.le_refl _ | (simp; omega) | (simp; done)) | refine Gr.grown ?_ _ _ | refine Gr.drewN ?_ _ | refine Gr.drew ?_ | refine Gr.alloc ?_ _ | refine Gr.grow ?_ _ | (refine Gr.trans ?_ (by assumption))))⟩
theorem rinto_c (y n m : Int) (c : Bool) (w : World) :
    Calls Tryz.prog 24 #[.int .i64 y, .agg #[.int .i64 n, .bool c], .int .i64 m] w fun e w' => e = .returned (.tuple #[.agg #[.int .i64 (inNum y n c m), .bool (inLp y n c m)], .int .i64 (inE y n c m)]) ∧ Gr w w' := by
  by_cases hm : m = 0 ∨ m = 1
  · by_cases hy : 1 ≤ y ∧ y ≤ 9999
    · cases hc : cR n c
      · have e : inE y n c m = 3 := by unfold inE; rw [if_pos hm, if_pos hy, if_neg (by rw [hc]; decide)]
        unfold inNum inLp
        rw [e]
        exact rinto_c3 y n m c w hm hy hc
      · exact rinto_at y n m c w hm hy hc
    · have e : inE y n c m = 2 := by unfold inE; rw [if_pos hm, if_neg hy]
      unfold inNum inLp
      rw [e]
      exact rinto_y y n m c w hm hy
  · have e : inE y n c m = 1 := by unfold inE; rw [if_neg hm]
    unfold inNum inLp
    rw [e]
    exact rinto_mode y n m c w hm

set_option maxHeartbeats 4000000 in
theorem rfit_c (y n d m L E : Int) (c : Bool) (w : World) (h : ∀ w, Calls Tryz.prog 45 #[.int .i64 y, .agg #[.int .i64 n, .bool c]] w fun e w' => e = .returned (.tuple #[.int .i64 L, .int .i64 E]) ∧ Gr w w') :
    Calls Tryz.prog 26 #[.int .i64 y, .agg #[.int .i64 n, .bool c], .int .i64 d, .int .i64 m] w fun e w' => e = .returned (.tuple #[.int .i64 (fitN L E d m), .int .i64 (fitE L E d m)]) ∧ Gr w w' := by
  have C1 := Lib.hid h
  have c2 := fun w => rmode_c m w
  clear h
  unfold fitN
  by_cases hm : m = 0 ∨ m = 1
  · rw [decide_eq_true hm] at c2
    have C2 := Lib.hid c2
    clear c2
    by_cases hE : E = 0
    · subst hE
      by_cases hd : 1 ≤ d ∧ d ≤ 30
      · obtain ⟨d0, d1⟩ := hd
        by_cases hl : d ≤ L
        · have e : fitE L 0 d m = 0 := by unfold fitE; rw [if_pos hm, if_pos rfl, if_pos ⟨d0, d1⟩, if_pos hl]
          rw [e, if_pos rfl, if_pos hl]
          clear e hm
          go_enter Tryz.func26, Tryz.ntmps26
          go_wp2_with (first | (go_at_call 46; (with_reducible refine (C2.out _).mono ?_); rintro e wM ⟨rfl, hgwM⟩; obtain ⟨hclwM, hfzwM, hszwM⟩ := gcell hgwM; (try simp [Nat.add_one_le_iff] at hszwM); have hlwM_w : w.heap.size < wM.heap.size := (by omega)) | (go_at_call 45; (with_reducible refine (C1.out _).mono ?_); rintro e wA ⟨rfl, hgwA⟩; obtain ⟨hclwA, hfzwA, hszwA⟩ := gcell hgwA; (try simp [Nat.add_one_le_iff] at hszwA); have hlwA_w : w.heap.size < wA.heap.size := (by omega)))
          go_ret2
          exact ⟨rfl, (by repeat (first | exact Gr.refl _ | refine Gr.setCell ?_ _ _ (by first | exact Nat.le_refl _ | (simp; omega) | (simp; done)) | refine Gr.grown ?_ _ _ | refine Gr.drewN ?_ _ | refine Gr.drew ?_ | refine Gr.alloc ?_ _ | refine Gr.grow ?_ _ | (refine Gr.trans ?_ (by assumption))))⟩
        · have hl2 : L < d := by omega
          rcases hm with rfl | rfl
          · have e : fitE L 0 d 0 = 0 := by unfold fitE; rw [if_pos (.inl rfl), if_pos rfl, if_pos ⟨d0, d1⟩, if_neg hl, if_neg (by decide)]
            rw [e, if_pos rfl, if_neg hl]
            clear e hl
            go_enter Tryz.func26, Tryz.ntmps26
            go_wp2_with (first | (go_at_call 46; (with_reducible refine (C2.out _).mono ?_); rintro e wM ⟨rfl, hgwM⟩; obtain ⟨hclwM, hfzwM, hszwM⟩ := gcell hgwM; (try simp [Nat.add_one_le_iff] at hszwM); have hlwM_w : w.heap.size < wM.heap.size := (by omega)) | (go_at_call 45; (with_reducible refine (C1.out _).mono ?_); rintro e wA ⟨rfl, hgwA⟩; obtain ⟨hclwA, hfzwA, hszwA⟩ := gcell hgwA; (try simp [Nat.add_one_le_iff] at hszwA); have hlwA_w : w.heap.size < wA.heap.size := (by omega)))
            go_ret2
            exact ⟨rfl, (by repeat (first | exact Gr.refl _ | refine Gr.setCell ?_ _ _ (by first | exact Nat.le_refl _ | (simp; omega) | (simp; done)) | refine Gr.grown ?_ _ _ | refine Gr.drewN ?_ _ | refine Gr.drew ?_ | refine Gr.alloc ?_ _ | refine Gr.grow ?_ _ | (refine Gr.trans ?_ (by assumption))))⟩
          · have e : fitE L 0 d 1 = 7 := by unfold fitE; rw [if_pos (.inr rfl), if_pos rfl, if_pos ⟨d0, d1⟩, if_neg hl, if_pos rfl]
            rw [e, if_neg (by decide)]
            clear e hl
            go_enter Tryz.func26, Tryz.ntmps26
            go_wp2_with (first | (go_at_call 46; (with_reducible refine (C2.out _).mono ?_); rintro e wM ⟨rfl, hgwM⟩; obtain ⟨hclwM, hfzwM, hszwM⟩ := gcell hgwM; (try simp [Nat.add_one_le_iff] at hszwM); have hlwM_w : w.heap.size < wM.heap.size := (by omega)) | (go_at_call 45; (with_reducible refine (C1.out _).mono ?_); rintro e wA ⟨rfl, hgwA⟩; obtain ⟨hclwA, hfzwA, hszwA⟩ := gcell hgwA; (try simp [Nat.add_one_le_iff] at hszwA); have hlwA_w : w.heap.size < wA.heap.size := (by omega)))
            go_ret2
            exact ⟨rfl, (by repeat (first | exact Gr.refl _ | refine Gr.setCell ?_ _ _ (by first | exact Nat.le_refl _ | (simp; omega) | (simp; done)) | refine Gr.grown ?_ _ _ | refine Gr.drewN ?_ _ | refine Gr.drew ?_ | refine Gr.alloc ?_ _ | refine Gr.grow ?_ _ | (refine Gr.trans ?_ (by assumption))))⟩
      · have e : fitE L 0 d m = 4 := by unfold fitE; rw [if_pos hm, if_pos rfl, if_neg hd]
        rw [e, if_neg (by decide)]
        by_cases g : d < 1
        all_goals (
          try (have g2 : 30 < d := by omega)
          clear e hd hm
          go_enter Tryz.func26, Tryz.ntmps26
          go_wp2_with (first | (go_at_call 46; (with_reducible refine (C2.out _).mono ?_); rintro e wM ⟨rfl, hgwM⟩; obtain ⟨hclwM, hfzwM, hszwM⟩ := gcell hgwM; (try simp [Nat.add_one_le_iff] at hszwM); have hlwM_w : w.heap.size < wM.heap.size := (by omega)) | (go_at_call 45; (with_reducible refine (C1.out _).mono ?_); rintro e wA ⟨rfl, hgwA⟩; obtain ⟨hclwA, hfzwA, hszwA⟩ := gcell hgwA; (try simp [Nat.add_one_le_iff] at hszwA); have hlwA_w : w.heap.size < wA.heap.size := (by omega)))
          go_ret2
          exact ⟨rfl, (by repeat (first | exact Gr.refl _ | refine Gr.setCell ?_ _ _ (by first | exact Nat.le_refl _ | (simp; omega) | (simp; done)) | refine Gr.grown ?_ _ _ | refine Gr.drewN ?_ _ | refine Gr.drew ?_ | refine Gr.alloc ?_ _ | refine Gr.grow ?_ _ | (refine Gr.trans ?_ (by assumption))))⟩)
    · have e : fitE L E d m = E := by unfold fitE; rw [if_pos hm, if_neg hE]
      rw [e, if_neg hE]
      have q : (E == 0) = false := beq_eq_false_iff_ne.2 hE
      clear e hE hm
      go_enter Tryz.func26, Tryz.ntmps26
      go_wp2_with (first | (go_at_call 46; (with_reducible refine (C2.out _).mono ?_); rintro e wM ⟨rfl, hgwM⟩; obtain ⟨hclwM, hfzwM, hszwM⟩ := gcell hgwM; (try simp [Nat.add_one_le_iff] at hszwM); have hlwM_w : w.heap.size < wM.heap.size := (by omega)) | (go_at_call 45; (with_reducible refine (C1.out _).mono ?_); rintro e wA ⟨rfl, hgwA⟩; obtain ⟨hclwA, hfzwA, hszwA⟩ := gcell hgwA; (try simp [Nat.add_one_le_iff] at hszwA); have hlwA_w : w.heap.size < wA.heap.size := (by omega)))
      go_ret2
      exact ⟨rfl, (by repeat (first | exact Gr.refl _ | refine Gr.setCell ?_ _ _ (by first | exact Nat.le_refl _ | (simp; omega) | (simp; done)) | refine Gr.grown ?_ _ _ | refine Gr.drewN ?_ _ | refine Gr.drew ?_ | refine Gr.alloc ?_ _ | refine Gr.grow ?_ _ | (refine Gr.trans ?_ (by assumption))))⟩
  · rw [decide_eq_false hm] at c2
    have C2 := Lib.hid c2
    have e : fitE L E d m = 1 := by unfold fitE; rw [if_neg hm]
    rw [e, if_neg (by decide)]
    clear e hm c2
    go_enter Tryz.func26, Tryz.ntmps26
    go_wp2_with (first | (go_at_call 46; (with_reducible refine (C2.out _).mono ?_); rintro e wM ⟨rfl, hgwM⟩; obtain ⟨hclwM, hfzwM, hszwM⟩ := gcell hgwM; (try simp [Nat.add_one_le_iff] at hszwM); have hlwM_w : w.heap.size < wM.heap.size := (by omega)))
    go_ret2
    exact ⟨rfl, (by repeat (first | exact Gr.refl _ | refine Gr.setCell ?_ _ _ (by first | exact Nat.le_refl _ | (simp; omega) | (simp; done)) | refine Gr.grown ?_ _ _ | refine Gr.drewN ?_ _ | refine Gr.drew ?_ | refine Gr.alloc ?_ _ | refine Gr.grow ?_ _ | (refine Gr.trans ?_ (by assumption))))⟩

end Go.Proofs.YtkiopgegdkeojaaGreatDoor.Walks

/- The walk of almanackerref15.Months: year by year. -/
namespace Go.Proofs.YtkiopgegdkeojaaGreatDoor.Walks
open Go Go.RowKit Go.Sort Go.Proofs.YtkiopgegdkeojaaGreatDoor.Base Go.Proofs.YtkiopgegdkeojaaGreatDoor.Plain Go.Proofs.YtkiopgegdkeojaaGreatDoor.Math

set_option maxHeartbeats 2000000 in
theorem rmonths_e (y n q E : Int) (c : Bool) (w : World) (hE : E ≠ 0) (h : ∀ w, Calls Tryz.prog 45 #[.int .i64 y, .agg #[.int .i64 n, .bool c]] w fun e w' => e = .returned (.tuple #[.int .i64 0, .int .i64 E]) ∧ Gr w w') :
    Calls Tryz.prog 25 #[.int .i64 y, .agg #[.int .i64 n, .bool c], .int .i64 q] w fun e w' => e = .returned (.tuple #[.int .i64 0, .agg #[.int .i64 0, .bool false], .int .i64 E]) ∧ Gr w w' := by
  have C1 := Lib.hid h
  have qE : (E == 0) = false := beq_eq_false_iff_ne.2 hE
  clear h hE
  go_enter Tryz.func25, Tryz.ntmps25
  go_wp2_with (first | ((go_at_call 45; (with_reducible refine (C1.out _).mono ?_); rintro e wA ⟨rfl, hgwA⟩); obtain ⟨lt, c0, c1, f0, f1⟩ := (ZC.at (w := w.alloc (.cells #[.int .i64 n, .bool c] 23)) (b := w.heap.size + 1) (by simp)).gr hgwA))
  exact bodyPost_ret (v := .tuple #[.int .i64 0, .agg #[.int .i64 0, .bool false], .int .i64 E]) (by simp [results, Tryz.results25, go_sem, *]) rfl ⟨rfl, (by repeat (first | exact Gr.refl _ | refine Gr.setCell ?_ _ _ (by first | exact Nat.le_refl _ | (simp; omega) | (simp; done)) | refine Gr.grown ?_ _ _ | refine Gr.drewN ?_ _ | refine Gr.drew ?_ | refine Gr.alloc ?_ _ | refine Gr.grow ?_ _ | (refine Gr.trans ?_ (by assumption))))⟩
set_option maxHeartbeats 2000000 in
theorem rmonths_q (y n q L : Int) (c : Bool) (w : World) (hq : q < -4000000 ∨ 4000000 < q) (h : ∀ w, Calls Tryz.prog 45 #[.int .i64 y, .agg #[.int .i64 n, .bool c]] w fun e w' => e = .returned (.tuple #[.int .i64 L, .int .i64 0]) ∧ Gr w w') :
    Calls Tryz.prog 25 #[.int .i64 y, .agg #[.int .i64 n, .bool c], .int .i64 q] w fun e w' => e = .returned (.tuple #[.int .i64 0, .agg #[.int .i64 0, .bool false], .int .i64 1]) ∧ Gr w w' := by
  have C1 := Lib.hid h
  clear h
  by_cases g : q < -4000000
  all_goals (
    try (have g2 : 4000000 < q := by omega)
    clear hq
    go_enter Tryz.func25, Tryz.ntmps25
    go_wp2_with (first | ((go_at_call 45; (with_reducible refine (C1.out _).mono ?_); rintro e wA ⟨rfl, hgwA⟩); obtain ⟨lt, c0, c1, f0, f1⟩ := (ZC.at (w := w.alloc (.cells #[.int .i64 n, .bool c] 23)) (b := w.heap.size + 1) (by simp)).gr hgwA))
    exact bodyPost_ret (v := .tuple #[.int .i64 0, .agg #[.int .i64 0, .bool false], .int .i64 1]) (by simp [results, Tryz.results25, go_sem, *]) rfl ⟨rfl, (by repeat (first | exact Gr.refl _ | refine Gr.setCell ?_ _ _ (by first | exact Nat.le_refl _ | (simp; omega) | (simp; done)) | refine Gr.grown ?_ _ _ | refine Gr.drewN ?_ _ | refine Gr.drew ?_ | refine Gr.alloc ?_ _ | refine Gr.grow ?_ _ | (refine Gr.trans ?_ (by assumption))))⟩)

set_option maxRecDepth 20000 in
set_option maxHeartbeats 16000000 in
theorem rmonths_at (y n q L M T Z R N E : Int) (c l C : Bool) (w : World) (y0 : 1 ≤ y) (y1 : y ≤ 9999) (q0 : -4000000 ≤ q) (q1 : q ≤ 4000000) (M0 : 1 ≤ M) (M1 : M ≤ 13)
    (hT : bf y + M - 1 + q = T) (z0 : 0 ≤ Z) (z1 : Z ≤ 10000) (hz : ∀ y, 1 ≤ y → y ≤ 9999 → ((bf (y + 1) ≤ T ↔ y < Z) ∧ (T < bf y ↔ Z < y)))
    (h1 : ∀ w, Calls Tryz.prog 45 #[.int .i64 y, .agg #[.int .i64 n, .bool c]] w fun e w' => e = .returned (.tuple #[.int .i64 L, .int .i64 0]) ∧ Gr w w')
    (hl : lp y = l) (h3 : ∀ w, Calls Tryz.prog 37 #[.bool l, .agg #[.int .i64 n, .bool c]] w fun e w' => e = .returned (.tuple #[.int .i64 M, .bool true]) ∧ Gr w w')
    (hr : (1 ≤ Z ∧ Z ≤ 9999 → R = Z ∧ E = 0 ∧ ∀ w, Calls Tryz.prog 51 #[.bool (lp Z), .int .i64 (T - bf Z + 1)] w fun e w' => e = .returned (.tuple #[.agg #[.int .i64 N, .bool C], .bool true]) ∧ Gr w w'))
    (hr2 : ¬ (1 ≤ Z ∧ Z ≤ 9999) → R = 0 ∧ N = 0 ∧ C = false ∧ E = 2) :
    Calls Tryz.prog 25 #[.int .i64 y, .agg #[.int .i64 n, .bool c], .int .i64 q] w fun e w' => e = .returned (.tuple #[.int .i64 R, .agg #[.int .i64 N, .bool C], .int .i64 E]) ∧ Gr w w' := by
  have C1 := Lib.hid h1
  have C2 : RowKit.Hid (∀ w, Calls Tryz.prog 49 #[.int .i64 y] w fun e w' => e = .returned (.bool l) ∧ Gr w w') := Lib.hid fun w => by have := ris_c y w (by omega) (by omega); rwa [hl] at this
  have C3 := Lib.hid h3
  have HZ := Lib.hid hz
  have HR := Lib.hid hr
  have HR2 := Lib.hid hr2
  have HT := Lib.hid hT
  have T0 : -4100000 ≤ T ∧ T ≤ 4200000 := by have := bf_mono y0; have := bf_mono (show y ≤ 10000 by omega); have := bf_1; have := bf_all; omega
  have TL := T0.1
  have TU := T0.2
  clear h1 hl h3 hr hr2 hz hT T0
  go_enter Tryz.func25, Tryz.ntmps25
  go_wp2_with (first | ((go_at_call 45; (with_reducible refine (C1.out _).mono ?_); rintro e wA ⟨rfl, hgwA⟩); have c0 := hgwA.keep (b := w.heap.size) (o := 0) (v := .int .i64 n) (by first | (simp; done) | (simp; omega)) (by simp [go_sem]); have c1 := hgwA.keep (b := w.heap.size) (o := 1) (v := .bool c) (by first | (simp; done) | (simp; omega)) (by simp [go_sem]); have hl0 := hgwA.lt (b := w.heap.size) (by simp; omega); have ZA := (ZC.at (w := w.alloc (.cells #[.int .i64 n, .bool c] 23)) (b := w.heap.size + 1) (by simp)).gr hgwA; have GA : Gr w wA := (by repeat (first | exact Gr.refl _ | refine Gr.setCell ?_ _ _ (by first | exact Nat.le_refl _ | (simp; omega) | (simp; done)) | refine Gr.grown ?_ _ _ | refine Gr.drewN ?_ _ | refine Gr.drew ?_ | refine Gr.alloc ?_ _ | refine Gr.grow ?_ _ | (refine Gr.trans ?_ (by assumption))))))
  have x0 := gcell_in hl0 c0; have x1 := gcell_in hl0 c1
  clear hgwA c0 c1
  (refine wp_region_quiet_grown mixed (by kernel_rfl) ?_; (repeat (first | go_big_quiet_step ((first | (go_at_call 49; exact gr_of (C2.out _)) | (go_at_call 37; exact gr_of (C3.out _)))) | quiet_step ((first | (go_at_call 49; exact gr_of (C2.out _)) | (go_at_call 37; exact gr_of (C3.out _)))))); refine wpQuiet_nil ?_; intro _ hw'; obtain ⟨⟨nq, osq⟩, hw''⟩ := hw'; subst hw'')
  have ZB := ZA.gr ((Gr.refl wA).grown nq osq)
  have GB : Gr w (grow (wA.drewN nq) osq) := GA.grown nq osq
  obtain ⟨wB, hB⟩ : ∃ wB, wB = grow (wA.drewN nq) osq := ⟨_, rfl⟩
  rw [← hB] at ZB GB ⊢
  clear hB ZA GA x0 x1 hl0 C1 C2 C3
  go_wp2
  go_loopg [0, 11] 10001 (fun kx s0 s11 wr => ∃ u m : Int, s0 = .int .i64 u ∧ s11 = .int .i64 m ∧ 0 ≤ u ∧ u ≤ 10000 ∧ bf u + m - 1 = T ∧ (Z - u).natAbs ≤ kx ∧ ((1 ≤ u ∧ u ≤ 9999) ∨ u = Z) ∧ ZC wr (w.heap.size + 1) ∧ Gr w wr)
  case atStart => exact ⟨y, M + q, rfl, rfl, by omega, by omega, by have := HT.out; omega, by omega, .inl ⟨y0, y1⟩, ZB, GB⟩
  case round =>
    clear ZB GB
    obtain ⟨u, m, rfl, rfl, u0, u1, hm, hk, hu, ZR, hg⟩ := hrel
    have bu := bf_range (y := u) (by omega) (by omega)
    by_cases e : 1 ≤ u ∧ u ≤ 9999
    · obtain ⟨e0, e1⟩ := e
      have hzu := HZ.out u e0 e1
      have nx := bf_next u
      have m13 := mct_le (lp u)
      have CR : RowKit.Hid (∀ w, Calls Tryz.prog 47 #[.int .i64 u] w fun e w' => e = .returned (.bool true) ∧ Gr w w') := Lib.hid fun w => by
        have := rright7_c u w; rwa [show kyR u = true from decide_eq_true ⟨e0, e1⟩] at this
      have CI : RowKit.Hid (∀ w, Calls Tryz.prog 50 #[.int .i64 u] w fun e w' => e = .returned (.tuple #[.int .i64 (mct (lp u) : Int), .int .i64 0]) ∧ Gr w w') := Lib.hid fun w => by
        have := rin_c u w; rwa [inN_in (by omega) (by omega), yE_in (by omega) (by omega), ml_mct] at this
      obtain ⟨I, hI⟩ : ∃ I : Int, (mct (lp u) : Int) = I := ⟨_, rfl⟩
      rw [hI] at CI nx
      have i0 : 12 ≤ I := by omega
      have i1 : I ≤ 13 := by omega
      have ml0 : -4300000 ≤ m := by omega
      have ml1 : m ≤ 4300000 := by omega
      by_cases a : I < m
      · have up : u < Z := by omega
        have HN := Lib.hid nx
        have HM := Lib.hid hm
        clear hzu nx hI hm bu m13 hu
        go_wp2_with (first | ((go_at_call 47; (with_reducible refine (CR.out _).mono ?_); rintro e w1 ⟨rfl, hgw1⟩); have Z1 := ZR.gr hgw1; have G1 : Gr w w1 := hg.trans hgw1; clear hgw1) | ((go_at_call 50; (with_reducible refine (CI.out _).mono ?_); rintro e w2 ⟨rfl, hgw2⟩); have Z2 := Z1.gr hgw2; have G2 : Gr w w2 := G1.trans hgw2; clear hgw2))
        go_roundg ((Z - (u + 1)).natAbs)
        case measure => omega
        case rel => exact ⟨u + 1, m - I, rfl, rfl, by omega, by omega, by have := HN.out; have := HM.out; omega, Nat.le_refl _, by omega, Z2, G2⟩
      · by_cases b : 1 ≤ m
        · have uz : u = Z := by omega
          subst uz
          have ma : m ≤ I := by omega
          obtain ⟨rfl, rfl, h8⟩ := HR.out ⟨e0, e1⟩
          have CS : RowKit.Hid (∀ w, Calls Tryz.prog 49 #[.int .i64 R] w fun e w' => e = .returned (.bool (lp R)) ∧ Gr w w') := Lib.hid fun w => ris_c R w (by omega) (by omega)
          have CO : RowKit.Hid (∀ w, Calls Tryz.prog 51 #[.bool (lp R), .int .i64 m] w fun e w' => e = .returned (.tuple #[.agg #[.int .i64 N, .bool C], .bool true]) ∧ Gr w w') := Lib.hid (by rw [show m = T - bf R + 1 by omega]; exact h8)
          obtain ⟨lR, hlR⟩ : ∃ l, lp R = l := ⟨_, rfl⟩
          rw [hlR] at CS CO
          clear hzu nx hI hm bu m13 hlR h8 a hu
          go_wp2_with (first | ((go_at_call 47; (with_reducible refine (CR.out _).mono ?_); rintro e w1 ⟨rfl, hgw1⟩); have Z1 := ZR.gr hgw1; have G1 : Gr w w1 := hg.trans hgw1; clear hgw1) | ((go_at_call 50; (with_reducible refine (CI.out _).mono ?_); rintro e w2 ⟨rfl, hgw2⟩); have Z2 := Z1.gr hgw2; have G2 : Gr w w2 := G1.trans hgw2; clear hgw2) | ((go_at_call 49; (with_reducible refine (CS.out _).mono ?_); rintro e w3 ⟨rfl, hgw3⟩); have Z3 := Z2.gr hgw3; have G3 : Gr w w3 := G2.trans hgw3; clear hgw3) | ((go_at_call 51; (with_reducible refine (CO.out _).mono ?_); rintro e w4 ⟨rfl, hgw4⟩); have Z4 := Z3.gr hgw4; have G4 : Gr w w4 := G3.trans hgw4; clear hgw4))
          obtain ⟨W, hW⟩ : ∃ W, W = w4.alloc (.cells #[.int .i64 N, .bool C] 23) := ⟨_, rfl⟩
          rw [← hW]
          have lB : w4.heap.size < W.heap.size := by rw [hW]; simp
          have x0 := gcell_in (w := W) (b := w4.heap.size) (o := 0) (v := .int .i64 N) lB (by rw [hW]; simp [go_sem])
          have x1 := gcell_in (w := W) (b := w4.heap.size) (o := 1) (v := .bool C) lB (by rw [hW]; simp [go_sem])
          have ZW : ZC W (w.heap.size + 1) := by rw [hW]; exact Z4.gr ((Gr.refl _).alloc _)
          have GW : Gr w W := by rw [hW]; exact G4.alloc _
          clear hW lB Z1 Z2 Z3 Z4 G1 G2 G3 G4 ZR hg
          (refine wp_region_grown_tail 3 mixed (by kernel_rfl) ?_; simp only [List.take_succ_cons, List.take_zero, List.drop_succ_cons, List.drop_zero]; (repeat (first | go_big_quiet_step (fail) | quiet_step (fail))); refine wpQuiet_nil ?_; intro _ hw'; obtain ⟨⟨nq, osq⟩, hw''⟩ := hw'; subst hw'')
          obtain ⟨lt, c0, c1, f0, f1⟩ := ZW.gr ((Gr.refl W).grown nq osq)
          clear x0 x1 ZW
          go_wp2
          exact bodyPost_ret (v := .tuple #[.int .i64 R, .agg #[.int .i64 N, .bool C], .int .i64 0]) (by simp [results, Tryz.results25, go_sem, *]) rfl ⟨rfl, (by repeat (first | exact Gr.refl _ | refine Gr.setCell ?_ _ _ (by first | exact Nat.le_refl _ | (simp; omega) | (simp; done)) | refine Gr.grown ?_ _ _ | refine Gr.drewN ?_ _ | refine Gr.drew ?_ | refine Gr.alloc ?_ _ | refine Gr.grow ?_ _ | (refine Gr.trans ?_ (by assumption))))⟩
        · have dn : Z < u := by omega
          have b2 : m < 1 := by omega
          have ma : m ≤ I := by omega
          have nx2 := bf_next (u - 1)
          rw [show u - 1 + 1 = u by omega] at nx2
          have CJ : RowKit.Hid (∀ w, Calls Tryz.prog 50 #[.int .i64 (u - 1)] w fun e w' => e = .returned (.tuple #[.int .i64 (mct (lp (u - 1)) : Int), .int .i64 0]) ∧ Gr w w') := Lib.hid fun w => by
            have := rin_c (u - 1) w; rwa [inN_in (by omega) (by omega), yE_in (by omega) (by omega), ml_mct] at this
          have m13b := mct_le (lp (u - 1))
          obtain ⟨J, hJ⟩ : ∃ J : Int, (mct (lp (u - 1)) : Int) = J := ⟨_, rfl⟩
          rw [hJ] at CJ nx2
          have j0 : 12 ≤ J := by omega
          have j1 : J ≤ 13 := by omega
          have HN := Lib.hid nx2
          have HM := Lib.hid hm
          clear hzu nx nx2 hI hJ hm bu m13 m13b a b hu
          go_wp2_with (first | ((go_at_call 47; (with_reducible refine (CR.out _).mono ?_); rintro e w1 ⟨rfl, hgw1⟩); have Z1 := ZR.gr hgw1; have G1 : Gr w w1 := hg.trans hgw1; clear hgw1) | ((go_at_call 50; (with_reducible refine (CI.out _).mono ?_); rintro e w2 ⟨rfl, hgw2⟩); have Z2 := Z1.gr hgw2; have G2 : Gr w w2 := G1.trans hgw2; clear hgw2) | ((go_at_call 50; (with_reducible refine (CJ.out _).mono ?_); rintro e w3 ⟨rfl, hgw3⟩); have Z3 := Z2.gr hgw3; have G3 : Gr w w3 := G2.trans hgw3; clear hgw3))
          go_roundg ((Z - (u - 1)).natAbs)
          case measure => omega
          case rel => exact ⟨u - 1, m + J, rfl, rfl, by omega, by omega, by have := HN.out; have := HM.out; omega, Nat.le_refl _, by omega, Z3, G3⟩
    · have CR : RowKit.Hid (∀ w, Calls Tryz.prog 47 #[.int .i64 u] w fun e w' => e = .returned (.bool false) ∧ Gr w w') := Lib.hid fun w => by
        have := rright7_c u w; rwa [show kyR u = false from decide_eq_false e] at this
      have out : ¬ (1 ≤ Z ∧ Z ≤ 9999) := by omega
      obtain ⟨rfl, rfl, rfl, rfl⟩ := HR2.out out
      clear e out hm bu hu
      go_wp2_with (first | ((go_at_call 47; (with_reducible refine (CR.out _).mono ?_); rintro e w1 ⟨rfl, hgw1⟩); obtain ⟨lt, c0, c1, f0, f1⟩ := ZR.gr hgw1; have G1 : Gr w w1 := hg.trans hgw1; clear hgw1))
      exact bodyPost_ret (v := .tuple #[.int .i64 0, .agg #[.int .i64 0, .bool false], .int .i64 2]) (by simp [results, Tryz.results25, go_sem, *]) rfl ⟨rfl, (by repeat (first | exact Gr.refl _ | refine Gr.setCell ?_ _ _ (by first | exact Nat.le_refl _ | (simp; omega) | (simp; done)) | refine Gr.grown ?_ _ _ | refine Gr.drewN ?_ _ | refine Gr.drew ?_ | refine Gr.alloc ?_ _ | refine Gr.grow ?_ _ | (refine Gr.trans ?_ (by assumption))))⟩

end Go.Proofs.YtkiopgegdkeojaaGreatDoor.Walks

/- Walks of almanackerref16: a duration, added to a date. -/
namespace Go.Proofs.YtkiopgegdkeojaaGreatDoor.Walks
open Go Go.RowKit Go.Sort Go.Proofs.YtkiopgegdkeojaaGreatDoor.Base Go.Proofs.YtkiopgegdkeojaaGreatDoor.Plain Go.Proofs.YtkiopgegdkeojaaGreatDoor.Math

theorem rfine_c (n : Int) (w : World) : Calls Tryz.prog 30 #[.int .i64 n] w fun e w' => e = .returned (.bool (spF n)) ∧ Gr w w' := by
  by_cases a : -4000000 ≤ n
  · by_cases b : n ≤ 4000000
    · rw [show spF n = true by unfold spF; simp; omega]
      go_enter Tryz.func30, Tryz.ntmps30
      go_wp2
      go_ret
      exact ⟨rfl, (by repeat (first | exact Gr.refl _ | refine Gr.setCell ?_ _ _ (by first | exact Nat.le_refl _ | (simp; omega) | (simp; done)) | refine Gr.grown ?_ _ _ | refine Gr.drewN ?_ _ | refine Gr.drew ?_ | refine Gr.alloc ?_ _ | refine Gr.grow ?_ _ | (refine Gr.trans ?_ (by assumption))))⟩
    · rw [show spF n = false by unfold spF; simp; omega]
      go_enter Tryz.func30, Tryz.ntmps30
      go_wp2
      go_ret
      exact ⟨rfl, (by repeat (first | exact Gr.refl _ | refine Gr.setCell ?_ _ _ (by first | exact Nat.le_refl _ | (simp; omega) | (simp; done)) | refine Gr.grown ?_ _ _ | refine Gr.drewN ?_ _ | refine Gr.drew ?_ | refine Gr.alloc ?_ _ | refine Gr.grow ?_ _ | (refine Gr.trans ?_ (by assumption))))⟩
  · rw [show spF n = false by unfold spF; simp; omega]
    go_enter Tryz.func30, Tryz.ntmps30
    go_wp2
    go_ret
    exact ⟨rfl, (by repeat (first | exact Gr.refl _ | refine Gr.setCell ?_ _ _ (by first | exact Nat.le_refl _ | (simp; omega) | (simp; done)) | refine Gr.grown ?_ _ _ | refine Gr.drewN ?_ _ | refine Gr.drew ?_ | refine Gr.alloc ?_ _ | refine Gr.grow ?_ _ | (refine Gr.trans ?_ (by assumption))))⟩
set_option maxRecDepth 20000 in
set_option maxHeartbeats 4000000 in
theorem rright16_c (a b c d : Int) (w : World) : Calls Tryz.prog 11 #[.agg #[.int .i64 a, .int .i64 b, .int .i64 c, .int .i64 d]] w fun e w' => e = .returned (.bool (spR a b c d)) ∧ Gr w w' := by
  have CA := Lib.hid fun W => rfine_c a W
  have CB := Lib.hid fun W => rfine_c b W
  have CC := Lib.hid fun W => rfine_c c W
  have CD := Lib.hid fun W => rfine_c d W
  obtain ⟨fa, ha⟩ : ∃ x, spF a = x := ⟨_, rfl⟩
  obtain ⟨fb, hb⟩ : ∃ x, spF b = x := ⟨_, rfl⟩
  obtain ⟨fc, hc⟩ : ∃ x, spF c = x := ⟨_, rfl⟩
  obtain ⟨fd, hd⟩ : ∃ x, spF d = x := ⟨_, rfl⟩
  unfold spR
  rw [ha] at CA ⊢
  rw [hb] at CB ⊢
  rw [hc] at CC ⊢
  rw [hd] at CD ⊢
  clear ha hb hc hd
  cases fa
  · go_enter Tryz.func11, Tryz.ntmps11
    go_wp2_with (first | (go_at_call 30; (with_reducible refine (CA.out _).mono ?_); rintro e wA ⟨rfl, hgwA⟩; obtain ⟨hclwA, hfzwA, hszwA⟩ := gcell hgwA; (try simp [Nat.add_one_le_iff] at hszwA); have hlwA_w : w.heap.size < wA.heap.size := (by omega)))
    go_ret
    exact ⟨rfl, (by repeat (first | exact Gr.refl _ | refine Gr.setCell ?_ _ _ (by first | exact Nat.le_refl _ | (simp; omega) | (simp; done)) | refine Gr.grown ?_ _ _ | refine Gr.drewN ?_ _ | refine Gr.drew ?_ | refine Gr.alloc ?_ _ | refine Gr.grow ?_ _ | (refine Gr.trans ?_ (by assumption))))⟩
  · cases fb
    · go_enter Tryz.func11, Tryz.ntmps11
      go_wp2_with (first | (go_at_call 30; (with_reducible refine (CA.out _).mono ?_); rintro e wA ⟨rfl, hgwA⟩; obtain ⟨hclwA, hfzwA, hszwA⟩ := gcell hgwA; (try simp [Nat.add_one_le_iff] at hszwA); have hlwA_w : w.heap.size < wA.heap.size := (by omega)) | (go_at_call 30; (with_reducible refine (CB.out _).mono ?_); rintro e wB ⟨rfl, hgwB⟩; obtain ⟨hclwB, hfzwB, hszwB⟩ := gcell hgwB; (try simp [Nat.add_one_le_iff] at hszwB); have hlwB_w : w.heap.size < wB.heap.size := (by omega)))
      go_ret
      exact ⟨rfl, (by repeat (first | exact Gr.refl _ | refine Gr.setCell ?_ _ _ (by first | exact Nat.le_refl _ | (simp; omega) | (simp; done)) | refine Gr.grown ?_ _ _ | refine Gr.drewN ?_ _ | refine Gr.drew ?_ | refine Gr.alloc ?_ _ | refine Gr.grow ?_ _ | (refine Gr.trans ?_ (by assumption))))⟩
    · cases fc
      · go_enter Tryz.func11, Tryz.ntmps11
        go_wp2_with (first | (go_at_call 30; (with_reducible refine (CA.out _).mono ?_); rintro e wA ⟨rfl, hgwA⟩; obtain ⟨hclwA, hfzwA, hszwA⟩ := gcell hgwA; (try simp [Nat.add_one_le_iff] at hszwA); have hlwA_w : w.heap.size < wA.heap.size := (by omega)) | (go_at_call 30; (with_reducible refine (CB.out _).mono ?_); rintro e wB ⟨rfl, hgwB⟩; obtain ⟨hclwB, hfzwB, hszwB⟩ := gcell hgwB; (try simp [Nat.add_one_le_iff] at hszwB); have hlwB_w : w.heap.size < wB.heap.size := (by omega)) | (go_at_call 30; (with_reducible refine (CC.out _).mono ?_); rintro e wC ⟨rfl, hgwC⟩; obtain ⟨hclwC, hfzwC, hszwC⟩ := gcell hgwC; (try simp [Nat.add_one_le_iff] at hszwC); have hlwC_w : w.heap.size < wC.heap.size := (by omega)))
        go_ret
        exact ⟨rfl, (by repeat (first | exact Gr.refl _ | refine Gr.setCell ?_ _ _ (by first | exact Nat.le_refl _ | (simp; omega) | (simp; done)) | refine Gr.grown ?_ _ _ | refine Gr.drewN ?_ _ | refine Gr.drew ?_ | refine Gr.alloc ?_ _ | refine Gr.grow ?_ _ | (refine Gr.trans ?_ (by assumption))))⟩
      · cases fd
        all_goals (
          go_enter Tryz.func11, Tryz.ntmps11
          go_wp2_with (first | (go_at_call 30; (with_reducible refine (CA.out _).mono ?_); rintro e wA ⟨rfl, hgwA⟩; obtain ⟨hclwA, hfzwA, hszwA⟩ := gcell hgwA; (try simp [Nat.add_one_le_iff] at hszwA); have hlwA_w : w.heap.size < wA.heap.size := (by omega)) | (go_at_call 30; (with_reducible refine (CB.out _).mono ?_); rintro e wB ⟨rfl, hgwB⟩; obtain ⟨hclwB, hfzwB, hszwB⟩ := gcell hgwB; (try simp [Nat.add_one_le_iff] at hszwB); have hlwB_w : w.heap.size < wB.heap.size := (by omega)) | (go_at_call 30; (with_reducible refine (CC.out _).mono ?_); rintro e wC ⟨rfl, hgwC⟩; obtain ⟨hclwC, hfzwC, hszwC⟩ := gcell hgwC; (try simp [Nat.add_one_le_iff] at hszwC); have hlwC_w : w.heap.size < wC.heap.size := (by omega)) | (go_at_call 30; (with_reducible refine (CD.out _).mono ?_); rintro e wD ⟨rfl, hgwD⟩; obtain ⟨hclwD, hfzwD, hszwD⟩ := gcell hgwD; (try simp [Nat.add_one_le_iff] at hszwD); have hlwD_w : w.heap.size < wD.heap.size := (by omega)))
          go_ret
          exact ⟨rfl, (by repeat (first | exact Gr.refl _ | refine Gr.setCell ?_ _ _ (by first | exact Nat.le_refl _ | (simp; omega) | (simp; done)) | refine Gr.grown ?_ _ _ | refine Gr.drewN ?_ _ | refine Gr.drew ?_ | refine Gr.alloc ?_ _ | refine Gr.grow ?_ _ | (refine Gr.trans ?_ (by assumption))))⟩)

set_option maxRecDepth 20000 in
set_option maxHeartbeats 8000000 in
theorem rto_bad (y n d p q r s m : Int) (c : Bool) (w : World) (h : spR p q r s = false ∨ ¬ (m = 0 ∨ m = 1)) :
    Calls Tryz.prog 8 #[.agg #[.int .i64 y, .int .i64 n, .bool c, .int .i64 d], .agg #[.int .i64 p, .int .i64 q, .int .i64 r, .int .i64 s], .int .i64 m] w fun e w' => e = .returned (.tuple #[.agg #[.int .i64 0, .int .i64 0, .bool false, .int .i64 0], .int .i64 1]) ∧ Gr w w' := by
  have CR := Lib.hid fun W => rright16_c p q r s W
  obtain ⟨R, hR⟩ : ∃ R, spR p q r s = R := ⟨_, rfl⟩
  rw [hR] at CR h
  clear hR
  cases R
  · go_enter Tryz.func8, Tryz.ntmps8
    go_wp2_with (first | (go_at_call 11; fail))
    obtain ⟨W0, hW0, DA, SA, RA, GA⟩ := to_new w y n d p q r s c
    rw [← hW0]
    clear hW0
    refine (CR.out _).mono ?_
    rintro e wA ⟨rfl, hgA⟩
    obtain ⟨lr, r0, r1, r2, r3, g0, g1, g2, g3⟩ := RA.gr hgA
    have GB := GA.trans hgA
    clear DA SA RA GA hgA
    go_wp2
    exact bodyPost_ret (v := .tuple #[.agg #[.int .i64 0, .int .i64 0, .bool false, .int .i64 0], .int .i64 1]) (by simp [results, Tryz.results8, go_sem, *]) rfl ⟨rfl, (by repeat (first | exact Gr.refl _ | refine Gr.setCell ?_ _ _ (by first | exact Nat.le_refl _ | (simp; omega) | (simp; done)) | refine Gr.grown ?_ _ _ | refine Gr.drewN ?_ _ | refine Gr.drew ?_ | refine Gr.alloc ?_ _ | refine Gr.grow ?_ _ | (refine Gr.trans ?_ (by assumption))))⟩
  · have h : ¬ (m = 0 ∨ m = 1) := h.resolve_left (by decide)
    by_cases a : m < 0
    · go_enter Tryz.func8, Tryz.ntmps8
      go_wp2_with (first | (go_at_call 11; fail))
      obtain ⟨W0, hW0, DA, SA, RA, GA⟩ := to_new w y n d p q r s c
      rw [← hW0]
      clear hW0
      refine (CR.out _).mono ?_
      rintro e wA ⟨rfl, hgA⟩
      obtain ⟨lr, r0, r1, r2, r3, g0, g1, g2, g3⟩ := RA.gr hgA
      have GB := GA.trans hgA
      clear DA SA RA GA hgA
      go_wp2
      exact bodyPost_ret (v := .tuple #[.agg #[.int .i64 0, .int .i64 0, .bool false, .int .i64 0], .int .i64 1]) (by simp [results, Tryz.results8, go_sem, *]) rfl ⟨rfl, (by repeat (first | exact Gr.refl _ | refine Gr.setCell ?_ _ _ (by first | exact Nat.le_refl _ | (simp; omega) | (simp; done)) | refine Gr.grown ?_ _ _ | refine Gr.drewN ?_ _ | refine Gr.drew ?_ | refine Gr.alloc ?_ _ | refine Gr.grow ?_ _ | (refine Gr.trans ?_ (by assumption))))⟩
    · have b : 1 < m := by omega
      clear h
      go_enter Tryz.func8, Tryz.ntmps8
      go_wp2_with (first | (go_at_call 11; fail))
      obtain ⟨W0, hW0, DA, SA, RA, GA⟩ := to_new w y n d p q r s c
      rw [← hW0]
      clear hW0
      refine (CR.out _).mono ?_
      rintro e wA ⟨rfl, hgA⟩
      obtain ⟨lr, r0, r1, r2, r3, g0, g1, g2, g3⟩ := RA.gr hgA
      have GB := GA.trans hgA
      clear DA SA RA GA hgA
      go_wp2
      exact bodyPost_ret (v := .tuple #[.agg #[.int .i64 0, .int .i64 0, .bool false, .int .i64 0], .int .i64 1]) (by simp [results, Tryz.results8, go_sem, *]) rfl ⟨rfl, (by repeat (first | exact Gr.refl _ | refine Gr.setCell ?_ _ _ (by first | exact Nat.le_refl _ | (simp; omega) | (simp; done)) | refine Gr.grown ?_ _ _ | refine Gr.drewN ?_ _ | refine Gr.drew ?_ | refine Gr.alloc ?_ _ | refine Gr.grow ?_ _ | (refine Gr.trans ?_ (by assumption))))⟩

/-- A code in a box. -/
structure C3 (w : World) (b : Nat) (n : Int) (c : Bool) : Prop where
  lt : b < w.heap.size
  c0 : w.cell? ⟨b, 0, none⟩ = some (.int .i64 n)
  c1 : w.cell? ⟨b, 1, none⟩ = some (.bool c)
  f0 : w.frozen? ⟨b, 0, none⟩ = false
  f1 : w.frozen? ⟨b, 1, none⟩ = false
theorem C3.gr {w w' : World} {b : Nat} {n : Int} {c : Bool} (h : C3 w b n c) (g : Gr w w') : C3 w' b n c := ⟨g.lt h.lt, g.keep h.lt h.c0, g.keep h.lt h.c1, g.thaw h.lt h.f0, g.thaw h.lt h.f1⟩
theorem C3.put {w : World} {b : Nat} {n : Int} {c : Bool} (h : C3 w b n c) (n' : Int) (c' : Bool) : C3 ((w.setCell ⟨b, 0, none⟩ (.int .i64 n')).setCell ⟨b, 1, none⟩ (.bool c')) b n' c' :=
  ⟨by rw [set_size, set_size]; exact h.lt, by rw [set_cell (set_cell h.c0)]; simp, by rw [set_cell (set_cell h.c1)]; simp, set_frozen (set_frozen h.f0), set_frozen (set_frozen h.f1)⟩
theorem C3.at {w : World} {b : Nat} (h : w.heap.size = b) (n : Int) (c : Bool) : C3 (w.alloc (.cells #[.int .i64 n, .bool c] 23)) b n c := by
  subst h
  exact ⟨by simp, by simp [go_sem], by simp [go_sem], by simp [go_sem], by simp [go_sem]⟩
theorem D5.set {w : World} {b b' o : Nat} {y n d : Int} {c : Bool} {v : Value} (h : D5 w b y n c d) (hb : b ≠ b') : D5 (w.setCell ⟨b', o, none⟩ v) b y n c d :=
  ⟨by rw [set_size]; exact h.lt, (set_other _ _ _ _ _ _ hb).trans h.c0, (set_other _ _ _ _ _ _ hb).trans h.c1, (set_other _ _ _ _ _ _ hb).trans h.c2, (set_other _ _ _ _ _ _ hb).trans h.c3, set_frozen h.f0, set_frozen h.f1, set_frozen h.f2, set_frozen h.f3⟩
theorem S4.set {w : World} {b b' o : Nat} {p q r s : Int} {v : Value} (h : S4 w b p q r s) (hb : b ≠ b') : S4 (w.setCell ⟨b', o, none⟩ v) b p q r s :=
  ⟨by rw [set_size]; exact h.lt, (set_other _ _ _ _ _ _ hb).trans h.c0, (set_other _ _ _ _ _ _ hb).trans h.c1, (set_other _ _ _ _ _ _ hb).trans h.c2, (set_other _ _ _ _ _ _ hb).trans h.c3⟩

end Go.Proofs.YtkiopgegdkeojaaGreatDoor.Walks

/- Walks of almanackerref16.To, step by step; what it tells of every input. -/
namespace Go.Proofs.YtkiopgegdkeojaaGreatDoor.Walks
open Go Go.RowKit Go.Sort Go.Proofs.YtkiopgegdkeojaaGreatDoor.Base Go.Proofs.YtkiopgegdkeojaaGreatDoor.Plain Go.Proofs.YtkiopgegdkeojaaGreatDoor.Math

theorem rspR_of {p q r s : Int} (h : spR p q r s = true) : (-4000000 ≤ p ∧ p ≤ 4000000) ∧ (-4000000 ≤ q ∧ q ≤ 4000000) ∧ (-4000000 ≤ r ∧ r ≤ 4000000) ∧ (-4000000 ≤ s ∧ s ≤ 4000000) := by
  unfold spR spF at h
  simp only [Bool.and_eq_true, decide_eq_true_eq] at h
  exact ⟨h.1, h.2.1, h.2.2.1, h.2.2.2⟩
set_option maxRecDepth 20000 in
set_option maxHeartbeats 8000000 in
theorem rto_0 (y n d p q r s m : Int) (c : Bool) (E : Int) (w : World) (hR : spR p q r s = true) (hm : m = 0 ∨ m = 1) (hE : E ≠ 0) 
    (h0 : ∀ w, Calls Tryz.prog 23 #[.agg #[.int .i64 y, .int .i64 n, .bool c, .int .i64 d]] w fun e w' => e = .returned (.int .i64 E) ∧ Gr w w') :
    Calls Tryz.prog 8 #[.agg #[.int .i64 y, .int .i64 n, .bool c, .int .i64 d], .agg #[.int .i64 p, .int .i64 q, .int .i64 r, .int .i64 s], .int .i64 m] w fun e w' => e = .returned (.tuple #[.agg #[.int .i64 0, .int .i64 0, .bool false, .int .i64 0], .int .i64 E]) ∧ Gr w w' := by
  have H0 := Lib.hid h0
  have CR : RowKit.Hid (∀ W, Calls Tryz.prog 11 #[.agg #[.int .i64 p, .int .i64 q, .int .i64 r, .int .i64 s]] W fun e w' => e = .returned (.bool true) ∧ Gr W w') := Lib.hid fun W => by
    have := rright16_c p q r s W
    rwa [hR] at this
  obtain ⟨⟨b0, b1⟩, -, ⟨b2, b3⟩, b4, b5⟩ := rspR_of hR
  have m0 : ¬ m < 0 := by omega
  have m1 : ¬ 1 < m := by omega
  have e1 : (E == 0) = false := beq_eq_false_iff_ne.2 hE
  have e2 : (E != 0) = true := by simp [bne_iff_ne, hE]
  clear h0 hR hm
  go_enter Tryz.func8, Tryz.ntmps8
  go_wp2_with (first | (go_at_call 11; fail))
  obtain ⟨W0, hW0, DA, SA, RA, GA⟩ := to_new w y n d p q r s c
  rw [← hW0]
  clear hW0
  refine (CR.out _).mono ?_
  rintro e wA ⟨rfl, hgA⟩
  have DA := DA.gr hgA
  have SA := SA.gr hgA
  have RA := RA.gr hgA
  have GA := GA.trans hgA
  clear hgA
  have D_ := DA
  obtain ⟨lt, c0, c1, c2, c3, z0, z1, z2, z3⟩ := D_
  have S_ := SA
  obtain ⟨ls, p0, p1, p2, p3⟩ := S_
  have R_ := RA
  obtain ⟨lr, r0, r1, r2, r3, g0, g1, g2, g3⟩ := R_
  go_wp2_with (first | ((go_at_call 23; (with_reducible refine (H0.out _).mono ?_); rintro e wB ⟨rfl, hgwB⟩); have g1 := hgwB; have DA := DA.gr g1; have SA := SA.gr g1; have RA := RA.gr g1; clear lt c0 c1 c2 c3 z0 z1 z2 z3 ls p0 p1 p2 p3 lr r0 r1 r2 r3 g0 g1 g2 g3 ; have D_ := DA; obtain ⟨lt, c0, c1, c2, c3, z0, z1, z2, z3⟩ := D_; have S_ := SA; obtain ⟨ls, p0, p1, p2, p3⟩ := S_; have R_ := RA; obtain ⟨lr, r0, r1, r2, r3, g0, g1, g2, g3⟩ := R_))
  exact bodyPost_ret (v := .tuple #[.agg #[.int .i64 0, .int .i64 0, .bool false, .int .i64 0], .int .i64 E]) (by simp [results, Tryz.results8, go_sem, *]) rfl ⟨rfl, (by repeat (first | exact Gr.refl _ | refine Gr.setCell ?_ _ _ (by first | exact Nat.le_refl _ | (simp; omega) | (simp; done) | (show (_ : Nat) ≤ _; omega)) | refine Gr.grown ?_ _ _ | refine Gr.drewN ?_ _ | refine Gr.drew ?_ | refine Gr.alloc ?_ _ | refine Gr.grow ?_ _ | (refine Gr.trans ?_ (by assumption))))⟩

set_option maxRecDepth 20000 in
set_option maxHeartbeats 8000000 in
theorem rto_1 (y n d p q r s m : Int) (c : Bool) (N1 E : Int) (C1 : Bool) (w : World) (hR : spR p q r s = true) (hm : m = 0 ∨ m = 1) (y0 : 1 ≤ y) (y1 : y ≤ 9999) (hE : E ≠ 0) 
    (h0 : ∀ w, Calls Tryz.prog 23 #[.agg #[.int .i64 y, .int .i64 n, .bool c, .int .i64 d]] w fun e w' => e = .returned (.int .i64 0) ∧ Gr w w')
    (h1 : ∀ w, Calls Tryz.prog 24 #[.int .i64 (y + p), .agg #[.int .i64 n, .bool c], .int .i64 m] w fun e w' => e = .returned (.tuple #[.agg #[.int .i64 N1, .bool C1], .int .i64 E]) ∧ Gr w w') :
    Calls Tryz.prog 8 #[.agg #[.int .i64 y, .int .i64 n, .bool c, .int .i64 d], .agg #[.int .i64 p, .int .i64 q, .int .i64 r, .int .i64 s], .int .i64 m] w fun e w' => e = .returned (.tuple #[.agg #[.int .i64 0, .int .i64 0, .bool false, .int .i64 0], .int .i64 E]) ∧ Gr w w' := by
  have H0 := Lib.hid h0
  have H1 := Lib.hid h1
  have CR : RowKit.Hid (∀ W, Calls Tryz.prog 11 #[.agg #[.int .i64 p, .int .i64 q, .int .i64 r, .int .i64 s]] W fun e w' => e = .returned (.bool true) ∧ Gr W w') := Lib.hid fun W => by
    have := rright16_c p q r s W
    rwa [hR] at this
  obtain ⟨⟨b0, b1⟩, -, ⟨b2, b3⟩, b4, b5⟩ := rspR_of hR
  have m0 : ¬ m < 0 := by omega
  have m1 : ¬ 1 < m := by omega
  have e1 : (E == 0) = false := beq_eq_false_iff_ne.2 hE
  have e2 : (E != 0) = true := by simp [bne_iff_ne, hE]
  clear h0 h1 hR hm
  go_enter Tryz.func8, Tryz.ntmps8
  go_wp2_with (first | (go_at_call 11; fail))
  obtain ⟨W0, hW0, DA, SA, RA, GA⟩ := to_new w y n d p q r s c
  rw [← hW0]
  clear hW0
  refine (CR.out _).mono ?_
  rintro e wA ⟨rfl, hgA⟩
  have DA := DA.gr hgA
  have SA := SA.gr hgA
  have RA := RA.gr hgA
  have GA := GA.trans hgA
  clear hgA
  have D_ := DA
  obtain ⟨lt, c0, c1, c2, c3, z0, z1, z2, z3⟩ := D_
  have S_ := SA
  obtain ⟨ls, p0, p1, p2, p3⟩ := S_
  have R_ := RA
  obtain ⟨lr, r0, r1, r2, r3, g0, g1, g2, g3⟩ := R_
  go_wp2_with (first | ((go_at_call 23; (with_reducible refine (H0.out _).mono ?_); rintro e wB ⟨rfl, hgwB⟩); have g1 := hgwB; have DA := DA.gr g1; have SA := SA.gr g1; have RA := RA.gr g1; clear lt c0 c1 c2 c3 z0 z1 z2 z3 ls p0 p1 p2 p3 lr r0 r1 r2 r3 g0 g1 g2 g3 ; have D_ := DA; obtain ⟨lt, c0, c1, c2, c3, z0, z1, z2, z3⟩ := D_; have S_ := SA; obtain ⟨ls, p0, p1, p2, p3⟩ := S_; have R_ := RA; obtain ⟨lr, r0, r1, r2, r3, g0, g1, g2, g3⟩ := R_) |
    ((go_at_call 24; (with_reducible refine (H1.out _).mono ?_); rintro e wC ⟨rfl, hgwC⟩); have g1 := hgwC; have DA := DA.gr g1; have SA := SA.gr g1; have RA := RA.gr g1; clear lt c0 c1 c2 c3 z0 z1 z2 z3 ls p0 p1 p2 p3 lr r0 r1 r2 r3 g0 g1 g2 g3 ; have D_ := DA; obtain ⟨lt, c0, c1, c2, c3, z0, z1, z2, z3⟩ := D_; have S_ := SA; obtain ⟨ls, p0, p1, p2, p3⟩ := S_; have R_ := RA; obtain ⟨lr, r0, r1, r2, r3, g0, g1, g2, g3⟩ := R_; have nW := lr; have nR : ¬ w.heap.size + 1 + 1 = wC.heap.size := (by omega); have nR2 : ¬ wC.heap.size = w.heap.size + 1 + 1 := (by omega)))
  exact bodyPost_ret (v := .tuple #[.agg #[.int .i64 0, .int .i64 0, .bool false, .int .i64 0], .int .i64 E]) (by simp [results, Tryz.results8, go_sem, *]) rfl ⟨rfl, (by repeat (first | exact Gr.refl _ | refine Gr.setCell ?_ _ _ (by first | exact Nat.le_refl _ | (simp; omega) | (simp; done) | (show (_ : Nat) ≤ _; omega)) | refine Gr.grown ?_ _ _ | refine Gr.drewN ?_ _ | refine Gr.drew ?_ | refine Gr.alloc ?_ _ | refine Gr.grow ?_ _ | (refine Gr.trans ?_ (by assumption))))⟩

set_option maxRecDepth 20000 in
set_option maxHeartbeats 8000000 in
theorem rto_2 (y n d p q r s m : Int) (c : Bool) (N1 Y2 N2 E : Int) (C1 C2 : Bool) (w : World) (hR : spR p q r s = true) (hm : m = 0 ∨ m = 1) (y0 : 1 ≤ y) (y1 : y ≤ 9999) (hE : E ≠ 0) 
    (h0 : ∀ w, Calls Tryz.prog 23 #[.agg #[.int .i64 y, .int .i64 n, .bool c, .int .i64 d]] w fun e w' => e = .returned (.int .i64 0) ∧ Gr w w')
    (h1 : ∀ w, Calls Tryz.prog 24 #[.int .i64 (y + p), .agg #[.int .i64 n, .bool c], .int .i64 m] w fun e w' => e = .returned (.tuple #[.agg #[.int .i64 N1, .bool C1], .int .i64 0]) ∧ Gr w w')
    (h2 : ∀ w, Calls Tryz.prog 25 #[.int .i64 (y + p), .agg #[.int .i64 N1, .bool C1], .int .i64 q] w fun e w' => e = .returned (.tuple #[.int .i64 Y2, .agg #[.int .i64 N2, .bool C2], .int .i64 E]) ∧ Gr w w') :
    Calls Tryz.prog 8 #[.agg #[.int .i64 y, .int .i64 n, .bool c, .int .i64 d], .agg #[.int .i64 p, .int .i64 q, .int .i64 r, .int .i64 s], .int .i64 m] w fun e w' => e = .returned (.tuple #[.agg #[.int .i64 0, .int .i64 0, .bool false, .int .i64 0], .int .i64 E]) ∧ Gr w w' := by
  have H0 := Lib.hid h0
  have H1 := Lib.hid h1
  have H2 := Lib.hid h2
  have CR : RowKit.Hid (∀ W, Calls Tryz.prog 11 #[.agg #[.int .i64 p, .int .i64 q, .int .i64 r, .int .i64 s]] W fun e w' => e = .returned (.bool true) ∧ Gr W w') := Lib.hid fun W => by
    have := rright16_c p q r s W
    rwa [hR] at this
  obtain ⟨⟨b0, b1⟩, -, ⟨b2, b3⟩, b4, b5⟩ := rspR_of hR
  have m0 : ¬ m < 0 := by omega
  have m1 : ¬ 1 < m := by omega
  have e1 : (E == 0) = false := beq_eq_false_iff_ne.2 hE
  have e2 : (E != 0) = true := by simp [bne_iff_ne, hE]
  clear h0 h1 h2 hR hm
  go_enter Tryz.func8, Tryz.ntmps8
  go_wp2_with (first | (go_at_call 11; fail))
  obtain ⟨W0, hW0, DA, SA, RA, GA⟩ := to_new w y n d p q r s c
  rw [← hW0]
  clear hW0
  refine (CR.out _).mono ?_
  rintro e wA ⟨rfl, hgA⟩
  have DA := DA.gr hgA
  have SA := SA.gr hgA
  have RA := RA.gr hgA
  have GA := GA.trans hgA
  clear hgA
  have D_ := DA
  obtain ⟨lt, c0, c1, c2, c3, z0, z1, z2, z3⟩ := D_
  have S_ := SA
  obtain ⟨ls, p0, p1, p2, p3⟩ := S_
  have R_ := RA
  obtain ⟨lr, r0, r1, r2, r3, g0, g1, g2, g3⟩ := R_
  go_wp2_with (first | ((go_at_call 23; (with_reducible refine (H0.out _).mono ?_); rintro e wB ⟨rfl, hgwB⟩); have g1 := hgwB; have DA := DA.gr g1; have SA := SA.gr g1; have RA := RA.gr g1; clear lt c0 c1 c2 c3 z0 z1 z2 z3 ls p0 p1 p2 p3 lr r0 r1 r2 r3 g0 g1 g2 g3 ; have D_ := DA; obtain ⟨lt, c0, c1, c2, c3, z0, z1, z2, z3⟩ := D_; have S_ := SA; obtain ⟨ls, p0, p1, p2, p3⟩ := S_; have R_ := RA; obtain ⟨lr, r0, r1, r2, r3, g0, g1, g2, g3⟩ := R_) |
    ((go_at_call 24; (with_reducible refine (H1.out _).mono ?_); rintro e wC ⟨rfl, hgwC⟩); have g1 := hgwC; have DA := DA.gr g1; have SA := SA.gr g1; have RA := RA.gr g1; clear lt c0 c1 c2 c3 z0 z1 z2 z3 ls p0 p1 p2 p3 lr r0 r1 r2 r3 g0 g1 g2 g3 ; have D_ := DA; obtain ⟨lt, c0, c1, c2, c3, z0, z1, z2, z3⟩ := D_; have S_ := SA; obtain ⟨ls, p0, p1, p2, p3⟩ := S_; have R_ := RA; obtain ⟨lr, r0, r1, r2, r3, g0, g1, g2, g3⟩ := R_; have nW := lr; have nR : ¬ w.heap.size + 1 + 1 = wC.heap.size := (by omega); have nR2 : ¬ wC.heap.size = w.heap.size + 1 + 1 := (by omega)) |
    ((go_at_call 25; (with_reducible refine (H2.out _).mono ?_); rintro e wD ⟨rfl, hgwD⟩); have g1 := ((Gr.refl wC).alloc _).trans hgwD; have DA := DA.gr g1; have SA := SA.gr g1; have RA := RA.gr g1; clear lt c0 c1 c2 c3 z0 z1 z2 z3 ls p0 p1 p2 p3 lr r0 r1 r2 r3 g0 g1 g2 g3 ; have D_ := DA; obtain ⟨lt, c0, c1, c2, c3, z0, z1, z2, z3⟩ := D_; have S_ := SA; obtain ⟨ls, p0, p1, p2, p3⟩ := S_; have R_ := RA; obtain ⟨lr, r0, r1, r2, r3, g0, g1, g2, g3⟩ := R_; have CA := (C3.at (w := wC) rfl N1 C1).gr hgwD; have C_ := CA; obtain ⟨lk, k0, k1, x0, x1⟩ := C_))
  exact bodyPost_ret (v := .tuple #[.agg #[.int .i64 0, .int .i64 0, .bool false, .int .i64 0], .int .i64 E]) (by simp [results, Tryz.results8, go_sem, *]) rfl ⟨rfl, (by repeat (first | exact Gr.refl _ | refine Gr.setCell ?_ _ _ (by first | exact Nat.le_refl _ | (simp; omega) | (simp; done) | (show (_ : Nat) ≤ _; omega)) | refine Gr.grown ?_ _ _ | refine Gr.drewN ?_ _ | refine Gr.drew ?_ | refine Gr.alloc ?_ _ | refine Gr.grow ?_ _ | (refine Gr.trans ?_ (by assumption))))⟩

set_option maxRecDepth 20000 in
set_option maxHeartbeats 8000000 in
theorem rto_3 (y n d p q r s m : Int) (c : Bool) (N1 Y2 N2 D3 E : Int) (C1 C2 : Bool) (w : World) (hR : spR p q r s = true) (hm : m = 0 ∨ m = 1) (y0 : 1 ≤ y) (y1 : y ≤ 9999) (hE : E ≠ 0) 
    (h0 : ∀ w, Calls Tryz.prog 23 #[.agg #[.int .i64 y, .int .i64 n, .bool c, .int .i64 d]] w fun e w' => e = .returned (.int .i64 0) ∧ Gr w w')
    (h1 : ∀ w, Calls Tryz.prog 24 #[.int .i64 (y + p), .agg #[.int .i64 n, .bool c], .int .i64 m] w fun e w' => e = .returned (.tuple #[.agg #[.int .i64 N1, .bool C1], .int .i64 0]) ∧ Gr w w')
    (h2 : ∀ w, Calls Tryz.prog 25 #[.int .i64 (y + p), .agg #[.int .i64 N1, .bool C1], .int .i64 q] w fun e w' => e = .returned (.tuple #[.int .i64 Y2, .agg #[.int .i64 N2, .bool C2], .int .i64 0]) ∧ Gr w w')
    (h3 : ∀ w, Calls Tryz.prog 26 #[.int .i64 Y2, .agg #[.int .i64 N2, .bool C2], .int .i64 d, .int .i64 m] w fun e w' => e = .returned (.tuple #[.int .i64 D3, .int .i64 E]) ∧ Gr w w') :
    Calls Tryz.prog 8 #[.agg #[.int .i64 y, .int .i64 n, .bool c, .int .i64 d], .agg #[.int .i64 p, .int .i64 q, .int .i64 r, .int .i64 s], .int .i64 m] w fun e w' => e = .returned (.tuple #[.agg #[.int .i64 0, .int .i64 0, .bool false, .int .i64 0], .int .i64 E]) ∧ Gr w w' := by
  have H0 := Lib.hid h0
  have H1 := Lib.hid h1
  have H2 := Lib.hid h2
  have H3 := Lib.hid h3
  have CR : RowKit.Hid (∀ W, Calls Tryz.prog 11 #[.agg #[.int .i64 p, .int .i64 q, .int .i64 r, .int .i64 s]] W fun e w' => e = .returned (.bool true) ∧ Gr W w') := Lib.hid fun W => by
    have := rright16_c p q r s W
    rwa [hR] at this
  obtain ⟨⟨b0, b1⟩, -, ⟨b2, b3⟩, b4, b5⟩ := rspR_of hR
  have m0 : ¬ m < 0 := by omega
  have m1 : ¬ 1 < m := by omega
  have e1 : (E == 0) = false := beq_eq_false_iff_ne.2 hE
  have e2 : (E != 0) = true := by simp [bne_iff_ne, hE]
  clear h0 h1 h2 h3 hR hm
  go_enter Tryz.func8, Tryz.ntmps8
  go_wp2_with (first | (go_at_call 11; fail))
  obtain ⟨W0, hW0, DA, SA, RA, GA⟩ := to_new w y n d p q r s c
  rw [← hW0]
  clear hW0
  refine (CR.out _).mono ?_
  rintro e wA ⟨rfl, hgA⟩
  have DA := DA.gr hgA
  have SA := SA.gr hgA
  have RA := RA.gr hgA
  have GA := GA.trans hgA
  clear hgA
  have D_ := DA
  obtain ⟨lt, c0, c1, c2, c3, z0, z1, z2, z3⟩ := D_
  have S_ := SA
  obtain ⟨ls, p0, p1, p2, p3⟩ := S_
  have R_ := RA
  obtain ⟨lr, r0, r1, r2, r3, g0, g1, g2, g3⟩ := R_
  go_wp2_with (first | ((go_at_call 23; (with_reducible refine (H0.out _).mono ?_); rintro e wB ⟨rfl, hgwB⟩); have g1 := hgwB; have DA := DA.gr g1; have SA := SA.gr g1; have RA := RA.gr g1; clear lt c0 c1 c2 c3 z0 z1 z2 z3 ls p0 p1 p2 p3 lr r0 r1 r2 r3 g0 g1 g2 g3 ; have D_ := DA; obtain ⟨lt, c0, c1, c2, c3, z0, z1, z2, z3⟩ := D_; have S_ := SA; obtain ⟨ls, p0, p1, p2, p3⟩ := S_; have R_ := RA; obtain ⟨lr, r0, r1, r2, r3, g0, g1, g2, g3⟩ := R_) |
    ((go_at_call 24; (with_reducible refine (H1.out _).mono ?_); rintro e wC ⟨rfl, hgwC⟩); have g1 := hgwC; have DA := DA.gr g1; have SA := SA.gr g1; have RA := RA.gr g1; clear lt c0 c1 c2 c3 z0 z1 z2 z3 ls p0 p1 p2 p3 lr r0 r1 r2 r3 g0 g1 g2 g3 ; have D_ := DA; obtain ⟨lt, c0, c1, c2, c3, z0, z1, z2, z3⟩ := D_; have S_ := SA; obtain ⟨ls, p0, p1, p2, p3⟩ := S_; have R_ := RA; obtain ⟨lr, r0, r1, r2, r3, g0, g1, g2, g3⟩ := R_; have nW := lr; have nR : ¬ w.heap.size + 1 + 1 = wC.heap.size := (by omega); have nR2 : ¬ wC.heap.size = w.heap.size + 1 + 1 := (by omega)) |
    ((go_at_call 25; (with_reducible refine (H2.out _).mono ?_); rintro e wD ⟨rfl, hgwD⟩); have g1 := ((Gr.refl wC).alloc _).trans hgwD; have DA := DA.gr g1; have SA := SA.gr g1; have RA := RA.gr g1; clear lt c0 c1 c2 c3 z0 z1 z2 z3 ls p0 p1 p2 p3 lr r0 r1 r2 r3 g0 g1 g2 g3 ; have D_ := DA; obtain ⟨lt, c0, c1, c2, c3, z0, z1, z2, z3⟩ := D_; have S_ := SA; obtain ⟨ls, p0, p1, p2, p3⟩ := S_; have R_ := RA; obtain ⟨lr, r0, r1, r2, r3, g0, g1, g2, g3⟩ := R_; have CA := (C3.at (w := wC) rfl N1 C1).gr hgwD; have C_ := CA; obtain ⟨lk, k0, k1, x0, x1⟩ := C_) |
    ((go_at_call 26; (with_reducible refine (H3.out _).mono ?_); rintro e wE ⟨rfl, hgwE⟩); have g1 := hgwE; have DA := ((DA.set (b' := wC.heap.size) (o := 0) (v := .int .i64 N2) (by omega)).set (b' := wC.heap.size) (o := 1) (v := .bool C2) (by omega)).gr g1; have SA := ((SA.set (b' := wC.heap.size) (o := 0) (v := .int .i64 N2) (by omega)).set (b' := wC.heap.size) (o := 1) (v := .bool C2) (by omega)).gr g1; have RA := ((RA.set (b' := wC.heap.size) (o := 0) (v := .int .i64 N2) (by omega)).set (b' := wC.heap.size) (o := 1) (v := .bool C2) (by omega)).gr g1; clear lt c0 c1 c2 c3 z0 z1 z2 z3 ls p0 p1 p2 p3 lr r0 r1 r2 r3 g0 g1 g2 g3 lk k0 k1 x0 x1; have D_ := DA; obtain ⟨lt, c0, c1, c2, c3, z0, z1, z2, z3⟩ := D_; have S_ := SA; obtain ⟨ls, p0, p1, p2, p3⟩ := S_; have R_ := RA; obtain ⟨lr, r0, r1, r2, r3, g0, g1, g2, g3⟩ := R_; have CA := (CA.put N2 C2).gr hgwE; have C_ := CA; obtain ⟨lk, k0, k1, x0, x1⟩ := C_))
  exact bodyPost_ret (v := .tuple #[.agg #[.int .i64 0, .int .i64 0, .bool false, .int .i64 0], .int .i64 E]) (by simp [results, Tryz.results8, go_sem, *]) rfl ⟨rfl, (by repeat (first | exact Gr.refl _ | refine Gr.setCell ?_ _ _ (by first | exact Nat.le_refl _ | (simp; omega) | (simp; done) | (show (_ : Nat) ≤ _; omega)) | refine Gr.grown ?_ _ _ | refine Gr.drewN ?_ _ | refine Gr.drew ?_ | refine Gr.alloc ?_ _ | refine Gr.grow ?_ _ | (refine Gr.trans ?_ (by assumption))))⟩

set_option maxRecDepth 20000 in
set_option maxHeartbeats 8000000 in
theorem rto_5 (y n d p q r s m : Int) (c : Bool) (N1 Y2 N2 D3 H R1 R2 R4 E : Int) (C1 C2 R3 : Bool) (w : World) (hR : spR p q r s = true) (hm : m = 0 ∨ m = 1) (y0 : 1 ≤ y) (y1 : y ≤ 9999) (H0b : -1373427 ≤ H) (H1b : H ≤ 2278650) 
    (h0 : ∀ w, Calls Tryz.prog 23 #[.agg #[.int .i64 y, .int .i64 n, .bool c, .int .i64 d]] w fun e w' => e = .returned (.int .i64 0) ∧ Gr w w')
    (h1 : ∀ w, Calls Tryz.prog 24 #[.int .i64 (y + p), .agg #[.int .i64 n, .bool c], .int .i64 m] w fun e w' => e = .returned (.tuple #[.agg #[.int .i64 N1, .bool C1], .int .i64 0]) ∧ Gr w w')
    (h2 : ∀ w, Calls Tryz.prog 25 #[.int .i64 (y + p), .agg #[.int .i64 N1, .bool C1], .int .i64 q] w fun e w' => e = .returned (.tuple #[.int .i64 Y2, .agg #[.int .i64 N2, .bool C2], .int .i64 0]) ∧ Gr w w')
    (h3 : ∀ w, Calls Tryz.prog 26 #[.int .i64 Y2, .agg #[.int .i64 N2, .bool C2], .int .i64 d, .int .i64 m] w fun e w' => e = .returned (.tuple #[.int .i64 D3, .int .i64 0]) ∧ Gr w w')
    (h4 : ∀ w, Calls Tryz.prog 17 #[.agg #[.int .i64 Y2, .int .i64 N2, .bool C2, .int .i64 D3]] w fun e w' => e = .returned (.tuple #[.int .i64 H, .int .i64 0]) ∧ Gr w w')
    (h5 : ∀ w, Calls Tryz.prog 27 #[.int .i64 (H + 7 * r + s)] w fun e w' => e = .returned (.tuple #[.agg #[.int .i64 R1, .int .i64 R2, .bool R3, .int .i64 R4], .int .i64 E]) ∧ Gr w w') :
    Calls Tryz.prog 8 #[.agg #[.int .i64 y, .int .i64 n, .bool c, .int .i64 d], .agg #[.int .i64 p, .int .i64 q, .int .i64 r, .int .i64 s], .int .i64 m] w fun e w' => e = .returned (.tuple #[.agg #[.int .i64 R1, .int .i64 R2, .bool R3, .int .i64 R4], .int .i64 E]) ∧ Gr w w' := by
  have H0 := Lib.hid h0
  have H1 := Lib.hid h1
  have H2 := Lib.hid h2
  have H3 := Lib.hid h3
  have H4 := Lib.hid h4
  have H5 := Lib.hid h5
  have CR : RowKit.Hid (∀ W, Calls Tryz.prog 11 #[.agg #[.int .i64 p, .int .i64 q, .int .i64 r, .int .i64 s]] W fun e w' => e = .returned (.bool true) ∧ Gr W w') := Lib.hid fun W => by
    have := rright16_c p q r s W
    rwa [hR] at this
  obtain ⟨⟨b0, b1⟩, -, ⟨b2, b3⟩, b4, b5⟩ := rspR_of hR
  have m0 : ¬ m < 0 := by omega
  have m1 : ¬ 1 < m := by omega
  clear h0 h1 h2 h3 h4 h5 hR hm
  go_enter Tryz.func8, Tryz.ntmps8
  go_wp2_with (first | (go_at_call 11; fail))
  obtain ⟨W0, hW0, DA, SA, RA, GA⟩ := to_new w y n d p q r s c
  rw [← hW0]
  clear hW0
  refine (CR.out _).mono ?_
  rintro e wA ⟨rfl, hgA⟩
  have DA := DA.gr hgA
  have SA := SA.gr hgA
  have RA := RA.gr hgA
  have GA := GA.trans hgA
  clear hgA
  have D_ := DA
  obtain ⟨lt, c0, c1, c2, c3, z0, z1, z2, z3⟩ := D_
  have S_ := SA
  obtain ⟨ls, p0, p1, p2, p3⟩ := S_
  have R_ := RA
  obtain ⟨lr, r0, r1, r2, r3, g0, g1, g2, g3⟩ := R_
  go_wp2_with (first | ((go_at_call 23; (with_reducible refine (H0.out _).mono ?_); rintro e wB ⟨rfl, hgwB⟩); have g1 := hgwB; have DA := DA.gr g1; have SA := SA.gr g1; have RA := RA.gr g1; clear lt c0 c1 c2 c3 z0 z1 z2 z3 ls p0 p1 p2 p3 lr r0 r1 r2 r3 g0 g1 g2 g3 ; have D_ := DA; obtain ⟨lt, c0, c1, c2, c3, z0, z1, z2, z3⟩ := D_; have S_ := SA; obtain ⟨ls, p0, p1, p2, p3⟩ := S_; have R_ := RA; obtain ⟨lr, r0, r1, r2, r3, g0, g1, g2, g3⟩ := R_) |
    ((go_at_call 24; (with_reducible refine (H1.out _).mono ?_); rintro e wC ⟨rfl, hgwC⟩); have g1 := hgwC; have DA := DA.gr g1; have SA := SA.gr g1; have RA := RA.gr g1; clear lt c0 c1 c2 c3 z0 z1 z2 z3 ls p0 p1 p2 p3 lr r0 r1 r2 r3 g0 g1 g2 g3 ; have D_ := DA; obtain ⟨lt, c0, c1, c2, c3, z0, z1, z2, z3⟩ := D_; have S_ := SA; obtain ⟨ls, p0, p1, p2, p3⟩ := S_; have R_ := RA; obtain ⟨lr, r0, r1, r2, r3, g0, g1, g2, g3⟩ := R_; have nW := lr; have nR : ¬ w.heap.size + 1 + 1 = wC.heap.size := (by omega); have nR2 : ¬ wC.heap.size = w.heap.size + 1 + 1 := (by omega)) |
    ((go_at_call 25; (with_reducible refine (H2.out _).mono ?_); rintro e wD ⟨rfl, hgwD⟩); have g1 := ((Gr.refl wC).alloc _).trans hgwD; have DA := DA.gr g1; have SA := SA.gr g1; have RA := RA.gr g1; clear lt c0 c1 c2 c3 z0 z1 z2 z3 ls p0 p1 p2 p3 lr r0 r1 r2 r3 g0 g1 g2 g3 ; have D_ := DA; obtain ⟨lt, c0, c1, c2, c3, z0, z1, z2, z3⟩ := D_; have S_ := SA; obtain ⟨ls, p0, p1, p2, p3⟩ := S_; have R_ := RA; obtain ⟨lr, r0, r1, r2, r3, g0, g1, g2, g3⟩ := R_; have CA := (C3.at (w := wC) rfl N1 C1).gr hgwD; have C_ := CA; obtain ⟨lk, k0, k1, x0, x1⟩ := C_) |
    ((go_at_call 26; (with_reducible refine (H3.out _).mono ?_); rintro e wE ⟨rfl, hgwE⟩); have g1 := hgwE; have DA := ((DA.set (b' := wC.heap.size) (o := 0) (v := .int .i64 N2) (by omega)).set (b' := wC.heap.size) (o := 1) (v := .bool C2) (by omega)).gr g1; have SA := ((SA.set (b' := wC.heap.size) (o := 0) (v := .int .i64 N2) (by omega)).set (b' := wC.heap.size) (o := 1) (v := .bool C2) (by omega)).gr g1; have RA := ((RA.set (b' := wC.heap.size) (o := 0) (v := .int .i64 N2) (by omega)).set (b' := wC.heap.size) (o := 1) (v := .bool C2) (by omega)).gr g1; clear lt c0 c1 c2 c3 z0 z1 z2 z3 ls p0 p1 p2 p3 lr r0 r1 r2 r3 g0 g1 g2 g3 lk k0 k1 x0 x1; have D_ := DA; obtain ⟨lt, c0, c1, c2, c3, z0, z1, z2, z3⟩ := D_; have S_ := SA; obtain ⟨ls, p0, p1, p2, p3⟩ := S_; have R_ := RA; obtain ⟨lr, r0, r1, r2, r3, g0, g1, g2, g3⟩ := R_; have CA := (CA.put N2 C2).gr hgwE; have C_ := CA; obtain ⟨lk, k0, k1, x0, x1⟩ := C_) |
    ((go_at_call 17; (with_reducible refine (H4.out _).mono ?_); rintro e wF ⟨rfl, hgwF⟩); have g1 := hgwF; have DA := DA.gr g1; have SA := SA.gr g1; have RA := RA.gr g1; clear lt c0 c1 c2 c3 z0 z1 z2 z3 ls p0 p1 p2 p3 lr r0 r1 r2 r3 g0 g1 g2 g3 lk k0 k1 x0 x1; have D_ := DA; obtain ⟨lt, c0, c1, c2, c3, z0, z1, z2, z3⟩ := D_; have S_ := SA; obtain ⟨ls, p0, p1, p2, p3⟩ := S_; have R_ := RA; obtain ⟨lr, r0, r1, r2, r3, g0, g1, g2, g3⟩ := R_; have CA := CA.gr hgwF) |
    ((go_at_call 27; (with_reducible refine (H5.out _).mono ?_); rintro e wG ⟨rfl, hgwG⟩); have g1 := hgwG; have DA := DA.gr g1; have SA := SA.gr g1; have RA := RA.gr g1; clear lt c0 c1 c2 c3 z0 z1 z2 z3 ls p0 p1 p2 p3 lr r0 r1 r2 r3 g0 g1 g2 g3 ; have D_ := DA; obtain ⟨lt, c0, c1, c2, c3, z0, z1, z2, z3⟩ := D_; have S_ := SA; obtain ⟨ls, p0, p1, p2, p3⟩ := S_; have R_ := RA; obtain ⟨lr, r0, r1, r2, r3, g0, g1, g2, g3⟩ := R_))
  exact bodyPost_ret (v := .tuple #[.agg #[.int .i64 R1, .int .i64 R2, .bool R3, .int .i64 R4], .int .i64 E]) (by simp [results, Tryz.results8, go_sem, *]) rfl ⟨rfl, (by repeat (first | exact Gr.refl _ | refine Gr.setCell ?_ _ _ (by first | exact Nat.le_refl _ | (simp; omega) | (simp; done) | (show (_ : Nat) ≤ _; omega)) | refine Gr.grown ?_ _ _ | refine Gr.drewN ?_ _ | refine Gr.drew ?_ | refine Gr.alloc ?_ _ | refine Gr.grow ?_ _ | (refine Gr.trans ?_ (by assumption))))⟩

end Go.Proofs.YtkiopgegdkeojaaGreatDoor.Walks
