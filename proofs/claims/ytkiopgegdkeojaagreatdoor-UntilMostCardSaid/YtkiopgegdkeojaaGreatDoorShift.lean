/- Walks of package shift: a code brought into a year, the month so many months away, a day fitted into a month. -/
import Derived.Test.YtkiopgegdkeojaaGreatDoorShMath
import Derived.Test.YtkiopgegdkeojaaGreatDoorHeb2
import Derived.Test.YtkiopgegdkeojaaGreatDoorTail
import Derived.Test.YtkiopgegdkeojaaGreatDoorSearch
set_option linter.unusedVariables false
set_option linter.unusedSimpArgs false
namespace Go.Proofs.YtkiopgegdkeojaaGreatDoor.Walks
open Go Go.RowKit Go.Sort Go.Proofs.YtkiopgegdkeojaaGreatDoor.Base Go.Proofs.YtkiopgegdkeojaaGreatDoor.Plain Go.Proofs.YtkiopgegdkeojaaGreatDoor.Math

theorem sleap_c (y : Int) (w : World) : Calls Tryz.prog 73 #[.int .i64 y] w fun e w' => e = .returned (.bool (lpN y)) ∧ Gr w w' := by
  go_enter Tryz.func73, Tryz.ntmps73
  go_wp2_with (first | (go_at_call 87; (with_reducible refine (leap_c y _).mono ?_); rintro e wA ⟨rfl, hgwA⟩))
  go_ret
  exact ⟨rfl, (by repeat (first | exact Gr.refl _ | refine Gr.setCell ?_ _ _ (by first | exact Nat.le_refl _ | (simp; omega) | (simp; done)) | refine Gr.grown ?_ _ _ | refine Gr.drewN ?_ _ | refine Gr.drew ?_ | refine Gr.alloc ?_ _ | refine Gr.grow ?_ _ | (refine Gr.trans ?_ (by assumption))))⟩
theorem sleap_in (y : Int) (w : World) (h0 : 0 ≤ y) (h1 : y ≤ 10001) : Calls Tryz.prog 73 #[.int .i64 y] w fun e w' => e = .returned (.bool (lp y)) ∧ Gr w w' := by
  have := sleap_c y w
  rwa [lpN_in h0 h1] at this
theorem sahead_c (y : Int) (w : World) : Calls Tryz.prog 75 #[.int .i64 y] w fun e w' => e = .returned (.int .i64 (bfN y)) ∧ Gr w w' := by
  go_enter Tryz.func75, Tryz.ntmps75
  go_wp2_with (first | (go_at_call 94; (with_reducible refine (before_c y _).mono ?_); rintro e wA ⟨rfl, hgwA⟩))
  go_ret
  exact ⟨rfl, (by repeat (first | exact Gr.refl _ | refine Gr.setCell ?_ _ _ (by first | exact Nat.le_refl _ | (simp; omega) | (simp; done)) | refine Gr.grown ?_ _ _ | refine Gr.drewN ?_ _ | refine Gr.drew ?_ | refine Gr.alloc ?_ _ | refine Gr.grow ?_ _ | (refine Gr.trans ?_ (by assumption))))⟩
theorem sahead_in (y : Int) (w : World) (h0 : 0 ≤ y) (h1 : y ≤ 10001) : Calls Tryz.prog 75 #[.int .i64 y] w fun e w' => e = .returned (.int .i64 (bf y)) ∧ Gr w w' := by
  have := sahead_c y w
  rwa [bfN_in h0 h1] at this

/-- The error, and the code, of a code brought into a year. -/
def inE (y n : Int) (c : Bool) (m : Int) : Int :=
  if m = 0 ∨ m = 1 then (if 1 ≤ y ∧ y ≤ 9999 then (if cR n c = true then (if cHas (lp y) n c = true then 0 else if m = 1 then 7 else 0) else 3) else 2) else 1
def inNum (y n : Int) (c : Bool) (m : Int) : Int := if inE y n c m = 0 then (if cHas (lp y) n c = true then n else n + 1) else 0
def inLp (y n : Int) (c : Bool) (m : Int) : Bool := if inE y n c m = 0 then (if cHas (lp y) n c = true then c else false) else false

/-- A code's box and a result's, laid ahead. -/
structure ZC (w : World) (b : Nat) : Prop where
  lt : b < w.heap.size
  c0 : w.cell? ⟨b, 0, none⟩ = some (.int .i64 0)
  c1 : w.cell? ⟨b, 1, none⟩ = some (.bool false)
  f0 : w.frozen? ⟨b, 0, none⟩ = false
  f1 : w.frozen? ⟨b, 1, none⟩ = false
theorem ZC.gr {w w' : World} {b : Nat} (h : ZC w b) (g : Gr w w') : ZC w' b := ⟨g.lt h.lt, g.keep h.lt h.c0, g.keep h.lt h.c1, g.thaw h.lt h.f0, g.thaw h.lt h.f1⟩
theorem ZC.new (w : World) : ZC (w.alloc (.cells #[.int .i64 0, .bool false] 23)) w.heap.size := ⟨by simp, by simp [go_sem], by simp [go_sem], by simp [go_sem], by simp [go_sem]⟩
theorem ZC.at {w : World} {b : Nat} (h : w.heap.size = b) : ZC (w.alloc (.cells #[.int .i64 0, .bool false] 23)) b := by subst h; exact ZC.new w

set_option maxHeartbeats 2000000 in
theorem sinto_mode (y n m : Int) (c : Bool) (w : World) (h : m ≠ 0 ∧ m ≠ 1) :
    Calls Tryz.prog 41 #[.int .i64 y, .agg #[.int .i64 n, .bool c], .int .i64 m] w fun e w' => e = .returned (.tuple #[.agg #[.int .i64 0, .bool false], .int .i64 1]) ∧ Gr w w' := by
  have q0 : (m == 0) = false := beq_eq_false_iff_ne.2 h.1
  have q1 : (m == 1) = false := beq_eq_false_iff_ne.2 h.2
  have p0 : (m != 0) = true := bne_iff_ne.2 h.1
  have p1 : (m != 1) = true := bne_iff_ne.2 h.2
  clear h
  go_enter Tryz.func41, Tryz.ntmps41
  go_wp2
  exact bodyPost_ret (v := .tuple #[.agg #[.int .i64 0, .bool false], .int .i64 1]) (by simp [results, Tryz.results41, go_sem, *]) rfl ⟨rfl, (by repeat (first | exact Gr.refl _ | refine Gr.setCell ?_ _ _ (by first | exact Nat.le_refl _ | (simp; omega) | (simp; done)) | refine Gr.grown ?_ _ _ | refine Gr.drewN ?_ _ | refine Gr.drew ?_ | refine Gr.alloc ?_ _ | refine Gr.grow ?_ _ | (refine Gr.trans ?_ (by assumption))))⟩
set_option maxHeartbeats 2000000 in
theorem sinto_y (y n m : Int) (c : Bool) (w : World) (h : m = 0 ∨ m = 1) (hy : y < 1 ∨ 9999 < y) :
    Calls Tryz.prog 41 #[.int .i64 y, .agg #[.int .i64 n, .bool c], .int .i64 m] w fun e w' => e = .returned (.tuple #[.agg #[.int .i64 0, .bool false], .int .i64 2]) ∧ Gr w w' := by
  rcases h with rfl | rfl
  all_goals (
    by_cases g : y < 1
    · clear hy
      go_enter Tryz.func41, Tryz.ntmps41
      go_wp2
      exact bodyPost_ret (v := .tuple #[.agg #[.int .i64 0, .bool false], .int .i64 2]) (by simp [results, Tryz.results41, go_sem, *]) rfl ⟨rfl, (by repeat (first | exact Gr.refl _ | refine Gr.setCell ?_ _ _ (by first | exact Nat.le_refl _ | (simp; omega) | (simp; done)) | refine Gr.grown ?_ _ _ | refine Gr.drewN ?_ _ | refine Gr.drew ?_ | refine Gr.alloc ?_ _ | refine Gr.grow ?_ _ | (refine Gr.trans ?_ (by assumption))))⟩
    · have g2 : 9999 < y := by omega
      clear hy
      go_enter Tryz.func41, Tryz.ntmps41
      go_wp2
      exact bodyPost_ret (v := .tuple #[.agg #[.int .i64 0, .bool false], .int .i64 2]) (by simp [results, Tryz.results41, go_sem, *]) rfl ⟨rfl, (by repeat (first | exact Gr.refl _ | refine Gr.setCell ?_ _ _ (by first | exact Nat.le_refl _ | (simp; omega) | (simp; done)) | refine Gr.grown ?_ _ _ | refine Gr.drewN ?_ _ | refine Gr.drew ?_ | refine Gr.alloc ?_ _ | refine Gr.grow ?_ _ | (refine Gr.trans ?_ (by assumption))))⟩)
set_option maxHeartbeats 2000000 in
theorem sinto_c3 (y n m : Int) (c : Bool) (w : World) (h : m = 0 ∨ m = 1) (h0 : 1 ≤ y) (h1 : y ≤ 9999) (hc : cR n c = false) :
    Calls Tryz.prog 41 #[.int .i64 y, .agg #[.int .i64 n, .bool c], .int .i64 m] w fun e w' => e = .returned (.tuple #[.agg #[.int .i64 0, .bool false], .int .i64 3]) ∧ Gr w w' := by
  have c1 := fun w => cright_c n c w
  rw [hc] at c1
  have C1 := Lib.hid c1
  clear c1 hc
  rcases h with rfl | rfl
  all_goals (
    go_enter Tryz.func41, Tryz.ntmps41
    go_wp2_with (first | ((go_at_call 71; (with_reducible refine (C1.out _).mono ?_); rintro e wA ⟨rfl, hgwA⟩); obtain ⟨lt, c0, c1, f0, f1⟩ := (ZC.at (w := w.alloc (.cells #[.int .i64 n, .bool c] 23)) (b := w.heap.size + 1) (by simp)).gr hgwA))
    exact bodyPost_ret (v := .tuple #[.agg #[.int .i64 0, .bool false], .int .i64 3]) (by simp [results, Tryz.results41, go_sem, *]) rfl ⟨rfl, (by repeat (first | exact Gr.refl _ | refine Gr.setCell ?_ _ _ (by first | exact Nat.le_refl _ | (simp; omega) | (simp; done)) | refine Gr.grown ?_ _ _ | refine Gr.drewN ?_ _ | refine Gr.drew ?_ | refine Gr.alloc ?_ _ | refine Gr.grow ?_ _ | (refine Gr.trans ?_ (by assumption))))⟩)
set_option maxHeartbeats 8000000 in
/-- A code that may be: brought into the year. -/
theorem sinto_at (y n m R E : Int) (c C o : Bool) (P : Int) (w : World) (hm : m = 0 ∨ m = 1) (h0 : 1 ≤ y) (h1 : y ≤ 9999) (hc : cR n c = true) (n0 : -100 ≤ n) (n1 : n ≤ 100)
    (hp : ∀ w, Calls Tryz.prog 72 #[.bool (lp y), .agg #[.int .i64 n, .bool c]] w fun e w' => e = .returned (.tuple #[.int .i64 P, .bool o]) ∧ Gr w w')
    (hr : (o = true ∧ R = n ∧ C = c ∧ E = 0) ∨ (o = false ∧ m = 0 ∧ R = n + 1 ∧ C = false ∧ E = 0) ∨ (o = false ∧ m = 1 ∧ R = 0 ∧ C = false ∧ E = 7)) :
    Calls Tryz.prog 41 #[.int .i64 y, .agg #[.int .i64 n, .bool c], .int .i64 m] w fun e w' => e = .returned (.tuple #[.agg #[.int .i64 R, .bool C], .int .i64 E]) ∧ Gr w w' := by
  have c1 := fun w => cright_c n c w
  rw [hc] at c1
  have C1 := Lib.hid c1
  have C2 := Lib.hid fun w => sleap_in y w (by omega) (by omega)
  have C3 := Lib.hid hp
  obtain ⟨l, hl⟩ : ∃ l, lp y = l := ⟨_, rfl⟩
  rw [hl] at C2 C3
  clear hc hp c1 hl
  rcases hr with ⟨rfl, rfl, rfl, rfl⟩ | ⟨rfl, rfl, rfl, rfl, rfl⟩ | ⟨rfl, rfl, rfl, rfl, rfl⟩
  · rcases hm with rfl | rfl
    all_goals (
      go_enter Tryz.func41, Tryz.ntmps41
      go_wp2_with (first | ((go_at_call 71; (with_reducible refine (C1.out _).mono ?_); rintro e wA ⟨rfl, hgwA⟩); have c0 := hgwA.keep (b := w.heap.size) (o := 0) (v := .int .i64 R) (by first | (simp; done) | (simp; omega)) (by simp [go_sem]); have c1 := hgwA.keep (b := w.heap.size) (o := 1) (v := .bool C) (by first | (simp; done) | (simp; omega)) (by simp [go_sem]); have hl0 := hgwA.lt (b := w.heap.size) (by simp; omega); have Z := (ZC.at (w := w.alloc (.cells #[.int .i64 R, .bool C] 23)) (b := w.heap.size + 1) (by simp)).gr hgwA; have GA : Gr w wA := (by repeat (first | exact Gr.refl _ | refine Gr.setCell ?_ _ _ (by first | exact Nat.le_refl _ | (simp; omega) | (simp; done)) | refine Gr.grown ?_ _ _ | refine Gr.drewN ?_ _ | refine Gr.drew ?_ | refine Gr.alloc ?_ _ | refine Gr.grow ?_ _ | (refine Gr.trans ?_ (by assumption))))))
      have x0 := gcell_in hl0 c0; have x1 := gcell_in hl0 c1
      clear hgwA c0 c1
      (refine wp_region_quiet_grown mixed (by kernel_rfl) ?_; (repeat (first | go_big_quiet_step ((first | (go_at_call 73; exact gr_of (C2.out _)) | (go_at_call 72; exact gr_of (C3.out _)))) | quiet_step ((first | (go_at_call 73; exact gr_of (C2.out _)) | (go_at_call 72; exact gr_of (C3.out _)))))); refine wpQuiet_nil ?_; intro _ hw'; obtain ⟨⟨nq, osq⟩, hw''⟩ := hw'; subst hw'')
      obtain ⟨lt, c0, c1, f0, f1⟩ := Z.gr ((Gr.refl wA).grown nq osq)
      go_wp2
      exact bodyPost_ret (v := .tuple #[.agg #[.int .i64 R, .bool C], .int .i64 0]) (by simp [results, Tryz.results41, go_sem, *]) rfl ⟨rfl, (by repeat (first | exact Gr.refl _ | refine Gr.setCell ?_ _ _ (by first | exact Nat.le_refl _ | (simp; omega) | (simp; done)) | refine Gr.grown ?_ _ _ | refine Gr.drewN ?_ _ | refine Gr.drew ?_ | refine Gr.alloc ?_ _ | refine Gr.grow ?_ _ | (refine Gr.trans ?_ (by assumption))))⟩)
  · clear hm
    go_enter Tryz.func41, Tryz.ntmps41
    go_wp2_with (first | ((go_at_call 71; (with_reducible refine (C1.out _).mono ?_); rintro e wA ⟨rfl, hgwA⟩); have c0 := hgwA.keep (b := w.heap.size) (o := 0) (v := .int .i64 n) (by first | (simp; done) | (simp; omega)) (by simp [go_sem]); have c1 := hgwA.keep (b := w.heap.size) (o := 1) (v := .bool c) (by first | (simp; done) | (simp; omega)) (by simp [go_sem]); have hl0 := hgwA.lt (b := w.heap.size) (by simp; omega); have Z := (ZC.at (w := w.alloc (.cells #[.int .i64 n, .bool c] 23)) (b := w.heap.size + 1) (by simp)).gr hgwA; have GA : Gr w wA := (by repeat (first | exact Gr.refl _ | refine Gr.setCell ?_ _ _ (by first | exact Nat.le_refl _ | (simp; omega) | (simp; done)) | refine Gr.grown ?_ _ _ | refine Gr.drewN ?_ _ | refine Gr.drew ?_ | refine Gr.alloc ?_ _ | refine Gr.grow ?_ _ | (refine Gr.trans ?_ (by assumption))))))
    have x0 := gcell_in hl0 c0; have x1 := gcell_in hl0 c1
    clear hgwA c0 c1
    (refine wp_region_quiet_grown mixed (by kernel_rfl) ?_; (repeat (first | go_big_quiet_step ((first | (go_at_call 73; exact gr_of (C2.out _)) | (go_at_call 72; exact gr_of (C3.out _)))) | quiet_step ((first | (go_at_call 73; exact gr_of (C2.out _)) | (go_at_call 72; exact gr_of (C3.out _)))))); refine wpQuiet_nil ?_; intro _ hw'; obtain ⟨⟨nq, osq⟩, hw''⟩ := hw'; subst hw'')
    obtain ⟨lt, c0, c1, f0, f1⟩ := Z.gr ((Gr.refl wA).grown nq osq)
    go_wp2
    exact bodyPost_ret (v := .tuple #[.agg #[.int .i64 (n + 1), .bool false], .int .i64 0]) (by simp [results, Tryz.results41, go_sem, *]) rfl ⟨rfl, (by repeat (first | exact Gr.refl _ | refine Gr.setCell ?_ _ _ (by first | exact Nat.le_refl _ | (simp; omega) | (simp; done)) | refine Gr.grown ?_ _ _ | refine Gr.drewN ?_ _ | refine Gr.drew ?_ | refine Gr.alloc ?_ _ | refine Gr.grow ?_ _ | (refine Gr.trans ?_ (by assumption))))⟩
  · clear hm
    go_enter Tryz.func41, Tryz.ntmps41
    go_wp2_with (first | ((go_at_call 71; (with_reducible refine (C1.out _).mono ?_); rintro e wA ⟨rfl, hgwA⟩); have c0 := hgwA.keep (b := w.heap.size) (o := 0) (v := .int .i64 n) (by first | (simp; done) | (simp; omega)) (by simp [go_sem]); have c1 := hgwA.keep (b := w.heap.size) (o := 1) (v := .bool c) (by first | (simp; done) | (simp; omega)) (by simp [go_sem]); have hl0 := hgwA.lt (b := w.heap.size) (by simp; omega); have Z := (ZC.at (w := w.alloc (.cells #[.int .i64 n, .bool c] 23)) (b := w.heap.size + 1) (by simp)).gr hgwA; have GA : Gr w wA := (by repeat (first | exact Gr.refl _ | refine Gr.setCell ?_ _ _ (by first | exact Nat.le_refl _ | (simp; omega) | (simp; done)) | refine Gr.grown ?_ _ _ | refine Gr.drewN ?_ _ | refine Gr.drew ?_ | refine Gr.alloc ?_ _ | refine Gr.grow ?_ _ | (refine Gr.trans ?_ (by assumption))))))
    have x0 := gcell_in hl0 c0; have x1 := gcell_in hl0 c1
    clear hgwA c0 c1
    (refine wp_region_quiet_grown mixed (by kernel_rfl) ?_; (repeat (first | go_big_quiet_step ((first | (go_at_call 73; exact gr_of (C2.out _)) | (go_at_call 72; exact gr_of (C3.out _)))) | quiet_step ((first | (go_at_call 73; exact gr_of (C2.out _)) | (go_at_call 72; exact gr_of (C3.out _)))))); refine wpQuiet_nil ?_; intro _ hw'; obtain ⟨⟨nq, osq⟩, hw''⟩ := hw'; subst hw'')
    obtain ⟨lt, c0, c1, f0, f1⟩ := Z.gr ((Gr.refl wA).grown nq osq)
    go_wp2
    exact bodyPost_ret (v := .tuple #[.agg #[.int .i64 0, .bool false], .int .i64 7]) (by simp [results, Tryz.results41, go_sem, *]) rfl ⟨rfl, (by repeat (first | exact Gr.refl _ | refine Gr.setCell ?_ _ _ (by first | exact Nat.le_refl _ | (simp; omega) | (simp; done)) | refine Gr.grown ?_ _ _ | refine Gr.drewN ?_ _ | refine Gr.drew ?_ | refine Gr.alloc ?_ _ | refine Gr.grow ?_ _ | (refine Gr.trans ?_ (by assumption))))⟩
theorem sinto_c (y n m : Int) (c : Bool) (w : World) :
    Calls Tryz.prog 41 #[.int .i64 y, .agg #[.int .i64 n, .bool c], .int .i64 m] w fun e w' => e = .returned (.tuple #[.agg #[.int .i64 (inNum y n c m), .bool (inLp y n c m)], .int .i64 (inE y n c m)]) ∧ Gr w w' := by
  unfold inNum inLp
  by_cases hm : m = 0 ∨ m = 1
  · by_cases hy : 1 ≤ y ∧ y ≤ 9999
    · cases hc : cR n c
      · have e : inE y n c m = 3 := by unfold inE; rw [if_pos hm, if_pos hy, if_neg (by rw [hc]; decide)]
        rw [e]
        exact sinto_c3 y n m c w hm hy.1 hy.2 hc
      · have nr : 1 ≤ n ∧ n ≤ 12 := by unfold cR at hc; have := of_decide_eq_true hc; omega
        cases hh : cHas (lp y) n c
        · rcases hm with rfl | rfl
          · have e : inE y n c 0 = 0 := by unfold inE; rw [if_pos (.inl rfl), if_pos hy, if_pos hc, if_neg (by rw [hh]; decide), if_neg (by decide)]
            rw [e]
            exact sinto_at y n 0 _ _ c _ false 0 w (.inl rfl) hy.1 hy.2 hc (by omega) (by omega) (fun w => cplace_out (lp y) n c w hh) (.inr (.inl ⟨rfl, rfl, by simp, by simp, rfl⟩))
          · have e : inE y n c 1 = 7 := by unfold inE; rw [if_pos (.inr rfl), if_pos hy, if_pos hc, if_neg (by rw [hh]; decide), if_pos rfl]
            rw [e]
            exact sinto_at y n 1 _ _ c _ false 0 w (.inr rfl) hy.1 hy.2 hc (by omega) (by omega) (fun w => cplace_out (lp y) n c w hh) (.inr (.inr ⟨rfl, rfl, by simp, by simp, rfl⟩))
        · have e : inE y n c m = 0 := by unfold inE; rw [if_pos hm, if_pos hy, if_pos hc, if_pos hh]
          rw [e]
          obtain ⟨j, hj, e1, e2⟩ := code_in hh
          exact sinto_at y n m _ _ c _ true ((j : Int) + 1) w hm hy.1 hy.2 hc (by omega) (by omega) (fun w => by rw [e1, e2]; exact cplace_in (lp y) j w hj) (.inl ⟨rfl, by simp, by simp, rfl⟩)
    · have e : inE y n c m = 2 := by unfold inE; rw [if_pos hm, if_neg hy]
      rw [e]
      exact sinto_y y n m c w hm (by omega)
  · have e : inE y n c m = 1 := by unfold inE; rw [if_neg hm]
    rw [e]
    exact sinto_mode y n m c w (by omega)

end Go.Proofs.YtkiopgegdkeojaaGreatDoor.Walks
