/- How many days one date is behind another one: the walk of almanackerref27.Between. -/
import Derived.Test.YtbalbkkimlbecaaDoorCountRef2
set_option linter.unusedVariables false
set_option linter.unusedSimpArgs false
namespace Go.Proofs.YtbalbkkimlbecaaDoor.Walks
open Go Go.RowKit Go.Sort Go.Proofs.YtbalbkkimlbecaaDoor.Base Go.Proofs.YtbalbkkimlbecaaDoor.Plain Go.Proofs.YtbalbkkimlbecaaDoor.Math

/-- Two dates are not the same. -/
def NE4 (y n : Int) (c : Bool) (d y' n' : Int) (c' : Bool) (d' : Int) : Prop := (y == y') = false ∨ ((y == y') = true ∧ (n == n') = false) ∨ ((y == y') = true ∧ (n == n') = true ∧ (c == c') = false) ∨ ((y == y') = true ∧ (n == n') = true ∧ (c == c') = true ∧ (d == d') = false)
theorem ne4_of {y n d y' n' d' : Int} {c c' : Bool} (h : ¬ (y = y' ∧ n = n' ∧ c = c' ∧ d = d')) : NE4 y n c d y' n' c' d' := by
  by_cases a : y = y'
  · by_cases b : n = n'
    · by_cases e : c = c'
      · exact .inr (.inr (.inr ⟨beq_iff_eq.2 a, beq_iff_eq.2 b, beq_iff_eq.2 e, beq_eq_false_iff_ne.2 fun z => h ⟨a, b, e, z⟩⟩))
      · exact .inr (.inr (.inl ⟨beq_iff_eq.2 a, beq_iff_eq.2 b, beq_eq_false_iff_ne.2 e⟩))
    · exact .inr (.inl ⟨beq_iff_eq.2 a, beq_eq_false_iff_ne.2 b⟩)
  · exact .inl (beq_eq_false_iff_ne.2 a)
/-- Where the other date stands in a row of dates. -/
structure Meets (M : Nat) (Y N D : Nat → Int) (C : Nat → Bool) (x y n d : Int) (c : Bool) : Prop where
  is : ∀ k, k ≤ M → (k : Int) = x → Y k = y ∧ N k = n ∧ C k = c ∧ D k = d
  no : ∀ k, k ≤ M → (k : Int) ≠ x → NE4 (Y k) (N k) (C k) (D k) y n c d
theorem meets_of {M : Nat} {f : Nat → Int} {Y N D : Nat → Int} {C : Nat → Bool} (h : Days M f Y N D C) {y : Int} {j : Nat} {d x : Int} (hv : HV y j d) (hx : ∀ k, k ≤ M → (f k = hd y j d ↔ (k : Int) = x)) : Meets M Y N D C x y (cN (lp y) j) d (cL (lp y) j) where
  is := fun k hk e => by
    obtain ⟨J, v, e1, e2, e3⟩ := h.at' k hk
    obtain ⟨a, b, g⟩ := hd_inj v hv (by rw [e1]; exact (hx k hk).2 e)
    rw [e2, e3, a, b]
    exact ⟨rfl, rfl, rfl, g⟩
  no := fun k hk e => by
    obtain ⟨J, v, e1, e2, e3⟩ := h.at' k hk
    refine ne4_of fun ⟨a, b, c, g⟩ => e ((hx k hk).1 ?_)
    rw [e2, a] at b
    rw [e3, a] at c
    have j1 := v.j1
    rw [a] at j1
    have := code_inj j1 hv.j1 b c
    rw [← e1, a, g, this]

theorem D4.four {w : World} {b b' : Nat} {y n d : Int} {c : Bool} (h : D4 w b y n c d) (hb : b ≠ b') (y' n' d' : Int) (c' : Bool) : D4 ((((w.setCell ⟨b', 0, none⟩ (.int .i64 y')).setCell ⟨b', 1, none⟩ (.int .i64 n')).setCell ⟨b', 2, none⟩ (.bool c')).setCell ⟨b', 3, none⟩ (.int .i64 d')) b y n c d :=
  (((h.set hb).set hb).set hb).set hb
/-- What Between tells. -/
def btN (x q : Int) : Int := if 0 ≤ q ∧ q ≤ 3000 ∧ 0 ≤ x ∧ x ≤ q then x else 0
def btE (x q : Int) : Int := if 0 ≤ q ∧ q ≤ 3000 then (if 0 ≤ x ∧ x ≤ q then 0 else 2) else 1

set_option maxRecDepth 20000 in
set_option maxHeartbeats 8000000 in
theorem r27between_c (y n d y' n' d' q x : Int) (c c' : Bool) (M : Nat) (Y N D : Nat → Int) (C : Nat → Bool) (w : World) (hM : (M : Int) ≤ 4000000) (q0 : 0 ≤ q) (q1 : q ≤ 3000) (e1 : Y 0 = y) (e2 : N 0 = n) (e3 : C 0 = c) (e4 : D 0 = d)
    (hd : RDates 16 M Y N D C) (hx : Meets M Y N D C x y' n' d' c') (xM : x ≤ M)
    (c1 : ∀ W, Calls Tryd.prog 14 #[.agg #[.int .i64 y, .int .i64 n, .bool c, .int .i64 d]] W fun e w' => e = .returned (.int .i64 0) ∧ Gr W w')
    (c2 : ∀ W, Calls Tryd.prog 14 #[.agg #[.int .i64 y', .int .i64 n', .bool c', .int .i64 d']] W fun e w' => e = .returned (.int .i64 0) ∧ Gr W w') :
    Calls Tryd.prog 21 #[.agg #[.int .i64 y, .int .i64 n, .bool c, .int .i64 d], .agg #[.int .i64 y', .int .i64 n', .bool c', .int .i64 d'], .int .i64 q] w fun e w' => e = .returned (.tuple #[.int .i64 (btN x q), .int .i64 (btE x q)]) ∧ Gr w w' := by
  have C1 := Lib.hid c1
  have C2 := Lib.hid c2
  have HX := Lib.hid hx
  have q2 : ¬ q < 0 := by omega
  have q3 : ¬ 3000 < q := by omega
  clear c1 c2 hx
  go_enter Tryd.func21, Tryd.ntmps21
  go_wp2_with (first | ((go_at_call 14; (with_reducible refine (C1.out _).mono ?_); rintro e wA ⟨rfl, hgwA⟩); have DA := ((D4.at (w := w) rfl y n d c).gr ((Gr.refl _).alloc (.cells #[.int .i64 y', .int .i64 n', .bool c', .int .i64 d'] 25))).gr hgwA; have RA := (D4.at (w := w.alloc (.cells #[.int .i64 y, .int .i64 n, .bool c, .int .i64 d] 25)) (b := w.heap.size + 1) (by simp) y' n' d' c').gr hgwA; have GA : Gr w wA := (by repeat (first | exact Gr.refl _ | refine Gr.setCell ?_ _ _ (by first | exact Nat.le_refl _ | (simp; omega) | (simp; done)) | refine Gr.grown ?_ _ _ | refine Gr.drewN ?_ _ | refine Gr.drew ?_ | refine Gr.alloc ?_ _ | refine Gr.grow ?_ _ | (refine Gr.trans ?_ (by assumption)))); clear hgwA; have RA2 := RA; obtain ⟨lr, r0, r1, r2, r3, g0, g1, g2, g3⟩ := RA2) | ((go_at_call 14; (with_reducible refine (C2.out _).mono ?_); rintro e wB ⟨rfl, hgwB⟩); have DB := DA.gr hgwB; have RB := RA.gr hgwB; have GB := GA.trans hgwB; clear hgwB DA RA GA lr r0 r1 r2 r3 g0 g1 g2 g3))
  go_loopg [8, 9] (q.toNat + 1) (fun kx s8 s9 wr => ∃ k : Nat, (k : Int) ≤ q + 1 ∧ q.toNat + 1 - k ≤ kx ∧ s9 = .int .i64 (k : Int) ∧ Gr w wr ∧ D4 wr (w.heap.size + 1) y' n' c' d' ∧ ¬ (0 ≤ x ∧ x < k) ∧ ((k ≤ M ∧ s8 = .int .i64 0 ∧ D4 wr w.heap.size (Y k) (N k) (C k) (D k)) ∨ (k = M + 1 ∧ s8 = .int .i64 2 ∧ D4 wr w.heap.size 0 0 false 0)))
  case atStart => exact ⟨0, by omega, by omega, rfl, GB, RB, by omega, .inl ⟨by omega, rfl, by rw [e1, e2, e3, e4]; exact DB⟩⟩
  case round =>
    obtain ⟨k, hk, hm, rfl, hg, R, hxk, (⟨hkM, rfl, B⟩ | ⟨rfl, rfl, B⟩)⟩ := hrel
    · by_cases e : (k : Int) ≤ q
      · by_cases ex : (k : Int) = x
        · obtain ⟨x1, x2, x3, x4⟩ := HX.out.is k hkM ex
          rw [x1, x2, x3, x4] at B
          obtain ⟨lt, c0, c1, c2, c3, f0, f1, f2, f3⟩ := B
          obtain ⟨lr, r0, r1, r2, r3, g0, g1, g2, g3⟩ := R
          have E1 : RowKit.Hid (x = btN x q) := Lib.hid (by unfold btN; rw [if_pos (by omega)])
          have E2 : RowKit.Hid (0 = btE x q) := Lib.hid (by unfold btE; rw [if_pos (by omega), if_pos (by omega)])
          go_wp2
          go_ret2
          exact ⟨ret2 E1.out E2.out, (by repeat (first | exact Gr.refl _ | refine Gr.setCell ?_ _ _ (by first | exact Nat.le_refl _ | (simp; omega) | (simp; done)) | refine Gr.grown ?_ _ _ | refine Gr.drewN ?_ _ | refine Gr.drew ?_ | refine Gr.alloc ?_ _ | refine Gr.grow ?_ _ | (refine Gr.trans ?_ (by assumption))))⟩
        · have hne := HX.out.no k hkM ex
          have B2 := B
          obtain ⟨lt, c0, c1, c2, c3, f0, f1, f2, f3⟩ := B2
          have R2 := R
          obtain ⟨lr, r0, r1, r2, r3, g0, g1, g2, g3⟩ := R2
          by_cases g : k < M
          · have S := Lib.hid (hd.step k g)
            rcases hne with h1 | ⟨h1, h2⟩ | ⟨h1, h2, h3⟩ | ⟨h1, h2, h3, h4⟩
            all_goals (
              go_wp2_with (first | (go_at_call 16; (with_reducible refine (S.out _).mono ?_); rintro e wB ⟨rfl, hgB⟩; have B3 := B.gr hgB; have R3' := R.gr hgB; have G3 := hg.trans hgB; have B4 := B3.put (Y (k + 1)) (N (k + 1)) (D (k + 1)) (C (k + 1)); have R4' := R3'.four (b' := w.heap.size) (by omega) (Y (k + 1)) (N (k + 1)) (D (k + 1)) (C (k + 1)); clear lt c0 c1 c2 c3 f0 f1 f2 f3 lr r0 r1 r2 r3 g0 g1 g2 g3; obtain ⟨lt, c0, c1, c2, c3, f0, f1, f2, f3⟩ := B3; clear B R R3' hgB))
              go_roundg (q.toNat + 1 - (k + 1))
              case measure => omega
              case rel => exact ⟨k + 1, by omega, Nat.le_refl _, by go_num, by clear hg; exact (by repeat (first | exact Gr.refl _ | refine Gr.setCell ?_ _ _ (by first | exact Nat.le_refl _ | (simp; omega) | (simp; done)) | refine Gr.grown ?_ _ _ | refine Gr.drewN ?_ _ | refine Gr.drew ?_ | refine Gr.alloc ?_ _ | refine Gr.grow ?_ _ | (refine Gr.trans ?_ (by assumption)))), R4', by omega, .inl ⟨by omega, rfl, B4⟩⟩)
          · obtain rfl : k = M := by omega
            have S := Lib.hid hd.last
            rcases hne with h1 | ⟨h1, h2⟩ | ⟨h1, h2, h3⟩ | ⟨h1, h2, h3, h4⟩
            all_goals (
              go_wp2_with (first | (go_at_call 16; (with_reducible refine (S.out _).mono ?_); rintro e wB ⟨rfl, hgB⟩; have B3 := B.gr hgB; have R3' := R.gr hgB; have G3 := hg.trans hgB; have B4 := B3.put 0 0 0 false; have R4' := R3'.four (b' := w.heap.size) (by omega) 0 0 0 false; clear lt c0 c1 c2 c3 f0 f1 f2 f3 lr r0 r1 r2 r3 g0 g1 g2 g3; obtain ⟨lt, c0, c1, c2, c3, f0, f1, f2, f3⟩ := B3; clear B R R3' hgB))
              go_roundg (q.toNat + 1 - (k + 1))
              case measure => omega
              case rel => exact ⟨k + 1, by omega, Nat.le_refl _, by go_num, by clear hg; exact (by repeat (first | exact Gr.refl _ | refine Gr.setCell ?_ _ _ (by first | exact Nat.le_refl _ | (simp; omega) | (simp; done)) | refine Gr.grown ?_ _ _ | refine Gr.drewN ?_ _ | refine Gr.drew ?_ | refine Gr.alloc ?_ _ | refine Gr.grow ?_ _ | (refine Gr.trans ?_ (by assumption)))), R4', by omega, .inr ⟨rfl, rfl, B4⟩⟩)
      · have E1 : RowKit.Hid (0 = btN x q) := Lib.hid (by unfold btN; rw [if_neg (by omega)])
        have E2 : RowKit.Hid (2 = btE x q) := Lib.hid (by unfold btE; rw [if_pos (by omega), if_neg (by omega)])
        go_wp2
        go_ret2
        exact ⟨ret2 E1.out E2.out, (by repeat (first | exact Gr.refl _ | refine Gr.setCell ?_ _ _ (by first | exact Nat.le_refl _ | (simp; omega) | (simp; done)) | refine Gr.grown ?_ _ _ | refine Gr.drewN ?_ _ | refine Gr.drew ?_ | refine Gr.alloc ?_ _ | refine Gr.grow ?_ _ | (refine Gr.trans ?_ (by assumption))))⟩
    · have E1 : RowKit.Hid (0 = btN x q) := Lib.hid (by unfold btN; rw [if_neg (by omega)])
      have E2 : RowKit.Hid (2 = btE x q) := Lib.hid (by unfold btE; rw [if_pos (by omega), if_neg (by omega)])
      by_cases e : ((M + 1 : Nat) : Int) ≤ q
      · go_wp2
        go_ret2
        exact ⟨ret2 E1.out E2.out, (by repeat (first | exact Gr.refl _ | refine Gr.setCell ?_ _ _ (by first | exact Nat.le_refl _ | (simp; omega) | (simp; done)) | refine Gr.grown ?_ _ _ | refine Gr.drewN ?_ _ | refine Gr.drew ?_ | refine Gr.alloc ?_ _ | refine Gr.grow ?_ _ | (refine Gr.trans ?_ (by assumption))))⟩
      · go_wp2
        go_ret2
        exact ⟨ret2 E1.out E2.out, (by repeat (first | exact Gr.refl _ | refine Gr.setCell ?_ _ _ (by first | exact Nat.le_refl _ | (simp; omega) | (simp; done)) | refine Gr.grown ?_ _ _ | refine Gr.drewN ?_ _ | refine Gr.drew ?_ | refine Gr.alloc ?_ _ | refine Gr.grow ?_ _ | (refine Gr.trans ?_ (by assumption))))⟩

end Go.Proofs.YtbalbkkimlbecaaDoor.Walks
