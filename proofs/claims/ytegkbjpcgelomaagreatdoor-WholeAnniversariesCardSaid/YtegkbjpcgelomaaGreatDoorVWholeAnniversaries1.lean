/- Walks of package anniv: a day of remembrance; and of almanackerref18 but that. -/
import Derived.Test.YtegkbjpcgelomaaGreatDoorVWholeAnniversaries0
set_option linter.unusedVariables false
set_option linter.unusedSimpArgs false
section
namespace Go.Proofs.YtegkbjpcgelomaaGreatDoor.Walks
open Go Go.RowKit Go.Sort Go.Proofs.YtegkbjpcgelomaaGreatDoor.Base Go.Proofs.YtegkbjpcgelomaaGreatDoor.Plain Go.Proofs.YtegkbjpcgelomaaGreatDoor.Math

set_option maxHeartbeats 2000000 in
theorem death_e (y n d t E : Int) (c : Bool) (w : World) (hE : E ≠ 0) (h : ∀ W, Gr w W → Calls Tryq.prog 60 #[.agg #[.int .i64 y, .int .i64 n, .bool c, .int .i64 d], .int .i64 t] W fun e w' => e = .returned (.int .i64 E) ∧ Gr W w') :
    Calls Tryq.prog 29 #[.agg #[.int .i64 y, .int .i64 n, .bool c, .int .i64 d], .int .i64 t] w fun e w' => e = .returned (.tuple #[.agg #[.int .i64 0, .int .i64 0, .bool false, .int .i64 0], .int .i64 E]) ∧ Gr w w' := by
  have C1 := Lib.hid h
  have q : (E == 0) = false := beq_eq_false_iff_ne.2 hE
  clear h
  go_enter Tryq.func29, Tryq.ntmps29
  go_wp2_with (first | ((go_at_call 60; (with_reducible refine (C1.out _ ((by repeat (first | exact Gr.refl _ | refine Gr.setCell ?_ _ _ (by first | exact Nat.le_refl _ | (simp; omega) | (simp; done)) | refine Gr.grown ?_ _ _ | refine Gr.drewN ?_ _ | refine Gr.drew ?_ | refine Gr.alloc ?_ _ | refine Gr.grow ?_ _ | (refine Gr.trans ?_ (by assumption)))))).mono ?_); rintro e wA ⟨rfl, hgwA⟩); obtain ⟨lt, c0, c1, c2, c3, f0, f1, f2, f3⟩ := (D4.two w y n d c).2.gr hgwA))
  exact bodyPost_ret (v := .tuple #[.agg #[.int .i64 0, .int .i64 0, .bool false, .int .i64 0], .int .i64 E]) (by simp [results, Tryz.results29, go_sem, *]) rfl ⟨rfl, (by repeat (first | exact Gr.refl _ | refine Gr.setCell ?_ _ _ (by first | exact Nat.le_refl _ | (simp; omega) | (simp; done)) | refine Gr.grown ?_ _ _ | refine Gr.drewN ?_ _ | refine Gr.drew ?_ | refine Gr.alloc ?_ _ | refine Gr.grow ?_ _ | (refine Gr.trans ?_ (by assumption))))⟩
set_option maxRecDepth 20000 in
set_option maxHeartbeats 16000000 in
theorem death_core (y n d t R1 R2 R4 : Int) (c tl yl V R3 : Bool) (w : World)
    (h1 : ∀ W, Gr w W → Calls Tryq.prog 60 #[.agg #[.int .i64 y, .int .i64 n, .bool c, .int .i64 d], .int .i64 t] W fun e w' => e = .returned (.int .i64 0) ∧ Gr W w')
    (h2 : ∀ W, Gr w W → Calls Tryq.prog 63 #[.agg #[.int .i64 y, .int .i64 n, .bool c, .int .i64 d]] W fun e w' => e = .returned (.bool V) ∧ Gr W w')
    (h3 : ∀ w, Calls Tryq.prog 65 #[.int .i64 t] w fun e w' => e = .returned (.bool tl) ∧ Gr w w')
    (h4 : ∀ w, Calls Tryq.prog 65 #[.int .i64 y] w fun e w' => e = .returned (.bool yl) ∧ Gr w w')
    (hr : (V = true ∧ ∀ W, Gr w W → Calls Tryq.prog 64 #[.int .i64 t, .agg #[.int .i64 n, .bool c]] W fun e w' => e = .returned (.tuple #[.agg #[.int .i64 R1, .int .i64 R2, .bool R3, .int .i64 R4], .int .i64 0]) ∧ Gr W w') ∨
      (V = false ∧ c = true ∧ d = 30 ∧ tl = false ∧ ∀ W, Gr w W → Calls Tryq.prog 64 #[.int .i64 t, .agg #[.int .i64 5, .bool false]] W fun e w' => e = .returned (.tuple #[.agg #[.int .i64 R1, .int .i64 R2, .bool R3, .int .i64 R4], .int .i64 0]) ∧ Gr W w') ∨
      (V = false ∧ c = false ∧ n = 6 ∧ tl = true ∧ yl = false ∧ ∀ W, Gr w W → Calls Tryq.prog 62 #[.int .i64 t, .agg #[.int .i64 5, .bool true], .int .i64 d] W fun e w' => e = .returned (.tuple #[.agg #[.int .i64 R1, .int .i64 R2, .bool R3, .int .i64 R4], .int .i64 0]) ∧ Gr W w') ∨
      (V = false ∧ ((c = true ∧ n = 5 ∧ d ≠ 30) ∨ (c = true ∧ n = 5 ∧ d = 30 ∧ tl = true) ∨ (c = false ∧ n ≠ 6) ∨ (c = false ∧ n = 6 ∧ tl = false) ∨ (c = false ∧ n = 6 ∧ tl = true ∧ yl = true)) ∧
        ∀ W, Gr w W → Calls Tryq.prog 28 #[.agg #[.int .i64 y, .int .i64 n, .bool c, .int .i64 d], .int .i64 t] W fun e w' => e = .returned (.tuple #[.agg #[.int .i64 R1, .int .i64 R2, .bool R3, .int .i64 R4], .int .i64 0]) ∧ Gr W w')) :
    Calls Tryq.prog 29 #[.agg #[.int .i64 y, .int .i64 n, .bool c, .int .i64 d], .int .i64 t] w fun e w' => e = .returned (.tuple #[.agg #[.int .i64 R1, .int .i64 R2, .bool R3, .int .i64 R4], .int .i64 0]) ∧ Gr w w' := by
  have C1 := Lib.hid h1
  have C2 := Lib.hid h2
  have C3 := Lib.hid h3
  have C4 := Lib.hid h4
  clear h1 h2 h3 h4
  rcases hr with ⟨rfl, h5⟩ | ⟨rfl, rfl, rfl, rfl, h5⟩ | ⟨rfl, rfl, rfl, rfl, rfl, h5⟩ | ⟨rfl, hs, h5⟩
  · have C5 := Lib.hid h5
    clear h5
    go_enter Tryq.func29, Tryq.ntmps29
    go_wp2_with (first | ((go_at_call 60; (with_reducible refine (C1.out _ ((by repeat (first | exact Gr.refl _ | refine Gr.setCell ?_ _ _ (by first | exact Nat.le_refl _ | (simp; omega) | (simp; done)) | refine Gr.grown ?_ _ _ | refine Gr.drewN ?_ _ | refine Gr.drew ?_ | refine Gr.alloc ?_ _ | refine Gr.grow ?_ _ | (refine Gr.trans ?_ (by assumption)))))).mono ?_); rintro e wA ⟨rfl, hgwA⟩); have DA := (D4.two w y n d c).1.gr hgwA; have RA := (D4.two w y n d c).2.gr hgwA; have GA : Gr w wA := ((by repeat (first | exact Gr.refl _ | refine Gr.setCell ?_ _ _ (by first | exact Nat.le_refl _ | (simp; omega) | (simp; done)) | refine Gr.grown ?_ _ _ | refine Gr.drewN ?_ _ | refine Gr.drew ?_ | refine Gr.alloc ?_ _ | refine Gr.grow ?_ _ | (refine Gr.trans ?_ (by assumption))))); clear hgwA; obtain ⟨lt, c0, c1, c2, c3, f0, f1, f2, f3⟩ := DA) | ((go_at_call 63; (with_reducible refine (C2.out _ ((by repeat (first | exact Gr.refl _ | refine Gr.setCell ?_ _ _ (by first | exact Nat.le_refl _ | (simp; omega) | (simp; done)) | refine Gr.grown ?_ _ _ | refine Gr.drewN ?_ _ | refine Gr.drew ?_ | refine Gr.alloc ?_ _ | refine Gr.grow ?_ _ | (refine Gr.trans ?_ (by assumption)))))).mono ?_); rintro e wB ⟨rfl, hgwB⟩); have DB := (D4.mk lt c0 c1 c2 c3 f0 f1 f2 f3).gr hgwB; have RB := RA.gr hgwB; have GB : Gr w wB := GA.trans hgwB; clear hgwB lt c0 c1 c2 c3 f0 f1 f2 f3 RA GA; obtain ⟨lt, c0, c1, c2, c3, f0, f1, f2, f3⟩ := DB) | ((go_at_call 64; (with_reducible refine (C5.out _ ((by repeat (first | exact Gr.refl _ | refine Gr.setCell ?_ _ _ (by first | exact Nat.le_refl _ | (simp; omega) | (simp; done)) | refine Gr.grown ?_ _ _ | refine Gr.drewN ?_ _ | refine Gr.drew ?_ | refine Gr.alloc ?_ _ | refine Gr.grow ?_ _ | (refine Gr.trans ?_ (by assumption)))))).mono ?_); rintro e wC ⟨rfl, hgwC⟩); obtain ⟨lr, r0, r1, r2, r3, g0, g1, g2, g3⟩ := RB.gr hgwC; have GC : Gr w wC := GB.trans hgwC; clear hgwC RB GB))
    exact bodyPost_ret (v := .tuple #[.agg #[.int .i64 R1, .int .i64 R2, .bool R3, .int .i64 R4], .int .i64 0]) (by simp [results, Tryz.results29, go_sem, *]) rfl ⟨rfl, (by repeat (first | exact Gr.refl _ | refine Gr.setCell ?_ _ _ (by first | exact Nat.le_refl _ | (simp; omega) | (simp; done)) | refine Gr.grown ?_ _ _ | refine Gr.drewN ?_ _ | refine Gr.drew ?_ | refine Gr.alloc ?_ _ | refine Gr.grow ?_ _ | (refine Gr.trans ?_ (by assumption))))⟩
  · have C5 := Lib.hid h5
    clear h5
    go_enter Tryq.func29, Tryq.ntmps29
    go_wp2_with (first | ((go_at_call 60; (with_reducible refine (C1.out _ ((by repeat (first | exact Gr.refl _ | refine Gr.setCell ?_ _ _ (by first | exact Nat.le_refl _ | (simp; omega) | (simp; done)) | refine Gr.grown ?_ _ _ | refine Gr.drewN ?_ _ | refine Gr.drew ?_ | refine Gr.alloc ?_ _ | refine Gr.grow ?_ _ | (refine Gr.trans ?_ (by assumption)))))).mono ?_); rintro e wA ⟨rfl, hgwA⟩); have DA := (D4.two w y n 30 true).1.gr hgwA; have RA := (D4.two w y n 30 true).2.gr hgwA; have GA : Gr w wA := ((by repeat (first | exact Gr.refl _ | refine Gr.setCell ?_ _ _ (by first | exact Nat.le_refl _ | (simp; omega) | (simp; done)) | refine Gr.grown ?_ _ _ | refine Gr.drewN ?_ _ | refine Gr.drew ?_ | refine Gr.alloc ?_ _ | refine Gr.grow ?_ _ | (refine Gr.trans ?_ (by assumption))))); clear hgwA; obtain ⟨lt, c0, c1, c2, c3, f0, f1, f2, f3⟩ := DA) | ((go_at_call 63; (with_reducible refine (C2.out _ ((by repeat (first | exact Gr.refl _ | refine Gr.setCell ?_ _ _ (by first | exact Nat.le_refl _ | (simp; omega) | (simp; done)) | refine Gr.grown ?_ _ _ | refine Gr.drewN ?_ _ | refine Gr.drew ?_ | refine Gr.alloc ?_ _ | refine Gr.grow ?_ _ | (refine Gr.trans ?_ (by assumption)))))).mono ?_); rintro e wB ⟨rfl, hgwB⟩); have DB := (D4.mk lt c0 c1 c2 c3 f0 f1 f2 f3).gr hgwB; have RA := RA.gr hgwB; have GB : Gr w wB := GA.trans hgwB; clear hgwB lt c0 c1 c2 c3 f0 f1 f2 f3 GA; have GA := GB; clear GB; obtain ⟨lt, c0, c1, c2, c3, f0, f1, f2, f3⟩ := DB) | ((go_at_call 65; (with_reducible refine (C3.out _).mono ?_); rintro e wD ⟨rfl, hgwD⟩); have DB := (D4.mk lt c0 c1 c2 c3 f0 f1 f2 f3).gr hgwD; have RA := RA.gr hgwD; have GB : Gr w wD := GA.trans hgwD; clear hgwD lt c0 c1 c2 c3 f0 f1 f2 f3 GA; have GA := GB; clear GB; obtain ⟨lt, c0, c1, c2, c3, f0, f1, f2, f3⟩ := DB) | ((go_at_call 64; (with_reducible refine (C5.out _ ((by repeat (first | exact Gr.refl _ | refine Gr.setCell ?_ _ _ (by first | exact Nat.le_refl _ | (simp; omega) | (simp; done)) | refine Gr.grown ?_ _ _ | refine Gr.drewN ?_ _ | refine Gr.drew ?_ | refine Gr.alloc ?_ _ | refine Gr.grow ?_ _ | (refine Gr.trans ?_ (by assumption)))))).mono ?_); rintro e wC ⟨rfl, hgwC⟩); obtain ⟨lr, r0, r1, r2, r3, g0, g1, g2, g3⟩ := RA.gr hgwC; have GC : Gr w wC := GA.trans hgwC; clear hgwC RA GA))
    exact bodyPost_ret (v := .tuple #[.agg #[.int .i64 R1, .int .i64 R2, .bool R3, .int .i64 R4], .int .i64 0]) (by simp [results, Tryz.results29, go_sem, *]) rfl ⟨rfl, (by repeat (first | exact Gr.refl _ | refine Gr.setCell ?_ _ _ (by first | exact Nat.le_refl _ | (simp; omega) | (simp; done)) | refine Gr.grown ?_ _ _ | refine Gr.drewN ?_ _ | refine Gr.drew ?_ | refine Gr.alloc ?_ _ | refine Gr.grow ?_ _ | (refine Gr.trans ?_ (by assumption))))⟩
  · have C5 := Lib.hid h5
    clear h5
    go_enter Tryq.func29, Tryq.ntmps29
    go_wp2_with (first | ((go_at_call 60; (with_reducible refine (C1.out _ ((by repeat (first | exact Gr.refl _ | refine Gr.setCell ?_ _ _ (by first | exact Nat.le_refl _ | (simp; omega) | (simp; done)) | refine Gr.grown ?_ _ _ | refine Gr.drewN ?_ _ | refine Gr.drew ?_ | refine Gr.alloc ?_ _ | refine Gr.grow ?_ _ | (refine Gr.trans ?_ (by assumption)))))).mono ?_); rintro e wA ⟨rfl, hgwA⟩); have DA := (D4.two w y 6 d false).1.gr hgwA; have RA := (D4.two w y 6 d false).2.gr hgwA; have GA : Gr w wA := ((by repeat (first | exact Gr.refl _ | refine Gr.setCell ?_ _ _ (by first | exact Nat.le_refl _ | (simp; omega) | (simp; done)) | refine Gr.grown ?_ _ _ | refine Gr.drewN ?_ _ | refine Gr.drew ?_ | refine Gr.alloc ?_ _ | refine Gr.grow ?_ _ | (refine Gr.trans ?_ (by assumption))))); clear hgwA; obtain ⟨lt, c0, c1, c2, c3, f0, f1, f2, f3⟩ := DA) | ((go_at_call 63; (with_reducible refine (C2.out _ ((by repeat (first | exact Gr.refl _ | refine Gr.setCell ?_ _ _ (by first | exact Nat.le_refl _ | (simp; omega) | (simp; done)) | refine Gr.grown ?_ _ _ | refine Gr.drewN ?_ _ | refine Gr.drew ?_ | refine Gr.alloc ?_ _ | refine Gr.grow ?_ _ | (refine Gr.trans ?_ (by assumption)))))).mono ?_); rintro e wB ⟨rfl, hgwB⟩); have DB := (D4.mk lt c0 c1 c2 c3 f0 f1 f2 f3).gr hgwB; have RA := RA.gr hgwB; have GB : Gr w wB := GA.trans hgwB; clear hgwB lt c0 c1 c2 c3 f0 f1 f2 f3 GA; have GA := GB; clear GB; obtain ⟨lt, c0, c1, c2, c3, f0, f1, f2, f3⟩ := DB) | ((go_at_call 65; (with_reducible refine (C3.out _).mono ?_); rintro e wD ⟨rfl, hgwD⟩); have DB := (D4.mk lt c0 c1 c2 c3 f0 f1 f2 f3).gr hgwD; have RA := RA.gr hgwD; have GB : Gr w wD := GA.trans hgwD; clear hgwD lt c0 c1 c2 c3 f0 f1 f2 f3 GA; have GA := GB; clear GB; obtain ⟨lt, c0, c1, c2, c3, f0, f1, f2, f3⟩ := DB) | ((go_at_call 65; (with_reducible refine (C4.out _).mono ?_); rintro e wE ⟨rfl, hgwE⟩); have DB := (D4.mk lt c0 c1 c2 c3 f0 f1 f2 f3).gr hgwE; have RA := RA.gr hgwE; have GB : Gr w wE := GA.trans hgwE; clear hgwE lt c0 c1 c2 c3 f0 f1 f2 f3 GA; have GA := GB; clear GB; obtain ⟨lt, c0, c1, c2, c3, f0, f1, f2, f3⟩ := DB) | ((go_at_call 62; (with_reducible refine (C5.out _ ((by repeat (first | exact Gr.refl _ | refine Gr.setCell ?_ _ _ (by first | exact Nat.le_refl _ | (simp; omega) | (simp; done)) | refine Gr.grown ?_ _ _ | refine Gr.drewN ?_ _ | refine Gr.drew ?_ | refine Gr.alloc ?_ _ | refine Gr.grow ?_ _ | (refine Gr.trans ?_ (by assumption)))))).mono ?_); rintro e wC ⟨rfl, hgwC⟩); obtain ⟨lr, r0, r1, r2, r3, g0, g1, g2, g3⟩ := RA.gr hgwC; have GC : Gr w wC := GA.trans hgwC; clear hgwC RA GA))
    exact bodyPost_ret (v := .tuple #[.agg #[.int .i64 R1, .int .i64 R2, .bool R3, .int .i64 R4], .int .i64 0]) (by simp [results, Tryz.results29, go_sem, *]) rfl ⟨rfl, (by repeat (first | exact Gr.refl _ | refine Gr.setCell ?_ _ _ (by first | exact Nat.le_refl _ | (simp; omega) | (simp; done)) | refine Gr.grown ?_ _ _ | refine Gr.drewN ?_ _ | refine Gr.drew ?_ | refine Gr.alloc ?_ _ | refine Gr.grow ?_ _ | (refine Gr.trans ?_ (by assumption))))⟩
  · have C5 := Lib.hid h5
    clear h5
    rcases hs with ⟨rfl, rfl, u⟩ | ⟨rfl, rfl, rfl, rfl⟩ | ⟨rfl, u⟩ | ⟨rfl, rfl, rfl⟩ | ⟨rfl, rfl, rfl, rfl⟩
    all_goals (
      try have q := beq_eq_false_iff_ne.2 u
      go_enter Tryq.func29, Tryq.ntmps29
      go_wp2_with (first | ((go_at_call 60; (with_reducible refine (C1.out _ ((by repeat (first | exact Gr.refl _ | refine Gr.setCell ?_ _ _ (by first | exact Nat.le_refl _ | (simp; omega) | (simp; done)) | refine Gr.grown ?_ _ _ | refine Gr.drewN ?_ _ | refine Gr.drew ?_ | refine Gr.alloc ?_ _ | refine Gr.grow ?_ _ | (refine Gr.trans ?_ (by assumption)))))).mono ?_); rintro e wA ⟨rfl, hgwA⟩); have DA := (D4.two w _ _ _ _).1.gr hgwA; have RA := (D4.two w _ _ _ _).2.gr hgwA; have GA : Gr w wA := ((by repeat (first | exact Gr.refl _ | refine Gr.setCell ?_ _ _ (by first | exact Nat.le_refl _ | (simp; omega) | (simp; done)) | refine Gr.grown ?_ _ _ | refine Gr.drewN ?_ _ | refine Gr.drew ?_ | refine Gr.alloc ?_ _ | refine Gr.grow ?_ _ | (refine Gr.trans ?_ (by assumption))))); clear hgwA; obtain ⟨lt, c0, c1, c2, c3, f0, f1, f2, f3⟩ := DA) | ((go_at_call 63; (with_reducible refine (C2.out _ ((by repeat (first | exact Gr.refl _ | refine Gr.setCell ?_ _ _ (by first | exact Nat.le_refl _ | (simp; omega) | (simp; done)) | refine Gr.grown ?_ _ _ | refine Gr.drewN ?_ _ | refine Gr.drew ?_ | refine Gr.alloc ?_ _ | refine Gr.grow ?_ _ | (refine Gr.trans ?_ (by assumption)))))).mono ?_); rintro e wB ⟨rfl, hgwB⟩); have DB := (D4.mk lt c0 c1 c2 c3 f0 f1 f2 f3).gr hgwB; have RA := RA.gr hgwB; have GB : Gr w wB := GA.trans hgwB; clear hgwB lt c0 c1 c2 c3 f0 f1 f2 f3 GA; have GA := GB; clear GB; obtain ⟨lt, c0, c1, c2, c3, f0, f1, f2, f3⟩ := DB) | ((go_at_call 65; (with_reducible refine (C3.out _).mono ?_); rintro e wD ⟨rfl, hgwD⟩); have DB := (D4.mk lt c0 c1 c2 c3 f0 f1 f2 f3).gr hgwD; have RA := RA.gr hgwD; have GB : Gr w wD := GA.trans hgwD; clear hgwD lt c0 c1 c2 c3 f0 f1 f2 f3 GA; have GA := GB; clear GB; obtain ⟨lt, c0, c1, c2, c3, f0, f1, f2, f3⟩ := DB) | ((go_at_call 65; (with_reducible refine (C4.out _).mono ?_); rintro e wE ⟨rfl, hgwE⟩); have DB := (D4.mk lt c0 c1 c2 c3 f0 f1 f2 f3).gr hgwE; have RA := RA.gr hgwE; have GB : Gr w wE := GA.trans hgwE; clear hgwE lt c0 c1 c2 c3 f0 f1 f2 f3 GA; have GA := GB; clear GB; obtain ⟨lt, c0, c1, c2, c3, f0, f1, f2, f3⟩ := DB) | ((go_at_call 28; (with_reducible refine (C5.out _ ((by repeat (first | exact Gr.refl _ | refine Gr.setCell ?_ _ _ (by first | exact Nat.le_refl _ | (simp; omega) | (simp; done)) | refine Gr.grown ?_ _ _ | refine Gr.drewN ?_ _ | refine Gr.drew ?_ | refine Gr.alloc ?_ _ | refine Gr.grow ?_ _ | (refine Gr.trans ?_ (by assumption)))))).mono ?_); rintro e wC ⟨rfl, hgwC⟩); obtain ⟨lr, r0, r1, r2, r3, g0, g1, g2, g3⟩ := RA.gr hgwC; have GC : Gr w wC := GA.trans hgwC; clear hgwC RA GA))
      exact bodyPost_ret (v := .tuple #[.agg #[.int .i64 R1, .int .i64 R2, .bool R3, .int .i64 R4], .int .i64 0]) (by simp [results, Tryz.results29, go_sem, *]) rfl ⟨rfl, (by repeat (first | exact Gr.refl _ | refine Gr.setCell ?_ _ _ (by first | exact Nat.le_refl _ | (simp; omega) | (simp; done)) | refine Gr.grown ?_ _ _ | refine Gr.drewN ?_ _ | refine Gr.drew ?_ | refine Gr.alloc ?_ _ | refine Gr.grow ?_ _ | (refine Gr.trans ?_ (by assumption))))⟩)

end Go.Proofs.YtegkbjpcgelomaaGreatDoor.Walks
end
/- Birthdays: both sides answer alike, for every date that may be. -/
section
namespace Go.Proofs.YtegkbjpcgelomaaGreatDoor.Walks
open Go Go.RowKit Go.Sort Go.Proofs.YtegkbjpcgelomaaGreatDoor.Base Go.Proofs.YtegkbjpcgelomaaGreatDoor.Plain Go.Proofs.YtegkbjpcgelomaaGreatDoor.Math

theorem lastm_of : ∀ l : Bool, ∀ j : Nat, j < 13 → j < mct l → cN l j = 12 → j + 1 = mct l := by decide
theorem lastm_num : ∀ l : Bool, ∀ i : Nat, i < 13 → i + 1 = mct l → cN l i = 12 := by decide
theorem mlen_lastm (kd : Int) {l : Bool} {j : Nat} (h : j + 1 = mct l) : mlen kd l j = 29 := by
  cases l
  · have e : j = 11 := by unfold mct at h; simp at h; omega
    subst e; simp [mlen]
  · have e : j = 12 := by unfold mct at h; simp at h; omega
    subst e; simp [mlen]
theorem anE_ok {y t : Int} (h0 : 1 ≤ y) (h1 : y < t) (h2 : t ≤ 9999) : anE y t 0 = 0 := by
  unfold anE
  rw [if_pos rfl, if_neg (by omega), if_neg (by omega)]
theorem hd_lin (t : Int) (i : Nat) (d : Int) : hd t i d = hd t i 1 + (d - 1) := by unfold hd; omega
theorem into_at {y : Int} {j : Nat} {d : Int} (t : Int) (h : HV y j d) (t0 : 1 ≤ t) (t1 : t ≤ 9999) : ∃ i, i < mct (lp t) ∧ inE t (cN (lp y) j) (cL (lp y) j) 0 = 0 ∧ inNum t (cN (lp y) j) (cL (lp y) j) 0 = cN (lp t) i ∧
    inLp t (cN (lp y) j) (cL (lp y) j) 0 = cL (lp t) i ∧ (i + 1 = mct (lp t) → d ≤ 29) := by
  have hR := cR_at (lp y) h.j1
  have e : inE t (cN (lp y) j) (cL (lp y) j) 0 = 0 := by
    unfold inE
    rw [if_pos (.inl rfl), if_pos ⟨t0, t1⟩, if_pos hR]
    split <;> simp
  unfold inNum inLp
  rw [e, if_pos rfl, if_pos rfl]
  cases hh : cHas (lp t) (cN (lp y) j) (cL (lp y) j)
  · have hc : lp t = false ∧ cL (lp y) j = true := by
      unfold cHas at hh
      rw [hR] at hh
      simpa using hh
    have h5 : cN (lp y) j = 5 := by
      unfold cR at hR
      have := (of_decide_eq_true hR).2.2
      rw [hc.2] at this
      simpa using this
    rw [hc.1, h5]
    exact ⟨5, by decide, rfl, by decide, by rw [if_neg (by decide)]; decide, fun z => absurd z (by decide)⟩
  · obtain ⟨i, hi, e1, e2⟩ := code_in hh
    refine ⟨i, hi, rfl, by rw [if_pos rfl]; exact e1, by rw [if_pos rfl]; exact e2, fun z => ?_⟩
    have m := mct_le (lp t)
    have m2 := mct_le (lp y)
    have a := lastm_num (lp t) i (by omega) z
    have j1 := h.j1
    have b := lastm_of (lp y) j (by omega) h.j1 (by rw [e1, a])
    have c := mlen_lastm (kk y) b
    have := h.d1
    omega
theorem hv_day {y : Int} {j : Nat} {d : Int} (h : HV y j d) : 1 ≤ d ∧ d ≤ 30 := ⟨h.d0, by have := h.d1; have := mlen_range (kk y) (lp y) j; omega⟩
theorem ancheck_in {y : Int} {j : Nat} {d t : Int} (h : HV y j d) (ht : y < t) (t1 : t ≤ 9999) (w : World) (G : GT w) : Calls Tryq.prog 60 #[.agg #[.int .i64 y, .int .i64 (cN (lp y) j), .bool (cL (lp y) j), .int .i64 d], .int .i64 t] w fun e w' => e = .returned (.int .i64 0) ∧ Gr w w' := by
  have := ancheck_c y (cN (lp y) j) d t 0 (cL (lp y) j) w fun W hW => hcheck_in y j d W (G.gr hW) h
  rwa [anE_ok h.y0 ht t1] at this
theorem sinto_in {y : Int} {j : Nat} {t : Int} {i : Nat} (e0 : inE t (cN (lp y) j) (cL (lp y) j) 0 = 0) (e1 : inNum t (cN (lp y) j) (cL (lp y) j) 0 = cN (lp t) i) (e2 : inLp t (cN (lp y) j) (cL (lp y) j) 0 = cL (lp t) i) (w : World) :
    Calls Tryq.prog 61 #[.int .i64 t, .agg #[.int .i64 (cN (lp y) j), .bool (cL (lp y) j)], .int .i64 0] w fun e w' => e = .returned (.tuple #[.agg #[.int .i64 (cN (lp t) i), .bool (cL (lp t) i)], .int .i64 0]) ∧ Gr w w' := by
  have := sinto_c t (cN (lp y) j) 0 (cL (lp y) j) w
  rwa [e0, e1, e2] at this
end Go.Proofs.YtegkbjpcgelomaaGreatDoor.Walks
end
/- Days of remembrance: both sides answer alike, for every date that may be; and what they tell of every other date. -/
section
namespace Go.Proofs.YtegkbjpcgelomaaGreatDoor.Walks
open Go Go.RowKit Go.Sort Go.Proofs.YtegkbjpcgelomaaGreatDoor.Base Go.Proofs.YtegkbjpcgelomaaGreatDoor.Plain Go.Proofs.YtegkbjpcgelomaaGreatDoor.Math

theorem code_23 : ∀ l : Bool, (cN l 1 = 2 ∧ cL l 1 = false) ∧ (cN l 2 = 3 ∧ cL l 2 = false) := by decide
end Go.Proofs.YtegkbjpcgelomaaGreatDoor.Walks
end
/- Both anniversaries of any date, and how their days lie to one another. -/
section
namespace Go.Proofs.YtegkbjpcgelomaaGreatDoor.Walks
open Go Go.RowKit Go.Sort Go.Proofs.YtegkbjpcgelomaaGreatDoor.Base Go.Proofs.YtegkbjpcgelomaaGreatDoor.Plain Go.Proofs.YtegkbjpcgelomaaGreatDoor.Math

theorem wcount_in {t : Int} {i : Nat} {d : Int} (t0 : 1 ≤ t) (t1 : t ≤ 9999) (hi : i < mct (lp t)) (d0 : 1 ≤ d) (d1 : d ≤ 30) (hl : i + 1 = mct (lp t) → d ≤ 29) : ∃ (J : Nat) (D : Int), HV t J D ∧ hd t J D = hd t i 1 + d - 1 ∧ (d ≤ 29 → J = i ∧ D = d) ∧
    (∀ w, GT w → Calls Tryq.prog 62 #[.int .i64 t, .agg #[.int .i64 (cN (lp t) i), .bool (cL (lp t) i)], .int .i64 d] w fun e w' => e = .returned (.tuple #[.agg #[.int .i64 t, .int .i64 (cN (lp t) J), .bool (cL (lp t) J), .int .i64 D], .int .i64 0]) ∧ Gr w w') := by
  have lr := mlen_range (kk t) (lp t) i
  have hv1 : HV t i 1 := ⟨t0, t1, hi, by omega, by omega⟩
  have r := hd_range hv1
  have c := fun (J : Nat) (D : Int) (hu : HV t J D) (eu : hd t J D = hd t i 1 + d - 1) (w : World) (G : GT w) => ancount_c t _ d (hd t i 1) _ _ _ _ _ w r.1 r.2 d0 d1 (fun W hW => htoday_in t i 1 W (G.gr hW) hv1) (fun W hW => hfrom_in t J D _ W (G.gr hW) hu eu)
  by_cases z : d ≤ mlen (kk t) (lp t) i
  · have hv : HV t i d := ⟨t0, t1, hi, d0, z⟩
    have e := hd_lin t i d
    exact ⟨i, d, hv, by omega, fun _ => ⟨rfl, rfl⟩, c i d hv (by omega)⟩
  · have z2 : i + 1 ≠ mct (lp t) := fun q => by have := hl q; omega
    have hv : HV t i (mlen (kk t) (lp t) i) := ⟨t0, t1, hi, by omega, by omega⟩
    obtain ⟨hn, en⟩ := hd_next_month hv rfl (by omega)
    have e := hd_lin t i (mlen (kk t) (lp t) i)
    exact ⟨i + 1, 1, hn, by omega, fun q => absurd q (by omega), c (i + 1) 1 hn (by omega)⟩
theorem wc2 : ∀ l : Bool, ∀ i : Nat, i < 13 → cN l i = 2 → i = 1 := by decide
theorem wc3 : ∀ l : Bool, ∀ i : Nat, i < 13 → cN l i = 3 → i = 2 := by decide
theorem wc6f : ∀ i : Nat, i < 13 → cN false i = 6 → i = 5 := by decide
theorem wc6t : ∀ i : Nat, i < 13 → cN true i = 6 → i = 6 := by decide
theorem hd_month (t : Int) (i : Nat) : hd t (i + 1) 1 = hd t i 1 + mlen (kk t) (lp t) i := by unfold hd; simp only [mah]; omega
/-- Both anniversaries. -/
def AnnR (y n : Int) (c : Bool) (d t : Int) : Prop := ∃ (J : Nat) (D : Int) (J' : Nat) (D' : Int), HV t J D ∧ HV t J' D' ∧
    (∀ w, GT w → Calls Tryq.prog 28 #[.agg #[.int .i64 y, .int .i64 n, .bool c, .int .i64 d], .int .i64 t] w fun e w' => e = .returned (.tuple #[.agg #[.int .i64 t, .int .i64 (cN (lp t) J), .bool (cL (lp t) J), .int .i64 D], .int .i64 0]) ∧ Gr w w') ∧
    (∀ w, GT w → Calls Tryq.prog 29 #[.agg #[.int .i64 y, .int .i64 n, .bool c, .int .i64 d], .int .i64 t] w fun e w' => e = .returned (.tuple #[.agg #[.int .i64 t, .int .i64 (cN (lp t) J'), .bool (cL (lp t) J'), .int .i64 D'], .int .i64 0]) ∧ Gr w w') ∧
    (d < 30 → n ≠ 6 → c = false → (cN (lp t) J = n ∧ cL (lp t) J = false ∧ D = d) ∧ cN (lp t) J' = n ∧ cL (lp t) J' = false ∧ D' = d) ∧
    (n = 2 ∨ n = 3 → hd t J D = hd t J' D' ∨ hd t J D = hd t J' D' + 1) ∧ hd t J' D' ≤ hd t J D
theorem wlast_n {t : Int} (t0 : 1 ≤ t) (t1 : t ≤ 9999) (p : Nat) (n : Int) (c : Bool) (L : Int) (hp : p < mct (lp t)) (e1 : cN (lp t) p = n) (e2 : cL (lp t) p = c) (e3 : mlen (kk t) (lp t) p = L) :
    (∀ w, GT w → Calls Tryq.prog 97 #[.int .i64 t, .agg #[.int .i64 n, .bool c]] w fun e w' => e = .returned (.tuple #[.int .i64 L, .int .i64 0]) ∧ Gr w w') := by
  subst e1 e2 e3
  exact fun w G => hlast_in t p w G t0 t1 hp
theorem annR_in {y : Int} {j : Nat} {d t : Int} (h : HV y j d) (ht : y < t) (t1 : t ≤ 9999) : AnnR y (cN (lp y) j) (cL (lp y) j) d t := by
  have y0 := h.y0
  have y1 := h.y1
  have t0 : 1 ≤ t := by omega
  have hd0 := hv_day h
  obtain ⟨i, hi, e0, e1, e2, hl⟩ := into_at t h t0 t1
  obtain ⟨J, D, hu, eu, pl, c1⟩ := wcount_in t0 t1 hi hd0.1 hd0.2 hl
  have k1 := fun w G => ancheck_in h ht t1 w G
  have s1 := fun w => sinto_in e0 e1 e2 w
  have hR := cR_at (lp y) h.j1
  have a1 := fun w => aleap_in t w (by omega) (by omega)
  have a2 := fun w => aleap_in y w (by omega) (by omega)
  have mt := mct_le (lp t)
  unfold inNum at e1
  unfold inLp at e2
  rw [e0, if_pos rfl] at e1 e2
  obtain ⟨n, hn⟩ : ∃ n, cN (lp y) j = n := ⟨_, rfl⟩
  obtain ⟨c, hc⟩ : ∃ c, cL (lp y) j = c := ⟨_, rfl⟩
  rw [hn, hc] at hR k1 s1 e1 e2 ⊢
  clear hn hc h e0
  have b1 := fun (w : World) (G : GT w) => birth_in y n d t _ _ _ _ c _ _ w (fun W hW => k1 W (G.gr hW)) s1 (fun W hW => c1 W (G.gr hW))
  cases c
  · have hh : cHas (lp t) n false = true := by unfold cHas; rw [hR]; simp
    rw [if_pos hh] at e1 e2
    have first : d < 30 → cN (lp t) J = n ∧ cL (lp t) J = false ∧ D = d := fun q => by
      obtain ⟨rfl, rfl⟩ := pl (by omega)
      exact ⟨e1.symm, e2.symm, rfl⟩
    have same : (∀ w, GT w → Calls Tryq.prog 29 #[.agg #[.int .i64 y, .int .i64 n, .bool false, .int .i64 d], .int .i64 t] w fun e w' => e = .returned (.tuple #[.agg #[.int .i64 t, .int .i64 (cN (lp t) J), .bool (cL (lp t) J), .int .i64 D], .int .i64 0]) ∧ Gr w w') → AnnR y n false d t := fun c2 =>
      ⟨J, D, J, D, hu, hu, b1, c2, fun q _ _ => ⟨first q, first q⟩, fun _ => .inl rfl, by omega⟩
    by_cases n2 : n = 2 ∨ n = 3
    · have ly := mct_le (lp (y + 1))
      obtain ⟨p, hp12, q1, q2, qi⟩ : ∃ p : Nat, p < 12 ∧ (∀ l, cN l p = n) ∧ (∀ l, cL l p = false) ∧ i = p := by
        rcases n2 with rfl | rfl
        · exact ⟨1, by decide, fun l => (code_23 l).1.1, fun l => (code_23 l).1.2, wc2 _ i (by omega) e1.symm⟩
        · exact ⟨2, by decide, fun l => (code_23 l).2.1, fun l => (code_23 l).2.2, wc3 _ i (by omega) e1.symm⟩
      have l1 := wlast_n (t := y + 1) (by omega) (by omega) p n false _ (by omega) (q1 _) (q2 _) rfl
      have m1 := wlast_n t0 t1 p n false _ (by omega) (q1 _) (q2 _) rfl
      have v := fun (w : World) (G : GT w) => anwanes_c y n d _ false w y0 y1 fun _ => ⟨0, fun W hW => l1 W (G.gr hW)⟩
      by_cases hv : d = 30 ∧ (n = 2 ∨ n = 3) ∧ mlen (kk (y + 1)) (lp (y + 1)) p < 30
      · rw [decide_eq_true hv] at v
        have lr := mlen_range (kk t) (lp t) p
        have el := hd_lin t p (mlen (kk t) (lp t) p)
        subst qi
        refine ⟨J, D, i, mlen (kk t) (lp t) i, hu, ⟨t0, t1, by omega, by omega, by omega⟩, b1, fun w G => ?_, fun z => absurd z (by omega), fun _ => by omega, by omega⟩
        rw [q1, q2]
        exact death_core y n d t _ _ _ false _ _ true _ w (fun W hW => k1 W (G.gr hW)) (fun W hW => v W (G.gr hW)) a1 a2 (.inl ⟨rfl, fun W hW => anlast_c t n _ 0 false W fun V hV => m1 V ((G.gr hW).gr hV)⟩)
      · rw [decide_eq_false hv] at v
        exact same fun w G => death_core y n d t _ _ _ false _ _ false _ w (fun W hW => k1 W (G.gr hW)) (fun W hW => v W (G.gr hW)) a1 a2 (.inr (.inr (.inr ⟨rfl, .inr (.inr (.inl ⟨rfl, by omega⟩)), fun W hW => b1 W (G.gr hW)⟩)))
    · have v := fun (w : World) (G : GT w) => anwanes_c y n d 0 false w y0 y1 fun z => absurd z.2 n2
      have e : decide (d = 30 ∧ (n = 2 ∨ n = 3) ∧ (0 : Int) < 30) = false := decide_eq_false fun z => n2 z.2.1
      rw [e] at v
      by_cases n6 : n = 6
      · subst n6
        by_cases hq : lp t = true ∧ lp y = false
        · have g5 : 5 < mct (lp t) := by rw [hq.1]; decide
          have hl5 : 5 + 1 = mct (lp t) → d ≤ 29 := fun z => by rw [hq.1] at z; exact absurd z (by decide)
          obtain ⟨J', D', hu', eu', -, x1⟩ := wcount_in t0 t1 g5 hd0.1 hd0.2 hl5
          have f1 : cN (lp t) 5 = 5 := by rw [hq.1]; decide
          have f2 : cL (lp t) 5 = true := by rw [hq.1]; decide
          have i6 : i = 6 := by rw [hq.1] at e1; exact wc6t i (by omega) e1.symm
          subst i6
          have hm := hd_month t 5
          have lr := mlen_range (kk t) (lp t) 5
          have hm' : hd t 6 1 = hd t 5 1 + mlen (kk t) (lp t) 5 := hm
          rw [f1, f2] at x1
          exact ⟨J, D, J', D', hu, hu', b1, fun w G => death_core y 6 d _ _ _ _ false _ _ false _ w (fun W hW => k1 W (G.gr hW)) (fun W hW => v W (G.gr hW)) a1 a2 (.inr (.inr (.inl ⟨rfl, rfl, rfl, hq.1, hq.2, fun W hW => x1 W (G.gr hW)⟩))), fun _ z => absurd rfl z, fun z => absurd z (by decide), by omega⟩
        · refine same fun w G => death_core y 6 d t _ _ _ false _ _ false _ w (fun W hW => k1 W (G.gr hW)) (fun W hW => v W (G.gr hW)) a1 a2 (.inr (.inr (.inr ⟨rfl, ?_, fun W hW => b1 W (G.gr hW)⟩)))
          cases htl : lp t
          · exact .inr (.inr (.inr (.inl ⟨rfl, rfl, rfl⟩)))
          · refine .inr (.inr (.inr (.inr ⟨rfl, rfl, rfl, ?_⟩)))
            cases hyl : lp y
            · exact absurd ⟨htl, hyl⟩ hq
            · rfl
      · exact same fun w G => death_core y n d t _ _ _ false _ _ false _ w (fun W hW => k1 W (G.gr hW)) (fun W hW => v W (G.gr hW)) a1 a2 (.inr (.inr (.inr ⟨rfl, .inr (.inr (.inl ⟨rfl, n6⟩)), fun W hW => b1 W (G.gr hW)⟩)))
  · have n5 : n = 5 := by
      unfold cR at hR
      have := (of_decide_eq_true hR).2.2
      simpa using this
    subst n5
    have same : (∀ w, GT w → Calls Tryq.prog 29 #[.agg #[.int .i64 y, .int .i64 5, .bool true, .int .i64 d], .int .i64 t] w fun e w' => e = .returned (.tuple #[.agg #[.int .i64 t, .int .i64 (cN (lp t) J), .bool (cL (lp t) J), .int .i64 D], .int .i64 0]) ∧ Gr w w') → AnnR y 5 true d t := fun c2 =>
      ⟨J, D, J, D, hu, hu, b1, c2, fun _ _ q => absurd q (by decide), fun _ => .inl rfl, by omega⟩
    have v := fun (w : World) (G : GT w) => anwanes_c y 5 d 0 true w y0 y1 fun z => absurd z.2 (by decide)
    have e : decide (d = 30 ∧ ((5 : Int) = 2 ∨ (5 : Int) = 3) ∧ (0 : Int) < 30) = false := decide_eq_false fun z => absurd z.2.1 (by decide)
    rw [e] at v
    by_cases hq : d = 30 ∧ lp t = false
    · have g4 : 4 < mct (lp t) := by rw [hq.2]; decide
      have f1 : cN (lp t) 4 = 5 := by rw [hq.2]; decide
      have f2 : cL (lp t) 4 = false := by rw [hq.2]; decide
      have f3 : mlen (kk t) (lp t) 4 = 30 := by rw [hq.2]; simp [mlen]
      have m1 := wlast_n t0 t1 4 5 false 30 g4 f1 f2 f3
      have i5 : i = 5 := by
        have e1' := e1
        rw [hq.2, if_neg (by decide)] at e1'
        exact wc6f i (by omega) e1'.symm
      subst i5
      have hm : hd t 5 1 = hd t 4 1 + mlen (kk t) (lp t) 4 := hd_month t 4
      have el := hd_lin t 4 30
      refine ⟨J, D, 4, 30, hu, ⟨t0, t1, g4, by decide, by omega⟩, b1, fun w G => ?_, fun _ _ z => absurd z (by decide), fun z => absurd z (by decide), by omega⟩
      rw [f1, f2]
      exact death_core y 5 d t _ _ _ true _ _ false _ w (fun W hW => k1 W (G.gr hW)) (fun W hW => v W (G.gr hW)) a1 a2 (.inr (.inl ⟨rfl, rfl, hq.1, hq.2, fun W hW => anlast_c t 5 30 0 false W fun V hV => m1 V ((G.gr hW).gr hV)⟩))
    · refine same fun w G => death_core y 5 d t _ _ _ true _ _ false _ w (fun W hW => k1 W (G.gr hW)) (fun W hW => v W (G.gr hW)) a1 a2 (.inr (.inr (.inr ⟨rfl, ?_, fun W hW => b1 W (G.gr hW)⟩)))
      by_cases h30 : d = 30
      · cases htl : lp t
        · exact absurd ⟨h30, htl⟩ hq
        · exact .inr (.inl ⟨rfl, rfl, h30, rfl⟩)
      · exact .inl ⟨rfl, rfl, h30⟩
/-- What date may be; every other one tells an error. -/
theorem wdate_cases (y n : Int) (c : Bool) (d : Int) : (∃ j, n = cN (lp y) j ∧ c = cL (lp y) j ∧ HV y j d) ∨ ∃ E : Int, E ≠ 0 ∧
    (∀ w, GT w → Calls Tryq.prog 27 #[.agg #[.int .i64 y, .int .i64 n, .bool c, .int .i64 d]] w fun e w' => e = .returned (.int .i64 E) ∧ Gr w w') := by
  by_cases h : y < 1 ∨ 9999 < y
  · exact .inr ⟨2, by decide, fun w G => hcheck_of _ _ _ _ _ _ _ _ _ w fun W hW => look_e _ _ _ _ _ W (by decide) fun w => find_y y n c w h⟩
  · have h0 : 1 ≤ y := by omega
    have h1 : y ≤ 9999 := by omega
    cases hc : cHas (lp y) n c
    · exact .inr ⟨3, by decide, fun w G => hcheck_of _ _ _ _ _ _ _ _ _ w fun W hW => look_e _ _ _ _ _ W (by decide) fun w => find_m y n c w h0 h1 hc⟩
    · obtain ⟨j, hj, rfl, rfl⟩ := code_in hc
      by_cases g : d < 1 ∨ mlen (kk y) (lp y) j < d
      · exact .inr ⟨4, by decide, fun w G => hcheck_of _ _ _ _ _ _ _ _ _ w fun W hW => look_d y j d W (G.gr hW) h0 h1 hj g⟩
      · exact .inl ⟨j, rfl, rfl, h0, h1, hj, by omega, by omega⟩
/-- Either both are told, or both tell the date's own error, or of an earlier year's asking. -/
theorem wann_cases (y n : Int) (c : Bool) (d t : Int) (t0 : 1 ≤ t) (t1 : t ≤ 9999) : (∃ j, n = cN (lp y) j ∧ c = cL (lp y) j ∧ HV y j d ∧ y < t) ∨ ∃ E F : Int, E ≠ 0 ∧ (F = E ∨ (F = 0 ∧ E = 1 ∧ t ≤ y)) ∧
    (∀ w, GT w → Calls Tryq.prog 27 #[.agg #[.int .i64 y, .int .i64 n, .bool c, .int .i64 d]] w fun e w' => e = .returned (.int .i64 F) ∧ Gr w w') ∧
    (∀ w, GT w → Calls Tryq.prog 28 #[.agg #[.int .i64 y, .int .i64 n, .bool c, .int .i64 d], .int .i64 t] w fun e w' => e = .returned (.tuple #[.agg #[.int .i64 0, .int .i64 0, .bool false, .int .i64 0], .int .i64 E]) ∧ Gr w w') ∧
    (∀ w, GT w → Calls Tryq.prog 29 #[.agg #[.int .i64 y, .int .i64 n, .bool c, .int .i64 d], .int .i64 t] w fun e w' => e = .returned (.tuple #[.agg #[.int .i64 0, .int .i64 0, .bool false, .int .i64 0], .int .i64 E]) ∧ Gr w w') := by
  have key : (∃ j, n = cN (lp y) j ∧ c = cL (lp y) j ∧ HV y j d ∧ y < t) ∨ ∃ E : Int, anE y t E ≠ 0 ∧ (E = anE y t E ∨ (E = 0 ∧ anE y t E = 1 ∧ t ≤ y)) ∧
      (∀ w, GT w → Calls Tryq.prog 27 #[.agg #[.int .i64 y, .int .i64 n, .bool c, .int .i64 d]] w fun e w' => e = .returned (.int .i64 E) ∧ Gr w w') := by
    rcases wdate_cases y n c d with ⟨j, rfl, rfl, hv⟩ | ⟨E, hE, c1⟩
    · by_cases ht : y < t
      · exact .inl ⟨j, rfl, rfl, hv, ht⟩
      · have e : anE y t 0 = 1 := by unfold anE; rw [if_pos rfl, if_neg (by omega), if_pos (by omega)]
        exact .inr ⟨0, by rw [e]; decide, .inr ⟨rfl, e, by omega⟩, fun w G => hcheck_in y j d w G hv⟩
    · have e : anE y t E = E := by unfold anE; rw [if_neg hE]
      exact .inr ⟨E, by rw [e]; exact hE, .inl e.symm, c1⟩
  rcases key with h | ⟨E, hE, hF, c1⟩
  · exact .inl h
  · exact .inr ⟨anE y t E, E, hE, hF, c1, fun w G => birth_e y n d t _ c w hE fun W hW => ancheck_c y n d t E c W fun V hV => c1 V ((G.gr hW).gr hV), fun w G => death_e y n d t _ c w hE fun W hW => ancheck_c y n d t E c W fun V hV => c1 V ((G.gr hW).gr hV)⟩
end Go.Proofs.YtegkbjpcgelomaaGreatDoor.Walks
end
