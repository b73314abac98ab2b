/- Walks of the reference of layer 11. -/
import Derived.Test.YtgjgkldkdmohjaaGreg3
import Derived.Test.YtgjgkldkdmohjaaRef06
set_option linter.unusedVariables false
set_option linter.unusedSimpArgs false
namespace Go.Proofs.Ytgjgkldkdmohjaa.Walks
open Go Go.RowKit Go.Sort Go.Proofs.Ytgjgkldkdmohjaa.Base Go.Proofs.Ytgjgkldkdmohjaa.Plain Go.Proofs.Ytgjgkldkdmohjaa.Math

theorem rgleap_c (y : Int) (w : World) : Calls Try.prog 15 #[.int .i64 y] w fun e w' => e = .returned (.bool (gl y)) ∧ Gr w w' := by
  have t4 := tmod_zero y 400
  have t1 := tmod_zero y 100
  have t0 := tmod_zero y 4
  have im : (y % 400 == 0) = true → (y % 4 == 0) = true := fun h => beq_iff_eq.2 (by have := beq_iff_eq.1 h; omega)
  cases h0 : (y % 4 == 0)
  · have h4 : (y % 400 == 0) = false := by cases h4 : (y % 400 == 0) with
      | false => rfl
      | true => rw [im h4] at h0; cases h0
    rw [h0] at t0
    have E : RowKit.Hid (gl y = false) := Lib.hid (by unfold gl; rw [h4, h0]; rfl)
    clear h0 h4 t4 t1 im
    go_enter Try.func15, Try.ntmps15
    go_wp2
    go_ret
    exact ⟨retb E.out.symm, (by repeat (first | exact Gr.refl _ | refine Gr.setCell ?_ _ _ (by first | exact Nat.le_refl _ | (simp; omega) | (simp; done)) | refine Gr.grown ?_ _ _ | refine Gr.drewN ?_ _ | refine Gr.drew ?_ | refine Gr.alloc ?_ _ | refine Gr.grow ?_ _ | (refine Gr.trans ?_ (by assumption))))⟩
  · cases h1 : (y % 100 == 0)
    · have n1 : (Int.tmod y 100 != 0) = true := by rw [bne, t1, h1]; rfl
      rw [h0] at t0
      have E : RowKit.Hid (gl y = true) := Lib.hid (by unfold gl; rw [h0, h1]; simp)
      clear h0 h1 t4 t1 im
      go_enter Try.func15, Try.ntmps15
      go_wp2
      go_ret
      exact ⟨retb E.out.symm, (by repeat (first | exact Gr.refl _ | refine Gr.setCell ?_ _ _ (by first | exact Nat.le_refl _ | (simp; omega) | (simp; done)) | refine Gr.grown ?_ _ _ | refine Gr.drewN ?_ _ | refine Gr.drew ?_ | refine Gr.alloc ?_ _ | refine Gr.grow ?_ _ | (refine Gr.trans ?_ (by assumption))))⟩
    · have n1 : (Int.tmod y 100 != 0) = false := by rw [bne, t1, h1]; rfl
      rw [h0] at t0
      have E : RowKit.Hid (gl y = (Int.tmod y 400 == 0)) := Lib.hid (by unfold gl; rw [h0, h1, t4]; simp)
      clear h0 h1 t4 t1 im
      go_enter Try.func15, Try.ntmps15
      go_wp2
      go_ret
      exact ⟨retb E.out.symm, (by repeat (first | exact Gr.refl _ | refine Gr.setCell ?_ _ _ (by first | exact Nat.le_refl _ | (simp; omega) | (simp; done)) | refine Gr.grown ?_ _ _ | refine Gr.drewN ?_ _ | refine Gr.drew ?_ | refine Gr.alloc ?_ _ | refine Gr.grow ?_ _ | (refine Gr.trans ?_ (by assumption))))⟩
set_option maxHeartbeats 4000000 in
theorem rgdays_c (y m : Int) (w : World) : Calls Try.prog 16 #[.int .i64 y, .int .i64 m] w fun e w' => e = .returned (.int .i64 (gmd (gl y) m)) ∧ Gr w w' := by
  by_cases h : 1 ≤ m ∧ m ≤ 12
  · have : m = 1 ∨ m = 2 ∨ m = 3 ∨ m = 4 ∨ m = 5 ∨ m = 6 ∨ m = 7 ∨ m = 8 ∨ m = 9 ∨ m = 10 ∨ m = 11 ∨ m = 12 := by omega
    clear h
    cases hl : gl y
    · have L : RowKit.Hid (gl y = false) := Lib.hid hl
      clear hl
      rcases this with rfl | rfl | rfl | rfl | rfl | rfl | rfl | rfl | rfl | rfl | rfl | rfl
      all_goals
        go_enter Try.func16, Try.ntmps16
        go_wp2_with (go_at_call 15; (with_reducible refine (rgleap_c y _).mono ?_); rintro e w1 ⟨rfl, hg⟩; rw [L.out])
        go_ret
        exact ⟨rfl, (by repeat (first | exact Gr.refl _ | refine Gr.setCell ?_ _ _ (by first | exact Nat.le_refl _ | (simp; omega) | (simp; done)) | refine Gr.grown ?_ _ _ | refine Gr.drewN ?_ _ | refine Gr.drew ?_ | refine Gr.alloc ?_ _ | refine Gr.grow ?_ _ | (refine Gr.trans ?_ (by assumption))))⟩
    · have L : RowKit.Hid (gl y = true) := Lib.hid hl
      clear hl
      rcases this with rfl | rfl | rfl | rfl | rfl | rfl | rfl | rfl | rfl | rfl | rfl | rfl
      all_goals
        go_enter Try.func16, Try.ntmps16
        go_wp2_with (go_at_call 15; (with_reducible refine (rgleap_c y _).mono ?_); rintro e w1 ⟨rfl, hg⟩; rw [L.out])
        go_ret
        exact ⟨rfl, (by repeat (first | exact Gr.refl _ | refine Gr.setCell ?_ _ _ (by first | exact Nat.le_refl _ | (simp; omega) | (simp; done)) | refine Gr.grown ?_ _ _ | refine Gr.drewN ?_ _ | refine Gr.drew ?_ | refine Gr.alloc ?_ _ | refine Gr.grow ?_ _ | (refine Gr.trans ?_ (by assumption))))⟩
  · rw [gmd_no _ m (by omega)]
    by_cases g : m < 1
    · clear h
      go_enter Try.func16, Try.ntmps16
      go_wp2
      go_ret
      exact ⟨rfl, (by repeat (first | exact Gr.refl _ | refine Gr.setCell ?_ _ _ (by first | exact Nat.le_refl _ | (simp; omega) | (simp; done)) | refine Gr.grown ?_ _ _ | refine Gr.drewN ?_ _ | refine Gr.drew ?_ | refine Gr.alloc ?_ _ | refine Gr.grow ?_ _ | (refine Gr.trans ?_ (by assumption))))⟩
    · have g2 : 12 < m := by omega
      clear h
      go_enter Try.func16, Try.ntmps16
      go_wp2
      go_ret
      exact ⟨rfl, (by repeat (first | exact Gr.refl _ | refine Gr.setCell ?_ _ _ (by first | exact Nat.le_refl _ | (simp; omega) | (simp; done)) | refine Gr.grown ?_ _ _ | refine Gr.drewN ?_ _ | refine Gr.drew ?_ | refine Gr.alloc ?_ _ | refine Gr.grow ?_ _ | (refine Gr.trans ?_ (by assumption))))⟩
theorem rahead_c (y : Int) (w : World) (h0 : -1000000 ≤ y) (h1 : y ≤ 1000000) : Calls Try.prog 23 #[.int .i64 y] w fun e w' => e = .returned (.int .i64 (gb y)) ∧ Gr w w' := by
  have E : RowKit.Hid (365 * (y - 1) + (y - 1) / 4 - (y - 1) / 100 + (y - 1) / 400 = gb y) := Lib.hid rfl
  go_enter Try.func23, Try.ntmps23
  go_wp2_with (first | (go_at_call 25; (with_reducible refine (rdown_c (y - 1) 4 _ (by omega) (by omega) (by omega) (by omega)).mono ?_); rintro e w1 ⟨rfl, hg⟩) | (go_at_call 25; (with_reducible refine (rdown_c (y - 1) 100 _ (by omega) (by omega) (by omega) (by omega)).mono ?_); rintro e w1 ⟨rfl, hg⟩) | (go_at_call 25; (with_reducible refine (rdown_c (y - 1) 400 _ (by omega) (by omega) (by omega) (by omega)).mono ?_); rintro e w1 ⟨rfl, hg⟩))
  go_ret
  exact ⟨ret1 E.out, (by repeat (first | exact Gr.refl _ | refine Gr.setCell ?_ _ _ (by first | exact Nat.le_refl _ | (simp; omega) | (simp; done)) | refine Gr.grown ?_ _ _ | refine Gr.drewN ?_ _ | refine Gr.drew ?_ | refine Gr.alloc ?_ _ | refine Gr.grow ?_ _ | (refine Gr.trans ?_ (by assumption))))⟩
theorem rgin_c (n : Int) (w : World) : Calls Try.prog 24 #[.int .i64 n] w fun e w' => e = .returned (.bool (inD n)) ∧ Gr w w' := by
  by_cases g : -1373427 ≤ n
  · have E : RowKit.Hid (decide (n ≤ 2278650) = inD n) := Lib.hid (by unfold inD; rw [Bool.eq_iff_iff]; simp; omega)
    go_enter Try.func24, Try.ntmps24
    go_wp2_with (go_at_call 8; (with_reducible refine (rlast_c _).mono ?_); rintro e w1 ⟨rfl, hg⟩)
    go_ret
    exact ⟨retb E.out, (by repeat (first | exact Gr.refl _ | refine Gr.setCell ?_ _ _ (by first | exact Nat.le_refl _ | (simp; omega) | (simp; done)) | refine Gr.grown ?_ _ _ | refine Gr.drewN ?_ _ | refine Gr.drew ?_ | refine Gr.alloc ?_ _ | refine Gr.grow ?_ _ | (refine Gr.trans ?_ (by assumption))))⟩
  · have E : RowKit.Hid (false = inD n) := Lib.hid (by unfold inD; rw [decide_eq_false (by omega)])
    go_enter Try.func24, Try.ntmps24
    go_wp2
    go_ret
    exact ⟨retb E.out, (by repeat (first | exact Gr.refl _ | refine Gr.setCell ?_ _ _ (by first | exact Nat.le_refl _ | (simp; omega) | (simp; done)) | refine Gr.grown ?_ _ _ | refine Gr.drewN ?_ _ | refine Gr.drew ?_ | refine Gr.alloc ?_ _ | refine Gr.grow ?_ _ | (refine Gr.trans ?_ (by assumption))))⟩
theorem rgless_c (a b c d e f : Int) (w : World) : Calls Try.prog 18 #[.agg #[.int .i64 a, .int .i64 b, .int .i64 c], .agg #[.int .i64 d, .int .i64 e, .int .i64 f]] w fun x w' => x = .returned (.bool (gls a b c d e f)) ∧ Gr w w' := by
  unfold gls
  by_cases h : a = d
  · subst h
    rw [if_pos rfl]
    by_cases g : b = e
    · subst g
      rw [if_pos rfl]
      go_enter Try.func18, Try.ntmps18
      go_wp2
      go_ret
      exact ⟨rfl, (by repeat (first | exact Gr.refl _ | refine Gr.setCell ?_ _ _ (by first | exact Nat.le_refl _ | (simp; omega) | (simp; done)) | refine Gr.grown ?_ _ _ | refine Gr.drewN ?_ _ | refine Gr.drew ?_ | refine Gr.alloc ?_ _ | refine Gr.grow ?_ _ | (refine Gr.trans ?_ (by assumption))))⟩
    · rw [if_neg g]
      have n2 : (b != e) = true := bne_iff_ne.2 g
      clear g
      go_enter Try.func18, Try.ntmps18
      go_wp2
      go_ret
      exact ⟨rfl, (by repeat (first | exact Gr.refl _ | refine Gr.setCell ?_ _ _ (by first | exact Nat.le_refl _ | (simp; omega) | (simp; done)) | refine Gr.grown ?_ _ _ | refine Gr.drewN ?_ _ | refine Gr.drew ?_ | refine Gr.alloc ?_ _ | refine Gr.grow ?_ _ | (refine Gr.trans ?_ (by assumption))))⟩
  · rw [if_neg h]
    have n1 : (a != d) = true := bne_iff_ne.2 h
    clear h
    go_enter Try.func18, Try.ntmps18
    go_wp2
    go_ret
    exact ⟨rfl, (by repeat (first | exact Gr.refl _ | refine Gr.setCell ?_ _ _ (by first | exact Nat.le_refl _ | (simp; omega) | (simp; done)) | refine Gr.grown ?_ _ _ | refine Gr.drewN ?_ _ | refine Gr.drew ?_ | refine Gr.alloc ?_ _ | refine Gr.grow ?_ _ | (refine Gr.trans ?_ (by assumption))))⟩

end Go.Proofs.Ytgjgkldkdmohjaa.Walks
