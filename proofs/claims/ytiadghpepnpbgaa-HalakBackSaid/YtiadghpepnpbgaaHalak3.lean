/- The reference's hours and moons; the fixed example of the laws of layer 2. -/
import Derived.Test.YtiadghpepnpbgaaHalak2
import Derived.Test.YtiadghpepnpbgaaMolad
set_option linter.unusedVariables false
set_option linter.unusedSimpArgs false
namespace Go.Proofs.Ytiadghpepnpbgaa.Walks
open Go Go.RowKit Go.Sort Go.Proofs.Ytiadghpepnpbgaa.Base Go.Proofs.Ytiadghpepnpbgaa.Plain Go.Proofs.Ytiadghpepnpbgaa.Math

theorem rhours_c (p : Int) (w : World) : Calls Try.prog 24 #[.int .i64 p] w fun e w' => e = .returned (.tuple #[.int .i64 (hrN p), .int .i64 (hrP p)]) ∧ Gr w w' := by
  by_cases c : p < 0 ∨ 25920 ≤ p
  · have E1 : RowKit.Hid (0 = hrN p) := Lib.hid (by unfold hrN; rw [if_pos c])
    have E2 : RowKit.Hid (0 = hrP p) := Lib.hid (by unfold hrP; rw [if_pos c])
    by_cases g : p < 0
    · clear c
      go_enter Try.func24, Try.ntmps24
      go_wp2
      go_ret2
      exact ⟨ret2 E1.out E2.out, (by repeat (first | exact Gr.refl _ | refine Gr.setCell ?_ _ _ (by first | exact Nat.le_refl _ | (simp; omega) | (simp; done)) | refine Gr.grown ?_ _ _ | refine Gr.drewN ?_ _ | refine Gr.drew ?_ | refine Gr.alloc ?_ _ | refine Gr.grow ?_ _ | (refine Gr.trans ?_ (by assumption))))⟩
    · have g2 : 25920 ≤ p := by omega
      clear c
      go_enter Try.func24, Try.ntmps24
      go_wp2
      go_ret2
      exact ⟨ret2 E1.out E2.out, (by repeat (first | exact Gr.refl _ | refine Gr.setCell ?_ _ _ (by first | exact Nat.le_refl _ | (simp; omega) | (simp; done)) | refine Gr.grown ?_ _ _ | refine Gr.drewN ?_ _ | refine Gr.drew ?_ | refine Gr.alloc ?_ _ | refine Gr.grow ?_ _ | (refine Gr.trans ?_ (by assumption))))⟩
  · have c0 : 0 ≤ p := by omega
    have c1 : p < 25920 := by omega
    have E1 : RowKit.Hid (p / 1080 = hrN p) := Lib.hid (by unfold hrN; rw [if_neg c])
    have E2 : RowKit.Hid (p % 1080 = hrP p) := Lib.hid (by unfold hrP; rw [if_neg c])
    clear c
    go_enter Try.func24, Try.ntmps24
    go_wp2
    go_ret2
    exact ⟨ret2 E1.out E2.out, (by repeat (first | exact Gr.refl _ | refine Gr.setCell ?_ _ _ (by first | exact Nat.le_refl _ | (simp; omega) | (simp; done)) | refine Gr.grown ?_ _ _ | refine Gr.drewN ?_ _ | refine Gr.drew ?_ | refine Gr.alloc ?_ _ | refine Gr.grow ?_ _ | (refine Gr.trans ?_ (by assumption))))⟩

theorem rmoons_u (n : Int) (w : World) (hn : fits n) : Calls Try.prog 22 #[.int .i64 n] w fun e w' => e = .returned (.tuple #[.int .i64 (okN (n * 765433)), .int .i64 (okE (n * 765433))]) ∧ Gr w w' := by
  have HN := Lib.hid hn
  have K : RowKit.Hid (fits 765433) := Lib.hid ⟨by omega, by omega⟩
  clear hn
  go_enter Try.func22, Try.ntmps22
  go_wp2_with (go_at_call 52; (with_reducible refine (rmul_u n 765433 _ HN.out K.out).mono ?_); rintro e wA ⟨rfl, hgwA⟩)
  go_ret2
  exact ⟨rfl, (by repeat (first | exact Gr.refl _ | refine Gr.setCell ?_ _ _ (by first | exact Nat.le_refl _ | (simp; omega) | (simp; done)) | refine Gr.grown ?_ _ _ | refine Gr.drewN ?_ _ | refine Gr.drew ?_ | refine Gr.alloc ?_ _ | refine Gr.grow ?_ _ | (refine Gr.trans ?_ (by assumption))))⟩

theorem awake02_c (w : World) : Calls Try.prog 17 #[] w fun e w' => e = .returned (.bool true) ∧ Gr w w' := by
  have e1 : ptN 29 12 793 = 765433 := by decide +kernel
  have e2 : ptE 29 12 793 = 0 := by decide +kernel
  have e3 : okN (1 * 765433) = 765433 := by decide +kernel
  have e4 : okE (1 * 765433) = 0 := by decide +kernel
  have C1 : RowKit.Hid (∀ w, Calls Try.prog 15 #[.int .i64 29, .int .i64 12, .int .i64 793] w fun e w' => e = .returned (.tuple #[.int .i64 765433, .int .i64 0]) ∧ Gr w w') := Lib.hid fun w => by
    have := parts_u 29 12 793 w ⟨by omega, by omega⟩ ⟨by omega, by omega⟩ ⟨by omega, by omega⟩; rwa [e1, e2] at this
  have C2 : RowKit.Hid (∀ w, Calls Try.prog 21 #[.int .i64 1] w fun e w' => e = .returned (.tuple #[.int .i64 765433, .int .i64 0]) ∧ Gr w w') := Lib.hid fun w => by
    have := moons_u 1 w ⟨by omega, by omega⟩; rwa [e3, e4] at this
  have C3 : RowKit.Hid (∀ w, Calls Try.prog 16 #[.int .i64 (-1)] w fun e w' => e = .returned (.agg #[.int .i64 (-1), .int .i64 25919]) ∧ Gr w w') := Lib.hid fun w => by
    have := split_c (-1) w (by omega) (by omega); rwa [show (-1 : Int) / 25920 = -1 from by decide +kernel, show (-1 : Int) % 25920 = 25919 from by decide +kernel] at this
  clear e1 e2 e3 e4
  go_enter Try.func17, Try.ntmps17
  go_wp2_with (first | (go_at_call 15; (with_reducible refine (C1.out _).mono ?_); rintro e wA ⟨rfl, hgwA⟩) | (go_at_call 21; (with_reducible refine (C2.out _).mono ?_); rintro e wB ⟨rfl, hgwB⟩) | (go_at_call 16; (with_reducible refine (C3.out _).mono ?_); rintro e wC ⟨rfl, hgwC⟩))
  go_ret
  exact ⟨rfl, (by repeat (first | exact Gr.refl _ | refine Gr.setCell ?_ _ _ (by first | exact Nat.le_refl _ | (simp; omega) | (simp; done)) | refine Gr.grown ?_ _ _ | refine Gr.drewN ?_ _ | refine Gr.drew ?_ | refine Gr.alloc ?_ _ | refine Gr.grow ?_ _ | (refine Gr.trans ?_ (by assumption))))⟩

end Go.Proofs.Ytiadghpepnpbgaa.Walks
