/- Walks of the reference of layer 1: what its functions answer, for whole numbers of 64 bits. -/
import Derived.Test.YtkiopgegdkeojaaGreatDoorBase
set_option linter.unusedVariables false
set_option linter.unusedSimpArgs false
namespace Go.Proofs.YtkiopgegdkeojaaGreatDoor.Walks
open Go Go.RowKit Go.Sort Go.Proofs.YtkiopgegdkeojaaGreatDoor.Base Go.Proofs.YtkiopgegdkeojaaGreatDoor.Plain

/-- A quotient, rounded down. -/
theorem rdown_c (a b : Int) (w : World) (hb : 0 < b) (h0 : -9223372036854775808 ≤ a) (h1 : a ≤ 9223372036854775807) (hb1 : b ≤ 9223372036854775807) :
    Calls Tryz.prog 106 #[.int .i64 a, .int .i64 b] w fun e w' => e = .returned (.int .i64 (a / b)) ∧ Gr w w' := by
  have f := floor_both a b hb
  have m2 := ediv_range a b hb h0 h1
  have m3 := tdiv_range a b hb h0 h1
  have z : (b == 0) = false := beq_eq_false_iff_ne.2 (by omega)
  by_cases h : Int.tmod a b < 0
  · rw [if_pos h, if_pos h] at f
    have E1 : RowKit.Hid (wrap64 (Int.tdiv a b - 1) = a / b) := Lib.hid (by rw [f.1, w64 m2.1 m2.2])
    have hd : decide (Int.tmod a b < 0) = true := decide_eq_true h
    clear f m2 m3 h
    go_enter Tryz.func106, Tryz.ntmps106
    go_wp2
    go_ret
    exact ⟨ret1 E1.out, (by repeat (first | exact Gr.refl _ | refine Gr.setCell ?_ _ _ (by first | exact Nat.le_refl _ | (simp; omega) | (simp; done)) | refine Gr.grown ?_ _ _ | refine Gr.drewN ?_ _ | refine Gr.drew ?_ | refine Gr.alloc ?_ _ | refine Gr.grow ?_ _ | (refine Gr.trans ?_ (by assumption))))⟩
  · rw [if_neg h, if_neg h] at f
    have E1 : RowKit.Hid (Int.tdiv a b = a / b) := Lib.hid f.1
    have hd : decide (Int.tmod a b < 0) = false := decide_eq_false h
    clear f m2 m3 h
    go_enter Tryz.func106, Tryz.ntmps106
    go_wp2
    go_ret
    exact ⟨ret1 E1.out, (by repeat (first | exact Gr.refl _ | refine Gr.setCell ?_ _ _ (by first | exact Nat.le_refl _ | (simp; omega) | (simp; done)) | refine Gr.grown ?_ _ _ | refine Gr.drewN ?_ _ | refine Gr.drew ?_ | refine Gr.alloc ?_ _ | refine Gr.grow ?_ _ | (refine Gr.trans ?_ (by assumption))))⟩

theorem rleft_c (a b : Int) (w : World) (hb : 0 < b) (h0 : -9223372036854775808 ≤ a) (h1 : a ≤ 9223372036854775807) (hb1 : b ≤ 9223372036854775807) :
    Calls Tryz.prog 82 #[.int .i64 a, .int .i64 b] w fun e w' => e = .returned (.int .i64 (a % b)) ∧ Gr w w' := by
  have f := floor_both a b hb
  have m0 := Int.emod_nonneg a (b := b) (by omega)
  have m1 := Int.emod_lt_of_pos a hb
  have z : (b == 0) = false := beq_eq_false_iff_ne.2 (by omega)
  by_cases h : Int.tmod a b < 0
  · rw [if_pos h, if_pos h] at f
    have E1 : RowKit.Hid (wrap64 (Int.tmod a b + b) = a % b) := Lib.hid (by rw [f.2, w64 (by omega) (by omega)])
    have hd : decide (Int.tmod a b < 0) = true := decide_eq_true h
    clear f m0 m1 h
    go_enter Tryz.func82, Tryz.ntmps82
    go_wp2
    go_ret
    exact ⟨ret1 E1.out, (by repeat (first | exact Gr.refl _ | refine Gr.setCell ?_ _ _ (by first | exact Nat.le_refl _ | (simp; omega) | (simp; done)) | refine Gr.grown ?_ _ _ | refine Gr.drewN ?_ _ | refine Gr.drew ?_ | refine Gr.alloc ?_ _ | refine Gr.grow ?_ _ | (refine Gr.trans ?_ (by assumption))))⟩
  · rw [if_neg h, if_neg h] at f
    have E1 : RowKit.Hid (Int.tmod a b = a % b) := Lib.hid f.2
    have hd : decide (Int.tmod a b < 0) = false := decide_eq_false h
    clear f m0 m1 h
    go_enter Tryz.func82, Tryz.ntmps82
    go_wp2
    go_ret
    exact ⟨ret1 E1.out, (by repeat (first | exact Gr.refl _ | refine Gr.setCell ?_ _ _ (by first | exact Nat.le_refl _ | (simp; omega) | (simp; done)) | refine Gr.grown ?_ _ _ | refine Gr.drewN ?_ _ | refine Gr.drew ?_ | refine Gr.alloc ?_ _ | refine Gr.grow ?_ _ | (refine Gr.trans ?_ (by assumption))))⟩





end Go.Proofs.YtkiopgegdkeojaaGreatDoor.Walks
