/- Walks of the reference of layer 6: years of days, by halves. -/
import Derived.Test.YtkiopgegdkeojaaGreatDoorYear
set_option linter.unusedVariables false
set_option linter.unusedSimpArgs false
namespace Go.Proofs.YtkiopgegdkeojaaGreatDoor.Walks
open Go Go.RowKit Go.Sort Go.Proofs.YtkiopgegdkeojaaGreatDoor.Base Go.Proofs.YtkiopgegdkeojaaGreatDoor.Plain Go.Proofs.YtkiopgegdkeojaaGreatDoor.Math

theorem rlast_c (w : World) : Calls Tryz.prog 84 #[] w fun e w' => e = .returned (.int .i64 2278650) ∧ Gr w w' := by
  have E : RowKit.Hid (fyN 10000 = 2278651) := Lib.hid (by rw [fyN_in (by omega) (by omega)]; have := lastD_is; unfold lastD at this; omega)
  go_enter Tryz.func84, Tryz.ntmps84
  go_wp2_with (go_at_call 38; (with_reducible refine (rfirst_c 10000 _).mono ?_); rintro e w1 ⟨rfl, hg⟩; rw [E.out])
  go_ret
  exact ⟨rfl, (by repeat (first | exact Gr.refl _ | refine Gr.setCell ?_ _ _ (by first | exact Nat.le_refl _ | (simp; omega) | (simp; done)) | refine Gr.grown ?_ _ _ | refine Gr.drewN ?_ _ | refine Gr.drew ?_ | refine Gr.alloc ?_ _ | refine Gr.grow ?_ _ | (refine Gr.trans ?_ (by assumption))))⟩
theorem rfirst_v (y : Int) (w : World) (h0 : 0 ≤ y) (h1 : y ≤ 10001) : Calls Tryz.prog 38 #[.int .i64 y] w fun e w' => e = .returned (.tuple #[.int .i64 (fy y), .int .i64 0]) ∧ Gr w w' := rfirst_in y w h0 h1
theorem year_between {Y m n : Int} (y0 : 1 ≤ Y) (y1 : Y ≤ 9999) (h0 : fy Y ≤ n) (h1 : n < fy (Y + 1)) (m0 : 0 ≤ m) (m1 : m ≤ 10000) : decide (fy m ≤ n) = decide (m ≤ Y) := by
  by_cases c : m ≤ Y
  · have := fy_mono (a := m) (b := Y) (by omega) (by omega) (by omega)
    rw [decide_eq_true c, decide_eq_true (by omega)]
  · have := fy_mono (a := Y + 1) (b := m) (by omega) (by omega) (by omega)
    rw [decide_eq_false c, decide_eq_false (by omega)]
set_option maxHeartbeats 1000000 in
theorem ryear_c (n Y : Int) (w : World) (y0 : 1 ≤ Y) (y1 : Y ≤ 9999) (h0 : fy Y ≤ n) (h1 : n < fy (Y + 1)) :
    Calls Tryz.prog 52 #[.int .i64 n] w fun e w' => e = .returned (.tuple #[.int .i64 Y, .int .i64 0]) ∧ Gr w w' := by
  have n0 : -1373427 ≤ n := by have := fy_mono (a := 1) (b := Y) (by omega) (by omega) (by omega); have := fy_1; omega
  have n1 : n ≤ 2278650 := by have := fy_mono (a := Y + 1) (b := 10000) (by omega) (by omega) (by omega); have := lastD_is; unfold lastD at this; omega
  have H1 := Lib.hid (fun m => year_between (m := m) y0 y1 h0 h1)
  clear h0 h1
  go_enter Tryz.func52, Tryz.ntmps52
  go_wp2_with (go_at_call 84; (with_reducible refine (rlast_c _).mono ?_); rintro e w1 ⟨rfl, hg⟩)
  go_loopg [4, 5] 10000 (fun kx s4 s5 wr => ∃ (lo hi : Int), s4 = .int .i64 lo ∧ s5 = .int .i64 hi ∧ 1 ≤ lo ∧ lo ≤ Y ∧ Y < hi ∧ hi ≤ 10000 ∧ hi - lo ≤ kx ∧ Gr w wr)
  case atStart => exact ⟨1, 10000, rfl, rfl, by omega, by omega, by omega, by omega, by omega, (by repeat (first | exact Gr.refl _ | refine Gr.setCell ?_ _ _ (by first | exact Nat.le_refl _ | (simp; omega) | (simp; done)) | refine Gr.grown ?_ _ _ | refine Gr.drewN ?_ _ | refine Gr.drew ?_ | refine Gr.alloc ?_ _ | refine Gr.grow ?_ _ | (refine Gr.trans ?_ (by assumption))))⟩
  case round =>
    obtain ⟨lo, hi, rfl, rfl, l1, l2, l3, l4, l5, hg0⟩ := hrel
    by_cases hlt : 1 < hi - lo
    · have hm := H1.out ((lo + hi) / 2) (by omega) (by omega)
      by_cases c : (lo + hi) / 2 ≤ Y
      · rw [decide_eq_true c] at hm
        go_wp2_with (go_at_call 38; (with_reducible refine (rfirst_v _ _ (by omega) (by omega)).mono ?_); rintro e w1 ⟨rfl, hg⟩)
        go_roundg (hi - (lo + hi) / 2).toNat
        case measure => omega
        case rel => exact ⟨(lo + hi) / 2, hi, rfl, rfl, by omega, c, l3, l4, by omega, hg0.trans hg⟩
      · rw [decide_eq_false c] at hm
        go_wp2_with (go_at_call 38; (with_reducible refine (rfirst_v _ _ (by omega) (by omega)).mono ?_); rintro e w1 ⟨rfl, hg⟩)
        go_roundg ((lo + hi) / 2 - lo).toNat
        case measure => omega
        case rel => exact ⟨lo, (lo + hi) / 2, rfl, rfl, by omega, l2, by omega, by omega, by omega, hg0.trans hg⟩
    · obtain rfl : lo = Y := by omega
      go_wp2
      go_ret2
      exact ⟨rfl, hg0⟩
theorem ryear_out (n : Int) (w : World) (h : n < -1373427 ∨ 2278650 < n) :
    Calls Tryz.prog 52 #[.int .i64 n] w fun e w' => e = .returned (.tuple #[.int .i64 0, .int .i64 2]) ∧ Gr w w' := by
  by_cases g : n < -1373427
  · clear h
    go_enter Tryz.func52, Tryz.ntmps52
    go_wp2
    go_ret2
    exact ⟨rfl, (by repeat (first | exact Gr.refl _ | refine Gr.setCell ?_ _ _ (by first | exact Nat.le_refl _ | (simp; omega) | (simp; done)) | refine Gr.grown ?_ _ _ | refine Gr.drewN ?_ _ | refine Gr.drew ?_ | refine Gr.alloc ?_ _ | refine Gr.grow ?_ _ | (refine Gr.trans ?_ (by assumption))))⟩
  · have g2 : 2278650 < n := by omega
    clear h
    go_enter Tryz.func52, Tryz.ntmps52
    go_wp2_with (go_at_call 84; (with_reducible refine (rlast_c _).mono ?_); rintro e w1 ⟨rfl, hg⟩)
    go_ret2
    exact ⟨rfl, (by repeat (first | exact Gr.refl _ | refine Gr.setCell ?_ _ _ (by first | exact Nat.le_refl _ | (simp; omega) | (simp; done)) | refine Gr.grown ?_ _ _ | refine Gr.drewN ?_ _ | refine Gr.drew ?_ | refine Gr.alloc ?_ _ | refine Gr.grow ?_ _ | (refine Gr.trans ?_ (by assumption))))⟩
theorem three_up (X : Int) : 3 * (X + 1) = 3 * X + 3 := by omega

end Go.Proofs.YtkiopgegdkeojaaGreatDoor.Walks
