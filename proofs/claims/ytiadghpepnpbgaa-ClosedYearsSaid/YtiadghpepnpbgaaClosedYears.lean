/- A day is in the year that began last, and the day ahead of a year's first one is one of the year ahead: the walk of the law; every input. -/
import Derived.Test.YtiadghpepnpbgaaAwake6
set_option linter.unusedVariables false
set_option linter.unusedSimpArgs false
namespace Go.Proofs.Ytiadghpepnpbgaa.Walks
open Go Go.RowKit Go.Sort Go.Proofs.Ytiadghpepnpbgaa.Base Go.Proofs.Ytiadghpepnpbgaa.Plain Go.Proofs.Ytiadghpepnpbgaa.Math

theorem rfirst_w (y F : Int) (h0 : 0 ≤ y) (h1 : y ≤ 10001) (h : fy y = F) (w : World) : Calls Try.prog 35 #[.int .i64 y] w fun e w' => e = .returned (.tuple #[.int .i64 F, .int .i64 0]) ∧ Gr w w' := by
  subst h; exact rfirst_in y w h0 h1

set_option maxHeartbeats 1000000 in
theorem years_core (d n Y A B : Int) (w : World) (d0 : 0 ≤ d) (d1 : d ≤ 4294967295) (hn : d % 3652078 - 1373427 = n) (y0 : 1 ≤ Y) (y1 : Y ≤ 9999) (hA : fy Y = A) (hB : fy (Y + 1) = B) (h0 : A ≤ n) (h1 : n < B) :
    Calls Try.prog 13 #[.int .u32 d] w fun e w' => e = .returned (.bool true) ∧ Gr w w' := by
  have HN := Lib.hid hn
  have n0 : -1373427 ≤ n := by omega
  have n1 : n ≤ 2278650 := by omega
  have ra : -1373427 ≤ A ∧ A ≤ 2278650 := by have := fy_mono (a := 1) (b := Y) (by omega) (by omega) (by omega); have := fy_first; omega
  obtain ⟨ra0, ra1⟩ := ra
  have C1 := Lib.hid (fun w => year_c n Y w y0 y1 (by omega) (by omega))
  have CA := Lib.hid (rfirst_w Y A (by omega) (by omega) hA)
  have CB := Lib.hid (rfirst_w (Y + 1) B (by omega) (by omega) hB)
  by_cases c : Y = 1
  · subst c
    have C2 := Lib.hid (fun w => year_out (A - 1) w (Or.inl (by have := fy_first; omega)))
    have CB2 : RowKit.Hid (∀ w, Calls Try.prog 35 #[.int .i64 2] w fun e w' => e = .returned (.tuple #[.int .i64 B, .int .i64 0]) ∧ Gr w w') := Lib.hid (rfirst_w 2 B (by omega) (by omega) hB)
    clear hA hB hn CB
    go_enter Try.func13, Try.ntmps13
    go_wp2_with (go_at_call 42; (with_reducible refine (rlast_c _).mono ?_); rintro e w1 ⟨rfl, hg⟩)
    rw [HN.out]
    go_wp2_with (first | (go_at_call 43; (with_reducible refine (C1.out _).mono ?_); rintro e w1 ⟨rfl, hg⟩) | (go_at_call 35; (with_reducible refine (CA.out _).mono ?_); rintro e w1 ⟨rfl, hg⟩) | (go_at_call 35; (with_reducible refine (CB2.out _).mono ?_); rintro e w1 ⟨rfl, hg⟩) | (go_at_call 43; (with_reducible refine (C2.out _).mono ?_); rintro e w1 ⟨rfl, hg⟩) | (go_at_call 41; (with_reducible refine (awake06_c _).mono ?_); rintro e w1 ⟨rfl, hg⟩))
    go_ret
    exact ⟨rfl, (by repeat (first | exact Gr.refl _ | refine Gr.setCell ?_ _ _ (by first | exact Nat.le_refl _ | (simp; omega) | (simp; done)) | refine Gr.grown ?_ _ _ | refine Gr.drewN ?_ _ | refine Gr.drew ?_ | refine Gr.alloc ?_ _ | refine Gr.grow ?_ _ | (refine Gr.trans ?_ (by assumption))))⟩
  · have cb : (Y == 1) = false := beq_eq_false_iff_ne.2 c
    have st := fy_step (y := Y - 1) (by omega) (by omega)
    rw [show Y - 1 + 1 = Y from by omega] at st
    have C2 := Lib.hid (fun w => year_c (A - 1) (Y - 1) w (by omega) (by omega) (by omega) (by rw [show Y - 1 + 1 = Y from by omega]; omega))
    clear hA hB hn st c
    go_enter Try.func13, Try.ntmps13
    go_wp2_with (go_at_call 42; (with_reducible refine (rlast_c _).mono ?_); rintro e w1 ⟨rfl, hg⟩)
    rw [HN.out]
    go_wp2_with (first | (go_at_call 43; (with_reducible refine (C1.out _).mono ?_); rintro e w1 ⟨rfl, hg⟩) | (go_at_call 35; (with_reducible refine (CA.out _).mono ?_); rintro e w1 ⟨rfl, hg⟩) | (go_at_call 35; (with_reducible refine (CB.out _).mono ?_); rintro e w1 ⟨rfl, hg⟩) | (go_at_call 43; (with_reducible refine (C2.out _).mono ?_); rintro e w1 ⟨rfl, hg⟩) | (go_at_call 41; (with_reducible refine (awake06_c _).mono ?_); rintro e w1 ⟨rfl, hg⟩))
    go_ret
    exact ⟨rfl, (by repeat (first | exact Gr.refl _ | refine Gr.setCell ?_ _ _ (by first | exact Nat.le_refl _ | (simp; omega) | (simp; done)) | refine Gr.grown ?_ _ _ | refine Gr.drewN ?_ _ | refine Gr.drew ?_ | refine Gr.alloc ?_ _ | refine Gr.grow ?_ _ | (refine Gr.trans ?_ (by assumption))))⟩

theorem closedYears_w (d : Int) (w : World) (w0 : (Lit.int .u32 d).wf = true) :
    Calls Try.prog 13 #[.int .u32 d] w fun e w' => e = .returned (.bool true) ∧ Gr w w' := by
  have b := bounds_u32 w0
  obtain ⟨Y, y0, y1, h0, h1⟩ := year_of (n := d % 3652078 - 1373427) (by rw [fy_first]; omega) (by rw [fy_last]; omega)
  exact years_core d _ Y _ _ w b.1 b.2 rfl y0 y1 rfl rfl h0 h1

end Go.Proofs.Ytiadghpepnpbgaa.Walks
