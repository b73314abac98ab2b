/- Four hundred years on the date is the same: the walk of the law; every input. -/
import Derived.Test.YtgjgkldkdmohjaaAwake11
set_option linter.unusedVariables false
set_option linter.unusedSimpArgs false
namespace Go.Proofs.Ytgjgkldkdmohjaa.Walks
open Go Go.RowKit Go.Sort Go.Proofs.Ytgjgkldkdmohjaa.Base Go.Proofs.Ytgjgkldkdmohjaa.Plain Go.Proofs.Ytgjgkldkdmohjaa.Math

theorem gl_400 (y : Int) : gl (y + 400) = gl y := by unfold gl; rw [show (y + 400) % 4 = y % 4 from by omega, show (y + 400) % 100 = y % 100 from by omega, show (y + 400) % 400 = y % 400 from by omega]
theorem gb_400 (y : Int) : gb (y + 400) = gb y + 146097 := by unfold gb; omega
theorem round_date {n Y : Int} {M : Nat} {D : Int} (hY : gyr n = Y) (hok : gok Y M D) (hd : gd Y M D = n) : gyr (n + 146097) = Y + 400 ∧ gok (Y + 400) M D ∧ gd (Y + 400) M D = n + 146097 := by
  have a := gl_400 Y
  have b := gb_400 Y
  obtain ⟨m0, m1, d0, d1⟩ := hok
  have ok : gok (Y + 400) M D := ⟨m0, m1, d0, by rw [a]; exact d1⟩
  have e : gd (Y + 400) M D = n + 146097 := by unfold gd at hd ⊢; rw [a, b]; omega
  have i := gd_in ok
  rw [e] at i
  have hn := gyr_is (n + 146097)
  exact ⟨year_uniq hn.1 hn.2 i.1 i.2, ok, e⟩

set_option maxHeartbeats 4000000 in
theorem round_out (n : Int) (w : World) (h : n < -1373427 ∨ 2278650 < n) : Calls Try.prog 4 #[.int .i64 n] w fun e w' => e = .returned (.bool true) ∧ Gr w w' := by
  have C1 := Lib.hid fun w => gfrom_out n w h
  clear h
  go_enter Try.func4, Try.ntmps4
  go_wp2_with (first | (go_at_call 7; (with_reducible refine (C1.out _).mono ?_); rintro e wA ⟨rfl, hgwA⟩; obtain ⟨hclwA, hfzwA, hszwA⟩ := gcell hgwA; (try simp [Nat.add_one_le_iff] at hszwA)) | (go_at_call 8; (with_reducible refine (rlast_c _).mono ?_); rintro e wB ⟨rfl, hgwB⟩; obtain ⟨hclwB, hfzwB, hszwB⟩ := gcell hgwB; (try simp [Nat.add_one_le_iff] at hszwB); have hlwB_wA : wA.heap.size < wB.heap.size := (by omega)) | (go_at_call 9; (with_reducible refine (awake11_c _).mono ?_); rintro e wD ⟨rfl, hgwD⟩; obtain ⟨hclwD, hfzwD, hszwD⟩ := gcell hgwD; (try simp [Nat.add_one_le_iff] at hszwD); have hlwD_wA : wA.heap.size < wD.heap.size := (by omega)))
  all_goals go_ret
  all_goals exact ⟨rfl, (by repeat (first | exact Gr.refl _ | refine Gr.setCell ?_ _ _ (by first | exact Nat.le_refl _ | (simp; omega) | (simp; done)) | refine Gr.grown ?_ _ _ | refine Gr.drewN ?_ _ | refine Gr.drew ?_ | refine Gr.alloc ?_ _ | refine Gr.grow ?_ _ | (refine Gr.trans ?_ (by assumption))))⟩
set_option maxHeartbeats 4000000 in
theorem round_late (n Y M D : Int) (w : World) (n0 : -1373427 ≤ n) (n1 : n ≤ 2278650) (h : 2278650 < n + 146097) (c1 : ∀ w, Calls Try.prog 7 #[.int .i64 n] w fun e w' => e = .returned (.tuple #[.agg #[.int .i64 Y, .int .i64 M, .int .i64 D], .int .i64 0]) ∧ Gr w w') : Calls Try.prog 4 #[.int .i64 n] w fun e w' => e = .returned (.bool true) ∧ Gr w w' := by
  have C1 := Lib.hid c1
  clear c1
  go_enter Try.func4, Try.ntmps4
  go_wp2_with (first | (go_at_call 7; (with_reducible refine (C1.out _).mono ?_); rintro e wA ⟨rfl, hgwA⟩; obtain ⟨hclwA, hfzwA, hszwA⟩ := gcell hgwA; (try simp [Nat.add_one_le_iff] at hszwA)) | (go_at_call 8; (with_reducible refine (rlast_c _).mono ?_); rintro e wB ⟨rfl, hgwB⟩; obtain ⟨hclwB, hfzwB, hszwB⟩ := gcell hgwB; (try simp [Nat.add_one_le_iff] at hszwB); have hlwB_wA : wA.heap.size < wB.heap.size := (by omega)) | (go_at_call 9; (with_reducible refine (awake11_c _).mono ?_); rintro e wD ⟨rfl, hgwD⟩; obtain ⟨hclwD, hfzwD, hszwD⟩ := gcell hgwD; (try simp [Nat.add_one_le_iff] at hszwD); have hlwD_wA : wA.heap.size < wD.heap.size := (by omega)))
  all_goals go_ret
  all_goals exact ⟨rfl, (by repeat (first | exact Gr.refl _ | refine Gr.setCell ?_ _ _ (by first | exact Nat.le_refl _ | (simp; omega) | (simp; done)) | refine Gr.grown ?_ _ _ | refine Gr.drewN ?_ _ | refine Gr.drew ?_ | refine Gr.alloc ?_ _ | refine Gr.grow ?_ _ | (refine Gr.trans ?_ (by assumption))))⟩
set_option maxHeartbeats 4000000 in
theorem round_in (n Y M D : Int) (w : World) (n0 : -1373427 ≤ n) (h : n + 146097 ≤ 2278650) (y0 : -10000 ≤ Y) (y1 : Y ≤ 10000) (c1 : ∀ w, Calls Try.prog 7 #[.int .i64 n] w fun e w' => e = .returned (.tuple #[.agg #[.int .i64 Y, .int .i64 M, .int .i64 D], .int .i64 0]) ∧ Gr w w')
    (c2 : ∀ w, Calls Try.prog 7 #[.int .i64 (n + 146097)] w fun e w' => e = .returned (.tuple #[.agg #[.int .i64 (Y + 400), .int .i64 M, .int .i64 D], .int .i64 0]) ∧ Gr w w') : Calls Try.prog 4 #[.int .i64 n] w fun e w' => e = .returned (.bool true) ∧ Gr w w' := by
  have C1 := Lib.hid c1
  have C2 := Lib.hid c2
  clear c1 c2
  go_enter Try.func4, Try.ntmps4
  go_wp2_with (first | (go_at_call 7; (with_reducible refine (C1.out _).mono ?_); rintro e wA ⟨rfl, hgwA⟩; obtain ⟨hclwA, hfzwA, hszwA⟩ := gcell hgwA; (try simp [Nat.add_one_le_iff] at hszwA)) | (go_at_call 8; (with_reducible refine (rlast_c _).mono ?_); rintro e wB ⟨rfl, hgwB⟩; obtain ⟨hclwB, hfzwB, hszwB⟩ := gcell hgwB; (try simp [Nat.add_one_le_iff] at hszwB); have hlwB_wA : wA.heap.size < wB.heap.size := (by omega)) | (go_at_call 7; (with_reducible refine (C2.out _).mono ?_); rintro e wC ⟨rfl, hgwC⟩; obtain ⟨hclwC, hfzwC, hszwC⟩ := gcell hgwC; (try simp [Nat.add_one_le_iff] at hszwC); have hlwC_wA : wA.heap.size < wC.heap.size := (by omega)) | (go_at_call 9; (with_reducible refine (awake11_c _).mono ?_); rintro e wD ⟨rfl, hgwD⟩; obtain ⟨hclwD, hfzwD, hszwD⟩ := gcell hgwD; (try simp [Nat.add_one_le_iff] at hszwD); have hlwD_wA : wA.heap.size < wD.heap.size := (by omega); have hlwD_wC : wC.heap.size < wD.heap.size := (by omega)))
  all_goals go_ret
  all_goals exact ⟨rfl, (by repeat (first | exact Gr.refl _ | refine Gr.setCell ?_ _ _ (by first | exact Nat.le_refl _ | (simp; omega) | (simp; done)) | refine Gr.grown ?_ _ _ | refine Gr.drewN ?_ _ | refine Gr.drew ?_ | refine Gr.alloc ?_ _ | refine Gr.grow ?_ _ | (refine Gr.trans ?_ (by assumption))))⟩

theorem gregRound_w (n : Int) (w : World) (w0 : (Lit.int .i64 n).wf = true) : Calls Try.prog 4 #[.int .i64 n] w fun e w' => e = .returned (.bool true) ∧ Gr w w' := by
  by_cases h : n < -1373427 ∨ 2278650 < n
  · exact round_out n w h
  · obtain ⟨m, d, hok, hd⟩ := date_of n
    have c1 : ∀ w, Calls Try.prog 7 #[.int .i64 n] w fun e w' => e = .returned (.tuple #[.agg #[.int .i64 (gyr n), .int .i64 (m : Int), .int .i64 d], .int .i64 0]) ∧ Gr w w' := fun w => gfrom_in n _ m d w (by omega) (by omega) rfl hok hd
    by_cases k : 2278650 < n + 146097
    · exact round_late n _ _ _ w (by omega) (by omega) k c1
    · obtain ⟨q1, q2, q3⟩ := round_date rfl hok hd
      have yr := gyr_is n
      have y0 : -10000 ≤ gyr n ∧ gyr n ≤ 10000 := by unfold gb at yr; omega
      exact round_in n (gyr n) m d w (by omega) (by omega) y0.1 y0.2 c1 fun w => gfrom_in (n + 146097) _ m d w (by omega) (by omega) q1 q2 q3

end Go.Proofs.Ytgjgkldkdmohjaa.Walks
