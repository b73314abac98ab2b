/- The fixed example of the laws of layer 11; the date of any day by both ways. -/
import Derived.Test.YtgjgkldkdmohjaaRef11b
set_option linter.unusedVariables false
set_option linter.unusedSimpArgs false
namespace Go.Proofs.Ytgjgkldkdmohjaa.Walks
open Go Go.RowKit Go.Sort Go.Proofs.Ytgjgkldkdmohjaa.Base Go.Proofs.Ytgjgkldkdmohjaa.Plain Go.Proofs.Ytgjgkldkdmohjaa.Math

theorem gdate_both (n : Int) : ∃ Y M D E : Int, (∀ w, Calls Try.prog 7 #[.int .i64 n] w fun e w' => e = .returned (.tuple #[.agg #[.int .i64 Y, .int .i64 M, .int .i64 D], .int .i64 E]) ∧ Gr w w') ∧
    (∀ w, Calls Try.prog 13 #[.int .i64 n] w fun e w' => e = .returned (.tuple #[.agg #[.int .i64 Y, .int .i64 M, .int .i64 D], .int .i64 E]) ∧ Gr w w') := by
  by_cases h : -1373427 ≤ n ∧ n ≤ 2278650
  · obtain ⟨m, d, hok, hd⟩ := date_of n
    exact ⟨gyr n, m, d, 0, fun w => gfrom_in n _ m d w h.1 h.2 rfl hok hd, fun w => rgfrom_in n _ m d w h.1 h.2 rfl hok hd⟩
  · exact ⟨0, 0, 0, 2, fun w => gfrom_out n w (by omega), fun w => rgfrom_out n w (by omega)⟩
set_option maxHeartbeats 1000000 in
theorem awake11_c (w : World) : Calls Try.prog 9 #[] w fun e w' => e = .returned (.bool true) ∧ Gr w w' := by
  have e1 : tE 2024 10 3 = 0 := by decide +kernel
  have e2 : tN 2024 10 3 = 739162 := by decide +kernel
  have e3 : tE 2023 2 29 = 4 := by decide +kernel
  have e4 : tN 2023 2 29 = 0 := by decide +kernel
  have C1 : RowKit.Hid (∀ w, Calls Try.prog 11 #[.agg #[.int .i64 2024, .int .i64 10, .int .i64 3]] w fun e w' => e = .returned (.tuple #[.int .i64 739162, .int .i64 0]) ∧ Gr w w') := Lib.hid fun w => by
    have := gto_c 2024 10 3 w; rwa [e1, e2] at this
  have C2 : RowKit.Hid (∀ w, Calls Try.prog 11 #[.agg #[.int .i64 2023, .int .i64 2, .int .i64 29]] w fun e w' => e = .returned (.tuple #[.int .i64 0, .int .i64 4]) ∧ Gr w w') := Lib.hid fun w => by
    have := gto_c 2023 2 29 w; rwa [e3, e4] at this
  have C3 : RowKit.Hid (∀ w, Calls Try.prog 7 #[.int .i64 739162] w fun e w' => e = .returned (.tuple #[.agg #[.int .i64 2024, .int .i64 10, .int .i64 3], .int .i64 0]) ∧ Gr w w') := Lib.hid fun w =>
    gfrom_in 739162 2024 10 3 w (by omega) (by omega) (by decide +kernel) ⟨by omega, by omega, by omega, by decide +kernel⟩ (by decide +kernel)
  clear e1 e2 e3 e4
  go_enter Try.func9, Try.ntmps9
  go_wp2_with (first | (go_at_call 11; (with_reducible refine (C1.out _).mono ?_); rintro e wA ⟨rfl, hgwA⟩; obtain ⟨hclwA, hfzwA, hszwA⟩ := gcell hgwA; (try simp [Nat.add_one_le_iff] at hszwA)) | (go_at_call 11; (with_reducible refine (C2.out _).mono ?_); rintro e wC ⟨rfl, hgwC⟩; obtain ⟨hclwC, hfzwC, hszwC⟩ := gcell hgwC; (try simp [Nat.add_one_le_iff] at hszwC)) | (go_at_call 7; (with_reducible refine (C3.out _).mono ?_); rintro e wB ⟨rfl, hgwB⟩; obtain ⟨hclwB, hfzwB, hszwB⟩ := gcell hgwB; (try simp [Nat.add_one_le_iff] at hszwB)))
  go_ret
  exact ⟨rfl, (by repeat (first | exact Gr.refl _ | refine Gr.setCell ?_ _ _ (by first | exact Nat.le_refl _ | (simp; omega) | (simp; done)) | refine Gr.grown ?_ _ _ | refine Gr.drewN ?_ _ | refine Gr.drew ?_ | refine Gr.alloc ?_ _ | refine Gr.grow ?_ _ | (refine Gr.trans ?_ (by assumption))))⟩

end Go.Proofs.Ytgjgkldkdmohjaa.Walks
