/- The document's example of adding a duration. -/
import Derived.Test.YtkiopgegdkeojaaGreatDoorAddTo2
set_option linter.unusedVariables false
set_option linter.unusedSimpArgs false
namespace Go.Proofs.YtkiopgegdkeojaaGreatDoor.Walks
open Go Go.RowKit Go.Sort Go.Proofs.YtkiopgegdkeojaaGreatDoor.Base Go.Proofs.YtkiopgegdkeojaaGreatDoor.Plain Go.Proofs.YtkiopgegdkeojaaGreatDoor.Math

/-- A date may be, or it may not, for one of three reasons. -/
theorem adate_cases (y n : Int) (c : Bool) (d : Int) : (∃ j, n = cN (lp y) j ∧ c = cL (lp y) j ∧ HV y j d) ∨ (y < 1 ∨ 9999 < y) ∨ (1 ≤ y ∧ y ≤ 9999 ∧ cHas (lp y) n c = false) ∨
    (1 ≤ y ∧ y ≤ 9999 ∧ ∃ j, j < mct (lp y) ∧ n = cN (lp y) j ∧ c = cL (lp y) j ∧ (d < 1 ∨ mlen (kk y) (lp y) j < d)) := by
  by_cases h : y < 1 ∨ 9999 < y
  · exact .inr (.inl h)
  · cases hc : cHas (lp y) n c
    · exact .inr (.inr (.inl ⟨by omega, by omega, rfl⟩))
    · obtain ⟨j, hj, e1, e2⟩ := code_in hc
      by_cases g : d < 1 ∨ mlen (kk y) (lp y) j < d
      · exact .inr (.inr (.inr ⟨by omega, by omega, j, hj, e1, e2, g⟩))
      · exact .inl ⟨j, e1, e2, by omega, by omega, hj, by omega, by omega⟩
/-- A date that may not be: all tell the same error. -/
theorem adate_bad (y n : Int) (c : Bool) (d : Int) (h : ¬ ∃ j, n = cN (lp y) j ∧ c = cL (lp y) j ∧ HV y j d) : ∃ E : Int, 2 ≤ E ∧ E ≤ 4 ∧
    (∀ w, GT w → Calls Tryz.prog 18 #[.agg #[.int .i64 y, .int .i64 n, .bool c, .int .i64 d]] w fun e w' => e = .returned (.int .i64 E) ∧ Gr w w') ∧
    (∀ w, Calls Tryz.prog 23 #[.agg #[.int .i64 y, .int .i64 n, .bool c, .int .i64 d]] w fun e w' => e = .returned (.int .i64 E) ∧ Gr w w') := by
  rcases adate_cases y n c d with g | g | ⟨h0, h1, g⟩ | ⟨h0, h1, j, hj, rfl, rfl, g⟩
  · exact absurd g h
  · exact ⟨2, by decide, by decide, fun w G => hcheck_of _ _ _ _ _ _ _ _ _ w fun W hW => look_e _ _ _ _ _ W (by decide) fun w => find_y y n c w g, fun w => r10check_e _ _ _ _ _ w (by decide) fun w => r10last_y y n c w g⟩
  · exact ⟨3, by decide, by decide, fun w G => hcheck_of _ _ _ _ _ _ _ _ _ w fun W hW => look_e _ _ _ _ _ W (by decide) fun w => find_m y n c w h0 h1 g, fun w => r10check_e _ _ _ _ _ w (by decide) fun w => r10last_m y n c w h0 h1 g⟩
  · exact ⟨4, by decide, by decide, fun w G => hcheck_of _ _ _ _ _ _ _ _ _ w fun W hW => look_d y j d W (G.gr hW) h0 h1 hj g, fun w => r10check_d y j d w h0 h1 hj g⟩
theorem hv16 : HV 5784 5 30 ∧ cN (lp 5784) 5 = 5 ∧ cL (lp 5784) 5 = true := by
  have l0 : lp 5784 = true := by decide +kernel
  exact ⟨⟨by decide, by decide, by rw [l0]; decide, by decide, by rw [l0]; simp [mlen]⟩, by rw [l0]; decide, by rw [l0]; decide⟩
theorem tok16a : ToK 5784 5 30 1 0 0 0 0 0 5785 6 false 29 := by
  have l0 : lp 5784 = true := by decide +kernel
  have l1 : lp 5785 = false := by decide +kernel
  have m1 : mlen (kk 5785) false 5 = 29 := by simp [mlen]
  have h1 : In1 5784 5 0 (5784 + 1) 5 := ⟨by decide, by decide, by decide +kernel, by decide +kernel, by decide +kernel, by decide +kernel⟩
  have h2 : Mo (5784 + 1) 5 0 5785 5 := ⟨by decide, by decide, by decide +kernel, by decide +kernel⟩
  have h3 : Ft 5785 5 30 0 29 := ⟨.inr ⟨by rw [l1, m1]; decide, rfl, by rw [l1, m1]⟩⟩
  have hv : HV 5785 5 29 := ⟨by decide, by decide, by decide +kernel, by decide, by rw [l1, m1]; decide⟩
  have e0 : cN (lp 5785) 5 = 6 := by rw [l1]; decide
  have e1 : cL (lp 5785) 5 = false := by rw [l1]; decide
  have := ToK.ok (y := 5784) (j := 5) (d := 30) (sy := 1) (sm := 0) (sw := 0) (sd := 0) (m := 0) 5 5785 5 29 5785 5 29 h1 h2 h3 hv (by omega)
  rwa [e0, e1] at this
theorem tok16b : ToK 5784 5 30 1 0 0 0 1 7 0 0 false 0 := .into 7 (by decide +kernel) (by decide)
set_option maxRecDepth 20000 in
set_option maxHeartbeats 4000000 in
theorem awake16_c (w : World) (G : GT w) : Calls Tryz.prog 9 #[] w fun e w' => e = .returned (.bool true) ∧ Gr w w' := by
  obtain ⟨h, f1, f2⟩ := hv16
  have C1 : RowKit.Hid (∀ W, Gr w W → Calls Tryz.prog 7 #[.agg #[.int .i64 5784, .int .i64 5, .bool true, .int .i64 30], .agg #[.int .i64 1, .int .i64 0, .int .i64 0, .int .i64 0], .int .i64 0] W fun e w' => e = .returned (.tuple #[.agg #[.int .i64 5785, .int .i64 6, .bool false, .int .i64 29], .int .i64 0]) ∧ Gr W w') := Lib.hid fun W hW => by
    have := to_c h (by decide) (.inl rfl) tok16a W (G.gr hW)
    rwa [f1, f2] at this
  have C2 : RowKit.Hid (∀ W, Gr w W → Calls Tryz.prog 7 #[.agg #[.int .i64 5784, .int .i64 5, .bool true, .int .i64 30], .agg #[.int .i64 1, .int .i64 0, .int .i64 0, .int .i64 0], .int .i64 1] W fun e w' => e = .returned (.tuple #[.agg #[.int .i64 0, .int .i64 0, .bool false, .int .i64 0], .int .i64 7]) ∧ Gr W w') := Lib.hid fun W hW => by
    have := to_c h (by decide) (.inr rfl) tok16b W (G.gr hW)
    rwa [f1, f2] at this
  clear G h f1 f2
  go_enter Tryz.func9, Tryz.ntmps9
  go_wp2_with (first | (go_at_call 7; (with_reducible refine (C1.out _ ((by repeat (first | exact Gr.refl _ | refine Gr.setCell ?_ _ _ (by first | exact Nat.le_refl _ | (simp; omega) | (simp; done)) | refine Gr.grown ?_ _ _ | refine Gr.drewN ?_ _ | refine Gr.drew ?_ | refine Gr.alloc ?_ _ | refine Gr.grow ?_ _ | (refine Gr.trans ?_ (by assumption)))))).mono ?_); rintro e wA ⟨rfl, hgwA⟩; obtain ⟨hclwA, hfzwA, hszwA⟩ := gcell hgwA; (try simp [Nat.add_one_le_iff] at hszwA); have hlwA_w : w.heap.size < wA.heap.size := (by omega)) | (go_at_call 7; (with_reducible refine (C2.out _ ((by repeat (first | exact Gr.refl _ | refine Gr.setCell ?_ _ _ (by first | exact Nat.le_refl _ | (simp; omega) | (simp; done)) | refine Gr.grown ?_ _ _ | refine Gr.drewN ?_ _ | refine Gr.drew ?_ | refine Gr.alloc ?_ _ | refine Gr.grow ?_ _ | (refine Gr.trans ?_ (by assumption)))))).mono ?_); rintro e wB ⟨rfl, hgwB⟩; obtain ⟨hclwB, hfzwB, hszwB⟩ := gcell hgwB; (try simp [Nat.add_one_le_iff] at hszwB); have hlwB_w : w.heap.size < wB.heap.size := (by omega); have hlwB_wA : wA.heap.size < wB.heap.size := (by omega)))
  go_ret
  exact ⟨rfl, (by repeat (first | exact Gr.refl _ | refine Gr.setCell ?_ _ _ (by first | exact Nat.le_refl _ | (simp; omega) | (simp; done)) | refine Gr.grown ?_ _ _ | refine Gr.drewN ?_ _ | refine Gr.drew ?_ | refine Gr.alloc ?_ _ | refine Gr.grow ?_ _ | (refine Gr.trans ?_ (by assumption))))⟩
/-- What add.To tells of every date. -/
theorem to_date_c (y n d p q r s m : Int) (c : Bool) (hR : spR p q r s = true) (hm : m = 0 ∨ m = 1) (h : ¬ ∃ j, n = cN (lp y) j ∧ c = cL (lp y) j ∧ HV y j d) : ∃ E : Int, 2 ≤ E ∧ E ≤ 4 ∧
    (∀ w, GT w → Calls Tryz.prog 7 #[.agg #[.int .i64 y, .int .i64 n, .bool c, .int .i64 d], .agg #[.int .i64 p, .int .i64 q, .int .i64 r, .int .i64 s], .int .i64 m] w fun e w' => e = .returned (.tuple #[.agg #[.int .i64 0, .int .i64 0, .bool false, .int .i64 0], .int .i64 E]) ∧ Gr w w') ∧
    (∀ w, Calls Tryz.prog 23 #[.agg #[.int .i64 y, .int .i64 n, .bool c, .int .i64 d]] w fun e w' => e = .returned (.int .i64 E) ∧ Gr w w') := by
  obtain ⟨E, e0, e1, c1, c2⟩ := adate_bad y n c d h
  exact ⟨E, e0, e1, fun w G => to_date y n d p q r s m E c w hR hm (by omega) fun W hW => c1 W (G.gr hW), c2⟩

end Go.Proofs.YtkiopgegdkeojaaGreatDoor.Walks
