/- Walks of newyear.First and of its reference: a year's first day. -/
import Derived.Test.YtkiopgegdkeojaaGreatDoorNewyear
set_option linter.unusedVariables false
set_option linter.unusedSimpArgs false
namespace Go.Proofs.YtkiopgegdkeojaaGreatDoor.Walks
open Go Go.RowKit Go.Sort Go.Proofs.YtkiopgegdkeojaaGreatDoor.Base Go.Proofs.YtkiopgegdkeojaaGreatDoor.Plain Go.Proofs.YtkiopgegdkeojaaGreatDoor.Math

set_option maxHeartbeats 1000000 in
theorem first_in (y : Int) (w : World) (h0 : 0 ≤ y) (h1 : y ≤ 10001) : Calls Tryz.prog 55 #[.int .i64 y] w fun e w' => e = .returned (.tuple #[.int .i64 (fy y), .int .i64 0]) ∧ Gr w w' := by
  have r := bf_range h0 h1
  have rm := ml_range y
  obtain ⟨D, hD⟩ : ∃ D, moD (bf y) = D := ⟨_, rfl⟩
  obtain ⟨P, hP⟩ : ∃ P, moP (bf y) = P := ⟨_, rfl⟩
  have rd : -7300000 ≤ D ∧ D ≤ 4540000 := by rw [← hD]; exact moD_range (by omega) (by omega)
  have r1 := rd.1
  have r2 := rd.2
  have co : ∀ w, Calls Tryz.prog 86 #[.int .i64 y, .int .i64 1] w fun e w' => e = .returned (.tuple #[.agg #[.int .i64 D, .int .i64 P], .int .i64 0]) ∧ Gr w w' := by
    intro w
    have := of_in y 1 w h0 h1 (by omega) (by omega)
    rwa [show bf y + 1 - 1 = bf y from by omega, hD, hP] at this
  have CO := Lib.hid co
  have E : RowKit.Hid (D + dly D P (lp y) (lpN (y - 1)) = fy y) := Lib.hid (by
    unfold fy
    rw [hD, hP]
    by_cases g : y = 0
    · subst g; rw [lpN_out (by omega)]; rfl
    · rw [lpN_in (by omega) (by omega)])
  have dr := dly_range D P (lp y) (lpN (y - 1))
  have dr1 := dr.1
  have dr2 := dr.2
  clear hD hP rd co dr r rm
  go_enter Tryz.func55, Tryz.ntmps55
  go_wp2_with (first | (go_at_call 86; (with_reducible refine (CO.out _).mono ?_); rintro e wA ⟨rfl, hgwA⟩) | (go_at_call 87; (with_reducible refine (leap_in y _ h0 h1).mono ?_); rintro e wB ⟨rfl, hgwB⟩) | (go_at_call 87; (with_reducible refine (leap_c (y - 1) _).mono ?_); rintro e wC ⟨rfl, hgwC⟩))
  have hb1 : wA.heap.size < wB.heap.size := by have := hgwB.size; simp at this; omega
  have hb2 : wA.heap.size < wC.heap.size := hgwC.lt hb1
  have k0 := gcell_in hb2 (hgwC.keep hb1 (hgwB.keep (o := 0) (v := .int .i64 D) (by simp) (by simp [go_sem])))
  have k1 := gcell_in hb2 (hgwC.keep hb1 (hgwB.keep (o := 1) (v := .int .i64 P) (by simp) (by simp [go_sem])))
  (refine wp_region_quiet_grown mixed (by kernel_rfl) ?_; (repeat (first | go_big_quiet_step ((first | (go_at_call 88; exact gr_of (delay_c _ _ _ _ _ (by omega) (by omega))))) | quiet_step ((first | (go_at_call 88; exact gr_of (delay_c _ _ _ _ _ (by omega) (by omega))))))); refine wpQuiet_nil ?_; intro _ hw'; obtain ⟨⟨nq, osq⟩, hw''⟩ := hw'; subst hw'')
  go_wp2
  go_ret2
  exact ⟨ret2 E.out rfl, (by repeat (first | exact Gr.refl _ | refine Gr.setCell ?_ _ _ (by first | exact Nat.le_refl _ | (simp; omega) | (simp; done)) | refine Gr.grown ?_ _ _ | refine Gr.drewN ?_ _ | refine Gr.drew ?_ | refine Gr.alloc ?_ _ | refine Gr.grow ?_ _ | (refine Gr.trans ?_ (by assumption))))⟩

theorem first_out (y : Int) (w : World) (h : y < 0 ∨ 10001 < y) : Calls Tryz.prog 55 #[.int .i64 y] w fun e w' => e = .returned (.tuple #[.int .i64 0, .int .i64 2]) ∧ Gr w w' := by
  have H := Lib.hid h
  clear h
  go_enter Tryz.func55, Tryz.ntmps55
  go_wp2_with (first | (go_at_call 86; (with_reducible refine (of_y y 1 _ H.out).mono ?_); rintro e wA ⟨rfl, hgwA⟩))
  go_ret2
  exact ⟨rfl, (by repeat (first | exact Gr.refl _ | refine Gr.setCell ?_ _ _ (by first | exact Nat.le_refl _ | (simp; omega) | (simp; done)) | refine Gr.grown ?_ _ _ | refine Gr.drewN ?_ _ | refine Gr.drew ?_ | refine Gr.alloc ?_ _ | refine Gr.grow ?_ _ | (refine Gr.trans ?_ (by assumption))))⟩
theorem first_c (y : Int) (w : World) : Calls Tryz.prog 55 #[.int .i64 y] w fun e w' => e = .returned (.tuple #[.int .i64 (fyN y), .int .i64 (yE y)]) ∧ Gr w w' := by
  by_cases h : 0 ≤ y ∧ y ≤ 10001
  · rw [fyN_in h.1 h.2, yE_in h.1 h.2]; exact first_in y w h.1 h.2
  · rw [fyN_out (by omega), yE_out (by omega)]; exact first_out y w (by omega)
set_option maxHeartbeats 1000000 in
theorem rfirst_in (y : Int) (w : World) (h0 : 0 ≤ y) (h1 : y ≤ 10001) : Calls Tryz.prog 38 #[.int .i64 y] w fun e w' => e = .returned (.tuple #[.int .i64 (fy y), .int .i64 0]) ∧ Gr w w' := by
  have r := bf_range h0 h1
  have rm := ml_range y
  obtain ⟨D, hD⟩ : ∃ D, moD (bf y) = D := ⟨_, rfl⟩
  obtain ⟨P, hP⟩ : ∃ P, moP (bf y) = P := ⟨_, rfl⟩
  have rd : -7300000 ≤ D ∧ D ≤ 4540000 := by rw [← hD]; exact moD_range (by omega) (by omega)
  have r1 := rd.1
  have r2 := rd.2
  have co : ∀ w, Calls Tryz.prog 65 #[.int .i64 y, .int .i64 1] w fun e w' => e = .returned (.tuple #[.agg #[.int .i64 D, .int .i64 P], .int .i64 0]) ∧ Gr w w' := by
    intro w
    have := rof_in y 1 w h0 h1 (by omega) (by omega)
    rwa [show bf y + 1 - 1 = bf y from by omega, hD, hP] at this
  have CO := Lib.hid co
  have E : RowKit.Hid (D + dly D P (lp y) (lp (y - 1)) = fy y) := Lib.hid (by unfold fy; rw [hD, hP])
  have dr := dly_range D P (lp y) (lp (y - 1))
  have dr1 := dr.1
  have dr2 := dr.2
  clear hD hP rd co dr r rm
  go_enter Tryz.func38, Tryz.ntmps38
  go_wp2_with (first | (go_at_call 65; (with_reducible refine (CO.out _).mono ?_); rintro e wA ⟨rfl, hgwA⟩))
  have k0 := gcell_in (w := wA.alloc (.cells #[.int .i64 D, .int .i64 P] 86)) (b := wA.heap.size) (o := 0) (v := .int .i64 D) (by simp) (by simp [go_sem])
  have k1 := gcell_in (w := wA.alloc (.cells #[.int .i64 D, .int .i64 P] 86)) (b := wA.heap.size) (o := 1) (v := .int .i64 P) (by simp) (by simp [go_sem])
  (refine wp_region_quiet_grown mixed (by kernel_rfl) ?_; (repeat (first | go_big_quiet_step ((first | (go_at_call 49; exact gr_of (ris_c _ _ (by omega) (by omega))) | (go_at_call 66; exact gr_of (rdelay_c _ _ _ _ _ (by omega) (by omega))))) | quiet_step ((first | (go_at_call 49; exact gr_of (ris_c _ _ (by omega) (by omega))) | (go_at_call 66; exact gr_of (rdelay_c _ _ _ _ _ (by omega) (by omega))))))); refine wpQuiet_nil ?_; intro _ hw'; obtain ⟨⟨nq, osq⟩, hw''⟩ := hw'; subst hw'')
  go_wp2
  go_ret2
  exact ⟨ret2 E.out rfl, (by repeat (first | exact Gr.refl _ | refine Gr.setCell ?_ _ _ (by first | exact Nat.le_refl _ | (simp; omega) | (simp; done)) | refine Gr.grown ?_ _ _ | refine Gr.drewN ?_ _ | refine Gr.drew ?_ | refine Gr.alloc ?_ _ | refine Gr.grow ?_ _ | (refine Gr.trans ?_ (by assumption))))⟩
theorem rfirst_out (y : Int) (w : World) (h : y < 0 ∨ 10001 < y) : Calls Tryz.prog 38 #[.int .i64 y] w fun e w' => e = .returned (.tuple #[.int .i64 0, .int .i64 2]) ∧ Gr w w' := by
  have H := Lib.hid h
  clear h
  go_enter Tryz.func38, Tryz.ntmps38
  go_wp2_with (first | (go_at_call 65; (with_reducible refine (rof_y y 1 _ H.out).mono ?_); rintro e wA ⟨rfl, hgwA⟩))
  go_ret2
  exact ⟨rfl, (by repeat (first | exact Gr.refl _ | refine Gr.setCell ?_ _ _ (by first | exact Nat.le_refl _ | (simp; omega) | (simp; done)) | refine Gr.grown ?_ _ _ | refine Gr.drewN ?_ _ | refine Gr.drew ?_ | refine Gr.alloc ?_ _ | refine Gr.grow ?_ _ | (refine Gr.trans ?_ (by assumption))))⟩
theorem rfirst_c (y : Int) (w : World) : Calls Tryz.prog 38 #[.int .i64 y] w fun e w' => e = .returned (.tuple #[.int .i64 (fyN y), .int .i64 (yE y)]) ∧ Gr w w' := by
  by_cases h : 0 ≤ y ∧ y ≤ 10001
  · rw [fyN_in h.1 h.2, yE_in h.1 h.2]; exact rfirst_in y w h.1 h.2
  · rw [fyN_out (by omega), yE_out (by omega)]; exact rfirst_out y w (by omega)

end Go.Proofs.YtkiopgegdkeojaaGreatDoor.Walks
