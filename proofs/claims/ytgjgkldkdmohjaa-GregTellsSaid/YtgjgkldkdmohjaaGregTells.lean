/- Any year's kind, how many days any month has, any date's day, which one stands ahead, and the date of any day, are the document's: the walk of the law; every input. -/
import Derived.Test.YtgjgkldkdmohjaaAwake11
set_option linter.unusedVariables false
set_option linter.unusedSimpArgs false
namespace Go.Proofs.Ytgjgkldkdmohjaa.Walks
open Go Go.RowKit Go.Sort Go.Proofs.Ytgjgkldkdmohjaa.Base Go.Proofs.Ytgjgkldkdmohjaa.Plain Go.Proofs.Ytgjgkldkdmohjaa.Math

theorem gdays_c (y m : Int) (w : World) : Calls Try.prog 10 #[.int .i64 y, .int .i64 m] w fun e w' => e = .returned (.int .i64 (gmd (gl y) m)) ∧ Gr w w' := (gdays_s y m w).mono fun _ _ ⟨h, e⟩ => ⟨h, by rw [e]; exact Gr.refl _⟩
theorem gleap_c (y : Int) (w : World) : Calls Try.prog 14 #[.int .i64 y] w fun e w' => e = .returned (.bool (gl y)) ∧ Gr w w' := (gleap_s y w).mono fun _ _ ⟨h, e⟩ => ⟨h, by rw [e]; exact Gr.refl _⟩

set_option maxHeartbeats 4000000 in
theorem gregTells_w (y m d y2 m2 d2 n : Int) (w : World) (w0 : (Lit.int .i64 y).wf = true) (w1 : (Lit.int .i64 m).wf = true) (w2 : (Lit.int .i64 d).wf = true) (w3 : (Lit.int .i64 y2).wf = true) (w4 : (Lit.int .i64 m2).wf = true) (w5 : (Lit.int .i64 d2).wf = true) (w6 : (Lit.int .i64 n).wf = true) :
    Calls Try.prog 5 #[.agg #[.int .i64 y, .int .i64 m, .int .i64 d], .agg #[.int .i64 y2, .int .i64 m2, .int .i64 d2], .int .i64 n] w fun e w' => e = .returned (.bool true) ∧ Gr w w' := by
  clear w0 w1 w2 w3 w4 w5 w6
  obtain ⟨Y, M, D, E, c1, c2⟩ := gdate_both n
  have C1 := Lib.hid c1
  have C2 := Lib.hid c2
  clear c1 c2
  go_enter Try.func5, Try.ntmps5
  go_wp2_with (first | (go_at_call 11; (with_reducible refine (gto_c y m d _).mono ?_); rintro e wA ⟨rfl, hgwA⟩; obtain ⟨hclwA, hfzwA, hszwA⟩ := gcell hgwA; (try simp [Nat.add_one_le_iff] at hszwA)) | (go_at_call 12; (with_reducible refine (rgto_c y m d _).mono ?_); rintro e wB ⟨rfl, hgwB⟩) | (go_at_call 7; (with_reducible refine (C1.out _).mono ?_); rintro e wC ⟨rfl, hgwC⟩) | (go_at_call 13; (with_reducible refine (C2.out _).mono ?_); rintro e wD ⟨rfl, hgwD⟩))
  have hA : w.heap.size + 1 < wA.heap.size := by omega
  have hA0 : w.heap.size < wA.heap.size := by omega
  clear hclwA hfzwA hszwA
  obtain ⟨W5, hW5⟩ : ∃ W5, W5 = wD.alloc (.cells #[.int .i64 Y, .int .i64 M, .int .i64 D] 23) := ⟨_, rfl⟩
  rw [← hW5]
  have G1 : Gr wA W5 := by rw [hW5]; exact (by repeat (first | exact Gr.refl _ | refine Gr.setCell ?_ _ _ (by first | exact Nat.le_refl _ | (simp; omega) | (simp; done)) | refine Gr.grown ?_ _ _ | refine Gr.drewN ?_ _ | refine Gr.drew ?_ | refine Gr.alloc ?_ _ | refine Gr.grow ?_ _ | (refine Gr.trans ?_ (by assumption))))
  have G2 : Gr (wC.alloc (.cells #[.int .i64 Y, .int .i64 M, .int .i64 D] 23)) W5 := by rw [hW5]; exact (by repeat (first | exact Gr.refl _ | refine Gr.setCell ?_ _ _ (by first | exact Nat.le_refl _ | (simp; omega) | (simp; done)) | refine Gr.grown ?_ _ _ | refine Gr.drewN ?_ _ | refine Gr.drew ?_ | refine Gr.alloc ?_ _ | refine Gr.grow ?_ _ | (refine Gr.trans ?_ (by assumption))))
  have l2 : wC.heap.size < (wC.alloc (.cells #[.int .i64 Y, .int .i64 M, .int .i64 D] 23)).heap.size := by simp
  have l3 : wD.heap.size < W5.heap.size := by rw [hW5]; simp
  have a0 := gcell_in (G1.lt hA0) (G1.keep hA0 (hgwA.keep (b := w.heap.size) (o := 0) (v := .int .i64 y) (by simp; omega) (by simp [go_sem])))
  have a1 := gcell_in (G1.lt hA0) (G1.keep hA0 (hgwA.keep (b := w.heap.size) (o := 1) (v := .int .i64 m) (by simp; omega) (by simp [go_sem])))
  have a2 := gcell_in (G1.lt hA0) (G1.keep hA0 (hgwA.keep (b := w.heap.size) (o := 2) (v := .int .i64 d) (by simp; omega) (by simp [go_sem])))
  have b0 := gcell_in (G1.lt hA) (G1.keep hA (hgwA.keep (b := w.heap.size + 1) (o := 0) (v := .int .i64 y2) (by simp) (by simp [go_sem])))
  have b1 := gcell_in (G1.lt hA) (G1.keep hA (hgwA.keep (b := w.heap.size + 1) (o := 1) (v := .int .i64 m2) (by simp) (by simp [go_sem])))
  have b2 := gcell_in (G1.lt hA) (G1.keep hA (hgwA.keep (b := w.heap.size + 1) (o := 2) (v := .int .i64 d2) (by simp) (by simp [go_sem])))
  have d0 := gcell_in (G2.lt l2) (G2.keep l2 (b := wC.heap.size) (o := 0) (v := .int .i64 Y) (by simp [go_sem]))
  have d1 := gcell_in (G2.lt l2) (G2.keep l2 (b := wC.heap.size) (o := 1) (v := .int .i64 M) (by simp [go_sem]))
  have d2 := gcell_in (G2.lt l2) (G2.keep l2 (b := wC.heap.size) (o := 2) (v := .int .i64 D) (by simp [go_sem]))
  have e0 := gcell_in (b := wD.heap.size) (o := 0) (v := .int .i64 Y) l3 (by rw [hW5]; simp [go_sem])
  have e1 := gcell_in (b := wD.heap.size) (o := 1) (v := .int .i64 M) l3 (by rw [hW5]; simp [go_sem])
  have e2 := gcell_in (b := wD.heap.size) (o := 2) (v := .int .i64 D) l3 (by rw [hW5]; simp [go_sem])
  have GW : Gr w W5 := by rw [hW5]; exact (by repeat (first | exact Gr.refl _ | refine Gr.setCell ?_ _ _ (by first | exact Nat.le_refl _ | (simp; omega) | (simp; done)) | refine Gr.grown ?_ _ _ | refine Gr.drewN ?_ _ | refine Gr.drew ?_ | refine Gr.alloc ?_ _ | refine Gr.grow ?_ _ | (refine Gr.trans ?_ (by assumption))))
  clear hW5 G1 G2 l2 l3 hA hA0 hgwA hgwB hgwC hgwD
  (refine wp_region_quiet_grown mixed (by kernel_rfl) ?_; (repeat (first | go_big_quiet_step ((first | (go_at_call 9; exact gr_of (awake11_c _)) | (go_at_call 14; exact gr_of (gleap_c _ _)) | (go_at_call 15; exact gr_of (rgleap_c _ _)) | (go_at_call 10; exact gr_of (gdays_c _ _ _)) | (go_at_call 16; exact gr_of (rgdays_c _ _ _)) | (go_at_call 17; exact gr_of (gless_c _ _ _ _ _ _ _)) | (go_at_call 18; exact gr_of (rgless_c _ _ _ _ _ _ _)))) | quiet_step ((first | (go_at_call 9; exact gr_of (awake11_c _)) | (go_at_call 14; exact gr_of (gleap_c _ _)) | (go_at_call 15; exact gr_of (rgleap_c _ _)) | (go_at_call 10; exact gr_of (gdays_c _ _ _)) | (go_at_call 16; exact gr_of (rgdays_c _ _ _)) | (go_at_call 17; exact gr_of (gless_c _ _ _ _ _ _ _)) | (go_at_call 18; exact gr_of (rgless_c _ _ _ _ _ _ _)))))); refine wpQuiet_nil ?_; intro _ hw'; obtain ⟨⟨nq, osq⟩, hw''⟩ := hw'; subst hw'')
  go_wp2
  go_ret
  exact ⟨rfl, (by repeat (first | exact Gr.refl _ | refine Gr.setCell ?_ _ _ (by first | exact Nat.le_refl _ | (simp; omega) | (simp; done)) | refine Gr.grown ?_ _ _ | refine Gr.drewN ?_ _ | refine Gr.drew ?_ | refine Gr.alloc ?_ _ | refine Gr.grow ?_ _ | (refine Gr.trans ?_ (by assumption))))⟩

end Go.Proofs.Ytgjgkldkdmohjaa.Walks
