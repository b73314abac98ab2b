/- Whether any dates may be, stand in order, a date's day, how many days its month has, and the date of any day, are the document's: the walk of the law; every input. -/
import Derived.Test.YtgjgkldkdmohjaaDoorRef10
set_option linter.unusedVariables false
set_option linter.unusedSimpArgs false
namespace Go.Proofs.YtgjgkldkdmohjaaDoor.Walks
open Go Go.RowKit Go.Sort Go.Proofs.YtgjgkldkdmohjaaDoor.Base Go.Proofs.YtgjgkldkdmohjaaDoor.Plain Go.Proofs.YtgjgkldkdmohjaaDoor.Math

/-- A date may be, or it may not, for one of three reasons. -/
theorem date_cases (y n : Int) (c : Bool) (d : Int) : (∃ j, n = cN (lp y) j ∧ c = cL (lp y) j ∧ HV y j d) ∨ (y < 1 ∨ 9999 < y) ∨ (1 ≤ y ∧ y ≤ 9999 ∧ cHas (lp y) n c = false) ∨
    (1 ≤ y ∧ y ≤ 9999 ∧ ∃ j, j < mct (lp y) ∧ n = cN (lp y) j ∧ c = cL (lp y) j ∧ (d < 1 ∨ mlen (kk y) (lp y) j < d)) := by
  by_cases h : y < 1 ∨ 9999 < y
  · exact .inr (.inl h)
  · cases hc : cHas (lp y) n c
    · exact .inr (.inr (.inl ⟨by omega, by omega, rfl⟩))
    · obtain ⟨j, hj, e1, e2⟩ := code_in hc
      by_cases g : d < 1 ∨ mlen (kk y) (lp y) j < d
      · exact .inr (.inr (.inr ⟨by omega, by omega, j, hj, e1, e2, g⟩))
      · exact .inl ⟨j, e1, e2, by omega, by omega, hj, by omega, by omega⟩
/-- A date that may not be: all tell the same error. -/
theorem date_bad (y n : Int) (c : Bool) (d : Int) (h : ¬ ∃ j, n = cN (lp y) j ∧ c = cL (lp y) j ∧ HV y j d) : ∃ E : Int, 2 ≤ E ∧ E ≤ 4 ∧
    (∀ w, GT w → Calls Tryd.prog 78 #[.agg #[.int .i64 y, .int .i64 n, .bool c, .int .i64 d]] w fun e w' => e = .returned (.tuple #[.agg #[.int .i64 0, .int .i64 0, .bool false, .int .i64 0], .int .i64 E]) ∧ Gr w w') ∧
    (∀ w, Calls Tryd.prog 51 #[.agg #[.int .i64 y, .int .i64 n, .bool c, .int .i64 d]] w fun e w' => e = .returned (.int .i64 E) ∧ Gr w w') := by
  rcases date_cases y n c d with g | g | ⟨h0, h1, g⟩ | ⟨h0, h1, j, hj, rfl, rfl, g⟩
  · exact absurd g h
  · exact ⟨2, by decide, by decide, fun w G => look_e _ _ _ _ _ w (by decide) fun w => find_y y n c w g, fun w => r10check_e _ _ _ _ _ w (by decide) fun w => r10last_y y n c w g⟩
  · exact ⟨3, by decide, by decide, fun w G => look_e _ _ _ _ _ w (by decide) fun w => find_m y n c w h0 h1 g, fun w => r10check_e _ _ _ _ _ w (by decide) fun w => r10last_m y n c w h0 h1 g⟩
  · exact ⟨4, by decide, by decide, fun w G => look_d y j d w G h0 h1 hj g, fun w => r10check_d y j d w h0 h1 hj g⟩
theorem hlast_both (y n : Int) (c : Bool) : ∃ L E : Int, (E ≠ 0 → L = 0) ∧
    (∀ w, GT w → Calls Tryd.prog 47 #[.int .i64 y, .agg #[.int .i64 n, .bool c]] w fun e w' => e = .returned (.tuple #[.int .i64 L, .int .i64 E]) ∧ Gr w w') ∧
    (∀ w, Calls Tryd.prog 37 #[.int .i64 y, .agg #[.int .i64 n, .bool c]] w fun e w' => e = .returned (.tuple #[.int .i64 L, .int .i64 E]) ∧ Gr w w') := by
  by_cases h : y < 1 ∨ 9999 < y
  · exact ⟨0, 2, fun _ => rfl, fun w G => hlast_e _ _ _ _ w (by decide) fun w => find_y y n c w h, fun w => r10last_y y n c w h⟩
  · cases hc : cHas (lp y) n c
    · exact ⟨0, 3, fun _ => rfl, fun w G => hlast_e _ _ _ _ w (by decide) fun w => find_m y n c w (by omega) (by omega) hc, fun w => r10last_m y n c w (by omega) (by omega) hc⟩
    · obtain ⟨j, hj, rfl, rfl⟩ := code_in hc
      exact ⟨_, 0, fun z => absurd rfl z, fun w G => hlast_in y j w G (by omega) (by omega) hj, fun w => r10last_in y j w (by omega) (by omega) hj⟩
theorem hdate_both (y n : Int) (c : Bool) (d : Int) : ∃ N E : Int,
    (∀ w, GT w → Calls Tryd.prog 43 #[.agg #[.int .i64 y, .int .i64 n, .bool c, .int .i64 d]] w fun e w' => e = .returned (.tuple #[.int .i64 N, .int .i64 E]) ∧ Gr w w') ∧
    (∀ w, Calls Tryd.prog 49 #[.agg #[.int .i64 y, .int .i64 n, .bool c, .int .i64 d]] w fun e w' => e = .returned (.tuple #[.int .i64 N, .int .i64 E]) ∧ Gr w w') ∧
    (∀ w, GT w → Calls Tryd.prog 44 #[.agg #[.int .i64 y, .int .i64 n, .bool c, .int .i64 d]] w fun e w' => e = .returned (.int .i64 E) ∧ Gr w w') ∧
    (∀ w, Calls Tryd.prog 51 #[.agg #[.int .i64 y, .int .i64 n, .bool c, .int .i64 d]] w fun e w' => e = .returned (.int .i64 E) ∧ Gr w w') := by
  by_cases h : ∃ j, n = cN (lp y) j ∧ c = cL (lp y) j ∧ HV y j d
  · obtain ⟨j, rfl, rfl, h⟩ := h
    exact ⟨_, _, fun w G => htoday_in y j d w G h, fun w => r10today_in y j d w h, fun w G => hcheck_in y j d w G h, fun w => r10check_in y j d w h⟩
  · obtain ⟨E, e0, e1, c1, c2⟩ := date_bad y n c d h
    exact ⟨0, E, fun w G => htoday_e _ _ _ _ _ w (by omega) fun W hW => c1 W (G.gr hW), fun w => r10today_e _ _ _ _ _ w (by omega) c2, fun w G => hcheck_of _ _ _ _ _ _ _ _ _ w fun W hW => c1 W (G.gr hW), c2⟩
theorem hfrom_both (n : Int) : ∃ (y m d E : Int) (c : Bool),
    (∀ w, GT w → Calls Tryd.prog 45 #[.int .i64 n] w fun e w' => e = .returned (.tuple #[.agg #[.int .i64 y, .int .i64 m, .bool c, .int .i64 d], .int .i64 E]) ∧ Gr w w') ∧
    (∀ w, Calls Tryd.prog 50 #[.int .i64 n] w fun e w' => e = .returned (.tuple #[.agg #[.int .i64 y, .int .i64 m, .bool c, .int .i64 d], .int .i64 E]) ∧ Gr w w') := by
  by_cases h : n < -1373427 ∨ 2278650 < n
  · exact ⟨_, _, _, _, _, fun w G => hfrom_out n w h, fun w => r10from_out n w h⟩
  · obtain ⟨y, j, d, hv, e⟩ := hd_of (n := n) (by omega) (by omega)
    exact ⟨_, _, _, _, _, fun w G => hfrom_in y j d n w G hv e, fun w => r10from_in y j d n w hv e⟩

set_option maxHeartbeats 2000000 in
theorem awake10_c (w : World) (G : GT w) : Calls Tryd.prog 46 #[] w fun e w' => e = .returned (.bool true) ∧ Gr w w' := by
  have hv : HV 5785 0 1 := ⟨by decide, by decide, by decide +kernel, by decide, by decide +kernel⟩
  have e0 : cN (lp 5785) 0 = 1 := by decide +kernel
  have e1 : cL (lp 5785) 0 = false := by decide +kernel
  have e2 : hd 5785 0 1 = 739162 := by decide +kernel
  have e3 : cHas (lp 5785) 5 true = false := by decide +kernel
  have C1 : RowKit.Hid (∀ W, Gr w W → Calls Tryd.prog 43 #[.agg #[.int .i64 5785, .int .i64 1, .bool false, .int .i64 1]] W fun e w' => e = .returned (.tuple #[.int .i64 739162, .int .i64 0]) ∧ Gr W w') := Lib.hid fun W hW => by
    have := htoday_in 5785 0 1 W (G.gr hW) hv; rwa [e0, e1, e2] at this
  have C2 : RowKit.Hid (∀ W, Gr w W → Calls Tryd.prog 45 #[.int .i64 739162] W fun e w' => e = .returned (.tuple #[.agg #[.int .i64 5785, .int .i64 1, .bool false, .int .i64 1], .int .i64 0]) ∧ Gr W w') := Lib.hid fun W hW => by
    have := hfrom_in 5785 0 1 739162 W (G.gr hW) hv e2; rwa [e0, e1] at this
  have C3 : RowKit.Hid (∀ W, Gr w W → Calls Tryd.prog 44 #[.agg #[.int .i64 5785, .int .i64 5, .bool true, .int .i64 1]] W fun e w' => e = .returned (.int .i64 3) ∧ Gr W w') := Lib.hid fun W hW =>
    hcheck_of _ _ _ _ _ _ _ _ _ W fun V hV => look_e _ _ _ _ _ V (by decide) fun w => find_m 5785 5 true w (by decide) (by decide) e3
  clear hv e0 e1 e2 e3 G
  go_enter Tryd.func46, Tryd.ntmps46
  go_wp2_with (first | (go_at_call 43; (with_reducible refine (C1.out _ ((by repeat (first | exact Gr.refl _ | refine Gr.setCell ?_ _ _ (by first | exact Nat.le_refl _ | (simp; omega) | (simp; done)) | refine Gr.grown ?_ _ _ | refine Gr.drewN ?_ _ | refine Gr.drew ?_ | refine Gr.alloc ?_ _ | refine Gr.grow ?_ _ | (refine Gr.trans ?_ (by assumption)))))).mono ?_); rintro e wA ⟨rfl, hgwA⟩; obtain ⟨hclwA, hfzwA, hszwA⟩ := gcell hgwA; (try simp [Nat.add_one_le_iff] at hszwA); have hlwA_w : w.heap.size < wA.heap.size := (by omega)) | (go_at_call 45; (with_reducible refine (C2.out _ ((by repeat (first | exact Gr.refl _ | refine Gr.setCell ?_ _ _ (by first | exact Nat.le_refl _ | (simp; omega) | (simp; done)) | refine Gr.grown ?_ _ _ | refine Gr.drewN ?_ _ | refine Gr.drew ?_ | refine Gr.alloc ?_ _ | refine Gr.grow ?_ _ | (refine Gr.trans ?_ (by assumption)))))).mono ?_); rintro e wB ⟨rfl, hgwB⟩; obtain ⟨hclwB, hfzwB, hszwB⟩ := gcell hgwB; (try simp [Nat.add_one_le_iff] at hszwB); have hlwB_w : w.heap.size < wB.heap.size := (by omega)) | (go_at_call 44; (with_reducible refine (C3.out _ ((by repeat (first | exact Gr.refl _ | refine Gr.setCell ?_ _ _ (by first | exact Nat.le_refl _ | (simp; omega) | (simp; done)) | refine Gr.grown ?_ _ _ | refine Gr.drewN ?_ _ | refine Gr.drew ?_ | refine Gr.alloc ?_ _ | refine Gr.grow ?_ _ | (refine Gr.trans ?_ (by assumption)))))).mono ?_); rintro e wC ⟨rfl, hgwC⟩; obtain ⟨hclwC, hfzwC, hszwC⟩ := gcell hgwC; (try simp [Nat.add_one_le_iff] at hszwC); have hlwC_w : w.heap.size < wC.heap.size := (by omega); have hlwC_wB : wB.heap.size < wC.heap.size := (by omega)))
  go_ret
  exact ⟨rfl, (by repeat (first | exact Gr.refl _ | refine Gr.setCell ?_ _ _ (by first | exact Nat.le_refl _ | (simp; omega) | (simp; done)) | refine Gr.grown ?_ _ _ | refine Gr.drewN ?_ _ | refine Gr.drew ?_ | refine Gr.alloc ?_ _ | refine Gr.grow ?_ _ | (refine Gr.trans ?_ (by assumption))))⟩

set_option maxRecDepth 20000 in
set_option maxHeartbeats 8000000 in
theorem hebTells_t (y n : Int) (c : Bool) (d y' n' : Int) (c' : Bool) (d' day : Int) (w : World) (T : GT w) :
    Calls Tryd.prog 14 #[.agg #[.int .i64 y, .int .i64 n, .bool c, .int .i64 d], .agg #[.int .i64 y', .int .i64 n', .bool c', .int .i64 d'], .int .i64 day] w fun e w' => e = .returned (.bool true) ∧ Gr w w' := by
  obtain ⟨N, E, c1, c2, c3, c4⟩ := hdate_both y n c d
  obtain ⟨x1, x2, x4, F, x3, c5, c6⟩ := hfrom_both day
  obtain ⟨L, H, -, c7, c8⟩ := hlast_both y n c
  have C1 := Lib.hid fun W (hW : Gr w W) => c1 W (T.gr hW)
  have C2 := Lib.hid c2
  have C3 := Lib.hid fun W (hW : Gr w W) => c3 W (T.gr hW)
  have C4 := Lib.hid c4
  have C5 := Lib.hid fun W (hW : Gr w W) => c5 W (T.gr hW)
  have C6 := Lib.hid c6
  have C7 := Lib.hid fun W (hW : Gr w W) => c7 W (T.gr hW)
  have C8 := Lib.hid c8
  have C9 := Lib.hid fun W (hW : Gr w W) => awake10_c W (T.gr hW)
  have C10 := Lib.hid fun W => hless_c y n d y' n' d' c c' W
  have C11 := Lib.hid fun W => r10less_c y n d y' n' d' c c' W
  clear c1 c2 c3 c4 c5 c6 c7 c8 T
  go_enter Tryd.func14, Tryd.ntmps14
  go_wp2_with (first | (go_at_call 43; (with_reducible refine (C1.out _ ((by repeat (first | exact Gr.refl _ | refine Gr.setCell ?_ _ _ (by first | exact Nat.le_refl _ | (simp; omega) | (simp; done)) | refine Gr.grown ?_ _ _ | refine Gr.drewN ?_ _ | refine Gr.drew ?_ | refine Gr.alloc ?_ _ | refine Gr.grow ?_ _ | (refine Gr.trans ?_ (by assumption)))))).mono ?_); rintro e wA ⟨rfl, hgwA⟩; obtain ⟨hclwA, hfzwA, hszwA⟩ := gcell hgwA; (try simp [Nat.add_one_le_iff] at hszwA); have hlwA_w : w.heap.size < wA.heap.size := (by omega)) | (go_at_call 49; (with_reducible refine (C2.out _).mono ?_); rintro e wB ⟨rfl, hgwB⟩; obtain ⟨hclwB, hfzwB, hszwB⟩ := gcell hgwB; (try simp [Nat.add_one_le_iff] at hszwB); have hlwB_w : w.heap.size < wB.heap.size := (by omega)) | (go_at_call 45; (with_reducible refine (C5.out _ ((by repeat (first | exact Gr.refl _ | refine Gr.setCell ?_ _ _ (by first | exact Nat.le_refl _ | (simp; omega) | (simp; done)) | refine Gr.grown ?_ _ _ | refine Gr.drewN ?_ _ | refine Gr.drew ?_ | refine Gr.alloc ?_ _ | refine Gr.grow ?_ _ | (refine Gr.trans ?_ (by assumption)))))).mono ?_); rintro e wC ⟨rfl, hgwC⟩; obtain ⟨hclwC, hfzwC, hszwC⟩ := gcell hgwC; (try simp [Nat.add_one_le_iff] at hszwC); have hlwC_w : w.heap.size < wC.heap.size := (by omega)) | (go_at_call 50; (with_reducible refine (C6.out _).mono ?_); rintro e wD ⟨rfl, hgwD⟩; obtain ⟨hclwD, hfzwD, hszwD⟩ := gcell hgwD; (try simp [Nat.add_one_le_iff] at hszwD); have hlwD_w : w.heap.size < wD.heap.size := (by omega); have hlwD_wC : wC.heap.size < wD.heap.size := (by omega)) | (go_at_call 47; (with_reducible refine (C7.out _ ((by repeat (first | exact Gr.refl _ | refine Gr.setCell ?_ _ _ (by first | exact Nat.le_refl _ | (simp; omega) | (simp; done)) | refine Gr.grown ?_ _ _ | refine Gr.drewN ?_ _ | refine Gr.drew ?_ | refine Gr.alloc ?_ _ | refine Gr.grow ?_ _ | (refine Gr.trans ?_ (by assumption)))))).mono ?_); rintro e wE ⟨rfl, hgwE⟩; obtain ⟨hclwE, hfzwE, hszwE⟩ := gcell hgwE; (try simp [Nat.add_one_le_iff] at hszwE); have hlwE_w : w.heap.size < wE.heap.size := (by omega); have hlwE_wC : wC.heap.size < wE.heap.size := (by omega); have hlwE_wD : wD.heap.size < wE.heap.size := (by omega)) | (go_at_call 37; (with_reducible refine (C8.out _).mono ?_); rintro e wF ⟨rfl, hgwF⟩; obtain ⟨hclwF, hfzwF, hszwF⟩ := gcell hgwF; (try simp [Nat.add_one_le_iff] at hszwF); have hlwF_w : w.heap.size < wF.heap.size := (by omega); have hlwF_wC : wC.heap.size < wF.heap.size := (by omega); have hlwF_wD : wD.heap.size < wF.heap.size := (by omega)))
  have G3 : Gr (wD.alloc (.cells #[.int .i64 x1, .int .i64 x2, .bool x3, .int .i64 x4] 59)) wF := (by repeat (first | exact Gr.refl _ | refine Gr.setCell ?_ _ _ (by first | exact Nat.le_refl _ | (simp; omega) | (simp; done)) | refine Gr.grown ?_ _ _ | refine Gr.drewN ?_ _ | refine Gr.drew ?_ | refine Gr.alloc ?_ _ | refine Gr.grow ?_ _ | (refine Gr.trans ?_ (by assumption))))
  have G2 : Gr (wC.alloc (.cells #[.int .i64 x1, .int .i64 x2, .bool x3, .int .i64 x4] 59)) wF := (by repeat (first | exact Gr.refl _ | refine Gr.setCell ?_ _ _ (by first | exact Nat.le_refl _ | (simp; omega) | (simp; done)) | refine Gr.grown ?_ _ _ | refine Gr.drewN ?_ _ | refine Gr.drew ?_ | refine Gr.alloc ?_ _ | refine Gr.grow ?_ _ | (refine Gr.trans ?_ (by assumption))))
  have G1 : Gr ((w.alloc (.cells #[.int .i64 y, .int .i64 n, .bool c, .int .i64 d] 59)).alloc (.cells #[.int .i64 y', .int .i64 n', .bool c', .int .i64 d'] 59)) wF := (by repeat (first | exact Gr.refl _ | refine Gr.setCell ?_ _ _ (by first | exact Nat.le_refl _ | (simp; omega) | (simp; done)) | refine Gr.grown ?_ _ _ | refine Gr.drewN ?_ _ | refine Gr.drew ?_ | refine Gr.alloc ?_ _ | refine Gr.grow ?_ _ | (refine Gr.trans ?_ (by assumption))))
  have GW : Gr w wF := (by repeat (first | exact Gr.refl _ | refine Gr.setCell ?_ _ _ (by first | exact Nat.le_refl _ | (simp; omega) | (simp; done)) | refine Gr.grown ?_ _ _ | refine Gr.drewN ?_ _ | refine Gr.drew ?_ | refine Gr.alloc ?_ _ | refine Gr.grow ?_ _ | (refine Gr.trans ?_ (by assumption))))
  have a0 := G1.keep (b := w.heap.size) (o := 0) (v := .int .i64 y) (by first | (simp; done) | (simp; omega)) (by simp [go_sem]); have a1 := G1.keep (b := w.heap.size) (o := 1) (v := .int .i64 n) (by first | (simp; done) | (simp; omega)) (by simp [go_sem]); have a2 := G1.keep (b := w.heap.size) (o := 2) (v := .bool c) (by first | (simp; done) | (simp; omega)) (by simp [go_sem]); have a3 := G1.keep (b := w.heap.size) (o := 3) (v := .int .i64 d) (by first | (simp; done) | (simp; omega)) (by simp [go_sem])
  have b0 := G1.keep (b := w.heap.size + 1) (o := 0) (v := .int .i64 y') (by first | (simp; done) | (simp; omega)) (by simp [go_sem]); have b1 := G1.keep (b := w.heap.size + 1) (o := 1) (v := .int .i64 n') (by first | (simp; done) | (simp; omega)) (by simp [go_sem]); have b2 := G1.keep (b := w.heap.size + 1) (o := 2) (v := .bool c') (by first | (simp; done) | (simp; omega)) (by simp [go_sem]); have b3 := G1.keep (b := w.heap.size + 1) (o := 3) (v := .int .i64 d') (by first | (simp; done) | (simp; omega)) (by simp [go_sem])
  have p0 := G2.keep (b := wC.heap.size) (o := 0) (v := .int .i64 x1) (by first | (simp; done) | (simp; omega)) (by simp [go_sem]); have p1 := G2.keep (b := wC.heap.size) (o := 1) (v := .int .i64 x2) (by first | (simp; done) | (simp; omega)) (by simp [go_sem]); have p2 := G2.keep (b := wC.heap.size) (o := 2) (v := .bool x3) (by first | (simp; done) | (simp; omega)) (by simp [go_sem]); have p3 := G2.keep (b := wC.heap.size) (o := 3) (v := .int .i64 x4) (by first | (simp; done) | (simp; omega)) (by simp [go_sem])
  have q0 := G3.keep (b := wD.heap.size) (o := 0) (v := .int .i64 x1) (by first | (simp; done) | (simp; omega)) (by simp [go_sem]); have q1 := G3.keep (b := wD.heap.size) (o := 1) (v := .int .i64 x2) (by first | (simp; done) | (simp; omega)) (by simp [go_sem]); have q2 := G3.keep (b := wD.heap.size) (o := 2) (v := .bool x3) (by first | (simp; done) | (simp; omega)) (by simp [go_sem]); have q3 := G3.keep (b := wD.heap.size) (o := 3) (v := .int .i64 x4) (by first | (simp; done) | (simp; omega)) (by simp [go_sem])
  have l1 := G1.lt (b := w.heap.size + 1) (by simp)
  have r0 := gcell_in hlwF_w a0; have r1 := gcell_in hlwF_w a1; have r2 := gcell_in hlwF_w a2; have r3 := gcell_in hlwF_w a3
  have s0 := gcell_in l1 b0; have s1 := gcell_in l1 b1; have s2 := gcell_in l1 b2; have s3 := gcell_in l1 b3
  have t0 := gcell_in hlwF_wC p0; have t1 := gcell_in hlwF_wC p1; have t2 := gcell_in hlwF_wC p2; have t3 := gcell_in hlwF_wC p3
  have u0 := gcell_in hlwF_wD q0; have u1 := gcell_in hlwF_wD q1; have u2 := gcell_in hlwF_wD q2; have u3 := gcell_in hlwF_wD q3
  clear G1 G2 G3 l1 a0 a1 a2 a3 b0 b1 b2 b3 p0 p1 p2 p3 q0 q1 q2 q3 hclwA hfzwA hszwA hclwB hfzwB hszwB hclwC hfzwC hszwC hclwD hfzwD hszwD hclwE hfzwE hszwE hclwF hfzwF hszwF hgwA hgwB hgwC hgwD hgwE hgwF
  (refine wp_region_quiet_grown mixed (by kernel_rfl) ?_; (repeat (first | go_big_quiet_step ((first | (go_at_call 46; exact gr_of (C9.out _ ((by repeat (first | exact Gr.refl _ | refine Gr.setCell ?_ _ _ (by first | exact Nat.le_refl _ | (simp; omega) | (simp; done)) | refine Gr.grown ?_ _ _ | refine Gr.drewN ?_ _ | refine Gr.drew ?_ | refine Gr.alloc ?_ _ | refine Gr.grow ?_ _ | (refine Gr.trans ?_ (by assumption))))))) | (go_at_call 44; exact gr_of (C3.out _ ((by repeat (first | exact Gr.refl _ | refine Gr.setCell ?_ _ _ (by first | exact Nat.le_refl _ | (simp; omega) | (simp; done)) | refine Gr.grown ?_ _ _ | refine Gr.drewN ?_ _ | refine Gr.drew ?_ | refine Gr.alloc ?_ _ | refine Gr.grow ?_ _ | (refine Gr.trans ?_ (by assumption))))))) | (go_at_call 51; exact gr_of (C4.out _)) | (go_at_call 48; exact gr_of (C10.out _)) | (go_at_call 52; exact gr_of (C11.out _)))) | quiet_step ((first | (go_at_call 46; exact gr_of (C9.out _ ((by repeat (first | exact Gr.refl _ | refine Gr.setCell ?_ _ _ (by first | exact Nat.le_refl _ | (simp; omega) | (simp; done)) | refine Gr.grown ?_ _ _ | refine Gr.drewN ?_ _ | refine Gr.drew ?_ | refine Gr.alloc ?_ _ | refine Gr.grow ?_ _ | (refine Gr.trans ?_ (by assumption))))))) | (go_at_call 44; exact gr_of (C3.out _ ((by repeat (first | exact Gr.refl _ | refine Gr.setCell ?_ _ _ (by first | exact Nat.le_refl _ | (simp; omega) | (simp; done)) | refine Gr.grown ?_ _ _ | refine Gr.drewN ?_ _ | refine Gr.drew ?_ | refine Gr.alloc ?_ _ | refine Gr.grow ?_ _ | (refine Gr.trans ?_ (by assumption))))))) | (go_at_call 51; exact gr_of (C4.out _)) | (go_at_call 48; exact gr_of (C10.out _)) | (go_at_call 52; exact gr_of (C11.out _)))))); refine wpQuiet_nil ?_; intro _ hw'; obtain ⟨⟨nq, osq⟩, hw''⟩ := hw'; subst hw'')
  go_wp2
  go_ret
  exact ⟨rfl, (by repeat (first | exact Gr.refl _ | refine Gr.setCell ?_ _ _ (by first | exact Nat.le_refl _ | (simp; omega) | (simp; done)) | refine Gr.grown ?_ _ _ | refine Gr.drewN ?_ _ | refine Gr.drew ?_ | refine Gr.alloc ?_ _ | refine Gr.grow ?_ _ | (refine Gr.trans ?_ (by assumption))))⟩

end Go.Proofs.YtgjgkldkdmohjaaDoor.Walks
