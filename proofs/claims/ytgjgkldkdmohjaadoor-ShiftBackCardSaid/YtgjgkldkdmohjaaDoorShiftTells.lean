/- Any code, brought into any year, by any mode, the month any months away, and any day, fitted into any month, are the document's: the walk of the law; every input. -/
import Derived.Test.YtgjgkldkdmohjaaDoorRef15b
import Derived.Test.YtgjgkldkdmohjaaDoorHebTells
set_option linter.unusedVariables false
set_option linter.unusedSimpArgs false
namespace Go.Proofs.YtgjgkldkdmohjaaDoor.Walks
open Go Go.RowKit Go.Sort Go.Proofs.YtgjgkldkdmohjaaDoor.Base Go.Proofs.YtgjgkldkdmohjaaDoor.Plain Go.Proofs.YtgjgkldkdmohjaaDoor.Math

theorem smonths_both (y n q : Int) (c : Bool) : ∃ (K N E : Int) (C : Bool), (E ≠ 0 → K = 0 ∧ N = 0 ∧ C = false) ∧
    (∀ w, GT w → Calls Tryd.prog 35 #[.int .i64 y, .agg #[.int .i64 n, .bool c], .int .i64 q] w fun e w' => e = .returned (.tuple #[.int .i64 K, .agg #[.int .i64 N, .bool C], .int .i64 E]) ∧ Gr w w') ∧
    (∀ w, Calls Tryd.prog 40 #[.int .i64 y, .agg #[.int .i64 n, .bool c], .int .i64 q] w fun e w' => e = .returned (.tuple #[.int .i64 K, .agg #[.int .i64 N, .bool C], .int .i64 E]) ∧ Gr w w') := by
  by_cases h : y < 1 ∨ 9999 < y
  · exact ⟨0, 0, 2, false, fun _ => ⟨rfl, rfl, rfl⟩, fun w G => smonths_e _ _ _ _ _ w (by decide) fun W hW => hlast_e _ _ _ _ W (by decide) fun w => find_y y n c w h, fun w => rmonths_e _ _ _ _ _ w (by decide) fun w => r10last_y y n c w h⟩
  · cases hc : cHas (lp y) n c
    · exact ⟨0, 0, 3, false, fun _ => ⟨rfl, rfl, rfl⟩, fun w G => smonths_e _ _ _ _ _ w (by decide) fun W hW => hlast_e _ _ _ _ W (by decide) fun w => find_m y n c w (by omega) (by omega) hc, fun w => rmonths_e _ _ _ _ _ w (by decide) fun w => r10last_m y n c w (by omega) (by omega) hc⟩
    · obtain ⟨j, hj, rfl, rfl⟩ := code_in hc
      have y0 : 1 ≤ y := by omega
      have y1 : y ≤ 9999 := by omega
      by_cases hq : q < -4000000 ∨ 4000000 < q
      · exact ⟨0, 0, 1, false, fun _ => ⟨rfl, rfl, rfl⟩, fun w G => smonths_q _ _ _ _ _ w hq fun W hW => hlast_in y j W (G.gr hW) y0 y1 hj, fun w => rmonths_q _ _ _ _ _ w hq fun w => r10last_in y j w y0 y1 hj⟩
      · have m13 := mct_le (lp y)
        obtain ⟨Z, z0, z1, hz, hc⟩ := zyear (bf y + j + q)
        rcases hc with ⟨rfl, ht⟩ | ⟨rfl, ht⟩ | ⟨za, zb, J, hJ, e⟩
        · exact ⟨0, 0, 2, false, fun _ => ⟨rfl, rfl, rfl⟩, fun w G => smonths_rng y j q w G y0 y1 hj (by omega) (by omega) (.inl ht),
            fun w => rmonths_at y _ q _ ((j : Int) + 1) _ 0 0 0 2 _ (lp y) false w y0 y1 (by omega) (by omega) (by omega) (by omega) (by omega) z0 z1 hz (fun w => r10last_in y j w y0 y1 hj) rfl (fun w => rplace9_in (lp y) j w hj) (fun z => absurd z (by omega)) (fun _ => ⟨rfl, rfl, rfl, rfl⟩)⟩
        · exact ⟨0, 0, 2, false, fun _ => ⟨rfl, rfl, rfl⟩, fun w G => smonths_rng y j q w G y0 y1 hj (by omega) (by omega) (.inr ht),
            fun w => rmonths_at y _ q _ ((j : Int) + 1) _ 10000 0 0 2 _ (lp y) false w y0 y1 (by omega) (by omega) (by omega) (by omega) (by omega) z0 z1 hz (fun w => r10last_in y j w y0 y1 hj) rfl (fun w => rplace9_in (lp y) j w hj) (fun z => absurd z (by omega)) (fun _ => ⟨rfl, rfl, rfl, rfl⟩)⟩
        · exact ⟨Z, cN (lp Z) J, 0, cL (lp Z) J, fun z => absurd rfl z, fun w G => smonths_in y j q Z J w G y0 y1 hj (by omega) (by omega) za zb hJ e,
            fun w => rmonths_at y _ q _ ((j : Int) + 1) _ Z Z _ 0 _ (lp y) _ w y0 y1 (by omega) (by omega) (by omega) (by omega) (by omega) z0 z1 hz (fun w => r10last_in y j w y0 y1 hj) rfl (fun w => rplace9_in (lp y) j w hj)
              (fun _ => ⟨rfl, rfl, fun w => by rw [← e, show bf Z + (J : Int) - bf Z + 1 = (J : Int) + 1 by omega]; exact rof9_in (lp Z) J w hJ⟩) (fun z => absurd ⟨za, zb⟩ z)⟩
theorem sfit_both (y n d m : Int) (c : Bool) : ∃ (N E : Int),
    (∀ w, GT w → Calls Tryd.prog 41 #[.int .i64 y, .agg #[.int .i64 n, .bool c], .int .i64 d, .int .i64 m] w fun e w' => e = .returned (.tuple #[.int .i64 N, .int .i64 E]) ∧ Gr w w') ∧
    (∀ w, Calls Tryd.prog 42 #[.int .i64 y, .agg #[.int .i64 n, .bool c], .int .i64 d, .int .i64 m] w fun e w' => e = .returned (.tuple #[.int .i64 N, .int .i64 E]) ∧ Gr w w') := by
  obtain ⟨L, E, -, h1, h2⟩ := hlast_both y n c
  exact ⟨_, _, fun w G => sfit_c y n d m L E c w fun W hW => h1 W (G.gr hW), fun w => rfit_c y n d m L E c w h2⟩

set_option maxHeartbeats 2000000 in
theorem awake15_c (w : World) (G : GT w) : Calls Tryd.prog 36 #[] w fun e w' => e = .returned (.bool true) ∧ Gr w w' := by
  have e1 : inE 5785 5 true 0 = 0 := by decide +kernel
  have e2 : inNum 5785 5 true 0 = 6 := by decide +kernel
  have e3 : inLp 5785 5 true 0 = false := by decide +kernel
  have f1 : inE 5785 5 true 1 = 7 := by decide +kernel
  have f2 : inNum 5785 5 true 1 = 0 := by decide +kernel
  have f3 : inLp 5785 5 true 1 = false := by decide +kernel
  have g1 : cN (lp 5784) 12 = 12 := by decide +kernel
  have g2 : cL (lp 5784) 12 = false := by decide +kernel
  have g3 : cN (lp 5785) 0 = 1 := by decide +kernel
  have g4 : cL (lp 5785) 0 = false := by decide +kernel
  have g5 : 12 < mct (lp 5784) := by decide +kernel
  have g6 : 0 < mct (lp 5785) := by decide +kernel
  have C1 : RowKit.Hid (∀ w, Calls Tryd.prog 38 #[.int .i64 5785, .agg #[.int .i64 5, .bool true], .int .i64 0] w fun e w' => e = .returned (.tuple #[.agg #[.int .i64 6, .bool false], .int .i64 0]) ∧ Gr w w') := Lib.hid fun w => by
    have := sinto_c 5785 5 0 true w; rwa [e1, e2, e3] at this
  have C2 : RowKit.Hid (∀ w, Calls Tryd.prog 38 #[.int .i64 5785, .agg #[.int .i64 5, .bool true], .int .i64 1] w fun e w' => e = .returned (.tuple #[.agg #[.int .i64 0, .bool false], .int .i64 7]) ∧ Gr w w') := Lib.hid fun w => by
    have := sinto_c 5785 5 1 true w; rwa [f1, f2, f3] at this
  have C3 : RowKit.Hid (∀ W, Gr w W → Calls Tryd.prog 35 #[.int .i64 5784, .agg #[.int .i64 12, .bool false], .int .i64 1] W fun e w' => e = .returned (.tuple #[.int .i64 5785, .agg #[.int .i64 1, .bool false], .int .i64 0]) ∧ Gr W w') := Lib.hid fun W hW => by
    have := smonths_in 5784 12 1 5785 0 W (G.gr hW) (by decide) (by decide) g5 (by decide) (by decide) (by decide) (by decide) g6 (by decide +kernel); rwa [g1, g2, g3, g4] at this
  clear e1 e2 e3 f1 f2 f3 g1 g2 g3 g4 g5 g6 G
  go_enter Tryd.func36, Tryd.ntmps36
  go_wp2_with (first | (go_at_call 38; (with_reducible refine (C1.out _).mono ?_); rintro e wA ⟨rfl, hgwA⟩; obtain ⟨hclwA, hfzwA, hszwA⟩ := gcell hgwA; (try simp [Nat.add_one_le_iff] at hszwA)) | (go_at_call 38; (with_reducible refine (C2.out _).mono ?_); rintro e wB ⟨rfl, hgwB⟩; obtain ⟨hclwB, hfzwB, hszwB⟩ := gcell hgwB; (try simp [Nat.add_one_le_iff] at hszwB); have hlwB_wA : wA.heap.size < wB.heap.size := (by omega)) | (go_at_call 35; (with_reducible refine (C3.out _ ((by repeat (first | exact Gr.refl _ | refine Gr.setCell ?_ _ _ (by first | exact Nat.le_refl _ | (simp; omega) | (simp; done)) | refine Gr.grown ?_ _ _ | refine Gr.drewN ?_ _ | refine Gr.drew ?_ | refine Gr.alloc ?_ _ | refine Gr.grow ?_ _ | (refine Gr.trans ?_ (by assumption)))))).mono ?_); rintro e wC ⟨rfl, hgwC⟩; obtain ⟨hclwC, hfzwC, hszwC⟩ := gcell hgwC; (try simp [Nat.add_one_le_iff] at hszwC); have hlwC_wA : wA.heap.size < wC.heap.size := (by omega); have hlwC_wB : wB.heap.size < wC.heap.size := (by omega)))
  go_ret
  exact ⟨rfl, (by repeat (first | exact Gr.refl _ | refine Gr.setCell ?_ _ _ (by first | exact Nat.le_refl _ | (simp; omega) | (simp; done)) | refine Gr.grown ?_ _ _ | refine Gr.drewN ?_ _ | refine Gr.drew ?_ | refine Gr.alloc ?_ _ | refine Gr.grow ?_ _ | (refine Gr.trans ?_ (by assumption))))⟩
set_option maxRecDepth 20000 in
set_option maxHeartbeats 8000000 in
theorem shiftTells_t (y n : Int) (c : Bool) (m q : Int) (w : World) (G : GT w) :
    Calls Tryd.prog 10 #[.agg #[.int .i64 y, .int .i64 n, .bool c, .int .i64 m, .int .i64 q]] w fun e w' => e = .returned (.bool true) ∧ Gr w w' := by
  obtain ⟨K, N, E, C, -, c3, c4⟩ := smonths_both y n q c
  obtain ⟨D, F, c5, c6⟩ := sfit_both y n q m c
  obtain ⟨I1, hI1⟩ : ∃ I, inNum y n c m = I := ⟨_, rfl⟩
  obtain ⟨I2, hI2⟩ : ∃ I, inLp y n c m = I := ⟨_, rfl⟩
  obtain ⟨I3, hI3⟩ : ∃ I, inE y n c m = I := ⟨_, rfl⟩
  have C1 : RowKit.Hid (∀ w, Calls Tryd.prog 38 #[.int .i64 y, .agg #[.int .i64 n, .bool c], .int .i64 m] w fun e w' => e = .returned (.tuple #[.agg #[.int .i64 I1, .bool I2], .int .i64 I3]) ∧ Gr w w') := Lib.hid fun w => by
    have := sinto_c y n m c w; rwa [hI1, hI2, hI3] at this
  have C2 : RowKit.Hid (∀ w, Calls Tryd.prog 39 #[.int .i64 y, .agg #[.int .i64 n, .bool c], .int .i64 m] w fun e w' => e = .returned (.tuple #[.agg #[.int .i64 I1, .bool I2], .int .i64 I3]) ∧ Gr w w') := Lib.hid fun w => by
    have := rinto_c y n m c w; rwa [hI1, hI2, hI3] at this
  have C3 := Lib.hid fun W (hW : Gr w W) => c3 W (G.gr hW)
  have C4 := Lib.hid c4
  have C5 := Lib.hid fun W (hW : Gr w W) => c5 W (G.gr hW)
  have C6 := Lib.hid c6
  have C9 := Lib.hid fun W (hW : Gr w W) => awake15_c W (G.gr hW)
  clear c3 c4 c5 c6 G hI1 hI2 hI3
  go_enter Tryd.func10, Tryd.ntmps10
  go_wp2
  obtain ⟨W0, hW0⟩ : ∃ W0, W0 = w.alloc (.cells #[.int .i64 y, .int .i64 n, .bool c, .int .i64 m, .int .i64 q] 53) := ⟨_, rfl⟩
  rw [← hW0]
  have l0 : w.heap.size < W0.heap.size := by rw [hW0]; simp
  have k0 : ∀ w', Gr W0 w' → w'.cell? ⟨w.heap.size, 0, none⟩ = some (.int .i64 y) := fun w' h => h.keep l0 (by rw [hW0]; simp [go_sem])
  have k1 : ∀ w', Gr W0 w' → w'.cell? ⟨w.heap.size, 1, none⟩ = some (.int .i64 n) := fun w' h => h.keep l0 (by rw [hW0]; simp [go_sem])
  have k2 : ∀ w', Gr W0 w' → w'.cell? ⟨w.heap.size, 2, none⟩ = some (.bool c) := fun w' h => h.keep l0 (by rw [hW0]; simp [go_sem])
  have k3 : ∀ w', Gr W0 w' → w'.cell? ⟨w.heap.size, 3, none⟩ = some (.int .i64 m) := fun w' h => h.keep l0 (by rw [hW0]; simp [go_sem])
  have k4 : ∀ w', Gr W0 w' → w'.cell? ⟨w.heap.size, 4, none⟩ = some (.int .i64 q) := fun w' h => h.keep l0 (by rw [hW0]; simp [go_sem])
  have GW : Gr w W0 := by rw [hW0]; exact (by repeat (first | exact Gr.refl _ | refine Gr.setCell ?_ _ _ (by first | exact Nat.le_refl _ | (simp; omega) | (simp; done)) | refine Gr.grown ?_ _ _ | refine Gr.drewN ?_ _ | refine Gr.drew ?_ | refine Gr.alloc ?_ _ | refine Gr.grow ?_ _ | (refine Gr.trans ?_ (by assumption))))
  have hd : Gr W0 W0.drew := (Gr.refl _).drew
  clear hW0
  go_region_held3 (fun w' => Gr W0 w') (repeat (first | exact hd | assumption | exact Gr.refl _ | refine Gr.drew ?_ | refine Gr.setCell ?_ _ _ (by first | exact Nat.le_refl _ | (simp; omega) | (simp at *; omega)) | refine Gr.alloc ?_ _ | (refine Gr.trans ?_ (by assumption)))) (fail)
  obtain ⟨W1, hW1⟩ : ∃ W1, W1 = (W0.alloc (.cells #[.int .i64 n, .bool c] 44)).drew := ⟨_, rfl⟩
  rw [← hW1]
  have l1 : W0.heap.size < W1.heap.size := by rw [hW1]; simp
  have t0 : W1.cell? ⟨W0.heap.size, 0, none⟩ = some (.int .i64 n) := by rw [hW1]; simp [go_sem]
  have t1 : W1.cell? ⟨W0.heap.size, 1, none⟩ = some (.bool c) := by rw [hW1]; simp [go_sem]
  have G1 : Gr w W1 := by rw [hW1]; exact (GW.alloc _).drew
  clear hW1 k0 k1 k2 k3 k4 hd l0 GW
  go_wp2_with (first | (go_at_call 38; (with_reducible refine (C1.out _).mono ?_); rintro e wA ⟨rfl, hgwA⟩; obtain ⟨hclwA, hfzwA, hszwA⟩ := gcell hgwA; (try simp [Nat.add_one_le_iff] at hszwA); have hlwA_W0 : W0.heap.size < wA.heap.size := (by omega)) | (go_at_call 39; (with_reducible refine (C2.out _).mono ?_); rintro e wB ⟨rfl, hgwB⟩; obtain ⟨hclwB, hfzwB, hszwB⟩ := gcell hgwB; (try simp [Nat.add_one_le_iff] at hszwB); have hlwB_W0 : W0.heap.size < wB.heap.size := (by omega); have hlwB_wA : wA.heap.size < wB.heap.size := (by omega)) | (go_at_call 35; (with_reducible refine (C3.out _ ((by repeat (first | exact Gr.refl _ | refine Gr.setCell ?_ _ _ (by first | exact Nat.le_refl _ | (simp; omega) | (simp; done)) | refine Gr.grown ?_ _ _ | refine Gr.drewN ?_ _ | refine Gr.drew ?_ | refine Gr.alloc ?_ _ | refine Gr.grow ?_ _ | (refine Gr.trans ?_ (by assumption)))))).mono ?_); rintro e wC ⟨rfl, hgwC⟩; obtain ⟨hclwC, hfzwC, hszwC⟩ := gcell hgwC; (try simp [Nat.add_one_le_iff] at hszwC); have hlwC_W0 : W0.heap.size < wC.heap.size := (by omega); have hlwC_wA : wA.heap.size < wC.heap.size := (by omega); have hlwC_wB : wB.heap.size < wC.heap.size := (by omega)) | (go_at_call 40; (with_reducible refine (C4.out _).mono ?_); rintro e wD ⟨rfl, hgwD⟩; obtain ⟨hclwD, hfzwD, hszwD⟩ := gcell hgwD; (try simp [Nat.add_one_le_iff] at hszwD); have hlwD_W0 : W0.heap.size < wD.heap.size := (by omega); have hlwD_wA : wA.heap.size < wD.heap.size := (by omega); have hlwD_wB : wB.heap.size < wD.heap.size := (by omega); have hlwD_wC : wC.heap.size < wD.heap.size := (by omega)) | (go_at_call 41; (with_reducible refine (C5.out _ ((by repeat (first | exact Gr.refl _ | refine Gr.setCell ?_ _ _ (by first | exact Nat.le_refl _ | (simp; omega) | (simp; done)) | refine Gr.grown ?_ _ _ | refine Gr.drewN ?_ _ | refine Gr.drew ?_ | refine Gr.alloc ?_ _ | refine Gr.grow ?_ _ | (refine Gr.trans ?_ (by assumption)))))).mono ?_); rintro e wE ⟨rfl, hgwE⟩; obtain ⟨hclwE, hfzwE, hszwE⟩ := gcell hgwE; (try simp [Nat.add_one_le_iff] at hszwE); have hlwE_W0 : W0.heap.size < wE.heap.size := (by omega); have hlwE_wA : wA.heap.size < wE.heap.size := (by omega); have hlwE_wB : wB.heap.size < wE.heap.size := (by omega); have hlwE_wC : wC.heap.size < wE.heap.size := (by omega); have hlwE_wD : wD.heap.size < wE.heap.size := (by omega)) | (go_at_call 42; (with_reducible refine (C6.out _).mono ?_); rintro e wF ⟨rfl, hgwF⟩; obtain ⟨hclwF, hfzwF, hszwF⟩ := gcell hgwF; (try simp [Nat.add_one_le_iff] at hszwF); have hlwF_wA : wA.heap.size < wF.heap.size := (by omega); have hlwF_wB : wB.heap.size < wF.heap.size := (by omega); have hlwF_wC : wC.heap.size < wF.heap.size := (by omega); have hlwF_wD : wD.heap.size < wF.heap.size := (by omega)) | (go_at_call 36; (with_reducible refine (C9.out _ ((by repeat (first | exact Gr.refl _ | refine Gr.setCell ?_ _ _ (by first | exact Nat.le_refl _ | (simp; omega) | (simp; done)) | refine Gr.grown ?_ _ _ | refine Gr.drewN ?_ _ | refine Gr.drew ?_ | refine Gr.alloc ?_ _ | refine Gr.grow ?_ _ | (refine Gr.trans ?_ (by assumption)))))).mono ?_); rintro e wG ⟨rfl, hgwG⟩; obtain ⟨hclwG, hfzwG, hszwG⟩ := gcell hgwG; (try simp [Nat.add_one_le_iff] at hszwG); have hlwG_wA : wA.heap.size < wG.heap.size := (by omega); have hlwG_wB : wB.heap.size < wG.heap.size := (by omega); have hlwG_wC : wC.heap.size < wG.heap.size := (by omega); have hlwG_wD : wD.heap.size < wG.heap.size := (by omega)))
  go_ret
  exact ⟨rfl, (by repeat (first | exact Gr.refl _ | refine Gr.setCell ?_ _ _ (by first | exact Nat.le_refl _ | (simp; omega) | (simp; done)) | refine Gr.grown ?_ _ _ | refine Gr.drewN ?_ _ | refine Gr.drew ?_ | refine Gr.alloc ?_ _ | refine Gr.grow ?_ _ | (refine Gr.trans ?_ (by assumption))))⟩

end Go.Proofs.YtgjgkldkdmohjaaDoor.Walks
