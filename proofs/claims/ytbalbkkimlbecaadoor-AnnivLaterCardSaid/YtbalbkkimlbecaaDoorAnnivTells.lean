/- Any date's birthday, and its day of remembrance, in any year, are the document's: the walk of the law; every input. -/
import Derived.Test.YtbalbkkimlbecaaDoorAnniv4
set_option linter.unusedVariables false
set_option linter.unusedSimpArgs false
namespace Go.Proofs.YtbalbkkimlbecaaDoor.Walks
open Go Go.RowKit Go.Sort Go.Proofs.YtbalbkkimlbecaaDoor.Base Go.Proofs.YtbalbkkimlbecaaDoor.Plain Go.Proofs.YtbalbkkimlbecaaDoor.Math

theorem hv_5784 : HV 5784 5 30 ∧ cN (lp 5784) 5 = 5 ∧ cL (lp 5784) 5 = true := by
  have l0 : lp 5784 = true := by decide +kernel
  exact ⟨⟨by decide, by decide, by rw [l0]; decide, by decide, by rw [l0]; simp [mlen]⟩, by rw [l0]; decide, by rw [l0]; decide⟩
theorem hv_5785 : HV 5785 6 1 ∧ cN (lp 5785) 6 = 7 ∧ cL (lp 5785) 6 = false ∧ lp 5785 = false ∧ hd 5785 5 1 + 30 - 1 = hd 5785 6 1 := by
  have l0 : lp 5785 = false := by decide +kernel
  exact ⟨⟨by decide, by decide, by rw [l0]; decide, by decide, by have := mlen_range (kk 5785) (lp 5785) 6; omega⟩, by rw [l0]; decide, by rw [l0]; decide, l0, by decide +kernel⟩
theorem birth_5785 (w : World) (G : GT w) : Calls Tryd.prog 32 #[.agg #[.int .i64 5784, .int .i64 5, .bool true, .int .i64 30], .int .i64 5785] w fun e w' => e = .returned (.tuple #[.agg #[.int .i64 5785, .int .i64 7, .bool false, .int .i64 1], .int .i64 0]) ∧ Gr w w' := by
  obtain ⟨h, f1, f2⟩ := hv_5784
  obtain ⟨g, g1, g2, g3, g4⟩ := hv_5785
  obtain ⟨i, Y, J, D, hi, e1, e2, hu, eu, c1, -⟩ := birth_both (t := 5785) h (by decide) (by decide)
  rw [f1, f2] at e1 e2
  have x1 : inNum 5785 5 true 0 = 6 := by decide +kernel
  have x2 : inLp 5785 5 true 0 = false := by decide +kernel
  rw [x1] at e1
  rw [x2] at e2
  rw [g3] at e1 e2 hi
  have ei : i = 5 := code_inj (l := false) hi (by decide) (by rw [← e1]; decide) (by rw [← e2]; decide)
  subst ei
  obtain ⟨rfl, rfl, rfl⟩ := hd_inj hu g (by omega)
  have := c1 w G
  rw [f1, f2, g1, g2] at this
  exact this
theorem death_5785 (w : World) (G : GT w) : Calls Tryd.prog 34 #[.agg #[.int .i64 5784, .int .i64 5, .bool true, .int .i64 30], .int .i64 5785] w fun e w' => e = .returned (.tuple #[.agg #[.int .i64 5785, .int .i64 5, .bool false, .int .i64 30], .int .i64 0]) ∧ Gr w w' := by
  obtain ⟨h, f1, f2⟩ := hv_5784
  obtain ⟨-, -, -, g3, -⟩ := hv_5785
  have k1 := fun w (G : GT w) => ancheck_in (t := 5785) h (by decide) (by decide) w G
  rw [f1, f2] at k1
  have v := fun (w : World) (G : GT w) => anwanes_c 5784 5 30 0 true w (by decide) (by decide) fun z => absurd z.2 (by decide)
  rw [show decide ((30 : Int) = 30 ∧ ((5 : Int) = 2 ∨ (5 : Int) = 3) ∧ (0 : Int) < 30) = false by decide] at v
  have a1 := fun w => aleap_in 5785 w (by decide) (by decide)
  rw [g3] at a1
  obtain ⟨m1, -⟩ := hlast_n (t := 5785) (by decide) (by decide) 4 5 false 30 (by rw [g3]; decide) (by rw [g3]; decide) (by rw [g3]; decide) (by rw [g3]; simp [mlen])
  exact death_core 5784 5 30 5785 _ _ _ true _ _ false _ w (fun W hW => k1 W (G.gr hW)) (fun W hW => v W (G.gr hW)) a1 (fun w => aleap_in 5784 w (by decide) (by decide)) (.inr (.inl ⟨rfl, rfl, rfl, rfl, fun W hW => anlast_c 5785 5 30 0 false W fun V hV => m1 V ((G.gr hW).gr hV)⟩))
set_option maxHeartbeats 4000000 in
theorem awake18_c (w : World) (G : GT w) : Calls Tryd.prog 36 #[] w fun e w' => e = .returned (.bool true) ∧ Gr w w' := by
  have C1 := Lib.hid fun W (hW : Gr w W) => birth_5785 W (G.gr hW)
  have C2 := Lib.hid fun W (hW : Gr w W) => death_5785 W (G.gr hW)
  clear G
  go_enter Tryd.func36, Tryd.ntmps36
  go_wp2_with (first | (go_at_call 32; (with_reducible refine (C1.out _ ((by repeat (first | exact Gr.refl _ | refine Gr.setCell ?_ _ _ (by first | exact Nat.le_refl _ | (simp; omega) | (simp; done)) | refine Gr.grown ?_ _ _ | refine Gr.drewN ?_ _ | refine Gr.drew ?_ | refine Gr.alloc ?_ _ | refine Gr.grow ?_ _ | (refine Gr.trans ?_ (by assumption)))))).mono ?_); rintro e wA ⟨rfl, hgwA⟩; obtain ⟨hclwA, hfzwA, hszwA⟩ := gcell hgwA; (try simp [Nat.add_one_le_iff] at hszwA); have hlwA_w : w.heap.size < wA.heap.size := (by omega)) | (go_at_call 34; (with_reducible refine (C2.out _ ((by repeat (first | exact Gr.refl _ | refine Gr.setCell ?_ _ _ (by first | exact Nat.le_refl _ | (simp; omega) | (simp; done)) | refine Gr.grown ?_ _ _ | refine Gr.drewN ?_ _ | refine Gr.drew ?_ | refine Gr.alloc ?_ _ | refine Gr.grow ?_ _ | (refine Gr.trans ?_ (by assumption)))))).mono ?_); rintro e wB ⟨rfl, hgwB⟩; obtain ⟨hclwB, hfzwB, hszwB⟩ := gcell hgwB; (try simp [Nat.add_one_le_iff] at hszwB); have hlwB_w : w.heap.size < wB.heap.size := (by omega); have hlwB_wA : wA.heap.size < wB.heap.size := (by omega)))
  go_ret
  exact ⟨rfl, (by repeat (first | exact Gr.refl _ | refine Gr.setCell ?_ _ _ (by first | exact Nat.le_refl _ | (simp; omega) | (simp; done)) | refine Gr.grown ?_ _ _ | refine Gr.drewN ?_ _ | refine Gr.drew ?_ | refine Gr.alloc ?_ _ | refine Gr.grow ?_ _ | (refine Gr.trans ?_ (by assumption))))⟩

/-- What both tell of every date and every year. -/
theorem anniv_both (y n : Int) (c : Bool) (d t : Int) : ∃ (R1 R2 R4 E S1 S2 S4 F : Int) (R3 S3 : Bool),
    (∀ w, GT w → Calls Tryd.prog 32 #[.agg #[.int .i64 y, .int .i64 n, .bool c, .int .i64 d], .int .i64 t] w fun e w' => e = .returned (.tuple #[.agg #[.int .i64 R1, .int .i64 R2, .bool R3, .int .i64 R4], .int .i64 E]) ∧ Gr w w') ∧
    (∀ w, Calls Tryd.prog 33 #[.agg #[.int .i64 y, .int .i64 n, .bool c, .int .i64 d], .int .i64 t] w fun e w' => e = .returned (.tuple #[.agg #[.int .i64 R1, .int .i64 R2, .bool R3, .int .i64 R4], .int .i64 E]) ∧ Gr w w') ∧
    (∀ w, GT w → Calls Tryd.prog 34 #[.agg #[.int .i64 y, .int .i64 n, .bool c, .int .i64 d], .int .i64 t] w fun e w' => e = .returned (.tuple #[.agg #[.int .i64 S1, .int .i64 S2, .bool S3, .int .i64 S4], .int .i64 F]) ∧ Gr w w') ∧
    (∀ w, Calls Tryd.prog 35 #[.agg #[.int .i64 y, .int .i64 n, .bool c, .int .i64 d], .int .i64 t] w fun e w' => e = .returned (.tuple #[.agg #[.int .i64 S1, .int .i64 S2, .bool S3, .int .i64 S4], .int .i64 F]) ∧ Gr w w') := by
  have key : (∃ j, n = cN (lp y) j ∧ c = cL (lp y) j ∧ HV y j d ∧ y < t ∧ t ≤ 9999) ∨ ∃ E : Int, anE y t E ≠ 0 ∧ (∀ w, GT w → Calls Tryd.prog 37 #[.agg #[.int .i64 y, .int .i64 n, .bool c, .int .i64 d]] w fun e w' => e = .returned (.int .i64 E) ∧ Gr w w') ∧
      (∀ w, Calls Tryd.prog 14 #[.agg #[.int .i64 y, .int .i64 n, .bool c, .int .i64 d]] w fun e w' => e = .returned (.int .i64 E) ∧ Gr w w') := by
    by_cases h : ∃ j, n = cN (lp y) j ∧ c = cL (lp y) j ∧ HV y j d
    · obtain ⟨j, rfl, rfl, hv⟩ := h
      by_cases ht : y < t ∧ t ≤ 9999
      · exact .inl ⟨j, rfl, rfl, hv, ht.1, ht.2⟩
      · refine .inr ⟨0, ?_, fun w G => hcheck_in y j d w G hv, fun w => r10check_in y j d w hv⟩
        unfold anE
        rw [if_pos rfl]
        split
        · decide
        · rw [if_pos (by omega)]; decide
    · obtain ⟨E, e0, e1, c1, c2⟩ := cdate_bad y n c d h
      refine .inr ⟨E, ?_, c1, c2⟩
      unfold anE
      rw [if_neg (by omega)]
      omega
  rcases key with ⟨j, rfl, rfl, hv, ht, t1⟩ | ⟨E, hE, c1, c2⟩
  · obtain ⟨i, Y, J, D, -, -, -, -, -, c1, c2⟩ := birth_both hv ht t1
    obtain ⟨S1, S2, S4, S3, c3, c4⟩ := death_both hv ht t1
    exact ⟨_, _, _, _, _, _, _, _, _, _, c1, c2, c3, c4⟩
  · exact ⟨0, 0, 0, anE y t E, 0, 0, 0, anE y t E, false, false, fun w G => birth_e y n d t _ c w hE fun W hW => ancheck_c y n d t E c W fun V hV => c1 V ((G.gr hW).gr hV), fun w => rbirth_e y n d t _ c w hE fun w => r18check_c y n d t E c w c2,
      fun w G => death_e y n d t _ c w hE fun W hW => ancheck_c y n d t E c W fun V hV => c1 V ((G.gr hW).gr hV), fun w => rdeath_e y n d t _ c w hE fun w => r18check_c y n d t E c w c2⟩

set_option maxRecDepth 20000 in
set_option maxHeartbeats 8000000 in
theorem annivTells_t (y n : Int) (c : Bool) (d t : Int) (w : World) (G : GT w) :
    Calls Tryd.prog 9 #[.agg #[.int .i64 y, .int .i64 n, .bool c, .int .i64 d], .int .i64 t] w fun e w' => e = .returned (.bool true) ∧ Gr w w' := by
  obtain ⟨R1, R2, R4, E, S1, S2, S4, F, R3, S3, c1, c2, c3, c4⟩ := anniv_both y n c d t
  have C1 := Lib.hid fun W (hW : Gr w W) => c1 W (G.gr hW)
  have C2 := Lib.hid c2
  have C3 := Lib.hid fun W (hW : Gr w W) => c3 W (G.gr hW)
  have C4 := Lib.hid c4
  have C9 := Lib.hid fun W (hW : Gr w W) => awake18_c W (G.gr hW)
  clear c1 c2 c3 c4 G
  go_enter Tryd.func9, Tryd.ntmps9
  go_wp2_with (first | (go_at_call 32; (with_reducible refine (C1.out _ ((by repeat (first | exact Gr.refl _ | refine Gr.setCell ?_ _ _ (by first | exact Nat.le_refl _ | (simp; omega) | (simp; done)) | refine Gr.grown ?_ _ _ | refine Gr.drewN ?_ _ | refine Gr.drew ?_ | refine Gr.alloc ?_ _ | refine Gr.grow ?_ _ | (refine Gr.trans ?_ (by assumption)))))).mono ?_); rintro e wA ⟨rfl, hgwA⟩; obtain ⟨hclwA, hfzwA, hszwA⟩ := gcell hgwA; (try simp [Nat.add_one_le_iff] at hszwA); have hlwA_w : w.heap.size < wA.heap.size := (by omega)) | (go_at_call 33; (with_reducible refine (C2.out _).mono ?_); rintro e wB ⟨rfl, hgwB⟩; obtain ⟨hclwB, hfzwB, hszwB⟩ := gcell hgwB; (try simp [Nat.add_one_le_iff] at hszwB); have hlwB_w : w.heap.size < wB.heap.size := (by omega); have hlwB_wA : wA.heap.size < wB.heap.size := (by omega)) | (go_at_call 34; (with_reducible refine (C3.out _ ((by repeat (first | exact Gr.refl _ | refine Gr.setCell ?_ _ _ (by first | exact Nat.le_refl _ | (simp; omega) | (simp; done)) | refine Gr.grown ?_ _ _ | refine Gr.drewN ?_ _ | refine Gr.drew ?_ | refine Gr.alloc ?_ _ | refine Gr.grow ?_ _ | (refine Gr.trans ?_ (by assumption)))))).mono ?_); rintro e wC ⟨rfl, hgwC⟩; obtain ⟨hclwC, hfzwC, hszwC⟩ := gcell hgwC; (try simp [Nat.add_one_le_iff] at hszwC); have hlwC_w : w.heap.size < wC.heap.size := (by omega); have hlwC_wA : wA.heap.size < wC.heap.size := (by omega); have hlwC_wB : wB.heap.size < wC.heap.size := (by omega)) | (go_at_call 35; (with_reducible refine (C4.out _).mono ?_); rintro e wD ⟨rfl, hgwD⟩; obtain ⟨hclwD, hfzwD, hszwD⟩ := gcell hgwD; (try simp [Nat.add_one_le_iff] at hszwD); have hlwD_w : w.heap.size < wD.heap.size := (by omega); have hlwD_wA : wA.heap.size < wD.heap.size := (by omega); have hlwD_wB : wB.heap.size < wD.heap.size := (by omega); have hlwD_wC : wC.heap.size < wD.heap.size := (by omega)) | (go_at_call 36; (with_reducible refine (C9.out _ ((by repeat (first | exact Gr.refl _ | refine Gr.setCell ?_ _ _ (by first | exact Nat.le_refl _ | (simp; omega) | (simp; done)) | refine Gr.grown ?_ _ _ | refine Gr.drewN ?_ _ | refine Gr.drew ?_ | refine Gr.alloc ?_ _ | refine Gr.grow ?_ _ | (refine Gr.trans ?_ (by assumption)))))).mono ?_); rintro e wF ⟨rfl, hgwF⟩; obtain ⟨hclwF, hfzwF, hszwF⟩ := gcell hgwF; (try simp [Nat.add_one_le_iff] at hszwF); have hlwF_w : w.heap.size < wF.heap.size := (by omega); have hlwF_wA : wA.heap.size < wF.heap.size := (by omega); have hlwF_wB : wB.heap.size < wF.heap.size := (by omega); have hlwF_wC : wC.heap.size < wF.heap.size := (by omega); have hlwF_wD : wD.heap.size < wF.heap.size := (by omega)))
  go_ret
  exact ⟨rfl, (by repeat (first | exact Gr.refl _ | refine Gr.setCell ?_ _ _ (by first | exact Nat.le_refl _ | (simp; omega) | (simp; done)) | refine Gr.grown ?_ _ _ | refine Gr.drewN ?_ _ | refine Gr.drew ?_ | refine Gr.alloc ?_ _ | refine Gr.grow ?_ _ | (refine Gr.trans ?_ (by assumption))))⟩

end Go.Proofs.YtbalbkkimlbecaaDoor.Walks
