/- The days of RoshChodesh of any year, what any day is counted as, and which day is counted so, are the document's: the walk of the law; every input. -/
import Derived.Test.YtbalbkkimlbecaaDoorChodesh3
set_option linter.unusedVariables false
set_option linter.unusedSimpArgs false
namespace Go.Proofs.YtbalbkkimlbecaaDoor.Walks
open Go Go.RowKit Go.Sort Go.Proofs.YtbalbkkimlbecaaDoor.Base Go.Proofs.YtbalbkkimlbecaaDoor.Plain Go.Proofs.YtbalbkkimlbecaaDoor.Math

theorem omer_both (day : Int) : ∃ A E : Int, (∀ w, GT w → Calls Tryd.prog 27 #[.int .i64 day] w fun e w' => e = .returned (.tuple #[.int .i64 A, .int .i64 E]) ∧ Gr w w') ∧
    (∀ w, Calls Tryd.prog 28 #[.int .i64 day] w fun e w' => e = .returned (.tuple #[.int .i64 A, .int .i64 E]) ∧ Gr w w') := by
  by_cases h : day < -1373427 ∨ 2278650 < day
  · exact ⟨_, _, fun w G => omer_out day w h, fun w => romer_out day w h⟩
  · obtain ⟨y, j, d, hv, e⟩ := hd_of (n := day) (by omega) (by omega)
    exact ⟨_, _, fun w G => omer_in hv e w G, fun w => romer_in hv e w⟩
set_option maxRecDepth 20000 in
set_option maxHeartbeats 8000000 in
theorem chodeshTells_t (y day n : Int) (w : World) (G : GT w) :
    Calls Tryd.prog 6 #[.int .i64 y, .int .i64 day, .int .i64 n] w fun e w' => e = .returned (.bool true) ∧ Gr w w' := by
  obtain ⟨A, E, o1, o2⟩ := omer_both day
  have O1 := Lib.hid fun W (hW : Gr w W) => o1 W (G.gr hW)
  have O2 := Lib.hid o2
  have C1 := Lib.hid fun W (hW : Gr w W) => counted_c y n W (G.gr hW)
  have C2 := Lib.hid fun W => rcounted_c y n W
  have C9 := Lib.hid fun W (hW : Gr w W) => awake21_c W (G.gr hW)
  obtain ⟨B, hB⟩ : ∃ B, ctN y n = B := ⟨_, rfl⟩
  obtain ⟨F, hF⟩ : ∃ F, ctE y n = F := ⟨_, rfl⟩
  rw [hB, hF] at C1 C2
  clear o1 o2 hB hF
  by_cases h : 1 ≤ y ∧ y ≤ 9999
  · have L1 := Lib.hid fun W (hW : Gr w W) => chof_in y W (G.gr hW) h.1 h.2
    have L2 := Lib.hid fun W => rchof_in y W h.1 h.2
    have rk := kk_leap h.1 h.2
    have hc := chL_count (lp y) (fy y) rk.2.1 rk.2.2
    obtain ⟨L, hL⟩ : ∃ L, chL (kk y) (lp y) (fy y) (mct (lp y)) = L := ⟨_, rfl⟩
    rw [hL] at L1 L2 hc
    clear G hL rk h
    go_enter Tryd.func6, Tryd.ntmps6
    go_wp2_with (first | (go_at_call 24; (with_reducible refine (L1.out _ ((by repeat (first | exact Gr.refl _ | refine Gr.setCell ?_ _ _ (by first | exact Nat.le_refl _ | (simp; omega) | (simp; done)) | refine Gr.grown ?_ _ _ | refine Gr.drewN ?_ _ | refine Gr.drew ?_ | refine Gr.alloc ?_ _ | refine Gr.grow ?_ _ | (refine Gr.trans ?_ (by assumption)))))).mono ?_); rintro e wA ⟨g1, c1, rfl, RA, hgA⟩) | (go_at_call 25; (with_reducible refine (L2.out _).mono ?_); rintro e wB ⟨g2, c2, rfl, RB, hgB⟩; have RA2 := RA.gr hgB; clear RA) |
      (go_at_call 26; (with_reducible refine (rsame_row L g1 c1 g2 c2 _ (by omega) RA2 RB).mono ?_); rintro e wC ⟨rfl, hgC⟩; clear RA2 RB) | (go_at_call 27; (with_reducible refine (O1.out _ ((by repeat (first | exact Gr.refl _ | refine Gr.setCell ?_ _ _ (by first | exact Nat.le_refl _ | (simp; omega) | (simp; done)) | refine Gr.grown ?_ _ _ | refine Gr.drewN ?_ _ | refine Gr.drew ?_ | refine Gr.alloc ?_ _ | refine Gr.grow ?_ _ | (refine Gr.trans ?_ (by assumption)))))).mono ?_); rintro e wD ⟨rfl, hgwD⟩) | (go_at_call 28; (with_reducible refine (O2.out _).mono ?_); rintro e wE ⟨rfl, hgwE⟩) | (go_at_call 29; (with_reducible refine (C1.out _ ((by repeat (first | exact Gr.refl _ | refine Gr.setCell ?_ _ _ (by first | exact Nat.le_refl _ | (simp; omega) | (simp; done)) | refine Gr.grown ?_ _ _ | refine Gr.drewN ?_ _ | refine Gr.drew ?_ | refine Gr.alloc ?_ _ | refine Gr.grow ?_ _ | (refine Gr.trans ?_ (by assumption)))))).mono ?_); rintro e wH ⟨rfl, hgwH⟩) | (go_at_call 30; (with_reducible refine (C2.out _).mono ?_); rintro e wI ⟨rfl, hgwI⟩) | (go_at_call 31; (with_reducible refine (C9.out _ ((by repeat (first | exact Gr.refl _ | refine Gr.setCell ?_ _ _ (by first | exact Nat.le_refl _ | (simp; omega) | (simp; done)) | refine Gr.grown ?_ _ _ | refine Gr.drewN ?_ _ | refine Gr.drew ?_ | refine Gr.alloc ?_ _ | refine Gr.grow ?_ _ | (refine Gr.trans ?_ (by assumption)))))).mono ?_); rintro e wJ ⟨rfl, hgwJ⟩))
    go_ret
    exact ⟨rfl, (by repeat (first | exact Gr.refl _ | refine Gr.setCell ?_ _ _ (by first | exact Nat.le_refl _ | (simp; omega) | (simp; done)) | refine Gr.grown ?_ _ _ | refine Gr.drewN ?_ _ | refine Gr.drew ?_ | refine Gr.alloc ?_ _ | refine Gr.grow ?_ _ | (refine Gr.trans ?_ (by assumption))))⟩
  · have L1 := Lib.hid fun W => chof_out y W (by omega)
    have L2 := Lib.hid fun W => rchof_out y W (by omega)
    clear G h
    go_enter Tryd.func6, Tryd.ntmps6
    go_wp2_with (first | (go_at_call 24; (with_reducible refine (L1.out _).mono ?_); rintro e wA ⟨rfl, hgwA⟩) | (go_at_call 25; (with_reducible refine (L2.out _).mono ?_); rintro e wB ⟨rfl, hgwB⟩) | (go_at_call 26; (with_reducible refine (rsame_nil _).mono ?_); rintro e wC ⟨rfl, hgwC⟩) | (go_at_call 27; (with_reducible refine (O1.out _ ((by repeat (first | exact Gr.refl _ | refine Gr.setCell ?_ _ _ (by first | exact Nat.le_refl _ | (simp; omega) | (simp; done)) | refine Gr.grown ?_ _ _ | refine Gr.drewN ?_ _ | refine Gr.drew ?_ | refine Gr.alloc ?_ _ | refine Gr.grow ?_ _ | (refine Gr.trans ?_ (by assumption)))))).mono ?_); rintro e wD ⟨rfl, hgwD⟩) | (go_at_call 28; (with_reducible refine (O2.out _).mono ?_); rintro e wE ⟨rfl, hgwE⟩) | (go_at_call 29; (with_reducible refine (C1.out _ ((by repeat (first | exact Gr.refl _ | refine Gr.setCell ?_ _ _ (by first | exact Nat.le_refl _ | (simp; omega) | (simp; done)) | refine Gr.grown ?_ _ _ | refine Gr.drewN ?_ _ | refine Gr.drew ?_ | refine Gr.alloc ?_ _ | refine Gr.grow ?_ _ | (refine Gr.trans ?_ (by assumption)))))).mono ?_); rintro e wH ⟨rfl, hgwH⟩) | (go_at_call 30; (with_reducible refine (C2.out _).mono ?_); rintro e wI ⟨rfl, hgwI⟩) | (go_at_call 31; (with_reducible refine (C9.out _ ((by repeat (first | exact Gr.refl _ | refine Gr.setCell ?_ _ _ (by first | exact Nat.le_refl _ | (simp; omega) | (simp; done)) | refine Gr.grown ?_ _ _ | refine Gr.drewN ?_ _ | refine Gr.drew ?_ | refine Gr.alloc ?_ _ | refine Gr.grow ?_ _ | (refine Gr.trans ?_ (by assumption)))))).mono ?_); rintro e wJ ⟨rfl, hgwJ⟩))
    go_ret
    exact ⟨rfl, (by repeat (first | exact Gr.refl _ | refine Gr.setCell ?_ _ _ (by first | exact Nat.le_refl _ | (simp; omega) | (simp; done)) | refine Gr.grown ?_ _ _ | refine Gr.drewN ?_ _ | refine Gr.drew ?_ | refine Gr.alloc ?_ _ | refine Gr.grow ?_ _ | (refine Gr.trans ?_ (by assumption))))⟩

end Go.Proofs.YtbalbkkimlbecaaDoor.Walks
