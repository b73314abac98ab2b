/- The document's example of RoshChodesh and the omer. -/
import Derived.Test.YtbalbkkimlbecaaDoorChodesh2
set_option linter.unusedVariables false
set_option linter.unusedSimpArgs false
namespace Go.Proofs.YtbalbkkimlbecaaDoor.Walks
open Go Go.RowKit Go.Sort Go.Proofs.YtbalbkkimlbecaaDoor.Base Go.Proofs.YtbalbkkimlbecaaDoor.Plain Go.Proofs.YtbalbkkimlbecaaDoor.Math

set_option maxHeartbeats 4000000 in
theorem awake21_c (w : World) (G : GT w) : Calls Tryd.prog 31 #[] w fun e w' => e = .returned (.bool true) ∧ Gr w w' := by
  have e1 : ctN 5784 33 = 739032 := by decide +kernel
  have e2 : ctE 5784 33 = 0 := by decide +kernel
  have C1 : RowKit.Hid (∀ W, Gr w W → Calls Tryd.prog 29 #[.int .i64 5784, .int .i64 33] W fun e w' => e = .returned (.tuple #[.int .i64 739032, .int .i64 0]) ∧ Gr W w') := Lib.hid fun W hW => by
    have := counted_c 5784 33 W (G.gr hW)
    rwa [e1, e2] at this
  have C2 : RowKit.Hid (∀ W, Gr w W → Calls Tryd.prog 27 #[.int .i64 739032] W fun e w' => e = .returned (.tuple #[.int .i64 33, .int .i64 0]) ∧ Gr W w') := Lib.hid fun W hW => by
    have o1 : omS 5784 = 738999 := by decide +kernel
    have hv : HV 5784 8 18 := ⟨by decide, by decide, by decide +kernel, by decide, by have := mlen_range (kk 5784) (lp 5784) 8; omega⟩
    have eh : hd 5784 8 18 = 739032 := by decide +kernel
    have := omer_in hv eh W (G.gr hW)
    rw [o1] at this
    exact this
  have C3 := Lib.hid fun W (hW : Gr w W) => chof_in 5784 W (G.gr hW) (by decide) (by decide)
  have hl : (chL (kk 5784) (lp 5784) (fy 5784) (mct (lp 5784))).length = 18 := by decide +kernel
  obtain ⟨L, hL⟩ : ∃ L, chL (kk 5784) (lp 5784) (fy 5784) (mct (lp 5784)) = L := ⟨_, rfl⟩
  rw [hL] at C3 hl
  clear G hL e1 e2
  go_enter Tryd.func31, Tryd.ntmps31
  go_wp2_with (first | (go_at_call 29; (with_reducible refine (C1.out _ ((by repeat (first | exact Gr.refl _ | refine Gr.setCell ?_ _ _ (by first | exact Nat.le_refl _ | (simp; omega) | (simp; done)) | refine Gr.grown ?_ _ _ | refine Gr.drewN ?_ _ | refine Gr.drew ?_ | refine Gr.alloc ?_ _ | refine Gr.grow ?_ _ | (refine Gr.trans ?_ (by assumption)))))).mono ?_); rintro e wA ⟨rfl, hgwA⟩) | (go_at_call 27; (with_reducible refine (C2.out _ ((by repeat (first | exact Gr.refl _ | refine Gr.setCell ?_ _ _ (by first | exact Nat.le_refl _ | (simp; omega) | (simp; done)) | refine Gr.grown ?_ _ _ | refine Gr.drewN ?_ _ | refine Gr.drew ?_ | refine Gr.alloc ?_ _ | refine Gr.grow ?_ _ | (refine Gr.trans ?_ (by assumption)))))).mono ?_); rintro e wB ⟨rfl, hgwB⟩) | (go_at_call 24; (with_reducible refine (C3.out _ ((by repeat (first | exact Gr.refl _ | refine Gr.setCell ?_ _ _ (by first | exact Nat.le_refl _ | (simp; omega) | (simp; done)) | refine Gr.grown ?_ _ _ | refine Gr.drewN ?_ _ | refine Gr.drew ?_ | refine Gr.alloc ?_ _ | refine Gr.grow ?_ _ | (refine Gr.trans ?_ (by assumption)))))).mono ?_); rintro e wC ⟨g, cap, rfl, RC, hgC⟩; rw [hl]; clear RC))
  go_ret
  exact ⟨rfl, (by repeat (first | exact Gr.refl _ | refine Gr.setCell ?_ _ _ (by first | exact Nat.le_refl _ | (simp; omega) | (simp; done)) | refine Gr.grown ?_ _ _ | refine Gr.drewN ?_ _ | refine Gr.drew ?_ | refine Gr.alloc ?_ _ | refine Gr.grow ?_ _ | (refine Gr.trans ?_ (by assumption))))⟩

end Go.Proofs.YtbalbkkimlbecaaDoor.Walks
