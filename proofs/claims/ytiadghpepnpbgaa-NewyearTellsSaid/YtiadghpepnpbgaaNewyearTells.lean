/- By how many days any moment puts a year off, and any year's first day, are the document's: the walk of the law; every input. -/
import Derived.Test.YtiadghpepnpbgaaAwake45
import Derived.RegionTactic
import Derived.ChangeAlike
import Derived.BigRegion
set_option linter.unusedVariables false
set_option linter.unusedSimpArgs false
namespace Go.Proofs.Ytiadghpepnpbgaa.Walks
open Go Go.RowKit Go.Sort Go.Proofs.Ytiadghpepnpbgaa.Base Go.Proofs.Ytiadghpepnpbgaa.Plain Go.Proofs.Ytiadghpepnpbgaa.Math

set_option maxHeartbeats 4000000 in
theorem newyearTells_w (d p : Int) (leap after : Bool) (y : Int) (w : World) (w0 : (Lit.int .i64 d).wf = true) (w1 : (Lit.int .i64 p).wf = true) (w2 : (Lit.int .i64 y).wf = true) :
    Calls Try.prog 9 #[.agg #[.int .i64 d, .int .i64 p, .bool leap, .bool after, .int .i64 y]] w fun e w' => e = .returned (.bool true) ∧ Gr w w' := by
  have b0 := bounds_i64 w0
  have d0 := b0.1
  have d1 := b0.2
  clear w0 w1 w2 b0
  go_enter Try.func9, Try.ntmps9
  go_wp2
  go_region
  go_wp2_with (first | (go_at_call 34; (with_reducible refine (first_c y _).mono ?_); rintro e wA ⟨rfl, hgwA⟩) | (go_at_call 35; (with_reducible refine (rfirst_c y _).mono ?_); rintro e wB ⟨rfl, hgwB⟩))
  have hb2 : w.heap.size + 1 < wA.heap.size := by have := hgwA.size; simp at this; omega
  have hb3 := hgwB.lt hb2
  have k0 := gcell_in hb3 (hgwB.keep hb2 (hgwA.keep (b := w.heap.size + 1) (o := 0) (v := .int .i64 d) (by simp) (by simp [go_sem])))
  have k1 := gcell_in hb3 (hgwB.keep hb2 (hgwA.keep (b := w.heap.size + 1) (o := 1) (v := .int .i64 p) (by simp) (by simp [go_sem])))
  (refine wp_region_quiet_grown mixed (by kernel_rfl) ?_; (repeat (first | go_big_quiet_step ((first | (go_at_call 36; exact gr_of (awake05_c _)) | (go_at_call 37; exact gr_of (delay_c _ _ _ _ _ d0 d1)) | (go_at_call 38; exact gr_of (rdelay_c _ _ _ _ _ d0 d1)))) | quiet_step ((first | (go_at_call 36; exact gr_of (awake05_c _)) | (go_at_call 37; exact gr_of (delay_c _ _ _ _ _ d0 d1)) | (go_at_call 38; exact gr_of (rdelay_c _ _ _ _ _ d0 d1)))))); refine wpQuiet_nil ?_; intro _ hw'; obtain ⟨⟨nq, osq⟩, hw''⟩ := hw'; subst hw'')
  go_wp2
  go_ret
  exact ⟨rfl, (by repeat (first | exact Gr.refl _ | refine Gr.setCell ?_ _ _ (by first | exact Nat.le_refl _ | (simp; omega) | (simp; done)) | refine Gr.grown ?_ _ _ | refine Gr.drewN ?_ _ | refine Gr.drew ?_ | refine Gr.alloc ?_ _ | refine Gr.grow ?_ _ | (refine Gr.trans ?_ (by assumption))))⟩

end Go.Proofs.Ytiadghpepnpbgaa.Walks
