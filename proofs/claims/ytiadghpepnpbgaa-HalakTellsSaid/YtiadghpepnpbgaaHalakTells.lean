/- How many parts any days, hours and parts are, how many any moment is, and the parts of any moons, are the document's: the walk of the law; every input. -/
import Derived.Test.YtiadghpepnpbgaaHalak3
set_option linter.unusedVariables false
set_option linter.unusedSimpArgs false
namespace Go.Proofs.Ytiadghpepnpbgaa.Walks
open Go Go.RowKit Go.Sort Go.Proofs.Ytiadghpepnpbgaa.Base Go.Proofs.Ytiadghpepnpbgaa.Plain Go.Proofs.Ytiadghpepnpbgaa.Math

theorem split_u (n : Int) (w : World) (h : fits n) : Calls Try.prog 16 #[.int .i64 n] w fun e w' => e = .returned (.agg #[.int .i64 (n / 25920), .int .i64 (n % 25920)]) ∧ Gr w w' := split_c n w h.1 h.2
theorem rsplit_u (n : Int) (w : World) (h : fits n) : Calls Try.prog 25 #[.int .i64 n] w fun e w' => e = .returned (.agg #[.int .i64 (n / 25920), .int .i64 (n % 25920)]) ∧ Gr w w' := rsplit_c n w h.1 h.2
set_option maxHeartbeats 4000000 in
theorem halakTells_w (d h p : Int) (w : World) (w0 : (Lit.int .i64 d).wf = true) (w1 : (Lit.int .i64 h).wf = true) (w2 : (Lit.int .i64 p).wf = true) :
    Calls Try.prog 4 #[.int .i64 d, .int .i64 h, .int .i64 p] w fun e w' => e = .returned (.bool true) ∧ Gr w w' := by
  have hd : RowKit.Hid (fits d) := Lib.hid (bounds_i64 w0)
  have hh : RowKit.Hid (fits h) := Lib.hid (bounds_i64 w1)
  have hp : RowKit.Hid (fits p) := Lib.hid (bounds_i64 w2)
  clear w0 w1 w2
  go_enter Try.func4, Try.ntmps4
  go_wp2_with (first | (go_at_call 15; (with_reducible refine (parts_u d h p _ hd.out hh.out hp.out).mono ?_); rintro e wA ⟨rfl, hgwA⟩) | (go_at_call 18; (with_reducible refine (rparts_u d h p _ hd.out hh.out hp.out).mono ?_); rintro e wB ⟨rfl, hgwB⟩) | (go_at_call 19; (with_reducible refine (join_u d p _ hd.out hp.out).mono ?_); rintro e wC ⟨rfl, hgwC⟩) | (go_at_call 20; (with_reducible refine (rjoin_u d p _ hd.out hp.out).mono ?_); rintro e wD ⟨rfl, hgwD⟩) | (go_at_call 21; (with_reducible refine (moons_u h _ hh.out).mono ?_); rintro e wE ⟨rfl, hgwE⟩) | (go_at_call 22; (with_reducible refine (rmoons_u h _ hh.out).mono ?_); rintro e wF ⟨rfl, hgwF⟩) | (go_at_call 23; (with_reducible refine (hours_c p _).mono ?_); rintro e wG ⟨rfl, hgwG⟩) | (go_at_call 24; (with_reducible refine (rhours_c p _).mono ?_); rintro e wH ⟨rfl, hgwH⟩) | (go_at_call 17; (with_reducible refine (awake02_c _).mono ?_); rintro e wI ⟨rfl, hgwI⟩) | (go_at_call 16; (with_reducible refine (split_u d _ hd.out).mono ?_); rintro e wJ ⟨rfl, hgwJ⟩) | (go_at_call 25; (with_reducible refine (rsplit_u d _ hd.out).mono ?_); rintro e wK ⟨rfl, hgwK⟩))
  go_ret
  exact ⟨rfl, (by repeat (first | exact Gr.refl _ | refine Gr.setCell ?_ _ _ (by first | exact Nat.le_refl _ | (simp; omega) | (simp; done)) | refine Gr.grown ?_ _ _ | refine Gr.drewN ?_ _ | refine Gr.drew ?_ | refine Gr.alloc ?_ _ | refine Gr.grow ?_ _ | (refine Gr.trans ?_ (by assumption))))⟩

end Go.Proofs.Ytiadghpepnpbgaa.Walks
