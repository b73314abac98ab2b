/- Any day's weekday, any new moon's moment, and that of any month of any year, are the document's: the walk of the law; every input. -/
import Derived.Test.YtiadghpepnpbgaaAwake45
set_option linter.unusedVariables false
set_option linter.unusedSimpArgs false
namespace Go.Proofs.Ytiadghpepnpbgaa.Walks
open Go Go.RowKit Go.Sort Go.Proofs.Ytiadghpepnpbgaa.Base Go.Proofs.Ytiadghpepnpbgaa.Plain Go.Proofs.Ytiadghpepnpbgaa.Math

set_option maxHeartbeats 4000000 in
theorem moladTells_w (d n y m : Int) (w : World) (w0 : (Lit.int .i64 d).wf = true) (w1 : (Lit.int .i64 n).wf = true) (w2 : (Lit.int .i64 y).wf = true) (w3 : (Lit.int .i64 m).wf = true) :
    Calls Try.prog 6 #[.agg #[.int .i64 d, .int .i64 n, .int .i64 y, .int .i64 m]] w fun e w' => e = .returned (.bool true) ∧ Gr w w' := by
  have b0 := bounds_i64 w0
  have l0 := b0.1
  have l1 := b0.2
  clear w0 w1 w2 w3 b0
  go_enter Try.func6, Try.ntmps6
  go_wp2
  go_quiet (fail)
  go_wp2_with (first | (go_at_call 26; (with_reducible refine (moon_c n _).mono ?_); rintro e wA ⟨rfl, hgwA⟩; obtain ⟨hclwA, hfzwA, hszwA⟩ := gcell hgwA; (try simp [Nat.add_one_le_iff] at hszwA); have hlwA_w : w.heap.size < wA.heap.size := (by omega)) | (go_at_call 27; (with_reducible refine (rmoon_c n _).mono ?_); rintro e wB ⟨rfl, hgwB⟩; obtain ⟨hclwB, hfzwB, hszwB⟩ := gcell hgwB; (try simp [Nat.add_one_le_iff] at hszwB); have hlwB_wA : wA.heap.size < wB.heap.size := (by omega)) | (go_at_call 28; (with_reducible refine (of_c y m _).mono ?_); rintro e wC ⟨rfl, hgwC⟩; obtain ⟨hclwC, hfzwC, hszwC⟩ := gcell hgwC; (try simp [Nat.add_one_le_iff] at hszwC); have hlwC_wA : wA.heap.size < wC.heap.size := (by omega); have hlwC_wB : wB.heap.size < wC.heap.size := (by omega)) | (go_at_call 29; (with_reducible refine (rof_c y m _).mono ?_); rintro e wD ⟨rfl, hgwD⟩; obtain ⟨hclwD, hfzwD, hszwD⟩ := gcell hgwD; (try simp [Nat.add_one_le_iff] at hszwD); have hlwD_wA : wA.heap.size < wD.heap.size := (by omega); have hlwD_wB : wB.heap.size < wD.heap.size := (by omega); have hlwD_wC : wC.heap.size < wD.heap.size := (by omega)) | (go_at_call 30; (with_reducible refine (awake04_c _).mono ?_); rintro e wE ⟨rfl, hgwE⟩; obtain ⟨hclwE, hfzwE, hszwE⟩ := gcell hgwE; (try simp [Nat.add_one_le_iff] at hszwE); have hlwE_wA : wA.heap.size < wE.heap.size := (by omega); have hlwE_wB : wB.heap.size < wE.heap.size := (by omega); have hlwE_wC : wC.heap.size < wE.heap.size := (by omega); have hlwE_wD : wD.heap.size < wE.heap.size := (by omega)) | (go_at_call 31; (with_reducible refine (wd_c d _ l0 l1).mono ?_); rintro e wF ⟨rfl, hgwF⟩; obtain ⟨hclwF, hfzwF, hszwF⟩ := gcell hgwF; (try simp [Nat.add_one_le_iff] at hszwF); have hlwF_wA : wA.heap.size < wF.heap.size := (by omega); have hlwF_wB : wB.heap.size < wF.heap.size := (by omega); have hlwF_wC : wC.heap.size < wF.heap.size := (by omega); have hlwF_wD : wD.heap.size < wF.heap.size := (by omega)) | (go_at_call 32; (with_reducible refine (rwd_c d _ l0 l1).mono ?_); rintro e wG ⟨rfl, hgwG⟩; obtain ⟨hclwG, hfzwG, hszwG⟩ := gcell hgwG; (try simp [Nat.add_one_le_iff] at hszwG); have hlwG_wA : wA.heap.size < wG.heap.size := (by omega); have hlwG_wB : wB.heap.size < wG.heap.size := (by omega); have hlwG_wC : wC.heap.size < wG.heap.size := (by omega); have hlwG_wD : wD.heap.size < wG.heap.size := (by omega)))
  go_ret
  exact ⟨rfl, (by repeat (first | exact Gr.refl _ | refine Gr.setCell ?_ _ _ (by first | exact Nat.le_refl _ | (simp; omega) | (simp; done)) | refine Gr.grown ?_ _ _ | refine Gr.drewN ?_ _ | refine Gr.drew ?_ | refine Gr.alloc ?_ _ | refine Gr.grow ?_ _ | (refine Gr.trans ?_ (by assumption))))⟩

end Go.Proofs.Ytiadghpepnpbgaa.Walks
