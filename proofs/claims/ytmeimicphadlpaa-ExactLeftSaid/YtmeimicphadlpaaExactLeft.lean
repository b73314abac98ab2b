/- What is left is from 0 to below the divisor, and the quotient times that and what is left are the number: the walk of the law; every input. -/
import Derived.Test.YtmeimicphadlpaaExactU
set_option linter.unusedVariables false
set_option linter.unusedSimpArgs false
namespace Go.Proofs.Ytmeimicphadlpaa.Walks
open Go Go.RowKit Go.Sort Go.Proofs.Ytmeimicphadlpaa.Base Go.Proofs.Ytmeimicphadlpaa.Plain

theorem div_v (a b q : Int) (w : World) (hb : 0 < b) (ha : fits a) (hb1 : fits b) (h : a / b = q) :
    Calls Try.prog 32 #[.int .i64 a, .int .i64 b] w fun e w' => e = .returned (.tuple #[.int .i64 q, .int .i64 0]) ∧ Gr w w' := by
  subst h; exact div_c a b w hb ha.1 ha.2 hb1.2
theorem mod_v (a b r : Int) (w : World) (hb : 0 < b) (ha : fits a) (hb1 : fits b) (h : a % b = r) :
    Calls Try.prog 34 #[.int .i64 a, .int .i64 b] w fun e w' => e = .returned (.tuple #[.int .i64 r, .int .i64 0]) ∧ Gr w w' := by
  subst h; exact mod_c a b w hb ha.1 ha.2 hb1.2

set_option maxHeartbeats 1000000 in
theorem exactLeft_w (a b : Int) (w : World) (wa : (Lit.int .i64 a).wf = true) (wb : (Lit.int .i64 b).wf = true) :
    Calls Try.prog 10 #[.int .i64 a, .int .i64 b] w fun e w' => e = .returned (.bool true) ∧ Gr w w' := by
  have ha := fits_wf wa
  have hb := fits_wf wb
  clear wa wb
  by_cases h : 0 < b
  · obtain ⟨q, hq⟩ : ∃ q, a / b = q := ⟨_, rfl⟩
    obtain ⟨r, hr⟩ : ∃ r, a % b = r := ⟨_, rfl⟩
    have e0 : q * b + r = a := by rw [← hq, ← hr, Int.mul_comm]; exact Int.mul_ediv_add_emod a b
    have e1 : (wrap64 (wrap64 (q * b) + r) == a) = true := beq_iff_eq.2 (by have := ha.1; have := ha.2; generalize q * b = z at *; unfold wrap64; omega)
    have r0 : 0 ≤ r := by rw [← hr]; exact Int.emod_nonneg a (by omega)
    have r1 : r < b := by rw [← hr]; exact Int.emod_lt_of_pos a h
    have HQ := Lib.hid hq
    have HR := Lib.hid hr
    have l := ha.1
    have u := ha.2
    have l2 := hb.1
    have u2 := hb.2
    clear hq hr e0
    go_enter Try.func10, Try.ntmps10
    go_wp2_with (first | (go_at_call 32; (with_reducible refine (div_v a b q _ h ha hb HQ.out).mono ?_); rintro e w1 ⟨rfl, hg⟩) | (go_at_call 34; (with_reducible refine (mod_v a b r _ h ha hb HR.out).mono ?_); rintro e w1 ⟨rfl, hg⟩) | (go_at_call 36; (with_reducible refine (awake01_c _).mono ?_); rintro e w1 ⟨rfl, hg⟩))
    go_ret
    exact ⟨rfl, (by repeat (first | exact Gr.refl _ | refine Gr.grown ?_ _ _ | refine Gr.drewN ?_ _ | refine Gr.drew ?_ | refine Gr.alloc ?_ _ | refine Gr.grow ?_ _ | (refine Gr.trans ?_ (by assumption))))⟩
  · go_enter Try.func10, Try.ntmps10
    go_wp2_with (first | (go_at_call 32; (with_reducible refine (div_no a b _ (by omega)).mono ?_); rintro e w1 ⟨rfl, hg⟩) | (go_at_call 34; (with_reducible refine (mod_no a b _ (by omega)).mono ?_); rintro e w1 ⟨rfl, hg⟩) | (go_at_call 36; (with_reducible refine (awake01_c _).mono ?_); rintro e w1 ⟨rfl, hg⟩))
    go_ret
    exact ⟨rfl, (by repeat (first | exact Gr.refl _ | refine Gr.grown ?_ _ _ | refine Gr.drewN ?_ _ | refine Gr.drew ?_ | refine Gr.alloc ?_ _ | refine Gr.grow ?_ _ | (refine Gr.trans ?_ (by assumption))))⟩

end Go.Proofs.Ytmeimicphadlpaa.Walks
