/- Sums and products are the same either way round, and of small numbers they are just these: the walk of the law; every input. -/
import Derived.Test.YtmeimicphadlpaaExactU
set_option linter.unusedVariables false
set_option linter.unusedSimpArgs false
namespace Go.Proofs.Ytmeimicphadlpaa.Walks
open Go Go.RowKit Go.Sort Go.Proofs.Ytmeimicphadlpaa.Base Go.Proofs.Ytmeimicphadlpaa.Plain

theorem add_uc (a b : Int) (w : World) (ha : fits a) (hb : fits b) :
    Calls Try.prog 28 #[.int .i64 b, .int .i64 a] w fun e w' => e = .returned (.tuple #[.int .i64 (okN (a + b)), .int .i64 (okE (a + b))]) ∧ Gr w w' := by
  rw [Int.add_comm]; exact add_u b a w hb ha
theorem mul_uc (a b : Int) (w : World) (ha : fits a) (hb : fits b) :
    Calls Try.prog 30 #[.int .i64 b, .int .i64 a] w fun e w' => e = .returned (.tuple #[.int .i64 (okN (a * b)), .int .i64 (okE (a * b))]) ∧ Gr w w' := by
  rw [Int.mul_comm]; exact mul_u b a w hb ha
theorem prod_small (a b : Int) (a0 : -1073741824 ≤ a) (a1 : a ≤ 1073741824) (b0 : -1073741824 ≤ b) (b1 : b ≤ 1073741824) : -1152921504606846976 ≤ a * b ∧ a * b ≤ 1152921504606846976 := by
  have h : (a * b).natAbs ≤ 1073741824 * 1073741824 := by rw [Int.natAbs_mul]; exact Nat.mul_le_mul (by omega) (by omega)
  omega

set_option maxHeartbeats 4000000 in
theorem exactTurned_w (a b : Int) (w : World) (wa : (Lit.int .i64 a).wf = true) (wb : (Lit.int .i64 b).wf = true) :
    Calls Try.prog 11 #[.int .i64 a, .int .i64 b] w fun e w' => e = .returned (.bool true) ∧ Gr w w' := by
  have ha := fits_wf wa
  have hb := fits_wf wb
  clear wa wb
  by_cases hs : -1073741824 ≤ a ∧ a ≤ 1073741824 ∧ -1073741824 ≤ b ∧ b ≤ 1073741824
  · obtain ⟨a0, a1, b0, b1⟩ := hs
    have p := prod_small a b a0 a1 b0 b1
    have p0 := p.1
    have p1 := p.2
    clear p
    have e1 : okN (a + b) = a + b := okN_of ⟨by omega, by omega⟩
    have e2 : okE (a + b) = 0 := okE_of ⟨by omega, by omega⟩
    have e3 : okN (a * b) = a * b := okN_of ⟨by omega, by omega⟩
    have e4 : okE (a * b) = 0 := okE_of ⟨by omega, by omega⟩
    go_enter Try.func11, Try.ntmps11
    go_wp2_with (first | (go_at_call 28; (with_reducible refine (add_u a b _ ha hb).mono ?_); rintro e w1 ⟨rfl, hg⟩) | (go_at_call 28; (with_reducible refine (add_uc a b _ ha hb).mono ?_); rintro e w1 ⟨rfl, hg⟩) | (go_at_call 30; (with_reducible refine (mul_u a b _ ha hb).mono ?_); rintro e w1 ⟨rfl, hg⟩) | (go_at_call 30; (with_reducible refine (mul_uc a b _ ha hb).mono ?_); rintro e w1 ⟨rfl, hg⟩) | (go_at_call 36; (with_reducible refine (awake01_c _).mono ?_); rintro e w1 ⟨rfl, hg⟩))
    go_ret
    exact ⟨rfl, (by repeat (first | exact Gr.refl _ | refine Gr.grown ?_ _ _ | refine Gr.drewN ?_ _ | refine Gr.drew ?_ | refine Gr.alloc ?_ _ | refine Gr.grow ?_ _ | (refine Gr.trans ?_ (by assumption))))⟩
  · by_cases a0 : -1073741824 ≤ a
    · by_cases a1 : a ≤ 1073741824
      · by_cases b0 : -1073741824 ≤ b
        · have b1 : ¬ b ≤ 1073741824 := fun h => hs ⟨a0, a1, b0, h⟩
          clear hs
          go_enter Try.func11, Try.ntmps11
          go_wp2_with (first | (go_at_call 28; (with_reducible refine (add_u a b _ ha hb).mono ?_); rintro e w1 ⟨rfl, hg⟩) | (go_at_call 28; (with_reducible refine (add_uc a b _ ha hb).mono ?_); rintro e w1 ⟨rfl, hg⟩) | (go_at_call 30; (with_reducible refine (mul_u a b _ ha hb).mono ?_); rintro e w1 ⟨rfl, hg⟩) | (go_at_call 30; (with_reducible refine (mul_uc a b _ ha hb).mono ?_); rintro e w1 ⟨rfl, hg⟩) | (go_at_call 36; (with_reducible refine (awake01_c _).mono ?_); rintro e w1 ⟨rfl, hg⟩))
          go_ret
          exact ⟨rfl, (by repeat (first | exact Gr.refl _ | refine Gr.grown ?_ _ _ | refine Gr.drewN ?_ _ | refine Gr.drew ?_ | refine Gr.alloc ?_ _ | refine Gr.grow ?_ _ | (refine Gr.trans ?_ (by assumption))))⟩
        · clear hs
          go_enter Try.func11, Try.ntmps11
          go_wp2_with (first | (go_at_call 28; (with_reducible refine (add_u a b _ ha hb).mono ?_); rintro e w1 ⟨rfl, hg⟩) | (go_at_call 28; (with_reducible refine (add_uc a b _ ha hb).mono ?_); rintro e w1 ⟨rfl, hg⟩) | (go_at_call 30; (with_reducible refine (mul_u a b _ ha hb).mono ?_); rintro e w1 ⟨rfl, hg⟩) | (go_at_call 30; (with_reducible refine (mul_uc a b _ ha hb).mono ?_); rintro e w1 ⟨rfl, hg⟩) | (go_at_call 36; (with_reducible refine (awake01_c _).mono ?_); rintro e w1 ⟨rfl, hg⟩))
          go_ret
          exact ⟨rfl, (by repeat (first | exact Gr.refl _ | refine Gr.grown ?_ _ _ | refine Gr.drewN ?_ _ | refine Gr.drew ?_ | refine Gr.alloc ?_ _ | refine Gr.grow ?_ _ | (refine Gr.trans ?_ (by assumption))))⟩
      · clear hs
        go_enter Try.func11, Try.ntmps11
        go_wp2_with (first | (go_at_call 28; (with_reducible refine (add_u a b _ ha hb).mono ?_); rintro e w1 ⟨rfl, hg⟩) | (go_at_call 28; (with_reducible refine (add_uc a b _ ha hb).mono ?_); rintro e w1 ⟨rfl, hg⟩) | (go_at_call 30; (with_reducible refine (mul_u a b _ ha hb).mono ?_); rintro e w1 ⟨rfl, hg⟩) | (go_at_call 30; (with_reducible refine (mul_uc a b _ ha hb).mono ?_); rintro e w1 ⟨rfl, hg⟩) | (go_at_call 36; (with_reducible refine (awake01_c _).mono ?_); rintro e w1 ⟨rfl, hg⟩))
        go_ret
        exact ⟨rfl, (by repeat (first | exact Gr.refl _ | refine Gr.grown ?_ _ _ | refine Gr.drewN ?_ _ | refine Gr.drew ?_ | refine Gr.alloc ?_ _ | refine Gr.grow ?_ _ | (refine Gr.trans ?_ (by assumption))))⟩
    · clear hs
      go_enter Try.func11, Try.ntmps11
      go_wp2_with (first | (go_at_call 28; (with_reducible refine (add_u a b _ ha hb).mono ?_); rintro e w1 ⟨rfl, hg⟩) | (go_at_call 28; (with_reducible refine (add_uc a b _ ha hb).mono ?_); rintro e w1 ⟨rfl, hg⟩) | (go_at_call 30; (with_reducible refine (mul_u a b _ ha hb).mono ?_); rintro e w1 ⟨rfl, hg⟩) | (go_at_call 30; (with_reducible refine (mul_uc a b _ ha hb).mono ?_); rintro e w1 ⟨rfl, hg⟩) | (go_at_call 36; (with_reducible refine (awake01_c _).mono ?_); rintro e w1 ⟨rfl, hg⟩))
      go_ret
      exact ⟨rfl, (by repeat (first | exact Gr.refl _ | refine Gr.grown ?_ _ _ | refine Gr.drewN ?_ _ | refine Gr.drew ?_ | refine Gr.alloc ?_ _ | refine Gr.grow ?_ _ | (refine Gr.trans ?_ (by assumption))))⟩

end Go.Proofs.Ytmeimicphadlpaa.Walks
